/-
 Plain law: the program's check of a term and the document's answer alike.
 Plain law: the program's data and the document's are right alike.
 Contracts: the program's check of programs.
 Plain law: the program's check of programs and the document's answer alike.
 Plain law: what a check says of a program, and how it leans on the number of constants.
 Contracts: package slices: Grow, Concat, Index, Contains, of numbers.
 Contracts: all terms of a term, one by one.
 Contracts: how many terms.
 Contracts: what is sorted already: one number.
 Contracts: what is named and not bound: one variable.
 Plain laws: what a term names, binds; how deep it lies.
 Plain law: a core datum's term: its variables in order; more names bound, fewer lost.
 Plain law: how great what a core datum comes to is.
 Plain law: what a core datum's parts are.
 Contracts: has a name a mark?
 Contracts: the document's expander at a few forms alone: names, calls, lambda, letrec*, bodies of one datum.
 Contracts: the document's maker of terms: names, lists.
 Drawn regions with two effects that no order binds to one another: both orders are walked.
 Drawn regions with a read that no order binds to two effects: it is walked at each place.
 Drawn regions whose effects may come in several orders: a tree of what may come next.
 Contracts: the document's maker of terms: binding.
 Contracts: the document's maker of terms: lists, recursive bindings.
 Contracts: the document's maker of terms: recursive bindings.
 Contracts: primitives' facts, of the document.
 Contracts: primitives' facts and numbers, of the document.
 Contracts: the document's maker of terms: terms.
-/
import Derived.Test.YtamlcgkjinbnlaaGreatDoorE4
set_option linter.unusedSimpArgs false
set_option linter.unusedVariables false
namespace Go.Cb
open Go.Proofs
set_option maxRecDepth 100000
set_option maxHeartbeats 4000000
def gW (l bound:List Int):Prop:=(∀ x∈l,0≤x∧x≤1000000∧x∉bound)∧l.Nodup
theorem gW.perm {l m b:List Int} (h:l.Perm m):gW l b↔gW m b:=by
 unfold gW;rw[h.nodup_iff];simp only[h.mem_iff]
theorem gW.append {l m b c:List Int} (h: ∀ x,x∈c↔x∈b∨x∈l):gW (l++m) b↔gW l b∧gW m c:=by
 unfold gW;simp only[List.mem_append,List.nodup_append,h];constructor
 ·rintro ⟨h1,h2,h3,h4⟩
  exact ⟨⟨fun x hx=>h1 x (.inl hx),h2⟩,fun x hx=>⟨(h1 x (.inr hx)).1,(h1 x (.inr hx)).2.1,by rintro (h | h);exact (h1 x (.inr hx)).2.2 h;exact h4 x h x hx rfl⟩,h3⟩
 ·rintro ⟨⟨h1,h2⟩,h3,h4⟩
  refine ⟨?_,h2,h4,?_⟩
  ·rintro x (hx | hx)
   ·exact h1 x hx
   ·exact ⟨(h3 x hx).1,(h3 x hx).2.1,fun h=>(h3 x hx).2.2 (.inl h)⟩
  ·rintro x hx y hy rfl
   exact (h3 x hy).2.2 (.inr hx)
def Sp (r:Option (Int×List Int)) (c:Prop) (n:Int) (V:List Int) (size:Int) (bound:List Int):Prop:=
 (r=none∧ ¬(c∧size + n≤20000∧gW V bound))∨(∃ b,r=some (size + n,b)∧(c∧size + n≤20000∧gW V bound)∧ ∀ x,x∈b↔x∈bound∨x∈V)
theorem Sp.vU {r c n V size bound} (h:Sp r c n V size bound):r.isSome=true↔(c∧size + n≤20000∧gW V bound):=by
 rcases h with ⟨rfl,h⟩ | ⟨b,rfl,h,_⟩
 ·simpa using h
 ·simpa using h
theorem Sp.iff {r c c' n V size bound} (h:Sp r c n V size bound) (hc:c↔c'):Sp r c' n V size bound:=by
 unfold Sp at h ⊢; rwa [hc] at h
theorem Sp.perm {r c n V W size bound} (h:Sp r c n V size bound) (hp:V.Perm W):Sp r c n W size bound:=by
 unfold Sp at h ⊢; simpa only[gW.perm hp,hp.mem_iff] using h
theorem Sp.nil {size:Int} {bound:List Int} (h:size≤20000):Sp (some (size,bound)) True 0 [] size bound:=
 .inr ⟨bound,by simp,⟨trivial,by omega,by simp[gW]⟩,by simp⟩
theorem Sp.test {r c n V size bound} {p:Prop} [Decidable p] (h: ¬p→Sp r c n V size bound):Sp (if p then none else r) (¬p∧c) n V size bound:=by
 by_cases hp:p
 ·rw[if_pos hp];exact .inl ⟨rfl,fun h=>h.1.1 hp⟩
 ·rw[if_neg hp];exact (h hp).iff (by simp[hp])
theorem Sp.seq {r1:Option (Int×List Int)} {f:Int→List Int→Option (Int×List Int)} {c1 c2:Prop} {n1 n2:Int} {V1 V2:List Int} {size:Int} {bound:List Int} (h1:Sp r1 c1 n1 V1 size bound) (hn:0≤n2)
  (h2: ∀ b,size + n1≤20000→Sp (f (size + n1) b) c2 n2 V2 (size + n1) b):Sp (match (generalizing:=false) r1 with | none=>none | some (s,b)=>f s b) (c1∧c2) (n1 + n2) (V1++V2) size bound:=by
 rcases h1 with ⟨rfl,h⟩ | ⟨b,rfl,⟨k1,k2,k3⟩,hb⟩
 ·exact .inl ⟨rfl,fun ⟨⟨g1,g2⟩,g3,g4⟩=>h ⟨g1,by omega,((gW.append (c:=bound++V1) (by simp)).1 g4).1⟩⟩
 ·rcases h2 b k2 with ⟨e,h⟩ | ⟨b',e,⟨g1,g2,g3⟩,hb'⟩
  ·exact .inl ⟨e,fun ⟨⟨g1,g2⟩,g3,g4⟩=>h ⟨g2,by omega,((gW.append hb).1 g4).2⟩⟩
  ·exact .inr ⟨b',by rw[←Int.add_assoc];exact e,⟨⟨k1,g1⟩,by omega,(gW.append hb).2 ⟨k3,g3⟩⟩,fun x=>by rw[hb',hb,List.mem_append,or_assoc]⟩
theorem oB: ∀ (l bound:List Int),(bq l bound).1=true↔gW l bound
 | [],bound=>by simp[bq,gW]
 | v::l,bound=>by
  rw[bq]
  split
  ·rename_i hv
   rw[oB l,show v::l= [v]++l from rfl,gW.append (l:= [v]) (c:=bound++ [v]) (by simp)];simp[J7] at hv;simp[gW];intro _ _;exact ⟨by omega,by omega,hv.2⟩
  ·rename_i hv
   simp only[Bool.false_eq_true,false_iff];rintro ⟨h,_⟩;have:=h v (by simp);apply hv;simp[J7];exact ⟨by omega,this.2.2⟩
theorem wZ: ∀ (l bound:List Int),(bq l bound).1=true→(bq l bound).2=bound++l
 | [],bound,_=>by simp[bq]
 | v::l,bound,h=>by
  rw[bq] at h⊢
  split at h
  ·rename_i hv
   rw[if_pos hv,wZ l _ h];simp
  ·cases h
theorem Sp.bind {v bound:List Int} {size:Int} {r:Option (Int×List Int)} {c:Prop} {n:Int} {V:List Int} (h:(bq v bound).1=true→Sp r c n V size (bound++v)):Sp (if (bq v bound).1=true then r else none) c n (v++V) size bound:=by
 have ha:gW (v++V) bound↔gW v bound∧gW V (bound++v):=gW.append (by simp);by_cases hb:(bq v bound).1=true
 ·have hd:=(oB _ _).1 hb
  rw[if_pos hb]
  rcases h hb with ⟨rfl,hh⟩ | ⟨b,rfl,⟨k1,k2,k3⟩,hm⟩
  ·exact .inl ⟨rfl,fun ⟨g1,g2,g3⟩=>hh ⟨g1,g2,(ha.1 g3).2⟩⟩
  ·exact .inr ⟨b,rfl,⟨k1,k2,ha.2 ⟨hd,k3⟩⟩,fun x=>by rw[hm,List.mem_append,List.mem_append,or_assoc]⟩
 ·rw[if_neg hb]
  exact .inl ⟨rfl,fun ⟨_,_,g3⟩=>hb ((oB _ _).2 (ha.1 g3).1)⟩
theorem Sp.tick {r c n V size bound} (hn:0≤n) (h:size + 1≤20000→Sp r c n V (size + 1) bound):Sp (if size + 1 > 20000 then none else r) c (1 + n) V size bound:=by
 split
 ·exact .inl ⟨rfl,fun ⟨_,h,_⟩=>by omega⟩
 ·rcases h (by omega) with ⟨rfl,hh⟩ | ⟨b,rfl,k,hm⟩
  ·exact .inl ⟨rfl,fun ⟨g1,g2,g3⟩=>hh ⟨g1,by omega,g3⟩⟩
  ·exact .inr ⟨b,by rw[←Int.add_assoc],⟨k.1,by omega,k.2.2⟩,hm⟩
mutual
def aa.cnt:aa→Int
 | .mk _ _ _ t=>1 + aa.cW t
def aa.cW:List aa→Int
 | []=>0
 | x::xs=>aa.cnt x + aa.cW xs
end
mutual
def aa.vars:aa→List Int
 | .mk _ _ v t=>v++aa.dW t
def aa.dW:List aa→List Int
 | []=> []
 | x::xs=>aa.vars x++aa.dW xs
end
theorem aa.ju (t:aa):t.cnt=1 + aa.cW t.t:=by cases t;rfl
theorem aa.mh (t:aa):t.vars=t.v++aa.dW t.t:=by cases t;rfl
theorem aa.pK (t:aa):1≤t.cnt:=by
 induction t using aa.ind with
 | h t ih=>
  rw[aa.ju]
  have: ∀ l:List aa,(∀ x∈l,1≤x.cnt)→0≤aa.cW l:=by
   intro l
   induction l with
   | nil=>intro _;rw[aa.cW];omega
   | cons y l ih=>intro h;rw[aa.cW];have:=h y (by simp);have:=ih fun x hx=>h x (by simp[hx]);omega
  have:=this t.t ih;omega
theorem aa.eO: ∀ l:List aa,0≤aa.cW l
 | []=>by rw[aa.cW];omega
 | x::l=>by rw[aa.cW];have:=x.pK;have:=aa.eO l;omega
mutual
def aa.qt (level consts codes:Int) (free:Bool):aa→List Int→Int→Prop
 | .mk op n v t,scope,deep=>(deep≤400∧dR op level=true∧cX (.mk op n v t)=true∧bM consts codes free (.mk op n v t) scope=true)∧aa.fy level consts codes free op scope (scope++v) t (deep + 1)
def aa.fy (level consts codes:Int) (free:Bool) (op:Int) (scope inner:List Int):List aa→Int→Prop
 | [],_=>True
 | x::xs,deep=>(¬(op=9∧xs≠ []∧x.op≠oY level))∧aa.qt level consts codes free x (if xs= []∨op=7∨op=9 then inner else scope) deep∧aa.fy level consts codes free op scope inner xs deep
end
theorem aa.kF (level consts codes:Int) (free:Bool) (t:aa) (scope:List Int) (deep:Int):t.qt level consts codes free scope deep↔
  (deep≤400∧dR t.op level=true∧cX t=true∧bM consts codes free t scope=true)∧aa.fy level consts codes free t.op scope (scope++t.v) t.t (deep + 1):=by cases t;rw[aa.qt];rfl
theorem aa.HF (level consts codes:Int) (free:Bool) (t:aa): ∀ (scope:List Int) (deep size:Int) (bound:List Int),Sp (t.Cm level consts codes free scope deep size bound) (t.qt level consts codes free scope deep) t.cnt t.vars size bound:=by
 induction t using aa.ind with
 | h t ih=>
  intro scope deep size bound
  have key: ∀ l:List aa,(∀ y∈l, ∀ (scope:List Int) (deep size:Int) (bound:List Int),Sp (y.Cm level consts codes free scope deep size bound) (y.qt level consts codes free scope deep) y.cnt y.vars size bound)→
    ∀ (deep size:Int) (bound:List Int),size≤20000→Sp (aa.nY level consts codes free t.op scope (scope++t.v) l deep size bound) (aa.fy level consts codes free t.op scope (scope++t.v) l deep) (aa.cW l) (aa.dW l) size bound:=by
   intro l
   induction l with
   | nil=>intro _ deep size bound h;rw[aa.nY,aa.fy,aa.cW,aa.dW];exact Sp.nil h
   | cons x l ihl=>
    intro hy deep size bound h;rw[aa.nY,aa.fy,aa.cW,aa.dW];exact Sp.test fun _=>Sp.seq (hy x (by simp) _ _ _ _) (aa.eO l) fun b hb=>ihl (fun y hh=>hy y (by simp[hh])) _ _ _ hb
  rw[aa.CH,aa.ju,aa.mh,aa.kF]
  have h1:(if (decide (deep > 400) || decide (size + 1 > 20000) || !dR t.op level || !cX t || !bM consts codes free t scope)=true then none else
    if (bq t.v bound).1=true then aa.nY level consts codes free t.op scope (scope++t.v) t.t (deep + 1) (size + 1) (bq t.v bound).2 else none)=
    (if ¬(deep≤400∧dR t.op level=true∧cX t=true∧bM consts codes free t scope=true) then none else if size + 1 > 20000 then none else
    if (bq t.v bound).1=true then aa.nY level consts codes free t.op scope (scope++t.v) t.t (deep + 1) (size + 1) (bound++t.v) else none):=by
   by_cases a:deep≤400∧dR t.op level=true∧cX t=true∧bM consts codes free t scope=true
   ·rw[if_neg (c:= ¬ _) (by simpa using a)]
    by_cases b:size + 1 > 20000
    ·rw[if_pos b,if_pos (by simp[b])]
    ·rw[if_neg b,if_neg (by simp[a];omega)]
     split
     ·rename_i hb;rw[wZ _ _ hb]
     ·rfl
   ·rw[if_pos (c:= ¬ _) a,if_pos]
    simp only[Bool.or_eq_true,decide_eq_true_eq,Bool.not_eq_true'];apply Classical.byContradiction;intro h;apply a;simp only[not_or,Bool.not_eq_false] at h;exact ⟨by omega,h.1.1.2,h.1.2,h.2⟩
  rw[h1];refine (Sp.test fun _=>Sp.tick (aa.eO _) fun hs=>Sp.bind fun _=>key t.t ih _ _ _ hs).iff ?_;rw[Classical.not_not]
theorem Dn (consts codes:Int) (free:Bool) (t:aa) (scope:List Int):ke consts codes free t scope=bM consts codes free t scope:=by
 unfold ke bM
 split;rfl
 split;rfl
 split
 ·rw[Bool.eq_iff_iff];simp;omega
 ·rfl
theorem JK (level:Int) (h0:0≤level) (h3:level≤3) (t:aa):
  ((cG t.op).2=true∧(cG t.op).1.fm≤level∧level≤(cG t.op).1.to∧mL (cG t.op).1 t=true)↔(dR t.op level=true∧cX t=true):=by
 have hc:t.op < 0∨t.op > 22∨t.op=0∨t.op=1∨t.op=2∨t.op=3∨t.op=4∨t.op=5∨t.op=6∨t.op=7∨t.op=8∨t.op=9∨t.op=10∨t.op=11∨t.op=12∨t.op=13∨t.op=14∨t.op=15∨t.op=16∨t.op=17∨t.op=18∨t.op=19∨t.op=20∨t.op=21∨t.op=22:=by omega
 rcases hc with h | h | h | h | h | h | h | h | h | h | h | h | h | h | h | h | h | h | h | h | h | h | h | h | h
 ·have e:cG t.op=(⟨0,0,0,false,false⟩,false):=by unfold cG;repeat rw[if_neg (by omega)]
  have e2:dR t.op level=false:=by unfold dR;repeat rw[if_neg (by omega)]
  simp[e,e2]
 ·have e:cG t.op=(⟨0,0,0,false,false⟩,false):=by unfold cG;repeat rw[if_neg (by omega)]
  have e2:dR t.op level=false:=by unfold dR;repeat rw[if_neg (by omega)]
  simp[e,e2]
 all_goals
  simp[cG,dR,cX,mL,yw,h]
  try (first | omega | (simp only[←List.length_eq_zero_iff];omega))
def aa.Ll (level consts codes:Int) (free:Bool) (inner:List Int):List aa→Int→Prop
 | [],_=>True
 | x::xs,deep=>aa.qt level consts codes free x inner deep∧aa.Ll level consts codes free inner xs deep
theorem aa.IY {level consts codes:Int} {free:Bool} {op:Int} (hop:op=7∨op=9) (scope inner:List Int) (deep:Int): ∀ l:List aa,aa.fy level consts codes free op scope inner l deep↔(¬((op == 9 && !iT level l.dropLast)=true)∧aa.Ll level consts codes free inner l deep)
 | []=>by simp[aa.fy,aa.Ll,iT]
 | [x]=>by
  rw[aa.fy,aa.Ll,if_pos (.inl rfl)];simp[aa.fy,aa.Ll,iT]
 | x::y::l=>by
  rw[aa.fy,aa.Ll,if_pos (.inr hop),aa.IY hop scope inner deep (y::l)]
  have e:(op == 9 && !iT level (x::y::l).dropLast)=true↔(op=9∧x.op≠oY level)∨(op == 9 && !iT level (y::l).dropLast)=true:=by
   rw[show (x::y::l).dropLast=x::(y::l).dropLast from rfl];simp only[iT,oY,Bool.and_eq_true,beq_iff_eq,List.any_cons,Bool.not_not,Bool.or_eq_true,bne_iff_ne];constructor
   ·rintro ⟨h1,h2 | h2⟩
    ·exact .inl ⟨h1,h2⟩
    ·exact .inr ⟨h1,h2⟩
   ·rintro (⟨h1,h2⟩ | ⟨h1,h2⟩)
    ·exact ⟨h1,.inl h2⟩
    ·exact ⟨h1,.inr h2⟩
  rw[e];constructor
  ·rintro ⟨h1,h2,h3,h4⟩
   exact ⟨fun h=>h.elim (fun h=>h1 ⟨h.1,by simp,h.2⟩) h3,h2,h4⟩
  ·rintro ⟨h1,h2,h4⟩
   exact ⟨fun h=>h1 (.inl ⟨h.1,h.2.2⟩),h2,fun h=>h1 (.inr h),h4⟩
theorem aa.MO (level consts codes:Int) (free:Bool) (h0:0≤level) (h3:level≤3) (t:aa): ∀ (scope:List Int) (deep size:Int) (bound:List Int),Sp (t.rP level consts codes free scope deep size bound) (t.qt level consts codes free scope deep) t.cnt t.vars size bound:=by
 induction t using aa.ind with
 | h t ih=>
  intro scope deep size bound
  have keyG: ∀ l:List aa,(∀ y∈l, ∀ (scope:List Int) (deep size:Int) (bound:List Int),Sp (y.rP level consts codes free scope deep size bound) (y.qt level consts codes free scope deep) y.cnt y.vars size bound)→
    ∀ (inner:List Int) (deep size:Int) (bound:List Int),size≤20000→Sp (aa.kB level consts codes free inner l deep size bound) (aa.Ll level consts codes free inner l deep) (aa.cW l) (aa.dW l) size bound:=by
   intro l
   induction l with
   | nil=>intro _ inner deep size bound h;rw[aa.kB,aa.Ll,aa.cW,aa.dW];exact Sp.nil h
   | cons x l ihl=>
    intro hy inner deep size bound h;rw[aa.kB,aa.Ll,aa.cW,aa.dW];exact Sp.seq (hy x (by simp) _ _ _ _) (aa.eO l) fun b hb=>ihl (fun y hh=>hy y (by simp[hh])) _ _ _ _ hb
  have keyI:t.op≠7→t.op≠9→ ∀ l:List aa,(∀ y∈l, ∀ (scope:List Int) (deep size:Int) (bound:List Int),Sp (y.rP level consts codes free scope deep size bound) (y.qt level consts codes free scope deep) y.cnt y.vars size bound)→
    ∀ (deep size:Int) (bound:List Int),size≤20000→Sp (aa.pH level consts codes free scope t.v l deep size bound) (aa.fy level consts codes free t.op scope (scope++t.v) l deep) (aa.cW l) (t.v++aa.dW l) size bound:=by
   intro h7 h9 l
   induction l with
   | nil=>intro _ deep size bound h;rw[aa.pH,aa.fy,aa.cW,aa.dW];exact Sp.bind fun _=>Sp.nil h
   | cons x l ihl=>
    intro hy deep size bound h;rw[aa.pH,aa.fy,aa.cW,aa.dW]
    cases l with
    | nil=>
     rw[if_pos (show ([]:List aa).isEmpty=true from rfl),if_pos (show ([]:List aa)= []∨t.op=7∨t.op=9 from .inl rfl),aa.cW,aa.dW,List.append_nil,Int.add_zero];exact (Sp.bind fun _=>hy x (by simp) _ _ _ _).iff (by simp[h9,aa.fy])
    | cons y l=>
     rw[if_neg (show ¬((y::l).isEmpty=true) by simp),if_neg (show ¬((y::l)= []∨t.op=7∨t.op=9) by simp[h7,h9])];refine ((Sp.seq (hy x (by simp) _ _ _ _) (aa.eO (y::l)) fun b hb=>ihl (fun y hh=>hy y (by simp[hh])) _ _ _ hb).iff (by simp[h9])).perm ?_;rw[←List.append_assoc, ←List.append_assoc];exact List.perm_append_comm.append_right _
  rw[aa.CI,aa.ju,aa.mh,aa.kF];have hsh:=JK level h0 h3 t
  have hloc:(deep≤400∧dR t.op level=true∧cX t=true∧bM consts codes free t scope=true)↔(deep≤400∧((cG t.op).2=true∧(cG t.op).1.fm≤level∧level≤(cG t.op).1.to∧mL (cG t.op).1 t=true)∧ke consts codes free t scope=true):=by
   rw[hsh,Dn,and_assoc]
  have hb: ∀ r:Option (Int×List Int),(if yu level consts codes free t scope deep (size + 1)=true then none else r)=
    (if ¬(deep≤400∧dR t.op level=true∧cX t=true∧bM consts codes free t scope=true) then none else if size + 1 > 20000 then none else r):=by
   intro r;by_cases a:deep≤400∧dR t.op level=true∧cX t=true∧bM consts codes free t scope=true
   ·rw[if_neg (c:= ¬ _) (by simpa using a)]
    have a':=hloc.1 a;by_cases b:size + 1 > 20000
    ·rw[if_pos b,if_pos (by simp[yu,b])]
    ·rw[if_neg b,if_neg (by simp[yu,a'];omega)]
   ·rw[if_pos (c:= ¬ _) a,if_pos]
    simp only[yu,Bool.or_eq_true,decide_eq_true_eq,Bool.not_eq_true'];apply Classical.byContradiction;intro h;apply a;rw[hloc];simp only[not_or,Bool.not_eq_false] at h;exact ⟨by omega,⟨h.1.1.1.1.1.1,by omega,by omega,h.1.2⟩,h.2⟩
  rw[hb];by_cases hg:fu t.op=true
  ·have hop:t.op=7∨t.op=9:=by simpa[fu] using hg
   rw[if_pos hg];refine (Sp.test fun _=>Sp.tick (aa.eO _) fun hs=>Sp.test fun _=>Sp.bind fun _=>keyG t.t ih _ _ _ _ hs).iff ?_;rw[Classical.not_not,aa.IY hop]
  ·have hop:t.op≠7∧t.op≠9:=by simpa[fu] using hg
   rw[if_neg hg];refine (Sp.test fun _=>Sp.tick (aa.eO _) fun hs=>keyI hop.1 hop.2 t.t ih _ _ _ hs).iff ?_;rw[Classical.not_not]
theorem OM (level consts codes:Int) (free:Bool) (h0:0≤level) (h3:level≤3) (t:aa) (scope:List Int) (deep size:Int) (bound:List Int):
  (t.rP level consts codes free scope deep size bound).isSome=(t.Cm level consts codes free scope deep size bound).isSome:=by
 rw[Bool.eq_iff_iff,(t.MO level consts codes free h0 h3 scope deep size bound).vU,(t.HF level consts codes free scope deep size bound).vU]
theorem uK {a:List UInt8} (r:List UInt8) (h:a.all dO=true):gR (a++r)=a.length + gR r:=by
 induction a with
 | nil=>simp
 | cons c a ih=>
  simp only[List.all_cons,Bool.and_eq_true] at h;rw[List.cons_append,gR,if_pos h.1,ih h.2,List.length_cons];omega
theorem uL {a:List UInt8} (r:List UInt8) (h:a.all dO=false): ∃ c,a[gR (a++r)]?=some c∧dO c=false∧gR (a++r) < a.length:=by
 induction a with
 | nil=>simp at h
 | cons c a ih=>
  rw[List.cons_append,gR];by_cases hc:dO c=true
  ·rw[List.all_cons,hc,Bool.true_and] at h
   obtain ⟨x,h1,h2,h3⟩:=ih h;rw[if_pos hc];exact ⟨x,by simpa using h1,h2,by simp;exact h3⟩
  ·rw[if_neg hc]
   exact ⟨c,by simp,by simpa using hc,by simp⟩
theorem jj (a:List UInt8):gT a=true↔((bK a).2≠0∧(bK a).2=a.length):=by
 unfold gT bK;cases h:a.all dO
 ·obtain ⟨c,h1,h2,h3⟩:=uL [] h
  rw[List.append_nil] at h3;simp only[Bool.and_false,Bool.false_eq_true,false_iff]
  split
  ·simp
  ·rintro ⟨_,h⟩;simp only at h;omega
 ·have hd:=uK [] h
  rw[List.append_nil] at hd;simp only[gR] at hd;simp only[Bool.and_true,Bool.and_eq_true,decide_eq_true_eq]
  split
  ·simp;omega
  ·simp;omega
theorem xM {a:List UInt8} (h:gT a=true):iR a=(bK a).1:=by
 have h2:=(jj a).1 h;unfold iR;rw[if_pos h];unfold bK at h2⊢
 split at h2
 ·simp at h2
 ·rename_i hd
  rw[if_neg hd];simp only at h2;rw[h2.2,List.take_length]
theorem Fs (u:List UInt8):(Go.Lib.indexByte u 47 < 0∧sC u 47=u∧(47:UInt8)∉u)∨(∃ a b,u=a++47::b∧0≤Go.Lib.indexByte u 47∧sC u 47=a∧yP u 47=b∧(47:UInt8)∉a):=by
 induction u with
 | nil=>left;simp[Go.Lib.indexByte,sC]
 | cons c u ih=>
  by_cases h:c=47
  ·subst h
   right;have e:Go.Lib.indexByte (47::u) 47=0:=by simp[Go.Lib.indexByte]
   exact ⟨[],u,rfl,by omega,by simp[sC,e],by simp[yP,e],by simp⟩
  ·have h1:(c == 47)=false:=by simp[h]
   rcases ih with ⟨h2,h3,h4⟩ | ⟨a,b,rfl,h2,h3,h4,h5⟩
   ·have e:Go.Lib.indexByte (c::u) 47= -1:=by have:=Go.Lib.indexByte_ge u 47;rw[Go.Lib.indexByte,h1];simp;omega
    exact .inl ⟨by omega,by simp[sC,e],by simp;exact ⟨fun e=>h e.symm,h4⟩⟩
   ·have e:Go.Lib.indexByte (c::(a++47::b)) 47=Go.Lib.indexByte (a++47::b) 47 + 1:=by rw[Go.Lib.indexByte,h1];simp;omega
    refine .inr ⟨c::a,b,rfl,by omega,?_,?_,by simp;exact ⟨fun e=>h e.symm,h5⟩⟩
    ·unfold sC at h3⊢
     rw[if_pos h2] at h3;rw[if_pos (by omega),e,show (Go.Lib.indexByte (a++47::b) 47 + 1).toNat=(Go.Lib.indexByte (a++47::b) 47).toNat + 1 by omega,List.take_succ_cons,h3]
    ·unfold yP at h4⊢
     rw[if_pos h2] at h4;rw[if_pos (by omega),e,show (Go.Lib.indexByte (a++47::b) 47 + 1).toNat=(Go.Lib.indexByte (a++47::b) 47).toNat + 1 by omega,List.drop_succ_cons,h4]
theorem KU:dO 47=false:=by decide
theorem I6 (s:List UInt8):vE s=iS s:=by
 have hu:(if lU s=true then s.drop 1 else s)=gV s:=rfl;unfold vE;simp only[hu];rw[xP];generalize gV s=u
 rcases Fs u with ⟨hi,ha,hn⟩ | ⟨a,b,rfl,hi,ha,hb,hn⟩
 ·rw[ha,if_neg (show ¬(0≤Go.Lib.indexByte u 47) by omega)]
  have h49:gT [49]=true:=by decide
  have h49v:iR [49]=1:=by decide
  rw[h49,h49v,Bool.and_true];cases hall:u.all dO
  ·obtain ⟨c,h1,h2,h3⟩:=uL [] hall
   rw[List.append_nil] at h1 h3;have hnb:gT u=false:=by unfold gT;rw[hall];simp
   rw[hnb];simp only[Bool.false_eq_true,if_false];unfold bK
   split
   ·rfl
   ·rename_i h10
    simp only
    split
    ·rfl
    ·have:jE u (gR u)=none:=by
      unfold jE;rw[if_pos h3,if_neg];rintro ⟨h,_⟩;rw[h1] at h;cases h;exact hn (List.mem_of_getElem? h1)
     rw[this]
  ·have hd:=uK [] hall
   rw[List.append_nil] at hd;simp only[gR,Nat.add_zero] at hd;by_cases hnb:gT u=true
   ·have hp:=(jj u).1 hnb
    rw[hnb,if_pos rfl,if_neg hp.1,xM hnb];have:jE u (bK u).2=some 1:=by unfold jE;rw[if_neg (by omega)]
    rw[this]
   ·have:(bK u).2=0:=by
     have:=mt (jj u).2 hnb;unfold bK at this⊢
     split at this
     ·rename_i h;rw[if_pos h]
     ·rename_i h;rw[if_neg h];simp only at this ⊢; omega
    rw[if_neg hnb,if_pos this]
 ·rw[ha,hb,if_pos hi]
  have h47:gR (47::b)=0:=by rw[gR,KU];rfl
  cases hall:a.all dO
  ·obtain ⟨c,h1,h2,h3⟩:=uL (47::b) hall
   have hnb:gT a=false:=by unfold gT;rw[hall];simp
   rw[hnb];simp only[Bool.false_and,Bool.false_eq_true,if_false];unfold bK
   split
   ·rfl
   ·simp only
    split
    ·rfl
    ·have:jE (a++47::b) (gR (a++47::b))=none:=by
      unfold jE;rw[if_pos (by simp;omega),if_neg];rintro ⟨h,_⟩;rw[List.getElem?_append_left h3,h1] at h;cases h;exact hn (List.mem_of_getElem? h1)
     rw[this]
  ·have hd:=uK (47::b) hall
   rw[h47,Nat.add_zero] at hd;by_cases hnb:gT a=true
   ·have hp:=(jj a).1 hnb
    have hl:1≤a.length∧a.length≤10:=by
     unfold gT at hnb;simp only[Bool.and_eq_true,decide_eq_true_eq] at hnb;exact ⟨hnb.1,hnb.2.1⟩
    have hpu:bK (a++47::b)=(iR a,a.length):=by
     unfold bK iR;rw[hd,if_neg (by omega),if_pos hnb,List.take_left]
    rw[hpu];simp only;rw[if_neg (show ¬(a.length=0) by omega),hnb,Bool.true_and]
    have hlo:jE (a++47::b) a.length=if gT b=true then some (iR b) else none:=by
     unfold jE;rw[if_pos (by simp)];have e1:(a++47::b)[a.length]?=some 47:=by simp
     have e2:(a++47::b).drop (a.length + 1)=b:=by rw[List.drop_append];simp
     rw[e1,e2];by_cases hb':gT b=true
     ·have:=(jj b).1 hb'
      rw[if_pos hb',xM hb',if_pos ⟨rfl,this.1,by simp;omega⟩]
     ·rw[if_neg hb',if_neg]
      rintro ⟨_,g1,g2⟩;exact hb' ((jj b).2 ⟨g1,by simp at g2;omega⟩)
    rw[hlo];by_cases hb':gT b=true
    ·rw[if_pos hb',if_pos hb']
    ·rw[if_neg hb',if_neg hb']
   ·have:(bK (a++47::b)).2=0:=by
     unfold bK;rw[hd]
     split
     ·rfl
     ·simp only
      unfold gT at hnb;rw[hall] at hnb;simp only[Bool.and_true,Bool.and_eq_true,decide_eq_true_eq] at hnb;omega
    rw[if_pos this,show gT a=false by simpa using hnb];rfl
theorem BF:c5.contains=mW:=by
 funext c;simp only[mW,AK,qW,c5,List.contains_cons,List.contains_nil,Bool.or_false];rw[Bool.eq_iff_iff];simp only[Bool.or_eq_true,beq_iff_eq,Bool.and_eq_true,decide_eq_true_eq, ←UInt8.toNat_inj];simp;omega
theorem Le (s:List UInt8):qY s=ot s:=by
 unfold qY ot;rw[I6,BF]
 have ht:((kj mW s).dropWhile mW == [])=s.all mW:=by
  rw[Bool.eq_iff_iff,beq_iff_eq,wj]
 rw[ht];by_cases hs:s= []
 ·subst hs;simp
 ·have hl:=List.length_pos_iff.2 hs
  cases s.all mW<;>cases (iS s).2.2<;>rw[Bool.eq_iff_iff]<;>simp[hs]<;>omega
theorem IQ {s:List UInt8} (h:ot s=true):s.any l7=false:=by
 simp only[ot,Bool.and_eq_true] at h;rw[List.any_eq_false];intro c hc;have hm:=List.all_eq_true.1 h.2.2.1 c hc;rw[←BF] at hm;simp only[c5,List.contains_cons,List.contains_nil,Bool.or_false,Bool.or_eq_true,beq_iff_eq, ←UInt8.toNat_inj] at hm;simp only[l7,Bool.or_eq_true,decide_eq_true_eq];simp at hm ⊢;omega
theorem Kz (d:Datum) (deep:Int):gy d deep=gx d deep:=by
 obtain ⟨k,n,e,s,l⟩:=d;have hn:=Le s;have hs:= @IQ s;have hz:s= []→s.any l7=false:=fun h=>by rw[h];rfl
 unfold gy gx;simp only[Datum.kind,Datum.n,Datum.d,Datum.s,Datum.l,mE];generalize s.any l7=B at *;have hc:k < 0∨k > 7∨k=0∨k=1∨k=2∨k=3∨k=4∨k=5∨k=6∨k=7:=by omega
 rcases hc with h | h | h | h | h | h | h | h | h | h
 ·simp[h,show ¬k=0 by omega,show ¬k=1 by omega,show ¬k=2 by omega,show ¬k=3 by omega,show ¬k=4 by omega,show ¬k=5 by omega,show ¬k=6 by omega,show ¬k=7 by omega]
 ·simp[h,show ¬k=0 by omega,show ¬k=1 by omega,show ¬k=2 by omega,show ¬k=3 by omega,show ¬k=4 by omega,show ¬k=5 by omega,show ¬k=6 by omega,show ¬k=7 by omega]
 all_goals
  subst h;rw[Bool.eq_iff_iff];simp
  grind
theorem Jq (d:Datum): ∀ deep:Int,d.fB deep=d.bJ deep:=by
 induction d using Datum.ind with
 | h d ih=>
  intro deep;rw[Datum.xW,Datum.kZ,Kz];congr 1
  have: ∀ l:List Datum,(∀ y∈l, ∀ deep:Int,y.fB deep=y.bJ deep)→ ∀ deep,Datum.ki l deep=Datum.ee l deep:=by
   intro l
   induction l with
   | nil=>intro _ deep;rw[Datum.ki,Datum.ee]
   | cons x l ihl=>intro hy deep;rw[Datum.ki,Datum.ee,hy x (by simp),ihl fun y h=>hy y (by simp[h])]
  exact this d.l ih _
theorem wv (d:Datum):af Tryz.prog 73 [.agg d.cells] [] (fun y Γ'=>y=.bool (!d.fB 0)∧Γ'= []):=by
 refine af.ah ai Tryz.func73 rfl rfl (n:=6) rfl rfl ?_
 conv=>whnf
 repeat' (first|refine c9 ?_|((first|refine pC (Jp d) wR ?_|intro _);conv=>whnf)|(refine zX (fun hc=>?_) (fun hc=>?_)<;>(try simp only[SY] at hc)<;>omega))
 exact ak.gen (Wk.refl _) ⟨rfl,rfl⟩
theorem yO (l:List Datum):aA Tryz.prog 47 [.sl 5 (l.map Datum.pv) none] (.bool (l.all fun d=>d.fB 0)):=by
 refine af.ah ai Tryz.func47 rfl rfl (n:=6) rfl rfl ?_
 conv=>whnf
 skip
 refine aq.go (jZ 73 [] [] (fun d=>!d.fB 0) l (fun d _=>wv d)) (aX.refl _) ?_;rintro _ _ ⟨rfl,rfl⟩
 conv=>whnf
 skip
 exact ak.pure (Wk.bool (by rw[List.not_any_eq_all_not];simp))
theorem B6:(fun (_:Value)=>(none:Option PV))=aS []:=by
 funext v;unfold aS;split<;>simp
def hU (p:Prog) (level:Int):Int:=
 if (decide (level < 0) || decide (level≥3))=true then 1 else
 if (p.consts.all (fun d=>d.fB 0) && (p.body.rP level p.consts.length 0 false [] 0 0 []).isSome)=true then 0 else 5
theorem AT (p:Prog) (level:Int) (hb:p.body.aR≤1000000000) (hl:p.consts.length≤1000000000):aA Tryz.prog 28 [.agg p.cells,.int .i64 level] (.int .i64 (hU p level)):=by
 have hs:hU p level=hU p level:=rfl
 conv at hs=>rhs;unfold hU
 refine af.ah ai Tryz.func28 rfl rfl (n:=31) rfl rfl ?_
 conv=>whnf
 repeat' (first|refine c9 ?_|((first|refine pC (yO _) wR ?_|intro _);conv=>whnf)|(refine zX (fun hc=>?_) (fun hc=>?_)<;>(try simp only[SY] at hc)<;>(conv=>whnf)))
 ·rw[hs,if_pos (by simp only[SS];exact hc)]
  exact ak.pure (Wk.refl _)
 ·refine eE.ways (fun hg=>?_) (fun hg=>?_)
  ·conv=>whnf
   conv=>whnf
   repeat (first|refine lB ?_|((intro _);conv=>whnf))
   rename_i b1 r1 b2 r2;have hall:(p.consts.all fun d=>d.fB 0)=true:=by simpa using hg
   have hcall:=Jr b2 r1 r2 level p.consts.length 0 false p.body [] 0 0 [] [] [] (by omega) (by omega) (by omega) (by omega) (by simp) hb;rw[←B6] at hcall;refine aq.Of (au.box (b:=b2) (cs:= [.int .i64 level,.int .i64 p.consts.length,.int .i64 0,.bfalse,.int .i64 0,.mp r1]) (cs':=uG level p.consts.length 0 0 false r1) wA) hcall (aX.refl _) ?_;rintro _ _ ⟨rfl,sz,mb,ms,pb,ps,rfl,hs2⟩
   conv=>whnf
   repeat' ((refine zX (fun hc=>?_) (fun hc=>?_)<;>(try simp only[SY] at hc)<;>(conv=>whnf)))
   ·rw[hs,if_neg (by simp only[SS];omega),if_neg (by rw[hc,hall];simp)]
    exact ak.pure (Wk.refl _)
   ·rw[hs,if_neg (by simp only[SS];omega),if_pos (by rw[hc,hall];rfl)]
    exact ak.pure (Wk.refl _)
  ·conv=>whnf
   rw[hs,if_neg (by simp only[SS];omega),if_neg (by simp only[Bool.not_not] at hg;rw[hg];simp)];exact ak.pure (Wk.refl _)
theorem AS (p:Prog) (level:Int):hU p level=iP p level:=by
 unfold hU iP;have hr:(fun d:Datum=>d.fB 0)=fun d=>d.bJ 0:=by funext d;exact Jq d 0
 by_cases h:(decide (level < 0) || decide (level > 2))=true
 ·rw[if_pos h,if_pos (by simp at h ⊢; omega)]
 ·rw[if_neg h,if_neg (by simp at h ⊢; omega),hr,OM _ _ _ _ (by simp at h;omega) (by simp at h;omega)]
def c7 (p:Prog) (level:Int):Prop:=
 (0≤level∧level≤2)∧(∀ d∈p.consts,d.bJ 0=true)∧p.body.qt level p.consts.length 0 false [] 0∧p.body.cnt≤20000∧gW p.body.vars []
theorem pF (p:Prog) (level:Int):iP p level=0↔c7 p level:=by
 unfold iP c7;have h:=(p.body.HF level p.consts.length 0 false [] 0 0 []).vU;by_cases hl:(decide (level < 0) || decide (level > 2))=true
 ·rw[if_pos hl]
  simp at hl;constructor
  ·intro h;cases h
  ·rintro ⟨h,_⟩;omega
 ·rw[if_neg hl]
  simp at hl
  split
  ·rename_i hr
   simp only[Bool.and_eq_true,List.all_eq_true,h] at hr;exact ⟨fun _=>⟨by omega,hr.1,hr.2.1,by omega,hr.2.2.2⟩,fun _=>rfl⟩
  ·rename_i hr
   simp only[Bool.and_eq_true,List.all_eq_true,h] at hr;exact ⟨fun h=>(by cases h),fun ⟨_,h1,h2,h3,h4⟩=>absurd ⟨h1,h2,by omega,h4⟩ hr⟩
mutual
def aa.Ki:aa→Int
 | .mk op n _ t=>aa.F7 t (if op=0 then n else -1)
def aa.F7:List aa→Int→Int
 | [],m=>m
 | x::xs,m=>aa.F7 xs (max m (aa.Ki x))
end
theorem aa.M8 (t:aa):t.Ki=aa.F7 t.t (if t.op=0 then t.n else -1):=by cases t;rw[aa.Ki];rfl
theorem aa.Eo (c:Int): ∀ (l:List aa) (m:Int),aa.F7 l m < c↔m < c∧ ∀ x∈l,x.Ki < c
 | [],m=>by simp[aa.F7]
 | x::l,m=>by
  rw[aa.F7,aa.Eo c l];simp only[List.forall_mem_cons];constructor
  ·rintro ⟨h1,h2⟩;exact ⟨by omega,by omega,h2⟩
  ·rintro ⟨h1,h2,h3⟩;exact ⟨by omega,h3⟩
theorem wH (c1 c2 codes:Int) (free:Bool) (t:aa) (scope:List Int) (h:t.op≠0):bM c1 codes free t scope=bM c2 codes free t scope:=by
 unfold bM;rw[if_neg h,if_neg h]
theorem aa.Dq (level codes:Int) (free:Bool) (c1 c2:Int) (h2:0≤c2) (t:aa): ∀ (scope:List Int) (deep:Int),t.qt level c1 codes free scope deep→(t.qt level c2 codes free scope deep↔t.Ki < c2):=by
 induction t using aa.ind with
 | h t ih=>
  intro scope deep h
  have key: ∀ (op:Int) (sc inner:List Int) (deep:Int) (l:List aa),(∀ y∈l, ∀ (scope:List Int) (deep:Int),y.qt level c1 codes free scope deep→(y.qt level c2 codes free scope deep↔y.Ki < c2))→
    aa.fy level c1 codes free op sc inner l deep→(aa.fy level c2 codes free op sc inner l deep↔ ∀ x∈l,x.Ki < c2):=by
   intro op sc inner deep l
   induction l with
   | nil=>intro _ _;simp[aa.fy]
   | cons x l ihl=>
    intro hy hk;rw[aa.fy] at hk;rw[aa.fy,List.forall_mem_cons,hy x (by simp) _ _ hk.2.1,ihl (fun y hh=>hy y (by simp[hh])) hk.2.2];simp only[hk.1,not_false_eq_true,true_and]
  rw[aa.kF] at h;rw[aa.kF,aa.M8,aa.Eo,key _ _ _ _ _ ih h.2];obtain ⟨⟨g1,g2,g3,g4⟩,_⟩:=h
  have hn:bM c2 codes free t scope=true↔(if t.op=0 then t.n else -1) < c2:=by
   by_cases h0:t.op=0
   ·rw[if_pos h0]
    unfold bM at g4 ⊢;rw[if_pos h0] at g4 ⊢;simp at g4 ⊢;omega
   ·rw[if_neg h0,wH c2 c1 codes free t scope h0]
    simp only[g4,true_iff];omega
  rw[hn];simp only[g1,g2,g3,true_and]
theorem c7.consts {p:Prog} {level:Int} (h:c7 p level) (cs:List Datum) (hc: ∀ d∈cs,d.bJ 0=true):c7 ⟨cs,p.body⟩ level↔p.body.Ki < cs.length:=by
 obtain ⟨h1,h2,h3,h4,h5⟩:=h;unfold c7;simp only[h1,true_and,h4,h5,and_true];rw[aa.Dq level 0 false p.consts.length cs.length (by omega) p.body [] 0 h3];simp[h1.1,h1.2];exact fun _=>hc
theorem c7.Ki {p:Prog} {level:Int} (h:c7 p level):p.body.Ki < p.consts.length:=(h.consts p.consts h.2.1).1 h
theorem C8 (n:Int) (h0:0≤n) (h1:n≤1000000000):af Tryz.prog 138 [.nil,.int .i64 n] [] (fun y Γ'=>(∃ t:Tok,t.e=3∧t.s=1∧y=.ms t∧Γ'= [.row t []])∨(y=.nil∧Γ'= [])):=by
 refine af.ah ai Tryz.func138 rfl rfl (n:=27) rfl rfl ?_
 conv=>whnf
 repeat' (first|refine c9 ?_|(refine zX (fun hc=>?_) (fun hc=>?_)<;>(try simp only[SY] at hc)<;>first|omega|(conv=>whnf)))
 ·refine gU.of ⟨by simp[dL],by simp[dL]⟩ ?_
  conv=>whnf
  skip
  refine Cv.mk ⟨by omega,by omega,by show _ * 8≤_;omega,rfl,fun t he hs=>?_⟩
  conv=>whnf
  skip
  refine o3.hi hs (by omega) (by simp;omega) (fun t2 he2 hs2=>?_)
  conv=>whnf
  skip
  show ak _ [.row t2 []] _;exact ak.gen (Wk.refl _) (.inl ⟨t2,he2.trans he,hs2.trans hs,rfl,rfl⟩)
 ·exact ak.gen (Wk.refl _) (.inr ⟨rfl,rfl⟩)
theorem Shift.cz (s:Nat) (e:TypeId) (Γ:List aj):Shift .nil Γ (.ms (aB s e)) (.row (aB s e) []::Γ):=fun w0 F M w v hS hx=>
 let ⟨F',h1,h2⟩:=au.cz s e Γ w0 F M w hS
 ⟨F',h1,h2,Wk.cz s e F' v (aC.mono h1 _ _ hx)⟩
theorem Shift.refl (x:PV) (Γ:List aj):Shift x Γ x Γ:=fun _ F _ _ _ hS hx=>⟨F,Fz.le_refl F,hS,hx⟩
theorem F8 (n:Int) (h0:0≤n) (h1:n≤1000000000):af Tryz.prog 138 [.nil,.int .i64 n] [] (fun y Γ'=> ∃ t:Tok,t.e=3∧t.s=1∧y=.ms t∧Γ'= [.row t (([]:List Int).map (PV.int .i64))]):=
 (C8 n h0 h1).shift fun y Γ' h=>by
  rcases h with ⟨t,h1,h2,rfl,rfl⟩ | ⟨rfl,rfl⟩
  ·exact ⟨_,_,Shift.refl _ _,t,h1,h2,rfl,rfl⟩
  ·exact ⟨_,_,Shift.cz 1 3 _,_,rfl,rfl,rfl,rfl⟩
def wz:List Int→Int→Nat→Int
 | [],_,_=> -1
 | x::l,v,i=>if v=x then (i:Int) else wz l v (i + 1)
theorem Bo: ∀ (l:List Int) (v:Int) (i:Nat),decide (wz l v i≥0)=l.contains v
 | [],_,_=>by simp[wz]
 | x::l,v,i=>by
  rw[wz,List.contains_cons];by_cases h:v=x
  ·rw[if_pos h];simp[h]
  ·rw[if_neg h,Bo l v (i + 1)];simp[h]
theorem C9 (l:List Int) (v:Int):aA Tryz.prog 190 [.sl 1 (l.map (PV.int .i64)) none,.int .i64 v] (.int .i64 (wz l v 0)):=by
 refine af.ah ai Tryz.func190 rfl rfl (n:=19) rfl rfl ?_
 conv=>whnf
 repeat (first|refine lB ?_|((intro _);conv=>whnf))
 refine ax.keep [4,5,8,9,10,11,12,13,14,15,16,17,18] (fun i:Nat=> [(8,.int .i64 i)]) (fun i=>i≤l.length∧wz (l.drop i) v i=wz l v 0) (fun i=>l.length - i) 0 ⟨by omega,rfl⟩ wA ?_;rintro i ⟨h1,h2⟩
 conv=>whnf
 repeat' (first|refine c9 ?_|(refine zX (fun hc=>?_) (fun hc=>?_)<;>(try simp only[SY] at hc)<;>(conv=>whnf)))
 ·rw[aJ (show i < l.length by omega),wz,if_pos hc] at h2
  exact ak.pure (Wk.int h2)
 ·rw[aJ (show i < l.length by omega),wz,if_neg hc] at h2
  exact av (i + 1) ⟨by omega,h2⟩ (by show l.length - (i + 1) < l.length - i;omega) wA
 ·rw[List.drop_of_length_le (by omega),wz] at h2
  exact ak.pure (Wk.int h2)
theorem fE (l:List Int) (v:Int):aA Tryz.prog 142 [.sl 1 (l.map (PV.int .i64)) none,.int .i64 v] (.bool (l.contains v)):=by
 refine af.ah ai Tryz.func142 rfl rfl (n:=9) rfl rfl ?_
 conv=>whnf
 repeat' (first|((refine pC (C9 l v) wR ?_);conv=>whnf)|(refine zX (fun hc=>?_) (fun hc=>?_)<;>(try simp only[SY] at hc)<;>omega))
 exact ak.pure (Wk.bool (Bo l v 0))
abbrev gQ (l:List Int):PV:=.sl 1 (l.map (PV.int .i64)) none
instance:cn gQ (fun l=> [gQ l]):=⟨fun _=>rfl⟩
def gr (ls:List (List Int)):Nat:=(ls.map List.length).sum
theorem sk (a b:List (List Int)):gr (a++b)=gr a + gr b:=by simp[gr]
theorem LR (ls:List (List Int)) (k:Nat):gr (ls.take k)≤gr ls:=by
 have:=sk (ls.take k) (ls.drop k);rw[List.take_append_drop] at this;omega
theorem ya (ls:List (List Int)) {k:Nat} (hk:k < ls.length):gr (ls.take (k + 1))=gr (ls.take k) + (ls[k]).length:=by
 rw[List.take_succ_eq_append_getElem hk,sk];simp[gr]
theorem An (ls:List (List Int)):ls.flatten.length=gr ls:=by simp[gr,List.length_flatten]
theorem yM (ls:List (List Int)) (h:gr ls≤1000000000) (hl:ls.length≤1000000000):af Tryz.prog 86 [.sl 1 (ls.map gQ) none] [] (fun y Γ'=> ∃ t:Tok,t.e=3∧t.s=1∧y=.ms t∧Γ'= [.row t (ls.flatten.map (PV.int .i64))]):=by
 refine af.ah ai Tryz.func86 rfl rfl (n:=36) rfl rfl ?_
 conv=>whnf
 repeat (first|refine lB ?_|((intro _);conv=>whnf))
 refine ax.keep [3,5,11,12,13,14,15,16,17,18,19,20,21,22] (fun x:Nat×Int=> [(11,.int .i64 x.1),(3,.int .i64 x.2)]) (fun x=>x.1≤ls.length∧x.2=gr (ls.take x.1)) (fun x=>ls.length - x.1) (0,0) ⟨by omega,rfl⟩ wA ?_;rintro ⟨i,n⟩ ⟨h1,h2⟩;dsimp only at h1 h2 ⊢;have hle:=LR ls
 conv=>whnf
 repeat' (first|refine c9 ?_|((intro _);conv=>whnf)|(refine zX (fun hc=>?_) (fun hc=>?_)<;>(try simp only[SY] at hc)<;>(conv=>whnf)))
 ·have hlt:i < ls.length:=by omega
  have g1:=hle (i + 1);have g2:=ya ls hlt
  conv=>whnf
  repeat' (first|refine c9 ?_|(refine zX (fun hc=>?_) (fun hc=>?_)<;>(try simp only[SY] at hc)<;>first|omega|(conv=>whnf)))
  exact av (i + 1,n + ls[i].length) ⟨by omega,by show n + _=((gr (ls.take (i + 1)):Nat):Int);omega⟩ (by show ls.length - (i + 1) < ls.length - i;omega) wA
 ·refine aq.go (F8 n (by omega) (by have:=hle i;omega)) (aX.refl _) ?_
  rintro _ _ ⟨t,ht,hs,rfl,rfl⟩
  conv=>whnf
  repeat' (first|refine c9 ?_|((intro _);conv=>whnf)|(refine zX (fun hc=>?_) (fun hc=>?_)<;>(try simp only[SY] at hc)<;>omega))
  refine ax.over [6,8,27,28,29,30,31,32,33,34] (fun x:Nat×Tok×List Int=> [(27,.int .i64 x.1),(6,.ms x.2.1)]) (fun x:Nat×Tok×List Int=> [.row x.2.1 (x.2.2.map (PV.int .i64))]) (fun x=>x.1≤ls.length∧x.2.1.e=3∧x.2.1.s=1∧x.2.2=(ls.take x.1).flatten) (fun x=>ls.length - x.1) (0,t, []) ⟨by omega,ht,hs,rfl⟩ wA ?_;rintro ⟨k,t2,l⟩ ⟨k1,k2,k3,k4⟩;dsimp only at k1 k2 k3 k4⊢
  conv=>whnf
  repeat' (first|refine c9 ?_|(refine zX (fun hc=>?_) (fun hc=>?_)<;>(try simp only[SY] at hc)<;>(conv=>whnf)))
  ·have hlt:k < ls.length:=by omega
   have g1:=hle (k + 1);have g2:=ya ls hlt;have g3:=An (ls.take k);rw[←k4] at g3;refine aW.EZ (f:=PV.int .i64) (l:=l) (m:=ls[k]) k2 k3 (Wk.refl _) (by omega) (by show _ * 8≤_;omega) (fun t3 e3 s3=>?_)
   conv=>whnf
   repeat (refine lB ?_)
   exact av (k + 1,t3,l++ls[k]) ⟨by omega,e3,s3,by show l++ls[k]=(ls.take (k + 1)).flatten;rw[k4,List.take_succ_eq_append_getElem hlt,List.flatten_append,List.flatten_singleton]⟩ (by show ls.length - (k + 1) < ls.length - k;omega) wA
  ·have hk:ls.take k=ls:=List.take_of_length_le (by omega)
   rw[hk] at k4;rw[k4];exact ak.gen (Wk.refl _) ⟨t2,k2,k3,rfl,rfl⟩
theorem AX (ls:List (List Int)) (h:gr ls≤1000000000) (hl:ls.length≤1000000000):aA Tryz.prog 86 [.sl 1 (ls.map gQ) none] (gQ ls.flatten):=
 aA.Dp ((yM ls h hl).shift fun y Γ' hq=>by
  obtain ⟨t,h1,h2,rfl,rfl⟩:=hq
  exact ⟨gQ ls.flatten,_,Shift.cr (qx.ms' h2),rfl⟩)
mutual
def aa.met:aa→List Int→Int→List (aa×List Int)
 | .mk op n v t,sc,deep=>(.mk op n v t,sc)::if deep≥1000 then [] else aa.jc op sc (sc++v) t (deep + 1)
def aa.jc (op:Int) (sc inner:List Int):List aa→Int→List (aa×List Int)
 | [],_=> []
 | x::xs,deep=>aa.met x (if fu op=true∨xs= [] then inner else sc) deep++aa.jc op sc inner xs deep
end
theorem aa.qX (t:aa) (sc:List Int) (deep:Int):t.met sc deep=(t,sc)::if deep≥1000 then [] else aa.jc t.op sc (sc++t.v) t.t (deep + 1):=by
 cases t;rw[aa.met];rfl
abbrev Gl (x:aa×List Int):PV:=.agg [.int .i64 x.1.op,.int .i64 x.1.n,.sl 1 (x.1.v.map (PV.int .i64)) none,.sl 4 (x.1.t.map aa.pv) none,gQ x.2]
def sw (xs:List (List PV)) (i:Nat) (l:List (aa×List Int)):Prop:= ∀ j (h:j < l.length),xs[i + j]?=some [Gl l[j]]
theorem sw.left {xs:List (List PV)} {i:Nat} {l m:List (aa×List Int)} (h:sw xs i (l++m)):sw xs i l:=fun j hj=>by
 have:=h j (by rw[List.length_append];omega);rwa [List.getElem_append_left hj] at this
theorem sw.right {xs:List (List PV)} {i:Nat} {l m:List (aa×List Int)} (h:sw xs i (l++m)):sw xs (i + l.length) m:=fun j hj=>by
 have:=h (l.length + j) (by rw[List.length_append];omega);rw[List.getElem_append_right (by omega)] at this;simpa[Nat.add_assoc] using this
theorem sw.head {xs:List (List PV)} {i:Nat} {x:aa×List Int} {m:List (aa×List Int)} (h:sw xs i (x::m)):sw xs (i + 1) m:=sw.right (l:= [x]) h
theorem N6 (l yb wb:Nat) (xs:List (List PV)) (J:Nat→List aj→Prop) (X:List aj→Prop)
  (hy: ∀ k ys Γ,xs[k]?=some ys→J k Γ→eD Tryz.prog l ys Γ fun y Γ'=>(y=.aV∧J (k + 1) Γ')∨(y=.bfalse∧X Γ')) (t:aa):
  ∀ (sc:List Int) (deep:Int) (i:Nat) (Γ:List aj),0≤deep→deep≤1000→sc.length + t.aR≤1000000000→sw xs i (t.met sc deep)→J i Γ→
   af Tryz.prog 85 [.agg t.cells,gQ sc,.int .i64 deep,.ptr yb 0,.ptr wb 0] (.box yb [.fn (.yield l) []]::.box wb [.fn (.func 85) [.ptr yb 0,.ptr wb 0]]::Γ)
    (fun y Γ'=> ∃ Γ1,Γ'=.box yb [.fn (.yield l) []]::.box wb [.fn (.func 85) [.ptr yb 0,.ptr wb 0]]::Γ1∧((y=.aV∧J (i + (t.met sc deep).length) Γ1)∨(y=.bfalse∧X Γ1))):=by
 induction t using aa.ind with
 | h t ih=>
  intro sc deep i Γ hd0 hd1 hsc hfr hJ;have hbe:=t.bE;have hlv:=aa.bn t.t;rw[aa.qX] at hfr ⊢;have hsum:gr [sc,t.v]≤1000000000:=by simp[gr];omega
  have h0:=hfr 0 (by simp);refine af.ah ai Tryz.func85 rfl rfl (n:=54) rfl rfl ?_
  conv=>whnf
  repeat' (first|refine c9 ?_|((intro _);conv=>whnf)|(refine zX (fun hc=>?_) (fun hc=>?_)<;>(try simp only[SY] at hc)<;>omega))
  rename_i b5;refine kr.KQ [.box b5 [.int .i64 t.op,.int .i64 t.n,.sl 1 (t.v.map (PV.int .i64)) none,.sl 4 (t.t.map aa.pv) none],.box yb [.fn (.yield l) []],.box wb [.fn (.func 85) [.ptr yb 0,.ptr wb 0]]] (hy (i + 0) _ Γ h0 hJ) (aX.refl _) (List.Perm.refl _) ?_;rintro _ Γ1 (⟨rfl,hJ1⟩ | ⟨rfl,hX⟩)
  ·conv=>whnf
   repeat' (first|refine c9 ?_|((intro _);conv=>whnf)|(refine zX (fun hc=>?_) (fun hc=>?_)<;>(try simp only[SY] at hc)<;>(conv=>whnf)))
   ·exact ak.gen (y:=.aV) (Γ':=.box yb [.fn (.yield l) []]::.box wb [.fn (.func 85) [.ptr yb 0,.ptr wb 0]]::Γ1) (hp:=⟨(List.perm_append_singleton _ _).symm⟩) (Wk.refl _) ⟨Γ1,rfl,.inl ⟨rfl,by rw[if_pos hc];exact hJ1⟩⟩
   ·rw[if_neg (by omega)] at hfr⊢
    rename_i tk htk;refine aq.pure (AX [sc,t.v] hsum (by simp)) (aX.cons (Wk.tok _ _ _) aX.nil) ?_;rw[show [sc,t.v].flatten=sc++t.v by simp]
    conv=>whnf
    repeat' (first|refine c9 ?_|((intro _);conv=>whnf)|(refine zX (fun hc=>?_) (fun hc=>?_)<;>(try simp only[SY] at hc)<;>omega))
    have hfr1:=hfr.head
    refine ax.over [8,10,11,12,29,30,31,32,33,34,35,36,37,38,39,40,41,42,43,44,45,46,47,48,49,50,51,52,53] (fun x:Nat×Nat×List aj=> [(29,.int .i64 x.1)])
     (fun x:Nat×Nat×List aj=>.tok tk::.box b5 [.int .i64 t.op,.int .i64 t.n,.sl 1 (t.v.map (PV.int .i64)) none,.sl 4 (t.t.map aa.pv) none]::.box yb [.fn (.yield l) []]::.box wb [.fn (.func 85) [.ptr yb 0,.ptr wb 0]]::x.2.2)
     (fun x=>x.1≤t.t.length∧J x.2.1 x.2.2∧sw xs x.2.1 (aa.jc t.op sc (sc++t.v) (t.t.drop x.1) (deep + 1))∧x.2.1 + (aa.jc t.op sc (sc++t.v) (t.t.drop x.1) (deep + 1)).length=i + 1 + (aa.jc t.op sc (sc++t.v) t.t (deep + 1)).length)
     (fun x=>t.t.length - x.1) (0,i + 1,Γ1) ⟨by omega,hJ1,hfr1,rfl⟩ wA ?_
    rintro ⟨k,p,Γ2⟩ ⟨k1,k2,k3,k4⟩;dsimp only at k1 k2 k3 k4⊢
    conv=>whnf
    repeat' (first|refine c9 ?_|((first|refine pC (tN t) wR ?_|intro _);conv=>whnf)|(refine zX (fun hc=>?_) (fun hc=>?_)<;>(try simp only[SY] at hc)<;>(conv=>whnf)))
    rotate_right
    ·rw[List.drop_of_length_le (by omega),aa.jc] at k4
     exact ak.gen (y:=.aV) (Γ':=.box yb [.fn (.yield l) []]::.box wb [.fn (.func 85) [.ptr yb 0,.ptr wb 0]]::Γ2) (hp:=⟨List.perm_append_comm (l₁:= [_,_])⟩) (Wk.refl _) ⟨Γ2,rfl,.inl ⟨rfl,by
      rw[List.length_cons,show i + ((aa.jc t.op sc (sc++t.v) t.t (deep + 1)).length + 1)=p by simp only[List.length_nil] at k4;omega];exact k2⟩⟩
    all_goals
     rename_i b11;have hlt:k < t.t.length:=by omega
     have hbm:=aa.cJ (List.getElem_mem hlt);have hdr:t.t.drop (k + 1)= []↔k + 1=t.t.length:=by rw[List.drop_eq_nil_iff];omega
     rw[aJ hlt,aa.jc] at k3 k4
    ·rw[if_pos (show fu t.op=true∨t.t.drop (k + 1)= [] by rw[hdr];exact hc.imp id fun h=>by omega)] at k3 k4
     have k3l:=k3.left;have k3r:=k3.right;rw[List.length_append] at k4
     refine aq.KQ [.box b11 [.int .i64 t.t[k].op,.int .i64 t.t[k].n,.sl 1 (t.t[k].v.map (PV.int .i64)) none,.sl 4 (t.t[k].t.map aa.pv) none],.tok tk,.box b5 [.int .i64 t.op,.int .i64 t.n,.sl 1 (t.v.map (PV.int .i64)) none,.sl 4 (t.t.map aa.pv) none]]
      (ih t.t[k] (List.getElem_mem _) (sc++t.v) (deep + 1) p Γ2 (by omega) (by omega) (by first | omega | (simp;omega)) k3l k2) (aX.refl _) (List.Perm.refl _) ?_
     rintro _ _ ⟨Γ3,rfl,⟨rfl,g1⟩ | ⟨rfl,g1⟩⟩
     ·conv=>whnf
      repeat' (first|refine c9 ?_|(refine zX (fun hc=>?_) (fun hc=>?_)<;>(try simp only[SY] at hc)<;>omega))
      exact av (k + 1,p + (t.t[k].met (sc++t.v) (deep + 1)).length,Γ3) (hp:=⟨(List.perm_append_singleton _ _).symm⟩) ⟨by omega,g1,k3r,by dsimp only;omega⟩ (by show t.t.length - (k + 1) < t.t.length - k;omega) wA
     ·conv=>whnf
      skip
      exact ak.gen (y:=.bfalse) (Γ':=.box yb [.fn (.yield l) []]::.box wb [.fn (.func 85) [.ptr yb 0,.ptr wb 0]]::Γ3) (hp:=⟨List.perm_append_comm (l₁:= [_,_,_])⟩) (Wk.refl _) ⟨Γ3,rfl,.inr ⟨rfl,g1⟩⟩
    ·rw[if_neg (show ¬(fu t.op=true∨t.t.drop (k + 1)= []) by rw[hdr];rintro (h | h);rw[hc.1] at h;cases h;exact hc.2 (by omega))] at k3 k4
     have k3l:=k3.left;have k3r:=k3.right;rw[List.length_append] at k4
     refine aq.KQ [.box b11 [.int .i64 t.t[k].op,.int .i64 t.t[k].n,.sl 1 (t.t[k].v.map (PV.int .i64)) none,.sl 4 (t.t[k].t.map aa.pv) none],.tok tk,.box b5 [.int .i64 t.op,.int .i64 t.n,.sl 1 (t.v.map (PV.int .i64)) none,.sl 4 (t.t.map aa.pv) none]]
      (ih t.t[k] (List.getElem_mem _) (sc) (deep + 1) p Γ2 (by omega) (by omega) (by first | omega | (simp;omega)) k3l k2) (aX.refl _) (List.Perm.refl _) ?_
     rintro _ _ ⟨Γ3,rfl,⟨rfl,g1⟩ | ⟨rfl,g1⟩⟩
     ·conv=>whnf
      repeat' (first|refine c9 ?_|(refine zX (fun hc=>?_) (fun hc=>?_)<;>(try simp only[SY] at hc)<;>omega))
      exact av (k + 1,p + (t.t[k].met (sc) (deep + 1)).length,Γ3) (hp:=⟨(List.perm_append_singleton _ _).symm⟩) ⟨by omega,g1,k3r,by dsimp only;omega⟩ (by show t.t.length - (k + 1) < t.t.length - k;omega) wA
     ·conv=>whnf
      skip
      exact ak.gen (y:=.bfalse) (Γ':=.box yb [.fn (.yield l) []]::.box wb [.fn (.func 85) [.ptr yb 0,.ptr wb 0]]::Γ3) (hp:=⟨List.perm_append_comm (l₁:= [_,_,_])⟩) (Wk.refl _) ⟨Γ3,rfl,.inr ⟨rfl,g1⟩⟩
  ·conv=>whnf
   skip
   exact ak.gen (y:=.bfalse) (Γ':=.box yb [.fn (.yield l) []]::.box wb [.fn (.func 85) [.ptr yb 0,.ptr wb 0]]::Γ1) (hp:=⟨(List.perm_append_singleton _ _).symm⟩) (Wk.refl _) ⟨Γ1,rfl,.inr ⟨rfl,hX⟩⟩
def aa.all (t:aa):List (aa×List Int):=t.met [] 0
theorem Hv (b:Nat) (t:aa) (hb:t.aR≤1000000000):DX Tryz.prog 84 [.ptr b 0] [.box b t.cells] (t.all.map fun m=> [Gl m]):=by
 intro l J X hy Γ hJ;refine af.ghost (au.drop (Γ':=.box b t.cells::Γ) (Γ1:= []) (by rw[List.append_nil];exact List.perm_append_singleton _ _)) ?_;refine af.ah ai Tryz.func84 rfl rfl (n:=8) rfl rfl ?_
 conv=>whnf
 repeat' (first|refine c9 ?_|((intro _);conv=>whnf)|(refine zX (fun hc=>?_) (fun hc=>?_)<;>(try simp only[SY] at hc)<;>omega))
 rename_i yb wb;refine aq.KQ [.box b t.cells] (N6 l yb wb _ J X hy t [] 0 0 Γ (by omega) (by omega) (by simp;omega) (fun j hj=>by rw[Nat.zero_add,List.getElem?_map];show Option.map _ (t.met [] 0)[j]?=_;rw[List.getElem?_eq_getElem hj];rfl) hJ) (aX.cons (Wk.refl _) (aX.cons (Wk.ec rfl) (aX.refl _))) ((List.Perm.swap _ _ _).trans (((List.Perm.swap _ _ _).cons _).trans (List.Perm.swap _ _ _))) ?_;rintro _ _ ⟨Γ1,rfl,h1⟩
 conv=>whnf
 skip
 refine ak.gen (Γ':=Γ1) (hp:=⟨List.perm_append_comm (l₁:= [_,_,_])⟩) (Wk.refl _) ?_;rw[List.length_map]
 rcases h1 with ⟨_,h⟩ | ⟨_,h⟩
 ·exact .inl (by rw[Nat.zero_add] at h;exact h)
 ·exact .inr h
theorem Md (t:aa):af Tryz.prog 49 [.agg t.cells] [] (fun y Γ'=> ∃ b,y=.fn (.func 84) [.ptr b 0]∧Γ'= [.box b t.cells]):=by
 refine af.ah ai Tryz.func49 rfl rfl (n:=4) rfl rfl ?_
 conv=>whnf
 repeat' (first|((intro _);conv=>whnf)|(refine zX (fun hc=>?_) (fun hc=>?_)<;>(try simp only[SY] at hc)<;>omega))
 rename_i b;exact ak.gen (y:=.fn (.func 84) [.ptr b 0]) (Γ':= [.box b t.cells]) (hp:=bu.self _) (Wk.refl _) ⟨b,rfl,rfl⟩
theorem aa.Lb (t:aa): ∀ (sc:List Int) (deep:Int),(t.met sc deep).length≤t.aR:=by
 induction t using aa.ind with
 | h t ih=>
  intro sc deep;rw[aa.qX,t.bE,List.length_cons]
  split
  ·simp;omega
  ·have: ∀ (l:List aa),(∀ y∈l, ∀ (sc:List Int) (deep:Int),(y.met sc deep).length≤y.aR)→ ∀ sc inner deep,(aa.jc t.op sc inner l deep).length≤aa.aE l:=by
    intro l
    induction l with
    | nil=>intro _ _ _ _;simp[aa.jc]
    | cons x l ihl=>
     intro hy sc inner deep;rw[aa.jc,aa.aE,List.length_append];have:=hy x (by simp) (if fu t.op=true∨l= [] then inner else sc) deep;have:=ihl (fun y h=>hy y (by simp[h])) sc inner deep;omega
   have:=this t.t ih sc (sc++t.v) (deep + 1);omega
def bQ (op:Int):Bool:=op == 1 || op == 2 || op == 14
theorem Lf (t:aa):aA Tryz.prog 189 [.agg t.cells] (.bool (bQ t.op)):=by
 refine af.ah ai Tryz.func189 rfl rfl (n:=16) rfl rfl ?_
 conv=>whnf
 repeat' (first|refine c9 ?_|((intro _);conv=>whnf)|(refine zX (fun hc=>?_) (fun hc=>?_)<;>(try simp only[SY] at hc)<;>omega))
 exact ak.pure (Wk.refl _)
def dG (l:List (aa×List Int)):List Int:=(l.filter fun m=>bQ m.1.op && !m.2.contains m.1.n).map fun m=>m.1.n
mutual
def aa.dep:aa→Int
 | .mk _ _ _ t=>aa.deps t 0
def aa.deps:List aa→Int→Int
 | [],d=>d
 | x::xs,d=>aa.deps xs (max d (1 + aa.dep x))
end
theorem aa.yS (t:aa):t.dep=aa.deps t.t 0:=by cases t;rfl
theorem aa.tH (c:Int): ∀ (l:List aa) (d:Int),aa.deps l d≤c↔d≤c∧ ∀ x∈l,1 + x.dep≤c
 | [],d=>by simp[aa.deps]
 | x::l,d=>by
  rw[aa.deps,aa.tH c l];simp only[List.forall_mem_cons];constructor
  ·rintro ⟨h1,h2⟩;exact ⟨by omega,by omega,h2⟩
  ·rintro ⟨h1,h2,h3⟩;exact ⟨by omega,h3⟩
theorem aa.yT: ∀ (l:List aa) (d:Int),d≤aa.deps l d
 | [],d=>by simp[aa.deps]
 | x::l,d=>by rw[aa.deps];have:=aa.yT l (max d (1 + x.dep));omega
theorem aa.KN (t:aa): ∀ n:Int,0≤t.qE n→t.qE n=n - t.cnt:=by
 induction t using aa.ind with
 | h t ih=>
  intro n h
  have: ∀ (l:List aa),(∀ x∈l, ∀ n:Int,0≤x.qE n→x.qE n=n - x.cnt)→ ∀ n:Int,0≤aa.eP l n→aa.eP l n=n - aa.cW l:=by
   intro l
   induction l with
   | nil=>intro _ n _;simp[aa.eP,aa.cW]
   | cons y l ihl=>
    intro hy n hn;rw[aa.eP] at hn ⊢;rw[aa.cW]
    split at hn
    ·rename_i h0
     rw[if_pos h0];have h1:=ihl (fun z hz=>hy z (by simp[hz])) _ hn;have h2:0≤y.qE n:=by have:=aa.eO l;omega
     rw[h1,hy y (by simp) n h2];omega
    ·omega
  rw[aa.qF] at h ⊢;rw[this t.t ih _ h,aa.ju];omega
theorem aa.EG (t:aa): ∀ (sc:List Int) (deep:Int),deep + t.dep < 1000→(t.met sc deep).length=t.cnt∧(t.met sc deep).flatMap (fun m=>m.1.v)=t.vars:=by
 induction t using aa.ind with
 | h t ih=>
  intro sc deep h;rw[aa.yS] at h;have hd:=(aa.tH (999 - deep) t.t 0).1 (by omega)
  have key: ∀ (op:Int) (l:List aa),(∀ y∈l, ∀ (sc:List Int) (deep:Int),deep + y.dep < 1000→(y.met sc deep).length=y.cnt∧(y.met sc deep).flatMap (fun m=>m.1.v)=y.vars)→
    ∀ (sc inner:List Int) (deep:Int),(∀ x∈l,deep + x.dep < 1000)→(aa.jc op sc inner l deep).length=aa.cW l∧(aa.jc op sc inner l deep).flatMap (fun m=>m.1.v)=aa.dW l:=by
   intro op l
   induction l with
   | nil=>intro _ _ _ _ _;simp[aa.jc,aa.cW,aa.dW]
   | cons x l ihl=>
    intro hy sc inner deep hx;have h1:=hy x (by simp) (if fu op=true∨l= [] then inner else sc) deep (hx x (by simp));have h2:=ihl (fun y hh=>hy y (by simp[hh])) sc inner deep fun y hh=>hx y (by simp[hh]);rw[aa.jc,aa.cW,aa.dW,List.flatMap_append,h1.2,h2.2,List.length_append];exact ⟨by have:=h1.1;have:=h2.1;omega,rfl⟩
  have h1:=key t.op t.t ih sc (sc++t.v) (deep + 1) fun x hx=>by have:=hd.2 x hx;omega
  have hlt: ¬ deep≥1000:=by have:=aa.yT t.t 0;omega
  rw[aa.qX,if_neg hlt,aa.ju,aa.mh,List.flatMap_cons,List.length_cons,h1.2];exact ⟨by have:=h1.1;omega,rfl⟩
theorem aa.BJ {level c codes:Int} {free:Bool} (t:aa): ∀ {scope:List Int} {deep:Int},t.qt level c codes free scope deep→deep + t.dep≤400:=by
 induction t using aa.ind with
 | h t ih=>
  intro scope deep h;rw[aa.kF] at h
  have key: ∀ (op:Int) (sc inner:List Int) (deep:Int) (l:List aa),(∀ y∈l, ∀ {scope:List Int} {deep:Int},y.qt level c codes free scope deep→deep + y.dep≤400)→aa.fy level c codes free op sc inner l deep→ ∀ x∈l,deep + x.dep≤400:=by
   intro op sc inner deep l
   induction l with
   | nil=>intro _ _;simp
   | cons x l ihl=>
    intro hy hk y hm;rw[aa.fy] at hk;rcases List.mem_cons.1 hm with rfl | hm
    ·exact hy y (by simp) hk.2.1
    ·exact ihl (fun z hz=>hy z (by simp[hz])) hk.2.2 y hm
  have h1:=key _ _ _ _ _ ih h.2;have:=(aa.tH (400 - deep) t.t 0).2 ⟨by have:=h.1.1;omega,fun x hx=>by have:=h1 x hx;omega⟩;rw[aa.yS];omega
theorem w5 {d:Datum} {b:List (Datum×Datum)} (hp:d.pr=true) (h:dw d=some b) {x:Datum×Datum} (hx:x∈b):x.2.sz < d.sz∧x.2.pr=true:=by
 obtain ⟨h1,h2⟩:=jh hp h;have h3:=Datum.eB (List.mem_map_of_mem (f:=Prod.snd) hx);exact ⟨by omega,(h2 x hx).2⟩
theorem E8 (n:Int) (j k:Nat):tj n (j + k)=tj n j++tj (n + j) k:=by
 unfold tj;rw[List.range_add,List.map_append,List.map_map];congr 1;apply List.map_congr_left;intro i _;simp only[Function.comp_apply];omega
theorem nS (n:Int) (k:Nat):(tj n k).length=k:=by simp[tj]
def qv (s:lz) (vs:List Int) (s':lz):Prop:= ∃ k:Nat,vs=tj s.vars k∧s'.vars=s.vars + k
theorem qv.trans {s s1 s2:lz} {u v:List Int} (h1:qv s u s1) (h2:qv s1 v s2):qv s (u++v) s2:=by
 obtain ⟨j,rfl,e1⟩:=h1;obtain ⟨k,rfl,e2⟩:=h2;exact ⟨j + k,by rw[E8,e1],by omega⟩
theorem qv.nil (s s':lz) (h:s'.vars=s.vars):qv s [] s':=⟨0,rfl,by omega⟩
def Dom (e1 e2:Env):Prop:= ∀ x,(mM e1 x).isSome=true→(mM e2 x).isSome=true
theorem Dom.cons {e1 e2:Env} (h:Dom e1 e2) (x:List UInt8) (n m:Int):Dom ((x,n)::e1) ((x,m)::e2):=fun y hy=>by
 rw[mM] at hy⊢
 split
 ·rfl
 ·rename_i hne
  rw[if_neg hne] at hy;exact h y hy
theorem Dom.nil (e:Env):Dom [] e:=fun x h=>by cases h
def oz (k:Nat) (s:lz):Prop:=0≤s.vars∧s.vars + k≤1000000000000∧s.cs.length + k≤1000000000
def iE (k:Nat) (s s':lz):Prop:=s.vars≤s'.vars∧s'.vars≤s.vars + k∧s'.cs.length≤s.cs.length + k
theorem iE.refl (k:Nat) (s:lz):iE k s s:=⟨Int.le_refl _,by omega,by omega⟩
theorem iE.trans {j k:Nat} {s s1 s2:lz} (h1:iE j s s1) (h2:iE k s1 s2):iE (j + k) s s2:=by unfold iE at *; omega
theorem iE.mono {j k:Nat} {s s1:lz} (h:iE j s s1) (hk:j≤k):iE k s s1:=by unfold iE at *; omega
theorem oz.step {j k:Nat} {s s1:lz} (h:oz (j + k) s) (h1:iE j s s1):oz k s1:=by unfold oz iE at *; omega
theorem oz.mono {j k:Nat} {s:lz} (h:oz j s) (hk:k≤j):oz k s:=by unfold oz at *; omega
theorem iE.more {n k:Nat} {s s':lz} {c:List Datum} {l:Bool} (h:iE k ⟨s.cs,s.vars + n,l⟩ s') (hc:c=s.cs):iE (n + k) s s':=by
 obtain ⟨h1,h2,h3⟩:=h;dsimp only at h1 h2 h3;exact ⟨by omega,by omega,by omega⟩
def Ov (tm:Datum→Env→lz→ME) (x:Datum):Prop:= ∀ e s,iE x.sz s (tm x e s).2∧(tm x e s).1.aR≤x.sz
theorem D7 {tm:Datum→Env→lz→ME}: ∀ (l:List Datum),(∀ x∈l,Ov tm x)→ ∀ (e:Env) (s:lz),iE (Datum.ef l) s (dJ tm l e s).2∧aa.aE (dJ tm l e s).1≤Datum.ef l
 | [],_,_,s=>⟨iE.refl _ s,by simp[dJ,aa.aE]⟩
 | x::l,h,e,s=>by
  have h1:=h x (by simp) e s;have h2:=D7 l (fun y hy=>h y (List.mem_cons_of_mem _ hy)) e (tm x e s).2;rw[dJ,Datum.ef,aa.aE];exact ⟨h1.1.trans h2.1,by omega⟩
theorem yZ {d:Datum} (hp:d.pr=true):(ei d).length≤d.sz:=by
 have h:=(Datum.zl d.sz d (Nat.le_refl _) hp).1;have h2:=d.an.2.dy;rw[ei,List.length_append]
 split<;>simp<;>omega
theorem rE {l:List Datum} (h:1 < l.length):Datum.ef l=(l.getD 0 aK).sz + (l.getD 1 aK).sz + Datum.ef (l.drop 2):=by
 match l,h with
 | x::y::l,_=>simp[Datum.ef];omega
theorem Hr (nf:Int): ∀ (n:Nat) (d:Datum),d.pr=true→Ov (TF nf n) d
 | 0,d,_,e,s=>⟨iE.refl _ s,d.dy⟩
 | n + 1,d,hp,e,s=>by
  have hs:=Datum.lQ hp;have hpl: ∀ x∈d.an.1,x.pr=true:=fun x hx=>(Datum.kD hp hx).2;have key: ∀ l:List Datum,(∀ x∈l,x.pr=true)→ ∀ e s,iE (Datum.ef l) s (dJ (TF nf n) l e s).2∧aa.aE (dJ (TF nf n) l e s).1≤Datum.ef l:=fun l h=>D7 l fun x hx=>Hr nf n x (h x hx);have hpos:=d.dy;have hb0: ∀ (op k:Int) (l:List aa),(aa.mk op k [] l).aR=1 + aa.aE l:=fun op k l=>by rw[aa.aR];simp
  have kd: ∀ k, ∀ e s,iE (Datum.ef (d.an.1.drop k)) s (dJ (TF nf n) (d.an.1.drop k) e s).2∧aa.aE (dJ (TF nf n) (d.an.1.drop k) e s).1≤Datum.ef (d.an.1.drop k):=fun k=>key _ fun x hx=>hpl x (List.mem_of_mem_drop hx);have hz1:=Datum.nr d.an.1 1;have hz2:=Datum.nr d.an.1 2;rw[TF];dsimp only
  split
  ·split
   ·exact ⟨iE.refl _ s,by rw[hb0];simp[aa.aE];omega⟩
   ·split
    ·exact ⟨iE.refl _ s,by rw[hb0];simp[aa.aE];omega⟩
    ·exact ⟨⟨Int.le_refl _,by dsimp only;omega,by simp⟩,by rw[hb0];simp[aa.aE];omega⟩
  split
  ·split
   ·exact ⟨⟨Int.le_refl _,by dsimp only;omega,by simp;omega⟩,by rw[hb0];simp[aa.aE];omega⟩
   split
   ·have h:=kd 1 e s
    exact ⟨h.1.mono (by omega),by rw[hb0];omega⟩
   split
   ·have h:=kd 1 e s
    exact ⟨h.1.mono (by omega),by rw[hb0];omega⟩
   split
   ·rcases Nat.lt_or_ge 1 d.an.1.length with hl | hl
    ·have hf:=yZ (hpl _ (gB hl))
     have hsz:=rE hl;have h:=kd 2 (gz e s.vars ((ei (d.an.1.getD 1 aK)).map Datum.s)) ⟨s.cs,s.vars + (ei (d.an.1.getD 1 aK)).length,s.lost⟩;have hp0:=(d.an.1.getD 0 aK).dy;refine ⟨(h.1.more rfl).mono (by omega),?_⟩;dsimp only;rw[aa.aR,nS];omega
    ·have e1:d.an.1.getD 1 aK=aK:=by simp[List.getD,hl]
     have e2:d.an.1.drop 2= []:=List.drop_of_length_le (by omega);have hf:ei aK= []:=rfl;rw[e1,e2,hf];refine ⟨⟨?_,?_,?_⟩,?_⟩<;>simp[dJ,aa.aR,aa.aE,tj]<;>omega
   split
   ·rcases Nat.lt_or_ge 1 d.an.1.length with hl | hl
    ·have hp1:=hpl _ (gB hl)
     have hsz:=rE hl;have hp0:=(d.an.1.getD 0 aK).dy
     have hp2:(d.an.1.getD 2 aK).pr=true∧(d.an.1.getD 2 aK).sz≤Datum.ef (d.an.1.drop 2) + 1:=by
      rcases Nat.lt_or_ge 2 d.an.1.length with h2 | h2
      ·refine ⟨hpl _ (gB h2),?_⟩
       have:d.an.1.getD 2 aK∈d.an.1.drop 2:=by
        rw[aO h2,List.mem_drop_iff_getElem];exact ⟨0,by omega,rfl⟩
       have:=Datum.eB this;omega
      ·have:d.an.1.getD 2 aK=aK:=by simp[List.getD,h2]
       rw[this];exact ⟨rfl,by show 1≤_;omega⟩
     have hB:Datum.ef (((dw (d.an.1.getD 1 aK)).getD []).map Prod.snd) + ((dw (d.an.1.getD 1 aK)).getD []).length≤(d.an.1.getD 1 aK).sz∧ ∀ x∈((dw (d.an.1.getD 1 aK)).getD []).map Prod.snd,x.pr=true:=by
      cases hb:dw (d.an.1.getD 1 aK) with
      | none=>simp[Datum.ef]
      | some b=>
       obtain ⟨h1,h2⟩:=jh hp1 hb;refine ⟨by simp only[Option.getD_some];omega,fun x hx=>?_⟩;obtain ⟨p,hp',rfl⟩:=List.mem_map.1 hx;exact (h2 p hp').2
     generalize (dw (d.an.1.getD 1 aK)).getD []=B at *
     have h:=key (B.map Prod.snd++ [d.an.1.getD 2 aK]) (fun x hx=>by
      rcases List.mem_append.1 hx with hx | hx
      ·exact hB.2 x hx
      ·rw[List.mem_singleton] at hx;subst hx;exact hp2.1) (gz e s.vars (B.map fun p=>p.1.s)) ⟨s.cs,s.vars + B.length,s.lost⟩
     rw[Datum.l8,Datum.ef,Datum.ef] at h;refine ⟨(h.1.more rfl).mono (by omega),?_⟩;dsimp only;rw[aa.aR,nS];omega
    ·have e1:d.an.1.getD 1 aK=aK:=by simp[List.getD,hl]
     have e2:d.an.1.getD 2 aK=aK:=by simp[List.getD,show d.an.1.length≤2 by omega]
     have hd3:3≤d.sz:=by
      have:0 < d.an.1.length:=by
       rcases Nat.eq_zero_or_pos d.an.1.length with h0 | h0
       ·rename_i hh _ _ _ _ _
        have:=List.eq_nil_of_length_eq_zero h0;rw[this] at hh;exact absurd hh.1 (by decide)
       ·exact h0
      have:=Datum.l9 d.an.1;omega
     have h:=key [aK] (fun x hx=>by rw[List.mem_singleton] at hx;subst hx;rfl) e ⟨s.cs,s.vars + ((0:Nat):Int),s.lost⟩;rw[e1,e2];have hb:(dw aK).getD []= []:=rfl;rw[hb];have hz:Datum.ef [aK]=1:=rfl;rw[hz] at h;refine ⟨(iE.more h.1 rfl).mono (by omega),?_⟩;show (aa.mk 7 _ (tj s.vars 0) (dJ (TF nf n) [aK] e ⟨s.cs,s.vars + ((0:Nat):Int),s.lost⟩).1).aR≤_;rw[aa.aR,nS];omega
   split
   ·split
    ·have h:=kd 2 e s
     exact ⟨h.1.mono (by omega),by rw[hb0];omega⟩
    ·have h:=kd 2 e ⟨s.cs,s.vars,true⟩
     exact ⟨h.1.mono (by omega),by rw[hb0];omega⟩
   ·have h:=key _ hpl e s
    exact ⟨h.1.mono (by omega),by rw[hb0];omega⟩
  ·have h:=key _ hpl e s
   exact ⟨h.1.mono (by omega),by rw[hb0];omega⟩
theorem HL {n:Nat} {d:Datum} (h:cm (n + 1) d=true) (hk: ¬d.kind=2):dP d=true∧0 < d.an.1.length:=by
 rw[cm,if_neg hk] at h;dsimp only at h
 split at h
 ·cases h
 ·rename_i h1
  refine ⟨by simpa using fun h2=>h1 (.inl h2),?_⟩;rcases Nat.eq_zero_or_pos d.an.1.length with h0 | h0
  ·exact absurd (.inr (List.eq_nil_of_length_eq_zero h0)) h1
  ·exact h0
theorem ga {n:Nat} {d:Datum} (h:cm (n + 1) d=true) (hk: ¬d.kind=2): ∃ r:Bool,r=true∧r=(let l:=d.an.1
  let h:=l.getD 0 aK
  if h.kind=2∧qO h.s=true then
   if h.s=ez then l.length == 2 else
   if h.s=qP then l.length == 4 && (l.drop 1).all (cm n) else
   if h.s=dc then l.length == 3 && gG (l.getD 1 aK) && (l.drop 2).all (cm n) else
   if h.s=mQ then l.length == 3 && DU (l.getD 1 aK) && (l.drop 2).all (cm n) else
   if h.s=iw then decide (2≤l.length) && (l.drop 1).all (cm n) else
   if h.s=gI∨h.s=cg then
    if l.length≠3 then false else match dw (l.getD 1 aK) with
     | none=>false
     | some b=>iU (b.map Prod.fst) [] && (b.map Prod.snd++ [l.getD 2 aK]).all (cm n)
   else false
  else l.all (cm n)):=by
 refine ⟨_,h,?_⟩;rw[cm,if_neg hk];dsimp only
 split
 ·rename_i h1
  have:=HL h hk;rcases h1 with h1 | h1
  ·rw[h1] at this;cases this.1
  ·rw[h1] at this;simp at this
 ·rfl
section
variable {n:Nat} {d:Datum} (h:cm (n + 1) d=true) (hk: ¬d.kind=2) (hh:(d.an.1.getD 0 aK).kind=2∧qO (d.an.1.getD 0 aK).s=true)
include h hk
include hh in
theorem CR (hs:(d.an.1.getD 0 aK).s=ez):d.an.1.length=2:=by
 obtain ⟨r,hr,e⟩:=ga h hk;rw[hr] at e;dsimp only at e;rw[if_pos hh,if_pos hs] at e;simpa using e.symm
include hh in
theorem KH (hs:(d.an.1.getD 0 aK).s=qP):d.an.1.length=4∧ ∀ x∈d.an.1.drop 1,cm n x=true:=by
 obtain ⟨r,hr,e⟩:=ga h hk;have hq: ¬(d.an.1.getD 0 aK).s=ez:=by rw[hs];decide
 rw[hr] at e;dsimp only at e;rw[if_pos hh,if_neg hq,if_pos hs] at e;have e:=e.symm;rw[Bool.and_eq_true,List.all_eq_true] at e;exact ⟨by simpa using e.1,e.2⟩
include hh in
theorem AZ (hs:(d.an.1.getD 0 aK).s=dc):d.an.1.length=3∧gG (d.an.1.getD 1 aK)=true∧ ∀ x∈d.an.1.drop 2,cm n x=true:=by
 obtain ⟨r,hr,e⟩:=ga h hk;have hq: ¬(d.an.1.getD 0 aK).s=ez:=by rw[hs];decide
 have q1: ¬(d.an.1.getD 0 aK).s=qP:=by rw[hs];decide
 rw[hr] at e;dsimp only at e;rw[if_pos hh,if_neg hq,if_neg q1,if_pos hs] at e;have e:=e.symm;rw[Bool.and_eq_true,List.all_eq_true,Bool.and_eq_true] at e;exact ⟨by simpa using e.1.1,e.1.2,e.2⟩
include hh in
theorem HM (hs:(d.an.1.getD 0 aK).s=mQ):d.an.1.length=3∧DU (d.an.1.getD 1 aK)=true∧ ∀ x∈d.an.1.drop 2,cm n x=true:=by
 obtain ⟨r,hr,e⟩:=ga h hk;have hq: ¬(d.an.1.getD 0 aK).s=ez:=by rw[hs];decide
 have q1: ¬(d.an.1.getD 0 aK).s=qP:=by rw[hs];decide
 have q2: ¬(d.an.1.getD 0 aK).s=dc:=by rw[hs];decide
 rw[hr] at e;dsimp only at e;rw[if_pos hh,if_neg hq,if_neg q1,if_neg q2,if_pos hs] at e;have e:=e.symm;rw[Bool.and_eq_true,List.all_eq_true,Bool.and_eq_true] at e;exact ⟨by simpa using e.1.1,e.1.2,e.2⟩
include hh in
theorem CQ (hs:(d.an.1.getD 0 aK).s=iw):2≤d.an.1.length∧ ∀ x∈d.an.1.drop 1,cm n x=true:=by
 obtain ⟨r,hr,e⟩:=ga h hk;have hq: ¬(d.an.1.getD 0 aK).s=ez:=by rw[hs];decide
 have q1: ¬(d.an.1.getD 0 aK).s=qP:=by rw[hs];decide
 have q2: ¬(d.an.1.getD 0 aK).s=dc:=by rw[hs];decide
 have q3: ¬(d.an.1.getD 0 aK).s=mQ:=by rw[hs];decide
 rw[hr] at e;dsimp only at e;rw[if_pos hh,if_neg hq,if_neg q1,if_neg q2,if_neg q3,if_pos hs] at e;have e:=e.symm;rw[Bool.and_eq_true,List.all_eq_true] at e;exact ⟨by simpa using e.1,e.2⟩
include hh in
theorem A0 (hs:(d.an.1.getD 0 aK).s=gI∨(d.an.1.getD 0 aK).s=cg):d.an.1.length=3∧ ∃ B,dw (d.an.1.getD 1 aK)=some B∧iU (B.map Prod.fst) []=true∧ ∀ x∈B.map Prod.snd++ [d.an.1.getD 2 aK],cm n x=true:=by
 obtain ⟨r,hr,e⟩:=ga h hk;have hq: ¬(d.an.1.getD 0 aK).s=ez:=by rcases hs with hs | hs<;>rw[hs]<;>decide
 have q1: ¬(d.an.1.getD 0 aK).s=qP:=by rcases hs with hs | hs<;>rw[hs]<;>decide
 have q2: ¬(d.an.1.getD 0 aK).s=dc:=by rcases hs with hs | hs<;>rw[hs]<;>decide
 have q3: ¬(d.an.1.getD 0 aK).s=mQ:=by rcases hs with hs | hs<;>rw[hs]<;>decide
 have q4: ¬(d.an.1.getD 0 aK).s=iw:=by rcases hs with hs | hs<;>rw[hs]<;>decide
 rw[hr] at e;dsimp only at e;rw[if_pos hh,if_neg hq,if_neg q1,if_neg q2,if_neg q3,if_neg q4,if_pos hs] at e;have e:=e.symm
 split at e
 ·cases e
 ·rename_i h3
  refine ⟨by simpa using h3,?_⟩
  cases hB:dw (d.an.1.getD 1 aK) with
  | none=>rw[hB] at e;cases e
  | some B=>
   rw[hB] at e;dsimp only at e;rw[Bool.and_eq_true,List.all_eq_true] at e;exact ⟨B,rfl,e.1,e.2⟩
include hh in
theorem Fq (h1: ¬(d.an.1.getD 0 aK).s=ez) (h2: ¬(d.an.1.getD 0 aK).s=qP) (h3: ¬(d.an.1.getD 0 aK).s=dc) (h4: ¬(d.an.1.getD 0 aK).s=mQ) (h5: ¬(d.an.1.getD 0 aK).s=iw) (h6: ¬(d.an.1.getD 0 aK).s=gI) (h7: ¬(d.an.1.getD 0 aK).s=cg):False:=by
 obtain ⟨r,hr,e⟩:=ga h hk;rw[hr] at e;dsimp only at e;rw[if_pos hh,if_neg h1,if_neg h2,if_neg h3,if_neg h4,if_neg h5,if_neg (not_or.2 ⟨h6,h7⟩)] at e;cases e
theorem HK (hn: ¬((d.an.1.getD 0 aK).kind=2∧qO (d.an.1.getD 0 aK).s=true)): ∀ x∈d.an.1,cm n x=true:=by
 obtain ⟨r,hr,e⟩:=ga h hk;rw[hr] at e;dsimp only at e;rw[if_neg hn] at e;exact List.all_eq_true.1 e.symm
end
theorem rA: ∀ (d:Datum) (deep:Int),d.bJ deep=true→d.pr=true:=by
 intro d
 induction d using Datum.ind with
 | h d ih=>
  intro deep h;rw[Datum.kZ,Bool.and_eq_true] at h
  have key: ∀ l:List Datum,(∀ y∈l, ∀ deep:Int,y.bJ deep=true→y.pr=true)→ ∀ deep,Datum.ee l deep=true→Datum.Mt l=true:=by
   intro l
   induction l with
   | nil=>intro _ _ _;rfl
   | cons x l ihl=>
    intro hy deep h;rw[Datum.ee,Bool.and_eq_true] at h;rw[Datum.Mt,hy x (by simp) deep h.1,ihl (fun y hm=>hy y (List.mem_cons_of_mem _ hm)) deep h.2];rfl
  rw[Datum.I8,key d.l ih _ h.2,Bool.and_true];have h1:=h.1;unfold gx at h1;simp only[Bool.not_eq_true',Bool.or_eq_false_iff] at h1;have h2:=h1.2.1;by_cases h6:d.kind=6
  ·simp[h6] at h2
   simp[h6];omega
  ·simp[h6]
theorem si: ∀ {l:List Datum} {k:Int},Datum.ee l k=true→ ∀ x∈l,x.bJ k=true
 | [],_,_,x,hx=>by cases hx
 | y::l,k,h,x,hx=>by
  rw[Datum.ee,Bool.and_eq_true] at h;rcases List.mem_cons.1 hx with rfl | hx
  ·exact h.1
  ·exact si h.2 x hx
theorem BY {d:Datum} {k:Int} (h:d.bJ k=true) (hk:d.kind=2):d.s.length≤40:=by
 rw[Datum.kZ,Bool.and_eq_true] at h;have h1:=h.1;unfold gx at h1;simp only[Bool.not_eq_true',Bool.or_eq_false_iff] at h1;have h2:=h1.1.1.2.1;rw[hk] at h2;simp[ot] at h2;exact h2.2.1
theorem Dh (d:Datum):(∃ k:Int,d.bJ k=true)→aA Tryz.prog 59 [.agg d.cells] (.bool d.Og):=by
 induction d using Datum.ind with
 | h d ih=>
  rintro ⟨kk,hr⟩;have hnm:=fun hk=>BY hr hk
  have hch: ∀ x∈d.l, ∃ k:Int,x.bJ k=true:=fun x hx=>by
   rw[Datum.kZ,Bool.and_eq_true] at hr;exact ⟨kk + 1,si hr.2 x hx⟩
  rw[Datum.Nn];refine af.ah ai Tryz.func59 rfl rfl (n:=35) rfl rfl ?_
  conv=>whnf
  repeat (((intro _);conv=>whnf))
  rename_i b1;refine ax.keep [2,3,5,6,7,8,9,10,11,12,13,14,15,16,17,18,19,20,21] (fun i:Nat=> [(3,.int .i64 i)]) (fun i=>i≤d.s.length∧(d.kind=2→(d.s.drop i).contains 37=d.s.contains 37)) (fun i=>d.s.length - i) 0 ⟨by omega,fun _=>rfl⟩ wA ?_;rintro i ⟨hi,he⟩
  conv=>whnf
  repeat' (first|refine aY ?_|(refine zX (fun hc=>?_) (fun hc=>?_)<;>(try simp only[SY] at hc)<;>(conv=>whnf)))
  ·have hk:=(‹d.kind=2∧(i:Int) < d.s.length›).1
   have hlt:i < d.s.length:=by omega
   have hb:d.s.getD i 0=37:=by
    have h37:((37:UInt8).toNat:Int)=37:=rfl;exact UInt8.toNat_inj.1 (by omega)
   have hcn:d.s.contains 37=true:=by
    rw[←he hk,dB hlt,List.contains_cons,hb];rfl
   rw[hk,hcn];exact ak.pure (Wk.tt rfl)
  ·have hk:=(‹d.kind=2∧(i:Int) < d.s.length›).1
   have hlt:i < d.s.length:=by omega
   have hb: ¬d.s.getD i 0=37:=fun h=>by rw[h] at hc;exact hc rfl
   have hnm2:=hnm hk
   conv=>whnf
   skip
   refine av (i + 1) ⟨by omega,fun _=>?_⟩ (by show d.s.length - (i + 1) < d.s.length - i;omega) wA;rw[←he hk]
   conv=>rhs;rw[dB hlt,List.contains_cons]
   rw[show ((37:UInt8) == d.s.getD i 0)=false from beq_eq_false_iff_ne.2 (fun h=>hb h.symm),Bool.false_or]
  ·have hne:(d.kind == 2 && d.s.contains 37)=false:=by
    rcases hc with h | h
    ·rw[show (d.kind == 2)=false from beq_eq_false_iff_ne.2 h];rfl
    ·by_cases hk:d.kind=2
     ·rw[←he hk,List.drop_of_length_le (by omega)];simp
     ·rw[show (d.kind == 2)=false from beq_eq_false_iff_ne.2 hk];rfl
   rw[hne,Bool.false_or];refine ax.keep [2,4,22,23,24,25,26,27,28,29,30,31,32,33,34] (fun j:Nat=> [(4,.int .i64 j)]) (fun j=>j≤d.l.length∧Datum.BH (d.l.drop j)=Datum.BH d.l) (fun j=>d.l.length - j) 0 ⟨by omega,rfl⟩ wA ?_;rintro j ⟨hj,he2⟩
   conv=>whnf
   repeat' (first|refine aY ?_|((first|refine pC (ih _ (List.getElem_mem _) (hch _ (List.getElem_mem _))) wR ?_|intro _);conv=>whnf)|(refine zX (fun hc=>?_) (fun hc=>?_)<;>(try simp only[SY] at hc)<;>(conv=>whnf)))
   ·have hlt:j < d.l.length:=by omega
    rw[aJ hlt,Datum.BH,hc,Bool.true_or] at he2;exact ak.pure (Wk.tt he2.symm)
   ·have hlt:j < d.l.length:=by omega
    rw[aJ hlt,Datum.BH,hc,Bool.false_or] at he2;exact av (j + 1) ⟨by omega,he2⟩ (by show d.l.length - (j + 1) < d.l.length - j;omega) wA
   ·rw[List.drop_of_length_le (by omega),Datum.BH] at he2
    exact ak.pure (Wk.ff he2.symm)
def z7 (l:List (Datum×Datum)):Datum:=gJ (l.map fun p=>gJ [p.1,p.2])
def AD (ex:Datum→Option Datum):List Datum→Option (List Datum)
 | []=>some []
 | x::l=>match ex x,AD ex l with
  | some y,some m=>some (y::m)
  | _,_=>none
def sB (ex:Datum→Option Datum) (l:List Datum):Option Datum:=
 if l.length=1∧ ¬(dP (l.getD 0 aK)=true∧OX ((l.getD 0 aK).an.1.getD 0 aK) vc=true) then ex (l.getD 0 aK) else none
def Nd (ex:Datum→Option Datum) (f:Datum) (b:List Datum):Option Datum:=if gG f=true then (sB ex b).map fun y=>gJ [wK dc,f,y] else none
def NF (ex:Datum→Option Datum) (key:List UInt8) (d:Datum) (b:List Datum):Option Datum:=match dw d with
 | none=>none
 | some L=>if iU (L.map Prod.fst) []=true then match AD ex (L.map Prod.snd),sB ex b with
  | some vs,some y=>some (gJ [wK key,z7 ((L.map Prod.fst).zip vs),y])
  | _,_=>none else none
def M3 (ex:Datum→Option Datum) (key:List UInt8) (l:List Datum):Option Datum:=
 if l.length=2∧key=dc then Nd ex (l.getD 0 aK) (l.drop 1) else
 if l.length=2∧key=cg then NF ex key (l.getD 0 aK) (l.drop 1) else none
def pQ:Nat→Datum→Option Datum
 | 0,_=>none
 | n + 1,d=>
  if d.kind=2 then (if qO d.s=true then none else some d) else
  if d.kind=6∧dP d=true then
   (if (d.an.1.getD 0 aK).kind=2∧qO (d.an.1.getD 0 aK).s=true then M3 (pQ n) (d.an.1.getD 0 aK).s (d.an.1.drop 1)
   else (AD (pQ n) d.an.1).map gJ)
  else none
section
variable (b:Nat) (s:Ox)
abbrev N9 (x y:Datum):Prop:=af Tryz.prog 112 [.ptr b 0,.agg x.cells] [oM b s] (fun z Γ'=>z=.agg y.cells∧Γ'= [oM b s])
theorem Hu (ex:Datum→Option Datum) (l m:List Datum) (hm:AD ex l=some m) (hl:l.length≤1000000000) (hx: ∀ x∈l, ∀ y,ex x=some y→N9 b s x y):
  m.length=l.length∧af Tryz.prog 165 [.ptr b 0,.sl 5 (l.map Datum.pv) none] [oM b s] (fun y Γ'=>y=.sl 5 (m.map Datum.pv) none∧Γ'= [oM b s]):=by
 have hgo: ∀ (l m:List Datum),AD ex l=some m→m.length=l.length∧ ∀ (i:Nat) (h:i < l.length) (h':i < m.length),ex l[i]=some m[i]:=by
  intro l
  induction l with
  | nil=>intro m h;rw[AD] at h;obtain rfl:=Option.some.inj h;exact ⟨rfl,fun i h=>by cases h⟩
  | cons x l ih=>
   intro m h;rw[AD] at h
   split at h
   ·rename_i y r h1 h2
    obtain rfl:=Option.some.inj h;obtain ⟨e,k⟩:=ih r h2;refine ⟨by rw[List.length_cons,List.length_cons,e],fun i hi hi'=>?_⟩
    cases i with
    | zero=>exact h1
    | succ i=>exact k i (by simpa using hi) (by simpa using hi')
   ·cases h
 obtain ⟨hml,hat⟩:=hgo l m hm;refine ⟨hml,?_⟩;refine af.ah ai Tryz.func165 rfl rfl (n:=23) rfl rfl ?_
 conv=>whnf
 skip
 refine ax.gh (au.nil 5 55 _) ?_
 refine ax.over [5,6,7,8,9,10,11,12,13,14,15,16,17,18,19,20,21] (fun x:Nat×Tok=> [(5,.sl 5 ((m.take x.1).map Datum.pv) (some x.2)),(6,.int .i64 x.1)]) (fun x:Nat×Tok=> [.tok x.2,oM b s])
  (fun x=>x.1≤l.length∧x.2.e=55) (fun x=>l.length - x.1) (0,aB 5 55) ⟨Nat.zero_le _,rfl⟩ wA ?_
 rintro ⟨i,tk⟩ ⟨hi,htk⟩;dsimp only at hi htk ⊢;have hml2:(m.take i).length=i:=by rw[List.length_take];omega
 conv=>whnf
 repeat' (first|refine aY ?_|((intro _);conv=>whnf)|(refine zX (fun hc=>?_) (fun hc=>?_)<;>(try simp only[SY] at hc)<;>(conv=>whnf)))
 ·have hlt:i < l.length:=by omega
  refine aq.go (hx _ (List.getElem_mem hlt) _ (hat i hlt (by omega))) (aX.refl _) ?_;rintro _ _ ⟨rfl,rfl⟩
  conv=>whnf
  repeat' (first|refine aY ?_|((intro _);conv=>whnf)|(refine zX (fun hc=>?_) (fun hc=>?_)<;>(try simp only[SY] at hc)<;>omega))
  rename_i t2 ht2;have e:m.take i++ [m[i]'(by omega)]=m.take (i + 1):=(List.take_succ_eq_append_getElem (by omega)).symm;rw[e];exact av (i + 1,t2) ⟨by show i + 1≤_;omega,ht2⟩ (by show l.length - (i + 1) < l.length - i;omega) wA
 ·rw[List.take_of_length_le (by omega)]
  exact ak.gen (y:=.sl 5 (m.map Datum.pv) none) (Γ':= [oM b s]) (Wk.tok _ _ _) ⟨rfl,rfl⟩
theorem Hz (hs:s.bad=false) (ex:Datum→Option Datum) (l:List Datum) (y:Datum) (hp: ∀ x∈l,x.pr=true) (hsz:Datum.ef l≤1000000000) (hy:sB ex l=some y) (hx: ∀ x∈l, ∀ y,ex x=some y→N9 b s x y):
  af Tryz.prog 60 [.ptr b 0,.sl 5 (l.map Datum.pv) none] [oM b s] (fun z Γ'=>z=.agg y.cells∧Γ'= [oM b s]):=by
 unfold sB at hy
 split at hy
 ·rename_i hn
  obtain ⟨hl,hn⟩:=hn;have h0:0 < l.length:=by omega
  rw[aO h0] at hy hn;have hc1:=hx _ (List.getElem_mem h0) y hy;have hI:=kU (l[0]'h0) (hp _ (List.getElem_mem h0)) (by have:=Datum.eB (List.getElem_mem h0);omega)
  have hno: ¬(((dP (l[0]'h0)=true∧ ¬((l[0]'h0).an.1.length:Int)=0)∧((l[0]'h0).an.1.getD 0 (wO.d:Datum)).kind=2)∧((l[0]'h0).an.1.getD 0 (wO.d:Datum)).s= [100,101,102,105,110,101]):=fun h=>by
   have hl0:0 < (l[0]'h0).an.1.length:=by omega
   have e:(l[0]'h0).an.1.getD 0 (wO.d:Datum)=(l[0]'h0).an.1.getD 0 aK:=by simp[List.getD,hl0]
   rw[e] at h;exact hn ⟨h.1.1.1,by unfold OX;rw[h.1.2,h.2];rfl⟩
  have hdc:=e6 [] (by simp);have hd0:iU [] []=true:=rfl;rw[hd0] at hdc;refine af.ah ai Tryz.func60 rfl rfl (n:=155) rfl rfl ?_
  conv=>whnf
  repeat' (first|((intro _);conv=>whnf)|(refine zX (fun hc=>?_) (fun hc=>?_)<;>(try simp only[SY] at hc)<;>omega))
  rename_i b4;refine ax.gh (au.trans (au.nil 5 55 _) (au.nil 5 55 _)) ?_
  refine ax.O6 0 [5,6,7,8,9,11,12,13,14,15,16,17,18,19,20,21,22,23,24,25,26,27,28,29,30,31,32,33,34,35,36,37,38,39,40,41,42,43,44,45,46,47,48,49,50,51,52,53,54,55,56,57,58,59,60,61,62,63,64,65,66,67,68,69,70,71,72,73,74,75,76,77,78,79,80,81,82,83,84,85,86,87,88,89,90,91,92,93,94,95,96,97,98,99,100,101,102,103,104,105,106,107,108,109,110,111,112,113,114,115,116] (fun k:Nat=> [(5,.sl 5 (([]:List Datum).map Datum.pv) (some (aB 5 55))),(6,.sl 5 (([]:List Datum).map Datum.pv) (some (aB 5 55))),(7,.int .i64 k)])
   (fun _=> [.tok (aB 5 55),.tok (aB 5 55),BW b4,oM b s]) (fun k=>k=0) (fun _=>0) 0
   (fun k:Nat=> [(5,.sl 5 (([]:List Datum).map Datum.pv) (some (aB 5 55))),(6,.sl 5 (([]:List Datum).map Datum.pv) (some (aB 5 55))),(7,.int .i64 k)])
   (fun _=> [.tok (aB 5 55),.tok (aB 5 55),BW b4,oM b s]) (fun k=>k=0) rfl wA ?_ ?_
  ·rintro k rfl
   conv=>whnf
   repeat' (first|refine aY ?_|((first|refine pC (hI) wR ?_|intro _);conv=>whnf)|(refine zX (fun hc=>?_) (fun hc=>?_)<;>(try simp only[SY] at hc)<;>(conv=>whnf)))
   all_goals try (exfalso;exact hno (by assumption))
   all_goals first | (exfalso;omega) | exact K3 0 rfl wA
  ·rintro k rfl
   conv=>whnf
   repeat' (first|refine aY ?_|(refine zX (fun hc=>?_) (fun hc=>?_)<;>(try simp only[SY] at hc)<;>omega))
   refine pC hdc (.cons (Wk.tok _ _ _) .nil) ?_
   conv=>whnf
   repeat' (first|refine aY ?_|((intro _);conv=>whnf)|(refine zX (fun hc=>?_) (fun hc=>?_)<;>(try simp only[SY] at hc)<;>first|omega|(conv=>whnf)))
   all_goals first | (exfalso;omega) | skip
   refine aq.go hc1 (aX.refl _) ?_;rintro _ _ ⟨rfl,rfl⟩
   conv=>whnf
   repeat' (first|refine aY ?_|(refine zX (fun hc=>?_) (fun hc=>?_)<;>(try simp only[SY] at hc)<;>first|omega|(conv=>whnf)))
   exact ak.gen (y:=.agg y.cells) (Γ':= [oM b s]) (Wk.refl _) ⟨rfl,rfl⟩
 ·cases hy
theorem Nf (ex:Datum→Option Datum) (f:Datum) (l:List Datum) (y:Datum) (hf:f.pr=true) (hfs:f.sz≤1000000000) (hy:Nd ex f l=some y)
  (hb: ∀ y,sB ex l=some y→af Tryz.prog 60 [.ptr b 0,.sl 5 (l.map Datum.pv) none] [oM b s] (fun z Γ'=>z=.agg y.cells∧Γ'= [oM b s])):
  af Tryz.prog 204 [.ptr b 0,.agg f.cells,.sl 5 (l.map Datum.pv) none] [oM b s] (fun z Γ'=>z=.agg y.cells∧Γ'= [oM b s]):=by
 unfold Nd at hy
 split at hy
 ·rename_i hfm
  have h1:=rX f hf hfs;rw[hfm] at h1
  cases hB:sB ex l with
  | none=>rw[hB] at hy;cases hy
  | some z=>
   rw[hB] at hy;obtain rfl:=Option.some.inj hy;have hc1:=hb z hB;refine af.ah ai Tryz.func204 rfl rfl (n:=19) rfl rfl ?_
   conv=>whnf
   repeat' (first|refine aY ?_|((first|refine pC (h1) wR ?_|intro _);conv=>whnf)|(refine zX (fun hc=>?_) (fun hc=>?_)<;>(try simp only[SY] at hc)<;>(conv=>whnf)))
   refine aD.sE [oM b s] [4] [5,6,7] ai mixed ?_
   conv=>whnf
   repeat (first|refine wu ?_|((((apply zZ);(conv=>whnf);(repeat ((refine pC (E7 _) wR ?_);conv=>whnf));exact pZ));conv=>whnf))
   refine aq.go hc1 (aX.refl _) ?_;rintro _ _ ⟨rfl,rfl⟩
   conv=>whnf
   repeat' (first|refine aY ?_|((first|refine pC (mS) wR ?_|intro _);conv=>whnf)|(refine zX (fun hc=>?_) (fun hc=>?_)<;>(try simp only[SY] at hc)<;>omega))
   exact ak.gen (y:=.agg (gJ [wK dc,f,z]).cells) (Γ':= [oM b s]) (Wk.refl _) (And.intro rfl rfl)
 ·cases hy
theorem FA {p q:Prop} (k:q) (h:q→p:=by intro hq;first | exact aD.sP (some 13) rfl [] [12,13] ai mixed hq):p:=h k
theorem I4 (ns vs:List Datum) (hl:ns.length≤1000000000) (he:ns.length=vs.length):aA Tryz.prog 115 [.sl 5 (ns.map Datum.pv) none,.sl 5 (vs.map Datum.pv) none] (.agg (z7 (ns.zip vs)).cells):=by
 refine af.ah ai Tryz.func115 rfl rfl (n:=28) rfl rfl ?_
 conv=>whnf
 repeat' (first|((intro _);conv=>whnf)|(refine zX (fun hc=>?_) (fun hc=>?_)<;>(try simp only[SY] at hc)<;>omega))
 rename_i b2;refine ax.gh (au.nil 5 55 _) ?_
 refine ax.over [5,6,7,8,9,10,11,12,13,14,15,16,17,18,19,20,21,22,23,24,25] (fun x:Nat×List Datum×Tok=> [(5,.sl 5 (x.2.1.map Datum.pv) (some x.2.2)),(6,.int .i64 x.1)]) (fun x:Nat×List Datum×Tok=> [BW b2,.tok x.2.2])
  (fun x=>x.1≤ns.length∧x.2.2.e=55∧x.2.1=((ns.zip vs).take x.1).map fun p=>gJ [p.1,p.2]) (fun x=>ns.length - x.1) (0, [],aB 5 55) ⟨Nat.zero_le _,rfl,rfl⟩ wA ?_
 rintro ⟨i,m,tk⟩ ⟨hi,htk,hm⟩;dsimp only at hi htk hm ⊢;have hzl:(ns.zip vs).length=ns.length:=by rw[List.length_zip];omega
 have hml:m.length=i:=by rw[hm];simp;omega
 conv=>whnf
 repeat' (first|refine aY ?_|((first|((apply zZ);(conv=>whnf);(repeat ((refine pC (mS) wR ?_);conv=>whnf));exact pZ)|refine pC (mS) wR ?_|refine FA ?_|intro _);conv=>whnf)|(refine zX (fun hc=>?_) (fun hc=>?_)<;>(try simp only[SY] at hc)<;>(conv=>whnf)))
 ·rename_i tx tb htb
  have hlt:i < ns.length:=by omega
  refine av (i + 1,m++ [gJ [ns[i],vs[i]'(by omega)]],tb) ⟨by show i + 1≤_;omega,htb,?_⟩ (by show ns.length - (i + 1) < ns.length - i;omega) wA;refine Eq.trans (congrArg (fun z=>z++_) hm) ?_;rw[List.take_succ_eq_append_getElem (by omega),List.map_append];simp
 ·rw[List.take_of_length_le (by omega)] at hm
  rw[show z7 (ns.zip vs)=gJ m by rw[hm];rfl];exact ak.pure (Wk.refl _)
theorem NG (ex:Datum→Option Datum) (key:List UInt8) (d:Datum) (l:List Datum) (y:Datum) (hp:d.pr=true) (hds:d.sz≤1000000000) (hy:NF ex key d l=some y) (hx: ∀ x:Datum,x.pr=true→x.sz≤d.sz→ ∀ y,ex x=some y→N9 b s x y)
  (hb: ∀ y,sB ex l=some y→af Tryz.prog 60 [.ptr b 0,.sl 5 (l.map Datum.pv) none] [oM b s] (fun z Γ'=>z=.agg y.cells∧Γ'= [oM b s])):
  af Tryz.prog 205 [.ptr b 0,.str key,.agg d.cells,.sl 5 (l.map Datum.pv) none] [oM b s] (fun z Γ'=>z=.agg y.cells∧Γ'= [oM b s]):=by
 unfold NF at hy
 cases hB:dw d with
 | none=>rw[hB] at hy;cases hy
 | some L=>
  rw[hB] at hy;dsimp only at hy;obtain ⟨hz,hpp⟩:=jh hp hB;have hl1:(L.map Prod.fst).length≤1000000000:=by rw[List.length_map];omega
  have hl2:(L.map Prod.snd).length≤1000000000:=by rw[List.length_map];omega
  have hbn:=lG d hp hds;rw[hB] at hbn
  split at hy
  ·rename_i hd
   split at hy
   ·rename_i vs z hA hZ
    obtain rfl:=Option.some.inj hy;have hdc:=e6 (L.map Prod.fst) hl1;rw[hd] at hdc
    obtain ⟨hal,hac⟩:=Hu b s ex (L.map Prod.snd) vs hA hl2 fun x hx'=>by
     have h3:=Datum.eB hx';obtain ⟨p,hp',rfl⟩:=List.mem_map.1 hx';exact hx _ (hpp p hp').2 (by omega)
    have hbc:=hb z hZ;refine af.ah ai Tryz.func205 rfl rfl (n:=41) rfl rfl ?_
    conv=>whnf
    repeat' (first|refine aY ?_|((intro _);conv=>whnf)|(refine zX (fun hc=>?_) (fun hc=>?_)<;>(try simp only[SY] at hc)<;>omega))
    refine aq.go (Γ1:= []) hbn (aX.refl _) ?_;rintro _ _ ⟨tk,htk,rfl,rfl⟩
    conv=>whnf
    repeat' (first|refine aY ?_|(((((apply zY;intro hg));(conv=>whnf);(repeat ((first|refine pC (hdc) wR ?_|refine aH ?_);conv=>whnf));exact pZ));conv=>whnf)|(refine zX (fun hc=>?_) (fun hc=>?_)<;>(try simp only[SY] at hc)<;>(conv=>whnf)))
    refine aq.go hac (.cons (Wk.refl _) (.cons (Wk.tok _ _ _) .nil)) ?_;rintro _ _ ⟨rfl,rfl⟩
    conv=>whnf
    repeat' (first|((first|refine pC (E7 _) wR ?_|refine pC (I4 (L.map Prod.fst) vs hl1 (by rw[hal,List.length_map,List.length_map])) wR ?_);conv=>whnf)|(refine zX (fun hc=>?_) (fun hc=>?_)<;>(try simp only[SY] at hc)<;>omega))
    refine aq.go hbc (aX.refl _) ?_;rintro _ _ ⟨rfl,rfl⟩
    conv=>whnf
    repeat' (first|refine aY ?_|((first|refine pC (mS) wR ?_|intro _);conv=>whnf)|(refine zX (fun hc=>?_) (fun hc=>?_)<;>(try simp only[SY] at hc)<;>omega))
    exact ak.gen (y:=.agg (gJ [wK key,z7 ((L.map Prod.fst).zip vs),z]).cells) (Γ':= [oM b s]) (Wk.refl _) (And.intro rfl rfl)
   ·cases hy
  ·cases hy
theorem xk {p q:Prop} (k:q) (h:q→p:=by intro hq;first | exact aD.sP (some 63) rfl [] [6,7] ai mixed hq | exact aD.sP (some 101) rfl [] [7,8] ai mixed hq | exact aD.sP (some 143) rfl [] [6,7] ai mixed hq):p:=h k
theorem M4 (ex:Datum→Option Datum) (key:List UInt8) (l:List Datum) (y:Datum) (hp: ∀ x∈l,x.pr=true) (hsz:Datum.ef l≤1000000000) (hy:M3 ex key l=some y) (hx: ∀ x:Datum,x.pr=true→x.sz≤Datum.ef l→ ∀ y,ex x=some y→N9 b s x y)
  (hb: ∀ y,sB ex (l.drop 1)=some y→af Tryz.prog 60 [.ptr b 0,.sl 5 ((l.drop 1).map Datum.pv) none] [oM b s] (fun z Γ'=>z=.agg y.cells∧Γ'= [oM b s])):
  af Tryz.prog 164 [.ptr b 0,.str key,.sl 5 (l.map Datum.pv) none] [oM b s] (fun z Γ'=>z=.agg y.cells∧Γ'= [oM b s]):=by
 unfold M3 at hy
 split at hy
 ·rename_i hk
  obtain ⟨hl,hk⟩:=hk;replace hk:key= [108,97,109,98,100,97]:=hk;have h0:0 < l.length:=by omega
  rw[aO h0] at hy;have hs0:=Datum.eB (List.getElem_mem h0);have hcl:=Nf b s ex (l[0]'h0) (l.drop 1) y (hp _ (List.getElem_mem h0)) (by omega) hy hb;have hkn: ∀ B,key=B→B= [108,97,109,98,100,97]:=fun B h=>h.symm.trans hk;refine af.ah ai Tryz.func164 rfl rfl (n:=159) rfl rfl ?_
  conv=>whnf
  repeat' (first|refine aY ?_|((first|refine xk ?_|intro _);conv=>whnf)|(refine zX (fun hc=>?_) (fun hc=>?_)<;>(try simp only[SY] at hc)<;>first|omega|(conv=>whnf)))
  all_goals first | exact absurd (hkn _ (by assumption)) (by decide) | (exfalso;omega) | exact absurd hk (by assumption) | skip
  refine aq.go hcl (aX.refl _) ?_;rintro _ _ ⟨rfl,rfl⟩
  conv=>whnf
  repeat' (first|refine aY ?_|(refine zX (fun hc=>?_) (fun hc=>?_)<;>(try simp only[SY] at hc)<;>omega))
  exact ak.gen (y:=.agg y.cells) (Γ':= [oM b s]) (Wk.refl _) (And.intro rfl rfl)
 ·split at hy
  ·rename_i hk
   obtain ⟨hl,hk⟩:=hk;replace hk:key= [108,101,116,114,101,99,42]:=hk;have h0:0 < l.length:=by omega
   rw[aO h0] at hy;have hs0:=Datum.eB (List.getElem_mem h0);have hcl:=NG b s ex key (l[0]'h0) (l.drop 1) y (hp _ (List.getElem_mem h0)) (by omega) hy (fun x h1 h2=>hx x h1 (by omega)) hb;have hkn: ∀ B,key=B→B= [108,101,116,114,101,99,42]:=fun B h=>h.symm.trans hk;refine af.ah ai Tryz.func164 rfl rfl (n:=159) rfl rfl ?_
   conv=>whnf
   repeat' (first|refine aY ?_|((first|refine xk ?_|intro _);conv=>whnf)|(refine zX (fun hc=>?_) (fun hc=>?_)<;>(try simp only[SY] at hc)<;>first|omega|(conv=>whnf)))
   all_goals first | exact absurd (hkn _ (by assumption)) (by decide) | (exfalso;omega) | exact absurd hk (by assumption) | skip
   all_goals
    refine aq.go hcl (aX.refl _) ?_;rintro _ _ ⟨rfl,rfl⟩
    conv=>whnf
    repeat' (first|refine aY ?_|(refine zX (fun hc=>?_) (fun hc=>?_)<;>(try simp only[SY] at hc)<;>omega))
    exact ak.gen (y:=.agg y.cells) (Γ':= [oM b s]) (Wk.refl _) (And.intro rfl rfl)
  ·cases hy
theorem xl {p q:Prop} (k:q) (h:q→p:=by intro hq;first | exact aD.sP (some 49) rfl [] [7,8] ai mixed hq):p:=h k
theorem H9 (hs:s.bad=false): ∀ (n:Nat) (d y:Datum),d.pr=true→d.sz≤1000000000→pQ n d=some y→N9 b s d y
 | 0,_,_,_,_,h=>by cases h
 | n + 1,d,y,hp,hsz,hy=>by
  have hz:=Datum.lQ hp;have hpl: ∀ x∈d.an.1,x.pr=true:=fun x h=>(Datum.kD hp h).2;have ih: ∀ x:Datum,x.pr=true→x.sz≤Datum.ef d.an.1→ ∀ y,pQ n x=some y→N9 b s x y:=fun x h1 h2 y h3=>H9 hs n x y h1 (by omega) h3;have hI:=kU d hp hsz;have hd1:=Datum.nr d.an.1 1;rw[pQ] at hy
  split at hy
  ·rename_i h2
   split at hy
   ·cases hy
   ·rename_i hk
    obtain rfl:=Option.some.inj hy;rw[Bool.not_eq_true] at hk;have hkd:=oK d.s;rw[hk] at hkd;refine af.ah ai Tryz.func112 rfl rfl (n:=63) rfl rfl ?_
    conv=>whnf
    repeat' (first|refine aY ?_|((first|refine pC (hkd) wR ?_|intro _);conv=>whnf)|(refine zX (fun hc=>?_) (fun hc=>?_)<;>(try simp only[SY] at hc)<;>first|omega|(conv=>whnf)))
    all_goals first | (exfalso;omega) | (exfalso;simp_all;done) | exact ak.gen (y:=.agg d.cells) (Γ':= [oM b s]) (Wk.refl _) (And.intro rfl rfl)
  ·rename_i h2
   split at hy
   ·rename_i h6
    have hne:0 < d.an.1.length:=by
     rw[d.jA h6.1 (Datum.ri hp h6.1)];simp
    rw[aO hne] at hy;rw[h6.2] at hI;generalize d.an.1=l at *
    split at hy
    ·rename_i hk
     have hkd:=oK (l[0]'hne).s;rw[hk.2] at hkd;have hd2:=Datum.nr (l.drop 1) 1;have hbd: ∀ y,sB (pQ n) ((l.drop 1).drop 1)=some y→_:=fun y hb=>Hz b s hs (pQ n) ((l.drop 1).drop 1) y (fun x h=>hpl x (List.mem_of_mem_drop (List.mem_of_mem_drop h))) (by omega) hb fun x hx=>ih x (hpl x (List.mem_of_mem_drop (List.mem_of_mem_drop hx))) (by have:=Datum.eB hx;omega);have hcl:=M4 b s (pQ n) (l[0]'hne).s (l.drop 1) y (fun x h=>hpl x (List.mem_of_mem_drop h)) (by omega) hy (fun x h1 h2=>ih x h1 (by omega)) hbd;refine af.ah ai Tryz.func112 rfl rfl (n:=63) rfl rfl ?_
     conv=>whnf
     repeat' (first|refine aY ?_|((first|(((apply zY;intro hg));(conv=>whnf);(repeat ((first|refine pC (hkd) wR ?_|refine aH ?_);conv=>whnf));exact pZ)|refine pC (hI) wR ?_|refine xl ?_|intro _);conv=>whnf)|(refine zX (fun hc=>?_) (fun hc=>?_)<;>(try simp only[SY] at hc)<;>first|omega|(conv=>whnf)))
     ·exact absurd (hs.symm.trans hc) (by decide)
     ·refine aq.go hcl (aX.refl _) ?_
      rintro _ _ ⟨rfl,rfl⟩
      conv=>whnf
      repeat' (first|refine aY ?_|(refine zX (fun hc=>?_) (fun hc=>?_)<;>(try simp only[SY] at hc)<;>omega))
      exact ak.gen (y:=.agg y.cells) (Γ':= [oM b s]) (Wk.refl _) (And.intro rfl rfl)
    ·rename_i hk
     cases hA:AD (pQ n) l with
     | none=>rw[hA] at hy;cases hy
     | some m=>
      rw[hA] at hy;obtain rfl:=Option.some.inj hy;have hlen:=Datum.l9 l;obtain ⟨hml,hcl⟩:=Hu b s (pQ n) l m hA (by omega) fun x hx=>ih x (hpl x hx) (Datum.eB hx);refine af.ah ai Tryz.func112 rfl rfl (n:=63) rfl rfl ?_
      conv=>whnf
      repeat' (first|refine aY ?_|((first|(((apply zY;intro hg));(conv=>whnf);(repeat ((first|refine pC (oK _) wR ?_|refine aH ?_);conv=>whnf));exact pZ)|refine pC (hI) wR ?_|refine xl ?_|intro _);conv=>whnf)|(refine zX (fun hc=>?_) (fun hc=>?_)<;>(try simp only[SY] at hc)<;>first|omega|(conv=>whnf)))
      ·exact absurd (hs.symm.trans hc) (by decide)
      ·exact absurd hc hk
      ·refine aq.go hcl (aX.refl _) ?_
       rintro _ _ ⟨rfl,rfl⟩
       conv=>whnf
       repeat' (first|refine aY ?_|((refine pC (mS) wR ?_);conv=>whnf)|(refine zX (fun hc=>?_) (fun hc=>?_)<;>(try simp only[SY] at hc)<;>omega))
       exact ak.gen (y:=.agg (gJ m).cells) (Γ':= [oM b s]) (Wk.refl _) (And.intro rfl rfl)
   ·cases hy
end
theorem FR (l:List Datum) (y:Datum) (hsz:Datum.ef l≤800000000) (hr:(l.any fun d=>!d.bJ 0 || d.Og)=false) (hyr:y.bJ 0=true) (hy:sB (pQ 20) l=some y):aA Tryz.prog 38 [.sl 5 (l.map Datum.pv) none] (.bp [.agg y.cells,.int .i64 0]):=by
 have hall: ∀ x∈l,x.bJ 0=true∧x.Og=false:=fun x hx=>by
  rw[List.any_eq_false] at hr;have h2:=hr x hx;simp at h2;exact h2
 have hpr: ∀ x∈l,x.pr=true:=fun x hx=>rA x 0 (hall x hx).1;have hR:=gj y;rw[hyr] at hR;refine af.ah ai Tryz.func38 rfl rfl (n:=43) rfl rfl ?_
 conv=>whnf
 repeat' (first|((intro _);conv=>whnf)|(refine zX (fun hc=>?_) (fun hc=>?_)<;>(try simp only[SY] at hc)<;>omega))
 rename_i b2;refine ax.keep [3,4,7,8,9,10,11,12,13,14,15,16,17,18,19,20,21,22,23,24,25,26] (fun i:Nat=> [(4,.int .i64 i)]) (fun i=>i≤l.length) (fun i=>l.length - i) 0 (Nat.zero_le _) wA ?_;intro i hi
 conv=>whnf
 repeat' (first|refine aY ?_|((first|(((apply zY;intro hg));(conv=>whnf);(repeat ((first|refine pC (Dh _ ⟨0,by simpa using hg⟩) wR ?_|refine aH ?_);conv=>whnf));exact pZ)|refine pC (gj _) wR ?_|intro _);conv=>whnf)|(refine zX (fun hc=>?_) (fun hc=>?_)<;>(try simp only[SY] at hc)<;>(conv=>whnf)))
 ·have hlt:i < l.length:=by omega
  have:=hall _ (List.getElem_mem hlt);rcases hc with h | h
  ·exact absurd (this.1.symm.trans h) (by decide)
  ·exact absurd (this.2.symm.trans h) (by decide)
 ·exact av (i + 1) (by show i + 1≤l.length;omega) (by show l.length - (i + 1) < l.length - i;omega) wA
 ·rename_i b5
  have hc1:=Hz b5 ⟨0,false⟩ rfl (pQ 20) l y hpr (by omega) hy fun x hx y h=>H9 b5 ⟨0,false⟩ rfl 20 x y (hpr x hx) (by have:=Datum.eB hx;omega) h;refine aq.Of (au.box (b:=b5) (cs:= [.int .i64 0,.bfalse]) (cs':= [.int .i64 0,.bool false]) (.cons (Wk.refl _) (.cons (Wk.ff rfl) .nil))) hc1 (aX.refl _) ?_;rintro _ _ ⟨rfl,rfl⟩
  conv=>whnf
  repeat' (first|refine aY ?_|((first|(((apply zY;intro hg));(conv=>whnf);(repeat ((first|refine pC (gj _) wR ?_|refine aH ?_);conv=>whnf));exact pZ)|intro _);conv=>whnf)|(refine zX (fun hc=>?_) (fun hc=>?_)<;>(try simp only[SY] at hc)<;>(conv=>whnf)))
  ·exact absurd (hyr.symm.trans hc) (by decide)
  ·exact ak.pure (Wk.refl _)
def eS (e:Env):List (List UInt8):=(e.map Prod.fst).reverse
def eN (e:Env):List Int:=(e.map Prod.snd).reverse
theorem C1 (e:Env):(eS e).length=e.length:=by simp[eS]
theorem C0 (e:Env):(eN e).length=e.length:=by simp[eN]
theorem Ei (x:List UInt8) (n:Int) (e:Env):eS ((x,n)::e)=eS e++ [x]:=by simp[eS]
theorem Eh (x:List UInt8) (n:Int) (e:Env):eN ((x,n)::e)=eN e++ [n]:=by simp[eN]
abbrev mJ (e:Env):List PV:= [.sl 1 ((eS e).map PV.str) none,.sl 1 ((eN e).map (PV.int .i64)) none]
def yY (L:List (List UInt8)) (M:List Int) (s:List UInt8):Nat→Option Int
 | 0=>none
 | k + 1=>if L.getD k []=s then some (M.getD k 0) else yY L M s k
theorem Bg (L L':List (List UInt8)) (M M':List Int) (s:List UInt8) (h:L.length=M.length): ∀ k,k≤L.length→yY (L++L') (M++M') s k=yY L M s k
 | 0,_=>rfl
 | k + 1,hk=>by
  have e1:(L++L').getD k []=L.getD k []:=by simp[List.getD,List.getElem?_append,show k < L.length by omega]
  have e2:(M++M').getD k 0=M.getD k 0:=by simp[List.getD,List.getElem?_append,show k < M.length by omega]
  rw[yY,yY,e1,e2,Bg L L' M M' s h k (by omega)]
theorem Bh (s:List UInt8): ∀ e:Env,yY (eS e) (eN e) s e.length=mM e s
 | []=>rfl
 | (x,n)::e=>by
  have h1:=C1 e;have h2:=C0 e;have e1:(eS e++ [x]).getD e.length []=x:=by simp[List.getD, ←h1]
  have e2:(eN e++ [n]).getD e.length 0=n:=by simp[List.getD, ←h2]
  rw[List.length_cons,yY,Ei,Eh,e1,e2,mM]
  split
  ·rfl
  ·rw[Bg _ _ _ _ _ (by omega) _ (by omega)]
   exact Bh s e
def n4 (e:Env) (s:List UInt8):Int:=match mM e s with
 | some v=>v
 | none=> -1
theorem nJ (d:Datum) (hp:d.pr=true) (hs:d.sz≤1000000000):aA Tryz.prog 119 [.agg d.cells] (.sl 5 (d.an.1.map Datum.pv) none):=by
 refine af.ah ai Tryz.func119 rfl rfl (n:=19) rfl rfl ?_
 conv=>whnf
 repeat (((intro _);conv=>whnf))
 rename_i b1;refine ax.gh (au.nil 5 55 _) ?_
 refine ax.over [3,4,5,6,7,8,9,10,11,12,13,14,15,16,17] (fun x:Datum×List Datum×Tok=> [(3,.sl 5 (x.2.1.map Datum.pv) (some x.2.2))]) (fun x:Datum×List Datum×Tok=> [.box b1 (kQ x.1),.tok x.2.2])
  (fun x=>x.1.pr=true∧x.1.sz + x.2.1.length≤d.sz∧x.2.2.e=55∧x.2.1++x.1.an.1=d.an.1) (fun x=>x.1.sz) (d, [],aB 5 55) ⟨hp,by simp,rfl,rfl⟩ wA ?_
 rintro ⟨D,m,t1⟩ ⟨hD,hm,ht,h1⟩;dsimp only at hD hm ht h1 ⊢;have hlen:=fun h=>Datum.ri hD h;have hpos:=D.dy
 conv=>whnf
 repeat' (first|refine aY ?_|((intro _);conv=>whnf)|(refine zX (fun hc=>?_) (fun hc=>?_)<;>(try simp only[SY] at hc)<;>(conv=>whnf)))
 ·rename_i ta tb htb
  have h3:=hlen hc;have e:=D.jA hc h3;have hz:=D.v8 h3;have hp0:=(D.l[0]'(by omega)).dy;rw[e] at h1;exact av (D.l[1]'(by omega),m++ [D.l[0]'(by omega)],tb) ⟨Datum.q9 hD (List.getElem_mem _),by simp;omega,htb,by dsimp only;rw[List.append_assoc];exact h1⟩ (by show (D.l[1]'(by omega)).sz < D.sz;omega) wA
 ·have e:=D.lP hc
  rw[e,List.append_nil] at h1;rw[←h1];exact ak.pure (Wk.tok _ _ _)
theorem A9 (e:Env) (s:List UInt8) (hl:e.length≤1000000000):aA Tryz.prog 117 [.agg (mJ e),.str s] (.int .i64 (n4 e s)):=by
 have h1:=C1 e;have h2:=C0 e;have hk:=Bh s e;unfold n4 mJ;generalize eS e=L at *;generalize eN e=M at *;refine af.ah ai Tryz.func117 rfl rfl (n:=26) rfl rfl ?_
 conv=>whnf
 repeat' (first|refine aY ?_|((intro _);conv=>whnf)|(refine zX (fun hc=>?_) (fun hc=>?_)<;>(try simp only[SY] at hc)<;>omega))
 refine ax.keep [4,5,10,11,12,13,14,15,16,17,18,19,20,21,22,23,24,25] (fun k:Nat=> [(5,.int .i64 ((k:Int) - 1))]) (fun k=>k≤L.length∧yY L M s k=mM e s) (fun k=>k) L.length ⟨Nat.le_refl _,by rw[h1];exact hk⟩ wA ?_;rintro (_ | k) ⟨hi,he⟩
 ·conv=>whnf
  repeat' ((refine zX (fun hc=>?_) (fun hc=>?_)<;>(try simp only[SY] at hc)<;>first|omega|(conv=>whnf)))
  rw[←he];exact ak.pure (Wk.refl _)
 ·rw[show ((k + 1:Nat):Int) - 1=(k:Int) by omega]
  rw[yY] at he
  conv=>whnf
  repeat' (first|refine aY ?_|(refine zX (fun hc=>?_) (fun hc=>?_)<;>(try simp only[SY] at hc)<;>first|omega|(conv=>whnf)))
  ·rw[if_pos (by simpa[List.getD,show k < L.length by omega] using hc)] at he
   rw[←he];refine ak.pure (Wk.int ?_);simp[List.getD,show k < M.length by omega]
  ·rw[if_neg (by simpa[List.getD,show k < L.length by omega] using hc)] at he
   exact av k ⟨by omega,he⟩ (by show k < k + 1;omega) wA
open Go.RowKit (Below)
section
variable {P:Program} {tt:Nat→TI}
theorem AB {full:List Oper} {Γ:List aj} {k k':List PV→Prop} (hk: ∀ T,k T→k' T): ∀ (l:List Oper) (T:List PV),gp P tt full l T Γ k→gp P tt full l T Γ k'
 | [],T,h=>hk T h
 | x::l,T,h=>by
  obtain ⟨v,h1,h2⟩:=gX.1 h;exact gX.2 ⟨v,h1,AB hk l _ h2⟩
end
section
variable {P:Program} {tt:Nat→TI}
end
def Pv (bz rest:List Nat) (i:Nat):Bool:=rest.all fun j=>Nat.beq j i || !(iF bz i j)
def xq (i:Nat):List Nat→List Nat
 | []=> []
 | j::l=>match Nat.beq j i with
  | true=>l
  | false=>j::xq i l
def Bs (bz rest:List Nat):List Nat→List Nat
 | []=> []
 | i::l=>match Pv bz rest i with
  | true=>i::Bs bz rest l
  | false=>Bs bz rest l
def MF:List Nat→(Nat→Prop)→Prop
 | [],_=>True
 | i::l,f=>f i∧MF l f
theorem AF {f:Nat→Prop}: ∀ {l:List Nat},MF l f→ ∀ i∈l,f i
 | [],_,i,h=>by cases h
 | j::l,h,i,hi=>by
  rcases List.mem_cons.1 hi with rfl | hi
  ·exact h.1
  ·exact AF h.2 i hi
theorem qN {bz rest:List Nat}: ∀ {l:List Nat} {i:Nat},i∈l→Pv bz rest i=true→i∈Bs bz rest l
 | j::l,i,hi,ho=>by
  rw[Bs];rcases List.mem_cons.1 hi with rfl | hi
  ·rw[ho];exact List.mem_cons_self ..
  ·split
   ·exact List.mem_cons_of_mem _ (qN hi ho)
   ·exact qN hi ho
theorem rS {i:Nat}: ∀ {l1 l2:List Nat},i∉l1→xq i (l1++i::l2)=l1++l2
 | [],l2,_=>by
  rw[List.nil_append,xq,Nat.beq_refl];rfl
 | j::l1,l2,h=>by
  rw[List.mem_cons,not_or] at h;rw[List.cons_append,xq,Cy (Ne.symm h.1),rS h.2];rfl
section
variable {P:Program} {tt:Nat→TI}
def wU (P:Program) (tt:Nat→TI) (ops:List Oper) (bz:List Nat):Nat→List Nat→List PV→List aj→(List PV→List aj→Prop)→Prop
 | 0,_,T,Γ,K=>K T Γ
 | n + 1,rest,T,Γ,K=>MF (Bs bz rest rest) fun i=>match ops[i]? with
  | none=>False
  | some o=>o0 P tt o.op T Γ fun x Γ'=>wU P tt ops bz n (xq i rest) (fA T o.dst x) Γ' K
theorem OW (hk:TT.ok P tt) (rd:Option Nat) (nn:Nat) {ops:Array Oper} {bz:List Nat} (hc:fW ops bz=true) {w0:World} {M Γ2:List aj} {F0:Fz} {ds:List Deferred} {Q':Exit→Act→World→Prop}
  {Tl:List PV→List aj→Prop} (hTl: ∀ (fuel:Nat) (listed:Array Bool) (T:List PV) (Γ:List aj) (F:Fz) (a:Act) (w:World),Down ops listed→gm ops listed []→F0.le F→aP w0 F (Γ++M) w→ay F T a.tmps.toList→a.defers=ds→
   Tl T Γ→wpAnyIn (cM rd) nn P .any ops Q' fuel listed a w):
  ∀ (n:Nat) (A rest:List Nat) (fuel:Nat) (listed:Array Bool) (T:List PV) (Γ1:List aj) (F:Fz) (a:Act) (w:World),A.length + rest.length=n→n≤fuel→
   Down ops listed→gm ops listed (A++rest)→(A.Pairwise fun j i=>iF bz i j=true∨bg ops j i=true)→(∀ j∈A, ∀ i∈rest,iF bz i j=true∨bg ops j i=true)→(∀ i∈rest, ∀ o,ops[i]?=some o→o.guard=none)→
   F0.le F→aP w0 F (Γ1++(Γ2++M)) w→ay F T a.tmps.toList→a.defers=ds→
   (gp P tt ops.toList (A.filterMap (ops[·]?)) T Γ2 fun T'=>wU P tt ops.toList bz rest.length rest T' Γ1 fun T2 Γ1'=>Tl T2 (Γ1'++Γ2))→
   wpAnyIn (cM rd) nn P .any ops Q' fuel listed a w:=by
 intro n
 induction n with
 | zero=>
  intro A rest fuel listed T Γ1 F a w hn hf hd hp hpa hpr hug hle hS hT hds h;obtain rfl:A= []:=List.eq_nil_of_length_eq_zero (by omega);obtain rfl:rest= []:=List.eq_nil_of_length_eq_zero (by omega);exact hTl fuel listed T (Γ1++Γ2) F a w hd (by simpa using hp) hle (by simpa using hS) hT hds h
 | succ n ih=>
  intro A rest fuel listed T Γ1 F a w hn hf hd hp hpa hpr hug hle hS hT hds h
  cases fuel with
  | zero=>omega
  | succ fuel=>
  refine ⟨fun hnil=>?_,fun i hi=>?_⟩
  ·exfalso
   cases hAR:A++rest with
   | nil=>rw[List.append_eq_nil_iff] at hAR;rw[hAR.1,hAR.2] at hn;simp at hn
   | cons x xs=>
    rw[hAR] at hp;obtain ⟨k,hk'⟩:=fc hc hp;rw[hnil] at hk';cases hk'
  ·obtain ⟨o,ho⟩:=hp.2.2 i (hp.ready hi)
   have un: ∀ {j:Nat},j∈A++rest→iF bz i j=true→False:=fun {j} hj ha=>blocked hc hd i ho ha ((hp.2.1 j).2 hj) hi
   have free: ∀ {j:Nat} {x:Oper},j∈A++rest→ops[j]?=some x→(iF bz i j=true∨bg ops j i=true)→x.apart ops o=true:=by
    intro j x hj hx h;rcases h with h | h
    ·exact (un hj h).elim
    ·simpa[bg,hx,ho] using h
   have hmem:=hp.ready hi;rw[List.mem_append] at hmem;rcases hmem with hm | hm
   ·obtain ⟨A1,A2,rfl⟩:=List.append_of_mem hm
    rw[fM ho] at h
    have hap: ∀ x∈A1.filterMap (ops[·]?),x.apart ops o=true:=by
     intro x hx;obtain ⟨j,hj,hx⟩:=List.mem_filterMap.1 hx;exact free (by simp[hj]) hx ((List.pairwise_append.1 hpa).2.2 j hj i (by simp))
    obtain ⟨v,h1,h2⟩:=kN _ T hap h
    have hS2:aP w0 F (Γ2++(Γ1++M)) w:=hS.perm (by
     rw[←List.append_assoc, ←List.append_assoc]
     exact List.perm_append_comm.append_right M)
    have hs:List.Sublist (A1++A2) (A1++i::A2):=List.Sublist.append (List.Sublist.refl _) (List.sublist_cons_self _ _);unfold wpOpIn;simp only[ho]
    have key:=lD hk (rd:=rd) (nn:=nn) (Q:=Q') (next:=fun a w=>wpAnyIn (cM rd) nn P .any ops Q' fuel (listed.setIfInBounds i true) a w) hS2 hT h1 (by
     intro F' u w' hle' hS' hx
     refine ih (A1++A2) rest fuel _ (fA T o.dst v) Γ1 F' _ w' (by simp at hn ⊢; omega) (by omega) (hd.set hi) ?_ (hpa.sublist hs) (fun j hj=>hpr j (hs.subset hj)) hug (Fz.le_trans hle hle') ?_ (eA (ay.mono hle' _ _ hT) hx o.dst)
      ((put_defers a o.dst u).trans hds) ?_
     ·have:=gm.set (l1:=A1) (l2:=A2++rest) (i:=i) (by simpa using hp)
      rwa [List.append_assoc]
     ·exact hS'.perm (by
       rw[←List.append_assoc, ←List.append_assoc]
       exact List.perm_append_comm.append_right M)
     ·rw[List.filterMap_append];exact h2)
    split at key<;>rename_i hw
    ·rw[if_pos hw];exact key
    ·rw[if_neg hw];exact ⟨fun _ _=>trivial,key⟩
   ·have hg:o.guard=none:=hug i hm o ho
    have hok:Pv bz rest i=true:=by
     unfold Pv;rw[List.all_eq_true];intro j hj;rw[Bool.or_eq_true,Bool.not_eq_true'];by_cases e:j=i
     ·left;rw[e];exact Nat.beq_refl i
     ·right
      rw[Bool.eq_false_iff];exact fun ha=>un (List.mem_append_right _ hj) ha
    obtain ⟨R1,R2,hR⟩:=List.append_of_mem hm;have hrl:rest.length=(R1++R2).length + 1:=by rw[hR,List.length_append,List.length_append,List.length_cons];omega
    have hnd:i∉R1:=by
     have h1:=hp.1;rw[hR] at h1;have h2:=(List.pairwise_append.1 (List.pairwise_append.1 h1).2.1).2.2;exact fun hi1=>h2 i hi1 i (List.mem_cons_self ..) rfl
    have hdn:xq i rest=R1++R2:=by rw[hR];exact rS hnd
    have ho2:ops.toList[i]?=some o:=by rw[Array.getElem?_toList];exact ho
    rw[hrl] at h
    have h:=AB (k':=fun T'=>o0 P tt o.op T' Γ1 fun x Γ'=>wU P tt ops.toList bz (R1++R2).length (R1++R2) (fA T' o.dst x) Γ' fun T2 Γ1'=>Tl T2 (Γ1'++Γ2)) (fun T' h=>by
     rw[wU] at h;have:=AF h i (qN hm hok);rw[ho2,hdn] at this
     exact this) _ _ h
    have hap: ∀ x∈A.filterMap (ops[·]?),x.apart ops o=true:=by
     intro x hx;obtain ⟨j,hj,hx⟩:=List.mem_filterMap.1 hx;exact free (List.mem_append_left _ hj) hx (hpr j hj i hm)
    have h2:=mD (kk:=fun T' Γ1'=>wU P tt ops.toList bz (R1++R2).length (R1++R2) T' Γ1' fun T2 Γ1'=>Tl T2 (Γ1'++Γ2)) _ T hap h;unfold wpOpIn;simp only[ho];rw[if_pos (by simp[Region.wanted,hg])];refine fZ hk (M:=Γ2++M) hS hT h2 ?_;rintro F' x Γ' v' w' hle' hS' hx hK
    have hs: ∀ j∈R1++R2,j∈rest:=fun j hj=>by
     rw[hR];rcases List.mem_append.1 hj with hj | hj
     ·exact List.mem_append_left _ hj
     ·exact List.mem_append_right _ (List.mem_cons_of_mem _ hj)
    refine ih A (R1++R2) fuel _ (fA T o.dst x) Γ' F' _ w' (by omega) (by omega) (hd.set hi) ?_ hpa (fun j hj k hk=>hpr j hj k (hs k hk)) (fun k hk=>hug k (hs k hk)) (Fz.le_trans hle hle') hS' (eA (ay.mono hle' _ _ hT) hx o.dst)
     ((put_defers a o.dst v').trans hds) hK
    have:=gm.set (l1:=A++R1) (l2:=R2) (i:=i) (by rw[hR] at hp;simpa using hp);simpa using this
def Mz (ops:Array Oper) (bz A rest:List Nat):Bool:=
 fW ops bz && gf (fun j i=>iF bz i j || bg ops j i) A && A.all (fun j=>rest.all fun i=>iF bz i j || bg ops j i) && rest.all (fun i=>match ops[i]? with | some o=>o.guard.isNone | none=>false) &&
 gf (fun j i=>!(Nat.beq j i)) (A++rest) && (List.range ops.size).all (fun i=>(A++rest).contains i) && (A++rest).all (fun i=>Nat.blt i ops.size)
theorem aD.tree (hk:TT.ok P tt) (hm:P.follows .mixedOrders=true) {ops:Array Oper} {T:List PV} {Γ Γ2:List aj} {K:List PV→List aj→Prop} (bz A rest:List Nat) (Γ1:List aj) [hp:bu Γ Γ1 Γ2]
  (h:gp P tt ops.toList (bC ops.toList A) T Γ2 fun T'=>wU P tt ops.toList bz rest.length rest T' Γ1 fun T2 Γ1'=>kA Γ1' Γ2 fun Γ'=>K T2 Γ')
  (hchk:Mz ops bz A rest=true:=by kernel_rfl):aD P ops T Γ K:=by
 refine ⟨fun rd nn id w0 F M w a Q' hS hT hQ=>wpIn_region_any hm ?_⟩;simp only[Mz,Bool.and_eq_true] at hchk;obtain ⟨⟨⟨⟨⟨⟨hc,s1⟩,s2⟩,s3⟩,h7⟩,h8⟩,h9⟩:=hchk
 have hlt: ∀ i∈A++rest,i < ops.size:=fun i hi=>by
  have:=List.all_eq_true.1 h9 i hi;simpa[Nat.blt,Nat.succ_le_iff] using this
 have hpend:gm ops (Array.replicate ops.size false) (A++rest):=by
  refine ⟨(bN h7).imp fun h=>by
   intro e;subst e
   simp at h,?_,fun i hi=>⟨_,Array.getElem?_eq_getElem (hlt i hi)⟩⟩
  intro i;constructor
  ·intro hi
   rcases Nat.lt_or_ge i ops.size with h' | h'
   ·have:=List.all_eq_true.1 h8 i (List.mem_range.2 h')
    simpa only[List.contains_iff_mem] using this
   ·simp[Array.getElem?_eq_none,h'] at hi
  ·intro hi
   simp[hlt i hi]
 have hlen:A.length + rest.length≤ops.size:=by
  have hsub:(A++rest) ⊆ List.range ops.size:=fun i hi=>List.mem_range.2 (hlt i hi);have:=hpend.1.length_le_of_subset hsub;simpa only[List.length_append,List.length_range] using this
 have hS':aP w0 F (Γ1++(Γ2++M)) { w with drawn:=w.drawn + 1 }:=by
  have:=(hS.perm (hp.p.append_right M)).of_heap (w':={ w with drawn:=w.drawn + 1 }) rfl rfl rfl rfl;simpa using this
 refine OW hk rd nn hc (F0:=F) (ds:=a.defers) (Tl:=K) ?_ _ A rest ops.size _ T Γ1 F a _ rfl hlen ?_ hpend ((bN s1).imp fun h=>by simpa using h) (fun j hj i hi=>?_) (fun i hi o ho=>?_) (Fz.le_refl F) hS' hT rfl ?_
 ·intro fuel listed T2 Γ' F' a' w' hd hpd hle hS2 hT2 hds ht
  refine M6 hk rd nn hc (R2:= []) (F0:=F) (ds:=a.defers) hQ _ [] [] fuel listed T2 [] F' a' w' rfl (Nat.zero_le _) hd (by simpa using hpd) ⟨List.Pairwise.nil,fun _ h=>(by cases h),List.Pairwise.nil,List.Pairwise.nil,fun _ h=>(by cases h),fun _ h=>(by cases h),fun _ h=>(by cases h)⟩ hle (Γ2:=Γ') (by simpa using hS2) hT2 hds ?_;simp only[List.filterMap_nil,bL,List.nil_append];exact ht
 ·intro k o hk'
  rcases Nat.lt_or_ge k ops.size with h' | h'
  ·simp[h'] at hk'
  ·intro ho
   have:=(Array.getElem?_eq_some_iff.1 ho).1;omega
 ·have:=List.all_eq_true.1 (List.all_eq_true.1 s2 j hj) i hi
  simpa using this
 ·have:=List.all_eq_true.1 s3 i hi
  rw[ho] at this;simpa using this
 ·simpa only[iK,Array.getElem?_toList,eZ] using h
end
abbrev oW (b:Nat) (tk:Tok) (s:lz):List aj:= [.box b [.ms tk,.int .i64 s.vars,.bool s.lost],.row tk (s.cs.map Datum.pv)]
theorem o9 (b:Nat) (tk:Tok) (s:lz) (e:Env) (x:List UInt8) (hl:e.length≤1000000000) (h0:0≤s.vars) (h1:s.vars≤1000000000000):
  af Tryz.prog 122 [.ptr b 0,.agg (mJ e),.str x] (oW b tk s) (fun y Γ'=>y=.bp [.agg (mJ ((x,s.vars)::e)),.int .i64 s.vars]∧Γ'=oW b tk ⟨s.cs,s.vars + 1,s.lost⟩):=by
 have h2:=C1 e;have h3:=C0 e;unfold mJ;rw[Ei,Eh];generalize eS e=L at *;generalize eN e=M at *;refine af.ah ai Tryz.func122 rfl rfl (n:=36) rfl rfl ?_
 conv=>whnf
 repeat' (first|refine aY ?_|((intro _);conv=>whnf)|(refine zX (fun hc=>?_) (fun hc=>?_)<;>(try simp only[SY] at hc)<;>omega))
 rename_i b4 b6;refine aD.tree ai mixed [0,0,2,7,0,16,63,0,0,256,1023,0,2048,8191,16383,0,32767,131071] [1,2,4,5,8,9,11,12,15] [0,3,6,7,10,13,14,16,17] [.box b6 [.nil,.nil]] ?_
 conv=>whnf
 conv=>whnf
 repeat' (first|((first|((apply zZ);exact tB)|refine aM ?_|(refine And.intro ?_ ?_)|refine aF ?_|intro _);conv=>whnf)|(refine zX (fun hc=>?_) (fun hc=>?_)<;>(try simp only[SY] at hc)<;>omega))
 all_goals try exact trivial
 all_goals exact ak.gen (y:=.bp [.agg [.sl 1 ((L++ [x]).map PV.str) none,.sl 1 ((M++ [s.vars]).map (PV.int .i64)) none],.int .i64 s.vars]) (Γ':=oW b tk ⟨s.cs,s.vars + 1,s.lost⟩) (Wk.bp (.cons (Wk.agg (.cons (Wk.tok _ _ _) (.cons (Wk.tok _ _ _) .nil))) (.cons (Wk.refl _) .nil))) ⟨rfl,rfl⟩
def kI (e:Env):Prop:= ∀ p∈e,0≤p.2
theorem uW: ∀ {e:Env} {s:List UInt8} {v:Int},kI e→mM e s=some v→0≤v
 | [],_,_,_,h=>by cases h
 | (x,n)::e,s,v,he,h=>by
  rw[mM] at h
  split at h
  ·cases h
   exact he (x,n) (by simp)
  ·exact uW (fun p hp=>he p (List.mem_cons_of_mem _ hp)) h
theorem pe: ∀ (l:List (List UInt8)) {e:Env} {n:Int},kI e→0≤n→kI (gz e n l)
 | [],_,_,h,_=>h
 | x::l,e,n,h,hn=>pe l (fun p hp=>by
   rcases List.mem_cons.1 hp with rfl | hp
   ·exact hn
   ·exact h p hp) (by omega)
theorem kP: ∀ (l:List (List UInt8)) (e:Env) (n:Int),(gz e n l).length=e.length + l.length
 | [],_,_=>rfl
 | x::l,e,n=>by rw[gz,kP l,List.length_cons,List.length_cons];omega
def Hs (b:Nat) (tm:Datum→Env→lz→ME) (x:Datum):Prop:= ∀ (tk:Tok) (e:Env) (s:lz),tk.e=55→tk.s=5→kI e→e.length + x.sz≤1000000000→oz x.sz s→
 iE x.sz s (tm x e s).2∧af Tryz.prog 62 [.ptr b 0,.agg x.cells,.agg (mJ e)] (oW b tk s) (fun y Γ'=> ∃ tk':Tok,tk'.e=55∧tk'.s=5∧y=.agg (tm x e s).1.cells∧Γ'=oW b tk' (tm x e s).2)
theorem D5 (b:Nat) (tm:Datum→Env→lz→ME) (l:List Datum) (hx: ∀ x∈l,Hs b tm x) (hl:l.length≤1000000000) (tk:Tok) (e:Env) (s:lz) (h1:tk.e=55) (h2:tk.s=5) (he:kI e) (hel:e.length + Datum.ef l≤1000000000) (hs:oz (Datum.ef l) s):
  af Tryz.prog 121 [.ptr b 0,.sl 5 (l.map Datum.pv) none,.agg (mJ e)] (oW b tk s) (fun y Γ'=> ∃ tk':Tok,tk'.e=55∧tk'.s=5∧y=.sl 4 ((dJ tm l e s).1.map aa.pv) none∧Γ'=oW b tk' (dJ tm l e s).2):=by
 generalize hR:dJ tm l e s=R;refine af.ah ai Tryz.func121 rfl rfl (n:=26) rfl rfl ?_
 conv=>whnf
 repeat' (first|((intro _);conv=>whnf)|(refine zX (fun hc=>?_) (fun hc=>?_)<;>(try simp only[SY] at hc)<;>omega))
 rename_i b5;refine ax.gh (au.nil 4 26 _) ?_
 refine ax.over [7,8,9,10,11,12,13,14,15,16,17,18,19,20,21,22,23,24] (fun x:Nat×List aa×Tok×lz×Tok=> [(7,.sl 4 (x.2.1.map aa.pv) (some x.2.2.1)),(8,.int .i64 x.1)]) (fun x:Nat×List aa×Tok×lz×Tok=>.tok x.2.2.1::.box b5 (mJ e)::oW b x.2.2.2.2 x.2.2.2.1)
  (fun x=>x.1≤l.length∧x.2.1.length=x.1∧x.2.2.1.e=26∧x.2.2.2.2.e=55∧x.2.2.2.2.s=5∧oz (Datum.ef (l.drop x.1)) x.2.2.2.1∧R=(x.2.1++(dJ tm (l.drop x.1) e x.2.2.2.1).1,(dJ tm (l.drop x.1) e x.2.2.2.1).2)) (fun x=>l.length - x.1) (0, [],aB 4 26,s,tk) ⟨Nat.zero_le _,rfl,rfl,h1,h2,hs,hR.symm⟩ wA ?_
 rintro ⟨i,m,t1,s1,t2⟩ ⟨hi,hml,ht1,ht2,ht3,hn,hR2⟩;dsimp only at hi hml ht1 ht2 ht3 hn hR2⊢
 conv=>whnf
 repeat' (first|refine aY ?_|((intro _);conv=>whnf)|(refine zX (fun hc=>?_) (fun hc=>?_)<;>(try simp only[SY] at hc)<;>(conv=>whnf)))
 ·have hlt:i < l.length:=by omega
  rw[aJ hlt,Datum.ef] at hn;rw[aJ hlt,dJ] at hR2;have hsz:l[i].sz≤Datum.ef l:=Datum.eB (List.getElem_mem hlt);obtain ⟨g,hcall⟩:=hx _ (List.getElem_mem hlt) t2 e s1 ht2 ht3 he (by omega) (hn.mono (by omega));generalize tm l[i] e s1=r at *;refine aD.sE [.tok t1,.box b [.ms t2,.int .i64 s1.vars,.bool s1.lost],.row t2 (s1.cs.map Datum.pv)] [7,8] [9,10] ai mixed ?_
  conv=>whnf
  repeat (refine wu ?_)
  refine aq.go hcall (aX.refl _) ?_;rintro _ _ ⟨t3,k1,k2,rfl,rfl⟩
  conv=>whnf
  repeat' (first|refine aY ?_|((intro _);conv=>whnf)|(refine zX (fun hc=>?_) (fun hc=>?_)<;>(try simp only[SY] at hc)<;>omega))
  rename_i t4 ht4;refine av (i + 1,m++ [r.1],t4,r.2,t3) ⟨by show i + 1≤_;omega,by simp;omega,ht4,k1,k2,hn.step g,?_⟩ (by show l.length - (i + 1) < l.length - i;omega) wA;dsimp only;rw[hR2,List.append_assoc];rfl
 ·rw[List.drop_of_length_le (by omega),dJ,List.append_nil] at hR2
  rw[hR2];exact ak.gen (y:=.sl 4 (m.map aa.pv) none) (Γ':=oW b t2 s1) (Wk.tok _ _ _) ⟨t2,ht2,ht3,rfl,rfl⟩
set_option maxHeartbeats 40000000
theorem nB: ∀ (l:List (List UInt8)) (e:Env) (n:Int) (x:List UInt8),gz e n (l++ [x])=(x,n + l.length)::gz e n l
 | [],e,n,x=>by simp[gz]
 | y::l,e,n,x=>by
  rw[List.cons_append,gz,gz,nB l];congr 2;simp;omega
theorem wm (n:Int) (k:Nat):tj n (k + 1)=tj n k++ [n + k]:=by rw[E8];simp[tj]
theorem ux: ∀ {l:List Datum} {b:List (Datum×Datum)},cU l=some b→ ∀ i,(h:i < l.length)→(h2:i < b.length)→dP l[i]=true∧l[i].an.1.length=2∧b[i]=(l[i].an.1.getD 0 aK,l[i].an.1.getD 1 aK)
 | [],_,_,i,h,_=>by simp at h
 | x::xs,b,hb,i,h,h2=>by
  rw[cU] at hb
  split at hb
  ·rename_i hc
   cases hb':cU xs with
   | none=>rw[hb'] at hb;cases hb
   | some b'=>
    rw[hb'] at hb;cases hb
    cases i with
    | zero=>exact ⟨hc.1,hc.2,rfl⟩
    | succ i=>
     simp only[List.getElem_cons_succ];exact ux hb' i (by simpa using h) (by simpa using h2)
  ·cases hb
theorem mc {α β:Type} (f:α→β) (l:List α) (i:Nat) (h:i < l.length):(l.take (i + 1)).map f=(l.take i).map f++ [f l[i]]:=by
 rw[List.take_succ_eq_append_getElem h,List.map_append];rfl
theorem EX (b:Nat) (tm:Datum→Env→lz→ME) (l:List Datum) (B:List (Datum×Datum)) (hl3:l.length=3) (hp: ∀ x∈l,x.pr=true) (hls:Datum.ef l≤1000000000) (hB:dw (l.getD 1 aK)=some B)
  (hx: ∀ x∈B.map Prod.snd++ [l.getD 2 aK],Hs b tm x) (tk:Tok) (e:Env) (s:lz) (h1:tk.e=55) (h2:tk.s=5) (he:kI e) (hel:e.length + Datum.ef l≤1000000000) (hs:oz (Datum.ef l) s):
  af Tryz.prog 123 [.ptr b 0,.sl 5 (l.map Datum.pv) none,.agg (mJ e)] (oW b tk s) (fun y Γ'=> ∃ tk':Tok,tk'.e=55∧tk'.s=5∧
   y=.agg (aa.mk 7 (if (l.getD 0 aK).s=cg then 1 else 0) (tj s.vars B.length) (dJ tm (B.map Prod.snd++ [l.getD 2 aK]) (gz e s.vars (B.map fun p=>p.1.s)) ⟨s.cs,s.vars + B.length,s.lost⟩).1).cells∧
   Γ'=oW b tk' (dJ tm (B.map Prod.snd++ [l.getD 2 aK]) (gz e s.vars (B.map fun p=>p.1.s)) ⟨s.cs,s.vars + B.length,s.lost⟩).2):=by
 have hm1:l[1]'(by omega)∈l:=List.getElem_mem _;have hm2:l[2]'(by omega)∈l:=List.getElem_mem _
 have hz:Datum.ef l=(l[0]'(by omega)).sz + (l[1]'(by omega)).sz + (l[2]'(by omega)).sz:=by
  match l,hl3 with
  | [x,y,z],_=>simp[Datum.ef];omega
 have hz0:=(l[0]'(by omega)).dy;rw[aO (show 0 < l.length by omega),aO (show 2 < l.length by omega)] at *;rw[aO (show 1 < l.length by omega)] at hB;obtain ⟨hbs,hbp⟩:=jh (hp _ hm1) hB
 have hBF:cU (l[1]'(by omega)).an.1=some B:=by
  unfold dw at hB
  split at hB
  ·exact hB
  ·cases hB
 have hBl:=oC hBF;have hI1:=nJ (l[1]'(by omega)) (hp _ hm1) (by omega);have hIm: ∀ x∈(l[1]'(by omega)).an.1,x.pr=true∧x.sz≤1000000000:=fun x hx'=>by have:=Datum.kD (hp _ hm1) hx';exact ⟨this.2,by omega⟩
 have e9:=ux hBF;generalize (l[1]'(by omega)).an.1=L at *;have hall:=fun tk' e' s'=>D5 b tm (B.map Prod.snd++ [l[2]'(by omega)]) hx (by simp;omega) tk' e' s';have hsz2:Datum.ef (B.map Prod.snd++ [l[2]'(by omega)])=Datum.ef (B.map Prod.snd) + (l[2]'(by omega)).sz:=by rw[Datum.l8,Datum.ef,Datum.ef];omega
 refine af.ah ai Tryz.func123 rfl rfl (n:=69) rfl rfl ?_
 conv=>whnf
 repeat' (first|refine aY ?_|((first|refine pC (hI1) wR ?_|intro _);conv=>whnf)|(refine zX (fun hc=>?_) (fun hc=>?_)<;>(try simp only[SY] at hc)<;>(conv=>whnf)))
 ·rename_i b5 b6 b7
  refine ax.gh (au.trans (au.nil 5 55 _) (au.trans (au.nil 1 3 _) (au.box (b:=b7) (cs:= [.int .i64 7,.int .i64 1,.nil,.nil]) (cs':= [.int .i64 7,.int .i64 1,.sl 1 (([]:List Int).map (PV.int .i64)) (some (aB 1 3)),.nil]) wA))) ?_
  refine ax.over [9,10,11,12,24,25,26,27,28,29,30,31,32,33,34,35,36,37,38,39,40,41,42,43,44,45,46,47,48,49,50,51,52,53,54,55,56] (fun z:Nat×Env×List Int×List Datum×Tok×Tok×lz=> [(10,.sl 5 (z.2.2.2.1.map Datum.pv) (some z.2.2.2.2.2.1)),(11,.int .i64 z.1)])
   (fun z:Nat×Env×List Int×List Datum×Tok×Tok×lz=>.tok z.2.2.2.2.2.1::.tok z.2.2.2.2.1::.box b7 [.int .i64 7,.int .i64 1,.sl 1 (z.2.2.1.map (PV.int .i64)) (some z.2.2.2.2.1),.nil]::.box b6 [.int .i64 0,.int .i64 0,.nil,.nil]::.box b5 (mJ z.2.1)::oW b tk z.2.2.2.2.2.2)
   (fun z=>z.1≤B.length∧z.2.1=gz e s.vars ((B.take z.1).map fun p=>p.1.s)∧z.2.2.1=tj s.vars z.1∧z.2.2.2.1=(B.take z.1).map Prod.snd∧z.2.2.2.2.2.2=⟨s.cs,s.vars + z.1,s.lost⟩∧z.2.2.2.2.1.e=3∧z.2.2.2.2.2.1.e=55) (fun z=>B.length - z.1)
   (0,e, [], [],aB 1 3,aB 5 55,s) ⟨Nat.zero_le _,rfl,rfl,rfl,by simp,rfl,rfl⟩ wA ?_
  rintro ⟨i,E,V,D,tv,td,s1⟩ ⟨hi,hE,hV,hD,hs1,htv,htd⟩;dsimp only at hi hE hV hD hs1 htv htd ⊢;have hEl:E.length=e.length + i:=by rw[hE,kP];simp;omega
  have hVl:V.length=i:=by rw[hV,nS]
  have hDl:D.length=i:=by rw[hD];simp;omega
  have hv1:s1.vars=s.vars + i:=by rw[hs1]
  have hvb:=hs.1;have hvc:=hs.2.1
  conv=>whnf
  repeat' (first|refine aY ?_|((first|refine pC (nJ _ (hIm _ (List.getElem_mem _)).1 (hIm _ (List.getElem_mem _)).2) wR ?_|intro _);conv=>whnf)|(refine zX (fun hc=>?_) (fun hc=>?_)<;>(try simp only[SY] at hc)<;>(conv=>whnf)))
  ·have hlt:i < B.length:=by omega
   obtain ⟨g1,g2,g3⟩:=e9 i (by omega) hlt;rw[aO (show 0 < (L[i]'(by omega)).an.1.length by omega),aO (show 1 < (L[i]'(by omega)).an.1.length by omega)] at g3;have hbind:=o9 b tk s1 E ((L[i]'(by omega)).an.1[0]'(by omega)).s (by omega) (by omega) (by omega);refine aD.tree ai mixed [0,0,0,4,12,28,63,127,255,255,511,2047] [0,2,3,4,5] [1,6,7,8,9,10,11] [.box b5 (mJ E),.box b [.ms tk,.int .i64 s1.vars,.bool s1.lost],.row tk (s1.cs.map Datum.pv)] ?_
   conv=>whnf
   conv=>whnf
   repeat' (first|((first|((apply zZ);exact tB)|refine aM ?_|(refine And.intro ?_ ?_));conv=>whnf)|(refine zX (fun hc=>?_) (fun hc=>?_)<;>(try simp only[SY] at hc)<;>omega))
   all_goals try exact trivial
   refine aq.go hbind (aX.refl _) ?_;rintro _ _ ⟨rfl,rfl⟩
   conv=>whnf
   repeat' (first|((first|refine aM ?_|(refine And.intro ?_ ?_)|refine aF ?_|intro _);conv=>whnf)|(refine zX (fun hc=>?_) (fun hc=>?_)<;>(try simp only[SY] at hc)<;>omega))
   all_goals try exact trivial
   all_goals
    rename_i tv2 hv2 ta hta tb htb;refine av (i + 1,(((L[i]'(by omega)).an.1[0]'(by omega)).s,s1.vars)::E,V++ [s1.vars],D++ [(L[i]'(by omega)).an.1[1]'(by omega)],tv2,tb,⟨s1.cs,s1.vars + 1,s1.lost⟩) ⟨by show i + 1≤_;omega,?_,?_,?_,?_,hv2,htb⟩ (by show B.length - (i + 1) < B.length - i;omega) wA
    ·show _=gz e s.vars ((B.take (i + 1)).map fun p=>p.1.s)
     rw[mc _ _ _ hlt,nB,g3,hE,hv1];simp;omega
    ·show V++ [s1.vars]=tj s.vars (i + 1)
     rw[wm,hv1,hV]
    ·show D++ [(L[i]'(by omega)).an.1[1]'(by omega)]=(B.take (i + 1)).map Prod.snd
     rw[mc _ _ _ hlt,g3];exact congrArg (fun z=>z++_) hD
    ·show (⟨s1.cs,s1.vars + 1,s1.lost⟩:lz)=⟨s.cs,s.vars + ((i + 1:Nat):Int),s.lost⟩
     rw[show s1.cs=s.cs by rw[hs1],show s1.lost=s.lost by rw[hs1],hv1];congr 1;omega
  ·obtain rfl:i=B.length:=by omega
   rw[List.take_length] at hE hD;have hDD:D++ [l[2]'(by omega)]=B.map Prod.snd++ [l[2]'(by omega)]:=by rw[hD]
   rw[hDD];rw[hs1,hE];have hEo:kI (gz e s.vars (B.map fun p=>p.1.s)):=pe _ he hvb;have hcall:=hall tk (gz e s.vars (B.map fun p=>p.1.s)) ⟨s.cs,s.vars + B.length,s.lost⟩ h1 h2 hEo (by rw[hsz2,kP];simp;omega) (by unfold oz at hs ⊢; dsimp only;omega);generalize dJ tm (B.map Prod.snd++ [l[2]'(by omega)]) (gz e s.vars (B.map fun p=>p.1.s)) ⟨s.cs,s.vars + B.length,s.lost⟩=R at *;refine aq.go hcall (.cons (Wk.refl _) (.cons (Wk.tok _ _ _) (.cons (Wk.refl _) .nil))) ?_;rintro _ _ ⟨tk2,k1,k2,rfl,rfl⟩
   conv=>whnf
   repeat' (first|refine aY ?_|(refine zX (fun hc=>?_) (fun hc=>?_)<;>(try simp only[SY] at hc)<;>omega))
   rw[hV,if_pos (show (l[0]'(by omega)).s=cg from ‹_›)];exact ak.gen (y:=.agg (aa.mk 7 1 (tj s.vars B.length) R.1).cells) (Γ':=oW b tk2 R.2) eg.wk ⟨tk2,k1,k2,rfl,rfl⟩
 ·rename_i b5 b6 b7
  refine ax.gh (au.trans (au.nil 5 55 _) (au.trans (au.nil 1 3 _) (au.box (b:=b7) (cs:= [.int .i64 7,.int .i64 0,.nil,.nil]) (cs':= [.int .i64 7,.int .i64 0,.sl 1 (([]:List Int).map (PV.int .i64)) (some (aB 1 3)),.nil]) wA))) ?_
  refine ax.over [9,10,11,12,24,25,26,27,28,29,30,31,32,33,34,35,36,37,38,39,40,41,42,43,44,45,46,47,48,49,50,51,52,53,54,55,56] (fun z:Nat×Env×List Int×List Datum×Tok×Tok×lz=> [(10,.sl 5 (z.2.2.2.1.map Datum.pv) (some z.2.2.2.2.2.1)),(11,.int .i64 z.1)])
   (fun z:Nat×Env×List Int×List Datum×Tok×Tok×lz=>.tok z.2.2.2.2.2.1::.tok z.2.2.2.2.1::.box b7 [.int .i64 7,.int .i64 0,.sl 1 (z.2.2.1.map (PV.int .i64)) (some z.2.2.2.2.1),.nil]::.box b6 [.int .i64 0,.int .i64 0,.nil,.nil]::.box b5 (mJ z.2.1)::oW b tk z.2.2.2.2.2.2)
   (fun z=>z.1≤B.length∧z.2.1=gz e s.vars ((B.take z.1).map fun p=>p.1.s)∧z.2.2.1=tj s.vars z.1∧z.2.2.2.1=(B.take z.1).map Prod.snd∧z.2.2.2.2.2.2=⟨s.cs,s.vars + z.1,s.lost⟩∧z.2.2.2.2.1.e=3∧z.2.2.2.2.2.1.e=55) (fun z=>B.length - z.1)
   (0,e, [], [],aB 1 3,aB 5 55,s) ⟨Nat.zero_le _,rfl,rfl,rfl,by simp,rfl,rfl⟩ wA ?_
  rintro ⟨i,E,V,D,tv,td,s1⟩ ⟨hi,hE,hV,hD,hs1,htv,htd⟩;dsimp only at hi hE hV hD hs1 htv htd ⊢;have hEl:E.length=e.length + i:=by rw[hE,kP];simp;omega
  have hVl:V.length=i:=by rw[hV,nS]
  have hDl:D.length=i:=by rw[hD];simp;omega
  have hv1:s1.vars=s.vars + i:=by rw[hs1]
  have hvb:=hs.1;have hvc:=hs.2.1
  conv=>whnf
  repeat' (first|refine aY ?_|((first|refine pC (nJ _ (hIm _ (List.getElem_mem _)).1 (hIm _ (List.getElem_mem _)).2) wR ?_|intro _);conv=>whnf)|(refine zX (fun hc=>?_) (fun hc=>?_)<;>(try simp only[SY] at hc)<;>(conv=>whnf)))
  ·have hlt:i < B.length:=by omega
   obtain ⟨g1,g2,g3⟩:=e9 i (by omega) hlt;rw[aO (show 0 < (L[i]'(by omega)).an.1.length by omega),aO (show 1 < (L[i]'(by omega)).an.1.length by omega)] at g3;have hbind:=o9 b tk s1 E ((L[i]'(by omega)).an.1[0]'(by omega)).s (by omega) (by omega) (by omega);refine aD.tree ai mixed [0,0,0,4,12,28,63,127,255,255,511,2047] [0,2,3,4,5] [1,6,7,8,9,10,11] [.box b5 (mJ E),.box b [.ms tk,.int .i64 s1.vars,.bool s1.lost],.row tk (s1.cs.map Datum.pv)] ?_
   conv=>whnf
   conv=>whnf
   repeat' (first|((first|((apply zZ);exact tB)|refine aM ?_|(refine And.intro ?_ ?_));conv=>whnf)|(refine zX (fun hc=>?_) (fun hc=>?_)<;>(try simp only[SY] at hc)<;>omega))
   all_goals try exact trivial
   refine aq.go hbind (aX.refl _) ?_;rintro _ _ ⟨rfl,rfl⟩
   conv=>whnf
   repeat' (first|((first|refine aM ?_|(refine And.intro ?_ ?_)|refine aF ?_|intro _);conv=>whnf)|(refine zX (fun hc=>?_) (fun hc=>?_)<;>(try simp only[SY] at hc)<;>omega))
   all_goals try exact trivial
   all_goals
    rename_i tv2 hv2 ta hta tb htb;refine av (i + 1,(((L[i]'(by omega)).an.1[0]'(by omega)).s,s1.vars)::E,V++ [s1.vars],D++ [(L[i]'(by omega)).an.1[1]'(by omega)],tv2,tb,⟨s1.cs,s1.vars + 1,s1.lost⟩) ⟨by show i + 1≤_;omega,?_,?_,?_,?_,hv2,htb⟩ (by show B.length - (i + 1) < B.length - i;omega) wA
    ·show _=gz e s.vars ((B.take (i + 1)).map fun p=>p.1.s)
     rw[mc _ _ _ hlt,nB,g3,hE,hv1];simp;omega
    ·show V++ [s1.vars]=tj s.vars (i + 1)
     rw[wm,hv1,hV]
    ·show D++ [(L[i]'(by omega)).an.1[1]'(by omega)]=(B.take (i + 1)).map Prod.snd
     rw[mc _ _ _ hlt,g3];exact congrArg (fun z=>z++_) hD
    ·show (⟨s1.cs,s1.vars + 1,s1.lost⟩:lz)=⟨s.cs,s.vars + ((i + 1:Nat):Int),s.lost⟩
     rw[show s1.cs=s.cs by rw[hs1],show s1.lost=s.lost by rw[hs1],hv1];congr 1;omega
  ·obtain rfl:i=B.length:=by omega
   rw[List.take_length] at hE hD;have hDD:D++ [l[2]'(by omega)]=B.map Prod.snd++ [l[2]'(by omega)]:=by rw[hD]
   rw[hDD];rw[hs1,hE];have hEo:kI (gz e s.vars (B.map fun p=>p.1.s)):=pe _ he hvb;have hcall:=hall tk (gz e s.vars (B.map fun p=>p.1.s)) ⟨s.cs,s.vars + B.length,s.lost⟩ h1 h2 hEo (by rw[hsz2,kP];simp;omega) (by unfold oz at hs ⊢; dsimp only;omega);generalize dJ tm (B.map Prod.snd++ [l[2]'(by omega)]) (gz e s.vars (B.map fun p=>p.1.s)) ⟨s.cs,s.vars + B.length,s.lost⟩=R at *;refine aq.go hcall (.cons (Wk.refl _) (.cons (Wk.tok _ _ _) (.cons (Wk.refl _) .nil))) ?_;rintro _ _ ⟨tk2,k1,k2,rfl,rfl⟩
   conv=>whnf
   repeat' (first|refine aY ?_|(refine zX (fun hc=>?_) (fun hc=>?_)<;>(try simp only[SY] at hc)<;>omega))
   rw[hV,if_neg (show ¬(l[0]'(by omega)).s=cg from ‹_›)];exact ak.gen (y:=.agg (aa.mk 7 0 (tj s.vars B.length) R.1).cells) (Γ':=oW b tk2 R.2) eg.wk ⟨tk2,k1,k2,rfl,rfl⟩
set_option maxHeartbeats 4000000
theorem FU (n:Int) (h:n < 0∨n > 30):fR n=Cr.none:=by rw[fR,if_neg (by omega)]
def uP (n:Int):Int×Int:=if n=0∨n=2∨n=20∨n=21 then (0, -1) else if n=1∨n=3 then (1, -1) else
 if n=4∨n=5∨n=6∨n=7∨n=17∨n=22∨n=30 then (2,2) else if n=25∨n=27 then (0,0) else (1,1)
def oN:List (List UInt8):=facts.map Cr.name
theorem Ia {n:Int} (h0:0≤n) (h1:n≤30):fR n=⟨oN.getD n.toNat [],(uP n).1,(uP n).2,decide (n≤25),decide (n≤16) || n == 18 || n == 19 || decide (n≥22) && decide (n≤25)⟩:=by
 obtain ⟨k,rfl⟩: ∃ k:Nat,n=k:=⟨n.toNat,by omega⟩
 have: ∀ k:Fin 31,fR (k.val:Int)=⟨oN.getD (k.val:Int).toNat [],(uP (k.val:Int)).1,(uP (k.val:Int)).2,decide ((k.val:Int)≤25),decide ((k.val:Int)≤16) || (k.val:Int) == 18 || (k.val:Int) == 19 || decide ((k.val:Int)≥22) && decide ((k.val:Int)≤25)⟩:=by
  intro k
  match k with
  | ⟨0,_⟩ | ⟨1,_⟩ | ⟨2,_⟩ | ⟨3,_⟩ | ⟨4,_⟩ | ⟨5,_⟩ | ⟨6,_⟩ | ⟨7,_⟩ | ⟨8,_⟩ | ⟨9,_⟩ | ⟨10,_⟩ | ⟨11,_⟩ | ⟨12,_⟩ | ⟨13,_⟩ | ⟨14,_⟩ | ⟨15,_⟩ | ⟨16,_⟩ | ⟨17,_⟩ | ⟨18,_⟩ | ⟨19,_⟩ | ⟨20,_⟩ | ⟨21,_⟩ | ⟨22,_⟩ | ⟨23,_⟩ | ⟨24,_⟩ | ⟨25,_⟩ | ⟨26,_⟩ | ⟨27,_⟩ | ⟨28,_⟩ | ⟨29,_⟩ | ⟨30,_⟩=>rfl
  | ⟨n + 31,h⟩=>exact absurd h (by omega)
 exact this ⟨k,by omega⟩
theorem FT (n:Int):aA Tryz.prog 169 [.int .i64 n] (.bp [.agg (fR n).cells,.bool (decide (0≤n∧n < 31))]):=by
 have hn:oN.length=31:=rfl;refine af.ah ai Tryz.func169 rfl rfl (n:=67) rfl rfl ?_
 conv=>whnf
 repeat' (first|refine c9 ?_|((intro _);conv=>whnf)|(refine zX (fun hc=>?_) (fun hc=>?_)<;>(try simp only[SY] at hc)<;>(conv=>whnf)))
 ·rw[FU n hc,show decide (0≤n∧n < 31)=false from decide_eq_false (by omega)]
  exact ak.pure (Wk.bp (.cons (Wk.refl _) (.cons (Wk.ff rfl) .nil)))
 ·show dg _ (.sl 1 (oN.map PV.str) (some _)) _ _
  have hf:=Ia (n:=n) (by omega) (by omega);have hQ:uP n=uP n:=rfl
  conv at hQ=>rhs;unfold uP
  have hg:oN.getD n.toNat []=oN[n.toNat]'(by omega):=by simp[List.getD,show n.toNat < oN.length by omega]
  have hd:decide (0≤n∧n < 31)=true:=decide_eq_true (by omega)
  conv=>whnf
  repeat' (first|refine c9 ?_|((intro _);conv=>whnf)|(refine zX (fun hc=>?_) (fun hc=>?_)<;>(try simp only[SY] at hc)<;>first|omega|(conv=>whnf)))
  all_goals
   repeat (first|rw[if_neg (by omega)] at hQ|rw[if_pos (by omega)] at hQ)
   rw[hf,hQ,hd,hg];exact ak.pure (Wk.bp (.cons (Wk.refl _) (.cons (Wk.tt rfl) .nil)))
theorem Er (x:List UInt8): ∀ (l:List Cr) (i:Nat),(∀ j,(h:j < l.length)→j < i→ ¬l[j].name=x)→(h:i < l.length)→l[i].name=x→rj.idxN x l=i
 | [],i,_,h,_=>by simp at h
 | f::l,0,_,_,h=>by rw[rj.idxN,if_pos (show f.name=x from h)]
 | f::l,i + 1,hn,h,hx=>by
  rw[rj.idxN,if_neg (show ¬f.name=x from hn 0 (by simp) (by omega)),Er x l i (fun j h1 h2=>hn (j + 1) (by simpa using h1) (by omega)) (by simpa using h) (by simpa using hx)]
theorem Es (x:List UInt8): ∀ (l:List Cr),(∀ f∈l, ¬f.name=x)→rj.idxN x l=l.length
 | [],_=>rfl
 | f::l,h=>by rw[rj.idxN,if_neg (h f (by simp)),Es x l fun g hg=>h g (List.mem_cons_of_mem _ hg)];rfl
theorem rU {n:Nat} (h:n < facts.length):(fR (n:Int)).name=facts[n].name:=by
 have h31:facts.length=31:=rfl;rw[fR,if_pos (by omega),Int.toNat_natCast];simp[List.getD,h]
theorem Ic (x:List UInt8):aA Tryz.prog 118 [.str x] (.bp [.int .i64 ((rj x).getD 0),.bool (rj x).isSome]):=by
 have h31:facts.length=31:=rfl;have hP:rj x=rj x:=rfl
 conv at hP=>rhs;unfold rj
 refine af.ah ai Tryz.func118 rfl rfl (n:=23) rfl rfl ?_
 conv=>whnf
 repeat' ((refine zX (fun hc=>?_) (fun hc=>?_)<;>(try simp only[SY] at hc)<;>(conv=>whnf)))
 ·rw[show rj x=some 6 by rw[hc];rfl]
  exact ak.pure wA
 ·rw[if_neg (show ¬x=OZ from hc)] at hP
  dsimp only at hP;refine ax.keep [2,3,4,5,6,9,10,11,12,13,14,15,16,17,18,19,20,21,22] (fun i:Nat=> [(4,.int .i64 i)]) (fun i=>i≤31∧ ∀ j,(h:j < facts.length)→j < i→ ¬facts[j].name=x) (fun i=>31 - i) 0 ⟨by omega,fun j _ h=>by omega⟩ wA ?_;rintro i ⟨hi,hn⟩
  conv=>whnf
  repeat' (first|refine c9 ?_|((first|refine pC (FT _) wR ?_|intro _);conv=>whnf)|(refine zX (fun hc=>?_) (fun hc=>?_)<;>(try simp only[SY] at hc)<;>(conv=>whnf)))
  ·have hlt:i < facts.length:=by omega
   have hx:facts[i].name=x:=by rw[←rU hlt];exact hc
   rw[Er x facts i hn hlt hx,if_pos hlt] at hP;rw[hP];exact ak.pure wA
  ·have hlt:i < facts.length:=by omega
   have hx: ¬facts[i].name=x:=by rw[←rU hlt];exact hc
   refine av (i + 1) ⟨by omega,fun j h1 h2=>?_⟩ (by show 31 - (i + 1) < 31 - i;omega) wA;rcases Nat.lt_or_ge j i with h3 | h3
   ·exact hn j h1 h3
   ·obtain rfl:j=i:=by omega
    exact hx
  ·rw[Es x facts fun f hf=>by
    obtain ⟨j,hj,rfl⟩:=List.getElem_of_mem hf
    exact hn j hj (by omega),if_neg (by omega)] at hP
   rw[hP];exact ak.pure wA
set_option maxHeartbeats 40000000
theorem F5 {e:Env} {x:List UInt8} (he:kI e) (h:0≤n4 e x):mM e x=some (n4 e x):=by
 unfold n4 at *
 cases hf:mM e x with
 | none=>rw[hf] at h;exact absurd h (by decide)
 | some v=>rfl
theorem F4 {e:Env} {x:List UInt8} (he:kI e) (h:n4 e x < 0):mM e x=none∧n4 e x= -1:=by
 unfold n4 at *
 cases hf:mM e x with
 | none=>exact ⟨rfl,rfl⟩
 | some v=>rw[hf] at h;have:=uW he hf;dsimp only at h;omega
theorem x5 {α:Type}: ∀ (l:List α) (a c:α),(l++ [a]).set l.length c=l++ [c]
 | [],a,c=>rfl
 | x::l,a,c=>by
  show x::((l++ [a]).set l.length c)=_;rw[x5 l a c];rfl
theorem CY {p q:Prop} (k:q) (h:q→p:=by intro hq;first | exact aD.sP (some 105) rfl [] [] ai mixed hq):p:=h k
theorem JW (b:Nat) (n:Nat) (hn:n≤100000000) (ih: ∀ x:Datum,x.pr=true→x.sz≤n→cm n x=true→Hs b (TF (-1) n) x) (d:Datum) (hd:d.sz≤n + 1) (hp:d.pr=true) (hcr:cm (n + 1) d=true):Hs b (TF (-1) (n + 1)) d:=by
 intro tk e s h1 h2 he hel hs;refine ⟨(Hr (-1) (n + 1) d hp e s).1,?_⟩;have hT:TF (-1) (n + 1) d e s=TF (-1) (n + 1) d e s:=rfl
 conv at hT=>rhs;rw[TF];dsimp only
 generalize TF (-1) (n + 1) d e s=R at *;have hsz:=d.dy;have hI:=nJ d hp (by omega)
 have hL0: ¬d.kind=2→0 < d.an.1.length:=fun hk=>by
  rw[cm,if_neg hk] at hcr;dsimp only at hcr
  split at hcr
  ·cases hcr
  ·rename_i h
   rcases Nat.eq_zero_or_pos d.an.1.length with h0 | h0
   ·exact absurd (.inr (List.eq_nil_of_length_eq_zero h0)) h
   ·exact h0
 have hpl: ∀ x∈d.an.1,x.pr=true∧x.sz≤n:=fun x h=>by have:=Datum.kD hp h;exact ⟨this.2,by omega⟩
 have hss:=Datum.lQ hp;have hln:=Datum.l9 d.an.1
 have hall: ∀ (l:List Datum) (tk':Tok) (e':Env) (s':lz),(∀ x∈l,x∈d.an.1∧cm n x=true)→tk'.e=55→tk'.s=5→kI e'→Datum.ef l≤Datum.ef d.an.1→e'.length + Datum.ef l≤1000000000→oz (Datum.ef l) s'→
   af Tryz.prog 121 [.ptr b 0,.sl 5 (l.map Datum.pv) none,.agg (mJ e')] (oW b tk' s') (fun y Γ'=> ∃ t3:Tok,t3.e=55∧t3.s=5∧y=.sl 4 ((dJ (TF (-1) n) l e' s').1.map aa.pv) none∧Γ'=oW b t3 (dJ (TF (-1) n) l e' s').2):=fun l tk' e' s' hx k1 k2 k3 hl k4 k5=>
  D5 b (TF (-1) n) l (fun x h=>ih x (hpl x (hx x h).1).1 (hpl x (hx x h).1).2 (hx x h).2) (by have:=Datum.l9 l;omega) tk' e' s' k1 k2 k3 k4 k5
 have hdr:=fun k=>Datum.nr d.an.1 k;unfold ez qP iw dc gI cg mQ at hT;refine af.ah ai Tryz.func62 rfl rfl (n:=196) rfl rfl ?_
 conv=>whnf
 repeat' (first|refine aY ?_|((first|((first|(apply zY;intro hg)|apply zZ);(conv=>whnf);(repeat ((first|refine pC (oK _) wR ?_|refine aH ?_);conv=>whnf));exact pZ)|refine pC (A9 e _ (by omega)) wR ?_|refine pC (Ic _) wR ?_|refine pC (hI) wR ?_|refine CY ?_|intro _);conv=>whnf)|(refine zX (fun hc=>?_) (fun hc=>?_)<;>(try simp only[SY] at hc)<;>(conv=>whnf)))
 all_goals try contradiction
 ·rw[if_pos (by assumption),F5 he hc] at hT
  rw[hT];exact ak.gen (y:=.agg (aa.mk 1 (n4 e d.s) [] []).cells) (Γ':=oW b tk s) eg.wk ⟨tk,h1,h2,rfl,rfl⟩
 ·rw[if_pos (by assumption),(F4 he hc).1] at hT
  dsimp only at hT
  cases hP:rj d.s with
  | some p=>
   rw[hP] at hT;rw[hT];have hb:(s.lost || !(some p).isSome)=s.lost:=Bool.or_false _;rw[hb];exact ak.gen (y:=.agg (aa.mk 11 p [] []).cells) (Γ':=oW b tk s) eg.wk ⟨tk,h1,h2,rfl,rfl⟩
  | none=>
   rw[hP] at hT;rw[hT];have hb:(s.lost || !(none:Option Int).isSome)=true:=Bool.or_true _;rw[hb];exact ak.gen (y:=.agg (aa.mk 11 0 [] []).cells) (Γ':=oW b tk ⟨s.cs,s.vars,true⟩) eg.wk ⟨tk,h1,h2,rfl,rfl⟩
 all_goals
  have hk:= ‹¬d.kind=2›;have hL:=hL0 hk;rw[if_neg hk,aO hL] at hT
 ·rename_i b4 b5 b6 _ hh
  have hl2:=CR hcr hk (by rw[aO hL];exact hh) (by rw[aO hL];exact hc);rw[if_pos hh,if_pos hc,aO (show 1 < d.an.1.length by omega)] at hT;have hcl:=hs.2.2;have hsl:=x5 s.cs (Datum.mk 0 0 0 [] []) (d.an.1[1]'(by omega));have hnum:(((s.cs++ [d.an.1[1]'(by omega)]).length:Nat):Int) - 1=s.cs.length:=by simp
  have hcl2:(s.cs++ [(Datum.mk 0 0 0 [] []:Datum)]).length=s.cs.length + 1:=by simp
  refine aD.tree ai mixed [0,1,3,7,0,16,48,15,0,511,1023,2047,1023,5119,13311] [0,1,2,4,5,6,8] [3,7,9,10,11,12,13,14] [.box b [.ms tk,.int .i64 s.vars,.bool s.lost],.row tk (s.cs.map Datum.pv)] ?_
  conv=>whnf
  conv=>whnf
  repeat' (first|((first|((apply zZ);exact tB)|refine aM ?_|(refine And.intro ?_ ?_)|(refine eF.map fun _=>?_)|refine aF ?_|intro _);conv=>whnf)|(refine zX (fun hc=>?_) (fun hc=>?_)<;>(try simp only[SY] at hc)<;>omega))
  all_goals try exact trivial
  all_goals
   rename_i tk2 e2 s2 _;rw[hsl,hnum,hT];exact ak.gen (y:=.agg (aa.mk 0 s.cs.length [] []).cells) (Γ':=oW b tk2 ⟨s.cs++ [d.an.1[1]'(by omega)],s.vars,s.lost⟩) eg.wk ⟨tk2,e2,s2,rfl,rfl⟩
 ·rename_i b4 b5 b6 _ hh hq
  have hl2:=KH hcr hk (by rw[aO hL];exact hh) (by rw[aO hL];exact hc);rw[if_pos hh,if_neg hq,if_pos hc] at hT;have hcall:=hall (d.an.1.drop 1) tk e s (fun x h=>⟨List.mem_of_mem_drop h,hl2.2 x h⟩) h1 h2 he (hdr 1) (by have:=hdr 1;omega) (hs.mono (by have:=hdr 1;omega));generalize dJ (TF (-1) n) (d.an.1.drop 1) e s=r at *;rw[hT];refine aD.sE [.box b [.ms tk,.int .i64 s.vars,.bool s.lost],.row tk (s.cs.map Datum.pv)] [] [4,5,6] ai mixed ?_
  conv=>whnf
  repeat (refine wu ?_)
  refine aq.go hcall (aX.refl _) ?_;rintro _ _ ⟨t3,k1,k2,rfl,rfl⟩
  conv=>whnf
  repeat' (first|refine aY ?_|(refine zX (fun hc=>?_) (fun hc=>?_)<;>(try simp only[SY] at hc)<;>omega))
  exact ak.gen (y:=.agg (aa.mk 3 0 [] r.1).cells) (Γ':=oW b t3 r.2) eg.wk ⟨t3,k1,k2,rfl,rfl⟩
 ·rename_i b4 b5 b6 _ hh hq hi
  have hl2:=CQ hcr hk (by rw[aO hL];exact hh) (by rw[aO hL];exact hc);rw[if_pos hh,if_neg hq,if_neg hi,if_pos hc] at hT;have hcall:=hall (d.an.1.drop 1) tk e s (fun x h=>⟨List.mem_of_mem_drop h,hl2.2 x h⟩) h1 h2 he (hdr 1) (by have:=hdr 1;omega) (hs.mono (by have:=hdr 1;omega));generalize dJ (TF (-1) n) (d.an.1.drop 1) e s=r at *;rw[hT];refine aD.sE [.box b [.ms tk,.int .i64 s.vars,.bool s.lost],.row tk (s.cs.map Datum.pv)] [] [4,5,6] ai mixed ?_
  conv=>whnf
  repeat (refine wu ?_)
  refine aq.go hcall (aX.refl _) ?_;rintro _ _ ⟨t3,k1,k2,rfl,rfl⟩
  conv=>whnf
  repeat' (first|refine aY ?_|(refine zX (fun hc=>?_) (fun hc=>?_)<;>(try simp only[SY] at hc)<;>omega))
  exact ak.gen (y:=.agg (aa.mk 6 0 [] r.1).cells) (Γ':=oW b t3 r.2) eg.wk ⟨t3,k1,k2,rfl,rfl⟩
 ·rename_i b4 b5 b6 _ hh hq hi hb
  have hl2:=HM hcr hk (by rw[aO hL];exact hh) (by rw[aO hL];exact hc);have hl3:=hl2.1;have hn1: ¬(d.an.1[0]'hL).s= [108,97,109,98,100,97]:=by rw[hc];decide
  have hn2: ¬((d.an.1[0]'hL).s= [108,101,116,114,101,99]∨(d.an.1[0]'hL).s= [108,101,116,114,101,99,42]):=by rw[hc];decide
  rw[if_pos hh,if_neg hq,if_neg hi,if_neg hb,if_neg hn1,if_neg hn2,if_pos hc,aO (show 1 < d.an.1.length by omega)] at hT
  have hTT:R=(aa.mk 2 (n4 e (d.an.1[1]'(by omega)).s) [] (dJ (TF (-1) n) (d.an.1.drop 2) e ⟨s.cs,s.vars,s.lost || decide (n4 e (d.an.1[1]'(by omega)).s < 0)⟩).1,(dJ (TF (-1) n) (d.an.1.drop 2) e ⟨s.cs,s.vars,s.lost || decide (n4 e (d.an.1[1]'(by omega)).s < 0)⟩).2):=by
   rw[hT];unfold n4
   cases hf:mM e (d.an.1[1]'(by omega)).s with
   | some v=>
    have hv:=uW he hf;have:(s.lost || decide (v < 0))=s.lost:=by rw[decide_eq_false (by omega),Bool.or_false]
    dsimp only;rw[this]
   | none=>
    have:(s.lost || decide ((-1:Int) < 0))=true:=Bool.or_true _;dsimp only;rw[this]
  clear hT
  conv=>whnf
  repeat' (first|refine aY ?_|((((apply zZ);(conv=>whnf);(repeat ((refine pC (A9 e _ (by omega)) wR ?_);conv=>whnf));exact pZ));conv=>whnf)|(refine zX (fun hc=>?_) (fun hc=>?_)<;>(try simp only[SY] at hc)<;>omega))
  have hcall:=hall (d.an.1.drop 2) tk e ⟨s.cs,s.vars,s.lost || decide (n4 e (d.an.1[1]'(by omega)).s < 0)⟩ (fun x h=>⟨List.mem_of_mem_drop h,hl2.2.2 x h⟩) h1 h2 he (hdr 2) (by have:=hdr 2;omega) (hs.mono (by have:=hdr 2;omega));generalize dJ (TF (-1) n) (d.an.1.drop 2) e ⟨s.cs,s.vars,s.lost || decide (n4 e (d.an.1[1]'(by omega)).s < 0)⟩=r at *;generalize n4 e (d.an.1[1]'(by omega)).s=v at *;rw[hTT];refine aD.sE [.box b [.ms tk,.int .i64 s.vars,.bool (s.lost || decide (v < 0))],.row tk (s.cs.map Datum.pv)] [5] [6,7] ai mixed ?_
  conv=>whnf
  repeat (refine wu ?_)
  refine aq.go hcall (aX.refl _) ?_;rintro _ _ ⟨t3,k1,k2,rfl,rfl⟩
  conv=>whnf
  repeat' (first|refine aY ?_|(refine zX (fun hc=>?_) (fun hc=>?_)<;>(try simp only[SY] at hc)<;>omega))
  exact ak.gen (y:=.agg (aa.mk 2 v [] r.1).cells) (Γ':=oW b t3 r.2) eg.wk ⟨t3,k1,k2,rfl,rfl⟩
 ·rename_i b4 b5 b6 _ hh hq hi hb hst b13
  have hl2:=AZ hcr hk (by rw[aO hL];exact hh) (by rw[aO hL];exact hc);have hl3:=hl2.1;rw[if_pos hh,if_neg hq,if_neg hi,if_neg hb,if_pos hc,aO (show 1 < d.an.1.length by omega)] at hT;rw[aO (show 1 < d.an.1.length by omega)] at hl2;have h1n:1 < d.an.1.length:=by omega
  have hm1:d.an.1[1]'h1n∈d.an.1:=List.getElem_mem _;have hfp:=(hpl _ hm1).1;have hfs:=(Datum.kD hp hm1).1
  have hsz2:(d.an.1[1]'h1n).sz + Datum.ef (d.an.1.drop 2)≤Datum.ef d.an.1:=by
   have:=rE (show 1 < d.an.1.length by omega);rw[aO (show 1 < d.an.1.length by omega)] at this;omega
  have hall2:=fun tk' e' s'=>hall (d.an.1.drop 2) tk' e' s' (fun x h=>⟨List.mem_of_mem_drop h,hl2.2.2 x h⟩);have hvb:=hs.1;have hvc:=hs.2.1;have hvd:=hs.2.2
  conv=>whnf
  repeat' (first|refine aY ?_|((intro _);conv=>whnf)|(refine zX (fun hc=>?_) (fun hc=>?_)<;>(try simp only[SY] at hc)<;>omega))
  rename_i b14;refine ax.gh (au.trans (au.nil 1 3 _) (au.box (b:=b13) (cs:= [.int .i64 4,.int .i64 0,.nil,.nil]) (cs':= [.int .i64 4,.int .i64 0,.sl 1 (([]:List Int).map (PV.int .i64)) (some (aB 1 3)),.nil]) wA)) ?_
  refine ax.over [15,135,136,137,138,139,140,141,142,143,144,145,146,147,148,149,150,151,152,153,154,155,156,157,158] (fun z:Datum×List Datum×Env×List Int×Tok×lz=> [])
   (fun z:Datum×List Datum×Env×List Int×Tok×lz=>.tok z.2.2.2.2.1::.box b14 (kQ z.1)::.box b13 [.int .i64 4,.int .i64 0,.sl 1 (z.2.2.2.1.map (PV.int .i64)) (some z.2.2.2.2.1),.nil]::.box b6 [.int .i64 0,.int .i64 0,.nil,.nil]::.box b5 (mJ z.2.2.1)::oW b tk z.2.2.2.2.2)
   (fun z=>z.1.pr=true∧z.1.sz + z.2.1.length≤(d.an.1[1]'h1n).sz∧z.2.1++z.1.an.1=(d.an.1[1]'h1n).an.1∧z.1.an.2=(d.an.1[1]'h1n).an.2∧z.2.2.1=gz e s.vars (z.2.1.map Datum.s)∧z.2.2.2.1=tj s.vars z.2.1.length∧z.2.2.2.2.2=⟨s.cs,s.vars + z.2.1.length,s.lost⟩∧z.2.2.2.2.1.e=3) (fun z=>z.1.sz)
   (d.an.1[1]'h1n, [],e, [],aB 1 3,s) ⟨hfp,by simp,rfl,rfl,rfl,rfl,by simp,rfl⟩ wA ?_
  rintro ⟨D,m,E,V,tv,s1⟩ ⟨hD,hm,g1,g2,hE,hV,hs1,htv⟩;dsimp only at hD hm g1 g2 hE hV hs1 htv ⊢;have hlen:=fun h=>Datum.ri hD h;have hpos:=D.dy;have hEl:E.length=e.length + m.length:=by rw[hE,kP];simp
  have hVl:V.length=m.length:=by rw[hV,nS]
  have hv1:s1.vars=s.vars + m.length:=by rw[hs1]
  have hbE: ∀ x:Datum,(x.s,s1.vars)::E=gz e s.vars ((m++ [x]).map Datum.s):=fun x=>by
   rw[List.map_append,List.map_singleton,nB,hE,hv1,List.length_map]
  have hbV: ∀ x:Datum,V++ [s1.vars]=tj s.vars (m++ [x]).length:=fun x=>by
   rw[List.length_append,List.length_singleton,wm,hv1,hV]
  have hbS: ∀ x:Datum,(⟨s1.cs,s1.vars + 1,s1.lost⟩:lz)=⟨s.cs,s.vars + ((m++ [x]).length:Nat),s.lost⟩:=fun x=>by
   rw[hs1,List.length_append,List.length_singleton];congr 1;show s.vars + (m.length:Int) + 1=s.vars + ((m.length + 1:Nat):Int);omega
  conv=>whnf
  repeat' (first|refine aY ?_|(refine zX (fun hc=>?_) (fun hc=>?_)<;>(try simp only[SY] at hc)<;>(conv=>whnf)))
  ·have h3:=hlen hc
   have e3:=D.jA hc h3;have hz:=D.v8 h3;have h0n:0 < D.l.length:=by omega
   have h2n:1 < D.l.length:=by omega
   have hp0:=(D.l[0]'h0n).dy;rw[e3] at g1 g2;have hbind:=o9 b tk s1 E (D.l[0]'h0n).s (by omega) (by omega) (by omega);refine aD.tree ai mixed [0,0,0,4,12,28,60,127,255,511,511,1023,4095] [0,2,3,4,5,6] [1,7,8,9,10,11,12] [.box b5 (mJ E),.box b [.ms tk,.int .i64 s1.vars,.bool s1.lost],.row tk (s1.cs.map Datum.pv)] ?_
   conv=>whnf
   conv=>whnf
   repeat' (first|((first|((apply zZ);exact tB)|refine aM ?_|(refine And.intro ?_ ?_));conv=>whnf)|(refine zX (fun hc=>?_) (fun hc=>?_)<;>(try simp only[SY] at hc)<;>omega))
   all_goals try exact trivial
   refine aq.go hbind (aX.refl _) ?_;rintro _ _ ⟨rfl,rfl⟩
   conv=>whnf
   repeat' (first|((first|refine aM ?_|(refine And.intro ?_ ?_)|refine aF ?_|intro _);conv=>whnf)|(refine zX (fun hc=>?_) (fun hc=>?_)<;>(try simp only[SY] at hc)<;>omega))
   all_goals try exact trivial
   all_goals
    rename_i tv2 htv2;refine av (D.l[1]'h2n,m++ [D.l[0]'h0n],((D.l[0]'h0n).s,s1.vars)::E,V++ [s1.vars],tv2,⟨s1.cs,s1.vars + 1,s1.lost⟩) ⟨Datum.q9 hD (List.getElem_mem _),by simp;omega,by dsimp only;rw[List.append_assoc];exact g1,g2,hbE _,hbV _,hbS _,htv2⟩ (by show (D.l[1]'h2n).sz < D.sz;omega) wA
  ·rename_i hc6
   have e3:=D.lP hc6;rw[e3] at g1 g2;rw[List.append_nil] at g1;have hD2:D=(d.an.1[1]'h1n).an.2:=g2;have hF:ei (d.an.1[1]'h1n)=m++ [D]:=by rw[ei, ←g1, ←hD2,if_neg hc]
   have hEo:kI ((D.s,s1.vars)::E):=by rw[hbE];exact pe _ he hvb
   have hbind:=o9 b tk s1 E D.s (by omega) (by omega) (by omega);have hcall:=hall2 tk ((D.s,s1.vars)::E) ⟨s1.cs,s1.vars + 1,s1.lost⟩ h1 h2 hEo (hdr 2) (by rw[List.length_cons];omega) (by rw[hs1];exact ⟨by dsimp only;omega,by dsimp only;omega,by dsimp only;omega⟩);rw[hF, ←hbE D, ←hbV D, ←hbS D,if_neg (show ¬(d.an.1[1]'h1n).an.2.kind=4 by rw[←hD2];exact hc)] at hT;generalize dJ (TF (-1) n) (d.an.1.drop 2) ((D.s,s1.vars)::E) ⟨s1.cs,s1.vars + 1,s1.lost⟩=r at *;refine aq.go hbind (aX.refl _) ?_;rintro _ _ ⟨rfl,rfl⟩
   conv=>whnf
   repeat' (first|refine aY ?_|((intro _);conv=>whnf)|(refine zX (fun hc=>?_) (fun hc=>?_)<;>(try simp only[SY] at hc)<;>omega))
   rename_i tv2 htv2;rw[hT];refine aD.sE [.box b [.ms tk,.int .i64 (s1.vars + 1),.bool s1.lost],.row tk (s1.cs.map Datum.pv)] [] [4,5,6] ai mixed ?_
   conv=>whnf
   repeat (refine wu ?_)
   refine aq.go hcall (aX.refl _) ?_;rintro _ _ ⟨t3,k1,k2,rfl,rfl⟩
   conv=>whnf
   repeat' (first|refine aY ?_|(refine zX (fun hc=>?_) (fun hc=>?_)<;>(try simp only[SY] at hc)<;>omega))
   exact ak.gen (y:=.agg (aa.mk 4 1 (V++ [s1.vars]) r.1).cells) (Γ':=oW b t3 r.2) eg.wk ⟨t3,k1,k2,rfl,rfl⟩
  ·rename_i hc6
   have e3:=D.lP hc6;rw[e3] at g1 g2;rw[List.append_nil] at g1;have hD2:D=(d.an.1[1]'h1n).an.2:=g2;have hF:ei (d.an.1[1]'h1n)=m:=by rw[ei, ←g1, ←hD2,if_pos hc,List.append_nil]
   have hEo:kI E:=by rw[hE];exact pe _ he hvb
   have hcall:=hall2 tk E s1 h1 h2 hEo (hdr 2) (by omega) (by rw[hs1];exact ⟨by dsimp only;omega,by dsimp only;omega,by dsimp only;omega⟩);rw[hF, ←hE, ←hV, ←hs1,if_pos (show (d.an.1[1]'h1n).an.2.kind=4 by rw[←hD2];exact hc)] at hT;generalize dJ (TF (-1) n) (d.an.1.drop 2) E s1=r at *;rw[hT];refine aD.sE [.box b [.ms tk,.int .i64 s1.vars,.bool s1.lost],.row tk (s1.cs.map Datum.pv)] [] [4,5,6] ai mixed ?_
   conv=>whnf
   repeat (refine wu ?_)
   refine aq.go hcall (aX.refl _) ?_;rintro _ _ ⟨t3,k1,k2,rfl,rfl⟩
   conv=>whnf
   repeat' (first|refine aY ?_|(refine zX (fun hc=>?_) (fun hc=>?_)<;>(try simp only[SY] at hc)<;>omega))
   exact ak.gen (y:=.agg (aa.mk 4 0 V r.1).cells) (Γ':=oW b t3 r.2) eg.wk ⟨t3,k1,k2,rfl,rfl⟩
 ·rename_i b4 b5 b6 _ hh hq hi hb hst hla hxx
  have hs':(d.an.1[0]'hL).s= [108,101,116,114,101,99]∨(d.an.1[0]'hL).s= [108,101,116,114,101,99,42]:=.inl hc;obtain ⟨hl3,B,hB,hdB,hxB⟩:=A0 hcr hk (by rw[aO hL];exact hh) (by rw[aO hL];exact hs');rw[if_pos hh,if_neg hq,if_neg hi,if_neg hb,if_neg hla,if_pos hs',hB] at hT;dsimp only[Option.getD_some] at hT;have hm1:=hpl _ (gB (i:=1) (show 1 < d.an.1.length by omega));have hm2:=hpl _ (gB (i:=2) (show 2 < d.an.1.length by omega))
  have hrec:=EX b (TF (-1) n) d.an.1 B hl3 (fun x h=>(hpl x h).1) (by omega) hB (fun x hx=>by
   have hc3:=hxB x hx;rcases List.mem_append.1 hx with hx | hx
   ·obtain ⟨p,hp',rfl⟩:=List.mem_map.1 hx
    have:=w5 hm1.1 hB hp';exact ih _ this.2 (by omega) hc3
   ·rw[List.mem_singleton] at hx
    subst hx
    exact ih _ hm2.1 hm2.2 hc3) tk e s h1 h2 he (by omega) (hs.mono (by omega))
  rw[aO hL] at hrec;unfold cg at hrec;generalize dJ (TF (-1) n) (B.map Prod.snd++ [d.an.1.getD 2 aK]) (gz e s.vars (B.map fun p=>p.1.s)) ⟨s.cs,s.vars + B.length,s.lost⟩=r at *;generalize (if (d.an.1[0]'hL).s= [108,101,116,114,101,99,42] then (1:Int) else 0)=N at *;rw[hT];refine aq.go hrec (aX.refl _) ?_;rintro _ _ ⟨t3,k1,k2,rfl,rfl⟩
  conv=>whnf
  repeat' (first|refine aY ?_|(refine zX (fun hc=>?_) (fun hc=>?_)<;>(try simp only[SY] at hc)<;>omega))
  exact ak.gen (y:=.agg (aa.mk 7 N (tj s.vars B.length) r.1).cells) (Γ':=oW b t3 r.2) eg.wk ⟨t3,k1,k2,rfl,rfl⟩
 ·rename_i b4 b5 b6 _ hh hq hi hb hst hla hxx
  have hs':(d.an.1[0]'hL).s= [108,101,116,114,101,99]∨(d.an.1[0]'hL).s= [108,101,116,114,101,99,42]:=.inr hc;obtain ⟨hl3,B,hB,hdB,hxB⟩:=A0 hcr hk (by rw[aO hL];exact hh) (by rw[aO hL];exact hs');rw[if_pos hh,if_neg hq,if_neg hi,if_neg hb,if_neg hla,if_pos hs',hB] at hT;dsimp only[Option.getD_some] at hT;have hm1:=hpl _ (gB (i:=1) (show 1 < d.an.1.length by omega));have hm2:=hpl _ (gB (i:=2) (show 2 < d.an.1.length by omega))
  have hrec:=EX b (TF (-1) n) d.an.1 B hl3 (fun x h=>(hpl x h).1) (by omega) hB (fun x hx=>by
   have hc3:=hxB x hx;rcases List.mem_append.1 hx with hx | hx
   ·obtain ⟨p,hp',rfl⟩:=List.mem_map.1 hx
    have:=w5 hm1.1 hB hp';exact ih _ this.2 (by omega) hc3
   ·rw[List.mem_singleton] at hx
    subst hx
    exact ih _ hm2.1 hm2.2 hc3) tk e s h1 h2 he (by omega) (hs.mono (by omega))
  rw[aO hL] at hrec;unfold cg at hrec;generalize dJ (TF (-1) n) (B.map Prod.snd++ [d.an.1.getD 2 aK]) (gz e s.vars (B.map fun p=>p.1.s)) ⟨s.cs,s.vars + B.length,s.lost⟩=r at *;generalize (if (d.an.1[0]'hL).s= [108,101,116,114,101,99,42] then (1:Int) else 0)=N at *;rw[hT];refine aq.go hrec (aX.refl _) ?_;rintro _ _ ⟨t3,k1,k2,rfl,rfl⟩
  conv=>whnf
  repeat' (first|refine aY ?_|(refine zX (fun hc=>?_) (fun hc=>?_)<;>(try simp only[SY] at hc)<;>omega))
  exact ak.gen (y:=.agg (aa.mk 7 N (tj s.vars B.length) r.1).cells) (Γ':=oW b t3 r.2) eg.wk ⟨t3,k1,k2,rfl,rfl⟩
 ·rename_i b4 b5 b6 _ hh hq hi hb hst hla hxx
  exact (Fq hcr hk (by rw[aO hL];exact hh) (by rw[aO hL];exact hq) (by rw[aO hL];exact hi) (by rw[aO hL];exact hla) (by rw[aO hL];exact hst) (by rw[aO hL];exact hb) (by rw[aO hL];exact hxx) (by rw[aO hL];exact hc)).elim
 ·have hh: ¬((d.an.1[0]'hL).kind=2∧qO (d.an.1[0]'hL).s=true):=fun h=>by
   rcases ‹¬(d.an.1[0]'hL).kind=2∨qO (d.an.1[0]'hL).s=false› with h3 | h3
   ·exact h3 h.1
   ·rw[h.2] at h3;cases h3
  have hx:=HK hcr hk (by rw[aO hL];exact hh);rw[if_neg hh] at hT;have hcall:=hall d.an.1 tk e s (fun x h=>⟨h,hx x h⟩) h1 h2 he (Nat.le_refl _) (by omega) (hs.mono (by omega));generalize dJ (TF (-1) n) d.an.1 e s=r at *;rw[hT];refine aq.go hcall (aX.refl _) ?_;rintro _ _ ⟨t3,k1,k2,rfl,rfl⟩
  conv=>whnf
  repeat' (first|refine aY ?_|(refine zX (fun hc=>?_) (fun hc=>?_)<;>(try simp only[SY] at hc)<;>omega))
  exact ak.gen (y:=.agg (aa.mk 5 0 [] r.1).cells) (Γ':=oW b t3 r.2) eg.wk ⟨t3,k1,k2,rfl,rfl⟩
theorem sr (b:Nat): ∀ n:Nat,n≤100000000→ ∀ d:Datum,d.pr=true→d.sz≤n→cm n d=true→Hs b (TF (-1) n) d
 | 0,_,d,_,h,_=>by have:=d.dy;omega
 | n + 1,hn,d,hp,hd,hc=>JW b n (by omega) (fun x h1 h2 h3=>sr b n (by omega) x h1 h2 h3) d hd hp hc
end Go.Cb


