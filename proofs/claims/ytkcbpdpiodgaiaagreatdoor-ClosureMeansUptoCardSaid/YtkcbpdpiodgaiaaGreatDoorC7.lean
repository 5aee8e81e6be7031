/-
 Plain law: the inliner keeps within its bounds.
 Plain law: procedures stand apart, as a function.
 Plain: the module means the same: what goes together with what, by the terms alone; variables' values in both machines.
 Plain: the module means the same: Lams and closures, calls, Lets.
 Plain: the module means the same: Fixes.
 Plain: the module means the same: Fixes go together.
 Contracts: the document's machine: Fix of closures.
 Contracts: the document's machine: a program runs, to any end.
 Plain: the module means the same: terms.
 Contracts: package slices: Clone, ContainsFunc, Backward, of numbers.
 Contracts: package slices: DeleteFunc, of numbers.
 Contracts: the maker of closures: what a term is over, references, numbers.
 Plain law: how many codes there are.
 Contracts: the document's counts, bindings.
 Contracts: the document's bindings; all variables greater.
 Contracts: all variables greater by the same, of any term.
 Contracts: the maker of closures: bodies, procedures.
 Contracts: the maker of closures: Let.
 Contracts: the maker of closures: Fix.
 Contracts: the maker of closures: terms.
 Plain law: the module's size; the shape that the maker needs.
-/
import Derived.Test.YtkcbpdpiodgaiaaGreatDoorC6
set_option linter.unusedSimpArgs false
set_option linter.unusedVariables false
namespace Go.Cb
open Go.Proofs
set_option maxRecDepth 100000
set_option maxHeartbeats 4000000
mutual
def aa.K6:aa→Prop
 | .mk op _ v t=>((op=5→t≠ [])∧(op=4→t.length=1)∧(op=8∨op=9→t.length=v.length + 1)∧(op=9→ ∀ x∈t.dropLast,x.op=4))∧aa.B3 t
def aa.B3:List aa→Prop
 | []=>True
 | x::xs=>aa.K6 x∧aa.B3 xs
end
theorem aa.o0 (t:aa):t.K6↔((t.op=5→t.t≠ [])∧(t.op=4→t.t.length=1)∧(t.op=8∨t.op=9→t.t.length=t.v.length + 1)∧(t.op=9→ ∀ x∈t.t.dropLast,x.op=4))∧aa.B3 t.t:=by cases t;rw[aa.K6];rfl
theorem aa.nh: ∀ {l:List aa},aa.B3 l→ ∀ x∈l,x.K6
 | [],_,x,hx=>by cases hx
 | y::l,h,x,hx=>by
  rw[aa.B3] at h;rcases List.mem_cons.1 hx with rfl | hx
  ·exact h.1
  ·exact aa.nh h.2 x hx
theorem aa.tY {level c codes:Int} {free:Bool} (hl:level≠3) (t:aa): ∀ {scope:List Int} {deep:Int},t.lC level c codes free scope deep→t.K6:=by
 induction t using aa.ind with
 | h t ih=>
  intro scope deep h;rw[aa.dP] at h;rw[aa.o0]
  have key: ∀ (op:Int) (sc inner:List Int) (deep:Int) (l:List aa),(∀ y∈l, ∀ {scope:List Int} {deep:Int},y.lC level c codes free scope deep→y.K6)→aa.eW level c codes free op sc inner l deep→aa.B3 l∧(op=9→ ∀ x∈l.dropLast,x.op=4):=by
   intro op sc inner deep l
   induction l with
   | nil=>intro _ _;rw[aa.B3];exact ⟨trivial,fun _ x hx=>by cases hx⟩
   | cons x l ihl=>
    intro hy hk;rw[aa.eW] at hk;rw[aa.B3];obtain ⟨a1,a2⟩:=ihl (fun z hz=>hy z (by simp[hz])) hk.2.2;refine ⟨⟨hy x (by simp) hk.2.1,a1⟩,fun h9 y hy=>?_⟩
    cases l with
    | nil=>simp at hy
    | cons z l=>
     rw[List.dropLast_cons_cons] at hy;rcases List.mem_cons.1 hy with rfl | hy
     ·have h1:=hk.1
      unfold jf at h1;rw[if_neg hl] at h1;exact Classical.byContradiction fun h4=>h1 ⟨h9,by simp,h4⟩
     ·exact a2 h9 y hy
  obtain ⟨k1,k2⟩:=key _ _ _ _ _ ih h.2;refine ⟨?_,k1⟩;obtain ⟨⟨_,_,h3,h4⟩,_⟩:=h;unfold di at h3;refine ⟨fun e=>?_,fun e=>?_,fun e=>?_,k2⟩
  ·intro h0
   rw[h0,e] at h3;simp[oG] at h3
  ·split at h3
   ·cases h3
   ·rw[if_neg (by omega),if_pos (by omega)] at h3
    have:(t.t.length:Int)=1:=by simpa using h3
    omega
  ·split at h3
   ·cases h3
   ·rw[if_neg (by omega),if_neg (by omega),if_neg (by omega),if_neg (by omega),if_neg (by omega),if_pos (by omega)] at h3
    have:(t.t.length:Int)=(t.v.length:Int) + 1:=by simpa using h3
    omega
structure Lw (B:Nat) (s:Co):Prop where
 ok: ∀ v x,s.known v=some x→x.op=4∧x.t.length=1∧x.bp≤B
 n0:0≤s.next
 nb:s.next + s.mH * B≤900000000000
 b0:0≤s.mH
 b1:s.mH≤1000
 e0:0≤s.iZ
 e1:s.iZ≤9223372036854775807
theorem Lw.next {B:Nat} {s:Co} (h:Lw B s):s.next≤900000000000:=by
 have:=h.nb;have:0≤s.mH * B:=Int.mul_nonneg h.b0 (by omega);omega
structure Kn where
 code:Int
 st:Bool
abbrev Fm:=Int→Option Kn
def gE (fm:Fm) (v:Int):Bool:=match fm v with
 | some f=>f.st
 | none=>false
def codeF (fm:Fm) (v:Int):Int:=match fm v with
 | some f=>f.code
 | none=>0
def aO (fm:Fm) (t:aa):List Int:=(fR (bQ t.all)).filter fun v=>!gE fm v
def dc (fm:Fm) (ov:List Int) (v:Int):aa:=if gE fm v=true then .mk 21 (codeF fm v) [] [] else if kI ov v 0≥0 then .mk 20 (kI ov v 0) [] [] else .mk 1 v [] []
def tw (w:Bool) (fm:Fm) (v:Int) (f:Kn):Fm:=fun k=>if w=true∧(fm k).isSome=true then fm k else if k=v then some f else fm k
def dr (w:Bool):List (Int×Kn)→Fm→Fm
 | [],fm=>fm
 | x::l,fm=>dr w l (tw w fm x.1 x.2)
def fixF (w:Bool):List Int→Int→Bool→Fm→Fm
 | [],_,_,fm=>fm
 | v::vs,n,st,fm=>fixF w vs (n + 1) st (tw w fm v ⟨n,st⟩)
def kH (fm:Fm) (vs:List Int) (t:List aa):Bool:=(t.take vs.length).all fun x=>(aO fm x).all fun u=>vs.contains u
def kS (fm:Fm) (op k:Int) (t:List aa):Int×Int:=if op=5∧(t.headD (.mk 0 0 [] [])).op=1 then match fm (t.headD (.mk 0 0 [] [])).n with
 | some f=>(22,f.code)
 | none=>(op,k)
 else (op,k)
def iX (n:Int) (l:List aa):aa:=if l.length=0 then .mk 21 n [] [] else .mk 19 n [] l
structure OW where
 t:aa
 c:List bZ
 fm:Fm
structure Cn where
 v:List Int
 t:List aa
 last:aa
 own:List bZ
 c:List bZ
 fm:Fm
abbrev rU:aa:=.mk 0 0 [] []
mutual
def aa.cH (w:Bool):aa→List Int→Nat→Fm→OW
 | .mk op k v t,ov,n,fm=>
  if op=1 then ⟨dc fm ov k, [],fm⟩
  else if op=4 then
   let b:=aa.pO w t (aO fm (.mk op k v t)) (n + 1) fm
   ⟨iX n ((if w=true then aO b.fm (.mk op k v t) else aO fm (.mk op k v t)).map (dc b.fm ov)),⟨v,k == 1,b.t⟩::b.c,b.fm⟩
  else if op=8 then
   let r:=aa.dN w t v ov n fm []
   ⟨if r.v.length=0 then r.last else .mk 8 0 r.v (r.t++ [r.last]),r.c,r.fm⟩
  else if op=9 then
   let r:=aa.dw w t v ov n (n + v.length) (fixF w v n (kH fm v t) fm)
   ⟨if kH fm v t=true then r.last else .mk 9 0 v (r.t++ [r.last]),r.own++r.c,r.fm⟩
  else
   let r:=aa.dO w t ov n fm
   ⟨.mk (kS fm op k t).1 (kS fm op k t).2 v r.t,r.c,r.fm⟩
def aa.pO (w:Bool):List aa→List Int→Nat→Fm→OW
 | [],_,_,fm=>⟨rU, [],fm⟩
 | x::_,ov,n,fm=>aa.cH w x ov n fm
def aa.dB (w:Bool):aa→List Int→Nat→Fm→OW
 | .mk _ _ _ t,ov,n,fm=>aa.pO w t ov n fm
def aa.dO (w:Bool):List aa→List Int→Nat→Fm→Cn
 | [],_,_,fm=>⟨[], [],rU, [], [],fm⟩
 | x::xs,ov,n,fm=>
  let a:=aa.cH w x ov n fm
  let b:=aa.dO w xs ov (n + a.c.length) a.fm
  ⟨[],a.t::b.t,rU, [],a.c++b.c,b.fm⟩
def aa.dN (w:Bool):List aa→List Int→List Int→Nat→Fm→List (Int×Kn)→Cn
 | [],_,_,_,fm,lrn=>⟨[], [],rU, [], [],dr w lrn fm⟩
 | x::_, [],ov,n,fm,lrn=>
  let a:=aa.cH w x ov n (dr w lrn fm)
  ⟨[], [],a.t, [],a.c,a.fm⟩
 | x::xs,v::vs,ov,n,fm,lrn=>
  let a:=aa.cH w x ov n fm
  let b:=aa.dN w xs vs ov (n + a.c.length) a.fm (if x.op=4 then lrn++ [(v,⟨n,a.t.op == 21⟩)] else lrn)
  ⟨if x.op=4∧a.t.op=21 then b.v else v::b.v,if x.op=4∧a.t.op=21 then b.t else a.t::b.t,b.last, [],a.c++b.c,b.fm⟩
def aa.dw (w:Bool):List aa→List Int→List Int→Int→Nat→Fm→Cn
 | [],_,_,_,_,fm=>⟨[], [],rU, [], [],fm⟩
 | x::_, [],ov,_,n,fm=>
  let a:=aa.cH w x ov n fm
  ⟨[], [],a.t, [],a.c,a.fm⟩
 | x::xs,_::vs,ov,c,n,fm=>
  let a:=aa.dB w x (aO fm x) n fm
  let b:=aa.dw w xs vs ov (c + 1) (n + a.c.length) a.fm
  ⟨[],.mk 19 c [] ((if w=true then aO a.fm x else aO fm x).map (dc a.fm ov))::b.t,b.last,⟨x.v,x.n == 1,a.t⟩::b.own,a.c++b.c,b.fm⟩
end
def fZ (p:Prog):qI:=let r:=p.body.cH false [] 0 (fun _=>none);⟨p.consts,r.c,r.t⟩
def Oq:qI:=⟨[], [],rU⟩
def gR (p:Prog):qI×Int:=if mI p 2=0 then (if vv (fZ p)=0 then (fZ p,0) else (Oq,5)) else (Oq,5)
def Nt (op:Int):Prop:=op=0∨op=3∨op=5∨op=6∨op=10∨op=11∨op=12∨op=13∨(15≤op∧op≤18)
def Nu (x:aa):Prop:=x.op=4∧ ∃ b,x.t= [b]
def mq (fm:Fm):List Int→List aa→List aa
 | v::vs,x::xs=>if gE fm v=true then mq fm vs xs else x::mq fm vs xs
 | _,_=> []
def gx (fm:Fm) (vs:List Int):List Int:=vs.filter fun v=>!gE fm v
structure LX (S:List Int) (fm:Fm) (v:List Int) (S2 ov2:List Int) (fm2:Fm):Prop where
 sub: ∀ u∈S2,u∈S∧(gE fm u=true∨u∈ov2)
 ov: ∀ u∈ov2,u∈S∧gE fm u=false
 fm: ∀ u∈S2,fm2 u=fm u
 nd:v.Nodup
 ap: ∀ u∈v,u∉S2∧u∉ov2∧fm2 u=none
inductive Cl (K:List bZ):List Int→Fm→List Int→aa→aa→Prop
 | ref {S:List Int} {fm:Fm} {ov:List Int} {t:aa} (ho:t.op=1) (hr:t.n∈S):Cl K S fm ov t (dc fm ov t.n)
 | CQ {S:List Int} {fm:Fm} {ov:List Int} {t:aa} {ts:List aa} {v':List Int} (ho:Nt t.op) (hl:ts.length=t.t.length) (h: ∀ i (hi:i < t.t.length),Cl K S fm ov t.t[i] (ts[i]'(by omega))):Cl K S fm ov t (.mk t.op t.n v' ts)
 | call {S:List Int} {fm:Fm} {ov:List Int} {t f:aa} {args:List aa} {kn:Kn} {ts:List aa} {v':List Int} (ho:t.op=5) (ht:t.t=f::args) (hf:f.op=1) (hS:f.n∈S) (hk:fm f.n=some kn) (hl:ts.length=t.t.length) (h: ∀ i (hi:i < t.t.length),Cl K S fm ov t.t[i] (ts[i]'(by omega))):Cl K S fm ov t (.mk 22 kn.code v' ts)
 | lam {S:List Int} {fm:Fm} {ov:List Int} {t b b':aa} {n:Nat} {S2 ov2:List Int} {fm2:Fm} (ho:t.op=4) (ht:t.t= [b]) (hr:t.n=1→0 < t.v.length) (hO:LX S fm t.v S2 ov2 fm2) (hc:K[n]?=some ⟨t.v,t.n == 1,b'⟩) (h:Cl K (S2++t.v) fm2 ov2 b b'):Cl K S fm ov t (iX n (ov2.map (dc fm ov)))
 | lt {S:List Int} {fm:Fm} {ov:List Int} {t b b':aa} {l l2:List aa} {fm2:Fm} (ho:t.op=8) (ht:t.t=l++ [b]) (hv:l.length=t.v.length) (hnd:t.v.Nodup) (hap: ∀ u∈t.v,u∉S∧u∉ov) (hl:l2.length=l.length) (h: ∀ i (hi:i < l.length),Cl K S fm ov l[i] (l2[i]'(by omega))) (hf: ∀ u∈S,fm2 u=fm u)
   (hk: ∀ i (hi:i < t.v.length),fm2 t.v[i]=none∨((l[i]'(by omega)).op=4∧fm2 t.v[i]=some ⟨(l2[i]'(by omega)).n,(l2[i]'(by omega)).op == 21⟩)) (h2:Cl K (S++t.v) fm2 ov b b'):Cl K S fm ov t (if (gx fm2 t.v).length=0 then b' else .mk 8 0 (gx fm2 t.v) (mq fm2 t.v l2++ [b']))
 | fx {S:List Int} {fm:Fm} {ov:List Int} {t b b':aa} {l:List aa} {ls:List (List aa)} {fm2:Fm} {c:Nat} {st:Bool} (ho:t.op=9) (ht:t.t=l++ [b]) (hv:l.length=t.v.length) (hL: ∀ x∈l,Nu x) (hnd:t.v.Nodup) (hap: ∀ u∈t.v,u∉S∧u∉ov) (hf: ∀ u∈S,fm2 u=fm u) (hls:ls.length=l.length)
   (hk: ∀ i (hi:i < t.v.length),fm2 t.v[i]=some ⟨((c + i:Nat):Int),st⟩) (hst:st=true→ ∀ x∈ls,x= []) (hne:st=false→0 < l.length) (h: ∀ i (hi:i < l.length),Cl K (S++t.v) fm2 ov l[i] (iX ((c + i:Nat):Int) (ls[i]'(by omega)))) (h2:Cl K (S++t.v) fm2 ov b b'):
   Cl K S fm ov t (if st=true then b' else .mk 9 0 t.v ((ls.zipIdx c).map (fun p=>.mk 19 ((p.2:Nat):Int) [] p.1)++ [b']))
theorem nj {fm fm2:Fm} {v:Int} (h:fm2 v=fm v):gE fm2 v=gE fm v:=by rw[gE,gE,h]
theorem tZ {fm fm2:Fm} {v:Int} (ov:List Int) (h:fm2 v=fm v):dc fm2 ov v=dc fm ov v:=by unfold dc gE codeF;rw[h]
theorem Cl.agree {K:List bZ} {S:List Int} {fm:Fm} {ov:List Int} {t t':aa} (h:Cl K S fm ov t t'): ∀ fm0:Fm,(∀ v∈S,fm0 v=fm v)→Cl K S fm0 ov t t':=by
 induction h with
 | ref ho hr=>
  intro fm0 h0;rw[←tZ _ (h0 _ hr)];exact .ref ho hr
 | CQ ho hl _ ih=>exact fun fm0 h0=>.CQ ho hl fun i hi=>ih i hi fm0 h0
 | call ho ht hf hS hk hl _ ih=>exact fun fm0 h0=>.call ho ht hf hS ((h0 _ hS).trans hk) hl fun i hi=>ih i hi fm0 h0
 | lam ho ht hr hO hc h _=>
  intro fm0 h0;rw[←List.map_congr_left fun v hv=>tZ _ (h0 v (hO.ov v hv).1)];exact .lam ho ht hr ⟨fun u hu=>⟨(hO.sub u hu).1,by rw[nj (h0 u (hO.sub u hu).1)];exact (hO.sub u hu).2⟩,fun u hu=>⟨(hO.ov u hu).1,by rw[nj (h0 u (hO.ov u hu).1)];exact (hO.ov u hu).2⟩,fun u hu=>(hO.fm u hu).trans (h0 u (hO.sub u hu).1).symm,hO.nd,hO.ap⟩ hc h
 | lt ho ht hv hnd hap hl _ hf hk h2 ih _=>exact fun fm0 h0=>.lt ho ht hv hnd hap hl (fun i hi=>ih i hi fm0 h0) (fun u hu=>(hf u hu).trans (h0 u hu).symm) hk h2
 | fx ho ht hv hL hnd hap hf hls hk hst hne h h2 _ _=>exact fun fm0 h0=>.fx ho ht hv hL hnd hap (fun u hu=>(hf u hu).trans (h0 u hu).symm) hls hk hst hne h h2
def LK (h:Hp) (e':bq) (o:List Vl) (ov:List Int) (v:Int) (y:Vl):Prop:=if kI ov v 0≥0 then o[(kI ov v 0).toNat]?=some y else ∃ b,fc e' v=some b∧aL h b=some (y,false)
def LW (w:Wd) (e':bq) (o:List Vl) (ov:List Int) (v:Int) (y:Vl):Prop:=if kI ov v 0≥0 then o[(kI ov v 0).toNat]?=some y else ∃ b,fc e' v=some b∧w.f b y
theorem LK.Qi {h:Hp} {e':bq} {o:List Vl} {ov:List Int} {v:Int} {y z:Vl} (h1:LK h e' o ov v y) (h2:LK h e' o ov v z):y=z:=by
 unfold LK at h1 h2
 split at h1
 ·rename_i hi
  rw[if_pos hi,h1] at h2;exact Option.some.inj h2
 ·rename_i hi
  rw[if_neg hi] at h2;obtain ⟨b,e1,e2⟩:=h1;obtain ⟨b',k1,k2⟩:=h2;rw[e1] at k1;cases k1;rw[e2] at k2;cases k2;rfl
theorem LW.lk {w:Wd} {g:Hp} (hV: ∀ b y,w.f b y→aL g b=some (y,false)) {e':bq} {o:List Vl} {ov:List Int} {v:Int} {y:Vl} (h:LW w e' o ov v y):LK g e' o ov v y:=by
 unfold LW at h;unfold LK
 split
 ·rename_i hi
  rwa [if_pos hi] at h
 ·rename_i hi
  rw[if_neg hi] at h;obtain ⟨b,e1,e2⟩:=h;exact ⟨b,e1,hV _ _ e2⟩
theorem LK.up {h h':Hp} (k: ∀ a x,aL h a=some (x,false)→aL h' a=some (x,false)) {e':bq} {o:List Vl} {ov:List Int} {v:Int} {y:Vl} (h1:LK h e' o ov v y):LK h' e' o ov v y:=by
 unfold LK at h1⊢
 split
 ·rename_i hi
  rwa [if_pos hi] at h1
 ·rename_i hi
  rw[if_neg hi] at h1;obtain ⟨b,e1,e2⟩:=h1;exact ⟨b,e1,k _ _ e2⟩
theorem LW.up {w w':Wd} (hw:w.le w') {e':bq} {o:List Vl} {ov:List Int} {v:Int} {y:Vl} (h:LW w e' o ov v y):LW w' e' o ov v y:=by
 unfold LW at h⊢
 split
 ·rename_i hi
  rwa [if_pos hi] at h
 ·rename_i hi
  rw[if_neg hi] at h;obtain ⟨b,e1,e2⟩:=h;exact ⟨b,e1,hw.f _ _ e2⟩
def XY (w:Wd) (k:Option Kn) (x y:Vl):Prop:=VW w x y∧ ∀ kn,k=some kn→ ∃ p q,x=cg p∧y=cg q∧w.p p q kn.code
def SX (w:Wd) (k:Int) (x:Vl):Prop:= ∃ p,x=cg p∧w.z p k
theorem XY.up {w w':Wd} (hw:w.le w') {k:Option Kn} {x y:Vl} (h:XY w k x y):XY w' k x y:=⟨VW.up hw h.1,fun kn e=>by obtain ⟨p,q,e1,e2,e3⟩:=h.2 kn e;exact ⟨p,q,e1,e2,hw.p _ _ _ e3⟩⟩
theorem SX.up {w w':Wd} (hw:w.le w') {k:Int} {x:Vl} (h:SX w k x):SX w' k x:=by obtain ⟨p,e,hp⟩:=h;exact ⟨p,e,hw.z _ _ hp⟩
theorem yO {w:Wd} {p q:Nat} {n:Int} (h:w.p p q n):VW w (cg p) (cg q):=by
 refine (jz (cg p) (cg q)).2 ?_;exact ⟨⟨rfl,rfl,rfl,rfl⟩,bR.2 rfl,fun _=>⟨p,q,rfl,rfl,n,h⟩,fun h=>absurd (show (8:Int)=11 from h) (by decide)⟩
theorem G3 {w:Wd} {p q:Nat} {kn:Kn} (h:w.p p q kn.code):XY w (some kn) (cg p) (cg q):=⟨yO h,fun kn' e=>by cases e;exact ⟨p,q,rfl,rfl,h⟩⟩
def ER (w:Wd) (e e':bq) (o:List Vl) (fm:Fm) (ov S:List Int):Prop:=
 ∀ v∈S, ∃ a x,fc e v=some a∧w.g a x∧(gE fm v=true→SX w (codeF fm v) x)∧(gE fm v=false→ ∃ y,LW w e' o ov v y∧XY w (fm v) x y)
theorem ER.up {w w':Wd} (hw:w.le w') {e e':bq} {o:List Vl} {fm:Fm} {ov S:List Int} (h:ER w e e' o fm ov S):ER w' e e' o fm ov S:=fun v hv=>by
 obtain ⟨a,x,h1,h2,h3,h4⟩:=h v hv;exact ⟨a,x,h1,hw.g _ _ h2,fun hs=>(h3 hs).up hw,fun hs=>by obtain ⟨y,k1,k2⟩:=h4 hs;exact ⟨y,k1.up hw,k2.up hw⟩⟩
def CC (K:List bZ):CR:=fun w f g=>g.v=f.v∧g.rest=f.rest∧(f.rest=true→1≤f.v.length)∧g.env= []∧f.v.Nodup∧ ∃ S fm ov,(∀ u∈f.v,u∉S∧u∉ov∧fm u=none)∧Cl K (S++f.v) fm ov f.body g.body∧ER w f.env [] g.over fm ov S
theorem CC.mono {K:List bZ}:(CC K).mono:=fun w w' hw f g=>by
 rintro ⟨h1,h2,h3,h4,h5,S,fm,ov,h6,h7,h8⟩;exact ⟨h1,h2,h3,h4,h5,S,fm,ov,h6,h7,h8.up hw⟩
theorem EC: ∀ (l:List Int) (v:Int) (i:Nat),v∈l→ ∃ j, ∃ hj:j < l.length,kI l v i=((i + j:Nat):Int)∧l[j]=v
 | x::l,v,i,h=>by
  rw[kI];by_cases hx:v=x
  ·rw[if_pos hx]
   exact ⟨0,by simp,by simp,hx.symm⟩
  ·rw[if_neg hx]
   obtain ⟨j,hj,e1,e2⟩:=EC l v (i + 1) ((List.mem_cons.1 h).resolve_left hx);exact ⟨j + 1,by simpa using hj,by rw[e1];congr 1;omega,e2⟩
theorem ED {l:List Int} {v:Int} (h:v∉l): ¬kI l v 0≥0:=by
 have:=vc l v 0;rw[Bool.eq_false_iff.2 (fun hc=>h (List.contains_iff_mem.1 hc))] at this;simpa using this
theorem Ol {K:List bZ} {w:Wd} {g:Hp} (hV: ∀ b y,w.f b y→aL g b=some (y,false)) {S:List Int} {fm:Fm} {ov:List Int} {e e':bq} {o:List Vl} (hE:ER w e e' o fm ov S) {v:List Int} {rst:Bool} {b b':aa} {S2 ov2:List Int} {fm2:Fm} (hr:rst=true→1≤v.length) (hO:LX S fm v S2 ov2 fm2) (h:Cl K (S2++v) fm2 ov2 b b')
  {n:Int} {us:List Vl} (hl:us.length=ov2.length) (hu: ∀ i (hi:i < ov2.length),LK g e' o ov ov2[i] (us[i]'(by omega))) {cn:Int} {f:qH} (hf:f=⟨v,rst,b,e,cn, []⟩):CC K w f (jg ⟨v,rst,b'⟩ n us):=by
 subst hf;refine ⟨rfl,rfl,hr,rfl,hO.nd,S2,fm2,ov2,hO.ap,h,fun u hu'=>?_⟩;obtain ⟨q1,q2⟩:=hO.sub u hu';obtain ⟨a,x,k1,k2,k3,k4⟩:=hE u q1;have hfu:=hO.fm u hu';refine ⟨a,x,k1,k2,fun hs=>?_,fun hs=>?_⟩
 ·rw[nj hfu] at hs
  have:=k3 hs;unfold codeF at this ⊢;rw[hfu];exact this
 ·rw[nj hfu] at hs
  obtain ⟨y,m1,m2⟩:=k4 hs;have hm:u∈ov2:=q2.resolve_left fun h=>by rw[hs] at h;cases h
  obtain ⟨j,hj,e1,e2⟩:=EC ov2 u 0 hm;refine ⟨y,?_,by rw[hfu];exact m2⟩;unfold LW;rw[if_pos (by rw[e1];omega),e1];show us[((0 + j:Nat):Int).toNat]?=some y;rw[show ((0 + j:Nat):Int).toNat=j by omega,List.getElem?_eq_getElem (by omega)];have h3:=hu j hj;rw[e2] at h3;rw[h3.Qi (m1.lk hV)]
theorem qq {K:KC} {e':bq} {o:List Vl} {fm:Fm} {ov:List Int} {v:Int} {t:bJ} {us:List Vl} {c:Int} {t1:bJ} (h:Ev K (.ev (dc fm ov v) e' o) t us c t1) (hc:c≠8) (hs:gE fm v=false) {y:Vl} (hy:LK t.h e' o ov v y):us= [y]∧c=0∧t1=bf t:=by
 unfold dc at h;rw[if_neg (by rw[hs];decide)] at h;unfold LK at hy;obtain ⟨v1,rfl,_,h1⟩:=h.dn hc
 split at hy
 ·rename_i hi
  rw[if_pos hi] at h1;exact h1.Ke rfl hy hi
 ·rename_i hi
  rw[if_neg hi] at h1;obtain ⟨b,e1,e2⟩:=hy;exact h1.Ah rfl e1 e2
theorem qs {K:KC} {e':bq} {o:List Vl} {fm:Fm} {ov:List Int}: ∀ (l:List Int) (t:bJ) (us:List Vl) (c:Int) (t1:bJ),(∀ v∈l,gE fm v=false∧ ∃ y,LK t.h e' o ov v y)→Ev K (.all (l.map (dc fm ov)) e' o) t us c t1→c≠8→c=0∧iB t t1∧t1.h=t.h∧ ∃ hl:us.length=l.length, ∀ i (hi:i < l.length),LK t.h e' o ov l[i] (us[i]'(by omega))
 | [],t,us,c,t1,_,h,_=>by
  obtain ⟨rfl,rfl,rfl⟩:=h.tW;exact ⟨rfl,iB.refl _,rfl,rfl,fun i hi=>absurd hi (Nat.not_lt_zero _)⟩
 | v::l,t,us,c,t1,hl,h,hc=>by
  obtain ⟨hs,y,hy⟩:=hl v (List.mem_cons_self ..);rw[List.map_cons] at h
  rcases h.j7 with ⟨h0,v1,h1⟩ | ⟨x1,s1,us1,h1,h2,h3⟩
  ·exact absurd (qq h1 hc hs hy).2.1 h0
  ·obtain ⟨e1,_,rfl⟩:=qq h1 (by decide) hs hy
   injection e1 with e1 _;subst e1;obtain ⟨rfl,k1,k2,k3,k4⟩:=qs l (bf t) us1 c t1 (fun u hu=>hl u (List.mem_cons_of_mem _ hu)) h2 hc;obtain rfl:=h3 rfl;refine ⟨rfl,(iB.less t).trans k1,k2,by simpa using k3,fun i hi=>?_⟩
   match i,hi with
   | 0,_=>exact hy
   | i + 1,hi=>exact k4 i (by simpa using hi)
def RV (w:Wd) (fm:Fm):List Int→List Vl→List Vl→Prop
 | [],xs,ys=>xs= []∧ys= []
 | v::vs,xs,ys=> ∃ x xs1,xs=x::xs1∧((gE fm v=true∧SX w (codeF fm v) x∧RV w fm vs xs1 ys)∨(gE fm v=false∧ ∃ y ys1,ys=y::ys1∧XY w (fm v) x y∧RV w fm vs xs1 ys1))
theorem RV.up {w w':Wd} (hw:w.le w') {fm:Fm}: ∀ {vs:List Int} {xs ys:List Vl},RV w fm vs xs ys→RV w' fm vs xs ys
 | [],_,_,h=>h
 | v::vs,_,_,h=>by
  obtain ⟨x,xs1,rfl,⟨h1,h2,h3⟩ | ⟨h1,y,ys1,rfl,h2,h3⟩⟩:=h
  ·exact ⟨x,xs1,rfl,.inl ⟨h1,h2.up hw,RV.up hw h3⟩⟩
  ·exact ⟨x,xs1,rfl,.inr ⟨h1,y,ys1,rfl,h2.up hw,RV.up hw h3⟩⟩
theorem RV.at_ {w:Wd} {fm:Fm}: ∀ {vs:List Int} {xs ys:List Vl},RV w fm vs xs ys→xs.length=vs.length∧ys.length=(gx fm vs).length∧ ∀ i (hi:i < vs.length) (hx:i < xs.length),(gE fm vs[i]=true→SX w (codeF fm vs[i]) xs[i])∧(gE fm vs[i]=false→ ∃ j, ∃ (hj:j < (gx fm vs).length) (hy:j < ys.length),(gx fm vs)[j]=vs[i]∧XY w (fm vs[i]) xs[i] ys[j])
 | [],_,_,h=>by
  obtain ⟨rfl,rfl⟩:=h;exact ⟨rfl,rfl,fun i hi=>absurd hi (Nat.not_lt_zero _)⟩
 | v::vs,_,_,h=>by
  obtain ⟨x,xs1,rfl,⟨h1,h2,h3⟩ | ⟨h1,y,ys1,rfl,h2,h3⟩⟩:=h
  ·obtain ⟨k1,k2,k3⟩:=h3.at_
   have hk:gx fm (v::vs)=gx fm vs:=by unfold gx;rw[List.filter_cons_of_neg (by rw[h1];decide)]
   rw[hk];refine ⟨by simp[k1],k2,fun i hi hx=>?_⟩
   match i,hi,hx with
   | 0,_,_=>exact ⟨fun _=>h2,fun h=>by rw[List.getElem_cons_zero,h1] at h;cases h⟩
   | i + 1,hi,hx=>exact k3 i (by simpa using hi) (by simpa using hx)
  ·obtain ⟨k1,k2,k3⟩:=h3.at_
   have hk:gx fm (v::vs)=v::gx fm vs:=by unfold gx;rw[List.filter_cons_of_pos (by rw[h1];decide)]
   rw[hk];refine ⟨by simp[k1],by simp[k2],fun i hi hx=>?_⟩
   match i,hi,hx with
   | 0,_,_=>exact ⟨fun h=>(by rw[List.getElem_cons_zero,h1] at h;cases h),fun _=>⟨0,by simp,by simp,rfl,h2⟩⟩
   | i + 1,hi,hx=>
    obtain ⟨m1,m2⟩:=k3 i (by simpa using hi) (by simpa using hx);refine ⟨m1,fun h=>?_⟩;obtain ⟨j,hj,hy,e1,e2⟩:=m2 h;exact ⟨j + 1,by simpa using hj,by simpa using hy,e1,e2⟩
theorem DZ {C:CR} {K:KC} (hC:C.mono) {w:Wd} {s t:bJ} (hV:Va C K w s t) {e e':bq} {o:List Vl} {fm fm2:Fm} {ov S vs:List Int} (hE:ER w e e' o fm ov S) (hf: ∀ v∈S,fm2 v=fm v) (hnd:vs.Nodup) (hap: ∀ v∈vs,v∉S∧v∉ov)
  {az bz:List Nat} {xs ys:List Vl} (haz:az.length=vs.length) (hbz:bz.length=(gx fm2 vs).length) (na: ∀ a∈az, ∀ b, ¬w.m a b) (nb: ∀ b∈bz, ∀ a, ¬w.m a b) (hs: ∀ i (hi:i < az.length) (hx:i < xs.length),aL s.h az[i]=some (xs[i],false)) (ht: ∀ i (hi:i < bz.length) (hy:i < ys.length),aL t.h bz[i]=some (ys[i],false))
  (u:Nat→Nat→Int→Prop) (z:Nat→Int→Prop) (hR: ∀ w',w.le w'→(∀ a b n,u a b n→w'.p a b n)→(∀ a n,z a n→w'.z a n)→RV w' fm2 vs xs ys)
  (hu: ∀ w',w.le w'→ER w' (bM e vs az) (bM e' (gx fm2 vs) bz) o fm2 ov (S++vs)→(∀ b y,w'.f b y→aL t.h b=some (y,false))→(∀ a b n,u a b n→ ∃ f g,aY s.h a=some f∧aY t.h b=some g∧g.code=n∧C w' f g)∧(∀ a n,z a n→ ∃ f cd,aY s.h a=some f∧K.c[n.toNat]?=some cd∧C w' f (jg cd n []))):
  ∃ w',w.le w'∧Va C K w' s t∧ER w' (bM e vs az) (bM e' (gx fm2 vs) bz) o fm2 ov (S++vs):=by
 obtain ⟨q,hq⟩: ∃ q:Nat→Vl→Prop,q=fun b y=> ∃ i, ∃ (hi:i < bz.length) (hy:i < ys.length),b=bz[i]∧y=ys[i]:=⟨_,rfl⟩
 obtain ⟨r,hr⟩: ∃ r:Nat→Vl→Prop,r=fun a x=> ∃ i, ∃ (hi:i < az.length) (hx:i < xs.length),a=az[i]∧x=xs[i]:=⟨_,rfl⟩
 have hw:=w.iO q r u z;have hRV:=hR (w.plus q r u z) hw (fun _ _ _ h=>.inr h) (fun _ _ h=>.inr h);obtain ⟨lx,ly,hat⟩:=hRV.at_;have hkn:(gx fm2 vs).Nodup:=hnd.sublist List.filter_sublist;have hkm: ∀ v∈gx fm2 vs,v∈vs:=fun v hv=>(List.mem_filter.1 hv).1
 have hER:ER (w.plus q r u z) (bM e vs az) (bM e' (gx fm2 vs) bz) o fm2 ov (S++vs):=fun v hv=>by
  rcases List.mem_append.1 hv with hv | hv
  ·obtain ⟨a,x,k1,k2,k3,k4⟩:=hE.up hw v hv
   have hvv:v∉vs:=fun h=>(hap v h).1 hv;refine ⟨a,x,(kY hvv).trans k1,k2,fun h=>?_,fun h=>?_⟩
   ·rw[nj (hf v hv)] at h
    have:=k3 h;unfold codeF at this ⊢;rw[hf v hv];exact this
   ·rw[nj (hf v hv)] at h
    obtain ⟨y,m1,m2⟩:=k4 h;refine ⟨y,?_,by rw[hf v hv];exact m2⟩;unfold LW at m1 ⊢;rw[kY fun h=>hvv (hkm v h)];exact m1
  ·obtain ⟨i,hi,rfl⟩:=List.mem_iff_getElem.1 hv
   obtain ⟨m1,m2⟩:=hat i hi (by omega);refine ⟨az[i]'(by omega),xs[i]'(by omega),ext_get hnd haz i hi (by omega),.inr (by rw[hr];exact ⟨i,by omega,by omega,rfl,rfl⟩),m1,fun h=>?_⟩;obtain ⟨j,hj,hy,e1,e2⟩:=m2 h;refine ⟨ys[j],?_,e2⟩;unfold LW;rw[if_neg (ED (hap _ (List.getElem_mem hi)).2)];refine ⟨bz[j]'(by omega),?_,.inr (by rw[hq];exact ⟨j,by omega,hy,rfl,rfl⟩)⟩;rw[←e1];exact ext_get hkn hbz j hj (by omega)
 have hq': ∀ b y,q b y→aL t.h b=some (y,false)∧ ∀ a, ¬w.m a b:=fun b y h=>by
  rw[hq] at h;obtain ⟨i,hi,hy,rfl,rfl⟩:=h;exact ⟨ht i hi hy,nb _ (List.getElem_mem _)⟩
 obtain ⟨h1,h2⟩:=hu _ hw hER fun b y h=>h.elim (hV.pf b y) fun h=>(hq' b y h).1;refine ⟨_,hw,hV.link hC hq' (fun a x h=>?_) h1 h2,hER⟩;rw[hr] at h;obtain ⟨i,hi,hx,rfl,rfl⟩:=h;exact ⟨hs i hi hx,na _ (List.getElem_mem _)⟩
def uo (K:List bZ) (S:List Int) (fm:Fm) (t:aa) (n:Nat) (ov2:List Int):Prop:= ∃ b b' S2 fm2,t.op=4∧t.t= [b]∧(t.n=1→0 < t.v.length)∧LX S fm t.v S2 ov2 fm2∧K[n]?=some ⟨t.v,t.n == 1,b'⟩∧Cl K (S2++t.v) fm2 ov2 b b'
theorem Cl.nS {K:List bZ} {S:List Int} {fm:Fm} {ov:List Int} {t t':aa} (h:Cl K S fm ov t t') (h4:t.op=4): ∃ n ov2,t'=iX ((n:Nat):Int) (ov2.map (dc fm ov))∧uo K S fm t n ov2:=by
 cases h with
 | lam ho ht hr hO hc h=>exact ⟨_,_,rfl,_,_,_,_,ho,ht,hr,hO,hc,h⟩
 | ref ho | call ho | lt ho | fx ho=>exfalso;omega
 | CQ ho=>unfold Nt at ho;exfalso;omega
theorem mJ (n:Int) (l:List aa):(iX n l).n=n∧((iX n l).op == 21)=decide (l.length=0):=by
 unfold iX
 split
 ·rename_i h;exact ⟨rfl,by rw[decide_eq_true h];rfl⟩
 ·rename_i h;exact ⟨rfl,by rw[decide_eq_false h];rfl⟩
section
variable {J K:KC} {n:Int} {w:Wd} {s r:bJ} {t:aa} {e e':bq} {o o':List Vl} {S:List Int} {fm:Fm} {ov:List Int}
theorem uo.run {k:Nat} {ov2:List Int} (hD:uo K.c S fm t k ov2) {v:List Vl} {c:Int} {s':bJ} (h1:Ev J (.go t e o) s v c s'): ∃ a f cd,v= [cg a]∧c=0∧K.c[((k:Nat):Int).toNat]?=some cd∧oz ((a,.eH f)::s.h)∧s'=aR s ((a,.eH f)::s.h)∧
  ∀ w g us,(∀ b y,w.f b y→aL g b=some (y,false))→ER w e e' o' fm ov S→ ∀ (hl:us.length=ov2.length),(∀ i (hi:i < ov2.length),LK g e' o' ov ov2[i] (us[i]'(by omega)))→CC K.c w f (jg cd k us):=by
 obtain ⟨b,b',S2,fm2,h4,hb,hr,hO,hc,hCl⟩:=hD;obtain ⟨a,e1,rfl,hd,rfl⟩:=h1.nS h4 hb;refine ⟨a,_,_,e1,rfl,by rw[Int.toNat_natCast];exact hc,hd,rfl,fun w g us hV hE hl hu=>Ol hV hE (fun h=>hr (by simpa using h)) hO hCl hl hu rfl⟩
theorem Oe (hV:Va (CC K.c) K w s r) (hE:ER w e e' o' fm ov S) {k:Nat} {ov2:List Int} (hD:uo K.c S fm t k ov2) {v v':List Vl} {c c':Int} {s' r':bJ} (h1:Ev J (.go t e o) s v c s') (h2:Ev K (.ev (iX k (ov2.map (dc fm ov))) e' o') r v' c' r') (n2:c'≠8):
  c=0∧c'=0∧ ∃ a b w',v= [cg a]∧v'= [cg b]∧w.le w'∧Va (CC K.c) K w' s' r'∧w'.p a b k:=by
 have hO:=hD;obtain ⟨_,_,_,_,_,_,_,hO,_⟩:=hO;obtain ⟨a,f,cd,rfl,rfl,hcd,hd,rfl,hCC⟩:=hD.run (e':=e') (o':=o') (ov:=ov) h1
 have fin: ∀ (us:List Vl) (b:Nat) (r1:bJ),iB r r1→r1.h=r.h→ ∀ (hl:us.length=ov2.length),(∀ i (hi:i < ov2.length),LK r.h e' o' ov ov2[i] (us[i]'(by omega)))→oz ((b,.eH (jg cd k us))::r1.h)→ ∃ w',w.le w'∧Va (CC K.c) K w' (aR s ((a,.eH f)::s.h)) (aR r1 ((b,.eH (jg cd k us))::r1.h))∧w'.p a b k:=by
  intro us b r1 hs hh hl hu hdb;have k1:gI s.h (aR s ((a,.eH f)::s.h)).h:=gI.new hd;have k2:gI r.h (aR r1 ((b,.eH (jg cd k us))::r1.h)).h:=by rw[←hh];exact gI.new hdb
  have hV':=hV.ye (s':=aR s ((a,.eH f)::s.h)) (t':=aR r1 ((b,.eH (jg cd k us))::r1.h)) ⟨rfl,rfl,rfl,rfl⟩ (hs.trans ⟨rfl,rfl,rfl,rfl⟩) k1 k2;refine ⟨w.plus (fun _ _=>False) (fun _ _=>False) (fun a' b' n'=>a'=a∧b'=b∧n'=k) fun _ _=>False,w.iO _ _ _ _,hV'.link CC.mono (fun _ _ h=>h.elim) (fun _ _ h=>h.elim) ?_ (fun _ _ h=>h.elim),.inr ⟨rfl,rfl,rfl⟩⟩;rintro _ _ _ ⟨rfl,rfl,rfl⟩;exact ⟨f,jg cd k us,iH,iH,rfl,CC.mono _ _ (w.iO _ _ _ _) _ _ (hCC w r.h us hV.pf hE hl hu)⟩
 have hl0:(ov2.map (dc fm ov)).length=ov2.length:=List.length_map ..;obtain ⟨v1,rfl,_,hg⟩:=h2.dn n2;unfold iX at hg
 split at hg
 ·rename_i h0
  obtain ⟨b,e1,rfl,hdb,rfl⟩:=hg.Ax rfl hcd;obtain ⟨w',g1,g2,g3⟩:=fin [] b (bf r) (iB.less r) rfl (by simp;omega) (fun i hi=>by omega) hdb;exact ⟨rfl,rfl,a,b,w',rfl,e1,g1,g2,g3⟩
 ·have hov: ∀ v∈ov2,gE fm v=false∧ ∃ y,LK (bf r).h e' o' ov v y:=fun v hv=>by
   obtain ⟨q1,q2⟩:=hO.ov v hv;obtain ⟨_,_,_,_,_,k4⟩:=hE v q1;obtain ⟨y,m1,_⟩:=k4 q2;exact ⟨q2,y,m1.lk hV.pf⟩
  have ho:(aa.mk 19 (k:Int) [] (ov2.map (dc fm ov))).op=19:=rfl
  rcases hg.o4 (by rw[ho];decide) with ⟨h0,_,us,ha⟩ | ⟨v2,us,r1,e1,ha,hs⟩
  ·exact absurd (qs _ _ _ _ _ hov ha n2).1 h0
  ·obtain ⟨_,k1,k2,k3,k4⟩:=qs _ _ _ _ _ hov ha (by decide)
   obtain ⟨b,e2,rfl,hdb,rfl⟩: ∃ b,v2=cg b∧c'=0∧oz ((b,.eH (jg cd k us))::r1.h)∧r'=aR r1 ((b,.eH (jg cd k us))::r1.h):=by
    cases hs with
    | cH _ hk hd'=>
     have:K.c[((k:Nat):Int).toNat]?=some _:=hk;rw[hcd] at this;cases this;exact ⟨_,rfl,rfl,hd',rfl⟩
    | MT o2 | app o2 | xk o2 | AQ o2 | get o2 | eF o2 | seq o2 | box o2 | Nr o2 | Ff o2=>exact absurd (ho.symm.trans o2) (by decide)
    | bad o2 | put o2 | JE o2 | NC o2=>rw[ho] at o2;exact absurd o2 (by decide)
   injection e1 with e1 _;subst e1 e2;obtain ⟨w',g1,g2,g3⟩:=fin us b r1 ((iB.less r).trans k1) k2 k3 k4 hdb;exact ⟨rfl,rfl,a,b,w',rfl,rfl,g1,g2,g3⟩
theorem Pe (hV:Va (CC K.c) K w s r) (hE:ER w e e' o' fm ov S) {k:Nat} {ov2:List Int} (hD:uo K.c S fm t k ov2) {v v':List Vl} {c c':Int} {s' r':bJ} (h1:Ev J (.ev t e o) s v c s') (h2:Ev K (.ev (iX k (ov2.map (dc fm ov))) e' o') r v' c' r') (n1:c≠8) (n2:c'≠8):
  c=0∧c'=0∧ ∃ a b w',v= [cg a]∧v'= [cg b]∧w.le w'∧Va (CC K.c) K w' s' r'∧w'.p a b k:=by
 obtain ⟨v1,rfl,_,hg⟩:=h1.dn n1;exact Oe (hV.ye (iB.less s) (iB.refl r) (gI.refl _) (gI.refl _)) hE hD hg h2 n2
theorem Of (hV:Va (CC K.c) K w s r) (hE:ER w e e' o' fm ov S) {k:Nat} (hD:uo K.c S fm t k []) {v:List Vl} {c:Int} {s':bJ} (h1:Ev J (.ev t e o) s v c s') (n1:c≠8):c=0∧ ∃ a w',v= [cg a]∧w.le w'∧Va (CC K.c) K w' s' r∧w'.z a k:=by
 obtain ⟨v1,rfl,_,hg⟩:=h1.dn n1;obtain ⟨a,f,cd,e1,rfl,hcd,hd,rfl,hCC⟩:=hD.run (e':=e') (o':=o') (ov:=ov) hg;injection e1 with e1 _;subst e1;have hV':=hV.ye (s':=aR (bf s) ((a,.eH f)::s.h)) (t':=r) ⟨rfl,rfl,rfl,rfl⟩ (iB.refl r) (gI.new hd) (gI.refl _);refine ⟨rfl,a,w.plus (fun _ _=>False) (fun _ _=>False) (fun _ _ _=>False) fun a' n'=>a'=a∧n'=k,rfl,w.iO _ _ _ _,hV'.link CC.mono (fun _ _ h=>h.elim) (fun _ _ h=>h.elim) (fun _ _ _ h=>h.elim) ?_,.inr ⟨rfl,rfl⟩⟩;rintro _ _ ⟨rfl,rfl⟩;exact ⟨f,cd,iH,hcd,CC.mono _ _ (w.iO _ _ _ _) _ _ (hCC w r.h [] hV.pf hE rfl fun i hi=>absurd hi (Nat.not_lt_zero _))⟩
end
def Lx (J K:KC) (n:Int):Prop:= ∀ w t e o t' e' o' S fm ov,Cl K.c S fm ov t t'→ER w e e' o' fm ov S→Sm (CC K.c) J K n w (.ev t e o) (.ev t' e' o')
theorem LA {w:Wd} {fm:Fm}: ∀ {vs:List Int} {xs ys:List Vl},G1 w xs ys→xs.length=vs.length→(∀ v∈vs,fm v=none)→RV w fm vs xs ys
 | [],xs,ys,h,hl,_=>by
  obtain rfl:=List.eq_nil_of_length_eq_zero hl;exact ⟨rfl,bR.1 h⟩
 | v::vs, [],ys,h,hl,_=>by simp at hl
 | v::vs,x::xs,ys,h,hl,hn=>by
  obtain ⟨y,zs,rfl,h1,h2⟩:=cw.1 h;have h0:=hn v (List.mem_cons_self ..);refine ⟨x,xs,rfl,.inr ⟨by unfold gE;rw[h0],y,zs,rfl,⟨h1,fun kn e=>by rw[h0] at e;cases e⟩,LA h2 (by simpa using hl) fun u hu=>hn u (List.mem_cons_of_mem _ hu)⟩⟩
theorem LC {J K:KC} {n:Int} (HS:Lx J K n): ∀ w f g,CC K.c w f g→Cr (CC K.c) J K n w f g:=by
 rintro w f g ⟨h1,h2,h3,h4,h5,S,fm,ov,h6,h7,h8⟩;refine ⟨h2,by rw[h1],h3,fun w1 hw s t hV hn xs ys hx hl az bz haz hbz v c s' e1 v' c' t' e2 n1 n2=>?_⟩;have hly:=cy hx;rw[h1] at hbz e2;rw[h4] at e2;obtain ⟨_,_,hd1,_⟩:=e1.dn n1;obtain ⟨_,_,hd2,_⟩:=e2.dn n2;obtain ⟨p1,p2,p3,p4⟩:=lK (by omega) hd1;obtain ⟨q1,q2,q3,q4⟩:=lK (by omega) hd2;have hV':=hV.ye (s':=aR s (eM s.h xs az)) (t':=aR t (eM t.h ys bz)) ⟨rfl,rfl,rfl,rfl⟩ ⟨rfl,rfl,rfl,rfl⟩ p1 q1;have hk:gx fm f.v=f.v:=List.filter_eq_self.2 fun v hv=>by unfold gE;rw[(h6 v hv).2.2];rfl
 obtain ⟨w',g1,g2,g3⟩:=DZ CC.mono hV' (h8.up hw) (fm2:=fm) (fun _ _=>rfl) h5 (fun v hv=>⟨(h6 v hv).1,(h6 v hv).2.1⟩) (az:=az) (bz:=bz) (xs:=xs) (ys:=ys) haz (by rw[hk];exact hbz) (fun a ha=>hV.Nv (p3 a ha)) (fun b hb=>hV.rU (q3 b hb)) (fun i hi hx=>p4 i hx hi) (fun i hi hy=>q4 i hy hi) (fun _ _ _=>False) (fun _ _=>False)
  (fun w' hw' _ _=>LA (G1.up hw' hx) hl fun v hv=>(h6 v hv).2.2) (fun w' _ _ _=>⟨fun _ _ _ h=>h.elim,fun _ _ h=>h.elim⟩)
 rw[hk] at g3;exact Rs.back g1 (HS w' _ _ f.over _ _ _ _ _ _ h7 g3 w' w'.refl _ _ g2 hn _ _ _ e1 _ _ _ e2 n1 n2)
theorem Ic {J K:KC} {n:Int} (HS:Lx J K n) {e e':bq} {o o':List Vl} {S:List Int} {fm fm2:Fm} {ov:List Int}: ∀ (vs:List Int) (l l2:List aa) (w:Wd) (s r:bJ),Va (CC K.c) K w s r→s.fuel≤n→ER w e e' o' fm ov S→ ∀ (hv:l.length=vs.length) (hl:l2.length=l.length),(∀ i (hi:i < l.length),Cl K.c S fm ov l[i] (l2[i]'(by omega)))→
   (∀ i (hi:i < vs.length),fm2 vs[i]=none∨((l[i]'(by omega)).op=4∧fm2 vs[i]=some ⟨(l2[i]'(by omega)).n,(l2[i]'(by omega)).op == 21⟩))→ ∀ us c s' us' c' r',Ev J (.all l e o) s us c s'→Ev K (.all (mq fm2 vs l2) e' o') r us' c' r'→c≠8→c'≠8→c'=c∧ ∃ w',w.le w'∧Va (CC K.c) K w' s' r'∧(c=0→RV w' fm2 vs us us')
 | [], [],l2,w,s,r,hV,_,_,_,hl,_,_,us,c,s',us',c',r',h1,h2,_,_=>by
  obtain rfl:=List.eq_nil_of_length_eq_zero hl;obtain ⟨rfl,rfl,rfl⟩:=h1.tW;rw[mq] at h2
  ·obtain ⟨rfl,rfl,rfl⟩:=h2.tW
   exact ⟨rfl,w,w.refl,hV,fun _=>⟨rfl,rfl⟩⟩
  ·intros;simp_all
 | [],x::l,l2,w,s,r,_,_,_,hv,_,_,_,_,_,_,_,_,_,_,_,_,_=>by simp at hv
 | v::vs, [],l2,w,s,r,_,_,_,hv,_,_,_,_,_,_,_,_,_,_,_,_,_=>by simp at hv
 | v::vs,x::l, [],w,s,r,_,_,_,_,hl,_,_,_,_,_,_,_,_,_,_,_,_=>by simp at hl
 | v::vs,x::l,y::l2,w,s,r,hV,hn,hE,hv,hl,hC,hk,us,c,s',us',c',r',h1,h2,n1,n2=>by
  have hv':l.length=vs.length:=by simpa using hv
  have hl':l2.length=l.length:=by simpa using hl
  have hC0:=hC 0 (by simp);have hk0:=hk 0 (by simp);rw[List.getElem_cons_zero,List.getElem_cons_zero] at hC0;rw[List.getElem_cons_zero,List.getElem_cons_zero,List.getElem_cons_zero] at hk0;have IH:=fun (w:Wd) (s r:bJ) hV hn (hE:ER w e e' o' fm ov S)=>Ic HS (e:=e) (e':=e') (o:=o) (o':=o') vs l l2 w s r hV hn hE hv' hl' (fun i hi=>hC (i + 1) (by simpa using hi)) (fun i hi=>hk (i + 1) (by simpa using hi));rw[mq] at h2;by_cases hs:gE fm2 v=true
  ·rw[if_pos hs] at h2
   have hkn:x.op=4∧fm2 v=some ⟨y.n,y.op == 21⟩:=hk0.resolve_left fun h=>by unfold gE at hs;rw[h] at hs;cases hs
   obtain ⟨k,ov2,rfl,hD⟩:=hC0.nS hkn.1;obtain ⟨m1,m2⟩:=mJ k (ov2.map (dc fm ov));have hst:=hs;unfold gE at hst;rw[hkn.2] at hst;have hst':((iX k (ov2.map (dc fm ov))).op == 21)=true:=hst;rw[m2] at hst';have ho2:ov2= []:=List.eq_nil_of_length_eq_zero (by simpa using hst');subst ho2;have hcd:codeF fm2 v=k:=by unfold codeF;rw[hkn.2];exact m1
   rcases h1.j7 with ⟨h0,v1,e1⟩ | ⟨x1,s1,us1,e1,e2,e3⟩
   ·exact absurd (Of hV hE hD e1 n1).1 h0
   ·obtain ⟨_,a,w1,e4,g1,g2,g3⟩:=Of hV hE hD e1 (by decide)
    injection e4 with e4 _;subst e4;obtain ⟨g4,w2,g5,g6,g7⟩:=IH w1 s1 r g2 (Int.le_trans e1.grow.2.2 hn) (hE.up g1) _ _ _ _ _ _ e2 h2 n1 n2;refine ⟨g4,w2,Wd.trans g1 g5,g6,fun h0=>?_⟩;rw[e3 h0];exact ⟨_,_,rfl,.inl ⟨hs,⟨a,rfl,by rw[hcd];exact g5.z _ _ g3⟩,g7 h0⟩⟩
  ·rw[if_neg hs] at h2
   have hs':gE fm2 v=false:=by simpa using hs
   have one: ∀ {v1 c1 s1 v1' c1' r1},Ev J (.ev x e o) s v1 c1 s1→Ev K (.ev y e' o') r v1' c1' r1→c1≠8→c1'≠8→c1'=c1∧ ∃ w',w.le w'∧Va (CC K.c) K w' s1 r1∧(c1=0→ ∃ x y,v1= [x]∧v1'= [y]∧XY w' (fm2 v) x y):=fun {v1 c1 s1 v1' c1' r1} e1 e2 m1 m2=>by
    rcases hk0 with h0 | ⟨h4,hkn⟩
    ·obtain ⟨g1,w',g2,g3,g4⟩:=HS w _ _ o _ _ _ _ _ _ hC0 hE w w.refl s r hV hn _ _ _ e1 _ _ _ e2 m1 m2
     refine ⟨g1,w',g2,g3,fun h=>?_⟩;obtain ⟨x1,rfl,_⟩:=e1.dn m1;obtain ⟨y1,rfl,_⟩:=e2.dn m2;exact ⟨x1,y1,rfl,rfl,(bO.1 (g4 h)).1,fun kn hh=>by rw[h0] at hh;cases hh⟩
    ·obtain ⟨k,ov2,rfl,hD⟩:=hC0.nS h4
     obtain ⟨rfl,rfl,a,b,w',rfl,rfl,g1,g2,g3⟩:=Pe hV hE hD e1 e2 m1 m2;refine ⟨rfl,w',g1,g2,fun _=>⟨_,_,rfl,rfl,?_⟩⟩;rw[hkn];exact G3 (by rw[(mJ k (ov2.map (dc fm ov))).1];exact g3)
   rcases h1.j7 with ⟨h0,v1,e1⟩ | ⟨x1,s1,us1,e1,e2,e3⟩
   ·rcases h2.j7 with ⟨h0',v1',e1'⟩ | ⟨x1',r1,us1',e1',e2',e3'⟩
    ·obtain ⟨g1,w',g2,g3,_⟩:=one e1 e1' n1 n2
     exact ⟨g1,w',g2,g3,fun h=>absurd h h0⟩
    ·exact absurd (one e1 e1' n1 (by decide)).1.symm h0
   ·rcases h2.j7 with ⟨h0',v1',e1'⟩ | ⟨x1',r1,us1',e1',e2',e3'⟩
    ·exact absurd (one e1 e1' (by decide) n2).1 h0'
    ·obtain ⟨_,w1,g1,g2,g3⟩:=one e1 e1' (by decide) (by decide)
     obtain ⟨x2,y2,q1,q2,q3⟩:=g3 rfl;injection q1 with q1 _;injection q2 with q2 _;subst q1 q2;obtain ⟨g4,w2,g5,g6,g7⟩:=IH w1 s1 r1 g2 (Int.le_trans e1.grow.2.2 hn) (hE.up g1) _ _ _ _ _ _ e2 e2' n1 n2;refine ⟨g4,w2,Wd.trans g1 g5,g6,fun h0=>?_⟩;rw[e3 h0,e3' (g4.trans h0)];exact ⟨_,_,rfl,.inr ⟨hs',_,_,rfl,q3.up g5,g7 h0⟩⟩
theorem Bq {fm:Fm}: ∀ {vs:List Int} {l:List aa},l.length=vs.length→(mq fm vs l).length=(gx fm vs).length
 | [], [],_=>by rw[mq];rfl;intros;simp_all
 | v::vs,x::l,h=>by
  have:=Bq (fm:=fm) (vs:=vs) (l:=l) (by simpa using h);rw[mq];unfold gx at this⊢
  split
  ·rename_i hs
   rw[List.filter_cons_of_neg (by rw[hs];decide)];exact this
  ·rename_i hs
   rw[List.filter_cons_of_pos (by simpa using hs),List.length_cons,List.length_cons,this]
theorem Pf {J K:KC} {n:Int} (HS:Lx J K n) {w:Wd} {t b b':aa} {e e':bq} {o o':List Vl} {S:List Int} {fm fm2:Fm} {ov:List Int} (hE:ER w e e' o' fm ov S) {l l2:List aa} (ho:t.op=8) (ht:t.t=l++ [b]) (hv:l.length=t.v.length) (hnd:t.v.Nodup) (hap: ∀ u∈t.v,u∉S∧u∉ov) (hl:l2.length=l.length)
  (h: ∀ i (hi:i < l.length),Cl K.c S fm ov l[i] (l2[i]'(by omega))) (hf: ∀ u∈S,fm2 u=fm u) (hk: ∀ i (hi:i < t.v.length),fm2 t.v[i]=none∨((l[i]'(by omega)).op=4∧fm2 t.v[i]=some ⟨(l2[i]'(by omega)).n,(l2[i]'(by omega)).op == 21⟩)) (h2:Cl K.c (S++t.v) fm2 ov b b'):
  Sm (CC K.c) J K n w (.go t e o) (.ev (if (gx fm2 t.v).length=0 then b' else .mk 8 0 (gx fm2 t.v) (mq fm2 t.v l2++ [b'])) e' o'):=by
 intro w1 hw s r hV hn v c s' k1 v' c' r' k2 n1 n2;have hE1:=hE.up hw;have hkl:(mq fm2 t.v l2).length=(gx fm2 t.v).length:=Bq (by omega)
 have tgt:(c'≠0∧ ∃ us r1,iB r r1∧r1.h=r.h∧Ev K (.all (mq fm2 t.v l2) e' o') r1 us c' r')∨ ∃ us r1 r2 bz,iB r r1∧r1.h=r.h∧Ev K (.all (mq fm2 t.v l2) e' o') r1 us 0 r2∧bz.length=(gx fm2 t.v).length∧Ev K (.ev b' (bM e' (gx fm2 t.v) bz) o') (aR r2 (eM r2.h us bz)) v' c' r':=by
  split at k2
  ·rename_i h0
   have hn1:=List.eq_nil_of_length_eq_zero h0;have hn2:mq fm2 t.v l2= []:=List.eq_nil_of_length_eq_zero (by omega);refine .inr ⟨[],r,r, [],iB.refl _,rfl,by rw[hn2];exact .G7,by rw[hn1];rfl,?_⟩;rw[hn1];exact k2
  ·obtain ⟨v1,rfl,_,hg⟩:=k2.dn n2
   rcases hg.EH rfl (l:=mq fm2 t.v l2) (b:=b') rfl with ⟨h0,_,us,ha⟩ | ⟨v2,us,r2,bz,e1,ha,_,hbz,hb⟩
   ·exact .inl ⟨h0,us,bf r,iB.less r,rfl,ha⟩
   ·injection e1 with e1 _
    subst e1;exact .inr ⟨us,bf r,r2,bz,iB.less r,rfl,ha,hbz,hb⟩
 rcases k1.EH ho ht with ⟨h0,rfl,us,ha⟩ | ⟨v1,us,s1,az,rfl,ha,_,haz,hb⟩
 ·rcases tgt with ⟨h0',us',r1,q1,q2,ha'⟩ | ⟨us',r1,r2,bz,q1,q2,ha',hbz,hb'⟩
  ·have hV1:=hV.ye (iB.refl s) q1 (gI.refl _) (by rw[q2];exact gI.refl _)
   obtain ⟨g1,w2,g2,g3,_⟩:=Ic HS t.v l l2 w1 s r1 hV1 hn hE1 hv hl h hk _ _ _ _ _ _ ha ha' n1 n2;exact ⟨g1,w2,g2,g3,fun h=>absurd h h0⟩
  ·have hV1:=hV.ye (iB.refl s) q1 (gI.refl _) (by rw[q2];exact gI.refl _)
   exact absurd (Ic HS t.v l l2 w1 s r1 hV1 hn hE1 hv hl h hk _ _ _ _ _ _ ha ha' n1 (by decide)).1.symm h0
 ·rcases tgt with ⟨h0',us',r1,q1,q2,ha'⟩ | ⟨us',r1,r2,bz,q1,q2,ha',hbz,hb'⟩
  ·have hV1:=hV.ye (iB.refl s) q1 (gI.refl _) (by rw[q2];exact gI.refl _)
   exact absurd (Ic HS t.v l l2 w1 s r1 hV1 hn hE1 hv hl h hk _ _ _ _ _ _ ha ha' (by decide) n2).1 h0'
  ·have hV1:=hV.ye (iB.refl s) q1 (gI.refl _) (by rw[q2];exact gI.refl _)
   obtain ⟨_,w2,g2,g3,g4⟩:=Ic HS t.v l l2 w1 s r1 hV1 hn hE1 hv hl h hk _ _ _ _ _ _ ha ha' (by decide) (by decide);have hR:=g4 rfl;obtain ⟨lx,ly,_⟩:=hR.at_;obtain ⟨_,_,hd1,_⟩:=hb.dn n1;obtain ⟨_,_,hd2,_⟩:=hb'.dn n2;obtain ⟨p1,p2,p3,p4⟩:=lK (by omega) hd1;obtain ⟨q1,q2,q3,q4⟩:=lK (by omega) hd2;have hV2:=g3.ye (s':=aR s1 (eM s1.h us az)) (t':=aR r2 (eM r2.h us' bz)) ⟨rfl,rfl,rfl,rfl⟩ ⟨rfl,rfl,rfl,rfl⟩ p1 q1
   obtain ⟨w3,m1,m2,m3⟩:=DZ CC.mono hV2 (hE1.up g2) hf hnd hap (az:=az) (bz:=bz) (xs:=us) (ys:=us') haz hbz (fun a ha=>g3.Nv (p3 a ha)) (fun b hb=>g3.rU (q3 b hb)) (fun i hi hx=>p4 i hx hi) (fun i hi hy=>q4 i hy hi) (fun _ _ _=>False) (fun _ _=>False)
    (fun w' hw' _ _=>hR.up hw') (fun w' _ _ _=>⟨fun _ _ _ h=>h.elim,fun _ _ h=>h.elim⟩)
   exact Rs.back (Wd.trans g2 m1) (HS w3 _ _ o _ _ _ _ _ _ h2 m3 w3 w3.refl _ _ m2 (Int.le_trans ha.grow.2.2 hn) _ _ _ hb _ _ _ hb' n1 n2)
def IC (e:bq) (x:aa):qH:=⟨x.v,x.n == 1,x.t.headD rU,e, -1, []⟩
theorem Ev.Eo {K:KC} {t:aa} {e:bq} {s:bJ} {vs:List Vl} {c:Int} {s':bJ} {o:List Vl} (h:Ev K (.ev t e o) s vs c s') (hc:c≠8) (ht:Nu t): ∃ a,vs= [cg a]∧c=0∧oz ((a,.eH (IC e t))::s.h)∧s'=aR (bf s) ((a,.eH (IC e t))::s.h):=by
 obtain ⟨ho,b,hb⟩:=ht;obtain ⟨v1,rfl,_,hg⟩:=h.dn hc;obtain ⟨a,e1,e2,e3,e4⟩:=hg.nS ho hb;unfold IC;rw[hb];exact ⟨a,e1,e2,e3,e4⟩
theorem Ev.IK {K:KC} {v:Int} {vs:List Int} {t:aa} {l:List aa} {e:bq} {s:bJ} {us:List Vl} {c:Int} {s':bJ} {o:List Vl} (h:Ev K (.rc true (v::vs) (t::l) e o) s us c s'):
  (c≠0∧ ∃ y,Ev K (.ev t e o) s [y] c s')∨ ∃ x s1 us1,Ev K (.ev t e o) s [x] 0 s1∧Ev K (.rc true vs l e o) (iV s1 e v x) us1 c s'∧(c=0→us=x::us1):=by
 cases h with
 | Pj h1 h0=>exact .inl ⟨h0,_,h1⟩
 | NB h1 h2=>exact .inr ⟨_,_,_,h1,by simpa using h2,fun _=>rfl⟩
 | Oz h1 h2 h0=>exact .inr ⟨_,_,_,h1,by simpa using h2,fun h=>absurd h h0⟩
theorem zn: ∀ {az:List Nat} {h:Hp},iW h false az=eM h (az.map fun _=>fF 12) az
 | [],h=>rfl
 | a::az,h=>by rw[iW,List.map_cons,eM,zn]
theorem ld: ∀ (h:Hp) (a:Nat) (x:Vl),(hput h a x).map (fun c=>c.1)=h.map (fun c=>c.1)
 | [],_,_=>rfl
 | (b,.cell y r)::h,a,x=>by
  rw[hput];by_cases hc:b=a
  ·rw[if_pos hc];rfl
  ·rw[if_neg hc,List.map_cons,List.map_cons,ld h]
 | (b,.eH f)::h,a,x=>by rw[hput,List.map_cons,List.map_cons,ld h]
theorem mX: ∀ (h:Hp) (a:Nat) (x:List Vl),(dL h a x).map (fun c=>c.1)=h.map (fun c=>c.1)
 | [],_,_=>rfl
 | (b,.eH f)::h,a,x=>by
  rw[dL];by_cases hc:b=a
  ·rw[if_pos hc];rfl
  ·rw[if_neg hc,List.map_cons,List.map_cons,mX h]
 | (b,.cell y r)::h,a,x=>by rw[dL,List.map_cons,List.map_cons,mX h]
theorem xZ {K:KC} {e:bq} {o:List Vl}: ∀ (vs:List Int) (ls:List aa) (az:List Nat) (s:bJ) (us:List Vl) (c:Int) (s':bJ),(∀ x∈ls,Nu x)→ ∀ (hl:az.length=vs.length),(∀ i (hi:i < vs.length),fc e vs[i]=some (az[i]'(by omega)))→az.Nodup→(∀ a∈az, ∃ y,aL s.h a=some (y,false))→Ev K (.rc true vs ls e o) s us c s'→c≠8→
  c=0∧iB s s'∧(∃ ps,s'.h.map (fun c=>c.1)=ps++s.h.map fun c=>c.1)∧(∀ a x r,a∉az→aL s.h a=some (x,r)→aL s'.h a=some (x,r))∧(∀ a f,aY s.h a=some f→aY s'.h a=some f)∧ ∃ pz:List Nat, ∃ (hp:pz.length=vs.length) (hls:ls.length=vs.length), ∀ i (hi:i < vs.length),aL s'.h (az[i]'(by omega))=some (cg (pz[i]'(by omega)),false)∧aY s'.h (pz[i]'(by omega))=some (IC e (ls[i]'(by omega)))
 | [], [],az,s,us,c,s',_,_,_,_,_,h,_=>by
  cases h;exact ⟨rfl,iB.refl _,⟨[],rfl⟩,fun _ _ _ _ h=>h,fun _ _ h=>h, [],rfl,rfl,fun i hi=>absurd hi (Nat.not_lt_zero _)⟩
 | [],x::ls,az,s,us,c,s',_,_,_,_,_,h,_=>by cases h
 | v::vs, [],az,s,us,c,s',_,_,_,_,_,h,_=>by cases h
 | v::vs,x::ls, [],s,us,c,s',_,hl,_,_,_,h,_=>by simp at hl
 | v::vs,x::ls,a::az,s,us,c,s',hL,hl,hf,hd,hy,h,hc=>by
  have hx:=hL x (List.mem_cons_self ..);rw[List.nodup_cons] at hd
  rcases h.IK with ⟨h0,y,h1⟩ | ⟨x1,s1,us1,h1,h2,h3⟩
  ·obtain ⟨_,_,e0,_⟩:=h1.Eo hc hx
   exact absurd e0 h0
  ·obtain ⟨p,e1,_,hdp,rfl⟩:=h1.Eo (by decide) hx
   injection e1 with e1 _;subst e1;have k0:=gI.new hdp;have f0:fc e v=some a:=hf 0 (by simp)
   have hst:iV (aR (bf s) ((p,.eH (IC e x))::s.h)) e v (cg p)=aR (aR (bf s) ((p,.eH (IC e x))::s.h)) (hput ((p,.eH (IC e x))::s.h) a (cg p)):=by
    unfold iV;rw[f0]
   rw[hst] at h2;obtain ⟨y0,hy0⟩:=hy a (List.mem_cons_self ..);have hne: ∀ b∈az,b≠a:=fun b hb e=>hd.1 (e▸hb)
   obtain ⟨rfl,k1,⟨ps,k2⟩,k3,k4,pz,hp,hls,k5⟩:=xZ vs ls az _ us1 c s' (fun y hy=>hL y (List.mem_cons_of_mem _ hy)) (by simpa using hl) (fun i hi=>hf (i + 1) (by simpa using hi)) hd.2 (fun b hb=>by
    obtain ⟨y,hy1⟩:=hy b (List.mem_cons_of_mem _ hb)
    exact ⟨y,(c9 (hne b hb)).trans (k0.1 _ _ _ hy1)⟩) h2 hc
   refine ⟨rfl,iB.trans ⟨rfl,rfl,rfl,rfl⟩ k1,⟨ps++ [p],?_⟩,fun b y r hb hg=>k3 b y r (fun h=>hb (List.mem_cons_of_mem _ h)) ((c9 fun e=>hb (by rw[e];exact List.mem_cons_self ..)).trans (k0.1 _ _ _ hg)),fun b f hg=>k4 b f ((fN _ _ _ _).trans (k0.2 _ _ hg)),p::pz,by simpa using hp,by simpa using hls,fun i hi=>?_⟩
   ·rw[k2]
    show ps++(hput ((p,.eH (IC e x))::s.h) a (cg p)).map (fun c=>c.1)=_;rw[ld,List.map_cons,List.append_assoc];rfl
   ·match i,hi with
    | 0,_=>exact ⟨k3 a _ _ hd.1 (gb (k0.1 _ _ _ hy0)),k4 p _ ((fN _ _ _ _).trans iH)⟩
    | i + 1,hi=>exact k5 i (by simpa using hi)
theorem Kc {K:KC} {t:aa} {e:bq} {s:bJ} {vs:List Vl} {c:Int} {s':bJ} {o:List Vl} (h:Ev K (.go t e o) s vs c s') (hc:c≠8) (ho:t.op=9) {l:List aa} {b:aa} (ht:t.t=l++ [b]) (hL: ∀ x∈l,Nu x) (hnd:t.v.Nodup):
  ∃ (az pz:List Nat) (v:Vl) (s1:bJ), ∃ (haz:az.length=t.v.length) (hpz:pz.length=t.v.length) (hll:l.length=t.v.length),vs= [v]∧Ev K (.ev b (bM e t.v az) o) s1 [v] c s'∧s1.fuel≤s.fuel∧iB s s1∧gI s.h s1.h∧(∀ a∈az,a∉s.h.map fun c=>c.1)∧ ∀ i (hi:i < t.v.length),aL s1.h (az[i]'(by omega))=some (cg (pz[i]'(by omega)),false)∧aY s1.h (pz[i]'(by omega))=some (IC (bM e t.v az) (l[i]'(by omega))):=by
 have hnow:(t.op == 9 || t.n == 1)=true:=by rw[ho];rfl
 have h7:(t.op == 7)=false:=by rw[ho];rfl
 have key:=fun (az:List Nat) (us:List Vl) (c1:Int) (s1:bJ) (ha:az.length=t.v.length) (hr:Ev K (.rc true t.v l (bM e t.v az) o) (aR s (eM s.h (az.map fun _=>fF 12) az)) us c1 s1) (hc1:c1≠8) (hn:az.Nodup) (hg: ∀ i (hi:i < az.length),aL (eM s.h (az.map fun _=>fF 12) az) az[i]=some (fF 12,false))=>
  xZ t.v l az _ us c1 s1 hL ha (fun i hi=>ext_get hnd ha i hi (by omega)) hn (fun a hm=>by
   obtain ⟨i,hi,rfl⟩:=List.mem_iff_getElem.1 hm
   exact ⟨_,hg i hi⟩) hr hc1
 have hnd0: ∀ (az:List Nat) us c1 s1,az.length=t.v.length→Ev K (.rc true t.v l (bM e t.v az) o) (aR s (eM s.h (az.map fun _=>fF 12) az)) us c1 s1→c1≠8→(t.v= []→oz s.h)→oz (eM s.h (az.map fun _=>fF 12) az):=by
  intro az us c1 s1 ha hr hc1 h0
  cases hv:t.v with
  | nil=>
   rw[hv] at ha;rw[List.eq_nil_of_length_eq_zero ha];exact h0 hv
  | cons v vs=>
   rw[hv] at hr
   cases l with
   | nil=>cases hr
   | cons x ls=>
    rcases hr.IK with ⟨_,y,h1⟩ | ⟨x1,s2,us1,h1,_⟩
    ·obtain ⟨_,_,h,_⟩:=h1.dn hc1
     exact h
    ·obtain ⟨_,_,h,_⟩:=h1.dn (by decide)
     exact h
 cases h with
 | @GG _ _ _ l' b' az us _ _ _ _ ht' hl hno ha hr h0=>
  rw[ht] at ht';obtain ⟨rfl,e2⟩:=List.append_inj' ht' rfl;rw[hnow,h7,zn] at hr;exfalso
  cases hv:t.v with
  | nil=>
   rw[hv] at hr hl;rw[List.eq_nil_of_length_eq_zero hl] at hr;cases hr;exact h0 rfl
  | cons v vs=>
   have hd:=hnd0 az us c s' ha hr hc fun h=>by rw[hv] at h;cases h
   obtain ⟨n1,n2,n3,n4⟩:=lK (by simp) hd;exact h0 (key az us c s' ha hr hc n2 fun i hi=>by rw[n4 i (by simpa using hi) hi,List.getElem_map]).1
 | @FM _ _ _ l' b' az us s1 v _ _ _ _ ht' hl hno ha hr hb=>
  rw[ht] at ht';obtain ⟨rfl,e2⟩:=List.append_inj' ht' rfl;cases e2;rw[hnow,h7,zn] at hr;rw[if_neg (by omega)] at hb;obtain ⟨_,_,hd,_⟩:=hb.dn hc
  have hd':=hnd0 az us 0 s1 ha hr (by decide) fun hv=>by
   rw[hv] at hr hl ha;rw[List.eq_nil_of_length_eq_zero hl,List.eq_nil_of_length_eq_zero ha] at hr;cases hr;exact hd
  obtain ⟨n1,n2,n3,n4⟩:=lK (by simp) hd';obtain ⟨_,k1,_,k3,k4,pz,hp,hls,k5⟩:=key az us 0 s1 ha hr (by decide) n2 fun i hi=>by rw[n4 i (by simpa using hi) hi,List.getElem_map]
  exact ⟨az,pz,v,s1,ha,hp,hls,rfl,hb,hr.grow.2.2,iB.trans ⟨rfl,rfl,rfl,rfl⟩ k1,⟨fun a x r hg=>k3 a x r (fun hm=>n3 a hm (iS hg)) (n1.1 _ _ _ hg),fun a f hg=>k4 a f (n1.2 _ _ hg)⟩,n3,k5⟩
 | @GD _ _ _ l' b' az pz cs us _ _ _ _ ht' hl h0l h19=>
  rw[ht] at ht';obtain ⟨rfl,e2⟩:=List.append_inj' ht' rfl;have h1:=hL _ (List.getElem_mem h0l);have h2:=h19 _ (List.getElem_mem h0l);have:=h1.1;exfalso;omega
 | @GC _ _ _ l' b' az pz cs us _ _ _ _ _ _ ht' hl h0l h19=>
  rw[ht] at ht';obtain ⟨rfl,e2⟩:=List.append_inj' ht' rfl;have h1:=hL _ (List.getElem_mem h0l);have h2:=h19 _ (List.getElem_mem h0l);have:=h1.1;exfalso;omega
 | Jj o | st o=>exfalso;omega
 | _=>exfalso;omega
theorem EB: ∀ {cs:List (bZ×Int)} {az pz:List Nat} {h:Hp},cs.length=az.length→pz.length=az.length→oz (e7 h cs az pz)→gI h (e7 h cs az pz)∧pz.Nodup∧(∀ a∈az,a∉h.map fun c=>c.1)∧(∀ a∈pz,a∉h.map fun c=>c.1)∧(∃ ps,(e7 h cs az pz).map (fun c=>c.1)=ps++h.map fun c=>c.1)∧
  ∀ i (ha:i < az.length) (hp:i < pz.length) (hc:i < cs.length),aL (e7 h cs az pz) az[i]=some (cg pz[i],false)∧aY (e7 h cs az pz) pz[i]=some (jg cs[i].1 cs[i].2 [])
 | [], [], [],h,_,_,_=>by
  have e:e7 h [] [] []=h:=by rw[e7];intros;simp_all
  rw[e];exact ⟨gI.refl h,List.nodup_nil,fun a ha=>(by cases ha),fun a ha=>(by cases ha),⟨[],rfl⟩,fun i hi=>absurd hi (Nat.not_lt_zero _)⟩
 | [],a::az,pz,h,hl,_,_=>by simp at hl
 | c::cs, [],pz,h,hl,_,_=>by simp at hl
 | [], [],p::pz,h,_,hl,_=>by simp at hl
 | c::cs,a::az, [],h,_,hl,_=>by simp at hl
 | c::cs,a::az,p::pz,h,h1,h2,hd=>by
  rw[e7] at hd ⊢;obtain ⟨k1,k2,k3,k4,⟨ps,k5⟩,k6⟩:=EB (by simpa using h1) (by simpa using h2) hd
  have hd':oz ((p,.eH (jg c.1 c.2 []))::(a,.cell (cg p) false)::h):=by
   unfold oz at hd ⊢;rw[k5] at hd;exact (List.nodup_append.1 hd).2.1
  have hd2:oz ((a,.cell (cg p) false)::h):=(List.nodup_cons.1 hd').2;have m1:=gI.new hd2;have m2:=gI.new hd';refine ⟨(m1.trans m2).trans k1,?_,?_,?_,⟨ps++ [p,a],by rw[k5];simp⟩,fun i ha hp hc=>?_⟩
  ·rw[List.nodup_cons]
   exact ⟨fun hm=>k4 p hm (by simp),k2⟩
  ·intro b hb
   rcases List.mem_cons.1 hb with rfl | hb
   ·exact (List.nodup_cons.1 hd2).1
   ·exact fun hm=>k3 b hb (by rw[List.map_cons,List.map_cons];exact List.mem_cons_of_mem _ (List.mem_cons_of_mem _ hm))
  ·intro b hb
   rcases List.mem_cons.1 hb with rfl | hb
   ·exact fun hm=>(List.nodup_cons.1 hd').1 (by rw[List.map_cons];exact List.mem_cons_of_mem _ hm)
   ·exact fun hm=>k4 b hb (by rw[List.map_cons,List.map_cons];exact List.mem_cons_of_mem _ (List.mem_cons_of_mem _ hm))
  ·match i,ha,hp,hc with
   | 0,_,_,_=>exact ⟨k1.1 _ _ _ (m2.1 _ _ _ nN),k1.2 _ _ iH⟩
   | i + 1,ha,hp,hc=>exact k6 i (by simpa using ha) (by simpa using hp) (by simpa using hc)
theorem Hf {K:KC} {e:bq} {o:List Vl} {H:Nat→Option (Vl×Bool)}: ∀ (vs:List Int) (ls:List aa) (az qz:List Nat) (fs:List qH) (R:Nat→List Vl→Prop) (s:bJ) (us:List Vl) (c:Int) (s':bJ) (hl:ls.length=vs.length) (ha:az.length=vs.length) (hq:qz.length=vs.length) (hf:fs.length=vs.length),(∀ a,aL s.h a=H a)→
  (∀ i (hi:i < vs.length),fc e vs[i]=some (az[i]'(by omega))∧H (az[i]'(by omega))=some (cg (qz[i]'(by omega)),false)∧aY s.h (qz[i]'(by omega))=some (fs[i]'(by omega)))→qz.Nodup→
  (∀ i (hi:i < vs.length) t ws c1 t1,(∀ a,aL t.h a=H a)→Ev K (.all (ls[i]'(by omega)).t e o) t ws c1 t1→c1≠8→c1=0∧iB t t1∧t1.h=t.h∧R i ws)→Ev K (.cc vs ls e o) s us c s'→c≠8→
  c=0∧iB s s'∧s'.h.map (fun c=>c.1)=s.h.map (fun c=>c.1)∧(∀ a,aL s'.h a=H a)∧(∀ a,a∉qz→aY s'.h a=aY s.h a)∧ ∃ os:List (List Vl), ∃ ho:os.length=vs.length, ∀ i (hi:i < vs.length),aY s'.h (qz[i]'(by omega))=some (MQ (fs[i]'(by omega)) (os[i]'(by omega)))∧R i (os[i]'(by omega))
 | [], [],az,qz,fs,R,s,us,c,s',_,_,_,_,hh,_,_,_,h,_=>by
  cases h;exact ⟨rfl,iB.refl _,rfl,hh,fun _ _=>rfl, [],rfl,fun i hi=>absurd hi (Nat.not_lt_zero _)⟩
 | [],x::ls,az,qz,fs,R,s,us,c,s',hl,_,_,_,_,_,_,_,h,_=>by simp at hl
 | v::vs, [],az,qz,fs,R,s,us,c,s',hl,_,_,_,_,_,_,_,h,_=>by simp at hl
 | v::vs,x::ls, [],qz,fs,R,s,us,c,s',_,ha,_,_,_,_,_,_,h,_=>by simp at ha
 | v::vs,x::ls,a::az, [],fs,R,s,us,c,s',_,_,hq,_,_,_,_,_,h,_=>by simp at hq
 | v::vs,x::ls,a::az,q::qz, [],R,s,us,c,s',_,_,_,hf,_,_,_,_,h,_=>by simp at hf
 | v::vs,x::ls,a::az,q::qz,f::fs,R,s,us,c,s',hl,ha,hq,hf,hh,hp,hd,hR,h,hc=>by
  rw[List.nodup_cons] at hd;have hR0:=hR 0 (by simp);obtain ⟨p1,p2,p3⟩:=hp 0 (by simp);rw[List.getElem_cons_zero,List.getElem_cons_zero] at p1;rw[List.getElem_cons_zero,List.getElem_cons_zero] at p2 p3
  cases h with
  | NR h1 h0=>exact absurd (hR0 _ _ _ _ hh h1 hc).1 h0
  | @Mk _ _ _ _ _ _ ws s1 a1 x1 r1 q1 f1 _ _ _ _ h1 g1 g2 g3 g4 h2=>
   obtain ⟨_,k1,k2,k3⟩:=hR0 _ _ _ _ hh h1 (by decide);rw[p1] at g1;cases g1;rw[k2,hh,p2] at g2;cases g2;cases g3;rw[k2,p3] at g4;cases g4;have hh2: ∀ a,aL (aR s1 (dL s1.h q ws)).h a=H a:=fun a=>by show aL (dL s1.h q ws) a=_;rw[ju,k2,hh]
   obtain ⟨rfl,m1,m2,m3,m4,os,ho,m5⟩:=Hf vs ls az qz fs (fun i=>R (i + 1)) _ us c s' (by simpa using hl) (by simpa using ha) (by simpa using hq) (by simpa using hf) hh2 (fun i hi=>by
    obtain ⟨u1,u2,u3⟩:=hp (i + 1) (by simpa using hi);refine ⟨u1,u2,?_⟩;rw[List.getElem_cons_succ,List.getElem_cons_succ] at u3;show aY (dL s1.h q ws) _=_;rw[gW (fun e=>hd.1 (by rw[←e];exact List.getElem_mem _)),k2]
    exact u3) hd.2 (fun i hi=>hR (i + 1) (by simpa using hi)) h2 hc
   refine ⟨rfl,(k1.trans ⟨rfl,rfl,rfl,rfl⟩).trans m1,?_,m3,fun b hb=>?_,ws::os,by simpa using ho,fun i hi=>?_⟩
   ·rw[m2]
    show (dL s1.h q ws).map (fun c=>c.1)=_;rw[mX,k2]
   ·rw[m4 b fun h=>hb (List.mem_cons_of_mem _ h)]
    show aY (dL s1.h q ws) b=_;rw[gW (fun e=>hb (by rw[e];exact List.mem_cons_self ..)),k2]
   ·match i,hi with
    | 0,_=>
     refine ⟨?_,k3⟩;rw[List.getElem_cons_zero,List.getElem_cons_zero,List.getElem_cons_zero,m4 q hd.1];show aY (dL s1.h q ws) q=_;exact kK (by rw[k2];exact p3)
    | i + 1,hi=>exact m5 i (by simpa using hi)
def gG (s s':bJ):Prop:=(s.h.map fun c=>c.1) <:+ s'.h.map fun c=>c.1
theorem gG.refl (s:bJ):gG s s:=List.suffix_refl _
theorem gG.trans {s s1 s2:bJ} (h:gG s s1) (k:gG s1 s2):gG s s2:=List.IsSuffix.trans h k
theorem gG.eq {s s':bJ} (h:s'.h.map (fun c=>c.1)=s.h.map fun c=>c.1):gG s s':=by unfold gG;rw[h];exact List.suffix_refl _
theorem Ki {h:Hp} {az:List Nat}:eM h [] az=h:=by cases az<;>rfl
theorem HV {h:Hp} {x:Vl} {xs:List Vl}:eM h (x::xs) []=h:=rfl
theorem zo {h:Hp} {cs:List (bZ×Int)} {az pz:List Nat} (k:cs= []∨az= []∨pz= []):e7 h cs az pz=h:=by
 rcases k with rfl | rfl | rfl
 ·cases az<;>cases pz<;>rfl
 ·cases cs<;>cases pz<;>rfl
 ·cases cs<;>cases az<;>rfl
theorem gG.eM (s:bJ): ∀ (vs:List Vl) (az:List Nat) (h:Hp),(s.h.map fun c=>c.1) <:+ h.map (fun c=>c.1)→gG s (aR s (eM h vs az))
 | [],_,h,k=>by rw[Ki];exact k
 | _::_, [],h,k=>by rw[HV];exact k
 | x::xs,a::az,h,k=>by rw[Go.Cb.eM];exact gG.eM s xs az _ (k.trans (List.suffix_cons _ _))
theorem gG.iW (s:bJ) (r:Bool): ∀ (az:List Nat) (h:Hp),(s.h.map fun c=>c.1) <:+ h.map (fun c=>c.1)→gG s (aR s (iW h r az))
 | [],h,k=>k
 | a::az,h,k=>by rw[Go.Cb.iW];exact gG.iW s r az _ (k.trans (List.suffix_cons _ _))
theorem gG.e7 (s:bJ): ∀ (cs:List (bZ×Int)) (az pz:List Nat) (h:Hp),(s.h.map fun c=>c.1) <:+ h.map (fun c=>c.1)→gG s (aR s (e7 h cs az pz))
 | [],_,_,h,k=>by rw[zo (.inl rfl)];exact k
 | _::_, [],_,h,k=>by rw[zo (.inr (.inl rfl))];exact k
 | _::_,_::_, [],h,k=>by rw[zo (.inr (.inr rfl))];exact k
 | c::cs,a::az,p::pz,h,k=>by rw[Go.Cb.e7];exact gG.e7 s cs az pz _ ((k.trans (List.suffix_cons _ _)).trans (List.suffix_cons _ _))
theorem gG.Le (s:bJ) (e:bq) (v:Int) (x:Vl):gG s (iV s e v x):=by
 unfold iV
 split
 ·exact gG.refl s
 ·exact gG.eq (ld _ _ _)
theorem gG.tA (s:bJ) (b:Prop) [Decidable b] (e:bq) (v:Int) (x:Vl):gG s (if b then iV s e v x else s):=by
 split
 ·exact gG.Le s e v x
 ·exact gG.refl s
theorem gG.B7 (e:bq): ∀ (vs:List Int) (xs:List Vl) (s:bJ),gG s (dU s e vs xs)
 | [],_,s=>by unfold dU;exact gG.refl s
 | _::_, [],s=>by unfold dU;exact gG.refl s
 | v::vs,x::xs,s=>by rw[dU];exact (gG.Le s e v x).trans (gG.B7 e vs xs _)
theorem gG.sD (s:bJ) (b:Prop) [Decidable b] (e:bq) (vs:List Int) (xs:List Vl):gG s (if b then dU s e vs xs else s):=by
 split
 ·exact gG.B7 e vs xs s
 ·exact gG.refl s
theorem gG.box (s:bJ) (a:Nat) (x:Ob):gG s (aR s ((a,x)::s.h)):=List.suffix_cons _ _
theorem Ev.PN {K:KC} {j:Jd} {s:bJ} {vs:List Vl} {c:Int} {s':bJ} (h:Ev K j s vs c s'):gG s s':=by
 induction h with
 | ev _ _ _ i1=>exact i1
 | GH _ _ _ _ _ _ i1 i2=>exact i1.trans ((gG.eM _ _ _ _ (List.suffix_refl _)).trans i2)
 | GG _ _ _ _ _ _ _ i1=>exact (gG.iW _ _ _ _ (List.suffix_refl _)).trans i1
 | FM _ _ _ _ _ _ _ i1 i2=>exact (gG.iW _ _ _ _ (List.suffix_refl _)).trans (i1.trans ((gG.sD _ _ _ _ _).trans i2))
 | GD _ _ _ _ _ _ _ _ _ _ i1=>exact (gG.e7 _ _ _ _ _ (List.suffix_refl _)).trans i1
 | GC _ _ _ _ _ _ _ _ _ _ i1 i2=>exact (gG.e7 _ _ _ _ _ (List.suffix_refl _)).trans (i1.trans i2)
 | Mk _ _ _ _ _ _ i1 i2=>exact i1.trans ((gG.eq (mX _ _ _)).trans i2)
 | NB _ _ i1 i2=>exact i1.trans ((gG.tA _ _ _ _ _).trans i2)
 | Oz _ _ _ i1 i2=>exact i1.trans ((gG.tA _ _ _ _ _).trans i2)
 | GA _ _ _ _ _ _ i1=>exact (gG.eM _ _ _ _ (List.suffix_refl _)).trans i1
 | pE _ _ i1=>exact i1
 | pJ _ _ i1=>exact i1
 | JE=>exact gG.eq (ld _ _ _)
 | put=>exact gG.eq (ld _ _ _)
 | box=>exact gG.box _ _ _
 | lam=>exact gG.box _ _ _
 | GJ=>exact gG.box _ _ _
 | cH=>exact gG.box _ _ _
 | _=>first | exact gG.refl _ | assumption | (apply gG.trans<;>assumption)
theorem gG.nd {s s':bJ} (h:gG s s') (hd:oz s'.h):oz s.h:=hd.sublist h.sublist
theorem Ma {K:KC} {l:List aa} {e:bq} {o:List Vl} {s:bJ} {us:List Vl} {c:Int} {s':bJ} (h:Ev K (.all l e o) s us c s') (h0:c≠0) (hc:c≠8):oz s.h:=by
 cases l with
 | nil=>exact absurd h.tW.2.1 h0
 | cons x l=>
  rcases h.j7 with ⟨_,v,h1⟩ | ⟨x1,s1,us1,h1,_⟩
  ·obtain ⟨_,_,hd,_⟩:=h1.dn hc
   exact hd
  ·obtain ⟨_,_,hd,_⟩:=h1.dn (by decide)
   exact hd
theorem LD {K:KC} {e:bq} {o:List Vl}: ∀ (vs:List Int) (l:List aa) (s:bJ) (us:List Vl) (c:Int) (s':bJ),Ev K (.cc vs l e o) s us c s'→c≠0→c≠8→oz s.h
 | [], [],s,us,c,s',h,h0,_=>by cases h;exact absurd rfl h0
 | [],x::l,s,us,c,s',h,h0,_=>by cases h
 | v::vs, [],s,us,c,s',h,h0,_=>by cases h
 | v::vs,x::l,s,us,c,s',h,h0,hc=>by
  cases h with
  | NR h1 h0=>exact Ma h1 h0 hc
  | Mk h1 _ _ _ _ h2=>exact (h1.PN.trans (gG.eq (mX _ _ _))).nd (LD vs l _ _ _ _ h2 h0 hc)
theorem Hj {n m:Int} {l k:List aa} (h:iX n l=iX m k):n=m∧l=k:=by
 have e1:=(mJ n l).1;rw[h,(mJ m k).1] at e1;refine ⟨e1.symm,?_⟩;unfold iX at h
 split at h
 ·rename_i h1
  split at h
  ·rename_i h2
   rw[List.eq_nil_of_length_eq_zero h1,List.eq_nil_of_length_eq_zero h2]
  ·injection h with h _ _ _;exact absurd h (by decide)
 ·split at h
  ·injection h with h _ _ _;exact absurd h (by decide)
  ·injection h with _ _ _ h
theorem HP {K:KC} {vs:List Int} {ts:List aa} {b:aa} {e:bq} {r:bJ} {us:List Vl} {c:Int} {r':bJ} {o:List Vl} {fm:Fm} {ov:List Int} {ovs:Nat→List Int} (h:Ev K (.go (.mk 9 0 vs (ts++ [b])) e o) r us c r') (hc:c≠8) (h0:0 < ts.length) (hts:ts.length=vs.length) (hop: ∀ i (hi:i < ts.length),ts[i].op=19∧ts[i].t=(ovs i).map (dc fm ov)) (hnd:vs.Nodup)
  (hq: ∀ (bz qz:List Nat) (g:Hp), ∀ (hb:bz.length=vs.length) (hq:qz.length=vs.length),(∀ a x,aL r.h a=some (x,false)→aL g a=some (x,false))→(∀ i (hi:i < vs.length),aL g (bz[i]'(by omega))=some (cg (qz[i]'(by omega)),false))→ ∀ i,i < vs.length→ ∀ u∈ovs i,gE fm u=false∧ ∃ y,LK g (bM e vs bz) o ov u y):
  ∃ (bz qz:List Nat) (v:Vl) (r1:bJ), ∃ (os:List (List Vl)) (hbz:bz.length=vs.length) (hqz:qz.length=vs.length) (hos:os.length=vs.length),us= [v]∧Ev K (.ev b (bM e vs bz) o) r1 [v] c r'∧iB r r1∧gI r.h r1.h∧(∀ a∈bz,a∉r.h.map fun c=>c.1)∧ ∀ i (hi:i < vs.length),aL r1.h (bz[i]'(by omega))=some (cg (qz[i]'(by omega)),false)∧
   (∃ cd,K.c[(ts[i]'(by omega)).n.toNat]?=some cd∧aY r1.h (qz[i]'(by omega))=some (jg cd (ts[i]'(by omega)).n (os[i]'(by omega))))∧ ∃ hl:(os[i]'(by omega)).length=(ovs i).length, ∀ j (hj:j < (ovs i).length),LK r1.h (bM e vs bz) o ov (ovs i)[j] ((os[i]'(by omega))[j]'(by omega)):=by
 have h9:(aa.mk 9 0 vs (ts++ [b])).op=9:=rfl;have hone: ∀ x∈ts,x.op=19:=fun x hx=>by obtain ⟨i,hi,rfl⟩:=List.mem_iff_getElem.1 hx;exact (hop i hi).1
 have key: ∀ (bz qz:List Nat) (cs:List (bZ×Int)) ws c1 r1,bz.length=ts.length→qz.length=ts.length→(cs.length=ts.length∧ ∀ i (h:i < ts.length) (h':i < cs.length),K.c[ts[i].n.toNat]?=some cs[i].1∧cs[i].2=ts[i].n)→Ev K (.cc vs ts (bM e vs bz) o) (aR r (e7 r.h cs bz qz)) ws c1 r1→c1≠8→oz (e7 r.h cs bz qz)→
   c1=0∧iB r r1∧gI r.h r1.h∧(∀ a∈bz,a∉r.h.map fun c=>c.1)∧True∧ ∃ (os:List (List Vl)) (hos:os.length=vs.length), ∀ i (hi:i < vs.length) (hb:i < bz.length) (hq:i < qz.length),aL r1.h bz[i]=some (cg qz[i],false)∧(∃ cd,K.c[(ts[i]'(by omega)).n.toNat]?=some cd∧aY r1.h qz[i]=some (jg cd (ts[i]'(by omega)).n (os[i]'(by omega))))∧ ∃ hl:(os[i]'(by omega)).length=(ovs i).length, ∀ j (hj:j < (ovs i).length),LK r1.h (bM e vs bz) o ov (ovs i)[j] ((os[i]'(by omega))[j]'(by omega)):=by
  intro bz qz cs ws c1 r1 hb hqz hcs hr hc1 hd;obtain ⟨n1,n2,n3,n4,_,n5⟩:=EB (by omega) (by omega) hd;have hcl:=hcs.1
  obtain ⟨e1,m1,m2,m3,m4,os,hos,m5⟩:=Hf (H:=aL (e7 r.h cs bz qz)) vs ts bz qz (cs.map fun p=>jg p.1 p.2 []) (fun i ws=> ∃ hl:ws.length=(ovs i).length, ∀ j (hj:j < (ovs i).length),LK (e7 r.h cs bz qz) (bM e vs bz) o ov (ovs i)[j] (ws[j]'(by omega))) (aR r (e7 r.h cs bz qz)) ws c1 r1 hts (by omega) (by omega) (by rw[List.length_map];omega) (fun _=>rfl)
   (fun i hi=>by
    obtain ⟨p1,p2⟩:=n5 i (by omega) (by omega) (by omega);refine ⟨ext_get hnd (by omega) i hi (by omega),p1,?_⟩;rw[List.getElem_map]
    exact p2) n2
   (fun i hi t ws' c2 t1 hh hev hc2=>by
    rw[(hop i (by omega)).2] at hev;have hg: ∀ a x,aL (e7 r.h cs bz qz) a=some (x,false)→aL t.h a=some (x,false):=fun a x hx=>by rw[hh a];exact hx
    have hg': ∀ a x,aL t.h a=some (x,false)→aL (e7 r.h cs bz qz) a=some (x,false):=fun a x hx=>by rw[←hh a];exact hx
    obtain ⟨q1,q2,q3,q4,q5⟩:=qs _ _ _ _ _ (fun u hu=>hq bz qz t.h (by omega) (by omega) (fun a x hx=>hg _ _ (n1.1 _ _ _ hx)) (fun i hi=>hg _ _ (n5 i (by omega) (by omega) (by omega)).1) i hi u hu) hev hc2
    exact ⟨q1,q2,q3,q4,fun j hj=>(q5 j hj).up hg'⟩) hr hc1
  refine ⟨e1,iB.trans ⟨rfl,rfl,rfl,rfl⟩ m1,⟨fun a x q hg=>?_,fun a f hg=>?_⟩,n3,trivial,os,hos,fun i hi hbi hqi=>?_⟩
  ·rw[m3]
   exact n1.1 _ _ _ hg
  ·rw[m4 a fun hm=>n4 a hm (qm hg)]
   exact n1.2 _ _ hg
  ·obtain ⟨p1,p2⟩:=n5 i hbi hqi (by omega)
   obtain ⟨u1,u2,u3⟩:=m5 i hi;obtain ⟨w1,w2⟩:=hcs.2 i (by omega) (by omega);refine ⟨(m3 _).trans p1,⟨_,w1,?_⟩,u2,fun j hj=>(u3 j hj).up fun a x hx=>(m3 a).trans hx⟩;rw[u1,List.getElem_map,w2];rfl
 cases h with
 | @GD _ _ _ l' b' az pz cs ws _ _ _ _ ht' hl h0l h19 ha hp hcs hr hne=>
  obtain ⟨rfl,e2⟩:=List.append_inj' (show ts++ [b]=l'++ [b'] from ht') rfl;exfalso;have hd:oz (e7 r.h cs az pz):=LD _ _ _ _ _ _ hr hne hc;exact hne (key az pz cs ws c r' ha hp hcs hr hc hd).1
 | @GC _ _ _ l' b' az pz cs ws r1 v _ _ _ _ ht' hl h0l h19 ha hp hcs hr hb=>
  obtain ⟨rfl,e2⟩:=List.append_inj' (show ts++ [b]=l'++ [b'] from ht') rfl;cases e2;obtain ⟨_,_,hd1,_⟩:=hb.dn hc;obtain ⟨_,m1,m2,m3,_,os,hos,m4⟩:=key az pz cs ws 0 r1 ha hp hcs hr (by decide) (hr.PN.nd hd1);exact ⟨az,pz,v,r1,os,by omega,by omega,hos,rfl,hb,m1,m2,m3,fun i hi=>m4 i hi (by omega) (by omega)⟩
 | @GG _ _ _ l' b' az us _ _ _ _ ht' hl hno=>
  obtain ⟨rfl,e2⟩:=List.append_inj' (show ts++ [b]=l'++ [b'] from ht') rfl;exact absurd (hone _ (List.getElem_mem h0)) (hno _ (List.getElem_mem h0))
 | @FM _ _ _ l' b' az us s1 v _ _ _ _ ht' hl hno=>
  obtain ⟨rfl,e2⟩:=List.append_inj' (show ts++ [b]=l'++ [b'] from ht') rfl;exact absurd (hone _ (List.getElem_mem h0)) (hno _ (List.getElem_mem h0))
 | Jj o | st o=>rw[h9] at o;exact absurd o (by decide)
 | GB o | ref o | wY o | prf o | JF o | lam o | GJ o | GF o | wM o | HW o | HX o | HY o | JB o | GH o=>exact absurd (h9.symm.trans o) (by decide)
theorem GS {w:Wd} {fm:Fm}: ∀ {vs:List Int} {pz qz:List Nat} {c:Nat}, ∀ (hp:pz.length=vs.length) (hq:qz.length=vs.length),(∀ i (hi:i < vs.length),fm vs[i]=some ⟨((c + i:Nat):Int),false⟩∧w.p (pz[i]'(by omega)) (qz[i]'(by omega)) ((c + i:Nat):Int))→RV w fm vs (pz.map cg) (qz.map cg)
 | [],pz,qz,c,hp,hq,_=>by
  rw[List.eq_nil_of_length_eq_zero hp,List.eq_nil_of_length_eq_zero hq];exact ⟨rfl,rfl⟩
 | v::vs, [],qz,c,hp,_,_=>by simp at hp
 | v::vs,p::pz, [],c,_,hq,_=>by simp at hq
 | v::vs,p::pz,q::qz,c,hp,hq,h=>by
  obtain ⟨h1,h2⟩:=h 0 (by simp);have h1':fm v=some ⟨((c + 0:Nat):Int),false⟩:=h1;refine ⟨_,_,rfl,.inr ⟨by unfold gE;rw[h1'],_,_,rfl,by rw[h1'];exact G3 h2,GS (c:=c + 1) (by simpa using hp) (by simpa using hq) fun i hi=>?_⟩⟩;have:=h (i + 1) (by simpa using hi);rw[show c + 1 + i=c + (i + 1) by omega];exact this
theorem GU {w:Wd} {fm:Fm}: ∀ {vs:List Int} {pz:List Nat} {c:Nat}, ∀ (hp:pz.length=vs.length),(∀ i (hi:i < vs.length),fm vs[i]=some ⟨((c + i:Nat):Int),true⟩∧w.z (pz[i]'(by omega)) ((c + i:Nat):Int))→RV w fm vs (pz.map cg) []
 | [],pz,c,hp,_=>by
  rw[List.eq_nil_of_length_eq_zero hp];exact ⟨rfl,rfl⟩
 | v::vs, [],c,hp,_=>by simp at hp
 | v::vs,p::pz,c,hp,h=>by
  obtain ⟨h1,h2⟩:=h 0 (by simp);have h1':fm v=some ⟨((c + 0:Nat):Int),true⟩:=h1;refine ⟨_,_,rfl,.inl ⟨by unfold gE;rw[h1'],⟨p,rfl,by unfold codeF;rw[h1'];exact h2⟩,GU (c:=c + 1) (by simpa using hp) fun i hi=>?_⟩⟩;have:=h (i + 1) (by simpa using hi);rw[show c + 1 + i=c + (i + 1) by omega];exact this
theorem uo.cc {K:List bZ} {S:List Int} {fm:Fm} {t:aa} {k:Nat} {ov2:List Int} (hD:uo K S fm t k ov2): ∃ cd,K[((k:Nat):Int).toNat]?=some cd∧ ∀ w (g:Hp) e e' o ov us,(∀ b y,w.f b y→aL g b=some (y,false))→ER w e e' o fm ov S→ ∀ (hl:us.length=ov2.length),(∀ i (hi:i < ov2.length),LK g e' o ov ov2[i] (us[i]'(by omega)))→CC K w (IC e t) (jg cd k us):=by
 obtain ⟨b,b',S2,fm2,h4,hb,hr,hO,hc,hCl⟩:=hD;refine ⟨_,by rw[Int.toNat_natCast];exact hc,fun w g e e' o ov us hV hE hl hu=>Ol (cn:= -1) hV hE (fun h=>hr (by simpa using h)) hO hCl hl hu ?_⟩;unfold IC;rw[hb];rfl
theorem fixC {J K:KC} {n:Int} (HS:Lx J K n) {w:Wd} {t b b':aa} {e e':bq} {o o':List Vl} {S:List Int} {fm fm2:Fm} {ov:List Int} {l:List aa} {ls:List (List aa)} {k:Nat} {st:Bool} (hE:ER w e e' o' fm ov S) (ho:t.op=9) (ht:t.t=l++ [b]) (hv:l.length=t.v.length) (hL: ∀ x∈l,Nu x) (hnd:t.v.Nodup) (hap: ∀ u∈t.v,u∉S∧u∉ov)
  (hf: ∀ u∈S,fm2 u=fm u) (hls:ls.length=l.length) (hk: ∀ i (hi:i < t.v.length),fm2 t.v[i]=some ⟨((k + i:Nat):Int),st⟩) (hst:st=true→ ∀ x∈ls,x= []) (hne:st=false→0 < l.length) (h: ∀ i (hi:i < l.length),Cl K.c (S++t.v) fm2 ov l[i] (iX ((k + i:Nat):Int) (ls[i]'(by omega)))) (h2:Cl K.c (S++t.v) fm2 ov b b'):
  Sm (CC K.c) J K n w (.go t e o) (.ev (if st=true then b' else .mk 9 0 t.v ((ls.zipIdx k).map (fun p=>.mk 19 ((p.2:Nat):Int) [] p.1)++ [b'])) e' o'):=by
 intro w1 hw s r hV hn v c s' k1 v' c' r' k2 n1 n2;have hE1:=hE.up hw
 have hD: ∀ i (hi:i < l.length), ∃ ov2,ls[i]'(by omega)=ov2.map (dc fm2 ov)∧uo K.c (S++t.v) fm2 l[i] (k + i) ov2:=fun i hi=>by
  obtain ⟨m,ov2,e1,hD⟩:=(h i hi).nS (hL _ (List.getElem_mem hi)).1;obtain ⟨e2,e3⟩:=Hj e1;have:m=k + i:=by omega
  subst this;exact ⟨ov2,e3,hD⟩
 obtain ⟨az,pz,v1,s1,haz,hpz,_,rfl,hb,hfu,q1,q2,q3,q4⟩:=Kc k1 n1 ho ht hL hnd
 cases st with
 | true=>
  rw[if_pos rfl] at k2
  have hkep:gx fm2 t.v= []:=by
   unfold gx;rw[List.filter_eq_nil_iff];intro u hu;obtain ⟨i,hi,rfl⟩:=List.mem_iff_getElem.1 hu;unfold gE;rw[hk i hi];simp
  have hV1:=hV.ye q1 (iB.refl r) q2 (gI.refl _)
  obtain ⟨w2,g1,g2,g3⟩:=DZ CC.mono hV1 hE1 hf hnd hap (az:=az) (bz:= []) (xs:=pz.map cg) (ys:= []) haz (by rw[hkep];rfl) (fun a ha=>hV.Nv (q3 a ha)) (fun b hb=>by cases hb) (fun i hi hx=>by rw[List.getElem_map];exact (q4 i (by omega)).1) (fun i hi=>absurd hi (Nat.not_lt_zero _)) (fun _ _ _=>False) (fun a m=> ∃ i, ∃ hi:i < pz.length,a=pz[i]∧m=((k + i:Nat):Int))
   (fun w' hw' _ hz=>GU hpz fun i hi=>⟨hk i hi,hz _ _ ⟨i,by omega,rfl,rfl⟩⟩) (fun w' hw' hE' hfp=>⟨fun _ _ _ h=>h.elim,fun a m hm=>by
    obtain ⟨i,hi,rfl,rfl⟩:=hm;obtain ⟨ov2,e1,hDi⟩:=hD i (by omega);have hnil:=hst rfl _ (List.getElem_mem (show i < ls.length by omega));rw[e1] at hnil;have ho2:ov2= []:=by simpa using hnil
    subst ho2;obtain ⟨cd,hcd,hCC⟩:=hDi.cc
    exact ⟨_,cd,(q4 i (by omega)).2,hcd,hCC w' r.h _ _ _ _ [] hfp hE' rfl fun i hi=>absurd hi (Nat.not_lt_zero _)⟩⟩)
  rw[hkep] at g3;exact Rs.back g1 (HS w2 _ _ o _ _ _ _ _ _ h2 g3 w2 w2.refl _ _ g2 (Int.le_trans hfu hn) _ _ _ hb _ _ _ k2 n1 n2)
 | false=>
  rw[if_neg (by decide)] at k2
  have hkep:gx fm2 t.v=t.v:=by
   unfold gx;rw[List.filter_eq_self];intro u hu;obtain ⟨i,hi,rfl⟩:=List.mem_iff_getElem.1 hu;unfold gE;rw[hk i hi];rfl
  obtain ⟨v2,rfl,_,hg⟩:=k2.dn n2
  obtain ⟨ts,hts⟩: ∃ ts,ts=(ls.zipIdx k).map (fun p=>aa.mk 19 ((p.2:Nat):Int) [] p.1):=⟨_,rfl⟩
  rw[←hts] at hg;have htl:ts.length=t.v.length:=by rw[hts,List.length_map,List.length_zipIdx];omega
  have htg: ∀ i (hi:i < ts.length),ts[i]=.mk 19 ((k + i:Nat):Int) [] (ls[i]'(by omega)):=fun i hi=>by
   simp only[hts,List.getElem_map,List.getElem_zipIdx]
  obtain ⟨ovs,hovs⟩: ∃ ovs:Nat→List Int, ∀ i (hi:i < l.length),ls[i]'(by omega)=(ovs i).map (dc fm2 ov)∧uo K.c (S++t.v) fm2 l[i] (k + i) (ovs i):=by
   refine ⟨fun i=>if hi:i < l.length then (hD i hi).choose else [],fun i hi=>?_⟩;dsimp only;rw[dif_pos hi];exact (hD i hi).choose_spec
  have h0:0 < ts.length:=by have:=hne rfl;omega
  have hVf:=hV.pf
  obtain ⟨bz,qz,v3,r1,os,hbz,hqz,hos,e3,hb',m1,m2,m3,m4⟩:=HP (ovs:=ovs) (fm:=fm2) (ov:=ov) hg n2 h0 htl (fun i hi=>by rw[htg i hi];exact ⟨rfl,(hovs i (by omega)).1⟩) hnd (fun bz qz g hbz hqz hup hcl i hi u hu=>by
   obtain ⟨_,_,_,_,_,_,_,hO,_⟩:=(hovs i (by omega)).2;obtain ⟨u1,u2⟩:=hO.ov u hu;refine ⟨u2,?_⟩;rcases List.mem_append.1 u1 with u3 | u3
   ·obtain ⟨_,_,_,_,_,z4⟩:=hE1 u u3
    rw[nj (hf u u3)] at u2;obtain ⟨y,z5,_⟩:=z4 u2;refine ⟨y,?_⟩;have z6:=(z5.lk hVf).up (h':=g) hup;unfold LK at z6 ⊢;rw[kY fun h=>(hap u h).1 u3];exact z6
   ·obtain ⟨j,hj,rfl⟩:=List.mem_iff_getElem.1 u3
    refine ⟨cg (qz[j]'(by omega)),?_⟩;unfold LK;rw[if_neg (ED (hap _ (List.getElem_mem hj)).2)]
    exact ⟨_,ext_get hnd hbz j hj (by omega),hcl j hj⟩)
  injection e3 with e3 _;subst e3;have hV1:=hV.ye q1 ((iB.less r).trans m1) q2 m2
  obtain ⟨w2,g1,g2,g3⟩:=DZ CC.mono hV1 hE1 hf hnd hap (az:=az) (bz:=bz) (xs:=pz.map cg) (ys:=qz.map cg) haz (by rw[hkep];exact hbz) (fun a ha=>hV.Nv (q3 a ha)) (fun b hb=>hV.rU (m3 b hb)) (fun i hi hx=>by rw[List.getElem_map];exact (q4 i (by omega)).1) (fun i hi hy=>by rw[List.getElem_map];exact (m4 i (by omega)).1) (fun a b m=> ∃ i, ∃ (hi:i < pz.length) (hi':i < qz.length),a=pz[i]∧b=qz[i]∧m=((k + i:Nat):Int)) (fun _ _=>False)
   (fun w' hw' hu _=>GS hpz hqz fun i hi=>⟨hk i hi,hu _ _ _ ⟨i,by omega,by omega,rfl,rfl,rfl⟩⟩) (fun w' hw' hE' hfp=>⟨fun a b m hm=>by
    obtain ⟨i,hi,hi',rfl,rfl,rfl⟩:=hm;obtain ⟨_,hDi⟩:=hovs i (by omega);obtain ⟨cd,hcd,hCC⟩:=hDi.cc;obtain ⟨_,⟨cd',z1,z2⟩,z3,z4⟩:=m4 i (by omega);rw[htg i (by omega)] at z1 z2;have z1':K.c[((k + i:Nat):Int).toNat]?=some cd':=z1;rw[hcd] at z1';cases z1';rw[hkep] at hE'
    exact ⟨_,_,(q4 i (by omega)).2,z2,rfl,hCC w' r1.h _ _ _ _ _ hfp hE' z3 z4⟩,fun _ _ h=>h.elim⟩)
  rw[hkep] at g3;exact Rs.back g1 (HS w2 _ _ o _ _ _ _ _ _ h2 g3 w2 w2.refl _ _ g2 (Int.le_trans hfu hn) _ _ _ hb _ _ _ hb' n1 n2)
theorem Bl: ∀ (h:Hp) (cs:List (bZ×Int)) (az pz:List Nat) (c:bZ×Int) (a p:Nat),cs.length=az.length→cs.length=pz.length→e7 h (cs++ [c]) (az++ [a]) (pz++ [p])=(p,.eH (jg c.1 c.2 []))::(a,.cell (cg p) false)::e7 h cs az pz
 | _, [], [], [],_,_,_,_,_=>rfl
 | h,d::cs,b::az,q::pz,c,a,p,h1,h2=>by
  rw[List.cons_append,List.cons_append,List.cons_append,e7,Bl _ cs az pz c a p (by simpa using h1) (by simpa using h2),e7]
 | _, [],_::_,_,_,_,_,h,_=>by simp at h
 | _, [], [],_::_,_,_,_,_,h=>by simp at h
 | _,_::_, [],_,_,_,_,h,_=>by simp at h
 | _,_::_,_::_, [],_,_,_,_,h=>by simp at h
section
variable (b:Nat) (K:KC) (o:List Vl) (tk:Tok) (s:bJ) (t:aa) (e:bq) (R:Vl→Int→bJ→Tok→Prop)
theorem FF {p q:Prop} (k:q) (h:q→p:=by intro hq;first | exact aC.sP (some 48) rfl [] [10,11] aj mixed hq | exact aC.sP (some 79) rfl [] [10,11] aj mixed hq | exact aC.sP (some 192) rfl [] [10] aj mixed hq | exact aC.sP (some 217) rfl [] [13] aj mixed hq):p:=h k
theorem JU (ho:t.op=9) (hl:t.t.length=t.v.length + 1) (hz:t.v.length≤1000000000) (h19: ∀ i (h:i < t.v.length),(t.t[i]'(by omega)).op=19)
  (cs:List (bZ×Int)) (hcl:cs.length=t.v.length) (hcs: ∀ i (h:i < t.v.length),(0≤(t.t[i]'(by omega)).n∧(t.t[i]'(by omega)).n < K.c.length)∧K.c[(t.t[i]'(by omega)).n.toNat]?=some (cs[i]'(by omega)).1∧(cs[i]'(by omega)).2=(t.t[i]'(by omega)).n)
  (P:List Nat→List Nat→Nat→bJ→Tok→Prop) (hP: ∀ az pz:List Nat,az.length=t.v.length→pz.length=t.v.length→P az pz 0 (aR s (e7 s.h cs az pz)) tk)
  (H: ∀ az pz i s tk,P az pz i s tk→ ∀ h:i < t.v.length,ah Tryz.prog 114 [.ptr b 0,.sl 4 ((t.t[i]'(by omega)).t.map aa.pv) none,bF (bM e t.v az),fo o] (bw b K tk s) (uk b K fun us c s' tk'=>(¬c=0→R bx c s' tk')∧
   (c=0→ ∃ a x r q f,fc (bM e t.v az) (t.v[i]'h)=some a∧aL s'.h a=some (x,r)∧x.p=some q∧aY s'.h q=some f∧P az pz (i + 1) (aR s' (dL s'.h q us)) tk')))
  (HE: ∀ az pz s tk,P az pz t.v.length s tk→
   ah Tryz.prog 87 [.ptr b 0,.agg (t.t[t.v.length]'(by omega)).cells,bF (bM e t.v az),fo o] (bw b K tk s) (br b K R)):
  ah Tryz.prog 113 [.ptr b 0,.agg t.cells,bF e,fo o] (bw b K tk s) (br b K R):=by
 refine ah.ai aj Tryz.func113 rfl rfl (n:=241) rfl rfl ?_
 conv=>whnf
 repeat' (first|refine aW ?_|((intro _);conv=>whnf)|(refine zX (fun hc=>?_) (fun hc=>?_)<;>(try simp only[SY] at hc)<;>first|omega|(conv=>whnf)))
 rename_i b1 b2 _
 have hL: ∀ i (az pz:List Nat) (a p:Nat) (_:az.length=i) (_:pz.length=i) (h:i < t.v.length),nP (e7 s.h (cs.take (i + 1)) (az++ [a]) (pz++ [p]))=.box p (wW (jg (cs[i]'(by omega)).1 (cs[i]'(by omega)).2 []))::.box a (qQ (cg p) false)::nP (e7 s.h (cs.take i) az pz):=fun i az pz a p h1 h2 h=>by
  rw[List.take_succ_eq_append_getElem (by omega),Bl _ _ _ _ _ _ _ (by rw[List.length_take];omega) (by rw[List.length_take];omega)];rfl
 have e0:bw b K tk s=bw b K tk (aR s (e7 s.h (cs.take 0) [] [])):=rfl;rw[e0]
 refine aI.over [2,14,74,75,76,77,78,79,80,81,82,83,84,85,86,87,88,89,90,91,92,93,94,95,96,97,98,99,100,101,102,103,104,105,106,107,108,109,110,111,112,113,114,115] (fun x:Nat×List Nat×List Nat=> [(2,bF (bM e (t.v.take x.1) x.2.1)),(14,.int .i64 x.1)]) (fun x:Nat×List Nat×List Nat=>.box b2 [.int .i64 0,.int .i64 0,.int .i64 0,.str [],.nil,.np,.np]::.box b1 [.int .i64 t.op,.int .i64 t.n,.sl 1 (t.v.map (PV.int .i64)) none,.sl 4 (t.t.map aa.pv) none]::bw b K tk (aR s (e7 s.h (cs.take x.1) x.2.1 x.2.2)))
  (fun x=>x.1≤t.v.length∧x.2.1.length=x.1∧x.2.2.length=x.1) (fun x=>t.v.length - x.1) (0, [], []) ⟨Nat.zero_le _,rfl,rfl⟩ wA ?_
 rintro ⟨i,az,pz⟩ ⟨hi,ha,hp⟩;dsimp only at hi ha hp⊢
 conv=>whnf
 repeat' (first|refine aW ?_|((refine FF ?_);conv=>whnf)|(refine zX (fun hc=>?_) (fun hc=>?_)<;>(try simp only[SY] at hc)<;>(conv=>whnf)))
 ·have h1:i < t.v.length:=by omega
  have h19i:=h19 i h1;obtain ⟨hc1,hc2,hc3⟩:=hcs i h1;have hb:(t.op == 7)=false:=by rw[ho];rfl
  refine au.go (Γ1:= []) (yV _ _ (fF 12) false) (.cons (Wk.refl _) (.cons (Wk.refl _) (.cons (Wk.agg zw) (.cons (Wk.bool hb) .nil)))) ?_;rintro _ _ ⟨a,rfl,rfl⟩
  conv=>whnf
  repeat' (first|refine aW ?_|(refine zX (fun hc=>?_) (fun hc=>?_)<;>(try simp only[SY] at hc)<;>first|omega|(conv=>whnf)))
  refine aC.tree aj mixed [0,1,3,7,0,0,32,0,224,480,992,2032,4095,8191,16383] [0,1,2,3,4,5,7] [6,8,9,10,11,12,13,14] (.box a (qQ (fF 12) false)::.box b2 [.int .i64 0,.int .i64 0,.int .i64 0,.str [],.nil,.np,.np]::.box b1 [.int .i64 t.op,.int .i64 t.n,.sl 1 (t.v.map (PV.int .i64)) none,.sl 4 (t.t.map aa.pv) none]::bw b K tk (aR s (e7 s.h (cs.take i) az pz))) ?_
  conv=>whnf
  conv=>whnf
  repeat' (first|((first|((apply zZ);exact tB)|refine aM ?_|(refine And.intro ?_ ?_));conv=>whnf)|(refine zX (fun hc=>?_) (fun hc=>?_)<;>(try simp only[SY] at hc)<;>omega))
  all_goals try exact trivial
  refine au.th (rG b K tk (aR s (e7 s.h (cs.take i) az pz)) (t.t[i]'(by omega)).n _ hc1 hc2 []) (.cons (Wk.refl _) (.cons (Wk.refl _) (.cons (Wk.lp rfl) .nil))) ?_;rintro _ _ ⟨p,rfl,rfl⟩
  conv=>whnf
  repeat' (first|((first|refine aM ?_|(refine And.intro ?_ ?_)|refine JO ?_|refine aF ?_);conv=>whnf)|(refine zX (fun hc=>?_) (fun hc=>?_)<;>(try simp only[SY] at hc)<;>omega))
  all_goals try exact trivial
  have e1:=hL i az pz a p ha hp h1;have e2:(t.v.take (i + 1))=t.v.take i++ [t.v[i]'(by omega)]:=List.take_succ_eq_append_getElem (by omega);refine aJ (i + 1,az++ [a],pz++ [p]) ⟨by show i + 1≤_;omega,by show (az++ [a]).length=i + 1;simp;omega,by show (pz++ [p]).length=i + 1;simp;omega⟩ (by show t.v.length - (i + 1) < t.v.length - i;omega) (by dsimp only;rw[e2,kX _ _ _ _ _ (by rw[List.length_take];omega)];exact wA) (hp:=by dsimp only[bw,aR];rw[e1,hc3];dsimp only[KB,nP];infer_instance)
 ·have hil:i=t.v.length:=by omega
  subst hil;have hP0:=hP az pz ha hp;rw[List.take_length,List.take_of_length_le (by omega:cs.length≤t.v.length)]
  conv=>whnf
  skip
  refine aI.over [9,15,16,17,18,19,20,116,117,118,119,120,121,122,123,124,125,126,127,128,129,130,131,132,133,134,135,136,137,138,139,140,141,142,143,144,145,146,147,148,149,150,151,152,153,154,155,156,157,158,159,160,161,162,163,164,165,166,167,168,169,170,171,172,173,174,175,176,177,178,179,180,181,182,183,184,185,186,187,188,189,190,191,192,193,194,195,196,197,198,199,200,201] (fun x:Nat×bJ×Tok=> [(15,.nil),(16,.int .i64 x.1)]) (fun x:Nat×bJ×Tok=>.box b2 [.int .i64 0,.int .i64 0,.int .i64 0,.str [],.nil,.np,.np]::.box b1 [.int .i64 t.op,.int .i64 t.n,.sl 1 (t.v.map (PV.int .i64)) none,.sl 4 (t.t.map aa.pv) none]::bw b K x.2.2 x.2.1)
   (fun x=>x.1≤t.v.length∧P az pz x.1 x.2.1 x.2.2) (fun x=>t.v.length - x.1) (0,aR s (e7 s.h cs az pz),tk) ⟨Nat.zero_le _,hP0⟩ wA ?_
  rintro ⟨i,s1,tk1⟩ ⟨hi,hPi⟩;dsimp only at hi hPi ⊢;by_cases h1:i < t.v.length
  ·have h19i:=h19 i h1
   conv=>whnf
   repeat' (first|refine aW ?_|(refine zX (fun hc=>?_) (fun hc=>?_)<;>(try simp only[SY] at hc)<;>first|omega|(conv=>whnf)))
   all_goals try (exfalso;omega)
   refine au.th (H az pz i s1 tk1 hPi h1) (bU.refl _) ?_;rintro _ _ ⟨us,c,s',tk',rfl,rfl,hq,hr⟩;by_cases hc0:c=0
   ·subst hc0
    obtain ⟨a,x,r,q,f,hf,hg,hxp,hgp,hP'⟩:=hr rfl;have hpl:=lS _ _ _ hf;obtain ⟨put,hpb,hpu⟩:=iM hg;obtain ⟨put2,hpb2,hpu2⟩:=qn hgp
    conv=>whnf
    repeat' (first|refine aW ?_|((refine pC (hpl) wR ?_);conv=>whnf)|(refine zX (fun hc=>?_) (fun hc=>?_)<;>(try simp only[SY] at hc)<;>(conv=>whnf)))
    all_goals try (exfalso;omega)
    rw[hxp]
    conv=>whnf
    repeat' (first|refine aW ?_|(refine zX (fun hc=>?_) (fun hc=>?_)<;>(try simp only[SY] at hc)<;>omega))
    all_goals try (exfalso;omega)
    have hpu3:=hpu2 us;dsimp only[MQ,wW] at hpu3;rw[hpu3];exact aJ (i + 1,aR s' (dL s'.h q us),tk') ⟨by show i + 1≤_;omega,hP'⟩ (by show t.v.length - (i + 1) < t.v.length - i;omega) wA
   ·conv=>whnf
    repeat' (first|refine aW ?_|(refine zX (fun hc=>?_) (fun hc=>?_)<;>(try simp only[SY] at hc)<;>first|omega|(conv=>whnf)))
    exact an.gen (y:=.aU [.agg (aS bx),.int .i64 c]) (Γ':=bw b K tk' s') hY.res ⟨bx,c,s',tk',rfl,rfl,hq hc0⟩
  ·have hi2:i=t.v.length:=by omega
   subst hi2;have hev:=HE az pz s1 tk1 hPi
   conv=>whnf
   repeat' ((refine zX (fun hc=>?_) (fun hc=>?_)<;>(try simp only[SY] at hc)<;>first|omega|(conv=>whnf)))
   all_goals try (exfalso;omega)
   refine aI.over [21,202,203,204,205,206,207,208,209,210,211,212,213,214,215,216,217,218,219,220,221,222,223,224,225,226,227,228,229] (fun _:Unit=> [(21,.int .i64 0)]) (fun _:Unit=>.box b2 [.int .i64 0,.int .i64 0,.int .i64 0,.str [],.nil,.np,.np]::.box b1 [.int .i64 t.op,.int .i64 t.n,.sl 1 (t.v.map (PV.int .i64)) none,.sl 4 (t.t.map aa.pv) none]::bw b K tk1 s1) (fun _=>True) (fun _=>0) () trivial wA ?_;rintro ⟨⟩ _
   conv=>whnf
   repeat' (first|refine aW ?_|(refine zX (fun hc=>?_) (fun hc=>?_)<;>(try simp only[SY] at hc)<;>first|omega|(conv=>whnf)))
   all_goals try (exfalso;omega)
   refine au.th hev (bU.refl _) ?_;rintro _ _ ⟨x',c',s'',tk'',rfl,rfl,hq⟩
   conv=>whnf
   repeat' (first|refine aW ?_|((refine bY nC ?_);conv=>whnf)|(refine zX (fun hc=>?_) (fun hc=>?_)<;>(try simp only[SY] at hc)<;>omega))
   all_goals exact an.gen (y:=.aU [.agg (aS x'),.int .i64 c']) (Γ':=bw b K tk'' s'') (Wk.refl _) ⟨x',c',s'',tk'',rfl,rfl,hq⟩
end
def rK (x:Vl) (c:Int) (s:bJ):List UInt8:=if c=0 then qD x else if c=7 then qD s.val else []
theorem IZ (cs:List Datum) (cds:List bZ) (hcs: ∀ d∈cs,d.sz≤1000000000) (hlc:cs.length≤1000000) (t:aa) (fuel:Int) (R:Vl→Int→bJ→Prop)
  (hev: ∀ (b:Nat) (tk:Tok),tk.e=4→tk.s=1→ah Tryz.prog 87 [.ptr b 0,.agg t.cells,.np,fo []] (bw b ⟨cs.map cN,cds⟩ tk (tq fuel)) (br b ⟨cs.map cN,cds⟩ fun x c s' _=>(c=0→x.tx=true)∧(c=7→s'.val.tx=true)∧R x c s')):
  ah Tryz.prog 51 [.sl 5 (cs.map Datum.pv) none,.sl 6 (cds.map bZ.pv) none,.agg t.cells,.int .i64 fuel] [] (fun y Γ'=> ∃ x c s',R x c s'∧y=.agg [.str s'.out,.int .i64 c,.str (rK x c s')]∧Γ'= []):=by
 refine ah.ai aj Tryz.func51 rfl rfl (n:=65) rfl rfl ?_
 conv=>whnf
 repeat' (first|((intro _);conv=>whnf)|(refine zX (fun hc=>?_) (fun hc=>?_)<;>(try simp only[SY] at hc)<;>omega))
 rename_i b6 b8 b9;refine aI.gh (aA.trans (aA.Kz _) (aA.box (b:=b9) (cs:= [.nil,.sl 6 (cds.map bZ.pv) none,.int .i64 fuel,.str [],.nil,.int .i64 0,.int .i64 0,.int .i64 0,.int .i64 0,.str [],.nil,.np,.np]) (cs':= [.ms (aT 7 140),.sl 6 (cds.map bZ.pv) none,.int .i64 fuel,.str [],.nil,.int .i64 0,.int .i64 0,.int .i64 0,.int .i64 0,.str [],.nil,.np,.np]) (.cons (Wk.fG _ _) (ia.refl _)))) ?_
 refine aI.over [10,18,19,20,21,22,23,24,25,26,27,28,29,30,31,32,33,34,35,36,37,38] (fun x:Nat×List Vl×Tok=> [(10,.int .i64 x.1)]) (fun x:Nat×List Vl×Tok=> [.box b9 [.ms x.2.2,.sl 6 (cds.map bZ.pv) none,.int .i64 fuel,.str [],.nil,.int .i64 0,.int .i64 0,.int .i64 0,.int .i64 0,.str [],.nil,.np,.np],.row x.2.2 (x.2.1.map Vl.pv),.box b8 [.str [],.int .i64 0,.str []],.box b6 [.int .i64 t.op,.int .i64 t.n,.sl 1 (t.v.map (PV.int .i64)) none,.sl 4 (t.t.map aa.pv) none]])
  (fun x=>x.1≤cs.length∧x.2.2.e=140∧x.2.2.s=7∧x.2.1=(cs.map cN).take x.1) (fun x=>cs.length - x.1) (0, [],aT 7 140) ⟨Nat.zero_le _,rfl,rfl,rfl⟩ wA ?_
 rintro ⟨i,m,tk⟩ ⟨hi,he,hs,hm⟩;dsimp only at hi he hs hm ⊢;have hml:m.length=i:=by rw[hm,List.length_take];simp;omega
 conv=>whnf
 repeat' (first|refine aW ?_|((intro _);conv=>whnf)|(refine zX (fun hc=>?_) (fun hc=>?_)<;>(try simp only[SY] at hc)<;>(conv=>whnf)))
 ·have hlt:i < cs.length:=by omega
  have hv:=E8 _ (hcs _ (List.getElem_mem hlt));have hsl:=yg m (Vl.mk 0 0 0 [] [] none none) (cN cs[i]);have hcl2:(m++ [(Vl.mk 0 0 0 [] [] none none)]).length=m.length + 1:=by simp
  refine aC.tree aj mixed [0,1,3,7,0,0,48,112,240,15,0,2047,4095,8191,4095,20479,53247] [0,1,2,4,5,6,7,8,10] [3,9,11,12,13,14,15,16] [.box b9 [.ms tk,.sl 6 (cds.map bZ.pv) none,.int .i64 fuel,.str [],.nil,.int .i64 0,.int .i64 0,.int .i64 0,.int .i64 0,.str [],.nil,.np,.np],.row tk (m.map Vl.pv)] ?_
  conv=>whnf
  conv=>whnf
  repeat' (first|((first|((apply zZ);first|exact tB|((conv=>whnf);(repeat ((refine pC (hv) wR ?_);conv=>whnf));exact pZ))|refine aM ?_|(refine And.intro ?_ ?_)|(refine l6.map fun _=>?_)|refine aF ?_|intro _);conv=>whnf)|(refine zX (fun hc=>?_) (fun hc=>?_)<;>(try simp only[SY] at hc)<;>omega))
  all_goals try exact trivial
  all_goals
   rw[hsl];have hmm:m++ [cN cs[i]]=(cs.map cN).take (i + 1):=by rw[List.take_succ_eq_append_getElem (by simp;omega), ←hm];simp
   rename_i tk2 e2 s2;exact aJ (i + 1,m++ [cN cs[i]],tk2) ⟨by show i + 1≤_;omega,e2,s2,hmm⟩ (by show cs.length - (i + 1) < cs.length - i;omega) wA
 ·obtain rfl:i=cs.length:=by omega
  rw[List.take_of_length_le (by simp)] at hm;subst hm
  refine au.Pa (Γ1:= [.box b9 (FX ⟨cs.map cN,cds⟩ (aT 1 4) (tq fuel)),.row (aT 1 4) (([]:List Bool).map PV.bool)]) (aA.trans (aA.fM (t:=tk) (es:=(cs.map cN).map Vl.pv) (b:=b9) (cs:= [.ms tk,.sl 6 (cds.map bZ.pv) none,.int .i64 fuel,.str [],.nil,.int .i64 0,.int .i64 0,.int .i64 0,.int .i64 0,.str [],.nil,.np,.np]) (cs':= [.sl 7 ((cs.map cN).map Vl.pv) none,.sl 6 (cds.map bZ.pv) none,.int .i64 fuel,.str [],.nil,.int .i64 0,.int .i64 0,.int .i64 0,.int .i64 0,.str [],.nil,.np,.np])
    (.cons (Cp.ms' hs) (.cons (.of (Wk.refl _)) (.cons (.of (Wk.refl _)) (.cons (.of (Wk.refl _)) (.cons (.of (Wk.refl _)) (.cons (.of (Wk.refl _)) (.cons (.of (Wk.refl _)) (.cons (.of (Wk.refl _)) (.cons (.of (Wk.refl _)) (.cons (.of (Wk.refl _)) (.cons (.of (Wk.refl _)) (.cons (.of (Wk.refl _)) (.cons (.of (Wk.refl _)) .nil))))))))))))))
   (aA.trans (aA.Kx _) (aA.box (b:=b9) (cs:= [.sl 7 ((cs.map cN).map Vl.pv) none,.sl 6 (cds.map bZ.pv) none,.int .i64 fuel,.str [],.nil,.int .i64 0,.int .i64 0,.int .i64 0,.int .i64 0,.str [],.nil,.np,.np]) (cs':=FX ⟨cs.map cN,cds⟩ (aT 1 4) (tq fuel))
    (.cons (Wk.refl _) (.cons (Wk.refl _) (.cons (Wk.refl _) (.cons (Wk.refl _) (.cons (Wk.fG _ _) (.cons (Wk.refl _) (.cons (Wk.refl _) (.cons (Wk.refl _) (.cons (Wk.refl _) (.cons (Wk.refl _) (.cons (Wk.lp rfl) (.cons (Wk.refl _) (.cons (Wk.refl _) .nil))))))))))))))))
   (hev b9 (aT 1 4) rfl rfl) (.cons (Wk.refl _) (.cons (Wk.refl _) (.cons (Wk.refl _) (.cons (Wk.lp rfl) .nil)))) ?_
  rintro _ _ ⟨x,c,s',tk',rfl,rfl,hx0,hx7,hR⟩;by_cases h0:c=0
  ·subst h0
   have htx6:=uf x (hx0 rfl)
   conv=>whnf
   repeat' (first|refine aW ?_|((first|refine bY nC ?_|refine pC (htx6) wR ?_|intro _);conv=>whnf)|(refine zX (fun hc=>?_) (fun hc=>?_)<;>(try simp only[SY] at hc)<;>first|omega|(conv=>whnf)))
   exact an.gen (y:=.agg [.str s'.out,.int .i64 0,.str (qD x)]) (Γ':= []) (Wk.refl _) ⟨x,0,s',hR,rfl,rfl⟩
  ·by_cases h7:c=7
   ·subst h7
    have htx6:=uf s'.val (hx7 rfl)
    conv=>whnf
    repeat' (first|refine aW ?_|((first|refine bY nC ?_|refine pC (htx6) wR ?_|intro _);conv=>whnf)|(refine zX (fun hc=>?_) (fun hc=>?_)<;>(try simp only[SY] at hc)<;>first|omega|(conv=>whnf)))
    exact an.gen (y:=.agg [.str s'.out,.int .i64 7,.str (qD s'.val)]) (Γ':= []) (Wk.refl _) ⟨x,7,s',hR,rfl,rfl⟩
   ·have htx6:=uf bx rfl
    conv=>whnf
    repeat' (first|refine aW ?_|((first|refine bY nC ?_|intro _);conv=>whnf)|(refine zX (fun hc=>?_) (fun hc=>?_)<;>(try simp only[SY] at hc)<;>first|omega|(conv=>whnf)))
    exact an.gen (y:=.agg [.str s'.out,.int .i64 c,.str []]) (Γ':= []) (Wk.refl _) ⟨x,c,s',hR,by unfold rK;rw[if_neg h0,if_neg h7],rfl⟩
theorem L0 (p:Prog) (hcs: ∀ d∈p.consts,d.sz≤1000000000) (hlc:p.consts.length≤1000000) (fuel:Int) (R:Vl→Int→bJ→Prop)
  (hev: ∀ (b:Nat) (tk:Tok),tk.e=4→tk.s=1→ah Tryz.prog 87 [.ptr b 0,.agg p.body.cells,.np,fo []] (bw b ⟨p.consts.map cN, []⟩ tk (tq fuel)) (br b ⟨p.consts.map cN, []⟩ fun x c s' _=>(c=0→x.tx=true)∧(c=7→s'.val.tx=true)∧R x c s')):
  ah Tryz.prog 29 [.agg p.cells,.int .i64 fuel] [] (fun y Γ'=> ∃ x c s',R x c s'∧y=.agg [.str s'.out,.int .i64 c,.str (rK x c s')]∧Γ'= []):=by
 have hr:=IZ p.consts [] hcs hlc p.body fuel R hev;refine ah.ai aj Tryz.func29 rfl rfl (n:=11) rfl rfl ?_
 conv=>whnf
 repeat' (first|refine aW ?_|((intro _);conv=>whnf)|(refine zX (fun hc=>?_) (fun hc=>?_)<;>(try simp only[SY] at hc)<;>omega))
 refine au.go (Γ1:= []) hr (.cons (Wk.refl _) (.cons (Wk.lp rfl) (.cons (Wk.refl _) (.cons (Wk.refl _) .nil)))) ?_;rintro _ _ ⟨x,c,s',hR,rfl,rfl⟩
 conv=>whnf
 repeat' (first|refine aW ?_|(refine zX (fun hc=>?_) (fun hc=>?_)<;>(try simp only[SY] at hc)<;>omega))
 exact an.gen (y:=.agg [.str s'.out,.int .i64 c,.str (rK x c s')]) (Γ':= []) (Wk.refl _) ⟨x,c,s',hR,rfl,rfl⟩
theorem JL (p:qI) (hcs: ∀ d∈p.consts,d.sz≤1000000000) (hlc:p.consts.length≤1000000) (fuel:Int) (R:Vl→Int→bJ→Prop)
  (hev: ∀ (b:Nat) (tk:Tok),tk.e=4→tk.s=1→ah Tryz.prog 87 [.ptr b 0,.agg p.body.cells,.np,fo []] (bw b ⟨p.consts.map cN,p.codes⟩ tk (tq fuel)) (br b ⟨p.consts.map cN,p.codes⟩ fun x c s' _=>(c=0→x.tx=true)∧(c=7→s'.val.tx=true)∧R x c s')):
  ah Tryz.prog 36 [.agg p.cells,.int .i64 fuel] [] (fun y Γ'=> ∃ x c s',R x c s'∧y=.agg [.str s'.out,.int .i64 c,.str (rK x c s')]∧Γ'= []):=by
 have hr:=IZ p.consts p.codes hcs hlc p.body fuel R hev;refine ah.ai aj Tryz.func36 rfl rfl (n:=13) rfl rfl ?_
 conv=>whnf
 repeat' (first|refine aW ?_|((intro _);conv=>whnf)|(refine zX (fun hc=>?_) (fun hc=>?_)<;>(try simp only[SY] at hc)<;>omega))
 refine au.go (Γ1:= []) hr (bU.refl _) ?_;rintro _ _ ⟨x,c,s',hR,rfl,rfl⟩
 conv=>whnf
 repeat' (first|refine aW ?_|(refine zX (fun hc=>?_) (fun hc=>?_)<;>(try simp only[SY] at hc)<;>omega))
 exact an.gen (y:=.agg [.str s'.out,.int .i64 c,.str (rK x c s')]) (Γ':= []) (Wk.refl _) ⟨x,c,s',hR,rfl,rfl⟩
theorem Pr {J K:KC} {n:Int} (HS:Lx J K n) {w:Wd} {t:aa} {e e':bq} {o o':List Vl} {S:List Int} {fm:Fm} {ov:List Int} {ts:List aa} {v':List Int} (hE:ER w e e' o' fm ov S) (ho:t.op=5∨t.op=6∨t.op=10∨t.op=12∨(15≤t.op∧t.op≤18)) (hl:ts.length=t.t.length) (h: ∀ i (hi:i < t.t.length),Cl K.c S fm ov t.t[i] (ts[i]'(by omega))):Sm (CC K.c) J K n w (.go t e o) (.go (.mk t.op t.n v' ts) e' o'):=by
 intro w1 hw s r hV hn v c s' h1 v2 c' r' h2 n1 n2;have hop:(aa.mk t.op t.n v' ts).op=t.op:=rfl;have hA:Sm (CC K.c) J K n w (.all t.t e o) (.all ts e' o'):=AJ.all (AJ.of hl fun i hi hi'=>HS w _ _ _ _ _ _ _ _ _ (h i hi) hE)
 rcases h1.o4 (by omega) with ⟨h0,rfl,us,g1⟩ | ⟨y,us,s1,rfl,g1,g2⟩
 ·rcases h2.o4 (by omega) with ⟨h0',rfl,us',g3⟩ | ⟨y',us',r1,rfl,g3,g4⟩
  ·exact (hA w1 hw s r hV hn _ _ _ g1 _ _ _ g3 n1 n2).fail h0
  ·exact absurd (hA w1 hw s r hV hn _ _ _ g1 _ _ _ g3 n1 (by decide)).1.symm h0
 ·rcases h2.o4 (by omega) with ⟨h0',rfl,us',g3⟩ | ⟨y',us',r1,rfl,g3,g4⟩
  ·exact absurd (hA w1 hw s r hV hn _ _ _ g1 _ _ _ g3 (by decide) n2).1 h0'
  ·obtain ⟨_,w2,m1,m2,m3⟩:=hA w1 hw s r hV hn _ _ _ g1 _ _ _ g3 (by decide) (by decide)
   exact Rs.back m1 (Sm.str (CC.mono) (LC HS) hop rfl (by omega) m2 (Int.le_trans g1.grow.2.2 hn) (m3 rfl) g2 g4 n1 n2)
theorem Pd {J K:KC} {n:Int} (HS:Lx J K n) {w:Wd} {t f:aa} {args:List aa} {kn:Kn} {e e':bq} {o o':List Vl} {S:List Int} {fm:Fm} {ov:List Int} {ts:List aa} {v':List Int} (hE:ER w e e' o' fm ov S) (ho:t.op=5) (ht:t.t=f::args) (hf:f.op=1) (hS:f.n∈S) (hk:fm f.n=some kn) (hl:ts.length=t.t.length) (h: ∀ i (hi:i < t.t.length),Cl K.c S fm ov t.t[i] (ts[i]'(by omega))):
  Sm (CC K.c) J K n w (.go t e o) (.go (.mk 22 kn.code v' ts) e' o'):=by
 intro w1 hw s r hV hn v c s' h1 v2 c' r' h2 n1 n2;have hop:(aa.mk 22 kn.code v' ts).op=22:=rfl;have hL:AJ (CC K.c) J K n w e e' o o' t.t ts:=AJ.of hl fun i hi hi'=>HS w _ _ _ _ _ _ _ _ _ (h i hi) hE;rw[ht] at hL;obtain ⟨f',args',rfl,hSf,hSa⟩:=hL
 have hCf:Cl K.c S fm ov f f':=by
  have:=h 0 (by rw[ht];simp);simpa only[ht,List.getElem_cons_zero] using this
 have hA:=AJ.all hSa;obtain ⟨a,x,f1,f2,f3,f4⟩:=hE.up hw f.n hS
 have hx: ∃ p,x=cg p:=by
  cases hs:gE fm f.n with
  | true=>obtain ⟨p,e1,_⟩:=f3 hs;exact ⟨p,e1⟩
  | false=>
   obtain ⟨y,_,_,h3⟩:=f4 hs;obtain ⟨p,q,e1,_⟩:=h3 kn hk;exact ⟨p,e1⟩
 obtain ⟨p,rfl⟩:=hx
 have src: ∀ {v1 c1 s1},Ev J (.ev f e o) s v1 c1 s1→c1≠8→v1= [cg p]∧c1=0∧s1=bf s:=fun {v1 c1 s1} g1 g2=>by
  obtain ⟨y,rfl,_,g3⟩:=g1.dn g2;exact g3.Ah hf f1 (hV.pg _ _ f2)
 have tgt: ∀ {v1 c1 r1},Ev K (.ev f' e' o') r v1 c1 r1→c1≠8→c1=0∧ ∃ q w2,v1= [cg q]∧w1.le w2∧Va (CC K.c) K w2 (bf s) r1∧w2.p p q kn.code:=fun {v1 c1 r1} g1 g2=>by
  have hV':Va (CC K.c) K w1 (bf s) r:=hV.ye (iB.less s) (iB.refl r) (gI.refl _) (gI.refl _)
  have hrf:f'=dc fm ov f.n:=by
   cases hCf with
   | ref=>rfl
   | CQ ho=>unfold Nt at ho;exfalso;omega
   | call ho | lam ho | lt ho | fx ho=>exfalso;omega
  subst hrf
  cases hs:gE fm f.n with
  | true=>
   obtain ⟨p',e1,hz⟩:=f3 hs;cases e1;have hcf:codeF fm f.n=kn.code:=by unfold codeF;rw[hk]
   rw[hcf] at hz;obtain ⟨F,cd,z1,z2,z3⟩:=hV'.pz _ _ hz;unfold dc at g1;rw[if_pos hs,hcf] at g1;obtain ⟨y,rfl,_,g3⟩:=g1.dn g2;obtain ⟨q,e2,rfl,hd,rfl⟩:=g3.Ax rfl z2;have hV2:=hV'.ye (t':=aR (bf r) ((q,.eH (jg cd kn.code []))::(bf r).h)) (iB.refl _) ⟨rfl,rfl,rfl,rfl⟩ (gI.refl _) (gI.new hd);refine ⟨rfl,q,w1.plus (fun _ _=>False) (fun _ _=>False) (fun a' b' n'=>a'=p∧b'=q∧n'=kn.code) fun _ _=>False,e2,w1.iO _ _ _ _,hV2.link CC.mono (fun _ _ h=>h.elim) (fun _ _ h=>h.elim) ?_ (fun _ _ h=>h.elim),.inr ⟨rfl,rfl,rfl⟩⟩;rintro _ _ _ ⟨rfl,rfl,rfl⟩;exact ⟨F,_,z1,iH,rfl,CC.mono _ _ (w1.iO _ _ _ _) _ _ z3⟩
  | false=>
   obtain ⟨y,k1,_,h3⟩:=f4 hs;obtain ⟨p',q,e1,rfl,h4⟩:=h3 kn hk;cases e1;obtain ⟨rfl,rfl,rfl⟩:=qq g1 g2 hs (k1.lk hV.pf);exact ⟨rfl,q,w1,rfl,w1.refl,hV'.ye (iB.refl _) (iB.less r) (gI.refl _) (gI.refl _),h4⟩
 have both: ∀ {us c1 s1 us' c2 r1},Ev J (.all t.t e o) s us c1 s1→Ev K (.all (f'::args') e' o') r us' c2 r1→c1≠8→c2≠8→c2=c1∧ ∃ w2,w1.le w2∧Va (CC K.c) K w2 s1 r1∧(c1=0→ ∃ q xs ys,us=cg p::xs∧us'=cg q::ys∧w2.p p q kn.code∧G1 w2 xs ys):=fun {us c1 s1 us' c2 r1} g1 g2 m1 m2=>by
  rw[ht] at g1
  rcases g1.j7 with ⟨h0,y,g3⟩ | ⟨x1,s2,us1,g3,g4,g5⟩
  ·exact absurd (src g3 m1).2.1 h0
  rcases g2.j7 with ⟨h0,y,g6⟩ | ⟨x1',r2,us1',g6,g7,g8⟩
  ·exact absurd (tgt g6 m2).1 h0
  obtain ⟨e1,_,rfl⟩:=src g3 (by decide);injection e1 with e1 _;subst e1;obtain ⟨_,q,w2,e2,z1,z2,z3⟩:=tgt g6 (by decide);injection e2 with e2 _;subst e2;obtain ⟨z4,w3,z5,z6,z7⟩:=hA w2 (Wd.trans hw z1) _ _ z2 (by show s.fuel - 1≤n;omega) _ _ _ g4 _ _ _ g7 m1 m2;exact ⟨z4,w3,Wd.trans z1 z5,z6,fun h0=>⟨q,us1,us1',g5 h0,g8 (z4.trans h0),z5.p _ _ _ z3,z7 h0⟩⟩
 rcases h1.o4 (by omega) with ⟨h0,rfl,us,g1⟩ | ⟨y,us,s1,rfl,g1,g2⟩
 ·rcases h2.o4 (by rw[hop];decide) with ⟨h0',rfl,us',g3⟩ | ⟨y',us',r1,rfl,g3,g4⟩
  ·obtain ⟨z1,w2,z2,z3,_⟩:=both g1 g3 n1 n2
   exact ⟨z1,w2,z2,z3,fun h=>absurd h h0⟩
  ·exact absurd (both g1 g3 n1 (by decide)).1.symm h0
 ·rcases h2.o4 (by rw[hop];decide) with ⟨h0',rfl,us',g3⟩ | ⟨y',us',r1,rfl,g3,g4⟩
  ·exact absurd (both g1 g3 (by decide) n2).1 h0'
  ·obtain ⟨_,w2,z1,z2,z3⟩:=both g1 g3 (by decide) (by decide)
   obtain ⟨q,xs,ys,rfl,rfl,z4,z5⟩:=z3 rfl;obtain ⟨F,G,z6,z7,z8,z9⟩:=z2.pp _ _ _ z4
   have hs1:Ev J (.call (cg p) xs) s1 [y] c s':=by
    generalize hL:cg p::xs=L at g2
    cases g2 with
    | app _ h=>cases hL;exact h
    | MT o2 | xk o2 | AQ o2 | get o2 | eF o2 | box o2 | Nr o2 | Ff o2 | cH o2=>exfalso;omega
    | bad o2 | put o2 | JE o2 | NC o2=>exfalso;omega
    | seq o2=>exfalso;omega
   have hs2:Ev K (.call (cg q) ys) r1 [y'] c' r':=by
    generalize hL:cg q::ys=L at g4
    cases g4 with
    | Nr _ _ _ _ _ h=>cases hL;exact h
    | Ff _ h=>
     cases hL;obtain ⟨q',pr,y1,y2,y3⟩:=h rfl;cases y1;rw[z7] at y2;cases y2;exact absurd z8 y3
    | MT o2 | xk o2 | AQ o2 | get o2 | eF o2 | box o2 | app o2 | cH o2=>exact absurd (hop.symm.trans o2) (by decide)
    | bad o2 | put o2 | JE o2 | NC o2=>rw[hop] at o2;exact absurd o2 (by decide)
    | seq o2=>exact absurd (hop.symm.trans o2) (by decide)
   exact Rs.back z1 ((Sm.calls (LC HS) hs1) w2 _ _ _ z2 (Int.le_trans g1.grow.2.2 hn) (yO z4) z5 _ _ _ hs2 n1 n2)
theorem P4 {J K:KC} {n:Int} (hJ:J.k=K.k) (hK: ∀ x∈K.k, ∀ (C:Nat→Nat→Prop) (B:Nat→Nat→Prop),VR C B x x) (HS:Lx J K n) {w:Wd} {t t':aa} {e e':bq} {o o':List Vl} {S:List Int} {fm:Fm} {ov:List Int} (hC:Cl K.c S fm ov t t') (hE:ER w e e' o' fm ov S):Sm (CC K.c) J K n w (.go t e o) (.ev t' e' o'):=by
 cases hC with
 | lt ho ht hv hnd hap hl h hf hk h2=>exact Pf HS hE ho ht hv hnd hap hl h hf hk h2
 | fx ho ht hv hL hnd hap hf hls hk hst hne h h2=>exact fixC HS hE ho ht hv hL hnd hap hf hls hk hst hne h h2
 | call ho ht hf hS hk hl h=>
  intro w1 hw s r hV hn v c s' h1 v2 c' r' h2 n1 n2;obtain ⟨y,rfl,_,g⟩:=h2.dn n2;exact Pd HS hE ho ht hf hS hk hl h w1 hw s (bf r) (hV.ye (iB.refl s) (iB.less r) (gI.refl _) (gI.refl _)) hn _ _ _ h1 _ _ _ g n1 n2
 | lam ho ht hr hO hc h=>
  intro w1 hw s r hV hn v c s' h1 v2 c' r' h2 n1 n2
  have hD:uo K.c S fm t _ _:=⟨_,_,_,_,ho,ht,hr,hO,hc,h⟩
  obtain ⟨rfl,rfl,a,b0,w',rfl,rfl,g1,g2,g3⟩:=Oe hV (hE.up hw) hD h1 h2 n2;exact ⟨rfl,w',g1,g2,fun _=>jk.2 ⟨_,rfl,yO g3⟩⟩
 | ref ho hr=>
  intro w1 hw s r hV hn v c s' h1 v2 c' r' h2 n1 n2;obtain ⟨a,x,f1,f2,f3,f4⟩:=hE.up hw t.n hr;obtain ⟨rfl,rfl,rfl⟩:=h1.Ah ho f1 (hV.pg _ _ f2)
  cases hs:gE fm t.n with
  | true=>
   obtain ⟨p,rfl,hz⟩:=f3 hs;obtain ⟨F,cd,z1,z2,z3⟩:=hV.pz _ _ hz;unfold dc at h2;rw[if_pos hs] at h2;obtain ⟨y,rfl,_,g3⟩:=h2.dn n2;obtain ⟨q,e2,rfl,hd,rfl⟩:=g3.Ax rfl z2;injection e2 with e2 _;subst e2;have hV2:=hV.ye (t':=aR (bf r) ((q,.eH (jg cd (codeF fm t.n) []))::(bf r).h)) (iB.refl _) ⟨rfl,rfl,rfl,rfl⟩ (gI.refl _) (gI.new hd);refine ⟨rfl,w1.plus (fun _ _=>False) (fun _ _=>False) (fun a' b' n'=>a'=p∧b'=q∧n'=codeF fm t.n) fun _ _=>False,w1.iO _ _ _ _,hV2.link CC.mono (fun _ _ h=>h.elim) (fun _ _ h=>h.elim) ?_ (fun _ _ h=>h.elim),fun _=>jk.2 ⟨_,rfl,yO (n:=codeF fm t.n) (.inr ⟨rfl,rfl,rfl⟩)⟩⟩;rintro _ _ _ ⟨rfl,rfl,rfl⟩;exact ⟨F,_,z1,iH,rfl,CC.mono _ _ (w1.iO _ _ _ _) _ _ z3⟩
  | false=>
   obtain ⟨y,k1,k2,_⟩:=f4 hs;obtain ⟨rfl,rfl,rfl⟩:=qq h2 n2 hs (k1.lk hV.pf);exact Rs.done (hV.ye (iB.refl _) (iB.less r) (gI.refl _) (gI.refl _)) k2
 | @CQ _ _ _ _ ts v' ho hl hP=>
  intro w1 hw s r hV hn v c s' h1 v2 c' r' h2 n1 n2;obtain ⟨y,rfl,_,g⟩:=h2.dn n2;have hV':Va (CC K.c) K w1 s (bf r):=hV.ye (iB.refl s) (iB.less r) (gI.refl _) (gI.refl _);have hop:(aa.mk t.op t.n v' ts).op=t.op:=rfl;unfold Nt at ho;by_cases h5:t.op=5∨t.op=6∨t.op=10∨t.op=12∨(15≤t.op∧t.op≤18)
  ·exact Pr HS hE h5 hl hP w1 hw s (bf r) hV' hn _ _ _ h1 _ _ _ g n1 n2
  rcases (by omega:t.op=0∨t.op=3∨t.op=11∨t.op=13) with h | h | h | h
  ·cases h1 with
   | GB _ hk=>
    cases g with
    | GB _ hk'=>
     have h3:K.k[t.n.toNat]?=some _:=hk';rw[hJ,h3] at hk;cases hk;exact Rs.done hV' (hK _ (List.mem_of_getElem? h3) _ _)
    | GG o2 | FM o2 | Jj o2 | st o2=>rw[hop,h] at o2;exact absurd o2 (by decide)
    | ref o2 | wY o2 | prf o2 | JF o2 | lam o2 | GJ o2 | GF o2 | wM o2 | HW o2 | HX o2 | HY o2 | JB o2 | GH o2 | GD o2 | GC o2=>rw[hop,h] at o2;exact absurd o2 (by decide)
   | _=>exfalso;omega
  ·have hL:AJ (CC K.c) J K n w1 e e' o o' t.t ts:=AJ.of hl fun i hi hi'=>HS w1 _ _ _ _ _ _ _ _ _ (hP i hi) (hE.up hw)
   have hx: ∃ x1 x2 x3,t.t= [x1,x2,x3]:=by
    cases h1 with
    | HW _ hs1 | HX _ hs1 | HY _ hs1=>exact ⟨_,_,_,hs1⟩
    | _=>exfalso;omega
   obtain ⟨x1,x2,x3,hx⟩:=hx;rw[hx] at hL;obtain ⟨y1,m1,e1,S1,y2,m2,e2,S2,y3,m3,e3,S3,e4⟩:=hL;have e4':m3= []:=e4;subst e4' e3 e2 e1;have ht':(aa.mk t.op t.n v' [y1,y2,y3]).t= [y1,y2,y3]:=rfl
   cases h1 with
   | HW _ hs1 q1 h0=>
    rw[hx] at hs1;cases hs1
    cases g with
    | HW _ hs2 q2 h0'=>
     cases hs2;exact (S1 w1 w1.refl s _ hV' hn _ _ _ q1 _ _ _ q2 n1 n2).fail h0
    | HX _ hs2 q2 _ _ | HY _ hs2 q2 _ _=>
     cases hs2;exact absurd (S1 w1 w1.refl s _ hV' hn _ _ _ q1 _ _ _ q2 n1 (by decide)).1.symm h0
    | GG o2 | FM o2 | Jj o2 | st o2=>rw[hop,h] at o2;exact absurd o2 (by decide)
    | GB o2 | ref o2 | wY o2 | prf o2 | JF o2 | lam o2 | GJ o2 | GF o2 | wM o2 | JB o2 | GH o2 | GD o2 | GC o2=>rw[hop,h] at o2;exact absurd o2 (by decide)
   | HX _ hs1 q1 hx1 r1=>
    rw[hx] at hs1;cases hs1
    cases g with
    | HW _ hs2 q2 h0'=>
     cases hs2;exact absurd (S1 w1 w1.refl s _ hV' hn _ _ _ q1 _ _ _ q2 (by decide) n2).1 h0'
    | HX _ hs2 q2 hx2 r2=>
     cases hs2;obtain ⟨_,w2,g1,g2,g4⟩:=S1 w1 w1.refl s _ hV' hn _ _ _ q1 _ _ _ q2 (by decide) (by decide);exact Rs.back g1 (S3 w2 g1 _ _ g2 (Int.le_trans q1.grow.2.2 hn) _ _ _ r1 _ _ _ r2 n1 n2)
    | HY _ hs2 q2 hx2 r2=>
     cases hs2;obtain ⟨_,w2,g1,g2,g4⟩:=S1 w1 w1.refl s _ hV' hn _ _ _ q1 _ _ _ q2 (by decide) (by decide);obtain ⟨j1,j2,_⟩:=kR (bO.1 (g4 rfl)).1;exact absurd ⟨j1.trans hx1.1,j2.trans hx1.2⟩ hx2
    | GG o2 | FM o2 | Jj o2 | st o2=>rw[hop,h] at o2;exact absurd o2 (by decide)
    | GB o2 | ref o2 | wY o2 | prf o2 | JF o2 | lam o2 | GJ o2 | GF o2 | wM o2 | JB o2 | GH o2 | GD o2 | GC o2=>rw[hop,h] at o2;exact absurd o2 (by decide)
   | HY _ hs1 q1 hx1 r1=>
    rw[hx] at hs1;cases hs1
    cases g with
    | HW _ hs2 q2 h0'=>
     cases hs2;exact absurd (S1 w1 w1.refl s _ hV' hn _ _ _ q1 _ _ _ q2 (by decide) n2).1 h0'
    | HX _ hs2 q2 hx2 r2=>
     cases hs2;obtain ⟨_,w2,g1,g2,g4⟩:=S1 w1 w1.refl s _ hV' hn _ _ _ q1 _ _ _ q2 (by decide) (by decide);obtain ⟨j1,j2,_⟩:=kR (bO.1 (g4 rfl)).1;exact absurd ⟨j1.symm.trans hx2.1,j2.symm.trans hx2.2⟩ hx1
    | HY _ hs2 q2 hx2 r2=>
     cases hs2;obtain ⟨_,w2,g1,g2,g4⟩:=S1 w1 w1.refl s _ hV' hn _ _ _ q1 _ _ _ q2 (by decide) (by decide);exact Rs.back g1 (S2 w2 g1 _ _ g2 (Int.le_trans q1.grow.2.2 hn) _ _ _ r1 _ _ _ r2 n1 n2)
    | GG o2 | FM o2 | Jj o2 | st o2=>rw[hop,h] at o2;exact absurd o2 (by decide)
    | GB o2 | ref o2 | wY o2 | prf o2 | JF o2 | lam o2 | GJ o2 | GF o2 | wM o2 | JB o2 | GH o2 | GD o2 | GC o2=>rw[hop,h] at o2;exact absurd o2 (by decide)
   | _=>exfalso;omega
  ·cases h1 with
   | prf _=>
    cases g with
    | prf _=>exact Rs.done hV' (lE rfl (by show ¬(9:Int)=8∧ ¬(9:Int)=11;decide))
    | GG o2 | FM o2 | Jj o2 | st o2=>rw[hop,h] at o2;exact absurd o2 (by decide)
    | GB o2 | ref o2 | wY o2 | JF o2 | lam o2 | GJ o2 | GF o2 | wM o2 | HW o2 | HX o2 | HY o2 | JB o2 | GH o2 | GD o2 | GC o2=>rw[hop,h] at o2;exact absurd o2 (by decide)
   | _=>exfalso;omega
  ·cases h1 with
   | JF _=>
    cases g with
    | JF _=>exact Rs.done hV' (uu 12 (by decide))
    | GG o2 | FM o2 | Jj o2 | st o2=>rw[hop,h] at o2;exact absurd o2 (by decide)
    | GB o2 | ref o2 | wY o2 | prf o2 | lam o2 | GJ o2 | GF o2 | wM o2 | HW o2 | HX o2 | HY o2 | JB o2 | GH o2 | GD o2 | GC o2=>rw[hop,h] at o2;exact absurd o2 (by decide)
   | _=>exfalso;omega
theorem Fg {J K:KC} (hJ:J.k=K.k) (hK: ∀ x∈K.k, ∀ (C:Nat→Nat→Prop) (B:Nat→Nat→Prop),VR C B x x): ∀ n:Nat,Lx J K n:=by
 intro n
 induction n with
 | zero=>
  intro w t e o t' e' o' S fm ov _ _ w1 hw s r hV hn v c s' h1 v' c' r' h2 n1 n2
  cases h1 with
  | Ns=>exact absurd rfl n1
  | ev h0=>exact absurd hn (by show ¬s.fuel≤((0:Nat):Int);omega)
 | succ n ih=>
  intro w t e o t' e' o' S fm ov hC hE w1 hw s r hV hn v c s' h1 v' c' r' h2 n1 n2;obtain ⟨x,rfl,_,g1⟩:=h1.dn n1;exact P4 hJ hK ih hC hE w1 hw (bf s) r (hV.ye (iB.less s) (iB.refl r) (gI.refl _) (gI.refl _)) (by show s.fuel - 1≤n;omega) _ _ _ g1 _ _ _ h2 n1 n2
theorem Fh (J K:KC) (hJ:J.k=K.k) (hK: ∀ x∈K.k, ∀ (C:Nat→Nat→Prop) (B:Nat→Nat→Prop),VR C B x x) {t t':aa} {fm:Fm} {ov:List Int} (hC:Cl K.c [] fm ov t t') {f f':Int} {x:Vl} {c:Int} {s':bJ} {x':Vl} {c':Int} {r':bJ}
  (h1:Ev J (.ev t [] []) (tq f) [x] c s') (h2:Ev K (.ev t' [] []) (tq f') [x'] c' r') (n1:c≠8) (n2:c'≠8):c'=c∧r'.out=s'.out∧rK x' c' r'=rK x c s':=by
 obtain ⟨w0,hw0⟩: ∃ w0:Wd,w0=⟨fun _ _=>False,fun _ _=>False,fun _ _=>False,fun _ _ _=>False,fun _ _=>False⟩:=⟨_,rfl⟩
 have hV:Va (CC K.c) K w0 (tq f) (tq f'):=by
  rw[hw0];exact ⟨rfl,rfl,rfl,jA,fun _ _ h=>h.elim,fun _ _ h=>h.elim,fun _ _ h=>h.elim,fun _ _ _ _ h=>h.elim,fun _ _ _ h=>h.elim,fun _ _ _ h=>h.elim,fun _ _ _ h=>h.elim,fun _ _ h=>h.elim⟩
 obtain ⟨e1,w',g1,g2,g4⟩:=Fg hJ hK f.toNat w0 t [] [] t' [] [] [] fm ov hC (fun v hv=>by cases hv) w0 w0.refl (tq f) (tq f') hV (by show f≤(f.toNat:Int);omega) _ _ _ h1 _ _ _ h2 n1 n2;refine ⟨e1,g2.out,?_⟩;subst e1;unfold rK;by_cases h0:c'=0
 ·rw[if_pos h0,if_pos h0]
  exact yM (bO.1 (g4 h0)).1
 ·rw[if_neg h0,if_neg h0]
  by_cases h7:c'=7
  ·rw[if_pos h7,if_pos h7]
   exact yM g2.val
  ·rw[if_neg h7,if_neg h7]
theorem uG (l:List Int) (hl:l.length≤1000000000):ay Tryz.prog 44 [ud l] (ud l):=by
 refine ah.ai aj Tryz.func44 rfl rfl (n:=8) rfl rfl ?_
 conv=>whnf
 repeat' (first|refine LB ?_|((intro _);conv=>whnf)|(refine zX (fun hc=>?_) (fun hc=>?_)<;>(try simp only[SY] at hc)<;>(conv=>whnf)))
 ·rename_i q hq
  have:l= []:=by simpa using hq hc
  subst this;exact an.pure (Wk.lp rfl)
 ·exact an.pure wA
theorem CO (l:List Datum) (hl:l.length≤1000000000):ay Tryz.prog 25 [.sl 5 (l.map Datum.pv) none] (.sl 5 (l.map Datum.pv) none):=by
 refine ah.ai aj Tryz.func25 rfl rfl (n:=8) rfl rfl ?_
 conv=>whnf
 repeat' (first|refine LB ?_|((intro _);conv=>whnf)|(refine zX (fun hc=>?_) (fun hc=>?_)<;>(try simp only[SY] at hc)<;>(conv=>whnf)))
 ·rename_i q hq
  have:l= []:=by simpa using hq hc
  subst this;exact an.pure (Wk.lp rfl)
 ·exact an.pure wA
theorem vg (k:Nat) (cap:List PV) (Γ1:List ak) (p:Int→Bool) (l:List Int) (hf: ∀ x∈l,ah Tryz.prog k (.int .i64 x::cap) Γ1 (fun y Γ'=>y=.bool (p x)∧Γ'=Γ1)):
  ah Tryz.prog 89 [ud l,.fn (.func k) cap] Γ1 (fun y Γ'=>y=.int .i64 (cO p l)∧Γ'=Γ1):=by
 refine ah.ai aj Tryz.func89 rfl rfl (n:=19) rfl rfl ?_
 conv=>whnf
 repeat (first|refine PZ ?_|((intro _);conv=>whnf))
 refine aI.keep [4,5,8,9,10,11,12,13,14,15,16,17,18] (fun i:Nat=> [(8,.int .i64 i)]) (fun i=>i≤l.length∧cO p l=if cO p (l.drop i)= -1 then -1 else i + cO p (l.drop i)) (fun i=>l.length - i) 0 ⟨by omega,by simp only[List.drop_zero];split<;>omega⟩ wA ?_;rintro i ⟨h1,h2⟩
 conv=>whnf
 repeat' (first|refine LB ?_|(refine zX (fun hc=>?_) (fun hc=>?_)<;>(try simp only[SY] at hc)<;>(conv=>whnf)))
 ·refine au.same (hf _ (List.getElem_mem (show i < l.length by omega))) (bU.refl _) ?_
  rintro _ _ ⟨rfl,rfl⟩;rw[aq (show i < l.length by omega),cO] at h2
  conv=>whnf
  repeat' (first|refine LB ?_|(refine zX (fun hc=>?_) (fun hc=>?_)<;>(try simp only[SY] at hc)<;>(conv=>whnf)))
  ·rw[hc] at h2
   refine an.gen (Wk.int ?_) ⟨rfl,rfl⟩;simpa using h2.symm
  ·rw[hc] at h2
   refine aJ (i + 1) ⟨by omega,?_⟩ (by show l.length - (i + 1) < l.length - i;omega) wA;rw[h2];have hg:=gT p (l.drop (i + 1));simp only[Bool.false_eq_true,if_false]
   split
   ·simp
   ·rw[if_neg (by omega)];omega
 ·rw[List.drop_of_length_le (by omega)] at h2
  exact an.gen (Wk.int (by rw[h2];rfl)) ⟨rfl,rfl⟩
theorem pW (k:Nat) (cap:List PV) (Γ1:List ak) (p:Int→Bool) (l:List Int) (hf: ∀ x∈l,ah Tryz.prog k (.int .i64 x::cap) Γ1 (fun y Γ'=>y=.bool (p x)∧Γ'=Γ1)):
  ah Tryz.prog 55 [ud l,.fn (.func k) cap] Γ1 (fun y Γ'=>y=.bool (l.any p)∧Γ'=Γ1):=by
 refine ah.ai aj Tryz.func55 rfl rfl (n:=9) rfl rfl ?_
 conv=>whnf
 skip
 refine au.same (vg k cap Γ1 p l hf) (bU.refl _) ?_;rintro _ _ ⟨rfl,rfl⟩
 conv=>whnf
 skip
 exact an.gen (Wk.bool (nK p l)) ⟨rfl,rfl⟩
theorem vh (k:Nat) (cap:List PV) (Γ1:List ak) (p:Int→Bool) (t:Tok) (l:List Int) (hs:t.s=1) (hll:l.length≤1000000000) (hf: ∀ x∈l,ah Tryz.prog k (.int .i64 x::cap) Γ1 (fun y Γ'=>y=.bool (p x)∧Γ'=Γ1)):
  ah Tryz.prog 89 [.ms t,.fn (.func k) cap] (.row t (l.map (PV.int .i64))::Γ1) (fun y Γ'=>y=.int .i64 (cO p l)∧Γ'=.row t (l.map (PV.int .i64))::Γ1):=by
 refine ah.ai aj Tryz.func89 rfl rfl (n:=19) rfl rfl ?_
 conv=>whnf
 skip
 refine l6.map fun _=>?_
 conv=>whnf
 skip
 refine aI.keep [4,5,8,9,10,11,12,13,14,15,16,17,18] (fun i:Nat=> [(8,.int .i64 i)]) (fun i=>i≤l.length∧cO p l=if cO p (l.drop i)= -1 then -1 else i + cO p (l.drop i)) (fun i=>l.length - i) 0 ⟨by omega,by simp only[List.drop_zero];split<;>omega⟩ wA ?_;rintro i ⟨h1,h2⟩
 conv=>whnf
 repeat' (first|refine aW ?_|(refine zX (fun hc=>?_) (fun hc=>?_)<;>(try simp only[SY] at hc)<;>(conv=>whnf)))
 ·have hlt:i < l.length:=by omega
  refine au.LJ [.row t (l.map (PV.int .i64))] (hf _ (List.getElem_mem hlt)) (bU.refl _) (List.Perm.refl _) ?_;rintro _ Γ0 ⟨rfl,e0⟩;rw[e0];clear e0;rw[aq hlt,cO] at h2
  conv=>whnf
  repeat' (first|refine aW ?_|(refine zX (fun hc=>?_) (fun hc=>?_)<;>(try simp only[SY] at hc)<;>(conv=>whnf)))
  ·rw[hc] at h2
   refine an.gen (Γ':=.row t (l.map (PV.int .i64))::Γ1) (Wk.int ?_) ⟨rfl,rfl⟩;simpa using h2.symm
  ·rw[hc] at h2
   refine aJ (i + 1) ⟨by omega,?_⟩ (by show l.length - (i + 1) < l.length - i;omega) wA;rw[h2];have hg:=gT p (l.drop (i + 1));simp only[Bool.false_eq_true,if_false]
   split
   ·simp
   ·rw[if_neg (by omega)];omega
 ·rw[List.drop_of_length_le (by omega)] at h2
  exact an.gen (Γ':=.row t (l.map (PV.int .i64))::Γ1) (Wk.int (by rw[h2];rfl)) ⟨rfl,rfl⟩
theorem xB (p:Int→Bool): ∀ l:List Int,cO p l < l.length
 | []=>by simp[cO]
 | x::l=>by
  have:=xB p l;rw[cO];simp only[List.length_cons]
  split
  ·omega
  ·split<;>omega
theorem uZ (p:Int→Bool): ∀ l:List Int,cO p l= -1→l.filter (fun x=>!p x)=l
 | [],_=>rfl
 | x::l,h=>by
  rw[cO] at h;have:=gT p l;by_cases hp:p x=true
  ·rw[if_pos hp] at h;omega
  ·rw[if_neg hp] at h
   rw[Bool.not_eq_true] at hp;rw[List.filter_cons_of_pos (by simp[hp]),uZ p l (by split at h<;>omega)]
theorem uY (p:Int→Bool): ∀ (l:List Int) (i:Nat),cO p l=i→(l.take (i + 1)).filter (fun x=>!p x)=l.take i
 | [],i,h=>by rw[cO] at h;omega
 | x::l,i,h=>by
  rw[cO] at h;have:=gT p l;by_cases hp:p x=true
  ·rw[if_pos hp] at h
   obtain rfl:i=0:=by omega
   simp[hp]
  ·rw[if_neg hp] at h
   rw[Bool.not_eq_true] at hp
   obtain ⟨j,rfl⟩: ∃ j,i=j + 1:=⟨i - 1,by split at h<;>omega⟩
   rw[List.take_succ_cons,List.filter_cons_of_pos (by simp[hp]),List.take_succ_cons,uY p l j (by split at h<;>omega)]
theorem zc (k:Nat) (cap:List PV) (Γ1:List ak) (p:Int→Bool) (t:Tok) (l:List Int) (hs:t.s=1) (hll:l.length≤1000000000) (hf: ∀ x∈l,ah Tryz.prog k (.int .i64 x::cap) Γ1 (fun y Γ'=>y=.bool (p x)∧Γ'=Γ1)):
  ah Tryz.prog 118 [.ms t,.fn (.func k) cap] (.row t (l.map (PV.int .i64))::Γ1)
   (fun y Γ'=> ∃ t':Tok,t'.s=1∧y=.ms t'∧Γ'=.row t' ((l.filter fun x=>!p x).map (PV.int .i64))::Γ1):=by
 refine ah.ai aj Tryz.func118 rfl rfl (n:=42) rfl rfl ?_
 conv=>whnf
 skip
 refine au.same (vh k cap Γ1 p t l hs hll hf) (bU.refl _) ?_;rintro _ _ ⟨rfl,rfl⟩;have hge:=gT p l;have hlt:=xB p l
 conv=>whnf
 repeat' (first|refine aW ?_|(refine zX (fun hc=>?_) (fun hc=>?_)<;>(try simp only[SY] at hc)<;>(conv=>whnf)))
 ·rw[uZ p l (by omega)]
  exact an.gen (y:=.ms t) (Γ':=.row t (l.map (PV.int .i64))::Γ1) (Wk.refl _) ⟨t,hs,rfl,rfl⟩
 obtain ⟨i0,hi0⟩: ∃ i0:Nat,cO p l=i0:=⟨(cO p l).toNat,by omega⟩
 have hhd:=uY p l i0 hi0;rw[hi0]
 refine aI.over [5,6,7,16,17,18,19,20,21,22,23,24,25,26,27,28,29,30,31,32,33,34,35] (fun x:Nat×Nat×List Int=> [(5,.int .i64 x.1),(6,.int .i64 x.2.1)]) (fun x:Nat×Nat×List Int=>.row t (x.2.2.map (PV.int .i64))::Γ1)
  (fun x=>x.1 < x.2.1∧x.2.1≤l.length∧x.2.2.length=l.length∧x.2.2.take x.1=(l.take x.2.1).filter (fun x=>!p x)∧x.2.2.drop x.2.1=l.drop x.2.1) (fun x=>l.length - x.2.1) (i0,i0 + 1,l) ⟨by show i0 < i0 + 1;omega,by show i0 + 1≤_;omega,rfl,hhd.symm,rfl⟩ wA ?_
 rintro ⟨i,j,m⟩ ⟨h1,h2,h3,h4,h5⟩;dsimp only at h1 h2 h3 h4 h5 ⊢;refine l6.map fun _=>?_
 conv=>whnf
 repeat' (first|refine aW ?_|(refine zX (fun hc=>?_) (fun hc=>?_)<;>(try simp only[SY] at hc)<;>(conv=>whnf)))
 ·have hlt2:j < l.length:=by omega
  have hjm:j < m.length:=by omega
  have hmj:m[j]=l[j]:=by
   rw[aq hjm,aq hlt2] at h5;exact (List.cons.inj h5).1
  have hd:m.drop (j + 1)=l.drop (j + 1):=by
   rw[aq hjm,aq hlt2] at h5;exact (List.cons.inj h5).2
  have htk:(l.take (j + 1)).filter (fun x=>!p x)=(l.take j).filter (fun x=>!p x)++(if p l[j]=true then [] else [l[j]]):=by
   rw[List.take_succ_eq_append_getElem hlt2,List.filter_append];congr 1;by_cases hp:p l[j]=true
   ·rw[if_pos hp];simp[hp]
   ·rw[if_neg hp];simp[hp]
  rw[hmj];refine au.LJ [.row t (m.map (PV.int .i64))] (hf _ (List.getElem_mem hlt2)) (bU.refl _) (List.Perm.refl _) ?_;rintro _ Γ0 ⟨rfl,e0⟩;rw[e0];clear e0
  conv=>whnf
  repeat' (first|refine aW ?_|(refine zX (fun hc=>?_) (fun hc=>?_)<;>(try simp only[SY] at hc)<;>(conv=>whnf)))
  ·rw[if_neg (by simp[hc])] at htk
   refine aJ (i + 1,j + 1,m.set i l[j]) ⟨by show i + 1 < j + 1;omega,by show j + 1≤_;omega,by simp[h3],?_,?_⟩ (by show l.length - (j + 1) < l.length - j;omega) wA
   ·show (m.set i l[j]).take (i + 1)=_
    rw[htk, ←h4,List.take_succ_eq_append_getElem (by simp;omega),List.take_set_of_le (Nat.le_refl _)];simp
   ·show (m.set i l[j]).drop (j + 1)=_
    rw[List.drop_set_of_lt (by omega),hd]
  ·rw[if_pos (by simpa using hc),List.append_nil] at htk
   exact aJ (i,j + 1,m) ⟨by show i < j + 1;omega,by show j + 1≤_;omega,h3,by show m.take i=_;rw[htk,h4],hd⟩ (by show l.length - (j + 1) < l.length - j;omega) wA
 ·obtain rfl:j=l.length:=by omega
  rw[List.take_length] at h4;refine nx.tail (i:=i) hs (by omega) (by simp;omega) fun v hv=>?_
  conv=>whnf
  skip
  refine uq.at_ hv hs (by simp;omega) ?_
  conv=>whnf
  skip
  have hap:List.take i (m.map (PV.int .i64))=(l.filter fun x=>!p x).map (PV.int .i64):=by rw[←List.map_take,h4]
  have hil:(List.take i (m.map (PV.int .i64))).length=i:=by simp;omega
  refine tE.hi (i:=i) hs (by omega) (by simp;omega) fun t' e1 e2=>?_;rw[List.take_append_of_le_length (by omega),List.take_of_length_le (by omega),hap]
  conv=>whnf
  skip
  exact an.gen (y:=.ms t') (Γ':=.row t' ((l.filter fun x=>!p x).map (PV.int .i64))::Γ1) (Wk.refl _) ⟨t',by omega,rfl,rfl⟩
def Kn.pa (f:Kn):PV:=.agg [.int .i64 f.code,.bool f.st]
theorem eN.kn {r:Nat} {fm:Fm} {n:Int} {Γ:List ak} {aE:List (Int×Value)} {put:(Value→Option PV)→List (Int×Value)→List ak} [hp:c5 Γ r (.int .i64) (mapM Kn.pa fm) aE put] {K:PV→Bool→Prop}
  (h:K (.agg [.int .i64 (codeF fm n),.bool (gE fm n)]) (fm n).isSome):eN r (.int .i64) (some (.int .i64 n)) (.agg [.int .i64 0,.bfalse]) Γ K:=
 eN.at_ (hp:=hp) _ _ (by simp[oh,MapKept.IsKey]) (fun p hp=>by
  simp only[mapM] at hp
  cases hm:fm n with
  | none=>rw[hm] at hp;cases hp
  | some x=>rw[hm] at hp;cases hp;exact ⟨by rw[Kn.pa,codeF,gE,hm];exact Wk.refl _,rfl⟩) (fun hn=>by
  simp only[mapM] at hn
  cases hm:fm n with
  | none=>exact ⟨by rw[codeF,gE,hm];exact Wk.agg (.cons (Wk.refl _) (.cons (Wk.ff rfl) .nil)),rfl⟩
  | some x=>rw[hm] at hn;cases hn) h
instance dy.OQ (b:Bool) (o n:Int) (x y z:PV) (v u:List Int) (t:List aa) [h:mh (PV.int .i64) 1 x v] [k:mh (PV.int .i64) 1 y u] [j:mh aa.pv 4 z t]:dy bZ.pv (.agg [x,.bool b,.int .i64 o,.int .i64 n,y,z]) ⟨v,b,.mk o n u t⟩:=
 have e:ia [x,.bool b,.int .i64 o,.int .i64 n,y,z] (bZ.cells ⟨v,b,.mk o n u t⟩):=.cons h.wk (.cons (Wk.refl _) (.cons (Wk.refl _) (.cons (Wk.refl _) (.cons k.wk (.cons j.wk .nil)))))
 ⟨Wk.agg e,e⟩
abbrev dG (b r:Nat) (tk:Tok) (A:List bZ) (fm:Fm):List ak:= [.box b [.ms tk,.mp r],.row tk (A.map bZ.pv),.mp r (.int .i64) (mapM Kn.pa fm) []]
theorem KG (b0 b r:Nat) (tk:Tok) (A:List bZ) (fm:Fm) (v:Int):
  ah Tryz.prog 120 [.int .i64 v,.ptr b0 0] (.box b0 [.ptr b 0]::dG b r tk A fm) (fun y Γ'=>y=.bool (gE fm v)∧Γ'=.box b0 [.ptr b 0]::dG b r tk A fm):=by
 refine ah.ai aj Tryz.func120 rfl rfl (n:=11) rfl rfl ?_
 conv=>whnf
 repeat' (first|refine aW ?_|(refine zX (fun hc=>?_) (fun hc=>?_)<;>(try simp only[SY] at hc)<;>omega))
 refine eN.kn ?_
 conv=>whnf
 skip
 exact an.gen (y:=.bool (gE fm v)) (Γ':=.box b0 [.ptr b 0]::dG b r tk A fm) (Wk.refl _) ⟨rfl,rfl⟩
theorem oT (b r:Nat) (tk:Tok) (A:List bZ) (fm:Fm) (t:aa) (hb:t.bp≤1000000000) (h1:tk.e=83) (h2:tk.s=6) (hA:A.length≤1000000000):
  ah Tryz.prog 92 [.ptr b 0,.agg t.cells] (dG b r tk A fm) (fun y Γ'=> ∃ tk',tk'.e=83∧tk'.s=6∧y=.int .i64 A.length∧Γ'=dG b r tk' (A++ [⟨t.v,t.n == 1,rU⟩]) fm):=by
 have hbe:=t.cX;refine ah.ai aj Tryz.func92 rfl rfl (n:=27) rfl rfl ?_
 conv=>whnf
 repeat (((intro _);conv=>whnf))
 refine aC.sE [.box b [.ms tk,.mp r],.row tk (A.map bZ.pv)] [4,13] [14,15,16] aj mixed ?_
 conv=>whnf
 repeat (first|refine yQ ?_|((first|((apply zZ);(conv=>whnf);(repeat ((refine pC (uG t.v (by omega)) wR ?_);conv=>whnf));exact pZ)|intro _);conv=>whnf))
 conv=>whnf
 skip
 rename_i b3 tk2 e1 e2;refine l6.map fun _=>?_
 conv=>whnf
 repeat' (first|refine aW ?_|(refine zX (fun hc=>?_) (fun hc=>?_)<;>(try simp only[SY] at hc)<;>omega))
 exact an.gen (y:=.int .i64 (A.length:Int)) (Γ':=dG b r tk2 (A++ [⟨t.v,t.n == 1,rU⟩]) fm) (Wk.int (by simp)) ⟨tk2,e1,e2,rfl,rfl⟩
theorem EY (b r:Nat) (tk:Tok) (A:List bZ) (fm:Fm) (v:Int) (ov:List Int):
  ah Tryz.prog 59 [.ptr b 0,.int .i64 v,ud ov] (dG b r tk A fm) (fun y Γ'=>y=.agg (dc fm ov v).cells∧Γ'=dG b r tk A fm):=by
 refine ah.ai aj Tryz.func59 rfl rfl (n:=29) rfl rfl ?_
 conv=>whnf
 repeat' (first|refine aW ?_|((intro _);conv=>whnf)|(refine zX (fun hc=>?_) (fun hc=>?_)<;>(try simp only[SY] at hc)<;>omega))
 refine eN.kn ?_
 conv=>whnf
 repeat' (first|refine aW ?_|((first|refine pC (vj ov v) wR ?_|intro _);conv=>whnf)|(refine zX (fun hc=>?_) (fun hc=>?_)<;>(try simp only[SY] at hc)<;>(conv=>whnf)))
 ·rw[dc,if_pos hc]
  exact an.gen (y:=.agg (aa.mk 21 (codeF fm v) [] []).cells) (Γ':=dG b r tk A fm) l8.wk ⟨rfl,rfl⟩
 ·rw[dc,if_neg (by simp[‹gE fm v=false›]),if_pos hc]
  exact an.gen (y:=.agg (aa.mk 20 (kI ov v 0) [] []).cells) (Γ':=dG b r tk A fm) l8.wk ⟨rfl,rfl⟩
 ·rw[dc,if_neg (by simp[‹gE fm v=false›]),if_neg (by omega)]
  exact an.gen (y:=.agg (aa.mk 1 v [] []).cells) (Γ':=dG b r tk A fm) l8.wk ⟨rfl,rfl⟩
theorem xG (t:aa):(fR (bQ t.all)).length≤t.bp:=by
 have h1:t.all.length≤t.bp:=t.EL [] 0;have h2:(bQ t.all).length≤t.all.length:=by rw[bQ,List.length_map];exact List.length_filter_le _ _
 have h3:(fR (bQ t.all)).length≤((bQ t.all).mergeSort fun x y=>decide (x≤y)).length:=by
  unfold fR Lib.compact Lib.compactUpTo;rw[List.length_map];exact Nat.le_trans (List.length_filter_le _ _) (by simp)
 rw[List.length_mergeSort] at h3;omega
theorem F9 (b r:Nat) (tk:Tok) (A:List bZ) (fm:Fm) (t:aa) (hb:t.bp≤1000000000):
  ah Tryz.prog 97 [.ptr b 0,.agg t.cells] (dG b r tk A fm) (fun y Γ'=> ∃ t':Tok,t'.s=1∧y=.ms t'∧Γ'=.row t' ((aO fm t).map (PV.int .i64))::dG b r tk A fm):=by
 have hrl:(fR (bQ t.all)).length≤1000000000:=by have:=xG t;omega
 refine ah.ai aj Tryz.func97 rfl rfl (n:=9) rfl rfl ?_
 conv=>whnf
 repeat (first|refine yQ ?_|((intro _);conv=>whnf))
 rename_i b2 b3;refine au.go (Kf t hb) (bU.refl _) ?_;rintro _ _ ⟨tf,e1,e2,rfl,rfl⟩;refine au.go (zc 120 [.ptr b2 0] (.box b2 [.ptr b 0]::dG b r tk A fm) (gE fm) tf (fR (bQ t.all)) e2 hrl (fun x _=>KG b2 b r tk A fm x)) (bU.refl _) ?_;rintro _ _ ⟨t2,s2,rfl,rfl⟩
 conv=>whnf
 skip
 exact an.gen (y:=.ms t2) (Γ':=.row t2 (((fR (bQ t.all)).filter fun v=>!gE fm v).map (PV.int .i64))::dG b r tk A fm) (Wk.refl _) ⟨t2,s2,rfl,rfl⟩
theorem BD (b r:Nat) (tk:Tok) (A:List bZ) (fm:Fm) (t:aa) (hb:t.bp≤1000000000):
  ah Tryz.prog 97 [.ptr b 0,.agg t.cells] (dG b r tk A fm) (fun y Γ'=>y=ud (aO fm t)∧Γ'=dG b r tk A fm):=
 ((F9 b r tk A fm t hb).shift fun y Γ' hq=>by
  obtain ⟨t2,h2,rfl,rfl⟩:=hq
  exact ⟨ud (aO fm t),dG b r tk A fm,Shift.trans (Shift.fM (es:=(aO fm t).map (PV.int .i64)) (Cp.ms' h2)) (Shift.wk (Γ1:= [.tok t2]) (Wk.refl _) (List.perm_append_singleton _ _).symm),rfl,rfl⟩)
def JJ (w:Bool) (t:aa):Prop:= ∀ ov n fm,(t.cH w ov n fm).c.length≤t.bp
def LY (w:Bool) (t:aa):Prop:= ∀ ov n fm,(t.dB w ov n fm).c.length + 1≤t.bp
theorem aa.AT (w:Bool): ∀ l:List aa,(∀ y∈l,JJ w y)→ ∀ ov n fm,(aa.dO w l ov n fm).c.length≤aa.aD l
 | [],_,ov,n,fm=>by rw[aa.dO];simp
 | y::l,h,ov,n,fm=>by
  rw[aa.dO,aa.aD];have a:=h y (by simp) ov n fm;have b:=aa.AT w l (fun z hz=>h z (by simp[hz])) ov (n + (y.cH w ov n fm).c.length) (y.cH w ov n fm).fm;simp only[List.length_append];omega
theorem aa.AS (w:Bool): ∀ (l:List aa),(∀ y∈l,JJ w y)→ ∀ vs ov n fm lrn,(aa.dN w l vs ov n fm lrn).c.length≤aa.aD l∧(aa.dN w l vs ov n fm lrn).t.length≤l.length∧(aa.dN w l vs ov n fm lrn).v.length≤l.length
 | [],_,vs,ov,n,fm,lrn=>by rw[aa.dN];simp
 | y::l,h, [],ov,n,fm,lrn=>by
  rw[aa.dN,aa.aD];have a:=h y (by simp) ov n (dr w lrn fm);refine ⟨?_,by simp,by simp⟩;show (y.cH w ov n (dr w lrn fm)).c.length≤_;omega
 | y::l,h,v::vs,ov,n,fm,lrn=>by
  rw[aa.dN,aa.aD];have a:=h y (by simp) ov n fm;have b:=aa.AS w l (fun z hz=>h z (by simp[hz])) vs ov (n + (y.cH w ov n fm).c.length) (y.cH w ov n fm).fm (if y.op=4 then lrn++ [(v,⟨n,(y.cH w ov n fm).t.op == 21⟩)] else lrn);refine ⟨?_,?_,?_⟩
  ·simp only[List.length_append]
   omega
  ·dsimp only
   split<;>simp only[List.length_cons]<;>omega
  ·dsimp only
   split<;>simp only[List.length_cons]<;>omega
theorem aa.uF (w:Bool): ∀ (l:List aa),(∀ y∈l,JJ w y)→(∀ y∈l,LY w y)→ ∀ vs ov c n fm,(aa.dw w l vs ov c n fm).own.length + (aa.dw w l vs ov c n fm).c.length≤aa.aD l∧(vs.length < l.length→(aa.dw w l vs ov c n fm).own.length=vs.length)∧(aa.dw w l vs ov c n fm).t.length=(aa.dw w l vs ov c n fm).own.length
 | [],_,_,vs,ov,c,n,fm=>by rw[aa.dw];simp
 | y::l,h,_, [],ov,c,n,fm=>by
  rw[aa.dw,aa.aD];have a:=h y (by simp) ov n fm;refine ⟨?_,by simp,by simp⟩;show 0 + (y.cH w ov n fm).c.length≤_;omega
 | y::l,h,k,v::vs,ov,c,n,fm=>by
  rw[aa.dw,aa.aD];have a:=k y (by simp) (aO fm y) n fm;have b:=aa.uF w l (fun z hz=>h z (by simp[hz])) (fun z hz=>k z (by simp[hz])) vs ov (c + 1) (n + (y.dB w (aO fm y) n fm).c.length) (y.dB w (aO fm y) n fm).fm;refine ⟨?_,?_,?_⟩
  ·simp only[List.length_append,List.length_cons]
   omega
  ·intro hl
   simp only[List.length_cons] at hl ⊢;omega
  ·simp only[List.length_cons]
   omega
theorem aa.iY (w:Bool) (t:aa) (ov:List Int) (n:Nat) (fm:Fm):t.cH w ov n fm=
  if t.op=1 then ⟨dc fm ov t.n, [],fm⟩
  else if t.op=4 then ⟨iX n ((if w=true then aO (t.dB w (aO fm t) (n + 1) fm).fm t else aO fm t).map (dc (t.dB w (aO fm t) (n + 1) fm).fm ov)),⟨t.v,t.n == 1,(t.dB w (aO fm t) (n + 1) fm).t⟩::(t.dB w (aO fm t) (n + 1) fm).c,(t.dB w (aO fm t) (n + 1) fm).fm⟩
  else if t.op=8 then ⟨if (aa.dN w t.t t.v ov n fm []).v.length=0 then (aa.dN w t.t t.v ov n fm []).last else .mk 8 0 (aa.dN w t.t t.v ov n fm []).v ((aa.dN w t.t t.v ov n fm []).t++ [(aa.dN w t.t t.v ov n fm []).last]),(aa.dN w t.t t.v ov n fm []).c,(aa.dN w t.t t.v ov n fm []).fm⟩
  else if t.op=9 then ⟨if kH fm t.v t.t=true then (aa.dw w t.t t.v ov n (n + t.v.length) (fixF w t.v n (kH fm t.v t.t) fm)).last else .mk 9 0 t.v ((aa.dw w t.t t.v ov n (n + t.v.length) (fixF w t.v n (kH fm t.v t.t) fm)).t++ [(aa.dw w t.t t.v ov n (n + t.v.length) (fixF w t.v n (kH fm t.v t.t) fm)).last]),
    (aa.dw w t.t t.v ov n (n + t.v.length) (fixF w t.v n (kH fm t.v t.t) fm)).own++(aa.dw w t.t t.v ov n (n + t.v.length) (fixF w t.v n (kH fm t.v t.t) fm)).c,(aa.dw w t.t t.v ov n (n + t.v.length) (fixF w t.v n (kH fm t.v t.t) fm)).fm⟩
  else ⟨.mk (kS fm t.op t.n t.t).1 (kS fm t.op t.n t.t).2 t.v (aa.dO w t.t ov n fm).t,(aa.dO w t.t ov n fm).c,(aa.dO w t.t ov n fm).fm⟩:=by
 obtain ⟨op,k,v,l⟩:=t;rw[aa.cH];rfl
theorem aa.nE (w:Bool) (t:aa) (ov:List Int) (n:Nat) (fm:Fm):t.dB w ov n fm=aa.pO w t.t ov n fm:=by
 obtain ⟨op,k,v,l⟩:=t;rw[aa.dB];rfl
theorem aa.eC (w:Bool) (t:aa):JJ w t∧LY w t:=by
 induction t using aa.ind with
 | h t ih=>
  have hbe:=t.cX
  have hB:LY w t:=by
   intro ov n fm;rw[aa.nE]
   cases ht:t.t with
   | nil=>rw[aa.pO];show 0 + 1≤_;omega
   | cons x xs=>
    rw[aa.pO];have:=(ih x (by rw[ht];simp)).1 ov n fm;rw[ht,aa.aD] at hbe;omega
  refine ⟨?_,hB⟩;intro ov n fm;rw[aa.iY]
  split
  ·show 0≤_;omega
  split
  ·have:=hB (aO fm t) (n + 1) fm
   show (_::_).length≤_;rw[List.length_cons];exact this
  split
  ·have:=(aa.AS w t.t (fun y hy=>(ih y hy).1) t.v ov n fm []).1
   dsimp only;omega
  split
  ·have:=(aa.uF w t.t (fun y hy=>(ih y hy).1) (fun y hy=>(ih y hy).2) t.v ov n (n + t.v.length) (fixF w t.v n (kH fm t.v t.t) fm)).1
   dsimp only;rw[List.length_append];omega
  ·have:=aa.AT w t.t (fun y hy=>(ih y hy).1) ov n fm
   dsimp only;omega
section
variable {P:Program} {tt:Nat→TI}
theorem aI.ghost {B:List PV→List ak→Ds→QT→Prop} {T:List PV} {Γ Γ':List ak} {D:Ds} {Q:QT} (hg:aA Γ Γ') (h:aI B T Γ' D Q):aI B T Γ D Q:=by
 obtain ⟨I,J,⟨n,T0,Γ0,h1,h2⟩,h3,h4⟩:=h.h;refine ⟨I,J,⟨n,T0,Γ0,fun w0 F M w vs hS hT=>?_,h2⟩,h3,h4⟩;obtain ⟨F1,e1,hS1⟩:=hg w0 F M w hS;obtain ⟨F2,e2,hS2,hT2⟩:=h1 w0 F1 M w vs hS1 (av.mono e1 _ _ hT);exact ⟨F2,Fz.le_trans e1 e2,hS2,hT2⟩
end
mutual
def aa.Qh (k:Int):aa→aa
 | .mk op n v t=>.mk op (if jO op=true then IntKind.i64.wrap (n + k) else n) (v.map fun x=>IntKind.i64.wrap (x + k)) (aa.OJ k t)
def aa.OJ (k:Int):List aa→List aa
 | []=> []
 | x::xs=>aa.Qh k x::aa.OJ k xs
end
def o8 (b r:Nat) (x:aa):Prop:= ∀ tk A fm ov,tk.e=83→tk.s=6→A.length + x.bp≤1000000000→ov.length≤1000000000→
 ah Tryz.prog 33 [.ptr b 0,.agg x.cells,ud ov] (dG b r tk A fm) (fun y Γ'=> ∃ tk',tk'.e=83∧tk'.s=6∧y=.agg (x.cH false ov A.length fm).t.cells∧Γ'=dG b r tk' (A++(x.cH false ov A.length fm).c) (x.cH false ov A.length fm).fm)
theorem Gb (fm:Fm) (t:aa):(aO fm t).length≤t.bp:=Nat.le_trans (List.length_filter_le _ _) (xG t)
theorem A9 (b r:Nat) (tk:Tok) (A:List bZ) (fm:Fm) (n:Nat) (t x:aa) (hA:A[n]?=some ⟨t.v,t.n == 1,rU⟩) (xs:List aa) (ht:t.t=x::xs) (hx:o8 b r x) (ov:List Int) (h1:tk.e=83) (h2:tk.s=6) (hb:A.length + x.bp≤1000000000) (htb:t.bp≤1000000000) (hov:ov.length≤1000000000):
  ah Tryz.prog 93 [.ptr b 0,.int .i64 n,.agg t.cells,ud ov] (dG b r tk A fm)
   (fun y Γ'=> ∃ tk' tk2:Tok,tk'.e=83∧tk'.s=6∧y=.sl 4 (((aO fm t).map (dc (t.dB false (aO fm t) A.length fm).fm ov)).map aa.pv) (some tk2)∧
    Γ'=.tok tk2::dG b r tk' (A.set n ⟨t.v,t.n == 1,(t.dB false (aO fm t) A.length fm).t⟩++(t.dB false (aO fm t) A.length fm).c) (t.dB false (aO fm t) A.length fm).fm):=by
 obtain ⟨hn,hAn⟩:=List.getElem?_eq_some_iff.1 hA;have hbe:=t.cX;have hbx:aa.aD t.t=x.bp + aa.aD xs:=by rw[ht,aa.aD]
 have hol:=Gb fm t;have hl0:0 < t.t.length:=by rw[ht];simp
 have h0:t.t[0]=x:=by simp[ht]
 have hcb: ∀ ov n fm,t.dB false ov n fm=x.cH false ov n fm:=fun ov n fm=>by rw[aa.nE,ht,aa.pO]
 rw[hcb];refine ah.ai aj Tryz.func93 rfl rfl (n:=47) rfl rfl ?_
 conv=>whnf
 repeat (first|refine yQ ?_|((intro _);conv=>whnf))
 rename_i b6;refine au.go (BD b r tk A fm t (by omega)) (bU.refl _) ?_;rintro _ _ ⟨rfl,rfl⟩;generalize hown:aO fm t=own at *
 conv=>whnf
 repeat' (first|refine aW ?_|(refine zX (fun hc=>?_) (fun hc=>?_)<;>(try simp only[SY] at hc)<;>omega))
 have hx0:o8 b r t.t[0]:=by rw[h0];exact hx
 refine au.go (hx0 tk A fm own h1 h2 (by rw[h0];omega) (by omega)) (bU.refl _) ?_;rintro _ _ ⟨tk1,k1,k2,rfl,rfl⟩;rw[h0];have hcl:=(x.eC false).1 own A.length fm;generalize x.cH false own A.length fm=bo at *;obtain ⟨bt,bc,fm1⟩:=bo;dsimp only at hcl⊢
 conv=>whnf
 repeat' (first|refine aW ?_|((intro _);conv=>whnf)|(refine zX (fun hc=>?_) (fun hc=>?_)<;>(try simp only[SY] at hc)<;>omega))
 rename_i b10;have hnl:n < (A++bc).length:=by rw[List.length_append];omega
 refine aC.sE [.box b [.ms tk1,.mp r],.row tk1 ((A++bc).map bZ.pv)] [3] [6,7,8] aj mixed ?_
 conv=>whnf
 repeat (refine yQ ?_)
 refine dz.row (f:=bZ.pv) (l:=A++bc) (⟨(A++bc)[n].v,(A++bc)[n].rest,bt⟩:bZ) hnl rfl rfl rfl (xs:=bt.cells) (ia.refl _) rfl ?_
 have hset:(A++bc).set n ⟨(A++bc)[n].v,(A++bc)[n].rest,bt⟩=A.set n ⟨t.v,t.n == 1,bt⟩++bc:=by
  rw[List.getElem_append_left hn,List.set_append_left _ _ hn,hAn]
 rw[hset];generalize A.set n ⟨t.v,t.n == 1,bt⟩++bc=A2
 conv=>whnf
 repeat' (first|refine aW ?_|((intro _);conv=>whnf)|(refine zX (fun hc=>?_) (fun hc=>?_)<;>(try simp only[SY] at hc)<;>omega))
 refine aI.ghost (aA.nil 4 26 _) ?_
 refine aI.over [11,13,34,35,36,37,38,39,40,41,42,43,44,45] (fun x:Nat×List aa×Tok=> [(11,.sl 4 (x.2.1.map aa.pv) (some x.2.2)),(34,.int .i64 x.1)]) (fun x:Nat×List aa×Tok=>.tok x.2.2::dG b r tk1 A2 fm1)
  (fun x=>x.1≤own.length∧x.2.2.e=26∧x.2.1=(own.take x.1).map (dc fm1 ov)) (fun x=>own.length - x.1) (0, [],aT 4 26) ⟨Nat.zero_le _,rfl,rfl⟩ wA ?_
 rintro ⟨i,m,tk3⟩ ⟨hi,hte,hm⟩;dsimp only at hi hte hm ⊢;have hml:m.length=i:=by rw[hm];simp;omega
 conv=>whnf
 repeat' (first|refine aW ?_|(refine zX (fun hc=>?_) (fun hc=>?_)<;>(try simp only[SY] at hc)<;>(conv=>whnf)))
 ·have hlt:i < own.length:=by omega
  refine au.go (EY b r tk1 A2 fm1 own[i] ov) (bU.refl _) ?_;rintro _ _ ⟨rfl,rfl⟩
  conv=>whnf
  repeat' (first|refine aW ?_|((intro _);conv=>whnf)|(refine zX (fun hc=>?_) (fun hc=>?_)<;>(try simp only[SY] at hc)<;>omega))
  rename_i t5 ht5;refine aJ (i + 1,m++ [dc fm1 ov own[i]],t5) ⟨by show i + 1≤_;omega,ht5,?_⟩ (by show own.length - (i + 1) < own.length - i;omega) wA;show m++ [_]=_;rw[hm,List.take_succ_eq_append_getElem hlt,List.map_append];rfl
 ·rw[List.take_of_length_le (by omega)] at hm
  rw[←hm];exact an.gen (y:=.sl 4 (m.map aa.pv) (some tk3)) (Γ':=.tok tk3::dG b r tk1 A2 fm1) (Wk.refl _) ⟨tk1,tk3,k1,k2,rfl,rfl⟩
theorem EF (b r:Nat) (tk:Tok) (A:List bZ) (fm:Fm) (t x:aa) (xs:List aa) (ht:t.t=x::xs) (hx:o8 b r x) (ov:List Int) (h4:t.op=4) (h1:tk.e=83) (h2:tk.s=6) (hb:A.length + t.bp≤1000000000) (hov:ov.length≤1000000000):
  ah Tryz.prog 60 [.ptr b 0,.agg t.cells,ud ov] (dG b r tk A fm)
   (fun y Γ'=> ∃ tk',tk'.e=83∧tk'.s=6∧y=.aU [.agg (t.cH false ov A.length fm).t.cells,.int .i64 A.length]∧Γ'=dG b r tk' (A++(t.cH false ov A.length fm).c) (t.cH false ov A.length fm).fm):=by
 have hbe:=t.cX;have hbx:aa.aD t.t=x.bp + aa.aD xs:=by rw[ht,aa.aD]
 rw[aa.iY,if_neg (by omega),if_pos h4,if_neg (by simp)];refine ah.ai aj Tryz.func60 rfl rfl (n:=28) rfl rfl ?_
 conv=>whnf
 repeat (first|refine yQ ?_|((intro _);conv=>whnf))
 rename_i b4 b6;refine au.go (oT b r tk A fm t (by omega) h1 h2 (by omega)) (bU.refl _) ?_;rintro _ _ ⟨tk1,k1,k2,rfl,rfl⟩
 conv=>whnf
 repeat' (first|refine aW ?_|(refine zX (fun hc=>?_) (fun hc=>?_)<;>(try simp only[SY] at hc)<;>omega))
 refine au.go (A9 b r tk1 (A++ [⟨t.v,t.n == 1,rU⟩]) fm A.length t x (by simp) xs ht hx ov k1 k2 (by simp;omega) (by omega) hov) (bU.refl _) ?_;rintro _ _ ⟨tk2,tk3,k3,k4,rfl,rfl⟩;have hL:(A++ [(⟨t.v,t.n == 1,rU⟩:bZ)]).length=A.length + 1:=by simp
 rw[hL];generalize t.dB false (aO fm t) (A.length + 1) fm=bo;have hset:(A++ [(⟨t.v,t.n == 1,rU⟩:bZ)]).set A.length ⟨t.v,t.n == 1,bo.t⟩++bo.c=A++(⟨t.v,t.n == 1,bo.t⟩::bo.c):=by simp
 rw[hset];generalize A++(⟨t.v,t.n == 1,bo.t⟩::bo.c)=A2;generalize hrs:(aO fm t).map (dc bo.fm ov)=rs
 conv=>whnf
 repeat' (first|refine aW ?_|((intro _);conv=>whnf)|(refine zX (fun hc=>?_) (fun hc=>?_)<;>(try simp only[SY] at hc)<;>(conv=>whnf)))
 ·rw[iX,if_pos (by omega)]
  exact an.gen (y:=.aU [.agg (aa.mk 21 A.length [] []).cells,.int .i64 A.length]) (Γ':=dG b r tk2 A2 bo.fm) (Wk.aU (.cons l8.wk (.cons (Wk.refl _) .nil))) ⟨tk2,k3,k4,rfl,rfl⟩
 ·rw[iX,if_neg (by omega)]
  exact an.gen (y:=.aU [.agg (aa.mk 19 A.length [] rs).cells,.int .i64 A.length]) (Γ':=dG b r tk2 A2 bo.fm) (Wk.aU (.cons l8.wk (.cons (Wk.refl _) .nil))) ⟨tk2,k3,k4,rfl,rfl⟩
theorem Es {α:Type} {p q:α→Bool} (h: ∀ x,q x=true→p x=true): ∀ l:List α,(∃ x∈l,p x=true∧q x=false)→(l.filter q).length < (l.filter p).length
 | [],⟨x,hx,_⟩=>by cases hx
 | y::l,⟨x,hx,h1,h2⟩=>by
  have hle: ∀ l:List α,(l.filter q).length≤(l.filter p).length:=by
   intro l
   induction l with
   | nil=>simp
   | cons z l ih=>
    by_cases hq:q z=true
    ·rw[List.filter_cons_of_pos hq,List.filter_cons_of_pos (h z hq)];simp;exact ih
    ·rw[List.filter_cons_of_neg hq]
     by_cases hp:p z=true
     ·rw[List.filter_cons_of_pos hp];simp;omega
     ·rw[List.filter_cons_of_neg hp];exact ih
  rcases List.mem_cons.1 hx with rfl | hx
  ·rw[List.filter_cons_of_neg (by simp[h2]),List.filter_cons_of_pos h1]
   have:=hle l;simp;omega
  ·have ih:=Es h l ⟨x,hx,h1,h2⟩
   by_cases hq:q y=true
   ·rw[List.filter_cons_of_pos hq,List.filter_cons_of_pos (h y hq)];simp;exact ih
   ·rw[List.filter_cons_of_neg hq]
    by_cases hp:p y=true
    ·rw[List.filter_cons_of_pos hp];simp;omega
    ·rw[List.filter_cons_of_neg hp];exact ih
def Ny (lm fm:Fm):Fm:=fun k=>match lm k with
 | some f=>some f
 | none=>fm k
theorem xL: ∀ (l:List (Int×Kn)) (lm fm:Fm),dr false l (Ny lm fm)=Ny (dr false l lm) fm
 | [],_,_=>rfl
 | x::l,lm,fm=>by
  rw[dr,dr, ←xL l];congr 1;funext k;by_cases h:k=x.1<;>simp[tw,Ny,h]
theorem FU (l:List (Int×Kn)) (fm:Fm):dr false l fm=Ny (dr false l (fun _=>none)) fm:=by
 rw[←xL];rfl
theorem vo (w:Bool): ∀ (l:List (Int×Kn)) (x:Int×Kn) (fm:Fm),dr w (l++ [x]) fm=tw w (dr w l fm) x.1 x.2
 | [],_,_=>rfl
 | y::l,x,fm=>by rw[List.cons_append,dr,dr,vo w l]
theorem BY (fm:Fm) (v:Int) (f:Kn):tw false fm v f=wv fm v f:=by
 funext k;simp[tw,wv]
def Ag (V:List Int) (T:List aa) (C:List bZ) (r:Cn):Cn:=⟨V++r.v,T++r.t,r.last, [],C++r.c,r.fm⟩
theorem aa.Hi (w:Bool): ∀ (l:List aa) vs ov n fm lrn,(aa.dN w l vs ov n fm lrn).own= []
 | [],vs,ov,n,fm,lrn=>by rw[aa.dN]
 | y::l, [],ov,n,fm,lrn=>by rw[aa.dN]
 | y::l,v::vs,ov,n,fm,lrn=>by rw[aa.dN]
theorem IG {r:Cn} (h:r.own= []):Ag [] [] [] r=r:=by
 obtain ⟨a,b,c,d,e,f⟩:=r;simp only at h;subst h;rfl
theorem Ge (V:List Int) (T:List aa) (C ac:List bZ) (b:Cn):Ag V T C ⟨b.v,b.t,b.last, [],ac++b.c,b.fm⟩=Ag V T (C++ac) b:=by simp[Ag]
theorem BI (V:List Int) (T:List aa) (C ac:List bZ) (b:Cn) (v:Int) (x:aa):Ag V T C ⟨v::b.v,x::b.t,b.last, [],ac++b.c,b.fm⟩=Ag (V++ [v]) (T++ [x]) (C++ac) b:=by simp[Ag]
theorem Ld (fm:Fm) (v:Int) (f:Kn):gE (wv fm v f) v=f.st:=by simp[gE,wv]
theorem Cc {l:List Int} {i:Nat} (h:i < l.length) {v:Int} (hv:v∉l.take (i + 1)):v∉l.take i∧v≠l[i]:=by
 rw[List.take_succ_eq_append_getElem h,List.mem_append,not_or] at hv;exact ⟨hv.1,fun e=>hv.2 (by simp[e])⟩
theorem Bw:(fun _=>none:Value→Option PV)=mapM Kn.pa (fun _=>none):=by
 funext v;unfold mapM
 split<;>rfl
abbrev Pg (b b4 b6 b7 r r2:Nat) (t:aa) (V:List Int) (tv:Tok) (T:List aa) (tt':Tok) (A1:List bZ) (f1 lm:Fm) (tk1:Tok):List ak:= [.tok tv,.tok tt',.box b7 [.int .i64 8,.int .i64 0,.sl 1 (V.map (PV.int .i64)) (some tv),.sl 4 (T.map aa.pv) (some tt')],.mp r2 (.int .i64) (mapM Kn.pa lm) [],.box b [.ms tk1,.mp r],.row tk1 (A1.map bZ.pv),.mp r (.int .i64) (mapM Kn.pa f1) [],
 .box b6 [.int .i64 0,.int .i64 0,.nil,.nil],.box b4 [.int .i64 t.op,.int .i64 t.n,.sl 1 (t.v.map (PV.int .i64)) none,.sl 4 (t.t.map aa.pv) none]]
theorem oM {p q:Prop} (k:q) (h:q→p:=by intro hq;first | exact aC.sT (some 57) rfl [4,9] [11,12,13] aj mixed hq | exact aC.sP (some 77) rfl [] [6] aj mixed hq):p:=h k
theorem Km (b r:Nat) (tk:Tok) (A:List bZ) (fm:Fm) (t:aa) (ht:t.t.length=t.v.length + 1) (hnd:t.v.Nodup) (hx: ∀ y∈t.t,o8 b r y) (hlam: ∀ y∈t.t,y.op=4→ ∃ z zs,y.t=z::zs∧o8 b r z) (ov:List Int) (h8:t.op=8) (h1:tk.e=83) (h2:tk.s=6) (hb:A.length + t.bp≤1000000000) (hov:ov.length≤1000000000):
  ah Tryz.prog 61 [.ptr b 0,.agg t.cells,ud ov] (dG b r tk A fm)
   (fun y Γ'=> ∃ tk',tk'.e=83∧tk'.s=6∧y=.agg (t.cH false ov A.length fm).t.cells∧Γ'=dG b r tk' (A++(t.cH false ov A.length fm).c) (t.cH false ov A.length fm).fm):=by
 have hbe:=t.cX;rw[aa.iY,if_neg (by omega),if_neg (by omega),if_pos h8];refine ah.ai aj Tryz.func61 rfl rfl (n:=105) rfl rfl ?_
 conv=>whnf
 repeat (first|refine yQ ?_|((intro _);conv=>whnf))
 rename_i b4 b6 b7 r2 hq0;rw[Bw];refine aI.ghost (aA.trans (aA.nil 1 3 _) (aA.trans (aA.nil 4 26 _) (aA.box (b:=b7) (cs:= [.int .i64 8,.int .i64 0,.nil,.nil]) (cs':= [.int .i64 8,.int .i64 0,.sl 1 (([]:List Int).map (PV.int .i64)) (some (aT 1 3)),.sl 4 (([]:List aa).map aa.pv) (some (aT 4 26))]) wA))) ?_
 refine aI.over [9,10,11,12,21,22,23,24,25,26,27,28,29,30,31,32,33,34,35,36,37,38,39,40,41,42,43,44,45,46,47,48,49,50,51,52,53,54,55,56,57,58,59,60,61,62,63,64,65,66,67,68,69] (fun x:Nat×(List Int×Tok)×(List aa×Tok)×List bZ×Fm×Fm×Tok=> [(21,.int .i64 x.1)])
  (fun x=>Pg b b4 b6 b7 r r2 t x.2.1.1 x.2.1.2 x.2.2.1.1 x.2.2.1.2 x.2.2.2.1 x.2.2.2.2.1 x.2.2.2.2.2.1 x.2.2.2.2.2.2)
  (fun x=>x.1≤t.v.length∧x.2.1.2.e=3∧x.2.2.1.2.e=26∧x.2.2.2.2.2.2.e=83∧x.2.2.2.2.2.2.s=6∧x.2.1.1.length≤x.1∧x.2.2.1.1.length=x.2.1.1.length∧ ∃ C lrn,x.2.2.2.1=A++C∧x.2.2.2.2.2.1=dr false lrn (fun _=>none)∧C.length + aa.aD (t.t.drop x.1)≤aa.aD t.t∧(∀ v,v∉t.v.take x.1→x.2.2.2.2.2.1 v=none)∧
   aa.dN false t.t t.v ov A.length fm []=Ag x.2.1.1 x.2.2.1.1 C (aa.dN false (t.t.drop x.1) (t.v.drop x.1) ov x.2.2.2.1.length x.2.2.2.2.1 lrn)) (fun x=>t.v.length - x.1)
  (0,([],aT 1 3),([],aT 4 26),A,fm,(fun _=>none),tk) ⟨Nat.zero_le _,rfl,rfl,h1,h2,by simp,rfl, [], [],by simp,rfl,by simp,by simp,(IG (aa.Hi _ _ _ _ _ _ _)).symm⟩ wA ?_
 rintro ⟨i,⟨V,tv⟩,⟨T,tt'⟩,A1,f1,lm,tk1⟩ ⟨hi,htv,htt,k1,k2,hvl,htl,C,lrn,hA1,hlm,hcl,hlr,he⟩;dsimp only at hi htv htt k1 k2 hvl htl hA1 hlm hcl hlr he⊢
 conv=>whnf
 repeat' (first|refine aW ?_|((intro _);conv=>whnf)|(refine zX (fun hc=>?_) (fun hc=>?_)<;>(try simp only[SY] at hc)<;>(conv=>whnf)))
 ·have hit:i < t.t.length:=by omega
  have hiv:i < t.v.length:=by omega
  obtain ⟨z,zs,hz,hzo⟩:=hlam _ (List.getElem_mem hit) hc;rw[aq hit,aa.aD] at hcl;refine au.go (EF b r tk1 A1 f1 t.t[i] z zs hz hzo ov hc k1 k2 (by rw[hA1,List.length_append];omega) hov) (bU.refl _) ?_;rintro _ _ ⟨tk2,e1,e2,rfl,rfl⟩;have hal:(t.t[i].cH false ov A1.length f1).c.length≤t.t[i].bp:=(t.t[i].eC false).1 ov A1.length f1;rw[aq hit,aq hiv,aa.dN] at he;generalize t.t[i].cH false ov A1.length f1=a at *;obtain ⟨at',ac,af⟩:=a;dsimp only at hal he⊢
  conv=>whnf
  repeat' (first|refine aW ?_|(refine zX (fun hc=>?_) (fun hc=>?_)<;>(try simp only[SY] at hc)<;>omega))
  refine dg.num ⟨A1.length,at'.op == 21⟩ rfl ?_
  conv=>whnf
  skip
  refine eN.kn ?_;rw[Ld];have hlm2:wv lm t.v[i] ⟨A1.length,at'.op == 21⟩=dr false (lrn++ [(t.v[i],⟨A1.length,at'.op == 21⟩)]) (fun _=>none):=by rw[vo, ←hlm,BY]
  have hlr2: ∀ v,v∉t.v.take (i + 1)→wv lm t.v[i] ⟨A1.length,at'.op == 21⟩ v=none:=fun v hv=>by
   obtain ⟨q1,q2⟩:=Cc hiv hv;rw[wv,if_neg q2];exact hlr v q1
  rw[if_pos hc] at he;have hA2:(A1++ac).length=A1.length + ac.length:=List.length_append ..;rw[←hA2] at he;generalize wv lm t.v[i] ⟨A1.length,at'.op == 21⟩=lm2 at *
  conv=>whnf
  repeat' (first|refine aW ?_|((first|refine oM ?_|intro _);conv=>whnf)|(refine zX (fun hc=>?_) (fun hc=>?_)<;>(try simp only[SY] at hc)<;>(conv=>whnf)))
  ·have h21: ¬at'.op=21:=by simpa using hc
   rw[if_neg (fun h=>h21 h.2),if_neg (fun h=>h21 h.2),BI] at he;rename_i t5 ht5 t6 ht6;exact aJ (i + 1,(V++ [t.v[i]],t5),(T++ [at'],t6),A1++ac,af,lm2,tk2) ⟨by show i + 1≤_;omega,ht5,ht6,e1,e2,by simp;omega,by simp;omega,C++ac,_,by rw[hA1,List.append_assoc],hlm2,by show (C++ac).length + aa.aD (t.t.drop (i + 1))≤_;rw[List.length_append];omega,hlr2,he⟩ (by show t.v.length - (i + 1) < t.v.length - i;omega) wA
  ·have h21:at'.op=21:=by simpa using hc
   rw[if_pos ⟨‹_›, h21⟩,if_pos ⟨‹_›, h21⟩,Ge] at he;exact aJ (i + 1,(V,tv),(T,tt'),A1++ac,af,lm2,tk2) ⟨by show i + 1≤_;omega,htv,htt,e1,e2,by show V.length≤i + 1;omega,htl,C++ac,_,by rw[hA1,List.append_assoc],hlm2,by show (C++ac).length + aa.aD (t.t.drop (i + 1))≤_;rw[List.length_append];omega,hlr2,he⟩ (by show t.v.length - (i + 1) < t.v.length - i;omega) wA
 ·have hit:i < t.t.length:=by omega
  have hiv:i < t.v.length:=by omega
  have hvn:t.v[i]∉t.v.take i:=fun h=>by
   obtain ⟨j,hj,e⟩:=List.getElem_of_mem h;rw[List.getElem_take] at e;rw[List.length_take] at hj;exact (List.pairwise_iff_getElem.1 hnd j i (by omega) hiv (by omega)) e
  have hst:gE lm t.v[i]=false:=by rw[gE,hlr _ hvn]
  rw[aq hit,aa.aD] at hcl;refine au.go (hx _ (List.getElem_mem hit) tk1 A1 f1 ov k1 k2 (by rw[hA1,List.length_append];omega) hov) (bU.refl _) ?_;rintro _ _ ⟨tk2,e1,e2,rfl,rfl⟩;have hal:(t.t[i].cH false ov A1.length f1).c.length≤t.t[i].bp:=(t.t[i].eC false).1 ov A1.length f1;rw[aq hit,aq hiv,aa.dN] at he;generalize t.t[i].cH false ov A1.length f1=a at *;obtain ⟨at',ac,af⟩:=a;dsimp only at hal he ⊢;have hlr2: ∀ v,v∉t.v.take (i + 1)→lm v=none:=fun v hv=>hlr v (Cc hiv hv).1;rw[if_neg hc,if_neg (fun h=>hc h.1),if_neg (fun h=>hc h.1)] at he;have hA2:(A1++ac).length=A1.length + ac.length:=List.length_append ..;rw[←hA2,BI] at he
  conv=>whnf
  repeat' (first|refine aW ?_|(refine zX (fun hc=>?_) (fun hc=>?_)<;>(try simp only[SY] at hc)<;>omega))
  refine eN.kn ?_;rw[hst]
  conv=>whnf
  repeat' (first|refine aW ?_|((first|refine oM ?_|intro _);conv=>whnf)|(refine zX (fun hc=>?_) (fun hc=>?_)<;>(try simp only[SY] at hc)<;>(conv=>whnf)))
  rename_i t5 ht5 t6 ht6;exact aJ (i + 1,(V++ [t.v[i]],t5),(T++ [at'],t6),A1++ac,af,lm,tk2) ⟨by show i + 1≤_;omega,ht5,ht6,e1,e2,by simp;omega,by simp;omega,C++ac,_,by rw[hA1,List.append_assoc],hlm,by show (C++ac).length + aa.aD (t.t.drop (i + 1))≤_;rw[List.length_append];omega,hlr2,he⟩ (by show t.v.length - (i + 1) < t.v.length - i;omega) wA
 ·obtain rfl:i=t.v.length:=by omega
  have hlt:t.v.length < t.t.length:=by omega
  rw[aq hlt,aa.aD] at hcl;rw[aq hlt,List.drop_of_length_le (Nat.le_refl t.v.length),aa.dN,FU, ←hlm] at he;refine j3.num fun bI all cl hAll hcl2=>?_
  conv=>whnf
  skip
  refine aI.over [13,14,72,73,74,75,76,77,78,79,80,81,82] (fun x:Array Nat×Fm=> [])
   (fun x:Array Nat×Fm=>.ob bI (Oc r2 cl x.1) [] []::.mp r2 (.int .i64) (mapM Kn.pa lm) (Nz cl all)::.tok tv::.tok tt'::.box b7 [.int .i64 8,.int .i64 0,.sl 1 (V.map (PV.int .i64)) (some tv),.sl 4 (T.map aa.pv) (some tt')]::.box b4 [.int .i64 t.op,.int .i64 t.n,.sl 1 (t.v.map (PV.int .i64)) none,.sl 4 (t.t.map aa.pv) none]::.box b6 [.int .i64 0,.int .i64 0,.nil,.nil]::dG b r tk1 A1 x.2)
   (fun x=>(∀ k,(∃ n,n∈x.1.toList∧(n,k)∈all)→x.2 k=lm k)∧(∀ k,(¬∃ n,n∈x.1.toList∧(n,k)∈all)→x.2 k=f1 k)) (fun x=>(all.filter fun q=>decide (q.1∉x.1.toList)).length) (#[],f1) ⟨fun k h=>by simp at h,fun k _=>rfl⟩ wA ?_
  rintro ⟨seen,f2⟩ ⟨hs1,hs2⟩;dsimp only at hs1 hs2⊢
  conv=>whnf
  skip
  refine mB.num hAll hcl2 (fun n z y hn hz hs=>?_) (fun hs=>?_)
  ·conv=>whnf
   skip
   refine jW.num z y hn hz ?_
   conv=>whnf
   repeat' (first|refine aW ?_|((first|refine oM ?_|intro _);conv=>whnf)|(refine zX (fun hc=>?_) (fun hc=>?_)<;>(try simp only[SY] at hc)<;>omega))
   refine dg.num y rfl ?_
   conv=>whnf
   skip
   refine aJ (seen.push n,wv f2 z y) ⟨fun k hk=>?_,fun k hk=>?_⟩ ?_ wA
   ·obtain ⟨n2,q1,q2⟩:=hk
    show wv f2 z y k=lm k;by_cases e:k=z
    ·rw[wv,if_pos e,e,hz]
    ·rw[wv,if_neg e]
     refine hs1 k ⟨n2,?_,q2⟩;simp only[Array.toList_push,List.mem_append,List.mem_singleton] at q1;rcases q1 with q1 | q1
     ·exact q1
     ·exfalso
      have:=rV hAll.nb hn q2 q1.symm;exact e (congrArg Prod.snd this).symm
   ·show wv f2 z y k=f1 k
    have e:k≠z:=fun e=>hk ⟨n,by simp,by rw[e];exact hn⟩;rw[wv,if_neg e];exact hs2 k fun ⟨n2,q1,q2⟩=>hk ⟨n2,by simp only[Array.toList_push,List.mem_append];exact .inl q1,q2⟩
   ·refine Es (fun q hq=>?_) all ⟨(n,z),hn,by simpa using hs,by simp⟩
    simp only[Array.toList_push,List.mem_append,List.mem_singleton,not_or,decide_eq_true_eq] at hq ⊢;exact hq.1
  ·have hf2:f2=Ny lm f1:=by
    funext k;rw[Ny]
    cases hk:lm k with
    | none=>
     exact hs2 k fun ⟨n2,q1,q2⟩=>(hAll.dom k).2 ⟨n2,q2⟩ hk
    | some y=>
     obtain ⟨n2,q2⟩:=(hAll.dom k).1 (by rw[hk];simp);rw[hs1 k ⟨n2,hs _ q2,q2⟩,hk]
   rw[←hf2] at he;have hal:(t.t[t.v.length].cH false ov A1.length f2).c.length≤t.t[t.v.length].bp:=(t.t[t.v.length].eC false).1 ov A1.length f2
   conv=>whnf
   repeat' (first|refine aW ?_|((intro _);conv=>whnf)|(refine zX (fun hc=>?_) (fun hc=>?_)<;>(try simp only[SY] at hc)<;>omega))
   refine au.go (hx _ (List.getElem_mem hlt) tk1 A1 f2 ov k1 k2 (by rw[hA1,List.length_append];omega) hov) (bU.refl _) ?_;rintro _ _ ⟨tk2,e1,e2,rfl,rfl⟩;generalize t.t[t.v.length].cH false ov A1.length f2=a at *;obtain ⟨at',ac,af⟩:=a;dsimp only at hal he ⊢;simp only[Ag,List.append_nil] at he;rw[he];dsimp only;have hA2:A++(C++ac)=A1++ac:=by rw[hA1,List.append_assoc]
   rw[hA2]
   conv=>whnf
   repeat' (first|refine aW ?_|((intro _);conv=>whnf)|(refine zX (fun hc=>?_) (fun hc=>?_)<;>(try simp only[SY] at hc)<;>(conv=>whnf)))
   ·rw[if_pos (by omega)]
    exact an.gen (y:=.agg at'.cells) (Γ':=dG b r tk2 (A1++ac) af) l8.wk ⟨tk2,e1,e2,rfl,rfl⟩
   ·rw[if_neg (by omega)]
    exact an.gen (y:=.agg (aa.mk 8 0 V (T++ [at'])).cells) (Γ':=dG b r tk2 (A1++ac) af) l8.wk ⟨tk2,e1,e2,rfl,rfl⟩
abbrev HR (b b3 b4 b8 r:Nat) (t:aa) (tk:Tok) (A:List bZ) (fm:Fm):List ak:=.box b3 [.ptr b 0]::.box b8 [.fn (.func 94) [.ptr b4 0]]::.box b4 [.int .i64 t.op,.int .i64 t.n,.sl 1 (t.v.map (PV.int .i64)) none,.sl 4 (t.t.map aa.pv) none]::dG b r tk A fm
theorem Mv (b b3 b4 b8 r:Nat) (t:aa) (tk:Tok) (A:List bZ) (fm:Fm) (v:Int):
  ah Tryz.prog 94 [.int .i64 v,.ptr b4 0] (HR b b3 b4 b8 r t tk A fm) (fun y Γ'=>y=.bool (t.v.contains v)∧Γ'=HR b b3 b4 b8 r t tk A fm):=by
 refine ah.ai aj Tryz.func94 rfl rfl (n:=8) rfl rfl ?_
 conv=>whnf
 repeat' (first|refine aW ?_|((refine pC (ox t.v v) wR ?_);conv=>whnf)|(refine zX (fun hc=>?_) (fun hc=>?_)<;>(try simp only[SY] at hc)<;>omega))
 exact an.gen (y:=.bool (t.v.contains v)) (Γ':=HR b b3 b4 b8 r t tk A fm) (Wk.refl _) ⟨rfl,rfl⟩
theorem J9 (b b3 b4 b8 r:Nat) (t:aa) (tk:Tok) (A:List bZ) (fm:Fm) (v:Int):
  ah Tryz.prog 98 [.int .i64 v,.ptr b8 0] (HR b b3 b4 b8 r t tk A fm) (fun y Γ'=>y=.bool (!t.v.contains v)∧Γ'=HR b b3 b4 b8 r t tk A fm):=by
 refine ah.ai aj Tryz.func98 rfl rfl (n:=8) rfl rfl ?_
 conv=>whnf
 repeat' (first|refine aW ?_|(refine zX (fun hc=>?_) (fun hc=>?_)<;>(try simp only[SY] at hc)<;>omega))
 refine au.same (Mv b b3 b4 b8 r t tk A fm v) (bU.refl _) ?_;rintro _ _ ⟨rfl,rfl⟩
 conv=>whnf
 skip
 exact an.gen (y:=.bool (!t.v.contains v)) (Γ':=HR b b3 b4 b8 r t tk A fm) (Wk.refl _) ⟨rfl,rfl⟩
theorem Mw (b b3 b4 b8 r:Nat) (t:aa) (tk:Tok) (A:List bZ) (fm:Fm) (x:aa) (hb:x.bp≤1000000000):
  ah Tryz.prog 96 [.agg x.cells,.ptr b3 0,.ptr b8 0] (HR b b3 b4 b8 r t tk A fm) (fun y Γ'=>y=.bool ((aO fm x).any fun u=>!t.v.contains u)∧Γ'=HR b b3 b4 b8 r t tk A fm):=by
 refine ah.ai aj Tryz.func96 rfl rfl (n:=10) rfl rfl ?_
 conv=>whnf
 repeat (first|refine yQ ?_|((intro _);conv=>whnf))
 rename_i b5
 conv=>whnf
 skip
 refine au.go (BD b r tk A fm x hb) (bU.refl _) ?_;rintro _ _ ⟨rfl,rfl⟩
 conv=>whnf
 skip
 refine au.go (pW 98 [.ptr b8 0] (HR b b3 b4 b8 r t tk A fm) (fun u=>!t.v.contains u) (aO fm x) (fun u _=>J9 b b3 b4 b8 r t tk A fm u)) (bU.refl _) ?_;rintro _ _ ⟨rfl,rfl⟩
 conv=>whnf
 skip
 exact an.gen (y:=.bool ((aO fm x).any fun u=>!t.v.contains u)) (Γ':=HR b b3 b4 b8 r t tk A fm) (Wk.refl _) ⟨rfl,rfl⟩
theorem Ka (fm:Fm) (vs:List Int) (t:List aa):kH fm vs t=!((t.take vs.length).any fun x=>(aO fm x).any fun u=>!vs.contains u):=by
 unfold kH;rw[List.all_eq_not_any_not];congr 2;funext x;rw[List.all_eq_not_any_not,Bool.not_not]
abbrev N5 (b b3 b4 b6 b8 r:Nat) (t:aa) (A1:List bZ) (f1:Fm) (tk1:Tok):List ak:= [.box b [.ms tk1,.mp r],.row tk1 (A1.map bZ.pv),.mp r (.int .i64) (mapM Kn.pa f1) [],.box b8 [.fn (.func 94) [.ptr b4 0]],.box b6 [.int .i64 0,.int .i64 0,.nil,.nil],.box b4 [.int .i64 t.op,.int .i64 t.n,.sl 1 (t.v.map (PV.int .i64)) none,.sl 4 (t.t.map aa.pv) none],.box b3 [.ptr b 0]]
abbrev N4 (b b3 b4 b6 b8 b13 r:Nat) (t:aa) (T:List aa) (tt':Tok) (A1:List bZ) (f1:Fm) (tk1:Tok):List ak:=.tok tt'::.box b13 [.int .i64 9,.int .i64 0,ud t.v,.sl 4 (T.map aa.pv) (some tt')]::N5 b b3 b4 b6 b8 r t A1 f1 tk1
def Gd (T:List aa) (own C:List bZ) (r:Cn):Cn:=⟨[],T++r.t,r.last,own++r.own,C++r.c,r.fm⟩
theorem aa.Mo (w:Bool): ∀ (l:List aa) vs ov c n fm,(aa.dw w l vs ov c n fm).v= []
 | [],vs,ov,c,n,fm=>by rw[aa.dw]
 | y::l, [],ov,c,n,fm=>by rw[aa.dw]
 | y::l,v::vs,ov,c,n,fm=>by rw[aa.dw]
theorem IF {r:Cn} (h:r.v= []):Gd [] [] [] r=r:=by
 obtain ⟨a,b,c,d,e,f⟩:=r;simp only at h;subst h;rfl
theorem IE (T:List aa) (own C ac:List bZ) (b:Cn) (x:aa) (c:bZ):Gd T own C ⟨[],x::b.t,b.last,c::b.own,ac++b.c,b.fm⟩=Gd (T++ [x]) (own++ [c]) (C++ac) b:=by simp[Gd]
abbrev mG (x:aa):bZ:=⟨x.v,x.n == 1,rU⟩
theorem Kb (b r:Nat) (tk:Tok) (A:List bZ) (fm:Fm) (t:aa) (ht:t.t.length=t.v.length + 1) (hx: ∀ y∈t.t,o8 b r y) (hlam: ∀ y∈t.t.take t.v.length, ∃ z zs,y.t=z::zs∧o8 b r z) (ov:List Int) (h9:t.op=9) (h1:tk.e=83) (h2:tk.s=6) (hb:A.length + t.bp≤1000000000) (hov:ov.length≤1000000000):
  ah Tryz.prog 62 [.ptr b 0,.agg t.cells,ud ov] (dG b r tk A fm)
   (fun y Γ'=> ∃ tk',tk'.e=83∧tk'.s=6∧y=.agg (t.cH false ov A.length fm).t.cells∧Γ'=dG b r tk' (A++(t.cH false ov A.length fm).c) (t.cH false ov A.length fm).fm):=by
 have hbe:=t.cX;rw[aa.iY,if_neg (by omega),if_neg (by omega),if_neg (by omega),if_pos h9];refine ah.ai aj Tryz.func62 rfl rfl (n:=103) rfl rfl ?_
 conv=>whnf
 repeat (first|refine yQ ?_|((intro _);conv=>whnf))
 rename_i b3 b4 b6 hq0 b8
 conv=>whnf
 skip
 refine au.go (gQ 96 [.ptr b3 0,.ptr b8 0] (HR b b3 b4 b8 r t tk A fm) (fun x=>(aO fm x).any fun u=>!t.v.contains u) (t.t.take t.v.length) (fun x hxm=>Mw b b3 b4 b8 r t tk A fm x (by have:=aa.cU (List.mem_of_mem_take hxm);omega))) (bU.refl _) ?_;rintro _ _ ⟨rfl,rfl⟩;have hfs:=Ka fm t.v t.t
 conv=>whnf
 repeat' (first|refine aW ?_|(refine zX (fun hc=>?_) (fun hc=>?_)<;>(try simp only[SY] at hc)<;>omega))
 rw[←hfs];generalize kH fm t.v t.t=st;refine l6.map fun _=>?_
 conv=>whnf
 repeat' (first|refine aW ?_|((intro _);conv=>whnf)|(refine zX (fun hc=>?_) (fun hc=>?_)<;>(try simp only[SY] at hc)<;>omega))
 refine aI.over [11,12,35,36,37,38,39,40,41,42,43,44,45,46,47,48,49,50,51,52,53,54] (fun x:Nat×List bZ×Fm×Tok=> [(35,.int .i64 x.1)]) (fun x=>N5 b b3 b4 b6 b8 r t x.2.1 x.2.2.1 x.2.2.2)
  (fun x=>x.1≤t.v.length∧x.2.2.2.e=83∧x.2.2.2.s=6∧x.2.1=A++(t.t.take x.1).map mG∧fixF false t.v A.length st fm=fixF false (t.v.drop x.1) ((A.length:Int) + x.1) st x.2.2.1) (fun x=>t.v.length - x.1) (0,A,fm,tk) ⟨Nat.zero_le _,h1,h2,by simp,by simp⟩ wA ?_
 rintro ⟨i,A1,f1,tk1⟩ ⟨hi,k1,k2,hA1,hf1⟩;dsimp only at hi k1 k2 hA1 hf1⊢
 conv=>whnf
 repeat' (first|refine aW ?_|((first|refine pC (uG t.v (by omega)) wR ?_|intro _);conv=>whnf)|(refine zX (fun hc=>?_) (fun hc=>?_)<;>(try simp only[SY] at hc)<;>(conv=>whnf)))
 ·have hit:i < t.t.length:=by omega
  have hiv:i < t.v.length:=by omega
  rw[aq hiv,fixF] at hf1;have hbm:=aa.dA t.t;have hA1l:A1.length=A.length + i:=by rw[hA1,List.length_append,List.length_map,List.length_take];omega
  have hA3:A1++ [mG t.t[i]]=A++(t.t.take (i + 1)).map mG:=by rw[List.take_succ_eq_append_getElem hit,List.map_append,hA1];simp
  have hf3:fixF false t.v A.length st fm=fixF false (t.v.drop (i + 1)) ((A.length:Int) + ((i + 1:Nat):Int)) st (wv f1 t.v[i] ⟨A1.length,st⟩):=by
   rw[hf1,BY,hA1l,show (A.length:Int) + (i:Int) + 1=(A.length:Int) + ((i + 1:Nat):Int) by omega];rfl
  refine aC.sX [.box b [.ms tk1,.mp r],.row tk1 (A1.map bZ.pv),.mp r (.int .i64) (mapM Kn.pa f1) []] 3 11 13 [] [] [14] aj mixed ?_
  conv=>whnf
  repeat (refine yQ ?_)
  refine And.intro ?_ ?_
  ·conv=>whnf
   repeat' (first|refine aW ?_|(refine zX (fun hc=>?_) (fun hc=>?_)<;>(try simp only[SY] at hc)<;>omega))
   refine au.go (oT b r tk1 A1 f1 t.t[i] (by have:=aa.cU (List.getElem_mem hit);omega) k1 k2 (by rw[hA1l];omega)) (bU.refl _) ?_;rintro _ _ ⟨tk2,e1,e2,rfl,rfl⟩
   conv=>whnf
   skip
   refine dg.num ⟨A1.length,st⟩ rfl ?_
   conv=>whnf
   repeat' (first|refine aW ?_|(refine zX (fun hc=>?_) (fun hc=>?_)<;>(try simp only[SY] at hc)<;>omega))
   exact aJ (i + 1,A1++ [mG t.t[i]],wv f1 t.v[i] ⟨A1.length,st⟩,tk2) ⟨by show i + 1≤_;omega,e1,e2,hA3,hf3⟩ (by show t.v.length - (i + 1) < t.v.length - i;omega) wA
  ·conv=>whnf
   skip
   refine au.go (oT b r tk1 A1 f1 t.t[i] (by have:=aa.cU (List.getElem_mem hit);omega) k1 k2 (by rw[hA1l];omega)) (bU.refl _) ?_;rintro _ _ ⟨tk2,e1,e2,rfl,rfl⟩
   conv=>whnf
   skip
   refine And.intro ?_ ?_
   ·conv=>whnf
    repeat' (first|refine aW ?_|(refine zX (fun hc=>?_) (fun hc=>?_)<;>(try simp only[SY] at hc)<;>omega))
    refine dg.num ⟨A1.length,st⟩ rfl ?_
    conv=>whnf
    repeat' (first|refine aW ?_|(refine zX (fun hc=>?_) (fun hc=>?_)<;>(try simp only[SY] at hc)<;>omega))
    exact aJ (i + 1,A1++ [mG t.t[i]],wv f1 t.v[i] ⟨A1.length,st⟩,tk2) ⟨by show i + 1≤_;omega,e1,e2,hA3,hf3⟩ (by show t.v.length - (i + 1) < t.v.length - i;omega) wA
   ·conv=>whnf
    repeat' (first|refine aW ?_|(refine zX (fun hc=>?_) (fun hc=>?_)<;>(try simp only[SY] at hc)<;>omega))
    refine dg.num ⟨A1.length,st⟩ rfl ?_
    conv=>whnf
    repeat' (first|refine aW ?_|(refine zX (fun hc=>?_) (fun hc=>?_)<;>(try simp only[SY] at hc)<;>omega))
    exact aJ (i + 1,A1++ [mG t.t[i]],wv f1 t.v[i] ⟨A1.length,st⟩,tk2) ⟨by show i + 1≤_;omega,e1,e2,hA3,hf3⟩ (by show t.v.length - (i + 1) < t.v.length - i;omega) wA
 ·obtain rfl:i=t.v.length:=by omega
  rw[List.drop_of_length_le (Nat.le_refl _),fixF] at hf1;rw[hf1];have htk:(t.t.take t.v.length).length=t.v.length:=by rw[List.length_take];omega
  have hA1l:A1.length=A.length + t.v.length:=by rw[hA1,List.length_append,List.length_map,htk]
  rename_i b13 hq13;refine aI.ghost (aA.trans (aA.nil 4 26 _) (aA.box (b:=b13) (cs:= [.int .i64 9,.int .i64 0,ud t.v,.nil]) (cs':= [.int .i64 9,.int .i64 0,ud t.v,.sl 4 (([]:List aa).map aa.pv) (some (aT 4 26))]) wA)) ?_
  refine aI.over [14,62,63,64,65,66,67,68,69,70,71,72,73,74,75,76,77,78,79,80,81,82,83,84,85] (fun x:Nat×(List aa×Tok)×List bZ×Fm×Tok=> [(62,.int .i64 x.1)]) (fun x=>N4 b b3 b4 b6 b8 b13 r t x.2.1.1 x.2.1.2 x.2.2.1 x.2.2.2.1 x.2.2.2.2)
   (fun x=>x.1≤t.v.length∧x.2.1.2.e=26∧x.2.2.2.2.e=83∧x.2.2.2.2.s=6∧x.2.1.1.length=x.1∧ ∃ own C,x.2.2.1=A++(own++(((t.t.take t.v.length).drop x.1).map mG++C))∧own.length=x.1∧C.length + aa.aD (t.t.drop x.1)≤aa.aD t.t∧
    aa.dw false t.t t.v ov A.length (A.length + t.v.length) f1=Gd x.2.1.1 own C (aa.dw false (t.t.drop x.1) (t.v.drop x.1) ov ((A.length:Int) + x.1) x.2.2.1.length x.2.2.2.1)) (fun x=>t.v.length - x.1)
   (0,([],aT 4 26),A1,f1,tk1) ⟨Nat.zero_le _,rfl,k1,k2,rfl, [], [],by simp[hA1],rfl,by simp,by rw[hA1l];simp only[List.drop_zero,Int.natCast_zero,Int.add_zero];exact (IF (aa.Mo _ _ _ _ _ _ _)).symm⟩ wA ?_
  rintro ⟨i,⟨T,tt'⟩,A2,f2,tk2⟩ ⟨hi,htt,k3,k4,hTl,own,C,hA2,hol,hcl,he⟩;dsimp only at hi htt k3 k4 hTl hA2 hol hcl he⊢
  conv=>whnf
  repeat' ((refine zX (fun hc=>?_) (fun hc=>?_)<;>(try simp only[SY] at hc)<;>(conv=>whnf)))
  ·have hit:i < t.t.length:=by omega
   have hiv:i < t.v.length:=by omega
   have hitk:i < (t.t.take t.v.length).length:=by omega
   have hgt:(t.t.take t.v.length)[i]=t.t[i]:=List.getElem_take;obtain ⟨z,zs,hz,hzo⟩:=hlam t.t[i] (by rw[←hgt];exact List.getElem_mem hitk);have hzb:z.bp≤aa.aD t.t[i].t:=by rw[hz,aa.aD];omega
   have hbi:=t.t[i].cX;have hbm:=aa.cU (List.getElem_mem hit);rw[aq hitk,hgt,List.map_cons,List.cons_append] at hA2;rw[aq hit,aa.aD] at hcl;rw[aq hit,aq hiv,aa.dw] at he;have h00:A.length + i - A.length - own.length=0:=by omega
   have aL:A2[A.length + i]?=some ⟨t.t[i].v,t.t[i].n == 1,rU⟩:=by
    rw[hA2,List.getElem?_append_right (by omega),List.getElem?_append_right (by omega),h00];rfl
   have hA2l:A2.length=A.length + t.v.length + C.length:=by
    rw[hA2];simp only[List.length_append,List.length_cons,List.length_map,List.length_drop,htk];omega
   have hfill:=A9 b r tk2 A2 f2 (A.length + i) t.t[i] z aL zs hz hzo ov k3 k4 (by omega) (by omega) hov;rw[Int.natCast_add] at hfill;have hlb:(t.t[i].dB false (aO f2 t.t[i]) A2.length f2).c.length + 1≤t.t[i].bp:=(t.t[i].eC false).2 _ _ _;rw[if_neg (by simp),IE] at he;generalize t.t[i].dB false (aO f2 t.t[i]) A2.length f2=bo at *
   have hset:A2.set (A.length + i) ⟨t.t[i].v,t.t[i].n == 1,bo.t⟩++bo.c=A++((own++ [⟨t.t[i].v,t.t[i].n == 1,bo.t⟩])++(((t.t.take t.v.length).drop (i + 1)).map mG++(C++bo.c))):=by
    rw[hA2,List.set_append_right _ _ (by omega),List.set_append_right _ _ (by omega),h00];simp
   have hl3:A2.length + bo.c.length=(A2.set (A.length + i) ⟨t.t[i].v,t.t[i].n == 1,bo.t⟩++bo.c).length:=by simp
   rw[hl3,show (A.length:Int) + (i:Int) + 1=(A.length:Int) + ((i + 1:Nat):Int) by omega] at he;generalize A2.set (A.length + i) ⟨t.t[i].v,t.t[i].n == 1,bo.t⟩++bo.c=A3 at *;refine aC.sE [.tok tt',.box b [.ms tk2,.mp r],.row tk2 (A2.map bZ.pv),.mp r (.int .i64) (mapM Kn.pa f2) []] [15,16,17] [18,19,20] aj mixed ?_
   conv=>whnf
   repeat (refine yQ ?_)
   refine au.go hfill (bU.refl _) ?_;rintro _ _ ⟨tk3,tk4,e1,e2,rfl,rfl⟩
   conv=>whnf
   repeat' (first|refine aW ?_|((intro _);conv=>whnf)|(refine zX (fun hc=>?_) (fun hc=>?_)<;>(try simp only[SY] at hc)<;>omega))
   rename_i t5 ht5;exact aJ (i + 1,(T++ [aa.mk 19 ((A.length:Int) + i) [] ((aO f2 t.t[i]).map (dc bo.fm ov))],t5),A3,bo.fm,tk3) ⟨by show i + 1≤_;omega,ht5,e1,e2,by simp;omega,own++ [⟨t.t[i].v,t.t[i].n == 1,bo.t⟩],C++bo.c,hset,by simp;omega,by show (C++bo.c).length + aa.aD (t.t.drop (i + 1))≤_;rw[List.length_append];omega,he⟩ (by show t.v.length - (i + 1) < t.v.length - i;omega) wA
  ·obtain rfl:i=t.v.length:=by omega
   have hlt:t.v.length < t.t.length:=by omega
   rw[aq hlt,aa.aD] at hcl;rw[aq hlt,List.drop_of_length_le (Nat.le_refl t.v.length),aa.dw] at he;rw[List.drop_of_length_le (by omega),List.map_nil,List.nil_append] at hA2
   have hA2l:A2.length=A.length + t.v.length + C.length:=by
    rw[hA2];simp only[List.length_append];omega
   have hal:(t.t[t.v.length].cH false ov A2.length f2).c.length≤t.t[t.v.length].bp:=(t.t[t.v.length].eC false).1 _ _ _;refine aC.sF (some 86) rfl [.box b [.ms tk2,.mp r],.row tk2 (A2.map bZ.pv),.mp r (.int .i64) (mapM Kn.pa f2) []] [7] [] [8] [9] aj mixed ?_
   conv=>whnf
   repeat (refine yQ ?_)
   refine au.go (hx _ (List.getElem_mem hlt) tk2 A2 f2 ov k3 k4 (by omega) hov) (bU.refl _) ?_;rintro _ _ ⟨tk3,e1,e2,rfl,rfl⟩;generalize t.t[t.v.length].cH false ov A2.length f2=a at *;obtain ⟨at',ac,af⟩:=a;dsimp only at hal he ⊢;simp only[Gd,List.append_nil] at he;rw[he];dsimp only;have hA3:A++(own++(C++ac))=A2++ac:=by rw[hA2];simp
   rw[hA3]
   conv=>whnf
   repeat' (first|refine aW ?_|((intro _);conv=>whnf)|(refine zX (fun hc=>?_) (fun hc=>?_)<;>(try simp only[SY] at hc)<;>(conv=>whnf)))
   ·rw[if_pos hc]
    exact an.gen (y:=.agg at'.cells) (Γ':=dG b r tk3 (A2++ac) af) l8.wk ⟨tk3,e1,e2,rfl,rfl⟩
   ·rw[if_neg (by simp[hc])]
    exact an.gen (y:=.agg (aa.mk 9 0 t.v (T++ [at'])).cells) (Γ':=dG b r tk3 (A2++ac) af) l8.wk ⟨tk3,e1,e2,rfl,rfl⟩
mutual
def aa.K5:aa→Prop
 | .mk op _ v t=>(v.Nodup∧(op≠4→op≠8→op≠9→v= []))∧aa.B2 t
def aa.B2:List aa→Prop
 | []=>True
 | x::xs=>aa.K5 x∧aa.B2 xs
end
theorem aa.Ao (t:aa):t.K5↔(t.v.Nodup∧(t.op≠4→t.op≠8→t.op≠9→t.v= []))∧aa.B2 t.t:=by cases t;rw[aa.K5];rfl
theorem aa.qy: ∀ {l:List aa},aa.B2 l→ ∀ x∈l,x.K5
 | [],_,x,hx=>by cases hx
 | y::l,h,x,hx=>by
  rw[aa.B2] at h;rcases List.mem_cons.1 hx with rfl | hx
  ·exact h.1
  ·exact aa.qy h.2 x hx
def wX (T:List aa) (C:List bZ) (r:Cn):Cn:=⟨[],T++r.t,rU, [],C++r.c,r.fm⟩
theorem aa.uH (w:Bool): ∀ (l:List aa) ov n fm,(aa.dO w l ov n fm).v= []∧(aa.dO w l ov n fm).last=rU∧(aa.dO w l ov n fm).own= []
 | [],ov,n,fm=>by rw[aa.dO];exact ⟨rfl,rfl,rfl⟩
 | y::l,ov,n,fm=>by rw[aa.dO];exact ⟨rfl,rfl,rfl⟩
theorem vK {r:Cn} (h:r.v= []∧r.last=rU∧r.own= []):wX [] [] r=r:=by
 obtain ⟨a,b,c,d,e,f⟩:=r;obtain ⟨h1,h2,h3⟩:=h;simp only at h1 h2 h3;subst h1 h2 h3;rfl
theorem vJ (T:List aa) (C ac:List bZ) (b:Cn) (x:aa):wX T C ⟨[],x::b.t,rU, [],ac++b.c,b.fm⟩=wX (T++ [x]) (C++ac) b:=by simp[wX]
theorem uQ {p q:Prop} (k:q) (h:q→p:=by intro hq;first | exact aC.sP (some 62) rfl [13,14] [15] aj mixed hq):p:=h k
theorem NT (b r:Nat) (t:aa):t.K6→t.K5→o8 b r t∧ ∀ z∈t.t,o8 b r z:=by
 induction t using aa.ind with
 | h t ih=>
  intro hsI hsD;refine ⟨?_,fun z hz=>(ih z hz (aa.nh ((aa.o0 t).1 hsI).2 z hz) (aa.qy ((aa.Ao t).1 hsD).2 z hz)).1⟩;intro tk A fm ov h1 h2 hb hov;have hbe:=t.cX;have hbl:=aa.dA t.t;rw[aa.o0] at hsI;rw[aa.Ao] at hsD;obtain ⟨⟨s1,s2,s3,s4⟩,s5⟩:=hsI;obtain ⟨⟨d1,d2⟩,d3⟩:=hsD;have hf: ∀ x∈t.t,o8 b r x:=fun x hx=>(ih x hx (aa.nh s5 x hx) (aa.qy d3 x hx)).1;have ihc: ∀ x∈t.t, ∀ z∈x.t,o8 b r z:=fun x hx=>(ih x hx (aa.nh s5 x hx) (aa.qy d3 x hx)).2
  have hlam: ∀ y∈t.t,y.op=4→ ∃ z zs,y.t=z::zs∧o8 b r z:=fun y hy h4=>by
   have hI:=(aa.o0 y).1 (aa.nh s5 y hy)
   cases hyt:y.t with
   | nil=>have:=hI.1.2.1 h4;rw[hyt] at this;simp at this
   | cons z zs=>exact ⟨z,zs,rfl,ihc y hy z (by rw[hyt];simp)⟩
  have h5:t.op=5→1≤t.t.length:=fun h=>List.length_pos_iff.2 (s1 h);refine ah.ai aj Tryz.func33 rfl rfl (n:=97) rfl rfl ?_
  conv=>whnf
  repeat (first|refine yQ ?_|((intro _);conv=>whnf))
  rename_i b4 b6
  conv=>whnf
  repeat' (first|refine aW ?_|((intro _);conv=>whnf)|(refine zX (fun hc=>?_) (fun hc=>?_)<;>(try simp only[SY] at hc)<;>(conv=>whnf)))
  ·rw[aa.iY,if_pos hc]
   refine au.go (EY b r tk A fm t.n ov) (bU.refl _) ?_;rintro _ _ ⟨rfl,rfl⟩
   conv=>whnf
   repeat' (first|refine aW ?_|(refine zX (fun hc=>?_) (fun hc=>?_)<;>(try simp only[SY] at hc)<;>omega))
   exact an.gen (y:=.agg (dc fm ov t.n).cells) (Γ':=dG b r tk (A++ []) fm) (by exact Wk.refl _) (hp:=by rw[List.append_nil];infer_instance) ⟨tk,h1,h2,rfl,rfl⟩
  ·cases htt:t.t with
   | nil=>have:=s2 hc;rw[htt] at this;simp at this
   | cons z zs=>
    rw[←htt];refine au.go (EF b r tk A fm t z zs htt (hf z (by rw[htt];simp)) ov hc h1 h2 hb hov) (bU.refl _) ?_;rintro _ _ ⟨tk2,e1,e2,rfl,rfl⟩
    conv=>whnf
    repeat' (first|refine aW ?_|((intro _);conv=>whnf)|(refine zX (fun hc=>?_) (fun hc=>?_)<;>(try simp only[SY] at hc)<;>omega))
    exact an.gen (y:=.agg (t.cH false ov A.length fm).t.cells) (Γ':=dG b r tk2 (A++(t.cH false ov A.length fm).c) (t.cH false ov A.length fm).fm) (Wk.refl _) ⟨tk2,e1,e2,rfl,rfl⟩
  ·refine au.go (Km b r tk A fm t (s3 (.inl hc)) d1 hf hlam ov hc h1 h2 hb hov) (bU.refl _) ?_
   rintro _ _ ⟨tk2,e1,e2,rfl,rfl⟩
   conv=>whnf
   repeat' (first|refine aW ?_|(refine zX (fun hc=>?_) (fun hc=>?_)<;>(try simp only[SY] at hc)<;>omega))
   exact an.gen (y:=.agg (t.cH false ov A.length fm).t.cells) (Γ':=dG b r tk2 (A++(t.cH false ov A.length fm).c) (t.cH false ov A.length fm).fm) (Wk.refl _) ⟨tk2,e1,e2,rfl,rfl⟩
  ·refine au.go (Kb b r tk A fm t (s3 (.inr hc)) hf (fun y hy=>hlam y (List.mem_of_mem_take hy) (s4 hc y (by have:=s3 (.inr hc);rw[List.dropLast_eq_take,this];exact hy))) ov hc h1 h2 hb hov) (bU.refl _) ?_
   rintro _ _ ⟨tk2,e1,e2,rfl,rfl⟩
   conv=>whnf
   repeat' (first|refine aW ?_|(refine zX (fun hc=>?_) (fun hc=>?_)<;>(try simp only[SY] at hc)<;>omega))
   exact an.gen (y:=.agg (t.cH false ov A.length fm).t.cells) (Γ':=dG b r tk2 (A++(t.cH false ov A.length fm).c) (t.cH false ov A.length fm).fm) (Wk.refl _) ⟨tk2,e1,e2,rfl,rfl⟩
  ·rename_i b9
   have hl0:0 < t.t.length:=by omega
   have hgd:t.t.getD 0 Lv.d=t.t[0]:=by rw[List.getD_eq_getElem?_getD,List.getElem?_eq_getElem hl0];rfl
   have hhd:t.t.headD (.mk 0 0 [] [])=t.t[0]:=by rw[←hgd];cases t.t<;>rfl
   rw[hgd] at hc;have hv0:t.v= []:=d2 (by omega) (by omega) (by omega)
   have hce:t.cH false ov A.length fm=⟨.mk (kS fm t.op t.n t.t).1 (kS fm t.op t.n t.t).2 [] (aa.dO false t.t ov A.length fm).t,(aa.dO false t.t ov A.length fm).c,(aa.dO false t.t ov A.length fm).fm⟩:=by
    rw[aa.iY,if_neg (by omega),if_neg (by omega),if_neg (by omega),if_neg (by omega),hv0]
   rw[hce]
   have hcf:kS fm t.op t.n t.t=match fm t.t[0].n with
    | some f=>(22,f.code)
    | none=>(t.op,t.n):=by rw[kS,hhd,if_pos hc];try rfl
   rw[hcf]
   cases hkn:fm t.t[0].n with
   | some f=>
    dsimp only
    conv=>whnf
    repeat' (first|refine aW ?_|((first|refine uQ ?_|intro _);conv=>whnf)|(refine zX (fun hc=>?_) (fun hc=>?_)<;>(try simp only[SY] at hc)<;>(conv=>whnf)))
    rename_i b10;refine aC.sE [.box b9 [.int .i64 t.op,.int .i64 t.n,.nil,.nil]] [3] [4,5] aj mixed ?_
    conv=>whnf
    conv=>whnf
    repeat' (first|refine aW ?_|((intro _);conv=>whnf)|(refine zX (fun hc=>?_) (fun hc=>?_)<;>(try simp only[SY] at hc)<;>omega))
    rename_i hq9;refine aI.ghost (aA.trans (aA.nil 4 26 _) (aA.box (b:=b9) (cs:= [.int .i64 22,.int .i64 f.code,.nil,.nil]) (cs':= [.int .i64 22,.int .i64 f.code,.nil,.sl 4 (([]:List aa).map aa.pv) (some (aT 4 26))]) wA)) ?_
    refine aI.over [13,82,83,84,85,86,87,88,89,90,91,92,93,94,95] (fun x:Nat×(List aa×Tok)×List bZ×Fm×Tok=> [(82,.int .i64 x.1)]) (fun x=>.tok x.2.1.2::.box b9 [.int .i64 22,.int .i64 f.code,.nil,.sl 4 (x.2.1.1.map aa.pv) (some x.2.1.2)]::.box b6 [.int .i64 0,.int .i64 0,.nil,.nil]::.box b4 [.int .i64 t.op,.int .i64 t.n,.sl 1 (t.v.map (PV.int .i64)) none,.sl 4 (t.t.map aa.pv) none]::dG b r x.2.2.2.2 x.2.2.1 x.2.2.2.1)
     (fun x=>x.1≤t.t.length∧x.2.1.2.e=26∧x.2.2.2.2.e=83∧x.2.2.2.2.s=6∧x.2.1.1.length=x.1∧ ∃ C,x.2.2.1=A++C∧C.length + aa.aD (t.t.drop x.1)≤aa.aD t.t∧aa.dO false t.t ov A.length fm=wX x.2.1.1 C (aa.dO false (t.t.drop x.1) ov x.2.2.1.length x.2.2.2.1)) (fun x=>t.t.length - x.1)
     (0,([],aT 4 26),A,fm,tk) ⟨Nat.zero_le _,rfl,h1,h2,rfl, [],by simp,by simp,(vK (aa.uH _ _ _ _ _)).symm⟩ wA ?_
    rintro ⟨i,⟨T,tt'⟩,A2,f2,tk2⟩ ⟨hi,htt,k3,k4,hTl,C,hA2,hcl,he⟩;dsimp only at hi htt k3 k4 hTl hA2 hcl he⊢
    conv=>whnf
    repeat' (first|refine aW ?_|((intro _);conv=>whnf)|(refine zX (fun hc=>?_) (fun hc=>?_)<;>(try simp only[SY] at hc)<;>(conv=>whnf)))
    ·have hit:i < t.t.length:=by omega
     rw[aq hit,aa.aD] at hcl;rw[aq hit,aa.dO] at he;have hA2l:A2.length=A.length + C.length:=by rw[hA2,List.length_append]
     have hal:(t.t[i].cH false ov A2.length f2).c.length≤t.t[i].bp:=(t.t[i].eC false).1 _ _ _;have hcall:=hf _ (List.getElem_mem hit) tk2 A2 f2 ov k3 k4 (by omega) hov;rw[vJ] at he;generalize t.t[i].cH false ov A2.length f2=a at *;have hl3:A2.length + a.c.length=(A2++a.c).length:=by simp
     rw[hl3] at he;refine aC.sE [.tok tt',.box b [.ms tk2,.mp r],.row tk2 (A2.map bZ.pv),.mp r (.int .i64) (mapM Kn.pa f2) []] [5,6] [7,8,9] aj mixed ?_
     conv=>whnf
     repeat (refine yQ ?_)
     refine au.go hcall (bU.refl _) ?_;rintro _ _ ⟨tk3,e1,e2,rfl,rfl⟩
     conv=>whnf
     repeat' (first|refine aW ?_|((intro _);conv=>whnf)|(refine zX (fun hc=>?_) (fun hc=>?_)<;>(try simp only[SY] at hc)<;>omega))
     rename_i t5 ht5;exact aJ (i + 1,(T++ [a.t],t5),A2++a.c,a.fm,tk3) ⟨by show i + 1≤_;omega,ht5,e1,e2,by simp;omega,C++a.c,by rw[hA2,List.append_assoc],by show (C++a.c).length + aa.aD (t.t.drop (i + 1))≤_;rw[List.length_append];omega,he⟩ (by show t.t.length - (i + 1) < t.t.length - i;omega) wA
    ·rw[List.drop_of_length_le (by omega)] at he
     simp only[aa.dO,wX,List.append_nil] at he;rw[he,hA2];exact an.gen (y:=.agg (aa.mk (22) (f.code) [] T).cells) (Γ':=dG b r tk2 (A++C) f2) l8.wk ⟨tk2,k3,k4,rfl,rfl⟩
   | none=>
    dsimp only
    conv=>whnf
    repeat' (first|refine aW ?_|((first|refine uQ ?_|intro _);conv=>whnf)|(refine zX (fun hc=>?_) (fun hc=>?_)<;>(try simp only[SY] at hc)<;>(conv=>whnf)))
    rename_i b10 hq9;refine aI.ghost (aA.trans (aA.nil 4 26 _) (aA.box (b:=b9) (cs:= [.int .i64 t.op,.int .i64 t.n,.nil,.nil]) (cs':= [.int .i64 t.op,.int .i64 t.n,.nil,.sl 4 (([]:List aa).map aa.pv) (some (aT 4 26))]) wA)) ?_
    refine aI.over [13,82,83,84,85,86,87,88,89,90,91,92,93,94,95] (fun x:Nat×(List aa×Tok)×List bZ×Fm×Tok=> [(82,.int .i64 x.1)]) (fun x=>.tok x.2.1.2::.box b9 [.int .i64 t.op,.int .i64 t.n,.nil,.sl 4 (x.2.1.1.map aa.pv) (some x.2.1.2)]::.box b6 [.int .i64 0,.int .i64 0,.nil,.nil]::.box b4 [.int .i64 t.op,.int .i64 t.n,.sl 1 (t.v.map (PV.int .i64)) none,.sl 4 (t.t.map aa.pv) none]::dG b r x.2.2.2.2 x.2.2.1 x.2.2.2.1)
     (fun x=>x.1≤t.t.length∧x.2.1.2.e=26∧x.2.2.2.2.e=83∧x.2.2.2.2.s=6∧x.2.1.1.length=x.1∧ ∃ C,x.2.2.1=A++C∧C.length + aa.aD (t.t.drop x.1)≤aa.aD t.t∧aa.dO false t.t ov A.length fm=wX x.2.1.1 C (aa.dO false (t.t.drop x.1) ov x.2.2.1.length x.2.2.2.1)) (fun x=>t.t.length - x.1)
     (0,([],aT 4 26),A,fm,tk) ⟨Nat.zero_le _,rfl,h1,h2,rfl, [],by simp,by simp,(vK (aa.uH _ _ _ _ _)).symm⟩ wA ?_
    rintro ⟨i,⟨T,tt'⟩,A2,f2,tk2⟩ ⟨hi,htt,k3,k4,hTl,C,hA2,hcl,he⟩;dsimp only at hi htt k3 k4 hTl hA2 hcl he⊢
    conv=>whnf
    repeat' (first|refine aW ?_|((intro _);conv=>whnf)|(refine zX (fun hc=>?_) (fun hc=>?_)<;>(try simp only[SY] at hc)<;>(conv=>whnf)))
    ·have hit:i < t.t.length:=by omega
     rw[aq hit,aa.aD] at hcl;rw[aq hit,aa.dO] at he;have hA2l:A2.length=A.length + C.length:=by rw[hA2,List.length_append]
     have hal:(t.t[i].cH false ov A2.length f2).c.length≤t.t[i].bp:=(t.t[i].eC false).1 _ _ _;have hcall:=hf _ (List.getElem_mem hit) tk2 A2 f2 ov k3 k4 (by omega) hov;rw[vJ] at he;generalize t.t[i].cH false ov A2.length f2=a at *;have hl3:A2.length + a.c.length=(A2++a.c).length:=by simp
     rw[hl3] at he;refine aC.sE [.tok tt',.box b [.ms tk2,.mp r],.row tk2 (A2.map bZ.pv),.mp r (.int .i64) (mapM Kn.pa f2) []] [5,6] [7,8,9] aj mixed ?_
     conv=>whnf
     repeat (refine yQ ?_)
     refine au.go hcall (bU.refl _) ?_;rintro _ _ ⟨tk3,e1,e2,rfl,rfl⟩
     conv=>whnf
     repeat' (first|refine aW ?_|((intro _);conv=>whnf)|(refine zX (fun hc=>?_) (fun hc=>?_)<;>(try simp only[SY] at hc)<;>omega))
     rename_i t5 ht5;exact aJ (i + 1,(T++ [a.t],t5),A2++a.c,a.fm,tk3) ⟨by show i + 1≤_;omega,ht5,e1,e2,by simp;omega,C++a.c,by rw[hA2,List.append_assoc],by show (C++a.c).length + aa.aD (t.t.drop (i + 1))≤_;rw[List.length_append];omega,he⟩ (by show t.t.length - (i + 1) < t.t.length - i;omega) wA
    ·rw[List.drop_of_length_le (by omega)] at he
     simp only[aa.dO,wX,List.append_nil] at he;rw[he,hA2];exact an.gen (y:=.agg (aa.mk (t.op) (t.n) [] T).cells) (Γ':=dG b r tk2 (A++C) f2) l8.wk ⟨tk2,k3,k4,rfl,rfl⟩
  ·rename_i b9 hq9
   have hv0:t.v= []:=d2 (by omega) (by omega) (by omega)
   have hcf:kS fm t.op t.n t.t=(t.op,t.n):=by
    have e:t.t.headD (.mk 0 0 [] [])=t.t.getD 0 Lv.d:=by cases t.t<;>rfl
    rw[kS,e,if_neg (by omega)]
   have hce:t.cH false ov A.length fm=⟨.mk t.op t.n [] (aa.dO false t.t ov A.length fm).t,(aa.dO false t.t ov A.length fm).c,(aa.dO false t.t ov A.length fm).fm⟩:=by
    rw[aa.iY,if_neg (by omega),if_neg (by omega),if_neg (by omega),if_neg (by omega),hcf,hv0]
   rw[hce];dsimp only;refine aI.ghost (aA.trans (aA.nil 4 26 _) (aA.box (b:=b9) (cs:= [.int .i64 t.op,.int .i64 t.n,.nil,.nil]) (cs':= [.int .i64 t.op,.int .i64 t.n,.nil,.sl 4 (([]:List aa).map aa.pv) (some (aT 4 26))]) wA)) ?_
   refine aI.over [13,82,83,84,85,86,87,88,89,90,91,92,93,94,95] (fun x:Nat×(List aa×Tok)×List bZ×Fm×Tok=> [(82,.int .i64 x.1)]) (fun x=>.tok x.2.1.2::.box b9 [.int .i64 t.op,.int .i64 t.n,.nil,.sl 4 (x.2.1.1.map aa.pv) (some x.2.1.2)]::.box b6 [.int .i64 0,.int .i64 0,.nil,.nil]::.box b4 [.int .i64 t.op,.int .i64 t.n,.sl 1 (t.v.map (PV.int .i64)) none,.sl 4 (t.t.map aa.pv) none]::dG b r x.2.2.2.2 x.2.2.1 x.2.2.2.1)
    (fun x=>x.1≤t.t.length∧x.2.1.2.e=26∧x.2.2.2.2.e=83∧x.2.2.2.2.s=6∧x.2.1.1.length=x.1∧ ∃ C,x.2.2.1=A++C∧C.length + aa.aD (t.t.drop x.1)≤aa.aD t.t∧aa.dO false t.t ov A.length fm=wX x.2.1.1 C (aa.dO false (t.t.drop x.1) ov x.2.2.1.length x.2.2.2.1)) (fun x=>t.t.length - x.1)
    (0,([],aT 4 26),A,fm,tk) ⟨Nat.zero_le _,rfl,h1,h2,rfl, [],by simp,by simp,(vK (aa.uH _ _ _ _ _)).symm⟩ wA ?_
   rintro ⟨i,⟨T,tt'⟩,A2,f2,tk2⟩ ⟨hi,htt,k3,k4,hTl,C,hA2,hcl,he⟩;dsimp only at hi htt k3 k4 hTl hA2 hcl he⊢
   conv=>whnf
   repeat' (first|refine aW ?_|((intro _);conv=>whnf)|(refine zX (fun hc=>?_) (fun hc=>?_)<;>(try simp only[SY] at hc)<;>(conv=>whnf)))
   ·have hit:i < t.t.length:=by omega
    rw[aq hit,aa.aD] at hcl;rw[aq hit,aa.dO] at he;have hA2l:A2.length=A.length + C.length:=by rw[hA2,List.length_append]
    have hal:(t.t[i].cH false ov A2.length f2).c.length≤t.t[i].bp:=(t.t[i].eC false).1 _ _ _;have hcall:=hf _ (List.getElem_mem hit) tk2 A2 f2 ov k3 k4 (by omega) hov;rw[vJ] at he;generalize t.t[i].cH false ov A2.length f2=a at *;have hl3:A2.length + a.c.length=(A2++a.c).length:=by simp
    rw[hl3] at he;refine aC.sE [.tok tt',.box b [.ms tk2,.mp r],.row tk2 (A2.map bZ.pv),.mp r (.int .i64) (mapM Kn.pa f2) []] [5,6] [7,8,9] aj mixed ?_
    conv=>whnf
    repeat (refine yQ ?_)
    refine au.go hcall (bU.refl _) ?_;rintro _ _ ⟨tk3,e1,e2,rfl,rfl⟩
    conv=>whnf
    repeat' (first|refine aW ?_|((intro _);conv=>whnf)|(refine zX (fun hc=>?_) (fun hc=>?_)<;>(try simp only[SY] at hc)<;>omega))
    rename_i t5 ht5;exact aJ (i + 1,(T++ [a.t],t5),A2++a.c,a.fm,tk3) ⟨by show i + 1≤_;omega,ht5,e1,e2,by simp;omega,C++a.c,by rw[hA2,List.append_assoc],by show (C++a.c).length + aa.aD (t.t.drop (i + 1))≤_;rw[List.length_append];omega,he⟩ (by show t.t.length - (i + 1) < t.t.length - i;omega) wA
   ·rw[List.drop_of_length_le (by omega)] at he
    simp only[aa.dO,wX,List.append_nil] at he;rw[he,hA2];exact an.gen (y:=.agg (aa.mk (t.op) (t.n) [] T).cells) (Γ':=dG b r tk2 (A++C) f2) l8.wk ⟨tk2,k3,k4,rfl,rfl⟩
theorem O3 (b r:Nat) (t:aa) (h1:t.K6) (h2:t.K5):o8 b r t:=(NT b r t h1 h2).1
theorem e9: ∀ l m:List bZ,bC (l++m)=bC l + bC m
 | [],m=>by simp[bC]
 | x::l,m=>by rw[List.cons_append,bC,bC,e9 l m];omega
theorem x4 (fm:Fm) (ov:List Int) (v:Int):(dc fm ov v).bp=1:=by
 unfold dc
 split
 ·rfl
 ·split<;>rfl
theorem x5 (fm:Fm) (ov l:List Int):aa.aD (l.map (dc fm ov))=l.length:=by
 induction l with
 | nil=>rfl
 | cons x l ih=>rw[List.map_cons,aa.aD,x4,ih,List.length_cons];omega
theorem Ga (fm:Fm) (t:aa):(aO fm t).length≤t.all.length:=by
 have h2:(bQ t.all).length≤t.all.length:=by rw[bQ,List.length_map];exact List.length_filter_le _ _
 have h3:(fR (bQ t.all)).length≤((bQ t.all).mergeSort fun x y=>decide (x≤y)).length:=by
  unfold fR Lib.compact Lib.compactUpTo;rw[List.length_map];exact Nat.le_trans (List.length_filter_le _ _) (by simp)
 rw[List.length_mergeSort] at h3;have:(aO fm t).length≤(fR (bQ t.all)).length:=List.length_filter_le _ _;omega
theorem aa.D4 (o n:Int) (v:List Int) (l:List aa):(aa.mk o n v l).bp=1 + v.length + aa.aD l:=by rw[aa.bp]
theorem aa.Ks (t:aa): ∀ (sc:List Int) (deep:Int),((t.met sc deep).length:Int)≤t.cnt:=by
 induction t using aa.ind with
 | h t ih=>
  intro sc deep
  have key: ∀ l:List aa,(∀ y∈l, ∀ (sc:List Int) (deep:Int),((y.met sc deep).length:Int)≤y.cnt)→ ∀ op sc inner deep,((aa.fA op sc inner l deep).length:Int)≤aa.cQ l:=by
   intro l
   induction l with
   | nil=>intro _ op sc inner deep;simp[aa.fA,aa.cQ]
   | cons x l ihl=>
    intro h op sc inner deep;rw[aa.fA,aa.cQ,List.length_append];have a:=h x (by simp) (if fV op=true∨l= [] then inner else sc) deep;have b:=ihl (fun y hy=>h y (by simp[hy])) op sc inner deep;omega
  rw[aa.jb,t.mM,List.length_cons];have:=aa.c7 t.t
  split
  ·simp;omega
  ·have:=key t.t ih t.op sc (sc++t.v) (deep + 1)
   omega
theorem aa.y7 {x:aa}: ∀ {l:List aa},x∈l→x.cnt≤aa.cQ l
 | [],h=>by cases h
 | y::l,h=>by
  rw[aa.cQ];have:=aa.c7 l;have:=y.gp;rcases List.mem_cons.1 h with rfl | h
  ·omega
  ·have:=aa.y7 h;omega
def JG (w:Bool) (K:Int) (t:aa):Prop:=t.cnt≤K→ ∀ ov n fm,((t.cH w ov n fm).t.bp:Int) + bC (t.cH w ov n fm).c≤t.bp + (K + 2) * t.cnt
def OV (w:Bool) (K:Int) (t:aa):Prop:=t.cnt≤K→ ∀ ov n fm,1 + K + t.v.length + ((t.dB w ov n fm).t.bp:Int) + bC (t.dB w ov n fm).c≤t.bp + (K + 2) * t.cnt
theorem nX (fm:Fm) (t:aa):((aO fm t).length:Int)≤t.cnt:=by
 have:=Ga fm t;have:(t.all.length:Int)≤t.cnt:=t.Ks [] 0;omega
theorem aa.Eg (w:Bool) (K:Int): ∀ l:List aa,(∀ y∈l,JG w K y)→aa.cQ l≤K→ ∀ ov n fm,(aa.aD (aa.dO w l ov n fm).t:Int) + bC (aa.dO w l ov n fm).c≤aa.aD l + (K + 2) * aa.cQ l
 | [],_,_,ov,n,fm=>by rw[aa.dO];simp[aa.aD,bC,aa.cQ]
 | y::l,h,hk,ov,n,fm=>by
  have p1:=y.gp;have p2:=aa.c7 l;rw[aa.cQ] at hk;rw[aa.dO,aa.aD,aa.cQ,Int.mul_add];have a:=h y (by simp) (by omega) ov n fm;have b:=aa.Eg w K l (fun z hz=>h z (by simp[hz])) (by omega) ov (n + (y.cH w ov n fm).c.length) (y.cH w ov n fm).fm;dsimp only;rw[aa.aD,e9];omega
theorem aa.Eb (w:Bool) (K:Int) (hK:0≤K): ∀ l:List aa,(∀ y∈l,JG w K y)→aa.cQ l≤K→ ∀ vs ov n fm lrn,(aa.aD (aa.dN w l vs ov n fm lrn).t:Int) + (aa.dN w l vs ov n fm lrn).last.bp + bC (aa.dN w l vs ov n fm lrn).c≤aa.aD l + (K + 2) * aa.cQ l + 1∧(aa.dN w l vs ov n fm lrn).v.length≤vs.length
 | [],_,_,vs,ov,n,fm,lrn=>by rw[aa.dN];simp[aa.aD,bC,aa.cQ,aa.bp]
 | y::l,h,hk, [],ov,n,fm,lrn=>by
  have p1:=y.gp;have p2:=aa.c7 l;rw[aa.cQ] at hk;have p3:0≤(K + 2) * aa.cQ l:=Int.mul_nonneg (by omega) p2;rw[aa.dN,aa.aD,aa.cQ,Int.mul_add];have a:=h y (by simp) (by omega) ov n (dr w lrn fm);dsimp only;rw[aa.aD];refine ⟨by omega,by simp⟩
 | y::l,h,hk,v::vs,ov,n,fm,lrn=>by
  have p1:=y.gp;have p2:=aa.c7 l;rw[aa.cQ] at hk;rw[aa.dN,aa.aD,aa.cQ,Int.mul_add];have a:=h y (by simp) (by omega) ov n fm;obtain ⟨b,b2⟩:=aa.Eb w K hK l (fun z hz=>h z (by simp[hz])) (by omega) vs ov (n + (y.cH w ov n fm).c.length) (y.cH w ov n fm).fm (if y.op=4 then lrn++ [(v,⟨n,(y.cH w ov n fm).t.op == 21⟩)] else lrn);dsimp only;rw[e9]
  split
  ·refine ⟨by omega,by simp only[List.length_cons];omega⟩
  ·rw[aa.aD]
   refine ⟨by omega,by simp only[List.length_cons];omega⟩
theorem aa.D7 (w:Bool) (K:Int) (hK:0≤K): ∀ l:List aa,(∀ y∈l,JG w K y)→(∀ y∈l,OV w K y)→aa.cQ l≤K→ ∀ vs ov c n fm,(aa.aD (aa.dw w l vs ov c n fm).t:Int) + (aa.dw w l vs ov c n fm).last.bp + bC (aa.dw w l vs ov c n fm).own + bC (aa.dw w l vs ov c n fm).c≤aa.aD l + (K + 2) * aa.cQ l + 1
 | [],_,_,_,vs,ov,c,n,fm=>by rw[aa.dw];simp[aa.aD,bC,aa.cQ,aa.bp]
 | y::l,h,_,hk, [],ov,c,n,fm=>by
  have p1:=y.gp;have p2:=aa.c7 l;rw[aa.cQ] at hk;have p3:0≤(K + 2) * aa.cQ l:=Int.mul_nonneg (by omega) p2;rw[aa.dw,aa.aD,aa.cQ,Int.mul_add];have a:=h y (by simp) (by omega) ov n fm;dsimp only;rw[aa.aD,bC];omega
 | y::l,h,k,hk,v::vs,ov,c,n,fm=>by
  have p1:=y.gp;have p2:=aa.c7 l;rw[aa.cQ] at hk;rw[aa.dw,aa.aD,aa.cQ,Int.mul_add];have a:=k y (by simp) (by omega) (aO fm y) n fm;have b:=aa.D7 w K hK l (fun z hz=>h z (by simp[hz])) (fun z hz=>k z (by simp[hz])) (by omega) vs ov (c + 1) (n + (y.dB w (aO fm y) n fm).c.length) (y.dB w (aO fm y) n fm).fm;have q1:=nX fm y;have q2:=nX (y.dB w (aO fm y) n fm).fm y;dsimp only;rw[e9,aa.aD,bC,aa.bp,x5];have q:((if w=true then aO (y.dB w (aO fm y) n fm).fm y else aO fm y).length:Int)≤K:=by split<;>omega
  simp only[List.length_nil,bZ.bp];omega
theorem aa.Ef (w:Bool) (K:Int) (hK:0≤K) (t:aa):JG w K t∧OV w K t:=by
 induction t using aa.ind with
 | h t ih=>
  have hbe:=t.cX;have hce:=t.mM;have p2:=aa.c7 t.t;have e1:(K + 2) * t.cnt=(K + 2) + (K + 2) * aa.cQ t.t:=by rw[hce,Int.mul_add,Int.mul_one]
  have p3:0≤(K + 2) * aa.cQ t.t:=Int.mul_nonneg (by omega) p2
  have hB:OV w K t:=by
   intro hk ov n fm;rw[aa.nE]
   cases ht:t.t with
   | nil=>
    rw[aa.pO];dsimp only;rw[bC,show rU.bp=1 from rfl];omega
   | cons x xs=>
    rw[aa.pO];have hx:x∈t.t:=by rw[ht];simp
    have a:=(ih x hx).1 (by have:=aa.y7 hx;omega) ov n fm;have q1:=aa.cU hx;have q2:=aa.y7 hx;have q3:(K + 2) * x.cnt≤(K + 2) * aa.cQ t.t:=Int.mul_le_mul_of_nonneg_left q2 (by omega);omega
  refine ⟨?_,hB⟩;intro hk ov n fm;rw[aa.iY]
  split
  ·dsimp only
   rw[x4,bC];omega
  split
  ·have a:=hB hk (aO fm t) (n + 1) fm
   have q1:=nX fm t;have q2:=nX (t.dB w (aO fm t) (n + 1) fm).fm t;have q:((if w=true then aO (t.dB w (aO fm t) (n + 1) fm).fm t else aO fm t).length:Int)≤K:=by split<;>omega
   dsimp only;generalize (if w=true then aO (t.dB w (aO fm t) (n + 1) fm).fm t else aO fm t)=own at q ⊢;rw[bC,iX];simp only[bZ.bp]
   split
   ·rw[aa.D4,aa.aD]
    simp only[List.length_nil];omega
   ·rw[aa.D4,x5]
    simp only[List.length_nil];omega
  split
  ·obtain ⟨a,b⟩:=aa.Eb w K hK t.t (fun y hy=>(ih y hy).1) (by omega) t.v ov n fm []
   dsimp only
   split
   ·omega
   ·rw[aa.bp,aa.lH,aa.aD,aa.aD]
    omega
  split
  ·have a:=aa.D7 w K hK t.t (fun y hy=>(ih y hy).1) (fun y hy=>(ih y hy).2) (by omega) t.v ov n (n + t.v.length) (fixF w t.v n (kH fm t.v t.t) fm)
   dsimp only;rw[e9]
   split
   ·omega
   ·rw[aa.bp,aa.lH,aa.aD,aa.aD]
    omega
  ·have a:=aa.Eg w K t.t (fun y hy=>(ih y hy).1) (by omega) ov n fm
   dsimp only;rw[aa.bp];omega
theorem aa.ES {c codes:Int} {free:Bool} (t:aa): ∀ {scope:List Int} {deep:Int},t.lC 2 c codes free scope deep→t.vars.Nodup→t.K5:=by
 induction t using aa.ind with
 | h t ih=>
  intro scope deep h hn;rw[aa.dP] at h;rw[aa.Ao];rw[aa.gY,List.nodup_append] at hn
  have key: ∀ (op:Int) (sc inner:List Int) (deep:Int) (l:List aa),(∀ y∈l, ∀ {scope:List Int} {deep:Int},y.lC 2 c codes free scope deep→y.vars.Nodup→y.K5)→aa.eW 2 c codes free op sc inner l deep→(aa.bN l).Nodup→aa.B2 l:=by
   intro op sc inner deep l
   induction l with
   | nil=>intro _ _ _;rw[aa.B2];trivial
   | cons x l ihl=>
    intro hy hk hn;rw[aa.eW] at hk;rw[aa.bN,List.nodup_append] at hn;rw[aa.B2];exact ⟨hy x (by simp) hk.2.1 hn.1,ihl (fun z hz=>hy z (by simp[hz])) hk.2.2 hn.2.1⟩
  refine ⟨⟨hn.1,fun h4 h8 h9=>?_⟩,key _ _ _ _ _ ih h.2 hn.2.1⟩;obtain ⟨⟨_,h2,h3,_⟩,_⟩:=h;unfold di at h3
  have h7:t.op≠7:=by
   intro e;rw[e] at h2;revert h2;decide
  have hbb:oG t.op=false:=by simp[oG,h4,h7,h8,h9]
  rw[hbb] at h3
  split at h3
  ·cases h3
  ·rename_i hne
   simp only[Bool.not_false,Bool.true_and,decide_eq_true_eq] at hne;exact List.eq_nil_of_length_eq_zero (by omega)
end Go.Cb


