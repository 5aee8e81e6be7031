/-
 Plain: what the document's machine keeps: values, places, procedures.
 Plain: values that go together; primitives do not tell them apart.
 Plain: two machines with codes side by side: worlds, results that go together; terms one behind the other, calls, primitives.
 Plain: two machines with codes side by side: places, procedures, what ends a term, strict terms of one sort.
 Contracts: package slices: Grow, Concat, Index, Contains, of numbers.
 Contracts: all terms of a term, one by one.
 Contracts: how many terms.
 Contracts: what is sorted already: one number.
 Contracts: what is named and not bound: one variable.
 Plain laws: what a term names, binds; how deep it lies.
 Plain laws: numbers in order, each once.
 Plain laws: a term and its parts.
 Layings of the library's contracts at this seat (written by the kit's tools).
 Contracts: numbers sorted by the library, equal neighbours struck.
 Contracts: what a term names and does not bind, what it binds, how often a variable is named and assigned.
 Plain laws: all variables greater by the same.
 Plain laws: assigned variables become boxes.
 Plain laws: chapter 10, what is right; the document's counts; programs.
 Plain law: procedures' bodies in the place of their calls, as a function.
 Plain law: names say nothing to the inliner.
 Plain laws: chapter 10, sizes of what is converted.
-/
import Derived.Lib.SlicesCompact
import Derived.Shelf.Slices.CompactI
import Derived.Shelf.Slices.In.SortNone
import Derived.Shelf.Sort.Plain
import Derived.Sort.OwnSortedInts
import Derived.Test.YtkcbpdpiodgaiaaGreatDoorProg
import Derived.Test.YtkcbpdpiodgaiaaGreatDoorC5
set_option linter.unusedSimpArgs false
set_option linter.unusedVariables false
namespace Go.Cb
open Go.Proofs
set_option maxRecDepth 100000
set_option maxHeartbeats 4000000
def As (op:Int):Prop:=op=0∨op=1∨op=11∨op=20∨op=21
mutual
def aa.GI:aa→Prop
 | .mk op _ _ t=>(op=9→ ∀ x∈t,x.op=19→ ∀ y∈x.t,As y.op)∧aa.Gr t
def aa.Gr:List aa→Prop
 | []=>True
 | x::xs=>aa.GI x∧aa.Gr xs
end
theorem aa.vY (t:aa):t.GI↔(t.op=9→ ∀ x∈t.t,x.op=19→ ∀ y∈x.t,As y.op)∧aa.Gr t.t:=by cases t;rw[aa.GI];rfl
theorem aa.B5: ∀ {l:List aa} {x:aa},x∈l→aa.Gr l→x.GI
 | y::l,x,h,hs=>by
  rw[aa.Gr] at hs;rcases List.mem_cons.1 h with rfl | h
  ·exact hs.1
  ·exact aa.B5 h hs.2
def aa.fit (t:aa):Prop:=t.cnt≤20000∧t.vars.length≤100000000∧t.GI
theorem aa.AU: ∀ l:List aa,(l.length:Int)≤aa.cQ l
 | []=>by rw[aa.cQ];simp
 | x::l=>by rw[aa.cQ,List.length_cons];have:=x.gp;have:=aa.AU l;omega
theorem aa.AV: ∀ {l:List aa} {x:aa},x∈l→x.cnt≤aa.cQ l
 | y::l,x,h=>by
  rw[aa.cQ];have h1:=y.gp;have h2:=aa.c7 l;rcases List.mem_cons.1 h with rfl | h
  ·omega
  ·have:=aa.AV h
   omega
theorem aa.yu: ∀ {l:List aa} {x:aa},x∈l→x.vars.length≤(aa.bN l).length
 | y::l,x,h=>by
  rw[aa.bN,List.length_append];rcases List.mem_cons.1 h with rfl | h
  ·omega
  ·have:=aa.yu h
   omega
theorem aa.fit.mem {t x:aa} (h:t.fit) (hx:x∈t.t):x.fit:=by
 have h1:=h.1;have h2:=h.2.1;rw[aa.mM] at h1;rw[aa.gY,List.length_append] at h2;have:=aa.AV hx;have:=aa.yu hx;exact ⟨by omega,by omega,aa.B5 hx ((aa.vY t).1 h.2.2).2⟩
theorem aa.fit.len {t:aa} (h:t.fit):t.t.length≤20000∧t.v.length≤100000000:=by
 have h1:=h.1;have h2:=h.2.1;rw[aa.mM] at h1;rw[aa.gY,List.length_append] at h2;have:=aa.AU t.t;exact ⟨by omega,by omega⟩
theorem fN (b:Nat) (x:Vl): ∀ (h:Hp) (a:Nat),aY (hput h b x) a=aY h a
 | [],_=>rfl
 | (c,.cell y r)::h,a=>by
  rw[hput];by_cases hb:c=b
  ·rw[if_pos hb,aY,aY]
  ·rw[if_neg hb,aY,aY,fN b x h a]
 | (c,.eH f)::h,a=>by rw[hput,aY,aY,fN b x h a]
theorem ju (b:Nat) (o:List Vl): ∀ (h:Hp) (a:Nat),aL (dL h b o) a=aL h a
 | [],_=>rfl
 | (c,.eH f)::h,a=>by
  rw[dL];by_cases hb:c=b
  ·rw[if_pos hb,aL,aL]
  ·rw[if_neg hb,aL,aL,ju b o h a]
 | (c,.cell y r)::h,a=>by rw[dL,aL,aL,ju b o h a]
theorem rW (b:Nat) (o:List Vl): ∀ {h:Hp} {a:Nat} {f:qH},aY h a=some f→ ∃ f',aY (dL h b o) a=some f'
 | (c,.cell y r)::h,a,f,hg=>by
  rw[aY] at hg;rw[dL,aY];exact rW b o hg
 | (c,.eH g)::h,a,f,hg=>by
  rw[aY] at hg;rw[dL];by_cases hcb:c=b
  ·rw[if_pos hcb,aY]
   by_cases hca:c=a
   ·rw[if_pos hca]
    exact ⟨_,rfl⟩
   ·rw[if_neg hca] at hg⊢
    exact ⟨f,hg⟩
  ·rw[if_neg hcb,aY]
   by_cases hca:c=a
   ·rw[if_pos hca]
    exact ⟨g,rfl⟩
   ·rw[if_neg hca] at hg⊢
    exact rW b o hg
def lY (D:Nat×Bool→Prop) (e:bq) (scope:List Int):Prop:= ∀ v∈scope, ∃ a,fc e v=some a∧D (a,false)
theorem lY.mono {D D':Nat×Bool→Prop} {e:bq} {scope:List Int} (hD: ∀ a,D a→D' a) (h:lY D e scope):lY D' e scope:=fun v hv=>by
 obtain ⟨a,h1,h2⟩:=h v hv;exact ⟨a,h1,hD _ h2⟩
theorem lY.cons {D:Nat×Bool→Prop} {e:bq} {scope:List Int} {v:Int} {a:Nat} (ha:D (a,false)) (h:lY D e scope):lY D ((v,a)::e) (scope++ [v]):=fun w hw=>by
 rw[fc];by_cases hv:v=w
 ·rw[if_pos hv]
  exact ⟨a,rfl,ha⟩
 ·rw[if_neg hv]
  rcases List.mem_append.1 hw with hw | hw
  ·exact h w hw
  ·exact absurd (List.mem_singleton.1 hw).symm hv
theorem lY.ext {D:Nat×Bool→Prop}: ∀ {vs:List Int} {az:List Nat} {e:bq} {scope:List Int},az.length=vs.length→(∀ a∈az,D (a,false))→lY D e scope→lY D (bM e vs az) (scope++vs)
 | [],az,e,scope,_,_,h=>by
  rw[List.append_nil];cases az<;>exact h
 | v::vs, [],_,_,hl,_,_=>by simp at hl
 | v::vs,a::az,e,scope,hl,ha,h=>by
  rw[bM,show scope++v::vs=(scope++ [v])++vs by simp];exact lY.ext (by simpa using hl) (fun b hb=>ha b (List.mem_cons_of_mem _ hb)) (h.cons (ha a (List.mem_cons_self ..)))
def TE (lv cs cd:Int) (D:Nat×Bool→Prop) (t:aa) (e:bq):Prop:= ∃ fr scope deep,aa.lC lv cs cd fr t scope deep∧lY D e scope∧t.fit
theorem TE.mono {lv cs cd:Int} {D D':Nat×Bool→Prop} {t:aa} {e:bq} (hD: ∀ a,D a→D' a) (h:TE lv cs cd D t e):TE lv cs cd D' t e:=by
 obtain ⟨fr,scope,deep,h1,h2,h3⟩:=h;exact ⟨fr,scope,deep,h1,h2.mono hD,h3⟩
theorem iU {lv cs codes:Int} {free:Bool} {op:Int} {scope inner:List Int}: ∀ {l:List aa} {deep:Int},aa.eW lv cs codes free op scope inner l deep→ ∀ i (h:i < l.length),
  aa.lC lv cs codes free l[i] (if i + 1=l.length∨op=7∨op=9 then inner else scope) deep∧(op=9→i + 1 < l.length→l[i].op=jf lv)
 | x::xs,deep,hk,i,h=>by
  rw[aa.eW] at hk;obtain ⟨h1,h2,h3⟩:=hk
  match i,h with
  | 0,_=>
   refine ⟨?_,fun h9 hi=>?_⟩
   ·cases xs with
    | nil=>simpa using h2
    | cons y ys=>simpa using h2
   ·cases xs with
    | nil=>simp at hi
    | cons y ys=>exact Decidable.byContradiction fun hc=>h1 ⟨h9,by simp,hc⟩
  | i + 1,h=>
   have:=iU h3 i (by simpa using h);refine ⟨?_,fun h9 hi=>this.2 h9 (by simpa using hi)⟩;have e:(i + 1 + 1=(x::xs).length)↔(i + 1=xs.length):=by simp
   have h':=this.1;rw[List.getElem_cons_succ];simp only[e];exact h'
section
variable {lv cs cd:Int} {D:Nat×Bool→Prop} {t:aa} {e:bq} (h:TE lv cs cd D t e)
include h
theorem TE.op:(0≤t.op∧t.op≤22)∧(19≤t.op→lv=3)∧(t.op=7→lv=0):=by
 obtain ⟨fr,scope,deep,h1,_⟩:=h;rw[aa.dP] at h1;have hs:=h1.1.2.1;unfold dW at hs
 repeat' split at hs
 all_goals simp_all
 all_goals omega
theorem TE.GB (ho:t.op=0):0≤t.n∧t.n < cs:=by
 obtain ⟨fr,scope,deep,h1,_⟩:=h;rw[aa.dP] at h1;have hs:=h1.1.2.2.2;unfold bW at hs;rw[if_pos ho] at hs;simpa using hs
theorem TE.ref (ho:t.op=1∨t.op=2∨t.op=14): ∃ a,fc e t.n=some a∧D (a,false):=by
 obtain ⟨fr,scope,deep,h1,h2,_⟩:=h;rw[aa.dP] at h1;have hs:=h1.1.2.2.2;unfold bW at hs;rw[if_neg (by omega),if_pos ho] at hs;exact h2 t.n (by simpa using hs)
theorem TE.OQ (ho:t.op=19∨t.op=21∨t.op=22):0≤t.n∧t.n < cd:=by
 obtain ⟨fr,scope,deep,h1,h2,_⟩:=h;rw[aa.dP] at h1;have hs:=h1.1.2.2.2;unfold bW at hs;rw[if_neg (by omega),if_neg (by omega),if_neg (by omega),if_neg (by omega),if_neg (by omega),if_pos ho] at hs;simpa using hs
theorem TE.GF (ho:t.op=20):0≤t.n:=by
 obtain ⟨fr,scope,deep,h1,h2,_⟩:=h;rw[aa.dP] at h1;have hs:=h1.1.2.2.2;unfold bW at hs;rw[if_neg (by omega),if_neg (by omega),if_neg (by omega),if_neg (by omega),if_neg (by omega),if_neg (by omega),if_pos ho] at hs;simp at hs;omega
theorem TE.cnt:((t.op=2∨t.op=14∨t.op=4∨t.op=12∨t.op=15∨t.op=16)→t.t.length=1)∧(t.op=3→t.t.length=3)∧((t.op=17∨t.op=18)→t.t.length=2)∧((t.op=5∨t.op=6∨t.op=22)→1≤t.t.length)∧((t.op=7∨t.op=8∨t.op=9)→t.t.length=t.v.length + 1)∧(¬t.op=4→ ¬t.op=7→ ¬t.op=8→ ¬t.op=9→t.v= []):=by
 obtain ⟨fr,scope,deep,h1,h2,_⟩:=h;rw[aa.dP] at h1;have hs:=h1.1.2.2.1;unfold di at hs
 split at hs
 ·cases hs
 rename_i hb;refine ⟨fun ho=>?_,fun ho=>?_,fun ho=>?_,fun ho=>?_,fun ho=>?_,fun h4 h7 h8 h9=>?_⟩
 ·rw[if_neg (by omega),if_pos (by omega)] at hs
  simp at hs;omega
 ·rw[if_neg (by omega),if_neg (by omega),if_pos ho] at hs
  simp at hs;omega
 ·rw[if_neg (by omega),if_neg (by omega),if_neg (by omega),if_pos ho] at hs
  simp at hs;omega
 ·rw[if_neg (by omega),if_neg (by omega),if_neg (by omega),if_neg (by omega),if_pos (by omega)] at hs
  simp at hs;omega
 ·rw[if_neg (by omega),if_neg (by omega),if_neg (by omega),if_neg (by omega),if_neg (by omega),if_pos (by omega)] at hs
  simp at hs;omega
 ·unfold oG at hb
  rw[Bool.and_eq_true] at hb;apply List.eq_nil_of_length_eq_zero;apply Decidable.byContradiction;intro hn;exact hb ⟨by simp[h4,h7,h8,h9],by simp;omega⟩
theorem TE.sub (ho: ¬t.op=4∧ ¬t.op=7∧ ¬t.op=8∧ ¬t.op=9) {x:aa} (hx:x∈t.t):TE lv cs cd D x e:=by
 have hv:=h.cnt.2.2.2.2.2 ho.1 ho.2.1 ho.2.2.1 ho.2.2.2;obtain ⟨fr,scope,deep,h1,h2,h3⟩:=h;rw[aa.dP] at h1;obtain ⟨i,hi,rfl⟩:=List.mem_iff_getElem.1 hx;have:=(iU h1.2 i hi).1;rw[hv,List.append_nil,ite_self] at this;exact ⟨fr,scope,_,this,h2,h3.mem hx⟩
theorem TE.outer (ho:t.op=8) (i:Nat) (hi:i < t.v.length) (hl:i < t.t.length):TE lv cs cd D t.t[i] e:=by
 have hc:=h.cnt.2.2.2.2.1 (by omega);obtain ⟨fr,scope,deep,h1,h2,h3⟩:=h;rw[aa.dP] at h1;have:=(iU h1.2 i hl).1;rw[if_neg (by omega)] at this;exact ⟨fr,scope,_,this,h2,h3.mem (List.getElem_mem _)⟩
theorem TE.inner {D':Nat×Bool→Prop} (hD: ∀ a,D a→D' a) (ho:t.op=7∨t.op=8∨t.op=9∨t.op=4) (i:Nat) (hl:i < t.t.length) (hi:t.op=8→i=t.v.length) (az:List Nat) (ha:az.length=t.v.length) (haz: ∀ a∈az,D' (a,false)):TE lv cs cd D' t.t[i] (bM e t.v az):=by
 have hc:=h.cnt.2.2.2.2.1;have hc4:=h.cnt.1;obtain ⟨fr,scope,deep,h1,h2,h3⟩:=h;rw[aa.dP] at h1;have:=(iU h1.2 i hl).1;rw[if_pos (by omega)] at this;exact ⟨fr,scope++t.v,_,this,(h2.mono hD).ext ha haz,h3.mem (List.getElem_mem _)⟩
theorem TE.fix (ho:t.op=9) (i:Nat) (hi:i < t.v.length) (hl:i < t.t.length):t.t[i].op=jf lv:=by
 have hc:=h.cnt.2.2.2.2.1 (by omega);obtain ⟨fr,scope,deep,h1,h2,h3⟩:=h;rw[aa.dP] at h1;exact (iU h1.2 i hl).2 ho (by omega)
end
def wU (lv cs cd:Int) (D:Nat×Bool→Prop) (c:qH):Prop:=
 (c.rest=true→1≤c.v.length)∧c.v.length≤100000000∧ ∀ D':Nat×Bool→Prop,(∀ a,D a→D' a)→ ∀ az:List Nat,az.length=c.v.length→(∀ a∈az,D' (a,false))→TE lv cs cd D' c.body (bM c.env c.v az)
theorem wU.mono {lv cs cd:Int} {D D':Nat×Bool→Prop} (hD: ∀ a,D a→D' a) {c:qH} (h:wU lv cs cd D c):wU lv cs cd D' c:=
 ⟨h.1,h.2.1,fun D2 h2=>h.2.2 D2 fun a ha=>h2 a (hD a ha)⟩
theorem TE.cH {lv cs cd:Int} {D:Nat×Bool→Prop} {t:aa} {e:bq} (h:TE lv cs cd D t e) (ho:t.op=4) {b:aa} (hb:t.t= [b]):wU lv cs cd D ⟨t.v,t.n == 1,b,e, -1, []⟩:=by
 refine ⟨fun hr=>?_,?_,fun D' hD az ha haz=>?_⟩
 ·have hr':(t.n == 1)=true:=hr
  obtain ⟨fr,scope,deep,h1,_⟩:=h;rw[aa.dP] at h1;have hs:=h1.1.2.2.2;unfold bW at hs;rw[if_neg (by omega),if_neg (by omega),if_neg (by omega),if_pos ho] at hs;simp at hr' hs;show 1≤t.v.length;omega
 ·obtain ⟨_,_,_,_,_,h3⟩:=h
  exact h3.len.2
 ·have:=h.inner hD (.inr (.inr (.inr ho))) 0 (by rw[hb];simp) (by omega) az ha haz
  simpa only[hb,List.getElem_cons_zero] using this
theorem wU.code {lv cs cds:Int} {D:Nat×Bool→Prop} {cd:bZ} {n:Int} {o:List Vl} (h1:cd.rest=true→1≤cd.v.length) (h2:aa.lC lv cs cds true cd.body cd.v 0) (h3:cd.body.fit) (h4:cd.v.length≤100000000):wU lv cs cds D (jg cd n o):=
 ⟨h1,h4,fun D' _ az ha haz=>⟨true,cd.v,0,h2,by
  have:=lY.ext (D:=D') (scope:= []) (e:= []) ha haz (fun v hv=>by cases hv)
  rwa [List.nil_append] at this,h3⟩⟩
mutual
def Vl.ok (N:Int) (A:Int) (D:Nat×Bool→Prop):Vl→Prop
 | .mk k n d s l p c=>((Vl.mk k n d s l p c).tx=true∧((Vl.mk k n d s l p c).fW.1.length:Int)≤N∧(l.length:Int)≤N)∧(k=8→ ∃ f,p=some f∧D (f,true))∧(k=11→ ∃ a,c=some a∧D (a,false))∧(k=10→0≤n∧n < A)∧Vl.Ov N A D l
def Vl.Ov (N:Int) (A:Int) (D:Nat×Bool→Prop):List Vl→Prop
 | []=>True
 | x::xs=>Vl.ok N A D x∧Vl.Ov N A D xs
end
theorem Vl.ET {N A:Int} {D:Nat×Bool→Prop}: ∀ {l:List Vl},Vl.Ov N A D l↔ ∀ x∈l,x.ok N A D
 | []=>by simp[Vl.Ov]
 | x::xs=>by rw[Vl.Ov,Vl.ET (l:=xs),List.forall_mem_cons]
theorem Vl.ok_eq {N A:Int} {D:Nat×Bool→Prop} (x:Vl):x.ok N A D↔(x.tx=true∧(x.fW.1.length:Int)≤N∧(x.l.length:Int)≤N)∧(x.k=8→ ∃ f,x.p=some f∧D (f,true))∧(x.k=11→ ∃ a,x.c=some a∧D (a,false))∧(x.k=10→0≤x.n∧x.n < A)∧ ∀ y∈x.l,y.ok N A D:=by
 cases x;rw[Vl.ok,Vl.ET];rfl
theorem Vl.Ae {N N' A A':Int} {D D':Nat×Bool→Prop} (hN:N≤N') (hA:A≤A') (hD: ∀ a,D a→D' a) (x:Vl):x.ok N A D→x.ok N' A' D':=by
 induction x using Vl.ind with
 | h x ih=>
  intro h;rw[Vl.ok_eq] at h ⊢;refine ⟨⟨h.1.1,by omega,by omega⟩,fun hk=>?_,fun hk=>?_,fun hk=>?_,fun y hy=>ih y hy (h.2.2.2.2 y hy)⟩
  ·obtain ⟨f,h1,h2⟩:=h.2.1 hk
   exact ⟨f,h1,hD _ h2⟩
  ·obtain ⟨a,h1,h2⟩:=h.2.2.1 hk
   exact ⟨a,h1,hD _ h2⟩
  ·have:=h.2.2.2.1 hk
   omega
section
variable {N A:Int} {D:Nat×Bool→Prop}
theorem Vl.ok.tx {x:Vl} (h:x.ok N A D):x.tx=true:=((Vl.ok_eq x).1 h).1.1
theorem Vl.ok.mem {x y:Vl} (h:x.ok N A D) (hy:y∈x.l):y.ok N A D:=((Vl.ok_eq x).1 h).2.2.2.2 y hy
theorem Vl.ok.len {x:Vl} (h:x.ok N A D):(x.fW.1.length:Int)≤N∧(x.l.length:Int)≤N:=((Vl.ok_eq x).1 h).1.2
theorem Vl.ok.fW {x:Vl}:x.ok N A D→ ∀ y∈x.fW.1,y.ok N A D:=by
 induction x using Vl.ind with
 | h x ih=>
  intro h y hy;by_cases hk:x.k=6
  ·have h2:=((Vl.jU x).1 h.tx).2.1 hk
   rw[Vl.lg x hk h2] at hy;rcases List.mem_cons.1 hy with rfl | hy
   ·exact h.mem (List.getElem_mem _)
   ·exact ih _ (List.getElem_mem _) (h.mem (List.getElem_mem _)) y hy
  ·rw[Vl.iN x hk] at hy
   cases hy
theorem Vl.ok.bare {x:Vl} (hN:0≤N) (hk:0≤x.k∧x.k≤12∧ ¬x.k=6∧ ¬x.k=8∧ ¬x.k=10∧ ¬x.k=11) (hs:x.s.length≤1000000000) (hl:x.l= []):x.ok N A D:=by
 rw[Vl.ok_eq];refine ⟨⟨?_,?_,?_⟩,fun h=>?_,fun h=>?_,fun h=>?_,?_⟩
 ·rw[Vl.jU]
  exact ⟨⟨hk.1,hk.2.1⟩,fun h=>absurd h hk.2.2.1,hs,by rw[hl];simp⟩
 ·rw[Vl.iN x hk.2.2.1]
  exact hN
 ·rw[hl]
  exact hN
 ·omega
 ·omega
 ·omega
 ·rw[hl]
  simp
theorem vp: ∀ l:List Vl,(mu l).fW=(l,fF 4)
 | []=>Vl.iN _ (by show ¬(4:Int)=6;decide)
 | x::l=>by
  have e:mu (x::l)=.mk 6 0 0 [] [x,mu l] none none:=rfl;rw[e,Vl.lg _ rfl rfl];show (x::(mu l).fW.1,(mu l).fW.2)=_;rw[vp l]
theorem Vl.ok.pair {x y:Vl} (hN:2≤N) (hx:x.ok N A D) (hy:y.ok N A D) (hi:(y.fW.1.length:Int) + 1≤N):(Vl.mk 6 0 0 [] [x,y] none none).ok N A D:=by
 rw[Vl.ok_eq];refine ⟨⟨?_,?_,?_⟩,fun h=>?_,fun h=>?_,fun h=>?_,?_⟩
 ·rw[Vl.jU]
  refine ⟨⟨by show (0:Int)≤6;decide,by show (6:Int)≤12;decide⟩,fun _=>rfl,Nat.zero_le _,fun z hz=>?_⟩;rcases List.mem_cons.1 (show z∈ [x,y] from hz) with rfl | hz
  ·exact hx.tx
  ·rw[List.mem_singleton.1 hz];exact hy.tx
 ·rw[Vl.lg _ rfl rfl]
  show ((x::y.fW.1).length:Int)≤N;rw[List.length_cons];omega
 ·exact hN
 ·exact absurd (show (6:Int)=8 from h) (by decide)
 ·exact absurd (show (6:Int)=11 from h) (by decide)
 ·exact absurd (show (6:Int)=10 from h) (by decide)
 ·intro z hz
  rcases List.mem_cons.1 (show z∈ [x,y] from hz) with rfl | hz
  ·exact hx
  ·rw[List.mem_singleton.1 hz];exact hy
theorem tQ (hN:2≤N): ∀ {l:List Vl},(l.length:Int)≤N→(∀ x∈l,x.ok N A D)→(mu l).ok N A D
 | [],_,_=>Vl.ok.bare (by omega) (by show (0:Int)≤4∧(4:Int)≤12∧ ¬(4:Int)=6∧ ¬(4:Int)=8∧ ¬(4:Int)=10∧ ¬(4:Int)=11;decide) (Nat.zero_le _) rfl
 | x::l,hl,h=>by
  rw[List.length_cons] at hl;refine Vl.ok.pair hN (h x (List.mem_cons_self ..)) (tQ hN (by omega) fun y hy=>h y (List.mem_cons_of_mem _ hy)) ?_;have e:((mu l).fW.1.length:Int)=l.length:=by rw[vp]
  have e':(mu l).fW.1.length=l.length:=by rw[vp]
  show ((mu l).fW.1.length:Int) + 1≤N;omega
theorem Vl.ok.vec {l:List Vl} (hN:0≤N) (hl:(l.length:Int)≤N) (h: ∀ x∈l,x.ok N A D):(Vl.mk 7 0 0 [] l none none).ok N A D:=by
 rw[Vl.ok_eq];refine ⟨⟨?_,?_,hl⟩,fun h=>?_,fun h=>?_,fun h=>?_,h⟩
 ·rw[Vl.jU]
  exact ⟨⟨by show (0:Int)≤7;decide,by show (7:Int)≤12;decide⟩,fun h=>absurd (show (7:Int)=6 from h) (by decide),Nat.zero_le _,fun z hz=>(h z hz).tx⟩
 ·rw[Vl.iN _ (by show ¬(7:Int)=6;decide)]
  exact hN
 ·exact absurd (show (7:Int)=8 from h) (by decide)
 ·exact absurd (show (7:Int)=11 from h) (by decide)
 ·exact absurd (show (7:Int)=10 from h) (by decide)
theorem nR {k:Int} (hN:0≤N) (hk:k=0∨k=4∨k=5∨k=12):(fF k).ok N A D:=
 Vl.ok.bare hN (by show 0≤k∧k≤12∧ ¬k=6∧ ¬k=8∧ ¬k=10∧ ¬k=11;omega) (Nat.zero_le _) rfl
theorem Lr {b:Bool} (hN:0≤N):(w8 b).ok N A D:=
 Vl.ok.bare hN (by show (0:Int)≤1∧(1:Int)≤12∧ ¬(1:Int)=6∧ ¬(1:Int)=8∧ ¬(1:Int)=10∧ ¬(1:Int)=11;decide) (Nat.zero_le _) rfl
theorem KA {n d:Int} (hN:0≤N):(Vl.mk 0 n d [] [] none none).ok N A D:=
 Vl.ok.bare hN (by show (0:Int)≤0∧(0:Int)≤12∧ ¬(0:Int)=6∧ ¬(0:Int)=8∧ ¬(0:Int)=10∧ ¬(0:Int)=11;decide) (Nat.zero_le _) rfl
theorem KJ {n:Int} (hN:0≤N):(Vl.mk 9 n 0 [] [] none none).ok N A D:=
 Vl.ok.bare hN (by show (0:Int)≤9∧(9:Int)≤12∧ ¬(9:Int)=6∧ ¬(9:Int)=8∧ ¬(9:Int)=10∧ ¬(9:Int)=11;decide) (Nat.zero_le _) rfl
theorem Ex {l:List Vl} (hN:0≤N) (h: ∀ x∈l,x.ok N A D) (i:Nat):(l.getD i bx).ok N A D:=by
 rw[List.getD_eq_getElem?_getD];by_cases hi:i < l.length
 ·rw[List.getElem?_eq_getElem hi]
  exact h _ (List.getElem_mem _)
 ·rw[List.getElem?_eq_none (by omega)]
  exact nR hN (.inl rfl)
theorem u5 (n:Int) (l:List Datum): ∃ k a b,(k=0∨k=1∨k=5)∧(iu n l).1=.mk k a b [] []:=by
 have hs: ∀ (n:Int) (l:List Datum) (a:Int×Int), ∃ x y,(dI n l a).1=.mk 0 x y [] []:=by
  intro n l
  induction l with
  | nil=>intro a;exact ⟨_,_,rfl⟩
  | cons x l ih=>
   intro a;rw[dI]
   split
   ·exact ⟨_,_,rfl⟩
   ·exact ih _
 have h0: ∀ (n:Int) (l:List Datum) (a:Int×Int), ∃ k x y,(k=0∨k=1∨k=5)∧(dI n l a).1=.mk k x y [] []:=fun n l a=>by
  obtain ⟨x,y,h⟩:=hs n l a;exact ⟨0,x,y,.inl rfl,h⟩
 have ht: ∀ b:Bool, ∃ k x y,(k=0∨k=1∨k=5)∧Gw b=.mk k x y [] []:=fun b=>by
  cases b<;>exact ⟨1,_,_,.inr (.inl rfl),rfl⟩
 have hz: ∃ k x y,(k=0∨k=1∨k=5)∧(gy (0,0))=.mk k x y [] []:=⟨0,0,0,.inl rfl,rfl⟩
 unfold iu
 split
 ·exact hz
 split
 ·exact hz
 unfold mP
 split
 ·unfold fS
  split
  ·exact hz
  split<;>exact h0 _ _ _
 split
 ·split
  ·exact hz
  split<;>exact ht _
 split
 ·exact ht _
 split
 ·exact ⟨5,0,0,.inr (.inr rfl),rfl⟩
 ·exact ht _
theorem Lb (hN:2≤N) (n:Int) (l:List Vl) (ht:gF n l.length=true) (hl:(l.length:Int)≤N) (h: ∀ x∈l,x.ok N A D):(gD n l).1.ok (N + 1) A D:=by
 have up: ∀ {x:Vl},x.ok N A D→x.ok (N + 1) A D:=fun {x} hx=>Vl.Ae (by omega) (Int.le_refl _) (fun _ h=>h) x hx;have h': ∀ x∈l,x.ok (N + 1) A D:=fun x hx=>up (h x hx);have ha:=Ex (by omega) h 0;unfold gD;dsimp only
 repeat' split
 all_goals first
  | exact Lr (by omega)
  | exact nR (by omega) (by decide)
  | exact tQ (by omega) (by omega) h'
  | exact Vl.ok.vec (by omega) (by omega) h'
  | skip
 ·rename_i hn
  subst hn;have hb:=ht;unfold gF at hb;rw[show (aP 17).least=2 by decide,show (aP 17).most=2 by decide] at hb;simp at hb
  match l,hb with
  | [x,y],_=>
   have hx:=h x (by simp);have hy:=h y (by simp);have:=hy.len;exact Vl.ok.pair (by omega) (up hx) (up hy) (by omega)
 ·unfold vL
  dsimp only
  repeat' split
  all_goals first
   | exact nR (by omega) (.inl rfl)
   | exact KA (by omega)
   | exact up (Ex (by omega) (fun x hx=>ha.mem hx) _)
 ·obtain ⟨k,a,b,hk,e⟩:=u5 n (l.map jV)
  rw[e,oa];refine Vl.ok.bare (by omega) ?_ (Nat.zero_le _) rfl;show 0≤k∧k≤12∧ ¬k=6∧ ¬k=8∧ ¬k=10∧ ¬k=11;omega
theorem Jg (n:Int) (l:List Vl):(gD n l).2.2.length≤1000:=by
 unfold gD;dsimp only
 repeat' split
 all_goals first
  | exact Ch _
  | simp
end
def lM (h:Hp) (a:Nat×Bool):Prop:=if a.2=true then ∃ f,aY h a.1=some f else ∃ x r,aL h a.1=some (x,r)
theorem oy {h:Hp} {a:Nat}:lM h (a,false)↔ ∃ x r,aL h a=some (x,r):=by unfold lM;rw[if_neg (by simp)]
theorem ve {h:Hp} {a:Nat}:lM h (a,true)↔ ∃ f,aY h a=some f:=by unfold lM;rw[if_pos rfl]
theorem gd {h:Hp} {a:Nat×Bool} {b:Nat} {o:Ob} (hi:lM h a):lM ((b,o)::h) a:=by
 obtain ⟨a,r⟩:=a;cases r
 ·rw[oy] at hi⊢
  obtain ⟨y,q,hg⟩:=hi
  cases o with
  | cell x r=>
   rw[aL];by_cases hb:b=a
   ·rw[if_pos hb]
    exact ⟨x,r,rfl⟩
   ·rw[if_neg hb]
    exact ⟨y,q,hg⟩
  | eH f=>rw[aL];exact ⟨y,q,hg⟩
 ·rw[ve] at hi⊢
  obtain ⟨y,hg⟩:=hi
  cases o with
  | cell x r=>rw[aY];exact ⟨y,hg⟩
  | eH f=>
   rw[aY];by_cases hb:b=a
   ·rw[if_pos hb]
    exact ⟨f,rfl⟩
   ·rw[if_neg hb]
    exact ⟨y,hg⟩
theorem p9 {h:Hp} {a:Nat} {x:Vl} {r:Bool}:lM ((a,.cell x r)::h) (a,false):=oy.2 ⟨x,r,by rw[aL,if_pos rfl]⟩
theorem lf {h:Hp} {a:Nat} {f:qH}:lM ((a,.eH f)::h) (a,true):=ve.2 ⟨f,by rw[aY,if_pos rfl]⟩
theorem qc: ∀ {xs:List Vl} {az:List Nat} {h:Hp} {a:Nat×Bool},lM h a→lM (eM h xs az) a
 | [],_,_,_,hi=>by rw[eM];exact hi;intros;simp_all
 | _::_, [],_,_,hi=>by rw[eM];exact hi;intros;simp_all
 | x::xs,b::az,h,a,hi=>by rw[eM];exact qc (gd hi)
theorem ke: ∀ {az:List Nat} {h:Hp} {r:Bool} {a:Nat×Bool},lM h a→lM (iW h r az) a
 | [],_,_,_,hi=>hi
 | b::az,h,r,a,hi=>by rw[iW];exact ke (gd hi)
theorem kf: ∀ {cs:List (bZ×Int)} {az pz:List Nat} {h:Hp} {a:Nat×Bool},lM h a→lM (e7 h cs az pz) a
 | [],_,_,_,_,hi=>by rw[e7];exact hi;intros;simp_all
 | _::_, [],_,_,_,hi=>by rw[e7];exact hi;intros;simp_all
 | _::_,_::_, [],_,_,hi=>by rw[e7];exact hi;intros;simp_all
 | c::cs,b::az,p::pz,h,a,hi=>by rw[e7];exact kf (gd (gd hi))
theorem HZ {h:Hp} {a:Nat×Bool} {b:Nat} {x:Vl} (hi:lM h a):lM (hput h b x) a:=by
 obtain ⟨a,r⟩:=a;cases r
 ·rw[oy] at hi⊢
  obtain ⟨y,q,hg⟩:=hi;obtain ⟨y',hg'⟩:=nO b x hg;exact ⟨y',q,hg'⟩
 ·rw[ve] at hi⊢
  obtain ⟨y,hg⟩:=hi;exact ⟨y,by rw[fN];exact hg⟩
theorem Bn {h:Hp} {a:Nat×Bool} {b:Nat} {o:List Vl} (hi:lM h a):lM (dL h b o) a:=by
 obtain ⟨a,r⟩:=a;cases r
 ·rw[oy] at hi⊢
  rw[ju];exact hi
 ·rw[ve] at hi⊢
  obtain ⟨y,hg⟩:=hi;exact rW b o hg
def Grow (s s':bJ):Prop:=s.alive.length≤s'.alive.length∧(∀ a,lM s.h a→lM s'.h a)∧s'.fuel≤s.fuel
theorem Grow.refl (s:bJ):Grow s s:=⟨Nat.le_refl _,fun _ h=>h,Int.le_refl _⟩
theorem Grow.trans {s s1 s2:bJ} (h:Grow s s1) (k:Grow s1 s2):Grow s s2:=⟨Nat.le_trans h.1 k.1,fun a ha=>k.2.1 a (h.2.1 a ha),Int.le_trans k.2.2 h.2.2⟩
theorem Grow.less {s s':bJ} (h:Grow (bf s) s'):Grow s s':=⟨h.1,h.2.1,Int.le_trans h.2.2 (show s.fuel - 1≤s.fuel by omega)⟩
theorem Grow.eM (s:bJ) (vs:List Vl) (az:List Nat):Grow s (aR s (eM s.h vs az)):=⟨Nat.le_refl _,fun _ h=>qc h,Int.le_refl _⟩
theorem Grow.iW (s:bJ) (r:Bool) (az:List Nat):Grow s (aR s (iW s.h r az)):=⟨Nat.le_refl _,fun _ h=>ke h,Int.le_refl _⟩
theorem Grow.put (s:bJ) (a:Nat) (x:Vl):Grow s (aR s (hput s.h a x)):=⟨Nat.le_refl _,fun _ h=>HZ h,Int.le_refl _⟩
theorem Grow.e7 (s:bJ) (cs:List (bZ×Int)) (az pz:List Nat):Grow s (aR s (e7 s.h cs az pz)):=⟨Nat.le_refl _,fun _ h=>kf h,Int.le_refl _⟩
theorem Grow.dL (s:bJ) (a:Nat) (o:List Vl):Grow s (aR s (dL s.h a o)):=⟨Nat.le_refl _,fun _ h=>Bn h,Int.le_refl _⟩
theorem Grow.Le (s:bJ) (e:bq) (v:Int) (x:Vl):Grow s (iV s e v x):=by
 unfold iV
 split
 ·exact Grow.refl s
 ·exact Grow.put s _ _
theorem Grow.tA (s:bJ) (b:Prop) [Decidable b] (e:bq) (v:Int) (x:Vl):Grow s (if b then iV s e v x else s):=by
 split
 ·exact Grow.Le s e v x
 ·exact Grow.refl s
theorem Grow.B7 (e:bq): ∀ (vs:List Int) (xs:List Vl) (s:bJ),Grow s (dU s e vs xs)
 | [],_,s=>by unfold dU;exact Grow.refl s
 | _::_, [],s=>by unfold dU;exact Grow.refl s
 | v::vs,x::xs,s=>by rw[dU];exact (Grow.Le s e v x).trans (Grow.B7 e vs xs _)
theorem Grow.sD (s:bJ) (b:Prop) [Decidable b] (e:bq) (vs:List Int) (xs:List Vl):Grow s (if b then dU s e vs xs else s):=by
 split
 ·exact Grow.B7 e vs xs s
 ·exact Grow.refl s
theorem Grow.box (s:bJ) (a:Nat) (x:Ob):Grow s (aR s ((a,x)::s.h)):=⟨Nat.le_refl _,fun _ h=>gd h,Int.le_refl _⟩
theorem Grow.alive (s:bJ):Grow s ⟨s.fuel,s.out,s.alive++ [true],s.to,s.val,s.h⟩:=⟨by simp,fun _ h=>h,Int.le_refl _⟩
theorem Grow.dead (s:bJ) (i:Nat) (s0:bJ) (hs:Grow s0 s):Grow s0 ⟨s.fuel,s.out,s.alive.set i false,s.to,s.val,s.h⟩:=⟨by rw[List.length_set];exact hs.1,hs.2.1,hs.2.2⟩
theorem Ev.grow {K:KC} {j:Jd} {s:bJ} {vs:List Vl} {c:Int} {s':bJ} (h:Ev K j s vs c s'):Grow s s':=by
 induction h with
 | ev _ _ _ i1=>exact i1.less
 | GH _ _ _ _ _ _ i1 i2=>exact i1.trans ((Grow.eM _ _ _).trans i2)
 | GG _ _ _ _ _ _ _ i1=>exact (Grow.iW _ _ _).trans i1
 | FM _ _ _ _ _ _ _ i1 i2=>exact (Grow.iW _ _ _).trans (i1.trans ((Grow.sD _ _ _ _ _).trans i2))
 | GD _ _ _ _ _ _ _ _ _ _ i1=>exact (Grow.e7 _ _ _ _).trans i1
 | GC _ _ _ _ _ _ _ _ _ _ i1 i2=>exact (Grow.e7 _ _ _ _).trans (i1.trans i2)
 | Mk _ _ _ _ _ _ i1 i2=>exact i1.trans ((Grow.dL _ _ _).trans i2)
 | NB _ _ i1 i2=>exact i1.trans ((Grow.tA _ _ _ _ _).trans i2)
 | Oz _ _ _ i1 i2=>exact i1.trans ((Grow.tA _ _ _ _ _).trans i2)
 | GA _ _ _ _ _ _ i1=>exact (Grow.eM _ _ _).trans i1
 | pE _ _ i1=>exact Grow.dead _ _ _ ((Grow.alive _).trans i1)
 | pJ _ _ i1=>exact Grow.dead _ _ _ ((Grow.alive _).trans i1)
 | JE=>exact Grow.put _ _ _
 | put=>exact Grow.put _ _ _
 | box=>exact Grow.box _ _ _
 | lam=>exact Grow.box _ _ _
 | GJ=>exact Grow.box _ _ _
 | cH=>exact Grow.box _ _ _
 | _=>first | exact Grow.refl _ | assumption | (apply Grow.trans<;>assumption)
mutual
def VR (C:Nat→Nat→Prop) (B:Nat→Nat→Prop):Vl→Vl→Prop
 | .mk k n d s l p c,y=>(y.k=k∧y.n=n∧y.d=d∧y.s=s)∧j6 C B l y.l∧(k=8→ ∃ f g,p=some f∧y.p=some g∧C f g)∧(k=11→ ∃ a b,c=some a∧y.c=some b∧B a b)
def j6 (C:Nat→Nat→Prop) (B:Nat→Nat→Prop):List Vl→List Vl→Prop
 | [],ys=>ys= []
 | x::xs,ys=> ∃ y zs,ys=y::zs∧VR C B x y∧j6 C B xs zs
end
section
variable {C C':Nat→Nat→Prop} {B B':Nat→Nat→Prop}
theorem jz (x y:Vl):VR C B x y↔(y.k=x.k∧y.n=x.n∧y.d=x.d∧y.s=x.s)∧j6 C B x.l y.l∧(x.k=8→ ∃ f g,x.p=some f∧y.p=some g∧C f g)∧(x.k=11→ ∃ a b,x.c=some a∧y.c=some b∧B a b):=by
 cases x;rw[VR];rfl
theorem bR {ys:List Vl}:j6 C B [] ys↔ys= []:=by rw[j6]
theorem cw {x:Vl} {xs ys:List Vl}:j6 C B (x::xs) ys↔ ∃ y zs,ys=y::zs∧VR C B x y∧j6 C B xs zs:=by rw[j6]
theorem iC {x y:Vl} {xs ys:List Vl} (h:VR C B x y) (hs:j6 C B xs ys):j6 C B (x::xs) (y::ys):=cw.2 ⟨y,ys,rfl,h,hs⟩
theorem bO {x y:Vl} {xs ys:List Vl}:j6 C B (x::xs) (y::ys)↔VR C B x y∧j6 C B xs ys:=by
 rw[cw];constructor
 ·rintro ⟨_,_,e,h1,h2⟩
  injection e with e1 e2;subst e1 e2;exact ⟨h1,h2⟩
 ·rintro ⟨h1,h2⟩
  exact ⟨y,ys,rfl,h1,h2⟩
theorem jk {x:Vl} {ys:List Vl}:j6 C B [x] ys↔ ∃ y,ys= [y]∧VR C B x y:=by
 rw[cw];constructor
 ·rintro ⟨y,zs,rfl,h,hs⟩
  rw[bR] at hs;subst hs;exact ⟨y,rfl,h⟩
 ·rintro ⟨y,rfl,h⟩
  exact ⟨y, [],rfl,h,bR.2 rfl⟩
theorem cy: ∀ {xs ys:List Vl},j6 C B xs ys→ys.length=xs.length
 | [],ys,h=>by rw[bR.1 h]
 | x::xs,ys,h=>by
  obtain ⟨y,zs,rfl,_,h2⟩:=cw.1 h;rw[List.length_cons,List.length_cons,cy h2]
theorem jj: ∀ {xs ys:List Vl},j6 C B xs ys→ ∀ i (h:i < xs.length) (h':i < ys.length),VR C B xs[i] ys[i]
 | x::xs,ys,h,i,hi,hi'=>by
  obtain ⟨y,zs,rfl,h1,h2⟩:=cw.1 h
  match i,hi with
  | 0,_=>exact h1
  | i + 1,hi=>exact jj h2 i (by simpa using hi) (by simpa using hi')
theorem qL: ∀ {xs ys:List Vl},ys.length=xs.length→(∀ i (h:i < xs.length) (h':i < ys.length),VR C B xs[i] ys[i])→j6 C B xs ys
 | [],ys,hl,_=>bR.2 (List.eq_nil_of_length_eq_zero hl)
 | x::xs, [],hl,_=>by simp at hl
 | x::xs,y::ys,hl,h=>iC (h 0 (by simp) (by simp)) (qL (by simpa using hl) fun i h1 h2=>h (i + 1) (by simpa using h1) (by simpa using h2))
theorem Cy {xs xs' ys ys':List Vl} (h:j6 C B xs ys) (h':j6 C B xs' ys'):j6 C B (xs++xs') (ys++ys'):=by
 have h1:=cy h;have h2:=cy h';refine qL (by simp[h1,h2]) fun i hi hi'=>?_;rw[List.length_append] at hi hi';by_cases hx:i < xs.length
 ·rw[List.getElem_append_left hx,List.getElem_append_left (by omega)]
  exact jj h i hx (by omega)
 ·rw[List.getElem_append_right (by omega),List.getElem_append_right (by omega)]
  simp only[h1];exact jj h' _ (by omega) (by omega)
theorem G0 {xs ys:List Vl} (k:Nat) (h:j6 C B xs ys):j6 C B (xs.take k) (ys.take k):=by
 have h1:=cy h;refine qL (by simp[h1]) fun i hi hi'=>?_;rw[List.length_take] at hi hi';rw[List.getElem_take,List.getElem_take];exact jj h i (by omega) (by omega)
theorem GX {xs ys:List Vl} (k:Nat) (h:j6 C B xs ys):j6 C B (xs.drop k) (ys.drop k):=by
 have h1:=cy h;refine qL (by simp[h1]) fun i hi hi'=>?_;rw[List.length_drop] at hi hi';rw[List.getElem_drop,List.getElem_drop];exact jj h _ (by omega) (by omega)
theorem DR (hC: ∀ f g,C f g→C' f g) (hB: ∀ a b,B a b→B' a b) (x:Vl): ∀ y,VR C B x y→VR C' B' x y:=by
 induction x using Vl.ind with
 | h x ih=>
  intro y h;rw[jz] at h ⊢;refine ⟨h.1,qL (cy h.2.1) fun i h1 h2=>ih _ (List.getElem_mem _) _ (jj h.2.1 i h1 h2),fun hk=>?_,fun hk=>?_⟩
  ·obtain ⟨f,g,e1,e2,h1⟩:=h.2.2.1 hk
   exact ⟨f,g,e1,e2,hC f g h1⟩
  ·obtain ⟨a,b,e1,e2,h1⟩:=h.2.2.2 hk
   exact ⟨a,b,e1,e2,hB a b h1⟩
theorem GY (hC: ∀ f g,C f g→C' f g) (hB: ∀ a b,B a b→B' a b) {xs ys:List Vl} (h:j6 C B xs ys):j6 C' B' xs ys:=
 qL (cy h) fun i h1 h2=>DR hC hB _ _ (jj h i h1 h2)
theorem lE {x:Vl} (hl:x.l= []) (hk: ¬x.k=8∧ ¬x.k=11):VR C B x x:=by
 rw[jz];exact ⟨⟨rfl,rfl,rfl,rfl⟩,by rw[hl];exact bR.2 rfl,fun h=>absurd h hk.1,fun h=>absurd h hk.2⟩
theorem uu (k:Int) (hk: ¬k=8∧ ¬k=11):VR C B (fF k) (fF k):=lE rfl hk
theorem jA:VR C B bx bx:=lE rfl (by decide)
theorem yL (b:Bool):VR C B (w8 b) (w8 b):=lE rfl (by show ¬(1:Int)=8∧ ¬(1:Int)=11;decide)
theorem GW (n d:Int):VR C B (.mk 0 n d [] [] none none) (.mk 0 n d [] [] none none):=lE rfl (by show ¬(0:Int)=8∧ ¬(0:Int)=11;decide)
theorem JN {x y x' y':Vl} (h:VR C B x x') (h':VR C B y y'):VR C B (.mk 6 0 0 [] [x,y] none none) (.mk 6 0 0 [] [x',y'] none none):=by
 rw[jz];exact ⟨⟨rfl,rfl,rfl,rfl⟩,iC h (iC h' (bR.2 rfl)),fun h=>absurd (show (6:Int)=8 from h) (by decide),fun h=>absurd (show (6:Int)=11 from h) (by decide)⟩
theorem DQ {l m:List Vl} {k:Int} (hk: ¬k=8∧ ¬k=11) (h:j6 C B l m):VR C B (.mk k 0 0 [] l none none) (.mk k 0 0 [] m none none):=by
 rw[jz];exact ⟨⟨rfl,rfl,rfl,rfl⟩,h,fun h=>absurd (show k=8 from h) hk.1,fun h=>absurd (show k=11 from h) hk.2⟩
theorem Cx: ∀ {l m:List Vl},j6 C B l m→VR C B (mu l) (mu m)
 | [],m,h=>by rw[bR.1 h];exact uu 4 (by decide)
 | x::l,m,h=>by
  obtain ⟨y,zs,rfl,h1,h2⟩:=cw.1 h;exact JN h1 (Cx h2)
theorem kR {x y:Vl} (h:VR C B x y):y.k=x.k∧y.n=x.n∧y.d=x.d∧y.s=x.s∧y.l.length=x.l.length:=by
 rw[jz] at h;exact ⟨h.1.1,h.1.2.1,h.1.2.2.1,h.1.2.2.2,cy h.2.1⟩
theorem Cw {x y:Vl} (h:VR C B x y):j6 C B x.l y.l:=((jz x y).1 h).2.1
theorem L1 {x y x' y':Vl} (h:VR C B x x') (h':VR C B y y'):NX x' y'=NX x y:=by
 obtain ⟨h1,h2,h3,h4,_⟩:=kR h;obtain ⟨g1,g2,g3,g4,_⟩:=kR h';unfold NX;rw[h1,h2,h3,h4,g1,g2,g3,g4]
theorem L2 (x:Vl): ∀ {y x' y':Vl} (left:Int),VR C B x x'→VR C B y y'→ja x' y' left=ja x y left:=by
 induction x using Vl.ind with
 | h x ih=>
  intro y x' y' left h h';obtain ⟨h1,h2,h3,h4,h5⟩:=kR h;obtain ⟨g1,g2,g3,g4,g5⟩:=kR h'
  have key: ∀ (l m l' m':List Vl) (left:Int),(∀ x∈l, ∀ {y x' y':Vl} (left:Int),VR C B x x'→VR C B y y'→ja x' y' left=ja x y left)→j6 C B l l'→j6 C B m m'→ir l' m' left=ir l m left:=by
   intro l
   induction l with
   | nil=>
    intro m l' m' left _ hl hm;rw[bR.1 hl];have:=cy hm
    cases m with
    | nil=>rw[bR.1 hm]
    | cons y m=>obtain ⟨_,_,rfl,_,_⟩:=cw.1 hm;rfl
   | cons x l ihl=>
    intro m l' m' left ihx hl hm;obtain ⟨x',zl,rfl,k1,k2⟩:=cw.1 hl
    cases m with
    | nil=>rw[bR.1 hm];rfl
    | cons y m=>
     obtain ⟨y',zm,rfl,k3,k4⟩:=cw.1 hm;rw[ir,ir,ihx x (List.mem_cons_self ..) left k1 k3]
     split
     ·rfl
     ·exact ihl m zl zm _ (fun z hz=>ihx z (List.mem_cons_of_mem _ hz)) k2 k4
  rw[tN,tN,h1,h2,h3,h4,h5,g1,g2,g3,g4,g5]
  split
  ·rfl
  ·exact key _ _ _ _ _ ih (Cw h) (Cw h')
theorem yK (x:Vl): ∀ {y:Vl},VR C B x y→j6 C B x.fW.1 y.fW.1∧VR C B x.fW.2 y.fW.2:=by
 induction x using Vl.ind with
 | h x ih=>
  intro y h
  cases x with
  | mk k n d s l p c=>
  cases y with
  | mk k' n' d' s' l' p' c'=>
  obtain ⟨h1,_,_,_,_⟩:=kR h;have hl:=Cw h;have h1':k'=k:=h1;subst h1';by_cases hk:k'=6
  ·rw[Vl.fW,Vl.fW,if_pos hk,if_pos hk]
   have hl':j6 C B l l':=hl
   match l,l',hl',ih with
   | [],l',hl',_=>rw[bR.1 hl'];exact ⟨bR.2 rfl,jA⟩
   | [a],l',hl',_=>
    obtain ⟨b,rfl,_⟩:=jk.1 hl';exact ⟨bR.2 rfl,jA⟩
   | [a,b],l',hl',ih=>
    obtain ⟨a',m,rfl,k1,k2⟩:=cw.1 hl';obtain ⟨b',rfl,k3⟩:=jk.1 k2;rw[Vl.FT,Vl.FT];have:=ih b (by show b∈ [a,b];simp) k3;exact ⟨iC k1 this.1,this.2⟩
   | a::b::e::l,l',hl',_=>
    obtain ⟨a',m,rfl,_,k2⟩:=cw.1 hl';obtain ⟨b',m,rfl,_,k3⟩:=cw.1 k2;obtain ⟨e',m,rfl,_,k4⟩:=cw.1 k3;exact ⟨bR.2 rfl,jA⟩
  ·rw[Vl.fW,Vl.fW,if_neg hk,if_neg hk]
   exact ⟨bR.2 rfl,h⟩
theorem ny {l m:List Vl} (h:j6 C B l m) (i:Nat):VR C B (l.getD i bx) (m.getD i bx):=by
 have hl:=cy h;rw[List.getD_eq_getElem?_getD,List.getD_eq_getElem?_getD];by_cases hi:i < l.length
 ·rw[List.getElem?_eq_getElem hi,List.getElem?_eq_getElem (by omega)]
  exact jj h i hi (by omega)
 ·rw[List.getElem?_eq_none (by omega),List.getElem?_eq_none (by omega)]
  exact jA
theorem L3 {x y:Vl} (h:VR C B x y):jV y=jV x:=by
 obtain ⟨h1,h2,h3,h4,_⟩:=kR h;unfold jV;rw[h1,h2,h3,h4]
theorem DT: ∀ {l m:List Vl},j6 C B l m→m.map jV=l.map jV
 | [],m,h=>by rw[bR.1 h]
 | x::l,m,h=>by
  obtain ⟨y,zs,rfl,h1,h2⟩:=cw.1 h;rw[List.map_cons,List.map_cons,L3 h1,DT h2]
theorem DS (p:Int→Bool): ∀ {l m:List Vl},j6 C B l m→(m.any fun x=>p x.k)=l.any fun x=>p x.k
 | [],m,h=>by rw[bR.1 h]
 | x::l,m,h=>by
  obtain ⟨y,zs,rfl,h1,h2⟩:=cw.1 h;rw[List.any_cons,List.any_cons,(kR h1).1,DS p h2]
theorem L5 (x:Vl): ∀ {y:Vl},VR C B x y→ ∀ out,wV false y out=wV false x out∧wV true y out=wV true x out:=by
 induction x using Vl.ind with
 | h x ih=>
  intro y h
  have keyL: ∀ (l m:List Vl),(∀ x∈l, ∀ {y:Vl},VR C B x y→ ∀ out,wV false y out=wV false x out∧wV true y out=wV true x out)→j6 C B l m→ ∀ first out,wL first m out=wL first l out:=by
   intro l
   induction l with
   | nil=>intro m _ hm first out;rw[bR.1 hm]
   | cons x l ihl=>
    intro m hx hm first out
    obtain ⟨y,zs,rfl,h1,h2⟩:=cw.1 hm;rw[wL,wL,(hx x (List.mem_cons_self ..) h1 _).1,ihl zs (fun z hz=>hx z (List.mem_cons_of_mem _ hz)) h2]
  have keyP: ∀ (l m:List Vl),(∀ x∈l, ∀ {y:Vl},VR C B x y→ ∀ out,wV false y out=wV false x out∧wV true y out=wV true x out)→j6 C B l m→ ∀ out,wP m out=wP l out:=by
   intro l m hx hm out
   match l,m,hm,hx with
   | [],m,hm,_=>rw[bR.1 hm]
   | [a],m,hm,_=>obtain ⟨b,rfl,_⟩:=jk.1 hm;rfl
   | [a,b],m,hm,hx=>
    obtain ⟨a',m,rfl,k1,k2⟩:=cw.1 hm;obtain ⟨b',rfl,k3⟩:=jk.1 k2;rw[wP,wP,(hx a (by simp) k1 _).1,(hx b (by simp) k3 _).2]
   | a::b::e::l,m,hm,_=>
    obtain ⟨a',m,rfl,_,k2⟩:=cw.1 hm;obtain ⟨b',m,rfl,_,k3⟩:=cw.1 k2;obtain ⟨e',m,rfl,_,k4⟩:=cw.1 k3;rfl
  obtain ⟨h1,h2,h3,h4,h5⟩:=kR h;have hL:=keyL _ _ ih (Cw h);have hP:=keyP _ _ ih (Cw h)
  have hc: ∀ out,kT y out=kT x out:=fun out=>by
   unfold kT;rw[h1,h2,h3,h4,hL,hP]
  intro out;rw[nv,nv,uj,uj,hc,hc,hP,h1];exact ⟨rfl,rfl⟩
theorem yM {x y:Vl} (h:VR C B x y):qD y=qD x:=by unfold qD;rw[(L5 x h []).1]
theorem GV (d:Datum): ∀ deep:Int,d.cM deep=true→VR C B (cN d) (cN d):=by
 induction d using Datum.ind with
 | h d ih=>
  intro deep h;rw[Datum.nZ,Bool.and_eq_true] at h;have h1:=h.1;unfold gN at h1;simp only[Bool.not_eq_true',Bool.or_eq_false_iff,decide_eq_false_iff_not] at h1;have hk:=h1.1.1.1.1.1
  have key: ∀ l:List Datum,(∀ y∈l, ∀ deep:Int,y.cM deep=true→VR C B (cN y) (cN y))→ ∀ deep,Datum.eZ l deep=true→j6 C B (l.map cN) (l.map cN):=by
   intro l
   induction l with
   | nil=>intro _ _ _;exact bR.2 rfl
   | cons x l ihl=>
    intro hy deep h;rw[Datum.eZ,Bool.and_eq_true] at h;exact iC (hy x (List.mem_cons_self ..) deep h.1) (ihl (fun y hm=>hy y (List.mem_cons_of_mem _ hm)) deep h.2)
  rw[jz,oa];refine ⟨⟨rfl,rfl,rfl,rfl⟩,key d.l ih _ h.2,fun h=>?_,fun h=>?_⟩
  ·have h':d.kind=8:=h
   omega
  ·have h':d.kind=11:=h
   omega
theorem JM (n:Int) (l:List Datum):VR C B (cN (iu n l).1) (cN (iu n l).1):=by
 obtain ⟨k,a,b,hk,e⟩:=u5 n l;rw[e,oa];exact lE rfl (by show ¬k=8∧ ¬k=11;omega)
def AR (C:Nat→Nat→Prop) (B:Nat→Nat→Prop) (r r':Vl×Int×List UInt8):Prop:=VR C B r.1 r'.1∧r'.2.1=r.2.1∧r'.2.2=r.2.2
theorem AR.ite {p:Prop} [Decidable p] {a b a' b':Vl×Int×List UInt8} (h:AR C B a a') (k:AR C B b b'):AR C B (if p then a else b) (if p then a' else b'):=by
 split
 ·exact h
 ·exact k
theorem AR.mk {x y:Vl} {c:Int} {o:List UInt8} (h:VR C B x y):AR C B (x,c,o) (y,c,o):=⟨h,rfl,rfl⟩
theorem AR.prt (n:Int) {l m:List Vl} (h:j6 C B l m):AR C B ((vL n l).1,(vL n l).2, []) ((vL n m).1,(vL n m).2, []):=by
 have h0:=ny h 0;have h1:=ny h 1;obtain ⟨k1,k2,k3,k4,k5⟩:=kR h0;obtain ⟨g1,g2,g3,g4,g5⟩:=kR h1;obtain ⟨i1,i2⟩:=yK _ h0;have i3:=cy i1;have i4:=(kR i2).1;unfold vL;dsimp only;rw[k1,k5,g1,g2,g3,i3,i4];by_cases c1:n=18∨n=19
 ·rw[if_pos c1,if_pos c1]
  by_cases c2: ¬(l.getD 0 bx).k=6
  ·rw[if_pos c2,if_pos c2];exact AR.mk jA
  ·rw[if_neg c2,if_neg c2];exact AR.mk (ny (Cw h0) _)
 rw[if_neg c1,if_neg c1];by_cases c1:n=22
 ·rw[if_pos c1,if_pos c1]
  by_cases c2: ¬(l.getD 0 bx).k=7∨ ¬(l.getD 1 bx).k=0
  ·rw[if_pos c2,if_pos c2];exact AR.mk jA
  rw[if_neg c2,if_neg c2];by_cases c3: ¬(l.getD 1 bx).d=1∨(l.getD 1 bx).n < 0∨((l.getD 0 bx).l.length:Int)≤(l.getD 1 bx).n
  ·rw[if_pos c3,if_pos c3];exact AR.mk jA
  ·rw[if_neg c3,if_neg c3];exact AR.mk (ny (Cw h0) _)
 rw[if_neg c1,if_neg c1];by_cases c1:n=23
 ·rw[if_pos c1]
  by_cases c2: ¬(l.getD 0 bx).k=7
  ·rw[if_pos c2];exact AR.mk jA
  ·rw[if_neg c2];exact AR.mk (GW _ _)
 rw[if_neg c1];by_cases c2:(l.getD 0 bx).fW.2.k=4
 ·rw[if_pos c2];exact AR.mk (GW _ _)
 ·rw[if_neg c2];exact AR.mk jA
theorem L4 (n:Int) {l m:List Vl} (h:j6 C B l m):AR C B (gD n l) (gD n m):=by
 have h0:=ny h 0;have h1:=ny h 1;unfold gD;dsimp only;rw[L1 h0 h1,L2 _ 1000 h0 h1,DT h,yM h0,DS (fun k=>decide (7 < k)) h,(kR h0).1];refine AR.ite (AR.mk (yL _)) (AR.ite (AR.ite (AR.mk jA) (AR.mk (yL _))) (AR.ite (AR.mk (yL _)) (AR.ite (AR.mk (DQ (by decide) h)) (AR.ite (AR.mk (Cx h)) (AR.ite (AR.mk (DQ (by decide) h)) (AR.ite (AR.mk (uu 5 (by decide))) (AR.ite (AR.mk (uu 5 (by decide))) (AR.ite (AR.prt n h) (AR.ite (AR.mk (yL _)) (AR.mk (JM _ _)))))))))))
end
structure Wd where
 m:Nat→Nat→Prop
 f:Nat→Vl→Prop
 g:Nat→Vl→Prop
 p:Nat→Nat→Int→Prop
 z:Nat→Int→Prop
structure Wd.le (w w':Wd):Prop where
 m: ∀ a b,w.m a b→w'.m a b
 f: ∀ b y,w.f b y→w'.f b y
 g: ∀ a x,w.g a x→w'.g a x
 p: ∀ a b n,w.p a b n→w'.p a b n
 z: ∀ a n,w.z a n→w'.z a n
theorem Wd.refl (w:Wd):w.le w:=⟨fun _ _ h=>h,fun _ _ h=>h,fun _ _ h=>h,fun _ _ _ h=>h,fun _ _ h=>h⟩
theorem Wd.trans {w w' w2:Wd} (h:w.le w') (k:w'.le w2):w.le w2:=⟨fun a b x=>k.m a b (h.m a b x),fun a b x=>k.f a b (h.f a b x),fun a b x=>k.g a b (h.g a b x),fun a b n x=>k.p a b n (h.p a b n x),fun a b x=>k.z a b (h.z a b x)⟩
abbrev CR:=Wd→qH→qH→Prop
abbrev VW (w:Wd):Vl→Vl→Prop:=VR (fun a b=> ∃ n,w.p a b n) w.m
abbrev G1 (w:Wd):List Vl→List Vl→Prop:=j6 (fun a b=> ∃ n,w.p a b n) w.m
def CR.mono (C:CR):Prop:= ∀ w w',w.le w'→ ∀ f g,C w f g→C w' f g
theorem VW.up {w w':Wd} (h:w.le w') {x y:Vl} (k:VW w x y):VW w' x y:=DR (fun a b ⟨n,hn⟩=>⟨n,h.p a b n hn⟩) h.m x y k
theorem G1.up {w w':Wd} (h:w.le w') {x y:List Vl} (k:G1 w x y):G1 w' x y:=GY (fun a b ⟨n,hn⟩=>⟨n,h.p a b n hn⟩) h.m k
structure Va (C:CR) (K:KC) (w:Wd) (s t:bJ):Prop where
 out:t.out=s.out
 alive:t.alive=s.alive
 to:t.to=s.to
 val:VW w s.val t.val
 pm: ∀ a b,w.m a b→ ∃ x y,aL s.h a=some (x,false)∧aL t.h b=some (y,false)∧VW w x y
 pf: ∀ b y,w.f b y→aL t.h b=some (y,false)
 pg: ∀ a x,w.g a x→aL s.h a=some (x,false)
 ij: ∀ a b a' b',w.m a b→w.m a' b'→(a=a'↔b=b')
 mf: ∀ a b y,w.m a b→ ¬w.f b y
 mg: ∀ a b x,w.m a b→ ¬w.g a x
 pp: ∀ a b n,w.p a b n→ ∃ f g,aY s.h a=some f∧aY t.h b=some g∧g.code=n∧C w f g
 pz: ∀ a n,w.z a n→ ∃ f cd,aY s.h a=some f∧K.c[n.toNat]?=some cd∧C w f (jg cd n [])
def Rs (C:CR) (K:KC) (w:Wd) (v:List Vl) (c:Int) (s':bJ) (v':List Vl) (c':Int) (t':bJ):Prop:=
 c'=c∧ ∃ w',w.le w'∧Va C K w' s' t'∧(c=0→G1 w' v v')
def Sm (C:CR) (J K:KC) (n:Int) (w:Wd) (j j':Jd):Prop:=
 ∀ w1,w.le w1→ ∀ s t,Va C K w1 s t→s.fuel≤n→ ∀ v c s',Ev J j s v c s'→ ∀ v' c' t',Ev K j' t v' c' t'→c≠8→c'≠8→Rs C K w1 v c s' v' c' t'
def Cr (C:CR) (J K:KC) (n:Int) (w:Wd) (f g:qH):Prop:=
 g.rest=f.rest∧g.v.length=f.v.length∧(f.rest=true→1≤f.v.length)∧ ∀ w1,w.le w1→ ∀ s t,Va C K w1 s t→s.fuel≤n→ ∀ xs ys,G1 w1 xs ys→xs.length=f.v.length→ ∀ az bz,az.length=f.v.length→bz.length=g.v.length→
  ∀ v c s',Ev J (.ev f.body (bM f.env f.v az) f.over) (aR s (eM s.h xs az)) v c s'→ ∀ v' c' t',Ev K (.ev g.body (bM g.env g.v bz) g.over) (aR t (eM t.h ys bz)) v' c' t'→c≠8→c'≠8→Rs C K w1 v c s' v' c' t'
section
variable {C:CR} {J K:KC}
theorem Va.less {w:Wd} {s t:bJ} (h:Va C K w s t):Va C K w (bf s) (bf t):=⟨h.out,h.alive,h.to,h.val,h.pm,h.pf,h.pg,h.ij,h.mf,h.mg,h.pp,h.pz⟩
theorem Sm.up {n:Int} {w w':Wd} {j j':Jd} (h:Sm C J K n w j j') (hw:w.le w'):Sm C J K n w' j j':=fun w1 h1=>h w1 (Wd.trans hw h1)
theorem Rs.err {w:Wd} {s t:bJ} (h:Va C K w s t) (v v':List Vl) {c:Int} (hc:c≠0):Rs C K w v c s v' c t:=⟨rfl,w,w.refl,h,fun h0=>absurd h0 hc⟩
theorem Rs.done {w:Wd} {s t:bJ} (h:Va C K w s t) {x y:Vl} (hv:VW w x y):Rs C K w [x] 0 s [y] 0 t:=⟨rfl,w,w.refl,h,fun _=>jk.2 ⟨y,rfl,hv⟩⟩
theorem Rs.back {w w':Wd} {v v':List Vl} {c c':Int} {s t:bJ} (hw:w.le w') (k:Rs C K w' v c s v' c' t):Rs C K w v c s v' c' t:=by
 obtain ⟨h1,w2,h2,h3,h5⟩:=k;exact ⟨h1,w2,Wd.trans hw h2,h3,h5⟩
theorem Rs.fail {w:Wd} {v v' z z':List Vl} {c c':Int} {s t:bJ} (k:Rs C K w v c s v' c' t) (hc:c≠0):Rs C K w z c s z' c' t:=by
 obtain ⟨rfl,w2,h2,h3,_⟩:=k;exact ⟨rfl,w2,h2,h3,fun h0=>absurd h0 hc⟩
def AJ (C:CR) (J K:KC) (n:Int) (w:Wd) (e e':bq) (o o':List Vl):List aa→List aa→Prop
 | [],l'=>l'= []
 | t::l,l'=> ∃ t' m,l'=t'::m∧Sm C J K n w (.ev t e o) (.ev t' e' o')∧AJ C J K n w e e' o o' l m
theorem AJ.of {n:Int} {w:Wd} {e e':bq} {o o':List Vl}: ∀ {l l':List aa},l'.length=l.length→(∀ i (h:i < l.length) (h':i < l'.length),Sm C J K n w (.ev l[i] e o) (.ev l'[i] e' o'))→AJ C J K n w e e' o o' l l'
 | [],l',hl,_=>List.eq_nil_of_length_eq_zero hl
 | t::l, [],hl,_=>by simp at hl
 | t::l,t'::m,hl,h=>⟨t',m,rfl,h 0 (by simp) (by simp),AJ.of (by simpa using hl) fun i h1 h2=>h (i + 1) (by simpa using h1) (by simpa using h2)⟩
theorem AJ.all {n:Int} {e e':bq} {o o':List Vl}: ∀ {l l':List aa} {w:Wd},AJ C J K n w e e' o o' l l'→Sm C J K n w (.all l e o) (.all l' e' o')
 | [],l',w,h=>by
  intro w1 hw s t hV hn v c s' h1 v' c' t' h2 _ _;rw[show l'= [] from h] at h2;cases h1;cases h2;exact ⟨rfl,w1,w1.refl,hV,fun _=>bR.2 rfl⟩
 | x::l,l',w,h=>by
  obtain ⟨x',m,rfl,hx,hl⟩:=h;intro w1 hw s t hV hn v c s' h1 v' c' t' h2 hc hc'
  cases h1 with
  | yR e1 n1=>
   cases h2 with
   | yR e2 n2=>exact (hx w1 hw s t hV hn _ _ _ e1 _ _ _ e2 hc hc').fail n1
   | wB e2 _=>exact absurd (hx w1 hw s t hV hn _ _ _ e1 _ _ _ e2 hc (by decide)).1.symm n1
   | yS e2 _ _=>exact absurd (hx w1 hw s t hV hn _ _ _ e1 _ _ _ e2 hc (by decide)).1.symm n1
  | wB e1 r1=>
   cases h2 with
   | yR e2 n2=>exact absurd (hx w1 hw s t hV hn _ _ _ e1 _ _ _ e2 (by decide) hc').1 n2
   | wB e2 r2=>
    obtain ⟨_,w2,k1,k2,k3⟩:=hx w1 hw s t hV hn _ _ _ e1 _ _ _ e2 (by decide) (by decide);obtain ⟨_,w3,k4,k5,k6⟩:=AJ.all hl w2 (Wd.trans hw k1) _ _ k2 (Int.le_trans e1.grow.2.2 hn) _ _ _ r1 _ _ _ r2 (by decide) (by decide);exact ⟨rfl,w3,Wd.trans k1 k4,k5,fun _=>iC (VW.up k4 ((bO.1 (k3 rfl)).1)) (k6 rfl)⟩
   | yS e2 r2 n2=>
    obtain ⟨_,w2,k1,k2,k3⟩:=hx w1 hw s t hV hn _ _ _ e1 _ _ _ e2 (by decide) (by decide);exact absurd (AJ.all hl w2 (Wd.trans hw k1) _ _ k2 (Int.le_trans e1.grow.2.2 hn) _ _ _ r1 _ _ _ r2 (by decide) hc').1 n2
  | yS e1 r1 n1=>
   cases h2 with
   | yR e2 n2=>exact absurd (hx w1 hw s t hV hn _ _ _ e1 _ _ _ e2 (by decide) hc').1 n2
   | wB e2 r2=>
    obtain ⟨_,w2,k1,k2,k3⟩:=hx w1 hw s t hV hn _ _ _ e1 _ _ _ e2 (by decide) (by decide);exact absurd (AJ.all hl w2 (Wd.trans hw k1) _ _ k2 (Int.le_trans e1.grow.2.2 hn) _ _ _ r1 _ _ _ r2 hc (by decide)).1.symm n1
   | yS e2 r2 n2=>
    obtain ⟨_,w2,k1,k2,k3⟩:=hx w1 hw s t hV hn _ _ _ e1 _ _ _ e2 (by decide) (by decide);exact Rs.back k1 ((AJ.all hl w2 (Wd.trans hw k1) _ _ k2 (Int.le_trans e1.grow.2.2 hn) _ _ _ r1 _ _ _ r2 hc hc').fail n1)
theorem yN {C:Nat→Nat→Prop} {B:Nat→Nat→Prop} {l m:List Vl} (h:j6 C B l m) (k:Nat) (r:Bool):(jr l k r=none∧jr m k r=none)∨ ∃ xs ys,jr l k r=some xs∧jr m k r=some ys∧j6 C B xs ys:=by
 have hl:=cy h;unfold jr;rw[hl]
 split
 ·exact .inr ⟨_,_,rfl,rfl,Cy (G0 _ h) (iC (Cx (GX _ h)) (bR.2 rfl))⟩
 ·split
  ·exact .inr ⟨_,_,rfl,rfl,h⟩
  ·exact .inl ⟨rfl,rfl⟩
theorem Nb {l xs:List Vl} {k:Nat} {r:Bool} (h1:r=true→1≤k) (h:jr l k r=some xs):xs.length=k:=by
 unfold jr at h
 split at h
 ·rename_i hc
  have:=h1 hc.1;rw[←Option.some.inj h];simp;omega
 ·split at h
  ·rename_i hc
   rw[←Option.some.inj h,hc.2]
  ·cases h
theorem VW.k {w:Wd} {x y:Vl} (h:VW w x y):y.k=x.k:=(kR h).1
theorem Sm.calls {n:Int} (hc: ∀ w f g,C w f g→Cr C J K n w f g) {j:Jd} {s:bJ} {v:List Vl} {c:Int} {s':bJ} (h:Ev J j s v c s'):match j with
  | .call f l=> ∀ w t f' l',Va C K w s t→s.fuel≤n→VW w f f'→G1 w l l'→ ∀ v' c' t',Ev K (.call f' l') t v' c' t'→c≠8→c'≠8→Rs C K w v c s' v' c' t'
  | .qo p l=> ∀ w t l',Va C K w s t→s.fuel≤n→G1 w l l'→ ∀ v' c' t',Ev K (.qo p l') t v' c' t'→c≠8→c'≠8→Rs C K w v c s' v' c' t'
  | _=>True:=by
 have hE: ∀ {w:Wd} (id:Nat),VW w (uT id) (uT id):=fun id=>lE rfl (by show ¬(10:Int)=8∧ ¬(10:Int)=11;decide)
 have hnew: ∀ {w s t},Va C K w s t→Va C K w ⟨s.fuel,s.out,s.alive++ [true],s.to,s.val,s.h⟩ ⟨t.fuel,t.out,t.alive++ [true],t.to,t.val,t.h⟩:=fun h=>
  ⟨h.out,by show _++ [true]=_++ [true];rw[h.alive],h.to,h.val,h.pm,h.pf,h.pg,h.ij,h.mf,h.mg,h.pp,h.pz⟩
 have hset: ∀ {w s t} (i:Nat),Va C K w s t→Va C K w ⟨s.fuel,s.out,s.alive.set i false,s.to,s.val,s.h⟩ ⟨t.fuel,t.out,t.alive.set i false,t.to,t.val,t.h⟩:=fun i h=>
  ⟨h.out,by show List.set _ _ _=List.set _ _ _;rw[h.alive],h.to,h.val,h.pm,h.pf,h.pg,h.ij,h.mf,h.mg,h.pp,h.pz⟩
 induction h with
 | @wH f l s v c s' hk h1 ih=>
  intro w t f' l' hV hn hf hl v' c' t' h2 n1 n2;have hk':=hf.k
  cases h2 with
  | wH hk2 h2=>
   rw[(kR hf).2.1] at h2;exact ih w t l' hV hn hl _ _ _ h2 n1 n2
  | wG hk2 | wD hk2 | wE hk2 | wF hk2 | GA hk2=>exfalso;omega
  | wC h8 h9 h10=>exfalso;omega
 | @wG f l s hk hl1=>
  intro w t f' l' hV hn hf hl v' c' t' h2 n1 n2;have hk':=hf.k;have hlen:=cy hl
  cases h2 with
  | wH hk2 | wF hk2 | GA hk2=>exfalso;omega
  | wD hk2 | wE hk2=>exact absurd (by rw[←hlen];rfl) hl1
  | wG hk2=>exact Rs.err hV _ _ (by decide)
  | wC h8 h9 h10=>exfalso;omega
 | @wD f x s hk ha=>
  intro w t f' l' hV hn hf hl v' c' t' h2 n1 n2;have hk':=hf.k;have hn':=(kR hf).2.1;have hlen:=cy hl
  cases h2 with
  | wH hk2 | wF hk2 | GA hk2=>exfalso;omega
  | wG hk2 hl2=>exact absurd hlen hl2
  | wD hk2 ha2=>exact Rs.err hV _ _ (by decide)
  | wE hk2 ha2=>
   rw[hn',hV.alive,ha] at ha2;cases ha2
  | wC h8 h9 h10=>exfalso;omega
 | @wE f x s hk ha=>
  intro w t f' l' hV hn hf hl v' c' t' h2 n1 n2;have hk':=hf.k;have hn':=(kR hf).2.1;have hlen:=cy hl
  cases h2 with
  | wH hk2 | wF hk2 | GA hk2=>exfalso;omega
  | wG hk2 hl2=>exact absurd hlen hl2
  | wD hk2 ha2=>
   rw[hn',hV.alive,ha] at ha2;cases ha2
  | wE hk2 ha2=>exact ⟨rfl,w,w.refl,⟨hV.out,hV.alive,hn',(bO.1 hl).1,hV.pm,hV.pf,hV.pg,hV.ij,hV.mf,hV.mg,hV.pp,hV.pz⟩,fun h=>absurd h (by decide)⟩
  | wC h8 h9 h10=>exfalso;omega
 | @wF f l s q cl hk hp hq hx=>
  intro w t f' l' hV hn hf hl v' c' t' h2 n1 n2;have hk':=hf.k;obtain ⟨a1,b1,e1,e2,m1,hm⟩:=((jz f f').1 hf).2.2.1 hk;obtain ⟨f1,g1,p1,p2,_,hcl⟩:=hV.pp _ _ _ hm;rw[hp] at e1;cases e1;rw[hq] at p1;cases p1;obtain ⟨c1,c2,c3,_⟩:=hc w _ _ hcl
  cases h2 with
  | wH hk2 | wG hk2 | wD hk2 | wE hk2=>exfalso;omega
  | wF hk2=>exact Rs.err hV _ _ (by decide)
  | GA hk2 hp2 hq2 hx2 _ _=>
   rw[e2] at hp2;cases hp2;rw[p2] at hq2;cases hq2;rw[c1,c2] at hx2
   rcases yN hl cl.v.length cl.rest with ⟨_,h4⟩ | ⟨xs,ys,h3,_⟩
   ·rw[h4] at hx2;cases hx2
   ·rw[h3] at hx;cases hx
  | wC h8 h9 h10=>exfalso;omega
 | @GA f l s q cl xs az v c s' hk hp hq hx ha h1 ih=>
  intro w t f' l' hV hn hf hl v' c' t' h2 n1 n2;have hk':=hf.k;obtain ⟨a1,b1,e1,e2,m1,hm⟩:=((jz f f').1 hf).2.2.1 hk;obtain ⟨f1,g1,p1,p2,_,hcl⟩:=hV.pp _ _ _ hm;rw[hp] at e1;cases e1;rw[hq] at p1;cases p1;obtain ⟨c1,c2,c3,c4⟩:=hc w _ _ hcl
  cases h2 with
  | wH hk2 | wG hk2 | wD hk2 | wE hk2=>exfalso;omega
  | wF hk2 hp2 hq2 hx2=>
   rw[e2] at hp2;cases hp2;rw[p2] at hq2;cases hq2;rw[c1,c2] at hx2
   rcases yN hl cl.v.length cl.rest with ⟨h3,_⟩ | ⟨xs,ys,_,h4,_⟩
   ·rw[h3] at hx;cases hx
   ·rw[h4] at hx2;cases hx2
  | GA hk2 hp2 hq2 hx2 ha2 h2=>
   rw[e2] at hp2;cases hp2;rw[p2] at hq2;cases hq2;rw[c1,c2] at hx2
   rcases yN hl cl.v.length cl.rest with ⟨h3,_⟩ | ⟨xs',ys',h3,h4,h5⟩
   ·rw[h3] at hx;cases hx
   ·rw[h3] at hx
    obtain rfl:=Option.some.inj hx;rw[h4] at hx2;obtain rfl:=Option.some.inj hx2;exact c4 w w.refl s t hV hn _ _ h5 (Nb c3 h3) az _ ha ha2 _ _ _ h1 _ _ _ h2 n1 n2
  | wC h8 h9 h10=>exfalso;omega
 | @wC f l s h8 h9 h10=>
  intro w t f' l' hV hn hf hl v' c' t' h2 n1 n2;have hk':=hf.k
  cases h2 with
  | wH hk2 | wG hk2 | wD hk2 | wE hk2 | wF hk2 | GA hk2=>exfalso;omega
  | wC _ _ _=>exact Rs.err hV _ _ (by decide)
 | @pN p l s ht=>
  intro w t l' hV hn hl v' c' t' h2 n1 n2;have hlen:=cy hl
  cases h2 with
  | pN=>exact Rs.err hV _ _ (by decide)
  | pR | pE | pJ | pL | pA=>
   simp only[List.length_cons,List.length_nil] at hlen;rw[←hlen] at ht
   first
    | exact absurd (show gF 28 1=false from ht) (by decide)
    | exact absurd (show gF 29 1=false from ht) (by decide)
    | exact absurd (show gF 30 2=false from ht) (by decide)
  | pS _ ht2=>rw[hlen,ht] at ht2;cases ht2
 | @pR x s=>
  intro w t l' hV hn hl v' c' t' h2 n1 n2;have hlen:=cy hl
  cases h2 with
  | pN ht2=>rw[hlen] at ht2;exact absurd (show gF 28 1=false from ht2) (by decide)
  | pR=>exact ⟨rfl,w,w.refl,⟨hV.out,hV.alive,hV.to,(bO.1 hl).1,hV.pm,hV.pf,hV.pg,hV.ij,hV.mf,hV.mg,hV.pp,hV.pz⟩,fun h=>absurd h (by decide)⟩
  | pS hn2=>exfalso;omega
 | @pE f s v c s' h1 hno ih=>
  intro w t l' hV hn hl v' c' t' h2 n1 n2;have hlen:=cy hl
  cases h2 with
  | pN ht2=>rw[hlen] at ht2;exact absurd (show gF 29 1=false from ht2) (by decide)
  | pE h2 hno2=>
   rw[hV.alive] at h2;obtain ⟨e,w2,k1,k2,k3⟩:=ih w _ _ _ (hnew hV) hn (bO.1 hl).1 (iC (hE _) (bR.2 rfl)) _ _ _ (by rw[hV.alive];exact h2) n1 n2;rw[hV.alive];exact ⟨e,w2,k1,hset _ k2,k3⟩
  | pJ h2 hto2=>
   rw[hV.alive] at h2 hto2;obtain ⟨e,w2,k1,k2,k3⟩:=ih w _ _ _ (hnew hV) hn (bO.1 hl).1 (iC (hE _) (bR.2 rfl)) _ _ _ (by rw[hV.alive];exact h2) n1 (by decide);exact absurd ⟨e.symm,by rw[←k2.to];exact hto2⟩ hno
  | pS hn2=>exfalso;omega
 | @pJ f s v s' h1 hto ih=>
  intro w t l' hV hn hl v' c' t' h2 n1 n2;have hlen:=cy hl
  cases h2 with
  | pN ht2=>rw[hlen] at ht2;exact absurd (show gF 29 1=false from ht2) (by decide)
  | pE h2 hno2=>
   rw[hV.alive] at h2 hno2;obtain ⟨e,w2,k1,k2,k3⟩:=ih w _ _ _ (hnew hV) hn (bO.1 hl).1 (iC (hE _) (bR.2 rfl)) _ _ _ (by rw[hV.alive];exact h2) (by decide) n2;exact absurd ⟨e,by rw[k2.to];exact hto⟩ hno2
  | pJ h2 hto2=>
   rw[hV.alive] at h2;obtain ⟨e,w2,k1,k2,k3⟩:=ih w _ _ _ (hnew hV) hn (bO.1 hl).1 (iC (hE _) (bR.2 rfl)) _ _ _ (by rw[hV.alive];exact h2) (by decide) (by decide);rw[hV.alive];exact ⟨rfl,w2,k1,hset _ k2,fun _=>iC k2.val (bR.2 rfl)⟩
  | pS hn2=>exfalso;omega
 | @pL f x s hk=>
  intro w t l' hV hn hl v' c' t' h2 n1 n2;have hlen:=cy hl
  cases h2 with
  | pN ht2=>rw[hlen] at ht2;exact absurd (show gF 30 2=false from ht2) (by decide)
  | pL _=>exact Rs.err hV _ _ (by decide)
  | pA hk2 _=>
   have:=(yK _ (bO.1 (bO.1 hl).2).1).2;exact absurd (by rw[←(kR this).1];exact hk2) hk
  | pS hn2=>exfalso;omega
 | @pA f x s v c s' hk h1 ih=>
  intro w t l' hV hn hl v' c' t' h2 n1 n2;have hlen:=cy hl
  cases h2 with
  | pN ht2=>rw[hlen] at ht2;exact absurd (show gF 30 2=false from ht2) (by decide)
  | pL hk2=>
   have:=(yK _ (bO.1 (bO.1 hl).2).1).2;exact absurd (by rw[(kR this).1];exact hk) hk2
  | pA hk2 h2=>exact ih w t _ _ hV hn (bO.1 hl).1 (yK _ (bO.1 (bO.1 hl).2).1).1 _ _ _ h2 n1 n2
  | pS hn2=>exfalso;omega
 | @pS p l s hn1 ht=>
  intro w t l' hV hn hl v' c' t' h2 n1 n2;have hlen:=cy hl
  cases h2 with
  | pN ht2=>rw[hlen,ht] at ht2;cases ht2
  | pR | pE | pJ | pL | pA=>exfalso;omega
  | pS _ _=>
   obtain ⟨k1,k2,k3⟩:=L4 (C:=fun a b=> ∃ n,w.p a b n) (B:=w.m) p hl;refine ⟨k2,w,w.refl,⟨?_,hV.alive,hV.to,hV.val,hV.pm,hV.pf,hV.pg,hV.ij,hV.mf,hV.mg,hV.pp,hV.pz⟩,fun _=>iC k1 (bR.2 rfl)⟩;show t.out++_=s.out++_;rw[k3,hV.out]
 | _=>trivial
end
theorem iS: ∀ {h:Hp} {a:Nat} {x:Vl} {r:Bool},aL h a=some (x,r)→a∈h.map (fun c=>c.1)
 | (b,.cell y q)::h,a,x,r,hg=>by
  rw[aL] at hg;by_cases hc:b=a
  ·rw[←hc,List.map_cons];exact List.mem_cons_self ..
  ·rw[if_neg hc] at hg
   exact List.mem_cons_of_mem _ (iS hg)
 | (b,.eH f)::h,a,x,r,hg=>by
  rw[aL] at hg;exact List.mem_cons_of_mem _ (iS hg)
theorem qm: ∀ {h:Hp} {a:Nat} {f:qH},aY h a=some f→a∈h.map (fun c=>c.1)
 | (b,.cell y q)::h,a,f,hg=>by
  rw[aY] at hg;exact List.mem_cons_of_mem _ (qm hg)
 | (b,.eH g)::h,a,f,hg=>by
  rw[aY] at hg;by_cases hc:b=a
  ·rw[←hc,List.map_cons];exact List.mem_cons_self ..
  ·rw[if_neg hc] at hg
   exact List.mem_cons_of_mem _ (qm hg)
theorem gb: ∀ {h:Hp} {a:Nat} {y x:Vl} {r:Bool},aL h a=some (y,r)→aL (hput h a x) a=some (x,r)
 | (b,.cell z q)::h,a,y,x,r,hg=>by
  rw[aL] at hg;rw[hput];by_cases hc:b=a
  ·rw[if_pos hc] at hg⊢
   rw[aL,if_pos hc];cases hg;rfl
  ·rw[if_neg hc] at hg⊢
   rw[aL,if_neg hc];exact gb hg
 | (b,.eH f)::h,a,y,x,r,hg=>by
  rw[aL] at hg;rw[hput,aL];exact gb hg
theorem c9: ∀ {h:Hp} {a b:Nat} {x:Vl},a≠b→aL (hput h b x) a=aL h a
 | [],_,_,_,_=>rfl
 | (c,.cell z q)::h,a,b,x,hn=>by
  rw[hput];by_cases hc:c=b
  ·rw[if_pos hc,aL,aL]
   have h1: ¬c=a:=fun e=>hn (e.symm.trans hc);rw[if_neg h1,if_neg h1]
  ·rw[if_neg hc,aL,aL,c9 hn]
 | (c,.eH f)::h,a,b,x,hn=>by rw[hput,aL,aL,c9 hn]
theorem kK: ∀ {h:Hp} {a:Nat} {f:qH} {o:List Vl},aY h a=some f→aY (dL h a o) a=some (MQ f o)
 | (b,.eH g)::h,a,f,o,hg=>by
  rw[aY] at hg;rw[dL];by_cases hc:b=a
  ·rw[if_pos hc] at hg⊢
   rw[aY,if_pos hc];cases hg;rfl
  ·rw[if_neg hc] at hg⊢
   rw[aY,if_neg hc];exact kK hg
 | (b,.cell y r)::h,a,f,o,hg=>by
  rw[aY] at hg;rw[dL,aY];exact kK hg
theorem gW: ∀ {h:Hp} {a b:Nat} {o:List Vl},a≠b→aY (dL h b o) a=aY h a
 | [],_,_,_,_=>rfl
 | (c,.eH g)::h,a,b,o,hn=>by
  rw[dL];by_cases hc:c=b
  ·rw[if_pos hc,aY,aY]
   have h1: ¬c=a:=fun e=>hn (e.symm.trans hc);rw[if_neg h1,if_neg h1]
  ·rw[if_neg hc,aY,aY,gW hn]
 | (c,.cell y r)::h,a,b,o,hn=>by rw[dL,aY,aY,gW hn]
def gI (h h':Hp):Prop:=(∀ a x r,aL h a=some (x,r)→aL h' a=some (x,r))∧ ∀ a f,aY h a=some f→aY h' a=some f
theorem gI.refl (h:Hp):gI h h:=⟨fun _ _ _ e=>e,fun _ _ e=>e⟩
theorem gI.trans {h h' h2:Hp} (k:gI h h') (k':gI h' h2):gI h h2:=⟨fun a x r e=>k'.1 a x r (k.1 a x r e),fun a f e=>k'.2 a f (k.2 a f e)⟩
theorem gI.cons {h:Hp} {a:Nat} {o:Ob} (hn:a∉h.map (fun c=>c.1)):gI h ((a,o)::h):=by
 refine ⟨fun b y q e=>?_,fun b f e=>?_⟩
 ·cases o with
  | cell x r=>
   rw[aL];by_cases hb:a=b
   ·subst hb
    exact absurd (iS e) hn
   ·exact (if_neg hb).trans e
  | eH f=>rw[aL];exact e
 ·cases o with
  | cell x r=>rw[aY];exact e
  | eH g=>
   rw[aY];by_cases hb:a=b
   ·subst hb
    exact absurd (qm e) hn
   ·exact (if_neg hb).trans e
theorem gI.new {h:Hp} {a:Nat} {o:Ob} (hn:oz ((a,o)::h)):gI h ((a,o)::h):=gI.cons (List.nodup_cons.1 hn).1
theorem nN {h:Hp} {a:Nat} {x:Vl} {r:Bool}:aL ((a,.cell x r)::h) a=some (x,r):=by rw[aL,if_pos rfl]
theorem iH {h:Hp} {a:Nat} {f:qH}:aY ((a,.eH f)::h) a=some f:=by rw[aY,if_pos rfl]
theorem Ez: ∀ {xs:List Vl} {az:List Nat} {h:Hp},az.length=xs.length→(eM h xs az).map (fun c=>c.1)=az.reverse++h.map (fun c=>c.1)
 | [],az,h,hl=>by rw[List.eq_nil_of_length_eq_zero hl];rfl
 | x::xs, [],h,hl=>by simp at hl
 | x::xs,a::az,h,hl=>by rw[eM,Ez (by simpa using hl),List.reverse_cons,List.append_assoc];rfl
theorem lK: ∀ {xs:List Vl} {az:List Nat} {h:Hp},az.length=xs.length→oz (eM h xs az)→gI h (eM h xs az)∧az.Nodup∧(∀ a∈az,a∉h.map fun c=>c.1)∧ ∀ i (hi:i < xs.length) (ha:i < az.length),aL (eM h xs az) az[i]=some (xs[i],false)
 | [],az,h,hl,_=>by
  rw[List.eq_nil_of_length_eq_zero hl];exact ⟨gI.refl h,List.nodup_nil,fun a ha=>(by cases ha),fun i hi=>absurd hi (Nat.not_lt_zero _)⟩
 | x::xs, [],h,hl,_=>by simp at hl
 | x::xs,a::az,h,hl,hd=>by
  have hl':az.length=xs.length:=by simpa using hl
  rw[eM] at hd ⊢;obtain ⟨h1,h2,h3,h4⟩:=lK hl' hd;unfold oz at hd;rw[Ez hl',List.nodup_append] at hd;have hd2:=hd.2.1;rw[List.map_cons,List.nodup_cons] at hd2;have hc:=gI.cons (o:=.cell x false) hd2.1;refine ⟨hc.trans h1,?_,?_,?_⟩
  ·rw[List.nodup_cons]
   exact ⟨fun ha=>hd.2.2 a (List.mem_reverse.2 ha) a (List.mem_cons_self ..) rfl,h2⟩
  ·intro b hb
   rcases List.mem_cons.1 hb with rfl | hb
   ·exact hd2.1
   ·exact fun hm=>h3 b hb (by rw[List.map_cons];exact List.mem_cons_of_mem _ hm)
  ·intro i hi ha
   match i,hi,ha with
   | 0,_,_=>exact h1.1 _ _ _ nN
   | i + 1,hi,ha=>exact h4 i (by simpa using hi) (by simpa using ha)
theorem kY: ∀ {us:List Int} {bz:List Nat} {e:bq} {w:Int},w∉us→fc (bM e us bz) w=fc e w
 | [],bz,e,w,_=>by cases bz<;>rfl
 | u::us, [],e,w,_=>rfl
 | u::us,c::bz,e,w,hn=>by
  rw[bM,kY fun h=>hn (List.mem_cons_of_mem _ h),fc,if_neg fun h=>hn (by rw[h];exact List.mem_cons_self ..)]
theorem ext_get: ∀ {us:List Int} {bz:List Nat} {e:bq},us.Nodup→bz.length=us.length→ ∀ i (h:i < us.length) (h':i < bz.length),fc (bM e us bz) us[i]=some bz[i]
 | u::us,c::bz,e,hd,hl,i,h,h'=>by
  rw[List.nodup_cons] at hd;rw[bM]
  match i,h,h' with
  | 0,_,_=>
   rw[List.getElem_cons_zero,List.getElem_cons_zero,kY hd.1,fc,if_pos rfl]
  | i + 1,h,h'=>exact ext_get hd.2 (by simpa using hl) i (by simpa using h) (by simpa using h')
section
variable {C:CR} {K:KC} {w:Wd} {s t:bJ}
theorem Va.Nv (h:Va C K w s t) {a:Nat} (ha:a∉s.h.map fun c=>c.1): ∀ b, ¬w.m a b:=fun b hb=>by
 obtain ⟨x,y,h1,_⟩:=h.pm a b hb;exact ha (iS h1)
theorem Va.rU (h:Va C K w s t) {b:Nat} (hb:b∉t.h.map fun c=>c.1): ∀ a, ¬w.m a b:=fun a ha=>by
 obtain ⟨x,y,_,h1,_⟩:=h.pm a b ha;exact hb (iS h1)
def iB (s s':bJ):Prop:=s'.out=s.out∧s'.alive=s.alive∧s'.to=s.to∧s'.val=s.val
theorem iB.refl (s:bJ):iB s s:=⟨rfl,rfl,rfl,rfl⟩
theorem iB.less (s:bJ):iB s (bf s):=⟨rfl,rfl,rfl,rfl⟩
theorem iB.trans {s s1 s2:bJ} (h:iB s s1) (k:iB s1 s2):iB s s2:=⟨k.1.trans h.1,k.2.1.trans h.2.1,k.2.2.1.trans h.2.2.1,k.2.2.2.trans h.2.2.2⟩
theorem Va.ye (h:Va C K w s t) {s' t':bJ} (p:iB s s') (q:iB t t') (h1:gI s.h s'.h) (h2:gI t.h t'.h):Va C K w s' t':=
 ⟨by rw[q.1,p.1,h.out],by rw[q.2.1,p.2.1,h.alive],by rw[q.2.2.1,p.2.2.1,h.to],by rw[q.2.2.2,p.2.2.2];exact h.val,fun a b hm=>by obtain ⟨x,y,e1,e2,e3⟩:=h.pm a b hm;exact ⟨x,y,h1.1 _ _ _ e1,h2.1 _ _ _ e2,e3⟩,fun b y hf=>h2.1 _ _ _ (h.pf b y hf),fun a x hg=>h1.1 _ _ _ (h.pg a x hg),h.ij,h.mf,h.mg,
  fun a b n hp=>by obtain ⟨f,g,e1,e2,e3⟩:=h.pp a b n hp;exact ⟨f,g,h1.2 _ _ e1,h2.2 _ _ e2,e3⟩,fun a n hz=>by obtain ⟨f,cd,e1,e2⟩:=h.pz a n hz;exact ⟨f,cd,h1.2 _ _ e1,e2⟩⟩
def Wd.plus (w:Wd) (q r:Nat→Vl→Prop) (u:Nat→Nat→Int→Prop) (z:Nat→Int→Prop):Wd:=⟨w.m,fun b y=>w.f b y∨q b y,fun a x=>w.g a x∨r a x,fun a b n=>w.p a b n∨u a b n,fun a n=>w.z a n∨z a n⟩
theorem Wd.iO (w:Wd) (q r:Nat→Vl→Prop) (u:Nat→Nat→Int→Prop) (z:Nat→Int→Prop):w.le (w.plus q r u z):=⟨fun _ _ h=>h,fun _ _ h=>.inl h,fun _ _ h=>.inl h,fun _ _ _ h=>.inl h,fun _ _ h=>.inl h⟩
theorem Va.link (hC:C.mono) (h:Va C K w s t) {q r:Nat→Vl→Prop} {u:Nat→Nat→Int→Prop} {z:Nat→Int→Prop}
  (hq: ∀ b y,q b y→aL t.h b=some (y,false)∧ ∀ a, ¬w.m a b) (hr: ∀ a x,r a x→aL s.h a=some (x,false)∧ ∀ b, ¬w.m a b)
  (hu: ∀ a b n,u a b n→ ∃ f g,aY s.h a=some f∧aY t.h b=some g∧g.code=n∧C (w.plus q r u z) f g)
  (hz: ∀ a n,z a n→ ∃ f cd,aY s.h a=some f∧K.c[n.toNat]?=some cd∧C (w.plus q r u z) f (jg cd n [])):Va C K (w.plus q r u z) s t:=by
 have hw:=w.iO q r u z;refine ⟨h.out,h.alive,h.to,VW.up hw h.val,?_,?_,?_,h.ij,?_,?_,?_,?_⟩
 ·intro a b h1
  obtain ⟨x,y,e1,e2,e3⟩:=h.pm a b h1;exact ⟨x,y,e1,e2,VW.up hw e3⟩
 ·rintro b y (h1 | h1)
  ·exact h.pf b y h1
  ·exact (hq b y h1).1
 ·rintro a x (h1 | h1)
  ·exact h.pg a x h1
  ·exact (hr a x h1).1
 ·rintro a b y h1 (h2 | h2)
  ·exact h.mf _ _ _ h1 h2
  ·exact (hq b y h2).2 a h1
 ·rintro a b x h1 (h2 | h2)
  ·exact h.mg _ _ _ h1 h2
  ·exact (hr a x h2).2 b h1
 ·rintro a b n (h1 | h1)
  ·obtain ⟨f,g,e1,e2,e3,e4⟩:=h.pp a b n h1
   exact ⟨f,g,e1,e2,e3,hC _ _ hw _ _ e4⟩
  ·exact hu a b n h1
 ·rintro a n (h1 | h1)
  ·obtain ⟨f,cd,e1,e2,e3⟩:=h.pz a n h1
   exact ⟨f,cd,e1,e2,hC _ _ hw _ _ e3⟩
  ·exact hz a n h1
theorem Va.box (hC:C.mono) (h:Va C K w s t) {a b:Nat} {x y:Vl} (ha:oz ((a,.cell x false)::s.h)) (hb:oz ((b,.cell y false)::t.h)) (hv:VW w x y):
  ∃ w',w.le w'∧Va C K w' (aR s ((a,.cell x false)::s.h)) (aR t ((b,.cell y false)::t.h))∧w'.m a b:=by
 have na:=(List.nodup_cons.1 ha).1;have nb:=(List.nodup_cons.1 hb).1;have k:=h.ye (s':=aR s ((a,.cell x false)::s.h)) (t':=aR t ((b,.cell y false)::t.h)) ⟨rfl,rfl,rfl,rfl⟩ ⟨rfl,rfl,rfl,rfl⟩ (gI.new ha) (gI.new hb)
 have hw:w.le ⟨fun a' b'=>w.m a' b'∨(a'=a∧b'=b),w.f,w.g,w.p,w.z⟩:=⟨fun _ _ h=>.inl h,fun _ _ h=>h,fun _ _ h=>h,fun _ _ _ h=>h,fun _ _ h=>h⟩
 refine ⟨⟨fun a' b'=>w.m a' b'∨(a'=a∧b'=b),w.f,w.g,w.p,w.z⟩,hw,⟨k.out,k.alive,k.to,VW.up hw k.val,?_,k.pf,k.pg,?_,?_,?_,?_,?_⟩,.inr ⟨rfl,rfl⟩⟩
 ·rintro a' b' (h1 | ⟨rfl,rfl⟩)
  ·obtain ⟨x',y',e1,e2,e3⟩:=k.pm _ _ h1
   exact ⟨x',y',e1,e2,VW.up hw e3⟩
  ·exact ⟨x,y,nN,nN,VW.up hw hv⟩
 ·rintro a1 b1 a2 b2 (h1 | ⟨rfl,rfl⟩) (h2 | ⟨rfl,rfl⟩)
  ·exact h.ij _ _ _ _ h1 h2
  ·exact ⟨fun e=>absurd (e▸h1) (h.Nv na b1),fun e=>absurd (e▸h1) (h.rU nb a1)⟩
  ·exact ⟨fun e=>absurd (e▸h2) (h.Nv na b2),fun e=>absurd (e▸h2) (h.rU nb a2)⟩
  ·exact ⟨fun _=>rfl,fun _=>rfl⟩
 ·rintro a' b' y' (h1 | ⟨rfl,rfl⟩) h2
  ·exact h.mf _ _ _ h1 h2
  ·exact nb (iS (h.pf _ _ h2))
 ·rintro a' b' y' (h1 | ⟨rfl,rfl⟩) h2
  ·exact h.mg _ _ _ h1 h2
  ·exact na (iS (h.pg _ _ h2))
 ·intro a' b' n h1
  obtain ⟨f,g,e1,e2,e3,e4⟩:=k.pp a' b' n h1;exact ⟨f,g,e1,e2,e3,hC _ _ hw _ _ e4⟩
 ·intro a' n h1
  obtain ⟨f,cd,e1,e2,e3⟩:=k.pz a' n h1;exact ⟨f,cd,e1,e2,hC _ _ hw _ _ e3⟩
theorem Va.put (h:Va C K w s t) {a b:Nat} {x y:Vl} (hm:w.m a b) (hv:VW w x y):Va C K w (aR s (hput s.h a x)) (aR t (hput t.h b y)):=by
 refine ⟨h.out,h.alive,h.to,h.val,?_,?_,?_,h.ij,h.mf,h.mg,?_,?_⟩
 ·intro a' b' hm'
  obtain ⟨x',y',e1,e2,e3⟩:=h.pm a' b' hm';by_cases ha:a'=a
  ·have hb:=(h.ij _ _ _ _ hm' hm).1 ha
   subst ha hb;exact ⟨x,y,gb e1,gb e2,hv⟩
  ·have hb:b'≠b:=fun e=>ha ((h.ij _ _ _ _ hm' hm).2 e)
   exact ⟨x',y',(c9 ha).trans e1,(c9 hb).trans e2,e3⟩
 ·intro b' y' hf
  exact (c9 (fun e=>h.mf _ _ _ hm (e▸hf))).trans (h.pf _ _ hf)
 ·intro a' x' hg
  exact (c9 (fun e=>h.mg _ _ _ hm (e▸hg))).trans (h.pg _ _ hg)
 ·intro a' b' n hp
  obtain ⟨f,g,e1,e2,e3⟩:=h.pp a' b' n hp;exact ⟨f,g,(fN _ _ _ _).trans e1,(fN _ _ _ _).trans e2,e3⟩
 ·intro a' n hz
  obtain ⟨f,cd,e1,e2⟩:=h.pz a' n hz;exact ⟨f,cd,(fN _ _ _ _).trans e1,e2⟩
end
section
variable {K:KC} {t:aa} {e:bq} {s:bJ} {vs:List Vl} {c:Int} {s':bJ} {o:List Vl}
theorem Ev.dn (h:Ev K (.ev t e o) s vs c s') (hc:c≠8): ∃ v,vs= [v]∧oz s.h∧Ev K (.go t e o) (bf s) [v] c s':=by
 cases h with
 | Ns=>exact absurd rfl hc
 | ev h0 hnd hg=>exact ⟨_,rfl,hnd,hg⟩
theorem Ev.o4 (h:Ev K (.go t e o) s vs c s') (ho:t.op=2∨t.op=5∨t.op=6∨t.op=10∨t.op=12∨(14≤t.op∧t.op≤19)∨t.op=22):(c≠0∧vs= [bx]∧ ∃ us,Ev K (.all t.t e o) s us c s')∨ ∃ v us s1,vs= [v]∧Ev K (.all t.t e o) s us 0 s1∧Ev K (.str t us e) s1 [v] c s':=by
 cases h with
 | Jj _ ha hc=>exact .inl ⟨hc,rfl,_,ha⟩
 | st _ ha hs=>exact .inr ⟨_,_,_,rfl,ha,hs⟩
 | _=>exfalso;omega
theorem Ev.j7 {l:List aa} (h:Ev K (.all (t::l) e o) s vs c s'):(c≠0∧ ∃ v,Ev K (.ev t e o) s [v] c s')∨ ∃ x s1 us,Ev K (.ev t e o) s [x] 0 s1∧Ev K (.all l e o) s1 us c s'∧(c=0→vs=x::us):=by
 cases h with
 | yR h1 hc=>exact .inl ⟨hc,_,h1⟩
 | wB h1 h2=>exact .inr ⟨_,_,_,h1,h2,fun _=>rfl⟩
 | yS h1 h2 hc=>exact .inr ⟨_,_,_,h1,h2,fun h=>absurd h hc⟩
theorem Ev.tW (h:Ev K (.all [] e o) s vs c s'):vs= []∧c=0∧s'=s:=by
 cases h with
 | G7=>exact ⟨rfl,rfl,rfl⟩
theorem Ev.Ah (h:Ev K (.go t e o) s vs c s') (ho:t.op=1) {a:Nat} {x:Vl} (hf:fc e t.n=some a) (hg:aL s.h a=some (x,false)):vs= [x]∧c=0∧s'=s:=by
 cases h with
 | ref _ hf' hg' _=>
  rw[hf] at hf';cases hf';rw[hg] at hg';cases hg';exact ⟨rfl,rfl,rfl⟩
 | wY _ hf' hg' _=>
  rw[hf] at hf';cases hf';rw[hg] at hg';cases hg'
 | _=>exfalso;omega
theorem Ev.Ke (h:Ev K (.go t e o) s vs c s') (ho:t.op=20) {x:Vl} (hg:o[t.n.toNat]?=some x) (hn:0≤t.n):vs= [x]∧c=0∧s'=s:=by
 cases h with
 | GF _ hg'=>
  rw[hg] at hg';cases hg';exact ⟨rfl,rfl,rfl⟩
 | wM _ hl=>
  rw[List.getElem?_eq_none (by omega)] at hg;cases hg
 | _=>exfalso;omega
theorem Ev.nS (h:Ev K (.go t e o) s vs c s') (ho:t.op=4) {b:aa} (hb:t.t= [b]): ∃ a,vs= [cg a]∧c=0∧oz ((a,.eH ⟨t.v,t.n == 1,b,e, -1, []⟩)::s.h)∧s'=aR s ((a,.eH ⟨t.v,t.n == 1,b,e, -1, []⟩)::s.h):=by
 cases h with
 | lam _ hb' hd=>
  rw[hb] at hb';cases hb';exact ⟨_,rfl,rfl,hd,rfl⟩
 | _=>exfalso;omega
theorem Ev.Ax (h:Ev K (.go t e o) s vs c s') (ho:t.op=21) {cd:bZ} (hk:K.c[t.n.toNat]?=some cd): ∃ a,vs= [cg a]∧c=0∧oz ((a,.eH (jg cd t.n []))::s.h)∧s'=aR s ((a,.eH (jg cd t.n []))::s.h):=by
 cases h with
 | GJ _ hk' hd=>
  rw[hk] at hk';cases hk';exact ⟨_,rfl,rfl,hd,rfl⟩
 | _=>exfalso;omega
theorem Ev.EH (h:Ev K (.go t e o) s vs c s') (ho:t.op=8) {l:List aa} {b:aa} (ht:t.t=l++ [b]):(c≠0∧vs= [bx]∧ ∃ us,Ev K (.all l e o) s us c s')∨
  ∃ v us s1 az,vs= [v]∧Ev K (.all l e o) s us 0 s1∧l.length=t.v.length∧az.length=t.v.length∧Ev K (.ev b (bM e t.v az) o) (aR s1 (eM s1.h us az)) [v] c s':=by
 cases h with
 | JB _ ht' hl ha hc=>
  rw[ht] at ht';obtain ⟨rfl,e2⟩:=List.append_inj' ht' rfl;exact .inl ⟨hc,rfl,_,ha⟩
 | GH _ ht' hl ha haz hb=>
  rw[ht] at ht';obtain ⟨rfl,e2⟩:=List.append_inj' ht' rfl;cases e2;exact .inr ⟨_,_,_,_,rfl,ha,hl,haz,hb⟩
 | _=>exfalso;omega
end
theorem GZ {C:Nat→Nat→Prop} {B:Nat→Nat→Prop}: ∀ {l l':List Vl} {x x':Vl},j6 C B (l++ [x]) (l'++ [x'])→VR C B x x':=fun {l l' x x'} h=>by
 have hl:=cy h;rw[List.length_append,List.length_append,List.length_singleton,List.length_singleton] at hl;have:=jj h l.length (by simp) (by simp;omega);rw[List.getElem_append_right (Nat.le_refl _),List.getElem_append_right (by omega)] at this;simpa using this
theorem Sm.str {C:CR} {J K:KC} {n:Int} (hC:C.mono) (hc: ∀ w f g,C w f g→Cr C J K n w f g) {t t':aa} {e e':bq} (ho:t'.op=t.op) (hn:t'.n=t.n) (hop:t.op=5∨t.op=6∨t.op=10∨t.op=12∨(15≤t.op∧t.op≤18))
  {w:Wd} {s r:bJ} {l l':List Vl} (hV:Va C K w s r) (hf:s.fuel≤n) (hl:G1 w l l') {v v':List Vl} {c c':Int} {s' r':bJ} (h:Ev J (.str t l e) s v c s') (h':Ev K (.str t' l' e') r v' c' r') (n1:c≠8) (n2:c'≠8):Rs C K w v c s' v' c' r':=by
 have hlen:=cy hl
 cases h with
 | seq o=>
  cases h' with
  | seq o'=>exact Rs.done hV (GZ hl)
  | _=>exfalso;omega
 | JE o=>exfalso;omega
 | NC o=>exfalso;omega
 | cH o | Nr o | Ff o=>exfalso;omega
 | xk o hk=>
  cases h' with
  | xk o' hk'=>exact Rs.done hV (bO.1 hl).1
  | AQ o' hk'=>exact absurd ((VW.k (bO.1 hl).1)▸hk') hk
  | _=>exfalso;omega
 | AQ o hk=>
  cases h' with
  | xk o' hk'=>exact absurd ((VW.k (bO.1 hl).1).trans hk) hk'
  | AQ o' hk'=>exact Rs.err hV _ _ (by decide)
  | _=>exfalso;omega
 | @box _ _ _ x a o hd=>
  cases h' with
  | @box _ _ _ y b o' hd'=>
   obtain ⟨w',hw,hV',hm⟩:=hV.box hC hd hd' (bO.1 hl).1;refine ⟨rfl,w',hw,hV',fun _=>jk.2 ⟨_,rfl,?_⟩⟩;rw[jz];exact ⟨⟨rfl,rfl,rfl,rfl⟩,bR.2 rfl,fun h=>absurd (show (11:Int)=8 from h) (by decide),fun _=>⟨a,b,rfl,rfl,hm⟩⟩
  | _=>exfalso;omega
 | bad o hk=>
  cases h' with
  | bad o' hk'=>exact Rs.err hV _ _ (by decide)
  | get o' hk' | put o' hk' | eF o' hk'=>exact absurd ((VW.k (bO.1 hl).1)▸hk') hk
  | _=>exfalso;omega
 | @get _ _ _ x a y q o hk hxa hg=>
  cases h' with
  | bad o' hk'=>exact absurd ((VW.k (bO.1 hl).1).trans hk) hk'
  | get o' hk' hxb hg'=>
   obtain ⟨a1,b1,e1,e2,hm⟩:=((jz _ _).1 (bO.1 hl).1).2.2.2 hk;rw[hxa] at e1;cases e1;rw[hxb] at e2;cases e2;obtain ⟨x',y',k1,k2,k3⟩:=hV.pm _ _ hm;rw[hg] at k1;cases k1;rw[hg'] at k2;cases k2;exact Rs.done hV k3
  | put o' | eF o'=>exfalso;omega
  | _=>exfalso;omega
 | @put _ _ _ x z a y q o hk hxa hg hu=>
  cases h' with
  | bad o' hk'=>exact absurd ((VW.k (bO.1 hl).1).trans hk) hk'
  | put o' hk' hxb hg' hu'=>
   obtain ⟨a1,b1,e1,e2,hm⟩:=((jz _ _).1 (bO.1 hl).1).2.2.2 hk;rw[hxa] at e1;cases e1;rw[hxb] at e2;cases e2;exact ⟨rfl,w,w.refl,hV.put hm (bO.1 (bO.1 hl).2).1,fun _=>jk.2 ⟨_,rfl,uu 5 (by decide)⟩⟩
  | eF o' hk' hxb hg' hu'=>
   obtain ⟨a1,b1,e1,e2,hm⟩:=((jz _ _).1 (bO.1 hl).1).2.2.2 hk;rw[hxa] at e1;cases e1;rw[hxb] at e2;cases e2;obtain ⟨x',y',k1,k2,k3⟩:=hV.pm _ _ hm;rw[hg] at k1;cases k1;rw[hg'] at k2;cases k2;exact absurd ⟨by omega,(VW.k k3).symm.trans hu'⟩ hu
  | _=>exfalso;omega
 | @eF _ _ _ x z a y q o hk hxa hg hu=>
  cases h' with
  | bad o' hk'=>exact absurd ((VW.k (bO.1 hl).1).trans hk) hk'
  | put o' hk' hxb hg' hu'=>
   obtain ⟨a1,b1,e1,e2,hm⟩:=((jz _ _).1 (bO.1 hl).1).2.2.2 hk;rw[hxa] at e1;cases e1;rw[hxb] at e2;cases e2;obtain ⟨x',y',k1,k2,k3⟩:=hV.pm _ _ hm;rw[hg] at k1;cases k1;rw[hg'] at k2;cases k2;exact absurd ⟨by omega,(VW.k k3).trans hu⟩ hu'
  | eF o' hk' hxb hg' hu'=>exact Rs.err hV _ _ (by decide)
  | _=>exfalso;omega
 | app o h1=>
  cases h' with
  | app o' h1'=>exact (Sm.calls hc h1) w r _ _ hV hf (bO.1 hl).1 (bO.1 hl).2 _ _ _ h1' n1 n2
  | _=>exfalso;omega
 | MT o h1=>
  cases h' with
  | MT o' h1'=>
   rw[hn] at h1';exact (Sm.calls hc h1) w r _ hV hf hl _ _ _ h1' n1 n2
  | _=>exfalso;omega
theorem C3 (n:Int) (h0:0≤n) (h1:n≤1000000000):ah Tryz.prog 106 [.nil,.int .i64 n] [] (fun y Γ'=>(∃ t:Tok,t.e=3∧t.s=1∧y=.ms t∧Γ'= [.row t []])∨(y=.nil∧Γ'= [])):=by
 refine ah.ai aj Tryz.func106 rfl rfl (n:=27) rfl rfl ?_
 conv=>whnf
 repeat' (first|refine cW ?_|(refine zX (fun hc=>?_) (fun hc=>?_)<;>(try simp only[SY] at hc)<;>first|omega|(conv=>whnf)))
 ·refine gK.of ⟨by simp[eu],by simp[eu]⟩ ?_
  conv=>whnf
  skip
  refine Cu.mk ⟨by omega,by omega,by show _ * 8≤_;omega,rfl,fun t he hs=>?_⟩
  conv=>whnf
  skip
  refine tE.hi hs (by omega) (by simp;omega) (fun t2 he2 hs2=>?_)
  conv=>whnf
  skip
  show an _ [.row t2 []] _;exact an.gen (Wk.refl _) (.inl ⟨t2,he2.trans he,hs2.trans hs,rfl,rfl⟩)
 ·exact an.gen (Wk.refl _) (.inr ⟨rfl,rfl⟩)
theorem Shift.fG (s:Nat) (e:TypeId) (Γ:List ak):Shift .nil Γ (.ms (aT s e)) (.row (aT s e) []::Γ):=fun w0 F M w v hS hx=>
 let ⟨F',h1,h2⟩:=aA.fG s e Γ w0 F M w hS
 ⟨F',h1,h2,Wk.fG s e F' v (ax.mono h1 _ _ hx)⟩
theorem Shift.refl (x:PV) (Γ:List ak):Shift x Γ x Γ:=fun _ F _ _ _ hS hx=>⟨F,Fz.le_refl F,hS,hx⟩
theorem FO (n:Int) (h0:0≤n) (h1:n≤1000000000):ah Tryz.prog 106 [.nil,.int .i64 n] [] (fun y Γ'=> ∃ t:Tok,t.e=3∧t.s=1∧y=.ms t∧Γ'= [.row t (([]:List Int).map (PV.int .i64))]):=
 (C3 n h0 h1).shift fun y Γ' h=>by
  rcases h with ⟨t,h1,h2,rfl,rfl⟩ | ⟨rfl,rfl⟩
  ·exact ⟨_,_,Shift.refl _ _,t,h1,h2,rfl,rfl⟩
  ·exact ⟨_,_,Shift.fG 1 3 _,_,rfl,rfl,rfl,rfl⟩
def kI:List Int→Int→Nat→Int
 | [],_,_=> -1
 | x::l,v,i=>if v=x then (i:Int) else kI l v (i + 1)
theorem vc: ∀ (l:List Int) (v:Int) (i:Nat),decide (kI l v i≥0)=l.contains v
 | [],_,_=>by simp[kI]
 | x::l,v,i=>by
  rw[kI,List.contains_cons];by_cases h:v=x
  ·rw[if_pos h];simp[h]
  ·rw[if_neg h,vc l v (i + 1)];simp[h]
theorem vj (l:List Int) (v:Int):ay Tryz.prog 91 [.sl 1 (l.map (PV.int .i64)) none,.int .i64 v] (.int .i64 (kI l v 0)):=by
 refine ah.ai aj Tryz.func91 rfl rfl (n:=19) rfl rfl ?_
 conv=>whnf
 repeat (first|refine kM ?_|((intro _);conv=>whnf))
 refine aI.keep [4,5,8,9,10,11,12,13,14,15,16,17,18] (fun i:Nat=> [(8,.int .i64 i)]) (fun i=>i≤l.length∧kI (l.drop i) v i=kI l v 0) (fun i=>l.length - i) 0 ⟨by omega,rfl⟩ wA ?_;rintro i ⟨h1,h2⟩
 conv=>whnf
 repeat' (first|refine cW ?_|(refine zX (fun hc=>?_) (fun hc=>?_)<;>(try simp only[SY] at hc)<;>(conv=>whnf)))
 ·rw[aq (show i < l.length by omega),kI,if_pos hc] at h2
  exact an.pure (Wk.int h2)
 ·rw[aq (show i < l.length by omega),kI,if_neg hc] at h2
  exact aJ (i + 1) ⟨by omega,h2⟩ (by show l.length - (i + 1) < l.length - i;omega) wA
 ·rw[List.drop_of_length_le (by omega),kI] at h2
  exact an.pure (Wk.int h2)
theorem ox (l:List Int) (v:Int):ay Tryz.prog 95 [.sl 1 (l.map (PV.int .i64)) none,.int .i64 v] (.bool (l.contains v)):=by
 refine ah.ai aj Tryz.func95 rfl rfl (n:=9) rfl rfl ?_
 conv=>whnf
 repeat' (first|((refine pC (vj l v) wR ?_);conv=>whnf)|(refine zX (fun hc=>?_) (fun hc=>?_)<;>(try simp only[SY] at hc)<;>omega))
 exact an.pure (Wk.bool (vc l v 0))
abbrev ud (l:List Int):PV:=.sl 1 (l.map (PV.int .i64)) none
instance:ec ud (fun l=> [ud l]):=⟨fun _=>rfl⟩
def nr (ls:List (List Int)):Nat:=(ls.map List.length).sum
theorem sG (a b:List (List Int)):nr (a++b)=nr a + nr b:=by simp[nr]
theorem Lj (ls:List (List Int)) (k:Nat):nr (ls.take k)≤nr ls:=by
 have:=sG (ls.take k) (ls.drop k);rw[List.take_append_drop] at this;omega
theorem yq (ls:List (List Int)) {k:Nat} (hk:k < ls.length):nr (ls.take (k + 1))=nr (ls.take k) + (ls[k]).length:=by
 rw[List.take_succ_eq_append_getElem hk,sG];simp[nr]
theorem Ay (ls:List (List Int)):ls.flatten.length=nr ls:=by simp[nr,List.length_flatten]
theorem y8 (ls:List (List Int)) (h:nr ls≤1000000000) (hl:ls.length≤1000000000):ah Tryz.prog 78 [.sl 1 (ls.map ud) none] [] (fun y Γ'=> ∃ t:Tok,t.e=3∧t.s=1∧y=.ms t∧Γ'= [.row t (ls.flatten.map (PV.int .i64))]):=by
 refine ah.ai aj Tryz.func78 rfl rfl (n:=36) rfl rfl ?_
 conv=>whnf
 repeat (first|refine kM ?_|((intro _);conv=>whnf))
 refine aI.keep [3,5,11,12,13,14,15,16,17,18,19,20,21,22] (fun x:Nat×Int=> [(11,.int .i64 x.1),(3,.int .i64 x.2)]) (fun x=>x.1≤ls.length∧x.2=nr (ls.take x.1)) (fun x=>ls.length - x.1) (0,0) ⟨by omega,rfl⟩ wA ?_;rintro ⟨i,n⟩ ⟨h1,h2⟩;dsimp only at h1 h2 ⊢;have hle:=Lj ls
 conv=>whnf
 repeat' (first|refine cW ?_|((intro _);conv=>whnf)|(refine zX (fun hc=>?_) (fun hc=>?_)<;>(try simp only[SY] at hc)<;>(conv=>whnf)))
 ·have hlt:i < ls.length:=by omega
  have g1:=hle (i + 1);have g2:=yq ls hlt
  conv=>whnf
  repeat' (first|refine cW ?_|(refine zX (fun hc=>?_) (fun hc=>?_)<;>(try simp only[SY] at hc)<;>first|omega|(conv=>whnf)))
  exact aJ (i + 1,n + ls[i].length) ⟨by omega,by show n + _=((nr (ls.take (i + 1)):Nat):Int);omega⟩ (by show ls.length - (i + 1) < ls.length - i;omega) wA
 ·refine au.go (FO n (by omega) (by have:=hle i;omega)) (bU.refl _) ?_
  rintro _ _ ⟨t,ht,hs,rfl,rfl⟩
  conv=>whnf
  repeat' (first|refine cW ?_|((intro _);conv=>whnf)|(refine zX (fun hc=>?_) (fun hc=>?_)<;>(try simp only[SY] at hc)<;>omega))
  refine aI.over [6,8,27,28,29,30,31,32,33,34] (fun x:Nat×Tok×List Int=> [(27,.int .i64 x.1),(6,.ms x.2.1)]) (fun x:Nat×Tok×List Int=> [.row x.2.1 (x.2.2.map (PV.int .i64))]) (fun x=>x.1≤ls.length∧x.2.1.e=3∧x.2.1.s=1∧x.2.2=(ls.take x.1).flatten) (fun x=>ls.length - x.1) (0,t, []) ⟨by omega,ht,hs,rfl⟩ wA ?_;rintro ⟨k,t2,l⟩ ⟨k1,k2,k3,k4⟩;dsimp only at k1 k2 k3 k4⊢
  conv=>whnf
  repeat' (first|refine cW ?_|(refine zX (fun hc=>?_) (fun hc=>?_)<;>(try simp only[SY] at hc)<;>(conv=>whnf)))
  ·have hlt:k < ls.length:=by omega
   have g1:=hle (k + 1);have g2:=yq ls hlt;have g3:=Ay (ls.take k);rw[←k4] at g3;refine bg.KR (f:=PV.int .i64) (l:=l) (m:=ls[k]) k2 k3 (Wk.refl _) (by omega) (by show _ * 8≤_;omega) (fun t3 e3 s3=>?_)
   conv=>whnf
   repeat (refine kM ?_)
   exact aJ (k + 1,t3,l++ls[k]) ⟨by omega,e3,s3,by show l++ls[k]=(ls.take (k + 1)).flatten;rw[k4,List.take_succ_eq_append_getElem hlt,List.flatten_append,List.flatten_singleton]⟩ (by show ls.length - (k + 1) < ls.length - k;omega) wA
  ·have hk:ls.take k=ls:=List.take_of_length_le (by omega)
   rw[hk] at k4;rw[k4];exact an.gen (Wk.refl _) ⟨t2,k2,k3,rfl,rfl⟩
theorem AY (ls:List (List Int)) (h:nr ls≤1000000000) (hl:ls.length≤1000000000):ay Tryz.prog 78 [.sl 1 (ls.map ud) none] (ud ls.flatten):=
 ay.MN ((y8 ls h hl).shift fun y Γ' hq=>by
  obtain ⟨t,h1,h2,rfl,rfl⟩:=hq
  exact ⟨ud ls.flatten,_,Shift.fM (Cp.ms' h2),rfl⟩)
mutual
def aa.met:aa→List Int→Int→List (aa×List Int)
 | .mk op n v t,sc,deep=>(.mk op n v t,sc)::if deep≥1000 then [] else aa.fA op sc (sc++v) t (deep + 1)
def aa.fA (op:Int) (sc inner:List Int):List aa→Int→List (aa×List Int)
 | [],_=> []
 | x::xs,deep=>aa.met x (if fV op=true∨xs= [] then inner else sc) deep++aa.fA op sc inner xs deep
end
theorem aa.jb (t:aa) (sc:List Int) (deep:Int):t.met sc deep=(t,sc)::if deep≥1000 then [] else aa.fA t.op sc (sc++t.v) t.t (deep + 1):=by
 cases t;rw[aa.met];rfl
abbrev Kr (x:aa×List Int):PV:=.agg [.int .i64 x.1.op,.int .i64 x.1.n,.sl 1 (x.1.v.map (PV.int .i64)) none,.sl 4 (x.1.t.map aa.pv) none,ud x.2]
def sK (xs:List (List PV)) (i:Nat) (l:List (aa×List Int)):Prop:= ∀ j (h:j < l.length),xs[i + j]?=some [Kr l[j]]
theorem sK.left {xs:List (List PV)} {i:Nat} {l m:List (aa×List Int)} (h:sK xs i (l++m)):sK xs i l:=fun j hj=>by
 have:=h j (by rw[List.length_append];omega);rwa [List.getElem_append_left hj] at this
theorem sK.right {xs:List (List PV)} {i:Nat} {l m:List (aa×List Int)} (h:sK xs i (l++m)):sK xs (i + l.length) m:=fun j hj=>by
 have:=h (l.length + j) (by rw[List.length_append];omega);rw[List.getElem_append_right (by omega)] at this;simpa[Nat.add_assoc] using this
theorem sK.head {xs:List (List PV)} {i:Nat} {x:aa×List Int} {m:List (aa×List Int)} (h:sK xs i (x::m)):sK xs (i + 1) m:=sK.right (l:= [x]) h
theorem Nq (l yb wb:Nat) (xs:List (List PV)) (J:Nat→List ak→Prop) (X:List ak→Prop)
  (hy: ∀ k ys Γ,xs[k]?=some ys→J k Γ→fB Tryz.prog l ys Γ fun y Γ'=>(y=.bB∧J (k + 1) Γ')∨(y=.bfalse∧X Γ')) (t:aa):
  ∀ (sc:List Int) (deep:Int) (i:Nat) (Γ:List ak),0≤deep→deep≤1000→sc.length + t.bp≤1000000000→sK xs i (t.met sc deep)→J i Γ→
   ah Tryz.prog 77 [.agg t.cells,ud sc,.int .i64 deep,.ptr yb 0,.ptr wb 0] (.box yb [.fn (.yield l) []]::.box wb [.fn (.func 77) [.ptr yb 0,.ptr wb 0]]::Γ)
    (fun y Γ'=> ∃ Γ1,Γ'=.box yb [.fn (.yield l) []]::.box wb [.fn (.func 77) [.ptr yb 0,.ptr wb 0]]::Γ1∧((y=.bB∧J (i + (t.met sc deep).length) Γ1)∨(y=.bfalse∧X Γ1))):=by
 induction t using aa.ind with
 | h t ih=>
  intro sc deep i Γ hd0 hd1 hsc hfr hJ;have hbe:=t.cX;have hlv:=aa.dA t.t;rw[aa.jb] at hfr ⊢;have hsum:nr [sc,t.v]≤1000000000:=by simp[nr];omega
  have h0:=hfr 0 (by simp);refine ah.ai aj Tryz.func77 rfl rfl (n:=54) rfl rfl ?_
  conv=>whnf
  repeat' (first|refine cW ?_|((intro _);conv=>whnf)|(refine zX (fun hc=>?_) (fun hc=>?_)<;>(try simp only[SY] at hc)<;>omega))
  rename_i b5;refine lD.LJ [.box b5 [.int .i64 t.op,.int .i64 t.n,.sl 1 (t.v.map (PV.int .i64)) none,.sl 4 (t.t.map aa.pv) none],.box yb [.fn (.yield l) []],.box wb [.fn (.func 77) [.ptr yb 0,.ptr wb 0]]] (hy (i + 0) _ Γ h0 hJ) (bU.refl _) (List.Perm.refl _) ?_;rintro _ Γ1 (⟨rfl,hJ1⟩ | ⟨rfl,hX⟩)
  ·conv=>whnf
   repeat' (first|refine cW ?_|((intro _);conv=>whnf)|(refine zX (fun hc=>?_) (fun hc=>?_)<;>(try simp only[SY] at hc)<;>(conv=>whnf)))
   ·exact an.gen (y:=.bB) (Γ':=.box yb [.fn (.yield l) []]::.box wb [.fn (.func 77) [.ptr yb 0,.ptr wb 0]]::Γ1) (hp:=⟨(List.perm_append_singleton _ _).symm⟩) (Wk.refl _) ⟨Γ1,rfl,.inl ⟨rfl,by rw[if_pos hc];exact hJ1⟩⟩
   ·rw[if_neg (by omega)] at hfr⊢
    rename_i tk htk;refine au.pure (AY [sc,t.v] hsum (by simp)) (bU.cons (Wk.tok _ _ _) bU.nil) ?_;rw[show [sc,t.v].flatten=sc++t.v by simp]
    conv=>whnf
    repeat' (first|refine cW ?_|((intro _);conv=>whnf)|(refine zX (fun hc=>?_) (fun hc=>?_)<;>(try simp only[SY] at hc)<;>omega))
    have hfr1:=hfr.head
    refine aI.over [8,10,11,12,29,30,31,32,33,34,35,36,37,38,39,40,41,42,43,44,45,46,47,48,49,50,51,52,53] (fun x:Nat×Nat×List ak=> [(29,.int .i64 x.1)])
     (fun x:Nat×Nat×List ak=>.tok tk::.box b5 [.int .i64 t.op,.int .i64 t.n,.sl 1 (t.v.map (PV.int .i64)) none,.sl 4 (t.t.map aa.pv) none]::.box yb [.fn (.yield l) []]::.box wb [.fn (.func 77) [.ptr yb 0,.ptr wb 0]]::x.2.2)
     (fun x=>x.1≤t.t.length∧J x.2.1 x.2.2∧sK xs x.2.1 (aa.fA t.op sc (sc++t.v) (t.t.drop x.1) (deep + 1))∧x.2.1 + (aa.fA t.op sc (sc++t.v) (t.t.drop x.1) (deep + 1)).length=i + 1 + (aa.fA t.op sc (sc++t.v) t.t (deep + 1)).length)
     (fun x=>t.t.length - x.1) (0,i + 1,Γ1) ⟨by omega,hJ1,hfr1,rfl⟩ wA ?_
    rintro ⟨k,p,Γ2⟩ ⟨k1,k2,k3,k4⟩;dsimp only at k1 k2 k3 k4⊢
    conv=>whnf
    repeat' (first|refine cW ?_|((first|refine pC (tO t) wR ?_|intro _);conv=>whnf)|(refine zX (fun hc=>?_) (fun hc=>?_)<;>(try simp only[SY] at hc)<;>(conv=>whnf)))
    rotate_right
    ·rw[List.drop_of_length_le (by omega),aa.fA] at k4
     exact an.gen (y:=.bB) (Γ':=.box yb [.fn (.yield l) []]::.box wb [.fn (.func 77) [.ptr yb 0,.ptr wb 0]]::Γ2) (hp:=⟨List.perm_append_comm (l₁:= [_,_])⟩) (Wk.refl _) ⟨Γ2,rfl,.inl ⟨rfl,by
      rw[List.length_cons,show i + ((aa.fA t.op sc (sc++t.v) t.t (deep + 1)).length + 1)=p by simp only[List.length_nil] at k4;omega];exact k2⟩⟩
    all_goals
     rename_i b11;have hlt:k < t.t.length:=by omega
     have hbm:=aa.cU (List.getElem_mem hlt);have hdr:t.t.drop (k + 1)= []↔k + 1=t.t.length:=by rw[List.drop_eq_nil_iff];omega
     rw[aq hlt,aa.fA] at k3 k4
    ·rw[if_pos (show fV t.op=true∨t.t.drop (k + 1)= [] by rw[hdr];exact hc.imp id fun h=>by omega)] at k3 k4
     have k3l:=k3.left;have k3r:=k3.right;rw[List.length_append] at k4
     refine au.LJ [.box b11 [.int .i64 t.t[k].op,.int .i64 t.t[k].n,.sl 1 (t.t[k].v.map (PV.int .i64)) none,.sl 4 (t.t[k].t.map aa.pv) none],.tok tk,.box b5 [.int .i64 t.op,.int .i64 t.n,.sl 1 (t.v.map (PV.int .i64)) none,.sl 4 (t.t.map aa.pv) none]]
      (ih t.t[k] (List.getElem_mem _) (sc++t.v) (deep + 1) p Γ2 (by omega) (by omega) (by first | omega | (simp;omega)) k3l k2) (bU.refl _) (List.Perm.refl _) ?_
     rintro _ _ ⟨Γ3,rfl,⟨rfl,g1⟩ | ⟨rfl,g1⟩⟩
     ·conv=>whnf
      repeat' (first|refine cW ?_|(refine zX (fun hc=>?_) (fun hc=>?_)<;>(try simp only[SY] at hc)<;>omega))
      exact aJ (k + 1,p + (t.t[k].met (sc++t.v) (deep + 1)).length,Γ3) (hp:=⟨(List.perm_append_singleton _ _).symm⟩) ⟨by omega,g1,k3r,by dsimp only;omega⟩ (by show t.t.length - (k + 1) < t.t.length - k;omega) wA
     ·conv=>whnf
      skip
      exact an.gen (y:=.bfalse) (Γ':=.box yb [.fn (.yield l) []]::.box wb [.fn (.func 77) [.ptr yb 0,.ptr wb 0]]::Γ3) (hp:=⟨List.perm_append_comm (l₁:= [_,_,_])⟩) (Wk.refl _) ⟨Γ3,rfl,.inr ⟨rfl,g1⟩⟩
    ·rw[if_neg (show ¬(fV t.op=true∨t.t.drop (k + 1)= []) by rw[hdr];rintro (h | h);rw[hc.1] at h;cases h;exact hc.2 (by omega))] at k3 k4
     have k3l:=k3.left;have k3r:=k3.right;rw[List.length_append] at k4
     refine au.LJ [.box b11 [.int .i64 t.t[k].op,.int .i64 t.t[k].n,.sl 1 (t.t[k].v.map (PV.int .i64)) none,.sl 4 (t.t[k].t.map aa.pv) none],.tok tk,.box b5 [.int .i64 t.op,.int .i64 t.n,.sl 1 (t.v.map (PV.int .i64)) none,.sl 4 (t.t.map aa.pv) none]]
      (ih t.t[k] (List.getElem_mem _) (sc) (deep + 1) p Γ2 (by omega) (by omega) (by first | omega | (simp;omega)) k3l k2) (bU.refl _) (List.Perm.refl _) ?_
     rintro _ _ ⟨Γ3,rfl,⟨rfl,g1⟩ | ⟨rfl,g1⟩⟩
     ·conv=>whnf
      repeat' (first|refine cW ?_|(refine zX (fun hc=>?_) (fun hc=>?_)<;>(try simp only[SY] at hc)<;>omega))
      exact aJ (k + 1,p + (t.t[k].met (sc) (deep + 1)).length,Γ3) (hp:=⟨(List.perm_append_singleton _ _).symm⟩) ⟨by omega,g1,k3r,by dsimp only;omega⟩ (by show t.t.length - (k + 1) < t.t.length - k;omega) wA
     ·conv=>whnf
      skip
      exact an.gen (y:=.bfalse) (Γ':=.box yb [.fn (.yield l) []]::.box wb [.fn (.func 77) [.ptr yb 0,.ptr wb 0]]::Γ3) (hp:=⟨List.perm_append_comm (l₁:= [_,_,_])⟩) (Wk.refl _) ⟨Γ3,rfl,.inr ⟨rfl,g1⟩⟩
  ·conv=>whnf
   skip
   exact an.gen (y:=.bfalse) (Γ':=.box yb [.fn (.yield l) []]::.box wb [.fn (.func 77) [.ptr yb 0,.ptr wb 0]]::Γ1) (hp:=⟨(List.perm_append_singleton _ _).symm⟩) (Wk.refl _) ⟨Γ1,rfl,.inr ⟨rfl,hX⟩⟩
def aa.all (t:aa):List (aa×List Int):=t.met [] 0
theorem L7 (b:Nat) (t:aa) (hb:t.bp≤1000000000):GK Tryz.prog 76 [.ptr b 0] [.box b t.cells] (t.all.map fun m=> [Kr m]):=by
 intro l J X hy Γ hJ;refine ah.ghost (aA.drop (Γ':=.box b t.cells::Γ) (Γ1:= []) (by rw[List.append_nil];exact List.perm_append_singleton _ _)) ?_;refine ah.ai aj Tryz.func76 rfl rfl (n:=8) rfl rfl ?_
 conv=>whnf
 repeat' (first|refine cW ?_|((intro _);conv=>whnf)|(refine zX (fun hc=>?_) (fun hc=>?_)<;>(try simp only[SY] at hc)<;>omega))
 rename_i yb wb;refine au.LJ [.box b t.cells] (Nq l yb wb _ J X hy t [] 0 0 Γ (by omega) (by omega) (by simp;omega) (fun j hj=>by rw[Nat.zero_add,List.getElem?_map];show Option.map _ (t.met [] 0)[j]?=_;rw[List.getElem?_eq_getElem hj];rfl) hJ) (bU.cons (Wk.refl _) (bU.cons (Wk.lp rfl) (bU.refl _))) ((List.Perm.swap _ _ _).trans (((List.Perm.swap _ _ _).cons _).trans (List.Perm.swap _ _ _))) ?_;rintro _ _ ⟨Γ1,rfl,h1⟩
 conv=>whnf
 skip
 refine an.gen (Γ':=Γ1) (hp:=⟨List.perm_append_comm (l₁:= [_,_,_])⟩) (Wk.refl _) ?_;rw[List.length_map]
 rcases h1 with ⟨_,h⟩ | ⟨_,h⟩
 ·exact .inl (by rw[Nat.zero_add] at h;exact h)
 ·exact .inr h
theorem NL (t:aa):ah Tryz.prog 40 [.agg t.cells] [] (fun y Γ'=> ∃ b,y=.fn (.func 76) [.ptr b 0]∧Γ'= [.box b t.cells]):=by
 refine ah.ai aj Tryz.func40 rfl rfl (n:=4) rfl rfl ?_
 conv=>whnf
 repeat' (first|((intro _);conv=>whnf)|(refine zX (fun hc=>?_) (fun hc=>?_)<;>(try simp only[SY] at hc)<;>omega))
 rename_i b;exact an.gen (y:=.fn (.func 76) [.ptr b 0]) (Γ':= [.box b t.cells]) (hp:=cr.self _) (Wk.refl _) ⟨b,rfl,rfl⟩
theorem aa.EL (t:aa): ∀ (sc:List Int) (deep:Int),(t.met sc deep).length≤t.bp:=by
 induction t using aa.ind with
 | h t ih=>
  intro sc deep;rw[aa.jb,t.cX,List.length_cons]
  split
  ·simp;omega
  ·have: ∀ (l:List aa),(∀ y∈l, ∀ (sc:List Int) (deep:Int),(y.met sc deep).length≤y.bp)→ ∀ sc inner deep,(aa.fA t.op sc inner l deep).length≤aa.aD l:=by
    intro l
    induction l with
    | nil=>intro _ _ _ _;simp[aa.fA]
    | cons x l ihl=>
     intro hy sc inner deep;rw[aa.fA,aa.aD,List.length_append];have:=hy x (by simp) (if fV t.op=true∨l= [] then inner else sc) deep;have:=ihl (fun y h=>hy y (by simp[h])) sc inner deep;omega
   have:=this t.t ih sc (sc++t.v) (deep + 1);omega
def jO (op:Int):Bool:=op == 1 || op == 2 || op == 14
theorem Kw (t:aa):ay Tryz.prog 143 [.agg t.cells] (.bool (jO t.op)):=by
 refine ah.ai aj Tryz.func143 rfl rfl (n:=16) rfl rfl ?_
 conv=>whnf
 repeat' (first|refine cW ?_|((intro _);conv=>whnf)|(refine zX (fun hc=>?_) (fun hc=>?_)<;>(try simp only[SY] at hc)<;>omega))
 exact an.pure (Wk.refl _)
def bQ (l:List (aa×List Int)):List Int:=(l.filter fun m=>jO m.1.op && !m.2.contains m.1.n).map fun m=>m.1.n
theorem aa.FZ (t:aa): ∀ (pre sc:List Int) (deep:Int),t.met (pre++sc) deep=(t.met sc deep).map fun m=>(m.1,pre++m.2):=by
 induction t using aa.ind with
 | h t ih=>
  intro pre sc deep
  have key: ∀ (op:Int) (l:List aa),(∀ y∈l, ∀ (pre sc:List Int) (deep:Int),y.met (pre++sc) deep=(y.met sc deep).map fun m=>(m.1,pre++m.2))→
    ∀ (sc inner:List Int) (deep:Int),aa.fA op (pre++sc) (pre++inner) l deep=(aa.fA op sc inner l deep).map fun m=>(m.1,pre++m.2):=by
   intro op l
   induction l with
   | nil=>intro _ _ _ _;simp[aa.fA]
   | cons x l ihl=>
    intro hy sc inner deep;rw[aa.fA,aa.fA,List.map_append,ihl (fun y hh=>hy y (by simp[hh]))];congr 1
    split
    ·exact hy x (by simp) _ _ _
    ·exact hy x (by simp) _ _ _
  rw[aa.jb,aa.jb,List.map_cons,List.append_assoc];congr 1
  split
  ·rfl
  ·exact key _ _ ih _ _ _
mutual
def aa.dep:aa→Int
 | .mk _ _ _ t=>aa.deps t 0
def aa.deps:List aa→Int→Int
 | [],d=>d
 | x::xs,d=>aa.deps xs (max d (1 + aa.dep x))
end
theorem aa.CV (t:aa):t.dep=aa.deps t.t 0:=by cases t;rfl
theorem aa.pX (c:Int): ∀ (l:List aa) (d:Int),aa.deps l d≤c↔d≤c∧ ∀ x∈l,1 + x.dep≤c
 | [],d=>by simp[aa.deps]
 | x::l,d=>by
  rw[aa.deps,aa.pX c l];simp only[List.forall_mem_cons];constructor
  ·rintro ⟨h1,h2⟩;exact ⟨by omega,by omega,h2⟩
  ·rintro ⟨h1,h2,h3⟩;exact ⟨by omega,h3⟩
theorem aa.ze: ∀ (l:List aa) (d:Int),d≤aa.deps l d
 | [],d=>by simp[aa.deps]
 | x::l,d=>by rw[aa.deps];have:=aa.ze l (max d (1 + x.dep));omega
theorem aa.J7 (t:aa): ∀ n:Int,0≤t.oe n→t.oe n=n - t.cnt:=by
 induction t using aa.ind with
 | h t ih=>
  intro n h
  have: ∀ (l:List aa),(∀ x∈l, ∀ n:Int,0≤x.oe n→x.oe n=n - x.cnt)→ ∀ n:Int,0≤aa.eL l n→aa.eL l n=n - aa.cQ l:=by
   intro l
   induction l with
   | nil=>intro _ n _;simp[aa.eL,aa.cQ]
   | cons y l ihl=>
    intro hy n hn;rw[aa.eL] at hn ⊢;rw[aa.cQ]
    split at hn
    ·rename_i h0
     rw[if_pos h0];have h1:=ihl (fun z hz=>hy z (by simp[hz])) _ hn;have h2:0≤y.oe n:=by have:=aa.c7 l;omega
     rw[h1,hy y (by simp) n h2];omega
    ·omega
  rw[aa.rL] at h ⊢;rw[this t.t ih _ h,aa.mM];omega
theorem aa.Mt (t:aa) (n:Int) (h:0≤t.oe n):t.cnt≤n:=by have:=t.J7 n h;omega
theorem aa.vF {level c codes:Int} {free:Bool} (t:aa): ∀ {scope:List Int} {deep:Int},t.lC level c codes free scope deep→deep + t.dep≤400:=by
 induction t using aa.ind with
 | h t ih=>
  intro scope deep h;rw[aa.dP] at h
  have key: ∀ (op:Int) (sc inner:List Int) (deep:Int) (l:List aa),(∀ y∈l, ∀ {scope:List Int} {deep:Int},y.lC level c codes free scope deep→deep + y.dep≤400)→aa.eW level c codes free op sc inner l deep→ ∀ x∈l,deep + x.dep≤400:=by
   intro op sc inner deep l
   induction l with
   | nil=>intro _ _;simp
   | cons x l ihl=>
    intro hy hk y hm;rw[aa.eW] at hk;rcases List.mem_cons.1 hm with rfl | hm
    ·exact hy y (by simp) hk.2.1
    ·exact ihl (fun z hz=>hy z (by simp[hz])) hk.2.2 y hm
  have h1:=key _ _ _ _ _ ih h.2;have:=(aa.pX (400 - deep) t.t 0).2 ⟨by have:=h.1.1;omega,fun x hx=>by have:=h1 x hx;omega⟩;rw[aa.CV];omega
theorem aa.xT {level c codes:Int} {free:Bool} (t:aa): ∀ {scope:List Int} {deep:Int} (deep2:Int),t.lC level c codes free scope deep→ ∀ m∈t.met scope deep2,jO m.1.op=true→m.2.contains m.1.n=true:=by
 induction t using aa.ind with
 | h t ih=>
  intro scope deep deep2 h;rw[aa.dP] at h
  have key: ∀ (op:Int) (sc inner:List Int) (deep deep2:Int) (l:List aa),(∀ y∈l, ∀ {scope:List Int} {deep:Int} (deep2:Int),y.lC level c codes free scope deep→ ∀ m∈y.met scope deep2,jO m.1.op=true→m.2.contains m.1.n=true)→
    aa.eW level c codes free op sc inner l deep→ ∀ m∈aa.fA op sc inner l deep2,jO m.1.op=true→m.2.contains m.1.n=true:=by
   intro op sc inner deep deep2 l
   induction l with
   | nil=>intro _ _;simp[aa.fA]
   | cons x l ihl=>
    intro hy hk m hm;rw[aa.eW] at hk;rw[aa.fA,List.mem_append] at hm;rcases hm with hm | hm
    ·have e:(if fV op=true∨l= [] then inner else sc)=(if l= []∨op=7∨op=9 then inner else sc):=by
      by_cases h1:l= []<;>by_cases h2:op=7<;>by_cases h3:op=9<;>simp[fV,h1,h2,h3]
     rw[e] at hm;exact hy x (by simp) deep2 hk.2.1 m hm
    ·exact ihl (fun z hz=>hy z (by simp[hz])) hk.2.2 m hm
  intro m hm;rw[aa.jb] at hm;rcases List.mem_cons.1 hm with rfl | hm
  ·intro hn
   have h4:=h.1.2.2.2;have ho:t.op=1∨t.op=2∨t.op=14:=by simp[jO] at hn;omega
   unfold bW at h4;rw[if_neg (by omega),if_pos ho] at h4;exact h4
  ·split at hm
   ·cases hm
   ·exact key _ _ _ _ _ _ ih h.2 m hm
theorem dV.free {p:Prog} {level:Int} (h:dV p level):bQ p.body.all= []:=by
 unfold bQ;rw[List.map_eq_nil_iff,List.filter_eq_nil_iff];intro m hm;have:=p.body.xT 0 h.2.2.1 m hm;simp;simpa using this
open Go.Lib
def fR (l:List Int):List Int:=compact (l.mergeSort fun x y=>decide (x≤y))
theorem fY {α:Type} [Inhabited α] {l:List α} {j:Nat} (h:j < l.length):l.toArray[j]! =l[j]:=by
 rw[getElem!_pos _ j (by simpa using h)];simp
theorem By (l:List Int) (x:Int):x∈compact l↔x∈l:=by
 unfold compact compactUpTo;simp only[List.mem_map,List.mem_filter,List.mem_range];constructor
 ·rintro ⟨j,⟨hj,_⟩,rfl⟩
  rw[fY hj];exact List.getElem_mem hj
 ·intro hx
  have key: ∀ n (j:Nat) (hj:j < l.length),j≤n→l[j]=x→ ∃ i,(i < l.length∧keeps l.toArray i=true)∧l.toArray[i]! =x:=by
   intro n
   induction n with
   | zero=>
    intro j hj hn e;obtain rfl:j=0:=by omega
    exact ⟨0,⟨hj,keeps_lt_one _ 0 (by omega)⟩,by rw[fY hj,e]⟩
   | succ n ih=>
    intro j hj hn e;by_cases h0:j=0
    ·subst h0
     exact ⟨0,⟨hj,keeps_lt_one _ 0 (by omega)⟩,by rw[fY hj,e]⟩
    by_cases hp:l[j - 1]=x
    ·exact ih (j - 1) (by omega) (by omega) hp
    ·refine ⟨j,⟨hj,keeps_pos ?_⟩,by rw[fY hj,e]⟩
     rw[fY hj,fY (show j - 1 < l.length by omega),e];exact fun h=>hp h.symm
  obtain ⟨j,hj,e⟩:=List.getElem_of_mem hx;exact key j j hj (Nat.le_refl _) e
theorem H7 {l:List Int} {j:Nat} (h0:0 < j) (hj:j < l.length) (h:keeps l.toArray j=true):l[j]≠l[j - 1]:=by
 intro e;have:=keeps_neg (d:=l.toArray) h0 (by rw[fY hj,fY (show j - 1 < l.length by omega)];exact e);rw[this] at h;cases h
theorem CP {l:List Int} (h:l.Pairwise (· ≤ ·)):(compact l).Pairwise (· < ·):=by
 unfold compact compactUpTo;rw[List.pairwise_map];refine List.Pairwise.imp_of_mem ?_ (List.Pairwise.filter _ List.pairwise_lt_range);intro i j hi hj hij;simp only[List.mem_filter,List.mem_range] at hi hj;rw[fY hi.1,fY hj.1];have h1:=H7 (by omega) hj.1 hj.2;have hp:=List.pairwise_iff_getElem.1 h;have h2:l[j - 1]≤l[j]:=hp (j - 1) j (by omega) hj.1 (by omega)
 have h3:l[i]≤l[j - 1]:=by
  by_cases e:i=j - 1
  ·subst e;omega
  ·exact hp i (j - 1) hi.1 (by omega) (by omega)
 omega
theorem jN (l:List Int) (x:Int):x∈fR l↔x∈l:=by
 unfold fR;rw[By,List.mem_mergeSort]
theorem Gs (l:List Int):(l.mergeSort fun x y=>decide (x≤y)).Pairwise (· ≤ ·):=by
 have:=List.pairwise_mergeSort (le:=fun x y:Int=>decide (x≤y)) (by intro a b c;simp;omega) (by intro a b;simp;omega) l;simpa using this
theorem E0 (l:List Int):(fR l).Pairwise (· < ·):=CP (Gs l)
theorem Ih: ∀ {l m:List Int},l.Pairwise (· < ·)→m.Pairwise (· < ·)→(∀ x,x∈l↔x∈m)→l=m
 | [], [],_,_,_=>rfl
 | [],y::m,_,_,h=>by have:=(h y).2 (by simp);cases this
 | x::l, [],_,_,h=>by have:=(h x).1 (by simp);cases this
 | x::l,y::m,hl,hm,h=>by
  rw[List.pairwise_cons] at hl hm
  have hxy:x=y:=by
   have h1:=(h x).1 (by simp);have h2:=(h y).2 (by simp);rw[List.mem_cons] at h1 h2;rcases h1 with h1 | h1
   ·exact h1
   ·rcases h2 with h2 | h2
    ·exact h2.symm
    ·have:=hl.1 _ h2;have:=hm.1 _ h1;omega
  subst hxy;rw[Ih hl.2 hm.2 fun z=>?_];have:=h z;simp only[List.mem_cons] at this;constructor
  ·intro hz
   have hlt:=hl.1 z hz;exact (this.1 (.inr hz)).resolve_left (by omega)
  ·intro hz
   have hlt:=hm.1 z hz;exact (this.2 (.inr hz)).resolve_left (by omega)
theorem IT {l:List Int} (h:l.Nodup):(fR l).length=l.length:=by
 have h1:(fR l).Nodup:=(E0 l).imp fun h=>by omega
 have:(fR l).Perm l:=(List.perm_ext_iff_of_nodup h1 h).2 (jN l);exact this.length_eq
theorem IU (x:Int):fR [x]= [x]:=Ih (E0 _) (by simp) fun y=>jN [x] y
theorem aa.Il (t:aa): ∀ (sc:List Int) (d1 d2:Int),d1 + t.dep < 1000→d2 + t.dep < 1000→t.met sc d1=t.met sc d2:=by
 induction t using aa.ind with
 | h t ih=>
  intro sc d1 d2 h1 h2;rw[aa.CV] at h1 h2;have g1:=(aa.pX (999 - d1) t.t 0).1 (by omega);have g2:=(aa.pX (999 - d2) t.t 0).1 (by omega)
  have key: ∀ (op:Int) (l:List aa),(∀ y∈l, ∀ (sc:List Int) (d1 d2:Int),d1 + y.dep < 1000→d2 + y.dep < 1000→y.met sc d1=y.met sc d2)→
    ∀ (sc inner:List Int) (d1 d2:Int),(∀ x∈l,d1 + x.dep < 1000)→(∀ x∈l,d2 + x.dep < 1000)→aa.fA op sc inner l d1=aa.fA op sc inner l d2:=by
   intro op l
   induction l with
   | nil=>intro _ _ _ _ _ _ _;simp[aa.fA]
   | cons x l ihl=>
    intro hy sc inner d1 d2 k1 k2;rw[aa.fA,aa.fA,ihl (fun y hh=>hy y (by simp[hh])) sc inner d1 d2 (fun y hh=>k1 y (by simp[hh])) (fun y hh=>k2 y (by simp[hh])),hy x (by simp) _ d1 d2 (k1 x (by simp)) (k2 x (by simp))]
  have hlt1: ¬ d1≥1000:=by have:=aa.ze t.t 0;omega
  have hlt2: ¬ d2≥1000:=by have:=aa.ze t.t 0;omega
  rw[aa.jb,aa.jb,if_neg hlt1,if_neg hlt2,key t.op t.t ih sc (sc++t.v) (d1 + 1) (d2 + 1) (fun x hx=>by have:=g1.2 x hx;omega) (fun x hx=>by have:=g2.2 x hx;omega)]
theorem aa.Bz {op:Int} {x:aa}: ∀ {l:List aa} {sc inner:List Int} {deep:Int},x∈l→ ∃ s,(s=inner∨s=sc)∧ ∀ m∈x.met s deep,m∈aa.fA op sc inner l deep
 | [],_,_,_,h=>by cases h
 | y::l,sc,inner,deep,h=>by
  rcases List.mem_cons.1 h with rfl | h
  ·refine ⟨if fV op=true∨l= [] then inner else sc,?_,fun m hm=>?_⟩
   ·split
    ·exact .inl rfl
    ·exact .inr rfl
   ·rw[aa.fA,List.mem_append];exact .inl hm
  ·obtain ⟨s,h1,h2⟩:=aa.Bz (op:=op) (sc:=sc) (inner:=inner) (deep:=deep) h
   exact ⟨s,h1,fun m hm=>by rw[aa.fA,List.mem_append];exact .inr (h2 m hm)⟩
theorem oQ {l:List (aa×List Int)} {g:Int}:g∈bQ l↔ ∃ m∈l,jO m.1.op=true∧m.2.contains m.1.n=false∧m.1.n=g:=by
 unfold bQ;simp only[List.mem_map,List.mem_filter,Bool.and_eq_true,Bool.not_eq_true'];constructor
 ·rintro ⟨m,⟨h1,h2,h3⟩,h4⟩;exact ⟨m,h1,h2,h3,h4⟩
 ·rintro ⟨m,h1,h2,h3,h4⟩;exact ⟨m,⟨h1,h2,h3⟩,h4⟩
theorem aa.nL {t x:aa} (hx:x∈t.t) (hd:t.dep < 999) {g:Int} (hg:g∈bQ x.all) (hv:g∉t.v):g∈bQ t.all:=by
 have hdx:=((aa.pX 998 t.t 0).1 (by rw[←aa.CV];omega)).2 x hx;have e:x.all=x.met [] 1:=x.Il [] 0 1 (by omega) (by omega);rw[e] at hg;obtain ⟨m,h1,h2,h3,rfl⟩:=oQ.1 hg;obtain ⟨s,hs,hm⟩:=aa.Bz (op:=t.op) (sc:= []) (inner:= []++t.v) (deep:=1) hx
 have e2:x.met s 1=(x.met [] 1).map fun m=>(m.1,s++m.2):=by
  have:=x.FZ s [] 1;rwa [List.append_nil] at this
 have h5:(m.1,s++m.2)∈x.met s 1:=by rw[e2];exact List.mem_map_of_mem h1
 have h6:(m.1,s++m.2)∈t.all:=by
  show _∈t.met [] 0;rw[aa.jb,if_neg (by omega)];exact List.mem_cons_of_mem _ (hm _ h5)
 refine oQ.2 ⟨_,h6,h2,?_,rfl⟩
 have h7:m.1.n∉s:=by
  rcases hs with rfl | rfl
  ·simpa using hv
  ·simp
 simp at h3 ⊢;exact ⟨h7,h3⟩
end Go.Cb
namespace Go.Proofs
open Go.Shelf
def Tryz.Br:Go.Shelf.Ren:=⟨fun | 189=>79 | 125=>108 | 257=>107 | 128=>134 | 129=>135 | 294=>125 | 295=>126 | 296=>127 | 297=>128 | 298=>129 | 299=>130 | 216=>131 | 300=>132 | 301=>133 | 328=>149 | 329=>150 | 330=>151 | 331=>152 | 332=>153 | 215=>154 | 343=>175 | n=>n,fun | 28=>23 | 3=>3 | 46=>165 | 0=>0 | 51=>190 | 53=>192 | 4=>4 | 183=>184 | 182=>183 | 131=>132 | 5=>5 | 9=>9 | 218=>206 | 222=>210 | 228=>235 | 229=>212 | n=>n,fun | n=>n⟩
theorem Tryz.EG:Go.Proofs.Lays.n189 Tryz.prog Tryz.Br:={
 mixed:=by kernel_rfl
 f125:=Tryz.func108.trans (congrArg some (by kernel_rfl))
 f128:=Tryz.func134.trans (congrArg some (by kernel_rfl))
 f129:=Tryz.func135.trans (congrArg some (by kernel_rfl))
 f189:=Tryz.func79.trans (congrArg some (by kernel_rfl))
 f215:=Tryz.func154.trans (congrArg some (by kernel_rfl))
 f216:=Tryz.func131.trans (congrArg some (by kernel_rfl))
 f257:=Tryz.func107.trans (congrArg some (by kernel_rfl))
 f294:=Tryz.func125.trans (congrArg some (by kernel_rfl))
 f295:=Tryz.func126.trans (congrArg some (by kernel_rfl))
 f296:=Tryz.func127.trans (congrArg some (by kernel_rfl))
 f297:=Tryz.func128.trans (congrArg some (by kernel_rfl))
 f298:=Tryz.func129.trans (congrArg some (by kernel_rfl))
 f299:=Tryz.func130.trans (congrArg some (by kernel_rfl))
 f300:=Tryz.func132.trans (congrArg some (by kernel_rfl))
 f301:=Tryz.func133.trans (congrArg some (by kernel_rfl))
 f328:=Tryz.func149.trans (congrArg some (by kernel_rfl))
 f329:=Tryz.func150.trans (congrArg some (by kernel_rfl))
 f330:=Tryz.func151.trans (congrArg some (by kernel_rfl))
 f331:=Tryz.func152.trans (congrArg some (by kernel_rfl))
 f332:=Tryz.func153.trans (congrArg some (by kernel_rfl))
 f343:=Tryz.func175.trans (congrArg some (by kernel_rfl))
 t0:=Tryz.underlying0
 a0:=Tryz.isAgg0
 z0:=Tryz.sizeOf0
 v0:=Tryz.zeroValue0
 t3:=Tryz.underlying3
 a3:=Tryz.isAgg3
 z3:=Tryz.sizeOf3
 v3:=Tryz.zeroValue3
 t4:=Tryz.underlying4
 a4:=Tryz.isAgg4
 z4:=Tryz.sizeOf4
 v4:=Tryz.zeroValue4
 t5:=Tryz.underlying5
 a5:=Tryz.isAgg5
 z5:=Tryz.sizeOf5
 v5:=Tryz.zeroValue5
 t9:=Tryz.underlying9
 a9:=Tryz.isAgg9
 z9:=Tryz.sizeOf9
 v9:=Tryz.zeroValue9
 t28:=Tryz.underlying23
 a28:=Tryz.isAgg23
 z28:=Tryz.sizeOf23
 v28:=Tryz.zeroValue23
 t46:=Tryz.underlying165
 a46:=Tryz.isAgg165
 z46:=Tryz.sizeOf165
 v46:=Tryz.zeroValue165
 t51:=Tryz.underlying190
 a51:=Tryz.isAgg190
 z51:=Tryz.sizeOf190
 v51:=Tryz.zeroValue190
 t53:=Tryz.underlying192
 a53:=Tryz.isAgg192
 z53:=Tryz.sizeOf192
 v53:=Tryz.zeroValue192
 t131:=Tryz.underlying132
 a131:=Tryz.isAgg132
 z131:=Tryz.sizeOf132
 v131:=Tryz.zeroValue132
 t182:=Tryz.underlying183
 a182:=Tryz.isAgg183
 z182:=Tryz.sizeOf183
 v182:=Tryz.zeroValue183
 t183:=Tryz.underlying184
 a183:=Tryz.isAgg184
 z183:=Tryz.sizeOf184
 v183:=Tryz.zeroValue184
 t218:=Tryz.underlying206
 a218:=Tryz.isAgg206
 z218:=Tryz.sizeOf206
 v218:=Tryz.zeroValue206
 t222:=Tryz.underlying210
 a222:=Tryz.isAgg210
 z222:=Tryz.sizeOf210
 v222:=Tryz.zeroValue210
 t228:=Tryz.underlying235
 a228:=Tryz.isAgg235
 z228:=Tryz.sizeOf235
 v228:=Tryz.zeroValue235
 t229:=Tryz.underlying212
 a229:=Tryz.isAgg212
 z229:=Tryz.sizeOf212
 v229:=Tryz.zeroValue212 }
def Tryz.wO:Go.Shelf.Ren:=⟨fun | 20=>80 | n=>n,fun | 22=>23 | 3=>3 | 4=>4 | 0=>0 | n=>n,fun | n=>n⟩
theorem Tryz.xJ:Go.Proofs.Lays2.n20 Tryz.prog Tryz.wO:={
 mixed:=by kernel_rfl
 f20:=Tryz.func80.trans (congrArg some (by kernel_rfl))
 t0:=Tryz.underlying0
 a0:=Tryz.isAgg0
 z0:=Tryz.sizeOf0
 v0:=Tryz.zeroValue0
 t3:=Tryz.underlying3
 a3:=Tryz.isAgg3
 z3:=Tryz.sizeOf3
 v3:=Tryz.zeroValue3
 t4:=Tryz.underlying4
 a4:=Tryz.isAgg4
 z4:=Tryz.sizeOf4
 v4:=Tryz.zeroValue4
 t22:=Tryz.underlying23
 a22:=Tryz.isAgg23
 z22:=Tryz.sizeOf23
 v22:=Tryz.zeroValue23
 i3:=by kernel_rfl }
end Go.Proofs
namespace Go.Cb
open Go.Proofs Go.Sort
open Go.RowKit (Below)
set_option maxRecDepth 100000
set_option maxHeartbeats 4000000
theorem rN: ∀ l:List Int,flat (l.map (PV.int .i64))=l.map (PV.int .i64)
 | []=>rfl
 | x::l=>by
  have:=rN l;simp only[flat,List.map_cons,List.flatMap_cons,PV.cellsOf] at this ⊢;rw[this];rfl
theorem x6 (F:Fz): ∀ l:List Int,aQ F (l.map (PV.int .i64)) (l.map (Value.int .i64))
 | []=>c6 F
 | x::l=>cC.2 ⟨⟨rfl,by simp only[ax]⟩,x6 F l⟩
theorem qt {F:Fz}: ∀ {l:List Int} {xs:List Value},aQ F (l.map (PV.int .i64)) xs→xs=l.map (Value.int .i64)
 | [], [],_=>rfl
 | [],_::_,h=>by simp only[List.map_nil,aQ] at h
 | _::_, [],h=>by simp only[List.map_cons,aQ] at h
 | x::l,v::xs,h=>by
  have h:=cC.1 h;have h1:v=.int .i64 x:=by simpa only[ax] using h.1.2
  rw[h1,qt h.2];rfl
theorem aN.EW {w0:World} {F:Fz} {M:List ak} {w:World} {t:Tok} {l ts:List Int} (h:aN w0 F (.row t (l.map (PV.int .i64))::M) w) (hs:t.s=1) (hlen:ts.length=l.length) {g:Nat} (hg:t.b=some g) (q:Nat) (os:Array Obj):
  aN w0 F (.row t (ts.map (PV.int .i64))::M) (grow (putRow (Value.int .i64) (Sort.ahead w q) g 0 ts.toArray) os):=by
 obtain ⟨⟨xs,hown,hr⟩,hes,e2,hfree⟩:=h.fU _ (List.mem_cons_self ..)
 rcases hown.2 with ⟨h1,_⟩ | ⟨g',cap,cur,hb,hv,hB,hh,hnc,hcm,hsz,htake⟩
 ·rw[h1] at hg;cases hg
 obtain rfl:g'=g:=by rw[hb] at hg;simpa using hg
 have hsep:=List.pairwise_cons.1 h.sep;have hgr:w.grownBy (grow (putRow (Value.int .i64) (Sort.ahead w q) g' 0 ts.toArray) os) (some g'):=grownBy_sortedI ts.toArray;have hn:l.length=t.n:=by simpa using e2
 have hfl:flat (ts.map (PV.int .i64))=ts.map (PV.int .i64):=rN ts;refine aN.Gl (t:=t) (ys:=ts.map (PV.int .i64)) (xs:=ts.map (Value.int .i64)) h.tail ((Below.refl _ w).grown hgr h.below.size fun k hk=>by simp at hk;omega) ?_ (by simp[hs,PV.cellsOf]) (by simp;omega) (by rw[hfl];exact x6 F ts) ?_ ?_ hfree
 ·refine ⟨by simp[hs];omega,.inr ⟨g',cap,_,hb,hv,hB,heap_sortedI ts.toArray hh,hnc,hcm,by simp[putCells,hsz],?_⟩⟩
  have:t.n * t.s=ts.length:=by rw[hs];omega
  rw[this];exact take_putCellsI cur ts (by rw[hsz,hs];omega)
 ·intro b o u x
  have hne:b≠g':=fun e=>by rw[e,hfree g' hb o] at x;cases x
  have hlt:=World.block_lt_of_cell? w _ (h.fz b o u x);rw[World.cell?_of_block (w:=w) (hgr.block b hlt (by simp;omega))];exact h.fz b o u x
 ·intro e he k hk
  have hne:t.b≠some k:=by
   rcases hsep.1 e he with hh | hh
   ·simp only[ak.blk] at hh;rw[hh];simp
   ·intro hx;exact hh (by rw[hk];exact hx)
  have hlt:=(ak.jB (h.fU e (List.mem_cons_of_mem _ he)) hk).2;exact ⟨hgr.block k hlt (by rw[hb] at hne;exact fun e=>hne e.symm),hne⟩
theorem AX (l:List Int):(Lib.compact l).length≤l.length:=by
 unfold Lib.compact Lib.compactUpTo;rw[List.length_map];exact Nat.le_trans (List.length_filter_le _ _) (by simp)
theorem BT {w0:World} {F:Fz} {M:List ak} {w:World} {t:Tok} {l:List Int} (h:aN w0 F (.row t (l.map (PV.int .i64))::M) w) (hs:t.s=1):
  (l= []∧ ∃ p,t.v=.slice p 0 0)∨ ∃ g cap,t.b=some g∧t.v=.slice (some ⟨g,0,none⟩) l.length cap∧Holds (Value.int .i64) w g 0 l.toArray∧g < w.heap.size∧l.length≤cap∧t.n=l.length:=by
 obtain ⟨⟨xs,hown,hr⟩,hes,e2,hfree⟩:=h.fU _ (List.mem_cons_self ..);have hn:l.length=t.n:=by simpa using e2
 rcases hown.2 with ⟨h1,h2,h3⟩ | ⟨g,cap,cur,hb,hv,hB,hh,hnc,hcm,hsz,htake⟩
 ·refine .inl ⟨List.eq_nil_of_length_eq_zero (by omega),?_⟩
  rcases h3 with h3 | ⟨a,h3⟩
  ·exact ⟨none,h3⟩
  ·exact ⟨some a,h3⟩
 ·rw[rN] at hr
  have hx:=qt hr;refine .inr ⟨g,cap,hb,by rw[hn];exact hv,holds_of_blockI (e:=t.e) (cur:=cur) hh (by rw[←hx, ←htake,hs,hn,Nat.mul_one]),(Array.getElem?_eq_some_iff.1 hh).1,by omega,hn.symm⟩
theorem M8 (t:Tok) (l:List Int) (hs:t.s=1) (hl:l.length≤1000000000):
  ah Tryz.prog 79 [.ms t] [.row t (l.map (PV.int .i64))] (fun y Γ'=>y=.aU []∧Γ'= [.row t ((l.mergeSort fun x y=>decide (x≤y)).map (PV.int .i64))]):=by
 refine ⟨⟨_,Tryz.func79,rfl,rfl⟩,fun w0 F M w vs hS hT=>?_⟩
 obtain rfl:vs= [t.v]:=by
  match vs,hT with
  | [v],hT=>simp only[av,ax,and_true] at hT;rw[hT.1]
 rcases BT hS hs with ⟨rfl,p,hv⟩ | ⟨g,cap,hb,hv,hH,hg,hc,hn⟩
 ·rw[hv]
  refine (Any.slices_Sort_int_none Tryz.EG p 0 w).mono ?_;rintro e w' ⟨rfl,rfl⟩;exact ⟨_,F,.aU [],_,rfl,Fz.le_refl F,hS,by simp only[ax];exact ⟨[],rfl,by simp[av]⟩,rfl,by simp⟩
 ·rw[hv]
  refine (Any.slices_Sort_int Tryz.EG g 0 cap l w hH hg (by omega)).mono ?_;rintro e w' ⟨rfl,q,os,rfl⟩;exact ⟨_,F,.aU [],_,rfl,Fz.le_refl F,hS.EW hs (by simp) hb q os,by simp only[ax];exact ⟨[],rfl,by simp[av]⟩,rfl,rfl⟩
theorem Fi (t:Tok) (l:List Int) (hs:t.s=1) (hl:l.length≤1000000000):
  ah Tryz.prog 80 [.ms t] [.row t (l.map (PV.int .i64))] (fun y Γ'=> ∃ t':Tok,t'.e=t.e∧t'.s=1∧y=.ms t'∧Γ'= [.row t' ((Lib.compact l).map (PV.int .i64))]):=by
 refine ⟨⟨_,Tryz.func80,rfl,rfl⟩,fun w0 F M w vs hS hT=>?_⟩
 obtain ⟨rfl,h1⟩:vs= [t.v]∧t.v.oneCell'=true:=by
  match vs,hT with
  | [v],hT=>simp only[av,ax,and_true] at hT;rw[hT.1];exact ⟨rfl,hT.2⟩
 rcases BT hS hs with ⟨rfl,p,hv⟩ | ⟨g,cap,hb,hv,hH,hg,hc,hn⟩
 ·rw[hv]
  refine (Any.slices_Compact_int_empty Tryz.xJ p 0 w).mono ?_;rintro e w' ⟨rfl,rfl⟩;exact ⟨_,F,.ms t,_,rfl,Fz.le_refl F,hS,by simp only[ax];exact ⟨hv.symm,h1⟩,t,rfl,hs,rfl,by simp[Lib.compact,Lib.compactUpTo]⟩
 ·rw[hv]
  refine (Any.slices_Compact_int Tryz.xJ g 0 cap l w hH (by omega) hc).mono ?_;rintro e w' ⟨rfl,q,rfl⟩;have hle:=AX l;have h2:=hS.EW (ts:=Lib.compact l++List.replicate (l.length - (Lib.compact l).length) 0) hs (by simp;omega) hb q #[];rw[grow_empty] at h2;have h3:=aN.Cd (M1:= []) h2 hb (by rw[hn];exact hv) (Lib.compact l).length (by simp)
  have fin: ∀ T:Tok,T=⟨.slice (some ⟨g,0,none⟩) (Lib.compact l).length cap,(Lib.compact l).length,t.s,t.e,some g⟩→ ∃ v F' y Γ',(Ending.returned (.slice (some ⟨g,0,none⟩) (Lib.compact l).length cap))=.returned v∧F.le F'∧aN w0 F' (Γ'++M) (putRow (Value.int .i64) (Sort.ahead w q) g 0 (Lib.compact l++List.replicate (l.length - (Lib.compact l).length) 0).toArray)∧ax F' y v∧ ∃ t':Tok,t'.e=t.e∧t'.s=1∧y=.ms t'∧Γ'= [.row t' ((Lib.compact l).map (PV.int .i64))]:=by
   intro T hT;subst hT;refine ⟨_,F,.ms ⟨.slice (some ⟨g,0,none⟩) (Lib.compact l).length cap,(Lib.compact l).length,t.s,t.e,some g⟩, [.row ⟨.slice (some ⟨g,0,none⟩) (Lib.compact l).length cap,(Lib.compact l).length,t.s,t.e,some g⟩ ((Lib.compact l).map (PV.int .i64))],rfl,Fz.le_refl F,?_,by unfold ax;exact ⟨rfl,rfl⟩,⟨.slice (some ⟨g,0,none⟩) (Lib.compact l).length cap,(Lib.compact l).length,t.s,t.e,some g⟩,rfl,hs,rfl,rfl⟩;simpa using h3
  exact fin _ rfl
theorem IV (t:Tok) (l:List Int) (hs:t.s=1) (hl:l.length≤1000000000):
  ah Tryz.prog 41 [.ms t] [.row t (l.map (PV.int .i64))] (fun y Γ'=> ∃ t':Tok,t'.e=t.e∧t'.s=1∧y=.ms t'∧Γ'= [.row t' ((fR l).map (PV.int .i64))]):=by
 refine ah.ai aj Tryz.func41 rfl rfl (n:=7) rfl rfl ?_
 conv=>whnf
 skip
 refine au.go (M8 t l hs hl) (bU.refl _) ?_;rintro _ _ ⟨rfl,rfl⟩
 conv=>whnf
 skip
 refine au.go (Fi t (l.mergeSort fun x y=>decide (x≤y)) hs (by simp;omega)) (bU.refl _) ?_;rintro _ _ ⟨t2,e2,s2,rfl,rfl⟩
 conv=>whnf
 skip
 have e:Lib.compact (l.mergeSort fun x y=>decide (x≤y))=fR l:=rfl;rw[e];exact an.gen (Wk.refl _) ⟨t2,e2,s2,rfl,rfl⟩
def D3 (l:List (aa×List Int)):List Int:=l.flatMap fun m=>m.1.v
theorem Kf (t:aa) (hb:t.bp≤1000000000):ah Tryz.prog 119 [.agg t.cells] [] (fun y Γ'=> ∃ tk:Tok,tk.e=3∧tk.s=1∧y=.ms tk∧Γ'= [.row tk ((fR (bQ t.all)).map (PV.int .i64))]):=by
 have hlen:t.all.length≤t.bp:=t.EL [] 0;refine ah.ai aj Tryz.func119 rfl rfl (n:=28) rfl rfl ?_
 conv=>whnf
 repeat' (first|refine cW ?_|((intro _);conv=>whnf)|(refine zX (fun hc=>?_) (fun hc=>?_)<;>(try simp only[SY] at hc)<;>omega))
 rename_i bt bo;refine au.Oa (aA.trans (aA.fG 1 3 _) (aA.box (b:=bo) (cs:= [.nil]) (cs':= [.ms (aT 1 3)]) (.cons (Wk.fG 1 3) .nil))) (NL t) (bU.refl _) ?_;rintro _ _ ⟨b,rfl,rfl⟩
 conv=>whnf
 skip
 refine PRange.go (t.all.map fun m=> [Kr m]) (fun s:Tok×List Int=> [.box bo [.ms s.1],.row s.1 (s.2.map (PV.int .i64))]) (fun k s=>s.1.e=3∧s.1.s=1∧s.2=bQ (t.all.take k)) (fun _ _=>False) (aT 1 3, []) (L7 b t hb) ⟨rfl,rfl,rfl⟩
  (hp:=(inferInstance:cr _ [.box bo [.ms (aT 1 3)],.row (aT 1 3) [],.box b t.cells] _)) (by intro ys hy;obtain ⟨m,_,rfl⟩:=List.mem_map.1 hy;rfl) ?_ ?_ (fun _ _ _ h=>h.elim)
 ·rintro k ys ⟨tk,l⟩ hk ⟨k1,k2,k3⟩
  dsimp only at k1 k2 k3⊢
  obtain ⟨m,hm,rfl⟩: ∃ m,t.all[k]?=some m∧ys= [Kr m]:=by
   rw[List.getElem?_map] at hk
   cases h:t.all[k]? with
   | none=>rw[h] at hk;cases hk
   | some m=>rw[h] at hk;cases hk;exact ⟨m,rfl,rfl⟩
  obtain ⟨hlt,hmg⟩:=List.getElem?_eq_some_iff.1 hm
  have hst:bQ (t.all.take (k + 1))=bQ (t.all.take k)++(if (jO m.1.op && !m.2.contains m.1.n)=true then [m.1.n] else []):=by
   rw[List.take_succ_eq_append_getElem hlt,bQ,List.filter_append,List.map_append,hmg];congr 1;by_cases h:(jO m.1.op && !m.2.contains m.1.n)=true
   ·rw[if_pos h];simp only[List.filter,h];rfl
   ·rw[if_neg h];rw[Bool.not_eq_true] at h;simp only[List.filter,h];rfl
  have hll:l.length≤k:=by
   rw[k3,bQ,List.length_map];exact Nat.le_trans (List.length_filter_le _ _) (by rw[List.length_take];omega)
  conv=>whnf
  repeat' (first|refine cW ?_|((intro _);conv=>whnf)|(refine zX (fun hc=>?_) (fun hc=>?_)<;>(try simp only[SY] at hc)<;>omega))
  refine ⟨rfl,?_⟩
  conv=>whnf
  repeat' (first|refine cW ?_|((first|(((apply zY;intro hg));(conv=>whnf);(repeat ((first|refine pC (ox m.2 m.1.n) wR ?_|refine aG ?_);conv=>whnf));exact pZ)|refine pC (Kw m.1) wR ?_|intro _);conv=>whnf)|(refine zX (fun hc=>?_) (fun hc=>?_)<;>(try simp only[SY] at hc)<;>(conv=>whnf)))
  ·refine bg.MX (f:=PV.int .i64) (l:=l) m.1.n k1 k2 (Wk.tok _ _ _) (by omega) (by show _ * 8≤_;omega) (fun t3 e3 s3=>?_)
   conv=>whnf
   repeat (refine kM ?_)
   exact BS (k:=k) (G:=fun s:Tok×List Int=> [.box bo [.ms s.1],.row s.1 (s.2.map (PV.int .i64))]) (I:=fun k s=>s.1.e=3∧s.1.s=1∧s.2=bQ (t.all.take k)) (X:=fun _ _=>False) (t3,l++ [m.1.n]) ⟨e3,s3,by show l++ [m.1.n]=bQ (t.all.take (k + 1));rw[hst,if_pos (by rw[Bool.and_eq_true,hc.1,hc.2];exact ⟨rfl,rfl⟩),k3]⟩ (hp:=(inferInstance:cr _ [.box bo [.ms t3],.row t3 ((l++ [m.1.n]).map (PV.int .i64))] _))
  ·exact BS (k:=k) (G:=fun s:Tok×List Int=> [.box bo [.ms s.1],.row s.1 (s.2.map (PV.int .i64))]) (I:=fun k s=>s.1.e=3∧s.1.s=1∧s.2=bQ (t.all.take k)) (X:=fun _ _=>False) (tk,l) ⟨k1,k2,by show l=bQ (t.all.take (k + 1));rw[hst,if_neg (by rw[Bool.and_eq_true,Bool.not_eq_true'];rintro ⟨a,b⟩;rcases hc with h | h;rw[a] at h;cases h;rw[b] at h;cases h),List.append_nil,k3]⟩ (hp:=(inferInstance:cr _ [.box bo [.ms tk],.row tk (l.map (PV.int .i64))] _))
 ·rintro bd ⟨tk,l⟩ ⟨k1,k2,k3⟩
  dsimp only at k1 k2 k3 ⊢;rw[List.length_map,List.take_length] at k3;subst k3
  have hfl:(bQ t.all).length≤1000000000:=by
   rw[bQ,List.length_map];exact Nat.le_trans (List.length_filter_le _ _) (by omega)
  conv=>whnf
  repeat' (first|refine cW ?_|(refine zX (fun hc=>?_) (fun hc=>?_)<;>(try simp only[SY] at hc)<;>omega))
  refine au.LJ [.ob bd kU [] [],.box bo [.ms tk]] (IV tk (bQ t.all) k2 hfl) (bU.refl _) (List.Perm.refl _) ?_;rintro _ _ ⟨t4,e4,s4,rfl,rfl⟩
  conv=>whnf
  skip
  refine DO.at_ rfl ?_
  conv=>whnf
  exact an.gen (y:=.ms t4) (Wk.refl _) ⟨t4,e4.trans k1,s4,rfl,rfl⟩
mutual
def aa.sh (k:Int):aa→aa
 | .mk op n v t=>.mk op (if jO op=true then n + k else n) (v.map (· + k)) (aa.PO k t)
def aa.PO (k:Int):List aa→List aa
 | []=> []
 | x::xs=>aa.sh k x::aa.PO k xs
end
mutual
def aa.P0:aa→List Int
 | .mk op n _ t=>(if op=2∨op=14 then [n] else [])++aa.NM t
def aa.NM:List aa→List Int
 | []=> []
 | x::xs=>aa.P0 x++aa.NM xs
end
def IM (v:Int):aa:=.mk 1 v [] []
def Me (t:aa):aa:=.mk 15 0 [] [t]
def MG (A:Int→Bool):List Int→Int→List Int
 | [],_=> []
 | x::xs,k=>if A x=true then k::MG A xs (k + 1) else x::MG A xs k
def MF (A:Int→Bool):List Int→Int→List aa
 | [],_=> []
 | x::xs,k=>if A x=true then Me (IM k)::MF A xs (k + 1) else MF A xs k
def ME (A:Int→Bool) (l:List Int):Int:=((l.filter A).length:Int)
def G9 (A:Int→Bool):List Int→List aa→List aa
 | v::vs,x::xs=>(if A v=true then Me x else x)::G9 A vs xs
 | _,l=>l
def My (A:Int→Bool):List Int→List aa→List aa
 | v::vs,x::xs=>if A v=true then My A vs xs else x::My A vs xs
 | _,_=> []
def Mx (A:Int→Bool):List Int→List aa→aa→aa
 | v::vs,x::xs,o=>if A v=true then .mk 6 0 [] [.mk 17 0 [] [IM v,x],Mx A vs xs o] else Mx A vs xs o
 | _,_,o=>o
def O8 (A:Int→Bool) (vs:List Int) (l:List aa):aa:=
 let o:=Mx A vs l (l.getD vs.length (IM 0))
 if vs.filter (fun v=>!A v)= [] then o else .mk 9 0 (vs.filter fun v=>!A v) (My A vs l++ [o])
def O9 (A:Int→Bool) (vs:List Int) (l:List aa):aa:=
 .mk 8 0 (vs.filter A) ((vs.filter A).map (fun _=>Me (.mk 13 0 [] []))++ [O8 A vs l])
mutual
def aa.fr (A:Int→Bool):aa→Int
 | .mk op _ v t=>(if op=4 then ME A v else 0) + aa.PF A t
def aa.PF (A:Int→Bool):List aa→Int
 | []=>0
 | x::xs=>aa.fr A x + aa.PF A xs
end
mutual
def aa.cv (A:Int→Bool):aa→Int→aa
 | .mk op n v t,k=>
  if op=1∧A n=true then .mk 16 0 [] [.mk op n v t]
  else if op=2 then .mk 17 0 [] (IM n::aa.LF A t k)
  else if op=14 then .mk 18 0 [] (IM n::aa.LF A t k)
  else if op=4 then .mk 4 n (MG A v k) (if v.filter A= [] then aa.LF A t (k + ME A v) else [.mk 8 0 (v.filter A) (MF A v k++aa.LF A t (k + ME A v))])
  else if op=9∧v.any A=true then O9 A v (aa.LF A t k)
  else .mk op n v (if op=8 then G9 A v (aa.LF A t k) else aa.LF A t k)
def aa.LF (A:Int→Bool):List aa→Int→List aa
 | [],_=> []
 | x::xs,k=>aa.cv A x k::aa.LF A xs (k + aa.fr A x)
end
mutual
def aa.Qg:aa→Prop
 | .mk op n v t=>((op=1→v= []∧t= [])∧(op=2∨op=14∨op=4→t.length=1)∧(op=8∨op=9→t.length=v.length + 1)∧(op=9→n=0))∧aa.OI t
def aa.OI:List aa→Prop
 | []=>True
 | x::xs=>aa.Qg x∧aa.OI xs
end
mutual
def aa.P9:aa→List Int
 | .mk op n v t=>(if op=1 then [n] else [])++v++aa.On t
def aa.On:List aa→List Int
 | []=> []
 | x::xs=>aa.P9 x++aa.On xs
end
def aa.sz (l:List aa):Int:=aa.cQ l
def O0:List aa→List aa→Prop
 | [], []=>True
 | x::l,y::m=>x.cnt=y.cnt∧O0 l m
 | _,_=>False
theorem O0.getD: ∀ {l m:List aa} (i:Nat) (d:aa),O0 l m→(l.getD i d).cnt=(m.getD i d).cnt
 | [], [],_,_,_=>rfl
 | x::l,y::m,0,d,h=>by simpa using h.1
 | x::l,y::m,i + 1,d,h=>by simpa using h.2.getD i d
 | [],_::_,_,_,h=>h.elim
 | _::_, [],_,_,h=>h.elim
section
variable {A B:Int→Bool} {s:Int} (hAB: ∀ v,B (v + s)=A v)
include hAB
end
mutual
def aa.uC (P:Int→Int→Bool):aa→Int→Int
 | .mk op n _ t,deep=>(if P op n=true then 1 else 0) + (if deep < 1000 then aa.PW P t (deep + 1) else 0)
def aa.PW (P:Int→Int→Bool):List aa→Int→Int
 | [],_=>0
 | x::xs,deep=>aa.uC P x deep + aa.PW P xs deep
end
def Oy (l:List Int) (v:Int):List Int:=l.takeWhile (fun x=>decide (x < v))++(if (l.dropWhile fun x=>decide (x < v)).head?=some v then l.dropWhile (fun x=>decide (x < v)) else v::l.dropWhile fun x=>decide (x < v))
mutual
def aa.bD:aa→Int→List Int→List Int
 | .mk _ _ v t,deep,out=>if deep < 1000 then aa.PA t (deep + 1) (v.foldl Oy out) else v.foldl Oy out
def aa.PA:List aa→Int→List Int→List Int
 | [],_,out=>out
 | x::xs,deep,out=>aa.PA xs deep (aa.bD x deep out)
end
structure Nm where
 map:Int→Option Int
 next:Int
def Dr:List Int→Nm→List Int×Nm
 | [],s=>([],s)
 | v::vs,s=>
  let r:=Dr vs ⟨fun k=>if k=v then some s.next else s.map k,s.next + 1⟩
  (s.next::r.1,r.2)
mutual
def aa.PC:aa→Nm→aa×Nm
 | .mk op n v t,s=>
  let a:=Dr v s
  let b:=aa.NU t a.2
  (.mk op (if op=1 then (a.2.map n).getD n else n) a.1 b.1,b.2)
def aa.NU:List aa→Nm→List aa×Nm
 | [],s=>([],s)
 | x::xs,s=>
  let a:=aa.PC x s
  let b:=aa.NU xs a.2
  (a.1::b.1,b.2)
end
structure Co where
 next:Int
 mH:Int
 iZ:Int
 known:Int→Option aa
def Pt (t:aa):Int:=(t.all.length:Int)
def rM (t:aa):aa:=t.t.headD (.mk 0 0 [] [])
def JW (small:Int) (t:aa) (s:Co):Option aa:=
 if t.op=5∧(rM t).op=1 then
  match s.known (rM t).n with
  | some lam=>if lam.op=4∧lam.n=0∧lam.v.length + 1=t.t.length∧Pt (rM lam)≤small∧Pt (rM lam)≤s.mH then some lam else none
  | none=>none
 else none
def C7:Int→List Int→List aa→Co→Co
 | op,v::vs,x::xs,s=>C7 op vs xs (if op=9∨op=8∧x.op=4 then { s with known:=fun k=>if k=v then some x else s.known k } else s)
 | _,_,_,s=>s
mutual
def aa.Pu (small:Int):aa→Co→aa×Co
 | .mk op n v t,s=>
  if s.iZ=0 then (.mk op n v t,s) else
  match JW small (.mk op n v t) { s with iZ:=s.iZ - 1 } with
  | some lam=>
   match t with
   | []=>(.mk op n v t,s)
   | _::xs=>
    let a:=aa.Np small xs { s with iZ:=s.iZ - 1,mH:=s.mH - Pt (rM lam)}
    let b:=Dr lam.v ⟨fun _=>none,a.2.next⟩
    let c:=(rM lam).PC b.2
    (.mk 8 0 b.1 (a.1++ [c.1]),{ a.2 with next:=c.2.next })
  | none=>
   if op=9 then
    let a:=aa.Np small t (C7 op v t { s with iZ:=s.iZ - 1 })
    (.mk op n v a.1,a.2)
   else
    let a:=aa.OL small (C7 op v t) t { s with iZ:=s.iZ - 1 }
    (.mk op n v a.1,a.2)
def aa.Np (small:Int):List aa→Co→List aa×Co
 | [],s=>([],s)
 | x::xs,s=>
  let a:=aa.Pu small x s
  let b:=aa.Np small xs a.2
  (a.1::b.1,b.2)
def aa.OL (small:Int) (lrn:Co→Co):List aa→Co→List aa×Co
 | [],s=>([],lrn s)
 | x::xs,s=>
  if xs= [] then
   let a:=aa.Pu small x (lrn s)
   ([a.1],a.2)
  else
   let a:=aa.Pu small x s
   let b:=aa.OL small lrn xs a.2
   (a.1::b.1,b.2)
end
def Nm.sh (k:Int) (s:Nm):Nm:=⟨fun w=>(s.map (w - k)).map (· + k),s.next + k⟩
def Co.sh (k:Int) (s:Co):Co:=⟨s.next + k,s.mH,s.iZ,fun w=>(s.known (w - k)).map (aa.sh k)⟩
theorem aa.lH: ∀ l m:List aa,aa.aD (l++m)=aa.aD l + aa.aD m
 | [],m=>by simp[aa.aD]
 | x::l,m=>by rw[List.cons_append,aa.aD,aa.aD,aa.lH l m];omega
end Go.Cb


