/-
 Plain law: how many closures there are.
 Plain law: what stays as often as before.
 Plain law: what is right names what its scope holds; no Lam is left in a module.
 Plain law: on what is right the document learns what the program learns.
 Plain: what closure conversion comes to goes together with its program.
 Plain: what the document's machine keeps: its states, and that a run keeps them.
 Contracts: the document's machine: a run is a run of the relation: lists, calls, primitives, strict terms.
 Contracts: the document's machine: a run is a run of the relation: strict terms, bindings, terms; a program's run.
 Structs of numbers, bools and strings against one another.
 Contracts: a program that is right runs; two programs mean the same.
 Contracts: the document's words for the check of terms.
 Contracts: what is right names what it binds.
 Contracts: the program's check of modules.
 Contracts: a program's module.
 Contracts: closure's laws: the document's example, sizes, counts.
 Plain: how many variables a term has; low bits.
 Contracts: the document's check of modules.
 The law ClosureMeans, as a contract.
 From the readings of arguments to values, and from a contract to what a statement asks.
-/
import Derived.Carry
import Derived.ChangeArms
import Derived.ChangeSame
import Derived.Laws.StructEq
import Derived.OpenShut
import Derived.OpenVars
import Derived.RowKit
import Derived.WideShapes
import Derived.Test.YtkcbpdpiodgaiaaGreatDoorC7
set_option linter.unusedSimpArgs false
set_option linter.unusedVariables false
namespace Go.Cb
open Go.Proofs
set_option maxRecDepth 100000
set_option maxHeartbeats 4000000
mutual
def aa.ct (o:Int):aa→Nat
 | .mk op _ _ t=>(if op=o then 1 else 0) + aa.PD o t
def aa.PD (o:Int):List aa→Nat
 | []=>0
 | x::xs=>aa.ct o x + aa.PD o xs
end
def CI (o:Int):List bZ→Nat
 | []=>0
 | x::l=>x.body.ct o + CI o l
mutual
def aa.OT:aa→Nat
 | .mk op n v t=>(if op=4∧(fR (bQ (aa.all (.mk op n v t)))).length > 0 then 1 else 0) + aa.Ow t
def aa.Ow:List aa→Nat
 | []=>0
 | x::xs=>aa.OT x + aa.Ow xs
end
mutual
def aa.LP:aa→Prop
 | .mk op _ _ t=>((op=1→t= [])∧op≠19)∧aa.B4 t
def aa.B4:List aa→Prop
 | []=>True
 | x::xs=>aa.LP x∧aa.B4 xs
end
theorem aa.Ap (t:aa):t.LP↔((t.op=1→t.t= [])∧t.op≠19)∧aa.B4 t.t:=by cases t;rw[aa.LP];rfl
theorem aa.Ad {c codes:Int} {free:Bool} (t:aa): ∀ {scope:List Int} {deep:Int},t.lC 2 c codes free scope deep→t.LP:=by
 induction t using aa.ind with
 | h t ih=>
  intro scope deep h;rw[aa.dP] at h;rw[aa.Ap]
  have key: ∀ (op:Int) (sc inner:List Int) (deep:Int) (l:List aa),(∀ y∈l, ∀ {scope:List Int} {deep:Int},y.lC 2 c codes free scope deep→y.LP)→aa.eW 2 c codes free op sc inner l deep→aa.B4 l:=by
   intro op sc inner deep l
   induction l with
   | nil=>intro _ _;rw[aa.B4];trivial
   | cons x l ihl=>
    intro hy hk;rw[aa.eW] at hk;rw[aa.B4];exact ⟨hy x (by simp) hk.2.1,ihl (fun z hz=>hy z (by simp[hz])) hk.2.2⟩
  have hts:=h.2;obtain ⟨⟨_,h2,h3,_⟩,_⟩:=h;refine ⟨⟨fun e=>?_,fun e=>?_⟩,key _ _ _ _ _ ih hts⟩
  ·unfold di at h3
   split at h3
   ·cases h3
   ·rw[if_pos (by omega)] at h3
    exact List.eq_nil_of_length_eq_zero (by simpa using h3)
  ·rw[e] at h2
   revert h2;decide
def PY (t:aa):Prop:= ∀ ov n fm,(t.cH false ov n fm).c.length=t.ct 4∧(t.cH false ov n fm).t.ct 19 + CI 19 (t.cH false ov n fm).c≤t.ct 4∧(t.OT=0→(t.cH false ov n fm).t.ct 19 + CI 19 (t.cH false ov n fm).c=0)
def Qk (t:aa):Prop:=t.op=4→ ∀ ov n fm,(t.dB false ov n fm).c.length + 1=t.ct 4∧(t.dB false ov n fm).t.ct 19 + CI 19 (t.dB false ov n fm).c + 1≤t.ct 4∧(t.OT=0→(t.dB false ov n fm).t.ct 19 + CI 19 (t.dB false ov n fm).c=0)
theorem aa.vX: ∀ {l:List aa},aa.B4 l→ ∀ x∈l,x.LP
 | [],_,x,hx=>by cases hx
 | y::l,h,x,hx=>by
  rw[aa.B4] at h;rcases List.mem_cons.1 hx with rfl | hx
  ·exact h.1
  ·exact aa.vX h.2 x hx
theorem aa.Dd (s:List Int) (t:aa): ∀ (sc:List Int) (deep:Int),t.met (s++sc) deep=(t.met sc deep).map fun m=>(m.1,s++m.2):=by
 induction t using aa.ind with
 | h t ih=>
  intro sc deep
  have key: ∀ (op:Int) (l:List aa),(∀ y∈l, ∀ (sc:List Int) (deep:Int),y.met (s++sc) deep=(y.met sc deep).map fun m=>(m.1,s++m.2))→
    ∀ (sc inner:List Int) (deep:Int),aa.fA op (s++sc) (s++inner) l deep=(aa.fA op sc inner l deep).map fun m=>(m.1,s++m.2):=by
   intro op l
   induction l with
   | nil=>intro _ _ _ _;simp[aa.fA]
   | cons x l ihl=>
    intro hy sc inner deep;rw[aa.fA,aa.fA,List.map_append,ihl fun y hh=>hy y (by simp[hh])];congr 1;by_cases h:fV op=true∨l= []
    ·rw[if_pos h,if_pos h];exact hy x (by simp) _ _
    ·rw[if_neg h,if_neg h];exact hy x (by simp) _ _
  rw[aa.jb,aa.jb,List.map_cons,List.append_assoc];congr 1
  split
  ·rfl
  ·exact key _ _ ih _ _ _
theorem aa.Dj {level c codes:Int} {free:Bool} (t:aa) {scope:List Int} {deep:Int} (h:t.lC level c codes free scope deep): ∀ v∈bQ t.all,v∈scope:=by
 intro v hv;rw[bQ,List.mem_map] at hv;obtain ⟨m,hm,rfl⟩:=hv;rw[List.mem_filter,Bool.and_eq_true] at hm;obtain ⟨h1,h2,h3⟩:=hm
 have hme:(m.1,scope++m.2)∈t.met scope 0:=by
  have:=t.Dd scope [] 0;rw[List.append_nil] at this;rw[this];exact List.mem_map.2 ⟨m,h1,rfl⟩
 have:=t.xT 0 h _ hme h2;simp only[List.contains_iff_mem,List.mem_append] at this;rcases this with h4 | h4
 ·exact h4
 ·exfalso
  simp only[Bool.not_eq_true'] at h3;have:m.2.contains m.1.n=true:=by rw[List.contains_iff_mem];exact h4
  rw[h3] at this;cases this
theorem xP {consts codes:Int}: ∀ {l:List bZ},mW consts codes l→ ∀ x∈l,x.body.lC 3 consts codes true x.v 0
 | [],_,x,hx=>by cases hx
 | y::l,h,x,hx=>by
  rw[mW] at h;rcases List.mem_cons.1 hx with rfl | hx
  ·exact h.2.1
  ·exact xP h.2.2 x hx
theorem MJ {m:qI} (h:vv m=0):m.body.lC 3 m.consts.length m.codes.length false [] 0∧ ∀ x∈m.codes,x.body.lC 3 m.consts.length m.codes.length true x.v 0:=by
 rw[Dc] at h;unfold Db at h
 split at h
 ·rename_i hc
  rw[Bool.and_eq_true] at hc;have h2:=(Sp.seq (m.body.qR 3 m.consts.length m.codes.length false [] 0 0 []) (eV m.codes) fun b hb=>tU m.consts.length m.codes.length m.codes _ b hb).jS.1 hc.2;exact ⟨h2.1.1,xP h2.1.2⟩
 ·cases h
def qG (V:List Int) (f g:Fm):Prop:= ∀ u,u∉V→f u=g u
theorem qG.rf {V:List Int} {f:Fm}:qG V f f:=fun _ _=>rfl
theorem qG.tr {V:List Int} {f g h:Fm} (a:qG V f g) (b:qG V g h):qG V f h:=fun u hu=>(a u hu).trans (b u hu)
theorem qG.mono {V W:List Int} {f g:Fm} (a:qG V f g) (h: ∀ x∈V,x∈W):qG W f g:=fun u hu=>a u fun hv=>hu (h u hv)
theorem BX (w:Bool) (fm:Fm) (v:Int) (f:Kn):qG [v] (tw w fm v f) fm:=by
 intro u hu;have:u≠v:=by simpa using hu
 unfold tw
 split
 ·rfl
 ·first | rfl | rw[if_neg this]
theorem iE (w:Bool): ∀ (l:List (Int×Kn)) (fm:Fm),qG (l.map Prod.fst) (dr w l fm) fm
 | [],fm=>qG.rf
 | x::l,fm=>by
  rw[dr];exact ((iE w l _).mono fun y hy=>List.mem_cons_of_mem _ hy).tr ((BX w fm x.1 x.2).mono fun y hy=>by rw[List.mem_singleton] at hy;rw[hy];exact List.mem_cons_self ..)
theorem p8 (w:Bool): ∀ (vs:List Int) (n:Int) (st:Bool) (fm:Fm),qG vs (fixF w vs n st fm) fm
 | [],_,_,_=>qG.rf
 | v::vs,n,st,fm=>by
  rw[fixF];exact ((p8 w vs _ _ _).mono fun y hy=>List.mem_cons_of_mem _ hy).tr ((BX w fm v _).mono fun y hy=>by rw[List.mem_singleton] at hy;rw[hy];exact List.mem_cons_self ..)
def JI (w:Bool) (t:aa):Prop:= ∀ ov n fm,qG t.vars (t.cH w ov n fm).fm fm
def OX (w:Bool) (t:aa):Prop:= ∀ ov n fm,qG t.vars (t.dB w ov n fm).fm fm
theorem aa.Ei (w:Bool): ∀ l:List aa,(∀ y∈l,JI w y)→ ∀ ov n fm,qG (aa.bN l) (aa.dO w l ov n fm).fm fm
 | [],_,ov,n,fm=>by rw[aa.dO];exact qG.rf
 | y::l,h,ov,n,fm=>by
  rw[aa.dO,aa.bN];have a:=h y (by simp) ov n fm;have b:=aa.Ei w l (fun z hz=>h z (by simp[hz])) ov (n + (y.cH w ov n fm).c.length) (y.cH w ov n fm).fm;exact (b.mono fun x hx=>by simp[hx]).tr (a.mono fun x hx=>by simp[hx])
theorem aa.Ed (w:Bool): ∀ l:List aa,(∀ y∈l,JI w y)→ ∀ vs ov n fm lrn,qG ((vs++lrn.map Prod.fst)++aa.bN l) (aa.dN w l vs ov n fm lrn).fm fm
 | [],_,vs,ov,n,fm,lrn=>by
  rw[aa.dN];exact (iE w lrn fm).mono fun x hx=>by simp only[List.mem_append];exact .inl (.inr hx)
 | y::l,h, [],ov,n,fm,lrn=>by
  rw[aa.dN,aa.bN];have a:=h y (by simp) ov n (dr w lrn fm);refine (a.mono fun x hx=>?_).tr ((iE w lrn fm).mono fun x hx=>?_)
  ·simp only[List.mem_append];exact .inr (.inl hx)
  ·simp only[List.mem_append];exact .inl (.inr hx)
 | y::l,h,v::vs,ov,n,fm,lrn=>by
  rw[aa.dN,aa.bN];have a:=h y (by simp) ov n fm;have b:=aa.Ed w l (fun z hz=>h z (by simp[hz])) vs ov (n + (y.cH w ov n fm).c.length) (y.cH w ov n fm).fm (if y.op=4 then lrn++ [(v,⟨n,(y.cH w ov n fm).t.op == 21⟩)] else lrn);refine (b.mono fun x hx=>?_).tr (a.mono fun x hx=>?_)
  ·simp only[List.mem_append,List.mem_cons] at hx⊢
   rcases hx with (hx | hx) | hx
   ·exact .inl (.inl (.inr hx))
   ·split at hx
    ·simp only[List.map_append,List.map_cons,List.map_nil,List.mem_append,List.mem_singleton] at hx
     rcases hx with hx | hx
     ·exact .inl (.inr hx)
     ·exact .inl (.inl (.inl hx))
    ·exact .inl (.inr hx)
   ·exact .inr (.inr hx)
  ·simp only[List.mem_append];exact .inr (.inl hx)
theorem aa.D9 (w:Bool): ∀ l:List aa,(∀ y∈l,JI w y)→(∀ y∈l,OX w y)→ ∀ vs ov c n fm,qG (aa.bN l) (aa.dw w l vs ov c n fm).fm fm
 | [],_,_,vs,ov,c,n,fm=>by rw[aa.dw];exact qG.rf
 | y::l,h,_, [],ov,c,n,fm=>by
  rw[aa.dw,aa.bN];exact (h y (by simp) ov n fm).mono fun x hx=>by simp only[List.mem_append];exact .inl hx
 | y::l,h,k,v::vs,ov,c,n,fm=>by
  rw[aa.dw,aa.bN];have a:=k y (by simp) (aO fm y) n fm;have b:=aa.D9 w l (fun z hz=>h z (by simp[hz])) (fun z hz=>k z (by simp[hz])) vs ov (c + 1) (n + (y.dB w (aO fm y) n fm).c.length) (y.dB w (aO fm y) n fm).fm;exact (b.mono fun x hx=>by simp only[List.mem_append];exact .inr hx).tr (a.mono fun x hx=>by simp only[List.mem_append];exact .inl hx)
theorem aa.y6 (w:Bool) (t:aa):JI w t∧OX w t:=by
 induction t using aa.ind with
 | h t ih=>
  have hv: ∀ x∈aa.bN t.t,x∈t.vars:=fun x hx=>by rw[aa.gY];exact List.mem_append.2 (.inr hx)
  have hB:OX w t:=by
   intro ov n fm;rw[aa.nE]
   cases ht:t.t with
   | nil=>rw[aa.pO];exact qG.rf
   | cons z zs=>
    rw[aa.pO];exact ((ih z (by rw[ht];simp)).1 ov n fm).mono fun x hx=>hv x (by rw[ht,aa.bN];exact List.mem_append.2 (.inl hx))
  refine ⟨?_,hB⟩;intro ov n fm;rw[aa.iY]
  split
  ·exact qG.rf
  split
  ·exact hB _ _ _
  split
  ·refine (aa.Ed w t.t (fun y hy=>(ih y hy).1) t.v ov n fm []).mono fun x hx=>?_
   rw[aa.gY];simpa using hx
  split
  ·refine ((aa.D9 w t.t (fun y hy=>(ih y hy).1) (fun y hy=>(ih y hy).2) _ _ _ _ _).mono hv).tr ((p8 w _ _ _ _).mono fun x hx=>?_)
   rw[aa.gY];exact List.mem_append.2 (.inl hx)
  ·exact (aa.Ei w t.t (fun y hy=>(ih y hy).1) ov n fm).mono hv
theorem Gc {V:List Int} {f g:Fm} (h:qG V f g) (t:aa) (hf: ∀ v∈bQ t.all,v∉V):aO f t=aO g t:=by
 unfold aO;refine List.filter_congr fun v hv=>?_;have:=h v (hf v ((jN _ _).1 hv));rw[gE,gE,this]
def Cv (K:List bZ) (n:Nat) (c:List bZ):Prop:= ∀ i (h:i < c.length),K[n + i]?=some c[i]
theorem Cv.app {K:List bZ} {n:Nat} {c d:List bZ} (h:Cv K n (c++d)):Cv K n c∧Cv K (n + c.length) d:=by
 refine ⟨fun i hi=>?_,fun i hi=>?_⟩
 ·have:=h i (by rw[List.length_append];omega)
  rwa [List.getElem_append_left hi] at this
 ·have:=h (c.length + i) (by rw[List.length_append];omega)
  rw[List.getElem_append_right (by omega)] at this;rw[Nat.add_assoc,this];congr 1;simp
theorem Cv.cons {K:List bZ} {n:Nat} {x:bZ} {c:List bZ} (h:Cv K n (x::c)):K[n]?=some x∧Cv K (n + 1) c:=by
 refine ⟨h 0 (by simp),fun i hi=>?_⟩;have:=h (i + 1) (by simpa using hi);rw[show n + 1 + i=n + (i + 1) by omega,this];rfl
def Gz (sc S ov:List Int) (t:aa):Prop:=(∀ v∈bQ t.all,v∈S)∧(∀ v∈S,v∈sc)∧ ∀ v∈ov,v∈sc
def DL (K:List bZ) (cs cd:Int) (t:aa):Prop:= ∀ sc deep S ov n fm,0≤deep→t.lC 2 cs cd false sc deep→t.vars.Nodup→(∀ x∈t.vars,x∉sc∧fm x=none)→Gz sc S ov t→Cv K n (t.cH false ov n fm).c→Cl K S fm ov t (t.cH false ov n fm).t
def LV (K:List bZ) (cs cd:Int) (t:aa):Prop:= ∀ sc deep S ov m n fm,0≤deep→t.op=4→t.lC 2 cs cd false sc deep→t.vars.Nodup→(∀ x∈t.vars,x∉sc∧fm x=none)→Gz sc S ov t→K[m]?=some ⟨t.v,t.n == 1,(t.dB false (aO fm t) n fm).t⟩→Cv K n (t.dB false (aO fm t) n fm).c→Cl K S fm ov t (iX ((m:Nat):Int) ((aO fm t).map (dc fm ov)))
theorem Cl.fm {K:List bZ} {S:List Int} {fm fm0:Fm} {ov:List Int} {t t':aa} (h:Cl K S fm ov t t') {V:List Int} (ho:qG V fm fm0) (hV: ∀ v∈S,v∉V):Cl K S fm0 ov t t':=h.agree fm0 fun v hv=>(ho v (hV v hv)).symm
theorem BN {t:aa} (ho:t.op=1):t.n∈bQ t.all:=by
 refine oQ.2 ⟨(t, []),?_,by rw[ho];rfl,rfl,rfl⟩;unfold aa.all;rw[aa.jb];exact List.mem_cons_self ..
theorem Gz.part {cs cd:Int} {sc S ov:List Int} {t x:aa} (h:Gz sc S ov t) (hd:t.dep < 999) (hx:x∈t.t) {deep:Int} (hok:x.lC 2 cs cd false sc deep) (hv: ∀ v∈t.v,v∉sc):Gz sc S ov x:=
 ⟨fun v hv'=>h.1 v (aa.nL hx hd hv' fun hm=>hv v hm (x.Dj hok v hv')),h.2⟩
theorem Gz.inner {sc S ov:List Int} {t x:aa} (h:Gz sc S ov t) (hd:t.dep < 999) (hx:x∈t.t):Gz (sc++t.v) (S++t.v) ov x:=
 ⟨fun v hv'=>List.mem_append.2 (by
  by_cases hm:v∈t.v
  ·exact .inr hm
  ·exact .inl (h.1 v (aa.nL hx hd hv' hm))),fun v hv=>List.mem_append.2 ((List.mem_append.1 hv).imp (h.2.1 v) id),fun v hv=>List.mem_append.2 (.inl (h.2.2 v hv))⟩
theorem aa.Eh {K:List bZ} {cs cd:Int} {sc S ov:List Int}: ∀ l:List aa, ∀ dp:Int,0≤dp→(∀ y∈l,DL K cs cd y)→(∀ y∈l,y.lC 2 cs cd false sc dp)→(aa.bN l).Nodup→(∀ y∈l,Gz sc S ov y)→(∀ v∈S,v∈sc)→ ∀ n fm,(∀ x∈aa.bN l,x∉sc∧fm x=none)→Cv K n (aa.dO false l ov n fm).c→
   ∃ ts,(aa.dO false l ov n fm).t=ts∧ ∃ hl:ts.length=l.length, ∀ i (hi:i < l.length),Cl K S fm ov l[i] (ts[i]'(by omega))
 | [],_,_,_,_,_,_,_,n,fm,_,_=>by
  rw[aa.dO];exact ⟨_,rfl,rfl,fun i hi=>absurd hi (Nat.not_lt_zero _)⟩
 | y::l,dp,hdp,h,k,hn,hF,hS,n,fm,hf,hP=>by
  rw[aa.dO] at hP ⊢;obtain ⟨hP1,hP2⟩:=hP.app;rw[aa.bN,List.nodup_append] at hn;obtain ⟨n1,n2,n3⟩:=hn;have a:=h y (by simp) sc dp S ov n fm hdp (k y (by simp)) n1 (fun x hx=>hf x (by rw[aa.bN];simp[hx])) (hF y (by simp)) hP1;have hfr:=(y.y6 false).1 ov n fm
  obtain ⟨ts,e,hl,b⟩:=aa.Eh l dp hdp (fun z hz=>h z (by simp[hz])) (fun z hz=>k z (by simp[hz])) n2 (fun z hz=>hF z (by simp[hz])) hS (n + (y.cH false ov n fm).c.length) (y.cH false ov n fm).fm (fun x hx=>by
   have h2:=hf x (by rw[aa.bN];simp[hx])
   exact ⟨h2.1,by rw[hfr x fun hy=>n3 x hy x hx rfl];exact h2.2⟩) hP2
  dsimp only;rw[e];refine ⟨_,rfl,by simp[hl],fun i hi=>?_⟩
  match i,hi with
  | 0,_=>exact a
  | i + 1,hi=>
   exact (b i (by simpa using hi)).fm hfr fun v hv hy=>(hf v (by rw[aa.bN];simp[hy])).1 (hS v hv)
theorem E3 (fm:Fm) (v:Int) (f:Kn):tw false fm v f v=some f:=by unfold tw;simp
theorem xK: ∀ (l:List (Int×Kn)) (fm:Fm),(l.map Prod.fst).Nodup→ ∀ p∈l,dr false l fm p.1=some p.2
 | x::l,fm,hn,p,hp=>by
  rw[List.map_cons,List.nodup_cons] at hn;rw[dr];rcases List.mem_cons.1 hp with rfl | hp
  ·rw[iE false l _ p.1 hn.1]
   exact E3 _ _ _
  ·exact xK l _ hn.2 p hp
theorem zi: ∀ (vs:List Int) (n:Nat) (st:Bool) (fm:Fm),vs.Nodup→ ∀ i (hi:i < vs.length),fixF false vs (n:Int) st fm vs[i]=some ⟨((n + i:Nat):Int),st⟩
 | v::vs,n,st,fm,hn,i,hi=>by
  rw[List.nodup_cons] at hn;rw[fixF]
  match i,hi with
  | 0,_=>
   rw[List.getElem_cons_zero,p8 false vs _ _ _ v hn.1];exact E3 _ _ _
  | i + 1,hi=>
   have:=zi vs (n + 1) st (tw false fm v ⟨n,st⟩) hn.2 i (by simpa using hi);rw[List.getElem_cons_succ,show ((n:Int) + 1)=((n + 1:Nat):Int) by omega,this,show n + 1 + i=n + (i + 1) by omega]
theorem aa.Hl (t:aa) (h:t.op=4) (ov:List Int) (n:Nat) (fm:Fm):(t.cH false ov n fm).t.n=n:=by
 rw[aa.iY,if_neg (by omega),if_pos h];exact (mJ _ _).1
theorem aa.Ec {K:List bZ} {cs cd:Int} {sc inner S Si ov:List Int} (hsi: ∀ x∈sc,x∈inner) (hS: ∀ v∈S,v∈sc): ∀ (l:List aa) (deep:Int),0≤deep→(∀ y∈l,DL K cs cd y)→aa.eW 2 cs cd false 8 sc inner l deep→(aa.bN l).Nodup→ ∀ vs,l.length=vs.length + 1→ ∀ n fm lrn,(vs++lrn.map Prod.fst).Nodup→(∀ x∈vs++lrn.map Prod.fst,x∉aa.bN l∧x∉sc∧fm x=none)→(∀ x∈aa.bN l,x∉inner∧fm x=none)→
   (∀ i (hi:i < l.length),if i + 1=l.length then Gz inner Si ov l[i] else Gz sc S ov l[i])→Cv K n (aa.dN false l vs ov n fm lrn).c→
   ∃ (l2:List aa) (fmB:Fm), ∃ (hl:l2.length=vs.length) (hv:vs.length < l.length),(∀ i (hi:i < vs.length),Cl K S fm ov (l[i]'(by omega)) (l2[i]'(by omega)))∧(∀ u,u∉aa.bN l→u∉vs→u∉lrn.map Prod.fst→fmB u=fm u)∧(∀ i (hi:i < vs.length),fmB vs[i]=if (l[i]'(by omega)).op=4 then some ⟨(l2[i]'(by omega)).n,(l2[i]'(by omega)).op == 21⟩ else none)∧(∀ p∈lrn,fmB p.1=some p.2)∧
    (aa.dN false l vs ov n fm lrn).v=gx fmB vs∧(aa.dN false l vs ov n fm lrn).t=mq fmB vs l2∧Cl K Si fmB ov (l[vs.length]'hv) (aa.dN false l vs ov n fm lrn).last
 | [],_,_,_,_,_,vs,hl,_,_,_,_,_,_,_,_=>by simp at hl
 | y::l,deep,hd0,h,k,hn, [],hl,n,fm,lrn,hv,hvf,hf,hF,hP=>by
  obtain rfl:l= []:=List.eq_nil_of_length_eq_zero (by simpa using hl);rw[aa.eW,if_pos (.inl rfl)] at k;simp only[aa.bN,List.append_nil] at hn hvf hf;rw[List.nil_append] at hv hvf;rw[aa.dN] at hP ⊢;have hF0:=hF 0 (by simp);rw[if_pos (by simp)] at hF0;refine ⟨[],dr false lrn fm,rfl,by simp,fun i hi=>absurd hi (Nat.not_lt_zero _),fun u _ _ hu=>iE false lrn fm u hu,fun i hi=>absurd hi (Nat.not_lt_zero _),xK lrn fm hv,rfl,?_,?_⟩
  ·rw[mq];intros;simp_all
  ·exact h y (by simp) inner deep Si ov n _ hd0 k.2.1 hn (fun x hx=>⟨(hf x hx).1,by rw[iE false lrn fm x fun hx2=>(hvf x hx2).1 hx];exact (hf x hx).2⟩) hF0 hP
 | y::l,deep,hd0,h,k,hn,v::vs,hl,n,fm,lrn,hv,hvf,hf,hF,hP=>by
  have hl0:l≠ []:=by intro e;rw[e] at hl;simp at hl
  have hl1:0 < l.length:=List.length_pos_iff.2 hl0;rw[aa.eW,if_neg (show ¬(l= []∨(8:Int)=7∨(8:Int)=9) by simp[hl0])] at k;rw[aa.bN,List.nodup_append] at hn;obtain ⟨n1,n2,n3⟩:=hn;rw[aa.dN] at hP ⊢;obtain ⟨hP1,hP2⟩:=hP.app;have hF0:=hF 0 (by simp);rw[if_neg (by simp;omega),List.getElem_cons_zero] at hF0
  have a:=h y (by simp) sc deep S ov n fm hd0 k.2.1 n1 (fun x hx=>by
   have:=hf x (by rw[aa.bN];simp[hx])
   exact ⟨fun hs=>this.1 (hsi x hs),this.2⟩) hF0 hP1
  have hfr:=(y.y6 false).1 ov n fm;have hyS: ∀ u∈S,u∉y.vars:=fun u hu hy=>(hf u (by rw[aa.bN];simp[hy])).1 (hsi u (hS u hu))
  obtain ⟨l2,fmB,k1,k2,k3,k4,k5,k6,k7,k8,k9⟩:=aa.Ec hsi hS l deep hd0 (fun z hz=>h z (by simp[hz])) k.2.2 n2 vs (by simpa using hl) (n + (y.cH false ov n fm).c.length) (y.cH false ov n fm).fm (if y.op=4 then lrn++ [(v,⟨n,(y.cH false ov n fm).t.op == 21⟩)] else lrn) (by
    split
    ·rw[List.map_append,List.map_cons,List.map_nil, ←List.append_assoc]
     exact (List.perm_append_singleton v (vs++lrn.map Prod.fst)).nodup_iff.2 (by simpa using hv)
    ·rw[List.cons_append,List.nodup_cons] at hv;exact hv.2) (by
    intro x hx
    have hx2:x∈(v::vs)++lrn.map Prod.fst:=by
     split at hx
     ·simp only[List.map_append,List.map_cons,List.map_nil,List.mem_append,List.mem_singleton,List.mem_cons] at hx⊢
      rcases hx with hx | hx | hx
      ·exact .inl (.inr hx)
      ·exact .inr hx
      ·exact .inl (.inl (by simpa using hx))
     ·simp only[List.mem_append,List.mem_cons] at hx⊢
      rcases hx with hx | hx
      ·exact .inl (.inr hx)
      ·exact .inr hx
    have h3:=hvf x hx2;rw[aa.bN,List.mem_append,not_or] at h3
    exact ⟨h3.1.2,h3.2.1,by rw[hfr x h3.1.1];exact h3.2.2⟩) (by
    intro x hx;have h2:=hf x (by rw[aa.bN];simp[hx])
    exact ⟨h2.1,by rw[hfr x fun hy=>n3 x hy x hx rfl];exact h2.2⟩) (fun i hi=>by
    have:=hF (i + 1) (by simpa using hi)
    simpa using this) hP2
  have hvS: ∀ w∈v::vs,w∉y.vars:=fun w hw hy=>(hvf w (List.mem_append.2 (.inl hw))).1 (by rw[aa.bN];simp[hy])
  have hB:fmB v=if y.op=4 then some ⟨(y.cH false ov n fm).t.n,(y.cH false ov n fm).t.op == 21⟩ else none:=by
   split
   ·rename_i h4
    rw[if_pos h4] at k6;rw[k6 (v,⟨n,(y.cH false ov n fm).t.op == 21⟩) (by simp),aa.Hl y h4]
   ·rename_i h4
    rw[if_neg h4] at k4;have h3:=hvf v (by simp);rw[aa.bN,List.mem_append,not_or] at h3;rw[List.cons_append,List.nodup_cons,List.mem_append,not_or] at hv;rw[k4 v h3.1.2 hv.1.1 hv.1.2,hfr v h3.1.1];exact h3.2.2
  refine ⟨(y.cH false ov n fm).t::l2,fmB,by simpa using k1,by simpa using k2,fun i hi=>?_,fun u hu1 hu2 hu3=>?_,fun i hi=>?_,fun p hp=>k6 p (by split<;>simp[hp]),?_,?_,k9⟩
  ·match i,hi with
   | 0,_=>exact a
   | i + 1,hi=>exact (k3 i (by simpa using hi)).fm hfr hyS
  ·rw[aa.bN,List.mem_append,not_or] at hu1
   rw[List.mem_cons,not_or] at hu2
   rw[k4 u hu1.2 hu2.2 (by
    split
    ·rw[List.map_append,List.mem_append,not_or]
     exact ⟨hu3,by simpa using hu2.1⟩
    ·exact hu3)]
   exact hfr u hu1.1
  ·match i,hi with
   | 0,_=>exact hB
   | i + 1,hi=>exact k5 i (by simpa using hi)
  ·dsimp only
   rw[k7];unfold gx;by_cases h4:y.op=4∧(y.cH false ov n fm).t.op=21
   ·rw[if_pos h4,List.filter_cons_of_neg]
    unfold gE;rw[hB,if_pos h4.1];simp[h4.2]
   ·rw[if_neg h4,List.filter_cons_of_pos]
    unfold gE;rw[hB];by_cases h5:y.op=4
    ·rw[if_pos h5]
     simp only[not_and] at h4;simpa using h4 h5
    ·rw[if_neg h5];rfl
  ·dsimp only
   rw[k8,mq];by_cases h4:y.op=4∧(y.cH false ov n fm).t.op=21
   ·rw[if_pos h4,if_pos]
    unfold gE;rw[hB,if_pos h4.1];simp[h4.2]
   ·rw[if_neg h4,if_neg]
    unfold gE;rw[hB];by_cases h5:y.op=4
    ·rw[if_pos h5]
     simp only[not_and] at h4;simpa using h4 h5
    ·rw[if_neg h5];simp
theorem aa.D8 {K:List bZ} {cs cd:Int} {sc inner S ov:List Int} (hS: ∀ v∈S,v∈inner): ∀ (l:List aa) (deep:Int),0≤deep→(∀ y∈l,DL K cs cd y)→(∀ y∈l,LV K cs cd y)→aa.eW 2 cs cd false 9 sc inner l deep→(aa.bN l).Nodup→ ∀ vs,l.length=vs.length + 1→ ∀ (c n:Nat) fm,(∀ x∈aa.bN l,x∉inner∧fm x=none)→(∀ y∈l,Gz inner S ov y)→
   Cv K c (aa.dw false l vs ov c n fm).own→Cv K n (aa.dw false l vs ov c n fm).c→
   ∃ ls:List (List aa), ∃ (hls:ls.length=vs.length) (hv:vs.length < l.length),(∀ i (hi:i < vs.length),Cl K S fm ov (l[i]'(by omega)) (iX ((c + i:Nat):Int) (ls[i]'(by omega)))∧(ls[i]'(by omega)).length=(aO fm (l[i]'(by omega))).length)∧(aa.dw false l vs ov c n fm).t=(ls.zipIdx c).map (fun p=>.mk 19 ((p.2:Nat):Int) [] p.1)∧Cl K S fm ov (l[vs.length]'hv) (aa.dw false l vs ov c n fm).last
 | [],_,_,_,_,_,_,vs,hl,_,_,_,_,_,_,_=>by simp at hl
 | y::l,deep,hd0,h,_,k,hn, [],hl,c,n,fm,hf,hF,hP,hQ=>by
  obtain rfl:l= []:=List.eq_nil_of_length_eq_zero (by simpa using hl);rw[aa.eW,if_pos (.inl rfl)] at k;simp only[aa.bN,List.append_nil] at hn hf;rw[aa.dw] at hP hQ ⊢;exact ⟨[],rfl,by simp,fun i hi=>absurd hi (Nat.not_lt_zero _),rfl,h y (by simp) inner deep S ov n fm hd0 k.2.1 hn hf (hF y (by simp)) hQ⟩
 | y::l,deep,hd0,h,hB,k,hn,v::vs,hl,c,n,fm,hf,hF,hP,hQ=>by
  have hl0:l≠ []:=by intro e;rw[e] at hl;simp at hl
  rw[aa.eW,if_pos (.inr (.inr rfl))] at k;rw[aa.bN,List.nodup_append] at hn;obtain ⟨n1,n2,n3⟩:=hn
  have h4:y.op=4:=by
   have:=k.1;apply Classical.byContradiction;intro hne;exact this ⟨rfl,hl0,by simpa[jf] using hne⟩
  have hfy: ∀ x∈y.vars,x∉inner∧fm x=none:=fun x hx=>hf x (by rw[aa.bN];simp[hx]);rw[aa.dw] at hP hQ ⊢;obtain ⟨hP1,hP2⟩:=hP.cons;obtain ⟨hQ1,hQ2⟩:=hQ.app;have a:=hB y (by simp) inner deep S ov c n fm hd0 h4 k.2.1 n1 hfy (hF y (by simp)) hP1 hQ1;have hfr:qG y.vars (y.dB false (aO fm y) n fm).fm fm:=(y.y6 false).2 _ _ _;have hyS: ∀ u∈S,u∉y.vars:=fun u hu hy=>(hfy u hy).1 (hS u hu)
  obtain ⟨ls,k1,k2,k3,k4,k5⟩:=aa.D8 hS l deep hd0 (fun z hz=>h z (by simp[hz])) (fun z hz=>hB z (by simp[hz])) k.2.2 n2 vs (by simpa using hl) (c + 1) (n + (y.dB false (aO fm y) n fm).c.length) (y.dB false (aO fm y) n fm).fm (fun x hx=>by
   have h2:=hf x (by rw[aa.bN];simp[hx])
   exact ⟨h2.1,by rw[hfr x fun hy=>n3 x hy x hx rfl];exact h2.2⟩) (fun z hz=>hF z (by simp[hz])) hP2 hQ2
  have hov:(aO fm y).map (dc (y.dB false (aO fm y) n fm).fm ov)=(aO fm y).map (dc fm ov):=List.map_congr_left fun u hu=>tZ ov (hfr u (hyS u ((hF y (by simp)).1 u (by
   unfold aO at hu
   exact (jN _ _).1 (List.mem_filter.1 hu).1))))
  refine ⟨(aO fm y).map (dc fm ov)::ls,by simpa using k1,by simpa using k2,fun i hi=>?_,?_,k5.fm hfr hyS⟩
  ·match i,hi with
   | 0,_=>exact ⟨a,by simp⟩
   | i + 1,hi=>
    obtain ⟨m1,m2⟩:=k3 i (by simpa using hi);refine ⟨?_,?_⟩
    ·have:=m1.fm hfr hyS
     rw[show c + 1 + i=c + (i + 1) by omega] at this;exact this
    ·have hm:l[i]'(by simp at hi;omega)∈l:=List.getElem_mem _
     refine m2.trans ?_;rw[Gc hfr _ fun u hu=>hyS u ((hF _ (List.mem_cons_of_mem _ hm)).1 u hu)];rfl
  ·dsimp only
   rw[if_neg (by decide),hov,List.zipIdx_cons,List.map_cons,show ((c:Int) + 1)=((c + 1:Nat):Int) by omega,k4]
theorem aa.Mp (K:List bZ) (cs cd:Int) (t:aa):DL K cs cd t∧LV K cs cd t:=by
 induction t using aa.ind with
 | h t ih=>
  have hB:LV K cs cd t:=by
   intro sc deep S ov m n fm hd0 h4 hok hn hf hF hm hP;have hI:=(aa.o0 t).1 (t.tY (by decide) hok);have hdep:=t.vF hok
   have hrest:t.n=1→0 < t.v.length:=by
    rw[aa.dP] at hok;have hs:=hok.1.2.2.2;unfold bW at hs;rw[if_neg (by omega),if_neg (by omega),if_neg (by omega),if_pos h4] at hs;simp at hs;omega
   rw[aa.dP] at hok;rw[aa.gY] at hn hf;have hn2:=List.nodup_append.1 hn;have hlen:=hI.1.2.1 h4
   obtain ⟨b,hb⟩: ∃ b,t.t= [b]:=by
    match ht:t.t,hlen with
    | [b],_=>exact ⟨b,rfl⟩
    | [],h=>simp at h
    | _::_::_,h=>simp at h
   rw[aa.nE,hb,aa.pO] at hm hP;have hk:=hok.2;rw[hb,aa.eW,if_pos (.inl rfl)] at hk;have hbm:b∈t.t:=by rw[hb];simp
   have hov: ∀ u∈aO fm t,u∈S∧gE fm u=false:=fun u hu=>by
    unfold aO at hu;obtain ⟨h1,h2⟩:=List.mem_filter.1 hu;exact ⟨hF.1 u ((jN _ _).1 h1),by simpa using h2⟩
   have hvS: ∀ u∈t.v,u∉S:=fun u hu hs=>(hf u (List.mem_append.2 (.inl hu))).1 (hF.2.1 u hs);refine .lam (S2:=S.filter fun u=>gE fm u || (aO fm t).contains u) (fm2:=fm) h4 hb hrest ⟨fun u hu=>?_,hov,fun _ _=>rfl,hn2.1,fun u hu=>⟨fun hs=>hvS u hu (List.mem_filter.1 hs).1,fun hs=>hvS u hu (hov u hs).1,(hf u (List.mem_append.2 (.inl hu))).2⟩⟩ hm ?_
   ·obtain ⟨h1,h2⟩:=List.mem_filter.1 hu
    refine ⟨h1,?_⟩;simpa using h2
   ·refine (ih b hbm).1 (sc++t.v) (deep + 1) _ _ n fm (by omega) hk.2.1 (by have:=hn2.2.1;rw[hb] at this;simpa[aa.bN] using this) (fun x hx=>?_) ⟨fun v hv=>?_,fun v hv=>?_,fun v hv=>List.mem_append.2 (.inl (hF.2.1 v (hov v hv).1))⟩ hP
    ·have hx2:x∈aa.bN t.t:=by rw[hb];simpa[aa.bN] using hx
     have h2:=hf x (List.mem_append.2 (.inr hx2));refine ⟨fun hx3=>?_,h2.2⟩;rcases List.mem_append.1 hx3 with h5 | h5
     ·exact h2.1 h5
     ·exact hn2.2.2 x h5 x hx2 rfl
    ·by_cases hm2:v∈t.v
     ·exact List.mem_append.2 (.inr hm2)
     ·have hft:=aa.nL hbm (by omega) hv hm2
      refine List.mem_append.2 (.inl (List.mem_filter.2 ⟨hF.1 v hft,?_⟩))
      cases hs:gE fm v with
      | true=>rfl
      | false=>
       have:v∈aO fm t:=by
        unfold aO;exact List.mem_filter.2 ⟨(jN _ _).2 hft,by rw[hs];rfl⟩
       simpa using this
    ·rcases List.mem_append.1 hv with h5 | h5
     ·exact List.mem_append.2 (.inl (hF.2.1 v (List.mem_filter.1 h5).1))
     ·exact List.mem_append.2 (.inr h5)
  refine ⟨?_,hB⟩;intro sc deep S ov n fm hd0 hok hn hf hF hP;have hI:=(aa.o0 t).1 (t.tY (by decide) hok);have hD:=(aa.Ao t).1 (t.ES hok hn);have hdep:=t.vF hok;have hok0:=hok;rw[aa.iY] at hP ⊢;by_cases h1:t.op=1
  ·rw[if_pos h1]
   exact .ref h1 (hF.1 _ (BN h1))
  rw[if_neg h1] at hP ⊢;by_cases h4:t.op=4
  ·rw[if_pos h4] at hP⊢
   obtain ⟨hP1,hP2⟩:=Cv.cons hP;have a:=hB sc deep S ov n (n + 1) fm hd0 h4 hok hn hf hF hP1 hP2;have hfr:qG t.vars (t.dB false (aO fm t) (n + 1) fm).fm fm:=(t.y6 false).2 _ _ _
   have hov:(aO fm t).map (dc (t.dB false (aO fm t) (n + 1) fm).fm ov)=(aO fm t).map (dc fm ov):=List.map_congr_left fun u hu=>tZ ov (hfr u fun hy=>(hf u hy).1 (hF.2.1 u (hF.1 u (by
    unfold aO at hu
    exact (jN _ _).1 (List.mem_filter.1 hu).1))))
   dsimp only;rw[if_neg (by decide),hov];exact a
  rw[if_neg h4] at hP ⊢;rw[aa.dP] at hok;rw[aa.gY] at hn hf;have hn2:=List.nodup_append.1 hn;have hvsc: ∀ u∈t.v,u∉sc∧fm u=none:=fun u hu=>hf u (List.mem_append.2 (.inl hu))
  have hap: ∀ u∈t.v,u∉S∧u∉ov:=fun u hu=>⟨fun h=>(hvsc u hu).1 (hF.2.1 u h),fun h=>(hvsc u hu).1 (hF.2.2 u h)⟩
  have hin: ∀ x∈aa.bN t.t,x∉sc++t.v∧fm x=none:=fun x hx=>by
   have h2:=hf x (List.mem_append.2 (.inr hx));refine ⟨fun hx2=>?_,h2.2⟩;rcases List.mem_append.1 hx2 with h5 | h5
   ·exact h2.1 h5
   ·exact hn2.2.2 x h5 x hx rfl
  have hlast: ∀ (hlen:t.t.length=t.v.length + 1) (hv:t.v.length < t.t.length),t.t=t.t.take t.v.length++ [t.t[t.v.length]'hv]:=fun hlen hv=>by
   rw[←List.take_succ_eq_append_getElem hv,List.take_of_length_le (by omega)]
  by_cases h8:t.op=8
  ·rw[if_pos h8] at hP⊢
   have hlen:=hI.1.2.2.1 (.inl h8);have hok2:=hok.2;rw[h8] at hok2
   obtain ⟨l2,fmB,k1,k2,k3,k4,k5,_,k7,k8,k9⟩:=aa.Ec (S:=S) (Si:=S++t.v) (ov:=ov) (sc:=sc) (inner:=sc++t.v) (fun x hx=>List.mem_append.2 (.inl hx)) hF.2.1 t.t (deep + 1) (by omega) (fun y hy=>(ih y hy).1) hok2 hn2.2.1 t.v hlen n fm [] (by simpa using hn2.1) (fun x hx=>by
    have hx1:x∈t.v:=by simpa using hx
    exact ⟨fun h2=>hn2.2.2 x hx1 x h2 rfl,(hvsc x hx1).1,(hvsc x hx1).2⟩) hin (fun i hi=>by
     have hy:=List.getElem_mem hi
     split
     ·exact hF.inner (by omega) hy
     ·rename_i hne
      have:=(iU hok2 i hi).1;rw[if_neg (by omega)] at this
      exact hF.part (by omega) hy this fun v hv=>(hvsc v hv).1) hP
   dsimp only;rw[k7,k8];refine .lt (l:=t.t.take t.v.length) (b:=t.t[t.v.length]'k2) h8 (hlast hlen k2) (by rw[List.length_take];omega) hn2.1 hap (by rw[List.length_take];omega) (fun i hi=>?_) (fun u hu=>k4 u (fun h=>(hin u h).1 (List.mem_append.2 (.inl (hF.2.1 u hu)))) (fun h=>(hap u h).1 hu) (by simp)) (fun i hi=>?_) k9
   ·rw[List.length_take] at hi
    rw[List.getElem_take];exact k3 i (by omega)
   ·rw[k5 i hi,List.getElem_take]
    split
    ·rename_i ho;exact .inr ⟨ho,rfl⟩
    ·exact .inl rfl
  rw[if_neg h8] at hP ⊢;by_cases h9:t.op=9
  ·rw[if_pos h9] at hP⊢
   have hlen:=hI.1.2.2.1 (.inr h9);have hok2:=hok.2;rw[h9] at hok2
   obtain ⟨fm0,hfm0⟩: ∃ f,f=fixF false t.v (n:Int) (kH fm t.v t.t) fm:=⟨_,rfl⟩
   dsimp only at hP ⊢;rw[←hfm0] at hP ⊢;obtain ⟨hP1,hP2⟩:=Cv.app hP;have hofl:(aa.dw false t.t t.v ov n (n + t.v.length) fm0).own.length=t.v.length:=(aa.uF false t.t (fun y _=>(y.eC false).1) (fun y _=>(y.eC false).2) t.v ov n (n + t.v.length) fm0).2.1 (by omega);rw[hofl] at hP2;have hoff:qG t.v fm0 fm:=by rw[hfm0];exact p8 false t.v _ _ fm
   obtain ⟨ls,k1,k2,k3,k4,k5⟩:=aa.D8 (S:=S++t.v) (ov:=ov) (sc:=sc) (inner:=sc++t.v) (fun v hv=>List.mem_append.2 ((List.mem_append.1 hv).imp (hF.2.1 v) id)) t.t (deep + 1) (by omega) (fun y hy=>(ih y hy).1) (fun y hy=>(ih y hy).2) hok2 hn2.2.1 t.v hlen n (n + t.v.length) fm0 (fun x hx=>⟨(hin x hx).1,by rw[hoff x fun h5=>hn2.2.2 x h5 x hx rfl];exact (hin x hx).2⟩) (fun y hy=>hF.inner (by omega) hy) hP1 hP2
   have hLs: ∀ x∈t.t.take t.v.length,Nu x:=fun x hx=>by
    obtain ⟨i,hi,rfl⟩:=List.mem_iff_getElem.1 hx;rw[List.length_take] at hi;rw[List.getElem_take];obtain ⟨g1,g2⟩:=iU hok2 i (by omega);have g3:(t.t[i]'(by omega)).op=4:=g2 rfl (by omega);have hIx:=(aa.o0 _).1 (aa.tY (by decide) _ g1);have:=hIx.1.2.1 g3;refine ⟨g3,?_⟩
    match ht:(t.t[i]'(by omega)).t,this with
    | [b],_=>exact ⟨b,rfl⟩
    | [],h=>simp at h
    | _::_::_,h=>simp at h
   rw[k4];refine .fx (l:=t.t.take t.v.length) (b:=t.t[t.v.length]'k2) (fm2:=fm0) (c:=n) (st:=kH fm t.v t.t) h9 (hlast hlen k2) (by rw[List.length_take];omega) hLs hn2.1 hap (fun u hu=>hoff u fun h=>(hap u h).1 hu) (by rw[List.length_take];omega) (fun i hi=>by rw[hfm0];exact zi t.v n _ fm hn2.1 i hi) (fun hst x hx=>?_) (fun hst=>?_) (fun i hi=>?_) k5
   ·obtain ⟨i,hi,rfl⟩:=List.mem_iff_getElem.1 hx
    have hi':i < t.v.length:=by omega
    have hl2:=(k3 i hi').2
    have hz:aO fm0 (t.t[i]'(by omega))= []:=by
     rw[List.eq_nil_iff_forall_not_mem];intro u hu;unfold aO at hu;obtain ⟨u1,u2⟩:=List.mem_filter.1 hu;have hns:gE fm0 u=false:=by simpa using u2
     have huv:u∉t.v:=fun h=>by
      obtain ⟨j,hj,rfl⟩:=List.mem_iff_getElem.1 h;have:=zi t.v n (kH fm t.v t.t) fm hn2.1 j hj;rw[←hfm0] at this;unfold gE at hns;rw[this,hst] at hns;cases hns
     have h3:=hst;unfold kH at h3;rw[List.all_eq_true] at h3;have h5:=h3 (t.t[i]'(by omega)) (List.mem_take_iff_getElem.2 ⟨i,by omega,rfl⟩);rw[List.all_eq_true] at h5
     have h6:=h5 u (by
      unfold aO;refine List.mem_filter.2 ⟨u1,?_⟩;rw[←nj (hoff u huv),hns]
      rfl)
     exact huv (by simpa using h6)
    rw[hz] at hl2;exact List.eq_nil_of_length_eq_zero hl2
   ·rw[List.length_take]
    apply Decidable.byContradiction;intro hc;have hv0:t.v.length=0:=by omega
    unfold kH at hst;rw[hv0,List.take_zero] at hst;cases hst
   ·rw[List.length_take] at hi
    rw[List.getElem_take];exact (k3 i (by omega)).1
  rw[if_neg h9] at hP ⊢;have hv0:t.v= []:=hD.1.2 h4 h8 h9;have hok2:=hok.2;rw[hv0,List.append_nil] at hok2
  have hall: ∀ y∈t.t,y.lC 2 cs cd false sc (deep + 1):=fun y hy=>by
   obtain ⟨i,hi,rfl⟩:=List.mem_iff_getElem.1 hy;have:=(iU hok2 i hi).1;rwa [ite_self] at this
  obtain ⟨ts,ets,hl,k⟩:=aa.Eh t.t (deep + 1) (by omega) (fun y hy=>(ih y hy).1) hall hn2.2.1 (fun y hy=>hF.part (by omega) hy (hall y hy) fun v hv=>(hvsc v hv).1) hF.2.1 n fm (fun x hx=>hf x (List.mem_append.2 (.inr hx))) hP
  have hop:Nt t.op:=by
   have hs:=hok.1.2.1;unfold dW at hs;unfold Nt
   repeat' split at hs
   all_goals simp_all
   all_goals omega
  dsimp only;rw[ets];unfold kS;by_cases hc:t.op=5∧(t.t.headD (.mk 0 0 [] [])).op=1
  ·rw[if_pos hc]
   cases ht:t.t with
   | nil=>rw[ht] at hc;exact absurd hc.2 (by decide)
   | cons f args=>
    have hfo:f.op=1:=by have:=hc.2;rw[ht] at this;exact this
    have e1:(t.t.headD (.mk 0 0 [] []))=f:=by rw[ht];rfl
    rw[←ht,e1];have hfS:f.n∈S:=hF.1 _ (aa.nL (by rw[ht];simp) (by omega) (BN hfo) (by rw[hv0];simp))
    cases hk:fm f.n with
    | none=>
     dsimp only;exact .CQ hop hl k
    | some kn=>exact .call hc.1 ht hfo hfS hk hl k
  ·rw[if_neg hc]
   exact .CQ hop hl k
theorem JX {p:Prog} (h:dV p 2):Cl (fZ p).codes [] (fun _=>none) [] p.body (fZ p).body:=by
 refine (p.body.Mp (fZ p).codes _ _).1 [] 0 [] [] 0 (fun _=>none) (by decide) h.2.2.1 h.2.2.2.2.2 (fun x _=>⟨by simp,rfl⟩) ⟨fun v hv=>(by rw[h.free] at hv;exact hv),fun v hv=>(by cases hv),fun v hv=>(by cases hv)⟩ fun i hi=>?_;show (p.body.cH false [] 0 (fun _=>none)).c[0 + i]?=_;rw[Nat.zero_add,List.getElem?_eq_getElem hi]
def j5 (C:Int) (s:bJ) (x:Vl):Prop:=x.ok (C - s.fuel) s.alive.length (lM s.h)
structure fy (lv cs cd C:Int) (s:bJ):Prop where
 fu:0≤s.fuel
 bd:s.fuel + 20002≤C
 vl:j5 C s s.val
 hp: ∀ a x r,aL s.h a=some (x,r)→j5 C s x
 pr: ∀ q f,aY s.h q=some f→wU lv cs cd (lM s.h) f∧(∀ x∈f.over,j5 C s x)∧(f.over.length:Int)≤C - s.fuel
 ou:(s.out.length:Int)≤1001 * (C - s.fuel)
section
variable {lv cs cd C C':Int} {s s':bJ}
def qF (C:Int) (s:bJ) (o:List Vl):Prop:=(∀ x∈o,j5 C s x)∧(o.length:Int)≤C - s.fuel
theorem j5.up {x:Vl} (hg:Grow s s') (hC:C - s.fuel≤C' - s'.fuel) (h:j5 C s x):j5 C' s' x:=
 Vl.Ae hC (by have:=hg.1;omega) hg.2.1 x h
theorem j5.grow {x:Vl} (hg:Grow s s') (hC:C≤C') (h:j5 C s x):j5 C' s' x:=h.up hg (by have:=hg.2.2;omega)
theorem qF.up {o:List Vl} (hg:Grow s s') (hC:C - s.fuel≤C' - s'.fuel) (h:qF C s o):qF C' s' o:=⟨fun x hx=>(h.1 x hx).up hg hC,Int.le_trans h.2 hC⟩
theorem qF.grow {o:List Vl} (hg:Grow s s') (hC:C≤C') (h:qF C s o):qF C' s' o:=h.up hg (by have:=hg.2.2;omega)
theorem fy.up (hC:C≤C') (h:fy lv cs cd C s):fy lv cs cd C' s:=
 ⟨h.fu,by have:=h.bd;omega,h.vl.grow (Grow.refl _) hC,fun a x r hx=>(h.hp a x r hx).grow (Grow.refl _) hC,fun q f hf=>⟨(h.pr q f hf).1,qF.grow (Grow.refl _) hC (h.pr q f hf).2⟩,by have:=h.ou;omega⟩
theorem fy.less (h0:0 < s.fuel) (h:fy lv cs cd C s):fy lv cs cd (C - 1) (bf s):=by
 have e:(bf s).fuel=s.fuel - 1:=rfl;have up: ∀ {x:Vl},j5 C s x→j5 (C - 1) (bf s) x:=fun {x} hx=>j5.up (C:=C) (C':=C - 1) (s:=s) (s':=bf s) ⟨Nat.le_refl _,fun _ h=>h,by rw[e];omega⟩ (by rw[e];omega) hx;exact ⟨by rw[e];omega,by have:=h.bd;rw[e];omega,up h.vl,fun a x r hx=>up (h.hp a x r hx),fun q f hf=>⟨(h.pr q f hf).1,fun x hx=>up ((h.pr q f hf).2.1 x hx),by have:=(h.pr q f hf).2.2;rw[e];omega⟩,by have:=h.ou;rw[e];show (s.out.length:Int)≤_;omega⟩
theorem fy.set {h':Hp} (h:fy lv cs cd C s) (hg:Grow s (aR s h')) (hx: ∀ a x r,aL h' a=some (x,r)→(∃ r,aL s.h a=some (x,r))∨j5 C s x)
  (hy: ∀ q f,aY h' q=some f→aY s.h q=some f∨(wU lv cs cd (lM h') f∧qF C s f.over)):fy lv cs cd C (aR s h'):=
 ⟨h.fu,h.bd,h.vl.grow hg (Int.le_refl _),fun a x r hh=>by
  rcases hx a x r hh with ⟨r',h1⟩ | h1
  ·exact (h.hp a x r' h1).grow hg (Int.le_refl _)
  ·exact h1.grow hg (Int.le_refl _),fun q f hf=>by
  rcases hy q f hf with h1 | ⟨h1,h2⟩
  ·exact ⟨(h.pr q f h1).1.mono hg.2.1,qF.grow hg (Int.le_refl _) (h.pr q f h1).2⟩
  ·exact ⟨h1,qF.grow hg (Int.le_refl _) h2⟩,h.ou⟩
theorem fy.Po {h':Hp} (h:fy lv cs cd C s) (hg:Grow s (aR s h')) (hx: ∀ a x r,aL h' a=some (x,r)→(∃ r,aL s.h a=some (x,r))∨j5 C (aR s h') x)
  (hy: ∀ q f,aY h' q=some f→aY s.h q=some f∨(wU lv cs cd (lM h') f∧qF C s f.over)):fy lv cs cd C (aR s h'):=
 ⟨h.fu,h.bd,h.vl.grow hg (Int.le_refl _),fun a x r hh=>by
  rcases hx a x r hh with ⟨r',h1⟩ | h1
  ·exact (h.hp a x r' h1).grow hg (Int.le_refl _)
  ·exact h1,fun q f hf=>by
  rcases hy q f hf with h1 | ⟨h1,h2⟩
  ·exact ⟨(h.pr q f h1).1.mono hg.2.1,qF.grow hg (Int.le_refl _) (h.pr q f h1).2⟩
  ·exact ⟨h1,qF.grow hg (Int.le_refl _) h2⟩,h.ou⟩
theorem HU {h:Hp} {b:Nat} {z:Vl}: ∀ {a:Nat} {x:Vl} {r:Bool},aL (hput h b z) a=some (x,r)→x=z∨aL h a=some (x,r):=by
 induction h with
 | nil=>intro a x r hx;rw[hput] at hx;exact .inr hx
 | cons c h ih=>
  obtain ⟨c,w⟩:=c;intro a x r hx
  cases w with
  | eH f=>
   rw[hput,aL] at hx;rw[aL];exact ih hx
  | cell w q=>
   rw[hput] at hx;by_cases hcb:c=b
   ·rw[if_pos hcb,aL] at hx
    rw[aL];by_cases hca:c=a
    ·rw[if_pos hca] at hx
     exact .inl (Prod.mk.inj (Option.some.inj hx)).1.symm
    ·rw[if_neg hca] at hx⊢
     exact .inr hx
   ·rw[if_neg hcb,aL] at hx
    rw[aL];by_cases hca:c=a
    ·rw[if_pos hca] at hx⊢
     exact .inr hx
    ·rw[if_neg hca] at hx⊢
     exact ih hx
theorem IA {h:Hp} {b:Nat} {o:List Vl}: ∀ {a:Nat} {f:qH},aY (dL h b o) a=some f→(∃ g,aY h a=some g∧f=MQ g o)∨aY h a=some f:=by
 induction h with
 | nil=>intro a f hx;rw[dL] at hx;exact .inr hx
 | cons c h ih=>
  obtain ⟨c,w⟩:=c;intro a f hx
  cases w with
  | cell y r=>
   rw[dL,aY] at hx;rw[aY];exact ih hx
  | eH g=>
   rw[dL] at hx;by_cases hcb:c=b
   ·rw[if_pos hcb,aY] at hx
    rw[aY];by_cases hca:c=a
    ·rw[if_pos hca] at hx⊢
     exact .inl ⟨g,rfl,(Option.some.inj hx).symm⟩
    ·rw[if_neg hca] at hx⊢
     exact .inr hx
   ·rw[if_neg hcb,aY] at hx
    rw[aY];by_cases hca:c=a
    ·rw[if_pos hca] at hx⊢
     exact .inr hx
    ·rw[if_neg hca] at hx⊢
     exact ih hx
theorem nM {h:Hp} {b:Nat} {z:Vl} {q:Bool} {a:Nat} {x:Vl} {r:Bool} (hx:aL ((b,.cell z q)::h) a=some (x,r)):x=z∨aL h a=some (x,r):=by
 rw[aL] at hx;by_cases hb:b=a
 ·rw[if_pos hb] at hx
  exact .inl (Prod.mk.inj (Option.some.inj hx)).1.symm
 ·rw[if_neg hb] at hx
  exact .inr hx
theorem xX {h:Hp} {b:Nat} {g:qH} {a:Nat} {f:qH} (hx:aY ((b,.eH g)::h) a=some f):f=g∨aY h a=some f:=by
 rw[aY] at hx;by_cases hb:b=a
 ·rw[if_pos hb] at hx
  exact .inl (Option.some.inj hx).symm
 ·rw[if_neg hb] at hx
  exact .inr hx
theorem BG: ∀ {vs:List Vl} {az:List Nat} {h:Hp} {a:Nat},aY (eM h vs az) a=aY h a
 | [],az,h,a=>by cases az<;>rfl
 | v::vs, [],h,a=>rfl
 | v::vs,b::az,h,a=>by rw[eM,BG,aY]
theorem BH: ∀ {az:List Nat} {h:Hp} {q:Bool} {a:Nat},aY (iW h q az) a=aY h a
 | [],h,q,a=>rfl
 | b::az,h,q,a=>by rw[iW,BH,aY]
theorem Bi: ∀ {vs:List Vl} {az:List Nat} {h:Hp} {a:Nat} {x:Vl} {r:Bool},aL (eM h vs az) a=some (x,r)→x∈vs∨aL h a=some (x,r)
 | [],az,h,a,x,r,hx=>.inr (by cases az<;>exact hx)
 | v::vs, [],h,a,x,r,hx=>.inr hx
 | v::vs,b::az,h,a,x,r,hx=>by
  rw[eM] at hx;rcases Bi hx with h1 | h1
  ·exact .inl (List.mem_cons_of_mem _ h1)
  ·rcases nM h1 with rfl | h1
   ·exact .inl (List.mem_cons_self ..)
   ·exact .inr h1
theorem Bj: ∀ {az:List Nat} {h:Hp} {q:Bool} {a:Nat} {x:Vl} {r:Bool},aL (iW h q az) a=some (x,r)→x=fF 12∨aL h a=some (x,r)
 | [],h,q,a,x,r,hx=>.inr hx
 | b::az,h,q,a,x,r,hx=>by
  rw[iW] at hx;rcases Bj hx with h1 | h1
  ·exact .inl h1
  ·exact nM h1
theorem fy.eM {vs:List Vl} {az:List Nat} (h:fy lv cs cd C s) (hv: ∀ x∈vs,j5 C s x):fy lv cs cd C (aR s (Go.Cb.eM s.h vs az)):=
 h.set (Grow.eM _ _ _) (fun a x r hx=>(Bi hx).elim (fun h1=>.inr (hv x h1)) fun h1=>.inl ⟨r,h1⟩) fun q f hf=>.inl (by rwa [BG] at hf)
theorem fy.nn (h:fy lv cs cd C s):2≤C - s.fuel:=by have:=h.bd;omega
theorem fy.Od {k:Int} (h:fy lv cs cd C s) (hk:k=0∨k=4∨k=5∨k=12):j5 C s (fF k):=nR (by have:=h.nn;omega) hk
theorem fy.iW {r:Bool} {az:List Nat} (h:fy lv cs cd C s):fy lv cs cd C (aR s (Go.Cb.iW s.h r az)):=
 h.set (Grow.iW _ _ _) (fun a x r hx=>(Bj hx).elim (fun h1=>.inr (by rw[h1];exact h.Od (by decide))) fun h1=>.inl ⟨r,h1⟩) fun q f hf=>.inl (by rwa [BH] at hf)
theorem fy.put {a:Nat} {z:Vl} (h:fy lv cs cd C s) (hz:j5 C s z):fy lv cs cd C (aR s (hput s.h a z)):=
 h.set (Grow.put _ _ _) (fun a x r hx=>(HU hx).elim (fun h1=>.inr (by rw[h1];exact hz)) fun h1=>.inl ⟨r,h1⟩) fun q f hf=>.inl (by rwa [fN] at hf)
theorem fy.new {a:Nat} {z:Vl} (h:fy lv cs cd C s) (hz:j5 C s z):fy lv cs cd C (aR s ((a,.cell z false)::s.h)):=
 h.set (Grow.box _ _ _) (fun a x r hx=>(nM hx).elim (fun h1=>.inr (by rw[h1];exact hz)) fun h1=>.inl ⟨r,h1⟩) fun q f hf=>.inl (by rwa [aY] at hf)
theorem fy.ML {a:Nat} {f:qH} (h:fy lv cs cd C s) (hf:wU lv cs cd (lM s.h) f) (ho:qF C s f.over):fy lv cs cd C (aR s ((a,.eH f)::s.h)):=
 h.set (Grow.box _ _ _) (fun a x r hx=>.inl ⟨r,by rwa [aL] at hx⟩) fun q g hg=>(xX hg).elim (fun h1=>.inr (by rw[h1];exact ⟨hf.mono (Grow.box s a (.eH f)).2.1,ho⟩)) .inl
theorem fy.dL {q:Nat} {o:List Vl} (h:fy lv cs cd C s) (ho:qF C s o):fy lv cs cd C (aR s (Go.Cb.dL s.h q o)):=
 h.set (Grow.dL _ _ _) (fun a x r hx=>.inl ⟨r,by rwa [ju] at hx⟩) fun p f hf=>(IA hf).elim (fun ⟨g,h1,h2⟩=>.inr (by rw[h2];exact ⟨((h.pr p g h1).1.mono (Grow.dL s q o).2.1),ho⟩)) .inl
theorem tG {a:Nat} (hN:0≤C - s.fuel) (ha:lM s.h (a,true)):j5 C s (cg a):=by
 unfold j5;rw[Vl.ok_eq];refine ⟨⟨by rw[Vl.jU];exact ⟨⟨by show (0:Int)≤8;decide,by show (8:Int)≤12;decide⟩,fun h=>absurd (show (8:Int)=6 from h) (by decide),Nat.zero_le _,fun y hy=>by cases hy⟩,?_,hN⟩,fun _=>⟨_,rfl,ha⟩,fun h=>absurd (show (8:Int)=11 from h) (by decide),fun h=>absurd (show (8:Int)=10 from h) (by decide),fun y hy=>by cases hy⟩;rw[Vl.iN _ (by show ¬(8:Int)=6;decide)];exact hN
theorem fy.e7: ∀ {l:List (bZ×Int)} {az pz:List Nat} {s:bJ},fy lv cs cd C s→(∀ c∈l, ∀ D,wU lv cs cd D (jg c.1 c.2 []))→fy lv cs cd C (aR s (Go.Cb.e7 s.h l az pz))
 | [],az,pz,s,h,_=>by
  have e:Go.Cb.e7 s.h [] az pz=s.h:=by rw[Go.Cb.e7];intros;simp_all
  rw[e];exact h
 | c::l, [],pz,s,h,_=>by
  have e:Go.Cb.e7 s.h (c::l) [] pz=s.h:=by rw[Go.Cb.e7];intros;simp_all
  rw[e];exact h
 | c::l,a::az, [],s,h,_=>by
  have e:Go.Cb.e7 s.h (c::l) (a::az) []=s.h:=by rw[Go.Cb.e7];intros;simp_all
  rw[e];exact h
 | c::l,a::az,p::pz,s,h,hc=>by
  rw[Go.Cb.e7];have hN:=h.nn;have hg:=Grow.box s p (.eH (jg c.1 c.2 []))
  have h1:fy lv cs cd C (aR s ((p,.eH (jg c.1 c.2 []))::(a,.cell (cg p) false)::s.h)):=by
   refine h.Po ⟨Nat.le_refl _,fun b hb=>gd (gd hb),Int.le_refl _⟩ (fun b x r hx=>?_) fun q f hf=>?_
   ·rw[aL] at hx
    rcases nM hx with h1 | h1
    ·exact .inr (by rw[h1];exact tG (by show 0≤C - s.fuel;omega) lf)
    ·exact .inl ⟨r,h1⟩
   ·rcases xX hf with h1 | h1
    ·rw[h1]
     exact .inr ⟨hc c (List.mem_cons_self ..) _,fun x hx=>(by cases hx),by show (0:Int)≤_;omega⟩
    ·rw[aY] at h1
     exact .inl h1
  exact fy.e7 (s:=aR s ((p,.eH (jg c.1 c.2 []))::(a,.cell (cg p) false)::s.h)) h1 fun d hd=>hc d (List.mem_cons_of_mem _ hd)
theorem fy.Le {e:bq} {v:Int} {z:Vl} (h:fy lv cs cd C s) (hz:j5 C s z):fy lv cs cd C (iV s e v z):=by
 unfold iV
 split
 ·exact h
 ·exact h.put hz
theorem fy.tA {b:Prop} [Decidable b] {e:bq} {v:Int} {z:Vl} (h:fy lv cs cd C s) (hz:j5 C s z):fy lv cs cd C (if b then iV s e v z else s):=by
 split
 ·exact h.Le hz
 ·exact h
end
theorem fy.B7 {lv cs cd C:Int} {e:bq}: ∀ {vs:List Int} {xs:List Vl} {s:bJ},fy lv cs cd C s→(∀ x∈xs,j5 C s x)→fy lv cs cd C (dU s e vs xs)
 | [],_,s,h,_=>by unfold dU;exact h
 | _::_, [],s,h,_=>by unfold dU;exact h
 | v::vs,x::xs,s,h,hx=>by
  rw[dU];exact (h.Le (hx x (List.mem_cons_self ..))).B7 fun y hy=>(hx y (List.mem_cons_of_mem _ hy)).grow (Grow.Le _ _ _ _) (Int.le_refl _)
theorem fy.sD {lv cs cd C:Int} {s:bJ} {b:Prop} [Decidable b] {e:bq} {vs:List Int} {xs:List Vl} (h:fy lv cs cd C s) (hz: ∀ x∈xs,j5 C s x):fy lv cs cd C (if b then dU s e vs xs else s):=by
 split
 ·exact h.B7 hz
 ·exact h
theorem ue (s:bJ) (e:bq) (v:Int) (x:Vl):(iV s e v x).alive=s.alive∧(iV s e v x).fuel=s.fuel:=by
 unfold iV
 split<;>exact ⟨rfl,rfl⟩
theorem we (e:bq): ∀ (vs:List Int) (xs:List Vl) (s:bJ),(dU s e vs xs).alive=s.alive∧(dU s e vs xs).fuel=s.fuel
 | [],_,s=>by unfold dU;exact ⟨rfl,rfl⟩
 | _::_, [],s=>by unfold dU;exact ⟨rfl,rfl⟩
 | v::vs,x::xs,s=>by
  rw[dU];have h1:=we e vs xs (iV s e v x);have h2:=ue s e v x;exact ⟨h1.1.trans h2.1,h1.2.trans h2.2⟩
def Dl:List Vl→Bool
 | [x]=>x.k == 10
 | _=>false
def Al (C k:Int) (s:bJ):Prop:=(s.alive.length:Int)≤2 * (C - s.fuel) + k
def AD (lv cs cd C:Int):Jd→bJ→Prop
 | .ev t e o,s=>TE lv cs cd (lM s.h) t e∧qF C s o∧Al C 0 s
 | .go t e o,s=>TE lv cs cd (lM s.h) t e∧qF C s o∧Al C 0 s
 | .all l e o,s=>(∀ t∈l,TE lv cs cd (lM s.h) t e)∧qF C s o∧Al C 0 s
 | .rc _ _ l e o,s=>(∀ t∈l,TE lv cs cd (lM s.h) t e)∧qF C s o∧Al C 0 s
 | .cc _ l e o,s=>(∀ t∈l,t.op=19∧TE lv cs cd (lM s.h) t e)∧qF C s o∧Al C 0 s
 | .str t l e,s=>TE lv cs cd (lM s.h) t e∧(∀ x∈l,j5 C s x)∧(l.length:Int)≤C - s.fuel∧Al C 0 s
 | .call f l,s=>j5 C s f∧(∀ x∈l,j5 C s x)∧(l.length:Int)≤C - s.fuel∧Al C (if f.k=10 then 2 else if Dl l=true then 1 else 0) s
 | .qo _ l,s=>(∀ x∈l,j5 C s x)∧(l.length:Int)≤C - s.fuel∧Al C (if Dl l=true then 1 else 0) s
def Jd.up:Jd→Int
 | .ev _ _ _=>0
 | .all _ _ _=>0
 | .rc _ _ _ _ _=>0
 | .cc _ _ _ _=>0
 | _=>1
def eo (lv cs cd C:Int) (vs:List Vl) (s':bJ):Prop:=fy lv cs cd C s'∧Al C 0 s'∧ ∀ x∈vs,j5 C s' x
theorem eo.one {lv cs cd C:Int} {x:Vl} {s':bJ} (h1:fy lv cs cd C s') (h2:Al C 0 s') (h3:j5 C s' x):eo lv cs cd C [x] s':=⟨h1,h2,fun y hy=>by rw[List.mem_singleton.1 hy];exact h3⟩
theorem eo.AE {lv cs cd C:Int} {s':bJ} (h1:fy lv cs cd C s') (h2:Al C 0 s'):eo lv cs cd C [bx] s':=eo.one h1 h2 (h1.Od (.inl rfl))
theorem Al.up {C C' k k':Int} {s:bJ} (hC:C≤C') (hk:k + 2 * C≤k' + 2 * C') (h:Al C k s):Al C' k' s:=by
 unfold Al at *;omega
theorem Ev.len {K:KC} {j:Jd} {s:bJ} {vs:List Vl} {c:Int} {s':bJ} (h:Ev K j s vs c s'):c=0→match j with
  | .all l _ _=>vs.length=l.length
  | .rc _ ns l _ _=>vs.length=l.length∧vs.length=ns.length
  | .cc _ _ _ _=>True
  | _=> ∃ x,vs= [x]:=by
 induction h with
 | wB _ _ _ i2=>
  intro h0;have:=i2 h0;dsimp only at this ⊢;rw[List.length_cons,List.length_cons,this]
 | NB _ _ _ i2=>
  intro h0;have:=i2 h0;dsimp only at this ⊢;rw[List.length_cons,List.length_cons,List.length_cons];omega
 | O2=>intro _;trivial
 | NR=>intro _;trivial
 | Mk=>intro _;trivial
 | _=>first | (intro _;exact ⟨_,rfl⟩) | (intro h0;first | rfl | exact ⟨rfl,rfl⟩ | (exfalso;omega))
theorem TE.fit {lv cs cd:Int} {D:Nat×Bool→Prop} {t:aa} {e:bq} (h:TE lv cs cd D t e):t.fit:=by
 obtain ⟨_,_,_,_,_,h3⟩:=h;exact h3
theorem TE.lets {lv cs cd:Int} {D:Nat×Bool→Prop} {t:aa} {e:bq} (h:TE lv cs cd D t e) (ho:t.op=8) {l:List aa} {b:aa} (ht:t.t=l++ [b]) (hl:l.length=t.v.length): ∀ x∈l,TE lv cs cd D x e:=fun x hx=>by
 obtain ⟨i,hi,rfl⟩:=List.mem_iff_getElem.1 hx;have h2:i < t.t.length:=by rw[ht,List.length_append];omega
 have:=h.outer ho i (by omega) h2;have e1:t.t[i]=l[i]:=by simp only[ht,List.getElem_append_left hi]
 rw[←e1];exact this
theorem TE.last {lv cs cd:Int} {D D':Nat×Bool→Prop} {t:aa} {e:bq} (h:TE lv cs cd D t e) (ho:t.op=7∨t.op=8∨t.op=9) {l:List aa} {b:aa} (ht:t.t=l++ [b]) (hl:l.length=t.v.length) (hD: ∀ a,D a→D' a) (az:List Nat) (ha:az.length=t.v.length) (haz: ∀ a∈az,D' (a,false)):TE lv cs cd D' b (bM e t.v az):=by
 have h2:l.length < t.t.length:=by rw[ht,List.length_append,List.length_singleton];omega
 have:=h.inner hD (by omega) l.length h2 (fun _=>hl) az ha haz;have e1:t.t[l.length]=b:=by simp only[ht,List.getElem_append_right (Nat.le_refl _),Nat.sub_self,List.getElem_cons_zero]
 rw[←e1];exact this
theorem TE.Gf {lv cs cd:Int} {D D':Nat×Bool→Prop} {t:aa} {e:bq} (h:TE lv cs cd D t e) (ho:t.op=7∨t.op=9) {l:List aa} {b:aa} (ht:t.t=l++ [b]) (hl:l.length=t.v.length) (hD: ∀ a,D a→D' a) (az:List Nat) (ha:az.length=t.v.length) (haz: ∀ a∈az,D' (a,false)): ∀ x∈l,TE lv cs cd D' x (bM e t.v az):=fun x hx=>by
 obtain ⟨i,hi,rfl⟩:=List.mem_iff_getElem.1 hx;have h2:i < t.t.length:=by rw[ht,List.length_append];omega
 have:=h.inner hD (by omega) i h2 (by omega) az ha haz;have e1:t.t[i]=l[i]:=by simp only[ht,List.getElem_append_left hi]
 rw[←e1];exact this
theorem qd: ∀ {vs:List Vl} {az:List Nat} {h:Hp},az.length=vs.length→ ∀ a∈az,lM (eM h vs az) (a,false)
 | [],az,h,hl=>by rw[List.eq_nil_of_length_eq_zero hl];simp
 | v::vs, [],h,hl=>by simp
 | v::vs,b::az,h,hl=>fun a ha=>by
  rw[eM];rcases List.mem_cons.1 ha with rfl | ha
  ·exact qc p9
  ·exact qd (by simpa using hl) a ha
theorem kg: ∀ {az:List Nat} {h:Hp} {r:Bool}, ∀ a∈az,lM (iW h r az) (a,false)
 | [],h,r=>by simp
 | b::az,h,r=>fun a ha=>by
  rw[iW];rcases List.mem_cons.1 ha with rfl | ha
  ·exact ke p9
  ·exact kg a ha
theorem yh {l xs:List Vl} {k:Nat} {r:Bool} (h1:r=true→1≤k) (h:jr l k r=some xs):xs.length=k:=by
 unfold jr at h
 split at h
 ·rename_i hc
  have:=h1 hc.1;rw[←Option.some.inj h];simp;omega
 ·split at h
  ·rename_i hc
   rw[←Option.some.inj h,hc.2]
  ·cases h
theorem J1 {C:Int} {s:bJ} (hN:0≤C - s.fuel) {id:Nat} (h:id < s.alive.length):j5 C s (uT id):=by
 unfold j5;rw[Vl.ok_eq];refine ⟨⟨by rw[Vl.jU];exact ⟨⟨by show (0:Int)≤10;decide,by show (10:Int)≤12;decide⟩,fun h=>absurd (show (10:Int)=6 from h) (by decide),Nat.zero_le _,fun y hy=>by cases hy⟩,?_,hN⟩,fun h=>absurd (show (10:Int)=8 from h) (by decide),fun h=>absurd (show (10:Int)=11 from h) (by decide),fun _=>?_,fun y hy=>by cases hy⟩
 ·rw[Vl.iN _ (by show ¬(10:Int)=6;decide)]
  exact hN
 ·show (0:Int)≤(id:Int)∧(id:Int) < s.alive.length
  omega
theorem nQ: ∀ {cs:List (bZ×Int)} {az pz:List Nat} {h:Hp},az.length=cs.length→pz.length=cs.length→ ∀ a∈az,lM (e7 h cs az pz) (a,false)
 | [],az,_,h,hl,_=>by rw[List.eq_nil_of_length_eq_zero hl];simp
 | c::cs, [],_,h,hl,_=>by simp
 | c::cs,b::az, [],h,_,hl=>by simp at hl
 | c::cs,b::az,p::pz,h,hl,hl2=>fun a ha=>by
  rw[e7];rcases List.mem_cons.1 ha with rfl | ha
  ·exact kf (gd p9)
  ·exact nQ (by simpa using hl) (by simpa using hl2) a ha
theorem Pb {lv cs cd:Int} {K:KC} (hC: ∀ c∈K.c, ∀ D n o,wU lv cs cd D (jg c n o)) {l:List aa} {ks:List (bZ×Int)} (h:ks.length=l.length∧ ∀ i (h:i < l.length) (h':i < ks.length),K.c[l[i].n.toNat]?=some ks[i].1∧ks[i].2=l[i].n): ∀ c∈ks, ∀ D,wU lv cs cd D (jg c.1 c.2 []):=fun c hc D=>by
 obtain ⟨i,hi,rfl⟩:=List.mem_iff_getElem.1 hc;exact hC _ (List.mem_of_getElem? (h.2 i (by omega) hi).1) _ _ _
theorem HH {lv cs cd C:Int} {s:bJ} {f:Vl} (hM:fy lv cs cd C s) (hl: ∀ x∈ [f],j5 C s x) (hA:Al C (if Dl [f]=true then 1 else 0) s):fy lv cs cd C ⟨s.fuel,s.out,s.alive++ [true],s.to,s.val,s.h⟩∧AD lv cs cd C (.call f [uT s.alive.length]) ⟨s.fuel,s.out,s.alive++ [true],s.to,s.val,s.h⟩:=by
 have hg:=Grow.alive s;have hN:=hM.nn;refine ⟨⟨hM.fu,hM.bd,hM.vl.grow hg (Int.le_refl _),fun a x r hx=>(hM.hp a x r hx).grow hg (Int.le_refl _),fun q f hf=>⟨(hM.pr q f hf).1,qF.grow hg (Int.le_refl _) (hM.pr q f hf).2⟩,hM.ou⟩,(hl f (List.mem_cons_self ..)).grow hg (Int.le_refl _),fun x hx=>?_,?_,?_⟩
 ·rw[List.mem_singleton.1 hx]
  exact J1 (by show 0≤C - s.fuel;omega) (by show s.alive.length < (s.alive++ [true]).length;simp)
 ·show (1:Int)≤C - s.fuel
  omega
 ·have e:Dl [uT s.alive.length]=true:=rfl
  rw[e];unfold Al at *;dsimp only;rw[List.length_append,List.length_singleton];simp only[Dl,beq_iff_eq] at hA
  split at hA<;>split<;>simp_all<;>omega
theorem Ev.keeps {lv cs cd:Int} {K:KC} (hK: ∀ x∈K.k,x.ok 20002 0 fun _=>False) (hC: ∀ c∈K.c, ∀ D n o,wU lv cs cd D (jg c n o)) {j:Jd} {s:bJ} {vs:List Vl} {c:Int} {s':bJ} (h:Ev K j s vs c s'): ∀ C,fy lv cs cd C s→AD lv cs cd C j s→eo lv cs cd (C + j.up) vs s':=by
 have su: ∀ C:Int,C≤C + 1:=fun C=>by omega
 have sz: ∀ C:Int,C + 0=C:=fun C=>by omega
 induction h with
 | Ns _=>
  rintro C hM ⟨hT,hO,hA⟩;rw[show C + Jd.up (.ev _ _ _)=C from sz C];exact eo.AE hM hA
 | @ev t e s v c s' o h0 hnd hgo ih=>
  rintro C hM ⟨hT,hO,hA⟩;rw[show C + Jd.up (.ev _ _ _)=C from sz C];have:=ih (C - 1) (hM.less h0) ⟨hT,qF.up (C:=C) (C':=C - 1) (s:=s) (s':=bf s) ⟨Nat.le_refl _,fun _ h=>h,by show s.fuel - 1≤s.fuel;omega⟩ (by show C - s.fuel≤C - 1 - (s.fuel - 1);omega) hO,by unfold Al at *; show (_:Int)≤2 * (C - 1 - (_ - 1)) + 0;dsimp only at *; omega⟩;rw[show C - 1 + Jd.up (.go _ _ _)=C from by show C - 1 + 1=C;omega] at this;exact this
 | GB ho hk=>
  rintro C hM ⟨hT,hO,hA⟩;show eo lv cs cd (C + 1) _ _;refine eo.one (hM.up (su C)) (hA.up (su C) (by omega)) ?_;have:=hK _ (List.mem_of_getElem? hk);exact Vl.Ae (by have:=hM.bd;show 20002≤C + 1 - _;omega) (by omega) (fun _ h=>h.elim) _ this
 | ref ho hf hg _=>
  rintro C hM ⟨hT,hO,hA⟩;show eo lv cs cd (C + 1) _ _;exact eo.one (hM.up (su C)) (hA.up (su C) (by omega)) ((hM.hp _ _ _ hg).grow (Grow.refl _) (su C))
 | wY=>rintro C hM ⟨hT,hO,hA⟩;show eo lv cs cd (C + 1) _ _;exact eo.AE (hM.up (su C)) (hA.up (su C) (by omega))
 | prf=>rintro C hM ⟨hT,hO,hA⟩;show eo lv cs cd (C + 1) _ _;exact eo.one (hM.up (su C)) (hA.up (su C) (by omega)) (KJ (by have:=(hM.up (su C)).nn;show 0≤C + 1 - _;omega))
 | JF=>rintro C hM ⟨hT,hO,hA⟩;show eo lv cs cd (C + 1) _ _;exact eo.one (hM.up (su C)) (hA.up (su C) (by omega)) ((hM.up (su C)).Od (by decide))
 | @lam t e s b o a ho hb hnd=>
  rintro C hM ⟨hT,hO,hA⟩;show eo lv cs cd (C + 1) _ _;have hN:=hM.nn;have hM':=(hM.ML (a:=a) (hT.cH ho hb) ⟨fun x hx=>(by cases hx),by show (0:Int)≤_;omega⟩).up (su C);exact eo.one hM' (hA.up (su C) (by omega)) (tG (by show 0≤C + 1 - _;have:=hM'.nn;omega) lf)
 | @GJ t e s o a c0 ho hcd hnd=>
  rintro C hM ⟨hT,hO,hA⟩;show eo lv cs cd (C + 1) _ _;have hN:=hM.nn;have hM':=(hM.ML (a:=a) (hC _ (List.mem_of_getElem? hcd) _ t.n []) ⟨fun x hx=>(by cases hx),by show (0:Int)≤_;omega⟩).up (su C);exact eo.one hM' (hA.up (su C) (by omega)) (tG (by show 0≤C + 1 - _;have:=hM'.nn;omega) lf)
 | @cH t e s l a c0 ho hcd hnd=>
  rintro C hM ⟨hT,hl,hn,hA⟩;show eo lv cs cd (C + 1) _ _;have hM':=(hM.ML (a:=a) (hC _ (List.mem_of_getElem? hcd) _ t.n l) ⟨hl,hn⟩).up (su C);exact eo.one hM' (hA.up (su C) (by omega)) (tG (by show 0≤C + 1 - _;have:=hM'.nn;omega) lf)
 | GF ho hx=>
  rintro C hM ⟨hT,hO,hA⟩;show eo lv cs cd (C + 1) _ _;exact eo.one (hM.up (su C)) (hA.up (su C) (by omega)) ((hO.1 _ (List.mem_of_getElem? hx)).grow (Grow.refl _) (su C))
 | wM=>rintro C hM ⟨hT,hO,hA⟩;show eo lv cs cd (C + 1) _ _;exact eo.AE (hM.up (su C)) (hA.up (su C) (by omega))
 | @GD t e s l b az pz ks us c s1 o ho ht hl h0 h19 ha hp hcs _ _ i1=>
  rintro C hM ⟨hT,hO,hA⟩;show eo lv cs cd (C + 1) _ _;have hM':=hM.e7 (az:=az) (pz:=pz) (l:=ks) (Pb hC hcs);have h1:=i1 C hM' ⟨fun x hx=>⟨h19 x hx,hT.Gf (.inr ho) ht hl (fun a hi=>kf hi) _ (by omega) (nQ (by omega) (by omega)) x hx⟩,hO.grow (Grow.e7 _ _ _ _) (Int.le_refl _),hA⟩;rw[show C + Jd.up (.cc _ _ _ _)=C from sz C] at h1;exact eo.AE (h1.1.up (su C)) (h1.2.1.up (su C) (by omega))
 | @GC t e s l b az pz ks us s1 v c s' o ho ht hl h0 h19 ha hp hcs e1 _ i1 i2=>
  rintro C hM ⟨hT,hO,hA⟩;show eo lv cs cd (C + 1) _ _;have hM':=hM.e7 (az:=az) (pz:=pz) (l:=ks) (Pb hC hcs);have h1:=i1 C hM' ⟨fun x hx=>⟨h19 x hx,hT.Gf (.inr ho) ht hl (fun a hi=>kf hi) _ (by omega) (nQ (by omega) (by omega)) x hx⟩,hO.grow (Grow.e7 _ _ _ _) (Int.le_refl _),hA⟩;rw[show C + Jd.up (.cc _ _ _ _)=C from sz C] at h1;have h2:=i2 C h1.1 ⟨hT.last (by omega) ht hl (fun a hi=>e1.grow.2.1 a (kf hi)) _ (by omega) (fun a hi=>e1.grow.2.1 _ (nQ (by omega) (by omega) a hi)),hO.grow ((Grow.e7 _ _ _ _).trans e1.grow) (Int.le_refl _),h1.2.1⟩;rw[show C + Jd.up (.ev _ _ _)=C from sz C] at h2;exact ⟨h2.1.up (su C),h2.2.1.up (su C) (by omega),fun x hx=>(h2.2.2 x hx).grow (Grow.refl _) (su C)⟩
 | O2=>
  rintro C hM ⟨hT,hO,hA⟩;rw[show C + Jd.up (.cc _ _ _ _)=C from sz C];exact ⟨hM,hA,fun x hx=>by cases hx⟩
 | NR _ _ i1=>
  rintro C hM ⟨hT,hO,hA⟩;rw[show C + Jd.up (.cc _ _ _ _)=C from sz C];have hc:=hT _ (List.mem_cons_self ..);have h1:=i1 C hM ⟨fun x hx=>hc.2.sub (by omega) hx,hO,hA⟩;rw[show C + Jd.up (.all _ _ _)=C from sz C] at h1;exact ⟨h1.1,h1.2.1,fun x hx=>by cases hx⟩
 | @Mk v vs t l e s us s1 a x r q f xs c s2 o e1 hf hg hxp hgp e2 i1 i2=>
  rintro C hM ⟨hT,hO,hA⟩;rw[show C + Jd.up (.cc _ _ _ _)=C from sz C];have hc:=hT _ (List.mem_cons_self ..);have h1:=i1 C hM ⟨fun x hx=>hc.2.sub (by omega) hx,hO,hA⟩;rw[show C + Jd.up (.all _ _ _)=C from sz C] at h1;have hvl:=e1.len rfl;dsimp only at hvl;have hlen:=(TE.fit hc.2).len.1;have hb:=h1.1.bd;have hgp2:=Grow.dL s1 q us;have h2:=i2 C (h1.1.dL ⟨h1.2.2,by rw[hvl];omega⟩) ⟨fun t ht=>⟨(hT t (List.mem_cons_of_mem _ ht)).1,(hT t (List.mem_cons_of_mem _ ht)).2.mono fun a ha=>hgp2.2.1 a (e1.grow.2.1 a ha)⟩,hO.grow (e1.grow.trans hgp2) (Int.le_refl _),h1.2.1⟩;rw[show C + Jd.up (.cc _ _ _ _)=C from sz C] at h2;exact h2
 | HW ho ht _ _ i1=>
  rintro C hM ⟨hT,hO,hA⟩;show eo lv cs cd (C + 1) _ _;have h1:=i1 C hM ⟨hT.sub (by omega) (by rw[ht];simp),hO,hA⟩;rw[show C + Jd.up (.ev _ _ _)=C from sz C] at h1;exact eo.AE (h1.1.up (su C)) (h1.2.1.up (su C) (by omega))
 | HX ho ht e1 _ _ i1 i2=>
  rintro C hM ⟨hT,hO,hA⟩;show eo lv cs cd (C + 1) _ _;have h1:=i1 C hM ⟨hT.sub (by omega) (by rw[ht];simp),hO,hA⟩;rw[show C + Jd.up (.ev _ _ _)=C from sz C] at h1;have h2:=i2 C h1.1 ⟨(hT.sub (by omega) (by rw[ht];simp)).mono e1.grow.2.1,hO.grow e1.grow (Int.le_refl _),h1.2.1⟩;rw[show C + Jd.up (.ev _ _ _)=C from sz C] at h2;exact ⟨h2.1.up (su C),h2.2.1.up (su C) (by omega),fun x hx=>(h2.2.2 x hx).grow (Grow.refl _) (su C)⟩
 | HY ho ht e1 _ _ i1 i2=>
  rintro C hM ⟨hT,hO,hA⟩;show eo lv cs cd (C + 1) _ _;have h1:=i1 C hM ⟨hT.sub (by omega) (by rw[ht];simp),hO,hA⟩;rw[show C + Jd.up (.ev _ _ _)=C from sz C] at h1;have h2:=i2 C h1.1 ⟨(hT.sub (by omega) (by rw[ht];simp)).mono e1.grow.2.1,hO.grow e1.grow (Int.le_refl _),h1.2.1⟩;rw[show C + Jd.up (.ev _ _ _)=C from sz C] at h2;exact ⟨h2.1.up (su C),h2.2.1.up (su C) (by omega),fun x hx=>(h2.2.2 x hx).grow (Grow.refl _) (su C)⟩
 | JB ho ht hl _ _ i1=>
  rintro C hM ⟨hT,hO,hA⟩;show eo lv cs cd (C + 1) _ _;have hin: ∀ x∈_,TE lv cs cd _ x _:=hT.lets ho ht hl;have h1:=i1 C hM ⟨hin,hO,hA⟩;rw[show C + Jd.up (.all _ _ _)=C from sz C] at h1;exact eo.AE (h1.1.up (su C)) (h1.2.1.up (su C) (by omega))
 | GH ho ht hl e1 ha _ i1 i2=>
  rintro C hM ⟨hT,hO,hA⟩;show eo lv cs cd (C + 1) _ _;have h1:=i1 C hM ⟨hT.lets ho ht hl,hO,hA⟩;rw[show C + Jd.up (.all _ _ _)=C from sz C] at h1;have hvl:=e1.len rfl;dsimp only at hvl;have h2:=i2 C (h1.1.eM h1.2.2) ⟨hT.last (by omega) ht hl (fun a hi=>(e1.grow.trans (Grow.eM _ _ _)).2.1 a hi) _ ha (qd (by omega)),hO.grow (e1.grow.trans (Grow.eM _ _ _)) (Int.le_refl _),h1.2.1⟩;rw[show C + Jd.up (.ev _ _ _)=C from sz C] at h2;exact ⟨h2.1.up (su C),h2.2.1.up (su C) (by omega),fun x hx=>(h2.2.2 x hx).grow (Grow.refl _) (su C)⟩
 | GG ho ht hl h19 ha _ _ i1=>
  rintro C hM ⟨hT,hO,hA⟩;show eo lv cs cd (C + 1) _ _;have h1:=i1 C hM.iW ⟨hT.Gf ho ht hl (fun a hi=>ke hi) _ ha kg,hO.grow (Grow.iW _ _ _) (Int.le_refl _),hA⟩;rw[show C + Jd.up (.rc _ _ _ _ _)=C from sz C] at h1;exact eo.AE (h1.1.up (su C)) (h1.2.1.up (su C) (by omega))
 | @FM t e s l b az vs s1 v c s' o ho ht hl h19 ha e1 _ i1 i2=>
  rintro C hM ⟨hT,hO,hA⟩;show eo lv cs cd (C + 1) _ _;have h1:=i1 C hM.iW ⟨hT.Gf ho ht hl (fun a hi=>ke hi) _ ha kg,hO.grow (Grow.iW _ _ _) (Int.le_refl _),hA⟩;rw[show C + Jd.up (.rc _ _ _ _ _)=C from sz C] at h1;have hg1:=Grow.sD s1 (t.op=7∧t.n=0) (bM e t.v az) t.v vs
  have hal:Al C 0 (if t.op=7∧t.n=0 then dU s1 (bM e t.v az) t.v vs else s1):=by
   have:=we (bM e t.v az) t.v vs s1;have h3:=h1.2.1;unfold Al at *
   split
   ·rw[this.1,this.2];exact h3
   ·exact h3
  have h2:=i2 C (h1.1.sD h1.2.2) ⟨hT.last (by omega) ht hl (fun a hi=>hg1.2.1 a (e1.grow.2.1 a (ke hi))) _ ha (fun a hi=>hg1.2.1 _ (e1.grow.2.1 _ (kg a hi))),hO.grow ((Grow.iW _ _ _).trans (e1.grow.trans hg1)) (Int.le_refl _),hal⟩;rw[show C + Jd.up (.ev _ _ _)=C from sz C] at h2;exact ⟨h2.1.up (su C),h2.2.1.up (su C) (by omega),fun x hx=>(h2.2.2 x hx).grow (Grow.refl _) (su C)⟩
 | Jj ho _ _ i1=>
  rintro C hM ⟨hT,hO,hA⟩;show eo lv cs cd (C + 1) _ _;have h1:=i1 C hM ⟨fun x hx=>hT.sub (by omega) hx,hO,hA⟩;rw[show C + Jd.up (.all _ _ _)=C from sz C] at h1;exact eo.AE (h1.1.up (su C)) (h1.2.1.up (su C) (by omega))
 | st ho e1 _ i1 i2=>
  rintro C hM ⟨hT,hO,hA⟩;show eo lv cs cd (C + 1) _ _;have h1:=i1 C hM ⟨fun x hx=>hT.sub (by omega) hx,hO,hA⟩;rw[show C + Jd.up (.all _ _ _)=C from sz C] at h1;have hvl:=e1.len rfl;dsimp only at hvl;have hlen:=(TE.fit hT).len.1;have hb:=h1.1.bd;exact i2 C h1.1 ⟨hT.mono e1.grow.2.1,h1.2.2,by rw[hvl];omega,h1.2.1⟩
 | G7=>
  rintro C hM ⟨hT,hO,hA⟩;rw[show C + Jd.up (.all _ _ _)=C from sz C];exact ⟨hM,hA,fun x hx=>by cases hx⟩
 | yR _ _ i1=>
  rintro C hM ⟨hT,hO,hA⟩;rw[show C + Jd.up (.all _ _ _)=C from sz C];have h1:=i1 C hM ⟨hT _ (List.mem_cons_self ..),hO,hA⟩;rw[show C + Jd.up (.ev _ _ _)=C from sz C] at h1;exact ⟨h1.1,h1.2.1,fun x hx=>by cases hx⟩
 | wB e1 e2 i1 i2=>
  rintro C hM ⟨hT,hO,hA⟩;rw[show C + Jd.up (.all _ _ _)=C from sz C];have h1:=i1 C hM ⟨hT _ (List.mem_cons_self ..),hO,hA⟩;rw[show C + Jd.up (.ev _ _ _)=C from sz C] at h1;have h2:=i2 C h1.1 ⟨fun t ht=>(hT t (List.mem_cons_of_mem _ ht)).mono e1.grow.2.1,hO.grow e1.grow (Int.le_refl _),h1.2.1⟩;rw[show C + Jd.up (.all _ _ _)=C from sz C] at h2;refine ⟨h2.1,h2.2.1,fun x hx=>?_⟩;rcases List.mem_cons.1 hx with rfl | hx
  ·exact (h1.2.2 _ (List.mem_cons_self ..)).grow e2.grow (Int.le_refl _)
  ·exact h2.2.2 x hx
 | yS e1 _ _ i1 i2=>
  rintro C hM ⟨hT,hO,hA⟩;rw[show C + Jd.up (.all _ _ _)=C from sz C];have h1:=i1 C hM ⟨hT _ (List.mem_cons_self ..),hO,hA⟩;rw[show C + Jd.up (.ev _ _ _)=C from sz C] at h1;have h2:=i2 C h1.1 ⟨fun t ht=>(hT t (List.mem_cons_of_mem _ ht)).mono e1.grow.2.1,hO.grow e1.grow (Int.le_refl _),h1.2.1⟩;rw[show C + Jd.up (.all _ _ _)=C from sz C] at h2;exact ⟨h2.1,h2.2.1,fun x hx=>by cases hx⟩
 | Pk=>
  rintro C hM ⟨hT,hO,hA⟩;rw[show C + Jd.up (.rc _ _ _ _ _)=C from sz C];exact ⟨hM,hA,fun x hx=>by cases hx⟩
 | Pj _ _ i1=>
  rintro C hM ⟨hT,hO,hA⟩;rw[show C + Jd.up (.rc _ _ _ _ _)=C from sz C];have h1:=i1 C hM ⟨hT _ (List.mem_cons_self ..),hO,hA⟩;rw[show C + Jd.up (.ev _ _ _)=C from sz C] at h1;exact ⟨h1.1,h1.2.1,fun x hx=>by cases hx⟩
 | @NB now v vs t l e s x s1 xs s2 o e1 e2 i1 i2=>
  rintro C hM ⟨hT,hO,hA⟩;rw[show C + Jd.up (.rc _ _ _ _ _)=C from sz C];have h1:=i1 C hM ⟨hT _ (List.mem_cons_self ..),hO,hA⟩;rw[show C + Jd.up (.ev _ _ _)=C from sz C] at h1;have hx:=h1.2.2 _ (List.mem_cons_self ..);have hg:=Grow.tA s1 (now=true) e v x
  have hal:Al C 0 (if now=true then iV s1 e v x else s1):=by
   have h3:=ue s1 e v x;have h4:=h1.2.1;unfold Al at *
   split
   ·rw[h3.1,h3.2];exact h4
   ·exact h4
  have h2:=i2 C (h1.1.tA hx) ⟨fun t ht=>(hT t (List.mem_cons_of_mem _ ht)).mono fun a ha=>hg.2.1 a (e1.grow.2.1 a ha),hO.grow (e1.grow.trans hg) (Int.le_refl _),hal⟩;rw[show C + Jd.up (.rc _ _ _ _ _)=C from sz C] at h2;refine ⟨h2.1,h2.2.1,fun y hy=>?_⟩;rcases List.mem_cons.1 hy with rfl | hy
  ·exact hx.grow (hg.trans e2.grow) (Int.le_refl _)
  ·exact h2.2.2 y hy
 | @Oz now v vs t l e s x s1 xs c s2 o e1 e2 _ i1 i2=>
  rintro C hM ⟨hT,hO,hA⟩;rw[show C + Jd.up (.rc _ _ _ _ _)=C from sz C];have h1:=i1 C hM ⟨hT _ (List.mem_cons_self ..),hO,hA⟩;rw[show C + Jd.up (.ev _ _ _)=C from sz C] at h1;have hx:=h1.2.2 _ (List.mem_cons_self ..);have hg:=Grow.tA s1 (now=true) e v x
  have hal:Al C 0 (if now=true then iV s1 e v x else s1):=by
   have h3:=ue s1 e v x;have h4:=h1.2.1;unfold Al at *
   split
   ·rw[h3.1,h3.2];exact h4
   ·exact h4
  have h2:=i2 C (h1.1.tA hx) ⟨fun t ht=>(hT t (List.mem_cons_of_mem _ ht)).mono fun a ha=>hg.2.1 a (e1.grow.2.1 a ha),hO.grow (e1.grow.trans hg) (Int.le_refl _),hal⟩;rw[show C + Jd.up (.rc _ _ _ _ _)=C from sz C] at h2;exact ⟨h2.1,h2.2.1,fun x hx=>by cases hx⟩
 | seq=>
  rintro C hM ⟨hT,hl,hn,hA⟩;show eo lv cs cd (C + 1) _ _;exact eo.one (hM.up (su C)) (hA.up (su C) (by omega)) ((hl _ (by simp)).grow (Grow.refl _) (su C))
 | @JE t e s x a y r=>
  rintro C hM ⟨hT,hl,hn,hA⟩;show eo lv cs cd (C + 1) _ _;have hM':=(hM.put (a:=a) (hl _ (List.mem_cons_self ..))).up (su C);exact eo.one hM' (hA.up (su C) (by omega)) (hM'.Od (by decide))
 | NC=>rintro C hM ⟨hT,hl,hn,hA⟩;show eo lv cs cd (C + 1) _ _;exact eo.AE (hM.up (su C)) (hA.up (su C) (by omega))
 | xk=>
  rintro C hM ⟨hT,hl,hn,hA⟩;show eo lv cs cd (C + 1) _ _;exact eo.one (hM.up (su C)) (hA.up (su C) (by omega)) ((hl _ (by simp)).grow (Grow.refl _) (su C))
 | AQ=>rintro C hM ⟨hT,hl,hn,hA⟩;show eo lv cs cd (C + 1) _ _;exact eo.AE (hM.up (su C)) (hA.up (su C) (by omega))
 | @box t e s x a ho hnd=>
  rintro C hM ⟨hT,hl,hn,hA⟩;show eo lv cs cd (C + 1) _ _;have hM':=(hM.new (a:=a) (hl _ (List.mem_cons_self ..))).up (su C);refine eo.one hM' (hA.up (su C) (by omega)) ?_;unfold j5;rw[Vl.ok_eq];have:=hM'.nn;refine ⟨⟨by rw[Vl.jU];exact ⟨⟨by show (0:Int)≤11;decide,by show (11:Int)≤12;decide⟩,fun h=>absurd (show (11:Int)=6 from h) (by decide),Nat.zero_le _,fun y hy=>by cases hy⟩,?_,?_⟩,fun h=>absurd (show (11:Int)=8 from h) (by decide),fun _=>⟨a,rfl,p9⟩,fun h=>absurd (show (11:Int)=10 from h) (by decide),fun y hy=>by cases hy⟩
  ·rw[Vl.iN _ (by show ¬(11:Int)=6;decide)]
   show (0:Int)≤_;omega
  ·show (0:Int)≤_
   omega
 | bad=>rintro C hM ⟨hT,hl,hn,hA⟩;show eo lv cs cd (C + 1) _ _;exact eo.AE (hM.up (su C)) (hA.up (su C) (by omega))
 | get _ _ _ hg=>
  rintro C hM ⟨hT,hl,hn,hA⟩;show eo lv cs cd (C + 1) _ _;exact eo.one (hM.up (su C)) (hA.up (su C) (by omega)) ((hM.hp _ _ _ hg).grow (Grow.refl _) (su C))
 | @put t e s x z a y r=>
  rintro C hM ⟨hT,hl,hn,hA⟩;show eo lv cs cd (C + 1) _ _;have hM':=(hM.put (a:=a) (hl _ (List.mem_cons_of_mem _ (List.mem_cons_self ..)))).up (su C);exact eo.one hM' (hA.up (su C) (by omega)) (hM'.Od (by decide))
 | eF=>rintro C hM ⟨hT,hl,hn,hA⟩;show eo lv cs cd (C + 1) _ _;exact eo.AE (hM.up (su C)) (hA.up (su C) (by omega))
 | Ff=>rintro C hM ⟨hT,hl,hn,hA⟩;show eo lv cs cd (C + 1) _ _;exact eo.AE (hM.up (su C)) (hA.up (su C) (by omega))
 | Nr _ _ _ _ _ _ i1=>
  rintro C hM ⟨hT,hl,hn,hA⟩;show eo lv cs cd (C + 1) _ _;rw[List.length_cons] at hn;exact i1 C hM ⟨hl _ (List.mem_cons_self ..),fun x hx=>hl x (List.mem_cons_of_mem _ hx),by omega,hA.up (Int.le_refl _) (by split<;>(try split)<;>omega)⟩
 | app _ _ i1=>
  rintro C hM ⟨hT,hl,hn,hA⟩;show eo lv cs cd (C + 1) _ _;rw[List.length_cons] at hn;exact i1 C hM ⟨hl _ (List.mem_cons_self ..),fun x hx=>hl x (List.mem_cons_of_mem _ hx),by omega,hA.up (Int.le_refl _) (by split<;>(try split)<;>omega)⟩
 | MT _ _ i1=>
  rintro C hM ⟨hT,hl,hn,hA⟩;show eo lv cs cd (C + 1) _ _;exact i1 C hM ⟨hl,hn,hA.up (Int.le_refl _) (by split<;>omega)⟩
 | wH hk _ i1=>
  rintro C hM ⟨hf,hl,hn,hA⟩;show eo lv cs cd (C + 1) _ _;rw[if_neg (by omega)] at hA;exact i1 C hM ⟨hl,hn,hA⟩
 | wG | wD=>
  rintro C hM ⟨hf,hl,hn,hA⟩;show eo lv cs cd (C + 1) _ _;exact eo.AE (hM.up (su C)) (hA.up (su C) (by split<;>(try split)<;>omega))
 | wE=>
  rintro C hM ⟨hf,hl,hn,hA⟩;show eo lv cs cd (C + 1) _ _;have hx:=hl _ (List.mem_cons_self ..);refine eo.AE ?_ (hA.up (su C) (by split<;>(try split)<;>omega));have h1:=hM.up (su C);exact ⟨h1.fu,h1.bd,hx.grow (Grow.refl _) (su C),h1.hp,h1.pr,h1.ou⟩
 | wF | wC | pN | pL=>
  first
   | (rintro C hM ⟨hf,hl,hn,hA⟩;show eo lv cs cd (C + 1) _ _;exact eo.AE (hM.up (su C)) (hA.up (su C) (by split<;>(try split)<;>omega)))
   | (rintro C hM ⟨hl,hn,hA⟩;show eo lv cs cd (C + 1) _ _;exact eo.AE (hM.up (su C)) (hA.up (su C) (by split<;>omega)))
 | @GA f l s q cl xs az v c s' hk hp hgp hx ha _ i1=>
  rintro C hM ⟨hf,hl,hn,hA⟩;show eo lv cs cd (C + 1) _ _;obtain ⟨hc,hov⟩:=hM.pr q cl hgp;have hN:=hM.nn
  have hxs: ∀ x∈xs,j5 C s x:=by
   unfold jr at hx
   split at hx
   ·rw[←Option.some.inj hx]
    intro x hx;rcases List.mem_append.1 hx with hx | hx
    ·exact hl x (List.mem_of_mem_take hx)
    ·rw[List.mem_singleton.1 hx]
     exact tQ hN (by rw[List.length_drop];omega) fun y hy=>hl y (List.mem_of_mem_drop hy)
   ·split at hx
    ·rw[←Option.some.inj hx]
     exact hl
    ·cases hx
  have hlen:=yh hc.1 hx;have hM':=(hM.eM (az:=az) hxs).up (su C);have:=i1 (C + 1) hM' ⟨hc.2.2 _ (fun a hi=>qc hi) az ha (qd (by omega)),qF.grow (Grow.eM _ _ _) (su C) hov,hA.up (su C) (by split<;>(try split)<;>omega)⟩;rw[show C + 1 + Jd.up (.ev _ _ _)=C + 1 from sz _] at this;exact this
 | pR=>
  rintro C hM ⟨hl,hn,hA⟩;show eo lv cs cd (C + 1) _ _;have hx:=hl _ (List.mem_cons_self ..);refine eo.AE ?_ (hA.up (su C) (by split<;>omega));have h1:=hM.up (su C);exact ⟨h1.fu,h1.bd,hx.grow (Grow.refl _) (su C),h1.hp,h1.pr,h1.ou⟩
 | @pE f s v c s' e1 _ i1=>
  rintro C hM ⟨hl,hn,hA⟩;show eo lv cs cd (C + 1) _ _;have hg:=Grow.alive s;obtain ⟨k1,k2⟩:=HH hM hl hA;have h1:=i1 C k1 k2;exact ⟨⟨h1.1.fu,h1.1.bd,h1.1.vl.grow (Grow.dead _ _ _ (Grow.refl _)) (Int.le_refl _),fun a x r hx=>(h1.1.hp a x r hx).grow (Grow.dead _ _ _ (Grow.refl _)) (Int.le_refl _),fun q f hf=>⟨(h1.1.pr q f hf).1,qF.grow (Grow.dead _ _ _ (Grow.refl _)) (Int.le_refl _) (h1.1.pr q f hf).2⟩,h1.1.ou⟩,by have:=h1.2.1;unfold Al at *; dsimp only;rw[List.length_set];exact this,fun x hx=>(h1.2.2 x hx).grow (Grow.dead _ _ _ (Grow.refl _)) (Int.le_refl _)⟩
 | @pJ f s v s' e1 _ i1=>
  rintro C hM ⟨hl,hn,hA⟩;show eo lv cs cd (C + 1) _ _;obtain ⟨k1,k2⟩:=HH hM hl hA;have h1:=i1 C k1 k2;exact ⟨⟨h1.1.fu,h1.1.bd,h1.1.vl.grow (Grow.dead _ _ _ (Grow.refl _)) (Int.le_refl _),fun a x r hx=>(h1.1.hp a x r hx).grow (Grow.dead _ _ _ (Grow.refl _)) (Int.le_refl _),fun q f hf=>⟨(h1.1.pr q f hf).1,qF.grow (Grow.dead _ _ _ (Grow.refl _)) (Int.le_refl _) (h1.1.pr q f hf).2⟩,h1.1.ou⟩,by have:=h1.2.1;unfold Al at *; dsimp only;rw[List.length_set];exact this,fun x hx=>by rw[List.mem_singleton.1 hx];exact h1.1.vl.grow (Grow.dead _ _ _ (Grow.refl _)) (Int.le_refl _)⟩
 | @pA f x s v c s' hk _ i1=>
  rintro C hM ⟨hl,hn,hA⟩;show eo lv cs cd (C + 1) _ _;have hx:=hl x (by simp);exact i1 C hM ⟨hl f (by simp),hx.fW,hx.len.1,hA.up (Int.le_refl _) (by rw[if_neg (by simp[Dl])];split<;>(try split)<;>omega)⟩
 | @pS n l s hn ht=>
  rintro C hM ⟨hl,hn',hA⟩;show eo lv cs cd (C + 1) _ _;have hM':=hM.up (su C);have hv:=Lb hM.nn n l ht hn' hl;have ho:=Jg n l;have hou:=hM.ou;refine eo.one ⟨hM'.fu,hM'.bd,hM'.vl,hM'.hp,hM'.pr,?_⟩ (hA.up (su C) (by split<;>omega)) (by unfold j5;rw[show C + 1 - (Af s (gD n l).2.2).fuel=C - s.fuel + 1 from by show C + 1 - s.fuel=_;omega];exact hv);show ((s.out++(gD n l).2.2).length:Int)≤1001 * (C + 1 - s.fuel);rw[List.length_append];omega
theorem ah.apart {P:Program} {f:FuncId} {args:List PV} {Γ:List ak} {Q:PV→List ak→Prop} (h0: ∃ fn,P.funcs[f]?=some fn∧fn.body.isNone=false∧(fn.name == "runtime.NumGoroutine")=false)
  (h:Γ.Pairwise ak.apart→ah P f args Γ Q):ah P f args Γ Q:=
 ⟨h0,fun w0 F M w vs hS hR=>(h (List.pairwise_append.1 hS.sep).1).2 w0 F M w vs hS hR⟩
theorem ah.yT {P:Program} {f:FuncId} {args:List PV} {Γ:List ak} {Q:PV→List ak→Prop} (h:ah P f args Γ Q):ah P f args Γ fun y Γ'=>Q y Γ'∧Γ'.Pairwise ak.apart:=
 ⟨h.1,fun w0 F M w vs hS hT=>(h.2 w0 F M w vs hS hT).mono fun _ _ ⟨v,F',y,Γ',e1,e2,e3,e4,e5⟩=>⟨v,F',y,Γ',e1,e2,e3,e4,e5,(List.pairwise_append.1 e3.sep).1⟩⟩
theorem MB {h:Hp} (hp:(nP h).Pairwise ak.apart):oz h:=by
 unfold oz nP at *;rw[List.pairwise_map] at hp;rw[List.Nodup,List.pairwise_map];refine hp.imp fun {a b} hab=>?_;rcases hab with h1 | h1
 ·cases h1
 ·intro e
  exact h1 (congrArg some e)
theorem vu {b:Nat} {K:KC} {tk:Tok} {s:bJ} (hp:(bw b K tk s).Pairwise ak.apart):oz s.h:=MB hp.tail.tail
theorem br.mono {b:Nat} {K:KC} {R R':Vl→Int→bJ→Tok→Prop} (h: ∀ x c s' tk',R x c s' tk'→R' x c s' tk') {y:PV} {Γ':List ak}:br b K R y Γ'→br b K R' y Γ':=by
 rintro ⟨x,c,s',tk',e1,e2,hr⟩;exact ⟨x,c,s',tk',e1,e2,h _ _ _ _ hr⟩
theorem uk.mono {b:Nat} {K:KC} {R R':List Vl→Int→bJ→Tok→Prop} (h: ∀ x c s' tk',R x c s' tk'→R' x c s' tk') {y:PV} {Γ':List ak}:uk b K R y Γ'→uk b K R' y Γ':=by
 rintro ⟨x,c,s',tk',e1,e2,hr⟩;exact ⟨x,c,s',tk',e1,e2,h _ _ _ _ hr⟩
def DE (tk:Tok):Prop:=tk.e=4∧tk.s=1
def Gx (K:KC) (j:Jd) (s:bJ) (x:Vl) (c:Int) (s':bJ) (tk':Tok):Prop:=Ev K j s [x] c s'∧DE tk'
theorem br.of {b:Nat} {K:KC} {R:Vl→Int→bJ→Tok→Prop} {y:PV} {Γ':List ak} {x:Vl} {c:Int} {s':bJ} {tk':Tok} (h:y=.aU [.agg (aS x),.int .i64 c]∧Γ'=bw b K tk' s') (hr:R x c s' tk'):br b K R y Γ':=
 ⟨x,c,s',tk',h.1,h.2,hr⟩
mutual
def Vl.wt:Vl→Nat
 | .mk k _ _ _ l _ _=>if k=10 then 0 else 1 + Vl.AB l
def Vl.AB:List Vl→Nat
 | []=>0
 | x::xs=>Vl.wt x + Vl.AB xs
end
theorem Vl.Jz (x:Vl):x.wt=if x.k=10 then 0 else 1 + Vl.AB x.l:=by cases x;rw[Vl.wt];rfl
theorem Vl.E9: ∀ {l:List Vl} (h:l.length=2),Vl.AB l=(l[0]'(by omega)).wt + (l[1]'(by omega)).wt
 | [a,b],_=>by rw[Vl.AB,Vl.AB,Vl.AB];rfl
theorem Vl.MD (x:Vl):x.tx=true→x.fW.2.k=4→Vl.AB x.fW.1 + 1≤x.wt:=by
 induction x using Vl.ind with
 | h x ih=>
  intro ht hk;by_cases h6:x.k=6
  ·have h2:=((Vl.jU x).1 ht).2.1 h6
   rw[Vl.lg x h6 h2] at hk ⊢;have h1:=ih (x.l[1]'(by omega)) (List.getElem_mem _) (((Vl.jU x).1 ht).2.2.2 _ (List.getElem_mem _)) hk;rw[Vl.Jz x,if_neg (by omega)];show Vl.AB ((x.l[0]'(by omega))::(x.l[1]'(by omega)).fW.1) + 1≤_;rw[Vl.AB,Vl.E9 h2];omega
  ·rw[Vl.iN x h6] at hk⊢
   have hk':x.k=4:=hk;rw[Vl.Jz,if_neg (by omega)];show Vl.AB [] + 1≤_;rw[Vl.AB];omega
def CE (f:Vl) (l:List Vl):Nat:=2 * Vl.AB l + if f.k=10 then 0 else 1
section
variable (b:Nat) (K:KC) (lv:Int)
def cK (K:KC):Int:=(K.k.length:Int)
def dK (K:KC):Int:=(K.c.length:Int)
def oD (n:Int):Prop:= ∀ C t e o s tk,C≤900000→s.fuel≤n→DE tk→fy lv (cK K) (dK K) C s→AD lv (cK K) (dK K) C (.ev t e o) s→
 ah Tryz.prog 87 [.ptr b 0,.agg t.cells,bF e,fo o] (bw b K tk s) (br b K (Gx K (.ev t e o) s))
variable {b K lv}
theorem fy.lens {cs cd C:Int} {s:bJ} (h:fy lv cs cd C s) (hC:C≤900000) {l:List Vl} (hl:(l.length:Int)≤C - s.fuel):l.length≤1000000000:=by have:=h.fu;omega
theorem j5.lim {cs cd C:Int} {s:bJ} {x:Vl} (h:fy lv cs cd C s) (hC:C≤900000) (hx:j5 C s x):x.fW.1.length≤1000000000:=by
 have h1:=(Vl.ok.len hx).1;have:=h.fu;omega
theorem NJ {C k:Int} {s:bJ} (hC:C≤900000) (hf:0≤s.fuel) (hk:k≤2) (h:Al C k s):s.alive.length≤1000000000:=by
 unfold Al at h;omega
theorem G8 {n:Int} (hK: ∀ x∈K.k,x.ok 20002 0 fun _=>False) (hCd: ∀ c∈K.c, ∀ D n o,wU lv (cK K) (dK K) D (jg c n o)) (H:oD b K lv n) (C:Int) (hC:C≤900000) (l:List aa) (hl:l.length≤1000000000) (e:bq) (o:List Vl) (s:bJ) (tk:Tok) (hn:s.fuel≤n) (ht:DE tk) (hM:fy lv (cK K) (dK K) C s) (hJ:AD lv (cK K) (dK K) C (.all l e o) s):
  ah Tryz.prog 114 [.ptr b 0,.sl 4 (l.map aa.pv) none,bF e,fo o] (bw b K tk s) (uk b K fun vs c s' tk'=>Ev K (.all l e o) s vs c s'∧DE tk'):=by
 refine L9 b K o e l hl (fun i m s1 tk1=>DE tk1∧fy lv (cK K) (dK K) C s1∧Al C 0 s1∧Grow s s1∧ ∀ vs c s',Ev K (.all (l.drop i) e o) s1 vs c s'→Ev K (.all l e o) s (if c=0 then m++vs else []) c s') _ s tk
  ⟨ht,hM,hJ.2.2,Grow.refl s,fun vs c s' h=>?_⟩ ?_ ?_
 ·have:vs=if c=0 then []++vs else []:=by
   by_cases hc:c=0
   ·rw[if_pos hc];rfl
   ·rw[if_neg hc]
    cases h with
    | G7 | wB=>exact absurd rfl hc
    | yR | yS=>rfl
  rw[←this];exact h
 ·rintro i m s1 tk1 ⟨k1,k2,k3,k4,k5⟩ hi
  have hT:=(hJ.1 _ (List.getElem_mem hi)).mono k4.2.1
  refine (H C l[i] e o s1 tk1 hC (by have:=k4.2.2;omega) k1 k2 ⟨hT,hJ.2.1.grow k4 (Int.le_refl _),k3⟩).mono fun y Γ'=>br.mono fun x c s' tk' ⟨hE,ht'⟩=>⟨fun hc=>?_,fun hc=>?_⟩
  ·subst hc
   have hp:=hE.keeps hK hCd C k2 ⟨hT,hJ.2.1.grow k4 (Int.le_refl _),k3⟩;rw[show C + Jd.up (.ev _ _ _)=C from by show C + 0=C;omega] at hp;refine ⟨ht',hp.1,hp.2.1,k4.trans hE.grow,fun vs c2 s2 h3=>?_⟩;rw[aq hi] at k5;by_cases hc2:c2=0
   ·subst hc2
    have:=k5 _ _ _ (.wB hE h3);rw[if_pos rfl] at this ⊢;rw[List.append_assoc];exact this
   ·have:=k5 _ _ _ (.yS hE h3 hc2)
    rw[if_neg hc2] at this ⊢;exact this
  ·rw[aq hi] at k5
   have:=k5 _ _ _ (.yR hE hc);rw[if_neg hc] at this;exact ⟨this,ht'⟩
 ·rintro m s1 tk1 ⟨k1,k2,k3,k4,k5⟩
  rw[List.drop_of_length_le (Nat.le_refl _)] at k5;have:=k5 _ _ _ .G7;rw[if_pos rfl,List.append_nil] at this;exact ⟨this,k1⟩
theorem II {n:Int} (m:Nat) (IH: ∀ C f l s tk,C≤899999→s.fuel≤n→DE tk→fy lv (cK K) (dK K) C s→AD lv (cK K) (dK K) C (.call f l) s→CE f l < m→
  ah Tryz.prog 140 [.ptr b 0,.agg (aS f),.sl 7 (l.map Vl.pv) none] (bw b K tk s) (br b K (Gx K (.call f l) s))):
 ∀ C p l s tk,C≤899999→s.fuel≤n→DE tk→fy lv (cK K) (dK K) C s→AD lv (cK K) (dK K) C (.qo p l) s→2 * Vl.AB l < m→
  ah Tryz.prog 141 [.ptr b 0,.int .i64 p,.sl 7 (l.map Vl.pv) none] (bw b K tk s) (br b K (Gx K (.qo p l) s)):=by
 rintro C p l s tk hC hn ht hM ⟨hl,hlen,hA⟩ hw;have hll:=hM.lens (by omega) hlen;by_cases htk:gF p l.length=false
 ·exact (KN b K tk s p l hll htk).mono fun y Γ' h=>br.of h ⟨.pN htk,ht⟩
 have htk':gF p l.length=true:=by simpa using htk
 have hb:=htk';unfold gF at hb;simp only[Bool.and_eq_true,Bool.or_eq_true,decide_eq_true_eq] at hb;have f28:(aP 28).least=1∧(aP 28).most=1:=by decide
 have f29:(aP 29).least=1∧(aP 29).most=1:=by decide
 have f30:(aP 30).least=2∧(aP 30).most=2:=by decide
 rcases (by omega:p < 28∨p=28∨p=29∨p=30) with hp | rfl | rfl | rfl
 ·have hS:=Pq p l hp htk' hll (fun x hx=>(hl x hx).tx) fun x hx=>j5.lim hM (by omega) (hl x hx)
  exact (KP b K tk s p hp l hll htk' (by have:=hM.ou;have:=hM.fu;omega) hS).mono fun y Γ' h=>br.of h ⟨.pS hp htk',ht⟩
 ·have hl1:l.length=1:=by omega
  refine (KO b K tk s l hl1).mono fun y Γ' h=>br.of h ⟨?_,ht⟩
  match l,hl1 with
  | [x],_=>exact .pR
 ·have hl1:l.length=1:=by omega
  refine KL b K tk s _ l hl1 (HI b K tk s _ l[0] ht.1 ht.2 (NJ (by omega) hM.fu (by split<;>omega) hA) (fun x c s' tk'=>Ev K (.call l[0] [uT s.alive.length]) (Oo s) [x] c s'∧DE tk') ?_ fun tk1 h1 h2=>?_)
  ·rintro x c s' tk' ⟨hE,ht'⟩
   have hg:(s.alive++ [true]).length≤s'.alive.length:=hE.grow.1;rw[List.length_append,List.length_singleton] at hg
   match l,hl1,hE with
   | [f],_,hE=>
   refine ⟨by omega,ht'.2,?_,fun hc=>⟨.pE hE hc,ht'⟩⟩;rintro ⟨rfl,hto⟩;exact ⟨.pJ hE hto,ht'⟩
  ·match l,hl1,hl,hA,hw with
   | [f],_,hl,hA,hw=>
   obtain ⟨k1,k2⟩:=HH hM hl hA;refine IH C f _ _ tk1 hC hn ⟨h1,h2⟩ k1 k2 ?_;have e:Vl.AB [uT s.alive.length]=0:=rfl;have e2:Vl.AB [f]=f.wt:=by rw[Vl.AB,Vl.AB];rfl
   unfold CE;rw[e];rw[e2,Vl.Jz] at hw
   split
   ·omega
   ·rename_i hk
    rw[if_neg hk] at hw;omega
 ·have hl1:l.length=2:=by omega
  have hx:=hl l[1] (List.getElem_mem _);by_cases hk:l[1].fW.2.k=4
  ·refine KK b K tk s _ l hl1 hx.tx (j5.lim hM (by omega) hx) hk ((IH C l[0] l[1].fW.1 s tk hC hn ht hM ⟨hl _ (List.getElem_mem _),hx.fW,hx.len.1,?_⟩ ?_).mono fun y Γ'=>br.mono fun x c s' tk' ⟨hE,ht'⟩=>⟨?_,ht'⟩)
   ·refine hA.up (Int.le_refl _) ?_
    match l,hl1 with
    | [f,x],_=>rw[if_neg (by simp[Dl])];split<;>(try split)<;>omega
   ·have h1:=Vl.MD _ hx.tx hk
    unfold CE;rw[Vl.E9 hl1] at hw
    split<;>omega
   ·match l,hl1,hE,hk with
    | [f,x1],_,hE,hk=>exact .pA hk hE
  ·refine (KM b K tk s l hl1 hx.tx (j5.lim hM (by omega) hx) hk).mono fun y Γ' h=>br.of h ⟨?_,ht⟩
   match l,hl1,hk with
   | [f,x1],_,hk=>exact .pL hk
theorem CG {n:Int} (H:oD b K lv n): ∀ (m:Nat) C f l s tk,C≤899999→s.fuel≤n→DE tk→fy lv (cK K) (dK K) C s→AD lv (cK K) (dK K) C (.call f l) s→CE f l < m→
  ah Tryz.prog 140 [.ptr b 0,.agg (aS f),.sl 7 (l.map Vl.pv) none] (bw b K tk s) (br b K (Gx K (.call f l) s)):=by
 intro m
 induction m with
 | zero=>exact fun C f l s tk _ _ _ _ _ h=>absurd h (Nat.not_lt_zero _)
 | succ m ih=>
  rintro C f l s tk hC hn ht hM ⟨hf,hl,hlen,hA⟩ hw;have hll:=hM.lens (by omega) hlen;unfold CE at hw;by_cases h9:f.k=9
  ·rw[if_neg (by omega)] at hA hw
   exact Mj b K tk s _ f h9 l ((II m ih C f.n l s tk hC hn ht hM ⟨hl,hlen,hA⟩ (by omega)).mono fun y Γ'=>br.mono fun x c s' tk' ⟨hE,ht'⟩=>⟨.wH h9 hE,ht'⟩)
  by_cases h10:f.k=10
  ·by_cases hl1:l.length=1
   ·have hfn:=((Vl.ok_eq f).1 hf).2.2.2.1 h10
    refine (Mg b K tk s f h10 l hl1 hfn ht.2).mono fun y Γ' h=>?_
    match l,hl1,h with
    | [x],_,h=>
    rcases h with ⟨h1,h⟩ | ⟨h1,h⟩
    ·exact br.of h ⟨.wD h10 (by rw[List.getElem?_eq_getElem (by omega),h1]),ht⟩
    ·exact br.of h ⟨.wE h10 (by rw[List.getElem?_eq_getElem (by omega),h1]),ht⟩
   ·exact (Mi b K tk s f h10 l hl1).mono fun y Γ' h=>br.of h ⟨.wG h10 hl1,ht⟩
  by_cases h8:f.k=8
  ·obtain ⟨q,hp,hq⟩:=((Vl.ok_eq f).1 hf).2.1 h8
   obtain ⟨cl,hgp⟩:=ve.1 hq;obtain ⟨hc,hov⟩:=hM.pr q cl hgp
   cases hx:jr l cl.v.length cl.rest with
   | none=>exact (Mh b K tk s f h8 q cl hp hgp l hll (by have:=hc.2.1;omega) hc.1 hx).mono fun y Γ' h=>br.of h ⟨.wF h8 hp hgp hx,ht⟩
   | some xs=>
    refine NQ b K tk s _ f h8 q cl hp hgp l xs hll (by have:=hc.2.1;omega) hc.1 hx fun az ha=>?_;have hN:=hM.nn
    have hxs: ∀ x∈xs,j5 C s x:=by
     have hx':=hx;unfold jr at hx'
     split at hx'
     ·rw[←Option.some.inj hx']
      intro x hx;rcases List.mem_append.1 hx with hx | hx
      ·exact hl x (List.mem_of_mem_take hx)
      ·rw[List.mem_singleton.1 hx]
       exact tQ hN (by rw[List.length_drop];omega) fun y hy=>hl y (List.mem_of_mem_drop hy)
     ·split at hx'
      ·rw[←Option.some.inj hx']
       exact hl
      ·cases hx'
    have hlen:=yh hc.1 hx
    refine (H (C + 1) cl.body (bM cl.env cl.v az) cl.over (aR s (eM s.h xs az)) tk (by omega) hn ht ((hM.eM (az:=az) hxs).up (by omega)) ⟨hc.2.2 _ (fun a hi=>qc hi) az ha (qd (by omega)),qF.grow (Grow.eM _ _ _) (by omega) hov,hA.up (by omega) (by split<;>(try split)<;>omega)⟩).mono fun y Γ'=>br.mono fun x c s' tk' ⟨hE,ht'⟩=>⟨.GA h8 hp hgp hx ha hE,ht'⟩
  ·exact (Mf b K tk s f ⟨h8,h9,h10⟩ l).mono fun y Γ' h=>br.of h ⟨.wC h8 h9 h10,ht⟩
end
section
variable (b:Nat) (K:KC) (tk:Tok) (s:bJ) (t:aa) (e:bq)
theorem Lh (ho:t.op=18) (l:List Vl) (hl:l.length=2) (hk:l[0].k=11) (y:Vl) (a:Nat) (r:Bool) (hf:l[0].c=some a) (hg:aL s.h a=some (y,r)) (hu:y.k=12):
  ah Tryz.prog 115 [.ptr b 0,.agg t.cells,.sl 7 (l.map Vl.pv) none,bF e] (bw b K tk s) (fun y Γ'=>y=.aU [.agg (aS bx),.int .i64 5]∧Γ'=bw b K tk s):=by
 obtain ⟨put,hpb,hpu⟩:=iM hg;refine ah.ai aj Tryz.func115 rfl rfl (n:=173) rfl rfl ?_
 conv=>whnf
 repeat' (first|refine aW ?_|((intro _);conv=>whnf)|(refine zX (fun hc=>?_) (fun hc=>?_)<;>(try simp only[SY] at hc)<;>first|omega|(conv=>whnf)))
 all_goals
  rw[hf]
  conv=>whnf
  repeat' (first|refine aW ?_|(refine zX (fun hc=>?_) (fun hc=>?_)<;>(try simp only[SY] at hc)<;>first|omega|(conv=>whnf)))
 all_goals try
  rw[hf]
  conv=>whnf
  skip
 all_goals exact an.gen (y:=.aU [.agg (aS bx),.int .i64 5]) (Γ':=bw b K tk s) hY.res ⟨rfl,rfl⟩
end
section
variable {b:Nat} {K:KC} {lv:Int}
theorem Kk {α:Type}: ∀ {l:List α},l.length=1→ ∃ x,l= [x]
 | [x],_=>⟨x,rfl⟩
theorem Og {α:Type}: ∀ {l:List α},l.length=2→ ∃ x y,l= [x,y]
 | [x,y],_=>⟨x,y,rfl⟩
theorem Oi {α:Type}: ∀ {l:List α} (h:l.length=1),l= [l[0]'(by omega)]
 | [x],_=>rfl
theorem Oj {α:Type}: ∀ {l:List α} (h:l.length=3),l= [l[0]'(by omega),l[1]'(by omega),l[2]'(by omega)]
 | [x,y,z],_=>rfl
theorem Ev.none {K:KC} {j:Jd} {s:bJ} {vs:List Vl} {c:Int} {s':bJ} (h:Ev K j s vs c s'):c≠0→match j with
  | .all _ _ _=>vs= []
  | .rc _ _ _ _ _=>vs= []
  | _=>True:=by
 cases h<;>intro hc<;>first | trivial | rfl | exact absurd rfl hc
theorem Jm {n:Int} (H:oD b K lv n) (C:Int) (hC:C≤899999) (t:aa) (e:bq) (ho:t.op=2∨t.op=5∨t.op=6∨t.op=10∨t.op=12∨(14≤t.op∧t.op≤19)∨t.op=22) (l:List Vl) (hlt:l.length=t.t.length) (s:bJ) (tk:Tok) (hn:s.fuel≤n) (ht:DE tk) (hM:fy lv (cK K) (dK K) C s) (hJ:AD lv (cK K) (dK K) C (.str t l e) s):
  ah Tryz.prog 115 [.ptr b 0,.agg t.cells,.sl 7 (l.map Vl.pv) none,bF e] (bw b K tk s) (br b K (Gx K (.str t l e) s)):=by
 obtain ⟨hT,hl,hlen,hA⟩:=hJ;have hll:=hM.lens (by omega) hlen;have hc:=hT.cnt;rcases (by omega:(t.op=2∨t.op=14)∨t.op=5∨t.op=6∨t.op=10∨t.op=12∨t.op=15∨t.op=16∨(t.op=17∨t.op=18)∨t.op=19∨t.op=22) with h | h | h | h | h | h | h | h | h | h
 ·have hl1:l.length=1:=by have:=hc.1 (by omega);omega
  obtain ⟨x,rfl⟩:=Kk hl1;obtain ⟨a,hf,hin⟩:=hT.ref (by omega);obtain ⟨y,r,hg⟩:=oy.1 hin;by_cases hu:(r=true∨t.op=14)∧y.k=12
  ·refine (Li b K tk s t e h _ hl1 y a r hf hg hu.1 hu.2).mono fun y Γ' hq=>br.of hq ⟨?_,ht⟩
   exact .NC h hf hg hu.1 hu.2
  ·refine (Nk b K tk s t e h _ hl1 y a r hf hg hu).mono fun y Γ' hq=>br.of hq ⟨?_,ht⟩
   exact .JE h hf hg hu
 ·have hl1:0 < l.length:=by have:=hc.2.2.2.1 (by omega);omega
  refine Nd b K tk s _ t h e l hl1 ((CG H (CE l[0] (l.drop 1) + 1) C l[0] (l.drop 1) s tk hC hn ht hM ⟨hl _ (List.getElem_mem _),fun x hx=>hl x (List.mem_of_mem_drop hx),by rw[List.length_drop];omega,hA.up (Int.le_refl _) (by split<;>(try split)<;>omega)⟩ (Nat.lt_succ_self _)).mono fun y Γ'=>br.mono fun x c s' tk' ⟨hE,ht'⟩=>⟨?_,ht'⟩)
  match l,hl1,hE with
  | f::l,_,hE=>exact .app h hE
 ·have hl1:0 < l.length:=by have:=hc.2.2.2.1 (by omega);omega
  refine (Nc b K tk s t e h l hl1 hll).mono fun y Γ' hq=>br.of hq ⟨?_,ht⟩;have hne:l≠ []:=by intro h0;rw[h0] at hl1;exact absurd hl1 (Nat.lt_irrefl 0)
  have e1:l[l.length - 1]=l.getLast hne:=(List.getLast_eq_getElem hne).symm;rw[e1];have:=Ev.seq (K:=K) (t:=t) (e:=e) (s:=s) (l:=l.dropLast) (x:=l.getLast hne) h;rw[List.dropLast_concat_getLast hne] at this;exact this
 ·exact Ni b K tk s _ t h e l ((II (2 * Vl.AB l + 1) (CG H _) C t.n l s tk hC hn ht hM ⟨hl,hlen,hA.up (Int.le_refl _) (by split<;>omega)⟩ (Nat.lt_succ_self _)).mono fun y Γ'=>br.mono fun x c s' tk' ⟨hE,ht'⟩=>⟨.MT h hE,ht'⟩)
 ·have hl1:l.length=1:=by have:=hc.1 (by omega);omega
  obtain ⟨x,rfl⟩:=Kk hl1;by_cases hu:x.k=12
  ·refine (Jk b K tk s t e h _ hl1 hu).mono fun y Γ' hq=>br.of hq ⟨?_,ht⟩
   exact .AQ h hu
  ·refine (Lf b K tk s t e h _ hl1 hu).mono fun y Γ' hq=>br.of hq ⟨?_,ht⟩
   exact .xk h hu
 ·have hl1:l.length=1:=by have:=hc.1 (by omega);omega
  obtain ⟨x,rfl⟩:=Kk hl1;refine (Nl b K tk s t e h _ hl1).yT.mono fun y Γ' ⟨⟨a,e1,e2⟩,hap⟩=>br.of ⟨e1,e2⟩ ⟨?_,ht⟩;rw[e2] at hap;have hnd:=vu hap;exact .box h hnd
 ·have hl1:l.length=1:=by have:=hc.1 (by omega);omega
  obtain ⟨x,rfl⟩:=Kk hl1;by_cases hk:x.k=11
  ·obtain ⟨a,hf,hin⟩:=((Vl.ok_eq _).1 (hl x (List.mem_cons_self ..))).2.2.1 hk
   obtain ⟨y,r,hg⟩:=oy.1 hin;refine (Ng b K tk s t e h _ hl1 hk y a r hf hg).mono fun y Γ' hq=>br.of hq ⟨?_,ht⟩;exact .get h hk hf hg
  ·refine (Jl b K tk s t e (by omega) [x] (Nat.zero_lt_succ _) hk).mono fun y Γ' hq=>br.of hq ⟨?_,ht⟩
   exact .bad (by omega) hk
 ·have hl1:l.length=2:=by have:=hc.2.2.1 (by omega);omega
  obtain ⟨x,z,rfl⟩:=Og hl1;by_cases hk:x.k=11
  ·obtain ⟨a,hf,hin⟩:=((Vl.ok_eq _).1 (hl x (List.mem_cons_self ..))).2.2.1 hk
   obtain ⟨y,r,hg⟩:=oy.1 hin;by_cases hu:t.op=18∧y.k=12
   ·refine (Lh b K tk s t e hu.1 _ hl1 hk y a r hf hg hu.2).mono fun y Γ' hq=>br.of hq ⟨?_,ht⟩
    exact .eF hu.1 hk hf hg hu.2
   ·refine (Nj b K tk s t e h _ hl1 hk y a r hf hg hu).mono fun y Γ' hq=>br.of hq ⟨?_,ht⟩
    exact .put h hk hf hg hu
  ·refine (Jl b K tk s t e (by omega) [x,z] (Nat.zero_lt_succ _) hk).mono fun y Γ' hq=>br.of hq ⟨?_,ht⟩
   exact .bad (by omega) hk
 ·have hcn:=hT.OQ (.inl h)
  unfold dK at hcn;have hcd:K.c[t.n.toNat]?=some (K.c[t.n.toNat]'(by omega)):=List.getElem?_eq_getElem (by omega);refine (Nf b K tk s t e h l _ hcn hcd).yT.mono fun y Γ' ⟨⟨a,e1,e2⟩,hap⟩=>br.of ⟨e1,e2⟩ ⟨?_,ht⟩;rw[e2] at hap;exact .cH h hcd (vu hap)
 ·have hl1:0 < l.length:=by have:=hc.2.2.2.1 (by omega);omega
  have hA1:=hA
  have href:(l[0].k=8→ ∃ q pr,l[0].p=some q∧aY s.h q=some pr∧ ¬pr.code=t.n)→ah Tryz.prog 115 [.ptr b 0,.agg t.cells,.sl 7 (l.map Vl.pv) none,bF e] (bw b K tk s) (br b K (Gx K (.str t l e) s)):=fun hk=>by
   refine (Lg b K tk s t e h l hl1 hk).mono fun y Γ' hq=>br.of hq ⟨?_,ht⟩
   match l,hl1,hk with
   | f::l,_,hk=>exact .Ff h hk
  by_cases h8:l[0].k=8
  ·obtain ⟨q,hp,hq⟩:=((Vl.ok_eq _).1 (hl _ (List.getElem_mem hl1))).2.1 h8
   obtain ⟨pr,hgp⟩:=ve.1 hq;by_cases hcode:pr.code=t.n
   ·refine Nh b K tk s _ t h e l hl1 h8 q pr hp hgp hcode ((CG H (CE l[0] (l.drop 1) + 1) C l[0] (l.drop 1) s tk hC hn ht hM ⟨hl _ (List.getElem_mem _),fun x hx=>hl x (List.mem_of_mem_drop hx),by rw[List.length_drop];omega,hA.up (Int.le_refl _) (by split<;>(try split)<;>omega)⟩ (Nat.lt_succ_self _)).mono fun y Γ'=>br.mono fun x c s' tk' ⟨hE,ht'⟩=>⟨?_,ht'⟩)
    match l,hl1,hE,h8,hp with
    | f::l,_,hE,h8,hp=>exact .Nr h h8 hp hgp hcode hE
   ·exact href fun _=>⟨q,pr,hp,hgp,hcode⟩
  ·exact href fun hk=>absurd hk h8
theorem o3 {l:List aa} {k:Nat} (h:l.length=k + 1):l=l.take k++ [l[k]'(by omega)]:=by
 have:l.take (k + 1)=l:=List.take_of_length_le (by omega);rw[←List.take_succ_eq_append_getElem (by omega),this]
theorem Oh {n:Int} (hK: ∀ x∈K.k,x.ok 20002 0 fun _=>False) (hCd: ∀ c∈K.c, ∀ D n o,wU lv (cK K) (dK K) D (jg c n o)) (H:oD b K lv n) (C:Int) (hC:C≤900000) (t:aa) (e:bq) (o:List Vl) (ho:t.op=8) (s:bJ) (tk:Tok) (hn:s.fuel≤n) (ht:DE tk) (hM:fy lv (cK K) (dK K) C s) (hJ:AD lv (cK K) (dK K) C (.go t e o) s):
  ah Tryz.prog 113 [.ptr b 0,.agg t.cells,bF e,fo o] (bw b K tk s) (br b K (Gx K (.go t e o) s)):=by
 obtain ⟨hT,hO,hA⟩:=hJ;have hl:=hT.cnt.2.2.2.2.1 (by omega);have hfit:=hT.fit.len;have hsp:=o3 hl;have htl:(t.t.take t.v.length).length=t.v.length:=by rw[List.length_take];omega
 have hJa:AD lv (cK K) (dK K) C (.all (t.t.take t.v.length) e o) s:=⟨hT.lets ho hsp htl,hO,hA⟩
 refine JS b K o tk s t e _ ho hl (by omega) ((G8 hK hCd H C hC (t.t.take t.v.length) (by omega) e o s tk hn ht hM hJa).mono fun y Γ'=>uk.mono fun vs c s1 tk1 ⟨hE,ht1⟩=>⟨fun hc=>⟨.JB ho hsp htl hE hc,ht1⟩,fun hc=>?_⟩);subst hc;have hvl:=hE.len rfl;dsimp only at hvl;have hp:=hE.keeps hK hCd C hM hJa;rw[show C + Jd.up (.all _ _ _)=C from by show C + 0=C;omega] at hp;refine ⟨by omega,fun az ha=>?_⟩;have hg:=hE.grow;have hT':=hT.last (by omega) hsp htl (fun a hi=>(hg.trans (Grow.eM s1 vs az)).2.1 a hi) az ha (qd (by omega))
 exact (H C _ (bM e t.v az) o (aR s1 (eM s1.h vs az)) tk1 hC (by have:=hg.2.2;show s1.fuel≤n;omega) ht1 (hp.1.eM hp.2.2) ⟨hT',hO.grow (hg.trans (Grow.eM s1 vs az)) (Int.le_refl _),hp.2.1⟩).mono fun y Γ'=>br.mono fun x c s' tk' ⟨hE2,ht2⟩=>⟨.GH ho hsp htl hE ha hE2,ht2⟩
theorem nI: ∀ {vs:List Int} {az:List Nat} (e:bq),az.length=vs.length→ ∀ v∈vs, ∃ a∈az,fc (bM e vs az) v=some a
 | [],_,_,_,v,hv=>by cases hv
 | v::vs, [],_,hl,_,_=>by simp at hl
 | v::vs,a::az,e,hl,w,hw=>by
  rw[bM];by_cases hm:w∈vs
  ·obtain ⟨c,h1,h2⟩:=nI ((v,a)::e) (by simpa using hl) w hm
   exact ⟨c,List.mem_cons_of_mem _ h1,h2⟩
  ·have hwv:w=v:=by
    rcases List.mem_cons.1 hw with h | h
    ·exact h
    ·exact absurd h hm
   subst hwv;refine ⟨a,List.mem_cons_self ..,?_⟩
   have key: ∀ {us:List Int} {bz:List Nat} {e:bq},w∉us→fc (bM e us bz) w=fc e w:=by
    intro us
    induction us with
    | nil=>intro bz e _;cases bz<;>rfl
    | cons u us ih=>
     intro bz e hn
     cases bz with
     | nil=>rfl
     | cons c bz=>
      rw[bM,ih fun h=>hn (List.mem_cons_of_mem _ h),fc,if_neg fun h=>hn (by rw[h];exact List.mem_cons_self ..)]
   rw[key hm,fc,if_pos rfl]
theorem OB {n:Int} (hK: ∀ x∈K.k,x.ok 20002 0 fun _=>False) (hCd: ∀ c∈K.c, ∀ D n o,wU lv (cK K) (dK K) D (jg c n o)) (H:oD b K lv n) (C:Int) (hC:C≤900000) (t:aa) (e:bq) (o:List Vl) (ho:t.op=7∨t.op=9) (h9:t.op=9→ ¬lv=3) (s:bJ) (tk:Tok) (hn:s.fuel≤n) (ht:DE tk) (hM:fy lv (cK K) (dK K) C s) (hJ:AD lv (cK K) (dK K) C (.go t e o) s):
  ah Tryz.prog 113 [.ptr b 0,.agg t.cells,bF e,fo o] (bw b K tk s) (br b K (Gx K (.go t e o) s)):=by
 obtain ⟨hT,hO,hA⟩:=hJ;have hl:=hT.cnt.2.2.2.2.1 (by omega);have hfit:=hT.fit.len;have hsp:=o3 hl;have htl:(t.t.take t.v.length).length=t.v.length:=by rw[List.length_take];omega
 have h19: ∀ x∈t.t, ¬x.op=19:=fun x hx=>by
  obtain ⟨i,hi,rfl⟩:=List.mem_iff_getElem.1 hx;have:=(hT.inner (D':=fun _=>True) (fun _ _=>trivial) (by omega) i hi (by omega) (List.replicate t.v.length 0) (by simp) fun _ _=>trivial).op;have:=hT.op;omega
 have h19l: ∀ x∈t.t.take t.v.length, ¬x.op=19:=fun x hx=>h19 x (List.mem_of_mem_take hx);have hnow: ∀ {p:Prop} [Decidable p],(t.op=9∨t.n=1↔p)→((t.op == 9 || t.n == 1)=true↔p):=fun {p} _ h=>by rw[←h];simp
 have hN:(t.op == 9 || t.n == 1)=true↔(t.op=9∨t.n=1):=by simp
 have hst: ∀ (s:bJ) (E:bq) (v:Int) (x:Vl),(if (t.op == 9 || t.n == 1)=true then iV s E v x else s)=if t.op=9∨t.n=1 then iV s E v x else s:=fun s E v x=>by simp only[hN]
 refine JT b K o tk s t e _ ho hl (by omega) h19
  (fun az i m s1 tk1=>DE tk1∧az.length=t.v.length∧fy lv (cK K) (dK K) C s1∧Al C 0 s1∧Grow (aR s (iW s.h (t.op == 7) az)) s1∧(∀ x∈m,j5 C s1 x)∧
   ∀ vs c s',Ev K (.rc (t.op == 9 || t.n == 1) (t.v.drop i) ((t.t.take t.v.length).drop i) (bM e t.v az) o) s1 vs c s'→Ev K (.rc (t.op == 9 || t.n == 1) t.v (t.t.take t.v.length) (bM e t.v az) o) (aR s (iW s.h (t.op == 7) az)) (if c=0 then m++vs else []) c s')
  (fun az ha=>⟨ht,ha,hM.iW,hA,Grow.refl _,by simp,fun vs c s' h=>?_⟩) ?_ ?_
 ·have:vs=if c=0 then []++vs else []:=by
   by_cases hc:c=0
   ·rw[if_pos hc];rfl
   ·rw[if_neg hc]
    exact h.none hc
  rw[←this];exact h
 ·rintro az i m s1 tk1 ⟨k1,k0,k2,k3,k4,k6,k5⟩ hi
  have hil:i < (t.t.take t.v.length).length:=by omega
  have e1:(t.t.take t.v.length)[i]=t.t[i]'(by omega):=List.getElem_take;have hT1:=(hT.Gf ho hsp htl (fun a ha=>ke ha) az k0 (kg (h:=s.h) (r:=t.op == 7)) _ (List.getElem_mem hil)).mono k4.2.1;rw[e1] at hT1
  refine (H C _ (bM e t.v az) o s1 tk1 hC (by have:=k4.2.2;have e:(aR s (iW s.h (t.op == 7) az)).fuel=s.fuel:=rfl;omega) k1 k2 ⟨hT1,hO.grow ((Grow.iW s _ az).trans k4) (Int.le_refl _),k3⟩).mono fun y Γ'=>br.mono fun x c s' tk' ⟨hE,ht'⟩=>⟨fun hc=>?_,fun hc=>?_⟩
  ·rw[aq hi,aq hil,e1] at k5
   have:=k5 _ _ _ (.Pj hE hc);rw[if_neg hc] at this;exact ⟨.GG ho hsp htl h19l k0 this hc,ht'⟩
  ·subst hc
   have hp:=hE.keeps hK hCd C k2 ⟨hT1,hO.grow ((Grow.iW s _ az).trans k4) (Int.le_refl _),k3⟩;rw[show C + Jd.up (.ev _ _ _)=C from by show C + 0=C;omega] at hp;have hx:=hp.2.2 x (List.mem_cons_self ..);have hgs:=Grow.tA s' (t.op=9∨t.n=1) (bM e t.v az) (t.v[i]'hi) x;refine ⟨fun _=>?_,ht',k0,hp.1.tA hx,?_,(k4.trans hE.grow).trans hgs,fun z hz=>?_,fun vs c2 s2 h3=>?_⟩
   ·obtain ⟨a,haz,hf⟩:=nI e k0 (t.v[i]'hi) (List.getElem_mem _)
    obtain ⟨y,r,hg⟩:=oy.1 (hE.grow.2.1 _ (k4.2.1 _ (kg a haz)));exact ⟨a,y,r,hf,hg⟩
   ·have h4:=hp.2.1
    have h3:=ue s' (bM e t.v az) (t.v[i]'hi) x;unfold Al at *
    split
    ·rw[h3.1,h3.2];exact h4
    ·exact h4
   ·rcases List.mem_append.1 hz with hz | hz
    ·exact (k6 z hz).grow (hE.grow.trans hgs) (Int.le_refl _)
    ·rw[List.mem_singleton.1 hz]
     exact hx.grow hgs (Int.le_refl _)
   ·rw[aq hi,aq hil,e1] at k5
    rw[←hst] at h3;by_cases hc2:c2=0
    ·subst hc2
     have:=k5 _ _ _ (.NB hE h3);rw[if_pos rfl] at this ⊢;rw[List.append_assoc];exact this
    ·have:=k5 _ _ _ (.Oz hE h3 hc2)
     rw[if_neg hc2] at this ⊢;exact this
 ·rintro az m s1 tk1 ⟨k1,k0,k2,k3,k4,k6,k5⟩ hml
  rw[List.drop_of_length_le (Nat.le_refl _),List.drop_of_length_le (by omega)] at k5;have hrc:=k5 _ _ _ .Pk;rw[if_pos rfl,List.append_nil] at hrc;refine ⟨fun _=>fun v hv=>?_,?_⟩
  ·obtain ⟨a,haz,hf⟩:=nI e k0 v hv
   obtain ⟨y,r,hg⟩:=oy.1 (k4.2.1 _ (kg a haz));exact ⟨a,hf,y,r,hg⟩
  have hgs:=Grow.sD s1 (t.op=7∧t.n=0) (bM e t.v az) t.v m
  have hal:Al C 0 (if t.op=7∧t.n=0 then dU s1 (bM e t.v az) t.v m else s1):=by
   have h3:=we (bM e t.v az) t.v m s1;unfold Al at *
   split
   ·rw[h3.1,h3.2];exact k3
   ·exact k3
  have hT':=hT.last (by omega) hsp htl (fun a hi=>hgs.2.1 a (k4.2.1 a (ke hi))) az k0 (fun a hi=>hgs.2.1 _ (k4.2.1 _ (kg a hi)))
  exact (H C _ (bM e t.v az) o (if t.op=7∧t.n=0 then dU s1 (bM e t.v az) t.v m else s1) tk1 hC (by have:=(k4.trans hgs).2.2;have e:(aR s (iW s.h (t.op == 7) az)).fuel=s.fuel:=rfl;omega) k1 (k2.sD k6) ⟨hT',hO.grow ((Grow.iW s _ az).trans (k4.trans hgs)) (Int.le_refl _),hal⟩).mono fun y Γ'=>br.mono fun x c s' tk' ⟨hE2,ht2⟩=>⟨.FM ho hsp htl h19l k0 hrc hE2,ht2⟩
theorem DA {t:aa} {e:bq} {o:List Vl} (hs:As t.op) {s:bJ} {vs:List Vl} {c:Int} {s':bJ} (h:Ev K (.ev t e o) s vs c s'): ∀ a,aL s'.h a=aL s.h a:=by
 intro a
 cases h with
 | Ns _=>rfl
 | ev h0 hnd hg=>
  unfold As at hs
  cases hg<;>first | rfl | (rw[aL]) | (exfalso;omega)
theorem Ar: ∀ {l:List aa} {e:bq} {o:List Vl},(∀ t∈l,As t.op)→ ∀ {s:bJ} {vs:List Vl} {c:Int} {s':bJ},Ev K (.all l e o) s vs c s'→ ∀ a,aL s'.h a=aL s.h a
 | [],e,o,_,s,vs,c,s',h=>fun a=>by cases h;rfl
 | t::l,e,o,hs,s,vs,c,s',h=>fun a=>by
  cases h with
  | yR h1 _=>exact DA (hs t (List.mem_cons_self ..)) h1 a
  | wB h1 h2=>rw[Ar (fun t ht=>hs t (List.mem_cons_of_mem _ ht)) h2 a];exact DA (hs t (List.mem_cons_self ..)) h1 a
  | yS h1 h2 _=>rw[Ar (fun t ht=>hs t (List.mem_cons_of_mem _ ht)) h2 a];exact DA (hs t (List.mem_cons_self ..)) h1 a
theorem Ek: ∀ l:List aa,(∀ x∈l,0≤x.n∧x.n < K.c.length)→ ∃ ks:List (bZ×Int),ks.length=l.length∧ ∀ i (h:i < l.length) (h':i < ks.length),K.c[l[i].n.toNat]?=some ks[i].1∧ks[i].2=l[i].n
 | [],_=>⟨[],rfl,fun i h=>absurd h (Nat.not_lt_zero _)⟩
 | x::l,hx=>by
  obtain ⟨ks,h1,h2⟩:=Ek l fun y hy=>hx y (List.mem_cons_of_mem _ hy);have hb:=hx x (List.mem_cons_self ..);refine ⟨(K.c[x.n.toNat]'(by omega),x.n)::ks,by rw[List.length_cons,List.length_cons,h1],fun i h h'=>?_⟩
  match i with
  | 0=>exact ⟨List.getElem?_eq_getElem (show x.n.toNat < K.c.length by omega),rfl⟩
  | i + 1=>exact h2 i (by simpa using h) (by simpa using h')
theorem EA: ∀ {ks:List (bZ×Int)} {az pz:List Nat} {h:Hp} {a:Nat},az.length=ks.length→pz.length=ks.length→(a∈az∨ ∃ q,aL h a=some (cg q,false)∧lM h (q,true))→ ∃ q,aL (e7 h ks az pz) a=some (cg q,false)∧lM (e7 h ks az pz) (q,true)
 | [],az,pz,h,a,hl,hp,hx=>by
  obtain rfl:=List.eq_nil_of_length_eq_zero hl;have e:e7 h [] [] pz=h:=by rw[e7];intros;simp_all
  rw[e];exact hx.elim (fun h=>by cases h) id
 | c::ks, [],pz,h,a,hl,_,_=>by simp at hl
 | c::ks,b::az, [],h,a,_,hl,_=>by simp at hl
 | c::ks,b::az,p::pz,h,a,hl,hp,hx=>by
  rw[e7];refine EA (by simpa using hl) (by simpa using hp) ?_;by_cases hba:b=a
  ·exact .inr ⟨p,by rw[aL,aL,if_pos hba],lf⟩
  ·rcases hx with hx | ⟨q,h1,h2⟩
   ·rcases List.mem_cons.1 hx with rfl | hx
    ·exact absurd rfl hba
    ·exact .inl hx
   ·exact .inr ⟨q,by rw[aL,aL,if_neg hba];exact h1,gd (gd h2)⟩
theorem Ml {vs:List Int} {l:List aa} {e:bq} {o:List Vl} {s:bJ} {ws:List Vl} {c:Int} {s':bJ} (h:Ev K (.cc vs l e o) s ws c s') (hl:l= []):s'=s:=by
 subst hl;cases h;rfl
theorem MU {now:Bool} {vs:List Int} {l:List aa} {e:bq} {o:List Vl} {s:bJ} (h1:vs= []) (h2:l= []):Ev K (.rc now vs l e o) s [] 0 s:=by
 subst h1;subst h2;exact .Pk
theorem N6 {n:Int} (hK: ∀ x∈K.k,x.ok 20002 0 fun _=>False) (hCd: ∀ c∈K.c, ∀ D n o,wU lv (cK K) (dK K) D (jg c n o)) (H:oD b K lv n) (C:Int) (hC:C≤900000) (t:aa) (e:bq) (o:List Vl) (ho:t.op=9) (h3:lv=3) (s:bJ) (tk:Tok) (hn:s.fuel≤n) (ht:DE tk) (hM:fy lv (cK K) (dK K) C s) (hJ:AD lv (cK K) (dK K) C (.go t e o) s):
  ah Tryz.prog 113 [.ptr b 0,.agg t.cells,bF e,fo o] (bw b K tk s) (br b K (Gx K (.go t e o) s)):=by
 obtain ⟨hT,hO,hA⟩:=hJ;have hl:=hT.cnt.2.2.2.2.1 (by omega);have hfit:=hT.fit.len;have hsp:=o3 hl;have htl:(t.t.take t.v.length).length=t.v.length:=by rw[List.length_take];omega
 have h19: ∀ i (h:i < t.v.length),(t.t[i]'(by omega)).op=19:=fun i hi=>by
  rw[hT.fix ho i hi (by omega)];unfold jf;rw[if_pos h3]
 have hgt: ∀ i (h:i < t.v.length),(t.t.take t.v.length)[i]'(by omega)=t.t[i]'(by omega):=fun i h=>List.getElem_take
 have hmem: ∀ x∈t.t.take t.v.length,x.op=19∧0≤x.n∧x.n < K.c.length:=fun x hx=>by
  obtain ⟨i,hi,rfl⟩:=List.mem_iff_getElem.1 hx;have h1:=h19 i (by omega);rw[←hgt i (by omega)] at h1;exact ⟨h1,(hT.inner (D':=fun _=>True) (fun _ _=>trivial) (by omega) i (by omega) (by omega) (List.replicate t.v.length 0) (by simp) fun _ _=>trivial).OQ (.inl (h19 i (by omega))) |> fun h=>by rw[hgt i (by omega)];exact h⟩
 obtain ⟨ks,hk1,hk2⟩:=Ek (K:=K) (t.t.take t.v.length) fun x hx=>(hmem x hx).2;have hkc:=Pb hCd ⟨hk1,hk2⟩;have hsim: ∀ i (h:i < t.v.length), ∀ y∈(t.t[i]'(by omega)).t,As y.op:=fun i hi=>((aa.vY t).1 (TE.fit hT).2.2).1 ho _ (List.getElem_mem _) (h19 i hi)
 refine JU b K o tk s t e _ ho hl (by omega) h19 ks (by omega) (fun i hi=>?_)
  (fun az pz i s1 tk1=>DE tk1∧az.length=t.v.length∧pz.length=t.v.length∧fy lv (cK K) (dK K) C s1∧Al C 0 s1∧Grow (aR s (e7 s.h ks az pz)) s1∧(∀ v∈t.v, ∃ a q,fc (bM e t.v az) v=some a∧aL s1.h a=some (cg q,false)∧lM s1.h (q,true))∧
   ∀ vs c s',Ev K (.cc (t.v.drop i) ((t.t.take t.v.length).drop i) (bM e t.v az) o) s1 vs c s'→Ev K (.cc t.v (t.t.take t.v.length) (bM e t.v az) o) (aR s (e7 s.h ks az pz)) vs c s')
  (fun az pz ha hp=>⟨ht,ha,hp,hM.e7 hkc,hA,Grow.refl _,?_,fun vs c s' h=>h⟩) ?_ ?_
 ·have h1:=(hmem _ (List.getElem_mem (show i < (t.t.take t.v.length).length by omega))).2
  have h2:=hk2 i (by omega) (by omega);simp only[hgt i hi] at h1 h2;exact ⟨h1,h2⟩
 ·intro v hv
  obtain ⟨a,haz,hf⟩:=nI e ha v hv;obtain ⟨q,h1,h2⟩:=EA (h:=s.h) (ks:=ks) (az:=az) (pz:=pz) (a:=a) (by omega) (by omega) (.inl haz);exact ⟨a,q,hf,h1,h2⟩
 ·rintro az pz i s1 tk1 ⟨k1,ka,kp,k2,k3,k4,kv,k5⟩ hi
  have hil:i < (t.t.take t.v.length).length:=by omega
  have hTc:=(hT.Gf (.inr ho) hsp htl (fun a ha=>kf (cs:=ks) (az:=az) (pz:=pz) ha) az ka (nQ (by omega) (by omega)) _ (List.getElem_mem hil)).mono k4.2.1;rw[hgt i hi] at hTc;have h19i:=h19 i hi
  have hJa:AD lv (cK K) (dK K) C (.all (t.t[i]'(by omega)).t (bM e t.v az) o) s1:=⟨fun x hx=>hTc.sub (by omega) hx,hO.grow ((Grow.e7 s ks az pz).trans k4) (Int.le_refl _),k3⟩
  have hfl:=hTc.fit.len.1;have hfu:s1.fuel≤n:=by have:=k4.2.2;have e:(aR s (e7 s.h ks az pz)).fuel=s.fuel:=rfl;omega
  refine (G8 hK hCd H C hC (t.t[i]'(by omega)).t (by omega) (bM e t.v az) o s1 tk1 hfu k1 k2 hJa).mono fun y Γ'=>uk.mono fun us c s' tk' ⟨hE,ht'⟩=>⟨fun hc=>?_,fun hc=>?_⟩
  ·rw[aq hi,aq hil,hgt i hi] at k5
   exact ⟨.GD ho hsp htl (by omega) (fun x hx=>(hmem x hx).1) (by omega) (by omega) ⟨hk1,hk2⟩ (k5 _ _ _ (.NR hE hc)) hc,ht'⟩
  ·subst hc
   have hp:=hE.keeps hK hCd C k2 hJa;rw[show C + Jd.up (.all _ _ _)=C from by show C + 0=C;omega] at hp;have hvl:=hE.len rfl;dsimp only at hvl;have hb:=hp.1.bd;obtain ⟨a,q,hf,hg,hq⟩:=kv _ (List.getElem_mem hi);have hg':aL s'.h a=some (cg q,false):=by rw[Ar (hsim i hi) hE];exact hg
   obtain ⟨f,hgp⟩:=ve.1 (hE.grow.2.1 _ hq);rw[aq hi,aq hil,hgt i hi] at k5;refine ⟨a,_,_,q,f,hf,hg',rfl,hgp,ht',ka,kp,hp.1.dL ⟨hp.2.2,by rw[hvl];omega⟩,hp.2.1,(k4.trans hE.grow).trans (Grow.dL _ _ _),fun v hv=>?_,fun vs c2 s2 h=>k5 _ _ _ (.Mk hE hf hg' rfl hgp h)⟩;obtain ⟨a,q,x1,x2,x3⟩:=kv v hv;refine ⟨a,q,x1,?_,Bn (hE.grow.2.1 _ x3)⟩;show aL (dL s'.h _ us) a=_;rw[ju,Ar (hsim i hi) hE];exact x2
 ·rintro az pz s1 tk1 ⟨k1,ka,kp,k2,k3,k4,kv,k5⟩
  rw[List.drop_of_length_le (Nat.le_refl _),List.drop_of_length_le (by omega)] at k5;have hcc:=k5 _ _ _ .O2;have hfu:s1.fuel≤n:=by have:=k4.2.2;have e:(aR s (e7 s.h ks az pz)).fuel=s.fuel:=rfl;omega
  have hT':=hT.last (by omega) hsp htl (fun a hi=>k4.2.1 a (kf hi)) az ka (fun a hi=>k4.2.1 _ (nQ (by omega) (by omega) a hi))
  refine (H C _ (bM e t.v az) o s1 tk1 hC hfu k1 k2 ⟨hT',hO.grow ((Grow.e7 s ks az pz).trans k4) (Int.le_refl _),k3⟩).mono fun y Γ'=>br.mono fun x c s' tk' ⟨hE,ht'⟩=>⟨?_,ht'⟩
  by_cases h0:0 < t.v.length
  ·exact .GC ho hsp htl (by omega) (fun x hx=>(hmem x hx).1) (by omega) (by omega) ⟨hk1,hk2⟩ hcc hE
  ·have hv0:t.v= []:=List.eq_nil_of_length_eq_zero (by omega)
   have hk0:ks= []:=List.eq_nil_of_length_eq_zero (by omega);have ha0:az= []:=List.eq_nil_of_length_eq_zero (by omega);have ht0:t.t.take t.v.length= []:=List.eq_nil_of_length_eq_zero (by omega);have e1:=Ml hcc ht0;have e2:e7 s.h ks az pz=s.h:=by rw[hk0,ha0];unfold e7;rfl
   have e3:iW s.h (t.op == 7) az=s.h:=by rw[ha0,iW]
   rw[e2] at e1
   have hrc:Ev K (.rc (t.op == 9 || t.n == 1) t.v (t.t.take t.v.length) (bM e t.v az) o) (aR s (iW s.h (t.op == 7) az)) [] 0 s1:=by
    rw[e3,e1];exact MU hv0 ht0
   refine .FM (.inr ho) hsp htl (fun x hx=>by rw[ht0] at hx;cases hx) ka hrc ?_;rw[if_neg (by omega)];exact hE
theorem HM (hK: ∀ x∈K.k,x.ok 20002 0 fun _=>False) (hCd: ∀ c∈K.c, ∀ D n o,wU lv (cK K) (dK K) D (jg c n o)): ∀ n:Nat,oD b K lv n:=by
 intro n
 induction n with
 | zero=>
  rintro C t e o s tk hC hn ht hM hJ;exact (HK b K o tk s t e hn).mono fun y Γ' hq=>br.of hq ⟨.Ns hn,ht⟩
 | succ n IH=>
  rintro C t e o s tk hC hn ht hM ⟨hT,hO,hA⟩;by_cases h0:s.fuel≤0
  ·exact (HK b K o tk s t e h0).mono fun y Γ' hq=>br.of hq ⟨.Ns h0,ht⟩
  have hfn:=(HK b K o tk ⟨0,s.out,s.alive,s.to,s.val,s.h⟩ t e (Int.le_refl 0)).1;refine ah.apart hfn fun hap=>?_;have hnd:=vu hap;have h0':0 < s.fuel:=by omega
  have hbd:=hM.bd;have hf:0 < s.fuel∧s.fuel≤1000000:=by omega
  have hML:=hM.less h0';have hAL:Al (C - 1) 0 (bf s):=by unfold Al at *; show (s.alive.length:Int)≤2 * (C - 1 - (s.fuel - 1)) + 0;omega
  have hOL:qF (C - 1) (bf s) o:=qF.up (C:=C) (C':=C - 1) (s:=s) (s':=bf s) ⟨Nat.le_refl _,fun _ h=>h,by show s.fuel - 1≤s.fuel;omega⟩ (by show C - s.fuel≤C - 1 - (s.fuel - 1);omega) hO
  have hJL:AD lv (cK K) (dK K) (C - 1) (.go t e o) (bf s):=⟨hT,hOL,hAL⟩
  have hnL:(bf s).fuel≤n:=by show s.fuel - 1≤n;omega
  have up: ∀ {R:Vl→Int→bJ→Tok→Prop},(∀ x c s' tk',R x c s' tk'→Gx K (.go t e o) (bf s) x c s' tk')→ ∀ y Γ',br b K R y Γ'→br b K (Gx K (.ev t e o) s) y Γ':=fun h y Γ'=>br.mono fun x c s' tk' hr=>⟨.ev h0' hnd (h _ _ _ _ hr).1,(h _ _ _ _ hr).2⟩
  have hc:=hT.cnt;rcases (by have:=hT.op;omega:t.op=0∨t.op=1∨t.op=3∨t.op=4∨(t.op=7∨t.op=9)∨t.op=8∨t.op=11∨t.op=13∨(t.op=2∨t.op=5∨t.op=6∨t.op=10∨t.op=12∨(14≤t.op∧t.op≤19)∨t.op=22)∨t.op=20∨t.op=21) with h | h | h | h | h | h | h | h | h | h | h
  ·have hcn:=hT.GB h
   refine (FJ b K o tk s t e hf h hcn).mono fun y Γ' hq=>br.of hq ⟨.ev h0' hnd (.GB h ?_),ht⟩;unfold cK at hcn;exact List.getElem?_eq_getElem (by omega)
  ·obtain ⟨a,hfd,hin⟩:=hT.ref (by omega)
   obtain ⟨y,r,hg⟩:=oy.1 hin;by_cases hu:r=true∧y.k=12
   ·obtain ⟨rfl,hu⟩:=hu
    exact (Ms b K o tk s t e hf h a hfd y hg hu).mono fun y Γ' hq=>br.of hq ⟨.ev h0' hnd (.wY h hfd hg hu),ht⟩
   ·exact (N0 b K o tk s t e hf h a hfd y r hg hu).mono fun y Γ' hq=>br.of hq ⟨.ev h0' hnd (.ref h hfd hg hu),ht⟩
  ·have h3:=hc.2.1 h
   have hsp:=Oj h3;have hs: ∀ i (hi:i < t.t.length),TE lv (cK K) (dK K) (lM s.h) t.t[i] e:=fun i hi=>hT.sub (by omega) (List.getElem_mem _)
   have hJ0:AD lv (cK K) (dK K) (C - 1) (.ev (t.t[0]'(by omega)) e o) (bf s):=⟨hs 0 (by omega),hOL,hAL⟩
   refine NY b K o tk s t e _ hf h h3 ((IH (C - 1) _ e o (bf s) tk (by omega) hnL ht hML hJ0).mono fun y Γ'=>br.mono fun x c s1 tk1 ⟨hE,ht1⟩=>?_);refine ⟨fun hc0=>⟨.ev h0' hnd (.HW h hsp hE hc0),ht1⟩,fun hc0 hx=>?_,fun hc0 hx=>?_⟩
   all_goals
    subst hc0;have hp:=hE.keeps hK hCd (C - 1) hML hJ0;rw[show C - 1 + Jd.up (.ev _ _ _)=C - 1 from by show C - 1 + 0=C - 1;omega] at hp;have hg:=hE.grow
   ·exact (IH (C - 1) _ e o s1 tk1 (by omega) (by have:=hg.2.2;omega) ht1 hp.1 ⟨(hs 2 (by omega)).mono hg.2.1,hOL.grow hg (Int.le_refl _),hp.2.1⟩).mono fun y Γ'=>br.mono fun x2 c2 s2 tk2 ⟨hE2,ht2⟩=>⟨.ev h0' hnd (.HX h hsp hE hx hE2),ht2⟩
   ·exact (IH (C - 1) _ e o s1 tk1 (by omega) (by have:=hg.2.2;omega) ht1 hp.1 ⟨(hs 1 (by omega)).mono hg.2.1,hOL.grow hg (Int.le_refl _),hp.2.1⟩).mono fun y Γ'=>br.mono fun x2 c2 s2 tk2 ⟨hE2,ht2⟩=>⟨.ev h0' hnd (.HY h hsp hE hx hE2),ht2⟩
  ·have h1:=hc.1 (by omega)
   have hsp:=Oi h1;refine (J3 b K o tk s t e hf h h1).yT.mono fun y Γ' ⟨⟨a,e1,e2⟩,hap⟩=>br.of ⟨e1,e2⟩ ⟨?_,ht⟩;rw[e2] at hap;exact .ev h0' hnd (.lam (s:=bf s) h hsp (vu hap))
  ·by_cases h93:t.op=9∧lv=3
   ·exact (HJ b K o tk s t e _ hf (by omega) (N6 hK hCd IH (C - 1) (by omega) t e o h93.1 h93.2 (bf s) tk hnL ht hML hJL)).mono (up fun _ _ _ _ h=>h)
   exact (HJ b K o tk s t e _ hf (by omega) (OB hK hCd IH (C - 1) (by omega) t e o h (fun h1 h2=>h93 ⟨h1,h2⟩) (bf s) tk hnL ht hML hJL)).mono (up fun _ _ _ _ h=>h)
  ·exact (HJ b K o tk s t e _ hf (by omega) (Oh hK hCd IH (C - 1) (by omega) t e o h (bf s) tk hnL ht hML hJL)).mono (up fun _ _ _ _ h=>h)
  ·exact (NZ b K o tk s t e hf h).mono fun y Γ' hq=>br.of hq ⟨.ev h0' hnd (.prf h),ht⟩
  ·exact (N2 b K o tk s t e hf h).mono fun y Γ' hq=>br.of hq ⟨.ev h0' hnd (.JF h),ht⟩
  ·have hJa:AD lv (cK K) (dK K) (C - 1) (.all t.t e o) (bf s):=⟨fun x hx=>hT.sub (by omega) hx,hOL,hAL⟩
   have hfit:=hT.fit.len;refine (N1 b K o tk s t e (Gx K (.go t e o) (bf s)) hf h ((G8 hK hCd IH (C - 1) (by omega) t.t (by omega) e o (bf s) tk hnL ht hML hJa).mono fun y Γ'=>uk.mono fun vs c s1 tk1 ⟨hE,ht1⟩=>?_)).mono (up fun _ _ _ _ h=>h);refine ⟨fun hc0=>⟨.Jj h hE hc0,ht1⟩,fun hc0=>?_⟩;subst hc0;have hp:=hE.keeps hK hCd (C - 1) hML hJa;rw[show C - 1 + Jd.up (.all _ _ _)=C - 1 from by show C - 1 + 0=C - 1;omega] at hp;have hg:=hE.grow;have hvl:=hE.len rfl;dsimp only at hvl;have hb:=hp.1.bd
   exact (Jm IH (C - 1) (by omega) t e h vs hvl s1 tk1 (by have:=hg.2.2;omega) ht1 hp.1 ⟨hT.mono hg.2.1,hp.2.2,by rw[hvl];omega,hp.2.1⟩).mono fun y Γ'=>br.mono fun x c s2 tk2 ⟨hE2,ht2⟩=>⟨.st h hE hE2,ht2⟩
  ·have hn0:=hT.GF h
   by_cases hlt:t.n < o.length
   ·refine (J2 b K o tk s t e hf h ⟨hn0,hlt⟩).mono fun y Γ' hq=>br.of hq ⟨.ev h0' hnd (.GF h ?_),ht⟩
    exact List.getElem?_eq_getElem (by omega)
   ·exact (HL b K o tk s t e hf h (by omega) (by have:=hO.2;omega)).mono fun y Γ' hq=>br.of hq ⟨.ev h0' hnd (.wM h (by omega)),ht⟩
  ·have hcn:=hT.OQ (.inr (.inl h))
   unfold dK at hcn;have hcd:K.c[t.n.toNat]?=some (K.c[t.n.toNat]'(by omega)):=List.getElem?_eq_getElem (by omega);refine (J4 b K o tk s t e hf h _ hcn hcd).yT.mono fun y Γ' ⟨⟨a,e1,e2⟩,hap⟩=>br.of ⟨e1,e2⟩ ⟨?_,ht⟩;rw[e2] at hap;exact .ev h0' hnd (.GJ (s:=bf s) h hcd (vu hap))
end
def O7:PV→PV→Option Bool
 | .int k a,.int k' b=>match FR k k' with
  | true=>some (a == b)
  | false=>none
 | .bool a,.bool b=>some (a == b)
 | .str a,.str b=>some (a == b)
 | _,_=>none
def CY:List PV→List PV→Option Bool
 | [], []=>some true
 | x::xs,y::ys=>match O7 x y,CY xs ys with
  | some a,some b=>some (a && b)
  | _,_=>none
 | _,_=>none
def H8:Option TypeDesc→PV→Bool
 | some (.int _),.int _ _=>true
 | some .bool,.bool _=>true
 | some .string,.str _=>true
 | _,_=>false
def nJ (P:Program):List Field→List PV→Nat→Bool
 | [], [],_=>true
 | f::fs,x::xs,i=>(f.name != "_") && (f.offset == i) && H8 (P.underlying f.type) x && nJ P fs xs (i + 1)
 | _,_,_=>false
section
variable {P:Program} {w:World} {F:Fz}
theorem JZ {x y:PV} {v u:Value} {q:Bool} {t:TypeId} (h:O7 x y=some q) (hv:ax F x v) (hu:ax F y u) (ht:H8 (P.underlying t) x=true) (d:Nat):(Op.equalIn (d + 1) t v u).run P w=.ok q w∧(isAgg t).run P w=.ok false w:=by
 unfold O7 at h
 split at h
 ·rename_i k a k' b
  split at h
  ·rename_i hk
   have hk:=Bm.1 hk;subst hk;cases h;rw[cm hv,cm hu]
   cases hp:P.underlying t with
   | none=>rw[hp] at ht;cases ht
   | some td=>
    rw[hp] at ht;cases td<;>first | (cases ht;done) | skip
    exact ⟨run_equalIn_int w d _ _ _ _ _ hp,by simp[isAgg,run_underlying hp]⟩
  ·cases h
 ·rename_i a b
  cases h;rw[cJ hv,cJ hu]
  cases hp:P.underlying t with
  | none=>rw[hp] at ht;cases ht
  | some td=>
   rw[hp] at ht;cases td<;>first | (cases ht;done) | skip
   exact ⟨run_equalIn_bool' w d _ _ _ hp,by simp[isAgg,run_underlying hp]⟩
 ·rename_i a b
  cases h;rw[gX hv,gX hu]
  cases hp:P.underlying t with
  | none=>rw[hp] at ht;cases ht
  | some td=>
   rw[hp] at ht;cases td<;>first | (cases ht;done) | skip
   refine ⟨?_,by simp[isAgg,run_underlying hp]⟩;rw[run_equalIn_string w d _ _ _ hp,kB,kB]
 ·cases h
theorem A8 (d:Nat): ∀ (fs:List Field) (xs ys:List PV) (vs us pv pu:List Value) (q:Bool),nJ P fs xs pv.length=true→pu.length=pv.length→aQ F xs vs→aQ F ys us→CY xs ys=some q→
  (Op.eqFields (d + 1) (pv++vs).toArray (pu++us).toArray fs).run P w=.ok q w
 | [], [],ys,vs,us,pv,pu,q,_,_,hv,hu,h=>by
  cases ys with
  | nil=>simp only[CY,Option.some.injEq] at h;subst h;simp[Op.eqFields]
  | cons y ys=>simp[CY] at h
 | [],x::xs,_,_,_,_,_,_,hf,_,_,_,_=>by simp[nJ] at hf
 | f::fs, [],_,_,_,_,_,_,hf,_,_,_,_=>by simp[nJ] at hf
 | f::fs,x::xs, [],_,_,_,_,_,_,_,_,_,h=>by simp[CY] at h
 | f::fs,x::xs,y::ys, [],_,_,_,_,_,_,hv,_,_=>by simp only[aQ] at hv
 | f::fs,x::xs,y::ys,v::vs, [],_,_,_,_,_,_,hu,_=>by simp only[aQ] at hu
 | f::fs,x::xs,y::ys,v::vs,u::us,pv,pu,q,hf,hl,hv,hu,h=>by
  simp only[nJ,Bool.and_eq_true,bne_iff_ne,beq_iff_eq] at hf;obtain ⟨⟨⟨hn,ho⟩,ht⟩,hf⟩:=hf;simp only[aQ] at hv hu;unfold CY at h
  split at h
  ·rename_i a b ha hb
   cases h;obtain ⟨g1,g2⟩:=JZ (w:=w) ha hv.1.2 hu.1.2 ht d
   have p1:(part f.type (pv++v::vs).toArray f.offset).run P w=.ok v w:=by
    simp[part,g2,ho,Result.andThen]
   have p2:(part f.type (pu++u::us).toArray f.offset).run P w=.ok u w:=by
    simp[part,g2,ho, ←hl,Result.andThen]
   have ih:=A8 d fs xs ys vs us (pv++ [v]) (pu++ [u]) b (by simpa using hf) (by simp[hl]) hv.2 hu.2 hb;rw[List.append_assoc,List.append_assoc] at ih;simp only[Op.eqFields,hn,ne_eq,not_false_eq_true,if_true,Sem.run_bind,p1,p2,g1,Result.andThen_ok];cases a
   ·simp
   ·simpa using ih
  ·cases h
end
theorem qJ.of {P:Program} {t:TypeId} {xs ys:List PV} {K:Bool→Prop} (q:Bool) (hq:CY xs ys=some q) (h:K q) (h1:P.underlying t=some (.struct (P.fieldsOf t)):=by kernel_rfl) (h2:P.stoodInHeld t=false:=by kernel_rfl) (h3:P.eqGuardType P.depth t=false:=by kernel_rfl)
  (h4:nJ P (P.fieldsOf t).toList xs 0=true:=by kernel_rfl):qJ P t xs ys K:=by
 refine ⟨q,fun F vs us w hv hu=>⟨fun x y=>run_eqGuard_agg w .eql t x y _ _ h3,?_⟩,h⟩;rw[run_eql_struct,show (10000:Nat)=9998 + 1 + 1 from rfl,run_equalIn_agg w 9999 t _ _ h1 h2];have:=A8 (P:=P) (w:=w) 9998 (P.fieldsOf t).toList xs ys vs us [] [] q h4 rfl hv hu hq;simp only[List.nil_append] at this;rw[this];rfl
mutual
theorem Datum.J8: ∀ (d:Datum) (n:Int),0≤d.oe n→(d.sz:Int) + d.oe n=n
 | .mk _ _ _ _ l,n,h=>by
  rw[Datum.oe] at h ⊢;rw[Datum.sz];have:=Datum.uV l (n - 1) h;omega
theorem Datum.uV: ∀ (l:List Datum) (n:Int),0≤Datum.eL l n→(Datum.w6 l:Int) + Datum.eL l n=n
 | [],n,h=>by rw[Datum.w6,Datum.eL];omega
 | x::xs,n,h=>by
  rw[Datum.eL] at h ⊢;rw[Datum.w6]
  split at h
  ·rename_i hn
   rw[if_pos hn];have h1:=Datum.J8 x n;have h2:=Datum.uV xs (x.oe n) h
   have:0≤x.oe n:=by
    have h3:=Datum.n7 xs;omega
   have:=h1 this;omega
  ·omega
end
theorem Jw (d:Datum):(cN d).fW.1.length≤d.sz:=by
 induction d using Datum.ind with
 | h d ih=>
  have hz:=d.Ca;rw[oa];by_cases hk:d.kind=6
  ·by_cases h2:d.l.length=2
   ·rw[Vl.lg (.mk d.kind d.n d.d d.s (d.l.map cN) none none) hk (by show (d.l.map cN).length=2;rw[List.length_map];exact h2)]
    obtain ⟨a,c,e⟩:=Og h2;have h1:=ih c (by rw[e];simp);have hs:Datum.w6 d.l=a.sz + (c.sz + 0):=by rw[e];rfl
    have e2:(Vl.mk d.kind d.n d.d d.s (d.l.map cN) none none).l= [cN a,cN c]:=by show d.l.map cN=_;rw[e];rfl
    simp only[e2,List.length_cons,List.getElem_cons_succ,List.getElem_cons_zero];have:=a.Ca;omega
   ·have:(Vl.mk d.kind d.n d.d d.s (d.l.map cN) none none).fW.1= []:=by
     rw[Vl.fW,if_pos hk];have hl: ¬(d.l.map cN).length=2:=by rw[List.length_map];exact h2
     match d.l.map cN,hl with
     | [],_=>rfl
     | [_],_=>rfl
     | [_,_],hl=>exact absurd rfl hl
     | _::_::_::_,_=>rfl
    rw[this];exact Nat.zero_le _
  ·rw[Vl.iN (.mk d.kind d.n d.d d.s (d.l.map cN) none none) hk]
   exact Nat.zero_le _
theorem E6 {N A:Int} {D:Nat×Bool→Prop} (d:Datum): ∀ deep:Int,d.cM deep=true→d.bp≤1000000000→(d.sz:Int)≤N→(cN d).ok N A D:=by
 induction d using Datum.ind with
 | h d ih=>
  intro deep h hb hN;have hz:=d.Ca;have hbe:=d.cX;have hsl:=Datum.n7 d.l;have hit:=Jw d;have h':=h;rw[Datum.nZ,Bool.and_eq_true] at h;have h1:=h.1;unfold gN at h1;simp only[Bool.not_eq_true',Bool.or_eq_false_iff,decide_eq_false_iff_not] at h1;have hk:=h1.1.1.1.1.1
  have key: ∀ l:List Datum,(∀ y∈l, ∀ deep:Int,y.cM deep=true→y.bp≤1000000000→(y.sz:Int)≤N→(cN y).ok N A D)→ ∀ deep,Datum.eZ l deep=true→Datum.aD l≤1000000000→(Datum.w6 l:Int)≤N→ ∀ v∈l.map cN,v.ok N A D:=by
   intro l
   induction l with
   | nil=>intro _ _ _ _ _ v hv;cases hv
   | cons x l ihl=>
    intro hy deep h hb hs v hv;rw[Datum.eZ,Bool.and_eq_true] at h;rw[Datum.aD] at hb;rw[Datum.w6] at hs;rw[List.map_cons] at hv;rcases List.mem_cons.1 hv with rfl | hv
    ·exact hy x (by simp) deep h.1 (by omega) (by omega)
    ·exact ihl (fun y hm=>hy y (List.mem_cons_of_mem _ hm)) deep h.2 (by omega) (by omega) v hv
  have hparts:=key d.l ih _ h.2 (by omega) (by omega);rw[Vl.ok_eq];rw[oa] at hit ⊢;refine ⟨⟨?_,by omega,?_⟩,fun h=>?_,fun h=>?_,fun h=>?_,hparts⟩
  ·rw[Vl.jU]
   refine ⟨?_,?_,?_,fun y hy=>(hparts y hy).tx⟩
   ·show 0≤d.kind∧d.kind≤12
    omega
   ·intro h6
    have h6':d.kind=6:=h6;have h7:=h1.2.1;rw[h6'] at h7;show (d.l.map cN).length=2;rw[List.length_map];simp at h7;omega
   ·show d.s.length≤1000000000
    omega
  ·show ((d.l.map cN).length:Int)≤N
   rw[List.length_map];omega
  ·have h':d.kind=8:=h
   omega
  ·have h':d.kind=11:=h
   omega
  ·have h':d.kind=10:=h
   omega
def Fit (p:Prog) (lv:Int):Prop:=dV p lv∧Datum.aD p.consts≤1000000000∧Datum.w6 p.consts≤2000∧p.body.vars.length≤100000000∧p.body.GI
theorem Fit.consts {p:Prog} {lv:Int} (h:Fit p lv): ∀ x∈p.consts.map cN,x.ok 20002 0 fun _=>False:=fun x hx=>by
 obtain ⟨d,hd,rfl⟩:=List.mem_map.1 hx;have h1:=Datum.js hd;have h2:=Datum.cU hd;have h3:=h.2.1;have h4:=h.2.2.1;exact E6 d 0 (h.1.2.1 d hd) (by omega) (by omega)
def pK (p:Prog):KC:=⟨p.consts.map cN, []⟩
theorem KS (p:Prog) (lv:Int) (h:Fit p lv) (fuel:Int) (hf:0≤fuel∧fuel≤10000):
  ah Tryz.prog 29 [.agg p.cells,.int .i64 fuel] [] (fun y Γ'=> ∃ x c s',Ev (pK p) (.ev p.body [] []) (tq fuel) [x] c s'∧y=.agg [.str s'.out,.int .i64 c,.str (rK x c s')]∧Γ'= []):=by
 have hlc:=Datum.n7 p.consts;have h3:=h.2.1;have h4:=h.2.2.1;refine L0 p (fun d hd=>by have:=Datum.js hd;omega) (by omega) fuel _ fun b tk h1 h2=>?_
 have hM:fy lv (cK (pK p)) (dK (pK p)) 50000 (tq fuel):=⟨hf.1,by show fuel + 20002≤50000;omega,nR (by show 0≤50000 - fuel;omega) (.inl rfl),fun a x r hx=>(by rw[show (tq fuel).h= [] from rfl,aL] at hx;cases hx),fun q f hx=>(by rw[show (tq fuel).h= [] from rfl,aY] at hx;cases hx),by show ((0:Nat):Int)≤1001 * (50000 - fuel);omega⟩
 have hJ:AD lv (cK (pK p)) (dK (pK p)) 50000 (.ev p.body [] []) (tq fuel):=⟨⟨false, [],0,by unfold cK dK pK;dsimp only;rw[List.length_map];exact h.1.2.2.1,fun v hv=>absurd hv (List.not_mem_nil),h.1.2.2.2.1,h.2.2.2⟩,⟨fun x hx=>(by cases hx),by show (0:Int)≤50000 - fuel;omega⟩,by show ((0:Nat):Int)≤2 * (50000 - fuel) + 0;omega⟩
 refine (HM (K:=pK p) h.consts (fun c hc=>by cases hc) 10000 50000 p.body [] [] (tq fuel) tk (by decide) (by show fuel≤((10000:Nat):Int);omega) ⟨h1,h2⟩ hM hJ).mono fun y Γ'=>br.mono fun x c s' tk' ⟨hE,_⟩=>?_;have hp:=hE.keeps (K:=pK p) h.consts (fun c hc=>by cases hc) 50000 hM hJ;exact ⟨fun _=>(hp.2.2 x (List.mem_cons_self ..)).tx,fun _=>hp.1.vl.tx,hE⟩
def mK (m:qI):KC:=⟨m.consts.map cN,m.codes⟩
structure Cs (m:qI):Prop where
 co: ∀ d∈m.consts,d.cM 0=true
 bu:Datum.aD m.consts≤1000000000
 sz:Datum.w6 m.consts≤2000
 bo:aa.lC 3 m.consts.length m.codes.length false m.body [] 0
 fi:m.body.fit
 cd: ∀ c∈m.codes,(c.rest=true→1≤c.v.length)∧aa.lC 3 m.consts.length m.codes.length true c.body c.v 0∧c.body.fit∧c.v.length≤100000000
theorem Cs.consts {m:qI} (h:Cs m): ∀ x∈m.consts.map cN,x.ok 20002 0 fun _=>False:=fun x hx=>by
 obtain ⟨d,hd,rfl⟩:=List.mem_map.1 hx;have h1:=Datum.js hd;have h2:=Datum.cU hd;have h3:=h.bu;have h4:=h.sz;exact E6 d 0 (h.co d hd) (by omega) (by omega)
theorem Cs.codes {m:qI} (h:Cs m): ∀ c∈(mK m).c, ∀ D n o,wU 3 (cK (mK m)) (dK (mK m)) D (jg c n o):=fun c hc D n o=>by
 obtain ⟨h1,h2,h3,h4⟩:=h.cd c hc;refine wU.code h1 ?_ h3 h4;unfold cK dK mK;dsimp only;rw[List.length_map];exact h2
theorem IY (p:qI) (h:Cs p) (fuel:Int) (hf:0≤fuel∧fuel≤10000):
  ah Tryz.prog 36 [.agg p.cells,.int .i64 fuel] [] (fun y Γ'=> ∃ x c s',Ev (mK p) (.ev p.body [] []) (tq fuel) [x] c s'∧y=.agg [.str s'.out,.int .i64 c,.str (rK x c s')]∧Γ'= []):=by
 have hlc:=Datum.n7 p.consts;have h3:=h.bu;have h4:=h.sz;refine JL p (fun d hd=>by have:=Datum.js hd;omega) (by omega) fuel _ fun b tk h1 h2=>?_
 have hM:fy 3 (cK (mK p)) (dK (mK p)) 50000 (tq fuel):=⟨hf.1,by show fuel + 20002≤50000;omega,nR (by show 0≤50000 - fuel;omega) (.inl rfl),fun a x r hx=>(by rw[show (tq fuel).h= [] from rfl,aL] at hx;cases hx),fun q f hx=>(by rw[show (tq fuel).h= [] from rfl,aY] at hx;cases hx),by show ((0:Nat):Int)≤1001 * (50000 - fuel);omega⟩
 have hJ:AD 3 (cK (mK p)) (dK (mK p)) 50000 (.ev p.body [] []) (tq fuel):=⟨⟨false, [],0,by unfold cK dK mK;dsimp only;rw[List.length_map];exact h.bo,fun v hv=>absurd hv (List.not_mem_nil),h.fi⟩,⟨fun x hx=>(by cases hx),by show (0:Int)≤50000 - fuel;omega⟩,by show ((0:Nat):Int)≤2 * (50000 - fuel) + 0;omega⟩
 refine (HM (K:=mK p) h.consts h.codes 10000 50000 p.body [] [] (tq fuel) tk (by decide) (by show fuel≤((10000:Nat):Int);omega) ⟨h1,h2⟩ hM hJ).mono fun y Γ'=>br.mono fun x c s' tk' ⟨hE,_⟩=>?_;have hp:=hE.keeps (K:=mK p) h.consts h.codes 50000 hM hJ;exact ⟨fun _=>(hp.2.2 x (List.mem_cons_self ..)).tx,fun _=>hp.1.vl.tx,hE⟩
theorem OD {a b c a' b' c':_} {K:Bool→Prop} (h:K (a == a' && (b == b' && (c == c' && true)))):qJ Tryz.prog 68 [.str a,.int .i64 b,.str c] [.str a',.int .i64 b',.str c'] K:=
 qJ.of _ rfl h
theorem FY (p:Prog) (q:qI) (lv:Int) (h:Fit p lv) (h':Cs q) (fuel:Int) (hf:0≤fuel∧fuel≤1023)
  (hS: ∀ x c s' x' c' t',Ev (pK p) (.ev p.body [] []) (tq fuel) [x] c s'→Ev (mK q) (.ev q.body [] []) (tq (8 * fuel)) [x'] c' t'→c≠8→c'≠8→c'=c∧t'.out=s'.out∧rK x' c' t'=rK x c s'):
  ah Tryz.prog 21 [.agg p.cells,.agg q.cells,.int .i64 fuel] [] (fun y Γ'=>y=.bool true∧Γ'= []):=by
 have r1:=KS p lv h fuel (by omega);have r2:=IY q h' (8 * fuel) (by omega);refine ah.ai aj Tryz.func21 rfl rfl (n:=29) rfl rfl ?_
 conv=>whnf
 repeat' (first|((first|refine aM ?_|intro _);conv=>whnf)|(refine zX (fun hc=>?_) (fun hc=>?_)<;>(try simp only[SY] at hc)<;>omega))
 refine au.go (Γ1:= []) r1 (bU.refl _) ?_;rintro _ _ ⟨x,c,s',hE,rfl,rfl⟩
 conv=>whnf
 repeat' (first|((first|refine aM ?_|refine aF ?_|intro _);conv=>whnf)|(refine zX (fun hc=>?_) (fun hc=>?_)<;>(try simp only[SY] at hc)<;>omega))
 refine au.go (Γ1:= []) r2 (bU.refl _) ?_;rintro _ _ ⟨x',c',t',hE',rfl,rfl⟩
 conv=>whnf
 repeat' (first|((first|(((apply zY;intro hg));first|exact tB|((conv=>whnf);(repeat ((first|refine OD ?_|refine aH ?_);conv=>whnf));exact pZ))|refine aM ?_|refine aF ?_|intro _|refine zG ?_);conv=>whnf)|(refine zX (fun hc=>?_) (fun hc=>?_)<;>(try simp only[SY] at hc)<;>omega))
 refine an.gen (y:=.bool true) (Γ':= []) (Wk.bool ?_) ⟨rfl,rfl⟩;by_cases h8:c=8
 ·simp[h8]
 by_cases h8':c'=8
 ·simp[h8']
 obtain ⟨e1,e2,e3⟩:=hS x c s' x' c' t' hE hE' h8 h8';rw[e3,e2,e1];simp
abbrev P7 (m:qI):List PV:= [.sl 5 (m.consts.map Datum.pv) none,.sl 6 (m.codes.map bZ.pv) none,.int .i64 m.body.op,.int .i64 m.body.n,.sl 1 (m.body.v.map (PV.int .i64)) none,.sl 4 (m.body.t.map aa.pv) none]
def vB (m:qI):Option (Int×List Int):=if (m.consts.all fun d=>d.ej 0)=true then LN (m.body.oH 3 m.consts.length m.codes.length false [] 0 0 []) (vA m.consts.length m.codes.length m.codes) else none
theorem Ik (m:qI):vv m=if (vB m).isSome=true then 0 else 5:=by
 unfold vv vB;cases h:m.consts.all fun d=>d.ej 0<;>simp
theorem uE (m:qI) (hb:m.body.bp + bC m.codes≤1000000000) (hl:m.consts.length≤1000000000) (hk:m.codes.length≤1000000000):ay Tryz.prog 34 [.agg m.cells] (.int .i64 (vv m)):=by
 rw[Ik];refine ah.ai aj Tryz.func34 rfl rfl (n:=64) rfl rfl ?_
 conv=>whnf
 repeat' (first|refine cW ?_|((first|refine pC (pV _) wR ?_|intro _);conv=>whnf)|(refine zX (fun hc=>?_) (fun hc=>?_)<;>(try simp only[SY] at hc)<;>omega))
 refine eP.ways (fun hg=>?_) (fun hg=>?_);rotate_left
 ·have hmn:vB m=none:=by unfold vB;rw[if_neg (by simp only[Bool.not_not] at hg;rw[hg];simp)]
  conv=>whnf
  skip
  exact an.pure (Wk.int (by rw[hmn];rfl))
 ·conv=>whnf
  conv=>whnf
  repeat (first|refine kM ?_|((intro _);conv=>whnf))
  rename_i b1 l1 l2 r1 b2 r2;have hall:(m.consts.all fun d=>d.ej 0)=true:=by simpa using hg
  have hm:vB m=LN (m.body.oH 3 m.consts.length m.codes.length false [] 0 0 []) (vA m.consts.length m.codes.length m.codes):=by unfold vB;rw[if_pos hall]
  have hcall:=vR b2 r1 r2 3 m.consts.length m.codes.length false m.body [] 0 0 [] [] [] (by omega) (by omega) (by omega) (by omega) (by simp) (by omega);rw[←vW] at hcall;refine au.Oa (aA.box (b:=b2) (cs:= [.int .i64 3,.int .i64 m.consts.length,.int .i64 m.codes.length,.bfalse,.int .i64 0,.mp r1]) (cs':=tc 3 m.consts.length m.codes.length 0 false r1) wA) hcall (bU.refl _) ?_;rintro _ _ ⟨rfl,sz,mb,ms,pb,ps,rfl,hs2⟩
  conv=>whnf
  repeat' (first|refine cW ?_|((intro _);conv=>whnf)|(refine zX (fun hc=>?_) (fun hc=>?_)<;>(try simp only[SY] at hc)<;>(conv=>whnf)))
  ·rw[Option.isSome_eq_false_iff,Option.isNone_iff_eq_none] at hc
   exact an.pure (Wk.int (by rw[hm,hc];rfl))
  ·obtain ⟨⟨s1,bd1⟩,e⟩:=Option.isSome_iff_exists.mp hc
   obtain ⟨rfl,rfl,rfl⟩:=hs2 s1 bd1 e;have hbd:=aa.y5 _ _ _ _ _ _ _ _ _ _ _ e
   refine aI.over [2,5,6,34,35,36,37,38,39,40,41,42,43,44,45,46,47,48,49,50,51,52,53,54,55,56,57,58,59,60,61,62,63] (fun (x:Nat×Int×List Int×List (Int×Value))=> [(34,.int .i64 x.1)])
    (fun (x:Nat×Int×List Int×List (Int×Value))=> [.box b2 (tc 3 m.consts.length m.codes.length x.2.1 true r1),.mp r1 (.int .i64) (bT x.2.2.1) x.2.2.2,.box b1 (P7 m)])
    (fun | (i,sz,bd,pb)=>i≤m.codes.length∧0≤sz∧sz≤20000∧vB m=vA m.consts.length m.codes.length (m.codes.drop i) sz bd) (fun | (i,_)=>m.codes.length - i) (0,sz,bd1,pb)
    ⟨by simp,by omega,hbd.2.1,by rw[hm,e];rfl⟩ wA ?_
   rintro ⟨i,sz,bd,pb⟩ ⟨hi,hz0,hz1,ht⟩;dsimp only at hi hz0 hz1 ht⊢
   conv=>whnf
   repeat' (first|refine cW ?_|((intro _);conv=>whnf)|(refine zX (fun hc=>?_) (fun hc=>?_)<;>(try simp only[SY] at hc)<;>(conv=>whnf)))
   ·rename_i b4 r4
    have hlt:i < m.codes.length:=by omega
    rw[aq hlt,vA] at ht;have hbm:m.codes[i].bp≤bC m.codes:=lI (List.getElem_mem hlt);have hbk:m.codes[i].bp=m.codes[i].v.length + m.codes[i].body.bp:=rfl;refine eP.ways (fun hg=>?_) (fun hg=>?_)
    ·have hr1: ¬(m.codes[i].rest=true∧m.codes[i].v= []):=by
      rintro ⟨e1,e2⟩;rw[e1,e2] at hg;simp at hg
     rw[if_neg hr1] at ht
     conv=>whnf
     repeat (refine kM ?_)
     have hbc:=uA b2 r1 r4 3 m.consts.length m.codes.length sz true m.codes[i].v bd [] pb [];rw[←vW] at hbc;refine au.go hbc (bU.refl _) ?_;rintro _ _ ⟨rfl,pb3,mb,ms2,rfl,hb3⟩
     conv=>whnf
     repeat' (first|refine cW ?_|(refine zX (fun hc=>?_) (fun hc=>?_)<;>(try simp only[SY] at hc)<;>omega))
     refine eP.ways (fun hg=>?_) (fun hg=>?_)
     ·have hb1:(bH m.codes[i].v bd).1=true:=by simpa using hg
      obtain ⟨rfl,rfl⟩:=hb3 hb1;rw[if_pos hb1] at ht
      conv=>whnf
      repeat (refine kM ?_)
      rw[List.nil_append];refine au.go (vR b2 r1 r4 3 m.consts.length m.codes.length true m.codes[i].body m.codes[i].v 0 sz (bd++m.codes[i].v) pb3 [] (by omega) (by omega) (by omega) (by omega) (by intro x h;simp[h]) (by omega)) (bU.refl _) ?_;rintro _ _ ⟨rfl,sz5,mb5,ms5,pb5,ps5,rfl,hs5⟩
      conv=>whnf
      repeat' (first|refine cW ?_|(refine zX (fun hc=>?_) (fun hc=>?_)<;>(try simp only[SY] at hc)<;>(conv=>whnf)))
      ·have hn:=hc
       rw[Option.isSome_eq_false_iff,Option.isNone_iff_eq_none] at hn;exact an.pure (Wk.int (by rw[ht,hn];rfl))
      ·obtain ⟨⟨s6,b6⟩,e6⟩:=Option.isSome_iff_exists.mp hc
       obtain ⟨rfl,rfl,rfl⟩:=hs5 s6 b6 e6;have hbd6:=aa.y5 _ _ _ _ _ _ _ _ _ _ _ e6;rw[e6] at ht;exact aJ (i + 1,sz5,b6,pb5) ⟨by show i + 1≤_;omega,by show (0:Int)≤sz5;omega,hbd6.2.1,ht⟩ (by show m.codes.length - (i + 1) < m.codes.length - i;omega) wA
     ·have hb1:(bH m.codes[i].v bd).1=false:=by simpa using hg
      rw[if_neg (by rw[hb1];simp)] at ht
      conv=>whnf
      skip
      exact an.pure (Wk.int (by rw[ht];rfl))
    ·have hr1:m.codes[i].rest=true∧m.codes[i].v= []:=by
      simp at hg;exact ⟨hg.1,hg.2⟩
     rw[if_pos hr1] at ht
     conv=>whnf
     skip
     exact an.pure (Wk.int (by rw[ht];rfl))
   ·rw[List.drop_of_length_le (by omega),vA] at ht
    exact an.pure (Wk.int (by rw[ht];rfl))
theorem Shift.KD {x:PV} {Γ Γ':List ak} (g:aA Γ Γ'):Shift x Γ x Γ':=fun w0 F M w v hS hx=>by
 obtain ⟨F',e,h⟩:=g w0 F M w hS;exact ⟨F',e,h,ax.mono e _ _ hx⟩
theorem aA.Ky (Γ:List ak):aA Γ (.row (aT 6 83) (([]:List bZ).map bZ.pv)::Γ):=aA.fG _ _ _
theorem IW (b r:Nat) (t:aa) (h:o8 b r t) (hb:t.bp≤1000000000):ah Tryz.prog 33 [.ptr b 0,.agg t.cells,ud []] (dG b r (aT 6 83) [] (fun _=>none))
  (fun y Γ'=> ∃ tk,y=.agg (t.cH false [] 0 (fun _=>none)).t.cells∧Γ'= [.box b [.sl 6 ((t.cH false [] 0 (fun _=>none)).c.map bZ.pv) none,.mp r],.tok tk,.mp r (.int .i64) (mapM Kn.pa (t.cH false [] 0 (fun _=>none)).fm) []]):=
 (h (aT 6 83) [] (fun _=>none) [] rfl rfl (by simp;omega) (by simp)).shift fun y Γ' hq=>by
  obtain ⟨tk',e,s,hy,hΓ⟩:=hq;simp only[List.nil_append,List.length_nil] at hy hΓ;subst hy hΓ;exact ⟨_,_,Shift.KD (aA.fM (t:=tk') (es:=(t.cH false [] 0 (fun _=>none)).c.map bZ.pv) (b:=b) (cs:= [.ms tk',.mp r]) (cs':= [.sl 6 ((t.cH false [] 0 (fun _=>none)).c.map bZ.pv) none,.mp r]) (.cons (Cp.ms' s) (.cons (Cp.of (Wk.refl _)) .nil))),tk',rfl,rfl⟩
theorem dV.Pp {p:Prog} (h:dV p 2):p.body.K6∧p.body.K5:=⟨p.body.tY (by decide) h.2.2.1,p.body.ES h.2.2.1 h.2.2.2.2.2⟩
theorem xl {p:Prog} (h:dV p 2) (hb:p.body.bp≤1048576):(fZ p).body.bp + bC (fZ p).codes≤1000000000:=by
 have h1:=(p.body.Ef false 20000 (by omega)).1 h.2.2.2.1 [] 0 (fun _=>none);have h2:=h.2.2.2.1;show (p.body.cH false [] 0 (fun _=>none)).t.bp + bC (p.body.cH false [] 0 (fun _=>none)).c≤_;omega
theorem Ip:Wk (.agg [.nil,.nil,.int .i64 0,.int .i64 0,.nil,.nil]) (.agg Oq.cells):=Wk.agg (.cons (Wk.lp rfl) (.cons (Wk.lp rfl) (.cons (Wk.refl _) (.cons (Wk.refl _) (.cons (Wk.lp rfl) (.cons (Wk.lp rfl) .nil))))))
theorem Fv {p q:Prop} (k:q) (h:q→p:=by intro hq;first | exact aC.sP (some 18) rfl [9] [10] aj mixed hq):p:=h k
theorem AZ (p:Prog) (hb:p.body.bp≤1048576) (hl:p.consts.length≤1000000000):
  ay Tryz.prog 19 [.agg p.cells] (.aU [.agg (gR p).1.cells,.int .i64 (gR p).2]):=by
 have hen:=AP p 2;have hR:mI p 2=0→dV p 2:=fun h=>(pG p 2).1 (by rw[←hen];exact h);have hcl:=CO p.consts hl;refine ah.ai aj Tryz.func19 rfl rfl (n:=32) rfl rfl ?_
 conv=>whnf
 repeat (first|refine yQ ?_|((first|refine pC (Hg p 2 (by omega) (by omega)) wR ?_|intro _);conv=>whnf))
 rename_i b1 b2
 refine zX (fun hc=>?_) (fun hc=>?_)<;>(try simp only[SY] at hc)
 ·conv=>whnf
  repeat (refine yQ ?_)
  have hcn:gR p=(Oq,5):=by rw[gR,if_neg hc]
  rw[hcn];exact an.pure (Wk.aU (.cons Ip (.cons (Wk.refl _) .nil)))
 have hr:=hR hc;have hcb:=xl hr hb;have hcn:gR p=if vv (fZ p)=0 then (fZ p,0) else (Oq,5):=by rw[gR,if_pos hc]
 rw[hcn]
 conv=>whnf
 repeat (first|refine yQ ?_|((intro _);conv=>whnf))
 rename_i r b3;rw[Bw];refine au.Oa (aA.trans (aA.Ky _) (aA.box (b:=b3) (cs:= [.nil,.mp r]) (cs':= [.ms (aT 6 83),.mp r]) (.cons (Wk.fG 6 83) (.cons (Wk.refl _) .nil)))) (IW b3 r p.body (O3 b3 r p.body hr.Pp.1 hr.Pp.2) (by omega)) (.cons (Wk.refl _) (.cons (Wk.refl _) (.cons (Wk.lp rfl) .nil))) ?_;rintro _ _ ⟨tk,rfl,rfl⟩
 have hck:=uE (fZ p) hcb hl (by
  have:=(p.body.eC false).1 [] 0 (fun _=>none);show (p.body.cH false [] 0 (fun _=>none)).c.length≤_
  omega)
 have hcm:fZ p=⟨p.consts,(p.body.cH false [] 0 (fun _=>none)).c,(p.body.cH false [] 0 (fun _=>none)).t⟩:=rfl;rw[hcm] at hck ⊢;generalize p.body.cH false [] 0 (fun _=>none)=a at *
 conv=>whnf
 repeat' (first|refine aW ?_|((first|((apply zZ);(conv=>whnf);(repeat ((refine pC (hcl) wR ?_);conv=>whnf));exact pZ)|refine pC (hck) wR ?_|refine Fv ?_|intro _);conv=>whnf)|(refine zX (fun hc=>?_) (fun hc=>?_)<;>(try simp only[SY] at hc)<;>(conv=>whnf)))
 ·rw[if_neg hc]
  exact an.pure (Wk.aU (.cons Ip (.cons (Wk.refl _) .nil)))
 ·rw[if_pos hc]
  exact an.pure (y:=.aU [.agg (⟨p.consts,a.c,a.t⟩:qI).cells,.int .i64 0]) (Wk.refl _)
def Lo:Prog:=⟨[.mk 0 1 1 [] []],.mk 9 0 [0] [.mk 4 0 [1] [.mk 5 0 [] [.mk 1 0 [] [],.mk 1 1 [] []]],.mk 5 0 [] [.mk 1 0 [] [],.mk 0 0 [] []]]⟩
def Ln:qI:=⟨[.mk 0 1 1 [] []], [⟨[1],false,.mk 22 0 [] [.mk 21 0 [] [],.mk 1 1 [] []]⟩],.mk 22 0 [] [.mk 21 0 [] [],.mk 0 0 [] []]⟩
theorem Js (fm:Fm):aO fm (.mk 4 0 [1] [.mk 5 0 [] [.mk 1 0 [] [],.mk 1 1 [] []]])=if gE fm 0=true then [] else [0]:=by
 have h:bQ (aa.all (.mk 4 0 [1] [.mk 5 0 [] [.mk 1 0 [] [],.mk 1 1 [] []]]))= [0]:=by decide +kernel
 rw[aO,h,IU];cases h2:gE fm 0<;>simp[h2]
theorem Lp:fZ Lo=Ln:=by
 simp[fZ,Lo,Ln,aa.cH,aa.dw,aa.dB,aa.pO,aa.dO,kH,fixF,tw,Js,gE,dc,codeF,kS,kI];exact ⟨⟨rfl,by decide,rfl,rfl⟩,rfl,rfl⟩
theorem Jr:gR Lo=(Ln,0):=by
 rw[gR,if_pos (by decide),Lp,if_pos (by decide)]
theorem OK {c v t:PV} [h1:mh Datum.pv 5 c [.mk 0 1 1 [] []]] [h2:mh (PV.int .i64) 1 v [0]] [h3:mh aa.pv 4 t [.mk 4 0 [1] [.mk 5 0 [] [.mk 1 0 [] [],.mk 1 1 [] []]],.mk 5 0 [] [.mk 1 0 [] [],.mk 0 0 [] []]]]:
  ay Tryz.prog 19 [.agg [c,.int .i64 9,.int .i64 0,v,t]] (.aU [.agg Ln.cells,.int .i64 0]):=by
 have h:=AZ Lo (by decide) (by decide);rw[Jr] at h;exact ah.wk h (.cons (Wk.agg (.cons h1.wk (.cons (Wk.refl _) (.cons (Wk.refl _) (.cons h2.wk (.cons h3.wk .nil)))))) .nil)
theorem Fc:ay Tryz.prog 17 [] (.bool true):=by
 refine ah.ai aj Tryz.func17 rfl rfl (n:=58) rfl rfl ?_
 conv=>whnf
 repeat' (first|refine LB ?_|((first|refine pC (OK) wR ?_|intro _);conv=>whnf)|(refine zX (fun hc=>?_) (fun hc=>?_)<;>(try simp only[SY] at hc)<;>omega))
 exact an.pure (Wk.bool rfl)
theorem J6 (p:Prog) (n:Int) (h0:0≤n) (h1:n≤1000000000):ay Tryz.prog 18 [.agg p.cells,.int .i64 n] (.bool (decide (0≤p.body.oe n) && decide (0≤Datum.eL p.consts 2000))):=by
 refine ah.ai aj Tryz.func18 rfl rfl (n:=14) rfl rfl ?_
 conv=>whnf
 repeat' (first|refine LB ?_|((first|(((apply zY;intro hg));(conv=>whnf);(repeat ((first|refine pC (GL p.consts 2000 (by omega) (by omega)) wR ?_|refine aG ?_);conv=>whnf));exact pZ)|refine pC (GN p.body n h0 h1) wR ?_|intro _);conv=>whnf)|(refine zX (fun hc=>?_) (fun hc=>?_)<;>(try simp only[SY] at hc)<;>omega))
 exact an.pure (Wk.refl _)
theorem Fj {p:Prog} (h:(gR p).2=0):dV p 2∧vv (fZ p)=0∧gR p=(fZ p,0):=by
 unfold gR at h⊢
 split at h
 ·rename_i h1
  split at h
  ·rename_i h2
   rw[if_pos h1,if_pos h2];exact ⟨(pG p 2).1 (by rw[←AP];exact h1),h2,rfl⟩
  ·cases h
 ·cases h
theorem aa.wq (t:aa):t.vars.length≤t.bp:=by
 induction t using aa.ind with
 | h t ih=>
  have key: ∀ l:List aa,(∀ x∈l,x.vars.length≤x.bp)→(aa.bN l).length≤aa.aD l:=by
   intro l
   induction l with
   | nil=>intro _;rw[aa.bN];exact Nat.zero_le _
   | cons x l ihl=>
    intro h;rw[aa.bN,aa.aD,List.length_append];have:=h x (List.mem_cons_self ..);have:=ihl fun y hy=>h y (List.mem_cons_of_mem _ hy);omega
  have:=key t.t ih;rw[aa.gY,aa.cX,List.length_append];omega
theorem NN (a:Int):0≤bitsOf .and .i64 a 1023∧bitsOf .and .i64 a 1023≤1023:=by
 have e: ∀ v:Nat,v≤1023→IntKind.wrap .i64 (v:Int)=v:=fun v hv=>by
  simp[IntKind.wrap,IntKind.bits,IntKind.signed];omega
 have h:(BitVec.ofInt IntKind.i64.bits a &&& BitVec.ofInt IntKind.i64.bits 1023).toNat≤1023:=by
  rw[BitVec.toNat_and];exact Nat.le_trans Nat.and_le_right (by decide)
 unfold bitsOf;simp only;rw[e _ h];omega
abbrev mC (m:qI):List PV:= [.sl 5 (m.consts.map Datum.pv) none,.sl 6 (m.codes.map bZ.pv) none,.int .i64 m.body.op,.int .i64 m.body.n,.sl 1 (m.body.v.map (PV.int .i64)) none,.sl 4 (m.body.t.map aa.pv) none]
def wS (m:qI):Option (Int×List Int):=if (m.consts.all fun d=>d.cM 0)=true then LN (m.body.wI 3 m.consts.length m.codes.length false [] 0 0 []) (vz m.consts.length m.codes.length m.codes) else none
theorem Ij (m:qI):Db m=if (wS m).isSome=true then 0 else 5:=by
 unfold Db wS;cases h:m.consts.all fun d=>d.cM 0<;>simp
theorem uR {p q:Prop} (k:q) (h:q→p:=by intro hq;first | exact aC.sP (some 5) rfl [] [10,11] aj mixed hq | exact aC.sP (some 78) rfl [] [13] aj mixed hq):p:=h k
theorem uD (m:qI) (hb:m.body.bp + bC m.codes≤1000000000) (hl:m.consts.length≤1000000000) (hk:m.codes.length≤1000000000):ay Tryz.prog 20 [.agg m.cells] (.int .i64 (Db m)):=by
 rw[Ij];refine ah.ai aj Tryz.func20 rfl rfl (n:=97) rfl rfl ?_
 conv=>whnf
 repeat' (first|refine cW ?_|((first|((apply zZ);(conv=>whnf);(repeat ((refine pC (y9 _) wR ?_);conv=>whnf));exact pZ)|refine uR ?_|intro _);conv=>whnf)|(refine zX (fun hc=>?_) (fun hc=>?_)<;>(try simp only[SY] at hc)<;>(conv=>whnf)))
 ·rename_i b1 b2
  refine au.Oa (aA.trans (aA.nil 1 3 _) (aA.box (b:=b2) (cs:= [.int .i64 3,.int .i64 m.consts.length,.int .i64 m.codes.length,.bfalse,.int .i64 0,.nil,.bool (m.consts.all fun d=>d.cM 0)]) (cs':=Mm 3 m.consts.length m.codes.length 0 false [] (aT 1 3) (m.consts.all fun d=>d.cM 0)) wA))
   (E4 b2 3 m.consts.length m.codes.length false m.body 0 0 [] [] (m.consts.all fun d=>d.cM 0) (aT 1 3) rfl (by omega) (by omega) (by omega) (by omega) (by simp;omega) (by simp;omega)) wA ?_
  rintro _ _ ⟨rfl,s',b',tk,ok,h1,rfl,h3,h4⟩;rw[hc] at h3 h4;simp only[if_true] at h3 h4;have hm:wS m=LN (m.body.wI 3 m.consts.length m.codes.length false [] 0 0 []) (vz m.consts.length m.codes.length m.codes):=by unfold wS;rw[if_pos hc]
  conv=>whnf
  repeat (refine kM ?_)
  refine aI.over [4,27,28,29,30,31,32,33,34,35,36,37,38,39,40,41,42,43,44,45,46,47,48,49,50,51,52,53,54,55,56,57,58,59,60,61,62,63,64,65,66,67,68,69,70,71,72,73,74,75,76,77,78,79,80,81,82,83,84,85,86,87,88,89,90,91] (fun | ((i,sz,bd,ok,tk'):Nat×Int×List Int×Bool×Tok)=> [(4,.int .i64 i)])
   (fun x=> [.box b2 (Mm 3 m.consts.length m.codes.length x.2.1 true x.2.2.1 x.2.2.2.2 x.2.2.2.1),.tok x.2.2.2.2,.box b1 (mC m)])
   (fun | (i,sz,bd,ok,tk')=>i≤m.codes.length∧tk'.e=3∧(ok=true→0≤sz∧sz≤20000∧bd.length + bC (m.codes.drop i)≤1000000000∧wS m=vz m.consts.length m.codes.length (m.codes.drop i) sz bd)∧
    (ok=false→wS m=none)) (fun | (i,_)=>m.codes.length - i) (0,s',b',ok,tk)
   ⟨by simp,h1,fun h=>(by
    have hb:=m.body.CK _ _ _ _ _ _ _ _ _ _ (h3 h)
    refine ⟨by omega,hb.2.1,by simp at hb ⊢; omega,by rw[hm,h3 h];rfl⟩),fun h=>by rw[hm,h4 h];rfl⟩ wA ?_
  rintro ⟨i,sz,bd,ok,tk'⟩ ⟨hi,htk',hok,hno⟩;dsimp only at hi htk' hok hno⊢
  conv=>whnf
  repeat' (first|refine cW ?_|((intro _);conv=>whnf)|(refine zX (fun hc=>?_) (fun hc=>?_)<;>(try simp only[SY] at hc)<;>(conv=>whnf)))
  ·have hlt:i < m.codes.length:=by omega
   obtain rfl:ok=true:=hc.2;obtain ⟨hz,q1,q2,q3⟩:=hok rfl;rw[aq hlt,bC] at q2;rw[aq hlt,vz] at q3;have hbk:m.codes[i].bp=m.codes[i].v.length + m.codes[i].body.bp:=rfl;have hbl:=nD m.codes[i].v bd;refine au.go (DY b2 3 m.consts.length m.codes.length sz true m.codes[i].v bd tk' htk' (by omega)) (bU.refl _) ?_;rintro _ _ ⟨rfl,tk2,htk2,rfl⟩
   conv=>whnf
   repeat' (first|refine cW ?_|((refine uR ?_);conv=>whnf)|(refine zX (fun hc=>?_) (fun hc=>?_)<;>(try simp only[SY] at hc)<;>(conv=>whnf)))
   ·have hb1:(bH m.codes[i].v bd).1=true:=hc.1
    have hr1: ¬(m.codes[i].rest=true∧m.codes[i].v= []):=by
     rintro ⟨e1,e2⟩;rcases hc.2 with h | h
     ·rw[e1] at h;cases h
     ·rw[e2] at h;simp at h
    rw[if_pos hb1,if_neg hr1] at q3
    have hok2:((bH m.codes[i].v bd).1 && (!m.codes[i].rest || decide ((m.codes[i].v.length:Int) > 0)))=true:=by
     rw[hb1,Bool.true_and];rcases hc.2 with h | h
     ·simp[h]
     ·simp;exact .inr (by omega)
    rw[hok2];refine au.go (E4 b2 3 m.consts.length m.codes.length true m.codes[i].body sz 0 (bH m.codes[i].v bd).2 m.codes[i].v true tk2 htk2 hz q1 (by omega) (by omega) (by omega) (by omega)) wA ?_;rintro _ _ ⟨rfl,s2,b3,tk3,ok2,g1,rfl,g3,g4⟩;simp only[if_true] at g3 g4
    conv=>whnf
    repeat' (first|refine cW ?_|(refine zX (fun hc=>?_) (fun hc=>?_)<;>(try simp only[SY] at hc)<;>omega))
    refine aJ (i + 1,s2,b3,ok2,tk3) ⟨by show i + 1≤_;omega,g1,fun h=>?_,fun h=>?_⟩ (by show m.codes.length - (i + 1) < m.codes.length - i;omega) wA
    ·have hbd:=m.codes[i].body.CK _ _ _ _ _ _ _ _ _ _ (g3 h)
     rw[g3 h] at q3;exact ⟨by show (0:Int)≤s2;omega,hbd.2.1,by show b3.length + bC (m.codes.drop (i + 1))≤_;omega,q3⟩
    ·rw[g4 h] at q3
     exact q3
   ·have hmn:wS m=none:=by
     rw[q3]
     split
     ·rename_i hb1
      rw[if_pos];rcases hc with h | h
      ·rw[hb1] at h;cases h
      ·exact ⟨h.1,List.eq_nil_of_length_eq_zero (by have:=h.2;omega)⟩
     ·rfl
    have hf:((bH m.codes[i].v bd).1 && (!m.codes[i].rest || decide ((m.codes[i].v.length:Int) > 0)))=false:=by
     rcases hc with h | h
     ·rw[h];rfl
     ·have hl0:m.codes[i].v= []:=List.eq_nil_of_length_eq_zero (by have:=h.2;omega)
      simp[h.1,hl0]
    rw[hf];exact aJ (i + 1,sz,(bH m.codes[i].v bd).2,false,tk2) ⟨by show i + 1≤_;omega,htk2,fun h=>(by cases h),fun _=>hmn⟩ (by show m.codes.length - (i + 1) < m.codes.length - i;omega) wA
  ·rename_i hx
   have hmn:wS m=none:=hno hc;exact an.pure (Wk.int (by rw[hmn];rfl))
  ·obtain ⟨hz,q1,q2,q3⟩:=hok hc
   have:m.codes.drop i= []:=List.drop_of_length_le (by rcases ‹_∨ok=false› with h | h;omega;rw[hc] at h;cases h);rw[this,vz] at q3;exact an.pure (Wk.int (by rw[q3];rfl))
 ·rename_i b1 b2
  refine aI.keep [4,27,28,29,30,31,32,33,34,35,36,37,38,39,40,41,42,43,44,45,46,47,48,49,50,51,52,53,54,55,56,57,58,59,60,61,62,63,64,65,66,67,68,69,70,71,72,73,74,75,76,77,78,79,80,81,82,83,84,85,86,87,88,89,90,91] (fun _:Unit=> [(4,.int .i64 0)]) (fun _=>True) (fun _=>0) () trivial wA ?_;rintro _ _;have hmn:wS m=none:=by unfold wS;rw[if_neg (by rw[hc];simp)]
  have hcf:=hc
  conv=>whnf
  repeat' (first|refine cW ?_|((intro _);conv=>whnf)|(refine zX (fun hc=>?_) (fun hc=>?_)<;>(try simp only[SY] at hc)<;>(conv=>whnf)))
  ·have h5:=hc.2
   rw[hcf] at h5;cases h5
  ·exact an.pure (Wk.int (by rw[hmn];rfl))
  ·rw[hcf] at hc
   cases hc
theorem aa.uc: ∀ {l:List aa},(∀ x∈l,x.GI)→aa.Gr l
 | [],_=>trivial
 | x::l,h=>⟨h x (List.mem_cons_self ..),aa.uc fun y hy=>h y (List.mem_cons_of_mem _ hy)⟩
theorem aa.Aq {o n:Int} {v:List Int} {l:List aa} (h9: ¬o=9) (h: ∀ x∈l,x.GI):(aa.mk o n v l).GI:=(aa.vY _).2 ⟨fun h=>absurd h h9,aa.uc h⟩
theorem vN (fm:Fm) (ov l:List Int): ∀ y∈l.map (dc fm ov),As y.op∧y.GI∧ ¬y.op=19:=fun y hy=>by
 obtain ⟨v,_,rfl⟩:=List.mem_map.1 hy;unfold dc As
 split
 ·exact ⟨.inr (.inr (.inr (.inr rfl))),aa.Aq (by decide) (by simp),by show ¬(21:Int)=19;decide⟩
 split
 ·exact ⟨.inr (.inr (.inr (.inl rfl))),aa.Aq (by decide) (by simp),by show ¬(20:Int)=19;decide⟩
 ·exact ⟨.inr (.inl rfl),aa.Aq (by decide) (by simp),by show ¬(1:Int)=19;decide⟩
def mz (t:aa):Prop:=t.GI∧(t.op=19→ ∀ y∈t.t,As y.op)
theorem mz.mk {o n:Int} {v:List Int} {l:List aa} (h: ∀ x∈l,mz x) (ho: ¬o=19):mz (.mk o n v l):=
 ⟨(aa.vY _).2 ⟨fun _ x hx hx19=>(h x hx).2 hx19,aa.uc fun x hx=>(h x hx).1⟩,fun h=>absurd h ho⟩
theorem mz.cH (n:Int) (fm:Fm) (ov l:List Int):mz (.mk 19 n [] (l.map (dc fm ov))):=
 ⟨aa.Aq (by decide) fun x hx=>(vN fm ov l x hx).2.1,fun _ y hy=>(vN fm ov l y hy).1⟩
theorem mz.ref (fm:Fm) (ov:List Int) (v:Int):mz (dc fm ov v):=by
 have:=vN fm ov [v] (dc fm ov v) (by simp);exact ⟨this.2.1,fun h=>absurd h this.2.2⟩
theorem mz.iX (n:Int) (fm:Fm) (ov l:List Int):mz (iX n (l.map (dc fm ov))):=by
 unfold Go.Cb.iX
 split
 ·exact mz.mk (by simp) (by decide)
 ·exact mz.cH n fm ov l
theorem mz.no:mz rU:=mz.mk (by simp) (by decide)
def OP (t:aa):Prop:= ∀ ov n fm,mz (t.cH false ov n fm).t∧ ∀ c∈(t.cH false ov n fm).c,mz c.body
def OZ (t:aa):Prop:= ∀ ov n fm,mz (t.dB false ov n fm).t∧ ∀ c∈(t.dB false ov n fm).c,mz c.body
theorem aa.Ej: ∀ l:List aa,(∀ y∈l,OP y)→ ∀ ov n fm,(∀ y∈(aa.dO false l ov n fm).t,mz y)∧ ∀ c∈(aa.dO false l ov n fm).c,mz c.body
 | [],_,ov,n,fm=>by
  rw[aa.dO];exact ⟨fun y hy=>(by cases hy),fun c hc=>by cases hc⟩
 | y::l,h,ov,n,fm=>by
  rw[aa.dO];have a:=h y (by simp) ov n fm;have b:=aa.Ej l (fun z hz=>h z (by simp[hz])) ov (n + (y.cH false ov n fm).c.length) (y.cH false ov n fm).fm;exact ⟨fun z hz=>(List.mem_cons.1 hz).elim (fun e=>e▸a.1) (b.1 z),fun c hc=>(List.mem_append.1 hc).elim (a.2 c) (b.2 c)⟩
theorem aa.Ee: ∀ l:List aa,(∀ y∈l,OP y)→ ∀ vs ov n fm lrn,(∀ y∈(aa.dN false l vs ov n fm lrn).t,mz y)∧mz (aa.dN false l vs ov n fm lrn).last∧ ∀ c∈(aa.dN false l vs ov n fm lrn).c,mz c.body
 | [],_,vs,ov,n,fm,lrn=>by
  rw[aa.dN];exact ⟨fun y hy=>(by cases hy),mz.no,fun c hc=>by cases hc⟩
 | y::l,h, [],ov,n,fm,lrn=>by
  rw[aa.dN];have a:=h y (by simp) ov n (dr false lrn fm);exact ⟨fun y hy=>(by cases hy),a⟩
 | y::l,h,v::vs,ov,n,fm,lrn=>by
  rw[aa.dN];have a:=h y (by simp) ov n fm;have b:=aa.Ee l (fun z hz=>h z (by simp[hz])) vs ov (n + (y.cH false ov n fm).c.length) (y.cH false ov n fm).fm (if y.op=4 then lrn++ [(v,⟨n,(y.cH false ov n fm).t.op == 21⟩)] else lrn);refine ⟨fun z hz=>?_,b.2.1,fun c hc=>(List.mem_append.1 hc).elim (a.2 c) (b.2.2 c)⟩;dsimp only at hz
  split at hz
  ·exact b.1 z hz
  ·exact (List.mem_cons.1 hz).elim (fun e=>e▸a.1) (b.1 z)
theorem aa.Ea: ∀ l:List aa,(∀ y∈l,OP y)→(∀ y∈l,OZ y)→ ∀ vs ov c n fm,(∀ y∈(aa.dw false l vs ov c n fm).t,mz y)∧mz (aa.dw false l vs ov c n fm).last∧(∀ d∈(aa.dw false l vs ov c n fm).own,mz d.body)∧ ∀ d∈(aa.dw false l vs ov c n fm).c,mz d.body
 | [],_,_,vs,ov,c,n,fm=>by
  rw[aa.dw];exact ⟨fun y hy=>(by cases hy),mz.no,fun c hc=>(by cases hc),fun c hc=>by cases hc⟩
 | y::l,h,_, [],ov,c,n,fm=>by
  rw[aa.dw];have a:=h y (by simp) ov n fm;exact ⟨fun y hy=>(by cases hy),a.1,fun c hc=>(by cases hc),a.2⟩
 | y::l,h,k,v::vs,ov,c,n,fm=>by
  rw[aa.dw];have a:=k y (by simp) (aO fm y) n fm;have b:=aa.Ea l (fun z hz=>h z (by simp[hz])) (fun z hz=>k z (by simp[hz])) vs ov (c + 1) (n + (y.dB false (aO fm y) n fm).c.length) (y.dB false (aO fm y) n fm).fm;refine ⟨fun z hz=>(List.mem_cons.1 hz).elim (fun e=>?_) (b.1 z),b.2.1,fun d hd=>(List.mem_cons.1 hd).elim (fun e=>e▸a.1) (b.2.2.1 d),fun d hd=>(List.mem_append.1 hd).elim (a.2 d) (b.2.2.2 d)⟩;rw[e,if_neg (by decide)];exact mz.cH _ _ _ _
theorem aa.Mq (t:aa):t.LP→OP t∧OZ t:=by
 induction t using aa.ind with
 | h t ih=>
  intro hs;have hsh:=(aa.Ap t).1 hs;have hx:=aa.vX hsh.2
  have hB:OZ t:=by
   intro ov n fm;rw[aa.nE]
   cases ht:t.t with
   | nil=>
    rw[aa.pO];exact ⟨mz.no,fun c hc=>by cases hc⟩
   | cons z zs=>
    rw[aa.pO];exact (ih z (by rw[ht];simp) (hx z (by rw[ht];simp))).1 ov n fm
  refine ⟨?_,hB⟩;intro ov n fm;rw[aa.iY]
  split
  ·exact ⟨mz.ref _ _ _,fun c hc=>by cases hc⟩
  split
  ·have a:=hB (aO fm t) (n + 1) fm
   exact ⟨mz.iX _ _ _ _,fun c hc=>(List.mem_cons.1 hc).elim (fun e=>e▸a.1) (a.2 c)⟩
  split
  ·have a:=aa.Ee t.t (fun y hy=>(ih y hy (hx y hy)).1) t.v ov n fm []
   dsimp only;refine ⟨?_,a.2.2⟩
   split
   ·exact a.2.1
   ·exact mz.mk (fun x hx=>(List.mem_append.1 hx).elim (a.1 x) fun h=>by rw[List.mem_singleton.1 h];exact a.2.1) (by decide)
  split
  ·have a:=aa.Ea t.t (fun y hy=>(ih y hy (hx y hy)).1) (fun y hy=>(ih y hy (hx y hy)).2) t.v ov n (n + t.v.length) (fixF false t.v n (kH fm t.v t.t) fm)
   dsimp only;refine ⟨?_,fun c hc=>(List.mem_append.1 hc).elim (a.2.2.1 c) (a.2.2.2 c)⟩
   split
   ·exact a.2.1
   ·exact mz.mk (fun x hx=>(List.mem_append.1 hx).elim (a.1 x) fun h=>by rw[List.mem_singleton.1 h];exact a.2.1) (by decide)
  ·have a:=aa.Ej t.t (fun y hy=>(ih y hy (hx y hy)).1) ov n fm
   refine ⟨mz.mk a.1 ?_,a.2⟩;unfold kS
   split
   ·split
    ·show ¬(22:Int)=19
     decide
    ·exact hsh.1.2
   ·exact hsh.1.2
theorem aa.K7 (t:aa):t.LP→t.GI:=by
 induction t using aa.ind with
 | h t ih=>
  intro hs;have hsh:=(aa.Ap t).1 hs;have hx:=aa.vX hsh.2;exact (aa.vY t).2 ⟨fun _ x hm h19=>absurd h19 ((aa.Ap x).1 (hx x hm)).1.2,aa.uc fun x hm=>ih x hm (hx x hm)⟩
theorem xO {consts codes:Int}: ∀ {l:List bZ},mW consts codes l→ ∀ x∈l, ¬(x.rest=true∧x.v= [])
 | [],_,x,hx=>by cases hx
 | y::l,h,x,hx=>by
  rw[mW] at h;rcases List.mem_cons.1 hx with rfl | hx
  ·exact h.1
  ·exact xO h.2.2 x hx
theorem vw: ∀ {l:List bZ} {x:bZ},x∈l→x.body.cnt≤iG l
 | y::l,x,h=>by
  rw[iG];have h1:=y.body.gp;have h2:=eV l;rcases List.mem_cons.1 h with rfl | h
  ·omega
  ·have:=vw h
   omega
theorem Kq {m:qI} (h:vv m=0):m.body.cnt + iG m.codes≤20000∧ ∀ x∈m.codes, ¬(x.rest=true∧x.v= []):=by
 rw[Dc] at h;unfold Db at h
 split at h
 ·rename_i hc
  rw[Bool.and_eq_true] at hc;have h2:=(Sp.seq (m.body.qR 3 m.consts.length m.codes.length false [] 0 0 []) (eV m.codes) fun b hb=>tU m.consts.length m.codes.length m.codes _ b hb).jS.1 hc.2;exact ⟨by have:=h2.2.1;omega,xO h2.1.2⟩
 ·cases h
theorem Ho {p:Prog} (h:dV p 2) (hck:vv (fZ p)=0) (hc:p.body.cnt≤250) (hb:p.body.bp≤1048576) (hbu:Datum.aD p.consts≤1000000000) (hsz:Datum.w6 p.consts≤2000):Cs (fZ p):=by
 have h1:=(p.body.Ef false 250 (by omega)).1 hc [] 0 (fun _=>none)
 have hbk:(fZ p).body.bp + bC (fZ p).codes≤100000000:=by
  show (p.body.cH false [] 0 (fun _=>none)).t.bp + bC (p.body.cH false [] 0 (fun _=>none)).c≤_;omega
 have hsi:=(p.body.Mq (p.body.Ad h.2.2.1)).1 [] 0 (fun _=>none);obtain ⟨hm1,hm2⟩:=MJ hck;obtain ⟨hm3,hm4⟩:=Kq hck;have hmp:=eV (fZ p).codes;have hcp:=(fZ p).body.gp;have hvl:=(fZ p).body.wq;refine ⟨h.2.1,hbu,hsz,hm1,⟨by omega,by omega,hsi.1.1⟩,fun c hc=>?_⟩;have hb2:=lI hc;have hb3:c.bp=c.v.length + c.body.bp:=rfl;have hc2:=vw hc;have hvl2:=c.body.wq;refine ⟨fun hr=>?_,hm2 c hc,⟨by omega,by omega,(hsi.2 c hc).1⟩,by omega⟩;have:=hm4 c hc;apply Decidable.byContradiction;intro hn;exact this ⟨hr,List.eq_nil_of_length_eq_zero (by omega)⟩
theorem CT (p:Prog) (h: ¬(gR p).2=0):(gR p).2=5:=by
 unfold gR at h⊢
 split
 ·split
  ·rename_i h1 h2
   rw[if_pos h1,if_pos h2] at h;exact absurd rfl h
  ·rfl
 ·rfl
theorem uI (p:Prog) (z:Int) (hbb:Datum.aD p.consts + p.body.bp≤1048576):ay Tryz.prog 5 [.agg p.cells,.int .i64 z] (.bool true):=by
 have hlen:=Datum.dA p.consts;refine ah.ai aj Tryz.func5 rfl rfl (n:=38) rfl rfl ?_
 conv=>whnf
 repeat' (first|refine aW ?_|((first|refine pC (Fc) wR ?_|refine pC (J6 p 250 (by omega) (by omega)) wR ?_|refine pC (AZ p (by omega) (by omega)) wR ?_|intro _);conv=>whnf)|(refine zX (fun hc=>?_) (fun hc=>?_)<;>(try simp only[SY] at hc)<;>(conv=>whnf)))
 ·exact an.pure (Wk.refl _)
 ·rename_i hc
  exact an.pure (Wk.bool (by rw[CT p hc];rfl))
 ·rename_i hf b2
  obtain ⟨hR,hck,hE⟩:=Fj hc;have hsz:=Datum.uV p.consts 2000 hf.2;have hfc:=p.body.Mt 250 hf.1;have hvl:=p.body.wq;have hb:=NN z
  have hF1:Fit p 2:=⟨hR,by omega,by omega,by omega,p.body.K7 (p.body.Ad hR.2.2.1)⟩
  have hF2:=Ho hR hck hfc (by omega) (by omega) (by omega);have hbk:=xl hR (by omega);have hcl:(fZ p).codes.length≤p.body.bp:=(p.body.eC false).1 [] 0 (fun _=>none);have hkk:=uD (fZ p) hbk (by show p.consts.length≤_;omega) (by omega);rw[←Dc,hck] at hkk
  have hmn:ay Tryz.prog 21 [.agg p.cells,.agg (fZ p).cells,.int .i64 (bitsOf .and .i64 z 1023)] (.bool true):=
   (FY p (fZ p) 2 hF1 hF2 _ hb (fun x c s' x' c' t' h1 h2 n1 n2=>Fh (pK p) (mK (fZ p)) rfl (fun x hx C B=>by
    obtain ⟨d,hd,rfl⟩:=List.mem_map.1 hx
    exact GV d 0 (hR.2.1 d hd)) (JX hR) h1 h2 n1 n2)).mono fun y Γ' h=>h.1
  rw[hE]
  conv=>whnf
  repeat' (first|refine aW ?_|(((((apply zY;intro hg));(conv=>whnf);(repeat ((first|refine pC (hkk) wR ?_|refine pC (hmn) wR ?_|refine aH ?_);conv=>whnf));exact pZ));conv=>whnf)|(refine zX (fun hc=>?_) (fun hc=>?_)<;>(try simp only[SY] at hc)<;>omega))
  all_goals exact an.pure (Wk.bool rfl)
open Go.RowKit (Below)
open Go.ChangeShapes
def Fz.of (w:World):Fz:=fun b o=>w.cell? ⟨b,o,none⟩
theorem aN.start (w:World):aN w (Fz.of w) [] w:=⟨Below.refl _ w,fun _ _ _ h=>h,by simp,.nil⟩
theorem sj {α:Type} {p:Nat→α→Prop}: ∀ {n:Nat},(∀ i,i < n→ ∃ a,p i a)→ ∃ l:List α,l.length=n∧ ∀ i a,l[i]?=some a→p i a
 | 0,_=>⟨[],rfl,by simp⟩
 | n + 1,h=>by
  obtain ⟨l,h1,h2⟩:=sj (n:=n) fun i hi=>h i (by omega);obtain ⟨a,ha⟩:=h n (by omega);refine ⟨l++ [a],by simp[h1],fun i b hb=>?_⟩;by_cases hi:i < l.length
  ·rw[List.getElem?_append_left hi] at hb;exact h2 i b hb
  ·rw[List.getElem?_append_right (by omega)] at hb
   have h0:i - l.length=0:=by
    rcases Nat.eq_zero_or_pos (i - l.length) with h | h
    ·exact h
    ·rw[List.getElem?_eq_none (by simp;omega)] at hb;cases hb
   rw[h0] at hb;simp at hb;obtain rfl:i=n:=by omega
   rwa [←hb]
section
variable {H:Type} {enc:TypeId×Value→H} {P:Program} {w:World} {UB:DataW H→Nat} {UBs:List (DataW H)→Nat}
structure AF (UB:DataW H→Nat) (UBs:List (DataW H)→Nat):Prop where
 nil:UBs []=0
 cons: ∀ x l,UBs (x::l)=UB x + UBs l
 agg: ∀ l,1 + UBs l≤UB (.agg l)
 slice: ∀ l m,1 + UBs l≤UB (.slice l m)
 str: ∀ s,s.length + 1≤UB (.lit (.string s))
 pos: ∀ d,1≤UB d
def Rd {α:Type} (enc:TypeId×Value→H) (P:Program) (w:World) (UB:DataW H→Nat) (n:Nat) (t:TypeId) (cells:α→List PV) (bk:α→Nat):Prop:=
 ∀ cs x,DataW.trod enc P w 0 (fun _=>true) true n t cs=some x→ ∃ a:α,aQ (Fz.of w) (cells a) cs∧bk a≤UB x.1
theorem rY (hB:AF UB UBs) {t:TypeId} {k:IntKind} (ht:P.underlying t=some (.int k)) (n:Nat):Rd enc P w UB n t (fun n:Int=> [.int k n]) fun _=>1:=by
 intro cs x h;obtain ⟨m,rfl,rfl,_⟩:=DataW.trod_int ht h;exact ⟨m,by simp only[aQ,ax,and_true];exact rfl,hB.pos _⟩
theorem MV (hB:AF UB UBs) {t:TypeId} (ht:P.underlying t=some .string) (n:Nat):Rd enc P w UB n t (fun s:List UInt8=> [.str s]) fun s=>s.length:=by
 intro cs x h;obtain ⟨s,rfl,rfl,hs⟩:=DataW.trod_string ht h;refine ⟨s.data.toList,?_,by have:=hB.str s.data.toList;show s.data.toList.length≤UB (.lit (.string s.data.toList));omega⟩
 have:s.data.toList.length≤9223372036854775807:=by
  have h1:s.data.toList.length=s.size:=Array.length_toList;have h2:maxLen≤9223372036854775807:=by simp only[maxLen];omega
  omega
 exact cC.2 ⟨⟨rfl,by unfold ax;exact ⟨rfl,this⟩⟩,c6 _⟩
theorem EZ {α:Type} {pv:α→PV} {cells:α→List PV} [c:ec pv cells] {s b o:Nat} (hs: ∀ a,(cells a).length=s): ∀ (l:List α) (i:Nat),
  (∀ j a,l[j]?=some a→ ∃ cs,w.cells? 0 ((⟨b,o,none⟩:Addr).add ((i + j) * s)) s=some cs∧aQ (Fz.of w) (cells a) cs)→aV (Fz.of w) s b (o + i * s) (l.map pv)
 | [],_,_=>by simp[aV]
 | a::l,i,h=>by
  rw[List.map_cons,r9];obtain ⟨cs,h1,h2⟩:=h 0 a rfl;obtain ⟨_,h3,h4⟩:=World.cells?_some h1;refine ⟨⟨by rw[c.eq];exact hs a,?_⟩,?_⟩
  ·rw[c.eq,bL]
   refine ⟨cs,h2,fun j u hu=>?_⟩
   have hj:j < cs.length:=by
    rcases Nat.lt_or_ge j cs.length with h | h
    ·exact h
    ·rw[List.getElem?_eq_none h] at hu;cases hu
   have:=h4 j (by omega);rw[hu,Addr.add_lit,Addr.add_lit] at this;simpa[Fz.of] using this
  ·have:=EZ (pv:=pv) hs l (i + 1) fun j a ha=>by
    have:=h (j + 1) a (by simpa using ha);rwa [show i + (j + 1)=i + 1 + j by omega] at this
   rwa [show o + (i + 1) * s=o + i * s + s by rw[Nat.succ_mul];omega] at this
def jT {α:Type} (bk:α→Nat):List α→Nat
 | []=>0
 | a::l=>bk a + jT bk l
theorem B8 (hB:AF UB UBs) {α:Type} {bk:α→Nat}: ∀ (l:List α) (ds:List (DataW H)),l.length≤ds.length→(∀ (i:Nat) (a:α) (d:DataW H),l[i]?=some a→ds[i]?=some d→bk a≤UB d)→jT bk l≤UBs ds
 | [],_,_,_=>by simp[jT]
 | a::l, [],h,_=>by simp at h
 | a::l,d::ds,h,k=>by
  rw[jT,hB.cons];have h1:=k 0 a d rfl rfl;have h2:=B8 hB l ds (by simpa using h) fun i a d ha hd=>k (i + 1) a d (by simpa using ha) (by simpa using hd);omega
theorem qp (hB:AF UB UBs) {n:Nat} {t e:TypeId} (ht:P.underlying t=some (.slice e)) {s:Nat} (hs:P.cellsOf e=s) (hp:0 < s) {α:Type} {pv:α→PV} {cells:α→List PV} [c:ec pv cells] {bk:α→Nat}
  (hc: ∀ a,(cells a).length=s) (he: ∀ m,m < n→Rd enc P w UB m e cells bk):Rd enc P w UB n t (fun l:List α=> [.sl s (l.map pv) none]) fun l=>1 + jT bk l:=by
 intro cs x h
 rcases DataW.trod_slice ht h with ⟨rfl,rfl⟩ | ⟨a,len,cap,elems,rest,m,rfl,rfl,rfl,_,hlc,hcm,hel,hx,hr,_⟩
 ·refine ⟨[],?_,by have:=hB.pos (DataW.nil:DataW H);simpa[jT] using this⟩
  exact cC.2 ⟨⟨rfl,by unfold ax;exact ⟨by simp,.inl ⟨rfl,rfl⟩⟩⟩,c6 _⟩
 ·have hx': ∀ i,i < len→ ∃ a':α, ∃ cs d,elems[i]?=some d∧w.cells? 0 (a.add (i * s)) s=some cs∧aQ (Fz.of w) (cells a') cs∧bk a'≤UB d.1:=by
   intro i hi;have h1:=hx i hi;have h2:elems[i]?=some elems[i]:=List.getElem?_eq_getElem (by omega);rw[h2,hs] at h1;obtain ⟨cs,h3,h4⟩:=Option.bind_eq_some_iff.1 h1;obtain ⟨a',h5,h6⟩:=he m (by omega) cs _ h4;exact ⟨a',cs,_,h2,h3,h5,h6⟩
  obtain ⟨l,hl,hl2⟩:=sj hx'
  have hcount:1 + jT bk l≤UB (.slice (elems.map (·.1)) (rest.map (·.1))):=by
   have:=B8 hB (bk:=bk) l (elems.map (·.1)) (by simp;omega) (by
    intro i a' d ha hd;obtain ⟨_,d',h2,_,_,h5⟩:=hl2 i a' ha;rw[List.getElem?_map,h2] at hd;simp at hd
    rw[←hd];exact h5)
   have:=hB.slice (elems.map (·.1)) (rest.map (·.1));omega
  refine ⟨l,?_,hcount⟩;refine cC.2 ⟨⟨rfl,?_⟩,c6 _⟩;unfold ax;refine ⟨fun t ht=>(by cases ht),?_⟩;by_cases h0:cap=0
  ·subst h0
   obtain rfl:len=0:=by omega
   have:l= []:=List.eq_nil_of_length_eq_zero hl;subst this;exact .inr (.inr ⟨rfl,a,rfl⟩)
  ·
   have hsp:a.spot=none:=by
    have h1: ∃ cs,w.cells? 0 a s=some cs:=by
     by_cases h2:0 < len
     ·obtain ⟨_,cs,_,_,h3,_⟩:=hx' 0 h2
      exact ⟨cs,by simpa[Addr.add] using h3⟩
     ·obtain ⟨h3,h4⟩:=hr rfl
      have h5:=h4 0 (by omega);have h6:rest[0]?=some (rest[0]'(by omega)):=List.getElem?_eq_getElem (by omega);rw[h6,hs] at h5;obtain ⟨cs,h7,_⟩:=Option.bind_eq_some_iff.1 h5;have:len=0:=by omega
      subst this;exact ⟨cs,by simpa[Addr.add] using h7⟩
    obtain ⟨cs,h1⟩:=h1;obtain ⟨_,h3,h4⟩:=World.cells?_some h1;have h5:=h4 0 hp;have h6:cs[0]?=some (cs[0]'(by omega)):=List.getElem?_eq_getElem (by omega);rw[h6] at h5;simp only[Addr.add,if_true,World.cell?] at h5
    split at h5
    ·split at h5
     ·cases h5
     ·rename_i hn;simpa using hn
    ·cases h5
   obtain ⟨b,o,sp⟩:=a;simp only at hsp;subst hsp;refine .inr (.inl ⟨b,o,cap,by simp[hl],by simp;omega,hcm,by simp,?_⟩)
   have:=EZ (pv:=pv) (w:=w) (b:=b) (o:=o) hc l 0 fun j a' ha=>by
    obtain ⟨cs,_,_,h3,h4,_⟩:=hl2 j a' ha;exact ⟨cs,by simpa using h3,h4⟩
   simpa using this
end
section
variable {H:Type} {enc:TypeId×Value→H} {P:Program} {w:World} {UB:DataW H→Nat} {UBs:List (DataW H)→Nat}
theorem fJ {F:Fz} {ps bs:List PV} {cs:List Value} {o s:Nat} (h1:aQ F ps ((cs.drop o).take s)) (h2:aQ F bs (cs.drop (o + s))):aQ F (ps++bs) (cs.drop o):=by
 have:=bX h1 h2;rwa [←List.drop_drop,List.take_append_drop] at this
theorem fI {α:Type} {n o s:Nat} {t:TypeId} {cells:α→List PV} {bk:α→Nat} (hR:Rd enc P w UB n t cells bk) {fs:Array Field} {cs:List Value} {xs:List (DataW H×List MemPlace)} (hlen:xs.length=fs.size)
  (hf: ∀ (i:Nat) (f:Field),fs[i]?=some f→DataW.trod enc P w 0 (fun _=>true) true n f.type ((cs.drop f.offset).take (P.cellsOf f.type))=xs[i]?) (i:Nat) (h:(fs.toList.map fun f=>(f.type,f.offset))[i]?=some (t,o)) (hs:P.cellsOf t=s):
  ∃ a y,xs[i]?=some y∧aQ (Fz.of w) (cells a) ((cs.drop o).take s)∧bk a≤UB y.1:=by
 rw[List.getElem?_map] at h;obtain ⟨f,hfi,hft⟩:=Option.map_eq_some_iff.1 h;rw[Array.getElem?_toList] at hfi;simp only[Prod.mk.injEq] at hft;obtain ⟨rfl,rfl⟩:=hft;have h1:=hf i f hfi;have hi:i < xs.length:=by rw[hlen];exact (Array.getElem?_eq_some_iff.1 hfi).1
 have h2:xs[i]?=some xs[i]:=List.getElem?_eq_getElem hi;rw[h2] at h1;obtain ⟨a,h3,h4⟩:=hR _ _ h1;exact ⟨a,_,h2,by rw[←hs];exact h3,h4⟩
theorem CA {α:Type} {t:TypeId} {cells:α→List PV} {bk:α→Nat} {fs:Array Field} (hs:P.underlying t=some (.struct fs)) (hR: ∀ n,Rd enc P w UB n t cells bk) {r:Reach} {b0:Nat} {v:Value} {d:DataW H} {p:List MemPlace}
  (hv:Value.okWide P w r b0 t v) (h:DataW.Trod enc P w 0 (fun _=>true) true t v d p): ∃ a,ax (Fz.of w) (.agg (cells a)) v∧bk a≤UB d:=by
 obtain ⟨cs,rfl,_⟩:=Go.WideShapes.okWide_struct hs hv;obtain ⟨fuel,hf⟩:=h;obtain ⟨a,h1,h2⟩:=hR fuel _ _ hf;refine ⟨a,?_,h2⟩;simp only[ax];exact ⟨cs.toList,by simp,by simpa[Value.cells] using h1⟩
theorem JP {t:TypeId} {k:IntKind} (ht:P.underlying t=some (.int k)) {r:Reach} {b0:Nat} {v:Value} {d:DataW H} {p:List MemPlace} (hv:Value.okWide P w r b0 t v) (h:DataW.Trod enc P w 0 (fun _=>true) true t v d p):
  ∃ n:Int,ax (Fz.of w) (.int k n) v∧(Lit.int k n).wf=true:=by
 obtain ⟨n,rfl,_,_,h4⟩:=open_int ht hv h;exact ⟨n,by simp only[ax],h4⟩
theorem oC (hl:laidOutB P=true) {W W':World} (hb:Below W.heap.size W W'): ∀ {ts:List TypeId} {vs:List Value} {ds:List (DataW H)} {ps:List MemPlace},(∀ t∈ts,P.readableRec t=true∧t < P.types.size)→
  DataW.TrodAll enc P W 0 (fun _=>true) true ts vs ds ps→(∀ x∈ps,x.block < W.heap.size)→DataW.TrodAll enc P W' 0 (fun b=>decide (b < W.heap.size)) true ts vs ds ps
 | [],_,_,_,_,h,_=>by
  obtain ⟨rfl,rfl,rfl⟩:=trodAll_nil h;exact trodAll_mk0
 | t::ts,_,_,_,hr,h,hlt=>by
  obtain ⟨v,vs,d,ds,p,q,rfl,rfl,rfl,h1,h2⟩:=trodAll_cons h;exact trodAll_cons_mk (Go.RowKit.Below.trod hl (hr t (by simp)).1 (hr t (by simp)).2 h1 hb fun x hx=>hlt x (by simp[hx])) (oC hl hb (fun t ht=>hr t (by simp[ht])) h2 fun x hx=>hlt x (by simp[hx]))
theorem sJ {spare:Nat→Bool} {base:Nat} {held:Bool}: ∀ {ts:List TypeId} {vs:List Value} {ds:List (DataW H)} {ps:List MemPlace},DataW.TrodAll enc P w base spare held ts vs ds ps→ds.length=ts.length
 | [],_,_,_,h=>by obtain ⟨rfl,rfl,rfl⟩:=trodAll_nil h;rfl
 | t::ts,_,_,_,h=>by
  obtain ⟨v,vs,d,ds,p,q,rfl,rfl,rfl,h1,h2⟩:=trodAll_cons h;simp[sJ h2]
theorem Ia {f:Func} {s:ChangeSpec} {tb:TypeId} {W W':World} {args:Array Value} {ds gs:List (DataW H)} {before:List MemPlace} (hl:laidOutB P=true) (hr: ∀ t∈f.params.toList,P.readableRec t=true∧t < P.types.size)
  (hres:f.resultTypes= #[tb]) (hb:P.underlying tb=some .bool) (hv:s.vars= []) (hfn: ∀ ds:List (DataW H),ds.length=f.params.size→s.fn H ds={ results:= [.lit (.bool true)],args:=ds })
  (hW:DataW.Whole enc P f.params.toList s.vars false W args.toList ds gs before) (hbel:Below W.heap.size W W'):s.post enc P f false true false false W args (.bool true) W':=by
 have hW':=hW;obtain ⟨p,q,hA,hV,rfl,_,_⟩:=hW;have hV0:DataW.TrodVars enc P W (fun _=>true) [] gs q:=by rw[←hv];exact hV
 obtain ⟨rfl,rfl⟩:=trodVars_none hV0;have hfn':=hfn (ds++ []) (by rw[List.append_nil,sJ hA];simp);refine ⟨ds, [],p++ [], [],p, [],hW',?_,?_,?_,hbel.frame _,fun h=>by cases h⟩
 ·rw[hfn',hres]
  exact trodAll_mk1 (Go.RowKit.shut_bool hb _)
 ·rw[hfn',List.append_nil]
  exact oC hl hbel hr hA fun x hx=>hW'.lt x (by simp[hx])
 ·rw[hfn',hv];rfl
end
theorem nq: ∀ l:List Datum,jT Datum.bp l=Datum.aD l
 | []=>rfl
 | x::l=>by rw[jT,Datum.aD,nq l]
theorem yp: ∀ l:List aa,jT aa.bp l=aa.aD l
 | []=>rfl
 | x::l=>by rw[jT,aa.aD,yp l]
theorem yo {α:Type}: ∀ l:List α,jT (fun _=>1) l=l.length
 | []=>rfl
 | x::l=>by rw[jT,yo l,List.length_cons];omega
section
variable {H:Type} {enc:TypeId×Value→H} {P:Program} {w:World} {UB:DataW H→Nat} {UBs:List (DataW H)→Nat}
theorem vO {F:Fz} {cs:List Value} {n:Nat} (h:cs.length=n):aQ F [] (cs.drop n):=by
 rw[List.drop_of_length_le (by omega)];exact c6 F
theorem IL (hB:AF UB UBs) {tI tS tL tD:TypeId} (hI:P.underlying tI=some (.int .i64)) (hS:P.underlying tS=some .string) (hL:P.underlying tL=some (.slice tD)) {fs:Array Field} (hD:P.underlying tD=some (.struct fs))
  (hfs:(fs.toList.map fun f=>(f.type,f.offset))= [(tI,0),(tI,1),(tI,2),(tS,3),(tL,4)]) (cI:P.cellsOf tI=1) (cS:P.cellsOf tS=1) (cL:P.cellsOf tL=1) (cD:P.cellsOf tD=5): ∀ n,Rd enc P w UB n tD Datum.cells Datum.bp:=by
 intro n
 induction n using Nat.strongRecOn with
 | ind n ih=>
  intro cs x h;obtain ⟨xs,m,rfl,rfl,hl,hlen,hf⟩:=DataW.trod_struct hD h;obtain ⟨a0,y0,e0,r0,_⟩:=fI (rY (w:=w) (enc:=enc) hB hI m) hlen hf 0 (by rw[hfs];rfl) cI;obtain ⟨a1,y1,e1,r1,_⟩:=fI (rY (w:=w) (enc:=enc) hB hI m) hlen hf 1 (by rw[hfs];rfl) cI;obtain ⟨a2,y2,e2,r2,_⟩:=fI (rY (w:=w) (enc:=enc) hB hI m) hlen hf 2 (by rw[hfs];rfl) cI;obtain ⟨a3,y3,e3,r3,b3⟩:=fI (MV (w:=w) (enc:=enc) hB hS m) hlen hf 3 (by rw[hfs];rfl) cS;obtain ⟨a4,y4,e4,r4,b4⟩:=fI (qp (pv:=Datum.pv) hB hL cD (by omega) (fun a=>rfl) (fun k hk=>ih k (by omega))) hlen hf 4 (by rw[hfs];rfl) cL;refine ⟨.mk a0 a1 a2 a3 a4,?_,?_⟩
  ·exact fJ r0 (fJ r1 (fJ r2 (fJ r3 (fJ r4 (vO (hl.trans cD))))))
  ·have h5:xs.length=5:=by
    have:=congrArg List.length hfs;simp at this;omega
   match xs,h5 with
   | [z0,z1,z2,z3,z4],_=>
    simp at e3 e4;subst e3 e4;have:=hB.agg ([z0,z1,z2,z3,z4].map (·.1));simp only[List.map_cons,List.map_nil,hB.cons,hB.nil] at this;rw[nq] at b4;rw[Datum.cX];show 1 + a3.length + Datum.aD a4≤_;simp only[List.map_cons,List.map_nil];omega
theorem KQ (hB:AF UB UBs) {tI tV:TypeId} (hI:P.underlying tI=some (.int .i64)) (hV:P.underlying tV=some (.slice tI)) (cI:P.cellsOf tI=1) (n:Nat):Rd enc P w UB n tV (fun l:List Int=> [.sl 1 (l.map (PV.int .i64)) none]) fun l=>1 + l.length:=by
 intro cs x h;obtain ⟨a,h1,h2⟩:=qp (pv:=PV.int .i64) hB hV cI (by omega) (fun a=>rfl) (fun k hk=>rY (w:=w) (enc:=enc) hB hI k) cs x h;exact ⟨a,h1,by have:=yo a;show 1 + a.length≤_;have h3:1 + jT (fun _=>1) a≤UB x.1:=h2;omega⟩
theorem MW (hB:AF UB UBs) {tI tV tL tT:TypeId} (hI:P.underlying tI=some (.int .i64)) (hV:P.underlying tV=some (.slice tI)) (hL:P.underlying tL=some (.slice tT)) {fs:Array Field} (hT:P.underlying tT=some (.struct fs))
  (hfs:(fs.toList.map fun f=>(f.type,f.offset))= [(tI,0),(tI,1),(tV,2),(tL,3)]) (cI:P.cellsOf tI=1) (cV:P.cellsOf tV=1) (cL:P.cellsOf tL=1) (cT:P.cellsOf tT=4): ∀ n,Rd enc P w UB n tT aa.cells aa.bp:=by
 intro n
 induction n using Nat.strongRecOn with
 | ind n ih=>
  intro cs x h;obtain ⟨xs,m,rfl,rfl,hl,hlen,hf⟩:=DataW.trod_struct hT h;obtain ⟨a0,y0,e0,r0,_⟩:=fI (rY (w:=w) (enc:=enc) hB hI m) hlen hf 0 (by rw[hfs];rfl) cI;obtain ⟨a1,y1,e1,r1,_⟩:=fI (rY (w:=w) (enc:=enc) hB hI m) hlen hf 1 (by rw[hfs];rfl) cI;obtain ⟨a2,y2,e2,r2,b2⟩:=fI (KQ (w:=w) (enc:=enc) hB hI hV cI m) hlen hf 2 (by rw[hfs];rfl) cV;obtain ⟨a3,y3,e3,r3,b3⟩:=fI (qp (pv:=aa.pv) hB hL cT (by omega) (fun a=>rfl) (fun k hk=>ih k (by omega))) hlen hf 3 (by rw[hfs];rfl) cL;refine ⟨.mk a0 a1 a2 a3,?_,?_⟩
  ·exact fJ r0 (fJ r1 (fJ r2 (fJ r3 (vO (hl.trans cT)))))
  ·have h5:xs.length=4:=by
    have:=congrArg List.length hfs;simp at this;omega
   match xs,h5 with
   | [z0,z1,z2,z3],_=>
    simp at e2 e3;subst e2 e3;have:=hB.agg ([z0,z1,z2,z3].map (·.1));simp only[List.map_cons,List.map_nil,hB.cons,hB.nil] at this;rw[yp] at b3;rw[aa.cX];show 1 + a2.length + aa.aD a3≤_;simp only[List.map_cons,List.map_nil];omega
end
end Go.Cb


