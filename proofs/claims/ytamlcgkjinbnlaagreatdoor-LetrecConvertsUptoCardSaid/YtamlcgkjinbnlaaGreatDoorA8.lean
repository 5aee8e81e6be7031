/-
 Contracts: recursive bindings: groups of procedures.
 Contracts: recursive bindings in order: letrec*.
 Plain: how many terms of a sort stand in one.
 Plain: recursive bindings made of plain ones: nothing is lost; where all are procedures nothing is asked.
 Plain: recursive bindings made of plain ones: counts of whole terms; where all are procedures nothing is asked.
 Plain: recursive bindings made of plain ones: how great a term comes to be.
 Plain: names of shifted terms.
 Plain: recursive bindings made of plain ones: what variables are called says nothing.
 Plain: what letrec knows of items is what the plain function knows of lists.
 Contracts: recursive bindings: links put together.
 Contracts: recursive bindings: letrec's links; a Rec.
 Contracts: recursive bindings: a Rec; terms.
 Plain: what a right program's names are; what no program is.
 Contracts: the document's words for the check of terms.
 Contracts: what is right names what it binds.
 Contracts: recursive bindings: terms, a program, converted.
 Contracts: the example of letrec, run: it ends at an early reference.
 Contracts: the document's example of letrec holds (the expander at its forms alone).
 Contracts: are there few terms? (chapter 09)
 Contracts: the document's graphs: to which things some lead.
 Contracts: the document's graphs: all things met; groups.
 Contracts: the document's bindings; all variables greater.
-/
import Derived.Test.YtamlcgkjinbnlaaGreatDoorA7
set_option linter.unusedSimpArgs false
set_option linter.unusedVariables false
namespace Go.Cb
open Go.Proofs
set_option maxRecDepth 100000
set_option maxHeartbeats 4000000
abbrev ke:Option (List Int×Option Tok)→PV
 | none=>.nil
 | some x=>.sl 1 (x.1.map (PV.int .i64)) x.2
instance:cz ke (fun x=> [ke x]):=⟨fun x=>by cases x<;>rfl⟩
instance (l:List Int) (tk:Option Tok):cn ke (.sl 1 (l.map (PV.int .i64)) tk) (some (l,tk)):=⟨Wk.refl _,fR.refl _⟩
theorem af.Qb {P:Program} {f:FuncId} {args args':List PV} {Γ Γ':List aj} {Q:PV→List aj→Prop} (hg:dg args Γ args' Γ') (h:af P f args' Γ' Q):af P f args Γ Q:=
 ⟨h.1,fun w0 F M w vs hS hT=>by
  obtain ⟨F1,a1,a2,a3⟩:=hg w0 F M w vs hS hT;refine (h.2 w0 F1 M w vs a2 a3).mono ?_;rintro e w' ⟨v,F',y,Γ2,e1,e2,e3⟩
  exact ⟨v,F',y,Γ2,e1,Fz.le_trans a1 e2,e3⟩⟩
theorem Az {σ:Type} {ds:List Nat} {R:σ→List (Nat×PV)} {G:σ→List aj} {I:σ→Prop} {μ:σ→Nat} {T0:List PV} {s:σ} {T:List PV} {Γ Γ' Γ1:List aj} {D:Ds} (s':σ) (hI:I s') (hμ:μ s' < μ s)
  (hg:au Γ Γ') (hw:cg 0 T T0 ds (R s')) [hp:bC Γ' (G s') Γ1]:jK ds R G I μ T0 s D T Γ D:=⟨rfl,s',hI,hμ,dg.of (cg.wk 0 T T0 ds (R s') hw) (au.trans hg (au.drop hp.p))⟩
def LP (ax:List cY) (k:Nat):Bool:=match ax[k]? with
 | some z=>z.pr && !z.lt
 | none=>false
def Ao (ax:List cY) (own:List Int) (a:Nat):List Int:=dy own.length fun b=>(ax.getD (own.getD a 0).toNat ⟨0,gd,false,false, []⟩).ln.contains (own.getD b 0)
def Ba (f:Nat→List Int) (n a:Nat):List (Option (List Int×Option Tok)):=(List.range n).map fun x=>if x < a then some (f x,none) else none
theorem ri (f:Nat→List Int) (n a:Nat):(Ba f n a).length=n:=by unfold Ba;simp
theorem q9 {f:Nat→List Int} {n a j:Nat} (h:j < (Ba f n a).length):(Ba f n a)[j]=if j < a then some (f j,none) else none:=by simp[Ba]
theorem Fi {f:Nat→List Int} {n a:Nat}:(Ba f n a).set a (some (f a,none))=Ba f n (a + 1):=by
 refine List.ext_getElem (by simp[ri]) fun j h1 h2=>?_;rw[List.getElem_set,q9 h2];by_cases e:a=j
 ·subst e;rw[if_pos rfl,if_pos (by omega)]
 ·rw[if_neg e,q9 (by rw[ri] at h2 ⊢; exact h2)]
  by_cases h:j < a
  ·rw[if_pos h,if_pos (by omega)]
  ·rw[if_neg h,if_neg (by omega)]
theorem B9 (f:Nat→List Int) (n:Nat):List.replicate n PV.nil=(Ba f n 0).map ke:=by
 refine List.ext_getElem (by simp[ri]) fun j h1 h2=>?_;rw[List.getElem_replicate,List.getElem_map,q9,if_neg (by omega)]
theorem B8 (f:Nat→List Int) (n:Nat):(Ba f n n).map ke=((List.range n).map f).map cW:=by
 unfold Ba;rw[List.map_map,List.map_map];refine List.map_congr_left fun x hx=>?_;simp only[Function.comp];rw[if_pos (List.mem_range.1 hx)]
theorem vb {l:List (Option (List Int×Option Tok))} {x:Option (List Int×Option Tok)} (hx: ∀ (a:Nat) (h:a < l.length),Wk (ke l[a]) (ke l[a])) {a:Nat} (ha:a < l.length) (h:Wk (ke l[a]) (ke x)):qA (l.map ke) ((l.set a x).map ke):=by
 induction l generalizing a with
 | nil=>exact absurd ha (by simp)
 | cons y l ih=>
  have hrest: ∀ l:List (Option (List Int×Option Tok)),qA (l.map ke) (l.map ke):=by
   intro l
   induction l with
   | nil=>exact .nil
   | cons z l ih=>exact .cons (fR.refl _) ih
  have hc: ∀ z:Option (List Int×Option Tok),(ke z).cellsOf= [ke z]:=fun z=>by cases z<;>rfl
  cases a with
  | zero=>exact .cons (by rw[hc,hc];exact .cons h .nil) (hrest l)
  | succ a=>
   rw[List.set_cons_succ];exact .cons (fR.refl _) (ih (fun _ _=>Wk.refl _) (by simpa using ha) (by simpa using h))
theorem av.AM {P:Program} {f:FuncId} {args args':List PV} {y:PV} {Γ Γ1:List aj} {K:PV→List aj→Prop} (t:Tok) (es:List PV) [hp:gP Γ (.row t es) Γ1] (hw:jy t es args args') (h:aA P f args' y) (k:K y (.tok t::Γ1)):av P f args Γ K:=by
 have h1:=af.frame h (Γ:=.tok t::Γ1) (Γ2:=.tok t::Γ1) (List.Perm.refl _)
 have h2:af P f args' (.tok t::Γ1) K:=by
  refine ⟨h1.1,fun w0 F M w vs hS hT=>(h1.2 w0 F M w vs hS hT).mono ?_⟩;rintro e w' ⟨v,F',y',Γ',e1,e2,e3,e4,Γ1',rfl,rfl⟩;refine ⟨v,F',_,_,e1,e2,?_,e4,k⟩;refine e3.sub ?_;rw[List.append_assoc];exact List.sublist_append_right _ _
 exact ⟨.inl (af.Qb (dg.bK (hp:=hp) hw) h2)⟩
abbrev ki:cY:=⟨0,gd,false,false, []⟩
def C8 (ax:List cY):List Int→Int→Int
 | [],m=>m
 | j::l,m=>C8 ax l (if (ax.getD j.toNat ki).pr=false∧(ax.getD j.toNat ki).lt=false then max m (j + 1) else m)
theorem Co (ax:List cY) (j:Int): ∀ (l:List Int) (m:Int),C8 ax (l++ [j]) m=if (ax.getD j.toNat ki).pr=false∧(ax.getD j.toNat ki).lt=false then max (C8 ax l m) (j + 1) else C8 ax l m
 | [],m=>rfl
 | x::l,m=>by rw[List.cons_append,C8,Co ax j l,C8]
def Lh (ax:List cY) (gE:cE) (own:List Int):List Int→Int→Int
 | [],m=>m
 | a::l,m=>Lh ax gE own l (C8 ax (bF gE [own.getD a.toNat 0]) m)
theorem Cn (ax:List cY) (gE:cE) (own:List Int) (a:Int): ∀ (l:List Int) (m:Int),Lh ax gE own (l++ [a]) m=C8 ax (bF gE [own.getD a.toNat 0]) (Lh ax gE own l m)
 | [],m=>rfl
 | x::l,m=>by rw[List.cons_append,Lh,Cn ax gE own a l,Lh]
def G6 (ax:List cY) (gE:cE) (own:List Int) (grp:List Int):jE:=⟨Lh ax gE own grp 0,grp.map fun a=>(ax.getD (own.getD a.toNat 0).toNat ki).v,grp.map fun a=>(ax.getD (own.getD a.toNat 0).toNat ki).e⟩
instance cn.RZ (lv:Int) (vs:List Int) (ts:List aa) (t1 t2:Option Tok):cn jE.pv (.agg [.int .i64 lv,.int .i64 9,.int .i64 0,.sl 1 (vs.map (PV.int .i64)) t1,.sl 4 (ts.map aa.pv) t2]) ⟨lv,vs,ts⟩:=
 ⟨Wk.agg (.cons (Wk.refl _) (.cons (Wk.refl _) (.cons (Wk.refl _) (.cons (Wk.tok _ _ _) (.cons (Wk.tok _ _ _) .nil))))),.cons (Wk.refl _) (.cons (Wk.refl _) (.cons (Wk.refl _) (.cons (Wk.tok _ _ _) (.cons (Wk.tok _ _ _) .nil))))⟩
theorem B4 (g:cE): ∀ (f:Nat) (done:List Bool) (n:Nat),(kg g f done n).length≤f
 | 0,_,_=>by rw[kg];exact Nat.le_refl _
 | f + 1,done,n=>by
  rw[kg]
  split
  ·split
   ·exact Nat.zero_le _
   ·have:=B4 g f
    rw[List.length_cons];exact Nat.succ_le_succ (this _ _)
  ·exact Nat.zero_le _
theorem kH (g:cE):(ee g).length≤g.length:=by
 unfold ee jA;rw[List.length_map];exact B4 g _ _ _
theorem nu {g:cE} (hg:kO g) {l:List Int} (h:l∈ee g):l.length≤g.length∧ ∀ x∈l,0≤x∧x < (g.length:Int):=by
 unfold ee at h;obtain ⟨ks,hk,rfl⟩:=List.mem_map.1 h;have hp:=nv hg;have h1:ks.Sublist (jA g).flatten:=List.sublist_flatten_of_mem hk;have h2:=h1.length_le;rw[hp.length_eq,List.length_range] at h2;refine ⟨by rw[List.length_map];exact h2,fun x hx=>?_⟩;obtain ⟨k,hkm,rfl⟩:=List.mem_map.1 hx;have:=List.mem_range.1 (hp.mem_iff.1 (h1.subset hkm));exact ⟨by omega,by omega⟩
def jk (ax:List cY):List jE:=(ee ((List.range (dy ax.length (LP ax)).length).map (Ao ax (dy ax.length (LP ax))))).map (G6 ax (lX (fun x=>x.pr && !x.lt) ax) (dy ax.length (LP ax)))
theorem GD {p q:Prop} (k:q) (h:q→p:=by intro hq;first | exact aC.sT (some 100) rfl [9,19] [22,23,24,25] ai mixed hq):p:=h k
theorem x9 (ax:List cY) (ti:Tok) (hts:ti.s=8) (hl:ax.length≤500) (hln: ∀ x∈ax,x.ln.length≤500) (hlr: ∀ x∈ax, ∀ y∈x.ln,0≤y∧y < (ax.length:Int)):
  af Tryz.prog 147 [.ms ti] [.row ti (ax.map cY.pv)] (fun y Γ'=>y=.sl 5 ((jk ax).map jE.pv) none∧Γ'= [.row ti (ax.map cY.pv)]):=by
 refine af.ah ai Tryz.func147 rfl rfl (n:=165) rfl rfl ?_
 conv=>whnf
 skip
 refine av.go (y7 ax ti hts 193 (fun x=>x.pr && !x.lt) E5 (by omega)) (aX.refl _) ?_;rintro _ _ ⟨rfl,rfl⟩;generalize hgE:lX (fun x=>x.pr && !x.lt) ax=gE
 conv=>whnf
 repeat' (first|(((refine dQ.map fun _=>?_));conv=>whnf)|(refine zX (fun hc=>?_) (fun hc=>?_)<;>(try simp only[SY] at hc)<;>omega))
 refine aq.cj (au.nil 1 3 _) ?_;refine aq.over [4,5,6,29,30,31,32,33,34,35,36,37,38,39,40] (fun x:Nat×List Int×Tok=> [(4,.sl 1 (x.2.1.map (PV.int .i64)) (some x.2.2)),(29,.int .i64 x.1)]) (fun x=> [.tok x.2.2,.row ti (ax.map cY.pv)]) (fun x=>x.1≤ax.length∧x.2.2.e=3∧x.2.1=dy x.1 (LP ax)) (fun x=>ax.length - x.1) (0, [],ay 1 3) ⟨Nat.zero_le _,rfl,rfl⟩ (by repeat' (first|exact trivial|refine And.intro ?_ ?_|exact Wk.ay _ _|exact Wk.refl _)) ?_;rintro ⟨i,own,tk⟩ ⟨hi,hte,hown⟩;dsimp only at hi hte hown ⊢;have hol:own.length≤i:=by rw[hown];exact bO _ _
 rcases Nat.lt_or_ge i ax.length with hlt | hge
 ·have hsn:=fo i (LP ax)
  have her:LP ax i=(ax[i].pr && !ax[i].lt):=by unfold LP;rw[List.getElem?_eq_getElem hlt]
  rw[←hown,her] at hsn;have hea:=E5 ax[i]
  cases hc2:(ax[i].pr && !ax[i].lt) with
  | true=>
   rw[hc2] at hea;rw[if_pos hc2] at hsn
   conv=>whnf
   repeat' (first|((first|refine aM ?_|refine pC (hea) wR ?_|refine aF ?_|intro _|refine zG ?_);conv=>whnf)|(refine zX (fun hc=>?_) (fun hc=>?_)<;>(try simp only[SY] at hc)<;>first|omega|(conv=>whnf)))
   rename Tok=>t5
   exact an (i + 1,own++ [(i:Int)],t5) ⟨by show i + 1≤_;omega,by assumption,hsn.symm⟩ (by show ax.length - (i + 1) < ax.length - i;omega) wA
  | false=>
   rw[hc2] at hea;rw[if_neg (by rw[hc2];decide),List.append_nil] at hsn
   conv=>whnf
   repeat' (first|((first|refine aM ?_|refine pC (hea) wR ?_|refine aF ?_|intro _|refine zG ?_);conv=>whnf)|(refine zX (fun hc=>?_) (fun hc=>?_)<;>(try simp only[SY] at hc)<;>first|omega|(conv=>whnf)))
   exact an (i + 1,own,tk) ⟨by show i + 1≤_;omega,hte,hsn.symm⟩ (by show ax.length - (i + 1) < ax.length - i;omega) wA
 ·obtain rfl:i=ax.length:=by omega
  have hor: ∀ c∈own,0≤c∧c < (ax.length:Int):=fun c hc=>by
   rw[hown] at hc;have:=iO.1 hc;exact ⟨this.1,this.2.1⟩
  conv=>whnf
  repeat' (first|((first|refine gO.row (by omega) (by omega) (by omega) (by show _ * 24≤_;omega) rfl fun tr hre hrs=>?_|refine aM ?_|intro _);conv=>whnf)|(refine zX (fun hc=>?_) (fun hc=>?_)<;>(try simp only[SY] at hc)<;>first|omega|(conv=>whnf)))
  rw[Int.toNat_natCast,B9 (Ao ax own)];refine aq.over [8,9,10,11,46,47,48,49,50,51,52,53,54,55,56,57,58,59,60,61,62,63,64,65,66,67,68,69,70,71,72,73,74,75,76] (fun a:Nat=> [(46,.int .i64 a)]) (fun a=> [.row tr ((Ba (Ao ax own) own.length a).map ke),.tok tk,.row ti (ax.map cY.pv)]) (fun a=>a≤own.length) (fun a=>own.length - a) 0 (Nat.zero_le _) wA ?_;intro a ha;have hil:=ri (Ao ax own) own.length a;rcases Nat.lt_or_ge a own.length with halt | hage
  ·have hset:=Fi (f:=Ao ax own) (n:=own.length) (a:=a)
   have hia:(Ba (Ao ax own) own.length a)[a]?=some none:=by rw[List.getElem?_eq_getElem (by omega),q9,if_neg (by omega)]
   have hoa:=hor _ (List.getElem_mem halt);generalize hW:Ba (Ao ax own) own.length a=Ws at *;have haw:a < Ws.length:=by omega
   have hga:Ws[a]=none:=by rw[List.getElem?_eq_getElem haw] at hia;exact Option.some.inj hia
   have hia2:own[a].toNat < ax.length:=by omega
   have hin:Ao ax own a=dy own.length (fun b=>ax[own[a].toNat].ln.contains (own.getD b 0)):=by
    unfold Ao;rw[List.getD_eq_getElem?_getD (l:=own) (i:=a),List.getElem?_eq_getElem halt,Option.getD_some,List.getD_eq_getElem?_getD (l:=ax),List.getElem?_eq_getElem hia2,Option.getD_some]
   conv=>whnf
   repeat' (first|((first|refine aM ?_|intro _);conv=>whnf)|(refine zX (fun hc=>?_) (fun hc=>?_)<;>(try simp only[SY] at hc)<;>first|omega|(conv=>whnf)))
   refine aq.cj (au.trans (au.nil 1 3 _) (au.tq (t:=tr) (es':=(Ws.set a (some (([]:List Int),some (ay 1 3)))).map ke) (vb (fun _ _=>Wk.refl _) haw (by rw[hga];exact Wk.ay 1 3)))) ?_;refine aq.over [10,11,53,54,55,56,57,58,59,60,61,62,63,64,65,66,67,68,69,70,71,72,73,74,75] (fun x:Nat×List Int×Tok=> [(53,.int .i64 x.1)]) (fun x=> [.row tr ((Ws.set a (some (x.2.1,some x.2.2))).map ke),.tok x.2.2,.tok tk,.row ti (ax.map cY.pv)]) (fun x=>x.1≤own.length∧x.2.2.e=3∧x.2.1=dy x.1 (fun b=>ax[own[a].toNat].ln.contains (own.getD b 0))) (fun x=>own.length - x.1) (0, [],ay 1 3) ⟨Nat.zero_le _,rfl,rfl⟩ wA ?_;rintro ⟨b,l,tkl⟩ ⟨hb1,hte2,hl2⟩;dsimp only at hb1 hte2 hl2 ⊢;have hll:l.length≤b:=by rw[hl2];exact bO _ _
   have hsl:(Ws.set a (some (l,some tkl))).length=own.length:=by rw[List.length_set];exact hil
   rcases Nat.lt_or_ge b own.length with hblt | hbge
   ·have hsn:=fo b (fun b=>ax[own[a].toNat].ln.contains (own.getD b 0))
    rw[←hl2,List.getD_eq_getElem?_getD,List.getElem?_eq_getElem hblt,Option.getD_some] at hsn;have hin0:b=b:=rfl
    cases hc2:ax[own[a].toNat].ln.contains own[b] with
    | true=>
     rw[if_pos hc2] at hsn;have hcc:=fT ax[own[a].toNat].ln own[b];rw[hc2] at hcc
     conv=>whnf
     repeat' (first|((first|refine aM ?_|refine pC (hcc) wR ?_|refine aF ?_|intro _|refine zG ?_);conv=>whnf)|(refine zX (fun hc=>?_) (fun hc=>?_)<;>(try simp only[SY] at hc)<;>first|omega|(conv=>whnf)))
     rw[List.getElem_set_self]
     conv=>whnf
     repeat' (first|((first|refine aM ?_|refine aF ?_|intro _);conv=>whnf)|(refine zX (fun hc=>?_) (fun hc=>?_)<;>(try simp only[SY] at hc)<;>omega))
     rename Tok=>t5
     rw[List.set_set];exact an (b + 1,l++ [(b:Int)],t5) ⟨by show b + 1≤_;omega,by assumption,hsn.symm⟩ (by show own.length - (b + 1) < own.length - b;omega) wA
    | false=>
     rw[if_neg (by rw[hc2];decide),List.append_nil] at hsn;have hcc:=fT ax[own[a].toNat].ln own[b];rw[hc2] at hcc
     conv=>whnf
     repeat' (first|((first|refine aM ?_|refine pC (hcc) wR ?_|refine aF ?_|refine zG ?_);conv=>whnf)|(refine zX (fun hc=>?_) (fun hc=>?_)<;>(try simp only[SY] at hc)<;>first|omega|(conv=>whnf)))
     exact an (b + 1,l,tkl) ⟨by show b + 1≤_;omega,hte2,hsn.symm⟩ (by show own.length - (b + 1) < own.length - b;omega) wA
   ·obtain rfl:b=own.length:=by omega
    rw[←hin] at hl2
    conv=>whnf
    repeat' (first|((refine aM ?_);conv=>whnf)|(refine zX (fun hc=>?_) (fun hc=>?_)<;>(try simp only[SY] at hc)<;>first|omega|(conv=>whnf)))
    exact Az (a + 1) (by show a + 1≤_;omega) (by show own.length - (a + 1) < own.length - a;omega) (au.tq (t:=tr) (es':=(Ba (Ao ax own) own.length (a + 1)).map ke) (by rw[←hset, ←hl2];have:=vb (l:=Ws.set a (some (l,some tkl))) (x:=some (l,none)) (fun _ _=>Wk.refl _) (a:=a) (by omega) (by rw[List.getElem_set_self];exact Wk.tok _ _ _);rwa [List.set_set] at this)) wA
  ·obtain rfl:a=own.length:=by omega
   rw[B8];have hgl:((List.range own.length).map (Ao ax own)).length=own.length:=by simp
   have hgo:kO ((List.range own.length).map (Ao ax own)):=fun l hl x hx=>by
    obtain ⟨a,ha,rfl⟩:=List.mem_map.1 hl;have:=iO.1 hx;rw[hgl];exact ⟨this.1,this.2.1⟩
   have hgs:eL ((List.range own.length).map (Ao ax own))≤500 * 500:=by
    have:=mO ((List.range own.length).map (Ao ax own)) own.length fun l hl=>by
     obtain ⟨a,ha,rfl⟩:=List.mem_map.1 hl;exact bO _ _
    rw[hgl] at this;exact Nat.le_trans this (Nat.mul_le_mul (by omega) (by omega))
   have hgm:=fun l h=>nu hgo (l:=l) h;have hgn:=kH ((List.range own.length).map (Ao ax own));rw[hgl] at hgm hgn
   conv=>whnf
   repeat' ((refine zX (fun hc=>?_) (fun hc=>?_)<;>(try simp only[SY] at hc)<;>first|omega|(conv=>whnf)))
   refine av.AM tr (((List.range own.length).map (Ao ax own)).map cW) (.cons (iA.ms' hrs) .nil) (DV _ hgo (by omega) (by omega)) ?_;generalize hGR:ee ((List.range own.length).map (Ao ax own))=GR at *
   conv=>whnf
   repeat' (first|((first|refine aM ?_|intro _);conv=>whnf)|(refine zX (fun hc=>?_) (fun hc=>?_)<;>(try simp only[SY] at hc)<;>omega))
   have hgEo:kO gE:=fun l hl x hx=>by
    rw[←hgE] at hl ⊢;obtain ⟨z,hz,rfl⟩:=List.mem_map.1 hl;have:(lX (fun x=>x.pr && !x.lt) ax).length=ax.length:=by simp[lX]
    rw[this]
    split at hx
    ·exact hlr z hz x hx
    ·cases hx
   have hgEl:gE.length=ax.length:=by rw[←hgE];simp[lX]
   have hgEs:eL gE≤500 * 500:=by
    have:=mO gE 500 fun l hl=>by
     rw[←hgE] at hl;obtain ⟨z,hz,rfl⟩:=List.mem_map.1 hl
     split
     ·exact hln z hz
     ·exact Nat.zero_le _
    exact Nat.le_trans this (Nat.mul_le_mul (by omega) (Nat.le_refl _))
   refine aq.cj (au.nil 5 252 _) ?_;refine aq.over [14,16,17,19,20,21,22,24,84,85,86,87,88,89,90,91,92,93,94,95,96,97,98,99,100,101,102,103,104,105,106,107,108,109,110,111,112,113,114,115,116,117,118,119,120,121,122,123,124,125,126,127,128,129,130,131,132,133,134,135,136,137,138,139,140,141,142,143,144,145,146,147,148,149,150,151,152,153,154,155,156,157,158,159,160,161,162,163] (fun x:Nat×List jE×Tok=> [(14,.sl 5 (x.2.1.map jE.pv) (some x.2.2)),(84,.int .i64 x.1)]) (fun x=> [.tok x.2.2,.row ti (ax.map cY.pv)]) (fun x=>x.1≤GR.length∧x.2.2.e=252∧x.2.1=(GR.take x.1).map (G6 ax gE own)) (fun x=>GR.length - x.1) (0, [],ay 5 252) ⟨Nat.zero_le _,rfl,rfl⟩ (by repeat' (first|exact trivial|refine And.intro ?_ ?_|exact Wk.ay _ _|exact Wk.refl _)) ?_;rintro ⟨i,fs,tf⟩ ⟨hi,htf,hfs⟩;dsimp only at hi htf hfs ⊢;have hfl:fs.length=i:=by rw[hfs,List.length_map,List.length_take];omega
   rcases Nat.lt_or_ge i GR.length with hig | hig
   ·obtain ⟨hgl1,hgr⟩:=hgm _ (List.getElem_mem hig)
    have hfsn:fs++ [G6 ax gE own GR[i]]=(GR.take (i + 1)).map (G6 ax gE own):=by rw[List.take_succ_eq_append_getElem hig,List.map_append,hfs];rfl
    conv=>whnf
    repeat' (first|((first|refine aM ?_|refine aF ?_|intro _);conv=>whnf)|(refine zX (fun hc=>?_) (fun hc=>?_)<;>(try simp only[SY] at hc)<;>first|omega|(conv=>whnf)))
    rename Nat=>b17
    generalize hgrp:GR[i]=grp at *;refine aq.cj (au.trans (au.nil 1 3 _) (au.trans (au.nil 4 26 _) (au.box (b:=b17) (cs:= [.int .i64 0,.int .i64 9,.int .i64 0,.nil,.nil]) (cs':= [.int .i64 0,.int .i64 9,.int .i64 0,.sl 1 (([]:List Int).map (PV.int .i64)) (some (ay 1 3)),.sl 4 (([]:List aa).map aa.pv) (some (ay 4 26))]) wA))) ?_
    refine aq.over [19,20,21,22,24,92,93,94,95,96,97,98,99,100,101,102,103,104,105,106,107,108,109,110,111,112,113,114,115,116,117,118,119,120,121,122,123,124,125,126,127,128,129,130,131,132,133,134,135,136,137,138,139,140,141,142,143,144,145,146,147,148,149,150,151,152,153,154,155,156,157,158] (fun x:Nat×Int×(List Int×Tok)×(List aa×Tok)=> [(92,.int .i64 x.1)]) (fun x=> [.box b17 [.int .i64 x.2.1,.int .i64 9,.int .i64 0,.sl 1 (x.2.2.1.1.map (PV.int .i64)) (some x.2.2.1.2),.sl 4 (x.2.2.2.1.map aa.pv) (some x.2.2.2.2)],.tok x.2.2.1.2,.tok x.2.2.2.2,.tok tf,.row ti (ax.map cY.pv)])
     (fun x=>x.1≤grp.length∧x.2.2.1.2.e=3∧x.2.2.2.2.e=26∧x.2.1=Lh ax gE own (grp.take x.1) 0∧x.2.2.1.1=(grp.take x.1).map (fun a=>(ax.getD (own.getD a.toNat 0).toNat ki).v)∧x.2.2.2.1=(grp.take x.1).map (fun a=>(ax.getD (own.getD a.toNat 0).toNat ki).e)) (fun x=>grp.length - x.1) (0,0,([],ay 1 3),([],ay 4 26)) ⟨Nat.zero_le _,rfl,rfl,rfl,rfl,rfl⟩ wA ?_
    rintro ⟨j,lv,⟨vs,tv⟩,⟨ts,tm⟩⟩ ⟨hj,htv,htm,hlv,hvs,hts2⟩;dsimp only at hj htv htm hlv hvs hts2 ⊢;have hvl:vs.length=j:=by rw[hvs,List.length_map,List.length_take];omega
    have htl:ts.length=j:=by rw[hts2,List.length_map,List.length_take];omega
    rcases Nat.lt_or_ge j grp.length with hjl | hjl
    ·have hga:=hgr _ (List.getElem_mem hjl)
     have hac:grp[j].toNat < own.length:=by omega
     have hka:=hor _ (List.getElem_mem hac);have hod:own.getD grp[j].toNat 0=own[grp[j].toNat]:=by rw[List.getD_eq_getElem?_getD,List.getElem?_eq_getElem hac];rfl
     have hkc:own[grp[j].toNat].toNat < ax.length:=by omega
     have hid:ax.getD own[grp[j].toNat].toNat ki=ax[own[grp[j].toNat].toNat]:=by rw[List.getD_eq_getElem?_getD,List.getElem?_eq_getElem hkc];rfl
     have hvsn:vs++ [ax[own[grp[j].toNat].toNat].v]=(grp.take (j + 1)).map (fun a=>(ax.getD (own.getD a.toNat 0).toNat ki).v):=by rw[List.take_succ_eq_append_getElem hjl,List.map_append, ←hvs,List.map_cons,List.map_nil,hod,hid]
     have htsn:ts++ [ax[own[grp[j].toNat].toNat].e]=(grp.take (j + 1)).map (fun a=>(ax.getD (own.getD a.toNat 0).toNat ki).e):=by rw[List.take_succ_eq_append_getElem hjl,List.map_append, ←hts2,List.map_cons,List.map_nil,hod,hid]
     have hlsn:Lh ax gE own (grp.take (j + 1)) 0=C8 ax (bF gE [own[grp[j].toNat]]) lv:=by rw[List.take_succ_eq_append_getElem hjl,Cn, ←hlv,hod]
     have hRin:zb gE [own[grp[j].toNat]]:=fun x hx=>by rw[List.mem_singleton.1 hx,hgEl];exact hka
     have hRr: ∀ c∈bF gE [own[grp[j].toNat]],0≤c∧c < (ax.length:Int):=fun c hc=>by
      have:=((eG hgEo hRin c).1 hc).Ip hgEo hRin;rwa [hgEl] at this
     have hRl:=j5 gE [own[grp[j].toNat]]
     conv=>whnf
     repeat' (first|((first|((apply zZ);first|exact tB|((conv=>whnf);(repeat ((refine aH ?_);conv=>whnf));exact pZ))|refine aM ?_|refine pC (xE gE [own[grp[j].toNat]] hgEo hRin (by omega) (by simp;omega)) (by ((repeat' (first|exact aX.nil|apply aX.cons|exact Wk.refl _|exact Wk.int OA|exact Wk.tt rfl|exact Wk.ff rfl|exact Wk.eu rfl|exact Wk.tok _ _ _));first|done|fail)) ?_|refine aF ?_|refine GD ?_|intro _);conv=>whnf)|(refine zX (fun hc=>?_) (fun hc=>?_)<;>(try simp only[SY] at hc)<;>first|omega|(conv=>whnf)))
     rename_i tv2 htv2 tm2 htm2 _ _ _;generalize bF gE [own[grp[j].toNat]]=R at *;generalize hvs3:vs++ [ax[own[grp[j].toNat].toNat].v]=vs3 at *;generalize hts3:ts++ [ax[own[grp[j].toNat].toNat].e]=ts3 at *;refine aq.over [24,133,134,135,136,137,138,139,140,141,142,143,144,145,146,147,148,149,150,151,152,153,154,155,156,157] (fun m:Nat=> [(133,.int .i64 m)]) (fun m=> [.tok tv2,.tok tm2,.tok tf,.box b17 [.int .i64 (C8 ax (R.take m) lv),.int .i64 9,.int .i64 0,.sl 1 (vs3.map (PV.int .i64)) (some tv2),.sl 4 (ts3.map aa.pv) (some tm2)],.row ti (ax.map cY.pv)]) (fun m=>m≤R.length) (fun m=>R.length - m) 0 (Nat.zero_le _) wA (hp:=⟨(List.perm_append_singleton _ _).symm⟩) (Γ1:= [_]) ?_;intro m hm;rcases Nat.lt_or_ge m R.length with hml | hml
     ·have hcr:=hRr _ (List.getElem_mem hml)
      have hcl:R[m].toNat < ax.length:=by omega
      have hid2:ax.getD R[m].toNat ki=ax[R[m].toNat]:=by rw[List.getD_eq_getElem?_getD,List.getElem?_eq_getElem hcl];rfl
      have hls:=Co ax R[m] (R.take m) lv;rw[←List.take_succ_eq_append_getElem hml,hid2] at hls;by_cases hcd:ax[R[m].toNat].pr=false∧ax[R[m].toNat].lt=false
      ·rw[if_pos hcd] at hls
       conv=>whnf
       repeat' (first|((first|(((apply zY;intro hg));first|exact tB|((conv=>whnf);(repeat ((refine aH ?_);conv=>whnf));exact pZ))|refine aM ?_|refine aF ?_|refine zG ?_);conv=>whnf)|(refine zX (fun hc=>?_) (fun hc=>?_)<;>(try simp only[SY] at hc)<;>first|omega|(conv=>whnf)))
       ·have hmx:C8 ax (R.take (m + 1)) lv=if C8 ax (R.take m) lv < R[m] + 1 then R[m] + 1 else C8 ax (R.take m) lv:=by
         rw[hls]
         split<;>omega
        rw[←hmx];exact an (m + 1) (by show m + 1≤_;omega) (by show R.length - (m + 1) < R.length - m;omega) wA
       ·rcases (by assumption:ax[R[m].toNat].pr=true∨ax[R[m].toNat].lt=true) with h | h
        ·rw[hcd.1] at h;cases h
        ·rw[hcd.2] at h;cases h
      ·rw[if_neg hcd] at hls
       conv=>whnf
       repeat' (first|((first|(((apply zY;intro hg));first|exact tB|((conv=>whnf);(repeat ((refine aH ?_);conv=>whnf));exact pZ))|refine aM ?_|refine aF ?_|refine zG ?_);conv=>whnf)|(refine zX (fun hc=>?_) (fun hc=>?_)<;>(try simp only[SY] at hc)<;>first|omega|(conv=>whnf)))
       ·exact absurd (by assumption) hcd
       ·rw[←hls]
        exact an (m + 1) (by show m + 1≤_;omega) (by show R.length - (m + 1) < R.length - m;omega) wA
     ·obtain rfl:m=R.length:=by omega
      rw[List.take_length]
      conv=>whnf
      repeat' (first|((refine aM ?_);conv=>whnf)|(refine zX (fun hc=>?_) (fun hc=>?_)<;>(try simp only[SY] at hc)<;>first|omega|(conv=>whnf)))
      exact an (j + 1,C8 ax R lv,(vs3,tv2),(ts3,tm2)) ⟨by show j + 1≤_;omega,htv2,htm2,hlsn.symm,hvsn,htsn⟩ (by show grp.length - (j + 1) < grp.length - j;omega) wA
    ·obtain rfl:j=grp.length:=by omega
     rw[List.take_length] at hlv hvs hts2;have hfx:G6 ax gE own grp=⟨lv,vs,ts⟩:=by rw[hlv,hvs,hts2];rfl
     rw[hfx] at hfsn
     conv=>whnf
     repeat' (first|((first|refine aM ?_|refine aF ?_|intro _);conv=>whnf)|(refine zX (fun hc=>?_) (fun hc=>?_)<;>(try simp only[SY] at hc)<;>first|omega|(conv=>whnf)))
     rename Tok=>t5
     exact an (i + 1,fs++ [⟨lv,vs,ts⟩],t5) ⟨by show i + 1≤_;omega,by assumption,hfsn⟩ (by show GR.length - (i + 1) < GR.length - i;omega) wA
   ·obtain rfl:i=GR.length:=by omega
    conv=>whnf
    repeat' ((refine zX (fun hc=>?_) (fun hc=>?_)<;>(try simp only[SY] at hc)<;>first|omega|(conv=>whnf)))
    exact ak.gen (y:=.sl 5 (fs.map jE.pv) none) (Γ':= [.row ti (ax.map cY.pv)]) (Wk.tok _ _ _) ⟨by rw[hfs,List.take_length];unfold jk;rw[←hown,hgE,hGR],rfl⟩
def wY (ax:List cY) (fs:List jE) (k:Nat):List aa:=if (ax.getD k ki).lt=true then [mM (ax.getD k ki).v (ax.getD k ki).e] else if (ax.getD k ki).pr=true then [] else kY (ax.getD k ki).v (ax.getD k ki).e::bE fs ((k:Int) + 1)
theorem iL (fs:List jE) (lv:Int):(bE fs lv).length≤fs.length:=by
 unfold bE;rw[List.length_map];exact List.length_filter_le _ _
theorem KM (bc:Nat) (tk:Tok) (l0:List aa) (ax:List cY) (ti:Tok) (h1:tk.e=26) (h2:tk.s=4) (hl0:l0.length≤10000) (hts:ti.s=8) (hl:ax.length≤500) (hln: ∀ x∈ax,x.ln.length≤500) (hlr: ∀ x∈ax, ∀ y∈x.ln,0≤y∧y < (ax.length:Int)) (hfl:(jk ax).length≤500):
  af Tryz.prog 92 [.ptr bc 0,.ms ti] (.row ti (ax.map cY.pv)::Il bc tk l0) (fun y Γ'=> ∃ tk':Tok,tk'.e=26∧tk'.s=4∧y=.bn []∧Γ'=.row ti (ax.map cY.pv)::Il bc tk' (l0++(bE (jk ax) 0++(List.range ax.length).flatMap (wY ax (jk ax))))):=by
 refine af.ah ai Tryz.func92 rfl rfl (n:=44) rfl rfl ?_
 conv=>whnf
 skip
 refine av.go (x9 ax ti hts hl hln hlr) (aX.refl _) ?_;rintro _ _ ⟨rfl,rfl⟩;generalize jk ax=fs at *
 conv=>whnf
 skip
 refine av.go (Af bc tk l0 fs 0 h1 h2 (by omega)) (aX.refl _) ?_;rintro _ _ ⟨tk1,k1,k2,rfl,rfl⟩
 conv=>whnf
 repeat' (first|(((refine dQ.map fun _=>?_));conv=>whnf)|(refine zX (fun hc=>?_) (fun hc=>?_)<;>(try simp only[SY] at hc)<;>omega))
 have hf0:=iL fs 0;refine aq.over [5,6,14,15,16,17,18,19,20,21,22,23,24,25,26,27,28,29,30,31,32,33,34,35,36,37,38,39,40,41,42,43] (fun x:Nat×Tok×List aa=> [(14,.int .i64 x.1)]) (fun x=> [.row ti (ax.map cY.pv),.box bc [.ms x.2.1],.row x.2.1 (x.2.2.map aa.pv)]) (fun x=>x.1≤ax.length∧x.2.1.e=26∧x.2.1.s=4∧x.2.2=l0++(bE fs 0++(List.range x.1).flatMap (wY ax fs))∧x.2.2.length≤20000 + x.1 * 501) (fun x=>ax.length - x.1) (0,tk1,l0++bE fs 0) ⟨Nat.zero_le _,k1,k2,by simp,by dsimp only;rw[List.length_append];omega⟩ wA ?_;rintro ⟨i,tk,l⟩ ⟨hi,h1,h2,hls,hll⟩;dsimp only at hi h1 h2 hls hll ⊢;rcases Nat.lt_or_ge i ax.length with hlt | hge
 ·have hst:l++wY ax fs i=l0++(bE fs 0++(List.range (i + 1)).flatMap (wY ax fs)):=by rw[hls,List.range_succ,List.flatMap_append,List.append_assoc,List.append_assoc];simp
  have hid:ax.getD i ki=ax[i]:=by rw[List.getD_eq_getElem?_getD,List.getElem?_eq_getElem hlt];rfl
  rw[wY,hid] at hst;have hfi:=iL fs ((i:Int) + 1)
  conv=>whnf
  repeat' (first|((first|refine aM ?_|refine aF ?_|intro _|refine zG ?_);conv=>whnf)|(refine zX (fun hc=>?_) (fun hc=>?_)<;>(try simp only[SY] at hc)<;>first|omega|(conv=>whnf)))
  ·rw[if_pos (by assumption)] at hst
   refine av.go (F6 bc tk l ax[i].v ax[i].e h1 h2 (by omega)) (aX.refl _) ?_;rintro _ _ ⟨tk2,e1,e2,rfl,rfl⟩
   conv=>whnf
   repeat' (first|((refine aM ?_);conv=>whnf)|(refine zX (fun hc=>?_) (fun hc=>?_)<;>(try simp only[SY] at hc)<;>omega))
   exact an (i + 1,tk2,l++ [mM ax[i].v ax[i].e]) ⟨by show i + 1≤_;omega,e1,e2,hst,by show (l++ [_]).length≤20000 + (i + 1) * 501;rw[List.length_append,List.length_singleton];omega⟩ (by show ax.length - (i + 1) < ax.length - i;omega) wA
  ·rw[if_neg (by simp_all),if_neg (by simp_all)] at hst
   refine av.go (Aw bc tk l ax[i].v ax[i].e h1 h2 (by omega)) (aX.refl _) ?_;rintro _ _ ⟨tk2,e1,e2,rfl,rfl⟩
   conv=>whnf
   repeat' (first|((refine aM ?_);conv=>whnf)|(refine zX (fun hc=>?_) (fun hc=>?_)<;>(try simp only[SY] at hc)<;>omega))
   refine av.go (Af bc tk2 (l++ [kY ax[i].v ax[i].e]) fs ((i:Int) + 1) e1 e2 (by rw[List.length_append,List.length_singleton];omega)) (aX.refl _) ?_;rintro _ _ ⟨tk3,e3,e4,rfl,rfl⟩
   conv=>whnf
   repeat' (first|((refine aM ?_);conv=>whnf)|(refine zX (fun hc=>?_) (fun hc=>?_)<;>(try simp only[SY] at hc)<;>omega))
   exact an (i + 1,tk3,l++ [kY ax[i].v ax[i].e]++bE fs ((i:Int) + 1)) ⟨by show i + 1≤_;omega,e3,e4,by show l++ [_]++_=_;rw[←hst,List.append_assoc];rfl,by show (l++ [_]++_).length≤20000 + (i + 1) * 501;rw[List.length_append,List.length_append,List.length_singleton];omega⟩ (by show ax.length - (i + 1) < ax.length - i;omega) wA
  ·rw[if_neg (by simp_all),if_pos (by simp_all),List.append_nil] at hst
   exact an (i + 1,tk,l) ⟨by show i + 1≤_;omega,h1,h2,hst,by show l.length≤20000 + (i + 1) * 501;omega⟩ (by show ax.length - (i + 1) < ax.length - i;omega) wA
 ·obtain rfl:i=ax.length:=by omega
  rw[←hls]
  conv=>whnf
  repeat' ((refine zX (fun hc=>?_) (fun hc=>?_)<;>(try simp only[SY] at hc)<;>first|omega|(conv=>whnf)))
  exact ak.gen (y:=.bn []) (Γ':=.row ti (ax.map cY.pv)::Il bc tk l) (Wk.refl _) ⟨tk,h1,h2,rfl,rfl⟩
mutual
def aa.ct (o:Int):aa→Nat
 | .mk op _ _ t=>(if op=o then 1 else 0) + aa.fB o t
def aa.fB (o:Int):List aa→Nat
 | []=>0
 | x::xs=>aa.ct o x + aa.fB o xs
end
theorem aa.EY (o:Int) (t:aa):t.ct o=(if t.op=o then 1 else 0) + aa.fB o t.t:=by cases t;rw[aa.ct];rfl
theorem aa.oQ (o op n:Int) (v:List Int) (l:List aa):(aa.mk op n v l).ct o=(if op=o then 1 else 0) + aa.fB o l:=by rw[aa.ct]
theorem aa.vw (o:Int): ∀ l m:List aa,aa.fB o (l++m)=aa.fB o l + aa.fB o m
 | [],m=>by simp[aa.fB]
 | x::l,m=>by rw[List.cons_append,aa.fB,aa.fB,aa.vw o l m];omega
theorem kF (o:Int): ∀ l:List aa,aa.fB o l=(l.map (aa.ct o)).sum
 | []=>by rw[aa.fB];rfl
 | x::l=>by rw[aa.fB,kF o l];rfl
theorem sum_append (a b:List Nat):(a++b).sum=a.sum + b.sum:=List.sum_append
theorem AB {l:List Nat} {f:Nat→Int} (hf: ∀ a b,f a=f b→a=b) (h:l.Nodup):(l.map f).Nodup:=List.pairwise_map.2 (h.imp fun hab e=>hab (hf _ _ e))
theorem j9 (c:jE→Nat): ∀ (L:List Int) (fs:List jE),L.Nodup→(∀ f∈fs,f.lv∈L)→(L.map fun lv=>((fs.filter fun f=>f.lv == lv).map c).sum).sum=(fs.map c).sum
 | [],fs,_,h=>by
  cases fs with
  | nil=>rfl
  | cons f fs=>exact absurd (h f (List.mem_cons_self ..)) (by simp)
 | lv::L,fs,hn,h=>by
  rw[List.nodup_cons] at hn;rw[List.map_cons,List.sum_cons]
  have h1:=j9 c L (fs.filter fun f=>!(f.lv == lv)) hn.2 fun f hf=>by
   obtain ⟨q1,q2⟩:=List.mem_filter.1 hf;rcases List.mem_cons.1 (h f q1) with e | e
   ·rw[e] at q2;simp at q2
   ·exact e
  have h2:(L.map fun lv'=>(((fs.filter fun f=>!(f.lv == lv)).filter fun f=>f.lv == lv').map c).sum)=L.map fun lv'=>((fs.filter fun f=>f.lv == lv').map c).sum:=by
   refine List.map_congr_left fun lv' hl=>?_;rw[List.filter_filter];congr 2;refine List.filter_congr fun f _=>?_;by_cases e:f.lv=lv'
   ·have: ¬f.lv=lv:=fun e2=>hn.1 (by rw[←e2,e];exact hl)
    simp[e,show ¬lv'=lv from fun h=>this (e.trans h)]
   ·simp[e]
  rw[h2] at h1;rw[h1, ←sum_append, ←List.map_append];exact ((List.filter_append_perm (fun f:jE=>f.lv == lv) fs).map c).sum_nat
theorem Fw (pr lt:List Bool) (n:Nat): ∀ (l:List Int) (m:Int),(∀ j∈l,0≤j∧j < n)→iM pr lt l m=m∨ ∃ k,k < n∧pr.getD k false=false∧lt.getD k false=false∧iM pr lt l m=(k:Int) + 1
 | [],m,_=>.inl rfl
 | j::l,m,h=>by
  rw[iM];have hj:=h j (List.mem_cons_self ..);have ih:=Fw pr lt n l (if pr.getD j.toNat false=false∧lt.getD j.toNat false=false then max m (j + 1) else m) fun i hi=>h i (List.mem_cons_of_mem _ hi);rcases ih with e | e
  ·rw[e]
   split
   ·rename_i hc
    by_cases hm:m≤j + 1
    ·right
     exact ⟨j.toNat,by omega,hc.1,hc.2,by rw[Int.max_eq_right hm];omega⟩
    ·left
     rw[Int.max_eq_left (by omega)]
   ·exact .inl rfl
  ·exact .inr e
theorem Fu {g:cE} (hg:kO g) (pr lt:List Bool): ∀ (l:List Nat) (m:Int),(∀ k∈l,k < g.length)→kZ g pr lt l m=m∨ ∃ k,k < g.length∧pr.getD k false=false∧lt.getD k false=false∧kZ g pr lt l m=(k:Int) + 1
 | [],m,_=>.inl rfl
 | k::l,m,h=>by
  rw[kZ];have hk:=h k (List.mem_cons_self ..);have hr: ∀ j∈bF g [(k:Int)],0≤j∧j < g.length:=fun j hj=>((eG hg (fun x hx=>by rw[List.mem_singleton.1 hx];omega) j).1 hj).Ip hg fun x hx=>by rw[List.mem_singleton.1 hx];omega
  rcases Fu hg pr lt l (iM pr lt (bF g [(k:Int)]) m) fun i hi=>h i (List.mem_cons_of_mem _ hi) with e | e
  ·rw[e]
   exact Fw pr lt g.length _ m hr
  ·exact .inr e
theorem u5 {some:List Bool} {ln:List (List Int)} (h:kO ln):kO (fA some ln):=by
 intro l hl x hx;have hlen:(fA some ln).length=ln.length:=by unfold fA;simp
 rw[hlen];unfold fA at hl;obtain ⟨k,_,rfl⟩:=List.mem_map.1 hl
 split at hx
 ·exact h.at_ k x hx
 ·cases hx
theorem ru {own:List Nat} {ln:List (List Int)}:kO (gw own ln):=by
 intro l hl x hx;unfold gw at hl;obtain ⟨k,_,rfl⟩:=List.mem_map.1 hl;have:=iO.1 hx;unfold gw;rw[List.length_map];omega
theorem lM (V:List Int) (T:List aa):kO (bx V T):=by
 intro l hl x hx;unfold bx at hl;obtain ⟨k,_,rfl⟩:=List.mem_map.1 hl;unfold ue at hx;have:=iO.1 hx;unfold bx;rw[List.length_map,List.length_range];omega
section
variable {o:Int} (ho: ¬o=1∧ ¬o=2∧ ¬o=6∧ ¬o=8∧ ¬o=9)
include ho
omit ho in
theorem Ax (v:Int) (e:aa):aa.fB o (kY v e).t=e.ct o:=by
 show aa.fB o [e]=_;rw[aa.fB,aa.fB];omega
omit ho in
theorem Hr (V:List Int) (E:List aa) (pr lt:List Bool) (f:List jE) (nx:Int) (n:Nat) (lv:List Int) (N:Int): ∀ x∈iR lv++(if N=1 then lU V E pr lt f n else ir V E pr lt f nx n),x.op=6∨x.op=8∨x.op=9:=by
 have hf: ∀ (l:List jE) lv, ∀ x∈bE l lv,x.op=6∨x.op=8∨x.op=9:=fun l lv x hx=>by
  obtain ⟨g,_,rfl⟩:=List.mem_map.1 hx;exact .inr (.inr rfl)
 have hl: ∀ v e,(kY v e).op=6∨(kY v e).op=8∨(kY v e).op=9:=fun _ _=>.inr (.inl rfl);have hs: ∀ v e,(mM v e).op=6∨(mM v e).op=8∨(mM v e).op=9:=fun _ _=>.inl rfl;intro x hx;rcases List.mem_append.1 hx with hx | hx
 ·unfold iR at hx
  split at hx
  ·cases hx
  ·rw[List.mem_singleton.1 hx];exact .inr (.inl rfl)
 split at hx
 ·unfold lU at hx
  rcases List.mem_append.1 hx with hx | hx
  ·exact hf _ _ x hx
  ·obtain ⟨k,_,hx⟩:=List.mem_flatMap.1 hx
   split at hx
   ·rw[List.mem_singleton.1 hx];exact hs _ _
   split at hx
   ·cases hx
   ·rcases List.mem_cons.1 hx with rfl | hx
    ·exact hl _ _
    ·exact hf _ _ x hx
 ·unfold ir at hx
  rcases List.mem_append.1 hx with hx | hx
  ·rcases List.mem_append.1 hx with hx | hx
   ·obtain ⟨k,_,hx⟩:=List.mem_flatMap.1 hx
    split at hx
    ·cases hx
    ·rw[List.mem_singleton.1 hx];exact hl _ _
   ·obtain ⟨k,_,hx⟩:=List.mem_flatMap.1 hx
    exact hf _ _ x hx
  ·obtain ⟨k,_,hx⟩:=List.mem_flatMap.1 hx
   split at hx
   ·rw[List.mem_singleton.1 hx];exact hs _ _
   ·cases hx
omit ho in
theorem MU (l:List Int) (hk:l= []∨(¬o=12∧ ¬o=13∧ ¬o=14)) (h8: ¬o=8):((iR l).map fun x=>aa.fB o x.t).sum=0:=by
 unfold iR
 split
 ·rfl
 ·rename_i hne
  have hk:=hk.resolve_left fun h=>hne (by rw[h];rfl);clear hne;rw[List.map_cons,List.map_nil,List.sum_cons,List.sum_nil];show aa.fB o (l.map fun _=>aa.mk 13 0 [] []) + 0=0
  induction l with
  | nil=>rw[List.map_nil,aa.fB]
  | cons x l ih=>
   rw[List.map_cons,aa.fB,aa.oQ,aa.fB,if_neg (by omega)];by_cases hl:l.length=0
   ·rw[List.eq_nil_of_length_eq_zero hl,List.map_nil,aa.fB]
   ·omega
end
theorem CZ {α:Type} (c:α→Nat) (l:List (List α)):(l.map fun x=>(x.map c).sum).sum=(l.flatten.map c).sum:=by
 induction l with
 | nil=>rfl
 | cons x l ih=>rw[List.map_cons,List.sum_cons,ih,List.flatten_cons,List.map_append,sum_append]
theorem eB {α β:Type} (c:β→Nat) (l:List α) (f:α→List β):((l.flatMap f).map c).sum=(l.map fun x=>((f x).map c).sum).sum:=by
 rw[List.flatMap_def, ←CZ,List.map_map];rfl
theorem JO (own:List Nat) (c:Nat→Nat):(List.range own.length).map (fun a=>c (own.getD a 0))=own.map c:=by
 refine List.ext_getElem (by simp) fun i h1 h2=>?_;rw[List.length_map] at h2;simp only[List.getElem_map,List.getElem_range];rw[List.getD_eq_getElem?_getD,List.getElem?_eq_getElem h2];rfl
theorem AZ (n:Nat) (p:Nat→Bool) (c:Nat→Nat):(((List.range n).filter p).map c).sum=((List.range n).map fun k=>if p k=true then c k else 0).sum:=by
 induction n with
 | zero=>rfl
 | succ n ih=>
  rw[List.range_succ,List.filter_append,List.map_append,List.map_append,sum_append,sum_append,ih];congr 1;by_cases h:p n=true
  ·rw[List.filter_cons_of_pos h];simp[h]
  ·rw[List.filter_cons_of_neg h];simp[h]
theorem o9 (c:aa→Nat) (V:List Int) (E:List aa) (pr lt:List Bool) (ln:List (List Int)):((cJ V E pr lt ln).map fun f=>(f.ts.map c).sum).sum=((List.range pr.length).map fun k=>if (pr.getD k false && !lt.getD k false)=true then c (E.getD k gd) else 0).sum:=by
 obtain ⟨own,hown⟩: ∃ own,own=dK (bp pr lt):=⟨_,rfl⟩
 unfold cJ;rw[←hown,List.map_map]
 have h1:(jA (gw own ln)).map ((fun f:jE=>(f.ts.map c).sum) ∘ fun grp=>⟨kZ (fA (bp pr lt) ln) pr lt (grp.map fun a=>own.getD a 0) 0,(grp.map fun a=>own.getD a 0).map fun k=>V.getD k 0,(grp.map fun a=>own.getD a 0).map fun k=>E.getD k gd⟩)=(jA (gw own ln)).map fun grp=>(grp.map fun a=>c (E.getD (own.getD a 0) gd)).sum:=by
  refine List.map_congr_left fun grp _=>?_;show (((grp.map fun a=>own.getD a 0).map fun k=>E.getD k gd).map c).sum=_;rw[List.map_map,List.map_map];rfl
 rw[h1,CZ,((nv (ru (own:=own) (ln:=ln))).map fun a=>c (E.getD (own.getD a 0) gd)).sum_nat];have hl:(gw own ln).length=own.length:=by unfold gw;simp
 rw[hl,JO own fun k=>c (E.getD k gd),hown];have he:(bp pr lt).length=pr.length:=by unfold bp;simp
 unfold dK;rw[he,AZ];congr 1;refine List.map_congr_left fun k hk=>?_
 have:(bp pr lt).getD k false=(pr.getD k false && !lt.getD k false):=by
  unfold bp;exact dU _ (List.mem_range.1 hk)
 rw[this]
theorem G0 (o:Int) (V:List Int) (E:List aa) (pr lt:List Bool) (ln:List (List Int)):((cJ V E pr lt ln).map fun f=>aa.fB o f.ts).sum=((List.range pr.length).map fun k=>if (pr.getD k false && !lt.getD k false)=true then (E.getD k gd).ct o else 0).sum:=by
 rw[←o9 (aa.ct o)];exact congrArg _ (List.map_congr_left fun f _=>kF o f.ts)
theorem sD (o:Int) (f:List jE) (lv:Int):((bE f lv).map fun x=>aa.fB o x.t).sum=((f.filter fun f=>f.lv == lv).map fun f=>aa.fB o f.ts).sum:=by
 unfold bE;rw[List.map_map];rfl
theorem sum_add (l:List Nat) (a b:Nat→Nat):(l.map fun k=>a k + b k).sum=(l.map a).sum + (l.map b).sum:=by
 induction l with
 | nil=>rfl
 | cons x l ih=>simp only[List.map_cons,List.sum_cons,ih];omega
theorem H9 (T:List aa) (o:Int) (n:Nat) (h:T.length=n + 1):((List.range n).map fun k=>(T.getD k gd).ct o).sum + (T.getD n gd).ct o=aa.fB o T:=by
 have h1:((List.range (n + 1)).map fun k=>(T.getD k gd).ct o).sum=aa.fB o T:=by
  rw[kF];congr 1;refine List.ext_getElem (by simp[h]) fun i h1 h2=>?_;rw[List.length_map] at h2;simp only[List.getElem_map,List.getElem_range];rw[List.getD_eq_getElem?_getD,List.getElem?_eq_getElem h2];rfl
 rw[←h1,List.range_succ,List.map_append,sum_append];simp
theorem BR {V:List Int} {E:List aa} {pr lt:List Bool} {ln:List (List Int)} (hg:kO ln) (hp:pr.length=ln.length): ∀ f∈cJ V E pr lt ln,f.lv=0∨ ∃ k,k < ln.length∧pr.getD k false=false∧lt.getD k false=false∧f.lv=(k:Int) + 1:=by
 intro f hf;unfold cJ at hf;obtain ⟨grp,hgrp,rfl⟩:=List.mem_map.1 hf;have hlen: ∀ s:List Bool,(fA s ln).length=ln.length:=fun s=>by unfold fA;simp
 have:=Fu (u5 (some:=bp pr lt) hg) pr lt ((grp.map fun a=>(dK (bp pr lt)).getD a 0)) 0 fun k hk=>by
  obtain ⟨a,ha,rfl⟩:=List.mem_map.1 hk
  have h1:a < (dK (bp pr lt)).length:=by
   have h2:a∈(jA (gw (dK (bp pr lt)) ln)).flatten:=List.mem_flatten.2 ⟨grp,hgrp,ha⟩;have h3:=(nv (ru (own:=dK (bp pr lt)) (ln:=ln))).mem_iff.1 h2;unfold gw at h3;rw[List.length_map] at h3;exact List.mem_range.1 h3
  rw[hlen,List.getD_eq_getElem?_getD,List.getElem?_eq_getElem h1];have h2:(dK (bp pr lt))[a] < (bp pr lt).length:=List.mem_range.1 (List.mem_filter.1 (List.getElem_mem h1)).1;have h3:(bp pr lt).length=pr.length:=by unfold bp;simp
  show (dK (bp pr lt))[a] < ln.length;omega
 rw[hlen] at this;exact this
mutual
def aa.Lj:aa→Prop
 | .mk op _ v t=>(op=7→t.length=v.length + 1)∧aa.Er t
def aa.Er:List aa→Prop
 | []=>True
 | x::xs=>aa.Lj x∧aa.Er xs
end
theorem aa.AR (t:aa):t.Lj↔(t.op=7→t.t.length=t.v.length + 1)∧aa.Er t.t:=by cases t;rw[aa.Lj];rfl
theorem aa.r6: ∀ {l:List aa},aa.Er l→ ∀ x∈l,x.Lj
 | y::l,h,x,hx=>by
  rw[aa.Er] at h;rcases List.mem_cons.1 hx with rfl | hx
  ·exact h.1
  ·exact aa.r6 h.2 x hx
theorem aa.F4: ∀ {l:List aa},(∀ x∈l,x.Lj)→aa.Er l
 | [],_=>trivial
 | x::l,h=>by rw[aa.Er];exact ⟨h x (List.mem_cons_self ..),aa.F4 fun y hy=>h y (List.mem_cons_of_mem _ hy)⟩
theorem AH {level c codes:Int} {free:Bool} {op:Int} {sc inner:List Int}: ∀ {l:List aa} {deep:Int},aa.jd level c codes free op sc inner l deep→ ∀ y∈l, ∃ s d,y.xm level c codes free s d
 | x::l,deep,h,y,hy=>by
  rw[aa.jd] at h;rcases List.mem_cons.1 hy with rfl | hy
  ·exact ⟨_,_,h.2.1⟩
  ·exact AH h.2.2 y hy
theorem aa.FL {level c codes:Int} {free:Bool} (t:aa): ∀ {sc:List Int} {deep:Int},t.xm level c codes free sc deep→t.Lj:=by
 induction t using aa.ind with
 | h t ih=>
  intro sc deep h;rw[aa.nO] at h;rw[aa.AR];refine ⟨fun h7=>?_,aa.F4 fun x hx=>?_⟩
  ·have hs:=h.1.2.2.1
   unfold dF at hs
   split at hs
   ·cases hs
   ·rw[if_neg (by omega),if_neg (by omega),if_neg (by omega),if_neg (by omega),if_neg (by omega),if_pos (by omega)] at hs
    simp at hs;omega
  ·obtain ⟨s,d,hx2⟩:=AH h.2 x hx
   exact ih x hx hx2
theorem lF (A:Int→Bool): ∀ (l:List aa) (nx:Int),(aa.dH A l nx).1.length=l.length
 | [],nx=>by rw[aa.dH]
 | x::l,nx=>by rw[aa.dH];simp[lF A l]
mutual
def aa.RM (A:Int→Bool):aa→Bool
 | .mk op _ v t=>(op !=7 || ((t.take v.length).all (fun x=>x.op == 4) && v.all fun u=>!A u)) && aa.PU A t
def aa.PU (A:Int→Bool):List aa→Bool
 | []=>true
 | x::xs=>aa.RM A x && aa.PU A xs
end
theorem iJ: ∀ l m:List aa,aa.aD (l++m)=aa.aD l + aa.aD m
 | [],m=>by rw[List.nil_append,aa.aD];omega
 | x::l,m=>by rw[List.cons_append,aa.aD,aa.aD,iJ l m];omega
theorem lD: ∀ l:List aa,aa.aD l=(l.map aa.aQ).sum
 | []=>by rw[aa.aD];rfl
 | x::l=>by rw[aa.aD,lD l];rfl
def Is (x:aa):Nat:=1 + x.v.length + aa.aD x.t
theorem ql (l:List aa) (t:aa):(mX l t).aQ=(l.map Is).sum + t.aQ:=by
 induction l with
 | nil=>show t.aQ=0 + t.aQ;omega
 | cons x l ih=>
  show (aa.mk x.op x.n x.v (x.t++ [mX l t])).aQ=_;rw[aa.aQ,iJ,aa.aD,aa.aD,ih,List.map_cons,List.sum_cons];unfold Is;omega
theorem w8 {l:List Nat} {a b:Nat→Nat} (h: ∀ k∈l,a k≤b k):(l.map a).sum≤(l.map b).sum:=by
 induction l with
 | nil=>exact Nat.le_refl _
 | cons x l ih=>
  simp only[List.map_cons,List.sum_cons];have:=h x (List.mem_cons_self ..);have:=ih fun k hk=>h k (List.mem_cons_of_mem _ hk);omega
theorem oy (n c:Nat):((List.range n).map fun _=>c).sum=n * c:=by
 induction n with
 | zero=>simp
 | succ n ih=>rw[List.range_succ,List.map_append,sum_append,ih];simp[Nat.succ_mul]
theorem LV (V:List Int) (E:List aa) (pr lt:List Bool) (ln:List (List Int)):((cJ V E pr lt ln).map fun f=>1 + f.vs.length).sum≤2 * pr.length:=by
 have h1:=o9 (fun _=>1) V E pr lt ln
 have h2: ∀ f∈cJ V E pr lt ln,1 + f.vs.length≤2 * (f.ts.map fun _=>1).sum:=by
  intro f hf;unfold cJ at hf;obtain ⟨grp,hg,rfl⟩:=List.mem_map.1 hf
  have hne:0 < grp.length:=by
   have key: ∀ (g:cE),kO g→ ∀ (m:Nat) (done:List Bool) (n:Nat), ∀ l∈kg g m done n,0 < l.length:=by
    intro g hg m
    induction m with
    | zero=>intro done n l hl;rw[kg] at hl;cases hl
    | succ m ih=>
     intro done n l hl;rw[kg] at hl
     split at hl
     ·split at hl
      ·cases hl
      ·rename_i i hi
       rcases List.mem_cons.1 hl with rfl | hl
       ·have hlt:=List.mem_range.1 (List.mem_of_find?_eq_some hi)
        exact List.length_pos_of_mem (iq.2 ⟨hlt,fY hg hlt,fY hg hlt⟩)
       ·exact ih _ _ l hl
     ·cases hl
   exact key _ (ru (own:=dK (bp pr lt)) (ln:=ln)) _ _ _ grp hg
  have: ∀ l:List aa,(l.map fun _=>1).sum=l.length:=fun l=>by
   induction l with
   | nil=>rfl
   | cons x l ih=>rw[List.map_cons,List.sum_cons,ih,List.length_cons];omega
  simp only[this,List.length_map];omega
 have h3: ∀ l:List jE,(∀ f∈l,1 + f.vs.length≤2 * (f.ts.map fun _=>1).sum)→(l.map fun f=>1 + f.vs.length).sum≤2 * (l.map fun f=>(f.ts.map fun _=>1).sum).sum:=by
  intro l
  induction l with
  | nil=>intro _;exact Nat.le_refl _
  | cons x l ih=>
   intro h;simp only[List.map_cons,List.sum_cons];have:=h x (List.mem_cons_self ..);have:=ih fun f hf=>h f (List.mem_cons_of_mem _ hf);omega
 have h4:=h3 _ h2;rw[h1] at h4;have h5:((List.range pr.length).map fun k=>if (pr.getD k false && !lt.getD k false)=true then 1 else 0).sum≤((List.range pr.length).map fun _=>1).sum:=w8 fun k _=>by split<;>omega
 rw[oy] at h5;omega
theorem IJ (late:List Int) (t:aa):(t.ask late).aQ≤t.aQ + t.ct 1:=by
 induction t using aa.ind with
 | h t ih=>
  have key: ∀ l:List aa,(∀ x∈l,(x.ask late).aQ≤x.aQ + x.ct 1)→aa.aD (l.map (aa.ask late))≤aa.aD l + aa.fB 1 l:=by
   intro l
   induction l with
   | nil=>intro _;rw[List.map_nil];omega
   | cons x l ihl=>
    intro h;rw[List.map_cons,aa.aD,aa.aD,aa.fB];have:=h x (List.mem_cons_self ..);have:=ihl fun y hy=>h y (List.mem_cons_of_mem _ hy);omega
  have hk:=key t.t ih;rw[aa.zk,aa.EY,t.bu];unfold OW
  split
  ·split
   ·rename_i h1
    rw[aa.aQ,aa.aD,aa.aD,aa.aQ]
    try rw[if_pos h1]
    simp only[List.length_nil];omega
   split
   ·rw[aa.aQ];omega
   ·rw[aa.aQ];omega
  ·rw[aa.aQ];omega
theorem Lx (late:List Int) (t:aa):(t.ask late).ct 1=t.ct 1:=by
 induction t using aa.ind with
 | h t ih=>
  have hl:aa.fB 1 (t.t.map (aa.ask late))=aa.fB 1 t.t:=by
   rw[kF,kF,List.map_map];exact congrArg _ (List.map_congr_left fun x hx=>ih x hx)
  rw[aa.zk,aa.EY 1 t];unfold OW
  split
  ·split
   ·rename_i h1
    rw[aa.oQ,aa.fB,aa.fB,aa.oQ,hl,if_pos h1,if_neg (by decide)]
    try omega
   split
   ·rename_i h1 h2
    rw[aa.oQ,hl,if_neg (by decide)]
   ·rename_i h1 h2
    rw[aa.oQ,hl,if_neg h1]
  ·rw[aa.oQ,hl]
theorem Ih (l:List Int):((iR l).map Is).sum≤1 + 2 * l.length:=by
 unfold iR
 split
 ·exact Nat.zero_le _
 ·rw[List.map_cons,List.map_nil,List.sum_cons,List.sum_nil]
  have: ∀ l:List Int,aa.aD (l.map fun _=>aa.mk 13 0 [] [])=l.length:=fun l=>by
   induction l with
   | nil=>rw[List.map_nil,aa.aD];rfl
   | cons x l ih=>rw[List.map_cons,aa.aD,ih,aa.aQ,aa.aD,List.length_cons];simp;omega
  unfold Is;show 1 + l.length + aa.aD (l.map fun _=>aa.mk 13 0 [] []) + 0≤_;rw[this];omega
theorem vL (f:List jE) (lv:Int):((bE f lv).map Is).sum=((f.filter fun f=>f.lv == lv).map fun f=>1 + f.vs.length + aa.aD f.ts).sum:=by
 unfold bE;rw[List.map_map];rfl
theorem Ay (v:Int) (e:aa):Is (kY v e)=2 + e.aQ:=by
 show 1 + 1 + aa.aD [e]=_;rw[aa.aD,aa.aD];omega
theorem u0 (v:Int) (e:aa):Is (mM v e)=2 + e.aQ:=by
 show 1 + 0 + aa.aD [.mk 2 v [] [e]]=_;rw[aa.aD,aa.aD,aa.aQ,aa.aD,aa.aD];simp;omega
theorem ED (T:List aa) (n:Nat) (h:T.length=n + 1):((List.range n).map fun k=>(T.getD k gd).aQ).sum + (T.getD n gd).aQ=aa.aD T:=by
 have h1:((List.range (n + 1)).map fun k=>(T.getD k gd).aQ).sum=aa.aD T:=by
  rw[lD];congr 1;refine List.ext_getElem (by simp[h]) fun i h1 h2=>?_;rw[List.length_map] at h2;simp only[List.getElem_map,List.getElem_range];rw[List.getD_eq_getElem?_getD,List.getElem?_eq_getElem h2];rfl
 rw[←h1,List.range_succ,List.map_append,sum_append];simp
theorem tc (A:Int→Bool) (N:Int) (V:List Int) (T:List aa) (nx:Int) (hT:T.length=V.length + 1):(iP A N V T nx).1.aQ≤aa.aD T + aa.fB 1 T + 9 * V.length + 1:=by
 obtain ⟨pr,hpr⟩: ∃ pr,pr=dc A V T:=⟨_,rfl⟩
 obtain ⟨ln,hln⟩: ∃ ln,ln=bx V T:=⟨_,rfl⟩
 obtain ⟨lt,hlt⟩: ∃ lt,lt=fX N pr ln:=⟨_,rfl⟩
 obtain ⟨E,hE⟩: ∃ E,E=T.map (aa.ask (nE V lt)):=⟨_,rfl⟩
 obtain ⟨f,hf⟩: ∃ f,f=cJ V E pr lt ln:=⟨_,rfl⟩
 have hgo:kO ln:=by rw[hln];exact lM V T
 have hpl:pr.length=V.length:=by rw[hpr];unfold dc;simp
 have hll:ln.length=V.length:=by rw[hln];unfold bx;simp
 have hEl:E.length=V.length + 1:=by rw[hE,List.length_map,hT]
 have hEb:aa.aD E≤aa.aD T + aa.fB 1 T:=by
  rw[hE]
  have key: ∀ l:List aa,aa.aD (l.map (aa.ask (nE V lt)))≤aa.aD l + aa.fB 1 l:=by
   intro l
   induction l with
   | nil=>rw[List.map_nil];omega
   | cons x l ihl=>
    rw[List.map_cons,aa.aD,aa.aD,aa.fB];have:=IJ (nE V lt) x;omega
  exact key T
 have hlv:=BR (V:=V) (E:=E) (lt:=lt) hgo (by omega:pr.length=ln.length);have hfs:=o9 aa.aQ V E pr lt ln;have hfl:=LV V E pr lt ln;rw[←hf] at hlv hfs hfl;rw[hpl] at hfs hfl;have hu:=Ih (nE V lt)
 have hlvl:(nE V lt).length≤V.length:=by
  unfold nE;rw[List.length_map];exact Nat.le_trans (List.length_filter_le _ _) (by simp)
 have hcf:(f.map fun f=>1 + f.vs.length + aa.aD f.ts).sum=(f.map fun f=>1 + f.vs.length).sum + (f.map fun f=>(f.ts.map aa.aQ).sum).sum:=by
  clear hlv hfs hfl hf
  induction f with
  | nil=>rfl
  | cons x l ih=>
   rw[List.map_cons,List.sum_cons,List.map_cons,List.sum_cons,List.map_cons,List.sum_cons,ih,lD];omega
 unfold iP;dsimp only;rw[←hpr, ←hln, ←hlt, ←hE, ←hf,ql,List.map_append,sum_append];have hsum:=ED E V.length hEl
 have hsp:((List.range V.length).map fun k=>(E.getD k gd).aQ).sum=((List.range V.length).map fun k=>(if (pr.getD k false && !lt.getD k false)=true then (E.getD k gd).aQ else 0) + (if (pr.getD k false && !lt.getD k false)=true then 0 else (E.getD k gd).aQ)).sum:=by
  congr 1;refine List.map_congr_left fun k _=>?_
  split<;>omega
 rw[sum_add] at hsp
 split
 ·have hmain:((lU V E pr lt f V.length).map Is).sum≤(f.map fun f=>1 + f.vs.length + aa.aD f.ts).sum + ((List.range V.length).map fun k=>(if (pr.getD k false && !lt.getD k false)=true then 0 else (E.getD k gd).aQ) + 2).sum:=by
   unfold lU;rw[List.map_append,sum_append,eB,vL]
   have hL:=j9 (fun f:jE=>1 + f.vs.length + aa.aD f.ts) (0::((List.range V.length).filter fun k=>!pr.getD k false && !lt.getD k false).map fun k:Nat=>(k:Int) + 1) f (by
    rw[List.nodup_cons];refine ⟨fun h=>?_,?_⟩
    ·obtain ⟨k,_,e⟩:=List.mem_map.1 h
     omega
    ·exact AB (fun a b e=>by omega) (List.nodup_range.sublist List.filter_sublist)) fun f hf=>by
    rcases hlv f hf with e | ⟨k,h1,h2,h3,e⟩
    ·rw[e];exact List.mem_cons_self ..
    ·rw[e]
     refine List.mem_cons_of_mem _ (List.mem_map.2 ⟨k,List.mem_filter.2 ⟨List.mem_range.2 (by omega),by rw[h2,h3];rfl⟩,rfl⟩)
   rw[List.map_cons,List.sum_cons,List.map_map,AZ] at hL;rw[←hL,Nat.add_assoc];refine Nat.add_le_add_left ?_ _;rw[←sum_add];refine w8 fun k _=>?_;cases h1:lt.getD k false<;>cases h2:pr.getD k false
   ·simp[Ay,vL];omega
   ·simp
   ·simp[u0];omega
   ·simp[u0];omega
  rw[sum_add,oy] at hmain;omega
 ·have hmain:((ir V E pr lt f nx V.length).map Is).sum≤(f.map fun f=>1 + f.vs.length + aa.aD f.ts).sum + ((List.range V.length).map fun k=>(if (pr.getD k false && !lt.getD k false)=true then 0 else (E.getD k gd).aQ) + 5).sum:=by
   unfold ir;rw[List.map_append,List.map_append,sum_append,sum_append,eB,eB,eB]
   have hL:=j9 (fun f:jE=>1 + f.vs.length + aa.aD f.ts) ((List.range (V.length + 1)).map fun k:Nat=>(k:Int)) f (AB (fun a b e=>by omega) List.nodup_range) fun f hf=>by
    rcases hlv f hf with e | ⟨k,h1,h2,h3,e⟩
    ·rw[e];exact List.mem_map.2 ⟨0,List.mem_range.2 (by omega),rfl⟩
    ·rw[e];exact List.mem_map.2 ⟨k + 1,List.mem_range.2 (by omega),by omega⟩
   rw[List.map_map] at hL
   have h2:((List.range (V.length + 1)).map fun k:Nat=>((bE f (k:Int)).map Is).sum)=(List.range (V.length + 1)).map ((fun lv=>((f.filter fun f=>f.lv == lv).map fun f=>1 + f.vs.length + aa.aD f.ts).sum) ∘ fun k:Nat=>(k:Int)):=
    List.map_congr_left fun k _=>vL f _
   rw[h2,hL,Nat.add_comm (((List.range V.length).map _).sum),Nat.add_assoc];refine Nat.add_le_add_left ?_ _;rw[←sum_add];refine w8 fun k _=>?_;have h1: ∀ v:Int,(aa.mk 1 v [] []).aQ=1:=fun v=>by rw[aa.aQ,aa.aD];rfl
   cases h3:lt.getD k false<;>cases h4:pr.getD k false
   ·simp[Ay];omega
   ·simp
   ·simp[Ay,u0,h1];omega
   ·simp[u0];omega
  rw[sum_add,oy] at hmain;omega
theorem HF (l:List aa) (t:aa) (hl: ∀ x∈l,x.op=6∨x.op=8∨x.op=9):(mX l t).ct 1=(l.map fun x=>aa.fB 1 x.t).sum + t.ct 1:=by
 induction l with
 | nil=>show t.ct 1=0 + t.ct 1;omega
 | cons x l ih=>
  show (aa.mk x.op x.n x.v (x.t++ [mX l t])).ct 1=_;have hx:=hl x (List.mem_cons_self ..);rw[aa.oQ,aa.vw,aa.fB,aa.fB,ih fun y hy=>hl y (List.mem_cons_of_mem _ hy),if_neg (by omega),List.map_cons,List.sum_cons];omega
theorem r8 (v:Int) (e:aa):aa.fB 1 (mM v e).t=e.ct 1:=by
 show aa.fB 1 [.mk 2 v [] [e]]=_;rw[aa.fB,aa.fB,aa.oQ,aa.fB,aa.fB,if_neg (by decide)];omega
theorem Ki (A:Int→Bool) (N:Int) (V:List Int) (T:List aa) (nx:Int) (hT:T.length=V.length + 1):(iP A N V T nx).1.ct 1≤aa.fB 1 T + V.length:=by
 obtain ⟨pr,hpr⟩: ∃ pr,pr=dc A V T:=⟨_,rfl⟩
 obtain ⟨ln,hln⟩: ∃ ln,ln=bx V T:=⟨_,rfl⟩
 obtain ⟨lt,hlt⟩: ∃ lt,lt=fX N pr ln:=⟨_,rfl⟩
 obtain ⟨E,hE⟩: ∃ E,E=T.map (aa.ask (nE V lt)):=⟨_,rfl⟩
 obtain ⟨f,hf⟩: ∃ f,f=cJ V E pr lt ln:=⟨_,rfl⟩
 have hgo:kO ln:=by rw[hln];exact lM V T
 have hpl:pr.length=V.length:=by rw[hpr];unfold dc;simp
 have hll:ln.length=V.length:=by rw[hln];unfold bx;simp
 have hEl:E.length=V.length + 1:=by rw[hE,List.length_map,hT]
 have hEc:aa.fB 1 E=aa.fB 1 T:=by
  rw[hE,kF,kF,List.map_map];exact congrArg _ (List.map_congr_left fun x _=>Lx _ x)
 have hlv:=BR (V:=V) (E:=E) (lt:=lt) hgo (by omega:pr.length=ln.length);rw[←hf] at hlv;have hfs:=G0 1 V E pr lt ln;rw[←hf,hpl] at hfs;have hu:=MU (o:=1) (nE V lt) (.inr (by decide)) (by decide);unfold iP;dsimp only;rw[←hpr, ←hln, ←hlt, ←hE, ←hf,HF _ _ (Hr _ _ _ _ _ _ _ _ _),List.map_append,sum_append,hu,Nat.zero_add, ←hEc, ←H9 E 1 V.length hEl]
 have hsp:((List.range V.length).map fun k=>(E.getD k gd).ct 1).sum=((List.range V.length).map fun k=>(if (pr.getD k false && !lt.getD k false)=true then (E.getD k gd).ct 1 else 0) + (if (pr.getD k false && !lt.getD k false)=true then 0 else (E.getD k gd).ct 1)).sum:=by
  congr 1;refine List.map_congr_left fun k _=>?_
  split<;>omega
 rw[sum_add] at hsp
 split
 ·have hmain:((lU V E pr lt f V.length).map fun x=>aa.fB 1 x.t).sum≤(f.map fun f=>aa.fB 1 f.ts).sum + ((List.range V.length).map fun k=>if (pr.getD k false && !lt.getD k false)=true then 0 else (E.getD k gd).ct 1).sum:=by
   unfold lU;rw[List.map_append,sum_append,eB,sD]
   have hL:=j9 (fun f:jE=>aa.fB 1 f.ts) (0::((List.range V.length).filter fun k=>!pr.getD k false && !lt.getD k false).map fun k:Nat=>(k:Int) + 1) f (by
    rw[List.nodup_cons];refine ⟨fun h=>?_,?_⟩
    ·obtain ⟨k,_,e⟩:=List.mem_map.1 h
     omega
    ·exact AB (fun a b e=>by omega) (List.nodup_range.sublist List.filter_sublist)) fun f hf=>by
    rcases hlv f hf with e | ⟨k,h1,h2,h3,e⟩
    ·rw[e];exact List.mem_cons_self ..
    ·rw[e]
     refine List.mem_cons_of_mem _ (List.mem_map.2 ⟨k,List.mem_filter.2 ⟨List.mem_range.2 (by omega),by rw[h2,h3];rfl⟩,rfl⟩)
   rw[List.map_cons,List.sum_cons,List.map_map,AZ] at hL;rw[←hL,Nat.add_assoc];refine Nat.add_le_add_left ?_ _;rw[←sum_add];refine w8 fun k _=>?_;cases h1:lt.getD k false<;>cases h2:pr.getD k false
   ·simp[Ax,sD];omega
   ·simp
   ·simp[r8]
   ·simp[r8]
  omega
 ·have hmain:((ir V E pr lt f nx V.length).map fun x=>aa.fB 1 x.t).sum≤(f.map fun f=>aa.fB 1 f.ts).sum + ((List.range V.length).map fun k=>(if (pr.getD k false && !lt.getD k false)=true then 0 else (E.getD k gd).ct 1) + 1).sum:=by
   unfold ir;rw[List.map_append,List.map_append,sum_append,sum_append,eB,eB,eB]
   have hL:=j9 (fun f:jE=>aa.fB 1 f.ts) ((List.range (V.length + 1)).map fun k:Nat=>(k:Int)) f (AB (fun a b e=>by omega) List.nodup_range) fun f hf=>by
    rcases hlv f hf with e | ⟨k,h1,h2,h3,e⟩
    ·rw[e];exact List.mem_map.2 ⟨0,List.mem_range.2 (by omega),rfl⟩
    ·rw[e];exact List.mem_map.2 ⟨k + 1,List.mem_range.2 (by omega),by omega⟩
   rw[List.map_map] at hL
   have h2:((List.range (V.length + 1)).map fun k:Nat=>((bE f (k:Int)).map fun x=>aa.fB 1 x.t).sum)=(List.range (V.length + 1)).map ((fun lv=>((f.filter fun f=>f.lv == lv).map fun f=>aa.fB 1 f.ts).sum) ∘ fun k:Nat=>(k:Int)):=
    List.map_congr_left fun k _=>sD 1 f _
   rw[h2,hL,Nat.add_comm (((List.range V.length).map _).sum),Nat.add_assoc];refine Nat.add_le_add_left ?_ _;rw[←sum_add];refine w8 fun k _=>?_;have h1: ∀ v:Int,(aa.mk 1 v [] []).ct 1=1:=fun v=>by rw[aa.oQ,aa.fB,if_pos rfl]
   cases h3:lt.getD k false<;>cases h4:pr.getD k false
   ·simp[Ax]
   ·simp
   ·simp[Ax,r8,h1]
   ·simp[r8]
  rw[sum_add,oy] at hmain;omega
theorem vz (A:Int→Bool) (t:aa):t.Lj→ ∀ nx:Int,(t.m6 A nx).1.ct 1≤t.aQ∧((t.m6 A nx).1.aQ:Int)≤(t.cnt + 10) * t.aQ:=by
 induction t using aa.ind with
 | h t ih=>
  intro hs nx;rw[aa.AR] at hs
  have key: ∀ l:List aa,(∀ x∈l, ∀ nx:Int,(x.m6 A nx).1.ct 1≤x.aQ∧((x.m6 A nx).1.aQ:Int)≤(x.cnt + 10) * x.aQ)→ ∀ nx,aa.fB 1 (aa.dH A l nx).1≤aa.aD l∧(aa.aD (aa.dH A l nx).1:Int)≤(aa.c6 l + 10) * aa.aD l:=by
   intro l
   induction l with
   | nil=>intro _ nx;rw[aa.dH];exact ⟨Nat.le_refl _,by rw[aa.aD];simp⟩
   | cons x l ihl=>
    intro h nx;obtain ⟨a1,a2⟩:=h x (List.mem_cons_self ..) nx;obtain ⟨b1,b2⟩:=ihl (fun y hy=>h y (List.mem_cons_of_mem _ hy)) (x.m6 A nx).2;rw[aa.dH];dsimp only;rw[aa.fB,aa.aD,aa.aD,aa.c6];refine ⟨by omega,?_⟩;have h1:=x.qS;have h2:=aa.eO l;have h3:(0:Int)≤aa.c6 l * (x.aQ:Int):=Int.mul_nonneg h2 (by omega);have h4:(0:Int)≤x.cnt * (aa.aD l:Int):=Int.mul_nonneg (by omega) (by omega)
    have h5:(x.cnt + aa.c6 l + 10) * ((x.aQ:Int) + (aa.aD l:Int))=(x.cnt + 10) * x.aQ + (aa.c6 l + 10) * aa.aD l + aa.c6 l * x.aQ + x.cnt * aa.aD l:=by
     simp only[Int.add_mul,Int.mul_add];omega
    push_cast
    rw[h5];omega
  obtain ⟨k1,k2⟩:=key t.t (fun x hx=>ih x hx (aa.r6 hs.2 x hx)) nx;have hlen:=lF A t.t nx;have hcp:=aa.eO t.t;have e1:=t.bu;have e2:=t.kU
  have e3:(t.cnt + 10) * (t.aQ:Int)=(aa.c6 t.t + 10) * aa.aD t.t + aa.aD t.t + (aa.c6 t.t + 11) * (1 + t.v.length:Int):=by
   rw[e1,e2]
   push_cast
   simp only[Int.add_mul,Int.mul_add];omega
  have e4:(11:Int) * (1 + t.v.length)≤(aa.c6 t.t + 11) * (1 + t.v.length:Int):=Int.mul_le_mul_of_nonneg_right (by omega) (by omega);rw[aa.Ab];by_cases h7:t.op=7
  ·rw[if_pos h7]
   have hn:=hs.1 h7;have r1:=Ki A t.n t.v (aa.dH A t.t nx).1 (aa.dH A t.t nx).2 (by omega);have r2:=tc A t.n t.v (aa.dH A t.t nx).1 (aa.dH A t.t nx).2 (by omega);refine ⟨by omega,?_⟩;rw[e3];omega
  ·rw[if_neg h7]
   dsimp only;rw[aa.oQ,aa.aQ,e3];refine ⟨?_,by push_cast;omega⟩
   split<;>omega
theorem pe {α β:Type} {l:List α} {f g:α→List β} (h: ∀ x∈l,f x=g x):l.flatMap f=l.flatMap g:=by
 rw[List.flatMap_def,List.flatMap_def,List.map_congr_left h]
section
variable {A B:Int→Bool} {s:Int} (hAB: ∀ v,B (v + s)=A v)
def jE.sh (s:Int) (f:jE):jE:=⟨f.lv,f.vs.map (· + s),f.ts.map (aa.sh s)⟩
theorem Fe (g:cE): ∀ (f:Nat) (done:List Bool) (n:Nat), ∀ l∈kg g f done n, ∀ x∈l,x < g.length
 | 0,_,_,l,hl,_,_=>by rw[kg] at hl;cases hl
 | f + 1,done,n,l,hl,x,hx=>by
  rw[kg] at hl
  split at hl
  ·split at hl
   ·cases hl
   ·rename_i i _
    rcases List.mem_cons.1 hl with rfl | hl
    ·unfold dr at hx
     exact List.mem_range.1 (List.mem_filter.1 hx).1
    ·exact Fe g f _ _ l hl x hx
  ·cases hl
theorem FM {er:List Bool} {x:Nat} (h:x∈dK er):x < er.length:=List.mem_range.1 (List.mem_filter.1 h).1
end
section
variable (V:List Int) (E:List aa) (pr lt:List Bool) (ln:List (List Int))
def Lg (k:Nat):cY:=⟨V.getD k 0,E.getD k gd,pr.getD k false,lt.getD k false,ln.getD k []⟩
def gx (n:Nat):List cY:=(List.range n).map (Lg V E pr lt ln)
end
section
variable {V:List Int} {E:List aa} {pr lt:List Bool} {ln:List (List Int)} {n:Nat}
theorem nw:(gx V E pr lt ln n).length=n:=by unfold gx;simp
theorem yo {k:Nat} (h:k < n):(gx V E pr lt ln n)[k]?=some (Lg V E pr lt ln k):=by
 unfold gx;rw[List.getElem?_map,List.getElem?_range h];rfl
theorem jc {k:Nat} (h:k < n):(gx V E pr lt ln n).getD k ki=Lg V E pr lt ln k:=by
 rw[List.getD_eq_getElem?_getD,yo h];rfl
theorem As {k:Nat} (h:n≤k):(gx V E pr lt ln n).getD k ki=ki:=by
 rw[List.getD_eq_getElem?_getD,List.getElem?_eq_none (by rw[nw];exact h)];rfl
theorem q8 {α:Type} {l:List α} {d:α} {k:Nat} (h:l.length≤k):l.getD k d=d:=by
 rw[List.getD_eq_getElem?_getD,List.getElem?_eq_none h];rfl
theorem Fm (hp:pr.length=n) (k:Nat):((gx V E pr lt ln n).getD k ki).pr=pr.getD k false:=by
 rcases Nat.lt_or_ge k n with h | h
 ·rw[jc h];rfl
 ·rw[As h,q8 (by omega)]
theorem Fk (hp:lt.length=n) (k:Nat):((gx V E pr lt ln n).getD k ki).lt=lt.getD k false:=by
 rcases Nat.lt_or_ge k n with h | h
 ·rw[jc h];rfl
 ·rw[As h,q8 (by omega)]
theorem L6 (hp:ln.length=n) (k:Nat):((gx V E pr lt ln n).getD k ki).ln=ln.getD k []:=by
 rcases Nat.lt_or_ge k n with h | h
 ·rw[jc h];rfl
 ·rw[As h,q8 (by omega)]
theorem Fx {α β:Type} (l:List α) (d:α) (f:α→β):l.map f=(List.range l.length).map fun a=>f (l.getD a d):=by
 refine List.ext_getElem (by simp) fun i h1 h2=>?_;rw[List.length_map] at h1;simp only[List.getElem_map,List.getElem_range];rw[List.getD_eq_getElem?_getD,List.getElem?_eq_getElem h1];rfl
theorem qL (l:List Nat) (a:Nat):(l.map fun x:Nat=>(x:Int)).getD a 0=((l.getD a 0:Nat):Int):=by
 rcases Nat.lt_or_ge a l.length with h | h
 ·rw[List.getD_eq_getElem?_getD,List.getElem?_map,List.getD_eq_getElem?_getD,List.getElem?_eq_getElem h];rfl
 ·rw[q8 (by simpa using h),q8 h];rfl
theorem Oe (hp:pr.length=n) (hl:lt.length=n):dy n (LP (gx V E pr lt ln n))=(dK (bp pr lt)).map fun x:Nat=>(x:Int):=by
 unfold dy dK;have h1:(bp pr lt).length=n:=by unfold bp;simp[hp]
 rw[h1];congr 1;refine List.filter_congr fun k hk=>?_;have hk:=List.mem_range.1 hk;unfold LP;rw[yo hk];unfold bp;rw[List.getD_eq_getElem?_getD,List.getElem?_map,List.getElem?_range (by omega)];rfl
theorem OI (hp:pr.length=n) (hl:lt.length=n) (hn:ln.length=n):lX (fun x=>x.pr && !x.lt) (gx V E pr lt ln n)=fA (bp pr lt) ln:=by
 unfold lX fA gx;rw[List.map_map,hn];refine List.map_congr_left fun k hk=>?_;have hk:=List.mem_range.1 hk;simp only[Function.comp]
 have:(bp pr lt).getD k false=(pr.getD k false && !lt.getD k false):=by
  unfold bp;rw[List.getD_eq_getElem?_getD,List.getElem?_map,List.getElem?_range (by omega)];rfl
 rw[this];rfl
theorem JM (hp:pr.length=n) (hl:lt.length=n): ∀ (l:List Int) (m:Int),C8 (gx V E pr lt ln n) l m=iM pr lt l m
 | [],m=>rfl
 | j::l,m=>by rw[C8,iM,Fm hp,Fk hl,JM hp hl l]
theorem JL (hp:pr.length=n) (hl:lt.length=n) (g:cE) (own:List Nat): ∀ (l:List Nat) (m:Int),Lh (gx V E pr lt ln n) g (own.map fun x:Nat=>(x:Int)) (l.map fun x:Nat=>(x:Int)) m=kZ g pr lt (l.map fun a=>own.getD a 0) m
 | [],m=>rfl
 | k::l,m=>by rw[List.map_cons,List.map_cons,Lh,kZ,JM hp hl,qL,Int.toNat_natCast,JL hp hl g own l]
theorem NX (hn:ln.length=n) (own:List Nat):(List.range (own.map fun x:Nat=>(x:Int)).length).map (Ao (gx V E pr lt ln n) (own.map fun x:Nat=>(x:Int)))=gw own ln:=by
 unfold gw;refine Eq.trans ?_ (Fx own 0 _).symm;rw[List.length_map];refine List.map_congr_left fun a ha=>?_;unfold Ao;rw[List.length_map];congr 1;funext b;rw[qL,qL,Int.toNat_natCast,L6 hn]
theorem GZ (hV:V.length=n) (hp:pr.length=n) (hl:lt.length=n) (hn:ln.length=n):jk (gx V E pr lt ln n)=cJ V E pr lt ln:=by
 unfold jk;rw[nw,Oe hp hl,NX hn,OI hp hl hn];unfold ee cJ;rw[List.map_map];refine List.map_congr_left fun grp hg=>?_
 have hlt: ∀ a∈grp,(dK (bp pr lt)).getD a 0 < n:=fun a ha=>by
  have h1:=Fe _ _ _ _ grp hg a ha;unfold gw at h1;rw[List.length_map] at h1;rw[List.getD_eq_getElem?_getD,List.getElem?_eq_getElem h1];have h2:=FM (List.getElem_mem h1);have h3:(bp pr lt).length=n:=by unfold bp;simp[hp]
  show (dK (bp pr lt))[a] < n;omega
 simp only[Function.comp];unfold G6;rw[JL hp hl];simp only[List.map_map];congr 1
 ·refine List.map_congr_left fun a ha=>?_
  simp only[Function.comp];rw[Int.toNat_natCast,qL,Int.toNat_natCast,jc (hlt a ha)];rfl
 ·refine List.map_congr_left fun a ha=>?_
  simp only[Function.comp];rw[Int.toNat_natCast,qL,Int.toNat_natCast,jc (hlt a ha)];rfl
theorem KO (fs:List jE):bE fs 0++(List.range (gx V E pr lt ln n).length).flatMap (wY (gx V E pr lt ln n) fs)=lU V E pr lt fs n:=by
 unfold lU;rw[nw];congr 1;refine pe fun k hk=>?_;have hk:=List.mem_range.1 hk;unfold wY;rw[jc hk];rfl
end
def C9 (ax:List cY) (k:Nat):Int:=(((List.range k).filter fun i=>!(ax.getD i ki).pr && (ax.getD i ki).lt).length:Int)
theorem K0 (ax:List cY) (k:Nat):C9 ax (k + 1)=C9 ax k + if (ax.getD k ki).pr=false∧(ax.getD k ki).lt=true then 1 else 0:=by
 unfold C9;rw[List.range_succ,List.filter_append,List.length_append,List.filter_cons,List.filter_nil];cases h1:(ax.getD k ki).pr<;>cases h2:(ax.getD k ki).lt
 ·rw[if_neg (by decide),if_neg (by decide)];simp
 ·rw[if_pos (by decide),if_pos (by decide)];simp
 ·rw[if_neg (by decide),if_neg (by decide)];simp
 ·rw[if_neg (by decide),if_neg (by decide)];simp
theorem OJ (ax:List cY) (k:Nat):0≤C9 ax k∧C9 ax k≤k:=by
 unfold C9;have:=List.length_filter_le (fun i=>!(ax.getD i ki).pr && (ax.getD i ki).lt) (List.range k);rw[List.length_range] at this;omega
def Og (ax:List cY) (nx:Int) (k:Nat):List aa:=if (ax.getD k ki).pr=true then [] else [kY (if (ax.getD k ki).lt=true then nx + C9 ax k else (ax.getD k ki).v) (ax.getD k ki).e]
def Lo (ax:List cY) (nx:Int) (k:Nat):aa:=if (ax.getD k ki).pr=true then (ax.getD k ki).e else if (ax.getD k ki).lt=true then .mk 1 (nx + C9 ax k) [] [] else (ax.getD k ki).e
def Oh (ax:List cY) (nx:Int) (k:Nat):List aa:=if (ax.getD k ki).lt=true then [mM (ax.getD k ki).v (Lo ax nx k)] else []
def wH (ax:List cY) (fs:List jE) (nx:Int):List aa:=(List.range ax.length).flatMap (Og ax nx)++((List.range (ax.length + 1)).flatMap fun k:Nat=>bE fs (k:Int))++(List.range ax.length).flatMap (Oh ax nx)
section
variable {V:List Int} {E:List aa} {pr lt:List Bool} {ln:List (List Int)} {n:Nat}
theorem EF (hp:pr.length=n) (hl:lt.length=n) (k:Nat):C9 (gx V E pr lt ln n) k=lY pr lt k:=by
 unfold C9 lY;congr 2;refine List.filter_congr fun i _=>?_;rw[Fm hp,Fk hl]
theorem HJ (hp:pr.length=n) (hl:lt.length=n) (fs:List jE) (nx:Int):wH (gx V E pr lt ln n) fs nx=ir V E pr lt fs nx n:=by
 unfold wH ir;rw[nw];congr 1
 ·congr 1
  refine pe fun k hk=>?_;have hk:=List.mem_range.1 hk;unfold Og;rw[EF hp hl,jc hk];rfl
 ·refine pe fun k hk=>?_
  have hk:=List.mem_range.1 hk;unfold Oh Lo;rw[EF hp hl,jc hk];show (if lt.getD k false=true then [mM (V.getD k 0) (if pr.getD k false=true then E.getD k gd else if lt.getD k false=true then _ else _)] else [])=_;by_cases h:lt.getD k false=true
  ·rw[if_pos h,if_pos h,if_pos h]
  ·rw[if_neg h,if_neg h]
theorem v7 (A:Int→Bool) (V:List Int) (T:List aa) {k:Nat} (hk:k < V.length):(dc A V T).getD k false=(Bb A V T k).pr:=by
 unfold dc;rw[List.getD_eq_getElem?_getD,List.getElem?_map,List.getElem?_range hk];rfl
theorem vZ (A:Int→Bool) (V:List Int) (T:List aa) {k:Nat} (hk:k < V.length):(bx V T).getD k []=(Bb A V T k).ln:=by
 unfold bx;rw[List.getD_eq_getElem?_getD,List.getElem?_map,List.getElem?_range hk];rfl
theorem mB (V:List Int) (T:List aa):(bx V T).length=V.length:=by unfold bx;simp
theorem FP (A:Int→Bool) (V:List Int) (T:List aa):Bd (Bb A V T) V.length=fA (dc A V T) (bx V T):=by
 unfold Bd fA;rw[mB];refine List.map_congr_left fun k hk=>?_;have hk:=List.mem_range.1 hk;rw[v7 A V T hk,vZ A V T hk]
theorem yp (A:Int→Bool) (N:Int) (V:List Int) (T:List aa) {k:Nat} (hk:k < V.length):(fX N (dc A V T) (bx V T)).getD k false=oq (Bb A V T) V.length N V.length k:=by
 unfold fX oq;rw[List.getD_eq_getElem?_getD,List.getElem?_map,mB,List.getElem?_range hk,FP,Option.map_some,Option.getD_some,Bool.eq_iff_iff,List.any_eq_true,List.any_eq_true];constructor
 ·rintro ⟨j,h1,h2⟩
  refine ⟨j,h1,?_⟩;have:=List.mem_range.1 h1;rwa [v7 A V T this,vZ A V T this] at h2
 ·rintro ⟨j,h1,h2⟩
  refine ⟨j,h1,?_⟩;have:=List.mem_range.1 h1;rwa [v7 A V T this,vZ A V T this]
theorem Cd (A:Int→Bool) (N:Int) (V:List Int) (T:List aa):Ar A N V T=gx V T (dc A V T) (fX N (dc A V T) (bx V T)) (bx V T) V.length:=by
 unfold Ar xl gx;refine List.map_congr_left fun k hk=>?_;have hk:=List.mem_range.1 hk;unfold Lg;rw[v7 A V T hk,vZ A V T hk,yp A N V T hk];rfl
end
theorem Dv (l:List aa) (hl:l.length≤1000000000):af Tryz.prog 152 [.sl 4 (l.map aa.pv) none] [] (fun y Γ'=> ∃ tk:Tok,tk.e=26∧y=.sl 4 (l.map aa.pv) (some tk)∧Γ'= [.tok tk]):=by
 refine af.ah ai Tryz.func152 rfl rfl (n:=8) rfl rfl ?_
 conv=>whnf
 repeat' (first|refine aS ?_|((intro _);conv=>whnf)|(refine zX (fun hc=>?_) (fun hc=>?_)<;>(try simp only[SY] at hc)<;>(conv=>whnf)))
 ·rename_i q hq
  have:l= []:=by simpa using hq hc
  subst this;refine ak.sI (Γ':= [.tok (ay 4 26)]) (au.nil 4 26 _) ?_;exact ak.gen (Wk.ay 4 26) ⟨_,rfl,rfl,rfl⟩
 ·rename Tok=>t5
  exact ak.gen (y:=.sl 4 (l.map aa.pv) (some t5)) (Γ':= [.tok t5]) (Wk.refl _) ⟨t5,by assumption,rfl,rfl⟩
def oO (l:List aa):List (List PV):=(List.range l.length).map fun i=> [.int .i64 ((l.length - 1 - i:Nat):Int),.agg (l.getD (l.length - 1 - i) gd).cells]
theorem IL (b:Nat) (l:List aa) (hl:l.length≤1000000000):EM Tryz.prog 195 [.ptr b 0] [.box b [.sl 4 (l.map aa.pv) none]] (oO l):=by
 intro lp J X hy Γ h0;refine af.ghost (au.drop (Γ':=.box b [.sl 4 (l.map aa.pv) none]::Γ) (Γ1:= []) (by rw[List.append_nil];exact List.perm_append_singleton _ _)) ?_;refine af.ah ai Tryz.func195 rfl rfl (n:=19) rfl rfl ?_
 conv=>whnf
 repeat (first|refine qF ?_|((intro _);conv=>whnf))
 have hlen:(oO l).length=l.length:=by simp[oO]
 refine aq.over [3,7,8,9,10,11,12,13,14,15,16,17,18] (fun x:Nat×List aj=> [(3,.int .i64 ((l.length:Int) - 1 - x.1))]) (fun x:Nat×List aj=>.box b [.sl 4 (l.map aa.pv) none]::x.2) (fun x=>x.1≤l.length∧J x.1 x.2) (fun x=>l.length - x.1) (0,Γ) ⟨Nat.zero_le _,h0⟩ wA (hp:=⟨by rw[List.append_nil]⟩) (Γ1:= []) ?_;rintro ⟨k,Γk⟩ ⟨hk,hJ⟩;dsimp only at hk hJ⊢
 conv=>whnf
 repeat' (first|refine aS ?_|(refine zX (fun hc=>?_) (fun hc=>?_)<;>(try simp only[SY] at hc)<;>(conv=>whnf)))
 ·have hlt:k < l.length:=by omega
  have e1:((l.length:Int) - 1 - k).toNat=l.length - 1 - k:=by omega
  have hlt2:l.length - 1 - k < l.length:=by omega
  have fG:(oO l)[k]?=some [.int .i64 ((l.length:Int) - 1 - k),.agg (l[((l.length:Int) - 1 - k).toNat]'(by omega)).cells]:=by
   unfold oO;rw[List.getElem?_map,List.getElem?_range hlt];simp only[Option.map_some,Option.some.injEq,List.cons.injEq,and_true,PV.int.injEq,true_and];refine ⟨by omega,?_⟩;simp only[e1];simp[List.getD,hlt2]
  refine kQ.LX [.box b [.sl 4 (l.map aa.pv) none]] (hy k _ Γk fG hJ) (aX.refl _) (List.Perm.refl _) ?_;rintro _ Γ1 (⟨rfl,hJ1⟩ | ⟨rfl,hX⟩)
  ·conv=>whnf
   repeat' (first|refine aS ?_|(refine zX (fun hc=>?_) (fun hc=>?_)<;>(try simp only[SY] at hc)<;>omega))
   exact an (k + 1,Γ1) ⟨by show k + 1≤_;omega,hJ1⟩ (by show l.length - (k + 1) < l.length - k;omega) wA (hp:=⟨by rw[List.append_nil]⟩)
  ·conv=>whnf
   skip
   exact ak.gen (Γ':=Γ1) (hp:=⟨(List.perm_append_singleton _ _).symm⟩) (Wk.refl _) (.inr hX)
 ·have:k=l.length:=by omega
  subst this;exact ak.gen (Γ':=Γk) (hp:=⟨(List.perm_append_singleton _ _).symm⟩) (Wk.refl _) (.inl (by rw[hlen];exact hJ))
theorem LA (l:List aa):af Tryz.prog 151 [.sl 4 (l.map aa.pv) none] [] (fun y Γ'=> ∃ b,y=.fn (.func 195) [.ptr b 0]∧Γ'= [.box b [.sl 4 (l.map aa.pv) none]]):=by
 refine af.ah ai Tryz.func151 rfl rfl (n:=4) rfl rfl ?_
 conv=>whnf
 repeat' (first|((intro _);conv=>whnf)|(refine zX (fun hc=>?_) (fun hc=>?_)<;>(try simp only[SY] at hc)<;>omega))
 rename_i b;exact ak.gen (y:=.fn (.func 195) [.ptr b 0]) (Γ':= [.box b [.sl 4 (l.map aa.pv) none]]) (hp:=bC.self _) (Wk.refl _) ⟨b,rfl,rfl⟩
theorem Gk {l:List aa} {j:Nat} {ys:List PV} (h:(oO l)[j]?=some ys): ∃ m, ∃ hm:m < l.length,m=l.length - 1 - j∧j < l.length∧ys= [.int .i64 (m:Int),.agg l[m].cells]:=by
 unfold oO at h;rw[List.getElem?_map] at h;by_cases hj:j < l.length
 ·rw[List.getElem?_range hj] at h
  simp only[Option.map_some,Option.some.injEq] at h;refine ⟨l.length - 1 - j,by omega,rfl,hj,?_⟩;rw[←h,List.getD_eq_getElem?_getD,List.getElem?_eq_getElem (by omega)];rfl
 ·rw[List.getElem?_eq_none (by simpa using hj)] at h
  cases h
theorem wD {l:List aa} {t:aa} {m:Nat} (hm:m < l.length):mX (l.drop m) t=.mk l[m].op l[m].n l[m].v (l[m].t++ [mX (l.drop (m + 1)) t]):=by
 unfold mX;rw[List.drop_eq_getElem_cons hm,List.foldr_cons]
theorem JZ (l:List aa) (t:aa) (hl:l.length≤1000000000) (hb:aa.aD l≤1000000000):aA Tryz.prog 94 [.sl 4 (l.map aa.pv) none,.agg t.cells] (.agg (mX l t).cells):=by
 refine af.ah ai Tryz.func94 rfl rfl (n:=20) rfl rfl ?_
 conv=>whnf
 repeat' (first|((intro _);conv=>whnf)|(refine zX (fun hc=>?_) (fun hc=>?_)<;>(try simp only[SY] at hc)<;>omega))
 rename_i b3 b4;refine av.go (LA l) (aX.refl _) ?_;rintro _ _ ⟨bb,rfl,rfl⟩
 conv=>whnf
 skip
 refine PRange.go (oO l) (fun o:aa=> [.box b4 [.int .i64 0,.int .i64 0,.nil,.nil],.box b3 [.int .i64 o.op,.int .i64 o.n,.sl 1 (o.v.map (PV.int .i64)) none,.sl 4 (o.t.map aa.pv) none]])
  (fun k o=>k≤l.length∧o=mX (l.drop (l.length - k)) t) (fun _ _=>False) t (IL bb l (by omega)) ⟨Nat.zero_le _,by rw[Nat.sub_zero,List.drop_length];rfl⟩ (hp:=⟨by rw[List.append_nil];exact (List.perm_append_singleton _ _).symm⟩) (Γ1:= []) (by intro ys hy;obtain ⟨m,_,rfl⟩:=List.mem_map.1 hy;rfl) ?_ ?_ (fun _ _ _ h=>h.elim)
 ·rintro j ys o hk ⟨hj,ho⟩
  obtain ⟨m,hm,hjm,hjl,rfl⟩:=Gk hk;have hd1:l.length - j=m + 1:=by omega
  have hd2:l.length - (j + 1)=m:=by omega
  have hbm:l[m].t.length≤1000000000:=by
   have h1:=aa.bz (List.getElem_mem hm);have h2:=aa.aU l[m].t;have h3:=l[m].bu;omega
  rw[hd1] at ho
  conv=>whnf
  repeat' (first|refine aS ?_|((intro _);conv=>whnf)|(refine zX (fun hc=>?_) (fun hc=>?_)<;>(try simp only[SY] at hc)<;>omega))
  refine ⟨rfl,?_⟩
  conv=>whnf
  skip
  refine aC.sE [] [2] [5,6,7] ai mixed ?_
  conv=>whnf
  conv=>whnf
  repeat' (first|refine aS ?_|(refine zX (fun hc=>?_) (fun hc=>?_)<;>(try simp only[SY] at hc)<;>omega))
  refine av.go (Γ1:= []) (Dv l[m].t (by omega)) (aX.refl _) ?_;rintro _ _ ⟨tk,hte,rfl,rfl⟩
  conv=>whnf
  repeat' (first|refine aS ?_|((intro _);conv=>whnf)|(refine zX (fun hc=>?_) (fun hc=>?_)<;>(try simp only[SY] at hc)<;>omega))
  rename Tok=>t5
  refine ⟨rfl,_, [.box b4 [.int .i64 0,.int .i64 0,.nil,.nil],.box b3 [.int .i64 l[m].op,.int .i64 l[m].n,.sl 1 (l[m].v.map (PV.int .i64)) none,.sl 4 ((l[m].t++ [o]).map aa.pv) none]],dg.of (aX.refl _) (au.trans (au.box (b:=b3) (cs:= [.int .i64 l[m].op,.int .i64 l[m].n,.sl 1 (l[m].v.map (PV.int .i64)) none,.sl 4 ((l[m].t++ [o]).map aa.pv) (some t5)]) (cs':= [.int .i64 l[m].op,.int .i64 l[m].n,.sl 1 (l[m].v.map (PV.int .i64)) none,.sl 4 ((l[m].t++ [o]).map aa.pv) none]) wA) (au.drop bC.p)),aa.mk l[m].op l[m].n l[m].v (l[m].t++ [o]),⟨by omega,?_⟩,rfl⟩;rw[hd2,wD hm, ←ho]
 ·rintro bd o ⟨hle,ho⟩
  have hbl:(oO l).length=l.length:=by simp[oO]
  rw[hbl,Nat.sub_self,List.drop_zero] at ho;subst ho
  conv=>whnf
  repeat' (first|refine aS ?_|(refine zX (fun hc=>?_) (fun hc=>?_)<;>(try simp only[SY] at hc)<;>omega))
  refine ⟨⟨[], [], [],_,rfl,?_⟩⟩;simp only[List.cons_append,List.nil_append]
  conv=>whnf
  repeat (refine qF ?_)
  exact ak.pure cZ.wk
def It (f:Nat→aa) (n i:Nat):List aa:=(List.range n).map fun k=>if k < i then f k else gd
theorem u6 (f:Nat→aa) (n i:Nat):(It f n i).length=n:=by unfold It;simp
theorem A0 {f:Nat→aa} {n i j:Nat} (h:j < (It f n i).length):(It f n i)[j]=if j < i then f j else gd:=by simp[It]
theorem MO {f:Nat→aa} {n i:Nat}:(It f n i).set i (f i)=It f n (i + 1):=by
 refine List.ext_getElem (by simp[u6]) fun j h1 h2=>?_;rw[List.getElem_set,A0 h2];by_cases e:i=j
 ·subst e;rw[if_pos rfl,if_pos (by omega)]
 ·rw[if_neg e,A0 (by rw[u6] at h2 ⊢; exact h2)]
  by_cases h:j < i
  ·rw[if_pos h,if_pos (by omega)]
  ·rw[if_neg h,if_neg (by omega)]
theorem KZ (f:Nat→aa) (n:Nat):List.replicate n gd=It f n 0:=by
 refine List.ext_getElem (by simp[u6]) fun j h1 h2=>?_;rw[A0 h2,if_neg (by omega),List.getElem_replicate]
theorem Ij (n:Nat):qA (List.replicate n (PV.agg [.int .i64 0,.int .i64 0,.nil,.nil])) ((List.replicate n gd).map aa.pv):=by
 induction n with
 | zero=>exact .nil
 | succ n ih=>exact .cons (.cons (Wk.refl _) (.cons (Wk.refl _) (.cons (Wk.eu rfl) (.cons (Wk.eu rfl) .nil)))) ih
theorem xZ {p q:Prop} (k:q) (h:q→p:=by intro hq;first | exact aC.sP (some 42) rfl [] [7] ai mixed hq | exact aC.sP (some 86) rfl [] [7] ai mixed hq):p:=h k
theorem HH (b r:Nat) (L:List Int) (nx:Int) (bc:Nat) (tk:Tok) (l0:List aa) (ax:List cY) (ti:Tok) (hnx:0≤nx∧nx≤1000000000) (h1:tk.e=26) (h2:tk.s=4) (hl0:l0.length≤10000) (hts:ti.s=8) (hl:ax.length≤500) (hln: ∀ x∈ax,x.ln.length≤500) (hlr: ∀ x∈ax, ∀ y∈x.ln,0≤y∧y < (ax.length:Int)) (hfl:(jk ax).length≤500):
  af Tryz.prog 93 [.ptr b 0,.ptr bc 0,.ms ti] (.row ti (ax.map cY.pv)::.box bc [.ms tk]::.row tk (l0.map aa.pv)::By b r L nx) (fun y Γ'=> ∃ tk':Tok,tk'.e=26∧tk'.s=4∧y=.bn []∧Γ'=.row ti (ax.map cY.pv)::.box bc [.ms tk']::.row tk' ((l0++wH ax (jk ax) nx).map aa.pv)::By b r L (nx + C9 ax ax.length)):=by
 refine af.ah ai Tryz.func93 rfl rfl (n:=95) rfl rfl ?_
 conv=>whnf
 skip
 refine av.go (x9 ax ti hts hl hln hlr) (aX.refl _) ?_;rintro _ _ ⟨rfl,rfl⟩;generalize hfs:jk ax=fs at *
 conv=>whnf
 repeat' (first|((first|refine gO.row (by omega) (by omega) (by omega) (by show _ * 64≤_;omega) rfl fun tv hte hvs=>?_|(refine dQ.map fun _=>?_));conv=>whnf)|(refine zX (fun hc=>?_) (fun hc=>?_)<;>(try simp only[SY] at hc)<;>omega))
 rw[Int.toNat_natCast];refine aq.cj (au.tq (t:=tv) (Ij ax.length)) ?_
 refine aq.over [8,9,20,21,22,23,24,25,26,27,28,29,30,31,32,33,34,35,36,37,38,39,40,41,42,43,44,45,46,47,48,49,50,51,52,53,54,55,56,57,58,59,60,61,62,63,64,65] (fun x:Nat×Tok×List aa×Int×List aa=> [(20,.int .i64 x.1)]) (fun x=> [.row tv (x.2.2.2.2.map aa.pv),.row ti (ax.map cY.pv),.box bc [.ms x.2.1],.row x.2.1 (x.2.2.1.map aa.pv),.box b [.mp r,.int .i64 x.2.2.2.1],.mp r (.int .i64) (aT L) []])
  (fun x=>x.1≤ax.length∧x.2.1.e=26∧x.2.1.s=4∧x.2.2.1=l0++(List.range x.1).flatMap (Og ax nx)∧x.2.2.1.length≤10000 + x.1∧x.2.2.2.1=nx + C9 ax x.1∧x.2.2.2.2=It (Lo ax nx) ax.length x.1) (fun x=>ax.length - x.1) (0,tk,l0,nx,List.replicate ax.length gd) ⟨Nat.zero_le _,h1,h2,by simp,by dsimp only;omega,by simp[C9],KZ _ _⟩ wA ?_
 rintro ⟨i,tk,l,nz,vs⟩ ⟨hi,h1,h2,hls,hll,hnz,hvs⟩;dsimp only at hi h1 h2 hls hll hnz hvs ⊢;have hvl:=u6 (Lo ax nx) ax.length i;rw[←hvs] at hvl;have htn:=OJ ax i;rcases Nat.lt_or_ge i ax.length with hlt | hge
 ·have hid:ax.getD i ki=ax[i]:=by rw[List.getD_eq_getElem?_getD,List.getElem?_eq_getElem hlt];rfl
  have hst:l++Og ax nx i=l0++(List.range (i + 1)).flatMap (Og ax nx):=by rw[hls,List.range_succ,List.flatMap_append,List.append_assoc];simp
  have hset:=MO (f:=Lo ax nx) (n:=ax.length) (i:=i);have hts2:=K0 ax i;rw[Og,hid] at hst;rw[hid] at hts2;rw[Lo,hid, ←hvs] at hset;have hvi:i < vs.length:=by omega
  conv=>whnf
  repeat' (first|((first|((apply zZ);exact tB)|refine aM ?_|refine aF ?_|refine xZ ?_|intro _|refine zG ?_);conv=>whnf)|(refine zX (fun hc=>?_) (fun hc=>?_)<;>(try simp only[SY] at hc)<;>first|omega|(conv=>whnf)))
  ·rw[if_pos (by assumption),List.append_nil] at hst
   rw[if_pos (by assumption)] at hset;rw[if_neg (by simp_all),Int.add_zero] at hts2;exact an (i + 1,tk,l,nz,vs.set i ax[i].e) ⟨by show i + 1≤_;omega,h1,h2,hst,by show l.length≤10000 + (i + 1);omega,by show nz=_;rw[hts2];exact hnz,hset⟩ (by show ax.length - (i + 1) < ax.length - i;omega) wA
  ·rw[if_neg (by simp_all),if_pos (by assumption), ←hnz] at hst
   rw[if_neg (by simp_all),if_pos (by assumption), ←hnz] at hset;rw[if_pos ⟨by assumption,by assumption⟩] at hts2;have hvl2:(vs.set i ax[i].e).length=ax.length:=by rw[List.length_set];exact hvl
   have hset2:(vs.set i ax[i].e).set i (.mk 1 nz [] [])=It (Lo ax nx) ax.length (i + 1):=by rw[List.set_set];exact hset
   generalize vs.set i ax[i].e=vs2 at *;refine av.go (Aw bc tk l nz ax[i].e h1 h2 (by omega)) (aX.refl _) ?_;rintro _ _ ⟨tk2,e1,e2,rfl,rfl⟩
   conv=>whnf
   repeat' (first|((first|refine aM ?_|refine aF ?_);conv=>whnf)|(refine zX (fun hc=>?_) (fun hc=>?_)<;>(try simp only[SY] at hc)<;>omega))
   exact an (i + 1,tk2,l++ [kY nz ax[i].e],nz + 1,vs2.set i (.mk 1 nz [] [])) ⟨by show i + 1≤_;omega,e1,e2,hst,by show (l++ [_]).length≤10000 + (i + 1);rw[List.length_append,List.length_singleton];omega,by show nz + 1=_;rw[hts2,hnz];omega,hset2⟩ (by show ax.length - (i + 1) < ax.length - i;omega) wA
  ·rw[if_neg (by simp_all),if_neg (by simp_all)] at hst
   rw[if_neg (by simp_all),if_neg (by simp_all)] at hset;rw[if_neg (by simp_all),Int.add_zero] at hts2;refine av.go (Aw bc tk l ax[i].v ax[i].e h1 h2 (by omega)) (aX.refl _) ?_;rintro _ _ ⟨tk2,e1,e2,rfl,rfl⟩
   conv=>whnf
   repeat' (first|((refine aM ?_);conv=>whnf)|(refine zX (fun hc=>?_) (fun hc=>?_)<;>(try simp only[SY] at hc)<;>omega))
   exact an (i + 1,tk2,l++ [kY ax[i].v ax[i].e],nz,vs.set i ax[i].e) ⟨by show i + 1≤_;omega,e1,e2,hst,by show (l++ [_]).length≤10000 + (i + 1);rw[List.length_append,List.length_singleton];omega,by show nz=_;rw[hts2];exact hnz,hset⟩ (by show ax.length - (i + 1) < ax.length - i;omega) wA
 ·obtain rfl:i=ax.length:=by omega
  have hN:nz=nx + C9 ax ax.length:=hnz;have hvf:vs=It (Lo ax nx) ax.length ax.length:=hvs;generalize nx + C9 ax ax.length=nz2 at *;subst hN;have hl1: ∀ fs2:List jE,wH ax fs2 nx=(List.range ax.length).flatMap (Og ax nx)++(((List.range (ax.length + 1)).flatMap fun k:Nat=>bE fs2 (k:Int))++(List.range ax.length).flatMap (Oh ax nx)):=fun fs2=>by unfold wH;rw[List.append_assoc]
  rw[hl1, ←List.append_assoc, ←hls]
  conv=>whnf
  repeat' (first|((first|refine aM ?_|(refine dQ.map fun _=>?_));conv=>whnf)|(refine zX (fun hc=>?_) (fun hc=>?_)<;>(try simp only[SY] at hc)<;>first|omega|(conv=>whnf)))
  refine aq.over [10,69,70,71,72,73,74,75,76] (fun x:Nat×Tok×List aa=> [(69,.int .i64 x.1)]) (fun x=> [.row tv (vs.map aa.pv),.row ti (ax.map cY.pv),.box bc [.ms x.2.1],.row x.2.1 (x.2.2.map aa.pv),.box b [.mp r,.int .i64 nz],.mp r (.int .i64) (aT L) []])
   (fun x=>x.1≤ax.length + 1∧x.2.1.e=26∧x.2.1.s=4∧x.2.2=l++(List.range x.1).flatMap (fun k:Nat=>bE fs (k:Int))∧x.2.2.length≤20000 + x.1 * 500) (fun x=>ax.length + 1 - x.1) (0,tk,l) ⟨Nat.zero_le _,h1,h2,by simp,by dsimp only;omega⟩ wA ?_
  rintro ⟨m,tk,l2⟩ ⟨hm,h1,h2,hl2,hb2⟩;dsimp only at hm h1 h2 hl2 hb2 ⊢;rcases Nat.lt_or_ge m (ax.length + 1) with hml | hmg
  ·have hst:l2++bE fs (m:Int)=l++(List.range (m + 1)).flatMap (fun k:Nat=>bE fs (k:Int)):=by rw[hl2,List.range_succ,List.flatMap_append,List.append_assoc];simp
   have hfi:=iL fs (m:Int)
   conv=>whnf
   repeat' ((refine zX (fun hc=>?_) (fun hc=>?_)<;>(try simp only[SY] at hc)<;>first|omega|(conv=>whnf)))
   refine av.go (Af bc tk l2 fs (m:Int) h1 h2 (by omega)) (aX.refl _) ?_;rintro _ _ ⟨tk2,e1,e2,rfl,rfl⟩
   conv=>whnf
   repeat' (first|((refine aM ?_);conv=>whnf)|(refine zX (fun hc=>?_) (fun hc=>?_)<;>(try simp only[SY] at hc)<;>omega))
   exact an (m + 1,tk2,l2++bE fs (m:Int)) ⟨by show m + 1≤_;omega,e1,e2,hst,by show (l2++_).length≤20000 + (m + 1) * 500;rw[List.length_append];omega⟩ (by show ax.length + 1 - (m + 1) < ax.length + 1 - m;omega) wA
  ·obtain rfl:m=ax.length + 1:=by omega
   rw[←List.append_assoc, ←hl2]
   conv=>whnf
   repeat' (first|(((refine dQ.map fun _=>?_));conv=>whnf)|(refine zX (fun hc=>?_) (fun hc=>?_)<;>(try simp only[SY] at hc)<;>first|omega|(conv=>whnf)))
   refine aq.over [11,12,79,80,81,82,83,84,85,86,87,88,89,90,91,92,93,94] (fun x:Nat×Tok×List aa=> [(79,.int .i64 x.1)]) (fun x=> [.row tv (vs.map aa.pv),.row ti (ax.map cY.pv),.box bc [.ms x.2.1],.row x.2.1 (x.2.2.map aa.pv),.box b [.mp r,.int .i64 nz],.mp r (.int .i64) (aT L) []])
    (fun x=>x.1≤ax.length∧x.2.1.e=26∧x.2.1.s=4∧x.2.2=l2++(List.range x.1).flatMap (Oh ax nx)∧x.2.2.length≤300000 + x.1) (fun x=>ax.length - x.1) (0,tk,l2) ⟨Nat.zero_le _,h1,h2,by simp,by dsimp only;omega⟩ wA ?_
   rintro ⟨i,tk,l3⟩ ⟨hi,h1,h2,hl3,hb3⟩;dsimp only at hi h1 h2 hl3 hb3 ⊢;rcases Nat.lt_or_ge i ax.length with hlt | hge
   ·have hid:ax.getD i ki=ax[i]:=by rw[List.getD_eq_getElem?_getD,List.getElem?_eq_getElem hlt];rfl
    have hvi:i < vs.length:=by omega
    have hve:vs[i]=Lo ax nx i:=by
     have:vs[i]?=some (Lo ax nx i):=by
      rw[hvf];unfold It;rw[List.getElem?_map,List.getElem?_range hlt,Option.map_some,if_pos hlt]
     rw[List.getElem?_eq_getElem hvi] at this;exact Option.some.inj this
    have hst:l3++Oh ax nx i=l2++(List.range (i + 1)).flatMap (Oh ax nx):=by rw[hl3,List.range_succ,List.flatMap_append,List.append_assoc];simp
    rw[Oh,hid, ←hve] at hst
    conv=>whnf
    repeat' (first|((first|((apply zZ);first|exact tB|((conv=>whnf);(repeat ((refine aH ?_);conv=>whnf));exact pZ))|refine aM ?_|refine aF ?_|refine xZ ?_|intro _|refine zG ?_);conv=>whnf)|(refine zX (fun hc=>?_) (fun hc=>?_)<;>(try simp only[SY] at hc)<;>first|omega|(conv=>whnf)))
    ·rw[if_pos (by assumption)] at hst
     refine av.go (F6 bc tk l3 ax[i].v vs[i] h1 h2 (by omega)) (aX.refl _) ?_;rintro _ _ ⟨tk2,e1,e2,rfl,rfl⟩
     conv=>whnf
     repeat' (first|((refine aM ?_);conv=>whnf)|(refine zX (fun hc=>?_) (fun hc=>?_)<;>(try simp only[SY] at hc)<;>omega))
     exact an (i + 1,tk2,l3++ [mM ax[i].v vs[i]]) ⟨by show i + 1≤_;omega,e1,e2,hst,by show (l3++ [_]).length≤300000 + (i + 1);rw[List.length_append,List.length_singleton];omega⟩ (by show ax.length - (i + 1) < ax.length - i;omega) wA
    ·rw[if_neg (by simp_all),List.append_nil] at hst
     exact an (i + 1,tk,l3) ⟨by show i + 1≤_;omega,h1,h2,hst,by show l3.length≤300000 + (i + 1);omega⟩ (by show ax.length - (i + 1) < ax.length - i;omega) wA
   ·obtain rfl:i=ax.length:=by omega
    rw[←hl3]
    conv=>whnf
    repeat' ((refine zX (fun hc=>?_) (fun hc=>?_)<;>(try simp only[SY] at hc)<;>first|omega|(conv=>whnf)))
    exact ak.gen (y:=.bn []) (Γ':=.row ti (ax.map cY.pv)::.box bc [.ms tk]::.row tk (l3.map aa.pv)::By b r L nz) (Wk.refl _) ⟨tk,h1,h2,rfl,rfl⟩
section
variable {V:List Int} {E T:List aa} {pr lt:List Bool} {ln:List (List Int)}
def sL (V:List Int) (E T:List aa) (pr lt:List Bool) (ln:List (List Int)) (n i:Nat):List cY:=(List.range n).map fun k=>Lg V (if k < i then E else T) pr lt ln k
theorem ry {n i:Nat}:(sL V E T pr lt ln n i).length=n:=by unfold sL;simp
theorem v8 {n i j:Nat} (h:j < (sL V E T pr lt ln n i).length):(sL V E T pr lt ln n i)[j]=Lg V (if j < i then E else T) pr lt ln j:=by simp[sL]
theorem Hi {n:Nat}:gx V T pr lt ln n=sL V E T pr lt ln n 0:=by
 unfold gx sL;exact List.map_congr_left fun k _=>by rw[if_neg (by omega)]
theorem Hh {n:Nat}:sL V E T pr lt ln n n=gx V E pr lt ln n:=by
 unfold gx sL;exact List.map_congr_left fun k hk=>by rw[if_pos (List.mem_range.1 hk)]
theorem JA {n i:Nat} {x:cY} (hx:x=Lg V E pr lt ln i):(sL V E T pr lt ln n i).set i x=sL V E T pr lt ln n (i + 1):=by
 subst hx;refine List.ext_getElem (by simp[ry]) fun j h1 h2=>?_;rw[List.getElem_set,v8 h2];by_cases e:i=j
 ·subst e;rw[if_pos rfl,if_pos (by omega)]
 ·rw[if_neg e,v8 (by rw[ry] at h2 ⊢; exact h2)]
  by_cases h:j < i
  ·rw[if_pos h,if_pos (by omega)]
  ·rw[if_neg h,if_neg (by omega)]
end
section
variable {P:Program} {tt:Nat→TI}
theorem we {τ:Type} {ds:List Nat} {ps:τ→List (Nat×PV)} {G:τ→List aj} {J:τ→Prop} {T T':List PV} {Γ Γ' Γ1:List aj} {D:Ds} (t:τ) (hJ:J t) (hg:au Γ Γ') (hw:cg 0 T' T ds (ps t)) [hp:bC Γ' (G t) Γ1]:uK ds ps G J T D T' Γ D:=
 ⟨rfl,t,hJ,dg.of (cg.wk 0 T' T ds (ps t) hw) (au.trans hg (au.drop hp.p))⟩
theorem aC.ghost {ops:Array Oper} {T:List PV} {Γ Γ':List aj} {K:List PV→List aj→Prop} (hg:au Γ Γ') (h:aC P ops T Γ' K):aC P ops T Γ K:=
 ⟨fun rd nn id w0 F M w a Q' hS hT hQ=>by
  obtain ⟨F1,e1,hS1⟩:=hg w0 F M w hS
  exact h.h rd nn id w0 F1 M w a Q' hS1 (aB.mono e1 _ _ hT) fun F' T2 Γ2 a' w' hle=>hQ F' T2 Γ2 a' w' (Fz.le_trans e1 hle)⟩
end
theorem au.rS (s:Nat) (e:TypeId) (Γ:List aj) (l:List aa) (h:l= []):au Γ (.row (ay s e) (l.map aa.pv)::Γ):=by subst h;exact au.cm s e Γ
def Hs (V:List Int) (lt:List Bool) (i:Nat):List Int:=((List.range i).filter fun k=>lt.getD k false).map fun k=>V.getD k 0
theorem Cm (V:List Int) (lt:List Bool) (i:Nat):Hs V lt (i + 1)=Hs V lt i++if lt.getD i false=true then [V.getD i 0] else []:=by
 unfold Hs;rw[List.range_succ,List.filter_append,List.map_append,List.filter_cons,List.filter_nil];by_cases h:lt.getD i false=true
 ·rw[if_pos h,if_pos h];rfl
 ·rw[if_neg h,if_neg h];rfl
theorem Ft (V:List Int) (lt:List Bool) (i:Nat):(Hs V lt i).length≤i:=by
 unfold Hs;rw[List.length_map];exact Nat.le_trans (List.length_filter_le _ _) (by simp)
theorem DT (V:List Int) (E:List aa) (pr lt:List Bool) (ln:List (List Int)):(cJ V E pr lt ln).length≤pr.length:=by
 have h:=kH (gw (dK (bp pr lt)) ln);unfold ee at h;rw[List.length_map] at h;unfold cJ;rw[List.length_map];refine Nat.le_trans h ?_;unfold gw dK bp;rw[List.length_map];exact Nat.le_trans (List.length_filter_le _ _) (by simp)
theorem o8 {p q:Prop} (k:q) (h:q→p:=by intro hq;first | exact aC.sT (some 24) rfl [5,10] [12,13,14] ai mixed hq | exact aC.sP (some 43) rfl [] [12] ai mixed hq | exact aC.sP (some 56) rfl [9] [10] ai mixed hq):p:=h k
theorem Mv (b r:Nat) (L:List Int) (nx:Int) (t:aa) (hb:aa.aD t.t + aa.fB 1 t.t + 9 * t.v.length + 10≤1000000000) (hv:t.t.length=t.v.length + 1) (hn:t.v.length≤500) (hnx:0≤nx∧nx≤1000000000):
  af Tryz.prog 52 [.ptr b 0,.agg t.cells] (By b r L nx) (fun y Γ'=>y=.agg (iP L.contains t.n t.v t.t nx).1.cells∧Γ'=By b r L (iP L.contains t.n t.v t.t nx).2):=by
 have hbe:=t.bu;have hbs:=aa.aU t.t;have hrb:=tc L.contains t.n t.v t.t nx hv;have hR:iP L.contains t.n t.v t.t nx=iP L.contains t.n t.v t.t nx:=rfl
 conv at hR=>rhs;unfold iP;dsimp only
 refine af.ah ai Tryz.func52 rfl rfl (n:=86) rfl rfl ?_
 conv=>whnf
 repeat' (first|refine aS ?_|((intro _);conv=>whnf)|(refine zX (fun hc=>?_) (fun hc=>?_)<;>(try simp only[SY] at hc)<;>omega))
 refine av.go (Hg b r L nx t (by omega) hv hn) (aX.refl _) ?_;rintro _ _ ⟨ti,hte,hts,rfl,rfl⟩;rw[Cd];have hpl:(dc L.contains t.v t.t).length=t.v.length:=by unfold dc;simp
 have hnl:(bx t.v t.t).length=t.v.length:=by unfold bx;simp
 have hltl:(fX t.n (dc L.contains t.v t.t) (bx t.v t.t)).length=t.v.length:=by unfold fX;simp[hnl]
 have hgo:=lM t.v t.t
 have hll: ∀ l∈bx t.v t.t,l.length≤500:=fun l hl=>by
  unfold bx at hl;obtain ⟨k,hk,rfl⟩:=List.mem_map.1 hl;have:=bO t.v.length fun j=>(eA (bg (t.t.getD k gd).all)).contains (t.v.getD j 0);unfold ue;omega
 have hlv:nE t.v (fX t.n (dc L.contains t.v t.t) (bx t.v t.t))=Hs t.v (fX t.n (dc L.contains t.v t.t) (bx t.v t.t)) t.v.length:=rfl;rw[hlv] at hR;generalize hRR:iP L.contains t.n t.v t.t nx=RR at *;generalize hpr:dc L.contains t.v t.t=pr at *;generalize hln:bx t.v t.t=ln at *;generalize hlt:fX t.n pr ln=lt at *;generalize hnn:t.v.length=n at *;have hil:(gx t.v t.t pr lt ln n).length=n:=nw;have hig: ∀ (i:Nat) (h:i < (gx t.v t.t pr lt ln n).length),(gx t.v t.t pr lt ln n)[i]=Lg t.v t.t pr lt ln i:=fun i h=>by simp[gx]
 generalize hI:gx t.v t.t pr lt ln n=ax at *
 conv=>whnf
 repeat' (first|((first|(refine dQ.map fun _=>?_)|refine aF ?_|intro _);conv=>whnf)|(refine zX (fun hc=>?_) (fun hc=>?_)<;>(try simp only[SY] at hc)<;>omega))
 rename_i b3 b4 b6 _;refine aq.cj (au.trans (au.nil 1 3 _) (au.trans (au.nil 4 26 _) (au.box (b:=b6) (cs:= [.int .i64 8,.int .i64 0,.nil,.nil]) (cs':= [.int .i64 8,.int .i64 0,.sl 1 (([]:List Int).map (PV.int .i64)) (some (ay 1 3)),.sl 4 (([]:List aa).map aa.pv) (some (ay 4 26))]) wA))) ?_
 refine aq.over [8,18,19,20,21,22,23,24,25,26,27,28,29,30,31,32,33,34,35,36,37] (fun x:Nat×(List Int×Tok)×(List aa×Tok)=> [(18,.int .i64 x.1)]) (fun x=> [.box b6 [.int .i64 8,.int .i64 0,.sl 1 (x.2.1.1.map (PV.int .i64)) (some x.2.1.2),.sl 4 (x.2.2.1.map aa.pv) (some x.2.2.2)],.tok x.2.1.2,.tok x.2.2.2,.row ti (ax.map cY.pv),.box b [.mp r,.int .i64 nx],.mp r (.int .i64) (aT L) [],.box b4 [.int .i64 0,.int .i64 0,.nil,.nil],.box b3 [.int .i64 t.op,.int .i64 t.n,.sl 1 (t.v.map (PV.int .i64)) none,.sl 4 (t.t.map aa.pv) none]])
  (fun x=>x.1≤n∧x.2.1.2.e=3∧x.2.2.2.e=26∧x.2.1.1=Hs t.v lt x.1∧x.2.2.1=(Hs t.v lt x.1).map fun _=>aa.mk 13 0 [] []) (fun x=>n - x.1) (0,([],ay 1 3),([],ay 4 26)) ⟨Nat.zero_le _,rfl,rfl,rfl,rfl⟩ wA ?_
 rintro ⟨i,⟨lv,tv⟩,⟨ut,tu⟩⟩ ⟨hi,htv,htu,hlvs,huts⟩;dsimp only at hi htv htu hlvs huts ⊢;have hll2:=Ft t.v lt i;rw[←hlvs] at hll2 huts;have hul:ut.length≤i:=by rw[huts,List.length_map];exact hll2
 rcases Nat.lt_or_ge i n with hlti | hgei
 ·have hid:=hig i (by omega)
  have hsn:=Cm t.v lt i;have e1:ax[i].v=t.v.getD i 0:=by rw[hid];rfl
  have e2:ax[i].lt=lt.getD i false:=by rw[hid];rfl
  rw[←hlvs, ←e1, ←e2] at hsn
  conv=>whnf
  repeat' (first|((first|((apply zZ);exact tB)|refine aM ?_|refine aF ?_|refine o8 ?_|intro _|refine zG ?_);conv=>whnf)|(refine zX (fun hc=>?_) (fun hc=>?_)<;>(try simp only[SY] at hc)<;>first|omega|(conv=>whnf)))
  ·rename_i tv2 htv2 tu2 htu2
   rw[if_pos (by assumption)] at hsn;exact an (i + 1,(lv++ [ax[i].v],tv2),(ut++ [.mk 13 0 [] []],tu2)) ⟨by show i + 1≤_;omega,htv2,htu2,hsn.symm,by show ut++_=_;rw[hsn,List.map_append,huts];rfl⟩ (by show n - (i + 1) < n - i;omega) wA
  ·rw[if_neg (by simp_all),List.append_nil] at hsn
   exact an (i + 1,(lv,tv),(ut,tu)) ⟨by show i + 1≤_;omega,htv,htu,hsn.symm,by show ut=_;rw[hsn];exact huts⟩ (by show n - (i + 1) < n - i;omega) wA
 ·obtain rfl:i=n:=by omega
  have hlve:Hs t.v lt i=lv:=hlvs.symm;rw[hlve] at hR;clear hlvs;have hel:(t.t.map (aa.ask lv)).length=i + 1:=by rw[List.length_map,hv]
  generalize hE:t.t.map (aa.ask lv)=E at *
  conv=>whnf
  repeat' (first|(((refine dQ.map fun _=>?_));conv=>whnf)|(refine zX (fun hc=>?_) (fun hc=>?_)<;>(try simp only[SY] at hc)<;>first|omega|(conv=>whnf)))
  refine aq.over [9,40,41,42,43,44,45,46,47,48,49,50,51,52,53,54,55] (fun x:Nat×List cY=> [(40,.int .i64 x.1)]) (fun x=> [.row ti (x.2.map cY.pv),.box b6 [.int .i64 8,.int .i64 0,.sl 1 (lv.map (PV.int .i64)) (some tv),.sl 4 (ut.map aa.pv) (some tu)],.tok tv,.tok tu,.box b [.mp r,.int .i64 nx],.mp r (.int .i64) (aT L) [],.box b4 [.int .i64 0,.int .i64 0,.nil,.nil],.box b3 [.int .i64 t.op,.int .i64 t.n,.sl 1 (t.v.map (PV.int .i64)) none,.sl 4 (t.t.map aa.pv) none]])
   (fun x=>x.1≤i∧x.2=sL t.v E t.t pr lt ln i x.1) (fun x=>i - x.1) (0,ax) ⟨Nat.zero_le _,by rw[←hI];exact Hi⟩ wA ?_
  rintro ⟨k,its1⟩ ⟨hk,hits1⟩;dsimp only at hk hits1 ⊢;have hil1:its1.length=i:=by rw[hits1];exact ry
  rcases Nat.lt_or_ge k i with hlk | hgk
  ·have hkt:k < t.t.length:=by omega
   have hk1:k < its1.length:=by omega
   have hkg:its1[k]=Lg t.v t.t pr lt ln k:=by
    have:=v8 (V:=t.v) (E:=E) (T:=t.t) (pr:=pr) (lt:=lt) (ln:=ln) (n:=i) (i:=k) (j:=k) (by rw[ry];exact hlk);rw[if_neg (by omega)] at this;simp only[hits1];exact this
   have hke:its1[k].e=t.t[k]:=by rw[hkg];show t.t.getD k gd=_;rw[List.getD_eq_getElem?_getD,List.getElem?_eq_getElem hkt];rfl
   have hset:=JA (V:=t.v) (E:=E) (T:=t.t) (pr:=pr) (lt:=lt) (ln:=ln) (n:=i) (i:=k) (x:={ its1[k] with e:=its1[k].e.ask lv }) (by
    rw[hke,hkg];unfold Lg;have:E.getD k gd=t.t[k].ask lv:=by rw[←hE,List.getD_eq_getElem?_getD,List.getElem?_map,List.getElem?_eq_getElem hkt];rfl
    rw[this])
   rw[←hits1] at hset
   conv=>whnf
   repeat' (first|((first|((apply zZ);first|exact tB|((conv=>whnf);(repeat ((first|refine pC (tO its1[k].e lv (by rw[hke];have:=aa.bz (List.getElem_mem hkt);omega)) (by ((repeat' (first|exact aX.nil|apply aX.cons|exact Wk.refl _|exact Wk.int OA|exact Wk.tt rfl|exact Wk.ff rfl|exact Wk.eu rfl|exact Wk.tok _ _ _));first|done|fail)) ?_|refine aH ?_);conv=>whnf));exact pZ))|refine o8 ?_);conv=>whnf)|(refine zX (fun hc=>?_) (fun hc=>?_)<;>(try simp only[SY] at hc)<;>first|omega|(conv=>whnf)))
   refine bP.row (f:=cY.pv) (l:=its1) ({ its1[k] with e:=its1[k].e.ask lv }:cY) (by omega) rfl rfl rfl (xs:=(its1[k].e.ask lv).cells) (fR.refl _) rfl ?_;rw[hset]
   conv=>whnf
   repeat' (first|((refine aM ?_);conv=>whnf)|(refine zX (fun hc=>?_) (fun hc=>?_)<;>(try simp only[SY] at hc)<;>omega))
   exact an (k + 1,sL t.v E t.t pr lt ln i (k + 1)) ⟨by show k + 1≤_;omega,rfl⟩ (by show i - (k + 1) < i - k;omega) wA
  ·obtain rfl:k=i:=by omega
   have hkt:its1.length < t.t.length:=by omega
   conv=>whnf
   skip
   refine kj.no (by simp;omega) ?_
   conv=>whnf
   repeat (((first|((apply zZ);first|exact tB|((conv=>whnf);(repeat ((first|(refine dQ.map fun _=>?_)|refine pC (tO t.t[its1.length] lv (by have:=aa.bz (List.getElem_mem hkt);omega)) (by ((repeat' (first|exact aX.nil|apply aX.cons|exact Wk.refl _|exact Wk.int OA|exact Wk.tt rfl|exact Wk.ff rfl|exact Wk.eu rfl|exact Wk.tok _ _ _));first|done|fail)) ?_);conv=>whnf));exact pZ))|refine aF ?_|refine o8 ?_|intro _);conv=>whnf))
   rename_i b10 b11;have hbk:lv.length=0∨0 < lv.length:=by omega
   refine me.join (fun _:Tok=> []) (fun tk=> [.box b11 [.ms tk],.row tk ((iR lv).map aa.pv),.box b10 [.int .i64 (t.t[its1.length].ask lv).op,.int .i64 (t.t[its1.length].ask lv).n,.sl 1 ((t.t[its1.length].ask lv).v.map (PV.int .i64)) none,.sl 4 ((t.t[its1.length].ask lv).t.map aa.pv) none],.row ti (its1.map cY.pv),.box b [.mp r,.int .i64 nx],.mp r (.int .i64) (aT L) [],.box b4 [.int .i64 0,.int .i64 0,.nil,.nil],.box b3 [.int .i64 t.op,.int .i64 t.n,.sl 1 (t.v.map (PV.int .i64)) none,.sl 4 (t.t.map aa.pv) none]]) (fun tk=>tk.e=26∧tk.s=4) ?_ ?_
   ·conv=>whnf
    repeat' (first|((first|refine aM ?_|intro _);conv=>whnf)|(refine zX (fun hc=>?_) (fun hc=>?_)<;>(try simp only[SY] at hc)<;>(conv=>whnf)))
    ·obtain ⟨l0,hl0⟩: ∃ l0:List aa,l0= []:=⟨_,rfl⟩
     have hl0l:l0.length=0:=by rw[hl0];rfl
     refine aC.ghost (au.trans (au.rS 4 26 _ l0 hl0) (au.box (b:=b11) (cs:= [.nil]) (cs':= [.ms (ay 4 26)]) (.cons (Wk.cm _ _) .nil))) ?_;have hz1:(ay 4 26).e=26:=rfl;have hz2:(ay 4 26).s=4:=rfl;generalize ay 4 26=tz at *;refine aC.tree ai mixed [0,0,1,0,15,31,63,31] [1,3] [0,2,4,5,6,7] [.box b11 [.ms tz],.row tz (l0.map aa.pv)] ?_
     conv=>whnf
     conv=>whnf
     repeat' (first|((first|((apply zZ);exact tB)|refine aM ?_|(refine And.intro ?_ ?_)|(refine dQ.map fun _=>?_)|(refine dB.IK (l:=l0++ [aa.mk 0 0 [] []]) (by assumption) (by omega) (by simp;omega) ?_)|(refine bP.j6 (f:=aa.pv) (l:=l0++ [aa.mk 0 0 [] []]) (by simp) rfl rfl rfl ?_)|refine aF ?_|intro _);conv=>whnf)|(refine zX (fun hc=>?_) (fun hc=>?_)<;>(try simp only[SY] at hc)<;>omega))
     all_goals try exact trivial
     all_goals
      rename Tok=>t5
      have hu:l0++ [aa.mk 8 0 lv ut]=iR lv:=by
       rw[hl0];unfold iR;rw[if_neg (by omega),huts];rfl
      rw[fL,hu];exact fH t5 ⟨by assumption,by assumption⟩ wA
    ·refine we (ay 4 26) ⟨rfl,rfl⟩ (au.trans (au.rS 4 26 _ (iR lv) (by unfold iR;rw[if_pos (by omega)])) (au.box (b:=b11) (cs:= [.nil]) (cs':= [.ms (ay 4 26)]) (.cons (Wk.cm _ _) .nil))) wA
   ·rintro tk ⟨h1,h2⟩
    conv=>whnf
    skip
    obtain ⟨LK,hLK⟩: ∃ l,l=iR lv++if t.n=1 then lU t.v E pr lt (cJ t.v E pr lt ln) k else ir t.v E pr lt (cJ t.v E pr lt ln) nx k:=⟨_,rfl⟩
    obtain ⟨ny,hny⟩: ∃ k1,k1=if t.n=1 then nx else nx + lY pr lt k:=⟨_,rfl⟩
    refine me.join (fun _:Tok=> []) (fun tk=> [.box b11 [.ms tk],.row tk (LK.map aa.pv),.box b10 [.int .i64 (t.t[its1.length].ask lv).op,.int .i64 (t.t[its1.length].ask lv).n,.sl 1 ((t.t[its1.length].ask lv).v.map (PV.int .i64)) none,.sl 4 ((t.t[its1.length].ask lv).t.map aa.pv) none],.box b [.mp r,.int .i64 ny],.mp r (.int .i64) (aT L) [],.box b4 [.int .i64 0,.int .i64 0,.nil,.nil]]) (fun tk=>tk.e=26∧tk.s=4) ?_ ?_
    ·rw[Hh] at hits1
     have hFI:jk its1=cJ t.v E pr lt ln:=by rw[hits1];exact GZ hnn hpl hltl hnl
     have hfl:=DT t.v E pr lt ln;have hul:(iR lv).length≤1:=by unfold iR;split<;>simp
     have hlj: ∀ j,j < k→ln.getD j []∈ln:=fun j hj=>by
      rw[List.getD_eq_getElem?_getD,List.getElem?_eq_getElem (by omega)];exact List.getElem_mem _
     have hln1: ∀ x∈its1,x.ln.length≤500:=fun x hx=>by
      rw[hits1] at hx;obtain ⟨j,hj,rfl⟩:=List.mem_map.1 hx;exact hll _ (hlj j (List.mem_range.1 hj))
     have hln2: ∀ x∈its1, ∀ y∈x.ln,0≤y∧y < (its1.length:Int):=fun x hx y hy=>by
      rw[hits1] at hx;obtain ⟨j,hj,rfl⟩:=List.mem_map.1 hx;have:=hgo _ (hlj j (List.mem_range.1 hj)) y hy;omega
     conv=>whnf
     repeat' (first|refine aS ?_|(refine zX (fun hc=>?_) (fun hc=>?_)<;>(try simp only[SY] at hc)<;>(conv=>whnf)))
     ·rw[if_pos (by assumption)] at hLK hny
      refine av.go (KM b11 tk (iR lv) its1 ti h1 h2 (by omega) hts (by omega) hln1 hln2 (by rw[hFI];omega)) (aX.refl _) ?_;rintro _ _ ⟨tk2,e1,e2,rfl,rfl⟩;have hS:=KO (V:=t.v) (E:=E) (pr:=pr) (lt:=lt) (ln:=ln) (n:=k) (cJ t.v E pr lt ln);rw[←hits1] at hS;rw[hFI,hS, ←hLK]
      conv=>whnf
      skip
      rw[←hny];exact fH tk2 ⟨e1,e2⟩ wA
     ·rw[if_neg (by assumption)] at hLK hny
      refine av.go (HH b r L nx b11 tk (iR lv) its1 ti hnx h1 h2 (by omega) hts (by omega) hln1 hln2 (by rw[hFI];omega)) (aX.refl _) ?_;rintro _ _ ⟨tk2,e1,e2,rfl,rfl⟩;have hS:=HJ (V:=t.v) (E:=E) (ln:=ln) hpl hltl (cJ t.v E pr lt ln) nx;have hT:=EF (V:=t.v) (E:=E) (ln:=ln) hpl hltl k;rw[←hits1] at hS hT;have hT2:C9 its1 its1.length=lY pr lt k:=by rw[hil1];exact hT
      rw[hFI,hS,hT2, ←hLK, ←hny]
      conv=>whnf
      skip
      exact fH tk2 ⟨e1,e2⟩ wA
    ·rintro tk ⟨h1,h2⟩
     have hEk:E.getD k gd=t.t[its1.length].ask lv:=by
      rw[←hE,List.getD_eq_getElem?_getD,List.getElem?_map,show t.t[k]?=some t.t[its1.length] by rw[←hil1];exact List.getElem?_eq_getElem hkt];rfl
     rw[←hLK, ←hny,hEk] at hR;rw[hR] at hrb ⊢;have hob:=ql LK (t.t[its1.length].ask lv)
     have hlb:(LK.map Is).sum=aa.aD LK:=by
      rw[lD];congr 1
      exact List.map_congr_left fun x _=>(by rw[x.bu];rfl)
     have hLl:=aa.aU LK;dsimp only at hrb ⊢;generalize t.t[its1.length].ask lv=bo at *
     conv=>whnf
     repeat (refine qF ?_)
     refine av.AM tk (LK.map aa.pv) (.cons (iA.ms' h2) (.cons (iA.of (Wk.refl _)) .nil)) (JZ LK bo (by omega) (by omega)) ?_
     conv=>whnf
     repeat' (first|refine aS ?_|(refine zX (fun hc=>?_) (fun hc=>?_)<;>(try simp only[SY] at hc)<;>omega))
     exact ak.gen (y:=.agg (mX LK bo).cells) (Γ':=By b r L ny) cZ.wk ⟨rfl,rfl⟩
theorem vn (t:aa) (x:Int):x∈dY t↔x∈t.vars:=by unfold dY;exact nM _ _
theorem gQ.fits {p:Prog} {level:Int} (h:gQ p level):p.body.O2∧p.body.dep≤400∧(∀ x∈p.body.vars,0≤x∧x≤1000000):=by
 have h1:=p.body.Cw h.2.2.1;exact ⟨p.body.Mp h.2.2.1,by omega,fun x hx=>⟨(h.2.2.2.2.1 x hx).1,(h.2.2.2.2.1 x hx).2.1⟩⟩
theorem Gn (t:aa) (h:t.dep < 1000):(dY t).length≤t.aQ:=by
 have:=(t.uL 0 [] List.Pairwise.nil).2.1;rw[t.zl h] at this;simpa using this
theorem wB:Wk (.agg [.nil,.int .i64 0,.int .i64 0,.nil,.nil]) (.agg PL.cells):=Wk.agg (.cons (Wk.eu rfl) (.cons (Wk.refl _) (.cons (Wk.refl _) (.cons (Wk.eu rfl) (.cons (Wk.eu rfl) .nil)))))
theorem gQ.binds {p:Prog} {level:Int} (h:gQ p level):(eA (bG p.body.all)).length=p.body.vars.length:=by
 have h1:=p.body.Fy [] 0 (by have:=p.body.Cw h.2.2.1;omega);have h2:bG p.body.all=p.body.vars:=h1.2;rw[h2];exact Kr h.2.2.2.2.2
theorem sy (A:Int→Bool) (x:aa): ∀ (l:List aa) (nx:Int),aa.dH A (l++ [x]) nx=((aa.dH A l nx).1++ [(x.m6 A (aa.dH A l nx).2).1],(x.m6 A (aa.dH A l nx).2).2)
 | [],nx=>by rw[List.nil_append,aa.dH,aa.dH];rfl
 | y::l,nx=>by rw[List.cons_append,aa.dH,sy A x l,aa.dH];rfl
theorem Ga (pr lt:List Bool) (k:Nat):0≤lY pr lt k∧lY pr lt k≤k:=by
 unfold lY;have:=List.length_filter_le (fun i=>!pr.getD i false && lt.getD i false) (List.range k);rw[List.length_range] at this;omega
theorem Mw (A:Int→Bool) (N:Int) (V:List Int) (T:List aa) (nx:Int):nx≤(iP A N V T nx).2∧(iP A N V T nx).2≤nx + V.length:=by
 unfold iP;dsimp only;have:=Ga (dc A V T) (fX N (dc A V T) (bx V T)) V.length
 split<;>omega
theorem NI (A:Int→Bool) (t:aa): ∀ nx:Int,nx≤(t.m6 A nx).2∧(t.m6 A nx).2≤nx + t.aQ:=by
 induction t using aa.ind with
 | h t ih=>
  intro nx
  have key: ∀ l:List aa,(∀ x∈l, ∀ nx:Int,nx≤(x.m6 A nx).2∧(x.m6 A nx).2≤nx + x.aQ)→ ∀ nx:Int,nx≤(aa.dH A l nx).2∧(aa.dH A l nx).2≤nx + aa.aD l:=by
   intro l
   induction l with
   | nil=>intro _ nx;rw[aa.dH,aa.aD];exact ⟨Int.le_refl _,by show nx≤nx + ((0:Nat):Int);omega⟩
   | cons x l ihl=>
    intro h nx;rw[aa.dH,aa.aD];have h1:=h x (by simp) nx;have h2:=ihl (fun y hy=>h y (by simp[hy])) (x.m6 A nx).2;dsimp only;omega
  have hk:=key t.t ih nx;rw[aa.Ab,t.bu]
  split
  ·have:=Mw A t.n t.v (aa.dH A t.t nx).1 (aa.dH A t.t nx).2
   omega
  ·dsimp only
   omega
theorem qT (A:Int→Bool): ∀ (l:List aa) (nx:Int),nx≤(aa.dH A l nx).2∧(aa.dH A l nx).2≤nx + aa.aD l
 | [],nx=>by rw[aa.dH,aa.aD];exact ⟨Int.le_refl _,by show nx≤nx + ((0:Nat):Int);omega⟩
 | x::l,nx=>by
  rw[aa.dH,aa.aD];have h1:=NI A x nx;have h2:=qT A l (x.m6 A nx).2;dsimp only;omega
def O7 (b r:Nat) (L:List Int) (x:aa):Prop:= ∀ k:Int,0≤k→k + x.aQ≤1000000000→
 af Tryz.prog 32 [.ptr b 0,.agg x.cells] (By b r L k) (fun y Γ'=>y=.agg (x.m6 L.contains k).1.cells∧Γ'=By b r L (x.m6 L.contains k).2)
theorem Gy {p q:Prop} (k:q) (h:q→p:=by intro hq;first | exact aC.sP (some 8) rfl [8] [9] ai mixed hq):p:=h k
theorem En (b r:Nat) (L:List Int) (t:aa) (k:Int) (hf: ∀ x∈t.t,O7 b r L x) (h0:0≤k) (hk:k + aa.aD t.t≤1000000000) (hb:t.aQ≤1000000000):
  af Tryz.prog 51 [.agg t.cells,.fm 32 (.ptr b 0)] (By b r L k) (fun y Γ'=>y=.agg (aa.mk t.op t.n t.v (aa.dH L.contains t.t k).1).cells∧Γ'=By b r L (aa.dH L.contains t.t k).2):=by
 have hbe:=t.bu;have hbs:=aa.aU t.t;refine af.ah ai Tryz.func51 rfl rfl (n:=33) rfl rfl ?_
 conv=>whnf
 repeat (first|refine qF ?_|((first|((apply zZ);(conv=>whnf);(repeat ((refine pC (vq t.v (by omega)) wR ?_);conv=>whnf));exact pZ)|refine Gy ?_|intro _);conv=>whnf))
 rename_i b2 b4 b5 _;refine aq.cj (au.trans (au.nil 4 26 _) (au.box (b:=b5) (cs:= [.int .i64 t.op,.int .i64 t.n,cW t.v,.nil]) (cs':= [.int .i64 t.op,.int .i64 t.n,cW t.v,.sl 4 (([]:List aa).map aa.pv) (some (ay 4 26))]) wA)) ?_
 refine aq.over [7,19,20,21,22,23,24,25,26,27,28,29,30,31] (fun x:Nat×List aa×Tok×Int=> [(19,.int .i64 x.1)]) (fun x=> [.box b5 [.int .i64 t.op,.int .i64 t.n,cW t.v,.sl 4 (x.2.1.map aa.pv) (some x.2.2.1)],.tok x.2.2.1,.box b4 [.int .i64 0,.int .i64 0,.nil,.nil],.box b2 [.int .i64 t.op,.int .i64 t.n,cW t.v,.sl 4 (t.t.map aa.pv) none],.box b [.mp r,.int .i64 x.2.2.2],.mp r (.int .i64) (aT L) []])
  (fun x=>x.1≤t.t.length∧x.2.2.1.e=26∧(x.2.1,x.2.2.2)=aa.dH L.contains (t.t.take x.1) k) (fun x=>t.t.length - x.1) (0, [],ay 4 26,k) ⟨Nat.zero_le _,rfl,by rw[List.take_zero,aa.dH]⟩ wA ?_
 rintro ⟨i,l,tk,nx⟩ ⟨hi,hte,hl⟩;dsimp only at hi hte hl⊢
 have hrl:l.length=i:=by
  have:=lF L.contains (t.t.take i) k;rw[←hl,List.length_take] at this;dsimp only at this;omega
 rcases Nat.lt_or_ge i t.t.length with hlt | hge
 ·have hbt:aa.aD (t.t.take i) + (t.t[i]).aQ≤aa.aD t.t:=by
   have h1:t.t.take (i + 1)++t.t.drop (i + 1)=t.t:=List.take_append_drop _ _;have h2:=congrArg aa.aD h1;rw[List.take_succ_eq_append_getElem hlt,iJ,iJ,aa.aD,aa.aD] at h2;omega
  have hle:=qT L.contains (t.t.take i) k;rw[←hl] at hle;have hsn:=sy L.contains t.t[i] (t.t.take i) k;rw[←hl, ←List.take_succ_eq_append_getElem hlt] at hsn;dsimp only at hle hsn;have hcl:=hf _ (List.getElem_mem hlt) nx (by omega) (by omega)
  obtain ⟨y,hy⟩: ∃ y,t.t[i].m6 L.contains nx=y:=⟨_,rfl⟩
  obtain ⟨y,ny⟩:=y;rw[hy] at hsn hcl;dsimp only at hsn hcl
  conv=>whnf
  repeat' (first|refine aS ?_|((intro _);conv=>whnf)|(refine zX (fun hc=>?_) (fun hc=>?_)<;>(try simp only[SY] at hc)<;>first|omega|(conv=>whnf)))
  refine aC.sE [.tok tk,.box b [.mp r,.int .i64 nx],.mp r (.int .i64) (aT L) []] [4,5] [6,7,8] ai mixed ?_
  conv=>whnf
  repeat (refine qF ?_)
  refine av.go hcl (aX.refl _) ?_;rintro _ _ ⟨rfl,rfl⟩
  conv=>whnf
  repeat' (first|refine aS ?_|((intro _);conv=>whnf)|(refine zX (fun hc=>?_) (fun hc=>?_)<;>(try simp only[SY] at hc)<;>omega))
  rename Tok=>t5
  exact an (i + 1,l++ [y],t5,ny) ⟨by show i + 1≤_;omega,by assumption,hsn.symm⟩ (by show t.t.length - (i + 1) < t.t.length - i;omega) wA
 ·rw[List.take_of_length_le (by omega)] at hl
  rw[←hl]
  conv=>whnf
  repeat' (first|refine aS ?_|(refine zX (fun hc=>?_) (fun hc=>?_)<;>(try simp only[SY] at hc)<;>first|omega|(conv=>whnf)))
  exact ak.gen (y:=.agg (aa.mk t.op t.n t.v l).cells) (Γ':=By b r L nx) cZ.wk ⟨rfl,rfl⟩
theorem sx: ∀ l:List aa,(l.length:Int)≤aa.c6 l
 | []=>by rw[aa.c6];exact Int.le_refl _
 | x::l=>by
  have h1:=x.qS;have h2:=sx l;rw[aa.c6,List.length_cons];omega
theorem DB (A:Int→Bool): ∀ (l:List aa) (nx:Int) (M:Int),(∀ x∈l,x.Lj)→(∀ x∈l,(x.cnt:Int) + 10≤M)→(aa.fB 1 (aa.dH A l nx).1:Int)≤aa.aD l∧(aa.aD (aa.dH A l nx).1:Int)≤M * aa.aD l
 | [],nx,M,_,_=>by rw[aa.dH,aa.fB,aa.aD];simp
 | x::l,nx,M,h,hM=>by
  rw[aa.dH];dsimp only;rw[aa.fB,aa.aD,aa.aD];have h1:=vz A x (h x (by simp)) nx;have h2:=DB A l (x.m6 A nx).2 M (fun y hy=>h y (by simp[hy])) (fun y hy=>hM y (by simp[hy]));have h3:=hM x (by simp);have h4:((x.cnt:Int) + 10) * x.aQ≤M * x.aQ:=Int.mul_le_mul_of_nonneg_right h3 (by omega);simp only[Int.natCast_add,Int.mul_add];exact ⟨by omega,by omega⟩
theorem lE {l:List aa} {x:aa} (h:x∈l):x.cnt≤aa.c6 l:=by
 induction l with
 | nil=>cases h
 | cons y l ih=>
  rw[aa.c6];have hy:=y.qS;have hl:0≤aa.c6 l:=aa.eO l;rcases List.mem_cons.1 h with rfl | h
  ·omega
  ·have:=ih h;omega
theorem KU (M B:Int) (h0M:0≤M) (hMB:M * B≤600000000) (hB:B≤3000000) (b r:Nat) (L:List Int) (t:aa):t.Lj→t.cnt≤500→t.cnt + 10≤M→t.aQ≤B→O7 b r L t:=by
 induction t using aa.ind with
 | h t ih=>
  intro hs hcn hcM hb k h0 hk;have hbe:=t.bu;have hbs:=aa.aU t.t;have hmb:M * (aa.aD t.t:Int)≤M * B:=Int.mul_le_mul_of_nonneg_left (by omega) h0M;have hce:=t.kU;have hs2:=(t.AR).1 hs;have hxs:=aa.r6 hs2.2;have hcl:=DB L.contains t.t k M hxs fun x hx=>by have:=lE hx;omega
  have hle:=qT L.contains t.t k;have hrb:=En b r L t k (fun x hx=>ih x hx (hxs x hx) (by have:=lE hx;omega) (by have:=lE hx;omega) (by have:=aa.bz hx;omega)) h0 (by omega) (by omega);have hlen:=lF L.contains t.t k;have hcv:=t.Ab L.contains k;generalize aa.dH L.contains t.t k=C at *;obtain ⟨E,nz⟩:=C;dsimp only at hcl hle hrb hlen hcv;rw[hcv];refine af.ah ai Tryz.func32 rfl rfl (n:=17) rfl rfl ?_
  conv=>whnf
  repeat' (first|refine aS ?_|((intro _);conv=>whnf)|(refine zX (fun hc=>?_) (fun hc=>?_)<;>(try simp only[SY] at hc)<;>omega))
  refine av.go hrb (aX.refl _) ?_;rintro _ _ ⟨rfl,rfl⟩
  conv=>whnf
  repeat' (first|refine aS ?_|((intro _);conv=>whnf)|(refine zX (fun hc=>?_) (fun hc=>?_)<;>(try simp only[SY] at hc)<;>(conv=>whnf)))
  ·have hvl:E.length=t.v.length + 1:=by rw[hlen];exact hs2.1 hc
   have hcl2:=sx t.t;rw[if_pos hc];have hrc:=Mv b r L nz (aa.mk t.op t.n t.v E) (by show aa.aD E + aa.fB 1 E + 9 * t.v.length + 10≤_;omega) hvl (by show t.v.length≤500;omega) (by omega);change af _ _ _ _ (fun y Γ'=>y=.agg (iP L.contains t.n t.v E nz).1.cells∧Γ'=By b r L (iP L.contains t.n t.v E nz).2) at hrc;generalize iP L.contains t.n t.v E nz=R at *;refine av.go hrc (aX.refl _) ?_;rintro _ _ ⟨rfl,rfl⟩
   conv=>whnf
   repeat' (first|refine aS ?_|(refine zX (fun hc=>?_) (fun hc=>?_)<;>(try simp only[SY] at hc)<;>omega))
   exact ak.gen (y:=.agg R.1.cells) (Γ':=By b r L R.2) cZ.wk ⟨rfl,rfl⟩
  ·rw[if_neg hc]
   exact ak.gen (y:=.agg (aa.mk t.op t.n t.v E).cells) (Γ':=By b r L nz) cZ.wk ⟨rfl,rfl⟩
theorem Mo {o:Int} (ho:o=12∨o=13∨o=14) {c codes:Int} {free:Bool} (t:aa): ∀ {sc:List Int} {deep:Int},t.xm 0 c codes free sc deep→t.ct o=0:=by
 induction t using aa.ind with
 | h t ih=>
  intro sc deep h;rw[aa.nO] at h;rw[aa.EY]
  have h1: ¬t.op=o:=fun e=>by
   have hs:=h.1.2.1;rw[e] at hs;rcases ho with rfl | rfl | rfl<;>exact absurd hs (by decide)
  rw[if_neg h1,Nat.zero_add,kF]
  have: ∀ x∈t.t.map (aa.ct o),x=0:=fun x hx=>by
   obtain ⟨y,hy,rfl⟩:=List.mem_map.1 hx;obtain ⟨s,d,hy2⟩:=AH h.2 y hy;exact ih y hy hy2
  generalize t.t.map (aa.ct o)=l at this
  induction l with
  | nil=>rfl
  | cons a l ihl=>rw[List.sum_cons,this a (by simp),ihl (fun x hx=>this x (by simp[hx]))]
theorem MJ (t:aa):t.ct 14=0→t.A9=t.Ll:=by
 induction t using aa.ind with
 | h t ih=>
  intro h;rw[aa.EY] at h;rw[aa.II,aa.KL];have h1: ¬t.op=14:=fun e=>by rw[if_pos e] at h;omega
  have key: ∀ l:List aa,(∀ x∈l,x.ct 14=0→x.A9=x.Ll)→aa.fB 14 l=0→aa.zj l=aa.w6 l:=by
   intro l
   induction l with
   | nil=>intro _ _;rw[aa.zj,aa.w6]
   | cons x l ihl=>
    intro hx hl;rw[aa.fB] at hl;rw[aa.zj,aa.w6,hx x (by simp) (by omega),ihl (fun y hy=>hx y (by simp[hy])) (by omega)]
  rw[key t.t ih (by omega)];by_cases h2:t.op=2
  ·rw[if_pos (.inl h2),if_pos h2]
  ·rw[if_neg (by omega),if_neg h2]
def fe (p:Prog):Prog×Int:=if jj p 0=0 then (if jj (Pt p) 1=0 then (Pt p,0) else (PL,5)) else (PL,5)
theorem I5 {A B:Int→Bool} (h: ∀ v,A v=B v) (t:aa) (nx:Int):t.m6 A nx=t.m6 B nx:=by rw[show A=B from funext h]
theorem Gz {p q:Prop} (k:q) (h:q→p:=by intro hq;first | exact aC.sP (some 14) rfl [] [6] ai mixed hq):p:=h k
theorem IZ (M B:Int) (h0M:0≤M) (hMB:M * B≤600000000) (hB:B≤3000000) (p:Prog) (hcn:p.body.cnt≤500) (hcM:p.body.cnt + 10≤M) (hb:p.body.aQ≤B) (hl:p.consts.length≤1000000000):
  aA Tryz.prog 13 [.agg p.cells] (.bn [.agg (fe p).1.cells,.int .i64 (fe p).2]):=by
 have he:=vp p 0;have hR:jj p 0=0→gQ p 0:=fun h=>(qO p 0).1 (by rw[←he];exact h);refine af.ah ai Tryz.func13 rfl rfl (n:=50) rfl rfl ?_
 conv=>whnf
 repeat' (first|refine aS ?_|((first|refine pC (Bx p 0 (by omega) (by omega)) wR ?_|refine Gz ?_|intro _);conv=>whnf)|(refine zX (fun hc=>?_) (fun hc=>?_)<;>(try simp only[SY] at hc)<;>(conv=>whnf)))
 ·rename_i hc
  exact ak.pure (Wk.bn (.cons (by rw[fe,if_neg hc];exact wB) (.cons (by rw[fe,if_neg hc];exact Wk.refl _) .nil)))
 ·rename_i b1 b2 r bc
  obtain ⟨hshp,hdep,hvr⟩:=(hR hc).fits;have hrsh:=p.body.FL (hR hc).2.2.1;have hasg:=MJ p.body (Mo (.inr (.inr rfl)) p.body (hR hc).2.2.1);have hrise:=p.body.Dj (by omega);have hbl:=Gn p.body (by omega);have hcnv:fe p=if jj ⟨p.consts,(p.body.m6 (fun v=>p.body.A9.contains v) (c8 p.body)).1⟩ 1=0 then (⟨p.consts,(p.body.m6 (fun v=>p.body.A9.contains v) (c8 p.body)).1⟩,0) else (PL,5):=by rw[fe,if_pos hc];rfl
  have hcb:=(vz (fun v=>p.body.A9.contains v) p.body hrsh (c8 p.body)).2;have hcb2:((p.body.cnt:Int) + 10) * p.body.aQ≤M * B:=Int.le_trans (Int.mul_le_mul_of_nonneg_right (by omega) (by omega)) (Int.mul_le_mul_of_nonneg_left hb h0M);rw[CS];refine av.go (KH r p.body [] (by omega)) (aX.refl _) ?_;rintro _ _ ⟨rfl,L',hL',rfl⟩
  have hcv:p.body.m6 L'.contains (c8 p.body)=p.body.m6 (fun v=>p.body.A9.contains v) (c8 p.body):=I5 (fun v=>by
   rw[Bool.eq_iff_iff,hasg];simp[hL']) _ _
  have hn0:0≤c8 p.body∧c8 p.body≤1000001:=by
   unfold c8
   split
   ·omega
   ·rename_i h0
    have hlt:(dY p.body).length - 1 < (dY p.body).length:=by have:=List.length_pos_iff.2 h0;omega
    have e:(dY p.body).getD ((dY p.body).length - 1) 0=(dY p.body)[(dY p.body).length - 1]:=by simp[List.getD,hlt]
    have:=hvr _ ((vn _ _).1 (List.getElem_mem hlt));rw[e];omega
  obtain ⟨hn0,hn1⟩:=hn0;have hbc:=LG p.body (by omega);rw[hrise] at hbc;have hcl:=Dt p.consts hl;have htm:=KU M B h0M hMB hB bc r L' p.body hrsh hcn hcM hb (c8 p.body) hn0 (by omega);rw[hcv] at htm;generalize p.body.m6 (fun v=>p.body.A9.contains v) (c8 p.body)=R at *;have hck:=Bx ⟨p.consts,R.1⟩ 1 (by show R.1.aQ≤_;omega) hl
  conv=>whnf
  repeat' (first|refine aS ?_|((first|refine pC (hbc) wR ?_|intro _);conv=>whnf)|(refine zX (fun hc=>?_) (fun hc=>?_)<;>(try simp only[SY] at hc)<;>(conv=>whnf)))
  ·have hlt:(dY p.body).length - 1 < (dY p.body).length:=by omega
   have e:(dY p.body).getD ((dY p.body).length - 1) 0=(dY p.body)[(dY p.body).length - 1]:=by simp[List.getD,hlt]
   have h1:=hvr _ ((vn _ _).1 (List.getElem_mem hlt))
   have hn:c8 p.body=(dY p.body)[(dY p.body).length - 1] + 1:=by
    unfold c8;rw[if_neg (by intro h;rw[h] at hlt;simp at hlt),e]
   refine ju.ok (by omega) (by omega) ?_;rw[←hn]
   conv=>whnf
   repeat' (first|refine aS ?_|(refine zX (fun hc=>?_) (fun hc=>?_)<;>(try simp only[SY] at hc)<;>omega))
   refine aC.sF (some 37) rfl [.box bc [.mp r,.int .i64 (c8 p.body)],.mp r (.int .i64) (aT L') []] [6,7] [] [8] [9] ai mixed ?_
   conv=>whnf
   repeat (first|refine qF ?_|((((apply zZ);(conv=>whnf);(repeat ((refine pC (hcl) wR ?_);conv=>whnf));exact pZ));conv=>whnf))
   refine av.go htm (aX.refl _) ?_;rintro _ _ ⟨rfl,rfl⟩
   conv=>whnf
   repeat' (first|refine aS ?_|((first|refine pC (hck) wR ?_|intro _);conv=>whnf)|(refine zX (fun hc=>?_) (fun hc=>?_)<;>(try simp only[SY] at hc)<;>(conv=>whnf)))
   ·exact ak.pure (Wk.bn (.cons (by rw[hcnv,if_neg hc];exact wB) (.cons (by rw[hcnv,if_neg hc];exact Wk.refl _) .nil)))
   ·exact ak.pure (Wk.bn (.cons (by rw[hcnv,if_pos hc];exact Wk.refl _) (.cons (by rw[hcnv,if_pos hc];exact Wk.refl _) .nil)))
  ·have hn:c8 p.body=0:=by
    unfold c8;rw[if_pos (List.eq_nil_of_length_eq_zero (by omega))]
   rw[show PV.int .i64 0=PV.int .i64 (c8 p.body) by rw[hn]];refine aC.sF (some 37) rfl [.box bc [.mp r,.int .i64 (c8 p.body)],.mp r (.int .i64) (aT L') []] [6,7] [] [8] [9] ai mixed ?_
   conv=>whnf
   repeat (first|refine qF ?_|((((apply zZ);(conv=>whnf);(repeat ((refine pC (hcl) wR ?_);conv=>whnf));exact pZ));conv=>whnf))
   refine av.go htm (aX.refl _) ?_;rintro _ _ ⟨rfl,rfl⟩
   conv=>whnf
   repeat' (first|refine aS ?_|((first|refine pC (hck) wR ?_|intro _);conv=>whnf)|(refine zX (fun hc=>?_) (fun hc=>?_)<;>(try simp only[SY] at hc)<;>(conv=>whnf)))
   ·exact ak.pure (Wk.bn (.cons (by rw[hcnv,if_neg hc];exact wB) (.cons (by rw[hcnv,if_neg hc];exact Wk.refl _) .nil)))
   ·exact ak.pure (Wk.bn (.cons (by rw[hcnv,if_pos hc];exact Wk.refl _) (.cons (by rw[hcnv,if_pos hc];exact Wk.refl _) .nil)))
theorem BD (p:Prog) (hcn:p.body.cnt≤500) (hb:p.body.aQ≤1100000) (hl:p.consts.length≤1000000000):
  aA Tryz.prog 13 [.agg p.cells] (.bn [.agg (fe p).1.cells,.int .i64 (fe p).2]):=IZ 510 1100000 (by decide) (by decide) (by decide) p hcn (by omega) (by omega) hl
theorem af.ap {P:Program} {f:FuncId} {args:List PV} {Γ:List aj} {Q:PV→List aj→Prop} (h0: ∃ fn,P.funcs[f]?=some fn∧fn.body.isNone=false∧(fn.name == "runtime.NumGoroutine")=false) (h:Γ.Pairwise aj.apart→af P f args Γ Q):af P f args Γ Q:=
 ⟨h0,fun w0 F M w vs hS hR=>(h (List.pairwise_append.1 hS.sep).1).2 w0 F M w vs hS hR⟩
abbrev Ge:aa:=.mk 12 0 [] [.mk 1 1 [] []]
abbrev Ri:aa:=.mk 4 0 [] [Ge]
abbrev Qk:aa:=.mk 2 1 [] [.mk 5 0 [] [.mk 1 0 [] []]]
abbrev Qj:aa:=.mk 6 0 [] [Qk,Ge]
abbrev Qi:aa:=.mk 9 0 [0] [Ri,Qj]
abbrev O4:aa:=.mk 8 0 [1] [.mk 13 0 [] [],Qi]
section
variable (b:Nat) (K:List Vl) (tk:Tok) (s:lf)
abbrev eR:Vl→Int→lf→Tok→Prop:=fun _ c s' _=>c=5∧s'.out= []
theorem Qu (e:iY) (h0:3≤s.fuel∧s.fuel≤1000) (ho:s.out= []) (a:Nat) (hf:sH e 1=some a) (hg:fG s.h a=some (fW 12,false)):
  af Tryz.prog 70 [.ptr b 0,.agg Ge.cells,cH e,.nil] (eY b K tk s) (kR b K eR):=by
 refine E6 b K tk s Ge e eR (by omega) (by decide) ?_;refine vi b K e [.mk 1 1 [] []] (by decide) (fun i m s' tk'=>if i=0 then m= []∧s'=bL s∧tk'=tk else m= [fW 12]∧s'=bL (bL s)∧tk'=tk) _ (bL s) tk ⟨rfl,rfl,rfl⟩ ?_ ?_
 ·intro i m s' tk' hP hi
  obtain rfl:i=0:=by simpa using hi
  obtain ⟨rfl,rfl,rfl⟩:=hP;refine (M7 b K tk' (bL s) (.mk 1 1 [] []) e (by show 0 < s.fuel - 1∧s.fuel - 1≤_;omega) rfl a hf (fW 12) false hg (by simp)).mono ?_;rintro y Γ' ⟨rfl,rfl⟩;exact ⟨_,_,_,_,rfl,rfl,fun _=>⟨rfl,rfl,rfl⟩,fun h=>absurd rfl h⟩
 ·intro m s' tk' hP
  obtain ⟨rfl,rfl,rfl⟩:=hP;refine ⟨fun h=>absurd rfl h,fun _=>?_⟩;refine (KP b K tk' _ Ge e rfl [fW 12] rfl rfl).mono ?_;rintro y Γ' ⟨rfl,rfl⟩;exact ⟨_,_,_,_,rfl,rfl,rfl,ho⟩
theorem Qt (a0 a1:Nat) (h0:20≤s.fuel∧s.fuel≤1000) (ho:s.out= []) (hne:a0≠a1) (hh:s.h= [(a0,.mk 8 0 0 [] [] (some ⟨[],false,Ge, [(0,a0),(1,a1)]⟩) none,false),(a1,fW 12,false)]):
  af Tryz.prog 70 [.ptr b 0,.agg (aa.mk 5 0 [] [.mk 1 0 [] []]).cells,cH [(0,a0),(1,a1)],.nil] (eY b K tk s) (kR b K eR):=by
 have hg0:fG s.h a0=some (.mk 8 0 0 [] [] (some ⟨[],false,Ge, [(0,a0),(1,a1)]⟩) none,false):=by rw[hh,fG,if_pos rfl]
 have hg1:fG s.h a1=some (fW 12,false):=by rw[hh,fG,if_neg hne,fG,if_pos rfl]
 refine E6 b K tk s (.mk 5 0 [] [.mk 1 0 [] []]) [(0,a0),(1,a1)] eR (by omega) (by decide) ?_;refine vi b K [(0,a0),(1,a1)] [.mk 1 0 [] []] (by decide) (fun i m s' tk'=>if i=0 then m= []∧s'=bL s∧tk'=tk else m= [.mk 8 0 0 [] [] (some ⟨[],false,Ge, [(0,a0),(1,a1)]⟩) none]∧s'=bL (bL s)∧tk'=tk) _ (bL s) tk ⟨rfl,rfl,rfl⟩ ?_ ?_
 ·intro i m s' tk' hP hi
  obtain rfl:i=0:=by simpa using hi
  obtain ⟨rfl,rfl,rfl⟩:=hP;refine (M7 b K tk' (bL s) (.mk 1 0 [] []) [(0,a0),(1,a1)] (by show 0 < s.fuel - 1∧s.fuel - 1≤_;omega) rfl a0 rfl _ false hg0 (by simp)).mono ?_;rintro y Γ' ⟨rfl,rfl⟩;exact ⟨_,_,_,_,rfl,rfl,fun _=>⟨rfl,rfl,rfl⟩,fun h=>absurd rfl h⟩
 ·intro m s' tk' hP
  obtain ⟨rfl,rfl,rfl⟩:=hP;refine ⟨fun h=>absurd rfl h,fun _=>?_⟩;refine OF b K tk' (bL (bL s)) eR (.mk 5 0 [] [.mk 1 0 [] []]) rfl [(0,a0),(1,a1)] [.mk 8 0 0 [] [] (some ⟨[],false,Ge, [(0,a0),(1,a1)]⟩) none] (by show 0 < 1;decide) ?_;refine Pq b K tk' (bL (bL s)) eR (.mk 8 0 0 [] [] (some ⟨[],false,Ge, [(0,a0),(1,a1)]⟩) none) rfl ⟨[],false,Ge, [(0,a0),(1,a1)]⟩ rfl [] [] (by decide) (Nat.zero_le _) (fun h=>by cases h) rfl ?_;intro az haz;obtain rfl:az= []:=by simpa using haz
  exact Qu b K tk' (gR (bL (bL s)) (Am s.h [] [])) [(0,a0),(1,a1)] (by show 3≤s.fuel - 1 - 1∧s.fuel - 1 - 1≤1000;omega) ho a1 rfl hg1
theorem Qw (a0 a1:Nat) (h0:30≤s.fuel∧s.fuel≤1000) (ho:s.out= []) (hh:s.h= [(a0,.mk 8 0 0 [] [] (some ⟨[],false,Ge, [(0,a0),(1,a1)]⟩) none,false),(a1,fW 12,false)]):
  af Tryz.prog 70 [.ptr b 0,.agg Qj.cells,cH [(0,a0),(1,a1)],.nil] (eY b K tk s) (kR b K eR):=by
 refine af.ap (Px b K tk (JP 0) Qj [] (by decide)).1 fun hap=>?_
 have hne:a0≠a1:=fun e=>by
  have h2:(C7 s.h).Pairwise aj.apart:=hap.tail.tail;rw[hh] at h2;have h3:=(List.pairwise_cons.1 h2).1 _ (List.mem_singleton.2 rfl);rcases h3 with h1 | h1
  ·cases h1
  ·exact h1 (congrArg some e)
 refine E6 b K tk s Qj [(0,a0),(1,a1)] eR (by omega) (by decide) ?_;refine vi b K [(0,a0),(1,a1)] [Qk,Ge] (by decide) (fun i m s' tk'=>i=0∧m= []∧s'=bL s∧tk'=tk) _ (bL s) tk ⟨rfl,rfl,rfl,rfl⟩ ?_ (fun m s' tk' hP=>absurd hP.1 (by decide));rintro i m s' tk' ⟨rfl,rfl,rfl,rfl⟩ hi
 have key:af Tryz.prog 70 [.ptr b 0,.agg Qk.cells,cH [(0,a0),(1,a1)],.nil] (eY b K tk' (bL s)) (kR b K eR):=by
  refine E6 b K tk' (bL s) Qk [(0,a0),(1,a1)] eR (by show 0 < s.fuel - 1∧s.fuel - 1≤_;omega) (by decide) ?_;refine vi b K [(0,a0),(1,a1)] [.mk 5 0 [] [.mk 1 0 [] []]] (by decide) (fun i m s' tk2=>i=0∧m= []∧s'=bL (bL s)∧tk2=tk') _ (bL (bL s)) tk' ⟨rfl,rfl,rfl,rfl⟩ ?_ (fun m s' tk' hP=>absurd hP.1 (by decide));rintro i m s' tk2 ⟨rfl,rfl,rfl,rfl⟩ hi;refine (Qt b K tk2 (bL (bL s)) a0 a1 (by show 20≤s.fuel - 1 - 1∧s.fuel - 1 - 1≤1000;omega) ho hne hh).mono ?_;rintro y Γ' ⟨x,c,s',tk3,e1,e2,rfl,e4⟩;exact ⟨x,5,s',tk3,e1,e2,fun h=>absurd h (by decide),fun _=>⟨fun _=>⟨rfl,e4⟩,fun h=>absurd h (by decide)⟩⟩
 refine key.mono ?_;rintro y Γ' ⟨x,c,s',tk3,e1,e2,rfl,e4⟩;exact ⟨x,5,s',tk3,e1,e2,fun h=>absurd h (by decide),fun _=>⟨fun _=>⟨rfl,e4⟩,fun h=>absurd h (by decide)⟩⟩
theorem Qv (a1:Nat) (h0:40≤s.fuel∧s.fuel≤1000) (ho:s.out= []) (hh:s.h= [(a1,fW 12,false)]):
  af Tryz.prog 70 [.ptr b 0,.agg Qi.cells,cH [(1,a1)],.nil] (eY b K tk s) (kR b K eR):=by
 refine M6 b K tk s Qi [(1,a1)] eR (by omega) (by decide) ?_;refine LF b K tk (bL s) Qi [(1,a1)] eR (.inr rfl) rfl (by decide) (by decide) (fun az i m s' tk'=> ∃ a0,az= [a0]∧tk'=tk∧if i=0 then m= []∧s'=gR (bL s) [(a0,fW 12,false),(a1,fW 12,false)] else m.length=1∧s'=gR (bL (bL s)) [(a0,.mk 8 0 0 [] [] (some ⟨[],false,Ge, [(0,a0),(1,a1)]⟩) none,false),(a1,fW 12,false)]) ?_ ?_ ?_
 ·intro az haz
  obtain ⟨a0,rfl⟩: ∃ a,az= [a]:=by
   match az,haz with
   | [a],_=>exact ⟨a,rfl⟩
  refine ⟨a0,rfl,rfl,rfl,?_⟩;show gR (bL s) (Ff s.h false [a0])=_;rw[hh];rfl
 ·rintro az i m s' tk' ⟨a0,rfl,rfl,hP⟩ hi
  obtain rfl:i=0:=by have:i < 1:=hi;omega
  obtain ⟨rfl,rfl⟩:=hP;refine (LQ b K tk' _ Ri (iK [(1,a1)] [0] [a0]) (by show 0 < s.fuel - 1∧s.fuel - 1≤_;omega) rfl rfl).mono ?_;rintro y Γ' ⟨rfl,rfl⟩;refine ⟨_,_,_,_,rfl,rfl,fun h=>absurd rfl h,fun _=>⟨fun _=>⟨a0,fW 12,false,rfl,?_⟩,a0,rfl,rfl,?_⟩⟩
  ·show fG [(a0,fW 12,false),(a1,fW 12,false)] a0=_
   rw[fG,if_pos rfl]
  ·refine ⟨rfl,?_⟩
   rw[if_pos (.inl rfl)];show gR (bL (bL s)) (hput [(a0,fW 12,false),(a1,fW 12,false)] a0 _)=_;rw[hput,if_pos rfl];rfl
 ·rintro az m s' tk' ⟨a0,rfl,rfl,hP⟩ hm
  obtain ⟨_,rfl⟩:=hP;refine ⟨fun h=>absurd h.1 (by decide),?_⟩;rw[if_neg (fun h=>absurd h.1 (by decide))];exact Qw b K tk' _ a0 a1 (by show 30≤s.fuel - 1 - 1∧s.fuel - 1 - 1≤1000;omega) ho rfl
theorem Qx:af Tryz.prog 70 [.ptr b 0,.agg O4.cells,.np,.nil] (eY b K tk (JP 100)) (kR b K eR):=by
 refine M6 b K tk (JP 100) O4 [] eR (by decide) (by decide) ?_;refine LD b K tk (bL (JP 100)) O4 [] eR rfl rfl (by decide) ?_;refine vi b K [] [.mk 13 0 [] []] (by decide) (fun i m s' tk'=>if i=0 then m= []∧s'=bL (JP 100)∧tk'=tk else m= [fW 12]∧s'=bL (bL (JP 100))∧tk'=tk) _ (bL (JP 100)) tk ⟨rfl,rfl,rfl⟩ ?_ ?_
 ·intro i m s' tk' hP hi
  obtain rfl:i=0:=by simpa using hi
  obtain ⟨rfl,rfl,rfl⟩:=hP;refine (Py b K tk' (bL (JP 100)) (.mk 13 0 [] []) [] (by decide) rfl).mono ?_;rintro y Γ' ⟨rfl,rfl⟩;exact ⟨_,_,_,_,rfl,rfl,fun _=>⟨rfl,rfl,rfl⟩,fun h=>absurd rfl h⟩
 ·intro m s' tk' hP
  obtain ⟨rfl,rfl,rfl⟩:=hP;refine ⟨fun h=>absurd rfl h,fun _=>⟨rfl,fun az haz=>?_⟩⟩
  obtain ⟨a1,rfl⟩: ∃ a,az= [a]:=by
   match az,haz with
   | [a],_=>exact ⟨a,rfl⟩
  exact Qv b K tk' _ a1 (by show 40≤98∧98≤1000;decide) rfl rfl
end
theorem Ot (cs:List Datum) (hcs:cs.length=0) (t:aa) (fuel:Int) (hev: ∀ (b:Nat) (tk:Tok),tk.e=4→tk.s=1→af Tryz.prog 70 [.ptr b 0,.agg t.cells,.np,.nil] (eY b [] tk (JP fuel)) (kR b [] eR)):
  aA Tryz.prog 46 [.sl 5 (cs.map Datum.pv) none,.nil,.agg t.cells,.int .i64 fuel] (.agg [.str [],.int .i64 5,.str []]):=by
 refine af.ah ai Tryz.func46 rfl rfl (n:=65) rfl rfl ?_
 conv=>whnf
 repeat' (first|((intro _);conv=>whnf)|(refine zX (fun hc=>?_) (fun hc=>?_)<;>(try simp only[SY] at hc)<;>omega))
 rename_i b6 b8 b9
 refine aq.over [10,18,19,20,21,22,23,24,25,26,27,28,29,30,31,32,33,34,35,36,37,38] (fun x:Nat=> [(10,.int .i64 x)]) (fun x:Nat=> [.box b9 [.nil,.nil,.int .i64 fuel,.str [],.nil,.int .i64 0,.int .i64 0,.int .i64 0,.int .i64 0,.str [],.nil,.np,.np],.box b8 [.str [],.int .i64 0,.str []],.box b6 [.int .i64 t.op,.int .i64 t.n,.sl 1 (t.v.map (PV.int .i64)) none,.sl 4 (t.t.map aa.pv) none]])
  (fun x=>x=0) (fun x=>0) 0 rfl wA ?_
 rintro _ rfl
 conv=>whnf
 repeat' (first|refine aS ?_|((intro _);conv=>whnf)|(refine zX (fun hc=>?_) (fun hc=>?_)<;>(try simp only[SY] at hc)<;>first|omega|(conv=>whnf)))
 refine av.QC (Γ1:= [.box b9 (QE [] (ay 1 4) (JP fuel)),.row (ay 1 4) (([]:List Bool).map PV.bool)])
   (au.trans (au.Mj [.box b9 [.nil,.nil,.int .i64 fuel,.str [],.nil,.int .i64 0,.int .i64 0,.int .i64 0,.int .i64 0,.str [],.nil,.np,.np],.box b8 [.str [],.int .i64 0,.str []],.box b6 [.int .i64 t.op,.int .i64 t.n,.sl 1 (t.v.map (PV.int .i64)) none,.sl 4 (t.t.map aa.pv) none]]) (au.box (b:=b9) (cs:= [.nil,.nil,.int .i64 fuel,.str [],.nil,.int .i64 0,.int .i64 0,.int .i64 0,.int .i64 0,.str [],.nil,.np,.np]) (cs':=QE [] (ay 1 4) (JP fuel))
    (.cons (Wk.eu rfl) (.cons (Wk.refl _) (.cons (Wk.refl _) (.cons (Wk.refl _) (.cons (Wk.cm _ _) (.cons (Wk.refl _) (.cons (Wk.refl _) (.cons (Wk.refl _) (.cons (Wk.refl _) (.cons (Wk.refl _) (.cons (Wk.eu rfl) (.cons (Wk.refl _) (.cons (Wk.refl _) .nil)))))))))))))))
   (hev b9 (ay 1 4) rfl rfl) (aX.refl _) ?_
 rintro _ _ ⟨x,c,s',tk',rfl,rfl,rfl,ho⟩
 conv=>whnf
 repeat' (first|refine aS ?_|((first|refine dI nC ?_|refine dI nD ?_|intro _);conv=>whnf)|(refine zX (fun hc=>?_) (fun hc=>?_)<;>(try simp only[SY] at hc)<;>first|omega|(conv=>whnf)))
 rw[ho];exact ak.pure (Wk.refl _)
theorem P0:aA Tryz.prog 26 [.agg (⟨[],O4⟩:Prog).cells,.int .i64 100] (.agg [.str [],.int .i64 5,.str []]):=by
 refine af.ah ai Tryz.func26 rfl rfl (n:=11) rfl rfl ?_
 conv=>whnf
 repeat' (first|refine aS ?_|((first|refine pC (Ot [] rfl O4 100 fun b tk _ _=>Qx b [] tk) (by ((repeat' (first|exact aX.nil|apply aX.cons|exact Wk.refl _|exact Wk.int OA|exact Wk.tt rfl|exact Wk.ff rfl|exact Wk.eu rfl|exact Wk.tok _ _ _));first|done|fail)) ?_|intro _);conv=>whnf)|(refine zX (fun hc=>?_) (fun hc=>?_)<;>(try simp only[SY] at hc)<;>omega))
 exact ak.pure (Wk.refl _)
abbrev O3:List UInt8:= [40,108,101,116,114,101,99,42,32,40,40,102,32,40,108,97,109,98,100,97,32,40,41,32,121,41,41,32,40,121,32,40,102,41,41,41,32,121,41]
abbrev OU:Prog:=⟨[],.mk 7 1 [0,1] [.mk 4 0 [] [.mk 1 1 [] []],.mk 5 0 [] [.mk 1 0 [] []],.mk 1 1 [] []]⟩
abbrev Nz:Prog:=⟨[],O4⟩
def Oj:List Datum:=(oU O3).1
def NM:Datum:=((uF (qZ 20) Oj)).getD aK
theorem Rp:oU O3=(Oj,(oU O3).2.1,0):=by kernel_rfl
theorem Rq:uF (qZ 20) Oj=some NM:=by kernel_rfl
theorem Rr:(Oj.any fun d=>!d.bS 0 || d.OZ)=false:=by kernel_rfl
theorem Rs:NM.bS 0=true:=by kernel_rfl
theorem Rt:HM O1 (-1) NM=⟨OU,0⟩:=by kernel_rfl
theorem Ru:Nat.ble NM.sz 1000=true:=by kernel_rfl
theorem Rv:Nat.ble (Datum.eM Oj) 1000=true:=by kernel_rfl
theorem Rw:fe OU=(Nz,0):=by kernel_rfl
theorem Rx:ji Nz 1=0:=by kernel_rfl
theorem OE:aA Tryz.prog 16 [.str O3] (.bn [.agg OU.cells,.bool true]):=by
 have hr:=Kg O3;have hx:=GW Oj NM (by have:=Nat.le_of_ble_eq_true Rv;omega) Rr Rs Rq;have hz:=CK NM (by have:=Nat.le_of_ble_eq_true Ru;omega);unfold wK at hr;rw[Rp] at hr;rw[Rt] at hz;dsimp only at hr hz;generalize O3=X at *;generalize Oj=R at *;generalize NM=E at *;generalize OU=P at *;refine af.ah ai Tryz.func16 rfl rfl (n:=34) rfl rfl ?_
 conv=>whnf
 repeat' (first|refine aS ?_|((first|refine pC (hr) wR ?_|refine pC (hx) wR ?_|refine pC (hz) wR ?_|intro _);conv=>whnf)|(refine zX (fun hc=>?_) (fun hc=>?_)<;>(try simp only[SY] at hc)<;>(conv=>whnf)))
 all_goals exact ak.pure (Wk.refl _)
theorem xJ:aA Tryz.prog 10 [] (.bool true):=by
 have h1:=OE;have h2:=BD OU (by decide) (by decide) (by decide);have h3:=qN Nz 1 (by decide) (by decide);have h4:aA Tryz.prog 26 [.agg Nz.cells,.int .i64 100] (.agg [.str [],.int .i64 5,.str []]):=P0;rw[Rw] at h2;rw[Rx] at h3;dsimp only at h1 h2;have g1:Nz.body.op=8:=rfl;have g2:Nz.body.v= [1]:=rfl;generalize OU=P at h1 h2;generalize Nz=Q at h2 h3 h4 g1 g2;refine af.ah ai Tryz.func10 rfl rfl (n:=51) rfl rfl ?_
 conv=>whnf
 repeat' (first|refine aS ?_|((first|(((apply zY;intro hg));(conv=>whnf);(repeat ((first|refine pC (h3) wR ?_|refine pC (h4) wR ?_|refine aH ?_);conv=>whnf));exact pZ)|refine pC (h1) wR ?_|refine pC (h2) wR ?_|intro _);conv=>whnf)|(refine zX (fun hc=>?_) (fun hc=>?_)<;>(try simp only[SY] at hc)<;>omega))
 rw[g1,g2];exact ak.pure (Wk.refl _)
theorem LS (t:aa) (n:Int) (h0:0≤n) (h1:n≤1000000000):aA Tryz.prog 11 [.agg t.cells,.int .i64 n] (.bool (decide (0≤t.sk n))):=by
 refine af.ah ai Tryz.func11 rfl rfl (n:=8) rfl rfl ?_
 conv=>whnf
 repeat' (first|refine aS ?_|((first|refine pC (Iw t n h0 h1) wR ?_|intro _);conv=>whnf)|(refine zX (fun hc=>?_) (fun hc=>?_)<;>(try simp only[SY] at hc)<;>omega))
 exact ak.pure (Wk.refl _)
theorem CY {g:cE} {l:List Int} (h:l∈g):l.length≤eL g:=by
 induction g with
 | nil=>cases h
 | cons x g ih=>
  unfold eL at ih ⊢;rw[List.map_cons,List.sum_cons];rcases List.mem_cons.1 h with rfl | h
  ·omega
  ·have:=ih h;omega
theorem BM (g:cE) (hg:kO g) (hn:g.length≤1000) (hl:eL g≤1000000):aA Tryz.prog 197 [Fa g] .aY:=by
 refine af.ah ai Tryz.func197 rfl rfl (n:=43) rfl rfl ?_
 conv=>whnf
 repeat' (first|refine aS ?_|((intro _);conv=>whnf)|(refine zX (fun hc=>?_) (fun hc=>?_)<;>(try simp only[SY] at hc)<;>first|omega|(conv=>whnf)))
 refine aq.keep [2,3,4,8,9,10,11,12,13,14,15,16,17,18,19,20,21,22,23,24,25,26,27,28,29,30,31,32,33,34,35,36,37,38,39,40,41,42] (fun i:Nat=> [(3,.int .i64 i)]) (fun i=>i≤g.length) (fun i=>g.length - i) 0 (Nat.zero_le _) wA ?_;intro i hi;rcases Nat.lt_or_ge i g.length with hlt | hge
 ·have hgi:=hg _ (List.getElem_mem hlt)
  have hli:=CY (List.getElem_mem hlt)
  conv=>whnf
  repeat' (first|refine aS ?_|((intro _);conv=>whnf)|(refine zX (fun hc=>?_) (fun hc=>?_)<;>(try simp only[SY] at hc)<;>first|omega|(conv=>whnf)))
  refine aq.keep [2,4,14,15,16,17,18,19,20,21,22,23,24,25,26,27,28,29,30,31,32,33,34,35,36,37,38,39,40,41,42] (fun k:Nat=> [(4,.int .i64 k)]) (fun k=>k≤g[i].length) (fun k=>g[i].length - k) 0 (Nat.zero_le _) wA ?_;intro k hk;rcases Nat.lt_or_ge k g[i].length with hkl | hkg
  ·have hx:=hgi _ (List.getElem_mem hkl)
   conv=>whnf
   repeat' (first|refine aS ?_|((intro _);conv=>whnf)|(refine zX (fun hc=>?_) (fun hc=>?_)<;>(try simp only[SY] at hc)<;>first|omega|(conv=>whnf)))
   exact an (k + 1) (by show k + 1≤_;omega) (by show g[i].length - (k + 1) < g[i].length - k;omega) wA
  ·conv=>whnf
   repeat' (first|refine aS ?_|((intro _);conv=>whnf)|(refine zX (fun hc=>?_) (fun hc=>?_)<;>(try simp only[SY] at hc)<;>first|omega|(conv=>whnf)))
   exact an (i + 1) (by show i + 1≤_;omega) (by show g.length - (i + 1) < g.length - i;omega) wA
 ·conv=>whnf
  repeat' (first|refine aS ?_|((intro _);conv=>whnf)|(refine zX (fun hc=>?_) (fun hc=>?_)<;>(try simp only[SY] at hc)<;>first|omega|(conv=>whnf)))
  exact ak.pure (Wk.refl _)
theorem nY (S:List Bool) (y x:Nat) (hy:y < S.length):(S.set y true).getD x false=true↔x=y∨S.getD x false=true:=by
 rw[List.getD_eq_getElem?_getD,List.getD_eq_getElem?_getD,List.getElem?_set];by_cases h:y=x
 ·subst h;rw[if_pos rfl,if_pos hy];simp
 ·rw[if_neg h]
  constructor
  ·exact .inr
  ·rintro (e | e)
   ·exact absurd e.symm h
   ·exact e
theorem F7: ∀ (S:List Bool) (y:Nat),y < S.length→S.getD y false=false→(S.set y true).countP id=S.countP id + 1
 | [],y,h,_=>by simp at h
 | b::S,0,_,h=>by
  have:b=false:=h;subst this;simp
 | b::S,y + 1,h,hy=>by
  have:=F7 S y (by simpa using h) hy;rw[List.set_cons_succ,List.countP_cons,List.countP_cons,this];omega
structure Lq (g:cE) (frm:List Int) (S:List Bool):Prop where
 len:S.length=g.length
 fm: ∀ x∈frm,S.getD x.toNat false=true
 rg: ∀ x:Nat,x < g.length→S.getD x false=true→Rg g frm (x:Int)
def IX (g:cE) (S:List Bool) (i:Nat):Prop:=S.getD i false=true→ ∀ y∈g.getD i [],S.getD y.toNat false=true
theorem Lq.all {g:cE} {frm:List Int} {S:List Bool} (hg:kO g) (hf:zb g frm) (h:Lq g frm S) (hc: ∀ i,i < g.length→IX g S i):S=dL g frm:=by
 have hb:(dL g frm).length=g.length:=og _ _ (by simp) _;refine qI (h.len.trans hb.symm) fun x hx=>?_;rw[h.len] at hx;rw[mI hg hf hx];refine ⟨h.rg x hx,fun hr=>?_⟩
 have key: ∀ y:Int,Rg g frm y→S.getD y.toNat false=true:=fun y hy=>by
  induction hy with
  | base hm=>exact h.fm _ hm
  | step h1 hm ih=>
   have:=Rg.Ip hg hf h1;exact hc _ (by omega) ih _ hm
 have:=key _ hr;rwa [Int.toNat_natCast] at this
theorem Lq.put {g:cE} {frm:List Int} {S:List Bool} (h:Lq g frm S) {y:Int} (hy:Rg g frm y) (hb:y.toNat < g.length) (h0:0≤y):Lq g frm (S.set y.toNat true):=by
 refine ⟨by rw[List.length_set];exact h.len,fun x hx=>?_,fun x hx e=>?_⟩
 ·rw[nY _ _ _ (by rw[h.len];exact hb)];exact .inr (h.fm x hx)
 ·rw[nY _ _ _ (by rw[h.len];exact hb)] at e
  rcases e with rfl | e
  ·rw[Int.toNat_of_nonneg h0];exact hy
  ·exact h.rg x hx e
theorem BL (g:cE) (frm:List Int) (hg:kO g) (hf:zb g frm) (hn:g.length≤1000) (hl:eL g≤1000000) (hfl:frm.length≤1000000):
  aA Tryz.prog 198 [Fa g,cW frm] (.sl 1 ((dL g frm).map PV.bool) none):=by
 refine af.ah ai Tryz.func198 rfl rfl (n:=68) rfl rfl ?_
 conv=>whnf
 repeat' (first|((first|refine gO.row (by omega) (by omega) (by omega) (by show _ * 1≤_;omega) rfl fun td htd hds=>?_|refine aM ?_|intro _);conv=>whnf)|(refine zX (fun hc=>?_) (fun hc=>?_)<;>(try simp only[SY] at hc)<;>omega))
 rw[Int.toNat_natCast];refine aq.cj (au.tq (t:=td) (qx g.length)) ?_
 refine aq.over [6,13,14,15,16,17,18,19,20,21,22,23,24] (fun x:Nat×List Bool=> [(6,.int .i64 x.1)]) (fun x=> [.row td (x.2.map PV.bool)])
  (fun x=>x.1≤frm.length∧x.2.length=g.length∧(∀ y∈frm.take x.1,x.2.getD y.toNat false=true)∧ ∀ y:Nat,y < g.length→x.2.getD y false=true→(y:Int)∈frm) (fun x=>frm.length - x.1) (0,(List.range g.length).map fun _=>false) ⟨Nat.zero_le _,by simp,by simp,fun y hy h=>by rw[dU _ hy] at h;cases h⟩ wA ?_
 rintro ⟨i,S⟩ ⟨hi,hSl,h1,h2⟩;dsimp only at hi hSl h1 h2 ⊢;rcases Nat.lt_or_ge i frm.length with hlt | hge
 ·have hx:=hf _ (List.getElem_mem hlt)
  have hxl:frm[i].toNat < S.length:=by omega
  conv=>whnf
  repeat' (first|((first|refine aM ?_|refine aF ?_|intro _);conv=>whnf)|(refine zX (fun hc=>?_) (fun hc=>?_)<;>(try simp only[SY] at hc)<;>first|omega|(conv=>whnf)))
  refine an (i + 1,S.set frm[i].toNat true) ⟨by show i + 1≤_;omega,by show (S.set _ _).length=_;rw[List.length_set];exact hSl,fun y hy=>?_,fun y hy e=>?_⟩ (by show frm.length - (i + 1) < frm.length - i;omega) wA
  ·dsimp only at hy⊢
   rw[List.take_succ_eq_append_getElem hlt,List.mem_append,List.mem_singleton] at hy;rw[nY _ _ _ hxl];rcases hy with hy | rfl
   ·exact .inr (h1 y hy)
   ·exact .inl rfl
  ·dsimp only at e
   rw[nY _ _ _ hxl] at e;rcases e with rfl | e
   ·rw[Int.toNat_of_nonneg hx.1];exact List.getElem_mem hlt
   ·exact h2 y hy e
 ·rw[List.take_of_length_le (by omega)] at h1
  have hD:Lq g frm S:=⟨hSl,h1,fun x hx e=>.base (h2 x hx e)⟩
  clear h1 h2
  conv=>whnf
  repeat' (first|((first|refine aM ?_|intro _);conv=>whnf)|(refine zX (fun hc=>?_) (fun hc=>?_)<;>(try simp only[SY] at hc)<;>first|omega|(conv=>whnf)))
  refine aq.over [7,8,9,25,26,27,28,29,30,31,32,33,34,35,36,37,38,39,40,41,42,43,44,45,46,47,48,49,50,51,52,53,54,55,56,57,58,59,60,61,62,63,64,65,66] (fun x:Bool×List Bool=> [(7,.bool x.1)]) (fun x=> [.row td (x.2.map PV.bool)])
   (fun x=>Lq g frm x.2∧(x.1=false→ ∀ i,i < g.length→IX g x.2 i)) (fun x=>if x.1=true then g.length - x.2.countP id + 1 else 0) (true,S) ⟨hD,fun h=>by cases h⟩ (by repeat' (first|exact trivial|refine And.intro ?_ ?_|exact Wk.tt rfl|exact Wk.refl _)) ?_
  rintro ⟨again,S⟩ ⟨hD,hcl⟩;dsimp only at hD hcl⊢
  cases again with
  | false=>
   have he:=hD.all hg hf (hcl rfl)
   conv=>whnf
   repeat' ((refine zX (fun hc=>?_) (fun hc=>?_)<;>(try simp only[SY] at hc)<;>(conv=>whnf)))
   rw[←he];exact ⟨_,_,Shift.bK (es:=S.map PV.bool) (iA.ms' hds),rfl⟩
  | true=>
   have hSn:=hD.len
   conv=>whnf
   repeat' ((refine zX (fun hc=>?_) (fun hc=>?_)<;>(try simp only[SY] at hc)<;>(conv=>whnf)))
   refine aq.over [7,8,9,26,27,28,29,30,31,32,33,34,35,36,37,38,39,40,41,42,43,44,45,46,47,48,49,50,51,52,53,54,55,56,57,58,59,60,61,62,63,64,65,66] (fun x:Bool×Nat×List Bool=> [(7,.bool x.1),(8,.int .i64 x.2.1)]) (fun x=> [.row td (x.2.2.map PV.bool)])
    (fun x=>x.2.1≤g.length∧Lq g frm x.2.2∧(x.1=true→S.countP id < x.2.2.countP id)∧(x.1=false→x.2.2=S∧ ∀ i,i < x.2.1→IX g S i)) (fun x=>g.length - x.2.1) (false,0,S) ⟨Nat.zero_le _,hD,fun h=>(by cases h),fun _=>⟨rfl,fun i h=>absurd h (Nat.not_lt_zero _)⟩⟩ (by repeat' (first|exact trivial|refine And.intro ?_ ?_|exact Wk.ff rfl|exact Wk.refl _)) ?_
   rintro ⟨ag,i,S1⟩ ⟨hi,hD1,ha1,ha2⟩;dsimp only at hi hD1 ha1 ha2 ⊢;rcases Nat.lt_or_ge i g.length with hlt | hge2
   ·have hgi:=hg _ (List.getElem_mem hlt)
    have hli:=CY (List.getElem_mem hlt);have hgd:g.getD i []=g[i]:=by rw[List.getD_eq_getElem?_getD,List.getElem?_eq_getElem hlt];rfl
    conv=>whnf
    repeat' (first|((first|refine aM ?_|intro _);conv=>whnf)|(refine zX (fun hc=>?_) (fun hc=>?_)<;>(try simp only[SY] at hc)<;>first|omega|(conv=>whnf)))
    refine aq.over [7,9,32,33,34,35,36,37,38,39,40,41,42,43,44,45,46,47,48,49,50,51,52,53,54,55,56,57,58,59,60,61,62,63,64,65,66] (fun x:Bool×Nat×List Bool=> [(7,.bool x.1),(9,.int .i64 x.2.1)]) (fun x=> [.row td (x.2.2.map PV.bool)])
     (fun x=>x.2.1≤g[i].length∧Lq g frm x.2.2∧(x.1=true→S.countP id < x.2.2.countP id)∧(x.1=false→(x.2.2=S∧ ∀ j,j < i→IX g S j)∧ ∀ y∈g[i].take x.2.1,S.getD y.toNat false=true)) (fun x=>g[i].length - x.2.1) (ag,0,S1) ⟨Nat.zero_le _,hD1,ha1,fun h=>⟨ha2 h,by simp⟩⟩ wA ?_
    rintro ⟨ag,k,S2⟩ ⟨hk,hD2,hb1,hb2⟩;dsimp only at hk hD2 hb1 hb2 ⊢;have hS2:=hD2.len;have hi2:S2.getD i false=S2[i]:=by rw[List.getD_eq_getElem?_getD,List.getElem?_eq_getElem (by omega)];rfl
    have hex:(g[i].length≤k∨S2[i]=false)→ag=false→ ∀ j,j < i + 1→IX g S j:=fun hc h j hj e y hy=>by
     obtain ⟨⟨h1,h2⟩,h3⟩:=hb2 h;rcases Nat.lt_or_ge j i with hji | hji
     ·exact h2 j hji e y hy
     ·obtain rfl:j=i:=by omega
      rw[hgd] at hy;rw[←h1,hi2] at e;rcases hc with hc | hc
      ·rw[List.take_of_length_le (by omega)] at h3
       exact h3 y hy
      ·rw[hc] at e;cases e
    rcases Nat.lt_or_ge k g[i].length with hkl | hkg
    ·have hx:=hgi _ (List.getElem_mem hkl)
     have hyl:g[i][k].toNat < S2.length:=by omega
     conv=>whnf
     repeat' (first|((first|refine Lv ?_|refine aM ?_|refine aF ?_|intro _|refine zG ?_);conv=>whnf)|(refine zX (fun hc=>?_) (fun hc=>?_)<;>(try simp only[SY] at hc)<;>(conv=>whnf)))
     ·have hrg:Rg g frm g[i][k]:=(hD2.rg i hlt (by rw[hi2];exact (by assumption:_∧_).2)).step (by rw[Int.toNat_natCast,hgd];exact List.getElem_mem hkl)
      have hcn:=F7 S2 _ hyl (by rw[List.getD_eq_getElem?_getD,List.getElem?_eq_getElem hyl];assumption)
      have hlt2:S.countP id < (S2.set g[i][k].toNat true).countP id:=by
       rw[hcn]
       cases ag with
       | true=>have:=hb1 rfl;omega
       | false=>rw[(hb2 rfl).1.1];omega
      exact an (true,k + 1,S2.set g[i][k].toNat true) ⟨by show k + 1≤_;omega,hD2.put hrg (by omega) hx.1,fun _=>hlt2,fun h=>by cases h⟩ (by show g[i].length - (k + 1) < g[i].length - k;omega) (by repeat' (first|exact trivial|refine And.intro ?_ ?_|exact Wk.tt rfl|exact Wk.refl _))
     ·refine an (ag,k + 1,S2) ⟨by show k + 1≤_;omega,hD2,hb1,fun h=>⟨(hb2 h).1,fun y hy=>?_⟩⟩ (by show g[i].length - (k + 1) < g[i].length - k;omega) wA
      dsimp only at hy;rw[List.take_succ_eq_append_getElem hkl,List.mem_append,List.mem_singleton] at hy;rcases hy with hy | rfl
      ·exact (hb2 h).2 y hy
      ·rw[←(hb2 h).1.1,List.getD_eq_getElem?_getD,List.getElem?_eq_getElem hyl];assumption
     ·exact an (ag,i + 1,S2) ⟨by show i + 1≤_;omega,hD2,hb1,fun h=>⟨(hb2 h).1.1,hex (.inr (hc.resolve_left (by omega))) h⟩⟩ (by show g.length - (i + 1) < g.length - i;omega) wA
    ·conv=>whnf
     repeat' (first|((first|refine Lv ?_|refine aM ?_|intro _|refine zG ?_);conv=>whnf)|(refine zX (fun hc=>?_) (fun hc=>?_)<;>(try simp only[SY] at hc)<;>first|omega|(conv=>whnf)))
     exact an (ag,i + 1,S2) ⟨by show i + 1≤_;omega,hD2,hb1,fun h=>⟨(hb2 h).1.1,hex (.inl hkg) h⟩⟩ (by show g.length - (i + 1) < g.length - i;omega) wA
   ·conv=>whnf
    repeat' (first|((first|refine aM ?_|intro _);conv=>whnf)|(refine zX (fun hc=>?_) (fun hc=>?_)<;>(try simp only[SY] at hc)<;>first|omega|(conv=>whnf)))
    have hS1:=hD1.len;have hcl1:S1.countP id≤S1.length:=List.countP_le_length;refine an (ag,S1) ⟨hD1,fun h=>?_⟩ ?_ wA
    ·obtain ⟨h1,h2⟩:=ha2 h
     dsimp only;rw[h1];exact fun j hj=>h2 j (by omega)
    ·show (if ag=true then g.length - S1.countP id + 1 else 0) < if true=true then g.length - S.countP id + 1 else 0
     rw[if_pos rfl]
     cases ag with
     | true=>have:=ha1 rfl;rw[if_pos rfl];omega
     | false=>rw[if_neg (by decide)];omega
theorem BI (g:cE) (frm:List Int) (hg:kO g) (hf:zb g frm) (hn:g.length≤1000) (hl:eL g≤1000000) (hfl:frm.length≤1000000):
  aA Tryz.prog 155 [Fa g,cW frm] (.bn [cW (bF g frm),.int .i64 0]):=by
 have hr:=BL g frm hg hf hn hl hfl;have hbl:(dL g frm).length=g.length:=og _ _ (by simp) _;have hrl:bF g frm=dy g.length fun x=>(dL g frm).getD x false:=rfl;generalize dL g frm=B at *;refine af.ah ai Tryz.func155 rfl rfl (n:=51) rfl rfl ?_
 conv=>whnf
 repeat' (first|((refine pC (BM g hg hn hl) wR ?_);conv=>whnf)|(refine zX (fun hc=>?_) (fun hc=>?_)<;>(try simp only[SY] at hc)<;>omega))
 refine aq.keep [4,5,6,13,14,15,16,17,18,19,20,21,22,23,24,25,26,27,28,29,30,31,32] (fun i:Nat=> [(6,.int .i64 i)]) (fun i=>i≤frm.length) (fun i=>frm.length - i) 0 (Nat.zero_le _) wA ?_;intro i hi;rcases Nat.lt_or_ge i frm.length with hlt | hge
 ·have hx:=hf _ (List.getElem_mem hlt)
  conv=>whnf
  repeat' (first|refine aS ?_|((intro _);conv=>whnf)|(refine zX (fun hc=>?_) (fun hc=>?_)<;>(try simp only[SY] at hc)<;>first|omega|(conv=>whnf)))
  exact an (i + 1) (by show i + 1≤_;omega) (by show frm.length - (i + 1) < frm.length - i;omega) wA
 ·conv=>whnf
  repeat' (first|refine aS ?_|((first|refine pC (hr) wR ?_|intro _);conv=>whnf)|(refine zX (fun hc=>?_) (fun hc=>?_)<;>(try simp only[SY] at hc)<;>first|omega|(conv=>whnf)))
  refine aq.cj (au.nil 1 3 _) ?_;refine aq.over [8,9,36,37,38,39,40,41,42,43,44,45,46,47,48,49] (fun x:Nat×List Int×Tok=> [(8,.sl 1 (x.2.1.map (PV.int .i64)) (some x.2.2)),(9,.int .i64 x.1)]) (fun x=> [.tok x.2.2]) (fun x=>x.1≤g.length∧x.2.2.e=3∧x.2.1=dy x.1 fun y=>B.getD y false) (fun x=>g.length - x.1) (0, [],ay 1 3) ⟨Nat.zero_le _,rfl,rfl⟩ (by repeat' (first|exact trivial|refine And.intro ?_ ?_|exact Wk.ay _ _|exact Wk.refl _)) ?_;rintro ⟨j,l,tk⟩ ⟨hj,hte,hl2⟩;dsimp only at hj hte hl2 ⊢;have hll:l.length≤j:=by rw[hl2];exact bO _ _
  rcases Nat.lt_or_ge j g.length with hjl | hje
  ·have hsn:=fo j fun y=>B.getD y false
   have hjb:j < B.length:=by omega
   rw[←hl2,List.getD_eq_getElem?_getD,List.getElem?_eq_getElem hjb,Option.getD_some] at hsn
   conv=>whnf
   repeat' (first|refine aS ?_|((intro _);conv=>whnf)|(refine zX (fun hc=>?_) (fun hc=>?_)<;>(try simp only[SY] at hc)<;>first|omega|(conv=>whnf)))
   ·rename Tok=>t5
    rw[if_pos (by assumption)] at hsn;exact an (j + 1,l++ [(j:Int)],t5) ⟨by show j + 1≤_;omega,by assumption,hsn.symm⟩ (by show g.length - (j + 1) < g.length - j;omega) wA
   ·rw[if_neg (by simp_all),List.append_nil] at hsn
    exact an (j + 1,l,tk) ⟨by show j + 1≤_;omega,hte,hsn.symm⟩ (by show g.length - (j + 1) < g.length - j;omega) wA
  ·obtain rfl:j=g.length:=by omega
   rw[hrl, ←hl2]
   conv=>whnf
   repeat' (first|refine aS ?_|((intro _);conv=>whnf)|(refine zX (fun hc=>?_) (fun hc=>?_)<;>(try simp only[SY] at hc)<;>first|omega|(conv=>whnf)))
   exact ak.pure (Wk.bn (.cons (Wk.tok _ _ _) (.cons (Wk.refl _) .nil)))
abbrev Pn (l:List Bool):PV:=.sl 1 (l.map PV.bool) none
instance:cz Pn (fun l=> [Pn l]):=⟨fun _=>rfl⟩
instance cn.Pn (l:List Bool) (tk:Option Tok):cn Pn (.sl 1 (l.map PV.bool) tk) l:=⟨Wk.tok _ _ _,.cons (Wk.tok _ _ _) .nil⟩
def Hl (g:cE) (n:Nat):List (List Bool):=(List.range n).map fun i:Nat=>dL g [(i:Int)]
theorem Ho (g:cE) (n:Nat):Hl g (n + 1)=Hl g n++ [dL g [(n:Int)]]:=by unfold Hl;rw[List.range_succ,List.map_append];rfl
def Mu (g:cE) (done:List Bool) (i k:Nat):Bool:=(List.range k).all fun x=>!pG g i x || (pG g x i || done.getD x false)
theorem HK (g:cE) (done:List Bool) (i k:Nat):Mu g done i (k + 1)=(Mu g done i k && (!pG g i k || (pG g k i || done.getD k false))):=by
 unfold Mu;rw[List.range_succ,List.all_append];simp
theorem Gt (g:cE) (hg:kO g) (hn:g.length≤1000) (hl:eL g≤1000000):aA Tryz.prog 156 [Fa g] (.bn [.sl 1 ((ee g).map cW) none,.int .i64 0]):=by
 have hone: ∀ k:Nat,k < g.length→zb g [(k:Int)]:=fun k hk x hx=>by rw[List.mem_singleton.1 hx];omega
 refine af.ah ai Tryz.func156 rfl rfl (n:=109) rfl rfl ?_
 conv=>whnf
 repeat' (first|((refine pC (BM g hg hn hl) wR ?_);conv=>whnf)|(refine zX (fun hc=>?_) (fun hc=>?_)<;>(try simp only[SY] at hc)<;>omega))
 refine aq.cj (au.nil 1 118 _) ?_;refine aq.over [4,5,17,18,19,20,21,22,23,24,25,26,27,28,29] (fun x:Nat×List (List Bool)×Tok=> [(4,.sl 1 (x.2.1.map Pn) (some x.2.2)),(5,.int .i64 x.1)]) (fun x=> [.tok x.2.2]) (fun x=>x.1≤g.length∧x.2.2.e=118∧x.2.1=Hl g x.1) (fun x=>g.length - x.1) (0, [],ay 1 118) ⟨Nat.zero_le _,rfl,rfl⟩ (by repeat' (first|exact trivial|refine And.intro ?_ ?_|exact Wk.ay _ _|exact Wk.refl _)) ?_;rintro ⟨i,ld,tk⟩ ⟨hi,hte,hld⟩;dsimp only at hi hte hld ⊢;have hll:ld.length=i:=by rw[hld];unfold Hl;simp
 rcases Nat.lt_or_ge i g.length with hlt | hge
 ·have hsn:=Ho g i
  rw[←hld] at hsn;have hr:=BL g [(i:Int)] hg (hone i hlt) hn hl (by simp);generalize dL g [(i:Int)]=B at *
  conv=>whnf
  repeat' (first|refine aS ?_|((intro _);conv=>whnf)|(refine zX (fun hc=>?_) (fun hc=>?_)<;>(try simp only[SY] at hc)<;>first|omega|(conv=>whnf)))
  refine av.pure hr (aX.cons (Wk.refl _) (aX.cons (Wk.tok 1 [.int .i64 (i:Int)] _) aX.nil)) ?_
  conv=>whnf
  repeat' (first|refine aS ?_|((intro _);conv=>whnf)|(refine zX (fun hc=>?_) (fun hc=>?_)<;>(try simp only[SY] at hc)<;>omega))
  rename Tok=>t5
  exact an (i + 1,ld++ [B],t5) ⟨by show i + 1≤_;omega,by assumption,hsn.symm⟩ (by show g.length - (i + 1) < g.length - i;omega) wA
 ·obtain rfl:i=g.length:=by omega
  have hlg: ∀ (a k:Nat) (ha:a < ld.length), ∃ h:k < g.length→k < ld[a].length, ∀ h2:k < ld[a].length,ld[a][k]=pG g a k:=fun a k ha=>by
   have he:ld[a]=dL g [(a:Int)]:=by simp[hld,Hl]
   have hbl:(dL g [(a:Int)]).length=g.length:=og _ _ (by simp) _;refine ⟨fun h=>by rw[he,hbl];exact h,fun h2=>?_⟩;unfold pG;rw[List.getD_eq_getElem?_getD, ←he,List.getElem?_eq_getElem h2];rfl
  clear hld
  conv=>whnf
  repeat' (first|((first|refine gO.row (by omega) (by omega) (by omega) (by show _ * 1≤_;omega) rfl fun td htd hds=>?_|refine aM ?_|intro _);conv=>whnf)|(refine zX (fun hc=>?_) (fun hc=>?_)<;>(try simp only[SY] at hc)<;>first|omega|(conv=>whnf)))
  rw[Int.toNat_natCast];refine aq.cj (au.tq (t:=td) (qx g.length)) ?_;refine aq.cj (au.nil 1 23 _) ?_
  refine aq.over [7,8,9,10,11,12,13,33,34,35,36,37,38,39,40,41,42,43,44,45,46,47,48,49,50,51,52,53,54,55,56,57,58,59,60,61,62,63,64,65,66,67,68,69,70,71,72,73,74,75,76,77,78,79,80,81,82,83,84,85,86,87,88,89,90,91,92,93,94,95,96,97,98,99,100,101,102,103,104,105,106,107] (fun x:List Bool×Nat×(List (List Int)×Tok)×Nat=> [(7,.sl 1 (x.2.2.1.1.map cW) (some x.2.2.1.2)),(8,.int .i64 x.2.1)])
   (fun x=> [.tok x.2.2.1.2,.row td (x.1.map PV.bool)])
   (fun x=>Gg g x.1 x.2.1∧x.2.2.1.2.e=23∧g.length≤x.2.1 + x.2.2.2∧x.2.2.1.1++((kg g x.2.2.2 x.1 x.2.1).map fun l=>l.map fun x:Nat=>(x:Int))=ee g∧x.2.2.1.1.length≤x.2.1) (fun x=>x.2.2.2)
   ((List.range g.length).map fun _=>false,0,([],ay 1 23),g.length) ⟨Gg.zero g,rfl,by simp,rfl,by simp⟩ (by repeat' (first|exact trivial|refine And.intro ?_ ?_|exact Wk.ay _ _|exact Wk.refl _)) ?_
  rintro ⟨done,n,⟨G,tg⟩,f⟩ ⟨hG,htg,hf,he,hgl⟩;dsimp only at hG htg hf he hgl ⊢;have hdl:=hG.len;have hnl:n≤g.length:=by have:=hG.n;have:=qV g done;omega
  rcases Nat.lt_or_ge n g.length with hlt | hge2
  ·obtain ⟨f,rfl⟩: ∃ k,f=k + 1:=⟨f - 1,by omega⟩
   obtain ⟨i0,hi0,hr0,hfd⟩:=hG.find hg hlt;rw[kg,if_pos hlt,hfd] at he;dsimp only at he
   conv=>whnf
   repeat' (first|((first|refine aM ?_|intro _);conv=>whnf)|(refine zX (fun hc=>?_) (fun hc=>?_)<;>(try simp only[SY] at hc)<;>first|omega|(conv=>whnf)))
   refine aq.keep [7,8,9,10,11,12,13,37,38,39,40,41,42,43,44,45,46,47,48,49,50,51,52,53,54,55,56,57,58,59,60,61,62,63,64,65,66,67,68,69,70,71,72,73,74,75,76,77,78,79,80,81,82,83,84,85,86,87,88,89,90,91,92,93,94,95,96,97,98,99,100,101,102,103,104,105,106,107] (fun i:Nat=> [(7,.sl 1 (G.map cW) (some tg)),(8,.int .i64 n),(9,.int .i64 i)]) (fun i=>i≤i0) (fun i=>i0 - i) 0 (Nat.zero_le _) wA ?_;intro i hi;have hid:i < done.length:=by omega
   have hil:i < ld.length:=by omega
   by_cases hdi:done[i]=true
   ·have hii:i < i0:=by
     rcases Nat.lt_or_ge i i0 with h | h
     ·exact h
     ·have hd0:=(lR.1 hr0).1
      rw[show i0=i by omega,List.getD_eq_getElem?_getD,List.getElem?_eq_getElem hid,Option.getD_some,hdi] at hd0;cases hd0
    conv=>whnf
    repeat' (first|((first|refine aM ?_|refine aF ?_|intro _);conv=>whnf)|(refine zX (fun hc=>?_) (fun hc=>?_)<;>(try simp only[SY] at hc)<;>first|omega|(conv=>whnf)))
    ·exact an (i + 1) (by show i + 1≤_;omega) (by show i0 - (i + 1) < i0 - i;omega) wA
    ·exact absurd hdi (by simp_all)
   ·have hdf:done[i]=false:=by simpa using hdi
    conv=>whnf
    repeat' (first|((first|refine aM ?_|refine aF ?_|intro _);conv=>whnf)|(refine zX (fun hc=>?_) (fun hc=>?_)<;>(try simp only[SY] at hc)<;>first|omega|(conv=>whnf)))
    ·exact absurd hdf (by simp_all)
    refine aq.cj (au.nil 1 3 _) ?_
    refine aq.over [10,11,12,47,48,49,50,51,52,53,54,55,56,57,58,59,60,61,62,63,64,65,66,67,68,69,70,71,72,73,74,75,76,77,78,79,80,81,82,83,84,85,86] (fun x:Nat×List Int×Tok×Bool=> [(10,.sl 1 (x.2.1.map (PV.int .i64)) (some x.2.2.1)),(11,.bool x.2.2.2),(12,.int .i64 x.1)]) (fun x=> [.tok x.2.2.1,.tok tg,.row td (done.map PV.bool)])
     (fun x=>x.1≤g.length∧x.2.2.1.e=3∧x.2.1=dy x.1 (fun k=>pG g i k && pG g k i)∧x.2.2.2=Mu g done i x.1) (fun x=>g.length - x.1) (0, [],ay 1 3,true) ⟨Nat.zero_le _,rfl,rfl,rfl⟩ (by repeat' (first|exact trivial|refine And.intro ?_ ?_|exact Wk.ay _ _|exact Wk.tt rfl|exact Wk.refl _)) ?_
    rintro ⟨k,own,to,rdy⟩ ⟨hk,hto,hown,hrdy⟩;dsimp only at hk hto hown hrdy ⊢;have hol:own.length≤k:=by rw[hown];exact bO _ _
    rcases Nat.lt_or_ge k g.length with hkl | hkg
    ·have hsn:=fo k (fun k=>pG g i k && pG g k i)
     have hrn:=HK g done i k;rw[←hown] at hsn;rw[←hrdy] at hrn;have hkd:k < ld.length:=by omega
     have hkn:k < done.length:=by omega
     obtain ⟨b1,b2⟩:=hlg i k hil;obtain ⟨b3,b4⟩:=hlg k i hkd;have b1:=b1 hkl;have b3:=b3 (by omega);have b2:=b2 b1;have b4:=b4 b3;have hdk:done.getD k false=done[k]:=by rw[List.getD_eq_getElem?_getD,List.getElem?_eq_getElem hkn];rfl
     rw[hdk] at hrn;rw[←b2, ←b4] at hsn hrn
     conv=>whnf
     repeat' (first|((first|(((apply zY;intro hg));first|exact tB|((conv=>whnf);(repeat ((refine aH ?_);conv=>whnf));exact pZ))|refine aM ?_|refine aF ?_|intro _|refine zG ?_);conv=>whnf)|(refine zX (fun hc=>?_) (fun hc=>?_)<;>(try simp only[SY] at hc)<;>first|omega|(conv=>whnf)))
     ·rename Tok=>t5
      obtain ⟨e1,e2⟩:ld[i][k]=true∧ld[k][i]=true:=by assumption
      rw[e1,e2] at hsn hrn;exact an (k + 1,own++ [(k:Int)],t5,rdy) ⟨by show k + 1≤_;omega,by assumption,hsn.symm,by show rdy=_;rw[hrn];simp⟩ (by show g.length - (k + 1) < g.length - k;omega) wA
     ·have h1:ld[i][k]=false∨ld[k][i]=false:=by assumption
      obtain ⟨e1,e3⟩:ld[i][k]=true∧done[k]=false:=by assumption
      have e2:ld[k][i]=false:=by simpa[e1] using h1
      rw[e1,e2] at hsn hrn;rw[e3] at hrn;exact an (k + 1,own,to,false) ⟨by show k + 1≤_;omega,hto,(List.append_nil own).symm.trans hsn.symm,by show false=_;rw[hrn];simp⟩ (by show g.length - (k + 1) < g.length - k;omega) (by repeat' (first|exact trivial|refine And.intro ?_ ?_|exact Wk.ff rfl|exact Wk.refl _))
     ·have h1:ld[i][k]=false∨ld[k][i]=false:=by assumption
      have h2:ld[i][k]=false∨done[k]=true:=by assumption
      exact an (k + 1,own,to,rdy) ⟨by show k + 1≤_;omega,hto,by
       refine Eq.trans ?_ hsn.symm
       rcases h1 with e | e<;>simp[e],by show rdy=_;rw[hrn];rcases h2 with e | e<;>simp[e]⟩ (by show g.length - (k + 1) < g.length - k;omega) wA
    ·obtain rfl:k=g.length:=by omega
     have hrb:m5 g done i=rdy:=by
      unfold m5;rw[List.getD_eq_getElem?_getD,List.getElem?_eq_getElem hid,Option.getD_some,hdf,hrdy];rfl
     cases rdy with
     | false=>
      have hii:i < i0:=by
       rcases Nat.lt_or_ge i i0 with h | h
       ·exact h
       ·rw[show i=i0 by omega,hr0] at hrb;cases hrb
      conv=>whnf
      repeat' (first|((first|refine aM ?_|intro _);conv=>whnf)|(refine zX (fun hc=>?_) (fun hc=>?_)<;>(try simp only[SY] at hc)<;>first|omega|(conv=>whnf)))
      exact an (i + 1) (by show i + 1≤_;omega) (by show i0 - (i + 1) < i0 - i;omega) wA (hp:=⟨(List.perm_append_singleton _ _).symm⟩) (Γ1:= [_])
     | true=>
      have hii:i=i0:=by
       rcases Nat.lt_or_ge i i0 with h | h
       ·rw[vK hfd h] at hrb;cases hrb
       ·omega
      subst hii;have hoc: ∀ y:Nat,(y:Int)∈own↔y∈dr g i:=fun y=>by rw[hown];exact Cy
      have hol:own.length=(dr g i).length:=by rw[hown];unfold dr dy;simp
      have hor: ∀ c∈own, ∃ y:Nat,c=y∧y < g.length:=fun c hc=>by
       rw[hown] at hc;have:=iO.1 hc;exact ⟨c.toNat,by omega,by omega⟩
      have hoe:own=(dr g i).map fun x:Nat=>(x:Int):=hown;have hpos:0 < (dr g i).length:=List.length_pos_of_mem (iq.2 ⟨hi0,fY hg hi0,fY hg hi0⟩);have hnx:=hG.next hg hi0 hr0;have hnn:n + (dr g i).length≤g.length:=by have:=hnx.n;have:=qV g (gX g done (dr g i));omega
      have hda: ∀ y,y < g.length→((gX g done (dr g i)).getD y false=true↔done.getD y false=true∨(y:Int)∈own):=fun y hy=>by rw[qW hy,hoc]
      have hdll:(gX g done (dr g i)).length=g.length:=hnx.len;rw[List.map_cons, ←hoe] at he;clear hown hrdy hrb
      conv=>whnf
      repeat' (first|((first|refine aM ?_|intro _);conv=>whnf)|(refine zX (fun hc=>?_) (fun hc=>?_)<;>(try simp only[SY] at hc)<;>first|omega|(conv=>whnf)))
      refine aq.over [13,88,89,90,91,92,93,94,95,96,97,98,99] (fun x:Nat×List Bool=> [(13,.int .i64 x.1)]) (fun x=> [.row td (x.2.map PV.bool),.tok to,.tok tg])
       (fun x=>x.1≤own.length∧x.2.length=g.length∧ ∀ y,y < g.length→(x.2.getD y false=true↔done.getD y false=true∨(y:Int)∈own.take x.1)) (fun x=>own.length - x.1) (0,done) ⟨Nat.zero_le _,hdl,fun y hy=>by simp⟩ wA ?_
      rintro ⟨j,d⟩ ⟨hj,hdl2,hdt⟩;dsimp only at hj hdl2 hdt ⊢;rcases Nat.lt_or_ge j own.length with hjl | hje
      ·obtain ⟨c,hc1,hc2⟩:=hor own[j] (List.getElem_mem hjl)
       have hcd:0≤own[j]∧own[j] < d.length:=by omega
       have e2:own[j].toNat=c:=by omega
       conv=>whnf
       repeat' (first|((first|refine aM ?_|refine aF ?_|intro _);conv=>whnf)|(refine zX (fun hc=>?_) (fun hc=>?_)<;>(try simp only[SY] at hc)<;>first|omega|(conv=>whnf)))
       refine an (j + 1,d.set own[j].toNat true) ⟨by show j + 1≤_;omega,by show (d.set _ _).length=_;rw[List.length_set];exact hdl2,fun y hy=>?_⟩ (by show own.length - (j + 1) < own.length - j;omega) wA;show (d.set own[j].toNat true).getD y false=true↔_;rw[List.take_succ_eq_append_getElem hjl,List.mem_append,List.mem_singleton,hc1,Int.toNat_natCast,nY _ _ _ (by omega),hdt y hy];have:(y=c↔(y:Int)=(c:Int)):=by omega
       rw[this];constructor
       ·rintro (h | h | h)
        ·exact .inr (.inr h)
        ·exact .inl h
        ·exact .inr (.inl h)
       ·rintro (h | h | h)
        ·exact .inr (.inl h)
        ·exact .inr (.inr h)
        ·exact .inl h
      ·have hd2:d=gX g done (dr g i):=by
        refine qI (by omega) fun y hy=>?_;rw[hdt y (by omega),hda y (by omega),List.take_of_length_le (by omega)]
       subst hd2;rw[←hol] at he hnx hnn
       conv=>whnf
       repeat' (first|((first|refine aM ?_|refine aF ?_|intro _);conv=>whnf)|(refine zX (fun hc=>?_) (fun hc=>?_)<;>(try simp only[SY] at hc)<;>first|omega|(conv=>whnf)))
       rename Tok=>t5
       exact an (gX g done (dr g i),n + own.length,(G++ [own],t5),f) ⟨hnx,by assumption,by show _≤n + own.length + f;omega,by show (G++ [own])++_=_;rw[List.append_assoc];exact he,by show (G++ [own]).length≤n + own.length;rw[List.length_append,List.length_singleton];omega⟩ (by show f < f + 1;omega) wA
  ·have hgf:kg g f done n= []:=by
    cases f with
    | zero=>rfl
    | succ f=>rw[kg,if_neg (by omega)]
   rw[hgf,List.map_nil,List.append_nil] at he;subst he
   conv=>whnf
   repeat' (first|((first|refine aM ?_|intro _);conv=>whnf)|(refine zX (fun hc=>?_) (fun hc=>?_)<;>(try simp only[SY] at hc)<;>first|omega|(conv=>whnf)))
   exact ak.pure (Wk.bn (.cons (Wk.tok _ _ _) (.cons (Wk.refl _) .nil)))
theorem mS {p:Int→Bool}: ∀ {l:List Int} {k:Nat},k≤l.length→(∀ j (h:j < l.length),j < k→p l[j]=true)→(∀ h:k < l.length,p (l[k])=false)→l.takeWhile p=l.take k∧l.dropWhile p=l.drop k
 | [],k,_,_,_=>by simp
 | x::l,0,_,_,h=>by
  have:=h (by simp);simp at this;simp[List.takeWhile_cons,List.dropWhile_cons,this]
 | x::l,k + 1,hk,h1,h2=>by
  have h0:=h1 0 (by simp) (by omega);simp at h0;have ih:=mS (p:=p) (l:=l) (k:=k) (by simpa using hk) (fun j hj hjk=>h1 (j + 1) (by simpa using hj) (by omega)) (fun h=>h2 (by simpa using h));simp[List.takeWhile_cons,List.dropWhile_cons,h0,ih]
theorem DK {p q:Prop} (k:q) (h:q→p:=by intro hq;first | exact aC.sT (some 33) rfl [0,4,7] [11,12] ai mixed hq):p:=h k
theorem Nk (l:List Int) (v:Int) (hl:l.length≤1000000000):aA Tryz.prog 68 [cW l,.int .i64 v] (cW (cU l v)):=by
 refine af.ah ai Tryz.func68 rfl rfl (n:=45) rfl rfl ?_
 conv=>whnf
 skip
 refine aq.keep [5,6,7,8,9,10,11,12,13,14,15,16,17,18,19] (fun k:Nat=> [(5,.int .i64 k)]) (fun k=>k≤l.length∧ ∀ j (h:j < l.length),j < k→l[j] < v) (fun k=>l.length - k) 0 ⟨Nat.zero_le _,fun _ _ h=>by omega⟩ wA ?_;rintro k ⟨hk,hm⟩;have hgd: ∀ h:k < l.length,l.getD k xD.d=l[k]:=fun h=>by simp[List.getD,h]
 conv=>whnf
 repeat' (first|refine l9 ?_|((first|refine DK ?_|intro _);conv=>whnf)|(refine zX (fun hc=>?_) (fun hc=>?_)<;>(try simp only[SY] at hc)<;>(conv=>whnf)))
 ·have hlt:k < l.length:=by omega
  rw[hgd hlt] at hc;refine an (k + 1) ⟨by omega,fun j hj hjk=>?_⟩ (by show l.length - (k + 1) < l.length - k;omega) wA;by_cases e:j=k
  ·subst e;exact hc.2
  ·exact hm j hj (by omega)
 ·have hlt:k < l.length:=by omega
  rw[hgd hlt] at hc;obtain ⟨h1,h2⟩:=mS (p:=fun x=>decide (x < v)) hk (fun j hj hjk=>by simpa using hm j hj hjk) (fun h=>by simp;omega);refine ak.pure (Wk.sl ?_);congr 1;unfold cU;rw[h1,h2,aI hlt,hc.2];simp only[List.head?_cons,if_true];rw[←hc.2, ←aI hlt,List.take_append_drop]
 ·have h0:(l.length:Int)≤(k:Int)∨v≤l.getD k xD.d:=by assumption
  obtain ⟨h1,h2⟩:=mS (p:=fun x=>decide (x < v)) hk (fun j hj hjk=>by simpa using hm j hj hjk) (fun h=>by
   have:=hgd h;rw[this] at h0
   simp;omega)
  have e:cU l v=l.take k++ [v]++l.drop k:=by
   unfold cU;rw[h1,h2,if_neg,List.append_assoc]
   ·rfl
   ·intro h
    rcases Nat.lt_or_ge k l.length with hlt | hge
    ·rw[aI hlt] at h
     simp only[List.head?_cons,Option.some.injEq] at h;rw[hgd hlt] at hc;rcases hc with hc | hc
     ·omega
     ·exact hc h
    ·rw[List.drop_of_length_le hge] at h;cases h
  rw[e];exact ak.pure wA
theorem AV:Wk .nil (cW []):=Wk.eu rfl
theorem LH (t:aa): ∀ (deep:Int) (out:List Int),0≤deep→deep≤1000→out.Pairwise (· < ·)→out.length + t.aQ≤1000000000→aA Tryz.prog 44 [.agg t.cells,.int .i64 deep,cW out] (cW (t.bD deep out)):=by
 induction t using aa.ind with
 | h t ih=>
  intro deep out h0 h1 ho hb;have hbe:=t.bu;have he:=t.M3 deep out;have ih': ∀ x∈t.t, ∀ (deep:Int) (out:List Int),0≤deep→deep≤1000→out.Pairwise (· < ·)→out.length + x.aQ≤1000000000→aA Tryz.prog 44 [.agg x.cells,.int .i64 deep,cW out] (cW (x.bD deep out)):=ih;have hbs:=aa.aU t.t;refine af.ah ai Tryz.func44 rfl rfl (n:=44) rfl rfl ?_
  conv=>whnf
  repeat (((intro _);conv=>whnf))
  refine aq.keep [2,7,9,10,11,12,13,14,15,16,17,18,19,20,21,22] (fun x:Nat×List Int=> [(2,cW x.2),(7,.int .i64 x.1)]) (fun x=>x.1≤t.v.length∧x.2.Pairwise (· < ·)∧x.2.length≤out.length + x.1∧(t.v.drop x.1).foldl cU x.2=t.v.foldl cU out) (fun x=>t.v.length - x.1) (0,out) ⟨Nat.zero_le _,ho,by simp,rfl⟩ wA ?_;rintro ⟨i,o⟩ ⟨hi,hp,hl,hm⟩;dsimp only at hi hp hl hm⊢
  conv=>whnf
  repeat' (first|refine l9 ?_|((first|refine pC (Nk o _ (by omega)) wR ?_|intro _);conv=>whnf)|(refine zX (fun hc=>?_) (fun hc=>?_)<;>(try simp only[SY] at hc)<;>(conv=>whnf)))
  ·have hlt:i < t.v.length:=by omega
   rw[aI hlt,List.foldl_cons] at hm;have:=nQ t.v[i] o;exact an (i + 1,cU o t.v[i]) ⟨by show i + 1≤_;omega,rW _ hp,by show (cU o t.v[i]).length≤out.length + (i + 1);omega,hm⟩ (by show t.v.length - (i + 1) < t.v.length - i;omega) wA
  rw[List.drop_of_length_le (by omega),List.foldl_nil] at hm;subst hm;refine aq.keep [2,8,23,24,25,26,27,28,29,30,31,32,33,34,35,36,37,38,39,40,41,42] (fun x:Nat×List Int=> [(2,cW x.2),(8,.int .i64 x.1)]) (fun x=>x.1≤t.t.length∧x.2.Pairwise (· < ·)∧(x.1=0∨deep < 1000)∧x.2.length + aa.aD (t.t.drop x.1)≤1000000000∧(if deep < 1000 then aa.Ik (t.t.drop x.1) (deep + 1) x.2 else x.2)=t.bD deep out) (fun x=>t.t.length - x.1) (0,t.v.foldl cU out) ⟨Nat.zero_le _,hp,.inl rfl,by simp only[List.drop_zero];omega,by rw[he];rfl⟩ wA ?_;rintro ⟨j,o⟩ ⟨hj,hp,hd,hl,hm⟩;dsimp only at hj hp hd hl hm⊢
  conv=>whnf
  repeat' (first|refine l9 ?_|((first|refine pC (ih' _ (List.getElem_mem _) _ o (by omega) (by omega) hp (by rw[aI (by omega),aa.aD] at hl;omega)) wR ?_|intro _);conv=>whnf)|(refine zX (fun hc=>?_) (fun hc=>?_)<;>(try simp only[SY] at hc)<;>(conv=>whnf)))
  ·have hlt:j < t.t.length:=by omega
   rw[if_pos (by omega),aI hlt,aa.Ik] at hm;rw[aI hlt,aa.aD] at hl;obtain ⟨b1,b2,_⟩:=(t.t[j]).uL (deep + 1) o hp;exact an (j + 1,t.t[j].bD (deep + 1) o) ⟨by show j + 1≤_;omega,b1,.inr (by omega),by dsimp only;omega,by dsimp only;rw[if_pos (by omega)];exact hm⟩ (by show t.t.length - (j + 1) < t.t.length - j;omega) wA
  ·rw[←hm]
   have e:(if deep < 1000 then aa.Ik (t.t.drop j) (deep + 1) o else o)=o:=by
    split
    ·rw[List.drop_of_length_le (by omega),aa.Ik]
    ·rfl
   rw[e];exact ak.pure (Wk.refl _)
theorem Lp (t:aa) (hb:t.aQ≤1000000000) (hd:t.dep < 1000):aA Tryz.prog 23 [.agg t.cells] (cW (dY t)):=by
 have h:=LH t 0 [] (by omega) (by omega) List.Pairwise.nil (by simpa using hb);rw[t.zl hd] at h;have h2:aA Tryz.prog 44 [.agg t.cells,.int .i64 0,.nil] (cW (dY t)):=af.wk h (.cons (Wk.refl _) (.cons (Wk.refl _) (.cons AV .nil)));refine af.ah ai Tryz.func23 rfl rfl (n:=5) rfl rfl ?_
 conv=>whnf
 repeat (first|refine Qc ?_|((first|refine pC (h2) wR ?_|intro _);conv=>whnf))
 exact ak.pure (Wk.refl _)
theorem IP (t:aa) (h:t.dep < 1000):(dY t).length≤t.aQ:=by
 have:=(t.uL 0 [] List.Pairwise.nil).2.1;rw[t.zl h] at this;simpa using this
theorem Ob (t:aa) (hb:t.aQ≤1000000000) (hd:t.dep < 1000) (hv: ∀ x∈t.vars,0≤x∧x≤1000000):aA Tryz.prog 33 [.agg t.cells] (.int .i64 (c8 t)):=by
 have hl:=IP t hd;have hx: ∀ x∈dY t,0≤x∧x≤1000000:=fun x h=>hv x ((nM _ _).1 h);refine af.ah ai Tryz.func33 rfl rfl (n:=16) rfl rfl ?_
 conv=>whnf
 repeat' (first|refine l9 ?_|((first|refine pC (Lp t hb hd) wR ?_|intro _);conv=>whnf)|(refine zX (fun hc=>?_) (fun hc=>?_)<;>(try simp only[SY] at hc)<;>(conv=>whnf)))
 ·exact ak.pure (Wk.int (by unfold c8;rw[if_pos (List.eq_nil_of_length_eq_zero (by omega))]))
 ·have hlt:(dY t).length - 1 < (dY t).length:=by omega
  have e:(dY t).getD ((dY t).length - 1) 0=(dY t)[(dY t).length - 1]:=by simp[List.getD,hlt]
  have h1:=hx _ (List.getElem_mem hlt)
  have hn:c8 t=(dY t)[(dY t).length - 1] + 1:=by
   unfold c8;rw[if_neg (by intro h;rw[h] at hlt;simp at hlt),e]
  rw[hn];refine ju.ok (by omega) (by omega) ?_
  conv=>whnf
  skip
  exact ak.pure (Wk.refl _)
end Go.Cb


