/-
 Contracts: recursive bindings: groups of procedures.
 Contracts: recursive bindings in order: letrec*.
 Plain: how many terms of a sort stand in one.
 Plain: recursive bindings made of plain ones: nothing is lost; where all are procedures nothing is asked.
 Plain: recursive bindings made of plain ones: counts of whole terms; where all are procedures nothing is asked.
 Plain: recursive bindings made of plain ones: how great a term comes to be.
 Plain: names of shifted terms.
 Plain: recursive bindings made of plain ones: what variables are called says nothing.
 Plain: what letrec knows of items is what the plain function knows of lists.
 Contracts: recursive bindings: links put together.
 Contracts: recursive bindings: letrec's links; a Rec.
 Contracts: recursive bindings: a Rec; terms.
 Plain: what a right program's names are; what no program is.
 Contracts: the document's words for the check of terms.
 Contracts: what is right names what it binds.
 Contracts: recursive bindings: terms, a program, converted.
 Contracts: the example of letrec, run: it ends at an early reference.
 Contracts: the document's example of letrec holds (the expander at its forms alone).
 Contracts: are there few terms? (chapter 09)
 Contracts: the document's graphs: to which things some lead.
 Contracts: the document's graphs: all things met; groups.
 Contracts: the document's bindings; all variables greater.
-/
import Derived.Test.YtamlcgkjinbnlaaGreatDoorD7
set_option linter.unusedSimpArgs false
set_option linter.unusedVariables false
namespace Go.Cb
open Go.Proofs
set_option maxRecDepth 100000
set_option maxHeartbeats 4000000
abbrev l7:Option (List Int×Option Tok)→PV
 | none=>.nil
 | some x=>.sl 1 (x.1.map (PV.int .i64)) x.2
instance:cn l7 (fun x=> [l7 x]):=⟨fun x=>by cases x<;>rfl⟩
instance (l:List Int) (tk:Option Tok):bU l7 (.sl 1 (l.map (PV.int .i64)) tk) (some (l,tk)):=⟨Wk.refl _,gm.refl _⟩
theorem af.OI {P:Program} {f:FuncId} {args args':List PV} {Γ Γ':List aj} {Q:PV→List aj→Prop} (hg:c9 args Γ args' Γ') (h:af P f args' Γ' Q):af P f args Γ Q:=
 ⟨h.1,fun w0 F M w vs hS hT=>by
  obtain ⟨F1,a1,a2,a3⟩:=hg w0 F M w vs hS hT;refine (h.2 w0 F1 M w vs a2 a3).mono ?_;rintro e w' ⟨v,F',y,Γ2,e1,e2,e3⟩
  exact ⟨v,F',y,Γ2,e1,Fz.le_trans a1 e2,e3⟩⟩
theorem KH {σ:Type} {ds:List Nat} {R:σ→List (Nat×PV)} {G:σ→List aj} {I:σ→Prop} {μ:σ→Nat} {T0:List PV} {s:σ} {T:List PV} {Γ Γ' Γ1:List aj} {D:Ds} (s':σ) (hI:I s') (hμ:μ s' < μ s)
  (hg:au Γ Γ') (hw:bS 0 T T0 ds (R s')) [hp:bw Γ' (G s') Γ1]:jm ds R G I μ T0 s D T Γ D:=⟨rfl,s',hI,hμ,c9.of (bS.wk 0 T T0 ds (R s') hw) (au.trans hg (au.drop hp.p))⟩
def Kn (an:List cO) (k:Nat):Bool:=match an[k]? with
 | some z=>z.pr && !z.lt
 | none=>false
def y7 (an:List cO) (own:List Int) (a:Nat):List Int:=gM own.length fun b=>(an.getD (own.getD a 0).toNat ⟨0,gr,false,false, []⟩).ln.contains (own.getD b 0)
def En (f:Nat→List Int) (n a:Nat):List (Option (List Int×Option Tok)):=(List.range n).map fun x=>if x < a then some (f x,none) else none
theorem tO (f:Nat→List Int) (n a:Nat):(En f n a).length=n:=by unfold En;simp
theorem tN {f:Nat→List Int} {n a j:Nat} (h:j < (En f n a).length):(En f n a)[j]=if j < a then some (f j,none) else none:=by simp[En]
theorem Kw {f:Nat→List Int} {n a:Nat}:(En f n a).set a (some (f a,none))=En f n (a + 1):=by
 refine List.ext_getElem (by simp[tO]) fun j h1 h2=>?_;rw[List.getElem_set,tN h2];by_cases e:a=j
 ·subst e;rw[if_pos rfl,if_pos (by omega)]
 ·rw[if_neg e,tN (by rw[tO] at h2 ⊢; exact h2)]
  by_cases h:j < a
  ·rw[if_pos h,if_pos (by omega)]
  ·rw[if_neg h,if_neg (by omega)]
theorem HX (f:Nat→List Int) (n:Nat):List.replicate n PV.nil=(En f n 0).map l7:=by
 refine List.ext_getElem (by simp[tO]) fun j h1 h2=>?_;rw[List.getElem_replicate,List.getElem_map,tN,if_neg (by omega)]
theorem HW (f:Nat→List Int) (n:Nat):(En f n n).map l7=((List.range n).map f).map jN:=by
 unfold En;rw[List.map_map,List.map_map];refine List.map_congr_left fun x hx=>?_;simp only[Function.comp];rw[if_pos (List.mem_range.1 hx)]
theorem E4 {l:List (Option (List Int×Option Tok))} {x:Option (List Int×Option Tok)} (hx: ∀ (a:Nat) (h:a < l.length),Wk (l7 l[a]) (l7 l[a])) {a:Nat} (ha:a < l.length) (h:Wk (l7 l[a]) (l7 x)):o9 (l.map l7) ((l.set a x).map l7):=by
 induction l generalizing a with
 | nil=>exact absurd ha (by simp)
 | cons y l ih=>
  have hrest: ∀ l:List (Option (List Int×Option Tok)),o9 (l.map l7) (l.map l7):=by
   intro l
   induction l with
   | nil=>exact .nil
   | cons z l ih=>exact .cons (gm.refl _) ih
  have hc: ∀ z:Option (List Int×Option Tok),(l7 z).cellsOf= [l7 z]:=fun z=>by cases z<;>rfl
  cases a with
  | zero=>exact .cons (by rw[hc,hc];exact .cons h .nil) (hrest l)
  | succ a=>
   rw[List.set_cons_succ];exact .cons (gm.refl _) (ih (fun _ _=>Wk.refl _) (by simpa using ha) (by simpa using h))
theorem aq.IT {P:Program} {f:FuncId} {args args':List PV} {y:PV} {Γ Γ1:List aj} {K:PV→List aj→Prop} (t:Tok) (es:List PV) [hp:iE Γ (.row t es) Γ1] (hw:o8 t es args args') (h:aA P f args' y) (k:K y (.tok t::Γ1)):aq P f args Γ K:=by
 have h1:=af.frame h (Γ:=.tok t::Γ1) (Γ2:=.tok t::Γ1) (List.Perm.refl _)
 have h2:af P f args' (.tok t::Γ1) K:=by
  refine ⟨h1.1,fun w0 F M w vs hS hT=>(h1.2 w0 F M w vs hS hT).mono ?_⟩;rintro e w' ⟨v,F',y',Γ',e1,e2,e3,e4,Γ1',rfl,rfl⟩;refine ⟨v,F',_,_,e1,e2,?_,e4,k⟩;refine e3.sub ?_;rw[List.append_assoc];exact List.sublist_append_right _ _
 exact ⟨.inl (af.OI (c9.cu (hp:=hp) hw) h2)⟩
abbrev jR:cO:=⟨0,gr,false,false, []⟩
def Cm (an:List cO):List Int→Int→Int
 | [],m=>m
 | j::l,m=>Cm an l (if (an.getD j.toNat jR).pr=false∧(an.getD j.toNat jR).lt=false then max m (j + 1) else m)
theorem Bz (an:List cO) (j:Int): ∀ (l:List Int) (m:Int),Cm an (l++ [j]) m=if (an.getD j.toNat jR).pr=false∧(an.getD j.toNat jR).lt=false then max (Cm an l m) (j + 1) else Cm an l m
 | [],m=>rfl
 | x::l,m=>by rw[List.cons_append,Cm,Bz an j l,Cm]
def JY (an:List cO) (gE:dr) (own:List Int):List Int→Int→Int
 | [],m=>m
 | a::l,m=>JY an gE own l (Cm an (cH gE [own.getD a.toNat 0]) m)
theorem By (an:List cO) (gE:dr) (own:List Int) (a:Int): ∀ (l:List Int) (m:Int),JY an gE own (l++ [a]) m=Cm an (cH gE [own.getD a.toNat 0]) (JY an gE own l m)
 | [],m=>rfl
 | x::l,m=>by rw[List.cons_append,JY,By an gE own a l,JY]
def FR (an:List cO) (gE:dr) (own:List Int) (grp:List Int):jP:=⟨JY an gE own grp 0,grp.map fun a=>(an.getD (own.getD a.toNat 0).toNat jR).v,grp.map fun a=>(an.getD (own.getD a.toNat 0).toNat jR).e⟩
instance bU.Qw (lv:Int) (vs:List Int) (ts:List aa) (t1 t2:Option Tok):bU jP.pv (.agg [.int .i64 lv,.int .i64 9,.int .i64 0,.sl 1 (vs.map (PV.int .i64)) t1,.sl 4 (ts.map aa.pv) t2]) ⟨lv,vs,ts⟩:=
 ⟨Wk.agg (.cons (Wk.refl _) (.cons (Wk.refl _) (.cons (Wk.refl _) (.cons (Wk.tok _ _ _) (.cons (Wk.tok _ _ _) .nil))))),.cons (Wk.refl _) (.cons (Wk.refl _) (.cons (Wk.refl _) (.cons (Wk.tok _ _ _) (.cons (Wk.tok _ _ _) .nil))))⟩
theorem Bj (g:dr): ∀ (f:Nat) (done:List Bool) (n:Nat),(mj g f done n).length≤f
 | 0,_,_=>by rw[mj];exact Nat.le_refl _
 | f + 1,done,n=>by
  rw[mj]
  split
  ·split
   ·exact Nat.zero_le _
   ·have:=Bj g f
    rw[List.length_cons];exact Nat.succ_le_succ (this _ _)
  ·exact Nat.zero_le _
theorem rW (g:dr):(iw g).length≤g.length:=by
 unfold iw j5;rw[List.length_map];exact Bj g _ _ _
theorem Bi {g:dr} (hg:nr g) {l:List Int} (h:l∈iw g):l.length≤g.length∧ ∀ x∈l,0≤x∧x < (g.length:Int):=by
 unfold iw at h;obtain ⟨ks,hk,rfl⟩:=List.mem_map.1 h;have hp:=mJ hg;have h1:ks.Sublist (j5 g).flatten:=List.sublist_flatten_of_mem hk;have h2:=h1.length_le;rw[hp.length_eq,List.length_range] at h2;refine ⟨by rw[List.length_map];exact h2,fun x hx=>?_⟩;obtain ⟨k,hkm,rfl⟩:=List.mem_map.1 hx;have:=List.mem_range.1 (hp.mem_iff.1 (h1.subset hkm));exact ⟨by omega,by omega⟩
def iP (an:List cO):List jP:=(iw ((List.range (gM an.length (Kn an)).length).map (y7 an (gM an.length (Kn an))))).map (FR an (k8 (fun x=>x.pr && !x.lt) an) (gM an.length (Kn an)))
theorem Fs {p q:Prop} (k:q) (h:q→p:=by intro hq;first | exact aE.sT (some 100) rfl [9,19] [22,23,24,25] ai mixed hq):p:=h k
theorem xo (an:List cO) (ti:Tok) (hts:ti.s=8) (hl:an.length≤500) (hln: ∀ x∈an,x.ln.length≤500) (hlr: ∀ x∈an, ∀ y∈x.ln,0≤y∧y < (an.length:Int)):
  af Tryz.prog 147 [.ms ti] [.row ti (an.map cO.pv)] (fun y Γ'=>y=.sl 5 ((iP an).map jP.pv) none∧Γ'= [.row ti (an.map cO.pv)]):=by
 refine af.ah ai Tryz.func147 rfl rfl (n:=165) rfl rfl ?_
 conv=>whnf
 skip
 refine aq.go (x8 an ti hts 193 (fun x=>x.pr && !x.lt) Ed (by omega)) (aY.refl _) ?_;rintro _ _ ⟨rfl,rfl⟩;generalize hgE:k8 (fun x=>x.pr && !x.lt) an=gE
 conv=>whnf
 repeat' (first|(((refine eE.map fun _=>?_));conv=>whnf)|(refine zX (fun hc=>?_) (fun hc=>?_)<;>(try simp only[SY] at hc)<;>omega))
 refine ax.jy (au.nil 1 3 _) ?_;refine ax.over [4,5,6,29,30,31,32,33,34,35,36,37,38,39,40] (fun x:Nat×List Int×Tok=> [(4,.sl 1 (x.2.1.map (PV.int .i64)) (some x.2.2)),(29,.int .i64 x.1)]) (fun x=> [.tok x.2.2,.row ti (an.map cO.pv)]) (fun x=>x.1≤an.length∧x.2.2.e=3∧x.2.1=gM x.1 (Kn an)) (fun x=>an.length - x.1) (0, [],aC 1 3) ⟨Nat.zero_le _,rfl,rfl⟩ (by repeat' (first|exact trivial|refine And.intro ?_ ?_|exact Wk.aC _ _|exact Wk.refl _)) ?_;rintro ⟨i,own,tk⟩ ⟨hi,hte,hown⟩;dsimp only at hi hte hown ⊢;have hol:own.length≤i:=by rw[hown];exact ga _ _
 rcases Nat.lt_or_ge i an.length with hlt | hge
 ·have hsn:=oO i (Kn an)
  have her:Kn an i=(an[i].pr && !an[i].lt):=by unfold Kn;rw[List.getElem?_eq_getElem hlt]
  rw[←hown,her] at hsn;have hea:=Ed an[i]
  cases hc2:(an[i].pr && !an[i].lt) with
  | true=>
   rw[hc2] at hea;rw[if_pos hc2] at hsn
   conv=>whnf
   repeat' (first|((first|refine aM ?_|refine pC (hea) wR ?_|refine aF ?_|intro _|refine zG ?_);conv=>whnf)|(refine zX (fun hc=>?_) (fun hc=>?_)<;>(try simp only[SY] at hc)<;>first|omega|(conv=>whnf)))
   rename Tok=>t5
   exact av (i + 1,own++ [(i:Int)],t5) ⟨by show i + 1≤_;omega,by assumption,hsn.symm⟩ (by show an.length - (i + 1) < an.length - i;omega) wA
  | false=>
   rw[hc2] at hea;rw[if_neg (by rw[hc2];decide),List.append_nil] at hsn
   conv=>whnf
   repeat' (first|((first|refine aM ?_|refine pC (hea) wR ?_|refine aF ?_|intro _|refine zG ?_);conv=>whnf)|(refine zX (fun hc=>?_) (fun hc=>?_)<;>(try simp only[SY] at hc)<;>first|omega|(conv=>whnf)))
   exact av (i + 1,own,tk) ⟨by show i + 1≤_;omega,hte,hsn.symm⟩ (by show an.length - (i + 1) < an.length - i;omega) wA
 ·obtain rfl:i=an.length:=by omega
  have hor: ∀ c∈own,0≤c∧c < (an.length:Int):=fun c hc=>by
   rw[hown] at hc;have:=kS.1 hc;exact ⟨this.1,this.2.1⟩
  conv=>whnf
  repeat' (first|((first|refine kH.row (by omega) (by omega) (by omega) (by show _ * 24≤_;omega) rfl fun tr hre hrs=>?_|refine aM ?_|intro _);conv=>whnf)|(refine zX (fun hc=>?_) (fun hc=>?_)<;>(try simp only[SY] at hc)<;>first|omega|(conv=>whnf)))
  rw[Int.toNat_natCast,HX (y7 an own)];refine ax.over [8,9,10,11,46,47,48,49,50,51,52,53,54,55,56,57,58,59,60,61,62,63,64,65,66,67,68,69,70,71,72,73,74,75,76] (fun a:Nat=> [(46,.int .i64 a)]) (fun a=> [.row tr ((En (y7 an own) own.length a).map l7),.tok tk,.row ti (an.map cO.pv)]) (fun a=>a≤own.length) (fun a=>own.length - a) 0 (Nat.zero_le _) wA ?_;intro a ha;have hil:=tO (y7 an own) own.length a;rcases Nat.lt_or_ge a own.length with halt | hage
  ·have hset:=Kw (f:=y7 an own) (n:=own.length) (a:=a)
   have hia:(En (y7 an own) own.length a)[a]?=some none:=by rw[List.getElem?_eq_getElem (by omega),tN,if_neg (by omega)]
   have hoa:=hor _ (List.getElem_mem halt);generalize hW:En (y7 an own) own.length a=Ws at *;have haw:a < Ws.length:=by omega
   have hga:Ws[a]=none:=by rw[List.getElem?_eq_getElem haw] at hia;exact Option.some.inj hia
   have hia2:own[a].toNat < an.length:=by omega
   have hin:y7 an own a=gM own.length (fun b=>an[own[a].toNat].ln.contains (own.getD b 0)):=by
    unfold y7;rw[List.getD_eq_getElem?_getD (l:=own) (i:=a),List.getElem?_eq_getElem halt,Option.getD_some,List.getD_eq_getElem?_getD (l:=an),List.getElem?_eq_getElem hia2,Option.getD_some]
   conv=>whnf
   repeat' (first|((first|refine aM ?_|intro _);conv=>whnf)|(refine zX (fun hc=>?_) (fun hc=>?_)<;>(try simp only[SY] at hc)<;>first|omega|(conv=>whnf)))
   refine ax.jy (au.trans (au.nil 1 3 _) (au.Gt (t:=tr) (es':=(Ws.set a (some (([]:List Int),some (aC 1 3)))).map l7) (E4 (fun _ _=>Wk.refl _) haw (by rw[hga];exact Wk.aC 1 3)))) ?_;refine ax.over [10,11,53,54,55,56,57,58,59,60,61,62,63,64,65,66,67,68,69,70,71,72,73,74,75] (fun x:Nat×List Int×Tok=> [(53,.int .i64 x.1)]) (fun x=> [.row tr ((Ws.set a (some (x.2.1,some x.2.2))).map l7),.tok x.2.2,.tok tk,.row ti (an.map cO.pv)]) (fun x=>x.1≤own.length∧x.2.2.e=3∧x.2.1=gM x.1 (fun b=>an[own[a].toNat].ln.contains (own.getD b 0))) (fun x=>own.length - x.1) (0, [],aC 1 3) ⟨Nat.zero_le _,rfl,rfl⟩ wA ?_;rintro ⟨b,l,tkl⟩ ⟨hb1,hte2,hl2⟩;dsimp only at hb1 hte2 hl2 ⊢;have hll:l.length≤b:=by rw[hl2];exact ga _ _
   have hsl:(Ws.set a (some (l,some tkl))).length=own.length:=by rw[List.length_set];exact hil
   rcases Nat.lt_or_ge b own.length with hblt | hbge
   ·have hsn:=oO b (fun b=>an[own[a].toNat].ln.contains (own.getD b 0))
    rw[←hl2,List.getD_eq_getElem?_getD,List.getElem?_eq_getElem hblt,Option.getD_some] at hsn;have hin0:b=b:=rfl
    cases hc2:an[own[a].toNat].ln.contains own[b] with
    | true=>
     rw[if_pos hc2] at hsn;have hcc:=fA an[own[a].toNat].ln own[b];rw[hc2] at hcc
     conv=>whnf
     repeat' (first|((first|refine aM ?_|refine pC (hcc) wR ?_|refine aF ?_|intro _|refine zG ?_);conv=>whnf)|(refine zX (fun hc=>?_) (fun hc=>?_)<;>(try simp only[SY] at hc)<;>first|omega|(conv=>whnf)))
     rw[List.getElem_set_self]
     conv=>whnf
     repeat' (first|((first|refine aM ?_|refine aF ?_|intro _);conv=>whnf)|(refine zX (fun hc=>?_) (fun hc=>?_)<;>(try simp only[SY] at hc)<;>omega))
     rename Tok=>t5
     rw[List.set_set];exact av (b + 1,l++ [(b:Int)],t5) ⟨by show b + 1≤_;omega,by assumption,hsn.symm⟩ (by show own.length - (b + 1) < own.length - b;omega) wA
    | false=>
     rw[if_neg (by rw[hc2];decide),List.append_nil] at hsn;have hcc:=fA an[own[a].toNat].ln own[b];rw[hc2] at hcc
     conv=>whnf
     repeat' (first|((first|refine aM ?_|refine pC (hcc) wR ?_|refine aF ?_|refine zG ?_);conv=>whnf)|(refine zX (fun hc=>?_) (fun hc=>?_)<;>(try simp only[SY] at hc)<;>first|omega|(conv=>whnf)))
     exact av (b + 1,l,tkl) ⟨by show b + 1≤_;omega,hte2,hsn.symm⟩ (by show own.length - (b + 1) < own.length - b;omega) wA
   ·obtain rfl:b=own.length:=by omega
    rw[←hin] at hl2
    conv=>whnf
    repeat' (first|((refine aM ?_);conv=>whnf)|(refine zX (fun hc=>?_) (fun hc=>?_)<;>(try simp only[SY] at hc)<;>first|omega|(conv=>whnf)))
    exact KH (a + 1) (by show a + 1≤_;omega) (by show own.length - (a + 1) < own.length - a;omega) (au.Gt (t:=tr) (es':=(En (y7 an own) own.length (a + 1)).map l7) (by rw[←hset, ←hl2];have:=E4 (l:=Ws.set a (some (l,some tkl))) (x:=some (l,none)) (fun _ _=>Wk.refl _) (a:=a) (by omega) (by rw[List.getElem_set_self];exact Wk.tok _ _ _);rwa [List.set_set] at this)) wA
  ·obtain rfl:a=own.length:=by omega
   rw[HW];have hgl:((List.range own.length).map (y7 an own)).length=own.length:=by simp
   have hgo:nr ((List.range own.length).map (y7 an own)):=fun l hl x hx=>by
    obtain ⟨a,ha,rfl⟩:=List.mem_map.1 hl;have:=kS.1 hx;rw[hgl];exact ⟨this.1,this.2.1⟩
   have hgs:gp ((List.range own.length).map (y7 an own))≤500 * 500:=by
    have:=ua ((List.range own.length).map (y7 an own)) own.length fun l hl=>by
     obtain ⟨a,ha,rfl⟩:=List.mem_map.1 hl;exact ga _ _
    rw[hgl] at this;exact Nat.le_trans this (Nat.mul_le_mul (by omega) (by omega))
   have hgm:=fun l h=>Bi hgo (l:=l) h;have hgn:=rW ((List.range own.length).map (y7 an own));rw[hgl] at hgm hgn
   conv=>whnf
   repeat' ((refine zX (fun hc=>?_) (fun hc=>?_)<;>(try simp only[SY] at hc)<;>first|omega|(conv=>whnf)))
   refine aq.IT tr (((List.range own.length).map (y7 an own)).map jN) (.cons (qz.ms' hrs) .nil) (C3 _ hgo (by omega) (by omega)) ?_;generalize hGR:iw ((List.range own.length).map (y7 an own))=GR at *
   conv=>whnf
   repeat' (first|((first|refine aM ?_|intro _);conv=>whnf)|(refine zX (fun hc=>?_) (fun hc=>?_)<;>(try simp only[SY] at hc)<;>omega))
   have hgEo:nr gE:=fun l hl x hx=>by
    rw[←hgE] at hl ⊢;obtain ⟨z,hz,rfl⟩:=List.mem_map.1 hl;have:(k8 (fun x=>x.pr && !x.lt) an).length=an.length:=by simp[k8]
    rw[this]
    split at hx
    ·exact hlr z hz x hx
    ·cases hx
   have hgEl:gE.length=an.length:=by rw[←hgE];simp[k8]
   have hgEs:gp gE≤500 * 500:=by
    have:=ua gE 500 fun l hl=>by
     rw[←hgE] at hl;obtain ⟨z,hz,rfl⟩:=List.mem_map.1 hl
     split
     ·exact hln z hz
     ·exact Nat.zero_le _
    exact Nat.le_trans this (Nat.mul_le_mul (by omega) (Nat.le_refl _))
   refine ax.jy (au.nil 5 252 _) ?_;refine ax.over [14,16,17,19,20,21,22,24,84,85,86,87,88,89,90,91,92,93,94,95,96,97,98,99,100,101,102,103,104,105,106,107,108,109,110,111,112,113,114,115,116,117,118,119,120,121,122,123,124,125,126,127,128,129,130,131,132,133,134,135,136,137,138,139,140,141,142,143,144,145,146,147,148,149,150,151,152,153,154,155,156,157,158,159,160,161,162,163] (fun x:Nat×List jP×Tok=> [(14,.sl 5 (x.2.1.map jP.pv) (some x.2.2)),(84,.int .i64 x.1)]) (fun x=> [.tok x.2.2,.row ti (an.map cO.pv)]) (fun x=>x.1≤GR.length∧x.2.2.e=252∧x.2.1=(GR.take x.1).map (FR an gE own)) (fun x=>GR.length - x.1) (0, [],aC 5 252) ⟨Nat.zero_le _,rfl,rfl⟩ (by repeat' (first|exact trivial|refine And.intro ?_ ?_|exact Wk.aC _ _|exact Wk.refl _)) ?_;rintro ⟨i,fs,tf⟩ ⟨hi,htf,hfs⟩;dsimp only at hi htf hfs ⊢;have hfl:fs.length=i:=by rw[hfs,List.length_map,List.length_take];omega
   rcases Nat.lt_or_ge i GR.length with hig | hig
   ·obtain ⟨hgl1,hgr⟩:=hgm _ (List.getElem_mem hig)
    have hfsn:fs++ [FR an gE own GR[i]]=(GR.take (i + 1)).map (FR an gE own):=by rw[List.take_succ_eq_append_getElem hig,List.map_append,hfs];rfl
    conv=>whnf
    repeat' (first|((first|refine aM ?_|refine aF ?_|intro _);conv=>whnf)|(refine zX (fun hc=>?_) (fun hc=>?_)<;>(try simp only[SY] at hc)<;>first|omega|(conv=>whnf)))
    rename Nat=>b17
    generalize hgrp:GR[i]=grp at *;refine ax.jy (au.trans (au.nil 1 3 _) (au.trans (au.nil 4 26 _) (au.box (b:=b17) (cs:= [.int .i64 0,.int .i64 9,.int .i64 0,.nil,.nil]) (cs':= [.int .i64 0,.int .i64 9,.int .i64 0,.sl 1 (([]:List Int).map (PV.int .i64)) (some (aC 1 3)),.sl 4 (([]:List aa).map aa.pv) (some (aC 4 26))]) wA))) ?_
    refine ax.over [19,20,21,22,24,92,93,94,95,96,97,98,99,100,101,102,103,104,105,106,107,108,109,110,111,112,113,114,115,116,117,118,119,120,121,122,123,124,125,126,127,128,129,130,131,132,133,134,135,136,137,138,139,140,141,142,143,144,145,146,147,148,149,150,151,152,153,154,155,156,157,158] (fun x:Nat×Int×(List Int×Tok)×(List aa×Tok)=> [(92,.int .i64 x.1)]) (fun x=> [.box b17 [.int .i64 x.2.1,.int .i64 9,.int .i64 0,.sl 1 (x.2.2.1.1.map (PV.int .i64)) (some x.2.2.1.2),.sl 4 (x.2.2.2.1.map aa.pv) (some x.2.2.2.2)],.tok x.2.2.1.2,.tok x.2.2.2.2,.tok tf,.row ti (an.map cO.pv)])
     (fun x=>x.1≤grp.length∧x.2.2.1.2.e=3∧x.2.2.2.2.e=26∧x.2.1=JY an gE own (grp.take x.1) 0∧x.2.2.1.1=(grp.take x.1).map (fun a=>(an.getD (own.getD a.toNat 0).toNat jR).v)∧x.2.2.2.1=(grp.take x.1).map (fun a=>(an.getD (own.getD a.toNat 0).toNat jR).e)) (fun x=>grp.length - x.1) (0,0,([],aC 1 3),([],aC 4 26)) ⟨Nat.zero_le _,rfl,rfl,rfl,rfl,rfl⟩ wA ?_
    rintro ⟨j,lv,⟨vs,tv⟩,⟨ts,tm⟩⟩ ⟨hj,htv,htm,hlv,hvs,hts2⟩;dsimp only at hj htv htm hlv hvs hts2 ⊢;have hvl:vs.length=j:=by rw[hvs,List.length_map,List.length_take];omega
    have htl:ts.length=j:=by rw[hts2,List.length_map,List.length_take];omega
    rcases Nat.lt_or_ge j grp.length with hjl | hjl
    ·have hga:=hgr _ (List.getElem_mem hjl)
     have hac:grp[j].toNat < own.length:=by omega
     have hka:=hor _ (List.getElem_mem hac);have hod:own.getD grp[j].toNat 0=own[grp[j].toNat]:=by rw[List.getD_eq_getElem?_getD,List.getElem?_eq_getElem hac];rfl
     have hkc:own[grp[j].toNat].toNat < an.length:=by omega
     have hid:an.getD own[grp[j].toNat].toNat jR=an[own[grp[j].toNat].toNat]:=by rw[List.getD_eq_getElem?_getD,List.getElem?_eq_getElem hkc];rfl
     have hvsn:vs++ [an[own[grp[j].toNat].toNat].v]=(grp.take (j + 1)).map (fun a=>(an.getD (own.getD a.toNat 0).toNat jR).v):=by rw[List.take_succ_eq_append_getElem hjl,List.map_append, ←hvs,List.map_cons,List.map_nil,hod,hid]
     have htsn:ts++ [an[own[grp[j].toNat].toNat].e]=(grp.take (j + 1)).map (fun a=>(an.getD (own.getD a.toNat 0).toNat jR).e):=by rw[List.take_succ_eq_append_getElem hjl,List.map_append, ←hts2,List.map_cons,List.map_nil,hod,hid]
     have hlsn:JY an gE own (grp.take (j + 1)) 0=Cm an (cH gE [own[grp[j].toNat]]) lv:=by rw[List.take_succ_eq_append_getElem hjl,By, ←hlv,hod]
     have hRin:E8 gE [own[grp[j].toNat]]:=fun x hx=>by rw[List.mem_singleton.1 hx,hgEl];exact hka
     have hRr: ∀ c∈cH gE [own[grp[j].toNat]],0≤c∧c < (an.length:Int):=fun c hc=>by
      have:=((ij hgEo hRin c).1 hc).Kx hgEo hRin;rwa [hgEl] at this
     have hRl:=oR gE [own[grp[j].toNat]]
     conv=>whnf
     repeat' (first|((first|((apply zZ);first|exact tB|((conv=>whnf);(repeat ((refine aH ?_);conv=>whnf));exact pZ))|refine aM ?_|refine pC (wI gE [own[grp[j].toNat]] hgEo hRin (by omega) (by simp;omega)) (by ((repeat' (first|exact aY.nil|apply aY.cons|exact Wk.refl _|exact Wk.int OA|exact Wk.tt rfl|exact Wk.ff rfl|exact Wk.eg rfl|exact Wk.tok _ _ _));first|done|fail)) ?_|refine aF ?_|refine Fs ?_|intro _);conv=>whnf)|(refine zX (fun hc=>?_) (fun hc=>?_)<;>(try simp only[SY] at hc)<;>first|omega|(conv=>whnf)))
     rename_i tv2 htv2 tm2 htm2 _ _ _;generalize cH gE [own[grp[j].toNat]]=R at *;generalize hvs3:vs++ [an[own[grp[j].toNat].toNat].v]=vs3 at *;generalize hts3:ts++ [an[own[grp[j].toNat].toNat].e]=ts3 at *;refine ax.over [24,133,134,135,136,137,138,139,140,141,142,143,144,145,146,147,148,149,150,151,152,153,154,155,156,157] (fun m:Nat=> [(133,.int .i64 m)]) (fun m=> [.tok tv2,.tok tm2,.tok tf,.box b17 [.int .i64 (Cm an (R.take m) lv),.int .i64 9,.int .i64 0,.sl 1 (vs3.map (PV.int .i64)) (some tv2),.sl 4 (ts3.map aa.pv) (some tm2)],.row ti (an.map cO.pv)]) (fun m=>m≤R.length) (fun m=>R.length - m) 0 (Nat.zero_le _) wA (hp:=⟨(List.perm_append_singleton _ _).symm⟩) (Γ1:= [_]) ?_;intro m hm;rcases Nat.lt_or_ge m R.length with hml | hml
     ·have hcr:=hRr _ (List.getElem_mem hml)
      have hcl:R[m].toNat < an.length:=by omega
      have hid2:an.getD R[m].toNat jR=an[R[m].toNat]:=by rw[List.getD_eq_getElem?_getD,List.getElem?_eq_getElem hcl];rfl
      have hls:=Bz an R[m] (R.take m) lv;rw[←List.take_succ_eq_append_getElem hml,hid2] at hls;by_cases hcd:an[R[m].toNat].pr=false∧an[R[m].toNat].lt=false
      ·rw[if_pos hcd] at hls
       conv=>whnf
       repeat' (first|((first|(((apply zY;intro hg));first|exact tB|((conv=>whnf);(repeat ((refine aH ?_);conv=>whnf));exact pZ))|refine aM ?_|refine aF ?_|refine zG ?_);conv=>whnf)|(refine zX (fun hc=>?_) (fun hc=>?_)<;>(try simp only[SY] at hc)<;>first|omega|(conv=>whnf)))
       ·have hmx:Cm an (R.take (m + 1)) lv=if Cm an (R.take m) lv < R[m] + 1 then R[m] + 1 else Cm an (R.take m) lv:=by
         rw[hls]
         split<;>omega
        rw[←hmx];exact av (m + 1) (by show m + 1≤_;omega) (by show R.length - (m + 1) < R.length - m;omega) wA
       ·rcases (by assumption:an[R[m].toNat].pr=true∨an[R[m].toNat].lt=true) with h | h
        ·rw[hcd.1] at h;cases h
        ·rw[hcd.2] at h;cases h
      ·rw[if_neg hcd] at hls
       conv=>whnf
       repeat' (first|((first|(((apply zY;intro hg));first|exact tB|((conv=>whnf);(repeat ((refine aH ?_);conv=>whnf));exact pZ))|refine aM ?_|refine aF ?_|refine zG ?_);conv=>whnf)|(refine zX (fun hc=>?_) (fun hc=>?_)<;>(try simp only[SY] at hc)<;>first|omega|(conv=>whnf)))
       ·exact absurd (by assumption) hcd
       ·rw[←hls]
        exact av (m + 1) (by show m + 1≤_;omega) (by show R.length - (m + 1) < R.length - m;omega) wA
     ·obtain rfl:m=R.length:=by omega
      rw[List.take_length]
      conv=>whnf
      repeat' (first|((refine aM ?_);conv=>whnf)|(refine zX (fun hc=>?_) (fun hc=>?_)<;>(try simp only[SY] at hc)<;>first|omega|(conv=>whnf)))
      exact av (j + 1,Cm an R lv,(vs3,tv2),(ts3,tm2)) ⟨by show j + 1≤_;omega,htv2,htm2,hlsn.symm,hvsn,htsn⟩ (by show grp.length - (j + 1) < grp.length - j;omega) wA
    ·obtain rfl:j=grp.length:=by omega
     rw[List.take_length] at hlv hvs hts2;have hfx:FR an gE own grp=⟨lv,vs,ts⟩:=by rw[hlv,hvs,hts2];rfl
     rw[hfx] at hfsn
     conv=>whnf
     repeat' (first|((first|refine aM ?_|refine aF ?_|intro _);conv=>whnf)|(refine zX (fun hc=>?_) (fun hc=>?_)<;>(try simp only[SY] at hc)<;>first|omega|(conv=>whnf)))
     rename Tok=>t5
     exact av (i + 1,fs++ [⟨lv,vs,ts⟩],t5) ⟨by show i + 1≤_;omega,by assumption,hfsn⟩ (by show GR.length - (i + 1) < GR.length - i;omega) wA
   ·obtain rfl:i=GR.length:=by omega
    conv=>whnf
    repeat' ((refine zX (fun hc=>?_) (fun hc=>?_)<;>(try simp only[SY] at hc)<;>first|omega|(conv=>whnf)))
    exact ak.gen (y:=.sl 5 (fs.map jP.pv) none) (Γ':= [.row ti (an.map cO.pv)]) (Wk.tok _ _ _) ⟨by rw[hfs,List.take_length];unfold iP;rw[←hown,hgE,hGR],rfl⟩
def vQ (an:List cO) (fs:List jP) (k:Nat):List aa:=if (an.getD k jR).lt=true then [nY (an.getD k jR).v (an.getD k jR).e] else if (an.getD k jR).pr=true then [] else nV (an.getD k jR).v (an.getD k jR).e::cw fs ((k:Int) + 1)
theorem oE (fs:List jP) (lv:Int):(cw fs lv).length≤fs.length:=by
 unfold cw;rw[List.length_map];exact List.length_filter_le _ _
theorem Jw (bc:Nat) (tk:Tok) (l0:List aa) (an:List cO) (ti:Tok) (h1:tk.e=26) (h2:tk.s=4) (hl0:l0.length≤10000) (hts:ti.s=8) (hl:an.length≤500) (hln: ∀ x∈an,x.ln.length≤500) (hlr: ∀ x∈an, ∀ y∈x.ln,0≤y∧y < (an.length:Int)) (hfl:(iP an).length≤500):
  af Tryz.prog 92 [.ptr bc 0,.ms ti] (.row ti (an.map cO.pv)::GN bc tk l0) (fun y Γ'=> ∃ tk':Tok,tk'.e=26∧tk'.s=4∧y=.bp []∧Γ'=.row ti (an.map cO.pv)::GN bc tk' (l0++(cw (iP an) 0++(List.range an.length).flatMap (vQ an (iP an))))):=by
 refine af.ah ai Tryz.func92 rfl rfl (n:=44) rfl rfl ?_
 conv=>whnf
 skip
 refine aq.go (xo an ti hts hl hln hlr) (aY.refl _) ?_;rintro _ _ ⟨rfl,rfl⟩;generalize iP an=fs at *
 conv=>whnf
 skip
 refine aq.go (yT bc tk l0 fs 0 h1 h2 (by omega)) (aY.refl _) ?_;rintro _ _ ⟨tk1,k1,k2,rfl,rfl⟩
 conv=>whnf
 repeat' (first|(((refine eE.map fun _=>?_));conv=>whnf)|(refine zX (fun hc=>?_) (fun hc=>?_)<;>(try simp only[SY] at hc)<;>omega))
 have hf0:=oE fs 0;refine ax.over [5,6,14,15,16,17,18,19,20,21,22,23,24,25,26,27,28,29,30,31,32,33,34,35,36,37,38,39,40,41,42,43] (fun x:Nat×Tok×List aa=> [(14,.int .i64 x.1)]) (fun x=> [.row ti (an.map cO.pv),.box bc [.ms x.2.1],.row x.2.1 (x.2.2.map aa.pv)]) (fun x=>x.1≤an.length∧x.2.1.e=26∧x.2.1.s=4∧x.2.2=l0++(cw fs 0++(List.range x.1).flatMap (vQ an fs))∧x.2.2.length≤20000 + x.1 * 501) (fun x=>an.length - x.1) (0,tk1,l0++cw fs 0) ⟨Nat.zero_le _,k1,k2,by simp,by dsimp only;rw[List.length_append];omega⟩ wA ?_;rintro ⟨i,tk,l⟩ ⟨hi,h1,h2,hls,hll⟩;dsimp only at hi h1 h2 hls hll ⊢;rcases Nat.lt_or_ge i an.length with hlt | hge
 ·have hst:l++vQ an fs i=l0++(cw fs 0++(List.range (i + 1)).flatMap (vQ an fs)):=by rw[hls,List.range_succ,List.flatMap_append,List.append_assoc,List.append_assoc];simp
  have hid:an.getD i jR=an[i]:=by rw[List.getD_eq_getElem?_getD,List.getElem?_eq_getElem hlt];rfl
  rw[vQ,hid] at hst;have hfi:=oE fs ((i:Int) + 1)
  conv=>whnf
  repeat' (first|((first|refine aM ?_|refine aF ?_|intro _|refine zG ?_);conv=>whnf)|(refine zX (fun hc=>?_) (fun hc=>?_)<;>(try simp only[SY] at hc)<;>first|omega|(conv=>whnf)))
  ·rw[if_pos (by assumption)] at hst
   refine aq.go (EY bc tk l an[i].v an[i].e h1 h2 (by omega)) (aY.refl _) ?_;rintro _ _ ⟨tk2,e1,e2,rfl,rfl⟩
   conv=>whnf
   repeat' (first|((refine aM ?_);conv=>whnf)|(refine zX (fun hc=>?_) (fun hc=>?_)<;>(try simp only[SY] at hc)<;>omega))
   exact av (i + 1,tk2,l++ [nY an[i].v an[i].e]) ⟨by show i + 1≤_;omega,e1,e2,hst,by show (l++ [_]).length≤20000 + (i + 1) * 501;rw[List.length_append,List.length_singleton];omega⟩ (by show an.length - (i + 1) < an.length - i;omega) wA
  ·rw[if_neg (by simp_all),if_neg (by simp_all)] at hst
   refine aq.go (zi bc tk l an[i].v an[i].e h1 h2 (by omega)) (aY.refl _) ?_;rintro _ _ ⟨tk2,e1,e2,rfl,rfl⟩
   conv=>whnf
   repeat' (first|((refine aM ?_);conv=>whnf)|(refine zX (fun hc=>?_) (fun hc=>?_)<;>(try simp only[SY] at hc)<;>omega))
   refine aq.go (yT bc tk2 (l++ [nV an[i].v an[i].e]) fs ((i:Int) + 1) e1 e2 (by rw[List.length_append,List.length_singleton];omega)) (aY.refl _) ?_;rintro _ _ ⟨tk3,e3,e4,rfl,rfl⟩
   conv=>whnf
   repeat' (first|((refine aM ?_);conv=>whnf)|(refine zX (fun hc=>?_) (fun hc=>?_)<;>(try simp only[SY] at hc)<;>omega))
   exact av (i + 1,tk3,l++ [nV an[i].v an[i].e]++cw fs ((i:Int) + 1)) ⟨by show i + 1≤_;omega,e3,e4,by show l++ [_]++_=_;rw[←hst,List.append_assoc];rfl,by show (l++ [_]++_).length≤20000 + (i + 1) * 501;rw[List.length_append,List.length_append,List.length_singleton];omega⟩ (by show an.length - (i + 1) < an.length - i;omega) wA
  ·rw[if_neg (by simp_all),if_pos (by simp_all),List.append_nil] at hst
   exact av (i + 1,tk,l) ⟨by show i + 1≤_;omega,h1,h2,hst,by show l.length≤20000 + (i + 1) * 501;omega⟩ (by show an.length - (i + 1) < an.length - i;omega) wA
 ·obtain rfl:i=an.length:=by omega
  rw[←hls]
  conv=>whnf
  repeat' ((refine zX (fun hc=>?_) (fun hc=>?_)<;>(try simp only[SY] at hc)<;>first|omega|(conv=>whnf)))
  exact ak.gen (y:=.bp []) (Γ':=.row ti (an.map cO.pv)::GN bc tk l) (Wk.refl _) ⟨tk,h1,h2,rfl,rfl⟩
mutual
def aa.ct (o:Int):aa→Nat
 | .mk op _ _ t=>(if op=o then 1 else 0) + aa.cg o t
def aa.cg (o:Int):List aa→Nat
 | []=>0
 | x::xs=>aa.ct o x + aa.cg o xs
end
theorem aa.mC (o:Int) (t:aa):t.ct o=(if t.op=o then 1 else 0) + aa.cg o t.t:=by cases t;rw[aa.ct];rfl
theorem aa.fB (o op n:Int) (v:List Int) (l:List aa):(aa.mk op n v l).ct o=(if op=o then 1 else 0) + aa.cg o l:=by rw[aa.ct]
theorem aa.oB (o:Int): ∀ l m:List aa,aa.cg o (l++m)=aa.cg o l + aa.cg o m
 | [],m=>by simp[aa.cg]
 | x::l,m=>by rw[List.cons_append,aa.cg,aa.cg,aa.oB o l m];omega
theorem aa.Ki (o:Int) (t:aa):t.ct o≤t.aR:=by
 induction t using aa.ind with
 | h t ih=>
  have key: ∀ l:List aa,(∀ y∈l,y.ct o≤y.aR)→aa.cg o l≤aa.aD l:=by
   intro l
   induction l with
   | nil=>intro _;simp[aa.cg]
   | cons x l ihl=>
    intro h;rw[aa.cg,aa.aD];have:=h x (by simp);have:=ihl fun y hy=>h y (by simp[hy]);omega
  rw[aa.mC,t.bu];have:=key t.t ih
  split<;>omega
theorem fK (o:Int): ∀ l:List aa,aa.cg o l=(l.map (aa.ct o)).sum
 | []=>by rw[aa.cg];rfl
 | x::l=>by rw[aa.cg,fK o l];rfl
theorem sum_append (a b:List Nat):(a++b).sum=a.sum + b.sum:=List.sum_append
theorem qX {l:List Nat} {f:Nat→Int} (hf: ∀ a b,f a=f b→a=b) (h:l.Nodup):(l.map f).Nodup:=List.pairwise_map.2 (h.imp fun hab e=>hab (hf _ _ e))
theorem fT (c:jP→Nat): ∀ (L:List Int) (fs:List jP),L.Nodup→(∀ f∈fs,f.lv∈L)→(L.map fun lv=>((fs.filter fun f=>f.lv == lv).map c).sum).sum=(fs.map c).sum
 | [],fs,_,h=>by
  cases fs with
  | nil=>rfl
  | cons f fs=>exact absurd (h f (List.mem_cons_self ..)) (by simp)
 | lv::L,fs,hn,h=>by
  rw[List.nodup_cons] at hn;rw[List.map_cons,List.sum_cons]
  have h1:=fT c L (fs.filter fun f=>!(f.lv == lv)) hn.2 fun f hf=>by
   obtain ⟨q1,q2⟩:=List.mem_filter.1 hf;rcases List.mem_cons.1 (h f q1) with e | e
   ·rw[e] at q2;simp at q2
   ·exact e
  have h2:(L.map fun lv'=>(((fs.filter fun f=>!(f.lv == lv)).filter fun f=>f.lv == lv').map c).sum)=L.map fun lv'=>((fs.filter fun f=>f.lv == lv').map c).sum:=by
   refine List.map_congr_left fun lv' hl=>?_;rw[List.filter_filter];congr 2;refine List.filter_congr fun f _=>?_;by_cases e:f.lv=lv'
   ·have: ¬f.lv=lv:=fun e2=>hn.1 (by rw[←e2,e];exact hl)
    simp[e,show ¬lv'=lv from fun h=>this (e.trans h)]
   ·simp[e]
  rw[h2] at h1;rw[h1, ←sum_append, ←List.map_append];exact ((List.filter_append_perm (fun f:jP=>f.lv == lv) fs).map c).sum_nat
theorem Ez (pr lt:List Bool) (n:Nat): ∀ (l:List Int) (m:Int),(∀ j∈l,0≤j∧j < n)→BB pr lt l m=m∨ ∃ k,k < n∧pr.getD k false=false∧lt.getD k false=false∧BB pr lt l m=(k:Int) + 1
 | [],m,_=>.inl rfl
 | j::l,m,h=>by
  rw[BB];have hj:=h j (List.mem_cons_self ..);have ih:=Ez pr lt n l (if pr.getD j.toNat false=false∧lt.getD j.toNat false=false then max m (j + 1) else m) fun i hi=>h i (List.mem_cons_of_mem _ hi);rcases ih with e | e
  ·rw[e]
   split
   ·rename_i hc
    by_cases hm:m≤j + 1
    ·right
     exact ⟨j.toNat,by omega,hc.1,hc.2,by rw[Int.max_eq_right hm];omega⟩
    ·left
     rw[Int.max_eq_left (by omega)]
   ·exact .inl rfl
  ·exact .inr e
theorem Ey {g:dr} (hg:nr g) (pr lt:List Bool): ∀ (l:List Nat) (m:Int),(∀ k∈l,k < g.length)→BA g pr lt l m=m∨ ∃ k,k < g.length∧pr.getD k false=false∧lt.getD k false=false∧BA g pr lt l m=(k:Int) + 1
 | [],m,_=>.inl rfl
 | k::l,m,h=>by
  rw[BA];have hk:=h k (List.mem_cons_self ..);have hr: ∀ j∈cH g [(k:Int)],0≤j∧j < g.length:=fun j hj=>((ij hg (fun x hx=>by rw[List.mem_singleton.1 hx];omega) j).1 hj).Kx hg fun x hx=>by rw[List.mem_singleton.1 hx];omega
  rcases Ey hg pr lt l (BB pr lt (cH g [(k:Int)]) m) fun i hi=>h i (List.mem_cons_of_mem _ hi) with e | e
  ·rw[e]
   exact Ez pr lt g.length _ m hr
  ·exact .inr e
theorem Lq {some:List Bool} {ln:List (List Int)} (h:nr ln):nr (rE some ln):=by
 intro l hl x hx;have hlen:(rE some ln).length=ln.length:=by unfold rE;simp
 rw[hlen];unfold rE at hl;obtain ⟨k,_,rfl⟩:=List.mem_map.1 hl
 split at hx
 ·exact h.at_ k x hx
 ·cases hx
theorem y9 {own:List Nat} {ln:List (List Int)}:nr (oH own ln):=by
 intro l hl x hx;unfold oH at hl;obtain ⟨k,_,rfl⟩:=List.mem_map.1 hl;have:=kS.1 hx;unfold oH;rw[List.length_map];omega
theorem nH (V:List Int) (T:List aa):nr (bT V T):=by
 intro l hl x hx;unfold bT at hl;obtain ⟨k,_,rfl⟩:=List.mem_map.1 hl;unfold Bt at hx;have:=kS.1 hx;unfold bT;rw[List.length_map,List.length_range];omega
section
variable {o:Int} (ho: ¬o=1∧ ¬o=2∧ ¬o=6∧ ¬o=8∧ ¬o=9)
include ho
theorem Mc (late:List Int) (hk:late= []∨(¬o=12∧ ¬o=13∧ ¬o=14)) (t:aa):(t.ask late).ct o=t.ct o:=by
 induction t using aa.ind with
 | h t ih=>
  have hl:aa.cg o (t.t.map (aa.ask late))=aa.cg o t.t:=by
   rw[fK,fK,List.map_map];exact congrArg _ (List.map_congr_left fun x hx=>ih x hx)
  rw[aa.ym,aa.mC o t];unfold Nz
  split
  ·rename_i hc
   have hk:=hk.resolve_left fun h=>by rw[h] at hc;cases hc
   split
   ·rename_i h1
    rw[aa.fB,aa.cg,aa.cg,aa.fB,hl,if_neg (by omega),if_neg (by omega)];omega
   split
   ·rename_i h2
    rw[aa.fB,hl,if_neg (by omega),if_neg (by omega)]
   ·rw[aa.fB,hl]
  ·rw[aa.fB,hl]
theorem IF (l:List aa) (t:aa) (hl: ∀ x∈l,x.op=6∨x.op=8∨x.op=9):(kT l t).ct o=(l.map fun x=>aa.cg o x.t).sum + t.ct o:=by
 induction l with
 | nil=>show t.ct o=0 + t.ct o;omega
 | cons x l ih=>
  show (aa.mk x.op x.n x.v (x.t++ [kT l t])).ct o=_;have hx:=hl x (List.mem_cons_self ..);rw[aa.fB,aa.oB,aa.cg,aa.cg,ih fun y hy=>hl y (List.mem_cons_of_mem _ hy),if_neg (by omega),List.map_cons,List.sum_cons];omega
theorem Ae (v:Int) (e:aa):aa.cg o (nY v e).t=e.ct o:=by
 show aa.cg o [.mk 2 v [] [e]]=_;rw[aa.cg,aa.cg,aa.fB,aa.cg,aa.cg,if_neg (by omega)];omega
omit ho in
theorem qc (v:Int) (e:aa):aa.cg o (nV v e).t=e.ct o:=by
 show aa.cg o [e]=_;rw[aa.cg,aa.cg];omega
omit ho in
theorem xE (V:List Int) (E:List aa) (pr lt:List Bool) (f:List jP) (nx:Int) (n:Nat) (lv:List Int) (N:Int): ∀ x∈ni lv++(if N=1 then m9 V E pr lt f n else jK V E pr lt f nx n),x.op=6∨x.op=8∨x.op=9:=by
 have hf: ∀ (l:List jP) lv, ∀ x∈cw l lv,x.op=6∨x.op=8∨x.op=9:=fun l lv x hx=>by
  obtain ⟨g,_,rfl⟩:=List.mem_map.1 hx;exact .inr (.inr rfl)
 have hl: ∀ v e,(nV v e).op=6∨(nV v e).op=8∨(nV v e).op=9:=fun _ _=>.inr (.inl rfl);have hs: ∀ v e,(nY v e).op=6∨(nY v e).op=8∨(nY v e).op=9:=fun _ _=>.inl rfl;intro x hx;rcases List.mem_append.1 hx with hx | hx
 ·unfold ni at hx
  split at hx
  ·cases hx
  ·rw[List.mem_singleton.1 hx];exact .inr (.inl rfl)
 split at hx
 ·unfold m9 at hx
  rcases List.mem_append.1 hx with hx | hx
  ·exact hf _ _ x hx
  ·obtain ⟨k,_,hx⟩:=List.mem_flatMap.1 hx
   split at hx
   ·rw[List.mem_singleton.1 hx];exact hs _ _
   split at hx
   ·cases hx
   ·rcases List.mem_cons.1 hx with rfl | hx
    ·exact hl _ _
    ·exact hf _ _ x hx
 ·unfold jK at hx
  rcases List.mem_append.1 hx with hx | hx
  ·rcases List.mem_append.1 hx with hx | hx
   ·obtain ⟨k,_,hx⟩:=List.mem_flatMap.1 hx
    split at hx
    ·cases hx
    ·rw[List.mem_singleton.1 hx];exact hl _ _
   ·obtain ⟨k,_,hx⟩:=List.mem_flatMap.1 hx
    exact hf _ _ x hx
  ·obtain ⟨k,_,hx⟩:=List.mem_flatMap.1 hx
   split at hx
   ·rw[List.mem_singleton.1 hx];exact hs _ _
   ·cases hx
omit ho in
theorem E2 (l:List Int) (hk:l= []∨(¬o=12∧ ¬o=13∧ ¬o=14)) (h8: ¬o=8):((ni l).map fun x=>aa.cg o x.t).sum=0:=by
 unfold ni
 split
 ·rfl
 ·rename_i hne
  have hk:=hk.resolve_left fun h=>hne (by rw[h];rfl);clear hne;rw[List.map_cons,List.map_nil,List.sum_cons,List.sum_nil];show aa.cg o (l.map fun _=>aa.mk 13 0 [] []) + 0=0
  induction l with
  | nil=>rw[List.map_nil,aa.cg]
  | cons x l ih=>
   rw[List.map_cons,aa.cg,aa.fB,aa.cg,if_neg (by omega)];by_cases hl:l.length=0
   ·rw[List.eq_nil_of_length_eq_zero hl,List.map_nil,aa.cg]
   ·omega
end
theorem Cc {α:Type} (c:α→Nat) (l:List (List α)):(l.map fun x=>(x.map c).sum).sum=(l.flatten.map c).sum:=by
 induction l with
 | nil=>rfl
 | cons x l ih=>rw[List.map_cons,List.sum_cons,ih,List.flatten_cons,List.map_append,sum_append]
theorem cj {α β:Type} (c:β→Nat) (l:List α) (f:α→List β):((l.flatMap f).map c).sum=(l.map fun x=>((f x).map c).sum).sum:=by
 rw[List.flatMap_def, ←Cc,List.map_map];rfl
theorem It (own:List Nat) (c:Nat→Nat):(List.range own.length).map (fun a=>c (own.getD a 0))=own.map c:=by
 refine List.ext_getElem (by simp) fun i h1 h2=>?_;rw[List.length_map] at h2;simp only[List.getElem_map,List.getElem_range];rw[List.getD_eq_getElem?_getD,List.getElem?_eq_getElem h2];rfl
theorem uc (n:Nat) (p:Nat→Bool) (c:Nat→Nat):(((List.range n).filter p).map c).sum=((List.range n).map fun k=>if p k=true then c k else 0).sum:=by
 induction n with
 | zero=>rfl
 | succ n ih=>
  rw[List.range_succ,List.filter_append,List.map_append,List.map_append,sum_append,sum_append,ih];congr 1;by_cases h:p n=true
  ·rw[List.filter_cons_of_pos h];simp[h]
  ·rw[List.filter_cons_of_neg h];simp[h]
theorem oF (c:aa→Nat) (V:List Int) (E:List aa) (pr lt:List Bool) (ln:List (List Int)):((dF V E pr lt ln).map fun f=>(f.ts.map c).sum).sum=((List.range pr.length).map fun k=>if (pr.getD k false && !lt.getD k false)=true then c (E.getD k gr) else 0).sum:=by
 obtain ⟨own,hown⟩: ∃ own,own=mm (fo pr lt):=⟨_,rfl⟩
 unfold dF;rw[←hown,List.map_map]
 have h1:(j5 (oH own ln)).map ((fun f:jP=>(f.ts.map c).sum) ∘ fun grp=>⟨BA (rE (fo pr lt) ln) pr lt (grp.map fun a=>own.getD a 0) 0,(grp.map fun a=>own.getD a 0).map fun k=>V.getD k 0,(grp.map fun a=>own.getD a 0).map fun k=>E.getD k gr⟩)=(j5 (oH own ln)).map fun grp=>(grp.map fun a=>c (E.getD (own.getD a 0) gr)).sum:=by
  refine List.map_congr_left fun grp _=>?_;show (((grp.map fun a=>own.getD a 0).map fun k=>E.getD k gr).map c).sum=_;rw[List.map_map,List.map_map];rfl
 rw[h1,Cc,((mJ (y9 (own:=own) (ln:=ln))).map fun a=>c (E.getD (own.getD a 0) gr)).sum_nat];have hl:(oH own ln).length=own.length:=by unfold oH;simp
 rw[hl,It own fun k=>c (E.getD k gr),hown];have he:(fo pr lt).length=pr.length:=by unfold fo;simp
 unfold mm;rw[he,uc];congr 1;refine List.map_congr_left fun k hk=>?_
 have:(fo pr lt).getD k false=(pr.getD k false && !lt.getD k false):=by
  unfold fo;exact dG _ (List.mem_range.1 hk)
 rw[this]
theorem xp (o:Int) (V:List Int) (E:List aa) (pr lt:List Bool) (ln:List (List Int)):((dF V E pr lt ln).map fun f=>aa.cg o f.ts).sum=((List.range pr.length).map fun k=>if (pr.getD k false && !lt.getD k false)=true then (E.getD k gr).ct o else 0).sum:=by
 rw[←oF (aa.ct o)];exact congrArg _ (List.map_congr_left fun f _=>fK o f.ts)
theorem jh (o:Int) (f:List jP) (lv:Int):((cw f lv).map fun x=>aa.cg o x.t).sum=((f.filter fun f=>f.lv == lv).map fun f=>aa.cg o f.ts).sum:=by
 unfold cw;rw[List.map_map];rfl
theorem sum_add (l:List Nat) (a b:Nat→Nat):(l.map fun k=>a k + b k).sum=(l.map a).sum + (l.map b).sum:=by
 induction l with
 | nil=>rfl
 | cons x l ih=>simp only[List.map_cons,List.sum_cons,ih];omega
theorem x6 (T:List aa) (o:Int) (n:Nat) (h:T.length=n + 1):((List.range n).map fun k=>(T.getD k gr).ct o).sum + (T.getD n gr).ct o=aa.cg o T:=by
 have h1:((List.range (n + 1)).map fun k=>(T.getD k gr).ct o).sum=aa.cg o T:=by
  rw[fK];congr 1;refine List.ext_getElem (by simp[h]) fun i h1 h2=>?_;rw[List.length_map] at h2;simp only[List.getElem_map,List.getElem_range];rw[List.getD_eq_getElem?_getD,List.getElem?_eq_getElem h2];rfl
 rw[←h1,List.range_succ,List.map_append,sum_append];simp
theorem uP {V:List Int} {E:List aa} {pr lt:List Bool} {ln:List (List Int)} (hg:nr ln) (hp:pr.length=ln.length): ∀ f∈dF V E pr lt ln,f.lv=0∨ ∃ k,k < ln.length∧pr.getD k false=false∧lt.getD k false=false∧f.lv=(k:Int) + 1:=by
 intro f hf;unfold dF at hf;obtain ⟨grp,hgrp,rfl⟩:=List.mem_map.1 hf;have hlen: ∀ s:List Bool,(rE s ln).length=ln.length:=fun s=>by unfold rE;simp
 have:=Ey (Lq (some:=fo pr lt) hg) pr lt ((grp.map fun a=>(mm (fo pr lt)).getD a 0)) 0 fun k hk=>by
  obtain ⟨a,ha,rfl⟩:=List.mem_map.1 hk
  have h1:a < (mm (fo pr lt)).length:=by
   have h2:a∈(j5 (oH (mm (fo pr lt)) ln)).flatten:=List.mem_flatten.2 ⟨grp,hgrp,ha⟩;have h3:=(mJ (y9 (own:=mm (fo pr lt)) (ln:=ln))).mem_iff.1 h2;unfold oH at h3;rw[List.length_map] at h3;exact List.mem_range.1 h3
  rw[hlen,List.getD_eq_getElem?_getD,List.getElem?_eq_getElem h1];have h2:(mm (fo pr lt))[a] < (fo pr lt).length:=List.mem_range.1 (List.mem_filter.1 (List.getElem_mem h1)).1;have h3:(fo pr lt).length=pr.length:=by unfold fo;simp
  show (mm (fo pr lt))[a] < ln.length;omega
 rw[hlen] at this;exact this
theorem z8 {o:Int} (ho: ¬o=1∧ ¬o=2∧ ¬o=6∧ ¬o=8∧ ¬o=9) (A:Int→Bool) (N:Int) (V:List Int) (T:List aa) (nx:Int) (hk:jC V (iU N (ei A V T) (bT V T))= []∨(¬o=12∧ ¬o=13∧ ¬o=14)) (hT:T.length=V.length + 1):(kV A N V T nx).1.ct o=aa.cg o T:=by
 obtain ⟨pr,hpr⟩: ∃ pr,pr=ei A V T:=⟨_,rfl⟩
 obtain ⟨ln,hln⟩: ∃ ln,ln=bT V T:=⟨_,rfl⟩
 obtain ⟨lt,hlt⟩: ∃ lt,lt=iU N pr ln:=⟨_,rfl⟩
 obtain ⟨E,hE⟩: ∃ E,E=T.map (aa.ask (jC V lt)):=⟨_,rfl⟩
 obtain ⟨f,hf⟩: ∃ f,f=dF V E pr lt ln:=⟨_,rfl⟩
 rw[←hpr, ←hln, ←hlt] at hk;have hgo:nr ln:=by rw[hln];exact nH V T
 have hpl:pr.length=V.length:=by rw[hpr];unfold ei;simp
 have hll:ln.length=V.length:=by rw[hln];unfold bT;simp
 have hEl:E.length=V.length + 1:=by rw[hE,List.length_map,hT]
 have hEc:aa.cg o E=aa.cg o T:=by
  rw[hE,fK,fK,List.map_map];exact congrArg _ (List.map_congr_left fun x _=>Mc ho _ hk x)
 have hlv:=uP (V:=V) (E:=E) (lt:=lt) hgo (by omega:pr.length=ln.length);rw[←hf] at hlv;have hfs:=xp o V E pr lt ln;rw[←hf,hpl] at hfs;have hu:=E2 (jC V lt) hk ho.2.2.2.1;unfold kV;dsimp only;rw[←hpr, ←hln, ←hlt, ←hE, ←hf,IF ho _ _ (xE _ _ _ _ _ _ _ _ _),List.map_append,sum_append,hu,Nat.zero_add, ←hEc, ←x6 E o V.length hEl];congr 1
 split
 ·unfold m9
  rw[List.map_append,sum_append,cj,jh]
  have hL:=fT (fun f:jP=>aa.cg o f.ts) (0::((List.range V.length).filter fun k=>!pr.getD k false && !lt.getD k false).map fun k:Nat=>(k:Int) + 1) f (by
   rw[List.nodup_cons];refine ⟨fun h=>?_,?_⟩
   ·obtain ⟨k,_,e⟩:=List.mem_map.1 h
    omega
   ·exact qX (fun a b e=>by omega) (List.nodup_range.sublist List.filter_sublist)) fun f hf=>by
   rcases hlv f hf with e | ⟨k,h1,h2,h3,e⟩
   ·rw[e];exact List.mem_cons_self ..
   ·rw[e]
    refine List.mem_cons_of_mem _ (List.mem_map.2 ⟨k,List.mem_filter.2 ⟨List.mem_range.2 (by omega),by rw[h2,h3];rfl⟩,rfl⟩)
  rw[hfs,List.map_cons,List.sum_cons,List.map_map,uc] at hL
  have h2:((List.range V.length).map fun k=>((if lt.getD k false=true then [nY (V.getD k 0) (E.getD k gr)] else if pr.getD k false=true then [] else nV (V.getD k 0) (E.getD k gr)::cw f ((k:Int) + 1)).map fun x=>aa.cg o x.t).sum)=(List.range V.length).map fun k=>(if (!pr.getD k false && !lt.getD k false)=true then ((fun lv=>((f.filter fun f=>f.lv == lv).map fun f=>aa.cg o f.ts).sum) ∘ fun k:Nat=>(k:Int) + 1) k else 0) + (if (pr.getD k false && !lt.getD k false)=true then 0 else (E.getD k gr).ct o):=by
   refine List.map_congr_left fun k _=>?_;cases h1:lt.getD k false<;>cases h2:pr.getD k false
   ·simp[qc,jh];omega
   ·simp
   ·simp[Ae ho]
   ·simp[Ae ho]
  rw[h2,sum_add]
  have h3:((List.range V.length).map fun k=>(E.getD k gr).ct o).sum=((List.range V.length).map fun k=>(if (pr.getD k false && !lt.getD k false)=true then (E.getD k gr).ct o else 0) + (if (pr.getD k false && !lt.getD k false)=true then 0 else (E.getD k gr).ct o)).sum:=by
   congr 1;refine List.map_congr_left fun k _=>?_
   split<;>omega
  rw[h3,sum_add];omega
 ·unfold jK
  rw[List.map_append,List.map_append,sum_append,sum_append,cj,cj,cj]
  have hL:=fT (fun f:jP=>aa.cg o f.ts) ((List.range (V.length + 1)).map fun k:Nat=>(k:Int)) f (qX (fun a b e=>by omega) List.nodup_range) fun f hf=>by
   rcases hlv f hf with e | ⟨k,h1,h2,h3,e⟩
   ·rw[e];exact List.mem_map.2 ⟨0,List.mem_range.2 (by omega),rfl⟩
   ·rw[e];exact List.mem_map.2 ⟨k + 1,List.mem_range.2 (by omega),by omega⟩
  rw[hfs,List.map_map] at hL
  have h2:((List.range (V.length + 1)).map fun k:Nat=>((cw f (k:Int)).map fun x=>aa.cg o x.t).sum)=(List.range (V.length + 1)).map ((fun lv=>((f.filter fun f=>f.lv == lv).map fun f=>aa.cg o f.ts).sum) ∘ fun k:Nat=>(k:Int)):=
   List.map_congr_left fun k _=>jh o f _
  rw[h2,hL]
  have h3:((List.range V.length).map fun k=>((if pr.getD k false=true then [] else [nV (if lt.getD k false=true then nx + th pr lt k else V.getD k 0) (E.getD k gr)]).map fun x=>aa.cg o x.t).sum)=(List.range V.length).map fun k=>if pr.getD k false=true then 0 else (E.getD k gr).ct o:=by
   refine List.map_congr_left fun k _=>?_
   split
   ·rfl
   ·simp[qc]
  have h4:((List.range V.length).map fun k=>((if lt.getD k false=true then [nY (V.getD k 0) (if pr.getD k false=true then E.getD k gr else .mk 1 (nx + th pr lt k) [] [])] else []).map fun x=>aa.cg o x.t).sum)=(List.range V.length).map fun k=>if (lt.getD k false && pr.getD k false)=true then (E.getD k gr).ct o else 0:=by
   refine List.map_congr_left fun k _=>?_;have h1: ∀ v:Int,(aa.mk 1 v [] []).ct o=0:=fun v=>by rw[aa.fB,aa.cg,if_neg (by omega)]
   cases h2:lt.getD k false<;>cases h3:pr.getD k false<;>simp[Ae ho,h1]
  rw[h3,h4, ←sum_add, ←sum_add];congr 1;refine List.map_congr_left fun k _=>?_;cases h1:lt.getD k false<;>cases h2:pr.getD k false<;>simp
mutual
def aa.Gu:aa→Prop
 | .mk op _ v t=>(op=7→t.length=v.length + 1)∧aa.Dx t
def aa.Dx:List aa→Prop
 | []=>True
 | x::xs=>aa.Gu x∧aa.Dx xs
end
theorem aa.oX (t:aa):t.Gu↔(t.op=7→t.t.length=t.v.length + 1)∧aa.Dx t.t:=by cases t;rw[aa.Gu];rfl
theorem aa.jL: ∀ {l:List aa},aa.Dx l→ ∀ x∈l,x.Gu
 | y::l,h,x,hx=>by
  rw[aa.Dx] at h;rcases List.mem_cons.1 hx with rfl | hx
  ·exact h.1
  ·exact aa.jL h.2 x hx
theorem aa.EW: ∀ {l:List aa},(∀ x∈l,x.Gu)→aa.Dx l
 | [],_=>trivial
 | x::l,h=>by rw[aa.Dx];exact ⟨h x (List.mem_cons_self ..),aa.EW fun y hy=>h y (List.mem_cons_of_mem _ hy)⟩
theorem zu {level c codes:Int} {free:Bool} {op:Int} {sc inner:List Int}: ∀ {l:List aa} {deep:Int},aa.iK level c codes free op sc inner l deep→ ∀ y∈l, ∃ s d,y.wg level c codes free s d
 | x::l,deep,h,y,hy=>by
  rw[aa.iK] at h;rcases List.mem_cons.1 hy with rfl | hy
  ·exact ⟨_,_,h.2.1⟩
  ·exact zu h.2.2 y hy
theorem aa.zq {level c codes:Int} {free:Bool} (t:aa): ∀ {sc:List Int} {deep:Int},t.wg level c codes free sc deep→t.Gu:=by
 induction t using aa.ind with
 | h t ih=>
  intro sc deep h;rw[aa.mU] at h;rw[aa.oX];refine ⟨fun h7=>?_,aa.EW fun x hx=>?_⟩
  ·have hs:=h.1.2.2.1
   unfold dm at hs
   split at hs
   ·cases hs
   ·rw[if_neg (by omega),if_neg (by omega),if_neg (by omega),if_neg (by omega),if_neg (by omega),if_pos (by omega)] at hs
    simp at hs;omega
  ·obtain ⟨s,d,hx2⟩:=zu h.2 x hx
   exact ih x hx hx2
theorem ju (A:Int→Bool): ∀ (l:List aa) (nx:Int),(aa.cz A l nx).1.length=l.length
 | [],nx=>by rw[aa.cz]
 | x::l,nx=>by rw[aa.cz];simp[ju A l]
theorem D5 {o:Int} (A:Int→Bool): ∀ (l:List aa) (nx:Int),(∀ x∈l, ∀ nx:Int,(x.mD A nx).1.ct o=x.ct o)→aa.cg o (aa.cz A l nx).1=aa.cg o l
 | [],nx,_=>by rw[aa.cz]
 | x::l,nx,h=>by
  rw[aa.cz];dsimp only;rw[aa.cg,aa.cg,h x (List.mem_cons_self ..),D5 A l _ fun y hy=>h y (List.mem_cons_of_mem _ hy)]
theorem CO {o:Int} (ho: ¬o=1∧ ¬o=2∧ ¬o=6∧ ¬o=8∧ ¬o=9) (hk: ¬o=12∧ ¬o=13∧ ¬o=14) (h7: ¬o=7) (A:Int→Bool) (t:aa):t.Gu→ ∀ nx:Int,(t.mD A nx).1.ct o=t.ct o:=by
 induction t using aa.ind with
 | h t ih=>
  intro hs nx;rw[aa.oX] at hs;have hl:=D5 (o:=o) A t.t nx fun x hx=>ih x hx (aa.jL hs.2 x hx);rw[aa.oC,aa.mC o t];by_cases h:t.op=7
  ·rw[if_pos h,z8 ho _ _ _ _ _ (.inr hk) (by rw[ju];exact hs.1 h),hl,if_neg (by omega)]
   omega
  ·rw[if_neg h]
   dsimp only;rw[aa.fB,hl]
theorem yP {o:Int} (A:Int→Bool): ∀ (l:List aa) (nx:Int),(∀ x∈l, ∀ nx:Int,(x.mD A nx).1.ct o=0)→aa.cg o (aa.cz A l nx).1=0
 | [],nx,_=>by rw[aa.cz,aa.cg]
 | x::l,nx,h=>by
  rw[aa.cz];dsimp only;rw[aa.cg,h x (List.mem_cons_self ..),yP A l _ fun y hy=>h y (List.mem_cons_of_mem _ hy)]
theorem Kk (A:Int→Bool) (t:aa):t.Gu→ ∀ nx:Int,(t.mD A nx).1.ct 7=0:=by
 induction t using aa.ind with
 | h t ih=>
  intro hs nx;rw[aa.oX] at hs;have hl:=yP (o:=7) A t.t nx fun x hx=>ih x hx (aa.jL hs.2 x hx);rw[aa.oC];by_cases h:t.op=7
  ·rw[if_pos h,z8 (by decide) _ _ _ _ _ (.inr (by decide)) (by rw[ju];exact hs.1 h),hl]
  ·rw[if_neg h]
   dsimp only;rw[aa.fB,hl,if_neg h]
mutual
def aa.JZ (A:Int→Bool):aa→Bool
 | .mk op _ v t=>(op !=7 || ((t.take v.length).all (fun x=>x.op == 4) && v.all fun u=>!A u)) && aa.zy A t
def aa.zy (A:Int→Bool):List aa→Bool
 | []=>true
 | x::xs=>aa.JZ A x && aa.zy A xs
end
theorem aa.IP (A:Int→Bool) (t:aa):t.JZ A=((t.op !=7 || ((t.t.take t.v.length).all (fun x=>x.op == 4) && t.v.all fun u=>!A u)) && aa.zy A t.t):=by cases t;rw[aa.JZ];rfl
theorem aa.BN {A:Int→Bool}: ∀ {l:List aa},aa.zy A l=true→ ∀ x∈l,x.JZ A=true
 | y::l,h,x,hx=>by
  rw[aa.zy,Bool.and_eq_true] at h;rcases List.mem_cons.1 hx with rfl | hx
  ·exact h.1
  ·exact aa.BN h.2 x hx
theorem Mn (A:Int→Bool) (t:aa) (nx:Int) (h:t.op=4):(t.mD A nx).1.op=4:=by
 rw[aa.oC,if_neg (by omega)];exact h
theorem D6 (A:Int→Bool): ∀ (l:List aa) (nx:Int) (n:Nat),(∀ x∈l.take n,x.op=4)→ ∀ x∈(aa.cz A l nx).1.take n,x.op=4
 | [],nx,n,_,x,hx=>by rw[aa.cz] at hx;simp at hx
 | y::l,nx,0,_,x,hx=>by simp at hx
 | y::l,nx,n + 1,h,x,hx=>by
  rw[aa.cz] at hx;dsimp only at hx;rw[List.take_succ_cons] at hx h;rcases List.mem_cons.1 hx with rfl | hx
  ·exact Mn A y nx (h y (List.mem_cons_self ..))
  ·exact D6 A l _ n (fun z hz=>h z (List.mem_cons_of_mem _ hz)) x hx
theorem F5 {A:Int→Bool} {N:Int} {V:List Int} {T:List aa} (h1: ∀ x∈T.take V.length,x.op=4) (h2: ∀ u∈V,A u=false) (hT:V.length≤T.length):jC V (iU N (ei A V T) (bT V T))= []:=by
 unfold jC;rw[List.map_eq_nil_iff,List.filter_eq_nil_iff];intro k hk;have hl:(bT V T).length=V.length:=by unfold bT;simp
 unfold iU;rw[hl,dG _ (List.mem_range.1 hk)];simp only[List.any_eq_true,List.mem_range,Bool.and_eq_true,not_exists,not_and];intro i hi hp;exfalso
 have:(ei A V T).getD i false=true:=by
  unfold ei;rw[dG _ hi];have e1:T.getD i gr=T[i]'(by omega):=by rw[List.getD_eq_getElem?_getD,List.getElem?_eq_getElem (by omega)];rfl
  have e2:V.getD i 0=V[i]:=by rw[List.getD_eq_getElem?_getD,List.getElem?_eq_getElem hi];rfl
  rw[e1,e2,h2 _ (List.getElem_mem hi),h1 _ (List.mem_take_iff_getElem.2 ⟨i,by omega,rfl⟩)];rfl
 rw[this] at hp;cases hp
theorem Kj {o:Int} (ho:o=12∨o=13∨o=14) (A:Int→Bool) (t:aa):t.Gu→t.JZ A=true→t.ct o=0→ ∀ nx:Int,(t.mD A nx).1.ct o=0:=by
 induction t using aa.ind with
 | h t ih=>
  intro hs hp h0 nx;rw[aa.oX] at hs;rw[aa.IP,Bool.and_eq_true] at hp;rw[aa.mC] at h0
  have hz: ∀ l:List aa,aa.cg o l=0→ ∀ x∈l,x.ct o=0:=by
   intro l
   induction l with
   | nil=>intro _ x hx;cases hx
   | cons y l ihl=>
    intro h x hx;rw[aa.cg] at h;rcases List.mem_cons.1 hx with rfl | hx
    ·omega
    ·exact ihl (by omega) x hx
  have hl:=yP (o:=o) A t.t nx fun x hx=>ih x hx (aa.jL hs.2 x hx) (aa.BN hp.2 x hx) (hz t.t (by omega) x hx);rw[aa.oC];by_cases h:t.op=7
  ·have hp1:=hp.1
   simp only[h,bne_self_eq_false,Bool.false_or,Bool.and_eq_true,List.all_eq_true] at hp1;have hlen:=ju A t.t nx;have h7:=hs.1 h;rw[if_pos h,z8 (by omega) _ _ _ _ _ (.inl (F5 (D6 A t.t nx t.v.length fun x hx=>by simpa using hp1.1 x hx) (fun u hu=>by simpa using hp1.2 u hu) (by omega))) (by omega),hl]
  ·rw[if_neg h]
   dsimp only;rw[aa.fB,hl]
   split
   ·rename_i he
    rw[if_pos he] at h0;omega
   ·rfl
theorem lE: ∀ l m:List aa,aa.aD (l++m)=aa.aD l + aa.aD m
 | [],m=>by rw[List.nil_append,aa.aD];omega
 | x::l,m=>by rw[List.cons_append,aa.aD,aa.aD,lE l m];omega
theorem nv: ∀ l:List aa,aa.aD l=(l.map aa.aR).sum
 | []=>by rw[aa.aD];rfl
 | x::l=>by rw[aa.aD,nv l];rfl
def Il (x:aa):Nat:=1 + x.v.length + aa.aD x.t
theorem vz (l:List aa) (t:aa):(kT l t).aR=(l.map Il).sum + t.aR:=by
 induction l with
 | nil=>show t.aR=0 + t.aR;omega
 | cons x l ih=>
  show (aa.mk x.op x.n x.v (x.t++ [kT l t])).aR=_;rw[aa.aR,lE,aa.aD,aa.aD,ih,List.map_cons,List.sum_cons];unfold Il;omega
theorem vU {l:List Nat} {a b:Nat→Nat} (h: ∀ k∈l,a k≤b k):(l.map a).sum≤(l.map b).sum:=by
 induction l with
 | nil=>exact Nat.le_refl _
 | cons x l ih=>
  simp only[List.map_cons,List.sum_cons];have:=h x (List.mem_cons_self ..);have:=ih fun k hk=>h k (List.mem_cons_of_mem _ hk);omega
theorem nO (n c:Nat):((List.range n).map fun _=>c).sum=n * c:=by
 induction n with
 | zero=>simp
 | succ n ih=>rw[List.range_succ,List.map_append,sum_append,ih];simp[Nat.succ_mul]
theorem Ks (V:List Int) (E:List aa) (pr lt:List Bool) (ln:List (List Int)):((dF V E pr lt ln).map fun f=>1 + f.vs.length).sum≤2 * pr.length:=by
 have h1:=oF (fun _=>1) V E pr lt ln
 have h2: ∀ f∈dF V E pr lt ln,1 + f.vs.length≤2 * (f.ts.map fun _=>1).sum:=by
  intro f hf;unfold dF at hf;obtain ⟨grp,hg,rfl⟩:=List.mem_map.1 hf
  have hne:0 < grp.length:=by
   have key: ∀ (g:dr),nr g→ ∀ (m:Nat) (done:List Bool) (n:Nat), ∀ l∈mj g m done n,0 < l.length:=by
    intro g hg m
    induction m with
    | zero=>intro done n l hl;rw[mj] at hl;cases hl
    | succ m ih=>
     intro done n l hl;rw[mj] at hl
     split at hl
     ·split at hl
      ·cases hl
      ·rename_i i hi
       rcases List.mem_cons.1 hl with rfl | hl
       ·have hlt:=List.mem_range.1 (List.mem_of_find?_eq_some hi)
        exact List.length_pos_of_mem (iA.2 ⟨hlt,iJ hg hlt,iJ hg hlt⟩)
       ·exact ih _ _ l hl
     ·cases hl
   exact key _ (y9 (own:=mm (fo pr lt)) (ln:=ln)) _ _ _ grp hg
  have: ∀ l:List aa,(l.map fun _=>1).sum=l.length:=fun l=>by
   induction l with
   | nil=>rfl
   | cons x l ih=>rw[List.map_cons,List.sum_cons,ih,List.length_cons];omega
  simp only[this,List.length_map];omega
 have h3: ∀ l:List jP,(∀ f∈l,1 + f.vs.length≤2 * (f.ts.map fun _=>1).sum)→(l.map fun f=>1 + f.vs.length).sum≤2 * (l.map fun f=>(f.ts.map fun _=>1).sum).sum:=by
  intro l
  induction l with
  | nil=>intro _;exact Nat.le_refl _
  | cons x l ih=>
   intro h;simp only[List.map_cons,List.sum_cons];have:=h x (List.mem_cons_self ..);have:=ih fun f hf=>h f (List.mem_cons_of_mem _ hf);omega
 have h4:=h3 _ h2;rw[h1] at h4;have h5:((List.range pr.length).map fun k=>if (pr.getD k false && !lt.getD k false)=true then 1 else 0).sum≤((List.range pr.length).map fun _=>1).sum:=vU fun k _=>by split<;>omega
 rw[nO] at h5;omega
theorem G9 (late:List Int) (t:aa):(t.ask late).aR≤t.aR + t.ct 1:=by
 induction t using aa.ind with
 | h t ih=>
  have key: ∀ l:List aa,(∀ x∈l,(x.ask late).aR≤x.aR + x.ct 1)→aa.aD (l.map (aa.ask late))≤aa.aD l + aa.cg 1 l:=by
   intro l
   induction l with
   | nil=>intro _;rw[List.map_nil];omega
   | cons x l ihl=>
    intro h;rw[List.map_cons,aa.aD,aa.aD,aa.cg];have:=h x (List.mem_cons_self ..);have:=ihl fun y hy=>h y (List.mem_cons_of_mem _ hy);omega
  have hk:=key t.t ih;rw[aa.ym,aa.mC,t.bu];unfold Nz
  split
  ·split
   ·rename_i h1
    rw[aa.aR,aa.aD,aa.aD,aa.aR]
    try rw[if_pos h1]
    simp only[List.length_nil];omega
   split
   ·rw[aa.aR];omega
   ·rw[aa.aR];omega
  ·rw[aa.aR];omega
theorem J7 (late:List Int) (t:aa):(t.ask late).ct 1=t.ct 1:=by
 induction t using aa.ind with
 | h t ih=>
  have hl:aa.cg 1 (t.t.map (aa.ask late))=aa.cg 1 t.t:=by
   rw[fK,fK,List.map_map];exact congrArg _ (List.map_congr_left fun x hx=>ih x hx)
  rw[aa.ym,aa.mC 1 t];unfold Nz
  split
  ·split
   ·rename_i h1
    rw[aa.fB,aa.cg,aa.cg,aa.fB,hl,if_pos h1,if_neg (by decide)]
    try omega
   split
   ·rename_i h1 h2
    rw[aa.fB,hl,if_neg (by decide)]
   ·rename_i h1 h2
    rw[aa.fB,hl,if_neg h1]
  ·rw[aa.fB,hl]
theorem GJ (l:List Int):((ni l).map Il).sum≤1 + 2 * l.length:=by
 unfold ni
 split
 ·exact Nat.zero_le _
 ·rw[List.map_cons,List.map_nil,List.sum_cons,List.sum_nil]
  have: ∀ l:List Int,aa.aD (l.map fun _=>aa.mk 13 0 [] [])=l.length:=fun l=>by
   induction l with
   | nil=>rw[List.map_nil,aa.aD];rfl
   | cons x l ih=>rw[List.map_cons,aa.aD,ih,aa.aR,aa.aD,List.length_cons];simp;omega
  unfold Il;show 1 + l.length + aa.aD (l.map fun _=>aa.mk 13 0 [] []) + 0≤_;rw[this];omega
theorem uO (f:List jP) (lv:Int):((cw f lv).map Il).sum=((f.filter fun f=>f.lv == lv).map fun f=>1 + f.vs.length + aa.aD f.ts).sum:=by
 unfold cw;rw[List.map_map];rfl
theorem zj (v:Int) (e:aa):Il (nV v e)=2 + e.aR:=by
 show 1 + 1 + aa.aD [e]=_;rw[aa.aD,aa.aD];omega
theorem tZ (v:Int) (e:aa):Il (nY v e)=2 + e.aR:=by
 show 1 + 0 + aa.aD [.mk 2 v [] [e]]=_;rw[aa.aD,aa.aD,aa.aR,aa.aD,aa.aD];simp;omega
theorem DJ (T:List aa) (n:Nat) (h:T.length=n + 1):((List.range n).map fun k=>(T.getD k gr).aR).sum + (T.getD n gr).aR=aa.aD T:=by
 have h1:((List.range (n + 1)).map fun k=>(T.getD k gr).aR).sum=aa.aD T:=by
  rw[nv];congr 1;refine List.ext_getElem (by simp[h]) fun i h1 h2=>?_;rw[List.length_map] at h2;simp only[List.getElem_map,List.getElem_range];rw[List.getD_eq_getElem?_getD,List.getElem?_eq_getElem h2];rfl
 rw[←h1,List.range_succ,List.map_append,sum_append];simp
theorem xO (A:Int→Bool) (N:Int) (V:List Int) (T:List aa) (nx:Int) (hT:T.length=V.length + 1):(kV A N V T nx).1.aR≤aa.aD T + aa.cg 1 T + 9 * V.length + 1:=by
 obtain ⟨pr,hpr⟩: ∃ pr,pr=ei A V T:=⟨_,rfl⟩
 obtain ⟨ln,hln⟩: ∃ ln,ln=bT V T:=⟨_,rfl⟩
 obtain ⟨lt,hlt⟩: ∃ lt,lt=iU N pr ln:=⟨_,rfl⟩
 obtain ⟨E,hE⟩: ∃ E,E=T.map (aa.ask (jC V lt)):=⟨_,rfl⟩
 obtain ⟨f,hf⟩: ∃ f,f=dF V E pr lt ln:=⟨_,rfl⟩
 have hgo:nr ln:=by rw[hln];exact nH V T
 have hpl:pr.length=V.length:=by rw[hpr];unfold ei;simp
 have hll:ln.length=V.length:=by rw[hln];unfold bT;simp
 have hEl:E.length=V.length + 1:=by rw[hE,List.length_map,hT]
 have hEb:aa.aD E≤aa.aD T + aa.cg 1 T:=by
  rw[hE]
  have key: ∀ l:List aa,aa.aD (l.map (aa.ask (jC V lt)))≤aa.aD l + aa.cg 1 l:=by
   intro l
   induction l with
   | nil=>rw[List.map_nil];omega
   | cons x l ihl=>
    rw[List.map_cons,aa.aD,aa.aD,aa.cg];have:=G9 (jC V lt) x;omega
  exact key T
 have hlv:=uP (V:=V) (E:=E) (lt:=lt) hgo (by omega:pr.length=ln.length);have hfs:=oF aa.aR V E pr lt ln;have hfl:=Ks V E pr lt ln;rw[←hf] at hlv hfs hfl;rw[hpl] at hfs hfl;have hu:=GJ (jC V lt)
 have hlvl:(jC V lt).length≤V.length:=by
  unfold jC;rw[List.length_map];exact Nat.le_trans (List.length_filter_le _ _) (by simp)
 have hcf:(f.map fun f=>1 + f.vs.length + aa.aD f.ts).sum=(f.map fun f=>1 + f.vs.length).sum + (f.map fun f=>(f.ts.map aa.aR).sum).sum:=by
  clear hlv hfs hfl hf
  induction f with
  | nil=>rfl
  | cons x l ih=>
   rw[List.map_cons,List.sum_cons,List.map_cons,List.sum_cons,List.map_cons,List.sum_cons,ih,nv];omega
 unfold kV;dsimp only;rw[←hpr, ←hln, ←hlt, ←hE, ←hf,vz,List.map_append,sum_append];have hsum:=DJ E V.length hEl
 have hsp:((List.range V.length).map fun k=>(E.getD k gr).aR).sum=((List.range V.length).map fun k=>(if (pr.getD k false && !lt.getD k false)=true then (E.getD k gr).aR else 0) + (if (pr.getD k false && !lt.getD k false)=true then 0 else (E.getD k gr).aR)).sum:=by
  congr 1;refine List.map_congr_left fun k _=>?_
  split<;>omega
 rw[sum_add] at hsp
 split
 ·have hmain:((m9 V E pr lt f V.length).map Il).sum≤(f.map fun f=>1 + f.vs.length + aa.aD f.ts).sum + ((List.range V.length).map fun k=>(if (pr.getD k false && !lt.getD k false)=true then 0 else (E.getD k gr).aR) + 2).sum:=by
   unfold m9;rw[List.map_append,sum_append,cj,uO]
   have hL:=fT (fun f:jP=>1 + f.vs.length + aa.aD f.ts) (0::((List.range V.length).filter fun k=>!pr.getD k false && !lt.getD k false).map fun k:Nat=>(k:Int) + 1) f (by
    rw[List.nodup_cons];refine ⟨fun h=>?_,?_⟩
    ·obtain ⟨k,_,e⟩:=List.mem_map.1 h
     omega
    ·exact qX (fun a b e=>by omega) (List.nodup_range.sublist List.filter_sublist)) fun f hf=>by
    rcases hlv f hf with e | ⟨k,h1,h2,h3,e⟩
    ·rw[e];exact List.mem_cons_self ..
    ·rw[e]
     refine List.mem_cons_of_mem _ (List.mem_map.2 ⟨k,List.mem_filter.2 ⟨List.mem_range.2 (by omega),by rw[h2,h3];rfl⟩,rfl⟩)
   rw[List.map_cons,List.sum_cons,List.map_map,uc] at hL;rw[←hL,Nat.add_assoc];refine Nat.add_le_add_left ?_ _;rw[←sum_add];refine vU fun k _=>?_;cases h1:lt.getD k false<;>cases h2:pr.getD k false
   ·simp[zj,uO];omega
   ·simp
   ·simp[tZ];omega
   ·simp[tZ];omega
  rw[sum_add,nO] at hmain;omega
 ·have hmain:((jK V E pr lt f nx V.length).map Il).sum≤(f.map fun f=>1 + f.vs.length + aa.aD f.ts).sum + ((List.range V.length).map fun k=>(if (pr.getD k false && !lt.getD k false)=true then 0 else (E.getD k gr).aR) + 5).sum:=by
   unfold jK;rw[List.map_append,List.map_append,sum_append,sum_append,cj,cj,cj]
   have hL:=fT (fun f:jP=>1 + f.vs.length + aa.aD f.ts) ((List.range (V.length + 1)).map fun k:Nat=>(k:Int)) f (qX (fun a b e=>by omega) List.nodup_range) fun f hf=>by
    rcases hlv f hf with e | ⟨k,h1,h2,h3,e⟩
    ·rw[e];exact List.mem_map.2 ⟨0,List.mem_range.2 (by omega),rfl⟩
    ·rw[e];exact List.mem_map.2 ⟨k + 1,List.mem_range.2 (by omega),by omega⟩
   rw[List.map_map] at hL
   have h2:((List.range (V.length + 1)).map fun k:Nat=>((cw f (k:Int)).map Il).sum)=(List.range (V.length + 1)).map ((fun lv=>((f.filter fun f=>f.lv == lv).map fun f=>1 + f.vs.length + aa.aD f.ts).sum) ∘ fun k:Nat=>(k:Int)):=
    List.map_congr_left fun k _=>uO f _
   rw[h2,hL,Nat.add_comm (((List.range V.length).map _).sum),Nat.add_assoc];refine Nat.add_le_add_left ?_ _;rw[←sum_add];refine vU fun k _=>?_;have h1: ∀ v:Int,(aa.mk 1 v [] []).aR=1:=fun v=>by rw[aa.aR,aa.aD];rfl
   cases h3:lt.getD k false<;>cases h4:pr.getD k false
   ·simp[zj];omega
   ·simp
   ·simp[zj,tZ,h1];omega
   ·simp[tZ];omega
  rw[sum_add,nO] at hmain;omega
theorem Gh (l:List aa) (t:aa) (hl: ∀ x∈l,x.op=6∨x.op=8∨x.op=9):(kT l t).ct 1=(l.map fun x=>aa.cg 1 x.t).sum + t.ct 1:=by
 induction l with
 | nil=>show t.ct 1=0 + t.ct 1;omega
 | cons x l ih=>
  show (aa.mk x.op x.n x.v (x.t++ [kT l t])).ct 1=_;have hx:=hl x (List.mem_cons_self ..);rw[aa.fB,aa.oB,aa.cg,aa.cg,ih fun y hy=>hl y (List.mem_cons_of_mem _ hy),if_neg (by omega),List.map_cons,List.sum_cons];omega
theorem qp (v:Int) (e:aa):aa.cg 1 (nY v e).t=e.ct 1:=by
 show aa.cg 1 [.mk 2 v [] [e]]=_;rw[aa.cg,aa.cg,aa.fB,aa.cg,aa.cg,if_neg (by decide)];omega
theorem I0 (A:Int→Bool) (N:Int) (V:List Int) (T:List aa) (nx:Int) (hT:T.length=V.length + 1):(kV A N V T nx).1.ct 1≤aa.cg 1 T + V.length:=by
 obtain ⟨pr,hpr⟩: ∃ pr,pr=ei A V T:=⟨_,rfl⟩
 obtain ⟨ln,hln⟩: ∃ ln,ln=bT V T:=⟨_,rfl⟩
 obtain ⟨lt,hlt⟩: ∃ lt,lt=iU N pr ln:=⟨_,rfl⟩
 obtain ⟨E,hE⟩: ∃ E,E=T.map (aa.ask (jC V lt)):=⟨_,rfl⟩
 obtain ⟨f,hf⟩: ∃ f,f=dF V E pr lt ln:=⟨_,rfl⟩
 have hgo:nr ln:=by rw[hln];exact nH V T
 have hpl:pr.length=V.length:=by rw[hpr];unfold ei;simp
 have hll:ln.length=V.length:=by rw[hln];unfold bT;simp
 have hEl:E.length=V.length + 1:=by rw[hE,List.length_map,hT]
 have hEc:aa.cg 1 E=aa.cg 1 T:=by
  rw[hE,fK,fK,List.map_map];exact congrArg _ (List.map_congr_left fun x _=>J7 _ x)
 have hlv:=uP (V:=V) (E:=E) (lt:=lt) hgo (by omega:pr.length=ln.length);rw[←hf] at hlv;have hfs:=xp 1 V E pr lt ln;rw[←hf,hpl] at hfs;have hu:=E2 (o:=1) (jC V lt) (.inr (by decide)) (by decide);unfold kV;dsimp only;rw[←hpr, ←hln, ←hlt, ←hE, ←hf,Gh _ _ (xE _ _ _ _ _ _ _ _ _),List.map_append,sum_append,hu,Nat.zero_add, ←hEc, ←x6 E 1 V.length hEl]
 have hsp:((List.range V.length).map fun k=>(E.getD k gr).ct 1).sum=((List.range V.length).map fun k=>(if (pr.getD k false && !lt.getD k false)=true then (E.getD k gr).ct 1 else 0) + (if (pr.getD k false && !lt.getD k false)=true then 0 else (E.getD k gr).ct 1)).sum:=by
  congr 1;refine List.map_congr_left fun k _=>?_
  split<;>omega
 rw[sum_add] at hsp
 split
 ·have hmain:((m9 V E pr lt f V.length).map fun x=>aa.cg 1 x.t).sum≤(f.map fun f=>aa.cg 1 f.ts).sum + ((List.range V.length).map fun k=>if (pr.getD k false && !lt.getD k false)=true then 0 else (E.getD k gr).ct 1).sum:=by
   unfold m9;rw[List.map_append,sum_append,cj,jh]
   have hL:=fT (fun f:jP=>aa.cg 1 f.ts) (0::((List.range V.length).filter fun k=>!pr.getD k false && !lt.getD k false).map fun k:Nat=>(k:Int) + 1) f (by
    rw[List.nodup_cons];refine ⟨fun h=>?_,?_⟩
    ·obtain ⟨k,_,e⟩:=List.mem_map.1 h
     omega
    ·exact qX (fun a b e=>by omega) (List.nodup_range.sublist List.filter_sublist)) fun f hf=>by
    rcases hlv f hf with e | ⟨k,h1,h2,h3,e⟩
    ·rw[e];exact List.mem_cons_self ..
    ·rw[e]
     refine List.mem_cons_of_mem _ (List.mem_map.2 ⟨k,List.mem_filter.2 ⟨List.mem_range.2 (by omega),by rw[h2,h3];rfl⟩,rfl⟩)
   rw[List.map_cons,List.sum_cons,List.map_map,uc] at hL;rw[←hL,Nat.add_assoc];refine Nat.add_le_add_left ?_ _;rw[←sum_add];refine vU fun k _=>?_;cases h1:lt.getD k false<;>cases h2:pr.getD k false
   ·simp[qc,jh];omega
   ·simp
   ·simp[qp]
   ·simp[qp]
  omega
 ·have hmain:((jK V E pr lt f nx V.length).map fun x=>aa.cg 1 x.t).sum≤(f.map fun f=>aa.cg 1 f.ts).sum + ((List.range V.length).map fun k=>(if (pr.getD k false && !lt.getD k false)=true then 0 else (E.getD k gr).ct 1) + 1).sum:=by
   unfold jK;rw[List.map_append,List.map_append,sum_append,sum_append,cj,cj,cj]
   have hL:=fT (fun f:jP=>aa.cg 1 f.ts) ((List.range (V.length + 1)).map fun k:Nat=>(k:Int)) f (qX (fun a b e=>by omega) List.nodup_range) fun f hf=>by
    rcases hlv f hf with e | ⟨k,h1,h2,h3,e⟩
    ·rw[e];exact List.mem_map.2 ⟨0,List.mem_range.2 (by omega),rfl⟩
    ·rw[e];exact List.mem_map.2 ⟨k + 1,List.mem_range.2 (by omega),by omega⟩
   rw[List.map_map] at hL
   have h2:((List.range (V.length + 1)).map fun k:Nat=>((cw f (k:Int)).map fun x=>aa.cg 1 x.t).sum)=(List.range (V.length + 1)).map ((fun lv=>((f.filter fun f=>f.lv == lv).map fun f=>aa.cg 1 f.ts).sum) ∘ fun k:Nat=>(k:Int)):=
    List.map_congr_left fun k _=>jh 1 f _
   rw[h2,hL,Nat.add_comm (((List.range V.length).map _).sum),Nat.add_assoc];refine Nat.add_le_add_left ?_ _;rw[←sum_add];refine vU fun k _=>?_;have h1: ∀ v:Int,(aa.mk 1 v [] []).ct 1=1:=fun v=>by rw[aa.fB,aa.cg,if_pos rfl]
   cases h3:lt.getD k false<;>cases h4:pr.getD k false
   ·simp[qc]
   ·simp
   ·simp[qc,qp,h1]
   ·simp[qp]
  rw[sum_add,nO] at hmain;omega
theorem uD (A:Int→Bool) (t:aa):t.Gu→ ∀ nx:Int,(t.mD A nx).1.ct 1≤t.aR∧((t.mD A nx).1.aR:Int)≤(t.cnt + 10) * t.aR:=by
 induction t using aa.ind with
 | h t ih=>
  intro hs nx;rw[aa.oX] at hs
  have key: ∀ l:List aa,(∀ x∈l, ∀ nx:Int,(x.mD A nx).1.ct 1≤x.aR∧((x.mD A nx).1.aR:Int)≤(x.cnt + 10) * x.aR)→ ∀ nx,aa.cg 1 (aa.cz A l nx).1≤aa.aD l∧(aa.aD (aa.cz A l nx).1:Int)≤(aa.cR l + 10) * aa.aD l:=by
   intro l
   induction l with
   | nil=>intro _ nx;rw[aa.cz];exact ⟨Nat.le_refl _,by rw[aa.aD];simp⟩
   | cons x l ihl=>
    intro h nx;obtain ⟨a1,a2⟩:=h x (List.mem_cons_self ..) nx;obtain ⟨b1,b2⟩:=ihl (fun y hy=>h y (List.mem_cons_of_mem _ hy)) (x.mD A nx).2;rw[aa.cz];dsimp only;rw[aa.cg,aa.aD,aa.aD,aa.cR];refine ⟨by omega,?_⟩;have h1:=x.pM;have h2:=aa.ee l;have h3:(0:Int)≤aa.cR l * (x.aR:Int):=Int.mul_nonneg h2 (by omega);have h4:(0:Int)≤x.cnt * (aa.aD l:Int):=Int.mul_nonneg (by omega) (by omega)
    have h5:(x.cnt + aa.cR l + 10) * ((x.aR:Int) + (aa.aD l:Int))=(x.cnt + 10) * x.aR + (aa.cR l + 10) * aa.aD l + aa.cR l * x.aR + x.cnt * aa.aD l:=by
     simp only[Int.add_mul,Int.mul_add];omega
    push_cast
    rw[h5];omega
  obtain ⟨k1,k2⟩:=key t.t (fun x hx=>ih x hx (aa.jL hs.2 x hx)) nx;have hlen:=ju A t.t nx;have hcp:=aa.ee t.t;have e1:=t.bu;have e2:=t.lF
  have e3:(t.cnt + 10) * (t.aR:Int)=(aa.cR t.t + 10) * aa.aD t.t + aa.aD t.t + (aa.cR t.t + 11) * (1 + t.v.length:Int):=by
   rw[e1,e2]
   push_cast
   simp only[Int.add_mul,Int.mul_add];omega
  have e4:(11:Int) * (1 + t.v.length)≤(aa.cR t.t + 11) * (1 + t.v.length:Int):=Int.mul_le_mul_of_nonneg_right (by omega) (by omega);rw[aa.oC];by_cases h7:t.op=7
  ·rw[if_pos h7]
   have hn:=hs.1 h7;have r1:=I0 A t.n t.v (aa.cz A t.t nx).1 (aa.cz A t.t nx).2 (by omega);have r2:=xO A t.n t.v (aa.cz A t.t nx).1 (aa.cz A t.t nx).2 (by omega);refine ⟨by omega,?_⟩;rw[e3];omega
  ·rw[if_neg h7]
   dsimp only;rw[aa.fB,aa.aR,e3];refine ⟨?_,by push_cast;omega⟩
   split<;>omega
theorem oG {α β:Type} {l:List α} {f g:α→List β} (h: ∀ x∈l,f x=g x):l.flatMap f=l.flatMap g:=by
 rw[List.flatMap_def,List.flatMap_def,List.map_congr_left h]
section
variable {A B:Int→Bool} {s:Int} (hAB: ∀ v,B (v + s)=A v)
def jP.sh (s:Int) (f:jP):jP:=⟨f.lv,f.vs.map (· + s),f.ts.map (aa.sh s)⟩
theorem Ej (g:dr): ∀ (f:Nat) (done:List Bool) (n:Nat), ∀ l∈mj g f done n, ∀ x∈l,x < g.length
 | 0,_,_,l,hl,_,_=>by rw[mj] at hl;cases hl
 | f + 1,done,n,l,hl,x,hx=>by
  rw[mj] at hl
  split at hl
  ·split at hl
   ·cases hl
   ·rename_i i _
    rcases List.mem_cons.1 hl with rfl | hl
    ·unfold eo at hx
     exact List.mem_range.1 (List.mem_filter.1 hx).1
    ·exact Ej g f _ _ l hl x hx
  ·cases hl
theorem KY {er:List Bool} {x:Nat} (h:x∈mm er):x < er.length:=List.mem_range.1 (List.mem_filter.1 h).1
end
section
variable (V:List Int) (E:List aa) (pr lt:List Bool) (ln:List (List Int))
def JX (k:Nat):cO:=⟨V.getD k 0,E.getD k gr,pr.getD k false,lt.getD k false,ln.getD k []⟩
def fR (n:Nat):List cO:=(List.range n).map (JX V E pr lt ln)
end
section
variable {V:List Int} {E:List aa} {pr lt:List Bool} {ln:List (List Int)} {n:Nat}
theorem mK:(fR V E pr lt ln n).length=n:=by unfold fR;simp
theorem xC {k:Nat} (h:k < n):(fR V E pr lt ln n)[k]?=some (JX V E pr lt ln k):=by
 unfold fR;rw[List.getElem?_map,List.getElem?_range h];rfl
theorem iI {k:Nat} (h:k < n):(fR V E pr lt ln n).getD k jR=JX V E pr lt ln k:=by
 rw[List.getD_eq_getElem?_getD,xC h];rfl
theorem zf {k:Nat} (h:n≤k):(fR V E pr lt ln n).getD k jR=jR:=by
 rw[List.getD_eq_getElem?_getD,List.getElem?_eq_none (by rw[mK];exact h)];rfl
theorem pV {α:Type} {l:List α} {d:α} {k:Nat} (h:l.length≤k):l.getD k d=d:=by
 rw[List.getD_eq_getElem?_getD,List.getElem?_eq_none h];rfl
theorem Er (hp:pr.length=n) (k:Nat):((fR V E pr lt ln n).getD k jR).pr=pr.getD k false:=by
 rcases Nat.lt_or_ge k n with h | h
 ·rw[iI h];rfl
 ·rw[zf h,pV (by omega)]
theorem Ep (hp:lt.length=n) (k:Nat):((fR V E pr lt ln n).getD k jR).lt=lt.getD k false:=by
 rcases Nat.lt_or_ge k n with h | h
 ·rw[iI h];rfl
 ·rw[zf h,pV (by omega)]
theorem KC (hp:ln.length=n) (k:Nat):((fR V E pr lt ln n).getD k jR).ln=ln.getD k []:=by
 rcases Nat.lt_or_ge k n with h | h
 ·rw[iI h];rfl
 ·rw[zf h,pV (by omega)]
theorem KM {α β:Type} (l:List α) (d:α) (f:α→β):l.map f=(List.range l.length).map fun a=>f (l.getD a d):=by
 refine List.ext_getElem (by simp) fun i h1 h2=>?_;rw[List.length_map] at h1;simp only[List.getElem_map,List.getElem_range];rw[List.getD_eq_getElem?_getD,List.getElem?_eq_getElem h1];rfl
theorem AM (l:List Nat) (a:Nat):(l.map fun x:Nat=>(x:Int)).getD a 0=((l.getD a 0:Nat):Int):=by
 rcases Nat.lt_or_ge a l.length with h | h
 ·rw[List.getD_eq_getElem?_getD,List.getElem?_map,List.getD_eq_getElem?_getD,List.getElem?_eq_getElem h];rfl
 ·rw[pV (by simpa using h),pV h];rfl
theorem MS (hp:pr.length=n) (hl:lt.length=n):gM n (Kn (fR V E pr lt ln n))=(mm (fo pr lt)).map fun x:Nat=>(x:Int):=by
 unfold gM mm;have h1:(fo pr lt).length=n:=by unfold fo;simp[hp]
 rw[h1];congr 1;refine List.filter_congr fun k hk=>?_;have hk:=List.mem_range.1 hk;unfold Kn;rw[xC hk];unfold fo;rw[List.getD_eq_getElem?_getD,List.getElem?_map,List.getElem?_range (by omega)];rfl
theorem Nj (hp:pr.length=n) (hl:lt.length=n) (hn:ln.length=n):k8 (fun x=>x.pr && !x.lt) (fR V E pr lt ln n)=rE (fo pr lt) ln:=by
 unfold k8 rE fR;rw[List.map_map,hn];refine List.map_congr_left fun k hk=>?_;have hk:=List.mem_range.1 hk;simp only[Function.comp]
 have:(fo pr lt).getD k false=(pr.getD k false && !lt.getD k false):=by
  unfold fo;rw[List.getD_eq_getElem?_getD,List.getElem?_map,List.getElem?_range (by omega)];rfl
 rw[this];rfl
theorem Ir (hp:pr.length=n) (hl:lt.length=n): ∀ (l:List Int) (m:Int),Cm (fR V E pr lt ln n) l m=BB pr lt l m
 | [],m=>rfl
 | j::l,m=>by rw[Cm,BB,Er hp,Ep hl,Ir hp hl l]
theorem Iq (hp:pr.length=n) (hl:lt.length=n) (g:dr) (own:List Nat): ∀ (l:List Nat) (m:Int),JY (fR V E pr lt ln n) g (own.map fun x:Nat=>(x:Int)) (l.map fun x:Nat=>(x:Int)) m=BA g pr lt (l.map fun a=>own.getD a 0) m
 | [],m=>rfl
 | k::l,m=>by rw[List.map_cons,List.map_cons,JY,BA,Ir hp hl,AM,Int.toNat_natCast,Iq hp hl g own l]
theorem MA (hn:ln.length=n) (own:List Nat):(List.range (own.map fun x:Nat=>(x:Int)).length).map (y7 (fR V E pr lt ln n) (own.map fun x:Nat=>(x:Int)))=oH own ln:=by
 unfold oH;refine Eq.trans ?_ (KM own 0 _).symm;rw[List.length_map];refine List.map_congr_left fun a ha=>?_;unfold y7;rw[List.length_map];congr 1;funext b;rw[AM,AM,Int.toNat_natCast,KC hn]
theorem FN (hV:V.length=n) (hp:pr.length=n) (hl:lt.length=n) (hn:ln.length=n):iP (fR V E pr lt ln n)=dF V E pr lt ln:=by
 unfold iP;rw[mK,MS hp hl,MA hn,Nj hp hl hn];unfold iw dF;rw[List.map_map];refine List.map_congr_left fun grp hg=>?_
 have hlt: ∀ a∈grp,(mm (fo pr lt)).getD a 0 < n:=fun a ha=>by
  have h1:=Ej _ _ _ _ grp hg a ha;unfold oH at h1;rw[List.length_map] at h1;rw[List.getD_eq_getElem?_getD,List.getElem?_eq_getElem h1];have h2:=KY (List.getElem_mem h1);have h3:(fo pr lt).length=n:=by unfold fo;simp[hp]
  show (mm (fo pr lt))[a] < n;omega
 simp only[Function.comp];unfold FR;rw[Iq hp hl];simp only[List.map_map];congr 1
 ·refine List.map_congr_left fun a ha=>?_
  simp only[Function.comp];rw[Int.toNat_natCast,AM,Int.toNat_natCast,iI (hlt a ha)];rfl
 ·refine List.map_congr_left fun a ha=>?_
  simp only[Function.comp];rw[Int.toNat_natCast,AM,Int.toNat_natCast,iI (hlt a ha)];rfl
theorem Jx (fs:List jP):cw fs 0++(List.range (fR V E pr lt ln n).length).flatMap (vQ (fR V E pr lt ln n) fs)=m9 V E pr lt fs n:=by
 unfold m9;rw[mK];congr 1;refine oG fun k hk=>?_;have hk:=List.mem_range.1 hk;unfold vQ;rw[iI hk];rfl
end
def Cn (an:List cO) (k:Nat):Int:=(((List.range k).filter fun i=>!(an.getD i jR).pr && (an.getD i jR).lt).length:Int)
theorem JI (an:List cO) (k:Nat):Cn an (k + 1)=Cn an k + if (an.getD k jR).pr=false∧(an.getD k jR).lt=true then 1 else 0:=by
 unfold Cn;rw[List.range_succ,List.filter_append,List.length_append,List.filter_cons,List.filter_nil];cases h1:(an.getD k jR).pr<;>cases h2:(an.getD k jR).lt
 ·rw[if_neg (by decide),if_neg (by decide)];simp
 ·rw[if_pos (by decide),if_pos (by decide)];simp
 ·rw[if_neg (by decide),if_neg (by decide)];simp
 ·rw[if_neg (by decide),if_neg (by decide)];simp
theorem Nk (an:List cO) (k:Nat):0≤Cn an k∧Cn an k≤k:=by
 unfold Cn;have:=List.length_filter_le (fun i=>!(an.getD i jR).pr && (an.getD i jR).lt) (List.range k);rw[List.length_range] at this;omega
def MU (an:List cO) (nx:Int) (k:Nat):List aa:=if (an.getD k jR).pr=true then [] else [nV (if (an.getD k jR).lt=true then nx + Cn an k else (an.getD k jR).v) (an.getD k jR).e]
def J3 (an:List cO) (nx:Int) (k:Nat):aa:=if (an.getD k jR).pr=true then (an.getD k jR).e else if (an.getD k jR).lt=true then .mk 1 (nx + Cn an k) [] [] else (an.getD k jR).e
def MV (an:List cO) (nx:Int) (k:Nat):List aa:=if (an.getD k jR).lt=true then [nY (an.getD k jR).v (J3 an nx k)] else []
def vD (an:List cO) (fs:List jP) (nx:Int):List aa:=(List.range an.length).flatMap (MU an nx)++((List.range (an.length + 1)).flatMap fun k:Nat=>cw fs (k:Int))++(List.range an.length).flatMap (MV an nx)
section
variable {V:List Int} {E:List aa} {pr lt:List Bool} {ln:List (List Int)} {n:Nat}
theorem DK (hp:pr.length=n) (hl:lt.length=n) (k:Nat):Cn (fR V E pr lt ln n) k=th pr lt k:=by
 unfold Cn th;congr 2;refine List.filter_congr fun i _=>?_;rw[Er hp,Ep hl]
theorem Gk (hp:pr.length=n) (hl:lt.length=n) (fs:List jP) (nx:Int):vD (fR V E pr lt ln n) fs nx=jK V E pr lt fs nx n:=by
 unfold vD jK;rw[mK];congr 1
 ·congr 1
  refine oG fun k hk=>?_;have hk:=List.mem_range.1 hk;unfold MU;rw[DK hp hl,iI hk];rfl
 ·refine oG fun k hk=>?_
  have hk:=List.mem_range.1 hk;unfold MV J3;rw[DK hp hl,iI hk];show (if lt.getD k false=true then [nY (V.getD k 0) (if pr.getD k false=true then E.getD k gr else if lt.getD k false=true then _ else _)] else [])=_;by_cases h:lt.getD k false=true
  ·rw[if_pos h,if_pos h,if_pos h]
  ·rw[if_neg h,if_neg h]
theorem zb (A:Int→Bool) (V:List Int) (T:List aa) {k:Nat} (hk:k < V.length):(ei A V T).getD k false=(Cl A V T k).pr:=by
 unfold ei;rw[List.getD_eq_getElem?_getD,List.getElem?_map,List.getElem?_range hk];rfl
theorem za (A:Int→Bool) (V:List Int) (T:List aa) {k:Nat} (hk:k < V.length):(bT V T).getD k []=(Cl A V T k).ln:=by
 unfold bT;rw[List.getD_eq_getElem?_getD,List.getElem?_map,List.getElem?_range hk];rfl
theorem u7 (V:List Int) (T:List aa):(bT V T).length=V.length:=by unfold bT;simp
theorem K4 (A:Int→Bool) (V:List Int) (T:List aa):Ar (Cl A V T) V.length=rE (ei A V T) (bT V T):=by
 unfold Ar rE;rw[u7];refine List.map_congr_left fun k hk=>?_;have hk:=List.mem_range.1 hk;rw[zb A V T hk,za A V T hk]
theorem F4 (A:Int→Bool) (N:Int) (V:List Int) (T:List aa) {k:Nat} (hk:k < V.length):(iU N (ei A V T) (bT V T)).getD k false=xF (Cl A V T) V.length N V.length k:=by
 unfold iU xF;rw[List.getD_eq_getElem?_getD,List.getElem?_map,u7,List.getElem?_range hk,K4,Option.map_some,Option.getD_some,Bool.eq_iff_iff,List.any_eq_true,List.any_eq_true];constructor
 ·rintro ⟨j,h1,h2⟩
  refine ⟨j,h1,?_⟩;have:=List.mem_range.1 h1;rwa [zb A V T this,za A V T this] at h2
 ·rintro ⟨j,h1,h2⟩
  refine ⟨j,h1,?_⟩;have:=List.mem_range.1 h1;rwa [zb A V T this,za A V T this]
theorem Bp (A:Int→Bool) (N:Int) (V:List Int) (T:List aa):ze A N V T=fR V T (ei A V T) (iU N (ei A V T) (bT V T)) (bT V T) V.length:=by
 unfold ze we fR;refine List.map_congr_left fun k hk=>?_;have hk:=List.mem_range.1 hk;unfold JX;rw[zb A V T hk,za A V T hk,F4 A N V T hk];rfl
end
theorem CH (l:List aa) (hl:l.length≤1000000000):af Tryz.prog 152 [.sl 4 (l.map aa.pv) none] [] (fun y Γ'=> ∃ tk:Tok,tk.e=26∧y=.sl 4 (l.map aa.pv) (some tk)∧Γ'= [.tok tk]):=by
 refine af.ah ai Tryz.func152 rfl rfl (n:=8) rfl rfl ?_
 conv=>whnf
 repeat' (first|refine aX ?_|((intro _);conv=>whnf)|(refine zX (fun hc=>?_) (fun hc=>?_)<;>(try simp only[SY] at hc)<;>(conv=>whnf)))
 ·rename_i q hq
  have:l= []:=by simpa using hq hc
  subst this;refine ak.qJ (Γ':= [.tok (aC 4 26)]) (au.nil 4 26 _) ?_;exact ak.gen (Wk.aC 4 26) ⟨_,rfl,rfl,rfl⟩
 ·rename Tok=>t5
  exact ak.gen (y:=.sl 4 (l.map aa.pv) (some t5)) (Γ':= [.tok t5]) (Wk.refl _) ⟨t5,by assumption,rfl,rfl⟩
def n9 (l:List aa):List (List PV):=(List.range l.length).map fun i=> [.int .i64 ((l.length - 1 - i:Nat):Int),.agg (l.getD (l.length - 1 - i) gr).cells]
theorem Hg (b:Nat) (l:List aa) (hl:l.length≤1000000000):DQ Tryz.prog 195 [.ptr b 0] [.box b [.sl 4 (l.map aa.pv) none]] (n9 l):=by
 intro lp J X hy Γ h0;refine af.ghost (au.drop (Γ':=.box b [.sl 4 (l.map aa.pv) none]::Γ) (Γ1:= []) (by rw[List.append_nil];exact List.perm_append_singleton _ _)) ?_;refine af.ah ai Tryz.func195 rfl rfl (n:=19) rfl rfl ?_
 conv=>whnf
 repeat (first|refine wj ?_|((intro _);conv=>whnf))
 have hlen:(n9 l).length=l.length:=by simp[n9]
 refine ax.over [3,7,8,9,10,11,12,13,14,15,16,17,18] (fun x:Nat×List aj=> [(3,.int .i64 ((l.length:Int) - 1 - x.1))]) (fun x:Nat×List aj=>.box b [.sl 4 (l.map aa.pv) none]::x.2) (fun x=>x.1≤l.length∧J x.1 x.2) (fun x=>l.length - x.1) (0,Γ) ⟨Nat.zero_le _,h0⟩ wA (hp:=⟨by rw[List.append_nil]⟩) (Γ1:= []) ?_;rintro ⟨k,Γk⟩ ⟨hk,hJ⟩;dsimp only at hk hJ⊢
 conv=>whnf
 repeat' (first|refine aX ?_|(refine zX (fun hc=>?_) (fun hc=>?_)<;>(try simp only[SY] at hc)<;>(conv=>whnf)))
 ·have hlt:k < l.length:=by omega
  have e1:((l.length:Int) - 1 - k).toNat=l.length - 1 - k:=by omega
  have hlt2:l.length - 1 - k < l.length:=by omega
  have e8:(n9 l)[k]?=some [.int .i64 ((l.length:Int) - 1 - k),.agg (l[((l.length:Int) - 1 - k).toNat]'(by omega)).cells]:=by
   unfold n9;rw[List.getElem?_map,List.getElem?_range hlt];simp only[Option.map_some,Option.some.injEq,List.cons.injEq,and_true,PV.int.injEq,true_and];refine ⟨by omega,?_⟩;simp only[e1];simp[List.getD,hlt2]
  refine ki.Ku [.box b [.sl 4 (l.map aa.pv) none]] (hy k _ Γk e8 hJ) (aY.refl _) (List.Perm.refl _) ?_;rintro _ Γ1 (⟨rfl,hJ1⟩ | ⟨rfl,hX⟩)
  ·conv=>whnf
   repeat' (first|refine aX ?_|(refine zX (fun hc=>?_) (fun hc=>?_)<;>(try simp only[SY] at hc)<;>omega))
   exact av (k + 1,Γ1) ⟨by show k + 1≤_;omega,hJ1⟩ (by show l.length - (k + 1) < l.length - k;omega) wA (hp:=⟨by rw[List.append_nil]⟩)
  ·conv=>whnf
   skip
   exact ak.gen (Γ':=Γ1) (hp:=⟨(List.perm_append_singleton _ _).symm⟩) (Wk.refl _) (.inr hX)
 ·have:k=l.length:=by omega
  subst this;exact ak.gen (Γ':=Γk) (hp:=⟨(List.perm_append_singleton _ _).symm⟩) (Wk.refl _) (.inl (by rw[hlen];exact hJ))
theorem Ka (l:List aa):af Tryz.prog 151 [.sl 4 (l.map aa.pv) none] [] (fun y Γ'=> ∃ b,y=.fn (.func 195) [.ptr b 0]∧Γ'= [.box b [.sl 4 (l.map aa.pv) none]]):=by
 refine af.ah ai Tryz.func151 rfl rfl (n:=4) rfl rfl ?_
 conv=>whnf
 repeat' (first|((intro _);conv=>whnf)|(refine zX (fun hc=>?_) (fun hc=>?_)<;>(try simp only[SY] at hc)<;>omega))
 rename_i b;exact ak.gen (y:=.fn (.func 195) [.ptr b 0]) (Γ':= [.box b [.sl 4 (l.map aa.pv) none]]) (hp:=bw.self _) (Wk.refl _) ⟨b,rfl,rfl⟩
theorem Fc {l:List aa} {j:Nat} {ys:List PV} (h:(n9 l)[j]?=some ys): ∃ m, ∃ hm:m < l.length,m=l.length - 1 - j∧j < l.length∧ys= [.int .i64 (m:Int),.agg l[m].cells]:=by
 unfold n9 at h;rw[List.getElem?_map] at h;by_cases hj:j < l.length
 ·rw[List.getElem?_range hj] at h
  simp only[Option.map_some,Option.some.injEq] at h;refine ⟨l.length - 1 - j,by omega,rfl,hj,?_⟩;rw[←h,List.getD_eq_getElem?_getD,List.getElem?_eq_getElem (by omega)];rfl
 ·rw[List.getElem?_eq_none (by simpa using hj)] at h
  cases h
theorem Dn {l:List aa} {t:aa} {m:Nat} (hm:m < l.length):kT (l.drop m) t=.mk l[m].op l[m].n l[m].v (l[m].t++ [kT (l.drop (m + 1)) t]):=by
 unfold kT;rw[List.drop_eq_getElem_cons hm,List.foldr_cons]
theorem IE (l:List aa) (t:aa) (hl:l.length≤1000000000) (hb:aa.aD l≤1000000000):aA Tryz.prog 94 [.sl 4 (l.map aa.pv) none,.agg t.cells] (.agg (kT l t).cells):=by
 refine af.ah ai Tryz.func94 rfl rfl (n:=20) rfl rfl ?_
 conv=>whnf
 repeat' (first|((intro _);conv=>whnf)|(refine zX (fun hc=>?_) (fun hc=>?_)<;>(try simp only[SY] at hc)<;>omega))
 rename_i b3 b4;refine aq.go (Ka l) (aY.refl _) ?_;rintro _ _ ⟨bb,rfl,rfl⟩
 conv=>whnf
 skip
 refine PRange.go (n9 l) (fun o:aa=> [.box b4 [.int .i64 0,.int .i64 0,.nil,.nil],.box b3 [.int .i64 o.op,.int .i64 o.n,.sl 1 (o.v.map (PV.int .i64)) none,.sl 4 (o.t.map aa.pv) none]])
  (fun k o=>k≤l.length∧o=kT (l.drop (l.length - k)) t) (fun _ _=>False) t (Hg bb l (by omega)) ⟨Nat.zero_le _,by rw[Nat.sub_zero,List.drop_length];rfl⟩ (hp:=⟨by rw[List.append_nil];exact (List.perm_append_singleton _ _).symm⟩) (Γ1:= []) (by intro ys hy;obtain ⟨m,_,rfl⟩:=List.mem_map.1 hy;rfl) ?_ ?_ (fun _ _ _ h=>h.elim)
 ·rintro j ys o hk ⟨hj,ho⟩
  obtain ⟨m,hm,hjm,hjl,rfl⟩:=Fc hk;have hd1:l.length - j=m + 1:=by omega
  have hd2:l.length - (j + 1)=m:=by omega
  have hbm:l[m].t.length≤1000000000:=by
   have h1:=aa.bL (List.getElem_mem hm);have h2:=aa.aZ l[m].t;have h3:=l[m].bu;omega
  rw[hd1] at ho
  conv=>whnf
  repeat' (first|refine aX ?_|((intro _);conv=>whnf)|(refine zX (fun hc=>?_) (fun hc=>?_)<;>(try simp only[SY] at hc)<;>omega))
  refine ⟨rfl,?_⟩
  conv=>whnf
  skip
  refine aE.sE [] [2] [5,6,7] ai mixed ?_
  conv=>whnf
  conv=>whnf
  repeat' (first|refine aX ?_|(refine zX (fun hc=>?_) (fun hc=>?_)<;>(try simp only[SY] at hc)<;>omega))
  refine aq.go (Γ1:= []) (CH l[m].t (by omega)) (aY.refl _) ?_;rintro _ _ ⟨tk,hte,rfl,rfl⟩
  conv=>whnf
  repeat' (first|refine aX ?_|((intro _);conv=>whnf)|(refine zX (fun hc=>?_) (fun hc=>?_)<;>(try simp only[SY] at hc)<;>omega))
  rename Tok=>t5
  refine ⟨rfl,_, [.box b4 [.int .i64 0,.int .i64 0,.nil,.nil],.box b3 [.int .i64 l[m].op,.int .i64 l[m].n,.sl 1 (l[m].v.map (PV.int .i64)) none,.sl 4 ((l[m].t++ [o]).map aa.pv) none]],c9.of (aY.refl _) (au.trans (au.box (b:=b3) (cs:= [.int .i64 l[m].op,.int .i64 l[m].n,.sl 1 (l[m].v.map (PV.int .i64)) none,.sl 4 ((l[m].t++ [o]).map aa.pv) (some t5)]) (cs':= [.int .i64 l[m].op,.int .i64 l[m].n,.sl 1 (l[m].v.map (PV.int .i64)) none,.sl 4 ((l[m].t++ [o]).map aa.pv) none]) wA) (au.drop bw.p)),aa.mk l[m].op l[m].n l[m].v (l[m].t++ [o]),⟨by omega,?_⟩,rfl⟩;rw[hd2,Dn hm, ←ho]
 ·rintro bd o ⟨hle,ho⟩
  have hbl:(n9 l).length=l.length:=by simp[n9]
  rw[hbl,Nat.sub_self,List.drop_zero] at ho;subst ho
  conv=>whnf
  repeat' (first|refine aX ?_|(refine zX (fun hc=>?_) (fun hc=>?_)<;>(try simp only[SY] at hc)<;>omega))
  refine ⟨⟨[], [], [],_,rfl,?_⟩⟩;simp only[List.cons_append,List.nil_append]
  conv=>whnf
  repeat (refine wj ?_)
  exact ak.pure ec.wk
def GQ (f:Nat→aa) (n i:Nat):List aa:=(List.range n).map fun k=>if k < i then f k else gr
theorem ud (f:Nat→aa) (n i:Nat):(GQ f n i).length=n:=by unfold GQ;simp
theorem Aj {f:Nat→aa} {n i j:Nat} (h:j < (GQ f n i).length):(GQ f n i)[j]=if j < i then f j else gr:=by simp[GQ]
theorem Lr {f:Nat→aa} {n i:Nat}:(GQ f n i).set i (f i)=GQ f n (i + 1):=by
 refine List.ext_getElem (by simp[ud]) fun j h1 h2=>?_;rw[List.getElem_set,Aj h2];by_cases e:i=j
 ·subst e;rw[if_pos rfl,if_pos (by omega)]
 ·rw[if_neg e,Aj (by rw[ud] at h2 ⊢; exact h2)]
  by_cases h:j < i
  ·rw[if_pos h,if_pos (by omega)]
  ·rw[if_neg h,if_neg (by omega)]
theorem JH (f:Nat→aa) (n:Nat):List.replicate n gr=GQ f n 0:=by
 refine List.ext_getElem (by simp[ud]) fun j h1 h2=>?_;rw[Aj h2,if_neg (by omega),List.getElem_replicate]
theorem GL (n:Nat):o9 (List.replicate n (PV.agg [.int .i64 0,.int .i64 0,.nil,.nil])) ((List.replicate n gr).map aa.pv):=by
 induction n with
 | zero=>exact .nil
 | succ n ih=>exact .cons (.cons (Wk.refl _) (.cons (Wk.refl _) (.cons (Wk.eg rfl) (.cons (Wk.eg rfl) .nil)))) ih
theorem xh {p q:Prop} (k:q) (h:q→p:=by intro hq;first | exact aE.sP (some 42) rfl [] [7] ai mixed hq | exact aE.sP (some 86) rfl [] [7] ai mixed hq):p:=h k
theorem Gj (b r:Nat) (L:List Int) (nx:Int) (bc:Nat) (tk:Tok) (l0:List aa) (an:List cO) (ti:Tok) (hnx:0≤nx∧nx≤1000000000) (h1:tk.e=26) (h2:tk.s=4) (hl0:l0.length≤10000) (hts:ti.s=8) (hl:an.length≤500) (hln: ∀ x∈an,x.ln.length≤500) (hlr: ∀ x∈an, ∀ y∈x.ln,0≤y∧y < (an.length:Int)) (hfl:(iP an).length≤500):
  af Tryz.prog 93 [.ptr b 0,.ptr bc 0,.ms ti] (.row ti (an.map cO.pv)::.box bc [.ms tk]::.row tk (l0.map aa.pv)::AR b r L nx) (fun y Γ'=> ∃ tk':Tok,tk'.e=26∧tk'.s=4∧y=.bp []∧Γ'=.row ti (an.map cO.pv)::.box bc [.ms tk']::.row tk' ((l0++vD an (iP an) nx).map aa.pv)::AR b r L (nx + Cn an an.length)):=by
 refine af.ah ai Tryz.func93 rfl rfl (n:=95) rfl rfl ?_
 conv=>whnf
 skip
 refine aq.go (xo an ti hts hl hln hlr) (aY.refl _) ?_;rintro _ _ ⟨rfl,rfl⟩;generalize hfs:iP an=fs at *
 conv=>whnf
 repeat' (first|((first|refine kH.row (by omega) (by omega) (by omega) (by show _ * 64≤_;omega) rfl fun tv hte hvs=>?_|(refine eE.map fun _=>?_));conv=>whnf)|(refine zX (fun hc=>?_) (fun hc=>?_)<;>(try simp only[SY] at hc)<;>omega))
 rw[Int.toNat_natCast];refine ax.jy (au.Gt (t:=tv) (GL an.length)) ?_
 refine ax.over [8,9,20,21,22,23,24,25,26,27,28,29,30,31,32,33,34,35,36,37,38,39,40,41,42,43,44,45,46,47,48,49,50,51,52,53,54,55,56,57,58,59,60,61,62,63,64,65] (fun x:Nat×Tok×List aa×Int×List aa=> [(20,.int .i64 x.1)]) (fun x=> [.row tv (x.2.2.2.2.map aa.pv),.row ti (an.map cO.pv),.box bc [.ms x.2.1],.row x.2.1 (x.2.2.1.map aa.pv),.box b [.mp r,.int .i64 x.2.2.2.1],.mp r (.int .i64) (aS L) []])
  (fun x=>x.1≤an.length∧x.2.1.e=26∧x.2.1.s=4∧x.2.2.1=l0++(List.range x.1).flatMap (MU an nx)∧x.2.2.1.length≤10000 + x.1∧x.2.2.2.1=nx + Cn an x.1∧x.2.2.2.2=GQ (J3 an nx) an.length x.1) (fun x=>an.length - x.1) (0,tk,l0,nx,List.replicate an.length gr) ⟨Nat.zero_le _,h1,h2,by simp,by dsimp only;omega,by simp[Cn],JH _ _⟩ wA ?_
 rintro ⟨i,tk,l,nz,vs⟩ ⟨hi,h1,h2,hls,hll,hnz,hvs⟩;dsimp only at hi h1 h2 hls hll hnz hvs ⊢;have hvl:=ud (J3 an nx) an.length i;rw[←hvs] at hvl;have htn:=Nk an i;rcases Nat.lt_or_ge i an.length with hlt | hge
 ·have hid:an.getD i jR=an[i]:=by rw[List.getD_eq_getElem?_getD,List.getElem?_eq_getElem hlt];rfl
  have hst:l++MU an nx i=l0++(List.range (i + 1)).flatMap (MU an nx):=by rw[hls,List.range_succ,List.flatMap_append,List.append_assoc];simp
  have hset:=Lr (f:=J3 an nx) (n:=an.length) (i:=i);have hts2:=JI an i;rw[MU,hid] at hst;rw[hid] at hts2;rw[J3,hid, ←hvs] at hset;have hvi:i < vs.length:=by omega
  conv=>whnf
  repeat' (first|((first|((apply zZ);exact tB)|refine aM ?_|refine aF ?_|refine xh ?_|intro _|refine zG ?_);conv=>whnf)|(refine zX (fun hc=>?_) (fun hc=>?_)<;>(try simp only[SY] at hc)<;>first|omega|(conv=>whnf)))
  ·rw[if_pos (by assumption),List.append_nil] at hst
   rw[if_pos (by assumption)] at hset;rw[if_neg (by simp_all),Int.add_zero] at hts2;exact av (i + 1,tk,l,nz,vs.set i an[i].e) ⟨by show i + 1≤_;omega,h1,h2,hst,by show l.length≤10000 + (i + 1);omega,by show nz=_;rw[hts2];exact hnz,hset⟩ (by show an.length - (i + 1) < an.length - i;omega) wA
  ·rw[if_neg (by simp_all),if_pos (by assumption), ←hnz] at hst
   rw[if_neg (by simp_all),if_pos (by assumption), ←hnz] at hset;rw[if_pos ⟨by assumption,by assumption⟩] at hts2;have hvl2:(vs.set i an[i].e).length=an.length:=by rw[List.length_set];exact hvl
   have hset2:(vs.set i an[i].e).set i (.mk 1 nz [] [])=GQ (J3 an nx) an.length (i + 1):=by rw[List.set_set];exact hset
   generalize vs.set i an[i].e=vs2 at *;refine aq.go (zi bc tk l nz an[i].e h1 h2 (by omega)) (aY.refl _) ?_;rintro _ _ ⟨tk2,e1,e2,rfl,rfl⟩
   conv=>whnf
   repeat' (first|((first|refine aM ?_|refine aF ?_);conv=>whnf)|(refine zX (fun hc=>?_) (fun hc=>?_)<;>(try simp only[SY] at hc)<;>omega))
   exact av (i + 1,tk2,l++ [nV nz an[i].e],nz + 1,vs2.set i (.mk 1 nz [] [])) ⟨by show i + 1≤_;omega,e1,e2,hst,by show (l++ [_]).length≤10000 + (i + 1);rw[List.length_append,List.length_singleton];omega,by show nz + 1=_;rw[hts2,hnz];omega,hset2⟩ (by show an.length - (i + 1) < an.length - i;omega) wA
  ·rw[if_neg (by simp_all),if_neg (by simp_all)] at hst
   rw[if_neg (by simp_all),if_neg (by simp_all)] at hset;rw[if_neg (by simp_all),Int.add_zero] at hts2;refine aq.go (zi bc tk l an[i].v an[i].e h1 h2 (by omega)) (aY.refl _) ?_;rintro _ _ ⟨tk2,e1,e2,rfl,rfl⟩
   conv=>whnf
   repeat' (first|((refine aM ?_);conv=>whnf)|(refine zX (fun hc=>?_) (fun hc=>?_)<;>(try simp only[SY] at hc)<;>omega))
   exact av (i + 1,tk2,l++ [nV an[i].v an[i].e],nz,vs.set i an[i].e) ⟨by show i + 1≤_;omega,e1,e2,hst,by show (l++ [_]).length≤10000 + (i + 1);rw[List.length_append,List.length_singleton];omega,by show nz=_;rw[hts2];exact hnz,hset⟩ (by show an.length - (i + 1) < an.length - i;omega) wA
 ·obtain rfl:i=an.length:=by omega
  have hN:nz=nx + Cn an an.length:=hnz;have hvf:vs=GQ (J3 an nx) an.length an.length:=hvs;generalize nx + Cn an an.length=nz2 at *;subst hN;have hl1: ∀ fs2:List jP,vD an fs2 nx=(List.range an.length).flatMap (MU an nx)++(((List.range (an.length + 1)).flatMap fun k:Nat=>cw fs2 (k:Int))++(List.range an.length).flatMap (MV an nx)):=fun fs2=>by unfold vD;rw[List.append_assoc]
  rw[hl1, ←List.append_assoc, ←hls]
  conv=>whnf
  repeat' (first|((first|refine aM ?_|(refine eE.map fun _=>?_));conv=>whnf)|(refine zX (fun hc=>?_) (fun hc=>?_)<;>(try simp only[SY] at hc)<;>first|omega|(conv=>whnf)))
  refine ax.over [10,69,70,71,72,73,74,75,76] (fun x:Nat×Tok×List aa=> [(69,.int .i64 x.1)]) (fun x=> [.row tv (vs.map aa.pv),.row ti (an.map cO.pv),.box bc [.ms x.2.1],.row x.2.1 (x.2.2.map aa.pv),.box b [.mp r,.int .i64 nz],.mp r (.int .i64) (aS L) []])
   (fun x=>x.1≤an.length + 1∧x.2.1.e=26∧x.2.1.s=4∧x.2.2=l++(List.range x.1).flatMap (fun k:Nat=>cw fs (k:Int))∧x.2.2.length≤20000 + x.1 * 500) (fun x=>an.length + 1 - x.1) (0,tk,l) ⟨Nat.zero_le _,h1,h2,by simp,by dsimp only;omega⟩ wA ?_
  rintro ⟨m,tk,l2⟩ ⟨hm,h1,h2,hl2,hb2⟩;dsimp only at hm h1 h2 hl2 hb2 ⊢;rcases Nat.lt_or_ge m (an.length + 1) with hml | hmg
  ·have hst:l2++cw fs (m:Int)=l++(List.range (m + 1)).flatMap (fun k:Nat=>cw fs (k:Int)):=by rw[hl2,List.range_succ,List.flatMap_append,List.append_assoc];simp
   have hfi:=oE fs (m:Int)
   conv=>whnf
   repeat' ((refine zX (fun hc=>?_) (fun hc=>?_)<;>(try simp only[SY] at hc)<;>first|omega|(conv=>whnf)))
   refine aq.go (yT bc tk l2 fs (m:Int) h1 h2 (by omega)) (aY.refl _) ?_;rintro _ _ ⟨tk2,e1,e2,rfl,rfl⟩
   conv=>whnf
   repeat' (first|((refine aM ?_);conv=>whnf)|(refine zX (fun hc=>?_) (fun hc=>?_)<;>(try simp only[SY] at hc)<;>omega))
   exact av (m + 1,tk2,l2++cw fs (m:Int)) ⟨by show m + 1≤_;omega,e1,e2,hst,by show (l2++_).length≤20000 + (m + 1) * 500;rw[List.length_append];omega⟩ (by show an.length + 1 - (m + 1) < an.length + 1 - m;omega) wA
  ·obtain rfl:m=an.length + 1:=by omega
   rw[←List.append_assoc, ←hl2]
   conv=>whnf
   repeat' (first|(((refine eE.map fun _=>?_));conv=>whnf)|(refine zX (fun hc=>?_) (fun hc=>?_)<;>(try simp only[SY] at hc)<;>first|omega|(conv=>whnf)))
   refine ax.over [11,12,79,80,81,82,83,84,85,86,87,88,89,90,91,92,93,94] (fun x:Nat×Tok×List aa=> [(79,.int .i64 x.1)]) (fun x=> [.row tv (vs.map aa.pv),.row ti (an.map cO.pv),.box bc [.ms x.2.1],.row x.2.1 (x.2.2.map aa.pv),.box b [.mp r,.int .i64 nz],.mp r (.int .i64) (aS L) []])
    (fun x=>x.1≤an.length∧x.2.1.e=26∧x.2.1.s=4∧x.2.2=l2++(List.range x.1).flatMap (MV an nx)∧x.2.2.length≤300000 + x.1) (fun x=>an.length - x.1) (0,tk,l2) ⟨Nat.zero_le _,h1,h2,by simp,by dsimp only;omega⟩ wA ?_
   rintro ⟨i,tk,l3⟩ ⟨hi,h1,h2,hl3,hb3⟩;dsimp only at hi h1 h2 hl3 hb3 ⊢;rcases Nat.lt_or_ge i an.length with hlt | hge
   ·have hid:an.getD i jR=an[i]:=by rw[List.getD_eq_getElem?_getD,List.getElem?_eq_getElem hlt];rfl
    have hvi:i < vs.length:=by omega
    have hve:vs[i]=J3 an nx i:=by
     have:vs[i]?=some (J3 an nx i):=by
      rw[hvf];unfold GQ;rw[List.getElem?_map,List.getElem?_range hlt,Option.map_some,if_pos hlt]
     rw[List.getElem?_eq_getElem hvi] at this;exact Option.some.inj this
    have hst:l3++MV an nx i=l2++(List.range (i + 1)).flatMap (MV an nx):=by rw[hl3,List.range_succ,List.flatMap_append,List.append_assoc];simp
    rw[MV,hid, ←hve] at hst
    conv=>whnf
    repeat' (first|((first|((apply zZ);first|exact tB|((conv=>whnf);(repeat ((refine aH ?_);conv=>whnf));exact pZ))|refine aM ?_|refine aF ?_|refine xh ?_|intro _|refine zG ?_);conv=>whnf)|(refine zX (fun hc=>?_) (fun hc=>?_)<;>(try simp only[SY] at hc)<;>first|omega|(conv=>whnf)))
    ·rw[if_pos (by assumption)] at hst
     refine aq.go (EY bc tk l3 an[i].v vs[i] h1 h2 (by omega)) (aY.refl _) ?_;rintro _ _ ⟨tk2,e1,e2,rfl,rfl⟩
     conv=>whnf
     repeat' (first|((refine aM ?_);conv=>whnf)|(refine zX (fun hc=>?_) (fun hc=>?_)<;>(try simp only[SY] at hc)<;>omega))
     exact av (i + 1,tk2,l3++ [nY an[i].v vs[i]]) ⟨by show i + 1≤_;omega,e1,e2,hst,by show (l3++ [_]).length≤300000 + (i + 1);rw[List.length_append,List.length_singleton];omega⟩ (by show an.length - (i + 1) < an.length - i;omega) wA
    ·rw[if_neg (by simp_all),List.append_nil] at hst
     exact av (i + 1,tk,l3) ⟨by show i + 1≤_;omega,h1,h2,hst,by show l3.length≤300000 + (i + 1);omega⟩ (by show an.length - (i + 1) < an.length - i;omega) wA
   ·obtain rfl:i=an.length:=by omega
    rw[←hl3]
    conv=>whnf
    repeat' ((refine zX (fun hc=>?_) (fun hc=>?_)<;>(try simp only[SY] at hc)<;>first|omega|(conv=>whnf)))
    exact ak.gen (y:=.bp []) (Γ':=.row ti (an.map cO.pv)::.box bc [.ms tk]::.row tk (l3.map aa.pv)::AR b r L nz) (Wk.refl _) ⟨tk,h1,h2,rfl,rfl⟩
section
variable {V:List Int} {E T:List aa} {pr lt:List Bool} {ln:List (List Int)}
def qM (V:List Int) (E T:List aa) (pr lt:List Bool) (ln:List (List Int)) (n i:Nat):List cO:=(List.range n).map fun k=>JX V (if k < i then E else T) pr lt ln k
theorem pY {n i:Nat}:(qM V E T pr lt ln n i).length=n:=by unfold qM;simp
theorem u5 {n i j:Nat} (h:j < (qM V E T pr lt ln n i).length):(qM V E T pr lt ln n i)[j]=JX V (if j < i then E else T) pr lt ln j:=by simp[qM]
theorem FZ {n:Nat}:fR V T pr lt ln n=qM V E T pr lt ln n 0:=by
 unfold fR qM;exact List.map_congr_left fun k _=>by rw[if_neg (by omega)]
theorem FY {n:Nat}:qM V E T pr lt ln n n=fR V E pr lt ln n:=by
 unfold fR qM;exact List.map_congr_left fun k hk=>by rw[if_pos (List.mem_range.1 hk)]
theorem H9 {n i:Nat} {x:cO} (hx:x=JX V E pr lt ln i):(qM V E T pr lt ln n i).set i x=qM V E T pr lt ln n (i + 1):=by
 subst hx;refine List.ext_getElem (by simp[pY]) fun j h1 h2=>?_;rw[List.getElem_set,u5 h2];by_cases e:i=j
 ·subst e;rw[if_pos rfl,if_pos (by omega)]
 ·rw[if_neg e,u5 (by rw[pY] at h2 ⊢; exact h2)]
  by_cases h:j < i
  ·rw[if_pos h,if_pos (by omega)]
  ·rw[if_neg h,if_neg (by omega)]
end
section
variable {P:Program} {tt:Nat→TI}
theorem Ia {τ:Type} {ds:List Nat} {ps:τ→List (Nat×PV)} {G:τ→List aj} {J:τ→Prop} {T T':List PV} {Γ Γ' Γ1:List aj} {D:Ds} (t:τ) (hJ:J t) (hg:au Γ Γ') (hw:bS 0 T' T ds (ps t)) [hp:bw Γ' (G t) Γ1]:tq ds ps G J T D T' Γ D:=
 ⟨rfl,t,hJ,c9.of (bS.wk 0 T' T ds (ps t) hw) (au.trans hg (au.drop hp.p))⟩
theorem aE.ghost {ops:Array Oper} {T:List PV} {Γ Γ':List aj} {K:List PV→List aj→Prop} (hg:au Γ Γ') (h:aE P ops T Γ' K):aE P ops T Γ K:=
 ⟨fun rd nn id w0 F M w a Q' hS hT hQ=>by
  obtain ⟨F1,e1,hS1⟩:=hg w0 F M w hS
  exact h.h rd nn id w0 F1 M w a Q' hS1 (ay.mono e1 _ _ hT) fun F' T2 Γ2 a' w' hle=>hQ F' T2 Γ2 a' w' (Fz.le_trans e1 hle)⟩
end
theorem au.EE (s:Nat) (e:TypeId) (Γ:List aj) (l:List aa) (h:l= []):au Γ (.row (aC s e) (l.map aa.pv)::Γ):=by subst h;exact au.cE s e Γ
def KI (V:List Int) (lt:List Bool) (i:Nat):List Int:=((List.range i).filter fun k=>lt.getD k false).map fun k=>V.getD k 0
theorem Io (V:List Int) (lt:List Bool) (i:Nat):KI V lt (i + 1)=KI V lt i++if lt.getD i false=true then [V.getD i 0] else []:=by
 unfold KI;rw[List.range_succ,List.filter_append,List.map_append,List.filter_cons,List.filter_nil];by_cases h:lt.getD i false=true
 ·rw[if_pos h,if_pos h];rfl
 ·rw[if_neg h,if_neg h];rfl
theorem KJ (V:List Int) (lt:List Bool) (i:Nat):(KI V lt i).length≤i:=by
 unfold KI;rw[List.length_map];exact Nat.le_trans (List.length_filter_le _ _) (by simp)
theorem C1 (V:List Int) (E:List aa) (pr lt:List Bool) (ln:List (List Int)):(dF V E pr lt ln).length≤pr.length:=by
 have h:=rW (oH (mm (fo pr lt)) ln);unfold iw at h;rw[List.length_map] at h;unfold dF;rw[List.length_map];refine Nat.le_trans h ?_;unfold oH mm fo;rw[List.length_map];exact Nat.le_trans (List.length_filter_le _ _) (by simp)
theorem oD {p q:Prop} (k:q) (h:q→p:=by intro hq;first | exact aE.sT (some 24) rfl [5,10] [12,13,14] ai mixed hq | exact aE.sP (some 43) rfl [] [12] ai mixed hq | exact aE.sP (some 56) rfl [9] [10] ai mixed hq):p:=h k
theorem K6 (b r:Nat) (L:List Int) (nx:Int) (t:aa) (hb:aa.aD t.t + aa.cg 1 t.t + 9 * t.v.length + 10≤1000000000) (hv:t.t.length=t.v.length + 1) (hn:t.v.length≤500) (hnx:0≤nx∧nx≤1000000000):
  af Tryz.prog 52 [.ptr b 0,.agg t.cells] (AR b r L nx) (fun y Γ'=>y=.agg (kV L.contains t.n t.v t.t nx).1.cells∧Γ'=AR b r L (kV L.contains t.n t.v t.t nx).2):=by
 have hbe:=t.bu;have hbs:=aa.aZ t.t;have hrb:=xO L.contains t.n t.v t.t nx hv;have hR:kV L.contains t.n t.v t.t nx=kV L.contains t.n t.v t.t nx:=rfl
 conv at hR=>rhs;unfold kV;dsimp only
 refine af.ah ai Tryz.func52 rfl rfl (n:=86) rfl rfl ?_
 conv=>whnf
 repeat' (first|refine aX ?_|((intro _);conv=>whnf)|(refine zX (fun hc=>?_) (fun hc=>?_)<;>(try simp only[SY] at hc)<;>omega))
 refine aq.go (FX b r L nx t (by omega) hv hn) (aY.refl _) ?_;rintro _ _ ⟨ti,hte,hts,rfl,rfl⟩;rw[Bp];have hpl:(ei L.contains t.v t.t).length=t.v.length:=by unfold ei;simp
 have hnl:(bT t.v t.t).length=t.v.length:=by unfold bT;simp
 have hltl:(iU t.n (ei L.contains t.v t.t) (bT t.v t.t)).length=t.v.length:=by unfold iU;simp[hnl]
 have hgo:=nH t.v t.t
 have hll: ∀ l∈bT t.v t.t,l.length≤500:=fun l hl=>by
  unfold bT at hl;obtain ⟨k,hk,rfl⟩:=List.mem_map.1 hl;have:=ga t.v.length fun j=>(fF (ek (t.t.getD k gr).all)).contains (t.v.getD j 0);unfold Bt;omega
 have hlv:jC t.v (iU t.n (ei L.contains t.v t.t) (bT t.v t.t))=KI t.v (iU t.n (ei L.contains t.v t.t) (bT t.v t.t)) t.v.length:=rfl;rw[hlv] at hR;generalize hRR:kV L.contains t.n t.v t.t nx=RR at *;generalize hpr:ei L.contains t.v t.t=pr at *;generalize hln:bT t.v t.t=ln at *;generalize hlt:iU t.n pr ln=lt at *;generalize hnn:t.v.length=n at *;have hil:(fR t.v t.t pr lt ln n).length=n:=mK;have hig: ∀ (i:Nat) (h:i < (fR t.v t.t pr lt ln n).length),(fR t.v t.t pr lt ln n)[i]=JX t.v t.t pr lt ln i:=fun i h=>by simp[fR]
 generalize hI:fR t.v t.t pr lt ln n=an at *
 conv=>whnf
 repeat' (first|((first|(refine eE.map fun _=>?_)|refine aF ?_|intro _);conv=>whnf)|(refine zX (fun hc=>?_) (fun hc=>?_)<;>(try simp only[SY] at hc)<;>omega))
 rename_i b3 b4 b6 _;refine ax.jy (au.trans (au.nil 1 3 _) (au.trans (au.nil 4 26 _) (au.box (b:=b6) (cs:= [.int .i64 8,.int .i64 0,.nil,.nil]) (cs':= [.int .i64 8,.int .i64 0,.sl 1 (([]:List Int).map (PV.int .i64)) (some (aC 1 3)),.sl 4 (([]:List aa).map aa.pv) (some (aC 4 26))]) wA))) ?_
 refine ax.over [8,18,19,20,21,22,23,24,25,26,27,28,29,30,31,32,33,34,35,36,37] (fun x:Nat×(List Int×Tok)×(List aa×Tok)=> [(18,.int .i64 x.1)]) (fun x=> [.box b6 [.int .i64 8,.int .i64 0,.sl 1 (x.2.1.1.map (PV.int .i64)) (some x.2.1.2),.sl 4 (x.2.2.1.map aa.pv) (some x.2.2.2)],.tok x.2.1.2,.tok x.2.2.2,.row ti (an.map cO.pv),.box b [.mp r,.int .i64 nx],.mp r (.int .i64) (aS L) [],.box b4 [.int .i64 0,.int .i64 0,.nil,.nil],.box b3 [.int .i64 t.op,.int .i64 t.n,.sl 1 (t.v.map (PV.int .i64)) none,.sl 4 (t.t.map aa.pv) none]])
  (fun x=>x.1≤n∧x.2.1.2.e=3∧x.2.2.2.e=26∧x.2.1.1=KI t.v lt x.1∧x.2.2.1=(KI t.v lt x.1).map fun _=>aa.mk 13 0 [] []) (fun x=>n - x.1) (0,([],aC 1 3),([],aC 4 26)) ⟨Nat.zero_le _,rfl,rfl,rfl,rfl⟩ wA ?_
 rintro ⟨i,⟨lv,tv⟩,⟨ut,tu⟩⟩ ⟨hi,htv,htu,hlvs,huts⟩;dsimp only at hi htv htu hlvs huts ⊢;have hll2:=KJ t.v lt i;rw[←hlvs] at hll2 huts;have hul:ut.length≤i:=by rw[huts,List.length_map];exact hll2
 rcases Nat.lt_or_ge i n with hlti | hgei
 ·have hid:=hig i (by omega)
  have hsn:=Io t.v lt i;have e1:an[i].v=t.v.getD i 0:=by rw[hid];rfl
  have e2:an[i].lt=lt.getD i false:=by rw[hid];rfl
  rw[←hlvs, ←e1, ←e2] at hsn
  conv=>whnf
  repeat' (first|((first|((apply zZ);exact tB)|refine aM ?_|refine aF ?_|refine oD ?_|intro _|refine zG ?_);conv=>whnf)|(refine zX (fun hc=>?_) (fun hc=>?_)<;>(try simp only[SY] at hc)<;>first|omega|(conv=>whnf)))
  ·rename_i tv2 htv2 tu2 htu2
   rw[if_pos (by assumption)] at hsn;exact av (i + 1,(lv++ [an[i].v],tv2),(ut++ [.mk 13 0 [] []],tu2)) ⟨by show i + 1≤_;omega,htv2,htu2,hsn.symm,by show ut++_=_;rw[hsn,List.map_append,huts];rfl⟩ (by show n - (i + 1) < n - i;omega) wA
  ·rw[if_neg (by simp_all),List.append_nil] at hsn
   exact av (i + 1,(lv,tv),(ut,tu)) ⟨by show i + 1≤_;omega,htv,htu,hsn.symm,by show ut=_;rw[hsn];exact huts⟩ (by show n - (i + 1) < n - i;omega) wA
 ·obtain rfl:i=n:=by omega
  have hlve:KI t.v lt i=lv:=hlvs.symm;rw[hlve] at hR;clear hlvs;have hel:(t.t.map (aa.ask lv)).length=i + 1:=by rw[List.length_map,hv]
  generalize hE:t.t.map (aa.ask lv)=E at *
  conv=>whnf
  repeat' (first|(((refine eE.map fun _=>?_));conv=>whnf)|(refine zX (fun hc=>?_) (fun hc=>?_)<;>(try simp only[SY] at hc)<;>first|omega|(conv=>whnf)))
  refine ax.over [9,40,41,42,43,44,45,46,47,48,49,50,51,52,53,54,55] (fun x:Nat×List cO=> [(40,.int .i64 x.1)]) (fun x=> [.row ti (x.2.map cO.pv),.box b6 [.int .i64 8,.int .i64 0,.sl 1 (lv.map (PV.int .i64)) (some tv),.sl 4 (ut.map aa.pv) (some tu)],.tok tv,.tok tu,.box b [.mp r,.int .i64 nx],.mp r (.int .i64) (aS L) [],.box b4 [.int .i64 0,.int .i64 0,.nil,.nil],.box b3 [.int .i64 t.op,.int .i64 t.n,.sl 1 (t.v.map (PV.int .i64)) none,.sl 4 (t.t.map aa.pv) none]])
   (fun x=>x.1≤i∧x.2=qM t.v E t.t pr lt ln i x.1) (fun x=>i - x.1) (0,an) ⟨Nat.zero_le _,by rw[←hI];exact FZ⟩ wA ?_
  rintro ⟨k,its1⟩ ⟨hk,hits1⟩;dsimp only at hk hits1 ⊢;have hil1:its1.length=i:=by rw[hits1];exact pY
  rcases Nat.lt_or_ge k i with hlk | hgk
  ·have hkt:k < t.t.length:=by omega
   have hk1:k < its1.length:=by omega
   have hkg:its1[k]=JX t.v t.t pr lt ln k:=by
    have:=u5 (V:=t.v) (E:=E) (T:=t.t) (pr:=pr) (lt:=lt) (ln:=ln) (n:=i) (i:=k) (j:=k) (by rw[pY];exact hlk);rw[if_neg (by omega)] at this;simp only[hits1];exact this
   have hke:its1[k].e=t.t[k]:=by rw[hkg];show t.t.getD k gr=_;rw[List.getD_eq_getElem?_getD,List.getElem?_eq_getElem hkt];rfl
   have hset:=H9 (V:=t.v) (E:=E) (T:=t.t) (pr:=pr) (lt:=lt) (ln:=ln) (n:=i) (i:=k) (x:={ its1[k] with e:=its1[k].e.ask lv }) (by
    rw[hke,hkg];unfold JX;have:E.getD k gr=t.t[k].ask lv:=by rw[←hE,List.getD_eq_getElem?_getD,List.getElem?_map,List.getElem?_eq_getElem hkt];rfl
    rw[this])
   rw[←hits1] at hset
   conv=>whnf
   repeat' (first|((first|((apply zZ);first|exact tB|((conv=>whnf);(repeat ((first|refine pC (rM its1[k].e lv (by rw[hke];have:=aa.bL (List.getElem_mem hkt);omega)) (by ((repeat' (first|exact aY.nil|apply aY.cons|exact Wk.refl _|exact Wk.int OA|exact Wk.tt rfl|exact Wk.ff rfl|exact Wk.eg rfl|exact Wk.tok _ _ _));first|done|fail)) ?_|refine aH ?_);conv=>whnf));exact pZ))|refine oD ?_);conv=>whnf)|(refine zX (fun hc=>?_) (fun hc=>?_)<;>(try simp only[SY] at hc)<;>first|omega|(conv=>whnf)))
   refine bZ.row (f:=cO.pv) (l:=its1) ({ its1[k] with e:=its1[k].e.ask lv }:cO) (by omega) rfl rfl rfl (xs:=(its1[k].e.ask lv).cells) (gm.refl _) rfl ?_;rw[hset]
   conv=>whnf
   repeat' (first|((refine aM ?_);conv=>whnf)|(refine zX (fun hc=>?_) (fun hc=>?_)<;>(try simp only[SY] at hc)<;>omega))
   exact av (k + 1,qM t.v E t.t pr lt ln i (k + 1)) ⟨by show k + 1≤_;omega,rfl⟩ (by show i - (k + 1) < i - k;omega) wA
  ·obtain rfl:k=i:=by omega
   have hkt:its1.length < t.t.length:=by omega
   conv=>whnf
   skip
   refine kG.no (by simp;omega) ?_
   conv=>whnf
   repeat (((first|((apply zZ);first|exact tB|((conv=>whnf);(repeat ((first|(refine eE.map fun _=>?_)|refine pC (rM t.t[its1.length] lv (by have:=aa.bL (List.getElem_mem hkt);omega)) (by ((repeat' (first|exact aY.nil|apply aY.cons|exact Wk.refl _|exact Wk.int OA|exact Wk.tt rfl|exact Wk.ff rfl|exact Wk.eg rfl|exact Wk.tok _ _ _));first|done|fail)) ?_);conv=>whnf));exact pZ))|refine aF ?_|refine oD ?_|intro _);conv=>whnf))
   rename_i b10 b11;have hbk:lv.length=0∨0 < lv.length:=by omega
   refine mu.join (fun _:Tok=> []) (fun tk=> [.box b11 [.ms tk],.row tk ((ni lv).map aa.pv),.box b10 [.int .i64 (t.t[its1.length].ask lv).op,.int .i64 (t.t[its1.length].ask lv).n,.sl 1 ((t.t[its1.length].ask lv).v.map (PV.int .i64)) none,.sl 4 ((t.t[its1.length].ask lv).t.map aa.pv) none],.row ti (its1.map cO.pv),.box b [.mp r,.int .i64 nx],.mp r (.int .i64) (aS L) [],.box b4 [.int .i64 0,.int .i64 0,.nil,.nil],.box b3 [.int .i64 t.op,.int .i64 t.n,.sl 1 (t.v.map (PV.int .i64)) none,.sl 4 (t.t.map aa.pv) none]]) (fun tk=>tk.e=26∧tk.s=4) ?_ ?_
   ·conv=>whnf
    repeat' (first|((first|refine aM ?_|intro _);conv=>whnf)|(refine zX (fun hc=>?_) (fun hc=>?_)<;>(try simp only[SY] at hc)<;>(conv=>whnf)))
    ·obtain ⟨l0,hl0⟩: ∃ l0:List aa,l0= []:=⟨_,rfl⟩
     have hl0l:l0.length=0:=by rw[hl0];rfl
     refine aE.ghost (au.trans (au.EE 4 26 _ l0 hl0) (au.box (b:=b11) (cs:= [.nil]) (cs':= [.ms (aC 4 26)]) (.cons (Wk.cE _ _) .nil))) ?_;have hz1:(aC 4 26).e=26:=rfl;have hz2:(aC 4 26).s=4:=rfl;generalize aC 4 26=tz at *;refine aE.tree ai mixed [0,0,1,0,15,31,63,31] [1,3] [0,2,4,5,6,7] [.box b11 [.ms tz],.row tz (l0.map aa.pv)] ?_
     conv=>whnf
     conv=>whnf
     repeat' (first|((first|((apply zZ);exact tB)|refine aM ?_|(refine And.intro ?_ ?_)|(refine eE.map fun _=>?_)|(refine eW.Nv (l:=l0++ [aa.mk 0 0 [] []]) (by assumption) (by omega) (by simp;omega) ?_)|(refine bZ.rA (f:=aa.pv) (l:=l0++ [aa.mk 0 0 [] []]) (by simp) rfl rfl rfl ?_)|refine aF ?_|intro _);conv=>whnf)|(refine zX (fun hc=>?_) (fun hc=>?_)<;>(try simp only[SY] at hc)<;>omega))
     all_goals try exact trivial
     all_goals
      rename Tok=>t5
      have hu:l0++ [aa.mk 8 0 lv ut]=ni lv:=by
       rw[hl0];unfold ni;rw[if_neg (by omega),huts];rfl
      rw[nN,hu];exact gH t5 ⟨by assumption,by assumption⟩ wA
    ·refine Ia (aC 4 26) ⟨rfl,rfl⟩ (au.trans (au.EE 4 26 _ (ni lv) (by unfold ni;rw[if_pos (by omega)])) (au.box (b:=b11) (cs:= [.nil]) (cs':= [.ms (aC 4 26)]) (.cons (Wk.cE _ _) .nil))) wA
   ·rintro tk ⟨h1,h2⟩
    conv=>whnf
    skip
    obtain ⟨LK,hLK⟩: ∃ l,l=ni lv++if t.n=1 then m9 t.v E pr lt (dF t.v E pr lt ln) k else jK t.v E pr lt (dF t.v E pr lt ln) nx k:=⟨_,rfl⟩
    obtain ⟨ny,hny⟩: ∃ k1,k1=if t.n=1 then nx else nx + th pr lt k:=⟨_,rfl⟩
    refine mu.join (fun _:Tok=> []) (fun tk=> [.box b11 [.ms tk],.row tk (LK.map aa.pv),.box b10 [.int .i64 (t.t[its1.length].ask lv).op,.int .i64 (t.t[its1.length].ask lv).n,.sl 1 ((t.t[its1.length].ask lv).v.map (PV.int .i64)) none,.sl 4 ((t.t[its1.length].ask lv).t.map aa.pv) none],.box b [.mp r,.int .i64 ny],.mp r (.int .i64) (aS L) [],.box b4 [.int .i64 0,.int .i64 0,.nil,.nil]]) (fun tk=>tk.e=26∧tk.s=4) ?_ ?_
    ·rw[FY] at hits1
     have hFI:iP its1=dF t.v E pr lt ln:=by rw[hits1];exact FN hnn hpl hltl hnl
     have hfl:=C1 t.v E pr lt ln;have hul:(ni lv).length≤1:=by unfold ni;split<;>simp
     have hlj: ∀ j,j < k→ln.getD j []∈ln:=fun j hj=>by
      rw[List.getD_eq_getElem?_getD,List.getElem?_eq_getElem (by omega)];exact List.getElem_mem _
     have hln1: ∀ x∈its1,x.ln.length≤500:=fun x hx=>by
      rw[hits1] at hx;obtain ⟨j,hj,rfl⟩:=List.mem_map.1 hx;exact hll _ (hlj j (List.mem_range.1 hj))
     have hln2: ∀ x∈its1, ∀ y∈x.ln,0≤y∧y < (its1.length:Int):=fun x hx y hy=>by
      rw[hits1] at hx;obtain ⟨j,hj,rfl⟩:=List.mem_map.1 hx;have:=hgo _ (hlj j (List.mem_range.1 hj)) y hy;omega
     conv=>whnf
     repeat' (first|refine aX ?_|(refine zX (fun hc=>?_) (fun hc=>?_)<;>(try simp only[SY] at hc)<;>(conv=>whnf)))
     ·rw[if_pos (by assumption)] at hLK hny
      refine aq.go (Jw b11 tk (ni lv) its1 ti h1 h2 (by omega) hts (by omega) hln1 hln2 (by rw[hFI];omega)) (aY.refl _) ?_;rintro _ _ ⟨tk2,e1,e2,rfl,rfl⟩;have hS:=Jx (V:=t.v) (E:=E) (pr:=pr) (lt:=lt) (ln:=ln) (n:=k) (dF t.v E pr lt ln);rw[←hits1] at hS;rw[hFI,hS, ←hLK]
      conv=>whnf
      skip
      rw[←hny];exact gH tk2 ⟨e1,e2⟩ wA
     ·rw[if_neg (by assumption)] at hLK hny
      refine aq.go (Gj b r L nx b11 tk (ni lv) its1 ti hnx h1 h2 (by omega) hts (by omega) hln1 hln2 (by rw[hFI];omega)) (aY.refl _) ?_;rintro _ _ ⟨tk2,e1,e2,rfl,rfl⟩;have hS:=Gk (V:=t.v) (E:=E) (ln:=ln) hpl hltl (dF t.v E pr lt ln) nx;have hT:=DK (V:=t.v) (E:=E) (ln:=ln) hpl hltl k;rw[←hits1] at hS hT;have hT2:Cn its1 its1.length=th pr lt k:=by rw[hil1];exact hT
      rw[hFI,hS,hT2, ←hLK, ←hny]
      conv=>whnf
      skip
      exact gH tk2 ⟨e1,e2⟩ wA
    ·rintro tk ⟨h1,h2⟩
     have hEk:E.getD k gr=t.t[its1.length].ask lv:=by
      rw[←hE,List.getD_eq_getElem?_getD,List.getElem?_map,show t.t[k]?=some t.t[its1.length] by rw[←hil1];exact List.getElem?_eq_getElem hkt];rfl
     rw[←hLK, ←hny,hEk] at hR;rw[hR] at hrb ⊢;have hob:=vz LK (t.t[its1.length].ask lv)
     have hlb:(LK.map Il).sum=aa.aD LK:=by
      rw[nv];congr 1
      exact List.map_congr_left fun x _=>(by rw[x.bu];rfl)
     have hLl:=aa.aZ LK;dsimp only at hrb ⊢;generalize t.t[its1.length].ask lv=bo at *
     conv=>whnf
     repeat (refine wj ?_)
     refine aq.IT tk (LK.map aa.pv) (.cons (qz.ms' h2) (.cons (qz.of (Wk.refl _)) .nil)) (IE LK bo (by omega) (by omega)) ?_
     conv=>whnf
     repeat' (first|refine aX ?_|(refine zX (fun hc=>?_) (fun hc=>?_)<;>(try simp only[SY] at hc)<;>omega))
     exact ak.gen (y:=.agg (kT LK bo).cells) (Γ':=AR b r L ny) ec.wk ⟨rfl,rfl⟩
theorem AJ (t:aa) (x:Int):x∈iZ t↔x∈t.vars:=by unfold iZ;exact vt _ _
theorem eL.fits {p:Prog} {level:Int} (h:eL p level):p.body.NG∧p.body.dep≤400∧(∀ x∈p.body.vars,0≤x∧x≤1000000):=by
 have h1:=p.body.BI h.2.2.1;exact ⟨p.body.KX h.2.2.1,by omega,fun x hx=>⟨(h.2.2.2.2.1 x hx).1,(h.2.2.2.2.1 x hx).2.1⟩⟩
theorem Fg (t:aa) (h:t.dep < 1000):(iZ t).length≤t.aR:=by
 have:=(t.DZ 0 [] List.Pairwise.nil).2.1;rw[t.J9 h] at this;simpa using this
theorem Df:Wk (.agg [.nil,.int .i64 0,.int .i64 0,.nil,.nil]) (.agg OL.cells):=Wk.agg (.cons (Wk.eg rfl) (.cons (Wk.refl _) (.cons (Wk.refl _) (.cons (Wk.eg rfl) (.cons (Wk.eg rfl) .nil)))))
theorem eL.binds {p:Prog} {level:Int} (h:eL p level):(fF (bx p.body.all)).length=p.body.vars.length:=by
 have h1:=p.body.EA [] 0 (by have:=p.body.BI h.2.2.1;omega);have h2:bx p.body.all=p.body.vars:=h1.2;rw[h2];exact I9 h.2.2.2.2.2
theorem w6 (A:Int→Bool) (x:aa): ∀ (l:List aa) (nx:Int),aa.cz A (l++ [x]) nx=((aa.cz A l nx).1++ [(x.mD A (aa.cz A l nx).2).1],(x.mD A (aa.cz A l nx).2).2)
 | [],nx=>by rw[List.nil_append,aa.cz,aa.cz];rfl
 | y::l,nx=>by rw[List.cons_append,aa.cz,w6 A x l,aa.cz];rfl
theorem Ls (pr lt:List Bool) (k:Nat):0≤th pr lt k∧th pr lt k≤k:=by
 unfold th;have:=List.length_filter_le (fun i=>!pr.getD i false && lt.getD i false) (List.range k);rw[List.length_range] at this;omega
theorem K7 (A:Int→Bool) (N:Int) (V:List Int) (T:List aa) (nx:Int):nx≤(kV A N V T nx).2∧(kV A N V T nx).2≤nx + V.length:=by
 unfold kV;dsimp only;have:=Ls (ei A V T) (iU N (ei A V T) (bT V T)) V.length
 split<;>omega
theorem Mm (A:Int→Bool) (t:aa): ∀ nx:Int,nx≤(t.mD A nx).2∧(t.mD A nx).2≤nx + t.aR:=by
 induction t using aa.ind with
 | h t ih=>
  intro nx
  have key: ∀ l:List aa,(∀ x∈l, ∀ nx:Int,nx≤(x.mD A nx).2∧(x.mD A nx).2≤nx + x.aR)→ ∀ nx:Int,nx≤(aa.cz A l nx).2∧(aa.cz A l nx).2≤nx + aa.aD l:=by
   intro l
   induction l with
   | nil=>intro _ nx;rw[aa.cz,aa.aD];exact ⟨Int.le_refl _,by show nx≤nx + ((0:Nat):Int);omega⟩
   | cons x l ihl=>
    intro h nx;rw[aa.cz,aa.aD];have h1:=h x (by simp) nx;have h2:=ihl (fun y hy=>h y (by simp[hy])) (x.mD A nx).2;dsimp only;omega
  have hk:=key t.t ih nx;rw[aa.oC,t.bu]
  split
  ·have:=K7 A t.n t.v (aa.cz A t.t nx).1 (aa.cz A t.t nx).2
   omega
  ·dsimp only
   omega
theorem yO (A:Int→Bool): ∀ (l:List aa) (nx:Int),nx≤(aa.cz A l nx).2∧(aa.cz A l nx).2≤nx + aa.aD l
 | [],nx=>by rw[aa.cz,aa.aD];exact ⟨Int.le_refl _,by show nx≤nx + ((0:Nat):Int);omega⟩
 | x::l,nx=>by
  rw[aa.cz,aa.aD];have h1:=Mm A x nx;have h2:=yO A l (x.mD A nx).2;dsimp only;omega
def NL (b r:Nat) (L:List Int) (x:aa):Prop:= ∀ k:Int,0≤k→k + x.aR≤1000000000→
 af Tryz.prog 32 [.ptr b 0,.agg x.cells] (AR b r L k) (fun y Γ'=>y=.agg (x.mD L.contains k).1.cells∧Γ'=AR b r L (x.mD L.contains k).2)
theorem Fo {p q:Prop} (k:q) (h:q→p:=by intro hq;first | exact aE.sP (some 8) rfl [8] [9] ai mixed hq):p:=h k
theorem Du (b r:Nat) (L:List Int) (t:aa) (k:Int) (hf: ∀ x∈t.t,NL b r L x) (h0:0≤k) (hk:k + aa.aD t.t≤1000000000) (hb:t.aR≤1000000000):
  af Tryz.prog 51 [.agg t.cells,.fm 32 (.ptr b 0)] (AR b r L k) (fun y Γ'=>y=.agg (aa.mk t.op t.n t.v (aa.cz L.contains t.t k).1).cells∧Γ'=AR b r L (aa.cz L.contains t.t k).2):=by
 have hbe:=t.bu;have hbs:=aa.aZ t.t;refine af.ah ai Tryz.func51 rfl rfl (n:=33) rfl rfl ?_
 conv=>whnf
 repeat (first|refine wj ?_|((first|((apply zZ);(conv=>whnf);(repeat ((refine pC (ux t.v (by omega)) wR ?_);conv=>whnf));exact pZ)|refine Fo ?_|intro _);conv=>whnf))
 rename_i b2 b4 b5 _;refine ax.jy (au.trans (au.nil 4 26 _) (au.box (b:=b5) (cs:= [.int .i64 t.op,.int .i64 t.n,jN t.v,.nil]) (cs':= [.int .i64 t.op,.int .i64 t.n,jN t.v,.sl 4 (([]:List aa).map aa.pv) (some (aC 4 26))]) wA)) ?_
 refine ax.over [7,19,20,21,22,23,24,25,26,27,28,29,30,31] (fun x:Nat×List aa×Tok×Int=> [(19,.int .i64 x.1)]) (fun x=> [.box b5 [.int .i64 t.op,.int .i64 t.n,jN t.v,.sl 4 (x.2.1.map aa.pv) (some x.2.2.1)],.tok x.2.2.1,.box b4 [.int .i64 0,.int .i64 0,.nil,.nil],.box b2 [.int .i64 t.op,.int .i64 t.n,jN t.v,.sl 4 (t.t.map aa.pv) none],.box b [.mp r,.int .i64 x.2.2.2],.mp r (.int .i64) (aS L) []])
  (fun x=>x.1≤t.t.length∧x.2.2.1.e=26∧(x.2.1,x.2.2.2)=aa.cz L.contains (t.t.take x.1) k) (fun x=>t.t.length - x.1) (0, [],aC 4 26,k) ⟨Nat.zero_le _,rfl,by rw[List.take_zero,aa.cz]⟩ wA ?_
 rintro ⟨i,l,tk,nx⟩ ⟨hi,hte,hl⟩;dsimp only at hi hte hl⊢
 have hrl:l.length=i:=by
  have:=ju L.contains (t.t.take i) k;rw[←hl,List.length_take] at this;dsimp only at this;omega
 rcases Nat.lt_or_ge i t.t.length with hlt | hge
 ·have hbt:aa.aD (t.t.take i) + (t.t[i]).aR≤aa.aD t.t:=by
   have h1:t.t.take (i + 1)++t.t.drop (i + 1)=t.t:=List.take_append_drop _ _;have h2:=congrArg aa.aD h1;rw[List.take_succ_eq_append_getElem hlt,lE,lE,aa.aD,aa.aD] at h2;omega
  have hle:=yO L.contains (t.t.take i) k;rw[←hl] at hle;have hsn:=w6 L.contains t.t[i] (t.t.take i) k;rw[←hl, ←List.take_succ_eq_append_getElem hlt] at hsn;dsimp only at hle hsn;have hcl:=hf _ (List.getElem_mem hlt) nx (by omega) (by omega)
  obtain ⟨y,hy⟩: ∃ y,t.t[i].mD L.contains nx=y:=⟨_,rfl⟩
  obtain ⟨y,ny⟩:=y;rw[hy] at hsn hcl;dsimp only at hsn hcl
  conv=>whnf
  repeat' (first|refine aX ?_|((intro _);conv=>whnf)|(refine zX (fun hc=>?_) (fun hc=>?_)<;>(try simp only[SY] at hc)<;>first|omega|(conv=>whnf)))
  refine aE.sE [.tok tk,.box b [.mp r,.int .i64 nx],.mp r (.int .i64) (aS L) []] [4,5] [6,7,8] ai mixed ?_
  conv=>whnf
  repeat (refine wj ?_)
  refine aq.go hcl (aY.refl _) ?_;rintro _ _ ⟨rfl,rfl⟩
  conv=>whnf
  repeat' (first|refine aX ?_|((intro _);conv=>whnf)|(refine zX (fun hc=>?_) (fun hc=>?_)<;>(try simp only[SY] at hc)<;>omega))
  rename Tok=>t5
  exact av (i + 1,l++ [y],t5,ny) ⟨by show i + 1≤_;omega,by assumption,hsn.symm⟩ (by show t.t.length - (i + 1) < t.t.length - i;omega) wA
 ·rw[List.take_of_length_le (by omega)] at hl
  rw[←hl]
  conv=>whnf
  repeat' (first|refine aX ?_|(refine zX (fun hc=>?_) (fun hc=>?_)<;>(try simp only[SY] at hc)<;>first|omega|(conv=>whnf)))
  exact ak.gen (y:=.agg (aa.mk t.op t.n t.v l).cells) (Γ':=AR b r L nx) ec.wk ⟨rfl,rfl⟩
theorem wW: ∀ l:List aa,(l.length:Int)≤aa.cR l
 | []=>by rw[aa.cR];exact Int.le_refl _
 | x::l=>by
  have h1:=x.pM;have h2:=wW l;rw[aa.cR,List.length_cons];omega
theorem Hz (A:Int→Bool): ∀ (l:List aa) (nx:Int) (M:Int),(∀ x∈l,x.Gu)→(∀ x∈l,(x.cnt:Int) + 10≤M)→(aa.cg 1 (aa.cz A l nx).1:Int)≤aa.aD l∧(aa.aD (aa.cz A l nx).1:Int)≤M * aa.aD l
 | [],nx,M,_,_=>by rw[aa.cz,aa.cg,aa.aD];simp
 | x::l,nx,M,h,hM=>by
  rw[aa.cz];dsimp only;rw[aa.cg,aa.aD,aa.aD];have h1:=uD A x (h x (by simp)) nx;have h2:=Hz A l (x.mD A nx).2 M (fun y hy=>h y (by simp[hy])) (fun y hy=>hM y (by simp[hy]));have h3:=hM x (by simp);have h4:((x.cnt:Int) + 10) * x.aR≤M * x.aR:=Int.mul_le_mul_of_nonneg_right h3 (by omega);simp only[Int.natCast_add,Int.mul_add];exact ⟨by omega,by omega⟩
theorem qE {l:List aa} {x:aa} (h:x∈l):x.cnt≤aa.cR l:=by
 induction l with
 | nil=>cases h
 | cons y l ih=>
  rw[aa.cR];have hy:=y.pM;have hl:0≤aa.cR l:=aa.ee l;rcases List.mem_cons.1 h with rfl | h
  ·omega
  ·have:=ih h;omega
theorem JC (M B:Int) (h0M:0≤M) (hMB:M * B≤600000000) (hB:B≤3000000) (b r:Nat) (L:List Int) (t:aa):t.Gu→t.cnt≤500→t.cnt + 10≤M→t.aR≤B→NL b r L t:=by
 induction t using aa.ind with
 | h t ih=>
  intro hs hcn hcM hb k h0 hk;have hbe:=t.bu;have hbs:=aa.aZ t.t;have hmb:M * (aa.aD t.t:Int)≤M * B:=Int.mul_le_mul_of_nonneg_left (by omega) h0M;have hce:=t.lF;have hs2:=(t.oX).1 hs;have hxs:=aa.jL hs2.2;have hcl:=Hz L.contains t.t k M hxs fun x hx=>by have:=qE hx;omega
  have hle:=yO L.contains t.t k;have hrb:=Du b r L t k (fun x hx=>ih x hx (hxs x hx) (by have:=qE hx;omega) (by have:=qE hx;omega) (by have:=aa.bL hx;omega)) h0 (by omega) (by omega);have hlen:=ju L.contains t.t k;have hcv:=t.oC L.contains k;generalize aa.cz L.contains t.t k=C at *;obtain ⟨E,nz⟩:=C;dsimp only at hcl hle hrb hlen hcv;rw[hcv];refine af.ah ai Tryz.func32 rfl rfl (n:=17) rfl rfl ?_
  conv=>whnf
  repeat' (first|refine aX ?_|((intro _);conv=>whnf)|(refine zX (fun hc=>?_) (fun hc=>?_)<;>(try simp only[SY] at hc)<;>omega))
  refine aq.go hrb (aY.refl _) ?_;rintro _ _ ⟨rfl,rfl⟩
  conv=>whnf
  repeat' (first|refine aX ?_|((intro _);conv=>whnf)|(refine zX (fun hc=>?_) (fun hc=>?_)<;>(try simp only[SY] at hc)<;>(conv=>whnf)))
  ·have hvl:E.length=t.v.length + 1:=by rw[hlen];exact hs2.1 hc
   have hcl2:=wW t.t;rw[if_pos hc];have hrc:=K6 b r L nz (aa.mk t.op t.n t.v E) (by show aa.aD E + aa.cg 1 E + 9 * t.v.length + 10≤_;omega) hvl (by show t.v.length≤500;omega) (by omega);change af _ _ _ _ (fun y Γ'=>y=.agg (kV L.contains t.n t.v E nz).1.cells∧Γ'=AR b r L (kV L.contains t.n t.v E nz).2) at hrc;generalize kV L.contains t.n t.v E nz=R at *;refine aq.go hrc (aY.refl _) ?_;rintro _ _ ⟨rfl,rfl⟩
   conv=>whnf
   repeat' (first|refine aX ?_|(refine zX (fun hc=>?_) (fun hc=>?_)<;>(try simp only[SY] at hc)<;>omega))
   exact ak.gen (y:=.agg R.1.cells) (Γ':=AR b r L R.2) ec.wk ⟨rfl,rfl⟩
  ·rw[if_neg hc]
   exact ak.gen (y:=.agg (aa.mk t.op t.n t.v E).cells) (Γ':=AR b r L nz) ec.wk ⟨rfl,rfl⟩
theorem EI {o:Int} (ho:o=12∨o=13∨o=14) {c codes:Int} {free:Bool} (t:aa): ∀ {sc:List Int} {deep:Int},t.wg 0 c codes free sc deep→t.ct o=0:=by
 induction t using aa.ind with
 | h t ih=>
  intro sc deep h;rw[aa.mU] at h;rw[aa.mC]
  have h1: ¬t.op=o:=fun e=>by
   have hs:=h.1.2.1;rw[e] at hs;rcases ho with rfl | rfl | rfl<;>exact absurd hs (by decide)
  rw[if_neg h1,Nat.zero_add,fK]
  have: ∀ x∈t.t.map (aa.ct o),x=0:=fun x hx=>by
   obtain ⟨y,hy,rfl⟩:=List.mem_map.1 hx;obtain ⟨s,d,hy2⟩:=zu h.2 y hy;exact ih y hy hy2
  generalize t.t.map (aa.ct o)=l at this
  induction l with
  | nil=>rfl
  | cons a l ihl=>rw[List.sum_cons,this a (by simp),ihl (fun x hx=>this x (by simp[hx]))]
theorem Ll (t:aa):t.ct 14=0→t.Aq=t.J1:=by
 induction t using aa.ind with
 | h t ih=>
  intro h;rw[aa.mC] at h;rw[aa.G8,aa.Jv];have h1: ¬t.op=14:=fun e=>by rw[if_pos e] at h;omega
  have key: ∀ l:List aa,(∀ x∈l,x.ct 14=0→x.Aq=x.J1)→aa.cg 14 l=0→aa.yl l=aa.vT l:=by
   intro l
   induction l with
   | nil=>intro _ _;rw[aa.yl,aa.vT]
   | cons x l ihl=>
    intro hx hl;rw[aa.cg] at hl;rw[aa.yl,aa.vT,hx x (by simp) (by omega),ihl (fun y hy=>hx y (by simp[hy])) (by omega)]
  rw[key t.t ih (by omega)];by_cases h2:t.op=2
  ·rw[if_pos (.inl h2),if_pos h2]
  ·rw[if_neg (by omega),if_neg h2]
def eO (p:Prog):Prog×Int:=if hU p 0=0 then (if hU (pO p) 1=0 then (pO p,0) else (OL,5)) else (OL,5)
theorem Ml {A B:Int→Bool} (h: ∀ v,A v=B v) (t:aa) (nx:Int):t.mD A nx=t.mD B nx:=by rw[show A=B from funext h]
theorem Fp {p q:Prop} (k:q) (h:q→p:=by intro hq;first | exact aE.sP (some 14) rfl [] [6] ai mixed hq):p:=h k
theorem Ht (M B:Int) (h0M:0≤M) (hMB:M * B≤600000000) (hB:B≤3000000) (p:Prog) (hcn:p.body.cnt≤500) (hcM:p.body.cnt + 10≤M) (hb:p.body.aR≤B) (hl:p.consts.length≤1000000000):
  aA Tryz.prog 13 [.agg p.cells] (.bp [.agg (eO p).1.cells,.int .i64 (eO p).2]):=by
 have he:=AP p 0;have hR:hU p 0=0→eL p 0:=fun h=>(pG p 0).1 (by rw[←he];exact h);refine af.ah ai Tryz.func13 rfl rfl (n:=50) rfl rfl ?_
 conv=>whnf
 repeat' (first|refine aX ?_|((first|refine pC (AQ p 0 (by omega) (by omega)) wR ?_|refine Fp ?_|intro _);conv=>whnf)|(refine zX (fun hc=>?_) (fun hc=>?_)<;>(try simp only[SY] at hc)<;>(conv=>whnf)))
 ·rename_i hc
  exact ak.pure (Wk.bp (.cons (by rw[eO,if_neg hc];exact Df) (.cons (by rw[eO,if_neg hc];exact Wk.refl _) .nil)))
 ·rename_i b1 b2 r bc
  obtain ⟨hshp,hdep,hvr⟩:=(hR hc).fits;have hrsh:=p.body.zq (hR hc).2.2.1;have hasg:=Ll p.body (EI (.inr (.inr rfl)) p.body (hR hc).2.2.1);have hrise:=p.body.Cx (by omega);have hbl:=Fg p.body (by omega);have hcnv:eO p=if hU ⟨p.consts,(p.body.mD (fun v=>p.body.Aq.contains v) (fZ p.body)).1⟩ 1=0 then (⟨p.consts,(p.body.mD (fun v=>p.body.Aq.contains v) (fZ p.body)).1⟩,0) else (OL,5):=by rw[eO,if_pos hc];rfl
  have hcb:=(uD (fun v=>p.body.Aq.contains v) p.body hrsh (fZ p.body)).2;have hcb2:((p.body.cnt:Int) + 10) * p.body.aR≤M * B:=Int.le_trans (Int.mul_le_mul_of_nonneg_right (by omega) (by omega)) (Int.mul_le_mul_of_nonneg_left hb h0M);rw[B5];refine aq.go (Jr r p.body [] (by omega)) (aY.refl _) ?_;rintro _ _ ⟨rfl,L',hL',rfl⟩
  have hcv:p.body.mD L'.contains (fZ p.body)=p.body.mD (fun v=>p.body.Aq.contains v) (fZ p.body):=Ml (fun v=>by
   rw[Bool.eq_iff_iff,hasg];simp[hL']) _ _
  have hn0:0≤fZ p.body∧fZ p.body≤1000001:=by
   unfold fZ
   split
   ·omega
   ·rename_i h0
    have hlt:(iZ p.body).length - 1 < (iZ p.body).length:=by have:=List.length_pos_iff.2 h0;omega
    have e:(iZ p.body).getD ((iZ p.body).length - 1) 0=(iZ p.body)[(iZ p.body).length - 1]:=by simp[List.getD,hlt]
    have:=hvr _ ((AJ _ _).1 (List.getElem_mem hlt));rw[e];omega
  obtain ⟨hn0,hn1⟩:=hn0;have hbc:=Kg p.body (by omega);rw[hrise] at hbc;have hcl:=CF p.consts hl;have htm:=JC M B h0M hMB hB bc r L' p.body hrsh hcn hcM hb (fZ p.body) hn0 (by omega);rw[hcv] at htm;generalize p.body.mD (fun v=>p.body.Aq.contains v) (fZ p.body)=R at *;have hck:=AQ ⟨p.consts,R.1⟩ 1 (by show R.1.aR≤_;omega) hl
  conv=>whnf
  repeat' (first|refine aX ?_|((first|refine pC (hbc) wR ?_|intro _);conv=>whnf)|(refine zX (fun hc=>?_) (fun hc=>?_)<;>(try simp only[SY] at hc)<;>(conv=>whnf)))
  ·have hlt:(iZ p.body).length - 1 < (iZ p.body).length:=by omega
   have e:(iZ p.body).getD ((iZ p.body).length - 1) 0=(iZ p.body)[(iZ p.body).length - 1]:=by simp[List.getD,hlt]
   have h1:=hvr _ ((AJ _ _).1 (List.getElem_mem hlt))
   have hn:fZ p.body=(iZ p.body)[(iZ p.body).length - 1] + 1:=by
    unfold fZ;rw[if_neg (by intro h;rw[h] at hlt;simp at hlt),e]
   refine jo.ok (by omega) (by omega) ?_;rw[←hn]
   conv=>whnf
   repeat' (first|refine aX ?_|(refine zX (fun hc=>?_) (fun hc=>?_)<;>(try simp only[SY] at hc)<;>omega))
   refine aE.sF (some 37) rfl [.box bc [.mp r,.int .i64 (fZ p.body)],.mp r (.int .i64) (aS L') []] [6,7] [] [8] [9] ai mixed ?_
   conv=>whnf
   repeat (first|refine wj ?_|((((apply zZ);(conv=>whnf);(repeat ((refine pC (hcl) wR ?_);conv=>whnf));exact pZ));conv=>whnf))
   refine aq.go htm (aY.refl _) ?_;rintro _ _ ⟨rfl,rfl⟩
   conv=>whnf
   repeat' (first|refine aX ?_|((first|refine pC (hck) wR ?_|intro _);conv=>whnf)|(refine zX (fun hc=>?_) (fun hc=>?_)<;>(try simp only[SY] at hc)<;>(conv=>whnf)))
   ·exact ak.pure (Wk.bp (.cons (by rw[hcnv,if_neg hc];exact Df) (.cons (by rw[hcnv,if_neg hc];exact Wk.refl _) .nil)))
   ·exact ak.pure (Wk.bp (.cons (by rw[hcnv,if_pos hc];exact Wk.refl _) (.cons (by rw[hcnv,if_pos hc];exact Wk.refl _) .nil)))
  ·have hn:fZ p.body=0:=by
    unfold fZ;rw[if_pos (List.eq_nil_of_length_eq_zero (by omega))]
   rw[show PV.int .i64 0=PV.int .i64 (fZ p.body) by rw[hn]];refine aE.sF (some 37) rfl [.box bc [.mp r,.int .i64 (fZ p.body)],.mp r (.int .i64) (aS L') []] [6,7] [] [8] [9] ai mixed ?_
   conv=>whnf
   repeat (first|refine wj ?_|((((apply zZ);(conv=>whnf);(repeat ((refine pC (hcl) wR ?_);conv=>whnf));exact pZ));conv=>whnf))
   refine aq.go htm (aY.refl _) ?_;rintro _ _ ⟨rfl,rfl⟩
   conv=>whnf
   repeat' (first|refine aX ?_|((first|refine pC (hck) wR ?_|intro _);conv=>whnf)|(refine zX (fun hc=>?_) (fun hc=>?_)<;>(try simp only[SY] at hc)<;>(conv=>whnf)))
   ·exact ak.pure (Wk.bp (.cons (by rw[hcnv,if_neg hc];exact Df) (.cons (by rw[hcnv,if_neg hc];exact Wk.refl _) .nil)))
   ·exact ak.pure (Wk.bp (.cons (by rw[hcnv,if_pos hc];exact Wk.refl _) (.cons (by rw[hcnv,if_pos hc];exact Wk.refl _) .nil)))
theorem AX (p:Prog) (hcn:p.body.cnt≤500) (hb:p.body.aR≤1100000) (hl:p.consts.length≤1000000000):
  aA Tryz.prog 13 [.agg p.cells] (.bp [.agg (eO p).1.cells,.int .i64 (eO p).2]):=Ht 510 1100000 (by decide) (by decide) (by decide) p hcn (by omega) (by omega) hl
theorem af.ap {P:Program} {f:FuncId} {args:List PV} {Γ:List aj} {Q:PV→List aj→Prop} (h0: ∃ fn,P.funcs[f]?=some fn∧fn.body.isNone=false∧(fn.name == "runtime.NumGoroutine")=false) (h:Γ.Pairwise aj.apart→af P f args Γ Q):af P f args Γ Q:=
 ⟨h0,fun w0 F M w vs hS hR=>(h (List.pairwise_append.1 hS.sep).1).2 w0 F M w vs hS hR⟩
abbrev E6:aa:=.mk 12 0 [] [.mk 1 1 [] []]
abbrev PO:aa:=.mk 4 0 [] [E6]
abbrev OS:aa:=.mk 2 1 [] [.mk 5 0 [] [.mk 1 0 [] []]]
abbrev OR:aa:=.mk 6 0 [] [OS,E6]
abbrev OQ:aa:=.mk 9 0 [0] [PO,OR]
abbrev NI:aa:=.mk 8 0 [1] [.mk 13 0 [] [],OQ]
section
variable (b:Nat) (K:List Vl) (tk:Tok) (s:kE)
abbrev eR:Vl→Int→kE→Tok→Prop:=fun _ c s' _=>c=5∧s'.out= []
theorem O2 (e:iD) (h0:3≤s.fuel∧s.fuel≤1000) (ho:s.out= []) (a:Nat) (hf:qI e 1=some a) (hg:e8 s.h a=some (fD 12,false)):
  af Tryz.prog 70 [.ptr b 0,.agg E6.cells,cB e,.nil] (eB b K tk s) (kj b K eR):=by
 refine Ee b K tk s E6 e eR (by omega) (by decide) ?_;refine um b K e [.mk 1 1 [] []] (by decide) (fun i m s' tk'=>if i=0 then m= []∧s'=bC s∧tk'=tk else m= [fD 12]∧s'=bC (bC s)∧tk'=tk) _ (bC s) tk ⟨rfl,rfl,rfl⟩ ?_ ?_
 ·intro i m s' tk' hP hi
  obtain rfl:i=0:=by simpa using hi
  obtain ⟨rfl,rfl,rfl⟩:=hP;refine (LJ b K tk' (bC s) (.mk 1 1 [] []) e (by show 0 < s.fuel - 1∧s.fuel - 1≤_;omega) rfl a hf (fD 12) false hg (by simp)).mono ?_;rintro y Γ' ⟨rfl,rfl⟩;exact ⟨_,_,_,_,rfl,rfl,fun _=>⟨rfl,rfl,rfl⟩,fun h=>absurd rfl h⟩
 ·intro m s' tk' hP
  obtain ⟨rfl,rfl,rfl⟩:=hP;refine ⟨fun h=>absurd rfl h,fun _=>?_⟩;refine (Jy b K tk' _ E6 e rfl [fD 12] rfl rfl).mono ?_;rintro y Γ' ⟨rfl,rfl⟩;exact ⟨_,_,_,_,rfl,rfl,rfl,ho⟩
theorem O1 (a0 a1:Nat) (h0:20≤s.fuel∧s.fuel≤1000) (ho:s.out= []) (hne:a0≠a1) (hh:s.h= [(a0,.mk 8 0 0 [] [] (some ⟨[],false,E6, [(0,a0),(1,a1)]⟩) none,false),(a1,fD 12,false)]):
  af Tryz.prog 70 [.ptr b 0,.agg (aa.mk 5 0 [] [.mk 1 0 [] []]).cells,cB [(0,a0),(1,a1)],.nil] (eB b K tk s) (kj b K eR):=by
 have hg0:e8 s.h a0=some (.mk 8 0 0 [] [] (some ⟨[],false,E6, [(0,a0),(1,a1)]⟩) none,false):=by rw[hh,e8,if_pos rfl]
 have hg1:e8 s.h a1=some (fD 12,false):=by rw[hh,e8,if_neg hne,e8,if_pos rfl]
 refine Ee b K tk s (.mk 5 0 [] [.mk 1 0 [] []]) [(0,a0),(1,a1)] eR (by omega) (by decide) ?_;refine um b K [(0,a0),(1,a1)] [.mk 1 0 [] []] (by decide) (fun i m s' tk'=>if i=0 then m= []∧s'=bC s∧tk'=tk else m= [.mk 8 0 0 [] [] (some ⟨[],false,E6, [(0,a0),(1,a1)]⟩) none]∧s'=bC (bC s)∧tk'=tk) _ (bC s) tk ⟨rfl,rfl,rfl⟩ ?_ ?_
 ·intro i m s' tk' hP hi
  obtain rfl:i=0:=by simpa using hi
  obtain ⟨rfl,rfl,rfl⟩:=hP;refine (LJ b K tk' (bC s) (.mk 1 0 [] []) [(0,a0),(1,a1)] (by show 0 < s.fuel - 1∧s.fuel - 1≤_;omega) rfl a0 rfl _ false hg0 (by simp)).mono ?_;rintro y Γ' ⟨rfl,rfl⟩;exact ⟨_,_,_,_,rfl,rfl,fun _=>⟨rfl,rfl,rfl⟩,fun h=>absurd rfl h⟩
 ·intro m s' tk' hP
  obtain ⟨rfl,rfl,rfl⟩:=hP;refine ⟨fun h=>absurd rfl h,fun _=>?_⟩;refine Ng b K tk' (bC (bC s)) eR (.mk 5 0 [] [.mk 1 0 [] []]) rfl [(0,a0),(1,a1)] [.mk 8 0 0 [] [] (some ⟨[],false,E6, [(0,a0),(1,a1)]⟩) none] (by show 0 < 1;decide) ?_;refine N4 b K tk' (bC (bC s)) eR (.mk 8 0 0 [] [] (some ⟨[],false,E6, [(0,a0),(1,a1)]⟩) none) rfl ⟨[],false,E6, [(0,a0),(1,a1)]⟩ rfl [] [] (by decide) (Nat.zero_le _) (fun h=>by cases h) rfl ?_;intro az haz;obtain rfl:az= []:=by simpa using haz
  exact O2 b K tk' (gu (bC (bC s)) (y5 s.h [] [])) [(0,a0),(1,a1)] (by show 3≤s.fuel - 1 - 1∧s.fuel - 1 - 1≤1000;omega) ho a1 rfl hg1
theorem O4 (a0 a1:Nat) (h0:30≤s.fuel∧s.fuel≤1000) (ho:s.out= []) (hh:s.h= [(a0,.mk 8 0 0 [] [] (some ⟨[],false,E6, [(0,a0),(1,a1)]⟩) none,false),(a1,fD 12,false)]):
  af Tryz.prog 70 [.ptr b 0,.agg OR.cells,cB [(0,a0),(1,a1)],.nil] (eB b K tk s) (kj b K eR):=by
 refine af.ap (N9 b K tk (Iu 0) OR [] (by decide)).1 fun hap=>?_
 have hne:a0≠a1:=fun e=>by
  have h2:(Ck s.h).Pairwise aj.apart:=hap.tail.tail;rw[hh] at h2;have h3:=(List.pairwise_cons.1 h2).1 _ (List.mem_singleton.2 rfl);rcases h3 with h1 | h1
  ·cases h1
  ·exact h1 (congrArg some e)
 refine Ee b K tk s OR [(0,a0),(1,a1)] eR (by omega) (by decide) ?_;refine um b K [(0,a0),(1,a1)] [OS,E6] (by decide) (fun i m s' tk'=>i=0∧m= []∧s'=bC s∧tk'=tk) _ (bC s) tk ⟨rfl,rfl,rfl,rfl⟩ ?_ (fun m s' tk' hP=>absurd hP.1 (by decide));rintro i m s' tk' ⟨rfl,rfl,rfl,rfl⟩ hi
 have key:af Tryz.prog 70 [.ptr b 0,.agg OS.cells,cB [(0,a0),(1,a1)],.nil] (eB b K tk' (bC s)) (kj b K eR):=by
  refine Ee b K tk' (bC s) OS [(0,a0),(1,a1)] eR (by show 0 < s.fuel - 1∧s.fuel - 1≤_;omega) (by decide) ?_;refine um b K [(0,a0),(1,a1)] [.mk 5 0 [] [.mk 1 0 [] []]] (by decide) (fun i m s' tk2=>i=0∧m= []∧s'=bC (bC s)∧tk2=tk') _ (bC (bC s)) tk' ⟨rfl,rfl,rfl,rfl⟩ ?_ (fun m s' tk' hP=>absurd hP.1 (by decide));rintro i m s' tk2 ⟨rfl,rfl,rfl,rfl⟩ hi;refine (O1 b K tk2 (bC (bC s)) a0 a1 (by show 20≤s.fuel - 1 - 1∧s.fuel - 1 - 1≤1000;omega) ho hne hh).mono ?_;rintro y Γ' ⟨x,c,s',tk3,e1,e2,rfl,e4⟩;exact ⟨x,5,s',tk3,e1,e2,fun h=>absurd h (by decide),fun _=>⟨fun _=>⟨rfl,e4⟩,fun h=>absurd h (by decide)⟩⟩
 refine key.mono ?_;rintro y Γ' ⟨x,c,s',tk3,e1,e2,rfl,e4⟩;exact ⟨x,5,s',tk3,e1,e2,fun h=>absurd h (by decide),fun _=>⟨fun _=>⟨rfl,e4⟩,fun h=>absurd h (by decide)⟩⟩
theorem O3 (a1:Nat) (h0:40≤s.fuel∧s.fuel≤1000) (ho:s.out= []) (hh:s.h= [(a1,fD 12,false)]):
  af Tryz.prog 70 [.ptr b 0,.agg OQ.cells,cB [(1,a1)],.nil] (eB b K tk s) (kj b K eR):=by
 refine LI b K tk s OQ [(1,a1)] eR (by omega) (by decide) ?_;refine Kf b K tk (bC s) OQ [(1,a1)] eR (.inr rfl) rfl (by decide) (by decide) (fun az i m s' tk'=> ∃ a0,az= [a0]∧tk'=tk∧if i=0 then m= []∧s'=gu (bC s) [(a0,fD 12,false),(a1,fD 12,false)] else m.length=1∧s'=gu (bC (bC s)) [(a0,.mk 8 0 0 [] [] (some ⟨[],false,E6, [(0,a0),(1,a1)]⟩) none,false),(a1,fD 12,false)]) ?_ ?_ ?_
 ·intro az haz
  obtain ⟨a0,rfl⟩: ∃ a,az= [a]:=by
   match az,haz with
   | [a],_=>exact ⟨a,rfl⟩
  refine ⟨a0,rfl,rfl,rfl,?_⟩;show gu (bC s) (Ek s.h false [a0])=_;rw[hh];rfl
 ·rintro az i m s' tk' ⟨a0,rfl,rfl,hP⟩ hi
  obtain rfl:i=0:=by have:i < 1:=hi;omega
  obtain ⟨rfl,rfl⟩:=hP;refine (Ko b K tk' _ PO (hY [(1,a1)] [0] [a0]) (by show 0 < s.fuel - 1∧s.fuel - 1≤_;omega) rfl rfl).mono ?_;rintro y Γ' ⟨rfl,rfl⟩;refine ⟨_,_,_,_,rfl,rfl,fun h=>absurd rfl h,fun _=>⟨fun _=>⟨a0,fD 12,false,rfl,?_⟩,a0,rfl,rfl,?_⟩⟩
  ·show e8 [(a0,fD 12,false),(a1,fD 12,false)] a0=_
   rw[e8,if_pos rfl]
  ·refine ⟨rfl,?_⟩
   rw[if_pos (.inl rfl)];show gu (bC (bC s)) (hput [(a0,fD 12,false),(a1,fD 12,false)] a0 _)=_;rw[hput,if_pos rfl];rfl
 ·rintro az m s' tk' ⟨a0,rfl,rfl,hP⟩ hm
  obtain ⟨_,rfl⟩:=hP;refine ⟨fun h=>absurd h.1 (by decide),?_⟩;rw[if_neg (fun h=>absurd h.1 (by decide))];exact O4 b K tk' _ a0 a1 (by show 30≤s.fuel - 1 - 1∧s.fuel - 1 - 1≤1000;omega) ho rfl
theorem O5:af Tryz.prog 70 [.ptr b 0,.agg NI.cells,.np,.nil] (eB b K tk (Iu 100)) (kj b K eR):=by
 refine LI b K tk (Iu 100) NI [] eR (by decide) (by decide) ?_;refine Ke b K tk (bC (Iu 100)) NI [] eR rfl rfl (by decide) ?_;refine um b K [] [.mk 13 0 [] []] (by decide) (fun i m s' tk'=>if i=0 then m= []∧s'=bC (Iu 100)∧tk'=tk else m= [fD 12]∧s'=bC (bC (Iu 100))∧tk'=tk) _ (bC (Iu 100)) tk ⟨rfl,rfl,rfl⟩ ?_ ?_
 ·intro i m s' tk' hP hi
  obtain rfl:i=0:=by simpa using hi
  obtain ⟨rfl,rfl,rfl⟩:=hP;refine (Oa b K tk' (bC (Iu 100)) (.mk 13 0 [] []) [] (by decide) rfl).mono ?_;rintro y Γ' ⟨rfl,rfl⟩;exact ⟨_,_,_,_,rfl,rfl,fun _=>⟨rfl,rfl,rfl⟩,fun h=>absurd rfl h⟩
 ·intro m s' tk' hP
  obtain ⟨rfl,rfl,rfl⟩:=hP;refine ⟨fun h=>absurd rfl h,fun _=>⟨rfl,fun az haz=>?_⟩⟩
  obtain ⟨a1,rfl⟩: ∃ a,az= [a]:=by
   match az,haz with
   | [a],_=>exact ⟨a,rfl⟩
  exact O3 b K tk' _ a1 (by show 40≤98∧98≤1000;decide) rfl rfl
end
theorem M5 (cs:List Datum) (hcs:cs.length=0) (t:aa) (fuel:Int) (hev: ∀ (b:Nat) (tk:Tok),tk.e=4→tk.s=1→af Tryz.prog 70 [.ptr b 0,.agg t.cells,.np,.nil] (eB b [] tk (Iu fuel)) (kj b [] eR)):
  aA Tryz.prog 46 [.sl 5 (cs.map Datum.pv) none,.nil,.agg t.cells,.int .i64 fuel] (.agg [.str [],.int .i64 5,.str []]):=by
 refine af.ah ai Tryz.func46 rfl rfl (n:=65) rfl rfl ?_
 conv=>whnf
 repeat' (first|((intro _);conv=>whnf)|(refine zX (fun hc=>?_) (fun hc=>?_)<;>(try simp only[SY] at hc)<;>omega))
 rename_i b6 b8 b9
 refine ax.over [10,18,19,20,21,22,23,24,25,26,27,28,29,30,31,32,33,34,35,36,37,38] (fun x:Nat=> [(10,.int .i64 x)]) (fun x:Nat=> [.box b9 [.nil,.nil,.int .i64 fuel,.str [],.nil,.int .i64 0,.int .i64 0,.int .i64 0,.int .i64 0,.str [],.nil,.np,.np],.box b8 [.str [],.int .i64 0,.str []],.box b6 [.int .i64 t.op,.int .i64 t.n,.sl 1 (t.v.map (PV.int .i64)) none,.sl 4 (t.t.map aa.pv) none]])
  (fun x=>x=0) (fun x=>0) 0 rfl wA ?_
 rintro _ rfl
 conv=>whnf
 repeat' (first|refine aX ?_|((intro _);conv=>whnf)|(refine zX (fun hc=>?_) (fun hc=>?_)<;>(try simp only[SY] at hc)<;>first|omega|(conv=>whnf)))
 refine aq.O9 (Γ1:= [.box b9 (Pb [] (aC 1 4) (Iu fuel)),.row (aC 1 4) (([]:List Bool).map PV.bool)])
   (au.trans (au.KS [.box b9 [.nil,.nil,.int .i64 fuel,.str [],.nil,.int .i64 0,.int .i64 0,.int .i64 0,.int .i64 0,.str [],.nil,.np,.np],.box b8 [.str [],.int .i64 0,.str []],.box b6 [.int .i64 t.op,.int .i64 t.n,.sl 1 (t.v.map (PV.int .i64)) none,.sl 4 (t.t.map aa.pv) none]]) (au.box (b:=b9) (cs:= [.nil,.nil,.int .i64 fuel,.str [],.nil,.int .i64 0,.int .i64 0,.int .i64 0,.int .i64 0,.str [],.nil,.np,.np]) (cs':=Pb [] (aC 1 4) (Iu fuel))
    (.cons (Wk.eg rfl) (.cons (Wk.refl _) (.cons (Wk.refl _) (.cons (Wk.refl _) (.cons (Wk.cE _ _) (.cons (Wk.refl _) (.cons (Wk.refl _) (.cons (Wk.refl _) (.cons (Wk.refl _) (.cons (Wk.refl _) (.cons (Wk.eg rfl) (.cons (Wk.refl _) (.cons (Wk.refl _) .nil)))))))))))))))
   (hev b9 (aC 1 4) rfl rfl) (aY.refl _) ?_
 rintro _ _ ⟨x,c,s',tk',rfl,rfl,rfl,ho⟩
 conv=>whnf
 repeat' (first|refine aX ?_|((first|refine dw nC ?_|refine dw nD ?_|intro _);conv=>whnf)|(refine zX (fun hc=>?_) (fun hc=>?_)<;>(try simp only[SY] at hc)<;>first|omega|(conv=>whnf)))
 rw[ho];exact ak.pure (Wk.refl _)
theorem Oz:aA Tryz.prog 26 [.agg (⟨[],NI⟩:Prog).cells,.int .i64 100] (.agg [.str [],.int .i64 5,.str []]):=by
 refine af.ah ai Tryz.func26 rfl rfl (n:=11) rfl rfl ?_
 conv=>whnf
 repeat' (first|refine aX ?_|((first|refine pC (M5 [] rfl NI 100 fun b tk _ _=>O5 b [] tk) (by ((repeat' (first|exact aY.nil|apply aY.cons|exact Wk.refl _|exact Wk.int OA|exact Wk.tt rfl|exact Wk.ff rfl|exact Wk.eg rfl|exact Wk.tok _ _ _));first|done|fail)) ?_|intro _);conv=>whnf)|(refine zX (fun hc=>?_) (fun hc=>?_)<;>(try simp only[SY] at hc)<;>omega))
 exact ak.pure (Wk.refl _)
abbrev NH:List UInt8:= [40,108,101,116,114,101,99,42,32,40,40,102,32,40,108,97,109,98,100,97,32,40,41,32,121,41,41,32,40,121,32,40,102,41,41,41,32,121,41]
abbrev Nw:Prog:=⟨[],.mk 7 1 [0,1] [.mk 4 0 [] [.mk 1 1 [] []],.mk 5 0 [] [.mk 1 0 [] []],.mk 1 1 [] []]⟩
abbrev Me:Prog:=⟨[],NI⟩
def MX:List Datum:=(oh NH).1
def Mq:Datum:=((sy (pU 20) MX)).getD aJ
theorem PY:oh NH=(MX,(oh NH).2.1,0):=by kernel_rfl
theorem PZ:sy (pU 20) MX=some Mq:=by kernel_rfl
theorem P0:(MX.any fun d=>!d.bH 0 || d.NC)=false:=by kernel_rfl
theorem P3:Mq.bH 0=true:=by kernel_rfl
theorem P4:Gm NF (-1) Mq=⟨Nw,0⟩:=by kernel_rfl
theorem P5:Nat.ble Mq.sz 1000=true:=by kernel_rfl
theorem P6:Nat.ble (Datum.dZ MX) 1000=true:=by kernel_rfl
theorem P7:eO Nw=(Me,0):=by kernel_rfl
theorem P8:iO Me 1=0:=by kernel_rfl
theorem Nf:aA Tryz.prog 16 [.str NH] (.bp [.agg Nw.cells,.bool true]):=by
 have hr:=IY NH;have hx:=FJ MX Mq (by have:=Nat.le_of_ble_eq_true P6;omega) P0 P3 PZ;have hz:=BX Mq (by have:=Nat.le_of_ble_eq_true P5;omega);unfold vG at hr;rw[PY] at hr;rw[P4] at hz;dsimp only at hr hz;generalize NH=X at *;generalize MX=R at *;generalize Mq=E at *;generalize Nw=P at *;refine af.ah ai Tryz.func16 rfl rfl (n:=34) rfl rfl ?_
 conv=>whnf
 repeat' (first|refine aX ?_|((first|refine pC (hr) wR ?_|refine pC (hx) wR ?_|refine pC (hz) wR ?_|intro _);conv=>whnf)|(refine zX (fun hc=>?_) (fun hc=>?_)<;>(try simp only[SY] at hc)<;>(conv=>whnf)))
 all_goals exact ak.pure (Wk.refl _)
theorem qC:aA Tryz.prog 10 [] (.bool true):=by
 have h1:=Nf;have h2:=AX Nw (by decide) (by decide) (by decide);have h3:=AO Me 1 (by decide) (by decide);have h4:aA Tryz.prog 26 [.agg Me.cells,.int .i64 100] (.agg [.str [],.int .i64 5,.str []]):=Oz;rw[P7] at h2;rw[P8] at h3;dsimp only at h1 h2;have g1:Me.body.op=8:=rfl;have g2:Me.body.v= [1]:=rfl;generalize Nw=P at h1 h2;generalize Me=Q at h2 h3 h4 g1 g2;refine af.ah ai Tryz.func10 rfl rfl (n:=51) rfl rfl ?_
 conv=>whnf
 repeat' (first|refine aX ?_|((first|(((apply zY;intro hg));(conv=>whnf);(repeat ((first|refine pC (h3) wR ?_|refine pC (h4) wR ?_|refine aH ?_);conv=>whnf));exact pZ)|refine pC (h1) wR ?_|refine pC (h2) wR ?_|intro _);conv=>whnf)|(refine zX (fun hc=>?_) (fun hc=>?_)<;>(try simp only[SY] at hc)<;>omega))
 rw[g1,g2];exact ak.pure (Wk.refl _)
theorem Kq (t:aa) (n:Int) (h0:0≤n) (h1:n≤1000000000):aA Tryz.prog 11 [.agg t.cells,.int .i64 n] (.bool (decide (0≤t.qv n))):=by
 refine af.ah ai Tryz.func11 rfl rfl (n:=8) rfl rfl ?_
 conv=>whnf
 repeat' (first|refine aX ?_|((first|refine pC (GV t n h0 h1) wR ?_|intro _);conv=>whnf)|(refine zX (fun hc=>?_) (fun hc=>?_)<;>(try simp only[SY] at hc)<;>omega))
 exact ak.pure (Wk.refl _)
theorem B6 (S:List Bool) (y x:Nat) (hy:y < S.length):(S.set y true).getD x false=true↔x=y∨S.getD x false=true:=by
 rw[List.getD_eq_getElem?_getD,List.getD_eq_getElem?_getD,List.getElem?_set];by_cases h:y=x
 ·subst h;rw[if_pos rfl,if_pos hy];simp
 ·rw[if_neg h]
  constructor
  ·exact .inr
  ·rintro (e | e)
   ·exact absurd e.symm h
   ·exact e
structure NM (g:dr) (frm:List Int) (S:List Bool):Prop where
 len:S.length=g.length
 fm: ∀ x∈frm,S.getD x.toNat false=true
 rg: ∀ x:Nat,x < g.length→S.getD x false=true→Rg g frm (x:Int)
def OV (g:dr) (S:List Bool) (i:Nat):Prop:=S.getD i false=true→ ∀ y∈g.getD i [],S.getD y.toNat false=true
theorem NM.all {g:dr} {frm:List Int} {S:List Bool} (hg:nr g) (hf:E8 g frm) (h:NM g frm S) (hc: ∀ i,i < g.length→OV g S i):S=ig g frm:=by
 have hb:(ig g frm).length=g.length:=tP _ _ (by simp) _;refine yw (h.len.trans hb.symm) fun x hx=>?_;rw[h.len] at hx;rw[lT hg hf hx];refine ⟨h.rg x hx,fun hr=>?_⟩
 have key: ∀ y:Int,Rg g frm y→S.getD y.toNat false=true:=fun y hy=>by
  induction hy with
  | base hm=>exact h.fm _ hm
  | step h1 hm ih=>
   have:=Rg.Kx hg hf h1;exact hc _ (by omega) ih _ hm
 have:=key _ hr;rwa [Int.toNat_natCast] at this
theorem NM.put {g:dr} {frm:List Int} {S:List Bool} (h:NM g frm S) {y:Int} (hy:Rg g frm y) (hb:y.toNat < g.length) (h0:0≤y):NM g frm (S.set y.toNat true):=by
 refine ⟨by rw[List.length_set];exact h.len,fun x hx=>?_,fun x hx e=>?_⟩
 ·rw[B6 _ _ _ (by rw[h.len];exact hb)];exact .inr (h.fm x hx)
 ·rw[B6 _ _ _ (by rw[h.len];exact hb)] at e
  rcases e with rfl | e
  ·rw[Int.toNat_of_nonneg h0];exact hy
  ·exact h.rg x hx e
abbrev OJ (l:List Bool):PV:=.sl 1 (l.map PV.bool) none
instance:cn OJ (fun l=> [OJ l]):=⟨fun _=>rfl⟩
instance bU.OJ (l:List Bool) (tk:Option Tok):bU OJ (.sl 1 (l.map PV.bool) tk) l:=⟨Wk.tok _ _ _,.cons (Wk.tok _ _ _) .nil⟩
end Go.Cb


