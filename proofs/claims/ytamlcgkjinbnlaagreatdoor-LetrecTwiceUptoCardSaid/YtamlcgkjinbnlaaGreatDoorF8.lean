/-
 Contracts: recursive bindings: groups of procedures.
 Contracts: recursive bindings in order: letrec*.
 Plain: how many terms of a sort stand in one.
 Plain: recursive bindings made of plain ones: nothing is lost; where all are procedures nothing is asked.
 Plain: recursive bindings made of plain ones: counts of whole terms; where all are procedures nothing is asked.
 Plain: recursive bindings made of plain ones: how great a term comes to be.
 Plain: names of shifted terms.
 Plain: recursive bindings made of plain ones: what variables are called says nothing.
 Plain: what letrec knows of items is what the plain function knows of lists.
 Contracts: recursive bindings: links put together.
 Contracts: recursive bindings: letrec's links; a Rec.
 Contracts: recursive bindings: a Rec; terms.
 Plain: what a right program's names are; what no program is.
 Contracts: the document's words for the check of terms.
 Contracts: what is right names what it binds.
 Contracts: recursive bindings: terms, a program, converted.
 Contracts: the example of letrec, run: it ends at an early reference.
 Contracts: the document's example of letrec holds (the expander at its forms alone).
 Contracts: are there few terms? (chapter 09)
 Contracts: the document's graphs: to which things some lead.
 Contracts: the document's graphs: all things met; groups.
 Contracts: the document's bindings; all variables greater.
-/
import Derived.Test.YtamlcgkjinbnlaaGreatDoorF7
set_option linter.unusedSimpArgs false
set_option linter.unusedVariables false
namespace Go.Cb
open Go.Proofs
set_option maxRecDepth 100000
set_option maxHeartbeats 4000000
abbrev mC:Option (List Int×Option Tok)→PV
 | none=>.nil
 | some x=>.sl 1 (x.1.map (PV.int .i64)) x.2
instance:cz mC (fun x=> [mC x]):=⟨fun x=>by cases x<;>rfl⟩
instance (l:List Int) (tk:Option Tok):cc mC (.sl 1 (l.map (PV.int .i64)) tk) (some (l,tk)):=⟨Wk.refl _,gx.refl _⟩
theorem af.PR {P:Program} {f:FuncId} {args args':List PV} {Γ Γ':List aj} {Q:PV→List aj→Prop} (hg:dh args Γ args' Γ') (h:af P f args' Γ' Q):af P f args Γ Q:=
 ⟨h.1,fun w0 F M w vs hS hT=>by
  obtain ⟨F1,a1,a2,a3⟩:=hg w0 F M w vs hS hT;refine (h.2 w0 F1 M w vs a2 a3).mono ?_;rintro e w' ⟨v,F',y,Γ2,e1,e2,e3⟩
  exact ⟨v,F',y,Γ2,e1,Fz.le_trans a1 e2,e3⟩⟩
theorem Lt {σ:Type} {ds:List Nat} {R:σ→List (Nat×PV)} {G:σ→List aj} {I:σ→Prop} {μ:σ→Nat} {T0:List PV} {s:σ} {T:List PV} {Γ Γ' Γ1:List aj} {D:Ds} (s':σ) (hI:I s') (hμ:μ s' < μ s)
  (hg:au Γ Γ') (hw:bY 0 T T0 ds (R s')) [hp:bz Γ' (G s') Γ1]:jz ds R G I μ T0 s D T Γ D:=⟨rfl,s',hI,hμ,dh.of (bY.wk 0 T T0 ds (R s') hw) (au.trans hg (au.drop hp.p))⟩
def K9 (an:List cY) (k:Nat):Bool:=match an[k]? with
 | some z=>z.pr && !z.lt
 | none=>false
def zq (an:List cY) (own:List Int) (a:Nat):List Int:=fM own.length fun b=>(an.getD (own.getD a 0).toNat ⟨0,iE,false,false, []⟩).ln.contains (own.getD b 0)
def EJ (f:Nat→List Int) (n a:Nat):List (Option (List Int×Option Tok)):=(List.range n).map fun x=>if x < a then some (f x,none) else none
theorem uo (f:Nat→List Int) (n a:Nat):(EJ f n a).length=n:=by unfold EJ;simp
theorem um {f:Nat→List Int} {n a j:Nat} (h:j < (EJ f n a).length):(EJ f n a)[j]=if j < a then some (f j,none) else none:=by simp[EJ]
theorem Lh {f:Nat→List Int} {n a:Nat}:(EJ f n a).set a (some (f a,none))=EJ f n (a + 1):=by
 refine List.ext_getElem (by simp[uo]) fun j h1 h2=>?_;rw[List.getElem_set,um h2];by_cases e:a=j
 ·subst e;rw[if_pos rfl,if_pos (by omega)]
 ·rw[if_neg e,um (by rw[uo] at h2 ⊢; exact h2)]
  by_cases h:j < a
  ·rw[if_pos h,if_pos (by omega)]
  ·rw[if_neg h,if_neg (by omega)]
theorem IG (f:Nat→List Int) (n:Nat):List.replicate n PV.nil=(EJ f n 0).map mC:=by
 refine List.ext_getElem (by simp[uo]) fun j h1 h2=>?_;rw[List.getElem_replicate,List.getElem_map,um,if_neg (by omega)]
theorem IF (f:Nat→List Int) (n:Nat):(EJ f n n).map mC=((List.range n).map f).map gZ:=by
 unfold EJ;rw[List.map_map,List.map_map];refine List.map_congr_left fun x hx=>?_;simp only[Function.comp];rw[if_pos (List.mem_range.1 hx)]
theorem Fu {l:List (Option (List Int×Option Tok))} {x:Option (List Int×Option Tok)} (hx: ∀ (a:Nat) (h:a < l.length),Wk (mC l[a]) (mC l[a])) {a:Nat} (ha:a < l.length) (h:Wk (mC l[a]) (mC x)):pU (l.map mC) ((l.set a x).map mC):=by
 induction l generalizing a with
 | nil=>exact absurd ha (by simp)
 | cons y l ih=>
  have hrest: ∀ l:List (Option (List Int×Option Tok)),pU (l.map mC) (l.map mC):=by
   intro l
   induction l with
   | nil=>exact .nil
   | cons z l ih=>exact .cons (gx.refl _) ih
  have hc: ∀ z:Option (List Int×Option Tok),(mC z).cellsOf= [mC z]:=fun z=>by cases z<;>rfl
  cases a with
  | zero=>exact .cons (by rw[hc,hc];exact .cons h .nil) (hrest l)
  | succ a=>
   rw[List.set_cons_succ];exact .cons (gx.refl _) (ih (fun _ _=>Wk.refl _) (by simpa using ha) (by simpa using h))
theorem aq.Jw {P:Program} {f:FuncId} {args args':List PV} {y:PV} {Γ Γ1:List aj} {K:PV→List aj→Prop} (t:Tok) (es:List PV) [hp:iN Γ (.row t es) Γ1] (hw:pT t es args args') (h:ay P f args' y) (k:K y (.tok t::Γ1)):aq P f args Γ K:=by
 have h1:=af.frame h (Γ:=.tok t::Γ1) (Γ2:=.tok t::Γ1) (List.Perm.refl _)
 have h2:af P f args' (.tok t::Γ1) K:=by
  refine ⟨h1.1,fun w0 F M w vs hS hT=>(h1.2 w0 F M w vs hS hT).mono ?_⟩;rintro e w' ⟨v,F',y',Γ',e1,e2,e3,e4,Γ1',rfl,rfl⟩;refine ⟨v,F',_,_,e1,e2,?_,e4,k⟩;refine e3.sub ?_;rw[List.append_assoc];exact List.sublist_append_right _ _
 exact ⟨.inl (af.PR (dh.cE (hp:=hp) hw) h2)⟩
abbrev jY:cY:=⟨0,iE,false,false, []⟩
def CE (an:List cY):List Int→Int→Int
 | [],m=>m
 | j::l,m=>CE an l (if (an.getD j.toNat jY).pr=false∧(an.getD j.toNat jY).lt=false then max m (j + 1) else m)
theorem BP (an:List cY) (j:Int): ∀ (l:List Int) (m:Int),CE an (l++ [j]) m=if (an.getD j.toNat jY).pr=false∧(an.getD j.toNat jY).lt=false then max (CE an l m) (j + 1) else CE an l m
 | [],m=>rfl
 | x::l,m=>by rw[List.cons_append,CE,BP an j l,CE]
def KL (an:List cY) (gE:dy) (own:List Int):List Int→Int→Int
 | [],m=>m
 | a::l,m=>KL an gE own l (CE an (cO gE [own.getD a.toNat 0]) m)
theorem BO (an:List cY) (gE:dy) (own:List Int) (a:Int): ∀ (l:List Int) (m:Int),KL an gE own (l++ [a]) m=CE an (cO gE [own.getD a.toNat 0]) (KL an gE own l m)
 | [],m=>rfl
 | x::l,m=>by rw[List.cons_append,KL,BO an gE own a l,KL]
def Gn (an:List cY) (gE:dy) (own:List Int) (grp:List Int):gY:=⟨KL an gE own grp 0,grp.map fun a=>(an.getD (own.getD a.toNat 0).toNat jY).v,grp.map fun a=>(an.getD (own.getD a.toNat 0).toNat jY).e⟩
instance cc.RE (lv:Int) (vs:List Int) (ts:List aa) (t1 t2:Option Tok):cc gY.pv (.agg [.int .i64 lv,.int .i64 9,.int .i64 0,.sl 1 (vs.map (PV.int .i64)) t1,.sl 4 (ts.map aa.pv) t2]) ⟨lv,vs,ts⟩:=
 ⟨Wk.agg (.cons (Wk.refl _) (.cons (Wk.refl _) (.cons (Wk.refl _) (.cons (Wk.tok _ _ _) (.cons (Wk.tok _ _ _) .nil))))),.cons (Wk.refl _) (.cons (Wk.refl _) (.cons (Wk.refl _) (.cons (Wk.tok _ _ _) (.cons (Wk.tok _ _ _) .nil))))⟩
theorem Bz (g:dy): ∀ (f:Nat) (done:List Bool) (n:Nat),(mJ g f done n).length≤f
 | 0,_,_=>by rw[mJ];exact Nat.le_refl _
 | f + 1,done,n=>by
  rw[mJ]
  split
  ·split
   ·exact Nat.zero_le _
   ·have:=Bz g f
    rw[List.length_cons];exact Nat.succ_le_succ (this _ _)
  ·exact Nat.zero_le _
theorem sy (g:dy):(iH g).length≤g.length:=by
 unfold iH kj;rw[List.length_map];exact Bz g _ _ _
theorem By {g:dy} (hg:oc g) {l:List Int} (h:l∈iH g):l.length≤g.length∧ ∀ x∈l,0≤x∧x < (g.length:Int):=by
 unfold iH at h;obtain ⟨ks,hk,rfl⟩:=List.mem_map.1 h;have hp:=m0 hg;have h1:ks.Sublist (kj g).flatten:=List.sublist_flatten_of_mem hk;have h2:=h1.length_le;rw[hp.length_eq,List.length_range] at h2;refine ⟨by rw[List.length_map];exact h2,fun x hx=>?_⟩;obtain ⟨k,hkm,rfl⟩:=List.mem_map.1 hx;have:=List.mem_range.1 (hp.mem_iff.1 (h1.subset hkm));exact ⟨by omega,by omega⟩
def iZ (an:List cY):List gY:=(iH ((List.range (fM an.length (K9 an)).length).map (zq an (fM an.length (K9 an))))).map (Gn an (lG (fun x=>x.pr && !x.lt) an) (fM an.length (K9 an)))
theorem FV {p q:Prop} (k:q) (h:q→p:=by intro hq;first | exact aE.sT (some 100) rfl [9,19] [22,23,24,25] ai mixed hq):p:=h k
theorem xK (an:List cY) (ti:Tok) (hts:ti.s=8) (hl:an.length≤500) (hln: ∀ x∈an,x.ln.length≤500) (hlr: ∀ x∈an, ∀ y∈x.ln,0≤y∧y < (an.length:Int)):
  af Tryz.prog 147 [.ms ti] [.row ti (an.map cY.pv)] (fun y Γ'=>y=.sl 5 ((iZ an).map gY.pv) none∧Γ'= [.row ti (an.map cY.pv)]):=by
 refine af.ah ai Tryz.func147 rfl rfl (n:=165) rfl rfl ?_
 conv=>whnf
 skip
 refine aq.go (yw an ti hts 193 (fun x=>x.pr && !x.lt) EA (by omega)) (aX.refl _) ?_;rintro _ _ ⟨rfl,rfl⟩;generalize hgE:lG (fun x=>x.pr && !x.lt) an=gE
 conv=>whnf
 repeat' (first|(((refine eP.map fun _=>?_));conv=>whnf)|(refine zX (fun hc=>?_) (fun hc=>?_)<;>(try simp only[SY] at hc)<;>omega))
 refine ax.jH (au.nil 1 3 _) ?_;refine ax.over [4,5,6,29,30,31,32,33,34,35,36,37,38,39,40] (fun x:Nat×List Int×Tok=> [(4,.sl 1 (x.2.1.map (PV.int .i64)) (some x.2.2)),(29,.int .i64 x.1)]) (fun x=> [.tok x.2.2,.row ti (an.map cY.pv)]) (fun x=>x.1≤an.length∧x.2.2.e=3∧x.2.1=fM x.1 (K9 an)) (fun x=>an.length - x.1) (0, [],aB 1 3) ⟨Nat.zero_le _,rfl,rfl⟩ (by repeat' (first|exact trivial|refine And.intro ?_ ?_|exact Wk.aB _ _|exact Wk.refl _)) ?_;rintro ⟨i,own,tk⟩ ⟨hi,hte,hown⟩;dsimp only at hi hte hown ⊢;have hol:own.length≤i:=by rw[hown];exact gm _ _
 rcases Nat.lt_or_ge i an.length with hlt | hge
 ·have hsn:=o5 i (K9 an)
  have her:K9 an i=(an[i].pr && !an[i].lt):=by unfold K9;rw[List.getElem?_eq_getElem hlt]
  rw[←hown,her] at hsn;have hea:=EA an[i]
  cases hc2:(an[i].pr && !an[i].lt) with
  | true=>
   rw[hc2] at hea;rw[if_pos hc2] at hsn
   conv=>whnf
   repeat' (first|((first|refine aM ?_|refine pC (hea) wR ?_|refine aF ?_|intro _|refine zG ?_);conv=>whnf)|(refine zX (fun hc=>?_) (fun hc=>?_)<;>(try simp only[SY] at hc)<;>first|omega|(conv=>whnf)))
   rename Tok=>t5
   exact av (i + 1,own++ [(i:Int)],t5) ⟨by show i + 1≤_;omega,by assumption,hsn.symm⟩ (by show an.length - (i + 1) < an.length - i;omega) wA
  | false=>
   rw[hc2] at hea;rw[if_neg (by rw[hc2];decide),List.append_nil] at hsn
   conv=>whnf
   repeat' (first|((first|refine aM ?_|refine pC (hea) wR ?_|refine aF ?_|intro _|refine zG ?_);conv=>whnf)|(refine zX (fun hc=>?_) (fun hc=>?_)<;>(try simp only[SY] at hc)<;>first|omega|(conv=>whnf)))
   exact av (i + 1,own,tk) ⟨by show i + 1≤_;omega,hte,hsn.symm⟩ (by show an.length - (i + 1) < an.length - i;omega) wA
 ·obtain rfl:i=an.length:=by omega
  have hor: ∀ c∈own,0≤c∧c < (an.length:Int):=fun c hc=>by
   rw[hown] at hc;have:=lu.1 hc;exact ⟨this.1,this.2.1⟩
  conv=>whnf
  repeat' (first|((first|refine kS.row (by omega) (by omega) (by omega) (by show _ * 24≤_;omega) rfl fun tr hre hrs=>?_|refine aM ?_|intro _);conv=>whnf)|(refine zX (fun hc=>?_) (fun hc=>?_)<;>(try simp only[SY] at hc)<;>first|omega|(conv=>whnf)))
  rw[Int.toNat_natCast,IG (zq an own)];refine ax.over [8,9,10,11,46,47,48,49,50,51,52,53,54,55,56,57,58,59,60,61,62,63,64,65,66,67,68,69,70,71,72,73,74,75,76] (fun a:Nat=> [(46,.int .i64 a)]) (fun a=> [.row tr ((EJ (zq an own) own.length a).map mC),.tok tk,.row ti (an.map cY.pv)]) (fun a=>a≤own.length) (fun a=>own.length - a) 0 (Nat.zero_le _) wA ?_;intro a ha;have hil:=uo (zq an own) own.length a;rcases Nat.lt_or_ge a own.length with halt | hage
  ·have hset:=Lh (f:=zq an own) (n:=own.length) (a:=a)
   have hia:(EJ (zq an own) own.length a)[a]?=some none:=by rw[List.getElem?_eq_getElem (by omega),um,if_neg (by omega)]
   have hoa:=hor _ (List.getElem_mem halt);generalize hW:EJ (zq an own) own.length a=Ws at *;have haw:a < Ws.length:=by omega
   have hga:Ws[a]=none:=by rw[List.getElem?_eq_getElem haw] at hia;exact Option.some.inj hia
   have hia2:own[a].toNat < an.length:=by omega
   have hin:zq an own a=fM own.length (fun b=>an[own[a].toNat].ln.contains (own.getD b 0)):=by
    unfold zq;rw[List.getD_eq_getElem?_getD (l:=own) (i:=a),List.getElem?_eq_getElem halt,Option.getD_some,List.getD_eq_getElem?_getD (l:=an),List.getElem?_eq_getElem hia2,Option.getD_some]
   conv=>whnf
   repeat' (first|((first|refine aM ?_|intro _);conv=>whnf)|(refine zX (fun hc=>?_) (fun hc=>?_)<;>(try simp only[SY] at hc)<;>first|omega|(conv=>whnf)))
   refine ax.jH (au.trans (au.nil 1 3 _) (au.G1 (t:=tr) (es':=(Ws.set a (some (([]:List Int),some (aB 1 3)))).map mC) (Fu (fun _ _=>Wk.refl _) haw (by rw[hga];exact Wk.aB 1 3)))) ?_;refine ax.over [10,11,53,54,55,56,57,58,59,60,61,62,63,64,65,66,67,68,69,70,71,72,73,74,75] (fun x:Nat×List Int×Tok=> [(53,.int .i64 x.1)]) (fun x=> [.row tr ((Ws.set a (some (x.2.1,some x.2.2))).map mC),.tok x.2.2,.tok tk,.row ti (an.map cY.pv)]) (fun x=>x.1≤own.length∧x.2.2.e=3∧x.2.1=fM x.1 (fun b=>an[own[a].toNat].ln.contains (own.getD b 0))) (fun x=>own.length - x.1) (0, [],aB 1 3) ⟨Nat.zero_le _,rfl,rfl⟩ wA ?_;rintro ⟨b,l,tkl⟩ ⟨hb1,hte2,hl2⟩;dsimp only at hb1 hte2 hl2 ⊢;have hll:l.length≤b:=by rw[hl2];exact gm _ _
   have hsl:(Ws.set a (some (l,some tkl))).length=own.length:=by rw[List.length_set];exact hil
   rcases Nat.lt_or_ge b own.length with hblt | hbge
   ·have hsn:=o5 b (fun b=>an[own[a].toNat].ln.contains (own.getD b 0))
    rw[←hl2,List.getD_eq_getElem?_getD,List.getElem?_eq_getElem hblt,Option.getD_some] at hsn;have hin0:b=b:=rfl
    cases hc2:an[own[a].toNat].ln.contains own[b] with
    | true=>
     rw[if_pos hc2] at hsn;have hcc:=fJ an[own[a].toNat].ln own[b];rw[hc2] at hcc
     conv=>whnf
     repeat' (first|((first|refine aM ?_|refine pC (hcc) wR ?_|refine aF ?_|intro _|refine zG ?_);conv=>whnf)|(refine zX (fun hc=>?_) (fun hc=>?_)<;>(try simp only[SY] at hc)<;>first|omega|(conv=>whnf)))
     rw[List.getElem_set_self]
     conv=>whnf
     repeat' (first|((first|refine aM ?_|refine aF ?_|intro _);conv=>whnf)|(refine zX (fun hc=>?_) (fun hc=>?_)<;>(try simp only[SY] at hc)<;>omega))
     rename Tok=>t5
     rw[List.set_set];exact av (b + 1,l++ [(b:Int)],t5) ⟨by show b + 1≤_;omega,by assumption,hsn.symm⟩ (by show own.length - (b + 1) < own.length - b;omega) wA
    | false=>
     rw[if_neg (by rw[hc2];decide),List.append_nil] at hsn;have hcc:=fJ an[own[a].toNat].ln own[b];rw[hc2] at hcc
     conv=>whnf
     repeat' (first|((first|refine aM ?_|refine pC (hcc) wR ?_|refine aF ?_|refine zG ?_);conv=>whnf)|(refine zX (fun hc=>?_) (fun hc=>?_)<;>(try simp only[SY] at hc)<;>first|omega|(conv=>whnf)))
     exact av (b + 1,l,tkl) ⟨by show b + 1≤_;omega,hte2,hsn.symm⟩ (by show own.length - (b + 1) < own.length - b;omega) wA
   ·obtain rfl:b=own.length:=by omega
    rw[←hin] at hl2
    conv=>whnf
    repeat' (first|((refine aM ?_);conv=>whnf)|(refine zX (fun hc=>?_) (fun hc=>?_)<;>(try simp only[SY] at hc)<;>first|omega|(conv=>whnf)))
    exact Lt (a + 1) (by show a + 1≤_;omega) (by show own.length - (a + 1) < own.length - a;omega) (au.G1 (t:=tr) (es':=(EJ (zq an own) own.length (a + 1)).map mC) (by rw[←hset, ←hl2];have:=Fu (l:=Ws.set a (some (l,some tkl))) (x:=some (l,none)) (fun _ _=>Wk.refl _) (a:=a) (by omega) (by rw[List.getElem_set_self];exact Wk.tok _ _ _);rwa [List.set_set] at this)) wA
  ·obtain rfl:a=own.length:=by omega
   rw[IF];have hgl:((List.range own.length).map (zq an own)).length=own.length:=by simp
   have hgo:oc ((List.range own.length).map (zq an own)):=fun l hl x hx=>by
    obtain ⟨a,ha,rfl⟩:=List.mem_map.1 hl;have:=lu.1 hx;rw[hgl];exact ⟨this.1,this.2.1⟩
   have hgs:gz ((List.range own.length).map (zq an own))≤500 * 500:=by
    have:=uA ((List.range own.length).map (zq an own)) own.length fun l hl=>by
     obtain ⟨a,ha,rfl⟩:=List.mem_map.1 hl;exact gm _ _
    rw[hgl] at this;exact Nat.le_trans this (Nat.mul_le_mul (by omega) (by omega))
   have hgm:=fun l h=>By hgo (l:=l) h;have hgn:=sy ((List.range own.length).map (zq an own));rw[hgl] at hgm hgn
   conv=>whnf
   repeat' ((refine zX (fun hc=>?_) (fun hc=>?_)<;>(try simp only[SY] at hc)<;>first|omega|(conv=>whnf)))
   refine aq.Jw tr (((List.range own.length).map (zq an own)).map gZ) (.cons (qP.ms' hrs) .nil) (Dl _ hgo (by omega) (by omega)) ?_;generalize hGR:iH ((List.range own.length).map (zq an own))=GR at *
   conv=>whnf
   repeat' (first|((first|refine aM ?_|intro _);conv=>whnf)|(refine zX (fun hc=>?_) (fun hc=>?_)<;>(try simp only[SY] at hc)<;>omega))
   have hgEo:oc gE:=fun l hl x hx=>by
    rw[←hgE] at hl ⊢;obtain ⟨z,hz,rfl⟩:=List.mem_map.1 hl;have:(lG (fun x=>x.pr && !x.lt) an).length=an.length:=by simp[lG]
    rw[this]
    split at hx
    ·exact hlr z hz x hx
    ·cases hx
   have hgEl:gE.length=an.length:=by rw[←hgE];simp[lG]
   have hgEs:gz gE≤500 * 500:=by
    have:=uA gE 500 fun l hl=>by
     rw[←hgE] at hl;obtain ⟨z,hz,rfl⟩:=List.mem_map.1 hl
     split
     ·exact hln z hz
     ·exact Nat.zero_le _
    exact Nat.le_trans this (Nat.mul_le_mul (by omega) (Nat.le_refl _))
   refine ax.jH (au.nil 5 252 _) ?_;refine ax.over [14,16,17,19,20,21,22,24,84,85,86,87,88,89,90,91,92,93,94,95,96,97,98,99,100,101,102,103,104,105,106,107,108,109,110,111,112,113,114,115,116,117,118,119,120,121,122,123,124,125,126,127,128,129,130,131,132,133,134,135,136,137,138,139,140,141,142,143,144,145,146,147,148,149,150,151,152,153,154,155,156,157,158,159,160,161,162,163] (fun x:Nat×List gY×Tok=> [(14,.sl 5 (x.2.1.map gY.pv) (some x.2.2)),(84,.int .i64 x.1)]) (fun x=> [.tok x.2.2,.row ti (an.map cY.pv)]) (fun x=>x.1≤GR.length∧x.2.2.e=252∧x.2.1=(GR.take x.1).map (Gn an gE own)) (fun x=>GR.length - x.1) (0, [],aB 5 252) ⟨Nat.zero_le _,rfl,rfl⟩ (by repeat' (first|exact trivial|refine And.intro ?_ ?_|exact Wk.aB _ _|exact Wk.refl _)) ?_;rintro ⟨i,fs,tf⟩ ⟨hi,htf,hfs⟩;dsimp only at hi htf hfs ⊢;have hfl:fs.length=i:=by rw[hfs,List.length_map,List.length_take];omega
   rcases Nat.lt_or_ge i GR.length with hig | hig
   ·obtain ⟨hgl1,hgr⟩:=hgm _ (List.getElem_mem hig)
    have hfsn:fs++ [Gn an gE own GR[i]]=(GR.take (i + 1)).map (Gn an gE own):=by rw[List.take_succ_eq_append_getElem hig,List.map_append,hfs];rfl
    conv=>whnf
    repeat' (first|((first|refine aM ?_|refine aF ?_|intro _);conv=>whnf)|(refine zX (fun hc=>?_) (fun hc=>?_)<;>(try simp only[SY] at hc)<;>first|omega|(conv=>whnf)))
    rename Nat=>b17
    generalize hgrp:GR[i]=grp at *;refine ax.jH (au.trans (au.nil 1 3 _) (au.trans (au.nil 4 26 _) (au.box (b:=b17) (cs:= [.int .i64 0,.int .i64 9,.int .i64 0,.nil,.nil]) (cs':= [.int .i64 0,.int .i64 9,.int .i64 0,.sl 1 (([]:List Int).map (PV.int .i64)) (some (aB 1 3)),.sl 4 (([]:List aa).map aa.pv) (some (aB 4 26))]) wA))) ?_
    refine ax.over [19,20,21,22,24,92,93,94,95,96,97,98,99,100,101,102,103,104,105,106,107,108,109,110,111,112,113,114,115,116,117,118,119,120,121,122,123,124,125,126,127,128,129,130,131,132,133,134,135,136,137,138,139,140,141,142,143,144,145,146,147,148,149,150,151,152,153,154,155,156,157,158] (fun x:Nat×Int×(List Int×Tok)×(List aa×Tok)=> [(92,.int .i64 x.1)]) (fun x=> [.box b17 [.int .i64 x.2.1,.int .i64 9,.int .i64 0,.sl 1 (x.2.2.1.1.map (PV.int .i64)) (some x.2.2.1.2),.sl 4 (x.2.2.2.1.map aa.pv) (some x.2.2.2.2)],.tok x.2.2.1.2,.tok x.2.2.2.2,.tok tf,.row ti (an.map cY.pv)])
     (fun x=>x.1≤grp.length∧x.2.2.1.2.e=3∧x.2.2.2.2.e=26∧x.2.1=KL an gE own (grp.take x.1) 0∧x.2.2.1.1=(grp.take x.1).map (fun a=>(an.getD (own.getD a.toNat 0).toNat jY).v)∧x.2.2.2.1=(grp.take x.1).map (fun a=>(an.getD (own.getD a.toNat 0).toNat jY).e)) (fun x=>grp.length - x.1) (0,0,([],aB 1 3),([],aB 4 26)) ⟨Nat.zero_le _,rfl,rfl,rfl,rfl,rfl⟩ wA ?_
    rintro ⟨j,lv,⟨vs,tv⟩,⟨ts,tm⟩⟩ ⟨hj,htv,htm,hlv,hvs,hts2⟩;dsimp only at hj htv htm hlv hvs hts2 ⊢;have hvl:vs.length=j:=by rw[hvs,List.length_map,List.length_take];omega
    have htl:ts.length=j:=by rw[hts2,List.length_map,List.length_take];omega
    rcases Nat.lt_or_ge j grp.length with hjl | hjl
    ·have hga:=hgr _ (List.getElem_mem hjl)
     have hac:grp[j].toNat < own.length:=by omega
     have hka:=hor _ (List.getElem_mem hac);have hod:own.getD grp[j].toNat 0=own[grp[j].toNat]:=by rw[List.getD_eq_getElem?_getD,List.getElem?_eq_getElem hac];rfl
     have hkc:own[grp[j].toNat].toNat < an.length:=by omega
     have hid:an.getD own[grp[j].toNat].toNat jY=an[own[grp[j].toNat].toNat]:=by rw[List.getD_eq_getElem?_getD,List.getElem?_eq_getElem hkc];rfl
     have hvsn:vs++ [an[own[grp[j].toNat].toNat].v]=(grp.take (j + 1)).map (fun a=>(an.getD (own.getD a.toNat 0).toNat jY).v):=by rw[List.take_succ_eq_append_getElem hjl,List.map_append, ←hvs,List.map_cons,List.map_nil,hod,hid]
     have htsn:ts++ [an[own[grp[j].toNat].toNat].e]=(grp.take (j + 1)).map (fun a=>(an.getD (own.getD a.toNat 0).toNat jY).e):=by rw[List.take_succ_eq_append_getElem hjl,List.map_append, ←hts2,List.map_cons,List.map_nil,hod,hid]
     have hlsn:KL an gE own (grp.take (j + 1)) 0=CE an (cO gE [own[grp[j].toNat]]) lv:=by rw[List.take_succ_eq_append_getElem hjl,BO, ←hlv,hod]
     have hRin:FB gE [own[grp[j].toNat]]:=fun x hx=>by rw[List.mem_singleton.1 hx,hgEl];exact hka
     have hRr: ∀ c∈cO gE [own[grp[j].toNat]],0≤c∧c < (an.length:Int):=fun c hc=>by
      have:=((iC hgEo hRin c).1 hc).Li hgEo hRin;rwa [hgEl] at this
     have hRl:=o8 gE [own[grp[j].toNat]]
     conv=>whnf
     repeat' (first|((first|((apply zZ);first|exact tB|((conv=>whnf);(repeat ((refine aH ?_);conv=>whnf));exact pZ))|refine aM ?_|refine pC (w9 gE [own[grp[j].toNat]] hgEo hRin (by omega) (by simp;omega)) (by ((repeat' (first|exact aX.nil|apply aX.cons|exact Wk.refl _|exact Wk.int OA|exact Wk.tt rfl|exact Wk.ff rfl|exact Wk.dM rfl|exact Wk.tok _ _ _));first|done|fail)) ?_|refine aF ?_|refine FV ?_|intro _);conv=>whnf)|(refine zX (fun hc=>?_) (fun hc=>?_)<;>(try simp only[SY] at hc)<;>first|omega|(conv=>whnf)))
     rename_i tv2 htv2 tm2 htm2 _ _ _;generalize cO gE [own[grp[j].toNat]]=R at *;generalize hvs3:vs++ [an[own[grp[j].toNat].toNat].v]=vs3 at *;generalize hts3:ts++ [an[own[grp[j].toNat].toNat].e]=ts3 at *;refine ax.over [24,133,134,135,136,137,138,139,140,141,142,143,144,145,146,147,148,149,150,151,152,153,154,155,156,157] (fun m:Nat=> [(133,.int .i64 m)]) (fun m=> [.tok tv2,.tok tm2,.tok tf,.box b17 [.int .i64 (CE an (R.take m) lv),.int .i64 9,.int .i64 0,.sl 1 (vs3.map (PV.int .i64)) (some tv2),.sl 4 (ts3.map aa.pv) (some tm2)],.row ti (an.map cY.pv)]) (fun m=>m≤R.length) (fun m=>R.length - m) 0 (Nat.zero_le _) wA (hp:=⟨(List.perm_append_singleton _ _).symm⟩) (Γ1:= [_]) ?_;intro m hm;rcases Nat.lt_or_ge m R.length with hml | hml
     ·have hcr:=hRr _ (List.getElem_mem hml)
      have hcl:R[m].toNat < an.length:=by omega
      have hid2:an.getD R[m].toNat jY=an[R[m].toNat]:=by rw[List.getD_eq_getElem?_getD,List.getElem?_eq_getElem hcl];rfl
      have hls:=BP an R[m] (R.take m) lv;rw[←List.take_succ_eq_append_getElem hml,hid2] at hls;by_cases hcd:an[R[m].toNat].pr=false∧an[R[m].toNat].lt=false
      ·rw[if_pos hcd] at hls
       conv=>whnf
       repeat' (first|((first|(((apply zY;intro hg));first|exact tB|((conv=>whnf);(repeat ((refine aH ?_);conv=>whnf));exact pZ))|refine aM ?_|refine aF ?_|refine zG ?_);conv=>whnf)|(refine zX (fun hc=>?_) (fun hc=>?_)<;>(try simp only[SY] at hc)<;>first|omega|(conv=>whnf)))
       ·have hmx:CE an (R.take (m + 1)) lv=if CE an (R.take m) lv < R[m] + 1 then R[m] + 1 else CE an (R.take m) lv:=by
         rw[hls]
         split<;>omega
        rw[←hmx];exact av (m + 1) (by show m + 1≤_;omega) (by show R.length - (m + 1) < R.length - m;omega) wA
       ·rcases (by assumption:an[R[m].toNat].pr=true∨an[R[m].toNat].lt=true) with h | h
        ·rw[hcd.1] at h;cases h
        ·rw[hcd.2] at h;cases h
      ·rw[if_neg hcd] at hls
       conv=>whnf
       repeat' (first|((first|(((apply zY;intro hg));first|exact tB|((conv=>whnf);(repeat ((refine aH ?_);conv=>whnf));exact pZ))|refine aM ?_|refine aF ?_|refine zG ?_);conv=>whnf)|(refine zX (fun hc=>?_) (fun hc=>?_)<;>(try simp only[SY] at hc)<;>first|omega|(conv=>whnf)))
       ·exact absurd (by assumption) hcd
       ·rw[←hls]
        exact av (m + 1) (by show m + 1≤_;omega) (by show R.length - (m + 1) < R.length - m;omega) wA
     ·obtain rfl:m=R.length:=by omega
      rw[List.take_length]
      conv=>whnf
      repeat' (first|((refine aM ?_);conv=>whnf)|(refine zX (fun hc=>?_) (fun hc=>?_)<;>(try simp only[SY] at hc)<;>first|omega|(conv=>whnf)))
      exact av (j + 1,CE an R lv,(vs3,tv2),(ts3,tm2)) ⟨by show j + 1≤_;omega,htv2,htm2,hlsn.symm,hvsn,htsn⟩ (by show grp.length - (j + 1) < grp.length - j;omega) wA
    ·obtain rfl:j=grp.length:=by omega
     rw[List.take_length] at hlv hvs hts2;have hfx:Gn an gE own grp=⟨lv,vs,ts⟩:=by rw[hlv,hvs,hts2];rfl
     rw[hfx] at hfsn
     conv=>whnf
     repeat' (first|((first|refine aM ?_|refine aF ?_|intro _);conv=>whnf)|(refine zX (fun hc=>?_) (fun hc=>?_)<;>(try simp only[SY] at hc)<;>first|omega|(conv=>whnf)))
     rename Tok=>t5
     exact av (i + 1,fs++ [⟨lv,vs,ts⟩],t5) ⟨by show i + 1≤_;omega,by assumption,hfsn⟩ (by show GR.length - (i + 1) < GR.length - i;omega) wA
   ·obtain rfl:i=GR.length:=by omega
    conv=>whnf
    repeat' ((refine zX (fun hc=>?_) (fun hc=>?_)<;>(try simp only[SY] at hc)<;>first|omega|(conv=>whnf)))
    exact ak.gen (y:=.sl 5 (fs.map gY.pv) none) (Γ':= [.row ti (an.map cY.pv)]) (Wk.tok _ _ _) ⟨by rw[hfs,List.take_length];unfold iZ;rw[←hown,hgE,hGR],rfl⟩
def wu (an:List cY) (fs:List gY) (k:Nat):List aa:=if (an.getD k jY).lt=true then [mq (an.getD k jY).v (an.getD k jY).e] else if (an.getD k jY).pr=true then [] else lg (an.getD k jY).v (an.getD k jY).e::cj fs ((k:Int) + 1)
theorem oV (fs:List gY) (lv:Int):(cj fs lv).length≤fs.length:=by
 unfold cj;rw[List.length_map];exact List.length_filter_le _ _
theorem Kf (bc:Nat) (tk:Tok) (l0:List aa) (an:List cY) (ti:Tok) (h1:tk.e=26) (h2:tk.s=4) (hl0:l0.length≤10000) (hts:ti.s=8) (hl:an.length≤500) (hln: ∀ x∈an,x.ln.length≤500) (hlr: ∀ x∈an, ∀ y∈x.ln,0≤y∧y < (an.length:Int)) (hfl:(iZ an).length≤500):
  af Tryz.prog 92 [.ptr bc 0,.ms ti] (.row ti (an.map cY.pv)::Hu bc tk l0) (fun y Γ'=> ∃ tk':Tok,tk'.e=26∧tk'.s=4∧y=.bp []∧Γ'=.row ti (an.map cY.pv)::Hu bc tk' (l0++(cj (iZ an) 0++(List.range an.length).flatMap (wu an (iZ an))))):=by
 refine af.ah ai Tryz.func92 rfl rfl (n:=44) rfl rfl ?_
 conv=>whnf
 skip
 refine aq.go (xK an ti hts hl hln hlr) (aX.refl _) ?_;rintro _ _ ⟨rfl,rfl⟩;generalize iZ an=fs at *
 conv=>whnf
 skip
 refine aq.go (zf bc tk l0 fs 0 h1 h2 (by omega)) (aX.refl _) ?_;rintro _ _ ⟨tk1,k1,k2,rfl,rfl⟩
 conv=>whnf
 repeat' (first|(((refine eP.map fun _=>?_));conv=>whnf)|(refine zX (fun hc=>?_) (fun hc=>?_)<;>(try simp only[SY] at hc)<;>omega))
 have hf0:=oV fs 0;refine ax.over [5,6,14,15,16,17,18,19,20,21,22,23,24,25,26,27,28,29,30,31,32,33,34,35,36,37,38,39,40,41,42,43] (fun x:Nat×Tok×List aa=> [(14,.int .i64 x.1)]) (fun x=> [.row ti (an.map cY.pv),.box bc [.ms x.2.1],.row x.2.1 (x.2.2.map aa.pv)]) (fun x=>x.1≤an.length∧x.2.1.e=26∧x.2.1.s=4∧x.2.2=l0++(cj fs 0++(List.range x.1).flatMap (wu an fs))∧x.2.2.length≤20000 + x.1 * 501) (fun x=>an.length - x.1) (0,tk1,l0++cj fs 0) ⟨Nat.zero_le _,k1,k2,by simp,by dsimp only;rw[List.length_append];omega⟩ wA ?_;rintro ⟨i,tk,l⟩ ⟨hi,h1,h2,hls,hll⟩;dsimp only at hi h1 h2 hls hll ⊢;rcases Nat.lt_or_ge i an.length with hlt | hge
 ·have hst:l++wu an fs i=l0++(cj fs 0++(List.range (i + 1)).flatMap (wu an fs)):=by rw[hls,List.range_succ,List.flatMap_append,List.append_assoc,List.append_assoc];simp
  have hid:an.getD i jY=an[i]:=by rw[List.getD_eq_getElem?_getD,List.getElem?_eq_getElem hlt];rfl
  rw[wu,hid] at hst;have hfi:=oV fs ((i:Int) + 1)
  conv=>whnf
  repeat' (first|((first|refine aM ?_|refine aF ?_|intro _|refine zG ?_);conv=>whnf)|(refine zX (fun hc=>?_) (fun hc=>?_)<;>(try simp only[SY] at hc)<;>first|omega|(conv=>whnf)))
  ·rw[if_pos (by assumption)] at hst
   refine aq.go (Fm bc tk l an[i].v an[i].e h1 h2 (by omega)) (aX.refl _) ?_;rintro _ _ ⟨tk2,e1,e2,rfl,rfl⟩
   conv=>whnf
   repeat' (first|((refine aM ?_);conv=>whnf)|(refine zX (fun hc=>?_) (fun hc=>?_)<;>(try simp only[SY] at hc)<;>omega))
   exact av (i + 1,tk2,l++ [mq an[i].v an[i].e]) ⟨by show i + 1≤_;omega,e1,e2,hst,by show (l++ [_]).length≤20000 + (i + 1) * 501;rw[List.length_append,List.length_singleton];omega⟩ (by show an.length - (i + 1) < an.length - i;omega) wA
  ·rw[if_neg (by simp_all),if_neg (by simp_all)] at hst
   refine aq.go (Ab bc tk l an[i].v an[i].e h1 h2 (by omega)) (aX.refl _) ?_;rintro _ _ ⟨tk2,e1,e2,rfl,rfl⟩
   conv=>whnf
   repeat' (first|((refine aM ?_);conv=>whnf)|(refine zX (fun hc=>?_) (fun hc=>?_)<;>(try simp only[SY] at hc)<;>omega))
   refine aq.go (zf bc tk2 (l++ [lg an[i].v an[i].e]) fs ((i:Int) + 1) e1 e2 (by rw[List.length_append,List.length_singleton];omega)) (aX.refl _) ?_;rintro _ _ ⟨tk3,e3,e4,rfl,rfl⟩
   conv=>whnf
   repeat' (first|((refine aM ?_);conv=>whnf)|(refine zX (fun hc=>?_) (fun hc=>?_)<;>(try simp only[SY] at hc)<;>omega))
   exact av (i + 1,tk3,l++ [lg an[i].v an[i].e]++cj fs ((i:Int) + 1)) ⟨by show i + 1≤_;omega,e3,e4,by show l++ [_]++_=_;rw[←hst,List.append_assoc];rfl,by show (l++ [_]++_).length≤20000 + (i + 1) * 501;rw[List.length_append,List.length_append,List.length_singleton];omega⟩ (by show an.length - (i + 1) < an.length - i;omega) wA
  ·rw[if_neg (by simp_all),if_pos (by simp_all),List.append_nil] at hst
   exact av (i + 1,tk,l) ⟨by show i + 1≤_;omega,h1,h2,hst,by show l.length≤20000 + (i + 1) * 501;omega⟩ (by show an.length - (i + 1) < an.length - i;omega) wA
 ·obtain rfl:i=an.length:=by omega
  rw[←hls]
  conv=>whnf
  repeat' ((refine zX (fun hc=>?_) (fun hc=>?_)<;>(try simp only[SY] at hc)<;>first|omega|(conv=>whnf)))
  exact ak.gen (y:=.bp []) (Γ':=.row ti (an.map cY.pv)::Hu bc tk l) (Wk.refl _) ⟨tk,h1,h2,rfl,rfl⟩
mutual
def aa.ct (o:Int):aa→Nat
 | .mk op _ _ t=>(if op=o then 1 else 0) + aa.fA o t
def aa.fA (o:Int):List aa→Nat
 | []=>0
 | x::xs=>aa.ct o x + aa.fA o xs
end
theorem aa.Er (o:Int) (t:aa):t.ct o=(if t.op=o then 1 else 0) + aa.fA o t.t:=by cases t;rw[aa.ct];rfl
theorem aa.oC (o op n:Int) (v:List Int) (l:List aa):(aa.mk op n v l).ct o=(if op=o then 1 else 0) + aa.fA o l:=by rw[aa.ct]
theorem aa.uU (o:Int): ∀ l m:List aa,aa.fA o (l++m)=aa.fA o l + aa.fA o m
 | [],m=>by simp[aa.fA]
 | x::l,m=>by rw[List.cons_append,aa.fA,aa.fA,aa.uU o l m];omega
theorem kf (o:Int): ∀ l:List aa,aa.fA o l=(l.map (aa.ct o)).sum
 | []=>by rw[aa.fA];rfl
 | x::l=>by rw[aa.fA,kf o l];rfl
theorem sum_append (a b:List Nat):(a++b).sum=a.sum + b.sum:=List.sum_append
theorem Ae {l:List Nat} {f:Nat→Int} (hf: ∀ a b,f a=f b→a=b) (h:l.Nodup):(l.map f).Nodup:=List.pairwise_map.2 (h.imp fun hab e=>hab (hf _ _ e))
theorem jW (c:gY→Nat): ∀ (L:List Int) (fs:List gY),L.Nodup→(∀ f∈fs,f.lv∈L)→(L.map fun lv=>((fs.filter fun f=>f.lv == lv).map c).sum).sum=(fs.map c).sum
 | [],fs,_,h=>by
  cases fs with
  | nil=>rfl
  | cons f fs=>exact absurd (h f (List.mem_cons_self ..)) (by simp)
 | lv::L,fs,hn,h=>by
  rw[List.nodup_cons] at hn;rw[List.map_cons,List.sum_cons]
  have h1:=jW c L (fs.filter fun f=>!(f.lv == lv)) hn.2 fun f hf=>by
   obtain ⟨q1,q2⟩:=List.mem_filter.1 hf;rcases List.mem_cons.1 (h f q1) with e | e
   ·rw[e] at q2;simp at q2
   ·exact e
  have h2:(L.map fun lv'=>(((fs.filter fun f=>!(f.lv == lv)).filter fun f=>f.lv == lv').map c).sum)=L.map fun lv'=>((fs.filter fun f=>f.lv == lv').map c).sum:=by
   refine List.map_congr_left fun lv' hl=>?_;rw[List.filter_filter];congr 2;refine List.filter_congr fun f _=>?_;by_cases e:f.lv=lv'
   ·have: ¬f.lv=lv:=fun e2=>hn.1 (by rw[←e2,e];exact hl)
    simp[e,show ¬lv'=lv from fun h=>this (e.trans h)]
   ·simp[e]
  rw[h2] at h1;rw[h1, ←sum_append, ←List.map_append];exact ((List.filter_append_perm (fun f:gY=>f.lv == lv) fs).map c).sum_nat
theorem EV (pr lt:List Bool) (n:Nat): ∀ (l:List Int) (m:Int),(∀ j∈l,0≤j∧j < n)→BR pr lt l m=m∨ ∃ k,k < n∧pr.getD k false=false∧lt.getD k false=false∧BR pr lt l m=(k:Int) + 1
 | [],m,_=>.inl rfl
 | j::l,m,h=>by
  rw[BR];have hj:=h j (List.mem_cons_self ..);have ih:=EV pr lt n l (if pr.getD j.toNat false=false∧lt.getD j.toNat false=false then max m (j + 1) else m) fun i hi=>h i (List.mem_cons_of_mem _ hi);rcases ih with e | e
  ·rw[e]
   split
   ·rename_i hc
    by_cases hm:m≤j + 1
    ·right
     exact ⟨j.toNat,by omega,hc.1,hc.2,by rw[Int.max_eq_right hm];omega⟩
    ·left
     rw[Int.max_eq_left (by omega)]
   ·exact .inl rfl
  ·exact .inr e
theorem EU {g:dy} (hg:oc g) (pr lt:List Bool): ∀ (l:List Nat) (m:Int),(∀ k∈l,k < g.length)→BQ g pr lt l m=m∨ ∃ k,k < g.length∧pr.getD k false=false∧lt.getD k false=false∧BQ g pr lt l m=(k:Int) + 1
 | [],m,_=>.inl rfl
 | k::l,m,h=>by
  rw[BQ];have hk:=h k (List.mem_cons_self ..);have hr: ∀ j∈cO g [(k:Int)],0≤j∧j < g.length:=fun j hj=>((iC hg (fun x hx=>by rw[List.mem_singleton.1 hx];omega) j).1 hj).Li hg fun x hx=>by rw[List.mem_singleton.1 hx];omega
  rcases EU hg pr lt l (BR pr lt (cO g [(k:Int)]) m) fun i hi=>h i (List.mem_cons_of_mem _ hi) with e | e
  ·rw[e]
   exact EV pr lt g.length _ m hr
  ·exact .inr e
theorem Mm {some:List Bool} {ln:List (List Int)} (h:oc ln):oc (rX some ln):=by
 intro l hl x hx;have hlen:(rX some ln).length=ln.length:=by unfold rX;simp
 rw[hlen];unfold rX at hl;obtain ⟨k,_,rfl⟩:=List.mem_map.1 hl
 split at hx
 ·exact h.at_ k x hx
 ·cases hx
theorem zw {own:List Nat} {ln:List (List Int)}:oc (oo own ln):=by
 intro l hl x hx;unfold oo at hl;obtain ⟨k,_,rfl⟩:=List.mem_map.1 hl;have:=lu.1 hx;unfold oo;rw[List.length_map];omega
theorem rB (V:List Int) (T:List aa):oc (br V T):=by
 intro l hl x hx;unfold br at hl;obtain ⟨k,_,rfl⟩:=List.mem_map.1 hl;unfold m6 at hx;have:=lu.1 hx;unfold br;rw[List.length_map,List.length_range];omega
section
variable {o:Int} (ho: ¬o=1∧ ¬o=2∧ ¬o=6∧ ¬o=8∧ ¬o=9)
include ho
omit ho in
theorem Ac (v:Int) (e:aa):aa.fA o (lg v e).t=e.ct o:=by
 show aa.fA o [e]=_;rw[aa.fA,aa.fA];omega
omit ho in
theorem Gz (V:List Int) (E:List aa) (pr lt:List Bool) (f:List gY) (nx:Int) (n:Nat) (lv:List Int) (N:Int): ∀ x∈jZ lv++(if N=1 then jh V E pr lt f n else fF V E pr lt f nx n),x.op=6∨x.op=8∨x.op=9:=by
 have hf: ∀ (l:List gY) lv, ∀ x∈cj l lv,x.op=6∨x.op=8∨x.op=9:=fun l lv x hx=>by
  obtain ⟨g,_,rfl⟩:=List.mem_map.1 hx;exact .inr (.inr rfl)
 have hl: ∀ v e,(lg v e).op=6∨(lg v e).op=8∨(lg v e).op=9:=fun _ _=>.inr (.inl rfl);have hs: ∀ v e,(mq v e).op=6∨(mq v e).op=8∨(mq v e).op=9:=fun _ _=>.inl rfl;intro x hx;rcases List.mem_append.1 hx with hx | hx
 ·unfold jZ at hx
  split at hx
  ·cases hx
  ·rw[List.mem_singleton.1 hx];exact .inr (.inl rfl)
 split at hx
 ·unfold jh at hx
  rcases List.mem_append.1 hx with hx | hx
  ·exact hf _ _ x hx
  ·obtain ⟨k,_,hx⟩:=List.mem_flatMap.1 hx
   split at hx
   ·rw[List.mem_singleton.1 hx];exact hs _ _
   split at hx
   ·cases hx
   ·rcases List.mem_cons.1 hx with rfl | hx
    ·exact hl _ _
    ·exact hf _ _ x hx
 ·unfold fF at hx
  rcases List.mem_append.1 hx with hx | hx
  ·rcases List.mem_append.1 hx with hx | hx
   ·obtain ⟨k,_,hx⟩:=List.mem_flatMap.1 hx
    split at hx
    ·cases hx
    ·rw[List.mem_singleton.1 hx];exact hl _ _
   ·obtain ⟨k,_,hx⟩:=List.mem_flatMap.1 hx
    exact hf _ _ x hx
  ·obtain ⟨k,_,hx⟩:=List.mem_flatMap.1 hx
   split at hx
   ·rw[List.mem_singleton.1 hx];exact hs _ _
   ·cases hx
omit ho in
theorem Mt (l:List Int) (hk:l= []∨(¬o=12∧ ¬o=13∧ ¬o=14)) (h8: ¬o=8):((jZ l).map fun x=>aa.fA o x.t).sum=0:=by
 unfold jZ
 split
 ·rfl
 ·rename_i hne
  have hk:=hk.resolve_left fun h=>hne (by rw[h];rfl);clear hne;rw[List.map_cons,List.map_nil,List.sum_cons,List.sum_nil];show aa.fA o (l.map fun _=>aa.mk 13 0 [] []) + 0=0
  induction l with
  | nil=>rw[List.map_nil,aa.fA]
  | cons x l ih=>
   rw[List.map_cons,aa.fA,aa.oC,aa.fA,if_neg (by omega)];by_cases hl:l.length=0
   ·rw[List.eq_nil_of_length_eq_zero hl,List.map_nil,aa.fA]
   ·omega
end
theorem Ct {α:Type} (c:α→Nat) (l:List (List α)):(l.map fun x=>(x.map c).sum).sum=(l.flatten.map c).sum:=by
 induction l with
 | nil=>rfl
 | cons x l ih=>rw[List.map_cons,List.sum_cons,ih,List.flatten_cons,List.map_append,sum_append]
theorem dZ {α β:Type} (c:β→Nat) (l:List α) (f:α→List β):((l.flatMap f).map c).sum=(l.map fun x=>((f x).map c).sum).sum:=by
 rw[List.flatMap_def, ←Ct,List.map_map];rfl
theorem I8 (own:List Nat) (c:Nat→Nat):(List.range own.length).map (fun a=>c (own.getD a 0))=own.map c:=by
 refine List.ext_getElem (by simp) fun i h1 h2=>?_;rw[List.length_map] at h2;simp only[List.getElem_map,List.getElem_range];rw[List.getD_eq_getElem?_getD,List.getElem?_eq_getElem h2];rfl
theorem AD (n:Nat) (p:Nat→Bool) (c:Nat→Nat):(((List.range n).filter p).map c).sum=((List.range n).map fun k=>if p k=true then c k else 0).sum:=by
 induction n with
 | zero=>rfl
 | succ n ih=>
  rw[List.range_succ,List.filter_append,List.map_append,List.map_append,sum_append,sum_append,ih];congr 1;by_cases h:p n=true
  ·rw[List.filter_cons_of_pos h];simp[h]
  ·rw[List.filter_cons_of_neg h];simp[h]
theorem oW (c:aa→Nat) (V:List Int) (E:List aa) (pr lt:List Bool) (ln:List (List Int)):((cC V E pr lt ln).map fun f=>(f.ts.map c).sum).sum=((List.range pr.length).map fun k=>if (pr.getD k false && !lt.getD k false)=true then c (E.getD k iE) else 0).sum:=by
 obtain ⟨own,hown⟩: ∃ own,own=lz (eB pr lt):=⟨_,rfl⟩
 unfold cC;rw[←hown,List.map_map]
 have h1:(kj (oo own ln)).map ((fun f:gY=>(f.ts.map c).sum) ∘ fun grp=>⟨BQ (rX (eB pr lt) ln) pr lt (grp.map fun a=>own.getD a 0) 0,(grp.map fun a=>own.getD a 0).map fun k=>V.getD k 0,(grp.map fun a=>own.getD a 0).map fun k=>E.getD k iE⟩)=(kj (oo own ln)).map fun grp=>(grp.map fun a=>c (E.getD (own.getD a 0) iE)).sum:=by
  refine List.map_congr_left fun grp _=>?_;show (((grp.map fun a=>own.getD a 0).map fun k=>E.getD k iE).map c).sum=_;rw[List.map_map,List.map_map];rfl
 rw[h1,Ct,((m0 (zw (own:=own) (ln:=ln))).map fun a=>c (E.getD (own.getD a 0) iE)).sum_nat];have hl:(oo own ln).length=own.length:=by unfold oo;simp
 rw[hl,I8 own fun k=>c (E.getD k iE),hown];have he:(eB pr lt).length=pr.length:=by unfold eB;simp
 unfold lz;rw[he,AD];congr 1;refine List.map_congr_left fun k hk=>?_
 have:(eB pr lt).getD k false=(pr.getD k false && !lt.getD k false):=by
  unfold eB;exact eX _ (List.mem_range.1 hk)
 rw[this]
theorem Gj (o:Int) (V:List Int) (E:List aa) (pr lt:List Bool) (ln:List (List Int)):((cC V E pr lt ln).map fun f=>aa.fA o f.ts).sum=((List.range pr.length).map fun k=>if (pr.getD k false && !lt.getD k false)=true then (E.getD k iE).ct o else 0).sum:=by
 rw[←oW (aa.ct o)];exact congrArg _ (List.map_congr_left fun f _=>kf o f.ts)
theorem qZ (o:Int) (f:List gY) (lv:Int):((cj f lv).map fun x=>aa.fA o x.t).sum=((f.filter fun f=>f.lv == lv).map fun f=>aa.fA o f.ts).sum:=by
 unfold cj;rw[List.map_map];rfl
theorem sum_add (l:List Nat) (a b:Nat→Nat):(l.map fun k=>a k + b k).sum=(l.map a).sum + (l.map b).sum:=by
 induction l with
 | nil=>rfl
 | cons x l ih=>simp only[List.map_cons,List.sum_cons,ih];omega
theorem Hi (T:List aa) (o:Int) (n:Nat) (h:T.length=n + 1):((List.range n).map fun k=>(T.getD k iE).ct o).sum + (T.getD n iE).ct o=aa.fA o T:=by
 have h1:((List.range (n + 1)).map fun k=>(T.getD k iE).ct o).sum=aa.fA o T:=by
  rw[kf];congr 1;refine List.ext_getElem (by simp[h]) fun i h1 h2=>?_;rw[List.length_map] at h2;simp only[List.getElem_map,List.getElem_range];rw[List.getD_eq_getElem?_getD,List.getElem?_eq_getElem h2];rfl
 rw[←h1,List.range_succ,List.map_append,sum_append];simp
theorem Bo {V:List Int} {E:List aa} {pr lt:List Bool} {ln:List (List Int)} (hg:oc ln) (hp:pr.length=ln.length): ∀ f∈cC V E pr lt ln,f.lv=0∨ ∃ k,k < ln.length∧pr.getD k false=false∧lt.getD k false=false∧f.lv=(k:Int) + 1:=by
 intro f hf;unfold cC at hf;obtain ⟨grp,hgrp,rfl⟩:=List.mem_map.1 hf;have hlen: ∀ s:List Bool,(rX s ln).length=ln.length:=fun s=>by unfold rX;simp
 have:=EU (Mm (some:=eB pr lt) hg) pr lt ((grp.map fun a=>(lz (eB pr lt)).getD a 0)) 0 fun k hk=>by
  obtain ⟨a,ha,rfl⟩:=List.mem_map.1 hk
  have h1:a < (lz (eB pr lt)).length:=by
   have h2:a∈(kj (oo (lz (eB pr lt)) ln)).flatten:=List.mem_flatten.2 ⟨grp,hgrp,ha⟩;have h3:=(m0 (zw (own:=lz (eB pr lt)) (ln:=ln))).mem_iff.1 h2;unfold oo at h3;rw[List.length_map] at h3;exact List.mem_range.1 h3
  rw[hlen,List.getD_eq_getElem?_getD,List.getElem?_eq_getElem h1];have h2:(lz (eB pr lt))[a] < (eB pr lt).length:=List.mem_range.1 (List.mem_filter.1 (List.getElem_mem h1)).1;have h3:(eB pr lt).length=pr.length:=by unfold eB;simp
  show (lz (eB pr lt))[a] < ln.length;omega
 rw[hlen] at this;exact this
mutual
def aa.LY:aa→Prop
 | .mk op _ v t=>(op=7→t.length=v.length + 1)∧aa.DS t
def aa.DS:List aa→Prop
 | []=>True
 | x::xs=>aa.LY x∧aa.DS xs
end
theorem aa.DR (t:aa):t.LY↔(t.op=7→t.t.length=t.v.length + 1)∧aa.DS t.t:=by cases t;rw[aa.LY];rfl
theorem aa.wj: ∀ {l:List aa},aa.DS l→ ∀ x∈l,x.LY
 | y::l,h,x,hx=>by
  rw[aa.DS] at h;rcases List.mem_cons.1 hx with rfl | hx
  ·exact h.1
  ·exact aa.wj h.2 x hx
theorem aa.Fj: ∀ {l:List aa},(∀ x∈l,x.LY)→aa.DS l
 | [],_=>trivial
 | x::l,h=>by rw[aa.DS];exact ⟨h x (List.mem_cons_self ..),aa.Fj fun y hy=>h y (List.mem_cons_of_mem _ hy)⟩
theorem Ak {level c codes:Int} {free:Bool} {op:Int} {sc inner:List Int}: ∀ {l:List aa} {deep:Int},aa.fE level c codes free op sc inner l deep→ ∀ y∈l, ∃ s d,y.qL level c codes free s d
 | x::l,deep,h,y,hy=>by
  rw[aa.fE] at h;rcases List.mem_cons.1 hy with rfl | hy
  ·exact ⟨_,_,h.2.1⟩
  ·exact Ak h.2.2 y hy
theorem aa.E6 {level c codes:Int} {free:Bool} (t:aa): ∀ {sc:List Int} {deep:Int},t.qL level c codes free sc deep→t.LY:=by
 induction t using aa.ind with
 | h t ih=>
  intro sc deep h;rw[aa.kN] at h;rw[aa.DR];refine ⟨fun h7=>?_,aa.Fj fun x hx=>?_⟩
  ·have hs:=h.1.2.2.1
   unfold c9 at hs
   split at hs
   ·cases hs
   ·rw[if_neg (by omega),if_neg (by omega),if_neg (by omega),if_neg (by omega),if_neg (by omega),if_pos (by omega)] at hs
    simp at hs;omega
  ·obtain ⟨s,d,hx2⟩:=Ak h.2 x hx
   exact ih x hx hx2
theorem qi (A:Int→Bool): ∀ (l:List aa) (nx:Int),(aa.bZ A l nx).1.length=l.length
 | [],nx=>by rw[aa.bZ]
 | x::l,nx=>by rw[aa.bZ];simp[qi A l]
mutual
def aa.Rs (A:Int→Bool):aa→Bool
 | .mk op _ v t=>(op !=7 || ((t.take v.length).all (fun x=>x.op == 4) && v.all fun u=>!A u)) && aa.Py A t
def aa.Py (A:Int→Bool):List aa→Bool
 | []=>true
 | x::xs=>aa.Rs A x && aa.Py A xs
end
theorem lT: ∀ l m:List aa,aa.aD (l++m)=aa.aD l + aa.aD m
 | [],m=>by rw[List.nil_append,aa.aD];omega
 | x::l,m=>by rw[List.cons_append,aa.aD,aa.aD,lT l m];omega
theorem nP: ∀ l:List aa,aa.aD l=(l.map aa.aR).sum
 | []=>by rw[aa.aD];rfl
 | x::l=>by rw[aa.aD,nP l];rfl
def I2 (x:aa):Nat:=1 + x.v.length + aa.aD x.t
theorem vQ (l:List aa) (t:aa):(gT l t).aR=(l.map I2).sum + t.aR:=by
 induction l with
 | nil=>show t.aR=0 + t.aR;omega
 | cons x l ih=>
  show (aa.mk x.op x.n x.v (x.t++ [gT l t])).aR=_;rw[aa.aR,lT,aa.aD,aa.aD,ih,List.map_cons,List.sum_cons];unfold I2;omega
theorem wC {l:List Nat} {a b:Nat→Nat} (h: ∀ k∈l,a k≤b k):(l.map a).sum≤(l.map b).sum:=by
 induction l with
 | nil=>exact Nat.le_refl _
 | cons x l ih=>
  simp only[List.map_cons,List.sum_cons];have:=h x (List.mem_cons_self ..);have:=ih fun k hk=>h k (List.mem_cons_of_mem _ hk);omega
theorem n7 (n c:Nat):((List.range n).map fun _=>c).sum=n * c:=by
 induction n with
 | zero=>simp
 | succ n ih=>rw[List.range_succ,List.map_append,sum_append,ih];simp[Nat.succ_mul]
theorem Ld (V:List Int) (E:List aa) (pr lt:List Bool) (ln:List (List Int)):((cC V E pr lt ln).map fun f=>1 + f.vs.length).sum≤2 * pr.length:=by
 have h1:=oW (fun _=>1) V E pr lt ln
 have h2: ∀ f∈cC V E pr lt ln,1 + f.vs.length≤2 * (f.ts.map fun _=>1).sum:=by
  intro f hf;unfold cC at hf;obtain ⟨grp,hg,rfl⟩:=List.mem_map.1 hf
  have hne:0 < grp.length:=by
   have key: ∀ (g:dy),oc g→ ∀ (m:Nat) (done:List Bool) (n:Nat), ∀ l∈mJ g m done n,0 < l.length:=by
    intro g hg m
    induction m with
    | zero=>intro done n l hl;rw[mJ] at hl;cases hl
    | succ m ih=>
     intro done n l hl;rw[mJ] at hl
     split at hl
     ·split at hl
      ·cases hl
      ·rename_i i hi
       rcases List.mem_cons.1 hl with rfl | hl
       ·have hlt:=List.mem_range.1 (List.mem_of_find?_eq_some hi)
        exact List.length_pos_of_mem (iK.2 ⟨hlt,iT hg hlt,iT hg hlt⟩)
       ·exact ih _ _ l hl
     ·cases hl
   exact key _ (zw (own:=lz (eB pr lt)) (ln:=ln)) _ _ _ grp hg
  have: ∀ l:List aa,(l.map fun _=>1).sum=l.length:=fun l=>by
   induction l with
   | nil=>rfl
   | cons x l ih=>rw[List.map_cons,List.sum_cons,ih,List.length_cons];omega
  simp only[this,List.length_map];omega
 have h3: ∀ l:List gY,(∀ f∈l,1 + f.vs.length≤2 * (f.ts.map fun _=>1).sum)→(l.map fun f=>1 + f.vs.length).sum≤2 * (l.map fun f=>(f.ts.map fun _=>1).sum).sum:=by
  intro l
  induction l with
  | nil=>intro _;exact Nat.le_refl _
  | cons x l ih=>
   intro h;simp only[List.map_cons,List.sum_cons];have:=h x (List.mem_cons_self ..);have:=ih fun f hf=>h f (List.mem_cons_of_mem _ hf);omega
 have h4:=h3 _ h2;rw[h1] at h4;have h5:((List.range pr.length).map fun k=>if (pr.getD k false && !lt.getD k false)=true then 1 else 0).sum≤((List.range pr.length).map fun _=>1).sum:=wC fun k _=>by split<;>omega
 rw[n7] at h5;omega
theorem HQ (late:List Int) (t:aa):(t.ask late).aR≤t.aR + t.ct 1:=by
 induction t using aa.ind with
 | h t ih=>
  have key: ∀ l:List aa,(∀ x∈l,(x.ask late).aR≤x.aR + x.ct 1)→aa.aD (l.map (aa.ask late))≤aa.aD l + aa.fA 1 l:=by
   intro l
   induction l with
   | nil=>intro _;rw[List.map_nil];omega
   | cons x l ihl=>
    intro h;rw[List.map_cons,aa.aD,aa.aD,aa.fA];have:=h x (List.mem_cons_self ..);have:=ihl fun y hy=>h y (List.mem_cons_of_mem _ hy);omega
  have hk:=key t.t ih;rw[aa.oP,aa.Er,t.bu];unfold Ng
  split
  ·split
   ·rename_i h1
    rw[aa.aR,aa.aD,aa.aD,aa.aR]
    try rw[if_pos h1]
    simp only[List.length_nil];omega
   split
   ·rw[aa.aR];omega
   ·rw[aa.aR];omega
  ·rw[aa.aR];omega
theorem KW (late:List Int) (t:aa):(t.ask late).ct 1=t.ct 1:=by
 induction t using aa.ind with
 | h t ih=>
  have hl:aa.fA 1 (t.t.map (aa.ask late))=aa.fA 1 t.t:=by
   rw[kf,kf,List.map_map];exact congrArg _ (List.map_congr_left fun x hx=>ih x hx)
  rw[aa.oP,aa.Er 1 t];unfold Ng
  split
  ·split
   ·rename_i h1
    rw[aa.oC,aa.fA,aa.fA,aa.oC,hl,if_pos h1,if_neg (by decide)]
    try omega
   split
   ·rename_i h1 h2
    rw[aa.oC,hl,if_neg (by decide)]
   ·rename_i h1 h2
    rw[aa.oC,hl,if_neg h1]
  ·rw[aa.oC,hl]
theorem Hq (l:List Int):((jZ l).map I2).sum≤1 + 2 * l.length:=by
 unfold jZ
 split
 ·exact Nat.zero_le _
 ·rw[List.map_cons,List.map_nil,List.sum_cons,List.sum_nil]
  have: ∀ l:List Int,aa.aD (l.map fun _=>aa.mk 13 0 [] [])=l.length:=fun l=>by
   induction l with
   | nil=>rw[List.map_nil,aa.aD];rfl
   | cons x l ih=>rw[List.map_cons,aa.aD,ih,aa.aR,aa.aD,List.length_cons];simp;omega
  unfold I2;show 1 + l.length + aa.aD (l.map fun _=>aa.mk 13 0 [] []) + 0≤_;rw[this];omega
theorem va (f:List gY) (lv:Int):((cj f lv).map I2).sum=((f.filter fun f=>f.lv == lv).map fun f=>1 + f.vs.length + aa.aD f.ts).sum:=by
 unfold cj;rw[List.map_map];rfl
theorem Ad (v:Int) (e:aa):I2 (lg v e)=2 + e.aR:=by
 show 1 + 1 + aa.aD [e]=_;rw[aa.aD,aa.aD];omega
theorem uz (v:Int) (e:aa):I2 (mq v e)=2 + e.aR:=by
 show 1 + 0 + aa.aD [.mk 2 v [] [e]]=_;rw[aa.aD,aa.aD,aa.aR,aa.aD,aa.aD];simp;omega
theorem D7 (T:List aa) (n:Nat) (h:T.length=n + 1):((List.range n).map fun k=>(T.getD k iE).aR).sum + (T.getD n iE).aR=aa.aD T:=by
 have h1:((List.range (n + 1)).map fun k=>(T.getD k iE).aR).sum=aa.aD T:=by
  rw[nP];congr 1;refine List.ext_getElem (by simp[h]) fun i h1 h2=>?_;rw[List.length_map] at h2;simp only[List.getElem_map,List.getElem_range];rw[List.getD_eq_getElem?_getD,List.getElem?_eq_getElem h2];rfl
 rw[←h1,List.range_succ,List.map_append,sum_append];simp
theorem ya (A:Int→Bool) (N:Int) (V:List Int) (T:List aa) (nx:Int) (hT:T.length=V.length + 1):(gU A N V T nx).1.aR≤aa.aD T + aa.fA 1 T + 9 * V.length + 1:=by
 obtain ⟨pr,hpr⟩: ∃ pr,pr=cx A V T:=⟨_,rfl⟩
 obtain ⟨ln,hln⟩: ∃ ln,ln=br V T:=⟨_,rfl⟩
 obtain ⟨lt,hlt⟩: ∃ lt,lt=gl N pr ln:=⟨_,rfl⟩
 obtain ⟨E,hE⟩: ∃ E,E=T.map (aa.ask (eF V lt)):=⟨_,rfl⟩
 obtain ⟨f,hf⟩: ∃ f,f=cC V E pr lt ln:=⟨_,rfl⟩
 have hgo:oc ln:=by rw[hln];exact rB V T
 have hpl:pr.length=V.length:=by rw[hpr];unfold cx;simp
 have hll:ln.length=V.length:=by rw[hln];unfold br;simp
 have hEl:E.length=V.length + 1:=by rw[hE,List.length_map,hT]
 have hEb:aa.aD E≤aa.aD T + aa.fA 1 T:=by
  rw[hE]
  have key: ∀ l:List aa,aa.aD (l.map (aa.ask (eF V lt)))≤aa.aD l + aa.fA 1 l:=by
   intro l
   induction l with
   | nil=>rw[List.map_nil];omega
   | cons x l ihl=>
    rw[List.map_cons,aa.aD,aa.aD,aa.fA];have:=HQ (eF V lt) x;omega
  exact key T
 have hlv:=Bo (V:=V) (E:=E) (lt:=lt) hgo (by omega:pr.length=ln.length);have hfs:=oW aa.aR V E pr lt ln;have hfl:=Ld V E pr lt ln;rw[←hf] at hlv hfs hfl;rw[hpl] at hfs hfl;have hu:=Hq (eF V lt)
 have hlvl:(eF V lt).length≤V.length:=by
  unfold eF;rw[List.length_map];exact Nat.le_trans (List.length_filter_le _ _) (by simp)
 have hcf:(f.map fun f=>1 + f.vs.length + aa.aD f.ts).sum=(f.map fun f=>1 + f.vs.length).sum + (f.map fun f=>(f.ts.map aa.aR).sum).sum:=by
  clear hlv hfs hfl hf
  induction f with
  | nil=>rfl
  | cons x l ih=>
   rw[List.map_cons,List.sum_cons,List.map_cons,List.sum_cons,List.map_cons,List.sum_cons,ih,nP];omega
 unfold gU;dsimp only;rw[←hpr, ←hln, ←hlt, ←hE, ←hf,vQ,List.map_append,sum_append];have hsum:=D7 E V.length hEl
 have hsp:((List.range V.length).map fun k=>(E.getD k iE).aR).sum=((List.range V.length).map fun k=>(if (pr.getD k false && !lt.getD k false)=true then (E.getD k iE).aR else 0) + (if (pr.getD k false && !lt.getD k false)=true then 0 else (E.getD k iE).aR)).sum:=by
  congr 1;refine List.map_congr_left fun k _=>?_
  split<;>omega
 rw[sum_add] at hsp
 split
 ·have hmain:((jh V E pr lt f V.length).map I2).sum≤(f.map fun f=>1 + f.vs.length + aa.aD f.ts).sum + ((List.range V.length).map fun k=>(if (pr.getD k false && !lt.getD k false)=true then 0 else (E.getD k iE).aR) + 2).sum:=by
   unfold jh;rw[List.map_append,sum_append,dZ,va]
   have hL:=jW (fun f:gY=>1 + f.vs.length + aa.aD f.ts) (0::((List.range V.length).filter fun k=>!pr.getD k false && !lt.getD k false).map fun k:Nat=>(k:Int) + 1) f (by
    rw[List.nodup_cons];refine ⟨fun h=>?_,?_⟩
    ·obtain ⟨k,_,e⟩:=List.mem_map.1 h
     omega
    ·exact Ae (fun a b e=>by omega) (List.nodup_range.sublist List.filter_sublist)) fun f hf=>by
    rcases hlv f hf with e | ⟨k,h1,h2,h3,e⟩
    ·rw[e];exact List.mem_cons_self ..
    ·rw[e]
     refine List.mem_cons_of_mem _ (List.mem_map.2 ⟨k,List.mem_filter.2 ⟨List.mem_range.2 (by omega),by rw[h2,h3];rfl⟩,rfl⟩)
   rw[List.map_cons,List.sum_cons,List.map_map,AD] at hL;rw[←hL,Nat.add_assoc];refine Nat.add_le_add_left ?_ _;rw[←sum_add];refine wC fun k _=>?_;cases h1:lt.getD k false<;>cases h2:pr.getD k false
   ·simp[Ad,va];omega
   ·simp
   ·simp[uz];omega
   ·simp[uz];omega
  rw[sum_add,n7] at hmain;omega
 ·have hmain:((fF V E pr lt f nx V.length).map I2).sum≤(f.map fun f=>1 + f.vs.length + aa.aD f.ts).sum + ((List.range V.length).map fun k=>(if (pr.getD k false && !lt.getD k false)=true then 0 else (E.getD k iE).aR) + 5).sum:=by
   unfold fF;rw[List.map_append,List.map_append,sum_append,sum_append,dZ,dZ,dZ]
   have hL:=jW (fun f:gY=>1 + f.vs.length + aa.aD f.ts) ((List.range (V.length + 1)).map fun k:Nat=>(k:Int)) f (Ae (fun a b e=>by omega) List.nodup_range) fun f hf=>by
    rcases hlv f hf with e | ⟨k,h1,h2,h3,e⟩
    ·rw[e];exact List.mem_map.2 ⟨0,List.mem_range.2 (by omega),rfl⟩
    ·rw[e];exact List.mem_map.2 ⟨k + 1,List.mem_range.2 (by omega),by omega⟩
   rw[List.map_map] at hL
   have h2:((List.range (V.length + 1)).map fun k:Nat=>((cj f (k:Int)).map I2).sum)=(List.range (V.length + 1)).map ((fun lv=>((f.filter fun f=>f.lv == lv).map fun f=>1 + f.vs.length + aa.aD f.ts).sum) ∘ fun k:Nat=>(k:Int)):=
    List.map_congr_left fun k _=>va f _
   rw[h2,hL,Nat.add_comm (((List.range V.length).map _).sum),Nat.add_assoc];refine Nat.add_le_add_left ?_ _;rw[←sum_add];refine wC fun k _=>?_;have h1: ∀ v:Int,(aa.mk 1 v [] []).aR=1:=fun v=>by rw[aa.aR,aa.aD];rfl
   cases h3:lt.getD k false<;>cases h4:pr.getD k false
   ·simp[Ad];omega
   ·simp
   ·simp[Ad,uz,h1];omega
   ·simp[uz];omega
  rw[sum_add,n7] at hmain;omega
theorem GN (l:List aa) (t:aa) (hl: ∀ x∈l,x.op=6∨x.op=8∨x.op=9):(gT l t).ct 1=(l.map fun x=>aa.fA 1 x.t).sum + t.ct 1:=by
 induction l with
 | nil=>show t.ct 1=0 + t.ct 1;omega
 | cons x l ih=>
  show (aa.mk x.op x.n x.v (x.t++ [gT l t])).ct 1=_;have hx:=hl x (List.mem_cons_self ..);rw[aa.oC,aa.uU,aa.fA,aa.fA,ih fun y hy=>hl y (List.mem_cons_of_mem _ hy),if_neg (by omega),List.map_cons,List.sum_cons];omega
theorem qG (v:Int) (e:aa):aa.fA 1 (mq v e).t=e.ct 1:=by
 show aa.fA 1 [.mk 2 v [] [e]]=_;rw[aa.fA,aa.fA,aa.oC,aa.fA,aa.fA,if_neg (by decide)];omega
theorem JE (A:Int→Bool) (N:Int) (V:List Int) (T:List aa) (nx:Int) (hT:T.length=V.length + 1):(gU A N V T nx).1.ct 1≤aa.fA 1 T + V.length:=by
 obtain ⟨pr,hpr⟩: ∃ pr,pr=cx A V T:=⟨_,rfl⟩
 obtain ⟨ln,hln⟩: ∃ ln,ln=br V T:=⟨_,rfl⟩
 obtain ⟨lt,hlt⟩: ∃ lt,lt=gl N pr ln:=⟨_,rfl⟩
 obtain ⟨E,hE⟩: ∃ E,E=T.map (aa.ask (eF V lt)):=⟨_,rfl⟩
 obtain ⟨f,hf⟩: ∃ f,f=cC V E pr lt ln:=⟨_,rfl⟩
 have hgo:oc ln:=by rw[hln];exact rB V T
 have hpl:pr.length=V.length:=by rw[hpr];unfold cx;simp
 have hll:ln.length=V.length:=by rw[hln];unfold br;simp
 have hEl:E.length=V.length + 1:=by rw[hE,List.length_map,hT]
 have hEc:aa.fA 1 E=aa.fA 1 T:=by
  rw[hE,kf,kf,List.map_map];exact congrArg _ (List.map_congr_left fun x _=>KW _ x)
 have hlv:=Bo (V:=V) (E:=E) (lt:=lt) hgo (by omega:pr.length=ln.length);rw[←hf] at hlv;have hfs:=Gj 1 V E pr lt ln;rw[←hf,hpl] at hfs;have hu:=Mt (o:=1) (eF V lt) (.inr (by decide)) (by decide);unfold gU;dsimp only;rw[←hpr, ←hln, ←hlt, ←hE, ←hf,GN _ _ (Gz _ _ _ _ _ _ _ _ _),List.map_append,sum_append,hu,Nat.zero_add, ←hEc, ←Hi E 1 V.length hEl]
 have hsp:((List.range V.length).map fun k=>(E.getD k iE).ct 1).sum=((List.range V.length).map fun k=>(if (pr.getD k false && !lt.getD k false)=true then (E.getD k iE).ct 1 else 0) + (if (pr.getD k false && !lt.getD k false)=true then 0 else (E.getD k iE).ct 1)).sum:=by
  congr 1;refine List.map_congr_left fun k _=>?_
  split<;>omega
 rw[sum_add] at hsp
 split
 ·have hmain:((jh V E pr lt f V.length).map fun x=>aa.fA 1 x.t).sum≤(f.map fun f=>aa.fA 1 f.ts).sum + ((List.range V.length).map fun k=>if (pr.getD k false && !lt.getD k false)=true then 0 else (E.getD k iE).ct 1).sum:=by
   unfold jh;rw[List.map_append,sum_append,dZ,qZ]
   have hL:=jW (fun f:gY=>aa.fA 1 f.ts) (0::((List.range V.length).filter fun k=>!pr.getD k false && !lt.getD k false).map fun k:Nat=>(k:Int) + 1) f (by
    rw[List.nodup_cons];refine ⟨fun h=>?_,?_⟩
    ·obtain ⟨k,_,e⟩:=List.mem_map.1 h
     omega
    ·exact Ae (fun a b e=>by omega) (List.nodup_range.sublist List.filter_sublist)) fun f hf=>by
    rcases hlv f hf with e | ⟨k,h1,h2,h3,e⟩
    ·rw[e];exact List.mem_cons_self ..
    ·rw[e]
     refine List.mem_cons_of_mem _ (List.mem_map.2 ⟨k,List.mem_filter.2 ⟨List.mem_range.2 (by omega),by rw[h2,h3];rfl⟩,rfl⟩)
   rw[List.map_cons,List.sum_cons,List.map_map,AD] at hL;rw[←hL,Nat.add_assoc];refine Nat.add_le_add_left ?_ _;rw[←sum_add];refine wC fun k _=>?_;cases h1:lt.getD k false<;>cases h2:pr.getD k false
   ·simp[Ac,qZ];omega
   ·simp
   ·simp[qG]
   ·simp[qG]
  omega
 ·have hmain:((fF V E pr lt f nx V.length).map fun x=>aa.fA 1 x.t).sum≤(f.map fun f=>aa.fA 1 f.ts).sum + ((List.range V.length).map fun k=>(if (pr.getD k false && !lt.getD k false)=true then 0 else (E.getD k iE).ct 1) + 1).sum:=by
   unfold fF;rw[List.map_append,List.map_append,sum_append,sum_append,dZ,dZ,dZ]
   have hL:=jW (fun f:gY=>aa.fA 1 f.ts) ((List.range (V.length + 1)).map fun k:Nat=>(k:Int)) f (Ae (fun a b e=>by omega) List.nodup_range) fun f hf=>by
    rcases hlv f hf with e | ⟨k,h1,h2,h3,e⟩
    ·rw[e];exact List.mem_map.2 ⟨0,List.mem_range.2 (by omega),rfl⟩
    ·rw[e];exact List.mem_map.2 ⟨k + 1,List.mem_range.2 (by omega),by omega⟩
   rw[List.map_map] at hL
   have h2:((List.range (V.length + 1)).map fun k:Nat=>((cj f (k:Int)).map fun x=>aa.fA 1 x.t).sum)=(List.range (V.length + 1)).map ((fun lv=>((f.filter fun f=>f.lv == lv).map fun f=>aa.fA 1 f.ts).sum) ∘ fun k:Nat=>(k:Int)):=
    List.map_congr_left fun k _=>qZ 1 f _
   rw[h2,hL,Nat.add_comm (((List.range V.length).map _).sum),Nat.add_assoc];refine Nat.add_le_add_left ?_ _;rw[←sum_add];refine wC fun k _=>?_;have h1: ∀ v:Int,(aa.mk 1 v [] []).ct 1=1:=fun v=>by rw[aa.oC,aa.fA,if_pos rfl]
   cases h3:lt.getD k false<;>cases h4:pr.getD k false
   ·simp[Ac]
   ·simp
   ·simp[Ac,qG,h1]
   ·simp[qG]
  rw[sum_add,n7] at hmain;omega
theorem uV (A:Int→Bool) (t:aa):t.LY→ ∀ nx:Int,(t.iy A nx).1.ct 1≤t.aR∧((t.iy A nx).1.aR:Int)≤(t.cnt + 10) * t.aR:=by
 induction t using aa.ind with
 | h t ih=>
  intro hs nx;rw[aa.DR] at hs
  have key: ∀ l:List aa,(∀ x∈l, ∀ nx:Int,(x.iy A nx).1.ct 1≤x.aR∧((x.iy A nx).1.aR:Int)≤(x.cnt + 10) * x.aR)→ ∀ nx,aa.fA 1 (aa.bZ A l nx).1≤aa.aD l∧(aa.aD (aa.bZ A l nx).1:Int)≤(aa.bR l + 10) * aa.aD l:=by
   intro l
   induction l with
   | nil=>intro _ nx;rw[aa.bZ];exact ⟨Nat.le_refl _,by rw[aa.aD];simp⟩
   | cons x l ihl=>
    intro h nx;obtain ⟨a1,a2⟩:=h x (List.mem_cons_self ..) nx;obtain ⟨b1,b2⟩:=ihl (fun y hy=>h y (List.mem_cons_of_mem _ hy)) (x.iy A nx).2;rw[aa.bZ];dsimp only;rw[aa.fA,aa.aD,aa.aD,aa.bR];refine ⟨by omega,?_⟩;have h1:=x.qh;have h2:=aa.eu l;have h3:(0:Int)≤aa.bR l * (x.aR:Int):=Int.mul_nonneg h2 (by omega);have h4:(0:Int)≤x.cnt * (aa.aD l:Int):=Int.mul_nonneg (by omega) (by omega)
    have h5:(x.cnt + aa.bR l + 10) * ((x.aR:Int) + (aa.aD l:Int))=(x.cnt + 10) * x.aR + (aa.bR l + 10) * aa.aD l + aa.bR l * x.aR + x.cnt * aa.aD l:=by
     simp only[Int.add_mul,Int.mul_add];omega
    push_cast
    rw[h5];omega
  obtain ⟨k1,k2⟩:=key t.t (fun x hx=>ih x hx (aa.wj hs.2 x hx)) nx;have hlen:=qi A t.t nx;have hcp:=aa.eu t.t;have e1:=t.bu;have e2:=t.fD
  have e3:(t.cnt + 10) * (t.aR:Int)=(aa.bR t.t + 10) * aa.aD t.t + aa.aD t.t + (aa.bR t.t + 11) * (1 + t.v.length:Int):=by
   rw[e1,e2]
   push_cast
   simp only[Int.add_mul,Int.mul_add];omega
  have e4:(11:Int) * (1 + t.v.length)≤(aa.bR t.t + 11) * (1 + t.v.length:Int):=Int.mul_le_mul_of_nonneg_right (by omega) (by omega);rw[aa.mU];by_cases h7:t.op=7
  ·rw[if_pos h7]
   have hn:=hs.1 h7;have r1:=JE A t.n t.v (aa.bZ A t.t nx).1 (aa.bZ A t.t nx).2 (by omega);have r2:=ya A t.n t.v (aa.bZ A t.t nx).1 (aa.bZ A t.t nx).2 (by omega);refine ⟨by omega,?_⟩;rw[e3];omega
  ·rw[if_neg h7]
   dsimp only;rw[aa.oC,aa.aR,e3];refine ⟨?_,by push_cast;omega⟩
   split<;>omega
theorem J6 (k:Int) (t:aa):ez (cW (t.sh k).all)=(ez (cW t.all)).map (· + k):=by
 rw[aa.Ob, ←JO];congr 1;unfold cW;rw[List.filter_map,List.map_map,List.map_map]
 have hc:((fun m:aa×List Int=>bx m.1.op && !m.2.contains m.1.n) ∘ fun m:aa×List Int=>(m.1.sh k,m.2.map (· + k)))=fun m=>bx m.1.op && !m.2.contains m.1.n:=by
  funext m;simp only[Function.comp,aa.nG,aa.DY];by_cases h:bx m.1.op=true
  ·rw[if_pos h,h]
   congr 2;rw[Bool.eq_iff_iff,List.contains_iff_mem,List.contains_iff_mem,List.mem_map];constructor
   ·rintro ⟨x,hx,e⟩
    have:x=m.1.n:=by omega
    rw[←this];exact hx
   ·intro hx;exact ⟨_,hx,rfl⟩
  ·rw[Bool.not_eq_true] at h
   rw[h];rfl
 rw[hc];apply List.map_congr_left;intro m hm;rw[List.mem_filter,Bool.and_eq_true] at hm;simp only[Function.comp,aa.DY,hm.2.1,if_true]
theorem xX (k:Int) {op:Int} (h:bx op=false) (n:Int) (v:List Int) (l:List aa):(aa.mk op n v l).sh k=.mk op n (v.map (· + k)) (l.map (aa.sh k)):=by
 rw[aa.sh,h,aa.jU];rfl
theorem fY {α β:Type} {l:List α} {f g:α→List β} (h: ∀ x∈l,f x=g x):l.flatMap f=l.flatMap g:=by
 rw[List.flatMap_def,List.flatMap_def,List.map_congr_left h]
section
variable {A B:Int→Bool} {s:Int} (hAB: ∀ v,B (v + s)=A v)
theorem lW (T:List aa) (k:Nat):(T.map (aa.sh s)).getD k iE=(T.getD k iE).sh s:=by
 rw[List.getD_eq_getElem?_getD,List.getD_eq_getElem?_getD,List.getElem?_map]
 cases T[k]? with
 | none=>show iE=iE.sh s;simp[aa.sh,aa.PM,bx]
 | some x=>rfl
theorem lX (V:List Int) {k:Nat} (hk:k < V.length):(V.map (· + s)).getD k 0=V.getD k 0 + s:=by
 rw[List.getD_eq_getElem?_getD,List.getD_eq_getElem?_getD,List.getElem?_map,List.getElem?_eq_getElem hk];rfl
theorem mS (l:List Int) (v:Int):(l.map (· + s)).contains (v + s)=l.contains v:=by
 rw[Bool.eq_iff_iff,List.contains_iff_mem,List.contains_iff_mem,List.mem_map];constructor
 ·rintro ⟨u,hu,e⟩
  have:u=v:=by omega
  exact this▸hu
 ·exact fun h=>⟨v,h,rfl⟩
theorem I0 (V:List Int) (t:aa):m6 (V.map (· + s)) (t.sh s)=m6 V t:=by
 unfold m6 fM;rw[List.length_map,J6];congr 1;refine List.filter_congr fun j hj=>?_;rw[lX V (List.mem_range.1 hj),mS]
theorem Gy (V:List Int) (T:List aa):br (V.map (· + s)) (T.map (aa.sh s))=br V T:=by
 unfold br;rw[List.length_map];refine List.map_congr_left fun k _=>?_;rw[lW,I0]
include hAB in
theorem Jv (V:List Int) (T:List aa):cx B (V.map (· + s)) (T.map (aa.sh s))=cx A V T:=by
 unfold cx;rw[List.length_map];refine List.map_congr_left fun k hk=>?_;rw[lW,aa.nG,lX V (List.mem_range.1 hk),hAB]
theorem IY (V:List Int) (lt:List Bool):eF (V.map (· + s)) lt=(eF V lt).map (· + s):=by
 unfold eF;rw[List.length_map,List.map_map];refine List.map_congr_left fun k hk=>?_;exact lX V (List.mem_range.1 (List.mem_filter.1 hk).1)
theorem M7 (late:List Int) (t:aa):(t.ask late).sh s=(t.sh s).ask (late.map (· + s)):=by
 induction t using aa.ind with
 | h t ih=>
  have hl:(t.t.map (aa.ask late)).map (aa.sh s)=(t.t.map (aa.sh s)).map (aa.ask (late.map (· + s))):=by
   rw[List.map_map,List.map_map];exact List.map_congr_left fun x hx=>ih x hx
  rw[aa.oP,aa.oP,aa.nG,aa.DY,aa.Cq,aa.Ax, ←hl];unfold Ng;by_cases h1:t.op=1
  ·have hn:bx t.op=true:=by rw[h1];rfl
   rw[if_pos hn,mS]
   split
   ·rw[xX s (by decide)]
    simp only[List.map_cons,List.map_nil];rw[aa.sh,aa.jU,if_pos hn]
   ·rw[aa.sh,aa.jU,if_pos hn]
  by_cases h2:t.op=2
  ·have hn:bx t.op=true:=by rw[h2];rfl
   rw[if_pos hn,mS]
   split
   ·rw[aa.sh,aa.jU,if_pos (by rfl)]
   ·rw[aa.sh,aa.jU,if_pos hn]
  ·simp only[if_neg h1,if_neg h2,ite_self]
   rw[aa.sh,aa.jU]
theorem EP (v:Int) (e:aa):(lg v e).sh s=lg (v + s) (e.sh s):=by unfold lg;rw[xX s (by decide)];rfl
theorem Fo (v:Int) (e:aa):(mq v e).sh s=mq (v + s) (e.sh s):=by
 unfold mq;rw[xX s (by decide)];simp only[List.map_cons,List.map_nil];rw[aa.sh,aa.jU,if_pos (by rfl)];rfl
theorem B0 (l:List aa) (t:aa) (hl: ∀ x∈l,bx x.op=false):(gT l t).sh s=gT (l.map (aa.sh s)) (t.sh s):=by
 induction l with
 | nil=>rfl
 | cons x l ih=>
  show (aa.mk x.op x.n x.v (x.t++ [gT l t])).sh s=.mk (x.sh s).op (x.sh s).n (x.sh s).v ((x.sh s).t++ [gT (l.map (aa.sh s)) (t.sh s)]);have hx:=hl x (List.mem_cons_self ..);rw[xX s hx,aa.nG,aa.DY,if_neg (by rw[hx];decide),aa.Cq,aa.Ax, ←ih fun y hy=>hl y (List.mem_cons_of_mem _ hy),List.map_append];rfl
def gY.sh (s:Int) (f:gY):gY:=⟨f.lv,f.vs.map (· + s),f.ts.map (aa.sh s)⟩
theorem Nu (f:gY):(Ph f).sh s=Ph (f.sh s):=by unfold Ph gY.sh;rw[xX s (by decide)]
theorem vb (l:List gY) (lv:Int):(cj l lv).map (aa.sh s)=cj (l.map (gY.sh s)) lv:=by
 unfold cj;rw[List.filter_map,List.map_map,List.map_map];exact List.map_congr_left fun f _=>Nu f
theorem zk (g:dy): ∀ (f:Nat) (done:List Bool) (n:Nat), ∀ l∈mJ g f done n, ∀ x∈l,x < g.length
 | 0,_,_,l,hl,_,_=>by rw[mJ] at hl;cases hl
 | f + 1,done,n,l,hl,x,hx=>by
  rw[mJ] at hl
  split at hl
  ·split at hl
   ·cases hl
   ·rename_i i _
    rcases List.mem_cons.1 hl with rfl | hl
    ·unfold eC at hx
     exact List.mem_range.1 (List.mem_filter.1 hx).1
    ·exact zk g f _ _ l hl x hx
  ·cases hl
theorem E7 {er:List Bool} {x:Nat} (h:x∈lz er):x < er.length:=List.mem_range.1 (List.mem_filter.1 h).1
theorem Gi (V:List Int) (E:List aa) (pr lt:List Bool) (ln:List (List Int)) (hp:pr.length=V.length):cC (V.map (· + s)) (E.map (aa.sh s)) pr lt ln=(cC V E pr lt ln).map (gY.sh s):=by
 unfold cC;rw[List.map_map];refine List.map_congr_left fun grp hg=>?_
 have hlt: ∀ a∈grp,(lz (eB pr lt)).getD a 0 < V.length:=fun a ha=>by
  have h1:=zk _ _ _ _ grp hg a ha;unfold oo at h1;rw[List.length_map] at h1;rw[List.getD_eq_getElem?_getD,List.getElem?_eq_getElem h1];have h2:=E7 (List.getElem_mem h1);have h3:(eB pr lt).length=V.length:=by unfold eB;simp[hp]
  show (lz (eB pr lt))[a] < V.length;omega
 show gY.mk _ _ _=gY.sh s ⟨_,_,_⟩;unfold gY.sh;simp only[List.map_map];congr 1
 ·exact List.map_congr_left fun a ha=>lX V (hlt a ha)
 ·exact List.map_congr_left fun a _=>lW E _
theorem Kh (V:List Int) (E:List aa) (pr lt:List Bool) (f:List gY):jh (V.map (· + s)) (E.map (aa.sh s)) pr lt (f.map (gY.sh s)) V.length=(jh V E pr lt f V.length).map (aa.sh s):=by
 unfold jh;rw[List.map_append,vb,List.map_flatMap];congr 1;refine fY fun k hk=>?_;rw[lX V (List.mem_range.1 hk),lW]
 split
 ·simp only[List.map_cons,List.map_nil,Fo]
 split
 ·rfl
 ·rw[List.map_cons,EP,vb]
theorem GS (V:List Int) (E:List aa) (pr lt:List Bool) (f:List gY) (nx:Int):fF (V.map (· + s)) (E.map (aa.sh s)) pr lt (f.map (gY.sh s)) (nx + s) V.length=(fF V E pr lt f nx V.length).map (aa.sh s):=by
 unfold fF;rw[List.map_append,List.map_append,List.map_flatMap,List.map_flatMap,List.map_flatMap];congr 1
 ·congr 1
  ·refine fY fun k hk=>?_
   rw[lX V (List.mem_range.1 hk),lW]
   split
   ·rfl
   ·simp only[List.map_cons,List.map_nil,EP]
    split
    ·rw[show nx + s + ou pr lt k=nx + ou pr lt k + s by omega]
    ·rfl
  ·exact fY fun k _=>(vb f _).symm
 ·refine fY fun k hk=>?_
  rw[lX V (List.mem_range.1 hk),lW]
  split
  ·simp only[List.map_cons,List.map_nil,Fo]
   split
   ·rfl
   ·rw[show nx + s + ou pr lt k=nx + ou pr lt k + s by omega]
    congr 2
  ·rfl
theorem Mu (l:List Int):jZ (l.map (· + s))=(jZ l).map (aa.sh s):=by
 unfold jZ;rw[List.length_map]
 split
 ·rfl
 ·rw[List.map_cons,List.map_nil,xX s (by decide),List.map_map,List.map_map]
  congr 2
theorem I1 (V:List Int) (E:List aa) (pr lt:List Bool) (f:List gY) (nx:Int) (n:Nat) (lv:List Int) (N:Int): ∀ x∈jZ lv++(if N=1 then jh V E pr lt f n else fF V E pr lt f nx n),bx x.op=false:=by
 have hf: ∀ (l:List gY) lv, ∀ x∈cj l lv,bx x.op=false:=fun l lv x hx=>by
  obtain ⟨g,_,rfl⟩:=List.mem_map.1 hx;rfl
 have hl: ∀ v e,bx (lg v e).op=false:=fun _ _=>rfl;have hs: ∀ v e,bx (mq v e).op=false:=fun _ _=>rfl;intro x hx;rcases List.mem_append.1 hx with hx | hx
 ·unfold jZ at hx
  split at hx
  ·cases hx
  ·rw[List.mem_singleton.1 hx];rfl
 split at hx
 ·unfold jh at hx
  rcases List.mem_append.1 hx with hx | hx
  ·exact hf _ _ x hx
  ·obtain ⟨k,_,hx⟩:=List.mem_flatMap.1 hx
   split at hx
   ·rw[List.mem_singleton.1 hx];exact hs _ _
   split at hx
   ·cases hx
   ·rcases List.mem_cons.1 hx with rfl | hx
    ·exact hl _ _
    ·exact hf _ _ x hx
 ·unfold fF at hx
  rcases List.mem_append.1 hx with hx | hx
  ·rcases List.mem_append.1 hx with hx | hx
   ·obtain ⟨k,_,hx⟩:=List.mem_flatMap.1 hx
    split at hx
    ·cases hx
    ·rw[List.mem_singleton.1 hx];exact hl _ _
   ·obtain ⟨k,_,hx⟩:=List.mem_flatMap.1 hx
    exact hf _ _ x hx
  ·obtain ⟨k,_,hx⟩:=List.mem_flatMap.1 hx
   split at hx
   ·rw[List.mem_singleton.1 hx];exact hs _ _
   ·cases hx
include hAB in
theorem LX (N:Int) (V:List Int) (T:List aa) (nx:Int):gU B N (V.map (· + s)) (T.map (aa.sh s)) (nx + s)=((gU A N V T nx).1.sh s,(gU A N V T nx).2 + s):=by
 have hp:=Jv hAB V T;have hl:=Gy (s:=s) V T
 have hE: ∀ lv:List Int,(T.map (aa.sh s)).map (aa.ask (lv.map (· + s)))=(T.map (aa.ask lv)).map (aa.sh s):=fun lv=>by
  rw[List.map_map,List.map_map];exact List.map_congr_left fun x _=>(M7 lv x).symm
 unfold gU;dsimp only;rw[hp,hl,IY,hE,Gi _ _ _ _ _ (by unfold cx;simp),Mu,lW,List.length_map];have ho:=I1 V (T.map (aa.ask (eF V (gl N (cx A V T) (br V T))))) (cx A V T) (gl N (cx A V T) (br V T)) (cC V (T.map (aa.ask (eF V (gl N (cx A V T) (br V T))))) (cx A V T) (gl N (cx A V T) (br V T)) (br V T)) nx V.length (eF V (gl N (cx A V T) (br V T))) N;by_cases hN:N=1
 ·simp only[if_pos hN] at ho⊢
  rw[Kh,B0 _ _ ho,List.map_append]
 ·simp only[if_neg hN] at ho⊢
  rw[GS,B0 _ _ ho,List.map_append];congr 1;omega
include hAB in
theorem Nj (t:aa): ∀ nx:Int,(t.sh s).iy B (nx + s)=((t.iy A nx).1.sh s,(t.iy A nx).2 + s):=by
 induction t using aa.ind with
 | h t ih=>
  have key: ∀ l:List aa,(∀ x∈l, ∀ nx:Int,(x.sh s).iy B (nx + s)=((x.iy A nx).1.sh s,(x.iy A nx).2 + s))→ ∀ nx,aa.bZ B (l.map (aa.sh s)) (nx + s)=((aa.bZ A l nx).1.map (aa.sh s),(aa.bZ A l nx).2 + s):=by
   intro l
   induction l with
   | nil=>intro _ nx;rw[List.map_nil,aa.bZ,aa.bZ];rfl
   | cons x l ihl=>
    intro hx nx;rw[List.map_cons,aa.bZ,aa.bZ,hx x (List.mem_cons_self ..)];dsimp only;rw[ihl fun y hy=>hx y (List.mem_cons_of_mem _ hy)];rfl
  intro nx;rw[aa.mU,aa.mU,aa.nG,aa.DY,aa.Cq,aa.Ax,key _ ih];by_cases h7:t.op=7
  ·rw[if_pos h7,if_pos h7,if_neg (by rw[h7];decide),LX hAB]
  ·rw[if_neg h7,if_neg h7]
   dsimp only;rw[aa.sh,aa.jU]
end
section
variable (V:List Int) (E:List aa) (pr lt:List Bool) (ln:List (List Int))
def KK (k:Nat):cY:=⟨V.getD k 0,E.getD k iE,pr.getD k false,lt.getD k false,ln.getD k []⟩
def fZ (n:Nat):List cY:=(List.range n).map (KK V E pr lt ln)
end
section
variable {V:List Int} {E:List aa} {pr lt:List Bool} {ln:List (List Int)} {n:Nat}
theorem m4:(fZ V E pr lt ln n).length=n:=by unfold fZ;simp
theorem xT {k:Nat} (h:k < n):(fZ V E pr lt ln n)[k]?=some (KK V E pr lt ln k):=by
 unfold fZ;rw[List.getElem?_map,List.getElem?_range h];rfl
theorem iS {k:Nat} (h:k < n):(fZ V E pr lt ln n).getD k jY=KK V E pr lt ln k:=by
 rw[List.getD_eq_getElem?_getD,xT h];rfl
theorem z7 {k:Nat} (h:n≤k):(fZ V E pr lt ln n).getD k jY=jY:=by
 rw[List.getD_eq_getElem?_getD,List.getElem?_eq_none (by rw[m4];exact h)];rfl
theorem qm {α:Type} {l:List α} {d:α} {k:Nat} (h:l.length≤k):l.getD k d=d:=by
 rw[List.getD_eq_getElem?_getD,List.getElem?_eq_none h];rfl
theorem EM (hp:pr.length=n) (k:Nat):((fZ V E pr lt ln n).getD k jY).pr=pr.getD k false:=by
 rcases Nat.lt_or_ge k n with h | h
 ·rw[iS h];rfl
 ·rw[z7 h,qm (by omega)]
theorem EL (hp:lt.length=n) (k:Nat):((fZ V E pr lt ln n).getD k jY).lt=lt.getD k false:=by
 rcases Nat.lt_or_ge k n with h | h
 ·rw[iS h];rfl
 ·rw[z7 h,qm (by omega)]
theorem Lo (hp:ln.length=n) (k:Nat):((fZ V E pr lt ln n).getD k jY).ln=ln.getD k []:=by
 rcases Nat.lt_or_ge k n with h | h
 ·rw[iS h];rfl
 ·rw[z7 h,qm (by omega)]
theorem Lz {α β:Type} (l:List α) (d:α) (f:α→β):l.map f=(List.range l.length).map fun a=>f (l.getD a d):=by
 refine List.ext_getElem (by simp) fun i h1 h2=>?_;rw[List.length_map] at h1;simp only[List.getElem_map,List.getElem_range];rw[List.getD_eq_getElem?_getD,List.getElem?_eq_getElem h1];rfl
theorem A3 (l:List Nat) (a:Nat):(l.map fun x:Nat=>(x:Int)).getD a 0=((l.getD a 0:Nat):Int):=by
 rcases Nat.lt_or_ge a l.length with h | h
 ·rw[List.getD_eq_getElem?_getD,List.getElem?_map,List.getD_eq_getElem?_getD,List.getElem?_eq_getElem h];rfl
 ·rw[qm (by simpa using h),qm h];rfl
theorem NU (hp:pr.length=n) (hl:lt.length=n):fM n (K9 (fZ V E pr lt ln n))=(lz (eB pr lt)).map fun x:Nat=>(x:Int):=by
 unfold fM lz;have h1:(eB pr lt).length=n:=by unfold eB;simp[hp]
 rw[h1];congr 1;refine List.filter_congr fun k hk=>?_;have hk:=List.mem_range.1 hk;unfold K9;rw[xT hk];unfold eB;rw[List.getD_eq_getElem?_getD,List.getElem?_map,List.getElem?_range (by omega)];rfl
theorem Oq (hp:pr.length=n) (hl:lt.length=n) (hn:ln.length=n):lG (fun x=>x.pr && !x.lt) (fZ V E pr lt ln n)=rX (eB pr lt) ln:=by
 unfold lG rX fZ;rw[List.map_map,hn];refine List.map_congr_left fun k hk=>?_;have hk:=List.mem_range.1 hk;simp only[Function.comp]
 have:(eB pr lt).getD k false=(pr.getD k false && !lt.getD k false):=by
  unfold eB;rw[List.getD_eq_getElem?_getD,List.getElem?_map,List.getElem?_range (by omega)];rfl
 rw[this];rfl
theorem I6 (hp:pr.length=n) (hl:lt.length=n): ∀ (l:List Int) (m:Int),CE (fZ V E pr lt ln n) l m=BR pr lt l m
 | [],m=>rfl
 | j::l,m=>by rw[CE,BR,EM hp,EL hl,I6 hp hl l]
theorem I5 (hp:pr.length=n) (hl:lt.length=n) (g:dy) (own:List Nat): ∀ (l:List Nat) (m:Int),KL (fZ V E pr lt ln n) g (own.map fun x:Nat=>(x:Int)) (l.map fun x:Nat=>(x:Int)) m=BQ g pr lt (l.map fun a=>own.getD a 0) m
 | [],m=>rfl
 | k::l,m=>by rw[List.map_cons,List.map_cons,KL,BQ,I6 hp hl,A3,Int.toNat_natCast,I5 hp hl g own l]
theorem Nz (hn:ln.length=n) (own:List Nat):(List.range (own.map fun x:Nat=>(x:Int)).length).map (zq (fZ V E pr lt ln n) (own.map fun x:Nat=>(x:Int)))=oo own ln:=by
 unfold oo;refine Eq.trans ?_ (Lz own 0 _).symm;rw[List.length_map];refine List.map_congr_left fun a ha=>?_;unfold zq;rw[List.length_map];congr 1;funext b;rw[A3,A3,Int.toNat_natCast,Lo hn]
theorem Gh (hV:V.length=n) (hp:pr.length=n) (hl:lt.length=n) (hn:ln.length=n):iZ (fZ V E pr lt ln n)=cC V E pr lt ln:=by
 unfold iZ;rw[m4,NU hp hl,Nz hn,Oq hp hl hn];unfold iH cC;rw[List.map_map];refine List.map_congr_left fun grp hg=>?_
 have hlt: ∀ a∈grp,(lz (eB pr lt)).getD a 0 < n:=fun a ha=>by
  have h1:=zk _ _ _ _ grp hg a ha;unfold oo at h1;rw[List.length_map] at h1;rw[List.getD_eq_getElem?_getD,List.getElem?_eq_getElem h1];have h2:=E7 (List.getElem_mem h1);have h3:(eB pr lt).length=n:=by unfold eB;simp[hp]
  show (lz (eB pr lt))[a] < n;omega
 simp only[Function.comp];unfold Gn;rw[I5 hp hl];simp only[List.map_map];congr 1
 ·refine List.map_congr_left fun a ha=>?_
  simp only[Function.comp];rw[Int.toNat_natCast,A3,Int.toNat_natCast,iS (hlt a ha)];rfl
 ·refine List.map_congr_left fun a ha=>?_
  simp only[Function.comp];rw[Int.toNat_natCast,A3,Int.toNat_natCast,iS (hlt a ha)];rfl
theorem Kg (fs:List gY):cj fs 0++(List.range (fZ V E pr lt ln n).length).flatMap (wu (fZ V E pr lt ln n) fs)=jh V E pr lt fs n:=by
 unfold jh;rw[m4];congr 1;refine fY fun k hk=>?_;have hk:=List.mem_range.1 hk;unfold wu;rw[iS hk];rfl
end
def CF (an:List cY) (k:Nat):Int:=(((List.range k).filter fun i=>!(an.getD i jY).pr && (an.getD i jY).lt).length:Int)
theorem Ks (an:List cY) (k:Nat):CF an (k + 1)=CF an k + if (an.getD k jY).pr=false∧(an.getD k jY).lt=true then 1 else 0:=by
 unfold CF;rw[List.range_succ,List.filter_append,List.length_append,List.filter_cons,List.filter_nil];cases h1:(an.getD k jY).pr<;>cases h2:(an.getD k jY).lt
 ·rw[if_neg (by decide),if_neg (by decide)];simp
 ·rw[if_pos (by decide),if_pos (by decide)];simp
 ·rw[if_neg (by decide),if_neg (by decide)];simp
 ·rw[if_neg (by decide),if_neg (by decide)];simp
theorem Ot (an:List cY) (k:Nat):0≤CF an k∧CF an k≤k:=by
 unfold CF;have:=List.length_filter_le (fun i=>!(an.getD i jY).pr && (an.getD i jY).lt) (List.range k);rw[List.length_range] at this;omega
def NW (an:List cY) (nx:Int) (k:Nat):List aa:=if (an.getD k jY).pr=true then [] else [lg (if (an.getD k jY).lt=true then nx + CF an k else (an.getD k jY).v) (an.getD k jY).e]
def KQ (an:List cY) (nx:Int) (k:Nat):aa:=if (an.getD k jY).pr=true then (an.getD k jY).e else if (an.getD k jY).lt=true then .mk 1 (nx + CF an k) [] [] else (an.getD k jY).e
def NX (an:List cY) (nx:Int) (k:Nat):List aa:=if (an.getD k jY).lt=true then [mq (an.getD k jY).v (KQ an nx k)] else []
def vU (an:List cY) (fs:List gY) (nx:Int):List aa:=(List.range an.length).flatMap (NW an nx)++((List.range (an.length + 1)).flatMap fun k:Nat=>cj fs (k:Int))++(List.range an.length).flatMap (NX an nx)
section
variable {V:List Int} {E:List aa} {pr lt:List Bool} {ln:List (List Int)} {n:Nat}
theorem D8 (hp:pr.length=n) (hl:lt.length=n) (k:Nat):CF (fZ V E pr lt ln n) k=ou pr lt k:=by
 unfold CF ou;congr 2;refine List.filter_congr fun i _=>?_;rw[EM hp,EL hl]
theorem GQ (hp:pr.length=n) (hl:lt.length=n) (fs:List gY) (nx:Int):vU (fZ V E pr lt ln n) fs nx=fF V E pr lt fs nx n:=by
 unfold vU fF;rw[m4];congr 1
 ·congr 1
  refine fY fun k hk=>?_;have hk:=List.mem_range.1 hk;unfold NW;rw[D8 hp hl,iS hk];rfl
 ·refine fY fun k hk=>?_
  have hk:=List.mem_range.1 hk;unfold NX KQ;rw[D8 hp hl,iS hk];show (if lt.getD k false=true then [mq (V.getD k 0) (if pr.getD k false=true then E.getD k iE else if lt.getD k false=true then _ else _)] else [])=_;by_cases h:lt.getD k false=true
  ·rw[if_pos h,if_pos h,if_pos h]
  ·rw[if_neg h,if_neg h]
theorem zy (A:Int→Bool) (V:List Int) (T:List aa) {k:Nat} (hk:k < V.length):(cx A V T).getD k false=(CD A V T k).pr:=by
 unfold cx;rw[List.getD_eq_getElem?_getD,List.getElem?_map,List.getElem?_range hk];rfl
theorem zx (A:Int→Bool) (V:List Int) (T:List aa) {k:Nat} (hk:k < V.length):(br V T).getD k []=(CD A V T k).ln:=by
 unfold br;rw[List.getD_eq_getElem?_getD,List.getElem?_map,List.getElem?_range hk];rfl
theorem vq (V:List Int) (T:List aa):(br V T).length=V.length:=by unfold br;simp
theorem LS (A:Int→Bool) (V:List Int) (T:List aa):AI (CD A V T) V.length=rX (cx A V T) (br V T):=by
 unfold AI rX;rw[vq];refine List.map_congr_left fun k hk=>?_;have hk:=List.mem_range.1 hk;rw[zy A V T hk,zx A V T hk]
theorem Gw (A:Int→Bool) (N:Int) (V:List Int) (T:List aa) {k:Nat} (hk:k < V.length):(gl N (cx A V T) (br V T)).getD k false=xV (CD A V T) V.length N V.length k:=by
 unfold gl xV;rw[List.getD_eq_getElem?_getD,List.getElem?_map,vq,List.getElem?_range hk,LS,Option.map_some,Option.getD_some,Bool.eq_iff_iff,List.any_eq_true,List.any_eq_true];constructor
 ·rintro ⟨j,h1,h2⟩
  refine ⟨j,h1,?_⟩;have:=List.mem_range.1 h1;rwa [zy A V T this,zx A V T this] at h2
 ·rintro ⟨j,h1,h2⟩
  refine ⟨j,h1,?_⟩;have:=List.mem_range.1 h1;rwa [zy A V T this,zx A V T this]
theorem BF (A:Int→Bool) (N:Int) (V:List Int) (T:List aa):z6 A N V T=fZ V T (cx A V T) (gl N (cx A V T) (br V T)) (br V T) V.length:=by
 unfold z6 wK fZ;refine List.map_congr_left fun k hk=>?_;have hk:=List.mem_range.1 hk;unfold KK;rw[zy A V T hk,zx A V T hk,Gw A N V T hk];rfl
end
theorem C0 (l:List aa) (hl:l.length≤1000000000):af Tryz.prog 152 [.sl 4 (l.map aa.pv) none] [] (fun y Γ'=> ∃ tk:Tok,tk.e=26∧y=.sl 4 (l.map aa.pv) (some tk)∧Γ'= [.tok tk]):=by
 refine af.ah ai Tryz.func152 rfl rfl (n:=8) rfl rfl ?_
 conv=>whnf
 repeat' (first|refine aY ?_|((intro _);conv=>whnf)|(refine zX (fun hc=>?_) (fun hc=>?_)<;>(try simp only[SY] at hc)<;>(conv=>whnf)))
 ·rename_i q hq
  have:l= []:=by simpa using hq hc
  subst this;refine ak.q9 (Γ':= [.tok (aB 4 26)]) (au.nil 4 26 _) ?_;exact ak.gen (Wk.aB 4 26) ⟨_,rfl,rfl,rfl⟩
 ·rename Tok=>t5
  exact ak.gen (y:=.sl 4 (l.map aa.pv) (some t5)) (Γ':= [.tok t5]) (Wk.refl _) ⟨t5,by assumption,rfl,rfl⟩
def oA (l:List aa):List (List PV):=(List.range l.length).map fun i=> [.int .i64 ((l.length - 1 - i:Nat):Int),.agg (l.getD (l.length - 1 - i) iE).cells]
theorem HS (b:Nat) (l:List aa) (hl:l.length≤1000000000):Ee Tryz.prog 195 [.ptr b 0] [.box b [.sl 4 (l.map aa.pv) none]] (oA l):=by
 intro lp J X hy Γ h0;refine af.ghost (au.drop (Γ':=.box b [.sl 4 (l.map aa.pv) none]::Γ) (Γ1:= []) (by rw[List.append_nil];exact List.perm_append_singleton _ _)) ?_;refine af.ah ai Tryz.func195 rfl rfl (n:=19) rfl rfl ?_
 conv=>whnf
 repeat (first|refine wM ?_|((intro _);conv=>whnf))
 have hlen:(oA l).length=l.length:=by simp[oA]
 refine ax.over [3,7,8,9,10,11,12,13,14,15,16,17,18] (fun x:Nat×List aj=> [(3,.int .i64 ((l.length:Int) - 1 - x.1))]) (fun x:Nat×List aj=>.box b [.sl 4 (l.map aa.pv) none]::x.2) (fun x=>x.1≤l.length∧J x.1 x.2) (fun x=>l.length - x.1) (0,Γ) ⟨Nat.zero_le _,h0⟩ wA (hp:=⟨by rw[List.append_nil]⟩) (Γ1:= []) ?_;rintro ⟨k,Γk⟩ ⟨hk,hJ⟩;dsimp only at hk hJ⊢
 conv=>whnf
 repeat' (first|refine aY ?_|(refine zX (fun hc=>?_) (fun hc=>?_)<;>(try simp only[SY] at hc)<;>(conv=>whnf)))
 ·have hlt:k < l.length:=by omega
  have e1:((l.length:Int) - 1 - k).toNat=l.length - 1 - k:=by omega
  have hlt2:l.length - 1 - k < l.length:=by omega
  have fk:(oA l)[k]?=some [.int .i64 ((l.length:Int) - 1 - k),.agg (l[((l.length:Int) - 1 - k).toNat]'(by omega)).cells]:=by
   unfold oA;rw[List.getElem?_map,List.getElem?_range hlt];simp only[Option.map_some,Option.some.injEq,List.cons.injEq,and_true,PV.int.injEq,true_and];refine ⟨by omega,?_⟩;simp only[e1];simp[List.getD,hlt2]
  refine kF.Lf [.box b [.sl 4 (l.map aa.pv) none]] (hy k _ Γk fk hJ) (aX.refl _) (List.Perm.refl _) ?_;rintro _ Γ1 (⟨rfl,hJ1⟩ | ⟨rfl,hX⟩)
  ·conv=>whnf
   repeat' (first|refine aY ?_|(refine zX (fun hc=>?_) (fun hc=>?_)<;>(try simp only[SY] at hc)<;>omega))
   exact av (k + 1,Γ1) ⟨by show k + 1≤_;omega,hJ1⟩ (by show l.length - (k + 1) < l.length - k;omega) wA (hp:=⟨by rw[List.append_nil]⟩)
  ·conv=>whnf
   skip
   exact ak.gen (Γ':=Γ1) (hp:=⟨(List.perm_append_singleton _ _).symm⟩) (Wk.refl _) (.inr hX)
 ·have:k=l.length:=by omega
  subst this;exact ak.gen (Γ':=Γk) (hp:=⟨(List.perm_append_singleton _ _).symm⟩) (Wk.refl _) (.inl (by rw[hlen];exact hJ))
theorem KY (l:List aa):af Tryz.prog 151 [.sl 4 (l.map aa.pv) none] [] (fun y Γ'=> ∃ b,y=.fn (.func 195) [.ptr b 0]∧Γ'= [.box b [.sl 4 (l.map aa.pv) none]]):=by
 refine af.ah ai Tryz.func151 rfl rfl (n:=4) rfl rfl ?_
 conv=>whnf
 repeat' (first|((intro _);conv=>whnf)|(refine zX (fun hc=>?_) (fun hc=>?_)<;>(try simp only[SY] at hc)<;>omega))
 rename_i b;exact ak.gen (y:=.fn (.func 195) [.ptr b 0]) (Γ':= [.box b [.sl 4 (l.map aa.pv) none]]) (hp:=bz.self _) (Wk.refl _) ⟨b,rfl,rfl⟩
theorem FG {l:List aa} {j:Nat} {ys:List PV} (h:(oA l)[j]?=some ys): ∃ m, ∃ hm:m < l.length,m=l.length - 1 - j∧j < l.length∧ys= [.int .i64 (m:Int),.agg l[m].cells]:=by
 unfold oA at h;rw[List.getElem?_map] at h;by_cases hj:j < l.length
 ·rw[List.getElem?_range hj] at h
  simp only[Option.map_some,Option.some.injEq] at h;refine ⟨l.length - 1 - j,by omega,rfl,hj,?_⟩;rw[←h,List.getD_eq_getElem?_getD,List.getElem?_eq_getElem (by omega)];rfl
 ·rw[List.getElem?_eq_none (by simpa using hj)] at h
  cases h
theorem DJ {l:List aa} {t:aa} {m:Nat} (hm:m < l.length):gT (l.drop m) t=.mk l[m].op l[m].n l[m].v (l[m].t++ [gT (l.drop (m + 1)) t]):=by
 unfold gT;rw[List.drop_eq_getElem_cons hm,List.foldr_cons]
theorem Jl (l:List aa) (t:aa) (hl:l.length≤1000000000) (hb:aa.aD l≤1000000000):ay Tryz.prog 94 [.sl 4 (l.map aa.pv) none,.agg t.cells] (.agg (gT l t).cells):=by
 refine af.ah ai Tryz.func94 rfl rfl (n:=20) rfl rfl ?_
 conv=>whnf
 repeat' (first|((intro _);conv=>whnf)|(refine zX (fun hc=>?_) (fun hc=>?_)<;>(try simp only[SY] at hc)<;>omega))
 rename_i b3 b4;refine aq.go (KY l) (aX.refl _) ?_;rintro _ _ ⟨bb,rfl,rfl⟩
 conv=>whnf
 skip
 refine PRange.go (oA l) (fun o:aa=> [.box b4 [.int .i64 0,.int .i64 0,.nil,.nil],.box b3 [.int .i64 o.op,.int .i64 o.n,.sl 1 (o.v.map (PV.int .i64)) none,.sl 4 (o.t.map aa.pv) none]])
  (fun k o=>k≤l.length∧o=gT (l.drop (l.length - k)) t) (fun _ _=>False) t (HS bb l (by omega)) ⟨Nat.zero_le _,by rw[Nat.sub_zero,List.drop_length];rfl⟩ (hp:=⟨by rw[List.append_nil];exact (List.perm_append_singleton _ _).symm⟩) (Γ1:= []) (by intro ys hy;obtain ⟨m,_,rfl⟩:=List.mem_map.1 hy;rfl) ?_ ?_ (fun _ _ _ h=>h.elim)
 ·rintro j ys o hk ⟨hj,ho⟩
  obtain ⟨m,hm,hjm,hjl,rfl⟩:=FG hk;have hd1:l.length - j=m + 1:=by omega
  have hd2:l.length - (j + 1)=m:=by omega
  have hbm:l[m].t.length≤1000000000:=by
   have h1:=aa.cu (List.getElem_mem hm);have h2:=aa.bn l[m].t;have h3:=l[m].bu;omega
  rw[hd1] at ho
  conv=>whnf
  repeat' (first|refine aY ?_|((intro _);conv=>whnf)|(refine zX (fun hc=>?_) (fun hc=>?_)<;>(try simp only[SY] at hc)<;>omega))
  refine ⟨rfl,?_⟩
  conv=>whnf
  skip
  refine aE.sE [] [2] [5,6,7] ai mixed ?_
  conv=>whnf
  conv=>whnf
  repeat' (first|refine aY ?_|(refine zX (fun hc=>?_) (fun hc=>?_)<;>(try simp only[SY] at hc)<;>omega))
  refine aq.go (Γ1:= []) (C0 l[m].t (by omega)) (aX.refl _) ?_;rintro _ _ ⟨tk,hte,rfl,rfl⟩
  conv=>whnf
  repeat' (first|refine aY ?_|((intro _);conv=>whnf)|(refine zX (fun hc=>?_) (fun hc=>?_)<;>(try simp only[SY] at hc)<;>omega))
  rename Tok=>t5
  refine ⟨rfl,_, [.box b4 [.int .i64 0,.int .i64 0,.nil,.nil],.box b3 [.int .i64 l[m].op,.int .i64 l[m].n,.sl 1 (l[m].v.map (PV.int .i64)) none,.sl 4 ((l[m].t++ [o]).map aa.pv) none]],dh.of (aX.refl _) (au.trans (au.box (b:=b3) (cs:= [.int .i64 l[m].op,.int .i64 l[m].n,.sl 1 (l[m].v.map (PV.int .i64)) none,.sl 4 ((l[m].t++ [o]).map aa.pv) (some t5)]) (cs':= [.int .i64 l[m].op,.int .i64 l[m].n,.sl 1 (l[m].v.map (PV.int .i64)) none,.sl 4 ((l[m].t++ [o]).map aa.pv) none]) wA) (au.drop bz.p)),aa.mk l[m].op l[m].n l[m].v (l[m].t++ [o]),⟨by omega,?_⟩,rfl⟩;rw[hd2,DJ hm, ←ho]
 ·rintro bd o ⟨hle,ho⟩
  have hbl:(oA l).length=l.length:=by simp[oA]
  rw[hbl,Nat.sub_self,List.drop_zero] at ho;subst ho
  conv=>whnf
  repeat' (first|refine aY ?_|(refine zX (fun hc=>?_) (fun hc=>?_)<;>(try simp only[SY] at hc)<;>omega))
  refine ⟨⟨[], [], [],_,rfl,?_⟩⟩;simp only[List.cons_append,List.nil_append]
  conv=>whnf
  repeat (refine wM ?_)
  exact ak.pure eo.wk
def Hx (f:Nat→aa) (n i:Nat):List aa:=(List.range n).map fun k=>if k < i then f k else iE
theorem uB (f:Nat→aa) (n i:Nat):(Hx f n i).length=n:=by unfold Hx;simp
theorem AE {f:Nat→aa} {n i j:Nat} (h:j < (Hx f n i).length):(Hx f n i)[j]=if j < i then f j else iE:=by simp[Hx]
theorem Mn {f:Nat→aa} {n i:Nat}:(Hx f n i).set i (f i)=Hx f n (i + 1):=by
 refine List.ext_getElem (by simp[uB]) fun j h1 h2=>?_;rw[List.getElem_set,AE h2];by_cases e:i=j
 ·subst e;rw[if_pos rfl,if_pos (by omega)]
 ·rw[if_neg e,AE (by rw[uB] at h2 ⊢; exact h2)]
  by_cases h:j < i
  ·rw[if_pos h,if_pos (by omega)]
  ·rw[if_neg h,if_neg (by omega)]
theorem Kr (f:Nat→aa) (n:Nat):List.replicate n iE=Hx f n 0:=by
 refine List.ext_getElem (by simp[uB]) fun j h1 h2=>?_;rw[AE h2,if_neg (by omega),List.getElem_replicate]
theorem Hs (n:Nat):pU (List.replicate n (PV.agg [.int .i64 0,.int .i64 0,.nil,.nil])) ((List.replicate n iE).map aa.pv):=by
 induction n with
 | zero=>exact .nil
 | succ n ih=>exact .cons (.cons (Wk.refl _) (.cons (Wk.refl _) (.cons (Wk.dM rfl) (.cons (Wk.dM rfl) .nil)))) ih
theorem xF {p q:Prop} (k:q) (h:q→p:=by intro hq;first | exact aE.sP (some 42) rfl [] [7] ai mixed hq | exact aE.sP (some 86) rfl [] [7] ai mixed hq):p:=h k
theorem GP (b r:Nat) (L:List Int) (nx:Int) (bc:Nat) (tk:Tok) (l0:List aa) (an:List cY) (ti:Tok) (hnx:0≤nx∧nx≤1000000000) (h1:tk.e=26) (h2:tk.s=4) (hl0:l0.length≤10000) (hts:ti.s=8) (hl:an.length≤500) (hln: ∀ x∈an,x.ln.length≤500) (hlr: ∀ x∈an, ∀ y∈x.ln,0≤y∧y < (an.length:Int)) (hfl:(iZ an).length≤500):
  af Tryz.prog 93 [.ptr b 0,.ptr bc 0,.ms ti] (.row ti (an.map cY.pv)::.box bc [.ms tk]::.row tk (l0.map aa.pv)::A8 b r L nx) (fun y Γ'=> ∃ tk':Tok,tk'.e=26∧tk'.s=4∧y=.bp []∧Γ'=.row ti (an.map cY.pv)::.box bc [.ms tk']::.row tk' ((l0++vU an (iZ an) nx).map aa.pv)::A8 b r L (nx + CF an an.length)):=by
 refine af.ah ai Tryz.func93 rfl rfl (n:=95) rfl rfl ?_
 conv=>whnf
 skip
 refine aq.go (xK an ti hts hl hln hlr) (aX.refl _) ?_;rintro _ _ ⟨rfl,rfl⟩;generalize hfs:iZ an=fs at *
 conv=>whnf
 repeat' (first|((first|refine kS.row (by omega) (by omega) (by omega) (by show _ * 64≤_;omega) rfl fun tv hte hvs=>?_|(refine eP.map fun _=>?_));conv=>whnf)|(refine zX (fun hc=>?_) (fun hc=>?_)<;>(try simp only[SY] at hc)<;>omega))
 rw[Int.toNat_natCast];refine ax.jH (au.G1 (t:=tv) (Hs an.length)) ?_
 refine ax.over [8,9,20,21,22,23,24,25,26,27,28,29,30,31,32,33,34,35,36,37,38,39,40,41,42,43,44,45,46,47,48,49,50,51,52,53,54,55,56,57,58,59,60,61,62,63,64,65] (fun x:Nat×Tok×List aa×Int×List aa=> [(20,.int .i64 x.1)]) (fun x=> [.row tv (x.2.2.2.2.map aa.pv),.row ti (an.map cY.pv),.box bc [.ms x.2.1],.row x.2.1 (x.2.2.1.map aa.pv),.box b [.mp r,.int .i64 x.2.2.2.1],.mp r (.int .i64) (aS L) []])
  (fun x=>x.1≤an.length∧x.2.1.e=26∧x.2.1.s=4∧x.2.2.1=l0++(List.range x.1).flatMap (NW an nx)∧x.2.2.1.length≤10000 + x.1∧x.2.2.2.1=nx + CF an x.1∧x.2.2.2.2=Hx (KQ an nx) an.length x.1) (fun x=>an.length - x.1) (0,tk,l0,nx,List.replicate an.length iE) ⟨Nat.zero_le _,h1,h2,by simp,by dsimp only;omega,by simp[CF],Kr _ _⟩ wA ?_
 rintro ⟨i,tk,l,nz,vs⟩ ⟨hi,h1,h2,hls,hll,hnz,hvs⟩;dsimp only at hi h1 h2 hls hll hnz hvs ⊢;have hvl:=uB (KQ an nx) an.length i;rw[←hvs] at hvl;have htn:=Ot an i;rcases Nat.lt_or_ge i an.length with hlt | hge
 ·have hid:an.getD i jY=an[i]:=by rw[List.getD_eq_getElem?_getD,List.getElem?_eq_getElem hlt];rfl
  have hst:l++NW an nx i=l0++(List.range (i + 1)).flatMap (NW an nx):=by rw[hls,List.range_succ,List.flatMap_append,List.append_assoc];simp
  have hset:=Mn (f:=KQ an nx) (n:=an.length) (i:=i);have hts2:=Ks an i;rw[NW,hid] at hst;rw[hid] at hts2;rw[KQ,hid, ←hvs] at hset;have hvi:i < vs.length:=by omega
  conv=>whnf
  repeat' (first|((first|((apply zZ);exact tB)|refine aM ?_|refine aF ?_|refine xF ?_|intro _|refine zG ?_);conv=>whnf)|(refine zX (fun hc=>?_) (fun hc=>?_)<;>(try simp only[SY] at hc)<;>first|omega|(conv=>whnf)))
  ·rw[if_pos (by assumption),List.append_nil] at hst
   rw[if_pos (by assumption)] at hset;rw[if_neg (by simp_all),Int.add_zero] at hts2;exact av (i + 1,tk,l,nz,vs.set i an[i].e) ⟨by show i + 1≤_;omega,h1,h2,hst,by show l.length≤10000 + (i + 1);omega,by show nz=_;rw[hts2];exact hnz,hset⟩ (by show an.length - (i + 1) < an.length - i;omega) wA
  ·rw[if_neg (by simp_all),if_pos (by assumption), ←hnz] at hst
   rw[if_neg (by simp_all),if_pos (by assumption), ←hnz] at hset;rw[if_pos ⟨by assumption,by assumption⟩] at hts2;have hvl2:(vs.set i an[i].e).length=an.length:=by rw[List.length_set];exact hvl
   have hset2:(vs.set i an[i].e).set i (.mk 1 nz [] [])=Hx (KQ an nx) an.length (i + 1):=by rw[List.set_set];exact hset
   generalize vs.set i an[i].e=vs2 at *;refine aq.go (Ab bc tk l nz an[i].e h1 h2 (by omega)) (aX.refl _) ?_;rintro _ _ ⟨tk2,e1,e2,rfl,rfl⟩
   conv=>whnf
   repeat' (first|((first|refine aM ?_|refine aF ?_);conv=>whnf)|(refine zX (fun hc=>?_) (fun hc=>?_)<;>(try simp only[SY] at hc)<;>omega))
   exact av (i + 1,tk2,l++ [lg nz an[i].e],nz + 1,vs2.set i (.mk 1 nz [] [])) ⟨by show i + 1≤_;omega,e1,e2,hst,by show (l++ [_]).length≤10000 + (i + 1);rw[List.length_append,List.length_singleton];omega,by show nz + 1=_;rw[hts2,hnz];omega,hset2⟩ (by show an.length - (i + 1) < an.length - i;omega) wA
  ·rw[if_neg (by simp_all),if_neg (by simp_all)] at hst
   rw[if_neg (by simp_all),if_neg (by simp_all)] at hset;rw[if_neg (by simp_all),Int.add_zero] at hts2;refine aq.go (Ab bc tk l an[i].v an[i].e h1 h2 (by omega)) (aX.refl _) ?_;rintro _ _ ⟨tk2,e1,e2,rfl,rfl⟩
   conv=>whnf
   repeat' (first|((refine aM ?_);conv=>whnf)|(refine zX (fun hc=>?_) (fun hc=>?_)<;>(try simp only[SY] at hc)<;>omega))
   exact av (i + 1,tk2,l++ [lg an[i].v an[i].e],nz,vs.set i an[i].e) ⟨by show i + 1≤_;omega,e1,e2,hst,by show (l++ [_]).length≤10000 + (i + 1);rw[List.length_append,List.length_singleton];omega,by show nz=_;rw[hts2];exact hnz,hset⟩ (by show an.length - (i + 1) < an.length - i;omega) wA
 ·obtain rfl:i=an.length:=by omega
  have hN:nz=nx + CF an an.length:=hnz;have hvf:vs=Hx (KQ an nx) an.length an.length:=hvs;generalize nx + CF an an.length=nz2 at *;subst hN;have hl1: ∀ fs2:List gY,vU an fs2 nx=(List.range an.length).flatMap (NW an nx)++(((List.range (an.length + 1)).flatMap fun k:Nat=>cj fs2 (k:Int))++(List.range an.length).flatMap (NX an nx)):=fun fs2=>by unfold vU;rw[List.append_assoc]
  rw[hl1, ←List.append_assoc, ←hls]
  conv=>whnf
  repeat' (first|((first|refine aM ?_|(refine eP.map fun _=>?_));conv=>whnf)|(refine zX (fun hc=>?_) (fun hc=>?_)<;>(try simp only[SY] at hc)<;>first|omega|(conv=>whnf)))
  refine ax.over [10,69,70,71,72,73,74,75,76] (fun x:Nat×Tok×List aa=> [(69,.int .i64 x.1)]) (fun x=> [.row tv (vs.map aa.pv),.row ti (an.map cY.pv),.box bc [.ms x.2.1],.row x.2.1 (x.2.2.map aa.pv),.box b [.mp r,.int .i64 nz],.mp r (.int .i64) (aS L) []])
   (fun x=>x.1≤an.length + 1∧x.2.1.e=26∧x.2.1.s=4∧x.2.2=l++(List.range x.1).flatMap (fun k:Nat=>cj fs (k:Int))∧x.2.2.length≤20000 + x.1 * 500) (fun x=>an.length + 1 - x.1) (0,tk,l) ⟨Nat.zero_le _,h1,h2,by simp,by dsimp only;omega⟩ wA ?_
  rintro ⟨m,tk,l2⟩ ⟨hm,h1,h2,hl2,hb2⟩;dsimp only at hm h1 h2 hl2 hb2 ⊢;rcases Nat.lt_or_ge m (an.length + 1) with hml | hmg
  ·have hst:l2++cj fs (m:Int)=l++(List.range (m + 1)).flatMap (fun k:Nat=>cj fs (k:Int)):=by rw[hl2,List.range_succ,List.flatMap_append,List.append_assoc];simp
   have hfi:=oV fs (m:Int)
   conv=>whnf
   repeat' ((refine zX (fun hc=>?_) (fun hc=>?_)<;>(try simp only[SY] at hc)<;>first|omega|(conv=>whnf)))
   refine aq.go (zf bc tk l2 fs (m:Int) h1 h2 (by omega)) (aX.refl _) ?_;rintro _ _ ⟨tk2,e1,e2,rfl,rfl⟩
   conv=>whnf
   repeat' (first|((refine aM ?_);conv=>whnf)|(refine zX (fun hc=>?_) (fun hc=>?_)<;>(try simp only[SY] at hc)<;>omega))
   exact av (m + 1,tk2,l2++cj fs (m:Int)) ⟨by show m + 1≤_;omega,e1,e2,hst,by show (l2++_).length≤20000 + (m + 1) * 500;rw[List.length_append];omega⟩ (by show an.length + 1 - (m + 1) < an.length + 1 - m;omega) wA
  ·obtain rfl:m=an.length + 1:=by omega
   rw[←List.append_assoc, ←hl2]
   conv=>whnf
   repeat' (first|(((refine eP.map fun _=>?_));conv=>whnf)|(refine zX (fun hc=>?_) (fun hc=>?_)<;>(try simp only[SY] at hc)<;>first|omega|(conv=>whnf)))
   refine ax.over [11,12,79,80,81,82,83,84,85,86,87,88,89,90,91,92,93,94] (fun x:Nat×Tok×List aa=> [(79,.int .i64 x.1)]) (fun x=> [.row tv (vs.map aa.pv),.row ti (an.map cY.pv),.box bc [.ms x.2.1],.row x.2.1 (x.2.2.map aa.pv),.box b [.mp r,.int .i64 nz],.mp r (.int .i64) (aS L) []])
    (fun x=>x.1≤an.length∧x.2.1.e=26∧x.2.1.s=4∧x.2.2=l2++(List.range x.1).flatMap (NX an nx)∧x.2.2.length≤300000 + x.1) (fun x=>an.length - x.1) (0,tk,l2) ⟨Nat.zero_le _,h1,h2,by simp,by dsimp only;omega⟩ wA ?_
   rintro ⟨i,tk,l3⟩ ⟨hi,h1,h2,hl3,hb3⟩;dsimp only at hi h1 h2 hl3 hb3 ⊢;rcases Nat.lt_or_ge i an.length with hlt | hge
   ·have hid:an.getD i jY=an[i]:=by rw[List.getD_eq_getElem?_getD,List.getElem?_eq_getElem hlt];rfl
    have hvi:i < vs.length:=by omega
    have hve:vs[i]=KQ an nx i:=by
     have:vs[i]?=some (KQ an nx i):=by
      rw[hvf];unfold Hx;rw[List.getElem?_map,List.getElem?_range hlt,Option.map_some,if_pos hlt]
     rw[List.getElem?_eq_getElem hvi] at this;exact Option.some.inj this
    have hst:l3++NX an nx i=l2++(List.range (i + 1)).flatMap (NX an nx):=by rw[hl3,List.range_succ,List.flatMap_append,List.append_assoc];simp
    rw[NX,hid, ←hve] at hst
    conv=>whnf
    repeat' (first|((first|((apply zZ);first|exact tB|((conv=>whnf);(repeat ((refine aH ?_);conv=>whnf));exact pZ))|refine aM ?_|refine aF ?_|refine xF ?_|intro _|refine zG ?_);conv=>whnf)|(refine zX (fun hc=>?_) (fun hc=>?_)<;>(try simp only[SY] at hc)<;>first|omega|(conv=>whnf)))
    ·rw[if_pos (by assumption)] at hst
     refine aq.go (Fm bc tk l3 an[i].v vs[i] h1 h2 (by omega)) (aX.refl _) ?_;rintro _ _ ⟨tk2,e1,e2,rfl,rfl⟩
     conv=>whnf
     repeat' (first|((refine aM ?_);conv=>whnf)|(refine zX (fun hc=>?_) (fun hc=>?_)<;>(try simp only[SY] at hc)<;>omega))
     exact av (i + 1,tk2,l3++ [mq an[i].v vs[i]]) ⟨by show i + 1≤_;omega,e1,e2,hst,by show (l3++ [_]).length≤300000 + (i + 1);rw[List.length_append,List.length_singleton];omega⟩ (by show an.length - (i + 1) < an.length - i;omega) wA
    ·rw[if_neg (by simp_all),List.append_nil] at hst
     exact av (i + 1,tk,l3) ⟨by show i + 1≤_;omega,h1,h2,hst,by show l3.length≤300000 + (i + 1);omega⟩ (by show an.length - (i + 1) < an.length - i;omega) wA
   ·obtain rfl:i=an.length:=by omega
    rw[←hl3]
    conv=>whnf
    repeat' ((refine zX (fun hc=>?_) (fun hc=>?_)<;>(try simp only[SY] at hc)<;>first|omega|(conv=>whnf)))
    exact ak.gen (y:=.bp []) (Γ':=.row ti (an.map cY.pv)::.box bc [.ms tk]::.row tk (l3.map aa.pv)::A8 b r L nz) (Wk.refl _) ⟨tk,h1,h2,rfl,rfl⟩
section
variable {V:List Int} {E T:List aa} {pr lt:List Bool} {ln:List (List Int)}
def rq (V:List Int) (E T:List aa) (pr lt:List Bool) (ln:List (List Int)) (n i:Nat):List cY:=(List.range n).map fun k=>KK V (if k < i then E else T) pr lt ln k
theorem qp {n i:Nat}:(rq V E T pr lt ln n i).length=n:=by unfold rq;simp
theorem vo {n i j:Nat} (h:j < (rq V E T pr lt ln n i).length):(rq V E T pr lt ln n i)[j]=KK V (if j < i then E else T) pr lt ln j:=by simp[rq]
theorem Gv {n:Nat}:fZ V T pr lt ln n=rq V E T pr lt ln n 0:=by
 unfold fZ rq;exact List.map_congr_left fun k _=>by rw[if_neg (by omega)]
theorem Gu {n:Nat}:rq V E T pr lt ln n n=fZ V E pr lt ln n:=by
 unfold fZ rq;exact List.map_congr_left fun k hk=>by rw[if_pos (List.mem_range.1 hk)]
theorem IN {n i:Nat} {x:cY} (hx:x=KK V E pr lt ln i):(rq V E T pr lt ln n i).set i x=rq V E T pr lt ln n (i + 1):=by
 subst hx;refine List.ext_getElem (by simp[qp]) fun j h1 h2=>?_;rw[List.getElem_set,vo h2];by_cases e:i=j
 ·subst e;rw[if_pos rfl,if_pos (by omega)]
 ·rw[if_neg e,vo (by rw[qp] at h2 ⊢; exact h2)]
  by_cases h:j < i
  ·rw[if_pos h,if_pos (by omega)]
  ·rw[if_neg h,if_neg (by omega)]
end
section
variable {P:Program} {tt:Nat→TI}
theorem IP {τ:Type} {ds:List Nat} {ps:τ→List (Nat×PV)} {G:τ→List aj} {J:τ→Prop} {T T':List PV} {Γ Γ' Γ1:List aj} {D:Ds} (t:τ) (hJ:J t) (hg:au Γ Γ') (hw:bY 0 T' T ds (ps t)) [hp:bz Γ' (G t) Γ1]:tY ds ps G J T D T' Γ D:=
 ⟨rfl,t,hJ,dh.of (bY.wk 0 T' T ds (ps t) hw) (au.trans hg (au.drop hp.p))⟩
theorem aE.ghost {ops:Array Oper} {T:List PV} {Γ Γ':List aj} {K:List PV→List aj→Prop} (hg:au Γ Γ') (h:aE P ops T Γ' K):aE P ops T Γ K:=
 ⟨fun rd nn id w0 F M w a Q' hS hT hQ=>by
  obtain ⟨F1,e1,hS1⟩:=hg w0 F M w hS
  exact h.h rd nn id w0 F1 M w a Q' hS1 (aA.mono e1 _ _ hT) fun F' T2 Γ2 a' w' hle=>hQ F' T2 Γ2 a' w' (Fz.le_trans e1 hle)⟩
end
theorem au.E1 (s:Nat) (e:TypeId) (Γ:List aj) (l:List aa) (h:l= []):au Γ (.row (aB s e) (l.map aa.pv)::Γ):=by subst h;exact au.cK s e Γ
def Lu (V:List Int) (lt:List Bool) (i:Nat):List Int:=((List.range i).filter fun k=>lt.getD k false).map fun k=>V.getD k 0
theorem I4 (V:List Int) (lt:List Bool) (i:Nat):Lu V lt (i + 1)=Lu V lt i++if lt.getD i false=true then [V.getD i 0] else []:=by
 unfold Lu;rw[List.range_succ,List.filter_append,List.map_append,List.filter_cons,List.filter_nil];by_cases h:lt.getD i false=true
 ·rw[if_pos h,if_pos h];rfl
 ·rw[if_neg h,if_neg h];rfl
theorem Lv (V:List Int) (lt:List Bool) (i:Nat):(Lu V lt i).length≤i:=by
 unfold Lu;rw[List.length_map];exact Nat.le_trans (List.length_filter_le _ _) (by simp)
theorem Dj (V:List Int) (E:List aa) (pr lt:List Bool) (ln:List (List Int)):(cC V E pr lt ln).length≤pr.length:=by
 have h:=sy (oo (lz (eB pr lt)) ln);unfold iH at h;rw[List.length_map] at h;unfold cC;rw[List.length_map];refine Nat.le_trans h ?_;unfold oo lz eB;rw[List.length_map];exact Nat.le_trans (List.length_filter_le _ _) (by simp)
theorem oU {p q:Prop} (k:q) (h:q→p:=by intro hq;first | exact aE.sT (some 24) rfl [5,10] [12,13,14] ai mixed hq | exact aE.sP (some 43) rfl [] [12] ai mixed hq | exact aE.sP (some 56) rfl [9] [10] ai mixed hq):p:=h k
theorem LV (b r:Nat) (L:List Int) (nx:Int) (t:aa) (hb:aa.aD t.t + aa.fA 1 t.t + 9 * t.v.length + 10≤1000000000) (hv:t.t.length=t.v.length + 1) (hn:t.v.length≤500) (hnx:0≤nx∧nx≤1000000000):
  af Tryz.prog 52 [.ptr b 0,.agg t.cells] (A8 b r L nx) (fun y Γ'=>y=.agg (gU L.contains t.n t.v t.t nx).1.cells∧Γ'=A8 b r L (gU L.contains t.n t.v t.t nx).2):=by
 have hbe:=t.bu;have hbs:=aa.bn t.t;have hrb:=ya L.contains t.n t.v t.t nx hv;have hR:gU L.contains t.n t.v t.t nx=gU L.contains t.n t.v t.t nx:=rfl
 conv at hR=>rhs;unfold gU;dsimp only
 refine af.ah ai Tryz.func52 rfl rfl (n:=86) rfl rfl ?_
 conv=>whnf
 repeat' (first|refine aY ?_|((intro _);conv=>whnf)|(refine zX (fun hc=>?_) (fun hc=>?_)<;>(try simp only[SY] at hc)<;>omega))
 refine aq.go (Gt b r L nx t (by omega) hv hn) (aX.refl _) ?_;rintro _ _ ⟨ti,hte,hts,rfl,rfl⟩;rw[BF];have hpl:(cx L.contains t.v t.t).length=t.v.length:=by unfold cx;simp
 have hnl:(br t.v t.t).length=t.v.length:=by unfold br;simp
 have hltl:(gl t.n (cx L.contains t.v t.t) (br t.v t.t)).length=t.v.length:=by unfold gl;simp[hnl]
 have hgo:=rB t.v t.t
 have hll: ∀ l∈br t.v t.t,l.length≤500:=fun l hl=>by
  unfold br at hl;obtain ⟨k,hk,rfl⟩:=List.mem_map.1 hl;have:=gm t.v.length fun j=>(ez (cW (t.t.getD k iE).all)).contains (t.v.getD j 0);unfold m6;omega
 have hlv:eF t.v (gl t.n (cx L.contains t.v t.t) (br t.v t.t))=Lu t.v (gl t.n (cx L.contains t.v t.t) (br t.v t.t)) t.v.length:=rfl;rw[hlv] at hR;generalize hRR:gU L.contains t.n t.v t.t nx=RR at *;generalize hpr:cx L.contains t.v t.t=pr at *;generalize hln:br t.v t.t=ln at *;generalize hlt:gl t.n pr ln=lt at *;generalize hnn:t.v.length=n at *;have hil:(fZ t.v t.t pr lt ln n).length=n:=m4;have hig: ∀ (i:Nat) (h:i < (fZ t.v t.t pr lt ln n).length),(fZ t.v t.t pr lt ln n)[i]=KK t.v t.t pr lt ln i:=fun i h=>by simp[fZ]
 generalize hI:fZ t.v t.t pr lt ln n=an at *
 conv=>whnf
 repeat' (first|((first|(refine eP.map fun _=>?_)|refine aF ?_|intro _);conv=>whnf)|(refine zX (fun hc=>?_) (fun hc=>?_)<;>(try simp only[SY] at hc)<;>omega))
 rename_i b3 b4 b6 _;refine ax.jH (au.trans (au.nil 1 3 _) (au.trans (au.nil 4 26 _) (au.box (b:=b6) (cs:= [.int .i64 8,.int .i64 0,.nil,.nil]) (cs':= [.int .i64 8,.int .i64 0,.sl 1 (([]:List Int).map (PV.int .i64)) (some (aB 1 3)),.sl 4 (([]:List aa).map aa.pv) (some (aB 4 26))]) wA))) ?_
 refine ax.over [8,18,19,20,21,22,23,24,25,26,27,28,29,30,31,32,33,34,35,36,37] (fun x:Nat×(List Int×Tok)×(List aa×Tok)=> [(18,.int .i64 x.1)]) (fun x=> [.box b6 [.int .i64 8,.int .i64 0,.sl 1 (x.2.1.1.map (PV.int .i64)) (some x.2.1.2),.sl 4 (x.2.2.1.map aa.pv) (some x.2.2.2)],.tok x.2.1.2,.tok x.2.2.2,.row ti (an.map cY.pv),.box b [.mp r,.int .i64 nx],.mp r (.int .i64) (aS L) [],.box b4 [.int .i64 0,.int .i64 0,.nil,.nil],.box b3 [.int .i64 t.op,.int .i64 t.n,.sl 1 (t.v.map (PV.int .i64)) none,.sl 4 (t.t.map aa.pv) none]])
  (fun x=>x.1≤n∧x.2.1.2.e=3∧x.2.2.2.e=26∧x.2.1.1=Lu t.v lt x.1∧x.2.2.1=(Lu t.v lt x.1).map fun _=>aa.mk 13 0 [] []) (fun x=>n - x.1) (0,([],aB 1 3),([],aB 4 26)) ⟨Nat.zero_le _,rfl,rfl,rfl,rfl⟩ wA ?_
 rintro ⟨i,⟨lv,tv⟩,⟨ut,tu⟩⟩ ⟨hi,htv,htu,hlvs,huts⟩;dsimp only at hi htv htu hlvs huts ⊢;have hll2:=Lv t.v lt i;rw[←hlvs] at hll2 huts;have hul:ut.length≤i:=by rw[huts,List.length_map];exact hll2
 rcases Nat.lt_or_ge i n with hlti | hgei
 ·have hid:=hig i (by omega)
  have hsn:=I4 t.v lt i;have e1:an[i].v=t.v.getD i 0:=by rw[hid];rfl
  have e2:an[i].lt=lt.getD i false:=by rw[hid];rfl
  rw[←hlvs, ←e1, ←e2] at hsn
  conv=>whnf
  repeat' (first|((first|((apply zZ);exact tB)|refine aM ?_|refine aF ?_|refine oU ?_|intro _|refine zG ?_);conv=>whnf)|(refine zX (fun hc=>?_) (fun hc=>?_)<;>(try simp only[SY] at hc)<;>first|omega|(conv=>whnf)))
  ·rename_i tv2 htv2 tu2 htu2
   rw[if_pos (by assumption)] at hsn;exact av (i + 1,(lv++ [an[i].v],tv2),(ut++ [.mk 13 0 [] []],tu2)) ⟨by show i + 1≤_;omega,htv2,htu2,hsn.symm,by show ut++_=_;rw[hsn,List.map_append,huts];rfl⟩ (by show n - (i + 1) < n - i;omega) wA
  ·rw[if_neg (by simp_all),List.append_nil] at hsn
   exact av (i + 1,(lv,tv),(ut,tu)) ⟨by show i + 1≤_;omega,htv,htu,hsn.symm,by show ut=_;rw[hsn];exact huts⟩ (by show n - (i + 1) < n - i;omega) wA
 ·obtain rfl:i=n:=by omega
  have hlve:Lu t.v lt i=lv:=hlvs.symm;rw[hlve] at hR;clear hlvs;have hel:(t.t.map (aa.ask lv)).length=i + 1:=by rw[List.length_map,hv]
  generalize hE:t.t.map (aa.ask lv)=E at *
  conv=>whnf
  repeat' (first|(((refine eP.map fun _=>?_));conv=>whnf)|(refine zX (fun hc=>?_) (fun hc=>?_)<;>(try simp only[SY] at hc)<;>first|omega|(conv=>whnf)))
  refine ax.over [9,40,41,42,43,44,45,46,47,48,49,50,51,52,53,54,55] (fun x:Nat×List cY=> [(40,.int .i64 x.1)]) (fun x=> [.row ti (x.2.map cY.pv),.box b6 [.int .i64 8,.int .i64 0,.sl 1 (lv.map (PV.int .i64)) (some tv),.sl 4 (ut.map aa.pv) (some tu)],.tok tv,.tok tu,.box b [.mp r,.int .i64 nx],.mp r (.int .i64) (aS L) [],.box b4 [.int .i64 0,.int .i64 0,.nil,.nil],.box b3 [.int .i64 t.op,.int .i64 t.n,.sl 1 (t.v.map (PV.int .i64)) none,.sl 4 (t.t.map aa.pv) none]])
   (fun x=>x.1≤i∧x.2=rq t.v E t.t pr lt ln i x.1) (fun x=>i - x.1) (0,an) ⟨Nat.zero_le _,by rw[←hI];exact Gv⟩ wA ?_
  rintro ⟨k,its1⟩ ⟨hk,hits1⟩;dsimp only at hk hits1 ⊢;have hil1:its1.length=i:=by rw[hits1];exact qp
  rcases Nat.lt_or_ge k i with hlk | hgk
  ·have hkt:k < t.t.length:=by omega
   have hk1:k < its1.length:=by omega
   have hkg:its1[k]=KK t.v t.t pr lt ln k:=by
    have:=vo (V:=t.v) (E:=E) (T:=t.t) (pr:=pr) (lt:=lt) (ln:=ln) (n:=i) (i:=k) (j:=k) (by rw[qp];exact hlk);rw[if_neg (by omega)] at this;simp only[hits1];exact this
   have hke:its1[k].e=t.t[k]:=by rw[hkg];show t.t.getD k iE=_;rw[List.getD_eq_getElem?_getD,List.getElem?_eq_getElem hkt];rfl
   have hset:=IN (V:=t.v) (E:=E) (T:=t.t) (pr:=pr) (lt:=lt) (ln:=ln) (n:=i) (i:=k) (x:={ its1[k] with e:=its1[k].e.ask lv }) (by
    rw[hke,hkg];unfold KK;have:E.getD k iE=t.t[k].ask lv:=by rw[←hE,List.getD_eq_getElem?_getD,List.getElem?_map,List.getElem?_eq_getElem hkt];rfl
    rw[this])
   rw[←hits1] at hset
   conv=>whnf
   repeat' (first|((first|((apply zZ);first|exact tB|((conv=>whnf);(repeat ((first|refine pC (sg its1[k].e lv (by rw[hke];have:=aa.cu (List.getElem_mem hkt);omega)) (by ((repeat' (first|exact aX.nil|apply aX.cons|exact Wk.refl _|exact Wk.int OA|exact Wk.tt rfl|exact Wk.ff rfl|exact Wk.dM rfl|exact Wk.tok _ _ _));first|done|fail)) ?_|refine aH ?_);conv=>whnf));exact pZ))|refine oU ?_);conv=>whnf)|(refine zX (fun hc=>?_) (fun hc=>?_)<;>(try simp only[SY] at hc)<;>first|omega|(conv=>whnf)))
   refine cr.row (f:=cY.pv) (l:=its1) ({ its1[k] with e:=its1[k].e.ask lv }:cY) (by omega) rfl rfl rfl (xs:=(its1[k].e.ask lv).cells) (gx.refl _) rfl ?_;rw[hset]
   conv=>whnf
   repeat' (first|((refine aM ?_);conv=>whnf)|(refine zX (fun hc=>?_) (fun hc=>?_)<;>(try simp only[SY] at hc)<;>omega))
   exact av (k + 1,rq t.v E t.t pr lt ln i (k + 1)) ⟨by show k + 1≤_;omega,rfl⟩ (by show i - (k + 1) < i - k;omega) wA
  ·obtain rfl:k=i:=by omega
   have hkt:its1.length < t.t.length:=by omega
   conv=>whnf
   skip
   refine kR.no (by simp;omega) ?_
   conv=>whnf
   repeat (((first|((apply zZ);first|exact tB|((conv=>whnf);(repeat ((first|(refine eP.map fun _=>?_)|refine pC (sg t.t[its1.length] lv (by have:=aa.cu (List.getElem_mem hkt);omega)) (by ((repeat' (first|exact aX.nil|apply aX.cons|exact Wk.refl _|exact Wk.int OA|exact Wk.tt rfl|exact Wk.ff rfl|exact Wk.dM rfl|exact Wk.tok _ _ _));first|done|fail)) ?_);conv=>whnf));exact pZ))|refine aF ?_|refine oU ?_|intro _);conv=>whnf))
   rename_i b10 b11;have hbk:lv.length=0∨0 < lv.length:=by omega
   refine od.join (fun _:Tok=> []) (fun tk=> [.box b11 [.ms tk],.row tk ((jZ lv).map aa.pv),.box b10 [.int .i64 (t.t[its1.length].ask lv).op,.int .i64 (t.t[its1.length].ask lv).n,.sl 1 ((t.t[its1.length].ask lv).v.map (PV.int .i64)) none,.sl 4 ((t.t[its1.length].ask lv).t.map aa.pv) none],.row ti (its1.map cY.pv),.box b [.mp r,.int .i64 nx],.mp r (.int .i64) (aS L) [],.box b4 [.int .i64 0,.int .i64 0,.nil,.nil],.box b3 [.int .i64 t.op,.int .i64 t.n,.sl 1 (t.v.map (PV.int .i64)) none,.sl 4 (t.t.map aa.pv) none]]) (fun tk=>tk.e=26∧tk.s=4) ?_ ?_
   ·conv=>whnf
    repeat' (first|((first|refine aM ?_|intro _);conv=>whnf)|(refine zX (fun hc=>?_) (fun hc=>?_)<;>(try simp only[SY] at hc)<;>(conv=>whnf)))
    ·obtain ⟨l0,hl0⟩: ∃ l0:List aa,l0= []:=⟨_,rfl⟩
     have hl0l:l0.length=0:=by rw[hl0];rfl
     refine aE.ghost (au.trans (au.E1 4 26 _ l0 hl0) (au.box (b:=b11) (cs:= [.nil]) (cs':= [.ms (aB 4 26)]) (.cons (Wk.cK _ _) .nil))) ?_;have hz1:(aB 4 26).e=26:=rfl;have hz2:(aB 4 26).s=4:=rfl;generalize aB 4 26=tz at *;refine aE.tree ai mixed [0,0,1,0,15,31,63,31] [1,3] [0,2,4,5,6,7] [.box b11 [.ms tz],.row tz (l0.map aa.pv)] ?_
     conv=>whnf
     conv=>whnf
     repeat' (first|((first|((apply zZ);exact tB)|refine aM ?_|(refine And.intro ?_ ?_)|(refine eP.map fun _=>?_)|(refine e8.OD (l:=l0++ [aa.mk 0 0 [] []]) (by assumption) (by omega) (by simp;omega) ?_)|(refine cr.rT (f:=aa.pv) (l:=l0++ [aa.mk 0 0 [] []]) (by simp) rfl rfl rfl ?_)|refine aF ?_|intro _);conv=>whnf)|(refine zX (fun hc=>?_) (fun hc=>?_)<;>(try simp only[SY] at hc)<;>omega))
     all_goals try exact trivial
     all_goals
      rename Tok=>t5
      have hu:l0++ [aa.mk 8 0 lv ut]=jZ lv:=by
       rw[hl0];unfold jZ;rw[if_neg (by omega),huts];rfl
      rw[n6,hu];exact jo t5 ⟨by assumption,by assumption⟩ wA
    ·refine IP (aB 4 26) ⟨rfl,rfl⟩ (au.trans (au.E1 4 26 _ (jZ lv) (by unfold jZ;rw[if_pos (by omega)])) (au.box (b:=b11) (cs:= [.nil]) (cs':= [.ms (aB 4 26)]) (.cons (Wk.cK _ _) .nil))) wA
   ·rintro tk ⟨h1,h2⟩
    conv=>whnf
    skip
    obtain ⟨LK,hLK⟩: ∃ l,l=jZ lv++if t.n=1 then jh t.v E pr lt (cC t.v E pr lt ln) k else fF t.v E pr lt (cC t.v E pr lt ln) nx k:=⟨_,rfl⟩
    obtain ⟨ny,hny⟩: ∃ k1,k1=if t.n=1 then nx else nx + ou pr lt k:=⟨_,rfl⟩
    refine od.join (fun _:Tok=> []) (fun tk=> [.box b11 [.ms tk],.row tk (LK.map aa.pv),.box b10 [.int .i64 (t.t[its1.length].ask lv).op,.int .i64 (t.t[its1.length].ask lv).n,.sl 1 ((t.t[its1.length].ask lv).v.map (PV.int .i64)) none,.sl 4 ((t.t[its1.length].ask lv).t.map aa.pv) none],.box b [.mp r,.int .i64 ny],.mp r (.int .i64) (aS L) [],.box b4 [.int .i64 0,.int .i64 0,.nil,.nil]]) (fun tk=>tk.e=26∧tk.s=4) ?_ ?_
    ·rw[Gu] at hits1
     have hFI:iZ its1=cC t.v E pr lt ln:=by rw[hits1];exact Gh hnn hpl hltl hnl
     have hfl:=Dj t.v E pr lt ln;have hul:(jZ lv).length≤1:=by unfold jZ;split<;>simp
     have hlj: ∀ j,j < k→ln.getD j []∈ln:=fun j hj=>by
      rw[List.getD_eq_getElem?_getD,List.getElem?_eq_getElem (by omega)];exact List.getElem_mem _
     have hln1: ∀ x∈its1,x.ln.length≤500:=fun x hx=>by
      rw[hits1] at hx;obtain ⟨j,hj,rfl⟩:=List.mem_map.1 hx;exact hll _ (hlj j (List.mem_range.1 hj))
     have hln2: ∀ x∈its1, ∀ y∈x.ln,0≤y∧y < (its1.length:Int):=fun x hx y hy=>by
      rw[hits1] at hx;obtain ⟨j,hj,rfl⟩:=List.mem_map.1 hx;have:=hgo _ (hlj j (List.mem_range.1 hj)) y hy;omega
     conv=>whnf
     repeat' (first|refine aY ?_|(refine zX (fun hc=>?_) (fun hc=>?_)<;>(try simp only[SY] at hc)<;>(conv=>whnf)))
     ·rw[if_pos (by assumption)] at hLK hny
      refine aq.go (Kf b11 tk (jZ lv) its1 ti h1 h2 (by omega) hts (by omega) hln1 hln2 (by rw[hFI];omega)) (aX.refl _) ?_;rintro _ _ ⟨tk2,e1,e2,rfl,rfl⟩;have hS:=Kg (V:=t.v) (E:=E) (pr:=pr) (lt:=lt) (ln:=ln) (n:=k) (cC t.v E pr lt ln);rw[←hits1] at hS;rw[hFI,hS, ←hLK]
      conv=>whnf
      skip
      rw[←hny];exact jo tk2 ⟨e1,e2⟩ wA
     ·rw[if_neg (by assumption)] at hLK hny
      refine aq.go (GP b r L nx b11 tk (jZ lv) its1 ti hnx h1 h2 (by omega) hts (by omega) hln1 hln2 (by rw[hFI];omega)) (aX.refl _) ?_;rintro _ _ ⟨tk2,e1,e2,rfl,rfl⟩;have hS:=GQ (V:=t.v) (E:=E) (ln:=ln) hpl hltl (cC t.v E pr lt ln) nx;have hT:=D8 (V:=t.v) (E:=E) (ln:=ln) hpl hltl k;rw[←hits1] at hS hT;have hT2:CF its1 its1.length=ou pr lt k:=by rw[hil1];exact hT
      rw[hFI,hS,hT2, ←hLK, ←hny]
      conv=>whnf
      skip
      exact jo tk2 ⟨e1,e2⟩ wA
    ·rintro tk ⟨h1,h2⟩
     have hEk:E.getD k iE=t.t[its1.length].ask lv:=by
      rw[←hE,List.getD_eq_getElem?_getD,List.getElem?_map,show t.t[k]?=some t.t[its1.length] by rw[←hil1];exact List.getElem?_eq_getElem hkt];rfl
     rw[←hLK, ←hny,hEk] at hR;rw[hR] at hrb ⊢;have hob:=vQ LK (t.t[its1.length].ask lv)
     have hlb:(LK.map I2).sum=aa.aD LK:=by
      rw[nP];congr 1
      exact List.map_congr_left fun x _=>(by rw[x.bu];rfl)
     have hLl:=aa.bn LK;dsimp only at hrb ⊢;generalize t.t[its1.length].ask lv=bo at *
     conv=>whnf
     repeat (refine wM ?_)
     refine aq.Jw tk (LK.map aa.pv) (.cons (qP.ms' h2) (.cons (qP.of (Wk.refl _)) .nil)) (Jl LK bo (by omega) (by omega)) ?_
     conv=>whnf
     repeat' (first|refine aY ?_|(refine zX (fun hc=>?_) (fun hc=>?_)<;>(try simp only[SY] at hc)<;>omega))
     exact ak.gen (y:=.agg (gT LK bo).cells) (Γ':=A8 b r L ny) eo.wk ⟨rfl,rfl⟩
theorem mR (t:aa) (x:Int):x∈dX t↔x∈t.vars:=by unfold dX;exact jR _ _
theorem c7.fits {p:Prog} {level:Int} (h:c7 p level):p.body.OK∧p.body.dep≤400∧(∀ x∈p.body.vars,0≤x∧x≤1000000):=by
 have h1:=p.body.BY h.2.2.1;exact ⟨p.body.LO h.2.2.1,by omega,fun x hx=>⟨(h.2.2.2.2.1 x hx).1,(h.2.2.2.2.1 x hx).2.1⟩⟩
theorem FJ (t:aa) (h:t.dep < 1000):(dX t).length≤t.aR:=by
 have:=(t.pX 0 [] List.Pairwise.nil).2.1;rw[t.yQ h] at this;simpa using this
theorem DA:Wk (.agg [.nil,.int .i64 0,.int .i64 0,.nil,.nil]) (.agg PU.cells):=Wk.agg (.cons (Wk.dM rfl) (.cons (Wk.refl _) (.cons (Wk.refl _) (.cons (Wk.dM rfl) (.cons (Wk.dM rfl) .nil)))))
theorem c7.binds {p:Prog} {level:Int} (h:c7 p level):(ez (bC p.body.all)).length=p.body.vars.length:=by
 have h1:=p.body.EW [] 0 (by have:=p.body.BY h.2.2.1;omega);have h2:bC p.body.all=p.body.vars:=h1.2;rw[h2];exact JN h.2.2.2.2.2
theorem xy (A:Int→Bool) (x:aa): ∀ (l:List aa) (nx:Int),aa.bZ A (l++ [x]) nx=((aa.bZ A l nx).1++ [(x.iy A (aa.bZ A l nx).2).1],(x.iy A (aa.bZ A l nx).2).2)
 | [],nx=>by rw[List.nil_append,aa.bZ,aa.bZ];rfl
 | y::l,nx=>by rw[List.cons_append,aa.bZ,xy A x l,aa.bZ];rfl
theorem Mo (pr lt:List Bool) (k:Nat):0≤ou pr lt k∧ou pr lt k≤k:=by
 unfold ou;have:=List.length_filter_le (fun i=>!pr.getD i false && lt.getD i false) (List.range k);rw[List.length_range] at this;omega
theorem LW (A:Int→Bool) (N:Int) (V:List Int) (T:List aa) (nx:Int):nx≤(gU A N V T nx).2∧(gU A N V T nx).2≤nx + V.length:=by
 unfold gU;dsimp only;have:=Mo (cx A V T) (gl N (cx A V T) (br V T)) V.length
 split<;>omega
theorem Ig (A:Int→Bool) (t:aa): ∀ nx:Int,nx≤(t.iy A nx).2∧(t.iy A nx).2≤nx + t.aR:=by
 induction t using aa.ind with
 | h t ih=>
  intro nx
  have key: ∀ l:List aa,(∀ x∈l, ∀ nx:Int,nx≤(x.iy A nx).2∧(x.iy A nx).2≤nx + x.aR)→ ∀ nx:Int,nx≤(aa.bZ A l nx).2∧(aa.bZ A l nx).2≤nx + aa.aD l:=by
   intro l
   induction l with
   | nil=>intro _ nx;rw[aa.bZ,aa.aD];exact ⟨Int.le_refl _,by show nx≤nx + ((0:Nat):Int);omega⟩
   | cons x l ihl=>
    intro h nx;rw[aa.bZ,aa.aD];have h1:=h x (by simp) nx;have h2:=ihl (fun y hy=>h y (by simp[hy])) (x.iy A nx).2;dsimp only;omega
  have hk:=key t.t ih nx;rw[aa.mU,t.bu]
  split
  ·have:=LW A t.n t.v (aa.bZ A t.t nx).1 (aa.bZ A t.t nx).2
   omega
  ·dsimp only
   omega
theorem za (A:Int→Bool): ∀ (l:List aa) (nx:Int),nx≤(aa.bZ A l nx).2∧(aa.bZ A l nx).2≤nx + aa.aD l
 | [],nx=>by rw[aa.bZ,aa.aD];exact ⟨Int.le_refl _,by show nx≤nx + ((0:Nat):Int);omega⟩
 | x::l,nx=>by
  rw[aa.bZ,aa.aD];have h1:=Ig A x nx;have h2:=za A l (x.iy A nx).2;dsimp only;omega
def OP (b r:Nat) (L:List Int) (x:aa):Prop:= ∀ k:Int,0≤k→k + x.aR≤1000000000→
 af Tryz.prog 32 [.ptr b 0,.agg x.cells] (A8 b r L k) (fun y Γ'=>y=.agg (x.iy L.contains k).1.cells∧Γ'=A8 b r L (x.iy L.contains k).2)
theorem FR {p q:Prop} (k:q) (h:q→p:=by intro hq;first | exact aE.sP (some 8) rfl [8] [9] ai mixed hq):p:=h k
theorem DO (b r:Nat) (L:List Int) (t:aa) (k:Int) (hf: ∀ x∈t.t,OP b r L x) (h0:0≤k) (hk:k + aa.aD t.t≤1000000000) (hb:t.aR≤1000000000):
  af Tryz.prog 51 [.agg t.cells,.fm 32 (.ptr b 0)] (A8 b r L k) (fun y Γ'=>y=.agg (aa.mk t.op t.n t.v (aa.bZ L.contains t.t k).1).cells∧Γ'=A8 b r L (aa.bZ L.contains t.t k).2):=by
 have hbe:=t.bu;have hbs:=aa.bn t.t;refine af.ah ai Tryz.func51 rfl rfl (n:=33) rfl rfl ?_
 conv=>whnf
 repeat (first|refine wM ?_|((first|((apply zZ);(conv=>whnf);(repeat ((refine pC (uO t.v (by omega)) wR ?_);conv=>whnf));exact pZ)|refine FR ?_|intro _);conv=>whnf))
 rename_i b2 b4 b5 _;refine ax.jH (au.trans (au.nil 4 26 _) (au.box (b:=b5) (cs:= [.int .i64 t.op,.int .i64 t.n,gZ t.v,.nil]) (cs':= [.int .i64 t.op,.int .i64 t.n,gZ t.v,.sl 4 (([]:List aa).map aa.pv) (some (aB 4 26))]) wA)) ?_
 refine ax.over [7,19,20,21,22,23,24,25,26,27,28,29,30,31] (fun x:Nat×List aa×Tok×Int=> [(19,.int .i64 x.1)]) (fun x=> [.box b5 [.int .i64 t.op,.int .i64 t.n,gZ t.v,.sl 4 (x.2.1.map aa.pv) (some x.2.2.1)],.tok x.2.2.1,.box b4 [.int .i64 0,.int .i64 0,.nil,.nil],.box b2 [.int .i64 t.op,.int .i64 t.n,gZ t.v,.sl 4 (t.t.map aa.pv) none],.box b [.mp r,.int .i64 x.2.2.2],.mp r (.int .i64) (aS L) []])
  (fun x=>x.1≤t.t.length∧x.2.2.1.e=26∧(x.2.1,x.2.2.2)=aa.bZ L.contains (t.t.take x.1) k) (fun x=>t.t.length - x.1) (0, [],aB 4 26,k) ⟨Nat.zero_le _,rfl,by rw[List.take_zero,aa.bZ]⟩ wA ?_
 rintro ⟨i,l,tk,nx⟩ ⟨hi,hte,hl⟩;dsimp only at hi hte hl⊢
 have hrl:l.length=i:=by
  have:=qi L.contains (t.t.take i) k;rw[←hl,List.length_take] at this;dsimp only at this;omega
 rcases Nat.lt_or_ge i t.t.length with hlt | hge
 ·have hbt:aa.aD (t.t.take i) + (t.t[i]).aR≤aa.aD t.t:=by
   have h1:t.t.take (i + 1)++t.t.drop (i + 1)=t.t:=List.take_append_drop _ _;have h2:=congrArg aa.aD h1;rw[List.take_succ_eq_append_getElem hlt,lT,lT,aa.aD,aa.aD] at h2;omega
  have hle:=za L.contains (t.t.take i) k;rw[←hl] at hle;have hsn:=xy L.contains t.t[i] (t.t.take i) k;rw[←hl, ←List.take_succ_eq_append_getElem hlt] at hsn;dsimp only at hle hsn;have hcl:=hf _ (List.getElem_mem hlt) nx (by omega) (by omega)
  obtain ⟨y,hy⟩: ∃ y,t.t[i].iy L.contains nx=y:=⟨_,rfl⟩
  obtain ⟨y,ny⟩:=y;rw[hy] at hsn hcl;dsimp only at hsn hcl
  conv=>whnf
  repeat' (first|refine aY ?_|((intro _);conv=>whnf)|(refine zX (fun hc=>?_) (fun hc=>?_)<;>(try simp only[SY] at hc)<;>first|omega|(conv=>whnf)))
  refine aE.sE [.tok tk,.box b [.mp r,.int .i64 nx],.mp r (.int .i64) (aS L) []] [4,5] [6,7,8] ai mixed ?_
  conv=>whnf
  repeat (refine wM ?_)
  refine aq.go hcl (aX.refl _) ?_;rintro _ _ ⟨rfl,rfl⟩
  conv=>whnf
  repeat' (first|refine aY ?_|((intro _);conv=>whnf)|(refine zX (fun hc=>?_) (fun hc=>?_)<;>(try simp only[SY] at hc)<;>omega))
  rename Tok=>t5
  exact av (i + 1,l++ [y],t5,ny) ⟨by show i + 1≤_;omega,by assumption,hsn.symm⟩ (by show t.t.length - (i + 1) < t.t.length - i;omega) wA
 ·rw[List.take_of_length_le (by omega)] at hl
  rw[←hl]
  conv=>whnf
  repeat' (first|refine aY ?_|(refine zX (fun hc=>?_) (fun hc=>?_)<;>(try simp only[SY] at hc)<;>first|omega|(conv=>whnf)))
  exact ak.gen (y:=.agg (aa.mk t.op t.n t.v l).cells) (Γ':=A8 b r L nx) eo.wk ⟨rfl,rfl⟩
theorem xu: ∀ l:List aa,(l.length:Int)≤aa.bR l
 | []=>by rw[aa.bR];exact Int.le_refl _
 | x::l=>by
  have h1:=x.qh;have h2:=xu l;rw[aa.bR,List.length_cons];omega
theorem Ih (A:Int→Bool): ∀ (l:List aa) (nx:Int) (M:Int),(∀ x∈l,x.LY)→(∀ x∈l,(x.cnt:Int) + 10≤M)→(aa.fA 1 (aa.bZ A l nx).1:Int)≤aa.aD l∧(aa.aD (aa.bZ A l nx).1:Int)≤M * aa.aD l
 | [],nx,M,_,_=>by rw[aa.bZ,aa.fA,aa.aD];simp
 | x::l,nx,M,h,hM=>by
  rw[aa.bZ];dsimp only;rw[aa.fA,aa.aD,aa.aD];have h1:=uV A x (h x (by simp)) nx;have h2:=Ih A l (x.iy A nx).2 M (fun y hy=>h y (by simp[hy])) (fun y hy=>hM y (by simp[hy]));have h3:=hM x (by simp);have h4:((x.cnt:Int) + 10) * x.aR≤M * x.aR:=Int.mul_le_mul_of_nonneg_right h3 (by omega);simp only[Int.natCast_add,Int.mul_add];exact ⟨by omega,by omega⟩
theorem qU {l:List aa} {x:aa} (h:x∈l):x.cnt≤aa.bR l:=by
 induction l with
 | nil=>cases h
 | cons y l ih=>
  rw[aa.bR];have hy:=y.qh;have hl:0≤aa.bR l:=aa.eu l;rcases List.mem_cons.1 h with rfl | h
  ·omega
  ·have:=ih h;omega
theorem Km (M B:Int) (h0M:0≤M) (hMB:M * B≤600000000) (hB:B≤3000000) (b r:Nat) (L:List Int) (t:aa):t.LY→t.cnt≤500→t.cnt + 10≤M→t.aR≤B→OP b r L t:=by
 induction t using aa.ind with
 | h t ih=>
  intro hs hcn hcM hb k h0 hk;have hbe:=t.bu;have hbs:=aa.bn t.t;have hmb:M * (aa.aD t.t:Int)≤M * B:=Int.mul_le_mul_of_nonneg_left (by omega) h0M;have hce:=t.fD;have hs2:=(t.DR).1 hs;have hxs:=aa.wj hs2.2;have hcl:=Ih L.contains t.t k M hxs fun x hx=>by have:=qU hx;omega
  have hle:=za L.contains t.t k;have hrb:=DO b r L t k (fun x hx=>ih x hx (hxs x hx) (by have:=qU hx;omega) (by have:=qU hx;omega) (by have:=aa.cu hx;omega)) h0 (by omega) (by omega);have hlen:=qi L.contains t.t k;have hcv:=t.mU L.contains k;generalize aa.bZ L.contains t.t k=C at *;obtain ⟨E,nz⟩:=C;dsimp only at hcl hle hrb hlen hcv;rw[hcv];refine af.ah ai Tryz.func32 rfl rfl (n:=17) rfl rfl ?_
  conv=>whnf
  repeat' (first|refine aY ?_|((intro _);conv=>whnf)|(refine zX (fun hc=>?_) (fun hc=>?_)<;>(try simp only[SY] at hc)<;>omega))
  refine aq.go hrb (aX.refl _) ?_;rintro _ _ ⟨rfl,rfl⟩
  conv=>whnf
  repeat' (first|refine aY ?_|((intro _);conv=>whnf)|(refine zX (fun hc=>?_) (fun hc=>?_)<;>(try simp only[SY] at hc)<;>(conv=>whnf)))
  ·have hvl:E.length=t.v.length + 1:=by rw[hlen];exact hs2.1 hc
   have hcl2:=xu t.t;rw[if_pos hc];have hrc:=LV b r L nz (aa.mk t.op t.n t.v E) (by show aa.aD E + aa.fA 1 E + 9 * t.v.length + 10≤_;omega) hvl (by show t.v.length≤500;omega) (by omega);change af _ _ _ _ (fun y Γ'=>y=.agg (gU L.contains t.n t.v E nz).1.cells∧Γ'=A8 b r L (gU L.contains t.n t.v E nz).2) at hrc;generalize gU L.contains t.n t.v E nz=R at *;refine aq.go hrc (aX.refl _) ?_;rintro _ _ ⟨rfl,rfl⟩
   conv=>whnf
   repeat' (first|refine aY ?_|(refine zX (fun hc=>?_) (fun hc=>?_)<;>(try simp only[SY] at hc)<;>omega))
   exact ak.gen (y:=.agg R.1.cells) (Γ':=A8 b r L R.2) eo.wk ⟨rfl,rfl⟩
  ·rw[if_neg hc]
   exact ak.gen (y:=.agg (aa.mk t.op t.n t.v E).cells) (Γ':=A8 b r L nz) eo.wk ⟨rfl,rfl⟩
theorem LM {o:Int} (ho:o=12∨o=13∨o=14) {c codes:Int} {free:Bool} (t:aa): ∀ {sc:List Int} {deep:Int},t.qL 0 c codes free sc deep→t.ct o=0:=by
 induction t using aa.ind with
 | h t ih=>
  intro sc deep h;rw[aa.kN] at h;rw[aa.Er]
  have h1: ¬t.op=o:=fun e=>by
   have hs:=h.1.2.1;rw[e] at hs;rcases ho with rfl | rfl | rfl<;>exact absurd hs (by decide)
  rw[if_neg h1,Nat.zero_add,kf]
  have: ∀ x∈t.t.map (aa.ct o),x=0:=fun x hx=>by
   obtain ⟨y,hy,rfl⟩:=List.mem_map.1 hx;obtain ⟨s,d,hy2⟩:=Ak h.2 y hy;exact ih y hy hy2
  generalize t.t.map (aa.ct o)=l at this
  induction l with
  | nil=>rfl
  | cons a l ihl=>rw[List.sum_cons,this a (by simp),ihl (fun x hx=>this x (by simp[hx]))]
theorem Mh (t:aa):t.ct 14=0→t.iQ=t.KO:=by
 induction t using aa.ind with
 | h t ih=>
  intro h;rw[aa.Er] at h;rw[aa.yP,aa.Ke];have h1: ¬t.op=14:=fun e=>by rw[if_pos e] at h;omega
  have key: ∀ l:List aa,(∀ x∈l,x.ct 14=0→x.iQ=x.KO)→aa.fA 14 l=0→aa.kX l=aa.wB l:=by
   intro l
   induction l with
   | nil=>intro _ _;rw[aa.kX,aa.wB]
   | cons x l ihl=>
    intro hx hl;rw[aa.fA] at hl;rw[aa.kX,aa.wB,hx x (by simp) (by omega),ihl (fun y hy=>hx y (by simp[hy])) (by omega)]
  rw[key t.t ih (by omega)];by_cases h2:t.op=2
  ·rw[if_pos (.inl h2),if_pos h2]
  ·rw[if_neg (by omega),if_neg h2]
def ee (p:Prog):Prog×Int:=if iw p 0=0 then (if iw (lU p) 1=0 then (lU p,0) else (PU,5)) else (PU,5)
theorem Ni {A B:Int→Bool} (h: ∀ v,A v=B v) (t:aa) (nx:Int):t.iy A nx=t.iy B nx:=by rw[show A=B from funext h]
theorem FT {p q:Prop} (k:q) (h:q→p:=by intro hq;first | exact aE.sP (some 14) rfl [] [6] ai mixed hq):p:=h k
theorem Be (M B:Int) (h0M:0≤M) (hMB:M * B≤600000000) (hB:B≤3000000) (p:Prog) (hcn:p.body.cnt≤500) (hcM:p.body.cnt + 10≤M) (hb:p.body.aR≤B) (hl:p.consts.length≤1000000000):
  ay Tryz.prog 13 [.agg p.cells] (.bp [.agg (ee p).1.cells,.int .i64 (ee p).2]):=by
 have he:=A6 p 0;have hR:iw p 0=0→c7 p 0:=fun h=>(qd p 0).1 (by rw[←he];exact h);refine af.ah ai Tryz.func13 rfl rfl (n:=50) rfl rfl ?_
 conv=>whnf
 repeat' (first|refine aY ?_|((first|refine pC (A7 p 0 (by omega) (by omega)) wR ?_|refine FT ?_|intro _);conv=>whnf)|(refine zX (fun hc=>?_) (fun hc=>?_)<;>(try simp only[SY] at hc)<;>(conv=>whnf)))
 ·rename_i hc
  exact ak.pure (Wk.bp (.cons (by rw[ee,if_neg hc];exact DA) (.cons (by rw[ee,if_neg hc];exact Wk.refl _) .nil)))
 ·rename_i b1 b2 r bc
  obtain ⟨hshp,hdep,hvr⟩:=(hR hc).fits;have hrsh:=p.body.E6 (hR hc).2.2.1;have hasg:=Mh p.body (LM (.inr (.inr rfl)) p.body (hR hc).2.2.1);have hrise:=p.body.CP (by omega);have hbl:=FJ p.body (by omega);have hcnv:ee p=if iw ⟨p.consts,(p.body.iy (fun v=>p.body.iQ.contains v) (bO p.body)).1⟩ 1=0 then (⟨p.consts,(p.body.iy (fun v=>p.body.iQ.contains v) (bO p.body)).1⟩,0) else (PU,5):=by rw[ee,if_pos hc];rfl
  have hcb:=(uV (fun v=>p.body.iQ.contains v) p.body hrsh (bO p.body)).2;have hcb2:((p.body.cnt:Int) + 10) * p.body.aR≤M * B:=Int.le_trans (Int.mul_le_mul_of_nonneg_right (by omega) (by omega)) (Int.mul_le_mul_of_nonneg_left hb h0M);rw[Cm];refine aq.go (J4 r p.body [] (by omega)) (aX.refl _) ?_;rintro _ _ ⟨rfl,L',hL',rfl⟩
  have hcv:p.body.iy L'.contains (bO p.body)=p.body.iy (fun v=>p.body.iQ.contains v) (bO p.body):=Ni (fun v=>by
   rw[Bool.eq_iff_iff,hasg];simp[hL']) _ _
  have hn0:0≤bO p.body∧bO p.body≤1000001:=by
   unfold bO
   split
   ·omega
   ·rename_i h0
    have hlt:(dX p.body).length - 1 < (dX p.body).length:=by have:=List.length_pos_iff.2 h0;omega
    have e:(dX p.body).getD ((dX p.body).length - 1) 0=(dX p.body)[(dX p.body).length - 1]:=by simp[List.getD,hlt]
    have:=hvr _ ((mR _ _).1 (List.getElem_mem hlt));rw[e];omega
  obtain ⟨hn0,hn1⟩:=hn0;have hbc:=K4 p.body (by omega);rw[hrise] at hbc;have hcl:=CY p.consts hl;have htm:=Km M B h0M hMB hB bc r L' p.body hrsh hcn hcM hb (bO p.body) hn0 (by omega);rw[hcv] at htm;generalize p.body.iy (fun v=>p.body.iQ.contains v) (bO p.body)=R at *;have hck:=A7 ⟨p.consts,R.1⟩ 1 (by show R.1.aR≤_;omega) hl
  conv=>whnf
  repeat' (first|refine aY ?_|((first|refine pC (hbc) wR ?_|intro _);conv=>whnf)|(refine zX (fun hc=>?_) (fun hc=>?_)<;>(try simp only[SY] at hc)<;>(conv=>whnf)))
  ·have hlt:(dX p.body).length - 1 < (dX p.body).length:=by omega
   have e:(dX p.body).getD ((dX p.body).length - 1) 0=(dX p.body)[(dX p.body).length - 1]:=by simp[List.getD,hlt]
   have h1:=hvr _ ((mR _ _).1 (List.getElem_mem hlt))
   have hn:bO p.body=(dX p.body)[(dX p.body).length - 1] + 1:=by
    unfold bO;rw[if_neg (by intro h;rw[h] at hlt;simp at hlt),e]
   refine ij.ok (by omega) (by omega) ?_;rw[←hn]
   conv=>whnf
   repeat' (first|refine aY ?_|(refine zX (fun hc=>?_) (fun hc=>?_)<;>(try simp only[SY] at hc)<;>omega))
   refine aE.sF (some 37) rfl [.box bc [.mp r,.int .i64 (bO p.body)],.mp r (.int .i64) (aS L') []] [6,7] [] [8] [9] ai mixed ?_
   conv=>whnf
   repeat (first|refine wM ?_|((((apply zZ);(conv=>whnf);(repeat ((refine pC (hcl) wR ?_);conv=>whnf));exact pZ));conv=>whnf))
   refine aq.go htm (aX.refl _) ?_;rintro _ _ ⟨rfl,rfl⟩
   conv=>whnf
   repeat' (first|refine aY ?_|((first|refine pC (hck) wR ?_|intro _);conv=>whnf)|(refine zX (fun hc=>?_) (fun hc=>?_)<;>(try simp only[SY] at hc)<;>(conv=>whnf)))
   ·exact ak.pure (Wk.bp (.cons (by rw[hcnv,if_neg hc];exact DA) (.cons (by rw[hcnv,if_neg hc];exact Wk.refl _) .nil)))
   ·exact ak.pure (Wk.bp (.cons (by rw[hcnv,if_pos hc];exact Wk.refl _) (.cons (by rw[hcnv,if_pos hc];exact Wk.refl _) .nil)))
  ·have hn:bO p.body=0:=by
    unfold bO;rw[if_pos (List.eq_nil_of_length_eq_zero (by omega))]
   rw[show PV.int .i64 0=PV.int .i64 (bO p.body) by rw[hn]];refine aE.sF (some 37) rfl [.box bc [.mp r,.int .i64 (bO p.body)],.mp r (.int .i64) (aS L') []] [6,7] [] [8] [9] ai mixed ?_
   conv=>whnf
   repeat (first|refine wM ?_|((((apply zZ);(conv=>whnf);(repeat ((refine pC (hcl) wR ?_);conv=>whnf));exact pZ));conv=>whnf))
   refine aq.go htm (aX.refl _) ?_;rintro _ _ ⟨rfl,rfl⟩
   conv=>whnf
   repeat' (first|refine aY ?_|((first|refine pC (hck) wR ?_|intro _);conv=>whnf)|(refine zX (fun hc=>?_) (fun hc=>?_)<;>(try simp only[SY] at hc)<;>(conv=>whnf)))
   ·exact ak.pure (Wk.bp (.cons (by rw[hcnv,if_neg hc];exact DA) (.cons (by rw[hcnv,if_neg hc];exact Wk.refl _) .nil)))
   ·exact ak.pure (Wk.bp (.cons (by rw[hcnv,if_pos hc];exact Wk.refl _) (.cons (by rw[hcnv,if_pos hc];exact Wk.refl _) .nil)))
theorem Bd (p:Prog) (hcn:p.body.cnt≤500) (hb:p.body.aR≤1100000) (hl:p.consts.length≤1000000000):
  ay Tryz.prog 13 [.agg p.cells] (.bp [.agg (ee p).1.cells,.int .i64 (ee p).2]):=Be 510 1100000 (by decide) (by decide) (by decide) p hcn (by omega) (by omega) hl
theorem af.ap {P:Program} {f:FuncId} {args:List PV} {Γ:List aj} {Q:PV→List aj→Prop} (h0: ∃ fn,P.funcs[f]?=some fn∧fn.body.isNone=false∧(fn.name == "runtime.NumGoroutine")=false) (h:Γ.Pairwise aj.apart→af P f args Γ Q):af P f args Γ Q:=
 ⟨h0,fun w0 F M w vs hS hR=>(h (List.pairwise_append.1 hS.sep).1).2 w0 F M w vs hS hR⟩
abbrev Fx:aa:=.mk 12 0 [] [.mk 1 1 [] []]
abbrev QZ:aa:=.mk 4 0 [] [Fx]
abbrev P4:aa:=.mk 2 1 [] [.mk 5 0 [] [.mk 1 0 [] []]]
abbrev P3:aa:=.mk 6 0 [] [P4,Fx]
abbrev P0:aa:=.mk 9 0 [0] [QZ,P3]
abbrev OM:aa:=.mk 8 0 [1] [.mk 13 0 [] [],P0]
section
variable (b:Nat) (K:List Vl) (tk:Tok) (s:kP)
abbrev eR:Vl→Int→kP→Tok→Prop:=fun _ c s' _=>c=5∧s'.out= []
theorem Qf (e:iM) (h0:3≤s.fuel∧s.fuel≤1000) (ho:s.out= []) (a:Nat) (hf:q8 e 1=some a) (hg:fk s.h a=some (fL 12,false)):
  af Tryz.prog 70 [.ptr b 0,.agg Fx.cells,cH e,.nil] (eL b K tk s) (kG b K eR):=by
 refine EB b K tk s Fx e eR (by omega) (by decide) ?_;refine uI b K e [.mk 1 1 [] []] (by decide) (fun i m s' tk'=>if i=0 then m= []∧s'=bF s∧tk'=tk else m= [fL 12]∧s'=bF (bF s)∧tk'=tk) _ (bF s) tk ⟨rfl,rfl,rfl⟩ ?_ ?_
 ·intro i m s' tk' hP hi
  obtain rfl:i=0:=by simpa using hi
  obtain ⟨rfl,rfl,rfl⟩:=hP;refine (MF b K tk' (bF s) (.mk 1 1 [] []) e (by show 0 < s.fuel - 1∧s.fuel - 1≤_;omega) rfl a hf (fL 12) false hg (by simp)).mono ?_;rintro y Γ' ⟨rfl,rfl⟩;exact ⟨_,_,_,_,rfl,rfl,fun _=>⟨rfl,rfl,rfl⟩,fun h=>absurd rfl h⟩
 ·intro m s' tk' hP
  obtain ⟨rfl,rfl,rfl⟩:=hP;refine ⟨fun h=>absurd rfl h,fun _=>?_⟩;refine (Ki b K tk' _ Fx e rfl [fL 12] rfl rfl).mono ?_;rintro y Γ' ⟨rfl,rfl⟩;exact ⟨_,_,_,_,rfl,rfl,rfl,ho⟩
theorem Qe (a0 a1:Nat) (h0:20≤s.fuel∧s.fuel≤1000) (ho:s.out= []) (hne:a0≠a1) (hh:s.h= [(a0,.mk 8 0 0 [] [] (some ⟨[],false,Fx, [(0,a0),(1,a1)]⟩) none,false),(a1,fL 12,false)]):
  af Tryz.prog 70 [.ptr b 0,.agg (aa.mk 5 0 [] [.mk 1 0 [] []]).cells,cH [(0,a0),(1,a1)],.nil] (eL b K tk s) (kG b K eR):=by
 have hg0:fk s.h a0=some (.mk 8 0 0 [] [] (some ⟨[],false,Fx, [(0,a0),(1,a1)]⟩) none,false):=by rw[hh,fk,if_pos rfl]
 have hg1:fk s.h a1=some (fL 12,false):=by rw[hh,fk,if_neg hne,fk,if_pos rfl]
 refine EB b K tk s (.mk 5 0 [] [.mk 1 0 [] []]) [(0,a0),(1,a1)] eR (by omega) (by decide) ?_;refine uI b K [(0,a0),(1,a1)] [.mk 1 0 [] []] (by decide) (fun i m s' tk'=>if i=0 then m= []∧s'=bF s∧tk'=tk else m= [.mk 8 0 0 [] [] (some ⟨[],false,Fx, [(0,a0),(1,a1)]⟩) none]∧s'=bF (bF s)∧tk'=tk) _ (bF s) tk ⟨rfl,rfl,rfl⟩ ?_ ?_
 ·intro i m s' tk' hP hi
  obtain rfl:i=0:=by simpa using hi
  obtain ⟨rfl,rfl,rfl⟩:=hP;refine (MF b K tk' (bF s) (.mk 1 0 [] []) [(0,a0),(1,a1)] (by show 0 < s.fuel - 1∧s.fuel - 1≤_;omega) rfl a0 rfl _ false hg0 (by simp)).mono ?_;rintro y Γ' ⟨rfl,rfl⟩;exact ⟨_,_,_,_,rfl,rfl,fun _=>⟨rfl,rfl,rfl⟩,fun h=>absurd rfl h⟩
 ·intro m s' tk' hP
  obtain ⟨rfl,rfl,rfl⟩:=hP;refine ⟨fun h=>absurd rfl h,fun _=>?_⟩;refine Om b K tk' (bF (bF s)) eR (.mk 5 0 [] [.mk 1 0 [] []]) rfl [(0,a0),(1,a1)] [.mk 8 0 0 [] [] (some ⟨[],false,Fx, [(0,a0),(1,a1)]⟩) none] (by show 0 < 1;decide) ?_;refine O8 b K tk' (bF (bF s)) eR (.mk 8 0 0 [] [] (some ⟨[],false,Fx, [(0,a0),(1,a1)]⟩) none) rfl ⟨[],false,Fx, [(0,a0),(1,a1)]⟩ rfl [] [] (by decide) (Nat.zero_le _) (fun h=>by cases h) rfl ?_;intro az haz;obtain rfl:az= []:=by simpa using haz
  exact Qf b K tk' (gC (bF (bF s)) (zn s.h [] [])) [(0,a0),(1,a1)] (by show 3≤s.fuel - 1 - 1∧s.fuel - 1 - 1≤1000;omega) ho a1 rfl hg1
theorem Qh (a0 a1:Nat) (h0:30≤s.fuel∧s.fuel≤1000) (ho:s.out= []) (hh:s.h= [(a0,.mk 8 0 0 [] [] (some ⟨[],false,Fx, [(0,a0),(1,a1)]⟩) none,false),(a1,fL 12,false)]):
  af Tryz.prog 70 [.ptr b 0,.agg P3.cells,cH [(0,a0),(1,a1)],.nil] (eL b K tk s) (kG b K eR):=by
 refine af.ap (Pd b K tk (I9 0) P3 [] (by decide)).1 fun hap=>?_
 have hne:a0≠a1:=fun e=>by
  have h2:(CC s.h).Pairwise aj.apart:=hap.tail.tail;rw[hh] at h2;have h3:=(List.pairwise_cons.1 h2).1 _ (List.mem_singleton.2 rfl);rcases h3 with h1 | h1
  ·cases h1
  ·exact h1 (congrArg some e)
 refine EB b K tk s P3 [(0,a0),(1,a1)] eR (by omega) (by decide) ?_;refine uI b K [(0,a0),(1,a1)] [P4,Fx] (by decide) (fun i m s' tk'=>i=0∧m= []∧s'=bF s∧tk'=tk) _ (bF s) tk ⟨rfl,rfl,rfl,rfl⟩ ?_ (fun m s' tk' hP=>absurd hP.1 (by decide));rintro i m s' tk' ⟨rfl,rfl,rfl,rfl⟩ hi
 have key:af Tryz.prog 70 [.ptr b 0,.agg P4.cells,cH [(0,a0),(1,a1)],.nil] (eL b K tk' (bF s)) (kG b K eR):=by
  refine EB b K tk' (bF s) P4 [(0,a0),(1,a1)] eR (by show 0 < s.fuel - 1∧s.fuel - 1≤_;omega) (by decide) ?_;refine uI b K [(0,a0),(1,a1)] [.mk 5 0 [] [.mk 1 0 [] []]] (by decide) (fun i m s' tk2=>i=0∧m= []∧s'=bF (bF s)∧tk2=tk') _ (bF (bF s)) tk' ⟨rfl,rfl,rfl,rfl⟩ ?_ (fun m s' tk' hP=>absurd hP.1 (by decide));rintro i m s' tk2 ⟨rfl,rfl,rfl,rfl⟩ hi;refine (Qe b K tk2 (bF (bF s)) a0 a1 (by show 20≤s.fuel - 1 - 1∧s.fuel - 1 - 1≤1000;omega) ho hne hh).mono ?_;rintro y Γ' ⟨x,c,s',tk3,e1,e2,rfl,e4⟩;exact ⟨x,5,s',tk3,e1,e2,fun h=>absurd h (by decide),fun _=>⟨fun _=>⟨rfl,e4⟩,fun h=>absurd h (by decide)⟩⟩
 refine key.mono ?_;rintro y Γ' ⟨x,c,s',tk3,e1,e2,rfl,e4⟩;exact ⟨x,5,s',tk3,e1,e2,fun h=>absurd h (by decide),fun _=>⟨fun _=>⟨rfl,e4⟩,fun h=>absurd h (by decide)⟩⟩
theorem Qg (a1:Nat) (h0:40≤s.fuel∧s.fuel≤1000) (ho:s.out= []) (hh:s.h= [(a1,fL 12,false)]):
  af Tryz.prog 70 [.ptr b 0,.agg P0.cells,cH [(1,a1)],.nil] (eL b K tk s) (kG b K eR):=by
 refine ME b K tk s P0 [(1,a1)] eR (by omega) (by decide) ?_;refine K3 b K tk (bF s) P0 [(1,a1)] eR (.inr rfl) rfl (by decide) (by decide) (fun az i m s' tk'=> ∃ a0,az= [a0]∧tk'=tk∧if i=0 then m= []∧s'=gC (bF s) [(a0,fL 12,false),(a1,fL 12,false)] else m.length=1∧s'=gC (bF (bF s)) [(a0,.mk 8 0 0 [] [] (some ⟨[],false,Fx, [(0,a0),(1,a1)]⟩) none,false),(a1,fL 12,false)]) ?_ ?_ ?_
 ·intro az haz
  obtain ⟨a0,rfl⟩: ∃ a,az= [a]:=by
   match az,haz with
   | [a],_=>exact ⟨a,rfl⟩
  refine ⟨a0,rfl,rfl,rfl,?_⟩;show gC (bF s) (EG s.h false [a0])=_;rw[hh];rfl
 ·rintro az i m s' tk' ⟨a0,rfl,rfl,hP⟩ hi
  obtain rfl:i=0:=by have:i < 1:=hi;omega
  obtain ⟨rfl,rfl⟩:=hP;refine (La b K tk' _ QZ (iz [(1,a1)] [0] [a0]) (by show 0 < s.fuel - 1∧s.fuel - 1≤_;omega) rfl rfl).mono ?_;rintro y Γ' ⟨rfl,rfl⟩;refine ⟨_,_,_,_,rfl,rfl,fun h=>absurd rfl h,fun _=>⟨fun _=>⟨a0,fL 12,false,rfl,?_⟩,a0,rfl,rfl,?_⟩⟩
  ·show fk [(a0,fL 12,false),(a1,fL 12,false)] a0=_
   rw[fk,if_pos rfl]
  ·refine ⟨rfl,?_⟩
   rw[if_pos (.inl rfl)];show gC (bF (bF s)) (hput [(a0,fL 12,false),(a1,fL 12,false)] a0 _)=_;rw[hput,if_pos rfl];rfl
 ·rintro az m s' tk' ⟨a0,rfl,rfl,hP⟩ hm
  obtain ⟨_,rfl⟩:=hP;refine ⟨fun h=>absurd h.1 (by decide),?_⟩;rw[if_neg (fun h=>absurd h.1 (by decide))];exact Qh b K tk' _ a0 a1 (by show 30≤s.fuel - 1 - 1∧s.fuel - 1 - 1≤1000;omega) ho rfl
theorem Qi:af Tryz.prog 70 [.ptr b 0,.agg OM.cells,.np,.nil] (eL b K tk (I9 100)) (kG b K eR):=by
 refine ME b K tk (I9 100) OM [] eR (by decide) (by decide) ?_;refine K1 b K tk (bF (I9 100)) OM [] eR rfl rfl (by decide) ?_;refine uI b K [] [.mk 13 0 [] []] (by decide) (fun i m s' tk'=>if i=0 then m= []∧s'=bF (I9 100)∧tk'=tk else m= [fL 12]∧s'=bF (bF (I9 100))∧tk'=tk) _ (bF (I9 100)) tk ⟨rfl,rfl,rfl⟩ ?_ ?_
 ·intro i m s' tk' hP hi
  obtain rfl:i=0:=by simpa using hi
  obtain ⟨rfl,rfl,rfl⟩:=hP;refine (Pe b K tk' (bF (I9 100)) (.mk 13 0 [] []) [] (by decide) rfl).mono ?_;rintro y Γ' ⟨rfl,rfl⟩;exact ⟨_,_,_,_,rfl,rfl,fun _=>⟨rfl,rfl,rfl⟩,fun h=>absurd rfl h⟩
 ·intro m s' tk' hP
  obtain ⟨rfl,rfl,rfl⟩:=hP;refine ⟨fun h=>absurd rfl h,fun _=>⟨rfl,fun az haz=>?_⟩⟩
  obtain ⟨a1,rfl⟩: ∃ a,az= [a]:=by
   match az,haz with
   | [a],_=>exact ⟨a,rfl⟩
  exact Qg b K tk' _ a1 (by show 40≤98∧98≤1000;decide) rfl rfl
end
theorem N5 (cs:List Datum) (hcs:cs.length=0) (t:aa) (fuel:Int) (hev: ∀ (b:Nat) (tk:Tok),tk.e=4→tk.s=1→af Tryz.prog 70 [.ptr b 0,.agg t.cells,.np,.nil] (eL b [] tk (I9 fuel)) (kG b [] eR)):
  ay Tryz.prog 46 [.sl 5 (cs.map Datum.pv) none,.nil,.agg t.cells,.int .i64 fuel] (.agg [.str [],.int .i64 5,.str []]):=by
 refine af.ah ai Tryz.func46 rfl rfl (n:=65) rfl rfl ?_
 conv=>whnf
 repeat' (first|((intro _);conv=>whnf)|(refine zX (fun hc=>?_) (fun hc=>?_)<;>(try simp only[SY] at hc)<;>omega))
 rename_i b6 b8 b9
 refine ax.over [10,18,19,20,21,22,23,24,25,26,27,28,29,30,31,32,33,34,35,36,37,38] (fun x:Nat=> [(10,.int .i64 x)]) (fun x:Nat=> [.box b9 [.nil,.nil,.int .i64 fuel,.str [],.nil,.int .i64 0,.int .i64 0,.int .i64 0,.int .i64 0,.str [],.nil,.np,.np],.box b8 [.str [],.int .i64 0,.str []],.box b6 [.int .i64 t.op,.int .i64 t.n,.sl 1 (t.v.map (PV.int .i64)) none,.sl 4 (t.t.map aa.pv) none]])
  (fun x=>x=0) (fun x=>0) 0 rfl wA ?_
 rintro _ rfl
 conv=>whnf
 repeat' (first|refine aY ?_|((intro _);conv=>whnf)|(refine zX (fun hc=>?_) (fun hc=>?_)<;>(try simp only[SY] at hc)<;>first|omega|(conv=>whnf)))
 refine aq.Qm (Γ1:= [.box b9 (Qo [] (aB 1 4) (I9 fuel)),.row (aB 1 4) (([]:List Bool).map PV.bool)])
   (au.trans (au.LG [.box b9 [.nil,.nil,.int .i64 fuel,.str [],.nil,.int .i64 0,.int .i64 0,.int .i64 0,.int .i64 0,.str [],.nil,.np,.np],.box b8 [.str [],.int .i64 0,.str []],.box b6 [.int .i64 t.op,.int .i64 t.n,.sl 1 (t.v.map (PV.int .i64)) none,.sl 4 (t.t.map aa.pv) none]]) (au.box (b:=b9) (cs:= [.nil,.nil,.int .i64 fuel,.str [],.nil,.int .i64 0,.int .i64 0,.int .i64 0,.int .i64 0,.str [],.nil,.np,.np]) (cs':=Qo [] (aB 1 4) (I9 fuel))
    (.cons (Wk.dM rfl) (.cons (Wk.refl _) (.cons (Wk.refl _) (.cons (Wk.refl _) (.cons (Wk.cK _ _) (.cons (Wk.refl _) (.cons (Wk.refl _) (.cons (Wk.refl _) (.cons (Wk.refl _) (.cons (Wk.refl _) (.cons (Wk.dM rfl) (.cons (Wk.refl _) (.cons (Wk.refl _) .nil)))))))))))))))
   (hev b9 (aB 1 4) rfl rfl) (aX.refl _) ?_
 rintro _ _ ⟨x,c,s',tk',rfl,rfl,rfl,ho⟩
 conv=>whnf
 repeat' (first|refine aY ?_|((first|refine dz nC ?_|refine dz nD ?_|intro _);conv=>whnf)|(refine zX (fun hc=>?_) (fun hc=>?_)<;>(try simp only[SY] at hc)<;>first|omega|(conv=>whnf)))
 rw[ho];exact ak.pure (Wk.refl _)
theorem PE:ay Tryz.prog 26 [.agg (⟨[],OM⟩:Prog).cells,.int .i64 100] (.agg [.str [],.int .i64 5,.str []]):=by
 refine af.ah ai Tryz.func26 rfl rfl (n:=11) rfl rfl ?_
 conv=>whnf
 repeat' (first|refine aY ?_|((first|refine pC (N5 [] rfl OM 100 fun b tk _ _=>Qi b [] tk) (by ((repeat' (first|exact aX.nil|apply aX.cons|exact Wk.refl _|exact Wk.int OA|exact Wk.tt rfl|exact Wk.ff rfl|exact Wk.dM rfl|exact Wk.tok _ _ _));first|done|fail)) ?_|intro _);conv=>whnf)|(refine zX (fun hc=>?_) (fun hc=>?_)<;>(try simp only[SY] at hc)<;>omega))
 exact ak.pure (Wk.refl _)
abbrev OL:List UInt8:= [40,108,101,116,114,101,99,42,32,40,40,102,32,40,108,97,109,98,100,97,32,40,41,32,121,41,41,32,40,121,32,40,102,41,41,41,32,121,41]
abbrev OE:Prog:=⟨[],.mk 7 1 [0,1] [.mk 4 0 [] [.mk 1 1 [] []],.mk 5 0 [] [.mk 1 0 [] []],.mk 1 1 [] []]⟩
abbrev M9:Prog:=⟨[],OM⟩
def NZ:List Datum:=(oH OL).1
def Nn:Datum:=((sX (ql 20) NZ)).getD aJ
theorem Q6:oH OL=(NZ,(oH OL).2.1,0):=by kernel_rfl
theorem Q7:sX (ql 20) NZ=some Nn:=by kernel_rfl
theorem Q8:(NZ.any fun d=>!d.bL 0 || d.OH)=false:=by kernel_rfl
theorem Q9:Nn.bL 0=true:=by kernel_rfl
theorem Ra:GV OJ (-1) Nn=⟨OE,0⟩:=by kernel_rfl
theorem Rb:Nat.ble Nn.sz 1000=true:=by kernel_rfl
theorem Rc:Nat.ble (Datum.ej NZ) 1000=true:=by kernel_rfl
theorem Re:ee OE=(M9,0):=by kernel_rfl
theorem Rf:iY M9 1=0:=by kernel_rfl
theorem Ol:ay Tryz.prog 16 [.str OL] (.bp [.agg OE.cells,.bool true]):=by
 have hr:=JB OL;have hx:=Gd NZ Nn (by have:=Nat.le_of_ble_eq_true Rc;omega) Q8 Q9 Q7;have hz:=Cd Nn (by have:=Nat.le_of_ble_eq_true Rb;omega);unfold vY at hr;rw[Q6] at hr;rw[Ra] at hz;dsimp only at hr hz;generalize OL=X at *;generalize NZ=R at *;generalize Nn=E at *;generalize OE=P at *;refine af.ah ai Tryz.func16 rfl rfl (n:=34) rfl rfl ?_
 conv=>whnf
 repeat' (first|refine aY ?_|((first|refine pC (hr) wR ?_|refine pC (hx) wR ?_|refine pC (hz) wR ?_|intro _);conv=>whnf)|(refine zX (fun hc=>?_) (fun hc=>?_)<;>(try simp only[SY] at hc)<;>(conv=>whnf)))
 all_goals exact ak.pure (Wk.refl _)
theorem xj:ay Tryz.prog 10 [] (.bool true):=by
 have h1:=Ol;have h2:=Bd OE (by decide) (by decide) (by decide);have h3:=A5 M9 1 (by decide) (by decide);have h4:ay Tryz.prog 26 [.agg M9.cells,.int .i64 100] (.agg [.str [],.int .i64 5,.str []]):=PE;rw[Re] at h2;rw[Rf] at h3;dsimp only at h1 h2;have g1:M9.body.op=8:=rfl;have g2:M9.body.v= [1]:=rfl;generalize OE=P at h1 h2;generalize M9=Q at h2 h3 h4 g1 g2;refine af.ah ai Tryz.func10 rfl rfl (n:=51) rfl rfl ?_
 conv=>whnf
 repeat' (first|refine aY ?_|((first|(((apply zY;intro hg));(conv=>whnf);(repeat ((first|refine pC (h3) wR ?_|refine pC (h4) wR ?_|refine aH ?_);conv=>whnf));exact pZ)|refine pC (h1) wR ?_|refine pC (h2) wR ?_|intro _);conv=>whnf)|(refine zX (fun hc=>?_) (fun hc=>?_)<;>(try simp only[SY] at hc)<;>omega))
 rw[g1,g2];exact ak.pure (Wk.refl _)
theorem Cn (S:List Bool) (y x:Nat) (hy:y < S.length):(S.set y true).getD x false=true↔x=y∨S.getD x false=true:=by
 rw[List.getD_eq_getElem?_getD,List.getD_eq_getElem?_getD,List.getElem?_set];by_cases h:y=x
 ·subst h;rw[if_pos rfl,if_pos hy];simp
 ·rw[if_neg h]
  constructor
  ·exact .inr
  ·rintro (e | e)
   ·exact absurd e.symm h
   ·exact e
structure OQ (g:dy) (frm:List Int) (S:List Bool):Prop where
 len:S.length=g.length
 fm: ∀ x∈frm,S.getD x.toNat false=true
 rg: ∀ x:Nat,x < g.length→S.getD x false=true→Rg g frm (x:Int)
def P8 (g:dy) (S:List Bool) (i:Nat):Prop:=S.getD i false=true→ ∀ y∈g.getD i [],S.getD y.toNat false=true
theorem OQ.all {g:dy} {frm:List Int} {S:List Bool} (hg:oc g) (hf:FB g frm) (h:OQ g frm S) (hc: ∀ i,i < g.length→P8 g S i):S=iB g frm:=by
 have hb:(iB g frm).length=g.length:=uq _ _ (by simp) _;refine yW (h.len.trans hb.symm) fun x hx=>?_;rw[h.len] at hx;rw[mh hg hf hx];refine ⟨h.rg x hx,fun hr=>?_⟩
 have key: ∀ y:Int,Rg g frm y→S.getD y.toNat false=true:=fun y hy=>by
  induction hy with
  | base hm=>exact h.fm _ hm
  | step h1 hm ih=>
   have:=Rg.Li hg hf h1;exact hc _ (by omega) ih _ hm
 have:=key _ hr;rwa [Int.toNat_natCast] at this
theorem OQ.put {g:dy} {frm:List Int} {S:List Bool} (h:OQ g frm S) {y:Int} (hy:Rg g frm y) (hb:y.toNat < g.length) (h0:0≤y):OQ g frm (S.set y.toNat true):=by
 refine ⟨by rw[List.length_set];exact h.len,fun x hx=>?_,fun x hx e=>?_⟩
 ·rw[Cn _ _ _ (by rw[h.len];exact hb)];exact .inr (h.fm x hx)
 ·rw[Cn _ _ _ (by rw[h.len];exact hb)] at e
  rcases e with rfl | e
  ·rw[Int.toNat_of_nonneg h0];exact hy
  ·exact h.rg x hx e
abbrev PS (l:List Bool):PV:=.sl 1 (l.map PV.bool) none
instance:cz PS (fun l=> [PS l]):=⟨fun _=>rfl⟩
instance cc.PS (l:List Bool) (tk:Option Tok):cc PS (.sl 1 (l.map PV.bool) tk) l:=⟨Wk.tok _ _ _,.cons (Wk.tok _ _ _) .nil⟩
theorem mB {p:Int→Bool}: ∀ {l:List Int} {k:Nat},k≤l.length→(∀ j (h:j < l.length),j < k→p l[j]=true)→(∀ h:k < l.length,p (l[k])=false)→l.takeWhile p=l.take k∧l.dropWhile p=l.drop k
 | [],k,_,_,_=>by simp
 | x::l,0,_,_,h=>by
  have:=h (by simp);simp at this;simp[List.takeWhile_cons,List.dropWhile_cons,this]
 | x::l,k + 1,hk,h1,h2=>by
  have h0:=h1 0 (by simp) (by omega);simp at h0;have ih:=mB (p:=p) (l:=l) (k:=k) (by simpa using hk) (fun j hj hjk=>h1 (j + 1) (by simpa using hj) (by omega)) (fun h=>h2 (by simpa using h));simp[List.takeWhile_cons,List.dropWhile_cons,h0,ih]
theorem Da {p q:Prop} (k:q) (h:q→p:=by intro hq;first | exact aE.sT (some 33) rfl [0,4,7] [11,12] ai mixed hq):p:=h k
theorem PB (l:List Int) (v:Int) (hl:l.length≤1000000000):ay Tryz.prog 68 [gZ l,.int .i64 v] (gZ (iV l v)):=by
 refine af.ah ai Tryz.func68 rfl rfl (n:=45) rfl rfl ?_
 conv=>whnf
 skip
 refine ax.keep [5,6,7,8,9,10,11,12,13,14,15,16,17,18,19] (fun k:Nat=> [(5,.int .i64 k)]) (fun k=>k≤l.length∧ ∀ j (h:j < l.length),j < k→l[j] < v) (fun k=>l.length - k) 0 ⟨Nat.zero_le _,fun _ _ h=>by omega⟩ wA ?_;rintro k ⟨hk,hm⟩;have hgd: ∀ h:k < l.length,l.getD k pK.d=l[k]:=fun h=>by simp[List.getD,h]
 conv=>whnf
 repeat' (first|refine qQ ?_|((first|refine Da ?_|intro _);conv=>whnf)|(refine zX (fun hc=>?_) (fun hc=>?_)<;>(try simp only[SY] at hc)<;>(conv=>whnf)))
 ·have hlt:k < l.length:=by omega
  rw[hgd hlt] at hc;refine av (k + 1) ⟨by omega,fun j hj hjk=>?_⟩ (by show l.length - (k + 1) < l.length - k;omega) wA;by_cases e:j=k
  ·subst e;exact hc.2
  ·exact hm j hj (by omega)
 ·have hlt:k < l.length:=by omega
  rw[hgd hlt] at hc;obtain ⟨h1,h2⟩:=mB (p:=fun x=>decide (x < v)) hk (fun j hj hjk=>by simpa using hm j hj hjk) (fun h=>by simp;omega);refine ak.pure (Wk.sl ?_);congr 1;unfold iV;rw[h1,h2,aO hlt,hc.2];simp only[List.head?_cons,if_true];rw[←hc.2, ←aO hlt,List.take_append_drop]
 ·have h0:(l.length:Int)≤(k:Int)∨v≤l.getD k pK.d:=by assumption
  obtain ⟨h1,h2⟩:=mB (p:=fun x=>decide (x < v)) hk (fun j hj hjk=>by simpa using hm j hj hjk) (fun h=>by
   have:=hgd h;rw[this] at h0
   simp;omega)
  have e:iV l v=l.take k++ [v]++l.drop k:=by
   unfold iV;rw[h1,h2,if_neg,List.append_assoc]
   ·rfl
   ·intro h
    rcases Nat.lt_or_ge k l.length with hlt | hge
    ·rw[aO hlt] at h
     simp only[List.head?_cons,Option.some.injEq] at h;rw[hgd hlt] at hc;rcases hc with hc | hc
     ·omega
     ·exact hc h
    ·rw[List.drop_of_length_le hge] at h;cases h
  rw[e];exact ak.pure wA
theorem Mf:Wk .nil (gZ []):=Wk.dM rfl
theorem K5 (t:aa): ∀ (deep:Int) (out:List Int),0≤deep→deep≤1000→out.Pairwise (· < ·)→out.length + t.aR≤1000000000→ay Tryz.prog 44 [.agg t.cells,.int .i64 deep,gZ out] (gZ (t.bD deep out)):=by
 induction t using aa.ind with
 | h t ih=>
  intro deep out h0 h1 ho hb;have hbe:=t.bu;have he:=t.MB deep out;have ih': ∀ x∈t.t, ∀ (deep:Int) (out:List Int),0≤deep→deep≤1000→out.Pairwise (· < ·)→out.length + x.aR≤1000000000→ay Tryz.prog 44 [.agg x.cells,.int .i64 deep,gZ out] (gZ (x.bD deep out)):=ih;have hbs:=aa.bn t.t;refine af.ah ai Tryz.func44 rfl rfl (n:=44) rfl rfl ?_
  conv=>whnf
  repeat (((intro _);conv=>whnf))
  refine ax.keep [2,7,9,10,11,12,13,14,15,16,17,18,19,20,21,22] (fun x:Nat×List Int=> [(2,gZ x.2),(7,.int .i64 x.1)]) (fun x=>x.1≤t.v.length∧x.2.Pairwise (· < ·)∧x.2.length≤out.length + x.1∧(t.v.drop x.1).foldl iV x.2=t.v.foldl iV out) (fun x=>t.v.length - x.1) (0,out) ⟨Nat.zero_le _,ho,by simp,rfl⟩ wA ?_;rintro ⟨i,o⟩ ⟨hi,hp,hl,hm⟩;dsimp only at hi hp hl hm⊢
  conv=>whnf
  repeat' (first|refine qQ ?_|((first|refine pC (PB o _ (by omega)) wR ?_|intro _);conv=>whnf)|(refine zX (fun hc=>?_) (fun hc=>?_)<;>(try simp only[SY] at hc)<;>(conv=>whnf)))
  ·have hlt:i < t.v.length:=by omega
   rw[aO hlt,List.foldl_cons] at hm;have:=vW t.v[i] o;exact av (i + 1,iV o t.v[i]) ⟨by show i + 1≤_;omega,Ap _ hp,by show (iV o t.v[i]).length≤out.length + (i + 1);omega,hm⟩ (by show t.v.length - (i + 1) < t.v.length - i;omega) wA
  rw[List.drop_of_length_le (by omega),List.foldl_nil] at hm;subst hm;refine ax.keep [2,8,23,24,25,26,27,28,29,30,31,32,33,34,35,36,37,38,39,40,41,42] (fun x:Nat×List Int=> [(2,gZ x.2),(8,.int .i64 x.1)]) (fun x=>x.1≤t.t.length∧x.2.Pairwise (· < ·)∧(x.1=0∨deep < 1000)∧x.2.length + aa.aD (t.t.drop x.1)≤1000000000∧(if deep < 1000 then aa.Ht (t.t.drop x.1) (deep + 1) x.2 else x.2)=t.bD deep out) (fun x=>t.t.length - x.1) (0,t.v.foldl iV out) ⟨Nat.zero_le _,hp,.inl rfl,by simp only[List.drop_zero];omega,by rw[he];rfl⟩ wA ?_;rintro ⟨j,o⟩ ⟨hj,hp,hd,hl,hm⟩;dsimp only at hj hp hd hl hm⊢
  conv=>whnf
  repeat' (first|refine qQ ?_|((first|refine pC (ih' _ (List.getElem_mem _) _ o (by omega) (by omega) hp (by rw[aO (by omega),aa.aD] at hl;omega)) wR ?_|intro _);conv=>whnf)|(refine zX (fun hc=>?_) (fun hc=>?_)<;>(try simp only[SY] at hc)<;>(conv=>whnf)))
  ·have hlt:j < t.t.length:=by omega
   rw[if_pos (by omega),aO hlt,aa.Ht] at hm;rw[aO hlt,aa.aD] at hl;obtain ⟨b1,b2,_⟩:=(t.t[j]).pX (deep + 1) o hp;exact av (j + 1,t.t[j].bD (deep + 1) o) ⟨by show j + 1≤_;omega,b1,.inr (by omega),by dsimp only;omega,by dsimp only;rw[if_pos (by omega)];exact hm⟩ (by show t.t.length - (j + 1) < t.t.length - j;omega) wA
  ·rw[←hm]
   have e:(if deep < 1000 then aa.Ht (t.t.drop j) (deep + 1) o else o)=o:=by
    split
    ·rw[List.drop_of_length_le (by omega),aa.Ht]
    ·rfl
   rw[e];exact ak.pure (Wk.refl _)
end Go.Cb


