/-
 Contracts: recursive bindings: groups of procedures.
 Contracts: recursive bindings in order: letrec*.
 Plain: how many terms of a sort stand in one.
 Plain: recursive bindings made of plain ones: nothing is lost; where all are procedures nothing is asked.
 Plain: recursive bindings made of plain ones: counts of whole terms; where all are procedures nothing is asked.
 Plain: recursive bindings made of plain ones: how great a term comes to be.
 Plain: names of shifted terms.
 Plain: recursive bindings made of plain ones: what variables are called says nothing.
 Plain: what letrec knows of items is what the plain function knows of lists.
 Contracts: recursive bindings: links put together.
 Contracts: recursive bindings: letrec's links; a Rec.
 Contracts: recursive bindings: a Rec; terms.
 Plain: what a right program's names are; what no program is.
 Contracts: the document's words for the check of terms.
 Contracts: what is right names what it binds.
 Contracts: recursive bindings: terms, a program, converted.
 Contracts: the example of letrec, run: it ends at an early reference.
 Contracts: the document's example of letrec holds (the expander at its forms alone).
 Contracts: are there few terms? (chapter 09)
 Contracts: the document's graphs: to which things some lead.
 Contracts: the document's graphs: all things met; groups.
 Contracts: the document's bindings; all variables greater.
-/
import Derived.Test.YtamlcgkjinbnlaaGreatDoorE7
set_option linter.unusedSimpArgs false
set_option linter.unusedVariables false
namespace Go.Cb
open Go.Proofs
set_option maxRecDepth 100000
set_option maxHeartbeats 4000000
abbrev mg:Option (List Int×Option Tok)→PV
 | none=>.nil
 | some x=>.sl 1 (x.1.map (PV.int .i64)) x.2
instance:cn mg (fun x=> [mg x]):=⟨fun x=>by cases x<;>rfl⟩
instance (l:List Int) (tk:Option Tok):bV mg (.sl 1 (l.map (PV.int .i64)) tk) (some (l,tk)):=⟨Wk.refl _,gq.refl _⟩
theorem af.Pq {P:Program} {f:FuncId} {args args':List PV} {Γ Γ':List aj} {Q:PV→List aj→Prop} (hg:c8 args Γ args' Γ') (h:af P f args' Γ' Q):af P f args Γ Q:=
 ⟨h.1,fun w0 F M w vs hS hT=>by
  obtain ⟨F1,a1,a2,a3⟩:=hg w0 F M w vs hS hT;refine (h.2 w0 F1 M w vs a2 a3).mono ?_;rintro e w' ⟨v,F',y,Γ2,e1,e2,e3⟩
  exact ⟨v,F',y,Γ2,e1,Fz.le_trans a1 e2,e3⟩⟩
theorem K4 {σ:Type} {ds:List Nat} {R:σ→List (Nat×PV)} {G:σ→List aj} {I:σ→Prop} {μ:σ→Nat} {T0:List PV} {s:σ} {T:List PV} {Γ Γ' Γ1:List aj} {D:Ds} (s':σ) (hI:I s') (hμ:μ s' < μ s)
  (hg:au Γ Γ') (hw:bU 0 T T0 ds (R s')) [hp:bu Γ' (G s') Γ1]:jo ds R G I μ T0 s D T Γ D:=⟨rfl,s',hI,hμ,c8.of (bU.wk 0 T T0 ds (R s') hw) (au.trans hg (au.drop hp.p))⟩
def KK (an:List cN) (k:Nat):Bool:=match an[k]? with
 | some z=>z.pr && !z.lt
 | none=>false
def zc (an:List cN) (own:List Int) (a:Nat):List Int:=gb own.length fun b=>(an.getD (own.getD a 0).toNat ⟨0,iM,false,false, []⟩).ln.contains (own.getD b 0)
def Et (f:Nat→List Int) (n a:Nat):List (Option (List Int×Option Tok)):=(List.range n).map fun x=>if x < a then some (f x,none) else none
theorem tP (f:Nat→List Int) (n a:Nat):(Et f n a).length=n:=by unfold Et;simp
theorem tO {f:Nat→List Int} {n a j:Nat} (h:j < (Et f n a).length):(Et f n a)[j]=if j < a then some (f j,none) else none:=by simp[Et]
theorem KS {f:Nat→List Int} {n a:Nat}:(Et f n a).set a (some (f a,none))=Et f n (a + 1):=by
 refine List.ext_getElem (by simp[tP]) fun j h1 h2=>?_;rw[List.getElem_set,tO h2];by_cases e:a=j
 ·subst e;rw[if_pos rfl,if_pos (by omega)]
 ·rw[if_neg e,tO (by rw[tP] at h2 ⊢; exact h2)]
  by_cases h:j < a
  ·rw[if_pos h,if_pos (by omega)]
  ·rw[if_neg h,if_neg (by omega)]
theorem Il (f:Nat→List Int) (n:Nat):List.replicate n PV.nil=(Et f n 0).map mg:=by
 refine List.ext_getElem (by simp[tP]) fun j h1 h2=>?_;rw[List.getElem_replicate,List.getElem_map,tO,if_neg (by omega)]
theorem Ik (f:Nat→List Int) (n:Nat):(Et f n n).map mg=((List.range n).map f).map gQ:=by
 unfold Et;rw[List.map_map,List.map_map];refine List.map_congr_left fun x hx=>?_;simp only[Function.comp];rw[if_pos (List.mem_range.1 hx)]
theorem E9 {l:List (Option (List Int×Option Tok))} {x:Option (List Int×Option Tok)} (hx: ∀ (a:Nat) (h:a < l.length),Wk (mg l[a]) (mg l[a])) {a:Nat} (ha:a < l.length) (h:Wk (mg l[a]) (mg x)):o8 (l.map mg) ((l.set a x).map mg):=by
 induction l generalizing a with
 | nil=>exact absurd ha (by simp)
 | cons y l ih=>
  have hrest: ∀ l:List (Option (List Int×Option Tok)),o8 (l.map mg) (l.map mg):=by
   intro l
   induction l with
   | nil=>exact .nil
   | cons z l ih=>exact .cons (gq.refl _) ih
  have hc: ∀ z:Option (List Int×Option Tok),(mg z).cellsOf= [mg z]:=fun z=>by cases z<;>rfl
  cases a with
  | zero=>exact .cons (by rw[hc,hc];exact .cons h .nil) (hrest l)
  | succ a=>
   rw[List.set_cons_succ];exact .cons (gq.refl _) (ih (fun _ _=>Wk.refl _) (by simpa using ha) (by simpa using h))
theorem aq.Jb {P:Program} {f:FuncId} {args args':List PV} {y:PV} {Γ Γ1:List aj} {K:PV→List aj→Prop} (t:Tok) (es:List PV) [hp:iD Γ (.row t es) Γ1] (hw:o7 t es args args') (h:aA P f args' y) (k:K y (.tok t::Γ1)):aq P f args Γ K:=by
 have h1:=af.frame h (Γ:=.tok t::Γ1) (Γ2:=.tok t::Γ1) (List.Perm.refl _)
 have h2:af P f args' (.tok t::Γ1) K:=by
  refine ⟨h1.1,fun w0 F M w vs hS hT=>(h1.2 w0 F M w vs hS hT).mono ?_⟩;rintro e w' ⟨v,F',y',Γ',e1,e2,e3,e4,Γ1',rfl,rfl⟩;refine ⟨v,F',_,_,e1,e2,?_,e4,k⟩;refine e3.sub ?_;rw[List.append_assoc];exact List.sublist_append_right _ _
 exact ⟨.inl (af.Pq (c8.cr (hp:=hp) hw) h2)⟩
abbrev jR:cN:=⟨0,iM,false,false, []⟩
def Cp (an:List cN):List Int→Int→Int
 | [],m=>m
 | j::l,m=>Cp an l (if (an.getD j.toNat jR).pr=false∧(an.getD j.toNat jR).lt=false then max m (j + 1) else m)
theorem BA (an:List cN) (j:Int): ∀ (l:List Int) (m:Int),Cp an (l++ [j]) m=if (an.getD j.toNat jR).pr=false∧(an.getD j.toNat jR).lt=false then max (Cp an l m) (j + 1) else Cp an l m
 | [],m=>rfl
 | x::l,m=>by rw[List.cons_append,Cp,BA an j l,Cp]
def Kk (an:List cN) (gE:dm) (own:List Int):List Int→Int→Int
 | [],m=>m
 | a::l,m=>Kk an gE own l (Cp an (cE gE [own.getD a.toNat 0]) m)
theorem Bz (an:List cN) (gE:dm) (own:List Int) (a:Int): ∀ (l:List Int) (m:Int),Kk an gE own (l++ [a]) m=Cp an (cE gE [own.getD a.toNat 0]) (Kk an gE own l m)
 | [],m=>rfl
 | x::l,m=>by rw[List.cons_append,Kk,Bz an gE own a l,Kk]
def F6 (an:List cN) (gE:dm) (own:List Int) (grp:List Int):gP:=⟨Kk an gE own grp 0,grp.map fun a=>(an.getD (own.getD a.toNat 0).toNat jR).v,grp.map fun a=>(an.getD (own.getD a.toNat 0).toNat jR).e⟩
instance bV.Ri (lv:Int) (vs:List Int) (ts:List aa) (t1 t2:Option Tok):bV gP.pv (.agg [.int .i64 lv,.int .i64 9,.int .i64 0,.sl 1 (vs.map (PV.int .i64)) t1,.sl 4 (ts.map aa.pv) t2]) ⟨lv,vs,ts⟩:=
 ⟨Wk.agg (.cons (Wk.refl _) (.cons (Wk.refl _) (.cons (Wk.refl _) (.cons (Wk.tok _ _ _) (.cons (Wk.tok _ _ _) .nil))))),.cons (Wk.refl _) (.cons (Wk.refl _) (.cons (Wk.refl _) (.cons (Wk.tok _ _ _) (.cons (Wk.tok _ _ _) .nil))))⟩
theorem Bl (g:dm): ∀ (f:Nat) (done:List Bool) (n:Nat),(mz g f done n).length≤f
 | 0,_,_=>by rw[mz];exact Nat.le_refl _
 | f + 1,done,n=>by
  rw[mz]
  split
  ·split
   ·exact Nat.zero_le _
   ·have:=Bl g f
    rw[List.length_cons];exact Nat.succ_le_succ (this _ _)
  ·exact Nat.zero_le _
theorem rY (g:dm):(iu g).length≤g.length:=by
 unfold iu j8;rw[List.length_map];exact Bl g _ _ _
theorem Bk {g:dm} (hg:nU g) {l:List Int} (h:l∈iu g):l.length≤g.length∧ ∀ x∈l,0≤x∧x < (g.length:Int):=by
 unfold iu at h;obtain ⟨ks,hk,rfl⟩:=List.mem_map.1 h;have hp:=mO hg;have h1:ks.Sublist (j8 g).flatten:=List.sublist_flatten_of_mem hk;have h2:=h1.length_le;rw[hp.length_eq,List.length_range] at h2;refine ⟨by rw[List.length_map];exact h2,fun x hx=>?_⟩;obtain ⟨k,hkm,rfl⟩:=List.mem_map.1 hx;have:=List.mem_range.1 (hp.mem_iff.1 (h1.subset hkm));exact ⟨by omega,by omega⟩
def iQ (an:List cN):List gP:=(iu ((List.range (gb an.length (KK an)).length).map (zc an (gb an.length (KK an))))).map (F6 an (lf (fun x=>x.pr && !x.lt) an) (gb an.length (KK an)))
theorem FB {p q:Prop} (k:q) (h:q→p:=by intro hq;first | exact aD.sT (some 100) rfl [9,19] [22,23,24,25] ai mixed hq):p:=h k
theorem xy (an:List cN) (ti:Tok) (hts:ti.s=8) (hl:an.length≤500) (hln: ∀ x∈an,x.ln.length≤500) (hlr: ∀ x∈an, ∀ y∈x.ln,0≤y∧y < (an.length:Int)):
  af Tryz.prog 147 [.ms ti] [.row ti (an.map cN.pv)] (fun y Γ'=>y=.sl 5 ((iQ an).map gP.pv) none∧Γ'= [.row ti (an.map cN.pv)]):=by
 refine af.ah ai Tryz.func147 rfl rfl (n:=165) rfl rfl ?_
 conv=>whnf
 skip
 refine aq.go (yd an ti hts 193 (fun x=>x.pr && !x.lt) Ej (by omega)) (aX.refl _) ?_;rintro _ _ ⟨rfl,rfl⟩;generalize hgE:lf (fun x=>x.pr && !x.lt) an=gE
 conv=>whnf
 repeat' (first|(((refine eF.map fun _=>?_));conv=>whnf)|(refine zX (fun hc=>?_) (fun hc=>?_)<;>(try simp only[SY] at hc)<;>omega))
 refine ax.jy (au.nil 1 3 _) ?_;refine ax.over [4,5,6,29,30,31,32,33,34,35,36,37,38,39,40] (fun x:Nat×List Int×Tok=> [(4,.sl 1 (x.2.1.map (PV.int .i64)) (some x.2.2)),(29,.int .i64 x.1)]) (fun x=> [.tok x.2.2,.row ti (an.map cN.pv)]) (fun x=>x.1≤an.length∧x.2.2.e=3∧x.2.1=gb x.1 (KK an)) (fun x=>an.length - x.1) (0, [],aB 1 3) ⟨Nat.zero_le _,rfl,rfl⟩ (by repeat' (first|exact trivial|refine And.intro ?_ ?_|exact Wk.aB _ _|exact Wk.refl _)) ?_;rintro ⟨i,own,tk⟩ ⟨hi,hte,hown⟩;dsimp only at hi hte hown ⊢;have hol:own.length≤i:=by rw[hown];exact gd _ _
 rcases Nat.lt_or_ge i an.length with hlt | hge
 ·have hsn:=oO i (KK an)
  have her:KK an i=(an[i].pr && !an[i].lt):=by unfold KK;rw[List.getElem?_eq_getElem hlt]
  rw[←hown,her] at hsn;have hea:=Ej an[i]
  cases hc2:(an[i].pr && !an[i].lt) with
  | true=>
   rw[hc2] at hea;rw[if_pos hc2] at hsn
   conv=>whnf
   repeat' (first|((first|refine aM ?_|refine pC (hea) wR ?_|refine aF ?_|intro _|refine zG ?_);conv=>whnf)|(refine zX (fun hc=>?_) (fun hc=>?_)<;>(try simp only[SY] at hc)<;>first|omega|(conv=>whnf)))
   rename Tok=>t5
   exact av (i + 1,own++ [(i:Int)],t5) ⟨by show i + 1≤_;omega,by assumption,hsn.symm⟩ (by show an.length - (i + 1) < an.length - i;omega) wA
  | false=>
   rw[hc2] at hea;rw[if_neg (by rw[hc2];decide),List.append_nil] at hsn
   conv=>whnf
   repeat' (first|((first|refine aM ?_|refine pC (hea) wR ?_|refine aF ?_|intro _|refine zG ?_);conv=>whnf)|(refine zX (fun hc=>?_) (fun hc=>?_)<;>(try simp only[SY] at hc)<;>first|omega|(conv=>whnf)))
   exact av (i + 1,own,tk) ⟨by show i + 1≤_;omega,hte,hsn.symm⟩ (by show an.length - (i + 1) < an.length - i;omega) wA
 ·obtain rfl:i=an.length:=by omega
  have hor: ∀ c∈own,0≤c∧c < (an.length:Int):=fun c hc=>by
   rw[hown] at hc;have:=kW.1 hc;exact ⟨this.1,this.2.1⟩
  conv=>whnf
  repeat' (first|((first|refine kK.row (by omega) (by omega) (by omega) (by show _ * 24≤_;omega) rfl fun tr hre hrs=>?_|refine aM ?_|intro _);conv=>whnf)|(refine zX (fun hc=>?_) (fun hc=>?_)<;>(try simp only[SY] at hc)<;>first|omega|(conv=>whnf)))
  rw[Int.toNat_natCast,Il (zc an own)];refine ax.over [8,9,10,11,46,47,48,49,50,51,52,53,54,55,56,57,58,59,60,61,62,63,64,65,66,67,68,69,70,71,72,73,74,75,76] (fun a:Nat=> [(46,.int .i64 a)]) (fun a=> [.row tr ((Et (zc an own) own.length a).map mg),.tok tk,.row ti (an.map cN.pv)]) (fun a=>a≤own.length) (fun a=>own.length - a) 0 (Nat.zero_le _) wA ?_;intro a ha;have hil:=tP (zc an own) own.length a;rcases Nat.lt_or_ge a own.length with halt | hage
  ·have hset:=KS (f:=zc an own) (n:=own.length) (a:=a)
   have hia:(Et (zc an own) own.length a)[a]?=some none:=by rw[List.getElem?_eq_getElem (by omega),tO,if_neg (by omega)]
   have hoa:=hor _ (List.getElem_mem halt);generalize hW:Et (zc an own) own.length a=Ws at *;have haw:a < Ws.length:=by omega
   have hga:Ws[a]=none:=by rw[List.getElem?_eq_getElem haw] at hia;exact Option.some.inj hia
   have hia2:own[a].toNat < an.length:=by omega
   have hin:zc an own a=gb own.length (fun b=>an[own[a].toNat].ln.contains (own.getD b 0)):=by
    unfold zc;rw[List.getD_eq_getElem?_getD (l:=own) (i:=a),List.getElem?_eq_getElem halt,Option.getD_some,List.getD_eq_getElem?_getD (l:=an),List.getElem?_eq_getElem hia2,Option.getD_some]
   conv=>whnf
   repeat' (first|((first|refine aM ?_|intro _);conv=>whnf)|(refine zX (fun hc=>?_) (fun hc=>?_)<;>(try simp only[SY] at hc)<;>first|omega|(conv=>whnf)))
   refine ax.jy (au.trans (au.nil 1 3 _) (au.GG (t:=tr) (es':=(Ws.set a (some (([]:List Int),some (aB 1 3)))).map mg) (E9 (fun _ _=>Wk.refl _) haw (by rw[hga];exact Wk.aB 1 3)))) ?_;refine ax.over [10,11,53,54,55,56,57,58,59,60,61,62,63,64,65,66,67,68,69,70,71,72,73,74,75] (fun x:Nat×List Int×Tok=> [(53,.int .i64 x.1)]) (fun x=> [.row tr ((Ws.set a (some (x.2.1,some x.2.2))).map mg),.tok x.2.2,.tok tk,.row ti (an.map cN.pv)]) (fun x=>x.1≤own.length∧x.2.2.e=3∧x.2.1=gb x.1 (fun b=>an[own[a].toNat].ln.contains (own.getD b 0))) (fun x=>own.length - x.1) (0, [],aB 1 3) ⟨Nat.zero_le _,rfl,rfl⟩ wA ?_;rintro ⟨b,l,tkl⟩ ⟨hb1,hte2,hl2⟩;dsimp only at hb1 hte2 hl2 ⊢;have hll:l.length≤b:=by rw[hl2];exact gd _ _
   have hsl:(Ws.set a (some (l,some tkl))).length=own.length:=by rw[List.length_set];exact hil
   rcases Nat.lt_or_ge b own.length with hblt | hbge
   ·have hsn:=oO b (fun b=>an[own[a].toNat].ln.contains (own.getD b 0))
    rw[←hl2,List.getD_eq_getElem?_getD,List.getElem?_eq_getElem hblt,Option.getD_some] at hsn;have hin0:b=b:=rfl
    cases hc2:an[own[a].toNat].ln.contains own[b] with
    | true=>
     rw[if_pos hc2] at hsn;have hcc:=fE an[own[a].toNat].ln own[b];rw[hc2] at hcc
     conv=>whnf
     repeat' (first|((first|refine aM ?_|refine pC (hcc) wR ?_|refine aF ?_|intro _|refine zG ?_);conv=>whnf)|(refine zX (fun hc=>?_) (fun hc=>?_)<;>(try simp only[SY] at hc)<;>first|omega|(conv=>whnf)))
     rw[List.getElem_set_self]
     conv=>whnf
     repeat' (first|((first|refine aM ?_|refine aF ?_|intro _);conv=>whnf)|(refine zX (fun hc=>?_) (fun hc=>?_)<;>(try simp only[SY] at hc)<;>omega))
     rename Tok=>t5
     rw[List.set_set];exact av (b + 1,l++ [(b:Int)],t5) ⟨by show b + 1≤_;omega,by assumption,hsn.symm⟩ (by show own.length - (b + 1) < own.length - b;omega) wA
    | false=>
     rw[if_neg (by rw[hc2];decide),List.append_nil] at hsn;have hcc:=fE an[own[a].toNat].ln own[b];rw[hc2] at hcc
     conv=>whnf
     repeat' (first|((first|refine aM ?_|refine pC (hcc) wR ?_|refine aF ?_|refine zG ?_);conv=>whnf)|(refine zX (fun hc=>?_) (fun hc=>?_)<;>(try simp only[SY] at hc)<;>first|omega|(conv=>whnf)))
     exact av (b + 1,l,tkl) ⟨by show b + 1≤_;omega,hte2,hsn.symm⟩ (by show own.length - (b + 1) < own.length - b;omega) wA
   ·obtain rfl:b=own.length:=by omega
    rw[←hin] at hl2
    conv=>whnf
    repeat' (first|((refine aM ?_);conv=>whnf)|(refine zX (fun hc=>?_) (fun hc=>?_)<;>(try simp only[SY] at hc)<;>first|omega|(conv=>whnf)))
    exact K4 (a + 1) (by show a + 1≤_;omega) (by show own.length - (a + 1) < own.length - a;omega) (au.GG (t:=tr) (es':=(Et (zc an own) own.length (a + 1)).map mg) (by rw[←hset, ←hl2];have:=E9 (l:=Ws.set a (some (l,some tkl))) (x:=some (l,none)) (fun _ _=>Wk.refl _) (a:=a) (by omega) (by rw[List.getElem_set_self];exact Wk.tok _ _ _);rwa [List.set_set] at this)) wA
  ·obtain rfl:a=own.length:=by omega
   rw[Ik];have hgl:((List.range own.length).map (zc an own)).length=own.length:=by simp
   have hgo:nU ((List.range own.length).map (zc an own)):=fun l hl x hx=>by
    obtain ⟨a,ha,rfl⟩:=List.mem_map.1 hl;have:=kW.1 hx;rw[hgl];exact ⟨this.1,this.2.1⟩
   have hgs:gr ((List.range own.length).map (zc an own))≤500 * 500:=by
    have:=ud ((List.range own.length).map (zc an own)) own.length fun l hl=>by
     obtain ⟨a,ha,rfl⟩:=List.mem_map.1 hl;exact gd _ _
    rw[hgl] at this;exact Nat.le_trans this (Nat.mul_le_mul (by omega) (by omega))
   have hgm:=fun l h=>Bk hgo (l:=l) h;have hgn:=rY ((List.range own.length).map (zc an own));rw[hgl] at hgm hgn
   conv=>whnf
   repeat' ((refine zX (fun hc=>?_) (fun hc=>?_)<;>(try simp only[SY] at hc)<;>first|omega|(conv=>whnf)))
   refine aq.Jb tr (((List.range own.length).map (zc an own)).map gQ) (.cons (qx.ms' hrs) .nil) (C7 _ hgo (by omega) (by omega)) ?_;generalize hGR:iu ((List.range own.length).map (zc an own))=GR at *
   conv=>whnf
   repeat' (first|((first|refine aM ?_|intro _);conv=>whnf)|(refine zX (fun hc=>?_) (fun hc=>?_)<;>(try simp only[SY] at hc)<;>omega))
   have hgEo:nU gE:=fun l hl x hx=>by
    rw[←hgE] at hl ⊢;obtain ⟨z,hz,rfl⟩:=List.mem_map.1 hl;have:(lf (fun x=>x.pr && !x.lt) an).length=an.length:=by simp[lf]
    rw[this]
    split at hx
    ·exact hlr z hz x hx
    ·cases hx
   have hgEl:gE.length=an.length:=by rw[←hgE];simp[lf]
   have hgEs:gr gE≤500 * 500:=by
    have:=ud gE 500 fun l hl=>by
     rw[←hgE] at hl;obtain ⟨z,hz,rfl⟩:=List.mem_map.1 hl
     split
     ·exact hln z hz
     ·exact Nat.zero_le _
    exact Nat.le_trans this (Nat.mul_le_mul (by omega) (Nat.le_refl _))
   refine ax.jy (au.nil 5 252 _) ?_;refine ax.over [14,16,17,19,20,21,22,24,84,85,86,87,88,89,90,91,92,93,94,95,96,97,98,99,100,101,102,103,104,105,106,107,108,109,110,111,112,113,114,115,116,117,118,119,120,121,122,123,124,125,126,127,128,129,130,131,132,133,134,135,136,137,138,139,140,141,142,143,144,145,146,147,148,149,150,151,152,153,154,155,156,157,158,159,160,161,162,163] (fun x:Nat×List gP×Tok=> [(14,.sl 5 (x.2.1.map gP.pv) (some x.2.2)),(84,.int .i64 x.1)]) (fun x=> [.tok x.2.2,.row ti (an.map cN.pv)]) (fun x=>x.1≤GR.length∧x.2.2.e=252∧x.2.1=(GR.take x.1).map (F6 an gE own)) (fun x=>GR.length - x.1) (0, [],aB 5 252) ⟨Nat.zero_le _,rfl,rfl⟩ (by repeat' (first|exact trivial|refine And.intro ?_ ?_|exact Wk.aB _ _|exact Wk.refl _)) ?_;rintro ⟨i,fs,tf⟩ ⟨hi,htf,hfs⟩;dsimp only at hi htf hfs ⊢;have hfl:fs.length=i:=by rw[hfs,List.length_map,List.length_take];omega
   rcases Nat.lt_or_ge i GR.length with hig | hig
   ·obtain ⟨hgl1,hgr⟩:=hgm _ (List.getElem_mem hig)
    have hfsn:fs++ [F6 an gE own GR[i]]=(GR.take (i + 1)).map (F6 an gE own):=by rw[List.take_succ_eq_append_getElem hig,List.map_append,hfs];rfl
    conv=>whnf
    repeat' (first|((first|refine aM ?_|refine aF ?_|intro _);conv=>whnf)|(refine zX (fun hc=>?_) (fun hc=>?_)<;>(try simp only[SY] at hc)<;>first|omega|(conv=>whnf)))
    rename Nat=>b17
    generalize hgrp:GR[i]=grp at *;refine ax.jy (au.trans (au.nil 1 3 _) (au.trans (au.nil 4 26 _) (au.box (b:=b17) (cs:= [.int .i64 0,.int .i64 9,.int .i64 0,.nil,.nil]) (cs':= [.int .i64 0,.int .i64 9,.int .i64 0,.sl 1 (([]:List Int).map (PV.int .i64)) (some (aB 1 3)),.sl 4 (([]:List aa).map aa.pv) (some (aB 4 26))]) wA))) ?_
    refine ax.over [19,20,21,22,24,92,93,94,95,96,97,98,99,100,101,102,103,104,105,106,107,108,109,110,111,112,113,114,115,116,117,118,119,120,121,122,123,124,125,126,127,128,129,130,131,132,133,134,135,136,137,138,139,140,141,142,143,144,145,146,147,148,149,150,151,152,153,154,155,156,157,158] (fun x:Nat×Int×(List Int×Tok)×(List aa×Tok)=> [(92,.int .i64 x.1)]) (fun x=> [.box b17 [.int .i64 x.2.1,.int .i64 9,.int .i64 0,.sl 1 (x.2.2.1.1.map (PV.int .i64)) (some x.2.2.1.2),.sl 4 (x.2.2.2.1.map aa.pv) (some x.2.2.2.2)],.tok x.2.2.1.2,.tok x.2.2.2.2,.tok tf,.row ti (an.map cN.pv)])
     (fun x=>x.1≤grp.length∧x.2.2.1.2.e=3∧x.2.2.2.2.e=26∧x.2.1=Kk an gE own (grp.take x.1) 0∧x.2.2.1.1=(grp.take x.1).map (fun a=>(an.getD (own.getD a.toNat 0).toNat jR).v)∧x.2.2.2.1=(grp.take x.1).map (fun a=>(an.getD (own.getD a.toNat 0).toNat jR).e)) (fun x=>grp.length - x.1) (0,0,([],aB 1 3),([],aB 4 26)) ⟨Nat.zero_le _,rfl,rfl,rfl,rfl,rfl⟩ wA ?_
    rintro ⟨j,lv,⟨vs,tv⟩,⟨ts,tm⟩⟩ ⟨hj,htv,htm,hlv,hvs,hts2⟩;dsimp only at hj htv htm hlv hvs hts2 ⊢;have hvl:vs.length=j:=by rw[hvs,List.length_map,List.length_take];omega
    have htl:ts.length=j:=by rw[hts2,List.length_map,List.length_take];omega
    rcases Nat.lt_or_ge j grp.length with hjl | hjl
    ·have hga:=hgr _ (List.getElem_mem hjl)
     have hac:grp[j].toNat < own.length:=by omega
     have hka:=hor _ (List.getElem_mem hac);have hod:own.getD grp[j].toNat 0=own[grp[j].toNat]:=by rw[List.getD_eq_getElem?_getD,List.getElem?_eq_getElem hac];rfl
     have hkc:own[grp[j].toNat].toNat < an.length:=by omega
     have hid:an.getD own[grp[j].toNat].toNat jR=an[own[grp[j].toNat].toNat]:=by rw[List.getD_eq_getElem?_getD,List.getElem?_eq_getElem hkc];rfl
     have hvsn:vs++ [an[own[grp[j].toNat].toNat].v]=(grp.take (j + 1)).map (fun a=>(an.getD (own.getD a.toNat 0).toNat jR).v):=by rw[List.take_succ_eq_append_getElem hjl,List.map_append, ←hvs,List.map_cons,List.map_nil,hod,hid]
     have htsn:ts++ [an[own[grp[j].toNat].toNat].e]=(grp.take (j + 1)).map (fun a=>(an.getD (own.getD a.toNat 0).toNat jR).e):=by rw[List.take_succ_eq_append_getElem hjl,List.map_append, ←hts2,List.map_cons,List.map_nil,hod,hid]
     have hlsn:Kk an gE own (grp.take (j + 1)) 0=Cp an (cE gE [own[grp[j].toNat]]) lv:=by rw[List.take_succ_eq_append_getElem hjl,Bz, ←hlv,hod]
     have hRin:Ff gE [own[grp[j].toNat]]:=fun x hx=>by rw[List.mem_singleton.1 hx,hgEl];exact hka
     have hRr: ∀ c∈cE gE [own[grp[j].toNat]],0≤c∧c < (an.length:Int):=fun c hc=>by
      have:=((ig hgEo hRin c).1 hc).KT hgEo hRin;rwa [hgEl] at this
     have hRl:=oR gE [own[grp[j].toNat]]
     conv=>whnf
     repeat' (first|((first|((apply zZ);first|exact tB|((conv=>whnf);(repeat ((refine aH ?_);conv=>whnf));exact pZ))|refine aM ?_|refine pC (wQ gE [own[grp[j].toNat]] hgEo hRin (by omega) (by simp;omega)) (by ((repeat' (first|exact aX.nil|apply aX.cons|exact Wk.refl _|exact Wk.int OA|exact Wk.tt rfl|exact Wk.ff rfl|exact Wk.ec rfl|exact Wk.tok _ _ _));first|done|fail)) ?_|refine aF ?_|refine FB ?_|intro _);conv=>whnf)|(refine zX (fun hc=>?_) (fun hc=>?_)<;>(try simp only[SY] at hc)<;>first|omega|(conv=>whnf)))
     rename_i tv2 htv2 tm2 htm2 _ _ _;generalize cE gE [own[grp[j].toNat]]=R at *;generalize hvs3:vs++ [an[own[grp[j].toNat].toNat].v]=vs3 at *;generalize hts3:ts++ [an[own[grp[j].toNat].toNat].e]=ts3 at *;refine ax.over [24,133,134,135,136,137,138,139,140,141,142,143,144,145,146,147,148,149,150,151,152,153,154,155,156,157] (fun m:Nat=> [(133,.int .i64 m)]) (fun m=> [.tok tv2,.tok tm2,.tok tf,.box b17 [.int .i64 (Cp an (R.take m) lv),.int .i64 9,.int .i64 0,.sl 1 (vs3.map (PV.int .i64)) (some tv2),.sl 4 (ts3.map aa.pv) (some tm2)],.row ti (an.map cN.pv)]) (fun m=>m≤R.length) (fun m=>R.length - m) 0 (Nat.zero_le _) wA (hp:=⟨(List.perm_append_singleton _ _).symm⟩) (Γ1:= [_]) ?_;intro m hm;rcases Nat.lt_or_ge m R.length with hml | hml
     ·have hcr:=hRr _ (List.getElem_mem hml)
      have hcl:R[m].toNat < an.length:=by omega
      have hid2:an.getD R[m].toNat jR=an[R[m].toNat]:=by rw[List.getD_eq_getElem?_getD,List.getElem?_eq_getElem hcl];rfl
      have hls:=BA an R[m] (R.take m) lv;rw[←List.take_succ_eq_append_getElem hml,hid2] at hls;by_cases hcd:an[R[m].toNat].pr=false∧an[R[m].toNat].lt=false
      ·rw[if_pos hcd] at hls
       conv=>whnf
       repeat' (first|((first|(((apply zY;intro hg));first|exact tB|((conv=>whnf);(repeat ((refine aH ?_);conv=>whnf));exact pZ))|refine aM ?_|refine aF ?_|refine zG ?_);conv=>whnf)|(refine zX (fun hc=>?_) (fun hc=>?_)<;>(try simp only[SY] at hc)<;>first|omega|(conv=>whnf)))
       ·have hmx:Cp an (R.take (m + 1)) lv=if Cp an (R.take m) lv < R[m] + 1 then R[m] + 1 else Cp an (R.take m) lv:=by
         rw[hls]
         split<;>omega
        rw[←hmx];exact av (m + 1) (by show m + 1≤_;omega) (by show R.length - (m + 1) < R.length - m;omega) wA
       ·rcases (by assumption:an[R[m].toNat].pr=true∨an[R[m].toNat].lt=true) with h | h
        ·rw[hcd.1] at h;cases h
        ·rw[hcd.2] at h;cases h
      ·rw[if_neg hcd] at hls
       conv=>whnf
       repeat' (first|((first|(((apply zY;intro hg));first|exact tB|((conv=>whnf);(repeat ((refine aH ?_);conv=>whnf));exact pZ))|refine aM ?_|refine aF ?_|refine zG ?_);conv=>whnf)|(refine zX (fun hc=>?_) (fun hc=>?_)<;>(try simp only[SY] at hc)<;>first|omega|(conv=>whnf)))
       ·exact absurd (by assumption) hcd
       ·rw[←hls]
        exact av (m + 1) (by show m + 1≤_;omega) (by show R.length - (m + 1) < R.length - m;omega) wA
     ·obtain rfl:m=R.length:=by omega
      rw[List.take_length]
      conv=>whnf
      repeat' (first|((refine aM ?_);conv=>whnf)|(refine zX (fun hc=>?_) (fun hc=>?_)<;>(try simp only[SY] at hc)<;>first|omega|(conv=>whnf)))
      exact av (j + 1,Cp an R lv,(vs3,tv2),(ts3,tm2)) ⟨by show j + 1≤_;omega,htv2,htm2,hlsn.symm,hvsn,htsn⟩ (by show grp.length - (j + 1) < grp.length - j;omega) wA
    ·obtain rfl:j=grp.length:=by omega
     rw[List.take_length] at hlv hvs hts2;have hfx:F6 an gE own grp=⟨lv,vs,ts⟩:=by rw[hlv,hvs,hts2];rfl
     rw[hfx] at hfsn
     conv=>whnf
     repeat' (first|((first|refine aM ?_|refine aF ?_|intro _);conv=>whnf)|(refine zX (fun hc=>?_) (fun hc=>?_)<;>(try simp only[SY] at hc)<;>first|omega|(conv=>whnf)))
     rename Tok=>t5
     exact av (i + 1,fs++ [⟨lv,vs,ts⟩],t5) ⟨by show i + 1≤_;omega,by assumption,hfsn⟩ (by show GR.length - (i + 1) < GR.length - i;omega) wA
   ·obtain rfl:i=GR.length:=by omega
    conv=>whnf
    repeat' ((refine zX (fun hc=>?_) (fun hc=>?_)<;>(try simp only[SY] at hc)<;>first|omega|(conv=>whnf)))
    exact ak.gen (y:=.sl 5 (fs.map gP.pv) none) (Γ':= [.row ti (an.map cN.pv)]) (Wk.tok _ _ _) ⟨by rw[hfs,List.take_length];unfold iQ;rw[←hown,hgE,hGR],rfl⟩
def vW (an:List cN) (fs:List gP) (k:Nat):List aa:=if (an.getD k jR).lt=true then [nc (an.getD k jR).v (an.getD k jR).e] else if (an.getD k jR).pr=true then [] else mA (an.getD k jR).v (an.getD k jR).e::cj fs ((k:Int) + 1)
theorem oG (fs:List gP) (lv:Int):(cj fs lv).length≤fs.length:=by
 unfold cj;rw[List.length_map];exact List.length_filter_le _ _
theorem JQ (bc:Nat) (tk:Tok) (l0:List aa) (an:List cN) (ti:Tok) (h1:tk.e=26) (h2:tk.s=4) (hl0:l0.length≤10000) (hts:ti.s=8) (hl:an.length≤500) (hln: ∀ x∈an,x.ln.length≤500) (hlr: ∀ x∈an, ∀ y∈x.ln,0≤y∧y < (an.length:Int)) (hfl:(iQ an).length≤500):
  af Tryz.prog 92 [.ptr bc 0,.ms ti] (.row ti (an.map cN.pv)::G6 bc tk l0) (fun y Γ'=> ∃ tk':Tok,tk'.e=26∧tk'.s=4∧y=.bp []∧Γ'=.row ti (an.map cN.pv)::G6 bc tk' (l0++(cj (iQ an) 0++(List.range an.length).flatMap (vW an (iQ an))))):=by
 refine af.ah ai Tryz.func92 rfl rfl (n:=44) rfl rfl ?_
 conv=>whnf
 skip
 refine aq.go (xy an ti hts hl hln hlr) (aX.refl _) ?_;rintro _ _ ⟨rfl,rfl⟩;generalize iQ an=fs at *
 conv=>whnf
 skip
 refine aq.go (yX bc tk l0 fs 0 h1 h2 (by omega)) (aX.refl _) ?_;rintro _ _ ⟨tk1,k1,k2,rfl,rfl⟩
 conv=>whnf
 repeat' (first|(((refine eF.map fun _=>?_));conv=>whnf)|(refine zX (fun hc=>?_) (fun hc=>?_)<;>(try simp only[SY] at hc)<;>omega))
 have hf0:=oG fs 0;refine ax.over [5,6,14,15,16,17,18,19,20,21,22,23,24,25,26,27,28,29,30,31,32,33,34,35,36,37,38,39,40,41,42,43] (fun x:Nat×Tok×List aa=> [(14,.int .i64 x.1)]) (fun x=> [.row ti (an.map cN.pv),.box bc [.ms x.2.1],.row x.2.1 (x.2.2.map aa.pv)]) (fun x=>x.1≤an.length∧x.2.1.e=26∧x.2.1.s=4∧x.2.2=l0++(cj fs 0++(List.range x.1).flatMap (vW an fs))∧x.2.2.length≤20000 + x.1 * 501) (fun x=>an.length - x.1) (0,tk1,l0++cj fs 0) ⟨Nat.zero_le _,k1,k2,by simp,by dsimp only;rw[List.length_append];omega⟩ wA ?_;rintro ⟨i,tk,l⟩ ⟨hi,h1,h2,hls,hll⟩;dsimp only at hi h1 h2 hls hll ⊢;rcases Nat.lt_or_ge i an.length with hlt | hge
 ·have hst:l++vW an fs i=l0++(cj fs 0++(List.range (i + 1)).flatMap (vW an fs)):=by rw[hls,List.range_succ,List.flatMap_append,List.append_assoc,List.append_assoc];simp
  have hid:an.getD i jR=an[i]:=by rw[List.getD_eq_getElem?_getD,List.getElem?_eq_getElem hlt];rfl
  rw[vW,hid] at hst;have hfi:=oG fs ((i:Int) + 1)
  conv=>whnf
  repeat' (first|((first|refine aM ?_|refine aF ?_|intro _|refine zG ?_);conv=>whnf)|(refine zX (fun hc=>?_) (fun hc=>?_)<;>(try simp only[SY] at hc)<;>first|omega|(conv=>whnf)))
  ·rw[if_pos (by assumption)] at hst
   refine aq.go (E3 bc tk l an[i].v an[i].e h1 h2 (by omega)) (aX.refl _) ?_;rintro _ _ ⟨tk2,e1,e2,rfl,rfl⟩
   conv=>whnf
   repeat' (first|((refine aM ?_);conv=>whnf)|(refine zX (fun hc=>?_) (fun hc=>?_)<;>(try simp only[SY] at hc)<;>omega))
   exact av (i + 1,tk2,l++ [nc an[i].v an[i].e]) ⟨by show i + 1≤_;omega,e1,e2,hst,by show (l++ [_]).length≤20000 + (i + 1) * 501;rw[List.length_append,List.length_singleton];omega⟩ (by show an.length - (i + 1) < an.length - i;omega) wA
  ·rw[if_neg (by simp_all),if_neg (by simp_all)] at hst
   refine aq.go (zn bc tk l an[i].v an[i].e h1 h2 (by omega)) (aX.refl _) ?_;rintro _ _ ⟨tk2,e1,e2,rfl,rfl⟩
   conv=>whnf
   repeat' (first|((refine aM ?_);conv=>whnf)|(refine zX (fun hc=>?_) (fun hc=>?_)<;>(try simp only[SY] at hc)<;>omega))
   refine aq.go (yX bc tk2 (l++ [mA an[i].v an[i].e]) fs ((i:Int) + 1) e1 e2 (by rw[List.length_append,List.length_singleton];omega)) (aX.refl _) ?_;rintro _ _ ⟨tk3,e3,e4,rfl,rfl⟩
   conv=>whnf
   repeat' (first|((refine aM ?_);conv=>whnf)|(refine zX (fun hc=>?_) (fun hc=>?_)<;>(try simp only[SY] at hc)<;>omega))
   exact av (i + 1,tk3,l++ [mA an[i].v an[i].e]++cj fs ((i:Int) + 1)) ⟨by show i + 1≤_;omega,e3,e4,by show l++ [_]++_=_;rw[←hst,List.append_assoc];rfl,by show (l++ [_]++_).length≤20000 + (i + 1) * 501;rw[List.length_append,List.length_append,List.length_singleton];omega⟩ (by show an.length - (i + 1) < an.length - i;omega) wA
  ·rw[if_neg (by simp_all),if_pos (by simp_all),List.append_nil] at hst
   exact av (i + 1,tk,l) ⟨by show i + 1≤_;omega,h1,h2,hst,by show l.length≤20000 + (i + 1) * 501;omega⟩ (by show an.length - (i + 1) < an.length - i;omega) wA
 ·obtain rfl:i=an.length:=by omega
  rw[←hls]
  conv=>whnf
  repeat' ((refine zX (fun hc=>?_) (fun hc=>?_)<;>(try simp only[SY] at hc)<;>first|omega|(conv=>whnf)))
  exact ak.gen (y:=.bp []) (Γ':=.row ti (an.map cN.pv)::G6 bc tk l) (Wk.refl _) ⟨tk,h1,h2,rfl,rfl⟩
mutual
def aa.ct (o:Int):aa→Nat
 | .mk op _ _ t=>(if op=o then 1 else 0) + aa.fo o t
def aa.fo (o:Int):List aa→Nat
 | []=>0
 | x::xs=>aa.ct o x + aa.fo o xs
end
theorem aa.Ec (o:Int) (t:aa):t.ct o=(if t.op=o then 1 else 0) + aa.fo o t.t:=by cases t;rw[aa.ct];rfl
theorem aa.oh (o op n:Int) (v:List Int) (l:List aa):(aa.mk op n v l).ct o=(if op=o then 1 else 0) + aa.fo o l:=by rw[aa.ct]
theorem aa.uH (o:Int): ∀ l m:List aa,aa.fo o (l++m)=aa.fo o l + aa.fo o m
 | [],m=>by simp[aa.fo]
 | x::l,m=>by rw[List.cons_append,aa.fo,aa.fo,aa.uH o l m];omega
theorem j5 (o:Int): ∀ l:List aa,aa.fo o l=(l.map (aa.ct o)).sum
 | []=>by rw[aa.fo];rfl
 | x::l=>by rw[aa.fo,j5 o l];rfl
theorem sum_append (a b:List Nat):(a++b).sum=a.sum + b.sum:=List.sum_append
theorem zu {l:List Nat} {f:Nat→Int} (hf: ∀ a b,f a=f b→a=b) (h:l.Nodup):(l.map f).Nodup:=List.pairwise_map.2 (h.imp fun hab e=>hab (hf _ _ e))
theorem jO (c:gP→Nat): ∀ (L:List Int) (fs:List gP),L.Nodup→(∀ f∈fs,f.lv∈L)→(L.map fun lv=>((fs.filter fun f=>f.lv == lv).map c).sum).sum=(fs.map c).sum
 | [],fs,_,h=>by
  cases fs with
  | nil=>rfl
  | cons f fs=>exact absurd (h f (List.mem_cons_self ..)) (by simp)
 | lv::L,fs,hn,h=>by
  rw[List.nodup_cons] at hn;rw[List.map_cons,List.sum_cons]
  have h1:=jO c L (fs.filter fun f=>!(f.lv == lv)) hn.2 fun f hf=>by
   obtain ⟨q1,q2⟩:=List.mem_filter.1 hf;rcases List.mem_cons.1 (h f q1) with e | e
   ·rw[e] at q2;simp at q2
   ·exact e
  have h2:(L.map fun lv'=>(((fs.filter fun f=>!(f.lv == lv)).filter fun f=>f.lv == lv').map c).sum)=L.map fun lv'=>((fs.filter fun f=>f.lv == lv').map c).sum:=by
   refine List.map_congr_left fun lv' hl=>?_;rw[List.filter_filter];congr 2;refine List.filter_congr fun f _=>?_;by_cases e:f.lv=lv'
   ·have: ¬f.lv=lv:=fun e2=>hn.1 (by rw[←e2,e];exact hl)
    simp[e,show ¬lv'=lv from fun h=>this (e.trans h)]
   ·simp[e]
  rw[h2] at h1;rw[h1, ←sum_append, ←List.map_append];exact ((List.filter_append_perm (fun f:gP=>f.lv == lv) fs).map c).sum_nat
theorem EF (pr lt:List Bool) (n:Nat): ∀ (l:List Int) (m:Int),(∀ j∈l,0≤j∧j < n)→BC pr lt l m=m∨ ∃ k,k < n∧pr.getD k false=false∧lt.getD k false=false∧BC pr lt l m=(k:Int) + 1
 | [],m,_=>.inl rfl
 | j::l,m,h=>by
  rw[BC];have hj:=h j (List.mem_cons_self ..);have ih:=EF pr lt n l (if pr.getD j.toNat false=false∧lt.getD j.toNat false=false then max m (j + 1) else m) fun i hi=>h i (List.mem_cons_of_mem _ hi);rcases ih with e | e
  ·rw[e]
   split
   ·rename_i hc
    by_cases hm:m≤j + 1
    ·right
     exact ⟨j.toNat,by omega,hc.1,hc.2,by rw[Int.max_eq_right hm];omega⟩
    ·left
     rw[Int.max_eq_left (by omega)]
   ·exact .inl rfl
  ·exact .inr e
theorem EE {g:dm} (hg:nU g) (pr lt:List Bool): ∀ (l:List Nat) (m:Int),(∀ k∈l,k < g.length)→BB g pr lt l m=m∨ ∃ k,k < g.length∧pr.getD k false=false∧lt.getD k false=false∧BB g pr lt l m=(k:Int) + 1
 | [],m,_=>.inl rfl
 | k::l,m,h=>by
  rw[BB];have hk:=h k (List.mem_cons_self ..);have hr: ∀ j∈cE g [(k:Int)],0≤j∧j < g.length:=fun j hj=>((ig hg (fun x hx=>by rw[List.mem_singleton.1 hx];omega) j).1 hj).KT hg fun x hx=>by rw[List.mem_singleton.1 hx];omega
  rcases EE hg pr lt l (BC pr lt (cE g [(k:Int)]) m) fun i hi=>h i (List.mem_cons_of_mem _ hi) with e | e
  ·rw[e]
   exact EF pr lt g.length _ m hr
  ·exact .inr e
theorem LW {some:List Bool} {ln:List (List Int)} (h:nU ln):nU (rF some ln):=by
 intro l hl x hx;have hlen:(rF some ln).length=ln.length:=by unfold rF;simp
 rw[hlen];unfold rF at hl;obtain ⟨k,_,rfl⟩:=List.mem_map.1 hl
 split at hx
 ·exact h.at_ k x hx
 ·cases hx
theorem zf {own:List Nat} {ln:List (List Int)}:nU (n5 own ln):=by
 intro l hl x hx;unfold n5 at hl;obtain ⟨k,_,rfl⟩:=List.mem_map.1 hl;have:=kW.1 hx;unfold n5;rw[List.length_map];omega
theorem qR (V:List Int) (T:List aa):nU (bG V T):=by
 intro l hl x hx;unfold bG at hl;obtain ⟨k,_,rfl⟩:=List.mem_map.1 hl;unfold r5 at hx;have:=kW.1 hx;unfold bG;rw[List.length_map,List.length_range];omega
section
variable {o:Int} (ho: ¬o=1∧ ¬o=2∧ ¬o=6∧ ¬o=8∧ ¬o=9)
include ho
omit ho in
theorem zo (v:Int) (e:aa):aa.fo o (mA v e).t=e.ct o:=by
 show aa.fo o [e]=_;rw[aa.fo,aa.fo];omega
omit ho in
theorem Gg (V:List Int) (E:List aa) (pr lt:List Bool) (f:List gP) (nx:Int) (n:Nat) (lv:List Int) (N:Int): ∀ x∈jT lv++(if N=1 then jM V E pr lt f n else fU V E pr lt f nx n),x.op=6∨x.op=8∨x.op=9:=by
 have hf: ∀ (l:List gP) lv, ∀ x∈cj l lv,x.op=6∨x.op=8∨x.op=9:=fun l lv x hx=>by
  obtain ⟨g,_,rfl⟩:=List.mem_map.1 hx;exact .inr (.inr rfl)
 have hl: ∀ v e,(mA v e).op=6∨(mA v e).op=8∨(mA v e).op=9:=fun _ _=>.inr (.inl rfl);have hs: ∀ v e,(nc v e).op=6∨(nc v e).op=8∨(nc v e).op=9:=fun _ _=>.inl rfl;intro x hx;rcases List.mem_append.1 hx with hx | hx
 ·unfold jT at hx
  split at hx
  ·cases hx
  ·rw[List.mem_singleton.1 hx];exact .inr (.inl rfl)
 split at hx
 ·unfold jM at hx
  rcases List.mem_append.1 hx with hx | hx
  ·exact hf _ _ x hx
  ·obtain ⟨k,_,hx⟩:=List.mem_flatMap.1 hx
   split at hx
   ·rw[List.mem_singleton.1 hx];exact hs _ _
   split at hx
   ·cases hx
   ·rcases List.mem_cons.1 hx with rfl | hx
    ·exact hl _ _
    ·exact hf _ _ x hx
 ·unfold fU at hx
  rcases List.mem_append.1 hx with hx | hx
  ·rcases List.mem_append.1 hx with hx | hx
   ·obtain ⟨k,_,hx⟩:=List.mem_flatMap.1 hx
    split at hx
    ·cases hx
    ·rw[List.mem_singleton.1 hx];exact hl _ _
   ·obtain ⟨k,_,hx⟩:=List.mem_flatMap.1 hx
    exact hf _ _ x hx
  ·obtain ⟨k,_,hx⟩:=List.mem_flatMap.1 hx
   split at hx
   ·rw[List.mem_singleton.1 hx];exact hs _ _
   ·cases hx
omit ho in
theorem L6 (l:List Int) (hk:l= []∨(¬o=12∧ ¬o=13∧ ¬o=14)) (h8: ¬o=8):((jT l).map fun x=>aa.fo o x.t).sum=0:=by
 unfold jT
 split
 ·rfl
 ·rename_i hne
  have hk:=hk.resolve_left fun h=>hne (by rw[h];rfl);clear hne;rw[List.map_cons,List.map_nil,List.sum_cons,List.sum_nil];show aa.fo o (l.map fun _=>aa.mk 13 0 [] []) + 0=0
  induction l with
  | nil=>rw[List.map_nil,aa.fo]
  | cons x l ih=>
   rw[List.map_cons,aa.fo,aa.oh,aa.fo,if_neg (by omega)];by_cases hl:l.length=0
   ·rw[List.eq_nil_of_length_eq_zero hl,List.map_nil,aa.fo]
   ·omega
end
theorem Cf {α:Type} (c:α→Nat) (l:List (List α)):(l.map fun x=>(x.map c).sum).sum=(l.flatten.map c).sum:=by
 induction l with
 | nil=>rfl
 | cons x l ih=>rw[List.map_cons,List.sum_cons,ih,List.flatten_cons,List.map_append,sum_append]
theorem dV {α β:Type} (c:β→Nat) (l:List α) (f:α→List β):((l.flatMap f).map c).sum=(l.map fun x=>((f x).map c).sum).sum:=by
 rw[List.flatMap_def, ←Cf,List.map_map];rfl
theorem IM (own:List Nat) (c:Nat→Nat):(List.range own.length).map (fun a=>c (own.getD a 0))=own.map c:=by
 refine List.ext_getElem (by simp) fun i h1 h2=>?_;rw[List.length_map] at h2;simp only[List.getElem_map,List.getElem_range];rw[List.getD_eq_getElem?_getD,List.getElem?_eq_getElem h2];rfl
theorem Ao (n:Nat) (p:Nat→Bool) (c:Nat→Nat):(((List.range n).filter p).map c).sum=((List.range n).map fun k=>if p k=true then c k else 0).sum:=by
 induction n with
 | zero=>rfl
 | succ n ih=>
  rw[List.range_succ,List.filter_append,List.map_append,List.map_append,sum_append,sum_append,ih];congr 1;by_cases h:p n=true
  ·rw[List.filter_cons_of_pos h];simp[h]
  ·rw[List.filter_cons_of_neg h];simp[h]
theorem oH (c:aa→Nat) (V:List Int) (E:List aa) (pr lt:List Bool) (ln:List (List Int)):((cZ V E pr lt ln).map fun f=>(f.ts.map c).sum).sum=((List.range pr.length).map fun k=>if (pr.getD k false && !lt.getD k false)=true then c (E.getD k iM) else 0).sum:=by
 obtain ⟨own,hown⟩: ∃ own,own=kX (eo pr lt):=⟨_,rfl⟩
 unfold cZ;rw[←hown,List.map_map]
 have h1:(j8 (n5 own ln)).map ((fun f:gP=>(f.ts.map c).sum) ∘ fun grp=>⟨BB (rF (eo pr lt) ln) pr lt (grp.map fun a=>own.getD a 0) 0,(grp.map fun a=>own.getD a 0).map fun k=>V.getD k 0,(grp.map fun a=>own.getD a 0).map fun k=>E.getD k iM⟩)=(j8 (n5 own ln)).map fun grp=>(grp.map fun a=>c (E.getD (own.getD a 0) iM)).sum:=by
  refine List.map_congr_left fun grp _=>?_;show (((grp.map fun a=>own.getD a 0).map fun k=>E.getD k iM).map c).sum=_;rw[List.map_map,List.map_map];rfl
 rw[h1,Cf,((mO (zf (own:=own) (ln:=ln))).map fun a=>c (E.getD (own.getD a 0) iM)).sum_nat];have hl:(n5 own ln).length=own.length:=by unfold n5;simp
 rw[hl,IM own fun k=>c (E.getD k iM),hown];have he:(eo pr lt).length=pr.length:=by unfold eo;simp
 unfold kX;rw[he,Ao];congr 1;refine List.map_congr_left fun k hk=>?_
 have:(eo pr lt).getD k false=(pr.getD k false && !lt.getD k false):=by
  unfold eo;exact eT _ (List.mem_range.1 hk)
 rw[this]
theorem FY (o:Int) (V:List Int) (E:List aa) (pr lt:List Bool) (ln:List (List Int)):((cZ V E pr lt ln).map fun f=>aa.fo o f.ts).sum=((List.range pr.length).map fun k=>if (pr.getD k false && !lt.getD k false)=true then (E.getD k iM).ct o else 0).sum:=by
 rw[←oH (aa.ct o)];exact congrArg _ (List.map_congr_left fun f _=>j5 o f.ts)
theorem qG (o:Int) (f:List gP) (lv:Int):((cj f lv).map fun x=>aa.fo o x.t).sum=((f.filter fun f=>f.lv == lv).map fun f=>aa.fo o f.ts).sum:=by
 unfold cj;rw[List.map_map];rfl
theorem sum_add (l:List Nat) (a b:Nat→Nat):(l.map fun k=>a k + b k).sum=(l.map a).sum + (l.map b).sum:=by
 induction l with
 | nil=>rfl
 | cons x l ih=>simp only[List.map_cons,List.sum_cons,ih];omega
theorem GW (T:List aa) (o:Int) (n:Nat) (h:T.length=n + 1):((List.range n).map fun k=>(T.getD k iM).ct o).sum + (T.getD n iM).ct o=aa.fo o T:=by
 have h1:((List.range (n + 1)).map fun k=>(T.getD k iM).ct o).sum=aa.fo o T:=by
  rw[j5];congr 1;refine List.ext_getElem (by simp[h]) fun i h1 h2=>?_;rw[List.length_map] at h2;simp only[List.getElem_map,List.getElem_range];rw[List.getD_eq_getElem?_getD,List.getElem?_eq_getElem h2];rfl
 rw[←h1,List.range_succ,List.map_append,sum_append];simp
theorem Ba {V:List Int} {E:List aa} {pr lt:List Bool} {ln:List (List Int)} (hg:nU ln) (hp:pr.length=ln.length): ∀ f∈cZ V E pr lt ln,f.lv=0∨ ∃ k,k < ln.length∧pr.getD k false=false∧lt.getD k false=false∧f.lv=(k:Int) + 1:=by
 intro f hf;unfold cZ at hf;obtain ⟨grp,hgrp,rfl⟩:=List.mem_map.1 hf;have hlen: ∀ s:List Bool,(rF s ln).length=ln.length:=fun s=>by unfold rF;simp
 have:=EE (LW (some:=eo pr lt) hg) pr lt ((grp.map fun a=>(kX (eo pr lt)).getD a 0)) 0 fun k hk=>by
  obtain ⟨a,ha,rfl⟩:=List.mem_map.1 hk
  have h1:a < (kX (eo pr lt)).length:=by
   have h2:a∈(j8 (n5 (kX (eo pr lt)) ln)).flatten:=List.mem_flatten.2 ⟨grp,hgrp,ha⟩;have h3:=(mO (zf (own:=kX (eo pr lt)) (ln:=ln))).mem_iff.1 h2;unfold n5 at h3;rw[List.length_map] at h3;exact List.mem_range.1 h3
  rw[hlen,List.getD_eq_getElem?_getD,List.getElem?_eq_getElem h1];have h2:(kX (eo pr lt))[a] < (eo pr lt).length:=List.mem_range.1 (List.mem_filter.1 (List.getElem_mem h1)).1;have h3:(eo pr lt).length=pr.length:=by unfold eo;simp
  show (kX (eo pr lt))[a] < ln.length;omega
 rw[hlen] at this;exact this
mutual
def aa.Lx:aa→Prop
 | .mk op _ v t=>(op=7→t.length=v.length + 1)∧aa.DD t
def aa.DD:List aa→Prop
 | []=>True
 | x::xs=>aa.Lx x∧aa.DD xs
end
theorem aa.DC (t:aa):t.Lx↔(t.op=7→t.t.length=t.v.length + 1)∧aa.DD t.t:=by cases t;rw[aa.Lx];rfl
theorem aa.vS: ∀ {l:List aa},aa.DD l→ ∀ x∈l,x.Lx
 | y::l,h,x,hx=>by
  rw[aa.DD] at h;rcases List.mem_cons.1 hx with rfl | hx
  ·exact h.1
  ·exact aa.vS h.2 x hx
theorem aa.E1: ∀ {l:List aa},(∀ x∈l,x.Lx)→aa.DD l
 | [],_=>trivial
 | x::l,h=>by rw[aa.DD];exact ⟨h x (List.mem_cons_self ..),aa.E1 fun y hy=>h y (List.mem_cons_of_mem _ hy)⟩
theorem z6 {level c codes:Int} {free:Bool} {op:Int} {sc inner:List Int}: ∀ {l:List aa} {deep:Int},aa.fy level c codes free op sc inner l deep→ ∀ y∈l, ∃ s d,y.qt level c codes free s d
 | x::l,deep,h,y,hy=>by
  rw[aa.fy] at h;rcases List.mem_cons.1 hy with rfl | hy
  ·exact ⟨_,_,h.2.1⟩
  ·exact z6 h.2.2 y hy
theorem aa.EO {level c codes:Int} {free:Bool} (t:aa): ∀ {sc:List Int} {deep:Int},t.qt level c codes free sc deep→t.Lx:=by
 induction t using aa.ind with
 | h t ih=>
  intro sc deep h;rw[aa.kF] at h;rw[aa.DC];refine ⟨fun h7=>?_,aa.E1 fun x hx=>?_⟩
  ·have hs:=h.1.2.2.1
   unfold cX at hs
   split at hs
   ·cases hs
   ·rw[if_neg (by omega),if_neg (by omega),if_neg (by omega),if_neg (by omega),if_neg (by omega),if_pos (by omega)] at hs
    simp at hs;omega
  ·obtain ⟨s,d,hx2⟩:=z6 h.2 x hx
   exact ih x hx hx2
theorem pM (A:Int→Bool): ∀ (l:List aa) (nx:Int),(aa.cK A l nx).1.length=l.length
 | [],nx=>by rw[aa.cK]
 | x::l,nx=>by rw[aa.cK];simp[pM A l]
mutual
def aa.Q4 (A:Int→Bool):aa→Bool
 | .mk op _ v t=>(op !=7 || ((t.take v.length).all (fun x=>x.op == 4) && v.all fun u=>!A u)) && aa.O8 A t
def aa.O8 (A:Int→Bool):List aa→Bool
 | []=>true
 | x::xs=>aa.Q4 A x && aa.O8 A xs
end
theorem lI: ∀ l m:List aa,aa.aE (l++m)=aa.aE l + aa.aE m
 | [],m=>by rw[List.nil_append,aa.aE];omega
 | x::l,m=>by rw[List.cons_append,aa.aE,aa.aE,lI l m];omega
theorem nE: ∀ l:List aa,aa.aE l=(l.map aa.aR).sum
 | []=>by rw[aa.aE];rfl
 | x::l=>by rw[aa.aE,nE l];rfl
def IF (x:aa):Nat:=1 + x.v.length + aa.aE x.t
theorem vD (l:List aa) (t:aa):(jJ l t).aR=(l.map IF).sum + t.aR:=by
 induction l with
 | nil=>show t.aR=0 + t.aR;omega
 | cons x l ih=>
  show (aa.mk x.op x.n x.v (x.t++ [jJ l t])).aR=_;rw[aa.aR,lI,aa.aE,aa.aE,ih,List.map_cons,List.sum_cons];unfold IF;omega
theorem v7 {l:List Nat} {a b:Nat→Nat} (h: ∀ k∈l,a k≤b k):(l.map a).sum≤(l.map b).sum:=by
 induction l with
 | nil=>exact Nat.le_refl _
 | cons x l ih=>
  simp only[List.map_cons,List.sum_cons];have:=h x (List.mem_cons_self ..);have:=ih fun k hk=>h k (List.mem_cons_of_mem _ hk);omega
theorem nQ (n c:Nat):((List.range n).map fun _=>c).sum=n * c:=by
 induction n with
 | zero=>simp
 | succ n ih=>rw[List.range_succ,List.map_append,sum_append,ih];simp[Nat.succ_mul]
theorem KO (V:List Int) (E:List aa) (pr lt:List Bool) (ln:List (List Int)):((cZ V E pr lt ln).map fun f=>1 + f.vs.length).sum≤2 * pr.length:=by
 have h1:=oH (fun _=>1) V E pr lt ln
 have h2: ∀ f∈cZ V E pr lt ln,1 + f.vs.length≤2 * (f.ts.map fun _=>1).sum:=by
  intro f hf;unfold cZ at hf;obtain ⟨grp,hg,rfl⟩:=List.mem_map.1 hf
  have hne:0 < grp.length:=by
   have key: ∀ (g:dm),nU g→ ∀ (m:Nat) (done:List Bool) (n:Nat), ∀ l∈mz g m done n,0 < l.length:=by
    intro g hg m
    induction m with
    | zero=>intro done n l hl;rw[mz] at hl;cases hl
    | succ m ih=>
     intro done n l hl;rw[mz] at hl
     split at hl
     ·split at hl
      ·cases hl
      ·rename_i i hi
       rcases List.mem_cons.1 hl with rfl | hl
       ·have hlt:=List.mem_range.1 (List.mem_of_find?_eq_some hi)
        exact List.length_pos_of_mem (iz.2 ⟨hlt,iJ hg hlt,iJ hg hlt⟩)
       ·exact ih _ _ l hl
     ·cases hl
   exact key _ (zf (own:=kX (eo pr lt)) (ln:=ln)) _ _ _ grp hg
  have: ∀ l:List aa,(l.map fun _=>1).sum=l.length:=fun l=>by
   induction l with
   | nil=>rfl
   | cons x l ih=>rw[List.map_cons,List.sum_cons,ih,List.length_cons];omega
  simp only[this,List.length_map];omega
 have h3: ∀ l:List gP,(∀ f∈l,1 + f.vs.length≤2 * (f.ts.map fun _=>1).sum)→(l.map fun f=>1 + f.vs.length).sum≤2 * (l.map fun f=>(f.ts.map fun _=>1).sum).sum:=by
  intro l
  induction l with
  | nil=>intro _;exact Nat.le_refl _
  | cons x l ih=>
   intro h;simp only[List.map_cons,List.sum_cons];have:=h x (List.mem_cons_self ..);have:=ih fun f hf=>h f (List.mem_cons_of_mem _ hf);omega
 have h4:=h3 _ h2;rw[h1] at h4;have h5:((List.range pr.length).map fun k=>if (pr.getD k false && !lt.getD k false)=true then 1 else 0).sum≤((List.range pr.length).map fun _=>1).sum:=v7 fun k _=>by split<;>omega
 rw[nQ] at h5;omega
theorem Hw (late:List Int) (t:aa):(t.ask late).aR≤t.aR + t.ct 1:=by
 induction t using aa.ind with
 | h t ih=>
  have key: ∀ l:List aa,(∀ x∈l,(x.ask late).aR≤x.aR + x.ct 1)→aa.aE (l.map (aa.ask late))≤aa.aE l + aa.fo 1 l:=by
   intro l
   induction l with
   | nil=>intro _;rw[List.map_nil];omega
   | cons x l ihl=>
    intro h;rw[List.map_cons,aa.aE,aa.aE,aa.fo];have:=h x (List.mem_cons_self ..);have:=ihl fun y hy=>h y (List.mem_cons_of_mem _ hy);omega
  have hk:=key t.t ih;rw[aa.uw,aa.Ec,t.bE];unfold Oe
  split
  ·split
   ·rename_i h1
    rw[aa.aR,aa.aE,aa.aE,aa.aR]
    try rw[if_pos h1]
    simp only[List.length_nil];omega
   split
   ·rw[aa.aR];omega
   ·rw[aa.aR];omega
  ·rw[aa.aR];omega
theorem Kw (late:List Int) (t:aa):(t.ask late).ct 1=t.ct 1:=by
 induction t using aa.ind with
 | h t ih=>
  have hl:aa.fo 1 (t.t.map (aa.ask late))=aa.fo 1 t.t:=by
   rw[j5,j5,List.map_map];exact congrArg _ (List.map_congr_left fun x hx=>ih x hx)
  rw[aa.uw,aa.Ec 1 t];unfold Oe
  split
  ·split
   ·rename_i h1
    rw[aa.oh,aa.fo,aa.fo,aa.oh,hl,if_pos h1,if_neg (by decide)]
    try omega
   split
   ·rename_i h1 h2
    rw[aa.oh,hl,if_neg (by decide)]
   ·rename_i h1 h2
    rw[aa.oh,hl,if_neg h1]
  ·rw[aa.oh,hl]
theorem G1 (l:List Int):((jT l).map IF).sum≤1 + 2 * l.length:=by
 unfold jT
 split
 ·exact Nat.zero_le _
 ·rw[List.map_cons,List.map_nil,List.sum_cons,List.sum_nil]
  have: ∀ l:List Int,aa.aE (l.map fun _=>aa.mk 13 0 [] [])=l.length:=fun l=>by
   induction l with
   | nil=>rw[List.map_nil,aa.aE];rfl
   | cons x l ih=>rw[List.map_cons,aa.aE,ih,aa.aR,aa.aE,List.length_cons];simp;omega
  unfold IF;show 1 + l.length + aa.aE (l.map fun _=>aa.mk 13 0 [] []) + 0≤_;rw[this];omega
theorem uT (f:List gP) (lv:Int):((cj f lv).map IF).sum=((f.filter fun f=>f.lv == lv).map fun f=>1 + f.vs.length + aa.aE f.ts).sum:=by
 unfold cj;rw[List.map_map];rfl
theorem zq (v:Int) (e:aa):IF (mA v e)=2 + e.aR:=by
 show 1 + 1 + aa.aE [e]=_;rw[aa.aE,aa.aE];omega
theorem uc (v:Int) (e:aa):IF (nc v e)=2 + e.aR:=by
 show 1 + 0 + aa.aE [.mk 2 v [] [e]]=_;rw[aa.aE,aa.aE,aa.aR,aa.aE,aa.aE];simp;omega
theorem DQ (T:List aa) (n:Nat) (h:T.length=n + 1):((List.range n).map fun k=>(T.getD k iM).aR).sum + (T.getD n iM).aR=aa.aE T:=by
 have h1:((List.range (n + 1)).map fun k=>(T.getD k iM).aR).sum=aa.aE T:=by
  rw[nE];congr 1;refine List.ext_getElem (by simp[h]) fun i h1 h2=>?_;rw[List.length_map] at h2;simp only[List.getElem_map,List.getElem_range];rw[List.getD_eq_getElem?_getD,List.getElem?_eq_getElem h2];rfl
 rw[←h1,List.range_succ,List.map_append,sum_append];simp
theorem xT (A:Int→Bool) (N:Int) (V:List Int) (T:List aa) (nx:Int) (hT:T.length=V.length + 1):(jS A N V T nx).1.aR≤aa.aE T + aa.fo 1 T + 9 * V.length + 1:=by
 obtain ⟨pr,hpr⟩: ∃ pr,pr=dr A V T:=⟨_,rfl⟩
 obtain ⟨ln,hln⟩: ∃ ln,ln=bG V T:=⟨_,rfl⟩
 obtain ⟨lt,hlt⟩: ∃ lt,lt=iI N pr ln:=⟨_,rfl⟩
 obtain ⟨E,hE⟩: ∃ E,E=T.map (aa.ask (iV V lt)):=⟨_,rfl⟩
 obtain ⟨f,hf⟩: ∃ f,f=cZ V E pr lt ln:=⟨_,rfl⟩
 have hgo:nU ln:=by rw[hln];exact qR V T
 have hpl:pr.length=V.length:=by rw[hpr];unfold dr;simp
 have hll:ln.length=V.length:=by rw[hln];unfold bG;simp
 have hEl:E.length=V.length + 1:=by rw[hE,List.length_map,hT]
 have hEb:aa.aE E≤aa.aE T + aa.fo 1 T:=by
  rw[hE]
  have key: ∀ l:List aa,aa.aE (l.map (aa.ask (iV V lt)))≤aa.aE l + aa.fo 1 l:=by
   intro l
   induction l with
   | nil=>rw[List.map_nil];omega
   | cons x l ihl=>
    rw[List.map_cons,aa.aE,aa.aE,aa.fo];have:=Hw (iV V lt) x;omega
  exact key T
 have hlv:=Ba (V:=V) (E:=E) (lt:=lt) hgo (by omega:pr.length=ln.length);have hfs:=oH aa.aR V E pr lt ln;have hfl:=KO V E pr lt ln;rw[←hf] at hlv hfs hfl;rw[hpl] at hfs hfl;have hu:=G1 (iV V lt)
 have hlvl:(iV V lt).length≤V.length:=by
  unfold iV;rw[List.length_map];exact Nat.le_trans (List.length_filter_le _ _) (by simp)
 have hcf:(f.map fun f=>1 + f.vs.length + aa.aE f.ts).sum=(f.map fun f=>1 + f.vs.length).sum + (f.map fun f=>(f.ts.map aa.aR).sum).sum:=by
  clear hlv hfs hfl hf
  induction f with
  | nil=>rfl
  | cons x l ih=>
   rw[List.map_cons,List.sum_cons,List.map_cons,List.sum_cons,List.map_cons,List.sum_cons,ih,nE];omega
 unfold jS;dsimp only;rw[←hpr, ←hln, ←hlt, ←hE, ←hf,vD,List.map_append,sum_append];have hsum:=DQ E V.length hEl
 have hsp:((List.range V.length).map fun k=>(E.getD k iM).aR).sum=((List.range V.length).map fun k=>(if (pr.getD k false && !lt.getD k false)=true then (E.getD k iM).aR else 0) + (if (pr.getD k false && !lt.getD k false)=true then 0 else (E.getD k iM).aR)).sum:=by
  congr 1;refine List.map_congr_left fun k _=>?_
  split<;>omega
 rw[sum_add] at hsp
 split
 ·have hmain:((jM V E pr lt f V.length).map IF).sum≤(f.map fun f=>1 + f.vs.length + aa.aE f.ts).sum + ((List.range V.length).map fun k=>(if (pr.getD k false && !lt.getD k false)=true then 0 else (E.getD k iM).aR) + 2).sum:=by
   unfold jM;rw[List.map_append,sum_append,dV,uT]
   have hL:=jO (fun f:gP=>1 + f.vs.length + aa.aE f.ts) (0::((List.range V.length).filter fun k=>!pr.getD k false && !lt.getD k false).map fun k:Nat=>(k:Int) + 1) f (by
    rw[List.nodup_cons];refine ⟨fun h=>?_,?_⟩
    ·obtain ⟨k,_,e⟩:=List.mem_map.1 h
     omega
    ·exact zu (fun a b e=>by omega) (List.nodup_range.sublist List.filter_sublist)) fun f hf=>by
    rcases hlv f hf with e | ⟨k,h1,h2,h3,e⟩
    ·rw[e];exact List.mem_cons_self ..
    ·rw[e]
     refine List.mem_cons_of_mem _ (List.mem_map.2 ⟨k,List.mem_filter.2 ⟨List.mem_range.2 (by omega),by rw[h2,h3];rfl⟩,rfl⟩)
   rw[List.map_cons,List.sum_cons,List.map_map,Ao] at hL;rw[←hL,Nat.add_assoc];refine Nat.add_le_add_left ?_ _;rw[←sum_add];refine v7 fun k _=>?_;cases h1:lt.getD k false<;>cases h2:pr.getD k false
   ·simp[zq,uT];omega
   ·simp
   ·simp[uc];omega
   ·simp[uc];omega
  rw[sum_add,nQ] at hmain;omega
 ·have hmain:((fU V E pr lt f nx V.length).map IF).sum≤(f.map fun f=>1 + f.vs.length + aa.aE f.ts).sum + ((List.range V.length).map fun k=>(if (pr.getD k false && !lt.getD k false)=true then 0 else (E.getD k iM).aR) + 5).sum:=by
   unfold fU;rw[List.map_append,List.map_append,sum_append,sum_append,dV,dV,dV]
   have hL:=jO (fun f:gP=>1 + f.vs.length + aa.aE f.ts) ((List.range (V.length + 1)).map fun k:Nat=>(k:Int)) f (zu (fun a b e=>by omega) List.nodup_range) fun f hf=>by
    rcases hlv f hf with e | ⟨k,h1,h2,h3,e⟩
    ·rw[e];exact List.mem_map.2 ⟨0,List.mem_range.2 (by omega),rfl⟩
    ·rw[e];exact List.mem_map.2 ⟨k + 1,List.mem_range.2 (by omega),by omega⟩
   rw[List.map_map] at hL
   have h2:((List.range (V.length + 1)).map fun k:Nat=>((cj f (k:Int)).map IF).sum)=(List.range (V.length + 1)).map ((fun lv=>((f.filter fun f=>f.lv == lv).map fun f=>1 + f.vs.length + aa.aE f.ts).sum) ∘ fun k:Nat=>(k:Int)):=
    List.map_congr_left fun k _=>uT f _
   rw[h2,hL,Nat.add_comm (((List.range V.length).map _).sum),Nat.add_assoc];refine Nat.add_le_add_left ?_ _;rw[←sum_add];refine v7 fun k _=>?_;have h1: ∀ v:Int,(aa.mk 1 v [] []).aR=1:=fun v=>by rw[aa.aR,aa.aE];rfl
   cases h3:lt.getD k false<;>cases h4:pr.getD k false
   ·simp[zq];omega
   ·simp
   ·simp[zq,uc,h1];omega
   ·simp[uc];omega
  rw[sum_add,nQ] at hmain;omega
theorem Gt (l:List aa) (t:aa) (hl: ∀ x∈l,x.op=6∨x.op=8∨x.op=9):(jJ l t).ct 1=(l.map fun x=>aa.fo 1 x.t).sum + t.ct 1:=by
 induction l with
 | nil=>show t.ct 1=0 + t.ct 1;omega
 | cons x l ih=>
  show (aa.mk x.op x.n x.v (x.t++ [jJ l t])).ct 1=_;have hx:=hl x (List.mem_cons_self ..);rw[aa.oh,aa.uH,aa.fo,aa.fo,ih fun y hy=>hl y (List.mem_cons_of_mem _ hy),if_neg (by omega),List.map_cons,List.sum_cons];omega
theorem ql (v:Int) (e:aa):aa.fo 1 (nc v e).t=e.ct 1:=by
 show aa.fo 1 [.mk 2 v [] [e]]=_;rw[aa.fo,aa.fo,aa.oh,aa.fo,aa.fo,if_neg (by decide)];omega
theorem Jj (A:Int→Bool) (N:Int) (V:List Int) (T:List aa) (nx:Int) (hT:T.length=V.length + 1):(jS A N V T nx).1.ct 1≤aa.fo 1 T + V.length:=by
 obtain ⟨pr,hpr⟩: ∃ pr,pr=dr A V T:=⟨_,rfl⟩
 obtain ⟨ln,hln⟩: ∃ ln,ln=bG V T:=⟨_,rfl⟩
 obtain ⟨lt,hlt⟩: ∃ lt,lt=iI N pr ln:=⟨_,rfl⟩
 obtain ⟨E,hE⟩: ∃ E,E=T.map (aa.ask (iV V lt)):=⟨_,rfl⟩
 obtain ⟨f,hf⟩: ∃ f,f=cZ V E pr lt ln:=⟨_,rfl⟩
 have hgo:nU ln:=by rw[hln];exact qR V T
 have hpl:pr.length=V.length:=by rw[hpr];unfold dr;simp
 have hll:ln.length=V.length:=by rw[hln];unfold bG;simp
 have hEl:E.length=V.length + 1:=by rw[hE,List.length_map,hT]
 have hEc:aa.fo 1 E=aa.fo 1 T:=by
  rw[hE,j5,j5,List.map_map];exact congrArg _ (List.map_congr_left fun x _=>Kw _ x)
 have hlv:=Ba (V:=V) (E:=E) (lt:=lt) hgo (by omega:pr.length=ln.length);rw[←hf] at hlv;have hfs:=FY 1 V E pr lt ln;rw[←hf,hpl] at hfs;have hu:=L6 (o:=1) (iV V lt) (.inr (by decide)) (by decide);unfold jS;dsimp only;rw[←hpr, ←hln, ←hlt, ←hE, ←hf,Gt _ _ (Gg _ _ _ _ _ _ _ _ _),List.map_append,sum_append,hu,Nat.zero_add, ←hEc, ←GW E 1 V.length hEl]
 have hsp:((List.range V.length).map fun k=>(E.getD k iM).ct 1).sum=((List.range V.length).map fun k=>(if (pr.getD k false && !lt.getD k false)=true then (E.getD k iM).ct 1 else 0) + (if (pr.getD k false && !lt.getD k false)=true then 0 else (E.getD k iM).ct 1)).sum:=by
  congr 1;refine List.map_congr_left fun k _=>?_
  split<;>omega
 rw[sum_add] at hsp
 split
 ·have hmain:((jM V E pr lt f V.length).map fun x=>aa.fo 1 x.t).sum≤(f.map fun f=>aa.fo 1 f.ts).sum + ((List.range V.length).map fun k=>if (pr.getD k false && !lt.getD k false)=true then 0 else (E.getD k iM).ct 1).sum:=by
   unfold jM;rw[List.map_append,sum_append,dV,qG]
   have hL:=jO (fun f:gP=>aa.fo 1 f.ts) (0::((List.range V.length).filter fun k=>!pr.getD k false && !lt.getD k false).map fun k:Nat=>(k:Int) + 1) f (by
    rw[List.nodup_cons];refine ⟨fun h=>?_,?_⟩
    ·obtain ⟨k,_,e⟩:=List.mem_map.1 h
     omega
    ·exact zu (fun a b e=>by omega) (List.nodup_range.sublist List.filter_sublist)) fun f hf=>by
    rcases hlv f hf with e | ⟨k,h1,h2,h3,e⟩
    ·rw[e];exact List.mem_cons_self ..
    ·rw[e]
     refine List.mem_cons_of_mem _ (List.mem_map.2 ⟨k,List.mem_filter.2 ⟨List.mem_range.2 (by omega),by rw[h2,h3];rfl⟩,rfl⟩)
   rw[List.map_cons,List.sum_cons,List.map_map,Ao] at hL;rw[←hL,Nat.add_assoc];refine Nat.add_le_add_left ?_ _;rw[←sum_add];refine v7 fun k _=>?_;cases h1:lt.getD k false<;>cases h2:pr.getD k false
   ·simp[zo,qG];omega
   ·simp
   ·simp[ql]
   ·simp[ql]
  omega
 ·have hmain:((fU V E pr lt f nx V.length).map fun x=>aa.fo 1 x.t).sum≤(f.map fun f=>aa.fo 1 f.ts).sum + ((List.range V.length).map fun k=>(if (pr.getD k false && !lt.getD k false)=true then 0 else (E.getD k iM).ct 1) + 1).sum:=by
   unfold fU;rw[List.map_append,List.map_append,sum_append,sum_append,dV,dV,dV]
   have hL:=jO (fun f:gP=>aa.fo 1 f.ts) ((List.range (V.length + 1)).map fun k:Nat=>(k:Int)) f (zu (fun a b e=>by omega) List.nodup_range) fun f hf=>by
    rcases hlv f hf with e | ⟨k,h1,h2,h3,e⟩
    ·rw[e];exact List.mem_map.2 ⟨0,List.mem_range.2 (by omega),rfl⟩
    ·rw[e];exact List.mem_map.2 ⟨k + 1,List.mem_range.2 (by omega),by omega⟩
   rw[List.map_map] at hL
   have h2:((List.range (V.length + 1)).map fun k:Nat=>((cj f (k:Int)).map fun x=>aa.fo 1 x.t).sum)=(List.range (V.length + 1)).map ((fun lv=>((f.filter fun f=>f.lv == lv).map fun f=>aa.fo 1 f.ts).sum) ∘ fun k:Nat=>(k:Int)):=
    List.map_congr_left fun k _=>qG 1 f _
   rw[h2,hL,Nat.add_comm (((List.range V.length).map _).sum),Nat.add_assoc];refine Nat.add_le_add_left ?_ _;rw[←sum_add];refine v7 fun k _=>?_;have h1: ∀ v:Int,(aa.mk 1 v [] []).ct 1=1:=fun v=>by rw[aa.oh,aa.fo,if_pos rfl]
   cases h3:lt.getD k false<;>cases h4:pr.getD k false
   ·simp[zo]
   ·simp
   ·simp[zo,ql,h1]
   ·simp[ql]
  rw[sum_add,nQ] at hmain;omega
theorem uI (A:Int→Bool) (t:aa):t.Lx→ ∀ nx:Int,(t.mI A nx).1.ct 1≤t.aR∧((t.mI A nx).1.aR:Int)≤(t.cnt + 10) * t.aR:=by
 induction t using aa.ind with
 | h t ih=>
  intro hs nx;rw[aa.DC] at hs
  have key: ∀ l:List aa,(∀ x∈l, ∀ nx:Int,(x.mI A nx).1.ct 1≤x.aR∧((x.mI A nx).1.aR:Int)≤(x.cnt + 10) * x.aR)→ ∀ nx,aa.fo 1 (aa.cK A l nx).1≤aa.aE l∧(aa.aE (aa.cK A l nx).1:Int)≤(aa.cW l + 10) * aa.aE l:=by
   intro l
   induction l with
   | nil=>intro _ nx;rw[aa.cK];exact ⟨Nat.le_refl _,by rw[aa.aE];simp⟩
   | cons x l ihl=>
    intro h nx;obtain ⟨a1,a2⟩:=h x (List.mem_cons_self ..) nx;obtain ⟨b1,b2⟩:=ihl (fun y hy=>h y (List.mem_cons_of_mem _ hy)) (x.mI A nx).2;rw[aa.cK];dsimp only;rw[aa.fo,aa.aE,aa.aE,aa.cW];refine ⟨by omega,?_⟩;have h1:=x.pK;have h2:=aa.eO l;have h3:(0:Int)≤aa.cW l * (x.aR:Int):=Int.mul_nonneg h2 (by omega);have h4:(0:Int)≤x.cnt * (aa.aE l:Int):=Int.mul_nonneg (by omega) (by omega)
    have h5:(x.cnt + aa.cW l + 10) * ((x.aR:Int) + (aa.aE l:Int))=(x.cnt + 10) * x.aR + (aa.cW l + 10) * aa.aE l + aa.cW l * x.aR + x.cnt * aa.aE l:=by
     simp only[Int.add_mul,Int.mul_add];omega
    push_cast
    rw[h5];omega
  obtain ⟨k1,k2⟩:=key t.t (fun x hx=>ih x hx (aa.vS hs.2 x hx)) nx;have hlen:=pM A t.t nx;have hcp:=aa.eO t.t;have e1:=t.bE;have e2:=t.ju
  have e3:(t.cnt + 10) * (t.aR:Int)=(aa.cW t.t + 10) * aa.aE t.t + aa.aE t.t + (aa.cW t.t + 11) * (1 + t.v.length:Int):=by
   rw[e1,e2]
   push_cast
   simp only[Int.add_mul,Int.mul_add];omega
  have e4:(11:Int) * (1 + t.v.length)≤(aa.cW t.t + 11) * (1 + t.v.length:Int):=Int.mul_le_mul_of_nonneg_right (by omega) (by omega);rw[aa.uJ];by_cases h7:t.op=7
  ·rw[if_pos h7]
   have hn:=hs.1 h7;have r1:=Jj A t.n t.v (aa.cK A t.t nx).1 (aa.cK A t.t nx).2 (by omega);have r2:=xT A t.n t.v (aa.cK A t.t nx).1 (aa.cK A t.t nx).2 (by omega);refine ⟨by omega,?_⟩;rw[e3];omega
  ·rw[if_neg h7]
   dsimp only;rw[aa.oh,aa.aR,e3];refine ⟨?_,by push_cast;omega⟩
   split<;>omega
theorem JJ (k:Int) (t:aa):ej (dG (t.sh k).all)=(ej (dG t.all)).map (· + k):=by
 rw[aa.NP, ←BZ];congr 1;unfold dG;rw[List.filter_map,List.map_map,List.map_map]
 have hc:((fun m:aa×List Int=>bQ m.1.op && !m.2.contains m.1.n) ∘ fun m:aa×List Int=>(m.1.sh k,m.2.map (· + k)))=fun m=>bQ m.1.op && !m.2.contains m.1.n:=by
  funext m;simp only[Function.comp,aa.ni,aa.DK];by_cases h:bQ m.1.op=true
  ·rw[if_pos h,h]
   congr 2;rw[Bool.eq_iff_iff,List.contains_iff_mem,List.contains_iff_mem,List.mem_map];constructor
   ·rintro ⟨x,hx,e⟩
    have:x=m.1.n:=by omega
    rw[←this];exact hx
   ·intro hx;exact ⟨_,hx,rfl⟩
  ·rw[Bool.not_eq_true] at h
   rw[h];rfl
 rw[hc];apply List.map_congr_left;intro m hm;rw[List.mem_filter,Bool.and_eq_true] at hm;simp only[Function.comp,aa.DK,hm.2.1,if_true]
theorem xL (k:Int) {op:Int} (h:bQ op=false) (n:Int) (v:List Int) (l:List aa):(aa.mk op n v l).sh k=.mk op n (v.map (· + k)) (l.map (aa.sh k)):=by
 rw[aa.sh,h,aa.jL];rfl
theorem fS {α β:Type} {l:List α} {f g:α→List β} (h: ∀ x∈l,f x=g x):l.flatMap f=l.flatMap g:=by
 rw[List.flatMap_def,List.flatMap_def,List.map_congr_left h]
section
variable {A B:Int→Bool} {s:Int} (hAB: ∀ v,B (v + s)=A v)
theorem lK (T:List aa) (k:Nat):(T.map (aa.sh s)).getD k iM=(T.getD k iM).sh s:=by
 rw[List.getD_eq_getElem?_getD,List.getD_eq_getElem?_getD,List.getElem?_map]
 cases T[k]? with
 | none=>show iM=iM.sh s;simp[aa.sh,aa.Pn,bQ]
 | some x=>rfl
theorem lM (V:List Int) {k:Nat} (hk:k < V.length):(V.map (· + s)).getD k 0=V.getD k 0 + s:=by
 rw[List.getD_eq_getElem?_getD,List.getD_eq_getElem?_getD,List.getElem?_map,List.getElem?_eq_getElem hk];rfl
theorem mG (l:List Int) (v:Int):(l.map (· + s)).contains (v + s)=l.contains v:=by
 rw[Bool.eq_iff_iff,List.contains_iff_mem,List.contains_iff_mem,List.mem_map];constructor
 ·rintro ⟨u,hu,e⟩
  have:u=v:=by omega
  exact this▸hu
 ·exact fun h=>⟨v,h,rfl⟩
theorem ID (V:List Int) (t:aa):r5 (V.map (· + s)) (t.sh s)=r5 V t:=by
 unfold r5 gb;rw[List.length_map,JJ];congr 1;refine List.filter_congr fun j hj=>?_;rw[lM V (List.mem_range.1 hj),mG]
theorem Gf (V:List Int) (T:List aa):bG (V.map (· + s)) (T.map (aa.sh s))=bG V T:=by
 unfold bG;rw[List.length_map];refine List.map_congr_left fun k _=>?_;rw[lK,ID]
include hAB in
theorem Ja (V:List Int) (T:List aa):dr B (V.map (· + s)) (T.map (aa.sh s))=dr A V T:=by
 unfold dr;rw[List.length_map];refine List.map_congr_left fun k hk=>?_;rw[lK,aa.ni,lM V (List.mem_range.1 hk),hAB]
theorem IB (V:List Int) (lt:List Bool):iV (V.map (· + s)) lt=(iV V lt).map (· + s):=by
 unfold iV;rw[List.length_map,List.map_map];refine List.map_congr_left fun k hk=>?_;exact lM V (List.mem_range.1 (List.mem_filter.1 hk).1)
theorem MI (late:List Int) (t:aa):(t.ask late).sh s=(t.sh s).ask (late.map (· + s)):=by
 induction t using aa.ind with
 | h t ih=>
  have hl:(t.t.map (aa.ask late)).map (aa.sh s)=(t.t.map (aa.sh s)).map (aa.ask (late.map (· + s))):=by
   rw[List.map_map,List.map_map];exact List.map_congr_left fun x hx=>ih x hx
  rw[aa.uw,aa.uw,aa.ni,aa.DK,aa.Ca,aa.Aj, ←hl];unfold Oe;by_cases h1:t.op=1
  ·have hn:bQ t.op=true:=by rw[h1];rfl
   rw[if_pos hn,mG]
   split
   ·rw[xL s (by decide)]
    simp only[List.map_cons,List.map_nil];rw[aa.sh,aa.jL,if_pos hn]
   ·rw[aa.sh,aa.jL,if_pos hn]
  by_cases h2:t.op=2
  ·have hn:bQ t.op=true:=by rw[h2];rfl
   rw[if_pos hn,mG]
   split
   ·rw[aa.sh,aa.jL,if_pos (by rfl)]
   ·rw[aa.sh,aa.jL,if_pos hn]
  ·simp only[if_neg h1,if_neg h2,ite_self]
   rw[aa.sh,aa.jL]
theorem EA (v:Int) (e:aa):(mA v e).sh s=mA (v + s) (e.sh s):=by unfold mA;rw[xL s (by decide)];rfl
theorem E4 (v:Int) (e:aa):(nc v e).sh s=nc (v + s) (e.sh s):=by
 unfold nc;rw[xL s (by decide)];simp only[List.map_cons,List.map_nil];rw[aa.sh,aa.jL,if_pos (by rfl)];rfl
theorem BL (l:List aa) (t:aa) (hl: ∀ x∈l,bQ x.op=false):(jJ l t).sh s=jJ (l.map (aa.sh s)) (t.sh s):=by
 induction l with
 | nil=>rfl
 | cons x l ih=>
  show (aa.mk x.op x.n x.v (x.t++ [jJ l t])).sh s=.mk (x.sh s).op (x.sh s).n (x.sh s).v ((x.sh s).t++ [jJ (l.map (aa.sh s)) (t.sh s)]);have hx:=hl x (List.mem_cons_self ..);rw[xL s hx,aa.ni,aa.DK,if_neg (by rw[hx];decide),aa.Ca,aa.Aj, ←ih fun y hy=>hl y (List.mem_cons_of_mem _ hy),List.map_append];rfl
def gP.sh (s:Int) (f:gP):gP:=⟨f.lv,f.vs.map (· + s),f.ts.map (aa.sh s)⟩
theorem M5 (f:gP):(OU f).sh s=OU (f.sh s):=by unfold OU gP.sh;rw[xL s (by decide)]
theorem uU (l:List gP) (lv:Int):(cj l lv).map (aa.sh s)=cj (l.map (gP.sh s)) lv:=by
 unfold cj;rw[List.filter_map,List.map_map,List.map_map];exact List.map_congr_left fun f _=>M5 f
theorem y7 (g:dm): ∀ (f:Nat) (done:List Bool) (n:Nat), ∀ l∈mz g f done n, ∀ x∈l,x < g.length
 | 0,_,_,l,hl,_,_=>by rw[mz] at hl;cases hl
 | f + 1,done,n,l,hl,x,hx=>by
  rw[mz] at hl
  split at hl
  ·split at hl
   ·cases hl
   ·rename_i i _
    rcases List.mem_cons.1 hl with rfl | hl
    ·unfold eu at hx
     exact List.mem_range.1 (List.mem_filter.1 hx).1
    ·exact y7 g f _ _ l hl x hx
  ·cases hl
theorem EP {er:List Bool} {x:Nat} (h:x∈kX er):x < er.length:=List.mem_range.1 (List.mem_filter.1 h).1
theorem FX (V:List Int) (E:List aa) (pr lt:List Bool) (ln:List (List Int)) (hp:pr.length=V.length):cZ (V.map (· + s)) (E.map (aa.sh s)) pr lt ln=(cZ V E pr lt ln).map (gP.sh s):=by
 unfold cZ;rw[List.map_map];refine List.map_congr_left fun grp hg=>?_
 have hlt: ∀ a∈grp,(kX (eo pr lt)).getD a 0 < V.length:=fun a ha=>by
  have h1:=y7 _ _ _ _ grp hg a ha;unfold n5 at h1;rw[List.length_map] at h1;rw[List.getD_eq_getElem?_getD,List.getElem?_eq_getElem h1];have h2:=EP (List.getElem_mem h1);have h3:(eo pr lt).length=V.length:=by unfold eo;simp[hp]
  show (kX (eo pr lt))[a] < V.length;omega
 show gP.mk _ _ _=gP.sh s ⟨_,_,_⟩;unfold gP.sh;simp only[List.map_map];congr 1
 ·exact List.map_congr_left fun a ha=>lM V (hlt a ha)
 ·exact List.map_congr_left fun a _=>lK E _
theorem JS (V:List Int) (E:List aa) (pr lt:List Bool) (f:List gP):jM (V.map (· + s)) (E.map (aa.sh s)) pr lt (f.map (gP.sh s)) V.length=(jM V E pr lt f V.length).map (aa.sh s):=by
 unfold jM;rw[List.map_append,uU,List.map_flatMap];congr 1;refine fS fun k hk=>?_;rw[lM V (List.mem_range.1 hk),lK]
 split
 ·simp only[List.map_cons,List.map_nil,E4]
 split
 ·rfl
 ·rw[List.map_cons,EA,uU]
theorem Gx (V:List Int) (E:List aa) (pr lt:List Bool) (f:List gP) (nx:Int):fU (V.map (· + s)) (E.map (aa.sh s)) pr lt (f.map (gP.sh s)) (nx + s) V.length=(fU V E pr lt f nx V.length).map (aa.sh s):=by
 unfold fU;rw[List.map_append,List.map_append,List.map_flatMap,List.map_flatMap,List.map_flatMap];congr 1
 ·congr 1
  ·refine fS fun k hk=>?_
   rw[lM V (List.mem_range.1 hk),lK]
   split
   ·rfl
   ·simp only[List.map_cons,List.map_nil,EA]
    split
    ·rw[show nx + s + qo pr lt k=nx + qo pr lt k + s by omega]
    ·rfl
  ·exact fS fun k _=>(uU f _).symm
 ·refine fS fun k hk=>?_
  rw[lM V (List.mem_range.1 hk),lK]
  split
  ·simp only[List.map_cons,List.map_nil,E4]
   split
   ·rfl
   ·rw[show nx + s + qo pr lt k=nx + qo pr lt k + s by omega]
    congr 2
  ·rfl
theorem L7 (l:List Int):jT (l.map (· + s))=(jT l).map (aa.sh s):=by
 unfold jT;rw[List.length_map]
 split
 ·rfl
 ·rw[List.map_cons,List.map_nil,xL s (by decide),List.map_map,List.map_map]
  congr 2
theorem IE (V:List Int) (E:List aa) (pr lt:List Bool) (f:List gP) (nx:Int) (n:Nat) (lv:List Int) (N:Int): ∀ x∈jT lv++(if N=1 then jM V E pr lt f n else fU V E pr lt f nx n),bQ x.op=false:=by
 have hf: ∀ (l:List gP) lv, ∀ x∈cj l lv,bQ x.op=false:=fun l lv x hx=>by
  obtain ⟨g,_,rfl⟩:=List.mem_map.1 hx;rfl
 have hl: ∀ v e,bQ (mA v e).op=false:=fun _ _=>rfl;have hs: ∀ v e,bQ (nc v e).op=false:=fun _ _=>rfl;intro x hx;rcases List.mem_append.1 hx with hx | hx
 ·unfold jT at hx
  split at hx
  ·cases hx
  ·rw[List.mem_singleton.1 hx];rfl
 split at hx
 ·unfold jM at hx
  rcases List.mem_append.1 hx with hx | hx
  ·exact hf _ _ x hx
  ·obtain ⟨k,_,hx⟩:=List.mem_flatMap.1 hx
   split at hx
   ·rw[List.mem_singleton.1 hx];exact hs _ _
   split at hx
   ·cases hx
   ·rcases List.mem_cons.1 hx with rfl | hx
    ·exact hl _ _
    ·exact hf _ _ x hx
 ·unfold fU at hx
  rcases List.mem_append.1 hx with hx | hx
  ·rcases List.mem_append.1 hx with hx | hx
   ·obtain ⟨k,_,hx⟩:=List.mem_flatMap.1 hx
    split at hx
    ·cases hx
    ·rw[List.mem_singleton.1 hx];exact hl _ _
   ·obtain ⟨k,_,hx⟩:=List.mem_flatMap.1 hx
    exact hf _ _ x hx
  ·obtain ⟨k,_,hx⟩:=List.mem_flatMap.1 hx
   split at hx
   ·rw[List.mem_singleton.1 hx];exact hs _ _
   ·cases hx
include hAB in
theorem Lw (N:Int) (V:List Int) (T:List aa) (nx:Int):jS B N (V.map (· + s)) (T.map (aa.sh s)) (nx + s)=((jS A N V T nx).1.sh s,(jS A N V T nx).2 + s):=by
 have hp:=Ja hAB V T;have hl:=Gf (s:=s) V T
 have hE: ∀ lv:List Int,(T.map (aa.sh s)).map (aa.ask (lv.map (· + s)))=(T.map (aa.ask lv)).map (aa.sh s):=fun lv=>by
  rw[List.map_map,List.map_map];exact List.map_congr_left fun x _=>(MI lv x).symm
 unfold jS;dsimp only;rw[hp,hl,IB,hE,FX _ _ _ _ _ (by unfold dr;simp),L7,lK,List.length_map];have ho:=IE V (T.map (aa.ask (iV V (iI N (dr A V T) (bG V T))))) (dr A V T) (iI N (dr A V T) (bG V T)) (cZ V (T.map (aa.ask (iV V (iI N (dr A V T) (bG V T))))) (dr A V T) (iI N (dr A V T) (bG V T)) (bG V T)) nx V.length (iV V (iI N (dr A V T) (bG V T))) N;by_cases hN:N=1
 ·simp only[if_pos hN] at ho⊢
  rw[JS,BL _ _ ho,List.map_append]
 ·simp only[if_neg hN] at ho⊢
  rw[Gx,BL _ _ ho,List.map_append];congr 1;omega
include hAB in
theorem MT (t:aa): ∀ nx:Int,(t.sh s).mI B (nx + s)=((t.mI A nx).1.sh s,(t.mI A nx).2 + s):=by
 induction t using aa.ind with
 | h t ih=>
  have key: ∀ l:List aa,(∀ x∈l, ∀ nx:Int,(x.sh s).mI B (nx + s)=((x.mI A nx).1.sh s,(x.mI A nx).2 + s))→ ∀ nx,aa.cK B (l.map (aa.sh s)) (nx + s)=((aa.cK A l nx).1.map (aa.sh s),(aa.cK A l nx).2 + s):=by
   intro l
   induction l with
   | nil=>intro _ nx;rw[List.map_nil,aa.cK,aa.cK];rfl
   | cons x l ihl=>
    intro hx nx;rw[List.map_cons,aa.cK,aa.cK,hx x (List.mem_cons_self ..)];dsimp only;rw[ihl fun y hy=>hx y (List.mem_cons_of_mem _ hy)];rfl
  intro nx;rw[aa.uJ,aa.uJ,aa.ni,aa.DK,aa.Ca,aa.Aj,key _ ih];by_cases h7:t.op=7
  ·rw[if_pos h7,if_pos h7,if_neg (by rw[h7];decide),Lw hAB]
  ·rw[if_neg h7,if_neg h7]
   dsimp only;rw[aa.sh,aa.jL]
end
section
variable (V:List Int) (E:List aa) (pr lt:List Bool) (ln:List (List Int))
def Kj (k:Nat):cN:=⟨V.getD k 0,E.getD k iM,pr.getD k false,lt.getD k false,ln.getD k []⟩
def fT (n:Nat):List cN:=(List.range n).map (Kj V E pr lt ln)
end
section
variable {V:List Int} {E:List aa} {pr lt:List Bool} {ln:List (List Int)} {n:Nat}
theorem mP:(fT V E pr lt ln n).length=n:=by unfold fT;simp
theorem xH {k:Nat} (h:k < n):(fT V E pr lt ln n)[k]?=some (Kj V E pr lt ln k):=by
 unfold fT;rw[List.getElem?_map,List.getElem?_range h];rfl
theorem iH {k:Nat} (h:k < n):(fT V E pr lt ln n).getD k jR=Kj V E pr lt ln k:=by
 rw[List.getD_eq_getElem?_getD,xH h];rfl
theorem zk {k:Nat} (h:n≤k):(fT V E pr lt ln n).getD k jR=jR:=by
 rw[List.getD_eq_getElem?_getD,List.getElem?_eq_none (by rw[mP];exact h)];rfl
theorem pT {α:Type} {l:List α} {d:α} {k:Nat} (h:l.length≤k):l.getD k d=d:=by
 rw[List.getD_eq_getElem?_getD,List.getElem?_eq_none h];rfl
theorem Ex (hp:pr.length=n) (k:Nat):((fT V E pr lt ln n).getD k jR).pr=pr.getD k false:=by
 rcases Nat.lt_or_ge k n with h | h
 ·rw[iH h];rfl
 ·rw[zk h,pT (by omega)]
theorem Ew (hp:lt.length=n) (k:Nat):((fT V E pr lt ln n).getD k jR).lt=lt.getD k false:=by
 rcases Nat.lt_or_ge k n with h | h
 ·rw[iH h];rfl
 ·rw[zk h,pT (by omega)]
theorem KY (hp:ln.length=n) (k:Nat):((fT V E pr lt ln n).getD k jR).ln=ln.getD k []:=by
 rcases Nat.lt_or_ge k n with h | h
 ·rw[iH h];rfl
 ·rw[zk h,pT (by omega)]
theorem K9 {α β:Type} (l:List α) (d:α) (f:α→β):l.map f=(List.range l.length).map fun a=>f (l.getD a d):=by
 refine List.ext_getElem (by simp) fun i h1 h2=>?_;rw[List.length_map] at h1;simp only[List.getElem_map,List.getElem_range];rw[List.getD_eq_getElem?_getD,List.getElem?_eq_getElem h1];rfl
theorem AP (l:List Nat) (a:Nat):(l.map fun x:Nat=>(x:Int)).getD a 0=((l.getD a 0:Nat):Int):=by
 rcases Nat.lt_or_ge a l.length with h | h
 ·rw[List.getD_eq_getElem?_getD,List.getElem?_map,List.getD_eq_getElem?_getD,List.getElem?_eq_getElem h];rfl
 ·rw[pT (by simpa using h),pT h];rfl
theorem Nu (hp:pr.length=n) (hl:lt.length=n):gb n (KK (fT V E pr lt ln n))=(kX (eo pr lt)).map fun x:Nat=>(x:Int):=by
 unfold gb kX;have h1:(eo pr lt).length=n:=by unfold eo;simp[hp]
 rw[h1];congr 1;refine List.filter_congr fun k hk=>?_;have hk:=List.mem_range.1 hk;unfold KK;rw[xH hk];unfold eo;rw[List.getD_eq_getElem?_getD,List.getElem?_map,List.getElem?_range (by omega)];rfl
theorem N2 (hp:pr.length=n) (hl:lt.length=n) (hn:ln.length=n):lf (fun x=>x.pr && !x.lt) (fT V E pr lt ln n)=rF (eo pr lt) ln:=by
 unfold lf rF fT;rw[List.map_map,hn];refine List.map_congr_left fun k hk=>?_;have hk:=List.mem_range.1 hk;simp only[Function.comp]
 have:(eo pr lt).getD k false=(pr.getD k false && !lt.getD k false):=by
  unfold eo;rw[List.getD_eq_getElem?_getD,List.getElem?_map,List.getElem?_range (by omega)];rfl
 rw[this];rfl
theorem IK (hp:pr.length=n) (hl:lt.length=n): ∀ (l:List Int) (m:Int),Cp (fT V E pr lt ln n) l m=BC pr lt l m
 | [],m=>rfl
 | j::l,m=>by rw[Cp,BC,Ex hp,Ew hl,IK hp hl l]
theorem IJ (hp:pr.length=n) (hl:lt.length=n) (g:dm) (own:List Nat): ∀ (l:List Nat) (m:Int),Kk (fT V E pr lt ln n) g (own.map fun x:Nat=>(x:Int)) (l.map fun x:Nat=>(x:Int)) m=BB g pr lt (l.map fun a=>own.getD a 0) m
 | [],m=>rfl
 | k::l,m=>by rw[List.map_cons,List.map_cons,Kk,BB,IK hp hl,AP,Int.toNat_natCast,IJ hp hl g own l]
theorem M9 (hn:ln.length=n) (own:List Nat):(List.range (own.map fun x:Nat=>(x:Int)).length).map (zc (fT V E pr lt ln n) (own.map fun x:Nat=>(x:Int)))=n5 own ln:=by
 unfold n5;refine Eq.trans ?_ (K9 own 0 _).symm;rw[List.length_map];refine List.map_congr_left fun a ha=>?_;unfold zc;rw[List.length_map];congr 1;funext b;rw[AP,AP,Int.toNat_natCast,KY hn]
theorem FW (hV:V.length=n) (hp:pr.length=n) (hl:lt.length=n) (hn:ln.length=n):iQ (fT V E pr lt ln n)=cZ V E pr lt ln:=by
 unfold iQ;rw[mP,Nu hp hl,M9 hn,N2 hp hl hn];unfold iu cZ;rw[List.map_map];refine List.map_congr_left fun grp hg=>?_
 have hlt: ∀ a∈grp,(kX (eo pr lt)).getD a 0 < n:=fun a ha=>by
  have h1:=y7 _ _ _ _ grp hg a ha;unfold n5 at h1;rw[List.length_map] at h1;rw[List.getD_eq_getElem?_getD,List.getElem?_eq_getElem h1];have h2:=EP (List.getElem_mem h1);have h3:(eo pr lt).length=n:=by unfold eo;simp[hp]
  show (kX (eo pr lt))[a] < n;omega
 simp only[Function.comp];unfold F6;rw[IJ hp hl];simp only[List.map_map];congr 1
 ·refine List.map_congr_left fun a ha=>?_
  simp only[Function.comp];rw[Int.toNat_natCast,AP,Int.toNat_natCast,iH (hlt a ha)];rfl
 ·refine List.map_congr_left fun a ha=>?_
  simp only[Function.comp];rw[Int.toNat_natCast,AP,Int.toNat_natCast,iH (hlt a ha)];rfl
theorem JR (fs:List gP):cj fs 0++(List.range (fT V E pr lt ln n).length).flatMap (vW (fT V E pr lt ln n) fs)=jM V E pr lt fs n:=by
 unfold jM;rw[mP];congr 1;refine fS fun k hk=>?_;have hk:=List.mem_range.1 hk;unfold vW;rw[iH hk];rfl
end
def Cq (an:List cN) (k:Nat):Int:=(((List.range k).filter fun i=>!(an.getD i jR).pr && (an.getD i jR).lt).length:Int)
theorem J3 (an:List cN) (k:Nat):Cq an (k + 1)=Cq an k + if (an.getD k jR).pr=false∧(an.getD k jR).lt=true then 1 else 0:=by
 unfold Cq;rw[List.range_succ,List.filter_append,List.length_append,List.filter_cons,List.filter_nil];cases h1:(an.getD k jR).pr<;>cases h2:(an.getD k jR).lt
 ·rw[if_neg (by decide),if_neg (by decide)];simp
 ·rw[if_pos (by decide),if_pos (by decide)];simp
 ·rw[if_neg (by decide),if_neg (by decide)];simp
 ·rw[if_neg (by decide),if_neg (by decide)];simp
theorem N3 (an:List cN) (k:Nat):0≤Cq an k∧Cq an k≤k:=by
 unfold Cq;have:=List.length_filter_le (fun i=>!(an.getD i jR).pr && (an.getD i jR).lt) (List.range k);rw[List.length_range] at this;omega
def Nw (an:List cN) (nx:Int) (k:Nat):List aa:=if (an.getD k jR).pr=true then [] else [mA (if (an.getD k jR).lt=true then nx + Cq an k else (an.getD k jR).v) (an.getD k jR).e]
def Kp (an:List cN) (nx:Int) (k:Nat):aa:=if (an.getD k jR).pr=true then (an.getD k jR).e else if (an.getD k jR).lt=true then .mk 1 (nx + Cq an k) [] [] else (an.getD k jR).e
def Ny (an:List cN) (nx:Int) (k:Nat):List aa:=if (an.getD k jR).lt=true then [nc (an.getD k jR).v (Kp an nx k)] else []
def vH (an:List cN) (fs:List gP) (nx:Int):List aa:=(List.range an.length).flatMap (Nw an nx)++((List.range (an.length + 1)).flatMap fun k:Nat=>cj fs (k:Int))++(List.range an.length).flatMap (Ny an nx)
section
variable {V:List Int} {E:List aa} {pr lt:List Bool} {ln:List (List Int)} {n:Nat}
theorem DR (hp:pr.length=n) (hl:lt.length=n) (k:Nat):Cq (fT V E pr lt ln n) k=qo pr lt k:=by
 unfold Cq qo;congr 2;refine List.filter_congr fun i _=>?_;rw[Ex hp,Ew hl]
theorem Gw (hp:pr.length=n) (hl:lt.length=n) (fs:List gP) (nx:Int):vH (fT V E pr lt ln n) fs nx=fU V E pr lt fs nx n:=by
 unfold vH fU;rw[mP];congr 1
 ·congr 1
  refine fS fun k hk=>?_;have hk:=List.mem_range.1 hk;unfold Nw;rw[DR hp hl,iH hk];rfl
 ·refine fS fun k hk=>?_
  have hk:=List.mem_range.1 hk;unfold Ny Kp;rw[DR hp hl,iH hk];show (if lt.getD k false=true then [nc (V.getD k 0) (if pr.getD k false=true then E.getD k iM else if lt.getD k false=true then _ else _)] else [])=_;by_cases h:lt.getD k false=true
  ·rw[if_pos h,if_pos h,if_pos h]
  ·rw[if_neg h,if_neg h]
theorem zh (A:Int→Bool) (V:List Int) (T:List aa) {k:Nat} (hk:k < V.length):(dr A V T).getD k false=(Co A V T k).pr:=by
 unfold dr;rw[List.getD_eq_getElem?_getD,List.getElem?_map,List.getElem?_range hk];rfl
theorem zg (A:Int→Bool) (V:List Int) (T:List aa) {k:Nat} (hk:k < V.length):(bG V T).getD k []=(Co A V T k).ln:=by
 unfold bG;rw[List.getD_eq_getElem?_getD,List.getElem?_map,List.getElem?_range hk];rfl
theorem ve (V:List Int) (T:List aa):(bG V T).length=V.length:=by unfold bG;simp
theorem Ls (A:Int→Bool) (V:List Int) (T:List aa):Au (Co A V T) V.length=rF (dr A V T) (bG V T):=by
 unfold Au rF;rw[ve];refine List.map_congr_left fun k hk=>?_;have hk:=List.mem_range.1 hk;rw[zh A V T hk,zg A V T hk]
theorem Ge (A:Int→Bool) (N:Int) (V:List Int) (T:List aa) {k:Nat} (hk:k < V.length):(iI N (dr A V T) (bG V T)).getD k false=xJ (Co A V T) V.length N V.length k:=by
 unfold iI xJ;rw[List.getD_eq_getElem?_getD,List.getElem?_map,ve,List.getElem?_range hk,Ls,Option.map_some,Option.getD_some,Bool.eq_iff_iff,List.any_eq_true,List.any_eq_true];constructor
 ·rintro ⟨j,h1,h2⟩
  refine ⟨j,h1,?_⟩;have:=List.mem_range.1 h1;rwa [zh A V T this,zg A V T this] at h2
 ·rintro ⟨j,h1,h2⟩
  refine ⟨j,h1,?_⟩;have:=List.mem_range.1 h1;rwa [zh A V T this,zg A V T this]
theorem Br (A:Int→Bool) (N:Int) (V:List Int) (T:List aa):zj A N V T=fT V T (dr A V T) (iI N (dr A V T) (bG V T)) (bG V T) V.length:=by
 unfold zj wq fT;refine List.map_congr_left fun k hk=>?_;have hk:=List.mem_range.1 hk;unfold Kj;rw[zh A V T hk,zg A V T hk,Ge A N V T hk];rfl
end
theorem CL (l:List aa) (hl:l.length≤1000000000):af Tryz.prog 152 [.sl 4 (l.map aa.pv) none] [] (fun y Γ'=> ∃ tk:Tok,tk.e=26∧y=.sl 4 (l.map aa.pv) (some tk)∧Γ'= [.tok tk]):=by
 refine af.ah ai Tryz.func152 rfl rfl (n:=8) rfl rfl ?_
 conv=>whnf
 repeat' (first|refine aY ?_|((intro _);conv=>whnf)|(refine zX (fun hc=>?_) (fun hc=>?_)<;>(try simp only[SY] at hc)<;>(conv=>whnf)))
 ·rename_i q hq
  have:l= []:=by simpa using hq hc
  subst this;refine ak.qJ (Γ':= [.tok (aB 4 26)]) (au.nil 4 26 _) ?_;exact ak.gen (Wk.aB 4 26) ⟨_,rfl,rfl,rfl⟩
 ·rename Tok=>t5
  exact ak.gen (y:=.sl 4 (l.map aa.pv) (some t5)) (Γ':= [.tok t5]) (Wk.refl _) ⟨t5,by assumption,rfl,rfl⟩
def oe (l:List aa):List (List PV):=(List.range l.length).map fun i=> [.int .i64 ((l.length - 1 - i:Nat):Int),.agg (l.getD (l.length - 1 - i) iM).cells]
theorem Hy (b:Nat) (l:List aa) (hl:l.length≤1000000000):DX Tryz.prog 195 [.ptr b 0] [.box b [.sl 4 (l.map aa.pv) none]] (oe l):=by
 intro lp J X hy Γ h0;refine af.ghost (au.drop (Γ':=.box b [.sl 4 (l.map aa.pv) none]::Γ) (Γ1:= []) (by rw[List.append_nil];exact List.perm_append_singleton _ _)) ?_;refine af.ah ai Tryz.func195 rfl rfl (n:=19) rfl rfl ?_
 conv=>whnf
 repeat (first|refine wu ?_|((intro _);conv=>whnf))
 have hlen:(oe l).length=l.length:=by simp[oe]
 refine ax.over [3,7,8,9,10,11,12,13,14,15,16,17,18] (fun x:Nat×List aj=> [(3,.int .i64 ((l.length:Int) - 1 - x.1))]) (fun x:Nat×List aj=>.box b [.sl 4 (l.map aa.pv) none]::x.2) (fun x=>x.1≤l.length∧J x.1 x.2) (fun x=>l.length - x.1) (0,Γ) ⟨Nat.zero_le _,h0⟩ wA (hp:=⟨by rw[List.append_nil]⟩) (Γ1:= []) ?_;rintro ⟨k,Γk⟩ ⟨hk,hJ⟩;dsimp only at hk hJ⊢
 conv=>whnf
 repeat' (first|refine aY ?_|(refine zX (fun hc=>?_) (fun hc=>?_)<;>(try simp only[SY] at hc)<;>(conv=>whnf)))
 ·have hlt:k < l.length:=by omega
  have e1:((l.length:Int) - 1 - k).toNat=l.length - 1 - k:=by omega
  have hlt2:l.length - 1 - k < l.length:=by omega
  have e9:(oe l)[k]?=some [.int .i64 ((l.length:Int) - 1 - k),.agg (l[((l.length:Int) - 1 - k).toNat]'(by omega)).cells]:=by
   unfold oe;rw[List.getElem?_map,List.getElem?_range hlt];simp only[Option.map_some,Option.some.injEq,List.cons.injEq,and_true,PV.int.injEq,true_and];refine ⟨by omega,?_⟩;simp only[e1];simp[List.getD,hlt2]
  refine kr.KQ [.box b [.sl 4 (l.map aa.pv) none]] (hy k _ Γk e9 hJ) (aX.refl _) (List.Perm.refl _) ?_;rintro _ Γ1 (⟨rfl,hJ1⟩ | ⟨rfl,hX⟩)
  ·conv=>whnf
   repeat' (first|refine aY ?_|(refine zX (fun hc=>?_) (fun hc=>?_)<;>(try simp only[SY] at hc)<;>omega))
   exact av (k + 1,Γ1) ⟨by show k + 1≤_;omega,hJ1⟩ (by show l.length - (k + 1) < l.length - k;omega) wA (hp:=⟨by rw[List.append_nil]⟩)
  ·conv=>whnf
   skip
   exact ak.gen (Γ':=Γ1) (hp:=⟨(List.perm_append_singleton _ _).symm⟩) (Wk.refl _) (.inr hX)
 ·have:k=l.length:=by omega
  subst this;exact ak.gen (Γ':=Γk) (hp:=⟨(List.perm_append_singleton _ _).symm⟩) (Wk.refl _) (.inl (by rw[hlen];exact hJ))
theorem Ky (l:List aa):af Tryz.prog 151 [.sl 4 (l.map aa.pv) none] [] (fun y Γ'=> ∃ b,y=.fn (.func 195) [.ptr b 0]∧Γ'= [.box b [.sl 4 (l.map aa.pv) none]]):=by
 refine af.ah ai Tryz.func151 rfl rfl (n:=4) rfl rfl ?_
 conv=>whnf
 repeat' (first|((intro _);conv=>whnf)|(refine zX (fun hc=>?_) (fun hc=>?_)<;>(try simp only[SY] at hc)<;>omega))
 rename_i b;exact ak.gen (y:=.fn (.func 195) [.ptr b 0]) (Γ':= [.box b [.sl 4 (l.map aa.pv) none]]) (hp:=bu.self _) (Wk.refl _) ⟨b,rfl,rfl⟩
theorem Fj {l:List aa} {j:Nat} {ys:List PV} (h:(oe l)[j]?=some ys): ∃ m, ∃ hm:m < l.length,m=l.length - 1 - j∧j < l.length∧ys= [.int .i64 (m:Int),.agg l[m].cells]:=by
 unfold oe at h;rw[List.getElem?_map] at h;by_cases hj:j < l.length
 ·rw[List.getElem?_range hj] at h
  simp only[Option.map_some,Option.some.injEq] at h;refine ⟨l.length - 1 - j,by omega,rfl,hj,?_⟩;rw[←h,List.getD_eq_getElem?_getD,List.getElem?_eq_getElem (by omega)];rfl
 ·rw[List.getElem?_eq_none (by simpa using hj)] at h
  cases h
theorem Du {l:List aa} {t:aa} {m:Nat} (hm:m < l.length):jJ (l.drop m) t=.mk l[m].op l[m].n l[m].v (l[m].t++ [jJ (l.drop (m + 1)) t]):=by
 unfold jJ;rw[List.drop_eq_getElem_cons hm,List.foldr_cons]
theorem I0 (l:List aa) (t:aa) (hl:l.length≤1000000000) (hb:aa.aE l≤1000000000):aA Tryz.prog 94 [.sl 4 (l.map aa.pv) none,.agg t.cells] (.agg (jJ l t).cells):=by
 refine af.ah ai Tryz.func94 rfl rfl (n:=20) rfl rfl ?_
 conv=>whnf
 repeat' (first|((intro _);conv=>whnf)|(refine zX (fun hc=>?_) (fun hc=>?_)<;>(try simp only[SY] at hc)<;>omega))
 rename_i b3 b4;refine aq.go (Ky l) (aX.refl _) ?_;rintro _ _ ⟨bb,rfl,rfl⟩
 conv=>whnf
 skip
 refine PRange.go (oe l) (fun o:aa=> [.box b4 [.int .i64 0,.int .i64 0,.nil,.nil],.box b3 [.int .i64 o.op,.int .i64 o.n,.sl 1 (o.v.map (PV.int .i64)) none,.sl 4 (o.t.map aa.pv) none]])
  (fun k o=>k≤l.length∧o=jJ (l.drop (l.length - k)) t) (fun _ _=>False) t (Hy bb l (by omega)) ⟨Nat.zero_le _,by rw[Nat.sub_zero,List.drop_length];rfl⟩ (hp:=⟨by rw[List.append_nil];exact (List.perm_append_singleton _ _).symm⟩) (Γ1:= []) (by intro ys hy;obtain ⟨m,_,rfl⟩:=List.mem_map.1 hy;rfl) ?_ ?_ (fun _ _ _ h=>h.elim)
 ·rintro j ys o hk ⟨hj,ho⟩
  obtain ⟨m,hm,hjm,hjl,rfl⟩:=Fj hk;have hd1:l.length - j=m + 1:=by omega
  have hd2:l.length - (j + 1)=m:=by omega
  have hbm:l[m].t.length≤1000000000:=by
   have h1:=aa.cJ (List.getElem_mem hm);have h2:=aa.bn l[m].t;have h3:=l[m].bE;omega
  rw[hd1] at ho
  conv=>whnf
  repeat' (first|refine aY ?_|((intro _);conv=>whnf)|(refine zX (fun hc=>?_) (fun hc=>?_)<;>(try simp only[SY] at hc)<;>omega))
  refine ⟨rfl,?_⟩
  conv=>whnf
  skip
  refine aD.sE [] [2] [5,6,7] ai mixed ?_
  conv=>whnf
  conv=>whnf
  repeat' (first|refine aY ?_|(refine zX (fun hc=>?_) (fun hc=>?_)<;>(try simp only[SY] at hc)<;>omega))
  refine aq.go (Γ1:= []) (CL l[m].t (by omega)) (aX.refl _) ?_;rintro _ _ ⟨tk,hte,rfl,rfl⟩
  conv=>whnf
  repeat' (first|refine aY ?_|((intro _);conv=>whnf)|(refine zX (fun hc=>?_) (fun hc=>?_)<;>(try simp only[SY] at hc)<;>omega))
  rename Tok=>t5
  refine ⟨rfl,_, [.box b4 [.int .i64 0,.int .i64 0,.nil,.nil],.box b3 [.int .i64 l[m].op,.int .i64 l[m].n,.sl 1 (l[m].v.map (PV.int .i64)) none,.sl 4 ((l[m].t++ [o]).map aa.pv) none]],c8.of (aX.refl _) (au.trans (au.box (b:=b3) (cs:= [.int .i64 l[m].op,.int .i64 l[m].n,.sl 1 (l[m].v.map (PV.int .i64)) none,.sl 4 ((l[m].t++ [o]).map aa.pv) (some t5)]) (cs':= [.int .i64 l[m].op,.int .i64 l[m].n,.sl 1 (l[m].v.map (PV.int .i64)) none,.sl 4 ((l[m].t++ [o]).map aa.pv) none]) wA) (au.drop bu.p)),aa.mk l[m].op l[m].n l[m].v (l[m].t++ [o]),⟨by omega,?_⟩,rfl⟩;rw[hd2,Du hm, ←ho]
 ·rintro bd o ⟨hle,ho⟩
  have hbl:(oe l).length=l.length:=by simp[oe]
  rw[hbl,Nat.sub_self,List.drop_zero] at ho;subst ho
  conv=>whnf
  repeat' (first|refine aY ?_|(refine zX (fun hc=>?_) (fun hc=>?_)<;>(try simp only[SY] at hc)<;>omega))
  refine ⟨⟨[], [], [],_,rfl,?_⟩⟩;simp only[List.cons_append,List.nil_append]
  conv=>whnf
  repeat (refine wu ?_)
  exact ak.pure eg.wk
def G9 (f:Nat→aa) (n i:Nat):List aa:=(List.range n).map fun k=>if k < i then f k else iM
theorem ue (f:Nat→aa) (n i:Nat):(G9 f n i).length=n:=by unfold G9;simp
theorem Ap {f:Nat→aa} {n i j:Nat} (h:j < (G9 f n i).length):(G9 f n i)[j]=if j < i then f j else iM:=by simp[G9]
theorem LX {f:Nat→aa} {n i:Nat}:(G9 f n i).set i (f i)=G9 f n (i + 1):=by
 refine List.ext_getElem (by simp[ue]) fun j h1 h2=>?_;rw[List.getElem_set,Ap h2];by_cases e:i=j
 ·subst e;rw[if_pos rfl,if_pos (by omega)]
 ·rw[if_neg e,Ap (by rw[ue] at h2 ⊢; exact h2)]
  by_cases h:j < i
  ·rw[if_pos h,if_pos (by omega)]
  ·rw[if_neg h,if_neg (by omega)]
theorem J2 (f:Nat→aa) (n:Nat):List.replicate n iM=G9 f n 0:=by
 refine List.ext_getElem (by simp[ue]) fun j h1 h2=>?_;rw[Ap h2,if_neg (by omega),List.getElem_replicate]
theorem G4 (n:Nat):o8 (List.replicate n (PV.agg [.int .i64 0,.int .i64 0,.nil,.nil])) ((List.replicate n iM).map aa.pv):=by
 induction n with
 | zero=>exact .nil
 | succ n ih=>exact .cons (.cons (Wk.refl _) (.cons (Wk.refl _) (.cons (Wk.ec rfl) (.cons (Wk.ec rfl) .nil)))) ih
theorem xp {p q:Prop} (k:q) (h:q→p:=by intro hq;first | exact aD.sP (some 42) rfl [] [7] ai mixed hq | exact aD.sP (some 86) rfl [] [7] ai mixed hq):p:=h k
theorem Gv (b r:Nat) (L:List Int) (nx:Int) (bc:Nat) (tk:Tok) (l0:List aa) (an:List cN) (ti:Tok) (hnx:0≤nx∧nx≤1000000000) (h1:tk.e=26) (h2:tk.s=4) (hl0:l0.length≤10000) (hts:ti.s=8) (hl:an.length≤500) (hln: ∀ x∈an,x.ln.length≤500) (hlr: ∀ x∈an, ∀ y∈x.ln,0≤y∧y < (an.length:Int)) (hfl:(iQ an).length≤500):
  af Tryz.prog 93 [.ptr b 0,.ptr bc 0,.ms ti] (.row ti (an.map cN.pv)::.box bc [.ms tk]::.row tk (l0.map aa.pv)::AU b r L nx) (fun y Γ'=> ∃ tk':Tok,tk'.e=26∧tk'.s=4∧y=.bp []∧Γ'=.row ti (an.map cN.pv)::.box bc [.ms tk']::.row tk' ((l0++vH an (iQ an) nx).map aa.pv)::AU b r L (nx + Cq an an.length)):=by
 refine af.ah ai Tryz.func93 rfl rfl (n:=95) rfl rfl ?_
 conv=>whnf
 skip
 refine aq.go (xy an ti hts hl hln hlr) (aX.refl _) ?_;rintro _ _ ⟨rfl,rfl⟩;generalize hfs:iQ an=fs at *
 conv=>whnf
 repeat' (first|((first|refine kK.row (by omega) (by omega) (by omega) (by show _ * 64≤_;omega) rfl fun tv hte hvs=>?_|(refine eF.map fun _=>?_));conv=>whnf)|(refine zX (fun hc=>?_) (fun hc=>?_)<;>(try simp only[SY] at hc)<;>omega))
 rw[Int.toNat_natCast];refine ax.jy (au.GG (t:=tv) (G4 an.length)) ?_
 refine ax.over [8,9,20,21,22,23,24,25,26,27,28,29,30,31,32,33,34,35,36,37,38,39,40,41,42,43,44,45,46,47,48,49,50,51,52,53,54,55,56,57,58,59,60,61,62,63,64,65] (fun x:Nat×Tok×List aa×Int×List aa=> [(20,.int .i64 x.1)]) (fun x=> [.row tv (x.2.2.2.2.map aa.pv),.row ti (an.map cN.pv),.box bc [.ms x.2.1],.row x.2.1 (x.2.2.1.map aa.pv),.box b [.mp r,.int .i64 x.2.2.2.1],.mp r (.int .i64) (aS L) []])
  (fun x=>x.1≤an.length∧x.2.1.e=26∧x.2.1.s=4∧x.2.2.1=l0++(List.range x.1).flatMap (Nw an nx)∧x.2.2.1.length≤10000 + x.1∧x.2.2.2.1=nx + Cq an x.1∧x.2.2.2.2=G9 (Kp an nx) an.length x.1) (fun x=>an.length - x.1) (0,tk,l0,nx,List.replicate an.length iM) ⟨Nat.zero_le _,h1,h2,by simp,by dsimp only;omega,by simp[Cq],J2 _ _⟩ wA ?_
 rintro ⟨i,tk,l,nz,vs⟩ ⟨hi,h1,h2,hls,hll,hnz,hvs⟩;dsimp only at hi h1 h2 hls hll hnz hvs ⊢;have hvl:=ue (Kp an nx) an.length i;rw[←hvs] at hvl;have htn:=N3 an i;rcases Nat.lt_or_ge i an.length with hlt | hge
 ·have hid:an.getD i jR=an[i]:=by rw[List.getD_eq_getElem?_getD,List.getElem?_eq_getElem hlt];rfl
  have hst:l++Nw an nx i=l0++(List.range (i + 1)).flatMap (Nw an nx):=by rw[hls,List.range_succ,List.flatMap_append,List.append_assoc];simp
  have hset:=LX (f:=Kp an nx) (n:=an.length) (i:=i);have hts2:=J3 an i;rw[Nw,hid] at hst;rw[hid] at hts2;rw[Kp,hid, ←hvs] at hset;have hvi:i < vs.length:=by omega
  conv=>whnf
  repeat' (first|((first|((apply zZ);exact tB)|refine aM ?_|refine aF ?_|refine xp ?_|intro _|refine zG ?_);conv=>whnf)|(refine zX (fun hc=>?_) (fun hc=>?_)<;>(try simp only[SY] at hc)<;>first|omega|(conv=>whnf)))
  ·rw[if_pos (by assumption),List.append_nil] at hst
   rw[if_pos (by assumption)] at hset;rw[if_neg (by simp_all),Int.add_zero] at hts2;exact av (i + 1,tk,l,nz,vs.set i an[i].e) ⟨by show i + 1≤_;omega,h1,h2,hst,by show l.length≤10000 + (i + 1);omega,by show nz=_;rw[hts2];exact hnz,hset⟩ (by show an.length - (i + 1) < an.length - i;omega) wA
  ·rw[if_neg (by simp_all),if_pos (by assumption), ←hnz] at hst
   rw[if_neg (by simp_all),if_pos (by assumption), ←hnz] at hset;rw[if_pos ⟨by assumption,by assumption⟩] at hts2;have hvl2:(vs.set i an[i].e).length=an.length:=by rw[List.length_set];exact hvl
   have hset2:(vs.set i an[i].e).set i (.mk 1 nz [] [])=G9 (Kp an nx) an.length (i + 1):=by rw[List.set_set];exact hset
   generalize vs.set i an[i].e=vs2 at *;refine aq.go (zn bc tk l nz an[i].e h1 h2 (by omega)) (aX.refl _) ?_;rintro _ _ ⟨tk2,e1,e2,rfl,rfl⟩
   conv=>whnf
   repeat' (first|((first|refine aM ?_|refine aF ?_);conv=>whnf)|(refine zX (fun hc=>?_) (fun hc=>?_)<;>(try simp only[SY] at hc)<;>omega))
   exact av (i + 1,tk2,l++ [mA nz an[i].e],nz + 1,vs2.set i (.mk 1 nz [] [])) ⟨by show i + 1≤_;omega,e1,e2,hst,by show (l++ [_]).length≤10000 + (i + 1);rw[List.length_append,List.length_singleton];omega,by show nz + 1=_;rw[hts2,hnz];omega,hset2⟩ (by show an.length - (i + 1) < an.length - i;omega) wA
  ·rw[if_neg (by simp_all),if_neg (by simp_all)] at hst
   rw[if_neg (by simp_all),if_neg (by simp_all)] at hset;rw[if_neg (by simp_all),Int.add_zero] at hts2;refine aq.go (zn bc tk l an[i].v an[i].e h1 h2 (by omega)) (aX.refl _) ?_;rintro _ _ ⟨tk2,e1,e2,rfl,rfl⟩
   conv=>whnf
   repeat' (first|((refine aM ?_);conv=>whnf)|(refine zX (fun hc=>?_) (fun hc=>?_)<;>(try simp only[SY] at hc)<;>omega))
   exact av (i + 1,tk2,l++ [mA an[i].v an[i].e],nz,vs.set i an[i].e) ⟨by show i + 1≤_;omega,e1,e2,hst,by show (l++ [_]).length≤10000 + (i + 1);rw[List.length_append,List.length_singleton];omega,by show nz=_;rw[hts2];exact hnz,hset⟩ (by show an.length - (i + 1) < an.length - i;omega) wA
 ·obtain rfl:i=an.length:=by omega
  have hN:nz=nx + Cq an an.length:=hnz;have hvf:vs=G9 (Kp an nx) an.length an.length:=hvs;generalize nx + Cq an an.length=nz2 at *;subst hN;have hl1: ∀ fs2:List gP,vH an fs2 nx=(List.range an.length).flatMap (Nw an nx)++(((List.range (an.length + 1)).flatMap fun k:Nat=>cj fs2 (k:Int))++(List.range an.length).flatMap (Ny an nx)):=fun fs2=>by unfold vH;rw[List.append_assoc]
  rw[hl1, ←List.append_assoc, ←hls]
  conv=>whnf
  repeat' (first|((first|refine aM ?_|(refine eF.map fun _=>?_));conv=>whnf)|(refine zX (fun hc=>?_) (fun hc=>?_)<;>(try simp only[SY] at hc)<;>first|omega|(conv=>whnf)))
  refine ax.over [10,69,70,71,72,73,74,75,76] (fun x:Nat×Tok×List aa=> [(69,.int .i64 x.1)]) (fun x=> [.row tv (vs.map aa.pv),.row ti (an.map cN.pv),.box bc [.ms x.2.1],.row x.2.1 (x.2.2.map aa.pv),.box b [.mp r,.int .i64 nz],.mp r (.int .i64) (aS L) []])
   (fun x=>x.1≤an.length + 1∧x.2.1.e=26∧x.2.1.s=4∧x.2.2=l++(List.range x.1).flatMap (fun k:Nat=>cj fs (k:Int))∧x.2.2.length≤20000 + x.1 * 500) (fun x=>an.length + 1 - x.1) (0,tk,l) ⟨Nat.zero_le _,h1,h2,by simp,by dsimp only;omega⟩ wA ?_
  rintro ⟨m,tk,l2⟩ ⟨hm,h1,h2,hl2,hb2⟩;dsimp only at hm h1 h2 hl2 hb2 ⊢;rcases Nat.lt_or_ge m (an.length + 1) with hml | hmg
  ·have hst:l2++cj fs (m:Int)=l++(List.range (m + 1)).flatMap (fun k:Nat=>cj fs (k:Int)):=by rw[hl2,List.range_succ,List.flatMap_append,List.append_assoc];simp
   have hfi:=oG fs (m:Int)
   conv=>whnf
   repeat' ((refine zX (fun hc=>?_) (fun hc=>?_)<;>(try simp only[SY] at hc)<;>first|omega|(conv=>whnf)))
   refine aq.go (yX bc tk l2 fs (m:Int) h1 h2 (by omega)) (aX.refl _) ?_;rintro _ _ ⟨tk2,e1,e2,rfl,rfl⟩
   conv=>whnf
   repeat' (first|((refine aM ?_);conv=>whnf)|(refine zX (fun hc=>?_) (fun hc=>?_)<;>(try simp only[SY] at hc)<;>omega))
   exact av (m + 1,tk2,l2++cj fs (m:Int)) ⟨by show m + 1≤_;omega,e1,e2,hst,by show (l2++_).length≤20000 + (m + 1) * 500;rw[List.length_append];omega⟩ (by show an.length + 1 - (m + 1) < an.length + 1 - m;omega) wA
  ·obtain rfl:m=an.length + 1:=by omega
   rw[←List.append_assoc, ←hl2]
   conv=>whnf
   repeat' (first|(((refine eF.map fun _=>?_));conv=>whnf)|(refine zX (fun hc=>?_) (fun hc=>?_)<;>(try simp only[SY] at hc)<;>first|omega|(conv=>whnf)))
   refine ax.over [11,12,79,80,81,82,83,84,85,86,87,88,89,90,91,92,93,94] (fun x:Nat×Tok×List aa=> [(79,.int .i64 x.1)]) (fun x=> [.row tv (vs.map aa.pv),.row ti (an.map cN.pv),.box bc [.ms x.2.1],.row x.2.1 (x.2.2.map aa.pv),.box b [.mp r,.int .i64 nz],.mp r (.int .i64) (aS L) []])
    (fun x=>x.1≤an.length∧x.2.1.e=26∧x.2.1.s=4∧x.2.2=l2++(List.range x.1).flatMap (Ny an nx)∧x.2.2.length≤300000 + x.1) (fun x=>an.length - x.1) (0,tk,l2) ⟨Nat.zero_le _,h1,h2,by simp,by dsimp only;omega⟩ wA ?_
   rintro ⟨i,tk,l3⟩ ⟨hi,h1,h2,hl3,hb3⟩;dsimp only at hi h1 h2 hl3 hb3 ⊢;rcases Nat.lt_or_ge i an.length with hlt | hge
   ·have hid:an.getD i jR=an[i]:=by rw[List.getD_eq_getElem?_getD,List.getElem?_eq_getElem hlt];rfl
    have hvi:i < vs.length:=by omega
    have hve:vs[i]=Kp an nx i:=by
     have:vs[i]?=some (Kp an nx i):=by
      rw[hvf];unfold G9;rw[List.getElem?_map,List.getElem?_range hlt,Option.map_some,if_pos hlt]
     rw[List.getElem?_eq_getElem hvi] at this;exact Option.some.inj this
    have hst:l3++Ny an nx i=l2++(List.range (i + 1)).flatMap (Ny an nx):=by rw[hl3,List.range_succ,List.flatMap_append,List.append_assoc];simp
    rw[Ny,hid, ←hve] at hst
    conv=>whnf
    repeat' (first|((first|((apply zZ);first|exact tB|((conv=>whnf);(repeat ((refine aH ?_);conv=>whnf));exact pZ))|refine aM ?_|refine aF ?_|refine xp ?_|intro _|refine zG ?_);conv=>whnf)|(refine zX (fun hc=>?_) (fun hc=>?_)<;>(try simp only[SY] at hc)<;>first|omega|(conv=>whnf)))
    ·rw[if_pos (by assumption)] at hst
     refine aq.go (E3 bc tk l3 an[i].v vs[i] h1 h2 (by omega)) (aX.refl _) ?_;rintro _ _ ⟨tk2,e1,e2,rfl,rfl⟩
     conv=>whnf
     repeat' (first|((refine aM ?_);conv=>whnf)|(refine zX (fun hc=>?_) (fun hc=>?_)<;>(try simp only[SY] at hc)<;>omega))
     exact av (i + 1,tk2,l3++ [nc an[i].v vs[i]]) ⟨by show i + 1≤_;omega,e1,e2,hst,by show (l3++ [_]).length≤300000 + (i + 1);rw[List.length_append,List.length_singleton];omega⟩ (by show an.length - (i + 1) < an.length - i;omega) wA
    ·rw[if_neg (by simp_all),List.append_nil] at hst
     exact av (i + 1,tk,l3) ⟨by show i + 1≤_;omega,h1,h2,hst,by show l3.length≤300000 + (i + 1);omega⟩ (by show an.length - (i + 1) < an.length - i;omega) wA
   ·obtain rfl:i=an.length:=by omega
    rw[←hl3]
    conv=>whnf
    repeat' ((refine zX (fun hc=>?_) (fun hc=>?_)<;>(try simp only[SY] at hc)<;>first|omega|(conv=>whnf)))
    exact ak.gen (y:=.bp []) (Γ':=.row ti (an.map cN.pv)::.box bc [.ms tk]::.row tk (l3.map aa.pv)::AU b r L nz) (Wk.refl _) ⟨tk,h1,h2,rfl,rfl⟩
section
variable {V:List Int} {E T:List aa} {pr lt:List Bool} {ln:List (List Int)}
def qM (V:List Int) (E T:List aa) (pr lt:List Bool) (ln:List (List Int)) (n i:Nat):List cN:=(List.range n).map fun k=>Kj V (if k < i then E else T) pr lt ln k
theorem pW {n i:Nat}:(qM V E T pr lt ln n i).length=n:=by unfold qM;simp
theorem vb {n i j:Nat} (h:j < (qM V E T pr lt ln n i).length):(qM V E T pr lt ln n i)[j]=Kj V (if j < i then E else T) pr lt ln j:=by simp[qM]
theorem Gd {n:Nat}:fT V T pr lt ln n=qM V E T pr lt ln n 0:=by
 unfold fT qM;exact List.map_congr_left fun k _=>by rw[if_neg (by omega)]
theorem Gc {n:Nat}:qM V E T pr lt ln n n=fT V E pr lt ln n:=by
 unfold fT qM;exact List.map_congr_left fun k hk=>by rw[if_pos (List.mem_range.1 hk)]
theorem Is {n i:Nat} {x:cN} (hx:x=Kj V E pr lt ln i):(qM V E T pr lt ln n i).set i x=qM V E T pr lt ln n (i + 1):=by
 subst hx;refine List.ext_getElem (by simp[pW]) fun j h1 h2=>?_;rw[List.getElem_set,vb h2];by_cases e:i=j
 ·subst e;rw[if_pos rfl,if_pos (by omega)]
 ·rw[if_neg e,vb (by rw[pW] at h2 ⊢; exact h2)]
  by_cases h:j < i
  ·rw[if_pos h,if_pos (by omega)]
  ·rw[if_neg h,if_neg (by omega)]
end
section
variable {P:Program} {tt:Nat→TI}
theorem It {τ:Type} {ds:List Nat} {ps:τ→List (Nat×PV)} {G:τ→List aj} {J:τ→Prop} {T T':List PV} {Γ Γ' Γ1:List aj} {D:Ds} (t:τ) (hJ:J t) (hg:au Γ Γ') (hw:bU 0 T' T ds (ps t)) [hp:bu Γ' (G t) Γ1]:tq ds ps G J T D T' Γ D:=
 ⟨rfl,t,hJ,c8.of (bU.wk 0 T' T ds (ps t) hw) (au.trans hg (au.drop hp.p))⟩
theorem aD.ghost {ops:Array Oper} {T:List PV} {Γ Γ':List aj} {K:List PV→List aj→Prop} (hg:au Γ Γ') (h:aD P ops T Γ' K):aD P ops T Γ K:=
 ⟨fun rd nn id w0 F M w a Q' hS hT hQ=>by
  obtain ⟨F1,e1,hS1⟩:=hg w0 F M w hS
  exact h.h rd nn id w0 F1 M w a Q' hS1 (ay.mono e1 _ _ hT) fun F' T2 Γ2 a' w' hle=>hQ F' T2 Γ2 a' w' (Fz.le_trans e1 hle)⟩
end
theorem au.EK (s:Nat) (e:TypeId) (Γ:List aj) (l:List aa) (h:l= []):au Γ (.row (aB s e) (l.map aa.pv)::Γ):=by subst h;exact au.cz s e Γ
def K5 (V:List Int) (lt:List Bool) (i:Nat):List Int:=((List.range i).filter fun k=>lt.getD k false).map fun k=>V.getD k 0
theorem II (V:List Int) (lt:List Bool) (i:Nat):K5 V lt (i + 1)=K5 V lt i++if lt.getD i false=true then [V.getD i 0] else []:=by
 unfold K5;rw[List.range_succ,List.filter_append,List.map_append,List.filter_cons,List.filter_nil];by_cases h:lt.getD i false=true
 ·rw[if_pos h,if_pos h];rfl
 ·rw[if_neg h,if_neg h];rfl
theorem K6 (V:List Int) (lt:List Bool) (i:Nat):(K5 V lt i).length≤i:=by
 unfold K5;rw[List.length_map];exact Nat.le_trans (List.length_filter_le _ _) (by simp)
theorem C5 (V:List Int) (E:List aa) (pr lt:List Bool) (ln:List (List Int)):(cZ V E pr lt ln).length≤pr.length:=by
 have h:=rY (n5 (kX (eo pr lt)) ln);unfold iu at h;rw[List.length_map] at h;unfold cZ;rw[List.length_map];refine Nat.le_trans h ?_;unfold n5 kX eo;rw[List.length_map];exact Nat.le_trans (List.length_filter_le _ _) (by simp)
theorem oF {p q:Prop} (k:q) (h:q→p:=by intro hq;first | exact aD.sT (some 24) rfl [5,10] [12,13,14] ai mixed hq | exact aD.sP (some 43) rfl [] [12] ai mixed hq | exact aD.sP (some 56) rfl [9] [10] ai mixed hq):p:=h k
theorem Lu (b r:Nat) (L:List Int) (nx:Int) (t:aa) (hb:aa.aE t.t + aa.fo 1 t.t + 9 * t.v.length + 10≤1000000000) (hv:t.t.length=t.v.length + 1) (hn:t.v.length≤500) (hnx:0≤nx∧nx≤1000000000):
  af Tryz.prog 52 [.ptr b 0,.agg t.cells] (AU b r L nx) (fun y Γ'=>y=.agg (jS L.contains t.n t.v t.t nx).1.cells∧Γ'=AU b r L (jS L.contains t.n t.v t.t nx).2):=by
 have hbe:=t.bE;have hbs:=aa.bn t.t;have hrb:=xT L.contains t.n t.v t.t nx hv;have hR:jS L.contains t.n t.v t.t nx=jS L.contains t.n t.v t.t nx:=rfl
 conv at hR=>rhs;unfold jS;dsimp only
 refine af.ah ai Tryz.func52 rfl rfl (n:=86) rfl rfl ?_
 conv=>whnf
 repeat' (first|refine aY ?_|((intro _);conv=>whnf)|(refine zX (fun hc=>?_) (fun hc=>?_)<;>(try simp only[SY] at hc)<;>omega))
 refine aq.go (Gb b r L nx t (by omega) hv hn) (aX.refl _) ?_;rintro _ _ ⟨ti,hte,hts,rfl,rfl⟩;rw[Br];have hpl:(dr L.contains t.v t.t).length=t.v.length:=by unfold dr;simp
 have hnl:(bG t.v t.t).length=t.v.length:=by unfold bG;simp
 have hltl:(iI t.n (dr L.contains t.v t.t) (bG t.v t.t)).length=t.v.length:=by unfold iI;simp[hnl]
 have hgo:=qR t.v t.t
 have hll: ∀ l∈bG t.v t.t,l.length≤500:=fun l hl=>by
  unfold bG at hl;obtain ⟨k,hk,rfl⟩:=List.mem_map.1 hl;have:=gd t.v.length fun j=>(ej (dG (t.t.getD k iM).all)).contains (t.v.getD j 0);unfold r5;omega
 have hlv:iV t.v (iI t.n (dr L.contains t.v t.t) (bG t.v t.t))=K5 t.v (iI t.n (dr L.contains t.v t.t) (bG t.v t.t)) t.v.length:=rfl;rw[hlv] at hR;generalize hRR:jS L.contains t.n t.v t.t nx=RR at *;generalize hpr:dr L.contains t.v t.t=pr at *;generalize hln:bG t.v t.t=ln at *;generalize hlt:iI t.n pr ln=lt at *;generalize hnn:t.v.length=n at *;have hil:(fT t.v t.t pr lt ln n).length=n:=mP;have hig: ∀ (i:Nat) (h:i < (fT t.v t.t pr lt ln n).length),(fT t.v t.t pr lt ln n)[i]=Kj t.v t.t pr lt ln i:=fun i h=>by simp[fT]
 generalize hI:fT t.v t.t pr lt ln n=an at *
 conv=>whnf
 repeat' (first|((first|(refine eF.map fun _=>?_)|refine aF ?_|intro _);conv=>whnf)|(refine zX (fun hc=>?_) (fun hc=>?_)<;>(try simp only[SY] at hc)<;>omega))
 rename_i b3 b4 b6 _;refine ax.jy (au.trans (au.nil 1 3 _) (au.trans (au.nil 4 26 _) (au.box (b:=b6) (cs:= [.int .i64 8,.int .i64 0,.nil,.nil]) (cs':= [.int .i64 8,.int .i64 0,.sl 1 (([]:List Int).map (PV.int .i64)) (some (aB 1 3)),.sl 4 (([]:List aa).map aa.pv) (some (aB 4 26))]) wA))) ?_
 refine ax.over [8,18,19,20,21,22,23,24,25,26,27,28,29,30,31,32,33,34,35,36,37] (fun x:Nat×(List Int×Tok)×(List aa×Tok)=> [(18,.int .i64 x.1)]) (fun x=> [.box b6 [.int .i64 8,.int .i64 0,.sl 1 (x.2.1.1.map (PV.int .i64)) (some x.2.1.2),.sl 4 (x.2.2.1.map aa.pv) (some x.2.2.2)],.tok x.2.1.2,.tok x.2.2.2,.row ti (an.map cN.pv),.box b [.mp r,.int .i64 nx],.mp r (.int .i64) (aS L) [],.box b4 [.int .i64 0,.int .i64 0,.nil,.nil],.box b3 [.int .i64 t.op,.int .i64 t.n,.sl 1 (t.v.map (PV.int .i64)) none,.sl 4 (t.t.map aa.pv) none]])
  (fun x=>x.1≤n∧x.2.1.2.e=3∧x.2.2.2.e=26∧x.2.1.1=K5 t.v lt x.1∧x.2.2.1=(K5 t.v lt x.1).map fun _=>aa.mk 13 0 [] []) (fun x=>n - x.1) (0,([],aB 1 3),([],aB 4 26)) ⟨Nat.zero_le _,rfl,rfl,rfl,rfl⟩ wA ?_
 rintro ⟨i,⟨lv,tv⟩,⟨ut,tu⟩⟩ ⟨hi,htv,htu,hlvs,huts⟩;dsimp only at hi htv htu hlvs huts ⊢;have hll2:=K6 t.v lt i;rw[←hlvs] at hll2 huts;have hul:ut.length≤i:=by rw[huts,List.length_map];exact hll2
 rcases Nat.lt_or_ge i n with hlti | hgei
 ·have hid:=hig i (by omega)
  have hsn:=II t.v lt i;have e1:an[i].v=t.v.getD i 0:=by rw[hid];rfl
  have e2:an[i].lt=lt.getD i false:=by rw[hid];rfl
  rw[←hlvs, ←e1, ←e2] at hsn
  conv=>whnf
  repeat' (first|((first|((apply zZ);exact tB)|refine aM ?_|refine aF ?_|refine oF ?_|intro _|refine zG ?_);conv=>whnf)|(refine zX (fun hc=>?_) (fun hc=>?_)<;>(try simp only[SY] at hc)<;>first|omega|(conv=>whnf)))
  ·rename_i tv2 htv2 tu2 htu2
   rw[if_pos (by assumption)] at hsn;exact av (i + 1,(lv++ [an[i].v],tv2),(ut++ [.mk 13 0 [] []],tu2)) ⟨by show i + 1≤_;omega,htv2,htu2,hsn.symm,by show ut++_=_;rw[hsn,List.map_append,huts];rfl⟩ (by show n - (i + 1) < n - i;omega) wA
  ·rw[if_neg (by simp_all),List.append_nil] at hsn
   exact av (i + 1,(lv,tv),(ut,tu)) ⟨by show i + 1≤_;omega,htv,htu,hsn.symm,by show ut=_;rw[hsn];exact huts⟩ (by show n - (i + 1) < n - i;omega) wA
 ·obtain rfl:i=n:=by omega
  have hlve:K5 t.v lt i=lv:=hlvs.symm;rw[hlve] at hR;clear hlvs;have hel:(t.t.map (aa.ask lv)).length=i + 1:=by rw[List.length_map,hv]
  generalize hE:t.t.map (aa.ask lv)=E at *
  conv=>whnf
  repeat' (first|(((refine eF.map fun _=>?_));conv=>whnf)|(refine zX (fun hc=>?_) (fun hc=>?_)<;>(try simp only[SY] at hc)<;>first|omega|(conv=>whnf)))
  refine ax.over [9,40,41,42,43,44,45,46,47,48,49,50,51,52,53,54,55] (fun x:Nat×List cN=> [(40,.int .i64 x.1)]) (fun x=> [.row ti (x.2.map cN.pv),.box b6 [.int .i64 8,.int .i64 0,.sl 1 (lv.map (PV.int .i64)) (some tv),.sl 4 (ut.map aa.pv) (some tu)],.tok tv,.tok tu,.box b [.mp r,.int .i64 nx],.mp r (.int .i64) (aS L) [],.box b4 [.int .i64 0,.int .i64 0,.nil,.nil],.box b3 [.int .i64 t.op,.int .i64 t.n,.sl 1 (t.v.map (PV.int .i64)) none,.sl 4 (t.t.map aa.pv) none]])
   (fun x=>x.1≤i∧x.2=qM t.v E t.t pr lt ln i x.1) (fun x=>i - x.1) (0,an) ⟨Nat.zero_le _,by rw[←hI];exact Gd⟩ wA ?_
  rintro ⟨k,its1⟩ ⟨hk,hits1⟩;dsimp only at hk hits1 ⊢;have hil1:its1.length=i:=by rw[hits1];exact pW
  rcases Nat.lt_or_ge k i with hlk | hgk
  ·have hkt:k < t.t.length:=by omega
   have hk1:k < its1.length:=by omega
   have hkg:its1[k]=Kj t.v t.t pr lt ln k:=by
    have:=vb (V:=t.v) (E:=E) (T:=t.t) (pr:=pr) (lt:=lt) (ln:=ln) (n:=i) (i:=k) (j:=k) (by rw[pW];exact hlk);rw[if_neg (by omega)] at this;simp only[hits1];exact this
   have hke:its1[k].e=t.t[k]:=by rw[hkg];show t.t.getD k iM=_;rw[List.getD_eq_getElem?_getD,List.getElem?_eq_getElem hkt];rfl
   have hset:=Is (V:=t.v) (E:=E) (T:=t.t) (pr:=pr) (lt:=lt) (ln:=ln) (n:=i) (i:=k) (x:={ its1[k] with e:=its1[k].e.ask lv }) (by
    rw[hke,hkg];unfold Kj;have:E.getD k iM=t.t[k].ask lv:=by rw[←hE,List.getD_eq_getElem?_getD,List.getElem?_map,List.getElem?_eq_getElem hkt];rfl
    rw[this])
   rw[←hits1] at hset
   conv=>whnf
   repeat' (first|((first|((apply zZ);first|exact tB|((conv=>whnf);(repeat ((first|refine pC (rN its1[k].e lv (by rw[hke];have:=aa.cJ (List.getElem_mem hkt);omega)) (by ((repeat' (first|exact aX.nil|apply aX.cons|exact Wk.refl _|exact Wk.int OA|exact Wk.tt rfl|exact Wk.ff rfl|exact Wk.ec rfl|exact Wk.tok _ _ _));first|done|fail)) ?_|refine aH ?_);conv=>whnf));exact pZ))|refine oF ?_);conv=>whnf)|(refine zX (fun hc=>?_) (fun hc=>?_)<;>(try simp only[SY] at hc)<;>first|omega|(conv=>whnf)))
   refine cc.row (f:=cN.pv) (l:=its1) ({ its1[k] with e:=its1[k].e.ask lv }:cN) (by omega) rfl rfl rfl (xs:=(its1[k].e.ask lv).cells) (gq.refl _) rfl ?_;rw[hset]
   conv=>whnf
   repeat' (first|((refine aM ?_);conv=>whnf)|(refine zX (fun hc=>?_) (fun hc=>?_)<;>(try simp only[SY] at hc)<;>omega))
   exact av (k + 1,qM t.v E t.t pr lt ln i (k + 1)) ⟨by show k + 1≤_;omega,rfl⟩ (by show i - (k + 1) < i - k;omega) wA
  ·obtain rfl:k=i:=by omega
   have hkt:its1.length < t.t.length:=by omega
   conv=>whnf
   skip
   refine kJ.no (by simp;omega) ?_
   conv=>whnf
   repeat (((first|((apply zZ);first|exact tB|((conv=>whnf);(repeat ((first|(refine eF.map fun _=>?_)|refine pC (rN t.t[its1.length] lv (by have:=aa.cJ (List.getElem_mem hkt);omega)) (by ((repeat' (first|exact aX.nil|apply aX.cons|exact Wk.refl _|exact Wk.int OA|exact Wk.tt rfl|exact Wk.ff rfl|exact Wk.ec rfl|exact Wk.tok _ _ _));first|done|fail)) ?_);conv=>whnf));exact pZ))|refine aF ?_|refine oF ?_|intro _);conv=>whnf))
   rename_i b10 b11;have hbk:lv.length=0∨0 < lv.length:=by omega
   refine nV.join (fun _:Tok=> []) (fun tk=> [.box b11 [.ms tk],.row tk ((jT lv).map aa.pv),.box b10 [.int .i64 (t.t[its1.length].ask lv).op,.int .i64 (t.t[its1.length].ask lv).n,.sl 1 ((t.t[its1.length].ask lv).v.map (PV.int .i64)) none,.sl 4 ((t.t[its1.length].ask lv).t.map aa.pv) none],.row ti (its1.map cN.pv),.box b [.mp r,.int .i64 nx],.mp r (.int .i64) (aS L) [],.box b4 [.int .i64 0,.int .i64 0,.nil,.nil],.box b3 [.int .i64 t.op,.int .i64 t.n,.sl 1 (t.v.map (PV.int .i64)) none,.sl 4 (t.t.map aa.pv) none]]) (fun tk=>tk.e=26∧tk.s=4) ?_ ?_
   ·conv=>whnf
    repeat' (first|((first|refine aM ?_|intro _);conv=>whnf)|(refine zX (fun hc=>?_) (fun hc=>?_)<;>(try simp only[SY] at hc)<;>(conv=>whnf)))
    ·obtain ⟨l0,hl0⟩: ∃ l0:List aa,l0= []:=⟨_,rfl⟩
     have hl0l:l0.length=0:=by rw[hl0];rfl
     refine aD.ghost (au.trans (au.EK 4 26 _ l0 hl0) (au.box (b:=b11) (cs:= [.nil]) (cs':= [.ms (aB 4 26)]) (.cons (Wk.cz _ _) .nil))) ?_;have hz1:(aB 4 26).e=26:=rfl;have hz2:(aB 4 26).s=4:=rfl;generalize aB 4 26=tz at *;refine aD.tree ai mixed [0,0,1,0,15,31,63,31] [1,3] [0,2,4,5,6,7] [.box b11 [.ms tz],.row tz (l0.map aa.pv)] ?_
     conv=>whnf
     conv=>whnf
     repeat' (first|((first|((apply zZ);exact tB)|refine aM ?_|(refine And.intro ?_ ?_)|(refine eF.map fun _=>?_)|(refine eY.Ob (l:=l0++ [aa.mk 0 0 [] []]) (by assumption) (by omega) (by simp;omega) ?_)|(refine cc.rB (f:=aa.pv) (l:=l0++ [aa.mk 0 0 [] []]) (by simp) rfl rfl rfl ?_)|refine aF ?_|intro _);conv=>whnf)|(refine zX (fun hc=>?_) (fun hc=>?_)<;>(try simp only[SY] at hc)<;>omega))
     all_goals try exact trivial
     all_goals
      rename Tok=>t5
      have hu:l0++ [aa.mk 8 0 lv ut]=jT lv:=by
       rw[hl0];unfold jT;rw[if_neg (by omega),huts];rfl
      rw[nP,hu];exact jb t5 ⟨by assumption,by assumption⟩ wA
    ·refine It (aB 4 26) ⟨rfl,rfl⟩ (au.trans (au.EK 4 26 _ (jT lv) (by unfold jT;rw[if_pos (by omega)])) (au.box (b:=b11) (cs:= [.nil]) (cs':= [.ms (aB 4 26)]) (.cons (Wk.cz _ _) .nil))) wA
   ·rintro tk ⟨h1,h2⟩
    conv=>whnf
    skip
    obtain ⟨LK,hLK⟩: ∃ l,l=jT lv++if t.n=1 then jM t.v E pr lt (cZ t.v E pr lt ln) k else fU t.v E pr lt (cZ t.v E pr lt ln) nx k:=⟨_,rfl⟩
    obtain ⟨ny,hny⟩: ∃ k1,k1=if t.n=1 then nx else nx + qo pr lt k:=⟨_,rfl⟩
    refine nV.join (fun _:Tok=> []) (fun tk=> [.box b11 [.ms tk],.row tk (LK.map aa.pv),.box b10 [.int .i64 (t.t[its1.length].ask lv).op,.int .i64 (t.t[its1.length].ask lv).n,.sl 1 ((t.t[its1.length].ask lv).v.map (PV.int .i64)) none,.sl 4 ((t.t[its1.length].ask lv).t.map aa.pv) none],.box b [.mp r,.int .i64 ny],.mp r (.int .i64) (aS L) [],.box b4 [.int .i64 0,.int .i64 0,.nil,.nil]]) (fun tk=>tk.e=26∧tk.s=4) ?_ ?_
    ·rw[Gc] at hits1
     have hFI:iQ its1=cZ t.v E pr lt ln:=by rw[hits1];exact FW hnn hpl hltl hnl
     have hfl:=C5 t.v E pr lt ln;have hul:(jT lv).length≤1:=by unfold jT;split<;>simp
     have hlj: ∀ j,j < k→ln.getD j []∈ln:=fun j hj=>by
      rw[List.getD_eq_getElem?_getD,List.getElem?_eq_getElem (by omega)];exact List.getElem_mem _
     have hln1: ∀ x∈its1,x.ln.length≤500:=fun x hx=>by
      rw[hits1] at hx;obtain ⟨j,hj,rfl⟩:=List.mem_map.1 hx;exact hll _ (hlj j (List.mem_range.1 hj))
     have hln2: ∀ x∈its1, ∀ y∈x.ln,0≤y∧y < (its1.length:Int):=fun x hx y hy=>by
      rw[hits1] at hx;obtain ⟨j,hj,rfl⟩:=List.mem_map.1 hx;have:=hgo _ (hlj j (List.mem_range.1 hj)) y hy;omega
     conv=>whnf
     repeat' (first|refine aY ?_|(refine zX (fun hc=>?_) (fun hc=>?_)<;>(try simp only[SY] at hc)<;>(conv=>whnf)))
     ·rw[if_pos (by assumption)] at hLK hny
      refine aq.go (JQ b11 tk (jT lv) its1 ti h1 h2 (by omega) hts (by omega) hln1 hln2 (by rw[hFI];omega)) (aX.refl _) ?_;rintro _ _ ⟨tk2,e1,e2,rfl,rfl⟩;have hS:=JR (V:=t.v) (E:=E) (pr:=pr) (lt:=lt) (ln:=ln) (n:=k) (cZ t.v E pr lt ln);rw[←hits1] at hS;rw[hFI,hS, ←hLK]
      conv=>whnf
      skip
      rw[←hny];exact jb tk2 ⟨e1,e2⟩ wA
     ·rw[if_neg (by assumption)] at hLK hny
      refine aq.go (Gv b r L nx b11 tk (jT lv) its1 ti hnx h1 h2 (by omega) hts (by omega) hln1 hln2 (by rw[hFI];omega)) (aX.refl _) ?_;rintro _ _ ⟨tk2,e1,e2,rfl,rfl⟩;have hS:=Gw (V:=t.v) (E:=E) (ln:=ln) hpl hltl (cZ t.v E pr lt ln) nx;have hT:=DR (V:=t.v) (E:=E) (ln:=ln) hpl hltl k;rw[←hits1] at hS hT;have hT2:Cq its1 its1.length=qo pr lt k:=by rw[hil1];exact hT
      rw[hFI,hS,hT2, ←hLK, ←hny]
      conv=>whnf
      skip
      exact jb tk2 ⟨e1,e2⟩ wA
    ·rintro tk ⟨h1,h2⟩
     have hEk:E.getD k iM=t.t[its1.length].ask lv:=by
      rw[←hE,List.getD_eq_getElem?_getD,List.getElem?_map,show t.t[k]?=some t.t[its1.length] by rw[←hil1];exact List.getElem?_eq_getElem hkt];rfl
     rw[←hLK, ←hny,hEk] at hR;rw[hR] at hrb ⊢;have hob:=vD LK (t.t[its1.length].ask lv)
     have hlb:(LK.map IF).sum=aa.aE LK:=by
      rw[nE];congr 1
      exact List.map_congr_left fun x _=>(by rw[x.bE];rfl)
     have hLl:=aa.bn LK;dsimp only at hrb ⊢;generalize t.t[its1.length].ask lv=bo at *
     conv=>whnf
     repeat (refine wu ?_)
     refine aq.Jb tk (LK.map aa.pv) (.cons (qx.ms' h2) (.cons (qx.of (Wk.refl _)) .nil)) (I0 LK bo (by omega) (by omega)) ?_
     conv=>whnf
     repeat' (first|refine aY ?_|(refine zX (fun hc=>?_) (fun hc=>?_)<;>(try simp only[SY] at hc)<;>omega))
     exact ak.gen (y:=.agg (jJ LK bo).cells) (Γ':=AU b r L ny) eg.wk ⟨rfl,rfl⟩
theorem AM (t:aa) (x:Int):x∈fD t↔x∈t.vars:=by unfold fD;exact mY _ _
theorem c7.fits {p:Prog} {level:Int} (h:c7 p level):p.body.Oj∧p.body.dep≤400∧(∀ x∈p.body.vars,0≤x∧x≤1000000):=by
 have h1:=p.body.BJ h.2.2.1;exact ⟨p.body.Lo h.2.2.1,by omega,fun x hx=>⟨(h.2.2.2.2.1 x hx).1,(h.2.2.2.2.1 x hx).2.1⟩⟩
theorem Fo (t:aa) (h:t.dep < 1000):(fD t).length≤t.aR:=by
 have:=(t.tw 0 [] List.Pairwise.nil).2.1;rw[t.D9 h] at this;simpa using this
theorem Dk:Wk (.agg [.nil,.int .i64 0,.int .i64 0,.nil,.nil]) (.agg Pu.cells):=Wk.agg (.cons (Wk.ec rfl) (.cons (Wk.refl _) (.cons (Wk.refl _) (.cons (Wk.ec rfl) (.cons (Wk.ec rfl) .nil)))))
theorem c7.binds {p:Prog} {level:Int} (h:c7 p level):(ej (bx p.body.all)).length=p.body.vars.length:=by
 have h1:=p.body.EG [] 0 (by have:=p.body.BJ h.2.2.1;omega);have h2:bx p.body.all=p.body.vars:=h1.2;rw[h2];exact Js h.2.2.2.2.2
theorem xg (A:Int→Bool) (x:aa): ∀ (l:List aa) (nx:Int),aa.cK A (l++ [x]) nx=((aa.cK A l nx).1++ [(x.mI A (aa.cK A l nx).2).1],(x.mI A (aa.cK A l nx).2).2)
 | [],nx=>by rw[List.nil_append,aa.cK,aa.cK];rfl
 | y::l,nx=>by rw[List.cons_append,aa.cK,xg A x l,aa.cK];rfl
theorem LY (pr lt:List Bool) (k:Nat):0≤qo pr lt k∧qo pr lt k≤k:=by
 unfold qo;have:=List.length_filter_le (fun i=>!pr.getD i false && lt.getD i false) (List.range k);rw[List.length_range] at this;omega
theorem Lv (A:Int→Bool) (N:Int) (V:List Int) (T:List aa) (nx:Int):nx≤(jS A N V T nx).2∧(jS A N V T nx).2≤nx + V.length:=by
 unfold jS;dsimp only;have:=LY (dr A V T) (iI N (dr A V T) (bG V T)) V.length
 split<;>omega
theorem MS (A:Int→Bool) (t:aa): ∀ nx:Int,nx≤(t.mI A nx).2∧(t.mI A nx).2≤nx + t.aR:=by
 induction t using aa.ind with
 | h t ih=>
  intro nx
  have key: ∀ l:List aa,(∀ x∈l, ∀ nx:Int,nx≤(x.mI A nx).2∧(x.mI A nx).2≤nx + x.aR)→ ∀ nx:Int,nx≤(aa.cK A l nx).2∧(aa.cK A l nx).2≤nx + aa.aE l:=by
   intro l
   induction l with
   | nil=>intro _ nx;rw[aa.cK,aa.aE];exact ⟨Int.le_refl _,by show nx≤nx + ((0:Nat):Int);omega⟩
   | cons x l ihl=>
    intro h nx;rw[aa.cK,aa.aE];have h1:=h x (by simp) nx;have h2:=ihl (fun y hy=>h y (by simp[hy])) (x.mI A nx).2;dsimp only;omega
  have hk:=key t.t ih nx;rw[aa.uJ,t.bE]
  split
  ·have:=Lv A t.n t.v (aa.cK A t.t nx).1 (aa.cK A t.t nx).2
   omega
  ·dsimp only
   omega
theorem yR (A:Int→Bool): ∀ (l:List aa) (nx:Int),nx≤(aa.cK A l nx).2∧(aa.cK A l nx).2≤nx + aa.aE l
 | [],nx=>by rw[aa.cK,aa.aE];exact ⟨Int.le_refl _,by show nx≤nx + ((0:Nat):Int);omega⟩
 | x::l,nx=>by
  rw[aa.cK,aa.aE];have h1:=MS A x nx;have h2:=yR A l (x.mI A nx).2;dsimp only;omega
def Oq (b r:Nat) (L:List Int) (x:aa):Prop:= ∀ k:Int,0≤k→k + x.aR≤1000000000→
 af Tryz.prog 32 [.ptr b 0,.agg x.cells] (AU b r L k) (fun y Γ'=>y=.agg (x.mI L.contains k).1.cells∧Γ'=AU b r L (x.mI L.contains k).2)
theorem Fx {p q:Prop} (k:q) (h:q→p:=by intro hq;first | exact aD.sP (some 8) rfl [8] [9] ai mixed hq):p:=h k
theorem Dz (b r:Nat) (L:List Int) (t:aa) (k:Int) (hf: ∀ x∈t.t,Oq b r L x) (h0:0≤k) (hk:k + aa.aE t.t≤1000000000) (hb:t.aR≤1000000000):
  af Tryz.prog 51 [.agg t.cells,.fm 32 (.ptr b 0)] (AU b r L k) (fun y Γ'=>y=.agg (aa.mk t.op t.n t.v (aa.cK L.contains t.t k).1).cells∧Γ'=AU b r L (aa.cK L.contains t.t k).2):=by
 have hbe:=t.bE;have hbs:=aa.bn t.t;refine af.ah ai Tryz.func51 rfl rfl (n:=33) rfl rfl ?_
 conv=>whnf
 repeat (first|refine wu ?_|((first|((apply zZ);(conv=>whnf);(repeat ((refine pC (uz t.v (by omega)) wR ?_);conv=>whnf));exact pZ)|refine Fx ?_|intro _);conv=>whnf))
 rename_i b2 b4 b5 _;refine ax.jy (au.trans (au.nil 4 26 _) (au.box (b:=b5) (cs:= [.int .i64 t.op,.int .i64 t.n,gQ t.v,.nil]) (cs':= [.int .i64 t.op,.int .i64 t.n,gQ t.v,.sl 4 (([]:List aa).map aa.pv) (some (aB 4 26))]) wA)) ?_
 refine ax.over [7,19,20,21,22,23,24,25,26,27,28,29,30,31] (fun x:Nat×List aa×Tok×Int=> [(19,.int .i64 x.1)]) (fun x=> [.box b5 [.int .i64 t.op,.int .i64 t.n,gQ t.v,.sl 4 (x.2.1.map aa.pv) (some x.2.2.1)],.tok x.2.2.1,.box b4 [.int .i64 0,.int .i64 0,.nil,.nil],.box b2 [.int .i64 t.op,.int .i64 t.n,gQ t.v,.sl 4 (t.t.map aa.pv) none],.box b [.mp r,.int .i64 x.2.2.2],.mp r (.int .i64) (aS L) []])
  (fun x=>x.1≤t.t.length∧x.2.2.1.e=26∧(x.2.1,x.2.2.2)=aa.cK L.contains (t.t.take x.1) k) (fun x=>t.t.length - x.1) (0, [],aB 4 26,k) ⟨Nat.zero_le _,rfl,by rw[List.take_zero,aa.cK]⟩ wA ?_
 rintro ⟨i,l,tk,nx⟩ ⟨hi,hte,hl⟩;dsimp only at hi hte hl⊢
 have hrl:l.length=i:=by
  have:=pM L.contains (t.t.take i) k;rw[←hl,List.length_take] at this;dsimp only at this;omega
 rcases Nat.lt_or_ge i t.t.length with hlt | hge
 ·have hbt:aa.aE (t.t.take i) + (t.t[i]).aR≤aa.aE t.t:=by
   have h1:t.t.take (i + 1)++t.t.drop (i + 1)=t.t:=List.take_append_drop _ _;have h2:=congrArg aa.aE h1;rw[List.take_succ_eq_append_getElem hlt,lI,lI,aa.aE,aa.aE] at h2;omega
  have hle:=yR L.contains (t.t.take i) k;rw[←hl] at hle;have hsn:=xg L.contains t.t[i] (t.t.take i) k;rw[←hl, ←List.take_succ_eq_append_getElem hlt] at hsn;dsimp only at hle hsn;have hcl:=hf _ (List.getElem_mem hlt) nx (by omega) (by omega)
  obtain ⟨y,hy⟩: ∃ y,t.t[i].mI L.contains nx=y:=⟨_,rfl⟩
  obtain ⟨y,ny⟩:=y;rw[hy] at hsn hcl;dsimp only at hsn hcl
  conv=>whnf
  repeat' (first|refine aY ?_|((intro _);conv=>whnf)|(refine zX (fun hc=>?_) (fun hc=>?_)<;>(try simp only[SY] at hc)<;>first|omega|(conv=>whnf)))
  refine aD.sE [.tok tk,.box b [.mp r,.int .i64 nx],.mp r (.int .i64) (aS L) []] [4,5] [6,7,8] ai mixed ?_
  conv=>whnf
  repeat (refine wu ?_)
  refine aq.go hcl (aX.refl _) ?_;rintro _ _ ⟨rfl,rfl⟩
  conv=>whnf
  repeat' (first|refine aY ?_|((intro _);conv=>whnf)|(refine zX (fun hc=>?_) (fun hc=>?_)<;>(try simp only[SY] at hc)<;>omega))
  rename Tok=>t5
  exact av (i + 1,l++ [y],t5,ny) ⟨by show i + 1≤_;omega,by assumption,hsn.symm⟩ (by show t.t.length - (i + 1) < t.t.length - i;omega) wA
 ·rw[List.take_of_length_le (by omega)] at hl
  rw[←hl]
  conv=>whnf
  repeat' (first|refine aY ?_|(refine zX (fun hc=>?_) (fun hc=>?_)<;>(try simp only[SY] at hc)<;>first|omega|(conv=>whnf)))
  exact ak.gen (y:=.agg (aa.mk t.op t.n t.v l).cells) (Γ':=AU b r L nx) eg.wk ⟨rfl,rfl⟩
theorem xb: ∀ l:List aa,(l.length:Int)≤aa.cW l
 | []=>by rw[aa.cW];exact Int.le_refl _
 | x::l=>by
  have h1:=x.pK;have h2:=xb l;rw[aa.cW,List.length_cons];omega
theorem HP (A:Int→Bool): ∀ (l:List aa) (nx:Int) (M:Int),(∀ x∈l,x.Lx)→(∀ x∈l,(x.cnt:Int) + 10≤M)→(aa.fo 1 (aa.cK A l nx).1:Int)≤aa.aE l∧(aa.aE (aa.cK A l nx).1:Int)≤M * aa.aE l
 | [],nx,M,_,_=>by rw[aa.cK,aa.fo,aa.aE];simp
 | x::l,nx,M,h,hM=>by
  rw[aa.cK];dsimp only;rw[aa.fo,aa.aE,aa.aE];have h1:=uI A x (h x (by simp)) nx;have h2:=HP A l (x.mI A nx).2 M (fun y hy=>h y (by simp[hy])) (fun y hy=>hM y (by simp[hy]));have h3:=hM x (by simp);have h4:((x.cnt:Int) + 10) * x.aR≤M * x.aR:=Int.mul_le_mul_of_nonneg_right h3 (by omega);simp only[Int.natCast_add,Int.mul_add];exact ⟨by omega,by omega⟩
theorem qB {l:List aa} {x:aa} (h:x∈l):x.cnt≤aa.cW l:=by
 induction l with
 | nil=>cases h
 | cons y l ih=>
  rw[aa.cW];have hy:=y.pK;have hl:0≤aa.cW l:=aa.eO l;rcases List.mem_cons.1 h with rfl | h
  ·omega
  ·have:=ih h;omega
theorem JX (M B:Int) (h0M:0≤M) (hMB:M * B≤600000000) (hB:B≤3000000) (b r:Nat) (L:List Int) (t:aa):t.Lx→t.cnt≤500→t.cnt + 10≤M→t.aR≤B→Oq b r L t:=by
 induction t using aa.ind with
 | h t ih=>
  intro hs hcn hcM hb k h0 hk;have hbe:=t.bE;have hbs:=aa.bn t.t;have hmb:M * (aa.aE t.t:Int)≤M * B:=Int.mul_le_mul_of_nonneg_left (by omega) h0M;have hce:=t.ju;have hs2:=(t.DC).1 hs;have hxs:=aa.vS hs2.2;have hcl:=HP L.contains t.t k M hxs fun x hx=>by have:=qB hx;omega
  have hle:=yR L.contains t.t k;have hrb:=Dz b r L t k (fun x hx=>ih x hx (hxs x hx) (by have:=qB hx;omega) (by have:=qB hx;omega) (by have:=aa.cJ hx;omega)) h0 (by omega) (by omega);have hlen:=pM L.contains t.t k;have hcv:=t.uJ L.contains k;generalize aa.cK L.contains t.t k=C at *;obtain ⟨E,nz⟩:=C;dsimp only at hcl hle hrb hlen hcv;rw[hcv];refine af.ah ai Tryz.func32 rfl rfl (n:=17) rfl rfl ?_
  conv=>whnf
  repeat' (first|refine aY ?_|((intro _);conv=>whnf)|(refine zX (fun hc=>?_) (fun hc=>?_)<;>(try simp only[SY] at hc)<;>omega))
  refine aq.go hrb (aX.refl _) ?_;rintro _ _ ⟨rfl,rfl⟩
  conv=>whnf
  repeat' (first|refine aY ?_|((intro _);conv=>whnf)|(refine zX (fun hc=>?_) (fun hc=>?_)<;>(try simp only[SY] at hc)<;>(conv=>whnf)))
  ·have hvl:E.length=t.v.length + 1:=by rw[hlen];exact hs2.1 hc
   have hcl2:=xb t.t;rw[if_pos hc];have hrc:=Lu b r L nz (aa.mk t.op t.n t.v E) (by show aa.aE E + aa.fo 1 E + 9 * t.v.length + 10≤_;omega) hvl (by show t.v.length≤500;omega) (by omega);change af _ _ _ _ (fun y Γ'=>y=.agg (jS L.contains t.n t.v E nz).1.cells∧Γ'=AU b r L (jS L.contains t.n t.v E nz).2) at hrc;generalize jS L.contains t.n t.v E nz=R at *;refine aq.go hrc (aX.refl _) ?_;rintro _ _ ⟨rfl,rfl⟩
   conv=>whnf
   repeat' (first|refine aY ?_|(refine zX (fun hc=>?_) (fun hc=>?_)<;>(try simp only[SY] at hc)<;>omega))
   exact ak.gen (y:=.agg R.1.cells) (Γ':=AU b r L R.2) eg.wk ⟨rfl,rfl⟩
  ·rw[if_neg hc]
   exact ak.gen (y:=.agg (aa.mk t.op t.n t.v E).cells) (Γ':=AU b r L nz) eg.wk ⟨rfl,rfl⟩
theorem Lm {o:Int} (ho:o=12∨o=13∨o=14) {c codes:Int} {free:Bool} (t:aa): ∀ {sc:List Int} {deep:Int},t.qt 0 c codes free sc deep→t.ct o=0:=by
 induction t using aa.ind with
 | h t ih=>
  intro sc deep h;rw[aa.kF] at h;rw[aa.Ec]
  have h1: ¬t.op=o:=fun e=>by
   have hs:=h.1.2.1;rw[e] at hs;rcases ho with rfl | rfl | rfl<;>exact absurd hs (by decide)
  rw[if_neg h1,Nat.zero_add,j5]
  have: ∀ x∈t.t.map (aa.ct o),x=0:=fun x hx=>by
   obtain ⟨y,hy,rfl⟩:=List.mem_map.1 hx;obtain ⟨s,d,hy2⟩:=z6 h.2 y hy;exact ih y hy hy2
  generalize t.t.map (aa.ct o)=l at this
  induction l with
  | nil=>rfl
  | cons a l ihl=>rw[List.sum_cons,this a (by simp),ihl (fun x hx=>this x (by simp[hx]))]
theorem LQ (t:aa):t.ct 14=0→t.qs=t.Kn:=by
 induction t using aa.ind with
 | h t ih=>
  intro h;rw[aa.Ec] at h;rw[aa.yq,aa.JP];have h1: ¬t.op=14:=fun e=>by rw[if_pos e] at h;omega
  have key: ∀ l:List aa,(∀ x∈l,x.ct 14=0→x.qs=x.Kn)→aa.fo 14 l=0→aa.lF l=aa.vZ l:=by
   intro l
   induction l with
   | nil=>intro _ _;rw[aa.lF,aa.vZ]
   | cons x l ihl=>
    intro hx hl;rw[aa.fo] at hl;rw[aa.lF,aa.vZ,hx x (by simp) (by omega),ihl (fun y hy=>hx y (by simp[hy])) (by omega)]
  rw[key t.t ih (by omega)];by_cases h2:t.op=2
  ·rw[if_pos (.inl h2),if_pos h2]
  ·rw[if_neg (by omega),if_neg h2]
def dx (p:Prog):Prog×Int:=if hU p 0=0 then (if hU (uA p) 1=0 then (uA p,0) else (Pu,5)) else (Pu,5)
theorem MR {A B:Int→Bool} (h: ∀ v,A v=B v) (t:aa) (nx:Int):t.mI A nx=t.mI B nx:=by rw[show A=B from funext h]
theorem Fy {p q:Prop} (k:q) (h:q→p:=by intro hq;first | exact aD.sP (some 14) rfl [] [6] ai mixed hq):p:=h k
theorem HJ (M B:Int) (h0M:0≤M) (hMB:M * B≤600000000) (hB:B≤3000000) (p:Prog) (hcn:p.body.cnt≤500) (hcM:p.body.cnt + 10≤M) (hb:p.body.aR≤B) (hl:p.consts.length≤1000000000):
  aA Tryz.prog 13 [.agg p.cells] (.bp [.agg (dx p).1.cells,.int .i64 (dx p).2]):=by
 have he:=AS p 0;have hR:hU p 0=0→c7 p 0:=fun h=>(pF p 0).1 (by rw[←he];exact h);refine af.ah ai Tryz.func13 rfl rfl (n:=50) rfl rfl ?_
 conv=>whnf
 repeat' (first|refine aY ?_|((first|refine pC (AT p 0 (by omega) (by omega)) wR ?_|refine Fy ?_|intro _);conv=>whnf)|(refine zX (fun hc=>?_) (fun hc=>?_)<;>(try simp only[SY] at hc)<;>(conv=>whnf)))
 ·rename_i hc
  exact ak.pure (Wk.bp (.cons (by rw[dx,if_neg hc];exact Dk) (.cons (by rw[dx,if_neg hc];exact Wk.refl _) .nil)))
 ·rename_i b1 b2 r bc
  obtain ⟨hshp,hdep,hvr⟩:=(hR hc).fits;have hrsh:=p.body.EO (hR hc).2.2.1;have hasg:=LQ p.body (Lm (.inr (.inr rfl)) p.body (hR hc).2.2.1);have hrise:=p.body.CA (by omega);have hbl:=Fo p.body (by omega);have hcnv:dx p=if hU ⟨p.consts,(p.body.mI (fun v=>p.body.qs.contains v) (eU p.body)).1⟩ 1=0 then (⟨p.consts,(p.body.mI (fun v=>p.body.qs.contains v) (eU p.body)).1⟩,0) else (Pu,5):=by rw[dx,if_pos hc];rfl
  have hcb:=(uI (fun v=>p.body.qs.contains v) p.body hrsh (eU p.body)).2;have hcb2:((p.body.cnt:Int) + 10) * p.body.aR≤M * B:=Int.le_trans (Int.mul_le_mul_of_nonneg_right (by omega) (by omega)) (Int.mul_le_mul_of_nonneg_left hb h0M);rw[B6];refine aq.go (JI r p.body [] (by omega)) (aX.refl _) ?_;rintro _ _ ⟨rfl,L',hL',rfl⟩
  have hcv:p.body.mI L'.contains (eU p.body)=p.body.mI (fun v=>p.body.qs.contains v) (eU p.body):=MR (fun v=>by
   rw[Bool.eq_iff_iff,hasg];simp[hL']) _ _
  have hn0:0≤eU p.body∧eU p.body≤1000001:=by
   unfold eU
   split
   ·omega
   ·rename_i h0
    have hlt:(fD p.body).length - 1 < (fD p.body).length:=by have:=List.length_pos_iff.2 h0;omega
    have e:(fD p.body).getD ((fD p.body).length - 1) 0=(fD p.body)[(fD p.body).length - 1]:=by simp[List.getD,hlt]
    have:=hvr _ ((AM _ _).1 (List.getElem_mem hlt));rw[e];omega
  obtain ⟨hn0,hn1⟩:=hn0;have hbc:=KD p.body (by omega);rw[hrise] at hbc;have hcl:=CJ p.consts hl;have htm:=JX M B h0M hMB hB bc r L' p.body hrsh hcn hcM hb (eU p.body) hn0 (by omega);rw[hcv] at htm;generalize p.body.mI (fun v=>p.body.qs.contains v) (eU p.body)=R at *;have hck:=AT ⟨p.consts,R.1⟩ 1 (by show R.1.aR≤_;omega) hl
  conv=>whnf
  repeat' (first|refine aY ?_|((first|refine pC (hbc) wR ?_|intro _);conv=>whnf)|(refine zX (fun hc=>?_) (fun hc=>?_)<;>(try simp only[SY] at hc)<;>(conv=>whnf)))
  ·have hlt:(fD p.body).length - 1 < (fD p.body).length:=by omega
   have e:(fD p.body).getD ((fD p.body).length - 1) 0=(fD p.body)[(fD p.body).length - 1]:=by simp[List.getD,hlt]
   have h1:=hvr _ ((AM _ _).1 (List.getElem_mem hlt))
   have hn:eU p.body=(fD p.body)[(fD p.body).length - 1] + 1:=by
    unfold eU;rw[if_neg (by intro h;rw[h] at hlt;simp at hlt),e]
   refine iC.ok (by omega) (by omega) ?_;rw[←hn]
   conv=>whnf
   repeat' (first|refine aY ?_|(refine zX (fun hc=>?_) (fun hc=>?_)<;>(try simp only[SY] at hc)<;>omega))
   refine aD.sF (some 37) rfl [.box bc [.mp r,.int .i64 (eU p.body)],.mp r (.int .i64) (aS L') []] [6,7] [] [8] [9] ai mixed ?_
   conv=>whnf
   repeat (first|refine wu ?_|((((apply zZ);(conv=>whnf);(repeat ((refine pC (hcl) wR ?_);conv=>whnf));exact pZ));conv=>whnf))
   refine aq.go htm (aX.refl _) ?_;rintro _ _ ⟨rfl,rfl⟩
   conv=>whnf
   repeat' (first|refine aY ?_|((first|refine pC (hck) wR ?_|intro _);conv=>whnf)|(refine zX (fun hc=>?_) (fun hc=>?_)<;>(try simp only[SY] at hc)<;>(conv=>whnf)))
   ·exact ak.pure (Wk.bp (.cons (by rw[hcnv,if_neg hc];exact Dk) (.cons (by rw[hcnv,if_neg hc];exact Wk.refl _) .nil)))
   ·exact ak.pure (Wk.bp (.cons (by rw[hcnv,if_pos hc];exact Wk.refl _) (.cons (by rw[hcnv,if_pos hc];exact Wk.refl _) .nil)))
  ·have hn:eU p.body=0:=by
    unfold eU;rw[if_pos (List.eq_nil_of_length_eq_zero (by omega))]
   rw[show PV.int .i64 0=PV.int .i64 (eU p.body) by rw[hn]];refine aD.sF (some 37) rfl [.box bc [.mp r,.int .i64 (eU p.body)],.mp r (.int .i64) (aS L') []] [6,7] [] [8] [9] ai mixed ?_
   conv=>whnf
   repeat (first|refine wu ?_|((((apply zZ);(conv=>whnf);(repeat ((refine pC (hcl) wR ?_);conv=>whnf));exact pZ));conv=>whnf))
   refine aq.go htm (aX.refl _) ?_;rintro _ _ ⟨rfl,rfl⟩
   conv=>whnf
   repeat' (first|refine aY ?_|((first|refine pC (hck) wR ?_|intro _);conv=>whnf)|(refine zX (fun hc=>?_) (fun hc=>?_)<;>(try simp only[SY] at hc)<;>(conv=>whnf)))
   ·exact ak.pure (Wk.bp (.cons (by rw[hcnv,if_neg hc];exact Dk) (.cons (by rw[hcnv,if_neg hc];exact Wk.refl _) .nil)))
   ·exact ak.pure (Wk.bp (.cons (by rw[hcnv,if_pos hc];exact Wk.refl _) (.cons (by rw[hcnv,if_pos hc];exact Wk.refl _) .nil)))
theorem uF (p:Prog) (hcn:p.body.cnt≤500) (hb:p.body.aR≤1100000) (hl:p.consts.length≤1000000000):
  aA Tryz.prog 13 [.agg p.cells] (.bp [.agg (dx p).1.cells,.int .i64 (dx p).2]):=HJ 510 1100000 (by decide) (by decide) (by decide) p hcn (by omega) (by omega) hl
theorem af.ap {P:Program} {f:FuncId} {args:List PV} {Γ:List aj} {Q:PV→List aj→Prop} (h0: ∃ fn,P.funcs[f]?=some fn∧fn.body.isNone=false∧(fn.name == "runtime.NumGoroutine")=false) (h:Γ.Pairwise aj.apart→af P f args Γ Q):af P f args Γ Q:=
 ⟨h0,fun w0 F M w vs hS hR=>(h (List.pairwise_append.1 hS.sep).1).2 w0 F M w vs hS hR⟩
abbrev Fc:aa:=.mk 12 0 [] [.mk 1 1 [] []]
abbrev Qy:aa:=.mk 4 0 [] [Fc]
abbrev PB:aa:=.mk 2 1 [] [.mk 5 0 [] [.mk 1 0 [] []]]
abbrev PA:aa:=.mk 6 0 [] [PB,Fc]
abbrev Pz:aa:=.mk 9 0 [0] [Qy,PA]
abbrev Om:aa:=.mk 8 0 [1] [.mk 13 0 [] [],Pz]
section
variable (b:Nat) (K:List Vl) (tk:Tok) (s:kH)
abbrev eR:Vl→Int→kH→Tok→Prop:=fun _ c s' _=>c=5∧s'.out= []
theorem PM (e:iB) (h0:3≤s.fuel∧s.fuel≤1000) (ho:s.out= []) (a:Nat) (hf:qI e 1=some a) (hg:e9 s.h a=some (fG 12,false)):
  af Tryz.prog 70 [.ptr b 0,.agg Fc.cells,cx e,.nil] (eC b K tk s) (kz b K eR):=by
 refine Ek b K tk s Fc e eR (by omega) (by decide) ?_;refine uq b K e [.mk 1 1 [] []] (by decide) (fun i m s' tk'=>if i=0 then m= []∧s'=bB s∧tk'=tk else m= [fG 12]∧s'=bB (bB s)∧tk'=tk) _ (bB s) tk ⟨rfl,rfl,rfl⟩ ?_ ?_
 ·intro i m s' tk' hP hi
  obtain rfl:i=0:=by simpa using hi
  obtain ⟨rfl,rfl,rfl⟩:=hP;refine (Mi b K tk' (bB s) (.mk 1 1 [] []) e (by show 0 < s.fuel - 1∧s.fuel - 1≤_;omega) rfl a hf (fG 12) false hg (by simp)).mono ?_;rintro y Γ' ⟨rfl,rfl⟩;exact ⟨_,_,_,_,rfl,rfl,fun _=>⟨rfl,rfl,rfl⟩,fun h=>absurd rfl h⟩
 ·intro m s' tk' hP
  obtain ⟨rfl,rfl,rfl⟩:=hP;refine ⟨fun h=>absurd rfl h,fun _=>?_⟩;refine (JT b K tk' _ Fc e rfl [fG 12] rfl rfl).mono ?_;rintro y Γ' ⟨rfl,rfl⟩;exact ⟨_,_,_,_,rfl,rfl,rfl,ho⟩
theorem PL (a0 a1:Nat) (h0:20≤s.fuel∧s.fuel≤1000) (ho:s.out= []) (hne:a0≠a1) (hh:s.h= [(a0,.mk 8 0 0 [] [] (some ⟨[],false,Fc, [(0,a0),(1,a1)]⟩) none,false),(a1,fG 12,false)]):
  af Tryz.prog 70 [.ptr b 0,.agg (aa.mk 5 0 [] [.mk 1 0 [] []]).cells,cx [(0,a0),(1,a1)],.nil] (eC b K tk s) (kz b K eR):=by
 have hg0:e9 s.h a0=some (.mk 8 0 0 [] [] (some ⟨[],false,Fc, [(0,a0),(1,a1)]⟩) none,false):=by rw[hh,e9,if_pos rfl]
 have hg1:e9 s.h a1=some (fG 12,false):=by rw[hh,e9,if_neg hne,e9,if_pos rfl]
 refine Ek b K tk s (.mk 5 0 [] [.mk 1 0 [] []]) [(0,a0),(1,a1)] eR (by omega) (by decide) ?_;refine uq b K [(0,a0),(1,a1)] [.mk 1 0 [] []] (by decide) (fun i m s' tk'=>if i=0 then m= []∧s'=bB s∧tk'=tk else m= [.mk 8 0 0 [] [] (some ⟨[],false,Fc, [(0,a0),(1,a1)]⟩) none]∧s'=bB (bB s)∧tk'=tk) _ (bB s) tk ⟨rfl,rfl,rfl⟩ ?_ ?_
 ·intro i m s' tk' hP hi
  obtain rfl:i=0:=by simpa using hi
  obtain ⟨rfl,rfl,rfl⟩:=hP;refine (Mi b K tk' (bB s) (.mk 1 0 [] []) [(0,a0),(1,a1)] (by show 0 < s.fuel - 1∧s.fuel - 1≤_;omega) rfl a0 rfl _ false hg0 (by simp)).mono ?_;rintro y Γ' ⟨rfl,rfl⟩;exact ⟨_,_,_,_,rfl,rfl,fun _=>⟨rfl,rfl,rfl⟩,fun h=>absurd rfl h⟩
 ·intro m s' tk' hP
  obtain ⟨rfl,rfl,rfl⟩:=hP;refine ⟨fun h=>absurd rfl h,fun _=>?_⟩;refine NZ b K tk' (bB (bB s)) eR (.mk 5 0 [] [.mk 1 0 [] []]) rfl [(0,a0),(1,a1)] [.mk 8 0 0 [] [] (some ⟨[],false,Fc, [(0,a0),(1,a1)]⟩) none] (by show 0 < 1;decide) ?_;refine OL b K tk' (bB (bB s)) eR (.mk 8 0 0 [] [] (some ⟨[],false,Fc, [(0,a0),(1,a1)]⟩) none) rfl ⟨[],false,Fc, [(0,a0),(1,a1)]⟩ rfl [] [] (by decide) (Nat.zero_le _) (fun h=>by cases h) rfl ?_;intro az haz;obtain rfl:az= []:=by simpa using haz
  exact PM b K tk' (gw (bB (bB s)) (za s.h [] [])) [(0,a0),(1,a1)] (by show 3≤s.fuel - 1 - 1∧s.fuel - 1 - 1≤1000;omega) ho a1 rfl hg1
theorem PO (a0 a1:Nat) (h0:30≤s.fuel∧s.fuel≤1000) (ho:s.out= []) (hh:s.h= [(a0,.mk 8 0 0 [] [] (some ⟨[],false,Fc, [(0,a0),(1,a1)]⟩) none,false),(a1,fG 12,false)]):
  af Tryz.prog 70 [.ptr b 0,.agg PA.cells,cx [(0,a0),(1,a1)],.nil] (eC b K tk s) (kz b K eR):=by
 refine af.ap (OQ b K tk (IN 0) PA [] (by decide)).1 fun hap=>?_
 have hne:a0≠a1:=fun e=>by
  have h2:(Cn s.h).Pairwise aj.apart:=hap.tail.tail;rw[hh] at h2;have h3:=(List.pairwise_cons.1 h2).1 _ (List.mem_singleton.2 rfl);rcases h3 with h1 | h1
  ·cases h1
  ·exact h1 (congrArg some e)
 refine Ek b K tk s PA [(0,a0),(1,a1)] eR (by omega) (by decide) ?_;refine uq b K [(0,a0),(1,a1)] [PB,Fc] (by decide) (fun i m s' tk'=>i=0∧m= []∧s'=bB s∧tk'=tk) _ (bB s) tk ⟨rfl,rfl,rfl,rfl⟩ ?_ (fun m s' tk' hP=>absurd hP.1 (by decide));rintro i m s' tk' ⟨rfl,rfl,rfl,rfl⟩ hi
 have key:af Tryz.prog 70 [.ptr b 0,.agg PB.cells,cx [(0,a0),(1,a1)],.nil] (eC b K tk' (bB s)) (kz b K eR):=by
  refine Ek b K tk' (bB s) PB [(0,a0),(1,a1)] eR (by show 0 < s.fuel - 1∧s.fuel - 1≤_;omega) (by decide) ?_;refine uq b K [(0,a0),(1,a1)] [.mk 5 0 [] [.mk 1 0 [] []]] (by decide) (fun i m s' tk2=>i=0∧m= []∧s'=bB (bB s)∧tk2=tk') _ (bB (bB s)) tk' ⟨rfl,rfl,rfl,rfl⟩ ?_ (fun m s' tk' hP=>absurd hP.1 (by decide));rintro i m s' tk2 ⟨rfl,rfl,rfl,rfl⟩ hi;refine (PL b K tk2 (bB (bB s)) a0 a1 (by show 20≤s.fuel - 1 - 1∧s.fuel - 1 - 1≤1000;omega) ho hne hh).mono ?_;rintro y Γ' ⟨x,c,s',tk3,e1,e2,rfl,e4⟩;exact ⟨x,5,s',tk3,e1,e2,fun h=>absurd h (by decide),fun _=>⟨fun _=>⟨rfl,e4⟩,fun h=>absurd h (by decide)⟩⟩
 refine key.mono ?_;rintro y Γ' ⟨x,c,s',tk3,e1,e2,rfl,e4⟩;exact ⟨x,5,s',tk3,e1,e2,fun h=>absurd h (by decide),fun _=>⟨fun _=>⟨rfl,e4⟩,fun h=>absurd h (by decide)⟩⟩
theorem PN (a1:Nat) (h0:40≤s.fuel∧s.fuel≤1000) (ho:s.out= []) (hh:s.h= [(a1,fG 12,false)]):
  af Tryz.prog 70 [.ptr b 0,.agg Pz.cells,cx [(1,a1)],.nil] (eC b K tk s) (kz b K eR):=by
 refine Mh b K tk s Pz [(1,a1)] eR (by omega) (by decide) ?_;refine KC b K tk (bB s) Pz [(1,a1)] eR (.inr rfl) rfl (by decide) (by decide) (fun az i m s' tk'=> ∃ a0,az= [a0]∧tk'=tk∧if i=0 then m= []∧s'=gw (bB s) [(a0,fG 12,false),(a1,fG 12,false)] else m.length=1∧s'=gw (bB (bB s)) [(a0,.mk 8 0 0 [] [] (some ⟨[],false,Fc, [(0,a0),(1,a1)]⟩) none,false),(a1,fG 12,false)]) ?_ ?_ ?_
 ·intro az haz
  obtain ⟨a0,rfl⟩: ∃ a,az= [a]:=by
   match az,haz with
   | [a],_=>exact ⟨a,rfl⟩
  refine ⟨a0,rfl,rfl,rfl,?_⟩;show gw (bB s) (Ep s.h false [a0])=_;rw[hh];rfl
 ·rintro az i m s' tk' ⟨a0,rfl,rfl,hP⟩ hi
  obtain rfl:i=0:=by have:i < 1:=hi;omega
  obtain ⟨rfl,rfl⟩:=hP;refine (KL b K tk' _ Qy (hY [(1,a1)] [0] [a0]) (by show 0 < s.fuel - 1∧s.fuel - 1≤_;omega) rfl rfl).mono ?_;rintro y Γ' ⟨rfl,rfl⟩;refine ⟨_,_,_,_,rfl,rfl,fun h=>absurd rfl h,fun _=>⟨fun _=>⟨a0,fG 12,false,rfl,?_⟩,a0,rfl,rfl,?_⟩⟩
  ·show e9 [(a0,fG 12,false),(a1,fG 12,false)] a0=_
   rw[e9,if_pos rfl]
  ·refine ⟨rfl,?_⟩
   rw[if_pos (.inl rfl)];show gw (bB (bB s)) (hput [(a0,fG 12,false),(a1,fG 12,false)] a0 _)=_;rw[hput,if_pos rfl];rfl
 ·rintro az m s' tk' ⟨a0,rfl,rfl,hP⟩ hm
  obtain ⟨_,rfl⟩:=hP;refine ⟨fun h=>absurd h.1 (by decide),?_⟩;rw[if_neg (fun h=>absurd h.1 (by decide))];exact PO b K tk' _ a0 a1 (by show 30≤s.fuel - 1 - 1∧s.fuel - 1 - 1≤1000;omega) ho rfl
theorem PR:af Tryz.prog 70 [.ptr b 0,.agg Om.cells,.np,.nil] (eC b K tk (IN 100)) (kz b K eR):=by
 refine Mh b K tk (IN 100) Om [] eR (by decide) (by decide) ?_;refine KB b K tk (bB (IN 100)) Om [] eR rfl rfl (by decide) ?_;refine uq b K [] [.mk 13 0 [] []] (by decide) (fun i m s' tk'=>if i=0 then m= []∧s'=bB (IN 100)∧tk'=tk else m= [fG 12]∧s'=bB (bB (IN 100))∧tk'=tk) _ (bB (IN 100)) tk ⟨rfl,rfl,rfl⟩ ?_ ?_
 ·intro i m s' tk' hP hi
  obtain rfl:i=0:=by simpa using hi
  obtain ⟨rfl,rfl,rfl⟩:=hP;refine (OR b K tk' (bB (IN 100)) (.mk 13 0 [] []) [] (by decide) rfl).mono ?_;rintro y Γ' ⟨rfl,rfl⟩;exact ⟨_,_,_,_,rfl,rfl,fun _=>⟨rfl,rfl,rfl⟩,fun h=>absurd rfl h⟩
 ·intro m s' tk' hP
  obtain ⟨rfl,rfl,rfl⟩:=hP;refine ⟨fun h=>absurd rfl h,fun _=>⟨rfl,fun az haz=>?_⟩⟩
  obtain ⟨a1,rfl⟩: ∃ a,az= [a]:=by
   match az,haz with
   | [a],_=>exact ⟨a,rfl⟩
  exact PN b K tk' _ a1 (by show 40≤98∧98≤1000;decide) rfl rfl
end
theorem NI (cs:List Datum) (hcs:cs.length=0) (t:aa) (fuel:Int) (hev: ∀ (b:Nat) (tk:Tok),tk.e=4→tk.s=1→af Tryz.prog 70 [.ptr b 0,.agg t.cells,.np,.nil] (eC b [] tk (IN fuel)) (kz b [] eR)):
  aA Tryz.prog 46 [.sl 5 (cs.map Datum.pv) none,.nil,.agg t.cells,.int .i64 fuel] (.agg [.str [],.int .i64 5,.str []]):=by
 refine af.ah ai Tryz.func46 rfl rfl (n:=65) rfl rfl ?_
 conv=>whnf
 repeat' (first|((intro _);conv=>whnf)|(refine zX (fun hc=>?_) (fun hc=>?_)<;>(try simp only[SY] at hc)<;>omega))
 rename_i b6 b8 b9
 refine ax.over [10,18,19,20,21,22,23,24,25,26,27,28,29,30,31,32,33,34,35,36,37,38] (fun x:Nat=> [(10,.int .i64 x)]) (fun x:Nat=> [.box b9 [.nil,.nil,.int .i64 fuel,.str [],.nil,.int .i64 0,.int .i64 0,.int .i64 0,.int .i64 0,.str [],.nil,.np,.np],.box b8 [.str [],.int .i64 0,.str []],.box b6 [.int .i64 t.op,.int .i64 t.n,.sl 1 (t.v.map (PV.int .i64)) none,.sl 4 (t.t.map aa.pv) none]])
  (fun x=>x=0) (fun x=>0) 0 rfl wA ?_
 rintro _ rfl
 conv=>whnf
 repeat' (first|refine aY ?_|((intro _);conv=>whnf)|(refine zX (fun hc=>?_) (fun hc=>?_)<;>(try simp only[SY] at hc)<;>first|omega|(conv=>whnf)))
 refine aq.PW (Γ1:= [.box b9 (PY [] (aB 1 4) (IN fuel)),.row (aB 1 4) (([]:List Bool).map PV.bool)])
   (au.trans (au.Lg [.box b9 [.nil,.nil,.int .i64 fuel,.str [],.nil,.int .i64 0,.int .i64 0,.int .i64 0,.int .i64 0,.str [],.nil,.np,.np],.box b8 [.str [],.int .i64 0,.str []],.box b6 [.int .i64 t.op,.int .i64 t.n,.sl 1 (t.v.map (PV.int .i64)) none,.sl 4 (t.t.map aa.pv) none]]) (au.box (b:=b9) (cs:= [.nil,.nil,.int .i64 fuel,.str [],.nil,.int .i64 0,.int .i64 0,.int .i64 0,.int .i64 0,.str [],.nil,.np,.np]) (cs':=PY [] (aB 1 4) (IN fuel))
    (.cons (Wk.ec rfl) (.cons (Wk.refl _) (.cons (Wk.refl _) (.cons (Wk.refl _) (.cons (Wk.cz _ _) (.cons (Wk.refl _) (.cons (Wk.refl _) (.cons (Wk.refl _) (.cons (Wk.refl _) (.cons (Wk.refl _) (.cons (Wk.ec rfl) (.cons (Wk.refl _) (.cons (Wk.refl _) .nil)))))))))))))))
   (hev b9 (aB 1 4) rfl rfl) (aX.refl _) ?_
 rintro _ _ ⟨x,c,s',tk',rfl,rfl,rfl,ho⟩
 conv=>whnf
 repeat' (first|refine aY ?_|((first|refine dn nC ?_|refine dn nD ?_|intro _);conv=>whnf)|(refine zX (fun hc=>?_) (fun hc=>?_)<;>(try simp only[SY] at hc)<;>first|omega|(conv=>whnf)))
 rw[ho];exact ak.pure (Wk.refl _)
theorem Pe:aA Tryz.prog 26 [.agg (⟨[],Om⟩:Prog).cells,.int .i64 100] (.agg [.str [],.int .i64 5,.str []]):=by
 refine af.ah ai Tryz.func26 rfl rfl (n:=11) rfl rfl ?_
 conv=>whnf
 repeat' (first|refine aY ?_|((first|refine pC (NI [] rfl Om 100 fun b tk _ _=>PR b [] tk) (by ((repeat' (first|exact aX.nil|apply aX.cons|exact Wk.refl _|exact Wk.int OA|exact Wk.tt rfl|exact Wk.ff rfl|exact Wk.ec rfl|exact Wk.tok _ _ _));first|done|fail)) ?_|intro _);conv=>whnf)|(refine zX (fun hc=>?_) (fun hc=>?_)<;>(try simp only[SY] at hc)<;>omega))
 exact ak.pure (Wk.refl _)
abbrev Ol:List UInt8:= [40,108,101,116,114,101,99,42,32,40,40,102,32,40,108,97,109,98,100,97,32,40,41,32,121,41,41,32,40,121,32,40,102,41,41,41,32,121,41]
abbrev Oc:Prog:=⟨[],.mk 7 1 [0,1] [.mk 4 0 [] [.mk 1 1 [] []],.mk 5 0 [] [.mk 1 0 [] []],.mk 1 1 [] []]⟩
abbrev MK:Prog:=⟨[],Om⟩
def NB:List Datum:=(ou Ol).1
def MW:Datum:=((sB (pQ 20) NB)).getD aK
theorem QF:ou Ol=(NB,(ou Ol).2.1,0):=by kernel_rfl
theorem QG:sB (pQ 20) NB=some MW:=by kernel_rfl
theorem QH:(NB.any fun d=>!d.bJ 0 || d.Og)=false:=by kernel_rfl
theorem QI:MW.bJ 0=true:=by kernel_rfl
theorem QJ:Gz Oi (-1) MW=⟨Oc,0⟩:=by kernel_rfl
theorem QK:Nat.ble MW.sz 1000=true:=by kernel_rfl
theorem QL:Nat.ble (Datum.ef NB) 1000=true:=by kernel_rfl
theorem QM:dx Oc=(MK,0):=by kernel_rfl
theorem QN:iP MK 1=0:=by kernel_rfl
theorem NY:aA Tryz.prog 16 [.str Ol] (.bp [.agg Oc.cells,.bool true]):=by
 have hr:=Jh Ol;have hx:=FR NB MW (by have:=Nat.le_of_ble_eq_true QL;omega) QH QI QG;have hz:=BX MW (by have:=Nat.le_of_ble_eq_true QK;omega);unfold vL at hr;rw[QF] at hr;rw[QJ] at hz;dsimp only at hr hz;generalize Ol=X at *;generalize NB=R at *;generalize MW=E at *;generalize Oc=P at *;refine af.ah ai Tryz.func16 rfl rfl (n:=34) rfl rfl ?_
 conv=>whnf
 repeat' (first|refine aY ?_|((first|refine pC (hr) wR ?_|refine pC (hx) wR ?_|refine pC (hz) wR ?_|intro _);conv=>whnf)|(refine zX (fun hc=>?_) (fun hc=>?_)<;>(try simp only[SY] at hc)<;>(conv=>whnf)))
 all_goals exact ak.pure (Wk.refl _)
theorem wY:aA Tryz.prog 10 [] (.bool true):=by
 have h1:=NY;have h2:=uF Oc (by decide) (by decide) (by decide);have h3:=AR MK 1 (by decide) (by decide);have h4:aA Tryz.prog 26 [.agg MK.cells,.int .i64 100] (.agg [.str [],.int .i64 5,.str []]):=Pe;rw[QM] at h2;rw[QN] at h3;dsimp only at h1 h2;have g1:MK.body.op=8:=rfl;have g2:MK.body.v= [1]:=rfl;generalize Oc=P at h1 h2;generalize MK=Q at h2 h3 h4 g1 g2;refine af.ah ai Tryz.func10 rfl rfl (n:=51) rfl rfl ?_
 conv=>whnf
 repeat' (first|refine aY ?_|((first|(((apply zY;intro hg));(conv=>whnf);(repeat ((first|refine pC (h3) wR ?_|refine pC (h4) wR ?_|refine aH ?_);conv=>whnf));exact pZ)|refine pC (h1) wR ?_|refine pC (h2) wR ?_|intro _);conv=>whnf)|(refine zX (fun hc=>?_) (fun hc=>?_)<;>(try simp only[SY] at hc)<;>omega))
 rw[g1,g2];exact ak.pure (Wk.refl _)
theorem B7 (S:List Bool) (y x:Nat) (hy:y < S.length):(S.set y true).getD x false=true↔x=y∨S.getD x false=true:=by
 rw[List.getD_eq_getElem?_getD,List.getD_eq_getElem?_getD,List.getElem?_set];by_cases h:y=x
 ·subst h;rw[if_pos rfl,if_pos hy];simp
 ·rw[if_neg h]
  constructor
  ·exact .inr
  ·rintro (e | e)
   ·exact absurd e.symm h
   ·exact e
structure Ot (g:dm) (frm:List Int) (S:List Bool):Prop where
 len:S.length=g.length
 fm: ∀ x∈frm,S.getD x.toNat false=true
 rg: ∀ x:Nat,x < g.length→S.getD x false=true→Rg g frm (x:Int)
def PE (g:dm) (S:List Bool) (i:Nat):Prop:=S.getD i false=true→ ∀ y∈g.getD i [],S.getD y.toNat false=true
theorem Ot.all {g:dm} {frm:List Int} {S:List Bool} (hg:nU g) (hf:Ff g frm) (h:Ot g frm S) (hc: ∀ i,i < g.length→PE g S i):S=ic g frm:=by
 have hb:(ic g frm).length=g.length:=tQ _ _ (by simp) _;refine yz (h.len.trans hb.symm) fun x hx=>?_;rw[h.len] at hx;rw[lX hg hf hx];refine ⟨h.rg x hx,fun hr=>?_⟩
 have key: ∀ y:Int,Rg g frm y→S.getD y.toNat false=true:=fun y hy=>by
  induction hy with
  | base hm=>exact h.fm _ hm
  | step h1 hm ih=>
   have:=Rg.KT hg hf h1;exact hc _ (by omega) ih _ hm
 have:=key _ hr;rwa [Int.toNat_natCast] at this
theorem Ot.put {g:dm} {frm:List Int} {S:List Bool} (h:Ot g frm S) {y:Int} (hy:Rg g frm y) (hb:y.toNat < g.length) (h0:0≤y):Ot g frm (S.set y.toNat true):=by
 refine ⟨by rw[List.length_set];exact h.len,fun x hx=>?_,fun x hx e=>?_⟩
 ·rw[B7 _ _ _ (by rw[h.len];exact hb)];exact .inr (h.fm x hx)
 ·rw[B7 _ _ _ (by rw[h.len];exact hb)] at e
  rcases e with rfl | e
  ·rw[Int.toNat_of_nonneg h0];exact hy
  ·exact h.rg x hx e
abbrev Pr (l:List Bool):PV:=.sl 1 (l.map PV.bool) none
instance:cn Pr (fun l=> [Pr l]):=⟨fun _=>rfl⟩
instance bV.Pr (l:List Bool) (tk:Option Tok):bV Pr (.sl 1 (l.map PV.bool) tk) l:=⟨Wk.tok _ _ _,.cons (Wk.tok _ _ _) .nil⟩
theorem me {p:Int→Bool}: ∀ {l:List Int} {k:Nat},k≤l.length→(∀ j (h:j < l.length),j < k→p l[j]=true)→(∀ h:k < l.length,p (l[k])=false)→l.takeWhile p=l.take k∧l.dropWhile p=l.drop k
 | [],k,_,_,_=>by simp
 | x::l,0,_,_,h=>by
  have:=h (by simp);simp at this;simp[List.takeWhile_cons,List.dropWhile_cons,this]
 | x::l,k + 1,hk,h1,h2=>by
  have h0:=h1 0 (by simp) (by omega);simp at h0;have ih:=me (p:=p) (l:=l) (k:=k) (by simpa using hk) (fun j hj hjk=>h1 (j + 1) (by simpa using hj) (by omega)) (fun h=>h2 (by simpa using h));simp[List.takeWhile_cons,List.dropWhile_cons,h0,ih]
theorem CW {p q:Prop} (k:q) (h:q→p:=by intro hq;first | exact aD.sT (some 33) rfl [0,4,7] [11,12] ai mixed hq):p:=h k
theorem Pb (l:List Int) (v:Int) (hl:l.length≤1000000000):aA Tryz.prog 68 [gQ l,.int .i64 v] (gQ (iL l v)):=by
 refine af.ah ai Tryz.func68 rfl rfl (n:=45) rfl rfl ?_
 conv=>whnf
 skip
 refine ax.keep [5,6,7,8,9,10,11,12,13,14,15,16,17,18,19] (fun k:Nat=> [(5,.int .i64 k)]) (fun k=>k≤l.length∧ ∀ j (h:j < l.length),j < k→l[j] < v) (fun k=>l.length - k) 0 ⟨Nat.zero_le _,fun _ _ h=>by omega⟩ wA ?_;rintro k ⟨hk,hm⟩;have hgd: ∀ h:k < l.length,l.getD k wO.d=l[k]:=fun h=>by simp[List.getD,h]
 conv=>whnf
 repeat' (first|refine nX ?_|((first|refine CW ?_|intro _);conv=>whnf)|(refine zX (fun hc=>?_) (fun hc=>?_)<;>(try simp only[SY] at hc)<;>(conv=>whnf)))
 ·have hlt:k < l.length:=by omega
  rw[hgd hlt] at hc;refine av (k + 1) ⟨by omega,fun j hj hjk=>?_⟩ (by show l.length - (k + 1) < l.length - k;omega) wA;by_cases e:j=k
  ·subst e;exact hc.2
  ·exact hm j hj (by omega)
 ·have hlt:k < l.length:=by omega
  rw[hgd hlt] at hc;obtain ⟨h1,h2⟩:=me (p:=fun x=>decide (x < v)) hk (fun j hj hjk=>by simpa using hm j hj hjk) (fun h=>by simp;omega);refine ak.pure (Wk.sl ?_);congr 1;unfold iL;rw[h1,h2,aJ hlt,hc.2];simp only[List.head?_cons,if_true];rw[←hc.2, ←aJ hlt,List.take_append_drop]
 ·have h0:(l.length:Int)≤(k:Int)∨v≤l.getD k wO.d:=by assumption
  obtain ⟨h1,h2⟩:=me (p:=fun x=>decide (x < v)) hk (fun j hj hjk=>by simpa using hm j hj hjk) (fun h=>by
   have:=hgd h;rw[this] at h0
   simp;omega)
  have e:iL l v=l.take k++ [v]++l.drop k:=by
   unfold iL;rw[h1,h2,if_neg,List.append_assoc]
   ·rfl
   ·intro h
    rcases Nat.lt_or_ge k l.length with hlt | hge
    ·rw[aJ hlt] at h
     simp only[List.head?_cons,Option.some.injEq] at h;rw[hgd hlt] at hc;rcases hc with hc | hc
     ·omega
     ·exact hc h
    ·rw[List.drop_of_length_le hge] at h;cases h
  rw[e];exact ak.pure wA
theorem LO:Wk .nil (gQ []):=Wk.ec rfl
theorem KE (t:aa): ∀ (deep:Int) (out:List Int),0≤deep→deep≤1000→out.Pairwise (· < ·)→out.length + t.aR≤1000000000→aA Tryz.prog 44 [.agg t.cells,.int .i64 deep,gQ out] (gQ (t.bD deep out)):=by
 induction t using aa.ind with
 | h t ih=>
  intro deep out h0 h1 ho hb;have hbe:=t.bE;have he:=t.Me deep out;have ih': ∀ x∈t.t, ∀ (deep:Int) (out:List Int),0≤deep→deep≤1000→out.Pairwise (· < ·)→out.length + x.aR≤1000000000→aA Tryz.prog 44 [.agg x.cells,.int .i64 deep,gQ out] (gQ (x.bD deep out)):=ih;have hbs:=aa.bn t.t;refine af.ah ai Tryz.func44 rfl rfl (n:=44) rfl rfl ?_
  conv=>whnf
  repeat (((intro _);conv=>whnf))
  refine ax.keep [2,7,9,10,11,12,13,14,15,16,17,18,19,20,21,22] (fun x:Nat×List Int=> [(2,gQ x.2),(7,.int .i64 x.1)]) (fun x=>x.1≤t.v.length∧x.2.Pairwise (· < ·)∧x.2.length≤out.length + x.1∧(t.v.drop x.1).foldl iL x.2=t.v.foldl iL out) (fun x=>t.v.length - x.1) (0,out) ⟨Nat.zero_le _,ho,by simp,rfl⟩ wA ?_;rintro ⟨i,o⟩ ⟨hi,hp,hl,hm⟩;dsimp only at hi hp hl hm⊢
  conv=>whnf
  repeat' (first|refine nX ?_|((first|refine pC (Pb o _ (by omega)) wR ?_|intro _);conv=>whnf)|(refine zX (fun hc=>?_) (fun hc=>?_)<;>(try simp only[SY] at hc)<;>(conv=>whnf)))
  ·have hlt:i < t.v.length:=by omega
   rw[aJ hlt,List.foldl_cons] at hm;have:=vJ t.v[i] o;exact av (i + 1,iL o t.v[i]) ⟨by show i + 1≤_;omega,Ac _ hp,by show (iL o t.v[i]).length≤out.length + (i + 1);omega,hm⟩ (by show t.v.length - (i + 1) < t.v.length - i;omega) wA
  rw[List.drop_of_length_le (by omega),List.foldl_nil] at hm;subst hm;refine ax.keep [2,8,23,24,25,26,27,28,29,30,31,32,33,34,35,36,37,38,39,40,41,42] (fun x:Nat×List Int=> [(2,gQ x.2),(8,.int .i64 x.1)]) (fun x=>x.1≤t.t.length∧x.2.Pairwise (· < ·)∧(x.1=0∨deep < 1000)∧x.2.length + aa.aE (t.t.drop x.1)≤1000000000∧(if deep < 1000 then aa.G5 (t.t.drop x.1) (deep + 1) x.2 else x.2)=t.bD deep out) (fun x=>t.t.length - x.1) (0,t.v.foldl iL out) ⟨Nat.zero_le _,hp,.inl rfl,by simp only[List.drop_zero];omega,by rw[he];rfl⟩ wA ?_;rintro ⟨j,o⟩ ⟨hj,hp,hd,hl,hm⟩;dsimp only at hj hp hd hl hm⊢
  conv=>whnf
  repeat' (first|refine nX ?_|((first|refine pC (ih' _ (List.getElem_mem _) _ o (by omega) (by omega) hp (by rw[aJ (by omega),aa.aE] at hl;omega)) wR ?_|intro _);conv=>whnf)|(refine zX (fun hc=>?_) (fun hc=>?_)<;>(try simp only[SY] at hc)<;>(conv=>whnf)))
  ·have hlt:j < t.t.length:=by omega
   rw[if_pos (by omega),aJ hlt,aa.G5] at hm;rw[aJ hlt,aa.aE] at hl;obtain ⟨b1,b2,_⟩:=(t.t[j]).tw (deep + 1) o hp;exact av (j + 1,t.t[j].bD (deep + 1) o) ⟨by show j + 1≤_;omega,b1,.inr (by omega),by dsimp only;omega,by dsimp only;rw[if_pos (by omega)];exact hm⟩ (by show t.t.length - (j + 1) < t.t.length - j;omega) wA
  ·rw[←hm]
   have e:(if deep < 1000 then aa.G5 (t.t.drop j) (deep + 1) o else o)=o:=by
    split
    ·rw[List.drop_of_length_le (by omega),aa.G5]
    ·rfl
   rw[e];exact ak.pure (Wk.refl _)
end Go.Cb


