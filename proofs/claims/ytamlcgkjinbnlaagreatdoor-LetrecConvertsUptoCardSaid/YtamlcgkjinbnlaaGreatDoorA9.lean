/-
 Contracts: what the document says is free.
 Contracts: the document's recursive bindings: what is known of a Rec's terms.
 Contracts: the document's recursive bindings: levels and groups.
 Contracts: the document's recursive bindings: groups.
 Contracts: the document's recursive bindings: the links of a chain.
 Contracts: the document's recursive bindings: the links of a Rec.
 Contracts: the document's recursive bindings: the links of a Rec whose parts are not in order.
 Contracts: the document's recursive bindings: late variables are asked.
 Contracts: the document's recursive bindings: a Rec.
 Contracts: the document's recursive bindings: terms, a program, converted.
 The laws of letrec: what any program, any text comes to.
 From the readings of arguments to values, and from a contract to what a statement asks.
 The program's data, read at the seat's types; the bulk.
 A world that holds the listed tables: the statements' witness.
-/
import Derived.Carry
import Derived.ChangeArms
import Derived.ChangeSame
import Derived.Deep.DeepHandedRow
import Derived.Deep.DeepWitnessRowRef
import Derived.KernelRfl
import Derived.Lib.LaidIn
import Derived.OpenShut
import Derived.OpenVars
import Derived.RowKit
import Derived.Test.YtamlcgkjinbnlaaGreatDoorRows
import Derived.WideShapes
import Derived.Test.YtamlcgkjinbnlaaGreatDoorA8
set_option linter.unusedSimpArgs false
set_option linter.unusedVariables false
namespace Go.Cb
open Go.Proofs
set_option maxRecDepth 100000
set_option maxHeartbeats 4000000
theorem fV (a b:List (aa×List Int)):bg (a++b)=bg a++bg b:=by simp[bg]
theorem BZ: ∀ (l out:List Int),out.Pairwise (· < ·)→(l.foldl cU out).Pairwise (· < ·)∧(l.foldl cU out).length≤out.length + l.length
 | [],out,h=>⟨h,by simp⟩
 | x::l,out,h=>by
  obtain ⟨a,b⟩:=BZ l (cU out x) (rW x h);have:=nQ x out;refine ⟨a,?_⟩;simp only[List.foldl_cons,List.length_cons];omega
theorem q7 (t:aa) (sc:List Int) (deep:Int) (o:List Int) (ho:o.Pairwise (· < ·)):((bg (t.met sc deep)).foldl cU o).Pairwise (· < ·)∧((bg (t.met sc deep)).foldl cU o).length≤o.length + t.aQ:=by
 obtain ⟨a,b⟩:=BZ (bg (t.met sc deep)) o ho;have h1:=t.FA sc deep;have h2:(bg (t.met sc deep)).length≤(t.met sc deep).length:=by rw[bg,List.length_map];exact List.length_filter_le _ _
 exact ⟨a,by omega⟩
theorem FB {t:aa} {j:Nat} (hlt:j < t.t.length) (hc:(j:Int)=(t.t.length:Int) - 1∨t.op=7∨t.op=9):fk t.op=true∨t.t.drop (j + 1)= []:=by
 rcases hc with hc | hc
 ·right;exact List.drop_of_length_le (by omega)
 ·left;simp[fk];exact hc
theorem Ct {t:aa} {j:Nat} (hlt:j < t.t.length) (hc: ¬(j:Int)=(t.t.length:Int) - 1) (h7: ¬t.op=7) (h9: ¬t.op=9): ¬(fk t.op=true∨t.t.drop (j + 1)= []):=by
 rintro (h | h)
 ·simp[fk] at h;omega
 ·have:=congrArg List.length h
  rw[List.length_drop,List.length_nil] at this;omega
theorem DL {p q:Prop} (k:q) (h:q→p:=by intro hq;first | exact aC.sT (some 35) rfl [0,2] [5,6] ai mixed hq):p:=h k
theorem NR (t:aa): ∀ (sc:List Int) (deep:Int) (out:List Int),0≤deep→deep≤1000→out.Pairwise (· < ·)→out.length + t.aQ≤1000000000→sc.length + t.aQ≤1000000000→
  aA Tryz.prog 196 [.agg t.cells,cW sc,.int .i64 deep,cW out] (cW ((bg (t.met sc deep)).foldl cU out)):=by
 induction t using aa.ind with
 | h t ih=>
  intro sc deep out h0 h1 ho hb hs;have hbe:=t.bu;have hbs:=aa.aU t.t;refine af.ah ai Tryz.func196 rfl rfl (n:=89) rfl rfl ?_
  conv=>whnf
  repeat (((intro _);conv=>whnf))
  have hfm:bg (t.met sc deep)=(if iN t.op=true∧sc.contains t.n=false then [t.n] else [])++if deep≥1000 then [] else bg (aa.fZ t.op sc (sc++t.v) t.t (deep + 1)):=by
   rw[aa.wv, ←List.singleton_append,fV];congr 1
   ·unfold bg
    by_cases hc:iN t.op=true∧sc.contains t.n=false
    ·rw[if_pos hc,List.filter_cons_of_pos (by simp only[hc.1,hc.2];rfl)];rfl
    ·rw[if_neg hc]
     simp only[List.map_eq_nil_iff,List.filter_eq_nil_iff,List.mem_singleton];rintro m rfl;simp only[Bool.and_eq_true,Bool.not_eq_true'];exact hc
   ·split<;>rfl
  conv=>whnf
  repeat' (first|refine l9 ?_|((first|(((apply zY;intro hg));(conv=>whnf);(repeat ((first|refine pC (Jr sc t.n) wR ?_|refine aG ?_);conv=>whnf));exact pZ)|refine pC (Nk out t.n (by omega)) wR ?_|refine DL ?_|intro _);conv=>whnf)|(refine zX (fun hc=>?_) (fun hc=>?_)<;>(try simp only[SY] at hc)<;>(conv=>whnf)))
  ·have hnb:iN t.op=true:=by simp[iN];omega
   have hp0:(cU out t.n).Pairwise (· < ·):=rW _ ho;have hpl:=nQ t.n out
   have hst:(if deep≥1000 then cU out t.n else (bg (aa.fZ t.op sc (sc++t.v) (t.t.drop 0) (deep + 1))).foldl cU (cU out t.n))=(bg (t.met sc deep)).foldl cU out:=by
    have e1:(if iN t.op=true∧sc.contains t.n=false then [t.n] else [])= [t.n]:=if_pos ⟨hnb,hc.2⟩;rw[hfm,e1,List.drop_zero]
    split<;>rfl
   refine aq.keep [3,10,41,42,43,44,45,46,47,48,49,50,51,52,53,54,55,56,57,58,59,60,61,62,63,64,65,66,67,68,69,70,71,72,73,74,75,76,77,78,79,80,81,82,83,84,85,86,87] (fun x:Nat×List Int=> [(3,cW x.2),(10,.int .i64 x.1)]) (fun x=>x.1≤t.t.length∧x.2.Pairwise (· < ·)∧(x.1=0∨deep < 1000)∧x.2.length + aa.aD (t.t.drop x.1)≤1000000000∧(if deep≥1000 then x.2 else (bg (aa.fZ t.op sc (sc++t.v) (t.t.drop x.1) (deep + 1))).foldl cU x.2)=(bg (t.met sc deep)).foldl cU out) (fun x=>t.t.length - x.1) (0,cU out t.n) ⟨Nat.zero_le _,hp0,.inl rfl,by simp only[List.drop_zero];omega,hst⟩ wA ?_;rintro ⟨j,o⟩ ⟨hj,hp,hd,hl,hm⟩;dsimp only at hj hp hd hl hm⊢
   conv=>whnf
   repeat' (first|refine l9 ?_|((intro _);conv=>whnf)|(refine zX (fun hc=>?_) (fun hc=>?_)<;>(try simp only[SY] at hc)<;>(conv=>whnf)))
   ·have hlt:j < t.t.length:=by omega
    have hxb:=aa.bz (List.getElem_mem hlt);rw[aI hlt,aa.aD] at hl;rw[if_neg (by omega),aI hlt,aa.fZ,if_pos (FB hlt (by omega)),fV,List.foldl_append] at hm;have hfl:=q7 t.t[j] (sc++t.v) (deep + 1) o hp;refine av.pure (ih _ (List.getElem_mem hlt) (sc++t.v) (deep + 1) o (by omega) (by omega) hp (by omega) (by rw[List.length_append];omega)) (.cons (Wk.refl _) (.cons (Wk.tok _ _ _) (.cons (Wk.refl _) (.cons (Wk.refl _) .nil)))) ?_
    conv=>whnf
    repeat' (first|refine l9 ?_|(refine zX (fun hc=>?_) (fun hc=>?_)<;>(try simp only[SY] at hc)<;>omega))
    exact an (j + 1,(bg (t.t[j].met (sc++t.v) (deep + 1))).foldl cU o) ⟨by show j + 1≤_;omega,hfl.1,.inr (by omega),by dsimp only;omega,by dsimp only;rw[if_neg (by omega)];exact hm⟩ (by show t.t.length - (j + 1) < t.t.length - j;omega) wA
   ·have hlt:j < t.t.length:=by omega
    have hxb:=aa.bz (List.getElem_mem hlt);rw[aI hlt,aa.aD] at hl;rw[if_neg (by omega),aI hlt,aa.fZ,if_neg (Ct hlt (by omega) (by omega) (by omega)),fV,List.foldl_append] at hm;have hfl:=q7 t.t[j] (sc) (deep + 1) o hp;refine av.pure (ih _ (List.getElem_mem hlt) (sc) (deep + 1) o (by omega) (by omega) hp (by omega) (by omega)) (.cons (Wk.refl _) (.cons (Wk.refl _) (.cons (Wk.refl _) (.cons (Wk.refl _) .nil)))) ?_
    conv=>whnf
    repeat' (first|refine l9 ?_|(refine zX (fun hc=>?_) (fun hc=>?_)<;>(try simp only[SY] at hc)<;>omega))
    exact an (j + 1,(bg (t.t[j].met (sc) (deep + 1))).foldl cU o) ⟨by show j + 1≤_;omega,hfl.1,.inr (by omega),by dsimp only;omega,by dsimp only;rw[if_neg (by omega)];exact hm⟩ (by show t.t.length - (j + 1) < t.t.length - j;omega) wA
   ·rw[←hm]
    have e:(if deep≥1000 then o else (bg (aa.fZ t.op sc (sc++t.v) (t.t.drop j) (deep + 1))).foldl cU o)=o:=by
     split
     ·rfl
     ·rw[List.drop_of_length_le (by omega),aa.fZ];rfl
    rw[e];exact ak.pure (Wk.refl _)
  ·have hp0:=ho
   have hst:(if deep≥1000 then out else (bg (aa.fZ t.op sc (sc++t.v) (t.t.drop 0) (deep + 1))).foldl cU out)=(bg (t.met sc deep)).foldl cU out:=by
    have hn: ¬(iN t.op=true∧sc.contains t.n=false):=by
     rintro ⟨h1,h2⟩;simp[iN] at h1;rcases hc with hc | hc
     ·omega
     ·rw[h2] at hc;cases hc
    have e1:(if iN t.op=true∧sc.contains t.n=false then [t.n] else [])= []:=if_neg hn;rw[hfm,e1,List.drop_zero]
    split<;>rfl
   refine aq.keep [3,10,41,42,43,44,45,46,47,48,49,50,51,52,53,54,55,56,57,58,59,60,61,62,63,64,65,66,67,68,69,70,71,72,73,74,75,76,77,78,79,80,81,82,83,84,85,86,87] (fun x:Nat×List Int=> [(3,cW x.2),(10,.int .i64 x.1)]) (fun x=>x.1≤t.t.length∧x.2.Pairwise (· < ·)∧(x.1=0∨deep < 1000)∧x.2.length + aa.aD (t.t.drop x.1)≤1000000000∧(if deep≥1000 then x.2 else (bg (aa.fZ t.op sc (sc++t.v) (t.t.drop x.1) (deep + 1))).foldl cU x.2)=(bg (t.met sc deep)).foldl cU out) (fun x=>t.t.length - x.1) (0,out) ⟨Nat.zero_le _,hp0,.inl rfl,by simp only[List.drop_zero];omega,hst⟩ wA ?_;rintro ⟨j,o⟩ ⟨hj,hp,hd,hl,hm⟩;dsimp only at hj hp hd hl hm⊢
   conv=>whnf
   repeat' (first|refine l9 ?_|((intro _);conv=>whnf)|(refine zX (fun hc=>?_) (fun hc=>?_)<;>(try simp only[SY] at hc)<;>(conv=>whnf)))
   ·have hlt:j < t.t.length:=by omega
    have hxb:=aa.bz (List.getElem_mem hlt);rw[aI hlt,aa.aD] at hl;rw[if_neg (by omega),aI hlt,aa.fZ,if_pos (FB hlt (by omega)),fV,List.foldl_append] at hm;have hfl:=q7 t.t[j] (sc++t.v) (deep + 1) o hp;refine av.pure (ih _ (List.getElem_mem hlt) (sc++t.v) (deep + 1) o (by omega) (by omega) hp (by omega) (by rw[List.length_append];omega)) (.cons (Wk.refl _) (.cons (Wk.tok _ _ _) (.cons (Wk.refl _) (.cons (Wk.refl _) .nil)))) ?_
    conv=>whnf
    repeat' (first|refine l9 ?_|(refine zX (fun hc=>?_) (fun hc=>?_)<;>(try simp only[SY] at hc)<;>omega))
    exact an (j + 1,(bg (t.t[j].met (sc++t.v) (deep + 1))).foldl cU o) ⟨by show j + 1≤_;omega,hfl.1,.inr (by omega),by dsimp only;omega,by dsimp only;rw[if_neg (by omega)];exact hm⟩ (by show t.t.length - (j + 1) < t.t.length - j;omega) wA
   ·have hlt:j < t.t.length:=by omega
    have hxb:=aa.bz (List.getElem_mem hlt);rw[aI hlt,aa.aD] at hl;rw[if_neg (by omega),aI hlt,aa.fZ,if_neg (Ct hlt (by omega) (by omega) (by omega)),fV,List.foldl_append] at hm;have hfl:=q7 t.t[j] (sc) (deep + 1) o hp;refine av.pure (ih _ (List.getElem_mem hlt) (sc) (deep + 1) o (by omega) (by omega) hp (by omega) (by omega)) (.cons (Wk.refl _) (.cons (Wk.refl _) (.cons (Wk.refl _) (.cons (Wk.refl _) .nil)))) ?_
    conv=>whnf
    repeat' (first|refine l9 ?_|(refine zX (fun hc=>?_) (fun hc=>?_)<;>(try simp only[SY] at hc)<;>omega))
    exact an (j + 1,(bg (t.t[j].met (sc) (deep + 1))).foldl cU o) ⟨by show j + 1≤_;omega,hfl.1,.inr (by omega),by dsimp only;omega,by dsimp only;rw[if_neg (by omega)];exact hm⟩ (by show t.t.length - (j + 1) < t.t.length - j;omega) wA
   ·rw[←hm]
    have e:(if deep≥1000 then o else (bg (aa.fZ t.op sc (sc++t.v) (t.t.drop j) (deep + 1))).foldl cU o)=o:=by
     split
     ·rfl
     ·rw[List.drop_of_length_le (by omega),aa.fZ];rfl
    rw[e];exact ak.pure (Wk.refl _)
theorem Ls (t:aa) (hb:t.aQ≤1000000000):aA Tryz.prog 153 [.agg t.cells] (cW (eA (bg t.all))):=by
 have h:=NR t [] 0 [] (by omega) (by omega) List.Pairwise.nil (by simpa using hb) (by simpa using hb);have e:(bg (t.met [] 0)).foldl cU []=eA (bg t.all):=D7 (kW _ [] List.Pairwise.nil) (AQ _) fun x=>by rw[j3,nM];simp[aa.all]
 rw[e] at h;have h2:aA Tryz.prog 196 [.agg t.cells,.nil,.int .i64 0,.nil] (cW (eA (bg t.all))):=af.wk h (.cons (Wk.refl _) (.cons AV (.cons (Wk.refl _) (.cons AV .nil))));refine af.ah ai Tryz.func153 rfl rfl (n:=5) rfl rfl ?_
 conv=>whnf
 repeat (first|refine Qc ?_|((first|refine pC (h2) wR ?_|intro _);conv=>whnf))
 exact ak.pure (Wk.refl _)
section
variable {P:Program}
theorem aq.weak {B:List PV→List aj→Ds→QT→Prop} {T T':List PV} {Γ Γ':List aj} {D:Ds} {Q:QT} (hg:dg T Γ T' Γ') (h:aq B T' Γ' D Q):aq B T Γ D Q:=by
 obtain ⟨I,J,⟨n,T0,Γ0,h1,h2⟩,h3,h4⟩:=h.h;refine ⟨I,J,⟨n,T0,Γ0,fun w0 F M w vs hS hT=>?_,h2⟩,h3,h4⟩;obtain ⟨F1,e1,hS1,hT1⟩:=hg w0 F M w vs hS hT;obtain ⟨F2,e2,hS2,hT2⟩:=h1 w0 F1 M w vs hS1 hT1;exact ⟨F2,Fz.le_trans e1 e2,hS2,hT2⟩
end
theorem jy.FW {t:Tok} {es:List PV}: ∀ l:List PV,jy t es l l
 | []=>.nil
 | _::l=>.cons (iA.of (Wk.refl _)) (jy.FW l)
theorem jy.P7 {t:Tok} {es:List PV} {s:Nat} (hs:t.s=s): ∀ (T:List PV) (k:Nat),T[k]?=some (.ms t)→jy t es T (T.set k (.sl s es none))
 | [],_,h=>by cases h
 | x::T,0,h=>by
  rw[List.getElem?_cons_zero] at h;obtain rfl:=Option.some.inj h;exact .cons (iA.ms' hs) (jy.FW T)
 | x::T,k + 1,h=>by
  rw[List.getElem?_cons_succ] at h;exact .cons (iA.of (Wk.refl _)) (jy.P7 hs T k h)
theorem aq.RI {B:List PV→List aj→Ds→QT→Prop} {T:List PV} {Γ Γ1:List aj} {D:Ds} {Q:QT} (k:Nat) (t:Tok) (es:List PV) (s:Nat) (hk:T[k]?=some (.ms t)) (hs:t.s=s) [hp:gP Γ (.row t es) Γ1] (h:aq B (T.set k (.sl s es none)) (.tok t::Γ1) D Q):aq B T Γ D Q:=
 aq.weak (dg.bK (jy.P7 hs T k hk)) h
theorem ak.QA {t:Tok} {es:List PV} {x y:PV} {Γ Γ1 Γ' Γ2:List aj} {Q:PV→List aj→Prop} [hp:gP Γ (.row t es) Γ1] (h:iA t es x y) [hq:bC (.tok t::Γ1) Γ' Γ2] (q:Q y Γ'):ak x Γ Q:=
 ⟨y,Γ',Shift.trans (Shift.bK h) (Shift.wk (Wk.refl _) hq.p),q⟩
theorem KS {α:Type} (l:List α) (d:α) {i:Nat} (h:i < l.length):l.take (i + 1)=l.take i++ [l.getD i d]:=by
 rw[List.take_succ_eq_append_getElem h,List.getD_eq_getElem?_getD,List.getElem?_eq_getElem h];rfl
theorem DE (l:List Int) (v:Int):aA Tryz.prog 154 [cW l,.int .i64 v] (.bool (l.contains v)):=by
 refine af.ah ai Tryz.func154 rfl rfl (n:=18) rfl rfl ?_
 conv=>whnf
 skip
 refine aq.keep [4,5,6,7,8,9,10,11,12,13,14,15,16,17] (fun i:Nat=> [(5,.int .i64 i)]) (fun i=>i≤l.length∧l.contains v=(l.drop i).contains v) (fun i=>l.length - i) 0 ⟨Nat.zero_le _,rfl⟩ wA ?_;rintro i ⟨hi,he⟩;rcases Nat.lt_or_ge i l.length with hlt | hge
 ·rw[aI hlt,List.contains_cons] at he
  conv=>whnf
  repeat' (first|refine aS ?_|((intro _);conv=>whnf)|(refine zX (fun hc=>?_) (fun hc=>?_)<;>(try simp only[SY] at hc)<;>first|omega|(conv=>whnf)))
  ·refine ak.pure (Wk.tt ?_)
   rw[he];simp_all
  ·refine an (i + 1) ⟨by show i + 1≤_;omega,?_⟩ (by show l.length - (i + 1) < l.length - i;omega) wA
   rw[he]
   have:(v == l[i])=false:=by
    rw[beq_eq_false_iff_ne];intro h;simp_all
   rw[this,Bool.false_or]
 ·rw[List.drop_of_length_le (by omega)] at he
  conv=>whnf
  repeat' (first|refine aS ?_|((intro _);conv=>whnf)|(refine zX (fun hc=>?_) (fun hc=>?_)<;>(try simp only[SY] at hc)<;>first|omega|(conv=>whnf)))
  exact ak.pure (Wk.ff he)
def pg (f:Nat→List Int) (n i:Nat):cE:=(List.range n).map fun k=>if k < i then f k else []
theorem nt (f:Nat→List Int) (n i:Nat):(pg f n i).length=n:=by unfold pg;simp
theorem vR {f:Nat→List Int} {n i j:Nat} (h:j < (pg f n i).length):(pg f n i)[j]=if j < i then f j else []:=by simp[pg]
theorem B2 {f:Nat→List Int} {n i:Nat} {x:List Int} (hx:x=f i):(pg f n i).set i x=pg f n (i + 1):=by
 subst hx;refine List.ext_getElem (by simp[nt]) fun j h1 h2=>?_;rw[List.getElem_set,vR h2];by_cases e:i=j
 ·subst e;rw[if_pos rfl,if_pos (by omega)]
 ·rw[if_neg e,vR (by rw[nt] at h2 ⊢; exact h2)]
  by_cases h:j < i
  ·rw[if_pos h,if_pos (by omega)]
  ·rw[if_neg h,if_neg (by omega)]
theorem Fb {f:Nat→List Int} {n i:Nat} (hx:f i= []):pg f n i=pg f n (i + 1):=by
 unfold pg;refine List.map_congr_left fun k _=>?_;by_cases h:k < i
 ·rw[if_pos h,if_pos (by omega)]
 ·rw[if_neg h]
  by_cases e:k=i
  ·subst e;rw[if_pos (by omega),hx]
  ·rw[if_neg (by omega)]
theorem yf (f:Nat→List Int) (n:Nat):List.replicate n []=pg f n 0:=by
 refine List.ext_getElem (by simp[nt]) fun j h1 h2=>?_;rw[vR h2,if_neg (by omega),List.getElem_replicate]
def EE (some:List Bool) (ln:List (List Int)) (k:Nat):List Int:=if some.getD k false=true then ln.getD k [] else []
theorem B3 (some:List Bool) (ln:List (List Int)):pg (EE some ln) ln.length ln.length=fA some ln:=by
 unfold pg fA;refine List.map_congr_left fun k hk=>?_;rw[if_pos (List.mem_range.1 hk)];rfl
def Bc (f:Nat→Bool) (n:Nat):List Bool:=(List.range n).map f
theorem rO (f:Nat→Bool) (n:Nat):(Bc f n).length=n:=by unfold Bc;simp
theorem AA {f:Nat→Bool} {n j:Nat} (h:j < (Bc f n).length):(Bc f n)[j]=f j:=by simp[Bc]
theorem Mc {f f':Nat→Bool} {n c:Nat} {x:Bool} (h: ∀ j,j≠c→f' j=f j) (hx:x=f' c):(Bc f n).set c x=Bc f' n:=by
 refine List.ext_getElem (by simp[rO]) fun j h1 h2=>?_;rw[List.getElem_set,AA h2];by_cases e:c=j
 ·subst e;rw[if_pos rfl,hx]
 ·rw[if_neg e,AA (by rw[rO] at h2 ⊢; exact h2),h j (fun h=>e h.symm)]
abbrev qn (n:Nat) (pr:List Bool) (ln:List (List Int)) (lt:List Bool):List PV:= [.int .i64 n,.sl 1 (pr.map PV.bool) none,.sl 1 (ln.map cW) none,.sl 1 (lt.map PV.bool) none]
abbrev FC (b:Nat) (body:aa) (nx:Int):List aj:= [.box b [.int .i64 body.op,.int .i64 body.n,.sl 1 (body.v.map (PV.int .i64)) none,.sl 4 (body.t.map aa.pv) none,.int .i64 nx]]
def ew (body:aa) (v:Int):Bool:=!(body.uC (iD v) 0 == 0)
theorem xT {p q:Prop} (k:q) (h:q→p:=by intro hq;first | exact aC.sP (some 29) rfl [] [] ai mixed hq | exact aC.sP (some 41) rfl [] [14,15,16] ai mixed hq | exact aC.sP (some 140) rfl [] [28] ai mixed hq):p:=h k
theorem Hj (b:Nat) (body:aa) (nx:Int) (t:aa) (hbb:body.aQ≤1000000000) (hb:t.aQ≤1000000000) (hv:t.t.length=t.v.length + 1) (hn:t.v.length≤500):
  af Tryz.prog 95 [.ptr b 0,.agg t.cells] (FC b body nx) (fun y Γ'=>y=.agg (qn t.v.length (dc (ew body) t.v t.t) (bx t.v t.t) (fX t.n (dc (ew body) t.v t.t) (bx t.v t.t)))∧Γ'=FC b body nx):=by
 have hbe:=t.bu;have hbs:=aa.aU t.t
 have hPL: ∀ k,k < t.v.length→(dc (ew body) t.v t.t).getD k false=((t.t.getD k gd).op == 4 && !ew body (t.v.getD k 0)):=fun k hk=>by
  unfold dc;rw[List.getD_eq_getElem?_getD,List.getElem?_map,List.getElem?_range hk];rfl
 have hLL: ∀ k,k < t.v.length→(bx t.v t.t).getD k []=ue t.v (t.t.getD k gd):=fun k hk=>by
  unfold bx;rw[List.getD_eq_getElem?_getD,List.getElem?_map,List.getElem?_range hk];rfl
 have hpl:(dc (ew body) t.v t.t).length=t.v.length:=by unfold dc;simp
 have hll:(bx t.v t.t).length=t.v.length:=by unfold bx;simp
 have hgo:=lM t.v t.t;have hG0:=FP (ew body) t.v t.t
 have hLT:fX t.n (dc (ew body) t.v t.t) (bx t.v t.t)=Bc (oq (Bb (ew body) t.v t.t) t.v.length t.n t.v.length) t.v.length:=by
  refine qI (by unfold fX;simp[mB,rO]) fun k hk=>?_;have hk2:k < t.v.length:=by unfold fX at hk;simpa[mB] using hk
  rw[yp _ _ _ _ hk2];unfold Bc;rw[dU _ hk2]
 have hFp:=fun k (hk:k < t.v.length)=>v7 (ew body) t.v t.t hk;have hFl:=fun k (hk:k < t.v.length)=>vZ (ew body) t.v t.t hk;rw[hLT];clear hLT;generalize Bb (ew body) t.v t.t=FF at *;generalize hPR:dc (ew body) t.v t.t=PR at *;generalize hLN:bx t.v t.t=LN at *;refine af.ah ai Tryz.func95 rfl rfl (n:=169) rfl rfl ?_
 conv=>whnf
 repeat' (first|refine aS ?_|((intro _);conv=>whnf)|(refine zX (fun hc=>?_) (fun hc=>?_)<;>(try simp only[SY] at hc)<;>omega))
 rename_i b3 b4 _ b5;refine aq.cj (au.trans (au.nil 1 4 _) (au.trans (au.nil 1 23 _) (au.trans (show au _ (.row (ay 1 4) (([]:List Bool).map PV.bool)::_) from au.cm 1 4 _) (au.box (b:=b5) (cs:= [.int .i64 (t.v.length:Nat),.nil,.nil,.nil]) (cs':= [.int .i64 (t.v.length:Nat),.sl 1 (([]:List Bool).map PV.bool) (some (ay 1 4)),.sl 1 (([]:List (List Int)).map cW) (some (ay 1 23)),.ms (ay 1 4)]) (by repeat' (first|exact .nil|refine fR.cons ?_ ?_|exact Wk.ay _ _|exact Wk.cm _ _|exact Wk.refl _)))))) ?_
 refine aq.over [6,7,8,9,10,11,22,23,24,25,26,27,28,29,30,31,32,33,34,35,36,37,38,39,40,41,42,43,44,45,46,47,48,49,50,51,52,53,54,55,56,57,58,59,60,61,62,63,64,65,66,67,68,69,70,71,72,73,74,75,76,77,78,79,80,81,82,83,84,85,86,87,88,89,90] (fun x:Nat×(List Bool×Tok)×(List (List Int)×Tok)×(List Bool×Tok)=> [(6,.int .i64 x.1)]) (fun x=> [.box b5 [.int .i64 (t.v.length:Nat),.sl 1 (x.2.1.1.map PV.bool) (some x.2.1.2),.sl 1 (x.2.2.1.1.map cW) (some x.2.2.1.2),.ms x.2.2.2.2],.tok x.2.1.2,.tok x.2.2.1.2,.row x.2.2.2.2 (x.2.2.2.1.map PV.bool),.box b4 [.int .i64 0,.nil,.nil,.nil],.box b3 [.int .i64 t.op,.int .i64 t.n,.sl 1 (t.v.map (PV.int .i64)) none,.sl 4 (t.t.map aa.pv) none],.box b [.int .i64 body.op,.int .i64 body.n,.sl 1 (body.v.map (PV.int .i64)) none,.sl 4 (body.t.map aa.pv) none,.int .i64 nx]])
  (fun x=>x.1≤t.v.length∧(x.2.1.2.e=4∧x.2.2.1.2.e=23∧x.2.2.2.2.e=4∧x.2.2.2.2.s=1)∧x.2.1.1=PR.take x.1∧x.2.2.1.1=LN.take x.1∧x.2.2.2.1=List.replicate x.1 false) (fun x=>t.v.length - x.1) (0,([],ay 1 4),([],ay 1 23),([],ay 1 4)) ⟨Nat.zero_le _,⟨rfl,rfl,rfl,rfl⟩,rfl,rfl,rfl⟩ wA ?_
 rintro ⟨i,⟨pr,tp⟩,⟨ln,tl⟩,⟨lt,tb⟩⟩ ⟨hi,⟨htp,htl,htb,hts⟩,hpr,hln,hlt⟩;dsimp only at hi htp htl htb hts hpr hln hlt ⊢;have hprl:pr.length=i:=by rw[hpr,List.length_take];omega
 have hlnl:ln.length=i:=by rw[hln,List.length_take];omega
 have hltl:lt.length=i:=by rw[hlt,List.length_replicate]
 rcases Nat.lt_or_ge i t.v.length with hlti | hgei
 ·have hit:i < t.t.length:=by omega
  have hPi:=hPL i hlti;have hLi:=hLL i hlti;have hPn:=KS PR false (show i < PR.length by omega);have hLn:=KS LN [] (show i < LN.length by omega);rw[←hpr] at hPn;rw[←hln] at hLn;have e1:t.t.getD i gd=t.t[i]:=by rw[List.getD_eq_getElem?_getD,List.getElem?_eq_getElem hit];rfl
  have e2:t.v.getD i 0=t.v[i]:=by rw[List.getD_eq_getElem?_getD,List.getElem?_eq_getElem hlti];rfl
  rw[e1,e2] at hPi;rw[e1] at hLi;have hbi:t.t[i].aQ≤1000000000:=by have:=aa.bz (List.getElem_mem hit);omega
  have hub:=body.uz (iD t.v[i]) 0;have hcb:=body.Bz;have hsd:ew body t.v[i]=!(body.uC (iD t.v[i]) 0 == 0):=rfl
  conv=>whnf
  repeat' (first|refine aS ?_|((first|((apply zZ);(conv=>whnf);(repeat ((refine pC (Nu t.v[i] body hbb) wR ?_);conv=>whnf));exact pZ)|refine pC (Ls t.t[i] hbi) wR ?_|refine xT ?_|intro _);conv=>whnf)|(refine zX (fun hc=>?_) (fun hc=>?_)<;>(try simp only[SY] at hc)<;>first|omega|(conv=>whnf)))
  rename Tok=>tp2
  have htp2:tp2.e=4:=by assumption
  have hx:(t.t[i].op == 4 && body.uC (iD t.v[i]) 0 == 0)=PR.getD i false:=by rw[hPi,hsd,Bool.not_not]
  rw[hx, ←hPn];have hprn:(PR.take (i + 1)).length=i + 1:=by rw[List.length_take];omega
  generalize hP2:PR.take (i + 1)=pr2 at *;generalize hF:eA (bg t.t[i].all)=fr;have hll1:LN.getD i []=dy t.v.length fun m=>fr.contains (t.v.getD m 0):=by rw[hLi, ←hF];rfl
  refine aq.cj (au.nil 1 3 _) ?_
  refine aq.over [10,11,63,64,65,66,67,68,69,70,71,72,73,74,75,76,77,78,79] (fun x:Nat×List Int×Tok=> [(10,.sl 1 (x.2.1.map (PV.int .i64)) (some x.2.2)),(11,.int .i64 x.1)]) (fun x=> [.tok x.2.2,.box b5 [.int .i64 (t.v.length:Nat),.sl 1 (pr2.map PV.bool) (some tp2),.sl 1 (ln.map cW) (some tl),.ms tb],.tok tp2,.tok tl,.row tb (lt.map PV.bool),.box b4 [.int .i64 0,.nil,.nil,.nil],.box b3 [.int .i64 t.op,.int .i64 t.n,.sl 1 (t.v.map (PV.int .i64)) none,.sl 4 (t.t.map aa.pv) none],.box b [.int .i64 body.op,.int .i64 body.n,.sl 1 (body.v.map (PV.int .i64)) none,.sl 4 (body.t.map aa.pv) none,.int .i64 nx]])
   (fun x=>x.1≤t.v.length∧x.2.2.e=3∧x.2.1=dy x.1 (fun m=>fr.contains (t.v.getD m 0))) (fun x=>t.v.length - x.1) (0, [],ay 1 3) ⟨Nat.zero_le _,rfl,rfl⟩ (by repeat' (first|exact trivial|refine And.intro ?_ ?_|exact Wk.ay _ _|exact Wk.refl _)) ?_
  rintro ⟨j,l,tk⟩ ⟨hj,hte2,hl⟩;dsimp only at hj hte2 hl ⊢;have hll2:l.length≤j:=by rw[hl];exact bO _ _
  rcases Nat.lt_or_ge j t.v.length with hjl | hje
  ·have hsn:=fo j (fun m=>fr.contains (t.v.getD m 0))
   rw[←hl,List.getD_eq_getElem?_getD,List.getElem?_eq_getElem hjl,Option.getD_some] at hsn
   conv=>whnf
   repeat' (first|refine aS ?_|((first|refine pC (DE fr t.v[j]) wR ?_|intro _);conv=>whnf)|(refine zX (fun hc=>?_) (fun hc=>?_)<;>(try simp only[SY] at hc)<;>first|omega|(conv=>whnf)))
   ·rename Tok=>t5
    rw[if_pos (by assumption)] at hsn;exact an (j + 1,l++ [(j:Int)],t5) ⟨by show j + 1≤_;omega,by assumption,hsn.symm⟩ (by show t.v.length - (j + 1) < t.v.length - j;omega) wA
   ·rw[if_neg (by simp_all),List.append_nil] at hsn
    exact an (j + 1,l,tk) ⟨by show j + 1≤_;omega,hte2,hsn.symm⟩ (by show t.v.length - (j + 1) < t.v.length - j;omega) wA
  ·obtain rfl:j=t.v.length:=by omega
   rw[←hl] at hll1;rw[hll1] at hLn
   conv=>whnf
   repeat' (first|refine aS ?_|((intro _);conv=>whnf)|(refine zX (fun hc=>?_) (fun hc=>?_)<;>(try simp only[SY] at hc)<;>first|omega|(conv=>whnf)))
   rename_i t6 ht6 _ _ t7 ht7 hs7;exact an (i + 1,(pr2,tp2),(ln++ [l],t6),(lt++ [false],t7)) ⟨by show i + 1≤_;omega,⟨htp2,ht6,ht7,hs7⟩,hP2.symm,hLn.symm,by show lt++ [false]=_;rw[hlt,List.replicate_succ']⟩ (by show t.v.length - (i + 1) < t.v.length - i;omega) wA
 ·obtain rfl:i=t.v.length:=by omega
  rw[List.take_of_length_le (by omega)] at hpr hln;subst hpr hln hlt
  conv=>whnf
  repeat' (first|((first|refine gO.row (by omega) (by omega) (by omega) (by show _ * 24≤_;omega) rfl fun tg hge hgs=>?_|refine aM ?_);conv=>whnf)|(refine zX (fun hc=>?_) (fun hc=>?_)<;>(try simp only[SY] at hc)<;>first|omega|(conv=>whnf)))
  rw[Int.toNat_natCast];refine aq.cj (au.tq (t:=tg) (xj t.v.length)) ?_
  refine aq.over [13,94,95,96,97,98,99,100,101,102,103,104,105,106,107,108,109,110,111,112] (fun x:Nat×cE=> [(13,.int .i64 x.1)]) (fun x=> [.row tg (x.2.map cW),.box b5 [.int .i64 (t.v.length:Nat),.sl 1 (pr.map PV.bool) (some tp),.sl 1 (ln.map cW) (some tl),.ms tb],.tok tp,.tok tl,.row tb ((List.replicate t.v.length false).map PV.bool),.box b4 [.int .i64 0,.nil,.nil,.nil],.box b3 [.int .i64 t.op,.int .i64 t.n,.sl 1 (t.v.map (PV.int .i64)) none,.sl 4 (t.t.map aa.pv) none],.box b [.int .i64 body.op,.int .i64 body.n,.sl 1 (body.v.map (PV.int .i64)) none,.sl 4 (body.t.map aa.pv) none,.int .i64 nx]])
   (fun x=>x.1≤t.v.length∧x.2=pg (EE pr ln) t.v.length x.1) (fun x=>t.v.length - x.1) (0,List.replicate t.v.length []) ⟨Nat.zero_le _,yf _ _⟩ wA ?_
  rintro ⟨j,G⟩ ⟨hj,hG⟩;dsimp only at hj hG ⊢;have hGl:G.length=t.v.length:=by rw[hG];exact nt _ _ _
  rcases Nat.lt_or_ge j t.v.length with hjl | hje
  ·have hpj:pr.getD j false=pr[j]'(by omega):=by rw[List.getD_eq_getElem?_getD,List.getElem?_eq_getElem (by omega)];rfl
   have hlj:ln.getD j []=ln[j]'(by omega):=by rw[List.getD_eq_getElem?_getD,List.getElem?_eq_getElem (by omega)];rfl
   conv=>whnf
   repeat' (first|((first|refine aM ?_|refine aF ?_|refine zG ?_);conv=>whnf)|(refine zX (fun hc=>?_) (fun hc=>?_)<;>(try simp only[SY] at hc)<;>first|omega|(conv=>whnf)))
   ·exact an (j + 1,G.set j ln[j]) ⟨by show j + 1≤_;omega,(congrArg (fun g:cE=>g.set j ln[j]) hG).trans (B2 (by unfold EE;rw[hpj,if_pos (by assumption),hlj]))⟩ (by show t.v.length - (j + 1) < t.v.length - j;omega) wA
   ·exact an (j + 1,G) ⟨by show j + 1≤_;omega,hG.trans (Fb (by unfold EE;rw[hpj,if_neg (by simp_all)]))⟩ (by show t.v.length - (j + 1) < t.v.length - j;omega) wA
  ·obtain rfl:j=t.v.length:=by omega
   have hGt:G=fA pr ln:=by rw[hG, ←hll];exact B3 _ _
   have hGO:kO G:=by rw[hGt];exact u5 hgo
   have hGS:eL G≤500 * 500:=by
    have:=mO G 500 fun l hl=>by
     rw[hGt] at hl;unfold fA at hl;obtain ⟨k,hk,rfl⟩:=List.mem_map.1 hl
     split
     ·have hk:=List.mem_range.1 hk
      rw[hLL k (by omega)];exact Nat.le_trans (bO _ _) hn
     ·exact Nat.zero_le _
    exact Nat.le_trans this (Nat.mul_le_mul (by omega) (Nat.le_refl _))
   have hlnm: ∀ k (hk:k < ln.length),zb G ln[k]:=fun k hk x hx=>by
    have:=hgo _ (List.getElem_mem hk) x hx;omega
   have hlnk: ∀ k (hk:k < ln.length),ln[k].length≤500:=fun k hk=>by
    have:=hLL k (by omega);rw[List.getD_eq_getElem?_getD,List.getElem?_eq_getElem hk] at this;have e:ln[k]=ue t.v (t.t.getD k gd):=this;rw[e];exact Nat.le_trans (bO _ _) hn
   conv=>whnf
   repeat' (first|((refine aM ?_);conv=>whnf)|(refine zX (fun hc=>?_) (fun hc=>?_)<;>(try simp only[SY] at hc)<;>first|omega|(conv=>whnf)))
   refine aq.RI 12 tg (G.map cW) 1 rfl hgs ?_;dsimp only[List.set];rw[←hGt] at hG0
   have hz:List.replicate t.v.length false=Bc (oq FF t.v.length t.n 0) t.v.length:=by
    unfold Bc oq;simp[List.map_const']
   refine aq.over [14,15,16,17,113,114,115,116,117,118,119,120,121,122,123,124,125,126,127,128,129,130,131,132,133,134,135,136,137,138,139,140,141,142,143,144,145,146,147,148,149,150,151,152,153,154,155,156,157,158,159,160,161,162,163,164,165,166,167] (fun x:Nat×List Bool=> [(14,.int .i64 x.1)]) (fun x=> [.row tb (x.2.map PV.bool),.box b5 [.int .i64 (t.v.length:Nat),.sl 1 (pr.map PV.bool) (some tp),.sl 1 (ln.map cW) (some tl),.ms tb],.tok tp,.tok tl,.box b4 [.int .i64 0,.nil,.nil,.nil],.box b3 [.int .i64 t.op,.int .i64 t.n,.sl 1 (t.v.map (PV.int .i64)) none,.sl 4 (t.t.map aa.pv) none],.box b [.int .i64 body.op,.int .i64 body.n,.sl 1 (body.v.map (PV.int .i64)) none,.sl 4 (body.t.map aa.pv) none,.int .i64 nx]])
    (fun x=>x.1≤t.v.length∧x.2=Bc (oq FF t.v.length t.n x.1) t.v.length) (fun x=>t.v.length - x.1) (0,List.replicate t.v.length false) ⟨Nat.zero_le _,hz⟩ wA ?_
   rintro ⟨i,lt⟩ ⟨hi,hlt⟩;dsimp only at hi hlt ⊢;have hltl:lt.length=t.v.length:=by rw[hlt];exact rO _ _
   rcases Nat.lt_or_ge i t.v.length with hlti | hgei
   ·have hls:=Cl FF t.v.length t.n i
    have hip:i < pr.length:=by omega
    have hil:i < ln.length:=by omega
    have ep:pr[i]=(FF i).pr:=by rw[←hFp i hlti,List.getD_eq_getElem?_getD,List.getElem?_eq_getElem hip];rfl
    have el:ln[i]=(FF i).ln:=by rw[←hFl i hlti,List.getD_eq_getElem?_getD,List.getElem?_eq_getElem hil];rfl
    by_cases hpi:pr[i]=true
    ·have hle:oq FF t.v.length t.n (i + 1)=oq FF t.v.length t.n i:=funext fun j=>by rw[hls, ←ep,hpi];simp
     conv=>whnf
     repeat' (first|((refine aM ?_);conv=>whnf)|(refine zX (fun hc=>?_) (fun hc=>?_)<;>(try simp only[SY] at hc)<;>first|omega|(conv=>whnf)))
     ·exact an (i + 1,lt) ⟨by show i + 1≤_;omega,by show lt=Bc _ _;rw[hle];exact hlt⟩ (by show t.v.length - (i + 1) < t.v.length - i;omega) wA
     ·exact absurd hpi (by simp_all)
    ·have hpf:pr[i]=false:=by simpa using hpi
     have hend: ∀ j,oq FF t.v.length t.n (i + 1) j=(oq FF t.v.length t.n i j || ((bF G ln[i]).contains (j:Int) && (t.n == 0 || decide (i≤j)))):=fun j=>by rw[hls, ←ep,hpf,hG0,el];simp
     have hrr: ∀ c∈bF G ln[i],0≤c∧c < (t.v.length:Int):=fun c hc=>by
      have:=((eG hGO (hlnm i hil) c).1 hc).Ip hGO (hlnm i hil);omega
     have hrl:=j5 G ln[i];have hdr:=BI G ln[i] hGO (hlnm i hil) (by omega) (by omega) (by have:=hlnk i hil;omega);generalize bF G ln[i]=R at *
     conv=>whnf
     repeat' (first|((first|refine aM ?_|refine pC (hdr) wR ?_);conv=>whnf)|(refine zX (fun hc=>?_) (fun hc=>?_)<;>(try simp only[SY] at hc)<;>first|omega|(conv=>whnf)))
     ·exact absurd hpf (by simp_all)
     have hz2:oq FF t.v.length t.n i=yt (oq FF t.v.length t.n i) R t.n i 0:=funext fun j=>by unfold yt;simp
     generalize hl0:oq FF t.v.length t.n i=l0 at *
     refine aq.over [17,134,135,136,137,138,139,140,141,142,143,144,145,146,147,148,149,150,151,152,153,154,155,156,157,158,159,160,161,162,163,164,165,166,167] (fun x:Nat×List Bool=> [(17,.int .i64 x.1)]) (fun x=> [.row tb (x.2.map PV.bool),.box b5 [.int .i64 (t.v.length:Nat),.sl 1 (pr.map PV.bool) (some tp),.sl 1 (ln.map cW) (some tl),.ms tb],.tok tp,.tok tl,.box b4 [.int .i64 0,.nil,.nil,.nil],.box b3 [.int .i64 t.op,.int .i64 t.n,.sl 1 (t.v.map (PV.int .i64)) none,.sl 4 (t.t.map aa.pv) none],.box b [.int .i64 body.op,.int .i64 body.n,.sl 1 (body.v.map (PV.int .i64)) none,.sl 4 (body.t.map aa.pv) none,.int .i64 nx]])
      (fun x=>x.1≤R.length∧x.2=Bc (yt l0 R t.n i x.1) t.v.length) (fun x=>R.length - x.1) (0,lt) ⟨Nat.zero_le _,by rw[←hz2];exact hlt⟩ wA ?_
     rintro ⟨m,l2⟩ ⟨hm,hl2⟩;dsimp only at hm hl2 ⊢;have hl2l:l2.length=t.v.length:=by rw[hl2];exact rO _ _
     rcases Nat.lt_or_ge m R.length with hml | hme
     ·have hcr:=hrr _ (List.getElem_mem hml)
      obtain ⟨c,hcR⟩:=Int.eq_ofNat_of_zero_le hcr.1;have hcl:R[m].toNat < l2.length:=by omega
      have hcn:R[m].toNat=c:=by omega
      have hset:l2.set R[m].toNat (l2[R[m].toNat] || t.n == 0 || decide (R[m]≥(i:Int)))=Bc (yt l0 R t.n i (m + 1)) t.v.length:=by
       subst hl2;refine Mc (fun j hj=>JK hml (by omega)) ?_;rw[AA];simp only[hcn];rw[JJ hml hcR]
      conv=>whnf
      repeat' (first|((first|((first|(apply zY;intro hg)|apply zZ);first|exact tB|((conv=>whnf);(repeat ((refine aH ?_);conv=>whnf));exact pZ))|refine aM ?_|refine aF ?_|refine xT ?_|intro _);conv=>whnf)|(refine zX (fun hc=>?_) (fun hc=>?_)<;>(try simp only[SY] at hc)<;>first|omega|(conv=>whnf)))
      exact an (m + 1,l2.set R[m].toNat (l2[R[m].toNat] || t.n == 0 || decide (R[m]≥(i:Int)))) ⟨by show m + 1≤_;omega,hset⟩ (by show R.length - (m + 1) < R.length - m;omega) wA
     ·obtain rfl:m=R.length:=by omega
      have hle:oq FF t.v.length t.n (i + 1)=yt l0 R t.n i R.length:=funext fun j=>by rw[hend];unfold yt;rw[List.take_length]
      conv=>whnf
      repeat' (first|((first|refine aM ?_|intro _);conv=>whnf)|(refine zX (fun hc=>?_) (fun hc=>?_)<;>(try simp only[SY] at hc)<;>first|omega|(conv=>whnf)))
      exact an (i + 1,l2) ⟨by show i + 1≤_;omega,by show l2=Bc _ _;rw[hle];exact hl2⟩ (by show t.v.length - (i + 1) < t.v.length - i;omega) wA
   ·obtain rfl:i=t.v.length:=by omega
    conv=>whnf
    repeat' (first|((first|refine aM ?_|refine aF ?_);conv=>whnf)|(refine zX (fun hc=>?_) (fun hc=>?_)<;>(try simp only[SY] at hc)<;>first|omega|(conv=>whnf)))
    rw[hlt];exact ak.QA (t:=tb) (es:=(Bc (oq FF t.v.length t.n t.v.length) t.v.length).map PV.bool) (y:=.agg (qn t.v.length pr ln (Bc (oq FF t.v.length t.n t.v.length) t.v.length))) (Γ':=FC b body nx) (iA.agg (.cons (iA.of (Wk.refl _)) (.cons (iA.of (Wk.tok _ _ _)) (.cons (iA.of (Wk.tok _ _ _)) (.cons (iA.ms' hts) .nil))))) ⟨rfl,rfl⟩
theorem rP (pr lt:List Bool): ∀ (l:List Int) (m:Int),0≤m→iM pr lt l m=max m (iM pr lt l 0)
 | [],m,h=>by rw[iM,iM];omega
 | j::l,m,h=>by
  rw[iM,iM]
  split
  ·rw[rP pr lt l (max m (j + 1)) (by omega),rP pr lt l (max 0 (j + 1)) (by omega)]
   omega
  ·exact rP pr lt l m h
theorem yw (pr lt:List Bool) (j:Int): ∀ (l:List Int) (m:Int),iM pr lt (l++ [j]) m=if pr.getD j.toNat false=false∧lt.getD j.toNat false=false then max (iM pr lt l m) (j + 1) else iM pr lt l m
 | [],m=>rfl
 | x::l,m=>by rw[List.cons_append,iM,yw pr lt j l,iM]
theorem yu (g:cE) (pr lt:List Bool) (k:Nat): ∀ (l:List Nat) (m:Int),kZ g pr lt (l++ [k]) m=iM pr lt (bF g [(k:Int)]) (kZ g pr lt l m)
 | [],m=>rfl
 | x::l,m=>by rw[List.cons_append,kZ,yu g pr lt k l,kZ]
theorem Fv (pr lt:List Bool) (n:Nat): ∀ (l:List Int) (m:Int),(∀ j∈l,0≤j∧j < n)→0≤m∧m≤n→0≤iM pr lt l m∧iM pr lt l m≤n
 | [],m,_,h=>h
 | j::l,m,hj,h=>by
  rw[iM];have:=hj j (by simp);exact Fv pr lt n l _ (fun x hx=>hj x (by simp[hx])) (by split<;>omega)
theorem bQ {l:List Bool} {j:Nat} (h:j < l.length):l.getD j false=l[j]:=by rw[List.getD_eq_getElem?_getD,List.getElem?_eq_getElem h];rfl
theorem BN {pr lt:List Bool} {j:Nat} (h:j < pr.length):(bp pr lt).getD j false=(pr.getD j false && !lt.getD j false):=by
 unfold bp;rw[List.getD_eq_getElem?_getD,List.getElem?_map,List.getElem?_range h];rfl
theorem GB {p q:Prop} (k:q) (h:q→p:=by intro hq;first | exact aC.sP (some 54) rfl [] [] ai mixed hq):p:=h k
theorem Hq (pr lt:List Bool) (ln:List (List Int)) (i:Int) (hn:ln.length≤500) (hp:pr.length=ln.length) (hl:lt.length=ln.length) (hi:0≤i∧i < ln.length) (hg:kO ln) (hll: ∀ l∈ln,l.length≤500):
  aA Tryz.prog 157 [.agg (qn ln.length pr ln lt),.int .i64 i] (.int .i64 (iM pr lt (bF (fA (bp pr lt) ln) [i]) 0)):=by
 have hel:(bp pr lt).length=ln.length:=by unfold bp;simp[hp]
 have hGO:kO (fA (bp pr lt) ln):=u5 hg;have hGl:(fA (bp pr lt) ln).length=ln.length:=by unfold fA;simp
 have hGS:eL (fA (bp pr lt) ln)≤500 * 500:=by
  have:=mO (fA (bp pr lt) ln) 500 fun l hl=>by
   unfold fA at hl;obtain ⟨k,hk,rfl⟩:=List.mem_map.1 hl
   split
   ·have hk:=List.mem_range.1 hk
    rw[List.getD_eq_getElem?_getD,List.getElem?_eq_getElem hk];exact hll _ (List.getElem_mem hk)
   ·exact Nat.zero_le _
  exact Nat.le_trans this (Nat.mul_le_mul (by omega) (Nat.le_refl _))
 have hfull:=B3 (bp pr lt) ln;have hFo:zb (fA (bp pr lt) ln) [i]:=fun x hx=>by rw[List.mem_singleton.1 hx,hGl];exact hi
 have hrr: ∀ c∈bF (fA (bp pr lt) ln) [i],0≤c∧c < (ln.length:Int):=fun c hc=>by
  have:=((eG hGO hFo c).1 hc).Ip hGO hFo;omega
 have hrl:=j5 (fA (bp pr lt) ln) [i];have hdr:=BI (fA (bp pr lt) ln) [i] hGO hFo (by omega) (by omega) (by simp);generalize fA (bp pr lt) ln=GG at *;refine af.ah ai Tryz.func157 rfl rfl (n:=82) rfl rfl ?_
 conv=>whnf
 repeat' (first|((first|refine gO.row (by omega) (by omega) (by omega) (by show _ * 24≤_;omega) rfl fun tg hte hts=>?_|refine aM ?_|intro _);conv=>whnf)|(refine zX (fun hc=>?_) (fun hc=>?_)<;>(try simp only[SY] at hc)<;>omega))
 rename_i b2;rw[Int.toNat_natCast];refine aq.cj (au.tq (t:=tg) (xj ln.length)) ?_;refine aq.over [6,14,15,16,17,18,19,20,21,22,23,24,25,26,27,28,29,30,31,32,33,34,35,36,37,38,39,40] (fun x:Nat×cE=> [(6,.int .i64 x.1)]) (fun x=> [.row tg (x.2.map cW),.box b2 (qn ln.length pr ln lt)]) (fun x=>x.1≤ln.length∧x.2=pg (EE (bp pr lt) ln) ln.length x.1) (fun x=>ln.length - x.1) (0,List.replicate ln.length []) ⟨Nat.zero_le _,yf _ _⟩ wA ?_;rintro ⟨j,G⟩ ⟨hj,hG⟩;dsimp only at hj hG ⊢;have hGl2:G.length=ln.length:=by rw[hG];exact nt _ _ _
 rcases Nat.lt_or_ge j ln.length with hjl | hje
 ·have hjp:j < pr.length:=by omega
  have hjt:j < lt.length:=by omega
  have he:=BN (lt:=lt) hjp;rw[bQ hjp,bQ hjt] at he;have hlj:ln.getD j []=ln[j]:=by rw[List.getD_eq_getElem?_getD,List.getElem?_eq_getElem hjl];rfl
  conv=>whnf
  repeat' (first|((first|refine Lv ?_|refine aM ?_|refine aF ?_|refine zG ?_);conv=>whnf)|(refine zX (fun hc=>?_) (fun hc=>?_)<;>(try simp only[SY] at hc)<;>first|omega|(conv=>whnf)))
  ·exact an (j + 1,G.set j ln[j]) ⟨by show j + 1≤_;omega,(congrArg (fun g:cE=>g.set j ln[j]) hG).trans (B2 (by unfold EE;rw[he,if_pos (by simp_all),hlj]))⟩ (by show ln.length - (j + 1) < ln.length - j;omega) wA
  ·exact an (j + 1,G) ⟨by show j + 1≤_;omega,hG.trans (Fb (by unfold EE;rw[he,if_neg (by rcases (by assumption:pr[j]=false∨lt[j]=true) with h | h<;>simp[h])]))⟩ (by show ln.length - (j + 1) < ln.length - j;omega) wA
 ·obtain rfl:j=ln.length:=by omega
  rw[hfull] at hG;subst hG;generalize bF G [i]=R at *
  conv=>whnf
  repeat' (first|((first|refine aM ?_|intro _);conv=>whnf)|(refine zX (fun hc=>?_) (fun hc=>?_)<;>(try simp only[SY] at hc)<;>first|omega|(conv=>whnf)))
  refine av.AM tg (G.map cW) (.cons (iA.ms' hts) (.cons (iA.of (Wk.tok 1 [.int .i64 i] _)) .nil)) hdr ?_
  conv=>whnf
  skip
  refine aq.over [9,10,48,49,50,51,52,53,54,55,56,57,58,59,60,61,62,63,64,65,66,67,68,69,70,71,72,73,74,75,76,77,78,79,80] (fun x:Nat×Int=> [(9,.int .i64 x.2),(10,.int .i64 x.1)]) (fun x=> [.box b2 (qn ln.length pr ln lt)]) (fun x=>x.1≤R.length∧x.2=iM pr lt (R.take x.1) 0∧0≤x.2∧x.2≤1000) (fun x=>R.length - x.1) (0,0) ⟨Nat.zero_le _,rfl,by decide,by decide⟩ wA ?_;rintro ⟨m,lv⟩ ⟨hm,hlv,hlv0,hlv1⟩;dsimp only at hm hlv hlv0 hlv1 ⊢;rcases Nat.lt_or_ge m R.length with hml | hme
  ·have hcr:=hrr _ (List.getElem_mem hml)
   have hcp:R[m].toNat < pr.length:=by omega
   have hct:R[m].toNat < lt.length:=by omega
   have hls:=yw pr lt R[m] (R.take m) 0;rw[←List.take_succ_eq_append_getElem hml, ←hlv,bQ hcp,bQ hct] at hls
   conv=>whnf
   repeat' (first|((first|refine Lv ?_|refine aM ?_|refine GB ?_|intro _|refine zG ?_);conv=>whnf)|(refine zX (fun hc=>?_) (fun hc=>?_)<;>(try simp only[SY] at hc)<;>first|omega|(conv=>whnf)))
   ·rw[if_pos (by assumption)] at hls
    have hm3: ∀ x:Int,x=(if lv < R[m] + 1 then R[m] + 1 else lv)→x=max lv (R[m] + 1)∧0≤x∧x≤1000:=by
     intro x hx;subst hx
     split<;>omega
    obtain ⟨h1,h2,h3⟩:=hm3 _ rfl;exact an (m + 1,if lv < R[m] + 1 then R[m] + 1 else lv) ⟨by show m + 1≤_;omega,h1.trans hls.symm,h2,h3⟩ (by show R.length - (m + 1) < R.length - m;omega) wA
   ·rw[if_neg (by rcases (by assumption:pr[R[m].toNat]=true∨lt[R[m].toNat]=true) with h | h<;>simp[h])] at hls
    exact an (m + 1,lv) ⟨by show m + 1≤_;omega,hls.symm,hlv0,hlv1⟩ (by show R.length - (m + 1) < R.length - m;omega) wA
  ·obtain rfl:m=R.length:=by omega
   rw[List.take_length] at hlv;rw[←hlv]
   conv=>whnf
   repeat' (first|((first|refine aM ?_|intro _);conv=>whnf)|(refine zX (fun hc=>?_) (fun hc=>?_)<;>(try simp only[SY] at hc)<;>first|omega|(conv=>whnf)))
   exact ak.pure (Wk.refl _)
def uc (pr lt:List Bool) (ln:List (List Int)):List (List Int×Int):=(jA (gw (dK (bp pr lt)) ln)).map fun grp=>(grp.map fun a=>(((dK (bp pr lt)).getD a 0:Nat):Int),kZ (fA (bp pr lt) ln) pr lt (grp.map fun a=>(dK (bp pr lt)).getD a 0) 0)
def G5 (V:List Int) (E:List aa) (x:List Int×Int):jE:=⟨x.2,x.1.map fun k=>V.getD k.toNat 0,x.1.map fun k=>E.getD k.toNat gd⟩
theorem yh (V:List Int) (E:List aa) (pr lt:List Bool) (ln:List (List Int)):(uc pr lt ln).map (G5 V E)=cJ V E pr lt ln:=by
 unfold uc cJ G5;rw[List.map_map];refine List.map_congr_left fun grp _=>?_;simp only[Function.comp,List.map_map];congr 1
theorem J0 (pr lt:List Bool):dy pr.length (fun k=>(bp pr lt).getD k false)=(dK (bp pr lt)).map fun x:Nat=>(x:Int):=by
 unfold dy dK;rw[show (bp pr lt).length=pr.length by unfold bp;simp]
def Ir (ln:List (List Int)) (ow:List Int) (a:Nat):List Int:=dy ow.length fun b=>(ln.getD (ow.getD a 0).toNat []).contains (ow.getD b 0)
theorem L7 (own:List Nat) (ln:List (List Int)):(List.range (own.map fun x:Nat=>(x:Int)).length).map (Ir ln (own.map fun x:Nat=>(x:Int)))=gw own ln:=by
 unfold gw;refine Eq.trans ?_ (Fx own 0 _).symm;rw[List.length_map];refine List.map_congr_left fun a ha=>?_;unfold Ir;rw[List.length_map];congr 1;funext b;rw[qL,qL,Int.toNat_natCast]
theorem sA {p q:Prop} (k:q) (h:q→p:=by intro hq;first | exact aC.sP (some 55) rfl [] [] ai mixed hq | exact aC.sP (some 111) rfl [] [] ai mixed hq):p:=h k
theorem DW (pr lt:List Bool) (ln:List (List Int)) (hn:ln.length≤500) (hp:pr.length=ln.length) (hl:lt.length=ln.length) (hg:kO ln) (hll: ∀ l∈ln,l.length≤500):
  aA Tryz.prog 97 [.agg (qn ln.length pr ln lt)] (.bn [.sl 1 (((uc pr lt ln).map Prod.fst).map cW) none,.sl 1 (((uc pr lt ln).map Prod.snd).map (PV.int .i64)) none]):=by
 have hlev:=fun i hi=>Hq pr lt ln i hn hp hl hi hg hll;have hel:(bp pr lt).length=ln.length:=by unfold bp;simp[hp]
 have hGO:kO (fA (bp pr lt) ln):=u5 hg;have hGl:(fA (bp pr lt) ln).length=ln.length:=by unfold fA;simp
 have hoN:=J0 pr lt;refine af.ah ai Tryz.func97 rfl rfl (n:=135) rfl rfl ?_
 conv=>whnf
 repeat' (first|((intro _);conv=>whnf)|(refine zX (fun hc=>?_) (fun hc=>?_)<;>(try simp only[SY] at hc)<;>omega))
 rename_i b1;refine aq.cj (au.nil 1 3 _) ?_;refine aq.over [4,5,17,18,19,20,21,22,23,24,25,26,27,28,29,30,31,32,33,34,35,36,37,38,39] (fun x:Nat×List Int×Tok=> [(4,.sl 1 (x.2.1.map (PV.int .i64)) (some x.2.2)),(5,.int .i64 x.1)]) (fun x=> [.tok x.2.2,.box b1 (qn ln.length pr ln lt)]) (fun x=>x.1≤ln.length∧x.2.2.e=3∧x.2.1=dy x.1 (fun k=>(bp pr lt).getD k false)) (fun x=>ln.length - x.1) (0, [],ay 1 3) ⟨Nat.zero_le _,rfl,rfl⟩ (by repeat' (first|exact trivial|refine And.intro ?_ ?_|exact Wk.ay _ _|exact Wk.refl _)) ?_;rintro ⟨i,ow,tk⟩ ⟨hi,hte,how⟩;dsimp only at hi hte how ⊢;have hol:ow.length≤i:=by rw[how];exact bO _ _
 rcases Nat.lt_or_ge i ln.length with hlt | hge
 ·have hip:i < pr.length:=by omega
  have hit:i < lt.length:=by omega
  have he:=BN (lt:=lt) hip;rw[bQ hip,bQ hit] at he;have hsn:=fo i (fun k=>(bp pr lt).getD k false);rw[←how,he] at hsn
  conv=>whnf
  repeat' (first|refine aS ?_|((intro _);conv=>whnf)|(refine zX (fun hc=>?_) (fun hc=>?_)<;>(try simp only[SY] at hc)<;>first|omega|(conv=>whnf)))
  ·rename Tok=>t5
   rw[if_pos (by simp_all)] at hsn;exact an (i + 1,ow++ [(i:Int)],t5) ⟨by show i + 1≤_;omega,by assumption,hsn.symm⟩ (by show ln.length - (i + 1) < ln.length - i;omega) wA
  ·rw[if_neg (by rcases (by assumption:pr[i]=false∨lt[i]=true) with h | h<;>simp[h]),List.append_nil] at hsn
   exact an (i + 1,ow,tk) ⟨by show i + 1≤_;omega,hte,hsn.symm⟩ (by show ln.length - (i + 1) < ln.length - i;omega) wA
 ·obtain rfl:i=ln.length:=by omega
  have hor: ∀ c∈ow,0≤c∧c < (ln.length:Int):=fun c hc=>by
   rw[how] at hc;have:=iO.1 hc;exact ⟨this.1,this.2.1⟩
  rw[←hp,hoN] at how;have hIG:(List.range ow.length).map (Ir ln ow)=gw (dK (bp pr lt)) ln:=by rw[how];exact L7 _ _
  conv=>whnf
  repeat' (first|((first|refine gO.row (by omega) (by omega) (by omega) (by show _ * 24≤_;omega) rfl fun tr hre hrs=>?_|refine aM ?_|intro _);conv=>whnf)|(refine zX (fun hc=>?_) (fun hc=>?_)<;>(try simp only[SY] at hc)<;>first|omega|(conv=>whnf)))
  rw[Int.toNat_natCast,B9 (Ir ln ow)];refine aq.over [7,8,43,44,45,46,47,48,49,50,51,52,53,54,55,56,57,58,59,60,61,62,63,64,65,66,67,68,69,70,71,72,73,74,75,76,77] (fun a:Nat=> [(7,.int .i64 a)]) (fun a=> [.row tr ((Ba (Ir ln ow) ow.length a).map ke),.tok tk,.box b1 (qn ln.length pr ln lt)]) (fun a=>a≤ow.length) (fun a=>ow.length - a) 0 (Nat.zero_le _) wA ?_;intro a ha;have hil:=ri (Ir ln ow) ow.length a;rcases Nat.lt_or_ge a ow.length with halt | hage
  ·have hset:=Fi (f:=Ir ln ow) (n:=ow.length) (a:=a)
   have hia:(Ba (Ir ln ow) ow.length a)[a]?=some none:=by rw[List.getElem?_eq_getElem (by omega),q9,if_neg (by omega)]
   have hoa:=hor _ (List.getElem_mem halt);generalize hW:Ba (Ir ln ow) ow.length a=Ws at *;have haw:a < Ws.length:=by omega
   have hga:Ws[a]=none:=by rw[List.getElem?_eq_getElem haw] at hia;exact Option.some.inj hia
   have hia2:ow[a].toNat < ln.length:=by omega
   have hin:Ir ln ow a=dy ow.length (fun b=>ln[ow[a].toNat].contains (ow.getD b 0)):=by
    unfold Ir;rw[List.getD_eq_getElem?_getD (l:=ow) (i:=a),List.getElem?_eq_getElem halt,Option.getD_some,List.getD_eq_getElem?_getD (l:=ln),List.getElem?_eq_getElem hia2,Option.getD_some]
   conv=>whnf
   repeat' (first|refine aS ?_|((intro _);conv=>whnf)|(refine zX (fun hc=>?_) (fun hc=>?_)<;>(try simp only[SY] at hc)<;>first|omega|(conv=>whnf)))
   refine aq.cj (au.trans (au.nil 1 3 _) (au.tq (t:=tr) (es':=(Ws.set a (some (([]:List Int),some (ay 1 3)))).map ke) (vb (fun _ _=>Wk.refl _) haw (by rw[hga];exact Wk.ay 1 3)))) ?_;refine aq.over [8,49,50,51,52,53,54,55,56,57,58,59,60,61,62,63,64,65,66,67,68,69,70,71,72,73,74,75,76,77] (fun x:Nat×List Int×Tok=> [(8,.int .i64 x.1)]) (fun x=> [.row tr ((Ws.set a (some (x.2.1,some x.2.2))).map ke),.tok x.2.2,.tok tk,.box b1 (qn ln.length pr ln lt)]) (fun x=>x.1≤ow.length∧x.2.2.e=3∧x.2.1=dy x.1 (fun b=>ln[ow[a].toNat].contains (ow.getD b 0))) (fun x=>ow.length - x.1) (0, [],ay 1 3) ⟨Nat.zero_le _,rfl,rfl⟩ wA ?_;rintro ⟨b,l,tkl⟩ ⟨hb1,hte2,hl2⟩;dsimp only at hb1 hte2 hl2 ⊢;have hll2:l.length≤b:=by rw[hl2];exact bO _ _
   have hsl:(Ws.set a (some (l,some tkl))).length=ow.length:=by rw[List.length_set];exact hil
   rcases Nat.lt_or_ge b ow.length with hblt | hbge
   ·have hsn:=fo b (fun b=>ln[ow[a].toNat].contains (ow.getD b 0))
    rw[←hl2,List.getD_eq_getElem?_getD,List.getElem?_eq_getElem hblt,Option.getD_some] at hsn;have hcc:=DE ln[ow[a].toNat] ow[b]
    cases hc2:ln[ow[a].toNat].contains ow[b] with
    | true=>
     rw[if_pos hc2] at hsn;rw[hc2] at hcc
     conv=>whnf
     repeat' (first|refine aS ?_|((first|((apply zZ);(conv=>whnf);(repeat ((refine pC (hcc) wR ?_);conv=>whnf));exact pZ)|refine sA ?_|intro _);conv=>whnf)|(refine zX (fun hc=>?_) (fun hc=>?_)<;>(try simp only[SY] at hc)<;>first|omega|(conv=>whnf)))
     rw[List.getElem_set_self]
     conv=>whnf
     repeat' (first|refine aS ?_|((intro _);conv=>whnf)|(refine zX (fun hc=>?_) (fun hc=>?_)<;>(try simp only[SY] at hc)<;>omega))
     rename Tok=>t5
     rw[List.set_set];exact an (b + 1,l++ [(b:Int)],t5) ⟨by show b + 1≤_;omega,by assumption,hsn.symm⟩ (by show ow.length - (b + 1) < ow.length - b;omega) wA
    | false=>
     rw[if_neg (by rw[hc2];decide),List.append_nil] at hsn;rw[hc2] at hcc
     conv=>whnf
     repeat' (first|refine aS ?_|((first|((apply zZ);(conv=>whnf);(repeat ((refine pC (hcc) wR ?_);conv=>whnf));exact pZ)|refine sA ?_|intro _);conv=>whnf)|(refine zX (fun hc=>?_) (fun hc=>?_)<;>(try simp only[SY] at hc)<;>first|omega|(conv=>whnf)))
     exact an (b + 1,l,tkl) ⟨by show b + 1≤_;omega,hte2,hsn.symm⟩ (by show ow.length - (b + 1) < ow.length - b;omega) wA
   ·obtain rfl:b=ow.length:=by omega
    rw[←hin] at hl2
    conv=>whnf
    repeat' (first|refine aS ?_|((intro _);conv=>whnf)|(refine zX (fun hc=>?_) (fun hc=>?_)<;>(try simp only[SY] at hc)<;>first|omega|(conv=>whnf)))
    exact Az (a + 1) (by show a + 1≤_;omega) (by show ow.length - (a + 1) < ow.length - a;omega) (au.tq (t:=tr) (es':=(Ba (Ir ln ow) ow.length (a + 1)).map ke) (by rw[←hset, ←hl2];have:=vb (l:=Ws.set a (some (l,some tkl))) (x:=some (l,none)) (fun _ _=>Wk.refl _) (a:=a) (by omega) (by rw[List.getElem_set_self];exact Wk.tok _ _ _);rwa [List.set_set] at this)) wA
  ·obtain rfl:a=ow.length:=by omega
   rw[B8,hIG];have hIl:(gw (dK (bp pr lt)) ln).length=ow.length:=by rw[←hIG];simp
   have hIo:kO (gw (dK (bp pr lt)) ln):=ru
   have hIs:eL (gw (dK (bp pr lt)) ln)≤500 * 500:=by
    have:=mO (gw (dK (bp pr lt)) ln) ow.length fun l hl=>by
     rw[←hIG] at hl;obtain ⟨a,ha,rfl⟩:=List.mem_map.1 hl;exact bO _ _
    rw[hIl] at this;exact Nat.le_trans this (Nat.mul_le_mul (by omega) (by omega))
   have hgm:=fun l h=>nu hIo (l:=l) h;have hgn:=kH (gw (dK (bp pr lt)) ln);rw[hIl] at hgm hgn;have hdg:=Gt (gw (dK (bp pr lt)) ln) hIo (by omega) (by omega)
   conv=>whnf
   repeat' (first|refine aS ?_|((intro _);conv=>whnf)|(refine zX (fun hc=>?_) (fun hc=>?_)<;>(try simp only[SY] at hc)<;>first|omega|(conv=>whnf)))
   refine av.AM tr ((gw (dK (bp pr lt)) ln).map cW) (.cons (iA.ms' hrs) .nil) hdg ?_
   have hGR:uc pr lt ln=(ee (gw (dK (bp pr lt)) ln)).map fun grp=>(grp.map fun a=>ow.getD a.toNat 0,kZ (fA (bp pr lt) ln) pr lt (grp.map fun a=>(dK (bp pr lt)).getD a.toNat 0) 0):=by
    unfold uc ee;rw[List.map_map];refine List.map_congr_left fun grp _=>?_;simp only[Function.comp,List.map_map,Int.toNat_natCast];rw[how];simp only[qL];rfl
   have hOc: ∀ k,((dK (bp pr lt)).getD k 0:Int)=ow.getD k 0:=fun k=>by rw[how,qL]
   have hgE:=hGO;rw[hGR];generalize ee (gw (dK (bp pr lt)) ln)=GR at *;generalize hOX:dK (bp pr lt)=OX at *;generalize fA (bp pr lt) ln=gE at *
   conv=>whnf
   skip
   refine aq.cj (au.trans (au.nil 1 23 _) (au.nil 1 3 _)) ?_
   refine aq.over [11,12,13,14,15,16,83,84,85,86,87,88,89,90,91,92,93,94,95,96,97,98,99,100,101,102,103,104,105,106,107,108,109,110,111,112,113,114,115,116,117,118,119,120,121,122,123,124,125,126,127,128,129,130,131,132] (fun x:Nat×(List (List Int)×Tok)×(List Int×Tok)=> [(11,.sl 1 (x.2.1.1.map cW) (some x.2.1.2)),(12,.sl 1 (x.2.2.1.map (PV.int .i64)) (some x.2.2.2)),(13,.int .i64 x.1)]) (fun x=> [.tok x.2.1.2,.tok x.2.2.2,.box b1 (qn ln.length pr ln lt)])
    (fun x=>x.1≤GR.length∧x.2.1.2.e=23∧x.2.2.2.e=3∧x.2.1.1=(GR.take x.1).map (fun grp=>grp.map fun a=>ow.getD a.toNat 0)∧x.2.2.1=(GR.take x.1).map (fun grp=>kZ gE pr lt (grp.map fun a=>OX.getD a.toNat 0) 0)) (fun x=>GR.length - x.1) (0,([],ay 1 23),([],ay 1 3)) ⟨Nat.zero_le _,rfl,rfl,rfl,rfl⟩ (by repeat' (first|exact trivial|refine And.intro ?_ ?_|exact Wk.ay _ _|exact Wk.refl _)) ?_
   rintro ⟨i,⟨G,tg⟩,⟨L,tl⟩⟩ ⟨hi,htg,htl,hG,hL⟩;dsimp only at hi htg htl hG hL ⊢;have hGl2:G.length=i:=by rw[hG,List.length_map,List.length_take];omega
   have hLl2:L.length=i:=by rw[hL,List.length_map,List.length_take];omega
   rcases Nat.lt_or_ge i GR.length with hig | hig
   ·obtain ⟨hgl1,hgr⟩:=hgm _ (List.getElem_mem hig)
    have hGsn:G++ [GR[i].map fun a=>ow.getD a.toNat 0]=(GR.take (i + 1)).map (fun grp=>grp.map fun a=>ow.getD a.toNat 0):=by rw[List.take_succ_eq_append_getElem hig,List.map_append,hG];rfl
    have hLsn:L++ [kZ gE pr lt (GR[i].map fun a=>OX.getD a.toNat 0) 0]=(GR.take (i + 1)).map (fun grp=>kZ gE pr lt (grp.map fun a=>OX.getD a.toNat 0) 0):=by rw[List.take_succ_eq_append_getElem hig,List.map_append,hL];rfl
    conv=>whnf
    repeat' (first|refine aS ?_|((intro _);conv=>whnf)|(refine zX (fun hc=>?_) (fun hc=>?_)<;>(try simp only[SY] at hc)<;>first|omega|(conv=>whnf)))
    refine aq.cj (au.nil 1 3 _) ?_
    refine aq.over [14,15,16,89,90,91,92,93,94,95,96,97,98,99,100,101,102,103,104,105,106,107,108,109,110,111,112,113,114,115,116,117,118,119,120,121,122,123,124] (fun x:Nat×(List Int×Tok)×Int=> [(14,.sl 1 (x.2.1.1.map (PV.int .i64)) (some x.2.1.2)),(15,.int .i64 x.2.2),(16,.int .i64 x.1)]) (fun x=> [.tok x.2.1.2,.tok tg,.tok tl,.box b1 (qn ln.length pr ln lt)])
     (fun x=>x.1≤GR[i].length∧x.2.1.2.e=3∧x.2.1.1=(GR[i].take x.1).map (fun a=>ow.getD a.toNat 0)∧x.2.2=kZ gE pr lt ((GR[i].take x.1).map fun a=>OX.getD a.toNat 0) 0∧0≤x.2.2∧x.2.2≤1000) (fun x=>GR[i].length - x.1) (0,([],ay 1 3),0) ⟨Nat.zero_le _,rfl,rfl,rfl,by decide,by decide⟩ (by repeat' (first|exact trivial|refine And.intro ?_ ?_|exact Wk.ay _ _|exact Wk.refl _)) ?_
    rintro ⟨k,⟨pl,tp⟩,lv⟩ ⟨hk,htp,hpl,hlv,hlv0,hlv1⟩;dsimp only at hk htp hpl hlv hlv0 hlv1 ⊢;have hpll:pl.length=k:=by rw[hpl,List.length_map,List.length_take];omega
    rcases Nat.lt_or_ge k GR[i].length with hkl | hkg
    ·have hga:=hgr _ (List.getElem_mem hkl)
     have hac:GR[i][k].toNat < ow.length:=by omega
     have hka:=hor _ (List.getElem_mem hac);have hod:ow.getD GR[i][k].toNat 0=ow[GR[i][k].toNat]:=by rw[List.getD_eq_getElem?_getD,List.getElem?_eq_getElem hac];rfl
     have hpsn:pl++ [ow[GR[i][k].toNat]]=(GR[i].take (k + 1)).map (fun a=>ow.getD a.toNat 0):=by rw[List.take_succ_eq_append_getElem hkl,List.map_append, ←hpl,List.map_cons,List.map_nil,hod]
     have hlsn:kZ gE pr lt ((GR[i].take (k + 1)).map fun a=>OX.getD a.toNat 0) 0=max lv (iM pr lt (bF gE [ow[GR[i][k].toNat]]) 0):=by
      rw[List.take_succ_eq_append_getElem hkl,List.map_append,List.map_cons,List.map_nil,yu, ←hlv,rP _ _ _ _ hlv0,hOc,hod]
     have hFo:zb gE [ow[GR[i][k].toNat]]:=fun x hx=>by rw[List.mem_singleton.1 hx,hGl];exact hka
     have hbd:=Fv pr lt ln.length (bF gE [ow[GR[i][k].toNat]]) 0 (fun c hc=>by
      have:=((eG hGO hFo c).1 hc).Ip hGO hFo
      omega) (by omega)
     have hlc:=hlev ow[GR[i][k].toNat] (by omega);generalize iM pr lt (bF gE [ow[GR[i][k].toNat]]) 0=lw at *
     have hm3: ∀ x:Int,x=(if lv < lw then lw else lv)→x=max lv lw∧0≤x∧x≤1000:=by
      intro x hx;subst hx
      split<;>omega
     obtain ⟨h1,h2,h3⟩:=hm3 _ rfl
     conv=>whnf
     repeat' (first|refine aS ?_|((first|((apply zZ);(conv=>whnf);(repeat ((refine pC (hlc) wR ?_);conv=>whnf));exact pZ)|refine sA ?_|intro _);conv=>whnf)|(refine zX (fun hc=>?_) (fun hc=>?_)<;>(try simp only[SY] at hc)<;>first|omega|(conv=>whnf)))
     rename Tok=>t5
     exact an (k + 1,(pl++ [ow[GR[i][k].toNat]],t5),if lv < lw then lw else lv) ⟨by show k + 1≤_;omega,by assumption,hpsn,h1.trans hlsn.symm,h2,h3⟩ (by show GR[i].length - (k + 1) < GR[i].length - k;omega) wA
    ·obtain rfl:k=GR[i].length:=by omega
     rw[List.take_length] at hpl hlv;rw[←hpl] at hGsn;rw[←hlv] at hLsn
     conv=>whnf
     repeat' (first|refine aS ?_|((intro _);conv=>whnf)|(refine zX (fun hc=>?_) (fun hc=>?_)<;>(try simp only[SY] at hc)<;>first|omega|(conv=>whnf)))
     rename_i t6 ht6 _ _ t7 ht7;exact an (i + 1,(G++ [pl],t6),(L++ [lv],t7)) ⟨by show i + 1≤_;omega,ht6,ht7,hGsn,hLsn⟩ (by show GR.length - (i + 1) < GR.length - i;omega) wA
   ·obtain rfl:i=GR.length:=by omega
    rw[List.take_length] at hG hL;have e1:(GR.map fun grp:List Int=>(grp.map fun a=>ow.getD a.toNat 0,kZ gE pr lt (grp.map fun a=>OX.getD a.toNat 0) 0)).map Prod.fst=G:=by rw[hG,List.map_map];rfl
    have e2:(GR.map fun grp:List Int=>(grp.map fun a=>ow.getD a.toNat 0,kZ gE pr lt (grp.map fun a=>OX.getD a.toNat 0) 0)).map Prod.snd=L:=by rw[hL,List.map_map];rfl
    rw[e1,e2]
    conv=>whnf
    repeat' (first|refine aS ?_|((intro _);conv=>whnf)|(refine zX (fun hc=>?_) (fun hc=>?_)<;>(try simp only[SY] at hc)<;>first|omega|(conv=>whnf)))
    exact ak.pure (Wk.bn (.cons (Wk.tok _ _ _) (.cons (Wk.tok _ _ _) .nil)))
abbrev DD (t:aa) (n:Nat) (pr:List Bool) (ln:List (List Int)) (lt:List Bool) (E:List aa) (gF:List (List Int)) (gS:List Int) (tk:Tok):List PV:= [.int .i64 t.op,.int .i64 t.n,.sl 1 (t.v.map (PV.int .i64)) none,.sl 4 (t.t.map aa.pv) none,.int .i64 n,.sl 1 (pr.map PV.bool) none,.sl 1 (ln.map cW) none,.sl 1 (lt.map PV.bool) none,.sl 4 (E.map aa.pv) none,.sl 1 (gF.map cW) none,.sl 1 (gS.map (PV.int .i64)) none,.ms tk]
abbrev Io (bc:Nat) (t:aa) (n:Nat) (pr:List Bool) (ln:List (List Int)) (lt:List Bool) (E:List aa) (gF:List (List Int)) (gS:List Int) (tk:Tok) (l:List aa):List aj:= [.box bc (DD t n pr ln lt E gF gS tk),.row tk (l.map aa.pv)]
section
variable (bc:Nat) (t:aa) (n:Nat) (pr:List Bool) (ln:List (List Int)) (lt:List Bool) (E:List aa) (gF:List (List Int)) (gS:List Int) (tk:Tok) (l:List aa) (h1:tk.e=26) (h2:tk.s=4)
include h1 h2
theorem DP (hl:l.length≤1000000) (v:Int) (e:aa):
  af Tryz.prog 159 [.ptr bc 0,.int .i64 v,.agg e.cells] (Io bc t n pr ln lt E gF gS tk l) (fun y Γ'=> ∃ tk':Tok,tk'.e=26∧tk'.s=4∧y=.bn []∧Γ'=Io bc t n pr ln lt E gF gS tk' (l++ [mM v e])):=by
 refine af.ah ai Tryz.func159 rfl rfl (n:=22) rfl rfl ?_
 conv=>whnf
 repeat' (first|((intro _);conv=>whnf)|(refine zX (fun hc=>?_) (fun hc=>?_)<;>(try simp only[SY] at hc)<;>omega))
 refine aC.tree ai mixed [0,1,3,7,0,0,32,112,240,496,15,0,4095,8191,16383,8191,40959,106495] [0,1,2,4,5,6,7,8,9,11] [3,10,12,13,14,15,16,17] [.box bc (DD t n pr ln lt E gF gS tk),.row tk (l.map aa.pv)] ?_
 conv=>whnf
 conv=>whnf
 repeat' (first|((first|((apply zZ);exact tB)|refine aM ?_|(refine And.intro ?_ ?_)|(refine dQ.map fun _=>?_)|(refine dB.IK (l:=l++ [aa.mk 0 0 [] []]) (by assumption) (by omega) (by simp;omega) ?_)|(refine bP.j6 (f:=aa.pv) (l:=l++ [aa.mk 0 0 [] []]) (by simp) rfl rfl rfl ?_)|refine aF ?_|intro _);conv=>whnf)|(refine zX (fun hc=>?_) (fun hc=>?_)<;>(try simp only[SY] at hc)<;>omega))
 all_goals try exact trivial
 all_goals
  rw[fL]
  rename Tok=>t5
  exact ak.gen (y:=.bn []) (Γ':=Io bc t n pr ln lt E gF gS t5 (l++ [aa.mk 6 0 [] [aa.mk 2 v [] [e]]])) (Wk.refl _) ⟨t5,by assumption,by assumption,rfl,rfl⟩
theorem DF (hl:l.length≤1000000) (v:Int) (e:aa):
  af Tryz.prog 160 [.ptr bc 0,.int .i64 v,.agg e.cells] (Io bc t n pr ln lt E gF gS tk l) (fun y Γ'=> ∃ tk':Tok,tk'.e=26∧tk'.s=4∧y=.bn []∧Γ'=Io bc t n pr ln lt E gF gS tk' (l++ [kY v e])):=by
 refine af.ah ai Tryz.func160 rfl rfl (n:=21) rfl rfl ?_
 conv=>whnf
 repeat' (first|((intro _);conv=>whnf)|(refine zX (fun hc=>?_) (fun hc=>?_)<;>(try simp only[SY] at hc)<;>omega))
 refine aC.tree ai mixed [0,1,3,7,0,16,0,64,240,15,0,2047,4095,8191,4095,20479,53247] [0,1,2,4,5,6,7,8,10] [3,9,11,12,13,14,15,16] [.box bc (DD t n pr ln lt E gF gS tk),.row tk (l.map aa.pv)] ?_
 conv=>whnf
 conv=>whnf
 repeat' (first|((first|((apply zZ);exact tB)|refine aM ?_|(refine And.intro ?_ ?_)|(refine dQ.map fun _=>?_)|(refine dB.IK (l:=l++ [aa.mk 0 0 [] []]) (by assumption) (by omega) (by simp;omega) ?_)|(refine bP.j6 (f:=aa.pv) (l:=l++ [aa.mk 0 0 [] []]) (by simp) rfl rfl rfl ?_)|refine aF ?_|intro _);conv=>whnf)|(refine zX (fun hc=>?_) (fun hc=>?_)<;>(try simp only[SY] at hc)<;>omega))
 all_goals try exact trivial
 all_goals
  rw[fL]
  rename Tok=>t5
  exact ak.gen (y:=.bn []) (Γ':=Io bc t n pr ln lt E gF gS t5 (l++ [aa.mk 8 0 [v] [e]])) (Wk.refl _) ⟨t5,by assumption,by assumption,rfl,rfl⟩
theorem vB (gs:List (List Int×Int)) (hgF:gF=gs.map Prod.fst) (hgS:gS=gs.map Prod.snd) (hl:l.length + gs.length≤1000000) (lv:Int) (hgs: ∀ x∈gs,x.1.length≤1000000∧ ∀ k∈x.1,0≤k∧k < (t.v.length:Int)∧k < (E.length:Int)):
  af Tryz.prog 158 [.ptr bc 0,.int .i64 lv] (Io bc t n pr ln lt E gF gS tk l) (fun y Γ'=> ∃ tk':Tok,tk'.e=26∧tk'.s=4∧y=.bn []∧Γ'=Io bc t n pr ln lt E gF gS tk' (l++bE (gs.map (G5 t.v E)) lv)):=by
 have hFl:gF.length=gs.length:=by rw[hgF,List.length_map]
 have hSl:gS.length=gs.length:=by rw[hgS,List.length_map]
 have hml:(gs.map (G5 t.v E)).length=gs.length:=by rw[List.length_map]
 refine af.ah ai Tryz.func158 rfl rfl (n:=92) rfl rfl ?_
 conv=>whnf
 skip
 refine aq.over [4,5,6,7,8,9,10,11,12,13,14,15,16,17,18,19,20,21,22,23,24,25,26,27,28,29,30,31,32,33,34,35,36,37,38,39,40,41,42,43,44,45,46,47,48,49,50,51,52,53,54,55,56,57,58,59,60,61,62,63,64,65,66,67,68,69,70,71,72,73,74,75,76,77,78,79,80,81,82,83,84,85,86,87,88,89,90,91] (fun x:Nat×Tok×List aa=> [(4,.int .i64 x.1)]) (fun x=> [.box bc (DD t n pr ln lt E gF gS x.2.1),.row x.2.1 (x.2.2.map aa.pv)])
  (fun x=>x.1≤gs.length∧x.2.1.e=26∧x.2.1.s=4∧x.2.2=l++bE ((gs.map (G5 t.v E)).take x.1) lv) (fun x=>gs.length - x.1) (0,tk,l) ⟨Nat.zero_le _,h1,h2,by simp[bE]⟩ wA ?_
 rintro ⟨i,tk,l2⟩ ⟨hi,h1,h2,hl2⟩;dsimp only at hi h1 h2 hl2 ⊢;have hfl:=x8 (gs.map (G5 t.v E)) lv i;have hll:l2.length=l.length + (bE ((gs.map (G5 t.v E)).take i) lv).length:=by rw[hl2,List.length_append]
 rcases Nat.lt_or_ge i gs.length with hlt | hge
 ·have hft:=vM (fs:=gs.map (G5 t.v E)) (lv:=lv) (i:=i) (by omega)
  obtain ⟨hg1,hg2⟩:=hgs _ (List.getElem_mem hlt);have hif:i < gF.length:=by omega
  have his:i < gS.length:=by omega
  have eF:gF[i]=gs[i].1:=by simp[hgF]
  have eS:gS[i]=gs[i].2:=by simp[hgS]
  rw[List.getElem_map] at hft;unfold G5 at hft;dsimp only at hft;rw[←eF] at hft hg1 hg2;rw[←eS] at hft;change bE ((gs.map (G5 t.v E)).take (i + 1)) lv=bE ((gs.map (G5 t.v E)).take i) lv++_ at hft
  conv=>whnf
  repeat' (first|refine aS ?_|((intro _);conv=>whnf)|(refine zX (fun hc=>?_) (fun hc=>?_)<;>(try simp only[SY] at hc)<;>first|omega|(conv=>whnf)))
  ·rw[if_neg (by assumption),List.append_nil] at hft
   exact an (i + 1,tk,l2) ⟨by show i + 1≤_;omega,h1,h2,by show l2=_;rw[hft];exact hl2⟩ (by show gs.length - (i + 1) < gs.length - i;omega) wA
  ·rw[if_pos (by assumption)] at hft
   rename_i b5;refine aq.cj (au.trans (au.nil 1 3 _) (au.trans (au.nil 4 26 _) (au.box (b:=b5) (cs:= [.int .i64 9,.int .i64 0,.nil,.nil]) (cs':= [.int .i64 9,.int .i64 0,.sl 1 (([]:List Int).map (PV.int .i64)) (some (ay 1 3)),.sl 4 (([]:List aa).map aa.pv) (some (ay 4 26))]) wA))) ?_
   refine aq.over [6,26,27,28,29,30,31,32,33,34,35,36,37,38,39,40,41,42,43,44,45,46,47,48,49,50,51,52,53,54,55,56,57,58,59,60,61,62,63,64,65,66,67,68,69,70,71,72,73,74,75,76,77,78,79,80] (fun x:Nat×(List Int×Tok)×(List aa×Tok)=> [(6,.int .i64 x.1)]) (fun x=> [.box b5 [.int .i64 9,.int .i64 0,.sl 1 (x.2.1.1.map (PV.int .i64)) (some x.2.1.2),.sl 4 (x.2.2.1.map aa.pv) (some x.2.2.2)],.tok x.2.1.2,.tok x.2.2.2,.box bc (DD t n pr ln lt E gF gS tk),.row tk (l2.map aa.pv)])
    (fun x=>x.1≤gF[i].length∧x.2.1.2.e=3∧x.2.2.2.e=26∧x.2.1.1=(gF[i].take x.1).map (fun k=>t.v.getD k.toNat 0)∧x.2.2.1=(gF[i].take x.1).map (fun k=>E.getD k.toNat gd)) (fun x=>gF[i].length - x.1) (0,([],ay 1 3),([],ay 4 26)) ⟨Nat.zero_le _,rfl,rfl,rfl,rfl⟩ wA ?_
   rintro ⟨k,⟨vs,tv⟩,⟨ts,tm⟩⟩ ⟨hk,htv,htm,hvs,hts⟩;dsimp only at hk htv htm hvs hts ⊢;have hvl:vs.length=k:=by rw[hvs,List.length_map,List.length_take];omega
   have htl:ts.length=k:=by rw[hts,List.length_map,List.length_take];omega
   rcases Nat.lt_or_ge k gF[i].length with hkl | hkg
   ·obtain ⟨hg3,hg4,hg5⟩:=hg2 _ (List.getElem_mem hkl)
    have hgv:gF[i][k].toNat < t.v.length:=by omega
    have hge:gF[i][k].toNat < E.length:=by omega
    have hvsn:vs++ [t.v[gF[i][k].toNat]]=(gF[i].take (k + 1)).map (fun k=>t.v.getD k.toNat 0):=by rw[List.take_succ_eq_append_getElem hkl,List.map_append, ←hvs,List.map_cons,List.map_nil,List.getD_eq_getElem?_getD,List.getElem?_eq_getElem hgv];rfl
    have htsn:ts++ [E[gF[i][k].toNat]]=(gF[i].take (k + 1)).map (fun k=>E.getD k.toNat gd):=by rw[List.take_succ_eq_append_getElem hkl,List.map_append, ←hts,List.map_cons,List.map_nil,List.getD_eq_getElem?_getD,List.getElem?_eq_getElem hge];rfl
    conv=>whnf
    repeat' (first|refine aS ?_|((intro _);conv=>whnf)|(refine zX (fun hc=>?_) (fun hc=>?_)<;>(try simp only[SY] at hc)<;>first|omega|(conv=>whnf)))
    refine aC.sE [.tok tv] [] [20,21,22] ai mixed ?_
    conv=>whnf
    conv=>whnf
    repeat' (first|refine aS ?_|((intro _);conv=>whnf)|(refine zX (fun hc=>?_) (fun hc=>?_)<;>(try simp only[SY] at hc)<;>omega))
    refine aC.sE [.tok tm] [] [19,20,21] ai mixed ?_
    conv=>whnf
    conv=>whnf
    repeat' (first|refine aS ?_|((intro _);conv=>whnf)|(refine zX (fun hc=>?_) (fun hc=>?_)<;>(try simp only[SY] at hc)<;>omega))
    rename_i tv2 htv2 tm2 htm2;exact an (k + 1,(vs++ [t.v[gF[i][k].toNat]],tv2),(ts++ [E[gF[i][k].toNat]],tm2)) ⟨by show k + 1≤_;omega,htv2,htm2,hvsn,htsn⟩ (by show gF[i].length - (k + 1) < gF[i].length - k;omega) wA
   ·obtain rfl:k=gF[i].length:=by omega
    rw[List.take_length] at hvs hts;rw[←hvs, ←hts] at hft
    conv=>whnf
    repeat' (first|refine aS ?_|((intro _);conv=>whnf)|(refine zX (fun hc=>?_) (fun hc=>?_)<;>(try simp only[SY] at hc)<;>first|omega|(conv=>whnf)))
    refine aC.tree ai mixed [0,1,3,7,0,15,0,127,255,511,255,1279,3327] [0,1,2,4,6] [3,5,7,8,9,10,11,12] [.box bc (DD t n pr ln lt E gF gS tk),.row tk (l2.map aa.pv)] ?_
    conv=>whnf
    conv=>whnf
    repeat' (first|((first|((apply zZ);exact tB)|refine aM ?_|(refine And.intro ?_ ?_)|(refine dQ.map fun _=>?_)|(refine dB.IK (l:=l2++ [aa.mk 0 0 [] []]) (by assumption) (by omega) (by simp;omega) ?_)|(refine bP.j6 (f:=aa.pv) (l:=l2++ [aa.mk 0 0 [] []]) (by simp) rfl rfl rfl ?_)|refine aF ?_|intro _);conv=>whnf)|(refine zX (fun hc=>?_) (fun hc=>?_)<;>(try simp only[SY] at hc)<;>omega))
    all_goals try exact trivial
    all_goals
     rw[fL]
     rename Tok=>t5
     exact an (i + 1,t5,l2++ [aa.mk 9 0 vs ts]) ⟨by show i + 1≤_;omega,by assumption,by assumption,by show l2++_=_;rw[hft,hl2,List.append_assoc];rfl⟩ (by show gs.length - (i + 1) < gs.length - i;omega) wA
 ·rw[List.take_of_length_le (by omega)] at hl2
  rw[←hl2]
  conv=>whnf
  repeat' (first|((first|refine aM ?_|intro _);conv=>whnf)|(refine zX (fun hc=>?_) (fun hc=>?_)<;>(try simp only[SY] at hc)<;>first|omega|(conv=>whnf)))
  exact ak.gen (y:=.bn []) (Γ':=Io bc t n pr ln lt E gF gS tk l2) (Wk.refl _) ⟨tk,h1,h2,rfl,rfl⟩
end
theorem Jq {pr lt:List Bool} {ln:List (List Int)}:(uc pr lt ln).length≤pr.length∧ ∀ x∈uc pr lt ln,x.1.length≤pr.length∧ ∀ k∈x.1,0≤k∧k < (pr.length:Int):=by
 have hel:(bp pr lt).length=pr.length:=by unfold bp;simp
 have hol:(dK (bp pr lt)).length≤pr.length:=by
  unfold dK;have:=List.length_filter_le (fun k=>(bp pr lt).getD k false) (List.range (bp pr lt).length);rw[List.length_range] at this;omega
 have hIl:(gw (dK (bp pr lt)) ln).length=(dK (bp pr lt)).length:=by unfold gw;simp
 have hgl:=kH (gw (dK (bp pr lt)) ln);unfold ee at hgl;rw[List.length_map] at hgl;refine ⟨by unfold uc;rw[List.length_map];omega,fun x hx=>?_⟩;unfold uc at hx;obtain ⟨grp,hg,rfl⟩:=List.mem_map.1 hx;have hgm:=nu (ru (own:=dK (bp pr lt)) (ln:=ln)) (l:=grp.map fun x:Nat=>(x:Int)) (List.mem_map_of_mem hg);rw[List.length_map] at hgm;refine ⟨by rw[List.length_map];omega,fun k hk=>?_⟩;obtain ⟨a,ha,rfl⟩:=List.mem_map.1 hk;have h1:=hgm.2 _ (List.mem_map_of_mem ha);have h2:a < (dK (bp pr lt)).length:=by omega
 have h3:=FM (List.getElem_mem h2);rw[List.getD_eq_getElem?_getD,List.getElem?_eq_getElem h2];show 0≤(((dK (bp pr lt))[a]:Nat):Int)∧(((dK (bp pr lt))[a]:Nat):Int) < _;omega
def CW (V:List Int) (E:List aa) (pr lt:List Bool) (f:List jE) (k:Nat):List aa:=if lt.getD k false=true then [mM (V.getD k 0) (E.getD k gd)] else if pr.getD k false=true then [] else kY (V.getD k 0) (E.getD k gd)::bE f ((k:Int) + 1)
theorem KN (V:List Int) (E:List aa) (pr lt:List Bool) (f:List jE) (n:Nat):lU V E pr lt f n=bE f 0++(List.range n).flatMap (CW V E pr lt f):=rfl
section
variable (bc:Nat) (t:aa) (pr:List Bool) (ln:List (List Int)) (lt:List Bool) (E:List aa) (tk:Tok) (l:List aa) (h1:tk.e=26) (h2:tk.s=4) (hl:l.length≤10000) (hn:t.v.length≤500) (hp:pr.length=t.v.length) (hlt:lt.length=t.v.length) (hln:ln.length=t.v.length) (hE:E.length=t.v.length + 1)
include h1 h2 hl hn hp hlt hln hE
theorem Hf:
  af Tryz.prog 98 [.ptr bc 0] (Io bc t t.v.length pr ln lt E ((uc pr lt ln).map Prod.fst) ((uc pr lt ln).map Prod.snd) tk l) (fun y Γ'=> ∃ tk':Tok,tk'.e=26∧tk'.s=4∧y=.bn []∧Γ'=Io bc t t.v.length pr ln lt E ((uc pr lt ln).map Prod.fst) ((uc pr lt ln).map Prod.snd) tk' (l++lU t.v E pr lt (cJ t.v E pr lt ln) t.v.length)):=by
 obtain ⟨hg1,hg2⟩:=Jq (pr:=pr) (lt:=lt) (ln:=ln);rw[KN, ←yh]
 have hgb: ∀ x∈uc pr lt ln,x.1.length≤1000000∧ ∀ k∈x.1,0≤k∧k < (t.v.length:Int)∧k < (E.length:Int):=fun x hx=>by
  obtain ⟨a,b⟩:=hg2 x hx;refine ⟨by omega,fun k hk=>?_⟩;have:=b k hk;omega
 generalize uc pr lt ln=gs at *;generalize hgF:gs.map Prod.fst=gF;generalize hgS:gs.map Prod.snd=gS;generalize hfs:gs.map (G5 t.v E)=fs;have hfl:fs.length≤500:=by rw[←hfs,List.length_map];omega
 refine af.ah ai Tryz.func98 rfl rfl (n:=69) rfl rfl ?_
 conv=>whnf
 skip
 refine av.go (vB bc t t.v.length pr ln lt E gF gS tk l h1 h2 gs hgF.symm hgS.symm (by omega) 0 hgb) (aX.refl _) ?_;rintro _ _ ⟨tk1,k1,k2,rfl,rfl⟩;rw[hfs];have hf0:=iL fs 0
 conv=>whnf
 skip
 refine aq.over [2,5,6,7,8,9,10,11,12,13,14,15,16,17,18,19,20,21,22,23,24,25,26,27,28,29,30,31,32,33,34,35,36,37,38,39,40,41,42,43,44,45,46,47,48,49,50,51,52,53,54,55,56,57,58,59,60,61,62,63,64,65,66,67,68] (fun x:Nat×Tok×List aa=> [(2,.int .i64 x.1)]) (fun x=> [.box bc (DD t t.v.length pr ln lt E gF gS x.2.1),.row x.2.1 (x.2.2.map aa.pv)]) (fun x=>x.1≤t.v.length∧x.2.1.e=26∧x.2.1.s=4∧x.2.2=l++(bE fs 0++(List.range x.1).flatMap (CW t.v E pr lt fs))∧x.2.2.length≤20000 + x.1 * 501) (fun x=>t.v.length - x.1) (0,tk1,l++bE fs 0) ⟨Nat.zero_le _,k1,k2,by simp,by dsimp only;rw[List.length_append];omega⟩ wA ?_;rintro ⟨i,tk,l2⟩ ⟨hi,h1,h2,hls,hll⟩;dsimp only at hi h1 h2 hls hll ⊢;rcases Nat.lt_or_ge i t.v.length with hlti | hge
 ·have hst:l2++CW t.v E pr lt fs i=l++(bE fs 0++(List.range (i + 1)).flatMap (CW t.v E pr lt fs)):=by rw[hls,List.range_succ,List.flatMap_append,List.append_assoc,List.append_assoc];simp
  have hip:i < pr.length:=by omega
  have hit:i < lt.length:=by omega
  have hiE:i < E.length:=by omega
  have e1:t.v.getD i 0=t.v[i]:=by rw[List.getD_eq_getElem?_getD,List.getElem?_eq_getElem hlti];rfl
  have e2:E.getD i gd=E[i]:=by rw[List.getD_eq_getElem?_getD,List.getElem?_eq_getElem hiE];rfl
  rw[CW,bQ hit,bQ hip,e1,e2] at hst;have hfi:=iL fs ((i:Int) + 1)
  conv=>whnf
  repeat' (first|refine aS ?_|(refine zX (fun hc=>?_) (fun hc=>?_)<;>(try simp only[SY] at hc)<;>first|omega|(conv=>whnf)))
  ·refine aC.sE [] [] [16] ai mixed ?_
   conv=>whnf
   repeat (refine qF ?_)
   rw[if_pos (by assumption)] at hst;refine av.go (DP bc t t.v.length pr ln lt E gF gS tk l2 h1 h2 (by omega) t.v[i] E[i]) (aX.refl _) ?_;rintro _ _ ⟨tk2,e1,e2,rfl,rfl⟩
   conv=>whnf
   repeat' (first|refine aS ?_|(refine zX (fun hc=>?_) (fun hc=>?_)<;>(try simp only[SY] at hc)<;>omega))
   exact an (i + 1,tk2,l2++ [mM t.v[i] E[i]]) ⟨by show i + 1≤_;omega,e1,e2,hst,by show (l2++ [_]).length≤20000 + (i + 1) * 501;rw[List.length_append,List.length_singleton];omega⟩ (by show t.v.length - (i + 1) < t.v.length - i;omega) wA
  ·refine aC.sE [] [] [16] ai mixed ?_
   conv=>whnf
   repeat (refine qF ?_)
   rw[if_neg (by simp_all),if_neg (by simp_all)] at hst;refine av.go (DF bc t t.v.length pr ln lt E gF gS tk l2 h1 h2 (by omega) t.v[i] E[i]) (aX.refl _) ?_;rintro _ _ ⟨tk2,e1,e2,rfl,rfl⟩
   conv=>whnf
   repeat' (first|refine aS ?_|(refine zX (fun hc=>?_) (fun hc=>?_)<;>(try simp only[SY] at hc)<;>omega))
   refine av.go (vB bc t t.v.length pr ln lt E gF gS tk2 (l2++ [kY t.v[i] E[i]]) e1 e2 gs hgF.symm hgS.symm (by rw[List.length_append,List.length_singleton];omega) ((i:Int) + 1) hgb) (aX.refl _) ?_;rintro _ _ ⟨tk3,e3,e4,rfl,rfl⟩;rw[hfs]
   conv=>whnf
   repeat' (first|refine aS ?_|(refine zX (fun hc=>?_) (fun hc=>?_)<;>(try simp only[SY] at hc)<;>omega))
   exact an (i + 1,tk3,l2++ [kY t.v[i] E[i]]++bE fs ((i:Int) + 1)) ⟨by show i + 1≤_;omega,e3,e4,by show l2++ [_]++_=_;rw[←hst,List.append_assoc];rfl,by show (l2++ [_]++_).length≤20000 + (i + 1) * 501;rw[List.length_append,List.length_append,List.length_singleton];omega⟩ (by show t.v.length - (i + 1) < t.v.length - i;omega) wA
  ·rw[if_neg (by simp_all),if_pos (by simp_all),List.append_nil] at hst
   exact an (i + 1,tk,l2) ⟨by show i + 1≤_;omega,h1,h2,hst,by show l2.length≤20000 + (i + 1) * 501;omega⟩ (by show t.v.length - (i + 1) < t.v.length - i;omega) wA
 ·obtain rfl:i=t.v.length:=by omega
  rw[←hls]
  conv=>whnf
  repeat' (first|refine aS ?_|(refine zX (fun hc=>?_) (fun hc=>?_)<;>(try simp only[SY] at hc)<;>first|omega|(conv=>whnf)))
  exact ak.gen (y:=.bn []) (Γ':=Io bc t t.v.length pr ln lt E gF gS tk l2) (Wk.refl _) ⟨tk,h1,h2,rfl,rfl⟩
end
theorem Ie (pr lt:List Bool) (k:Nat):lY pr lt (k + 1)=lY pr lt k + if pr.getD k false=false∧lt.getD k false=true then 1 else 0:=by
 unfold lY;rw[List.range_succ,List.filter_append,List.length_append,List.filter_cons,List.filter_nil];cases h1:pr.getD k false<;>cases h2:lt.getD k false
 ·rw[if_neg (by decide),if_neg (by decide)];simp
 ·rw[if_pos (by decide),if_pos (by decide)];simp
 ·rw[if_neg (by decide),if_neg (by decide)];simp
 ·rw[if_neg (by decide),if_neg (by decide)];simp
def J6 (V:List Int) (E:List aa) (pr lt:List Bool) (nx:Int) (k:Nat):List aa:=if pr.getD k false=true then [] else [kY (if lt.getD k false=true then nx + lY pr lt k else V.getD k 0) (E.getD k gd)]
def J7 (V:List Int) (E:List aa) (pr lt:List Bool) (nx:Int) (k:Nat):List aa:=if lt.getD k false=true then [mM (V.getD k 0) (if pr.getD k false=true then E.getD k gd else .mk 1 (nx + lY pr lt k) [] [])] else []
theorem HI (V:List Int) (E:List aa) (pr lt:List Bool) (f:List jE) (nx:Int) (n:Nat):ir V E pr lt f nx n=(List.range n).flatMap (J6 V E pr lt nx)++(((List.range (n + 1)).flatMap fun k:Nat=>bE f (k:Int))++(List.range n).flatMap (J7 V E pr lt nx)):=by
 unfold ir;rw[List.append_assoc];rfl
def Ln (V:List Int) (pr lt:List Bool) (nx:Int) (k:Nat):Int:=if pr.getD k false=true then 0 else if lt.getD k false=true then nx + lY pr lt k else V.getD k 0
def EJ (f:Nat→Int) (n i:Nat):List Int:=(List.range n).map fun k=>if k < i then f k else 0
theorem u7 (f:Nat→Int) (n i:Nat):(EJ f n i).length=n:=by unfold EJ;simp
theorem A3 {f:Nat→Int} {n i j:Nat} (h:j < (EJ f n i).length):(EJ f n i)[j]=if j < i then f j else 0:=by simp[EJ]
theorem MT {f:Nat→Int} {n i:Nat} {x:Int} (hx:x=f i):(EJ f n i).set i x=EJ f n (i + 1):=by
 subst hx;refine List.ext_getElem (by simp[u7]) fun j h1 h2=>?_;rw[List.getElem_set,A3 h2];by_cases e:i=j
 ·subst e;rw[if_pos rfl,if_pos (by omega)]
 ·rw[if_neg e,A3 (by rw[u7] at h2 ⊢; exact h2)]
  by_cases h:j < i
  ·rw[if_pos h,if_pos (by omega)]
  ·rw[if_neg h,if_neg (by omega)]
theorem OL {f:Nat→Int} {n i:Nat} (hx:f i=0):EJ f n i=EJ f n (i + 1):=by
 unfold EJ;refine List.map_congr_left fun k _=>?_;by_cases h:k < i
 ·rw[if_pos h,if_pos (by omega)]
 ·rw[if_neg h]
  by_cases e:k=i
  ·subst e;rw[if_pos (by omega),hx]
  ·rw[if_neg (by omega)]
theorem K4 (f:Nat→Int) (n:Nat):List.replicate n 0=EJ f n 0:=by
 refine List.ext_getElem (by simp[u7]) fun j h1 h2=>?_;rw[A3 h2,if_neg (by omega),List.getElem_replicate]
theorem K8 (n:Nat):qA (List.replicate n (PV.int .i64 0)) ((List.replicate n (0:Int)).map (PV.int .i64)):=by
 induction n with
 | zero=>exact .nil
 | succ n ih=>exact .cons (.cons (Wk.refl _) .nil) ih
section
variable (b:Nat) (body:aa) (nx:Int) (bc:Nat) (t:aa) (pr:List Bool) (ln:List (List Int)) (lt:List Bool) (E:List aa) (tk:Tok) (l:List aa) (hnx:0≤nx∧nx≤1000000000) (h1:tk.e=26) (h2:tk.s=4) (hl:l.length≤10000) (hn:t.v.length≤500) (hp:pr.length=t.v.length) (hlt:lt.length=t.v.length) (hln:ln.length=t.v.length) (hE:E.length=t.v.length + 1)
include hnx h1 h2 hl hn hp hlt hln hE
theorem EG:
  af Tryz.prog 99 [.ptr b 0,.ptr bc 0] (.box bc (DD t t.v.length pr ln lt E ((uc pr lt ln).map Prod.fst) ((uc pr lt ln).map Prod.snd) tk)::.row tk (l.map aa.pv)::FC b body nx) (fun y Γ'=> ∃ tk':Tok,tk'.e=26∧tk'.s=4∧y=.bn []∧Γ'=.box bc (DD t t.v.length pr ln lt E ((uc pr lt ln).map Prod.fst) ((uc pr lt ln).map Prod.snd) tk')::.row tk' ((l++ir t.v E pr lt (cJ t.v E pr lt ln) nx t.v.length).map aa.pv)::FC b body (nx + lY pr lt t.v.length)):=by
 obtain ⟨hg1,hg2⟩:=Jq (pr:=pr) (lt:=lt) (ln:=ln);rw[HI, ←yh, ←List.append_assoc, ←List.append_assoc]
 have hgb: ∀ x∈uc pr lt ln,x.1.length≤1000000∧ ∀ k∈x.1,0≤k∧k < (t.v.length:Int)∧k < (E.length:Int):=fun x hx=>by
  obtain ⟨a,b⟩:=hg2 x hx;refine ⟨by omega,fun k hk=>?_⟩;have:=b k hk;omega
 generalize uc pr lt ln=gs at *;generalize hgF:gs.map Prod.fst=gF;generalize hgS:gs.map Prod.snd=gS;generalize hfs:gs.map (G5 t.v E)=fs;have hfl:fs.length≤500:=by rw[←hfs,List.length_map];omega
 refine af.ah ai Tryz.func99 rfl rfl (n:=156) rfl rfl ?_
 conv=>whnf
 repeat' (first|((first|refine gO.row (by omega) (by omega) (by omega) (by show _ * 8≤_;omega) rfl fun tv hte hvs=>?_|refine aM ?_);conv=>whnf)|(refine zX (fun hc=>?_) (fun hc=>?_)<;>(try simp only[SY] at hc)<;>omega))
 rw[Int.toNat_natCast];refine aq.cj (au.tq (t:=tv) (K8 t.v.length)) ?_
 refine aq.over [5,14,15,16,17,18,19,20,21,22,23,24,25,26,27,28,29,30,31,32,33,34,35,36,37,38,39,40,41,42,43,44,45,46,47,48,49,50,51,52,53,54,55,56,57,58,59,60,61,62,63,64,65,66,67,68,69,70,71,72,73,74,75,76] (fun x:Nat×Tok×List aa×Int×List Int=> [(5,.int .i64 x.1)]) (fun x=> [.row tv (x.2.2.2.2.map (PV.int .i64)),.box bc (DD t t.v.length pr ln lt E gF gS x.2.1),.row x.2.1 (x.2.2.1.map aa.pv),.box b [.int .i64 body.op,.int .i64 body.n,.sl 1 (body.v.map (PV.int .i64)) none,.sl 4 (body.t.map aa.pv) none,.int .i64 x.2.2.2.1]])
  (fun x=>x.1≤t.v.length∧x.2.1.e=26∧x.2.1.s=4∧x.2.2.1=l++(List.range x.1).flatMap (J6 t.v E pr lt nx)∧x.2.2.1.length≤10000 + x.1∧x.2.2.2.1=nx + lY pr lt x.1∧x.2.2.2.2=EJ (Ln t.v pr lt nx) t.v.length x.1) (fun x=>t.v.length - x.1) (0,tk,l,nx,List.replicate t.v.length 0) ⟨Nat.zero_le _,h1,h2,by simp,by dsimp only;omega,by simp[lY],K4 _ _⟩ wA ?_
 rintro ⟨i,tk,l1,nz,vs⟩ ⟨hi,h1,h2,hls,hll,hnz,hvs⟩;dsimp only at hi h1 h2 hls hll hnz hvs ⊢;have hvl:=u7 (Ln t.v pr lt nx) t.v.length i;rw[←hvs] at hvl;have htn:=Ga pr lt i;rcases Nat.lt_or_ge i t.v.length with hlti | hge
 ·have hip:i < pr.length:=by omega
  have hit:i < lt.length:=by omega
  have hiE:i < E.length:=by omega
  have e1:t.v.getD i 0=t.v[i]:=by rw[List.getD_eq_getElem?_getD,List.getElem?_eq_getElem hlti];rfl
  have e2:E.getD i gd=E[i]:=by rw[List.getD_eq_getElem?_getD,List.getElem?_eq_getElem hiE];rfl
  have hst:l1++J6 t.v E pr lt nx i=l++(List.range (i + 1)).flatMap (J6 t.v E pr lt nx):=by rw[hls,List.range_succ,List.flatMap_append,List.append_assoc];simp
  have hset:=fun x hx=>MT (f:=Ln t.v pr lt nx) (n:=t.v.length) (i:=i) (x:=x) hx;have htd:Ln t.v pr lt nx i=if pr[i]=true then 0 else if lt[i]=true then nz else t.v[i]:=by unfold Ln;rw[bQ hip,bQ hit,e1, ←hnz]
  have hts2:=Ie pr lt i;rw[J6,bQ hit,bQ hip,e1,e2, ←hnz] at hst;rw[bQ hit,bQ hip] at hts2;rw[←hvs] at hset;have hvi:i < vs.length:=by omega
  conv=>whnf
  repeat' (first|((first|refine aM ?_|refine aF ?_|refine zG ?_);conv=>whnf)|(refine zX (fun hc=>?_) (fun hc=>?_)<;>(try simp only[SY] at hc)<;>first|omega|(conv=>whnf)))
  ·rw[if_pos (by assumption),List.append_nil] at hst
   rw[if_pos (by assumption)] at htd;rw[if_neg (by simp_all),Int.add_zero] at hts2;exact an (i + 1,tk,l1,nz,vs) ⟨by show i + 1≤_;omega,h1,h2,hst,by show l1.length≤10000 + (i + 1);omega,by show nz=_;rw[hts2];exact hnz,hvs.trans (OL htd)⟩ (by show t.v.length - (i + 1) < t.v.length - i;omega) wA
  ·rw[if_neg (by simp_all),if_pos (by assumption)] at hst htd
   rw[if_pos ⟨by assumption,by assumption⟩] at hts2;have hset:=hset nz htd.symm;have hv2l:(vs.set i t.v[i]).length=t.v.length:=by rw[List.length_set];exact hvl
   have hset2:(vs.set i t.v[i]).set i nz=EJ (Ln t.v pr lt nx) t.v.length (i + 1):=by rw[List.set_set];exact hset
   generalize vs.set i t.v[i]=vs2 at *
   conv=>whnf
   repeat' (first|((first|refine aM ?_|refine aF ?_);conv=>whnf)|(refine zX (fun hc=>?_) (fun hc=>?_)<;>(try simp only[SY] at hc)<;>omega))
   have hv3l:(vs2.set i nz).length=t.v.length:=by rw[List.length_set];exact hv2l
   have hv3o:(vs2.set i nz)[i]?=some nz:=List.getElem?_set_self (by omega);generalize vs2.set i nz=vs3 at *;have hv3b:i < vs3.length:=by omega
   have hv3i:vs3[i]=nz:=by rw[List.getElem?_eq_getElem hv3b] at hv3o;exact Option.some.inj hv3o
   refine aC.sE [] [] [12] ai mixed ?_
   conv=>whnf
   repeat (((refine Lv ?_);conv=>whnf))
   rw[hv3i];refine av.go (DF bc t t.v.length pr ln lt E gF gS tk l1 h1 h2 (by omega) nz E[i]) (aX.refl _) ?_;rintro _ _ ⟨tk2,e1,e2,rfl,rfl⟩
   conv=>whnf
   repeat' (first|((refine aM ?_);conv=>whnf)|(refine zX (fun hc=>?_) (fun hc=>?_)<;>(try simp only[SY] at hc)<;>omega))
   exact an (i + 1,tk2,l1++ [kY nz E[i]],nz + 1,vs3) ⟨by show i + 1≤_;omega,e1,e2,hst,by show (l1++ [_]).length≤10000 + (i + 1);rw[List.length_append,List.length_singleton];omega,by show nz + 1=_;rw[hts2,hnz];omega,hset2⟩ (by show t.v.length - (i + 1) < t.v.length - i;omega) wA
  ·rw[if_neg (by simp_all),if_neg (by simp_all)] at hst htd
   rw[if_neg (by simp_all),Int.add_zero] at hts2;have hset:=hset t.v[i] htd.symm;have hv3l:(vs.set i t.v[i]).length=t.v.length:=by rw[List.length_set];exact hvl
   have hv3o:(vs.set i t.v[i])[i]?=some t.v[i]:=List.getElem?_set_self (by omega);generalize vs.set i t.v[i]=vs3 at *;have hv3b:i < vs3.length:=by omega
   have hv3i:vs3[i]=t.v[i]:=by rw[List.getElem?_eq_getElem hv3b] at hv3o;exact Option.some.inj hv3o
   refine aC.sE [] [] [12] ai mixed ?_
   conv=>whnf
   repeat (((refine Lv ?_);conv=>whnf))
   rw[hv3i];refine av.go (DF bc t t.v.length pr ln lt E gF gS tk l1 h1 h2 (by omega) t.v[i] E[i]) (aX.refl _) ?_;rintro _ _ ⟨tk2,e1,e2,rfl,rfl⟩
   conv=>whnf
   repeat' (first|((refine aM ?_);conv=>whnf)|(refine zX (fun hc=>?_) (fun hc=>?_)<;>(try simp only[SY] at hc)<;>omega))
   exact an (i + 1,tk2,l1++ [kY t.v[i] E[i]],nz,vs3) ⟨by show i + 1≤_;omega,e1,e2,hst,by show (l1++ [_]).length≤10000 + (i + 1);rw[List.length_append,List.length_singleton];omega,by show nz=_;rw[hts2];exact hnz,hset⟩ (by show t.v.length - (i + 1) < t.v.length - i;omega) wA
 ·obtain rfl:i=t.v.length:=by omega
  have hvf:vs=EJ (Ln t.v pr lt nx) t.v.length t.v.length:=hvs;rw[←hls, ←hnz]
  conv=>whnf
  repeat' (first|((refine aM ?_);conv=>whnf)|(refine zX (fun hc=>?_) (fun hc=>?_)<;>(try simp only[SY] at hc)<;>first|omega|(conv=>whnf)))
  refine aq.over [6,77,78,79,80,81,82,83,84,85,86,87,88] (fun x:Nat×Tok×List aa=> [(6,.int .i64 x.1)]) (fun x=> [.row tv (vs.map (PV.int .i64)),.box bc (DD t t.v.length pr ln lt E gF gS x.2.1),.row x.2.1 (x.2.2.map aa.pv),.box b [.int .i64 body.op,.int .i64 body.n,.sl 1 (body.v.map (PV.int .i64)) none,.sl 4 (body.t.map aa.pv) none,.int .i64 nz]])
   (fun x=>x.1≤t.v.length + 1∧x.2.1.e=26∧x.2.1.s=4∧x.2.2=l1++(List.range x.1).flatMap (fun k:Nat=>bE fs (k:Int))∧x.2.2.length≤20000 + x.1 * 500) (fun x=>t.v.length + 1 - x.1) (0,tk,l1) ⟨Nat.zero_le _,h1,h2,by simp,by dsimp only;omega⟩ wA ?_
  rintro ⟨m,tk,l2⟩ ⟨hm,h1,h2,hl2,hb2⟩;dsimp only at hm h1 h2 hl2 hb2 ⊢;rcases Nat.lt_or_ge m (t.v.length + 1) with hml | hmg
  ·have hst:l2++bE fs (m:Int)=l1++(List.range (m + 1)).flatMap (fun k:Nat=>bE fs (k:Int)):=by rw[hl2,List.range_succ,List.flatMap_append,List.append_assoc];simp
   have hfi:=iL fs (m:Int)
   conv=>whnf
   repeat' (first|((refine aM ?_);conv=>whnf)|(refine zX (fun hc=>?_) (fun hc=>?_)<;>(try simp only[SY] at hc)<;>first|omega|(conv=>whnf)))
   refine av.go (vB bc t t.v.length pr ln lt E gF gS tk l2 h1 h2 gs hgF.symm hgS.symm (by omega) (m:Int) hgb) (aX.refl _) ?_;rintro _ _ ⟨tk2,e1,e2,rfl,rfl⟩;rw[hfs]
   conv=>whnf
   repeat' (first|((refine aM ?_);conv=>whnf)|(refine zX (fun hc=>?_) (fun hc=>?_)<;>(try simp only[SY] at hc)<;>omega))
   exact an (m + 1,tk2,l2++bE fs (m:Int)) ⟨by show m + 1≤_;omega,e1,e2,hst,by show (l2++_).length≤20000 + (m + 1) * 500;rw[List.length_append];omega⟩ (by show t.v.length + 1 - (m + 1) < t.v.length + 1 - m;omega) wA
  ·obtain rfl:m=t.v.length + 1:=by omega
   rw[←hl2]
   conv=>whnf
   repeat' (first|((refine aM ?_);conv=>whnf)|(refine zX (fun hc=>?_) (fun hc=>?_)<;>(try simp only[SY] at hc)<;>first|omega|(conv=>whnf)))
   refine aq.over [7,89,90,91,92,93,94,95,96,97,98,99,100,101,102,103,104,105,106,107,108,109,110,111,112,113,114,115,116,117,118,119,120,121,122,123,124,125,126,127,128,129,130,131,132,133,134,135,136,137,138,139,140,141,142,143,144,145,146,147,148,149,150,151,152,153,154,155] (fun x:Nat×Tok×List aa=> [(7,.int .i64 x.1)]) (fun x=> [.row tv (vs.map (PV.int .i64)),.box bc (DD t t.v.length pr ln lt E gF gS x.2.1),.row x.2.1 (x.2.2.map aa.pv),.box b [.int .i64 body.op,.int .i64 body.n,.sl 1 (body.v.map (PV.int .i64)) none,.sl 4 (body.t.map aa.pv) none,.int .i64 nz]])
    (fun x=>x.1≤t.v.length∧x.2.1.e=26∧x.2.1.s=4∧x.2.2=l2++(List.range x.1).flatMap (J7 t.v E pr lt nx)∧x.2.2.length≤300000 + x.1) (fun x=>t.v.length - x.1) (0,tk,l2) ⟨Nat.zero_le _,h1,h2,by simp,by dsimp only;omega⟩ wA ?_
   rintro ⟨i,tk,l3⟩ ⟨hi,h1,h2,hl3,hb3⟩;dsimp only at hi h1 h2 hl3 hb3 ⊢;rcases Nat.lt_or_ge i t.v.length with hlti | hge
   ·have hip:i < pr.length:=by omega
    have hit:i < lt.length:=by omega
    have hiE:i < E.length:=by omega
    have hvi:i < vs.length:=by omega
    have e1:t.v.getD i 0=t.v[i]:=by rw[List.getD_eq_getElem?_getD,List.getElem?_eq_getElem hlti];rfl
    have e2:E.getD i gd=E[i]:=by rw[List.getD_eq_getElem?_getD,List.getElem?_eq_getElem hiE];rfl
    have hve:vs[i]=Ln t.v pr lt nx i:=by
     have:vs[i]?=some (Ln t.v pr lt nx i):=by
      rw[hvf];unfold EJ;rw[List.getElem?_map,List.getElem?_range hlti,Option.map_some,if_pos hlti]
     rw[List.getElem?_eq_getElem hvi] at this;exact Option.some.inj this
    unfold Ln at hve;rw[bQ hit,bQ hip] at hve;have hst:l3++J7 t.v E pr lt nx i=l2++(List.range (i + 1)).flatMap (J7 t.v E pr lt nx):=by rw[hl3,List.range_succ,List.flatMap_append,List.append_assoc];simp
    rw[J7,bQ hit,bQ hip,e1,e2] at hst
    conv=>whnf
    repeat' (first|((first|refine Lv ?_|refine aM ?_|refine zG ?_);conv=>whnf)|(refine zX (fun hc=>?_) (fun hc=>?_)<;>(try simp only[SY] at hc)<;>first|omega|(conv=>whnf)))
    ·obtain ⟨a1,a2⟩:lt[i]=true∧pr[i]=true:=by assumption
     rw[if_pos a1,if_pos a2] at hst;refine aC.sE [] [] [16] ai mixed ?_
     conv=>whnf
     repeat (((refine Lv ?_);conv=>whnf))
     refine av.go (DP bc t t.v.length pr ln lt E gF gS tk l3 h1 h2 (by omega) t.v[i] E[i]) (aX.refl _) ?_;rintro _ _ ⟨tk2,e1,e2,rfl,rfl⟩
     conv=>whnf
     repeat' (first|((refine aM ?_);conv=>whnf)|(refine zX (fun hc=>?_) (fun hc=>?_)<;>(try simp only[SY] at hc)<;>omega))
     exact an (i + 1,tk2,l3++ [mM t.v[i] E[i]]) ⟨by show i + 1≤_;omega,e1,e2,hst,by show (l3++ [_]).length≤300000 + (i + 1);rw[List.length_append,List.length_singleton];omega⟩ (by show t.v.length - (i + 1) < t.v.length - i;omega) wA
    ·have a1:lt[i]=true:=by assumption
     have a2:pr[i]=false:=by
      rcases (by assumption:lt[i]=false∨pr[i]=false) with h | h
      ·rw[a1] at h;cases h
      ·exact h
     rw[if_neg (by simp[a2]),if_pos a1] at hve;rw[if_pos a1,if_neg (by simp[a2]), ←hve] at hst;refine aC.sE [] [] [14] ai mixed ?_
     conv=>whnf
     repeat (((refine Lv ?_);conv=>whnf))
     refine av.go (DP bc t t.v.length pr ln lt E gF gS tk l3 h1 h2 (by omega) t.v[i] (.mk 1 vs[i] [] [])) (aX.cons (Wk.refl _) (aX.cons (Wk.refl _) (aX.cons cZ.wk aX.nil))) ?_;rintro _ _ ⟨tk2,e1,e2,rfl,rfl⟩
     conv=>whnf
     repeat' (first|((refine aM ?_);conv=>whnf)|(refine zX (fun hc=>?_) (fun hc=>?_)<;>(try simp only[SY] at hc)<;>omega))
     exact an (i + 1,tk2,l3++ [mM t.v[i] (.mk 1 vs[i] [] [])]) ⟨by show i + 1≤_;omega,e1,e2,hst,by show (l3++ [_]).length≤300000 + (i + 1);rw[List.length_append,List.length_singleton];omega⟩ (by show t.v.length - (i + 1) < t.v.length - i;omega) wA
    ·rw[if_neg (by simp_all),List.append_nil] at hst
     exact an (i + 1,tk,l3) ⟨by show i + 1≤_;omega,h1,h2,hst,by show l3.length≤300000 + (i + 1);omega⟩ (by show t.v.length - (i + 1) < t.v.length - i;omega) wA
   ·obtain rfl:i=t.v.length:=by omega
    rw[←hl3]
    conv=>whnf
    repeat' (first|((refine aM ?_);conv=>whnf)|(refine zX (fun hc=>?_) (fun hc=>?_)<;>(try simp only[SY] at hc)<;>first|omega|(conv=>whnf)))
    exact ak.gen (y:=.bn []) (Γ':=.box bc (DD t t.v.length pr ln lt E gF gS tk)::.row tk (l3.map aa.pv)::FC b body nz) (Wk.refl _) ⟨tk,h1,h2,rfl,rfl⟩
end
theorem LL (late:List Int) (t:aa):t.aQ≤1000000000→aA Tryz.prog 96 [.agg t.cells,cW late] (.agg (t.ask late).cells):=by
 induction t using aa.ind with
 | h t ih=>
  intro hb;have hbe:=t.bu;have hbs:=aa.aU t.t;have hak:=t.zk late;unfold OW at hak;have hhas:=DE late t.n;refine af.ah ai Tryz.func96 rfl rfl (n:=56) rfl rfl ?_
  conv=>whnf
  repeat (((intro _);conv=>whnf))
  refine aq.cj (au.nil 4 26 _) ?_;rename_i b2 b4
  refine aq.over [5,6,8,9,10,11,12,13,14,15,16,17,18,19,20,21,22,23,24] (fun x:Nat×List aa×Tok=> [(5,.sl 4 (x.2.1.map aa.pv) (some x.2.2)),(6,.int .i64 x.1)]) (fun x=> [.tok x.2.2,.box b4 [.int .i64 0,.int .i64 0,.nil,.nil],.box b2 [.int .i64 t.op,.int .i64 t.n,.sl 1 (t.v.map (PV.int .i64)) none,.sl 4 (t.t.map aa.pv) none]])
   (fun x=>x.1≤t.t.length∧x.2.2.e=26∧x.2.1=(t.t.take x.1).map (aa.ask late)) (fun x=>t.t.length - x.1) (0, [],ay 4 26) ⟨Nat.zero_le _,rfl,rfl⟩ (by repeat' (first|exact trivial|refine And.intro ?_ ?_|exact Wk.ay _ _|exact Wk.refl _)) ?_
  rintro ⟨i,l,tk⟩ ⟨hi,hte,hl⟩;dsimp only at hi hte hl ⊢;have hrl:l.length=i:=by rw[hl];simp;omega
  rcases Nat.lt_or_ge i t.t.length with hlt | hge
  ·have hsn:l++ [t.t[i].ask late]=(t.t.take (i + 1)).map (aa.ask late):=by rw[List.take_succ_eq_append_getElem hlt,List.map_append,hl];rfl
   have hx:=ih _ (List.getElem_mem hlt) (by have:=aa.bz (List.getElem_mem hlt);omega)
   conv=>whnf
   repeat' (first|refine aS ?_|((first|refine pC (hx) wR ?_|intro _);conv=>whnf)|(refine zX (fun hc=>?_) (fun hc=>?_)<;>(try simp only[SY] at hc)<;>first|omega|(conv=>whnf)))
   rename Tok=>t5
   exact an (i + 1,l++ [t.t[i].ask late],t5) ⟨by show i + 1≤_;omega,by assumption,hsn⟩ (by show t.t.length - (i + 1) < t.t.length - i;omega) wA
  ·rw[List.take_of_length_le (by omega)] at hl
   rw[←hl] at hak
   conv=>whnf
   repeat' (first|refine aS ?_|((first|(((apply zY;intro hg));(conv=>whnf);(repeat ((first|refine pC (hhas) wR ?_|refine aH ?_);conv=>whnf));exact pZ)|intro _);conv=>whnf)|(refine zX (fun hc=>?_) (fun hc=>?_)<;>(try simp only[SY] at hc)<;>first|omega|(conv=>whnf)))
   ·obtain ⟨a1,a2⟩:t.op=1∧late.contains t.n=true:=by assumption
    rw[hak,if_pos a2,if_pos a1];exact ak.pure (y:=.agg (aa.mk 12 0 [] [aa.mk t.op t.n t.v l]).cells) cZ.wk
   ·obtain ⟨a1,a2⟩:t.op=2∧late.contains t.n=true:=by assumption
    rw[hak,if_pos a2,if_neg (by omega),if_pos a1];exact ak.pure (y:=.agg (aa.mk 14 t.n t.v l).cells) cZ.wk
   ·have a1: ¬t.op=1∨late.contains t.n=false:=by assumption
    have a2: ¬t.op=2∨late.contains t.n=false:=by assumption
    have hz:t.ask late=.mk t.op t.n t.v l:=by
     rw[hak];by_cases h:late.contains t.n=true
     ·rw[if_pos h,if_neg (a1.resolve_right (by rw[h];decide)),if_neg (a2.resolve_right (by rw[h];decide))]
     ·rw[if_neg h]
    rw[hz];exact ak.pure (y:=.agg (aa.mk t.op t.n t.v l).cells) cZ.wk
theorem xU {p q:Prop} (k:q) (h:q→p:=by intro hq;first | exact aC.sP (some 109) rfl [8] [9] ai mixed hq | exact aC.sT (some 127) rfl [0,9] [12,13] ai mixed hq):p:=h k
theorem NL (b:Nat) (body:aa) (nx:Int) (t:aa) (hbb:body.aQ≤1000000000) (hb:aa.aD t.t + aa.fB 1 t.t + 9 * t.v.length + 10≤1000000000) (hv:t.t.length=t.v.length + 1) (hn:t.v.length≤500) (hnx:0≤nx∧nx≤1000000000):
  af Tryz.prog 53 [.ptr b 0,.agg t.cells] (FC b body nx) (fun y Γ'=>y=.agg (iP (ew body) t.n t.v t.t nx).1.cells∧Γ'=FC b body (iP (ew body) t.n t.v t.t nx).2):=by
 have hbe:=t.bu;have hbs:=aa.aU t.t;have hrb:=tc (ew body) t.n t.v t.t nx hv;have hR:iP (ew body) t.n t.v t.t nx=iP (ew body) t.n t.v t.t nx:=rfl
 conv at hR=>rhs;unfold iP;dsimp only
 have hkn:=Hj b body nx t hbb (by omega) hv hn;have hpl:(dc (ew body) t.v t.t).length=t.v.length:=by unfold dc;simp
 have hnl:(bx t.v t.t).length=t.v.length:=by unfold bx;simp
 have hltl:(fX t.n (dc (ew body) t.v t.t) (bx t.v t.t)).length=t.v.length:=by unfold fX;simp[hnl]
 have hgo:=lM t.v t.t
 have hll: ∀ l∈bx t.v t.t,l.length≤500:=fun l hl=>by
  unfold bx at hl;obtain ⟨k,hk,rfl⟩:=List.mem_map.1 hl;have:=bO t.v.length fun j=>(eA (bg (t.t.getD k gd).all)).contains (t.v.getD j 0);unfold ue;omega
 have hlv:nE t.v (fX t.n (dc (ew body) t.v t.t) (bx t.v t.t))=Hs t.v (fX t.n (dc (ew body) t.v t.t) (bx t.v t.t)) t.v.length:=rfl;rw[hlv] at hR;generalize hRR:iP (ew body) t.n t.v t.t nx=RR at *;generalize hpr:dc (ew body) t.v t.t=pr at *;generalize hln:bx t.v t.t=ln at *;generalize hlt:fX t.n pr ln=lt at *;refine af.ah ai Tryz.func53 rfl rfl (n:=150) rfl rfl ?_
 conv=>whnf
 repeat' (first|refine aS ?_|((intro _);conv=>whnf)|(refine zX (fun hc=>?_) (fun hc=>?_)<;>(try simp only[SY] at hc)<;>omega))
 refine av.go hkn (aX.refl _) ?_;rintro _ _ ⟨rfl,rfl⟩
 conv=>whnf
 repeat' (first|refine aS ?_|((intro _);conv=>whnf)|(refine zX (fun hc=>?_) (fun hc=>?_)<;>(try simp only[SY] at hc)<;>omega))
 rename_i b3 b4 b5 b7;refine aq.cj (au.trans (au.nil 1 3 _) (au.trans (au.nil 4 26 _) (au.box (b:=b7) (cs:= [.int .i64 8,.int .i64 0,.nil,.nil]) (cs':= [.int .i64 8,.int .i64 0,.nil,.sl 4 (([]:List aa).map aa.pv) (some (ay 4 26))]) wA))) ?_
 refine aq.over [6,8,20,21,22,23,24,25,26,27,28,29,30,31,32,33,34,35,36,37,38,39,40,41,42,43,44] (fun x:Nat×(List Int×Tok)×(List aa×Tok)=> [(6,.sl 1 (x.2.1.1.map (PV.int .i64)) (some x.2.1.2)),(8,.int .i64 x.1)]) (fun x=> [.box b7 [.int .i64 8,.int .i64 0,.nil,.sl 4 (x.2.2.1.map aa.pv) (some x.2.2.2)],.tok x.2.1.2,.tok x.2.2.2,.box b5 (qn t.v.length pr ln lt),.box b [.int .i64 body.op,.int .i64 body.n,.sl 1 (body.v.map (PV.int .i64)) none,.sl 4 (body.t.map aa.pv) none,.int .i64 nx],.box b4 [.int .i64 0,.int .i64 0,.nil,.nil],.box b3 [.int .i64 t.op,.int .i64 t.n,.sl 1 (t.v.map (PV.int .i64)) none,.sl 4 (t.t.map aa.pv) none]])
  (fun x=>x.1≤t.v.length∧x.2.1.2.e=3∧x.2.2.2.e=26∧x.2.1.1=Hs t.v lt x.1∧x.2.2.1=(Hs t.v lt x.1).map fun _=>aa.mk 13 0 [] []) (fun x=>t.v.length - x.1) (0,([],ay 1 3),([],ay 4 26)) ⟨Nat.zero_le _,rfl,rfl,rfl,rfl⟩ (by repeat' (first|exact trivial|refine And.intro ?_ ?_|exact Wk.ay _ _|exact Wk.refl _)) ?_
 rintro ⟨i,⟨lv,tv⟩,⟨ut,tu⟩⟩ ⟨hi,htv,htu,hlvs,huts⟩;dsimp only at hi htv htu hlvs huts ⊢;have hll2:=Ft t.v lt i;rw[←hlvs] at hll2 huts;have hul:ut.length≤i:=by rw[huts,List.length_map];exact hll2
 rcases Nat.lt_or_ge i t.v.length with hlti | hgei
 ·have hit:i < lt.length:=by omega
  have hsn:=Cm t.v lt i;have e1:t.v.getD i 0=t.v[i]:=by rw[List.getD_eq_getElem?_getD,List.getElem?_eq_getElem hlti];rfl
  rw[←hlvs,e1,bQ hit] at hsn
  conv=>whnf
  repeat' (first|refine aS ?_|((intro _);conv=>whnf)|(refine zX (fun hc=>?_) (fun hc=>?_)<;>(try simp only[SY] at hc)<;>first|omega|(conv=>whnf)))
  ·rename_i tv2 htv2 _ _ tu2 htu2
   rw[if_pos (by assumption)] at hsn;exact an (i + 1,(lv++ [t.v[i]],tv2),(ut++ [.mk 13 0 [] []],tu2)) ⟨by show i + 1≤_;omega,htv2,htu2,hsn.symm,by show ut++_=_;rw[hsn,List.map_append,huts];rfl⟩ (by show t.v.length - (i + 1) < t.v.length - i;omega) wA
  ·rw[if_neg (by simp_all),List.append_nil] at hsn
   exact an (i + 1,(lv,tv),(ut,tu)) ⟨by show i + 1≤_;omega,htv,htu,hsn.symm,by show ut=_;rw[hsn];exact huts⟩ (by show t.v.length - (i + 1) < t.v.length - i;omega) wA
 ·obtain rfl:i=t.v.length:=by omega
  have hlve:Hs t.v lt t.v.length=lv:=hlvs.symm;rw[hlve] at hR;clear hlvs;have hel:(t.t.map (aa.ask lv)).length=t.v.length + 1:=by rw[List.length_map,hv]
  conv=>whnf
  repeat' (first|refine aS ?_|((intro _);conv=>whnf)|(refine zX (fun hc=>?_) (fun hc=>?_)<;>(try simp only[SY] at hc)<;>first|omega|(conv=>whnf)))
  rename_i b9;refine aq.cj (au.trans (au.rS 4 26 _ [] rfl) (au.box (b:=b9) (cs:= [.int .i64 t.op,.int .i64 t.n,.sl 1 (t.v.map (PV.int .i64)) none,.sl 4 (t.t.map aa.pv) none,.int .i64 t.v.length,.sl 1 (pr.map PV.bool) none,.sl 1 (ln.map cW) none,.sl 1 (lt.map PV.bool) none,.nil,.nil,.nil,.nil]) (cs':= [.int .i64 t.op,.int .i64 t.n,.sl 1 (t.v.map (PV.int .i64)) none,.sl 4 (t.t.map aa.pv) none,.int .i64 t.v.length,.sl 1 (pr.map PV.bool) none,.sl 1 (ln.map cW) none,.sl 1 (lt.map PV.bool) none,.ms (ay 4 26),.nil,.nil,.nil]) (by repeat' (first|exact .nil|refine fR.cons ?_ ?_|exact Wk.cm _ _|exact Wk.refl _)))) ?_
  refine aq.over [10,49,50,51,52,53,54,55,56,57,58,59,60,61,62,63,64,65,66,67,68,69,70,71] (fun x:Nat×Tok×List aa=> [(10,.int .i64 x.1)]) (fun x=> [.box b9 [.int .i64 t.op,.int .i64 t.n,.sl 1 (t.v.map (PV.int .i64)) none,.sl 4 (t.t.map aa.pv) none,.int .i64 t.v.length,.sl 1 (pr.map PV.bool) none,.sl 1 (ln.map cW) none,.sl 1 (lt.map PV.bool) none,.ms x.2.1,.nil,.nil,.nil],.row x.2.1 (x.2.2.map aa.pv),.box b7 [.int .i64 8,.int .i64 0,.nil,.sl 4 (ut.map aa.pv) (some tu)],.tok tv,.tok tu,.box b5 (qn t.v.length pr ln lt),.box b [.int .i64 body.op,.int .i64 body.n,.sl 1 (body.v.map (PV.int .i64)) none,.sl 4 (body.t.map aa.pv) none,.int .i64 nx],.box b4 [.int .i64 0,.int .i64 0,.nil,.nil],.box b3 [.int .i64 t.op,.int .i64 t.n,.sl 1 (t.v.map (PV.int .i64)) none,.sl 4 (t.t.map aa.pv) none]])
   (fun x=>x.1≤t.v.length + 1∧x.2.1.e=26∧x.2.1.s=4∧x.2.2=(t.t.take x.1).map (aa.ask lv)) (fun x=>t.v.length + 1 - x.1) (0,ay 4 26, []) ⟨Nat.zero_le _,rfl,rfl,rfl⟩ wA ?_
  rintro ⟨m,te,es⟩ ⟨hm,hte,hts,hes⟩;dsimp only at hm hte hts hes ⊢;have hesl:es.length=m:=by rw[hes,List.length_map,List.length_take];omega
  rcases Nat.lt_or_ge m (t.v.length + 1) with hml | hmg
  ·have hmt:m < t.t.length:=by omega
   have hsn:es++ [t.t[m].ask lv]=(t.t.take (m + 1)).map (aa.ask lv):=by rw[List.take_succ_eq_append_getElem hmt,List.map_append,hes];rfl
   have hbm:t.t[m].aQ≤1000000000:=by have:=aa.bz (List.getElem_mem hmt);omega
   conv=>whnf
   repeat' (first|refine aS ?_|(refine zX (fun hc=>?_) (fun hc=>?_)<;>(try simp only[SY] at hc)<;>first|omega|(conv=>whnf)))
   refine aC.tree ai mixed [0,1,3,7,0,16,0,112,240,0,1008,15,0,8191,16383,32767,16383,81919,212991] [0,1,2,4,5,6,7,8,9,10,12] [3,11,13,14,15,16,17,18] [.box b9 [.int .i64 t.op,.int .i64 t.n,.sl 1 (t.v.map (PV.int .i64)) none,.sl 4 (t.t.map aa.pv) none,.int .i64 t.v.length,.sl 1 (pr.map PV.bool) none,.sl 1 (ln.map cW) none,.sl 1 (lt.map PV.bool) none,.ms te,.nil,.nil,.nil],.row te (es.map aa.pv)] ?_
   conv=>whnf
   conv=>whnf
   repeat' (first|((first|((apply zZ);first|exact tB|((conv=>whnf);(repeat ((refine pC (LL lv t.t[m] hbm) (by ((repeat' (first|exact aX.nil|apply aX.cons|exact Wk.refl _|exact Wk.int OA|exact Wk.tt rfl|exact Wk.ff rfl|exact Wk.eu rfl|exact Wk.tok _ _ _));first|done|fail)) ?_);conv=>whnf));exact pZ))|refine aM ?_|(refine And.intro ?_ ?_)|(refine dQ.map fun _=>?_)|(refine dB.IK (l:=es++ [aa.mk 0 0 [] []]) (by assumption) (by omega) (by simp;omega) ?_)|(refine bP.j6 (f:=aa.pv) (l:=es++ [aa.mk 0 0 [] []]) (by simp) rfl rfl rfl ?_)|refine aF ?_|intro _);conv=>whnf)|(refine zX (fun hc=>?_) (fun hc=>?_)<;>(try simp only[SY] at hc)<;>omega))
   all_goals try exact trivial
   all_goals
    rw[fL]
    rename Tok=>t5
    exact an (m + 1,t5,es++ [t.t[m].ask lv]) ⟨by show m + 1≤_;omega,by assumption,by assumption,hsn⟩ (by show t.v.length + 1 - (m + 1) < t.v.length + 1 - m;omega) wA
  ·obtain rfl:m=t.v.length + 1:=by omega
   rw[List.take_of_length_le (by omega)] at hes;rw[←hes] at hR
   conv=>whnf
   repeat (refine qF ?_)
   refine kj.no (by simp;omega) ?_
   conv=>whnf
   repeat (refine qF ?_)
   have hbk:lv.length=0∨0 < lv.length:=by omega
   refine me.join (fun _:Tok=> []) (fun tk=> [.box b9 [.int .i64 t.op,.int .i64 t.n,.sl 1 (t.v.map (PV.int .i64)) none,.sl 4 (t.t.map aa.pv) none,.int .i64 t.v.length,.sl 1 (pr.map PV.bool) none,.sl 1 (ln.map cW) none,.sl 1 (lt.map PV.bool) none,.sl 4 (es.map aa.pv) none,.nil,.nil,.ms tk],.row tk ((iR lv).map aa.pv),.box b5 (qn t.v.length pr ln lt),.box b [.int .i64 body.op,.int .i64 body.n,.sl 1 (body.v.map (PV.int .i64)) none,.sl 4 (body.t.map aa.pv) none,.int .i64 nx],.box b4 [.int .i64 0,.int .i64 0,.nil,.nil],.box b3 [.int .i64 t.op,.int .i64 t.n,.sl 1 (t.v.map (PV.int .i64)) none,.sl 4 (t.t.map aa.pv) none]]) (fun tk=>tk.e=26∧tk.s=4) ?_ ?_
   ·conv=>whnf
    repeat' (first|refine aS ?_|((intro _);conv=>whnf)|(refine zX (fun hc=>?_) (fun hc=>?_)<;>(try simp only[SY] at hc)<;>(conv=>whnf)))
    ·obtain ⟨l0,hl0⟩: ∃ l0:List aa,l0= []:=⟨_,rfl⟩
     have hl0l:l0.length=0:=by rw[hl0];rfl
     refine aC.ghost (au.trans (au.rS 4 26 _ l0 hl0) (au.box (b:=b9) (cs:= [.int .i64 t.op,.int .i64 t.n,.sl 1 (t.v.map (PV.int .i64)) none,.sl 4 (t.t.map aa.pv) none,.int .i64 t.v.length,.sl 1 (pr.map PV.bool) none,.sl 1 (ln.map cW) none,.sl 1 (lt.map PV.bool) none,.ms te,.nil,.nil,.nil]) (cs':= [.int .i64 t.op,.int .i64 t.n,.sl 1 (t.v.map (PV.int .i64)) none,.sl 4 (t.t.map aa.pv) none,.int .i64 t.v.length,.sl 1 (pr.map PV.bool) none,.sl 1 (ln.map cW) none,.sl 1 (lt.map PV.bool) none,.ms te,.nil,.nil,.ms (ay 4 26)]) (by repeat' (first|exact .nil|refine fR.cons ?_ ?_|exact Wk.cm _ _|exact Wk.refl _)))) ?_;have hz1:(ay 4 26).e=26:=rfl;have hz2:(ay 4 26).s=4:=rfl;generalize ay 4 26=tz at *;refine aC.tree ai mixed [0,1,3,7,0,15,0,127,255,511,255,1279,3327] [0,1,2,4,6] [3,5,7,8,9,10,11,12] [.box b9 [.int .i64 t.op,.int .i64 t.n,.sl 1 (t.v.map (PV.int .i64)) none,.sl 4 (t.t.map aa.pv) none,.int .i64 t.v.length,.sl 1 (pr.map PV.bool) none,.sl 1 (ln.map cW) none,.sl 1 (lt.map PV.bool) none,.ms te,.nil,.nil,.ms tz],.row tz (l0.map aa.pv)] ?_
     conv=>whnf
     conv=>whnf
     repeat' (first|((first|((apply zZ);exact tB)|refine aM ?_|(refine And.intro ?_ ?_)|(refine dQ.map fun _=>?_)|(refine dB.IK (l:=l0++ [aa.mk 0 0 [] []]) (by assumption) (by omega) (by simp;omega) ?_)|(refine bP.j6 (f:=aa.pv) (l:=l0++ [aa.mk 0 0 [] []]) (by simp) rfl rfl rfl ?_)|refine aF ?_|intro _);conv=>whnf)|(refine zX (fun hc=>?_) (fun hc=>?_)<;>(try simp only[SY] at hc)<;>omega))
     all_goals try exact trivial
     all_goals
      rename Tok=>t5
      have hu:l0++ [aa.mk 8 0 lv ut]=iR lv:=by
       rw[hl0];unfold iR;rw[if_neg (by omega),huts];rfl
      rw[fL,hu];exact we t5 ⟨by assumption,by assumption⟩ (au.bK (t:=te) (es:=es.map aa.pv) (b:=b9) (cs:= [.int .i64 t.op,.int .i64 t.n,.sl 1 (t.v.map (PV.int .i64)) none,.sl 4 (t.t.map aa.pv) none,.int .i64 t.v.length,.sl 1 (pr.map PV.bool) none,.sl 1 (ln.map cW) none,.sl 1 (lt.map PV.bool) none,.ms te,.nil,.nil,.ms t5]) (cs':= [.int .i64 t.op,.int .i64 t.n,.sl 1 (t.v.map (PV.int .i64)) none,.sl 4 (t.t.map aa.pv) none,.int .i64 t.v.length,.sl 1 (pr.map PV.bool) none,.sl 1 (ln.map cW) none,.sl 1 (lt.map PV.bool) none,.sl 4 (es.map aa.pv) none,.nil,.nil,.ms t5]) (.cons (iA.of (Wk.refl _)) (.cons (iA.of (Wk.refl _)) (.cons (iA.of (Wk.refl _)) (.cons (iA.of (Wk.refl _)) (.cons (iA.of (Wk.refl _)) (.cons (iA.of (Wk.refl _)) (.cons (iA.of (Wk.refl _)) (.cons (iA.of (Wk.refl _)) (.cons (iA.ms' hts) (jy.FW _))))))))))) wA
    ·exact we (ay 4 26) ⟨rfl,rfl⟩ (au.trans (au.rS 4 26 _ (iR lv) (by unfold iR;rw[if_pos (by omega)])) (au.trans (au.box (b:=b9) (cs:= [.int .i64 t.op,.int .i64 t.n,.sl 1 (t.v.map (PV.int .i64)) none,.sl 4 (t.t.map aa.pv) none,.int .i64 t.v.length,.sl 1 (pr.map PV.bool) none,.sl 1 (ln.map cW) none,.sl 1 (lt.map PV.bool) none,.ms te,.nil,.nil,.nil]) (cs':= [.int .i64 t.op,.int .i64 t.n,.sl 1 (t.v.map (PV.int .i64)) none,.sl 4 (t.t.map aa.pv) none,.int .i64 t.v.length,.sl 1 (pr.map PV.bool) none,.sl 1 (ln.map cW) none,.sl 1 (lt.map PV.bool) none,.ms te,.nil,.nil,.ms (ay 4 26)]) (by repeat' (first|exact .nil|refine fR.cons ?_ ?_|exact Wk.cm _ _|exact Wk.refl _))) (au.bK (t:=te) (es:=es.map aa.pv) (b:=b9) (cs:= [.int .i64 t.op,.int .i64 t.n,.sl 1 (t.v.map (PV.int .i64)) none,.sl 4 (t.t.map aa.pv) none,.int .i64 t.v.length,.sl 1 (pr.map PV.bool) none,.sl 1 (ln.map cW) none,.sl 1 (lt.map PV.bool) none,.ms te,.nil,.nil,.ms (ay 4 26)]) (cs':= [.int .i64 t.op,.int .i64 t.n,.sl 1 (t.v.map (PV.int .i64)) none,.sl 4 (t.t.map aa.pv) none,.int .i64 t.v.length,.sl 1 (pr.map PV.bool) none,.sl 1 (ln.map cW) none,.sl 1 (lt.map PV.bool) none,.sl 4 (es.map aa.pv) none,.nil,.nil,.ms (ay 4 26)]) (.cons (iA.of (Wk.refl _)) (.cons (iA.of (Wk.refl _)) (.cons (iA.of (Wk.refl _)) (.cons (iA.of (Wk.refl _)) (.cons (iA.of (Wk.refl _)) (.cons (iA.of (Wk.refl _)) (.cons (iA.of (Wk.refl _)) (.cons (iA.of (Wk.refl _)) (.cons (iA.ms' hts) (jy.FW _))))))))))))) wA
   ·rintro tk ⟨h1,h2⟩
    have hgr:=DW pr lt ln (by omega) (by omega) (by omega) hgo hll;rw[hnl] at hgr
    conv=>whnf
    repeat (first|refine qF ?_|((refine pC (hgr) wR ?_);conv=>whnf))
    obtain ⟨LK,hLK⟩: ∃ l,l=iR lv++if t.n=1 then lU t.v es pr lt (cJ t.v es pr lt ln) t.v.length else ir t.v es pr lt (cJ t.v es pr lt ln) nx t.v.length:=⟨_,rfl⟩
    obtain ⟨ny,hny⟩: ∃ k1,k1=if t.n=1 then nx else nx + lY pr lt t.v.length:=⟨_,rfl⟩
    have hul:(iR lv).length≤1:=by unfold iR;split<;>simp
    refine me.join (fun _:Tok=> []) (fun tk=> [.box b9 (DD t t.v.length pr ln lt es ((uc pr lt ln).map Prod.fst) ((uc pr lt ln).map Prod.snd) tk),.row tk (LK.map aa.pv),.box b5 (qn t.v.length pr ln lt),.box b [.int .i64 body.op,.int .i64 body.n,.sl 1 (body.v.map (PV.int .i64)) none,.sl 4 (body.t.map aa.pv) none,.int .i64 ny],.box b4 [.int .i64 0,.int .i64 0,.nil,.nil]]) (fun tk=>tk.e=26∧tk.s=4) ?_ ?_
    ·conv=>whnf
     repeat' (first|refine aS ?_|(refine zX (fun hc=>?_) (fun hc=>?_)<;>(try simp only[SY] at hc)<;>(conv=>whnf)))
     ·rw[if_pos (by assumption)] at hLK hny
      refine av.go (Hf b9 t pr ln lt es tk (iR lv) h1 h2 (by omega) hn hpl hltl hnl (by rw[hes];exact hel)) (aX.refl _) ?_;rintro _ _ ⟨tk2,e1,e2,rfl,rfl⟩;rw[←hLK]
      conv=>whnf
      skip
      rw[←hny];exact fH tk2 ⟨e1,e2⟩ wA
     ·rw[if_neg (by assumption)] at hLK hny
      refine av.go (EG b body nx b9 t pr ln lt es tk (iR lv) hnx h1 h2 (by omega) hn hpl hltl hnl (by rw[hes];exact hel)) (aX.refl _) ?_;rintro _ _ ⟨tk2,e1,e2,rfl,rfl⟩;rw[←hLK, ←hny]
      conv=>whnf
      skip
      exact fH tk2 ⟨e1,e2⟩ wA
    ·rintro tk ⟨h1,h2⟩
     have hel2:es.length=t.v.length + 1:=by rw[hes];exact hel
     have hEk:es.getD t.v.length gd=es[t.v.length]:=by rw[List.getD_eq_getElem?_getD,List.getElem?_eq_getElem (by omega)];rfl
     rw[←hLK, ←hny,hEk] at hR;rw[hR] at hrb ⊢;have hob:=ql LK es[t.v.length]
     have hlb:(LK.map Is).sum=aa.aD LK:=by
      rw[lD];congr 1
      exact List.map_congr_left fun x _=>(by rw[x.bu];rfl)
     have hLl:=aa.aU LK;dsimp only at hrb⊢
     conv=>whnf
     repeat (first|refine qF ?_|((first|refine xU ?_|intro _);conv=>whnf))
     refine dQ.map fun _=>?_
     repeat (refine qF ?_)
     rename_i b13 _;generalize hbo:es[t.v.length]=bo at *
     refine aq.over [14,15,123,124,125,126,127,128,129,130,131,132,133,134,135,136,137,138,139,140,141,142,143,144,145,146,147,148] (fun x:Nat×aa=> [(14,.int .i64 ((LK.length:Int) - 1 - x.1))]) (fun x=> [.box b13 [.int .i64 x.2.op,.int .i64 x.2.n,.sl 1 (x.2.v.map (PV.int .i64)) none,.sl 4 (x.2.t.map aa.pv) none],.box b9 (DD t t.v.length pr ln lt es ((uc pr lt ln).map Prod.fst) ((uc pr lt ln).map Prod.snd) tk),.row tk (LK.map aa.pv),.box b [.int .i64 body.op,.int .i64 body.n,.sl 1 (body.v.map (PV.int .i64)) none,.sl 4 (body.t.map aa.pv) none,.int .i64 ny],.box b4 [.int .i64 0,.int .i64 0,.nil,.nil]])
      (fun x=>x.1≤LK.length∧x.2=mX (LK.drop (LK.length - x.1)) bo) (fun x=>LK.length - x.1) (0,bo) ⟨Nat.zero_le _,by rw[Nat.sub_zero,List.drop_length];rfl⟩ wA ?_
     rintro ⟨k,o⟩ ⟨hk,ho⟩;dsimp only at hk ho ⊢;rcases Nat.lt_or_ge k LK.length with hkl | hkg
     ·obtain ⟨m,hm⟩: ∃ m:Nat,m=LK.length - 1 - k:=⟨_,rfl⟩
      have hmi:(LK.length:Int) - 1 - k=(m:Int):=by omega
      have hml:m < LK.length:=by omega
      have hbm:LK[m].t.length≤1000000000:=by
       have h1:=aa.bz (List.getElem_mem hml);have h2:=aa.aU LK[m].t;have h3:=LK[m].bu;omega
      rw[hmi]
      conv=>whnf
      repeat' (first|refine aS ?_|((first|refine xU ?_|intro _);conv=>whnf)|(refine zX (fun hc=>?_) (fun hc=>?_)<;>(try simp only[SY] at hc)<;>first|omega|(conv=>whnf)))
      rename Tok=>t5
      obtain ⟨o2,ho2⟩: ∃ o2,o2=aa.mk LK[m].op LK[m].n LK[m].v (LK[m].t++ [o]):=⟨_,rfl⟩
      exact Az (k + 1,o2) ⟨by show k + 1≤_;omega,by
       show o2=_
       rw[ho2,show LK.length - (k + 1)=m by omega,wD hml,ho,show LK.length - k=m + 1 by omega]⟩ (by show LK.length - (k + 1) < LK.length - k;omega) (au.box (b:=b13) (cs:= [.int .i64 LK[m].op,.int .i64 LK[m].n,.sl 1 (LK[m].v.map (PV.int .i64)) none,.sl 4 ((LK[m].t++ [o]).map aa.pv) (some t5)]) (cs':= [.int .i64 o2.op,.int .i64 o2.n,.sl 1 (o2.v.map (PV.int .i64)) none,.sl 4 (o2.t.map aa.pv) none]) (by rw[ho2];exact .cons (Wk.refl _) (.cons (Wk.refl _) (.cons (Wk.refl _) (.cons (Wk.tok _ _ _) .nil))))) wA
     ·obtain rfl:k=LK.length:=by omega
      rw[Nat.sub_self,List.drop_zero] at ho;rw[←ho]
      conv=>whnf
      repeat' (first|refine aS ?_|(refine zX (fun hc=>?_) (fun hc=>?_)<;>(try simp only[SY] at hc)<;>first|omega|(conv=>whnf)))
      exact ak.gen (y:=.agg o.cells) (Γ':=FC b body ny) cZ.wk ⟨rfl,rfl⟩
def Ql (b:Nat) (body:aa) (x:aa):Prop:= ∀ k:Int,0≤k→k + x.aQ≤1000000000→
 af Tryz.prog 34 [.ptr b 0,.agg x.cells] (FC b body k) (fun y Γ'=>y=.agg (x.m6 (ew body) k).1.cells∧Γ'=FC b body (x.m6 (ew body) k).2)
theorem LO (b:Nat) (body:aa) (hbb:body.aQ≤1000000000) (t:aa):t.Lj→t.cnt≤500→t.aQ≤1100000→Ql b body t:=by
 induction t using aa.ind with
 | h t ih=>
  intro hs hcn hb k h0 hk;have hbe:=t.bu;have hbs:=aa.aU t.t;have hce:=t.kU;have hs2:=(t.AR).1 hs;have hxs:=aa.r6 hs2.2;have hcl:=DB (ew body) t.t k 510 hxs fun x hx=>by have:=lE hx;omega
  have hlec:=qT (ew body) t.t k;have hlen:=lF (ew body) t.t k;have hcv:=t.Ab (ew body) k;rw[hcv];refine af.ah ai Tryz.func34 rfl rfl (n:=40) rfl rfl ?_
  conv=>whnf
  repeat (((intro _);conv=>whnf))
  refine aq.cj (au.nil 4 26 _) ?_;rename_i b3 b4
  refine aq.over [5,6,8,9,10,11,12,13,14,15,16,17,18,19,20,21,22,23,24] (fun x:Nat×List aa×Tok×Int=> [(5,.sl 4 (x.2.1.map aa.pv) (some x.2.2.1)),(6,.int .i64 x.1)]) (fun x=> [.tok x.2.2.1,.box b4 [.int .i64 0,.int .i64 0,.nil,.nil],.box b3 [.int .i64 t.op,.int .i64 t.n,.sl 1 (t.v.map (PV.int .i64)) none,.sl 4 (t.t.map aa.pv) none],.box b [.int .i64 body.op,.int .i64 body.n,.sl 1 (body.v.map (PV.int .i64)) none,.sl 4 (body.t.map aa.pv) none,.int .i64 x.2.2.2]])
   (fun x=>x.1≤t.t.length∧x.2.2.1.e=26∧(x.2.1,x.2.2.2)=aa.dH (ew body) (t.t.take x.1) k) (fun x=>t.t.length - x.1) (0, [],ay 4 26,k) ⟨Nat.zero_le _,rfl,by rw[List.take_zero,aa.dH]⟩ (by repeat' (first|exact trivial|refine And.intro ?_ ?_|exact Wk.ay _ _|exact Wk.refl _)) ?_
  rintro ⟨i,l,tk,nx⟩ ⟨hi,hte,hl⟩;dsimp only at hi hte hl⊢
  have hrl:l.length=i:=by
   have:=lF (ew body) (t.t.take i) k;rw[←hl,List.length_take] at this;dsimp only at this;omega
  rcases Nat.lt_or_ge i t.t.length with hlt | hge
  ·have hbt:aa.aD (t.t.take i) + (t.t[i]).aQ≤aa.aD t.t:=by
    have h1:t.t.take (i + 1)++t.t.drop (i + 1)=t.t:=List.take_append_drop _ _;have h2:=congrArg aa.aD h1;rw[List.take_succ_eq_append_getElem hlt,iJ,iJ,aa.aD,aa.aD] at h2;omega
   have hle:=qT (ew body) (t.t.take i) k;rw[←hl] at hle;have hsn:=sy (ew body) t.t[i] (t.t.take i) k;rw[←hl, ←List.take_succ_eq_append_getElem hlt] at hsn;dsimp only at hle hsn;have hcll:=ih _ (List.getElem_mem hlt) (hxs _ (List.getElem_mem hlt)) (by have:=lE (List.getElem_mem hlt);omega) (by omega) nx (by omega) (by omega)
   obtain ⟨y,hy⟩: ∃ y,t.t[i].m6 (ew body) nx=y:=⟨_,rfl⟩
   obtain ⟨y,ny⟩:=y;rw[hy] at hsn hcll;dsimp only at hsn hcll
   conv=>whnf
   repeat' (first|refine aS ?_|((intro _);conv=>whnf)|(refine zX (fun hc=>?_) (fun hc=>?_)<;>(try simp only[SY] at hc)<;>first|omega|(conv=>whnf)))
   refine av.go hcll (aX.refl _) ?_;rintro _ _ ⟨rfl,rfl⟩
   conv=>whnf
   repeat' (first|refine aS ?_|((intro _);conv=>whnf)|(refine zX (fun hc=>?_) (fun hc=>?_)<;>(try simp only[SY] at hc)<;>omega))
   rename Tok=>t5
   exact an (i + 1,l++ [y],t5,ny) ⟨by show i + 1≤_;omega,by assumption,hsn.symm⟩ (by show t.t.length - (i + 1) < t.t.length - i;omega) wA
  ·rw[List.take_of_length_le (by omega)] at hl
   rw[←hl] at hcl hlec hlen ⊢;dsimp only at hcl hlec hlen⊢
   conv=>whnf
   repeat' (first|refine aS ?_|((intro _);conv=>whnf)|(refine zX (fun hc=>?_) (fun hc=>?_)<;>(try simp only[SY] at hc)<;>first|omega|(conv=>whnf)))
   ·have hvl:l.length=t.v.length + 1:=by rw[hlen];exact hs2.1 (by assumption)
    have hcl2:=sx t.t;rw[if_pos (by assumption)];have hrc:=NL b body nx (aa.mk t.op t.n t.v l) hbb (by show aa.aD l + aa.fB 1 l + 9 * t.v.length + 10≤_;omega) hvl (by show t.v.length≤500;omega) (by omega);change af _ _ _ _ (fun y Γ'=>y=.agg (iP (ew body) t.n t.v l nx).1.cells∧Γ'=FC b body (iP (ew body) t.n t.v l nx).2) at hrc;generalize iP (ew body) t.n t.v l nx=R at *;refine av.go hrc (aX.cons (Wk.refl _) (aX.cons cZ.wk aX.nil)) ?_;rintro _ _ ⟨rfl,rfl⟩
    conv=>whnf
    repeat' (first|refine aS ?_|(refine zX (fun hc=>?_) (fun hc=>?_)<;>(try simp only[SY] at hc)<;>omega))
    exact ak.gen (y:=.agg R.1.cells) (Γ':=FC b body R.2) cZ.wk ⟨rfl,rfl⟩
   ·rw[if_neg (by assumption)]
    exact ak.gen (y:=.agg (aa.mk t.op t.n t.v l).cells) (Γ':=FC b body nx) cZ.wk ⟨rfl,rfl⟩
theorem GA {p q:Prop} (k:q) (h:q→p:=by intro hq;first | exact aC.sP (some 10) rfl [] [6,7] ai mixed hq):p:=h k
theorem Gq (p:Prog) (hcn:p.body.cnt≤500) (hb:p.body.aQ≤1100000) (hl:p.consts.length≤1000000000):
  aA Tryz.prog 14 [.agg p.cells] (.bn [.agg (fe p).1.cells,.int .i64 (fe p).2]):=by
 have he:=vp p 0;have hR:jj p 0=0→gQ p 0:=fun h=>(qO p 0).1 (by rw[←he];exact h);have hck:=qN p 0 (by omega) (by omega);rw[←he] at hck;refine af.ah ai Tryz.func14 rfl rfl (n:=29) rfl rfl ?_
 conv=>whnf
 repeat' (first|refine aS ?_|((first|refine pC (hck) wR ?_|refine GA ?_|intro _);conv=>whnf)|(refine zX (fun hc=>?_) (fun hc=>?_)<;>(try simp only[SY] at hc)<;>(conv=>whnf)))
 ·rename_i hc
  exact ak.pure (Wk.bn (.cons (by rw[fe,if_neg hc];exact wB) (.cons (by rw[fe,if_neg hc];exact Wk.refl _) .nil)))
 ·obtain ⟨hshp,hdep,hvr⟩:=(hR hc).fits
  have hrsh:=p.body.FL (hR hc).2.2.1;have hnx:=Ob p.body (by omega) (by omega) hvr
  have hn0:0≤c8 p.body∧c8 p.body≤1000001:=by
   unfold c8
   split
   ·omega
   ·rename_i h0
    have hlt:(dY p.body).length - 1 < (dY p.body).length:=by have:=List.length_pos_iff.2 h0;omega
    have e:(dY p.body).getD ((dY p.body).length - 1) 0=(dY p.body)[(dY p.body).length - 1]:=by simp[List.getD,hlt]
    have:=hvr _ ((vn _ _).1 (List.getElem_mem hlt));rw[e];omega
  obtain ⟨hn0,hn1⟩:=hn0;have hcnv:fe p=if jj ⟨p.consts,(p.body.m6 (fun v=>p.body.A9.contains v) (c8 p.body)).1⟩ 1=0 then (⟨p.consts,(p.body.m6 (fun v=>p.body.A9.contains v) (c8 p.body)).1⟩,0) else (PL,5):=by rw[fe,if_pos hc];rfl
  have hcb:=(vz (fun v=>p.body.A9.contains v) p.body hrsh (c8 p.body)).2;have hcb2:((p.body.cnt:Int) + 10) * p.body.aQ≤510 * p.body.aQ:=Int.mul_le_mul_of_nonneg_right (by omega) (by omega)
  have hcv:p.body.m6 (ew p.body) (c8 p.body)=p.body.m6 (fun v=>p.body.A9.contains v) (c8 p.body):=I5 (fun v=>by
   have h1:=p.body.ON v 0 (by omega);have h2:=(p.body.uz (iD v) 0).1;unfold ew;rw[Bool.eq_iff_iff,List.contains_iff_mem, ←h1];simp
   omega) _ _
  have hmk:=fun b=>LO b p.body (by omega) p.body hrsh hcn hb (c8 p.body) hn0 (by omega);rw[hcv] at hmk;generalize p.body.m6 (fun v=>p.body.A9.contains v) (c8 p.body)=R at *
  conv=>whnf
  repeat' (first|refine aS ?_|((first|((apply zZ);(conv=>whnf);(repeat ((refine pC (hnx) wR ?_);conv=>whnf));exact pZ)|intro _);conv=>whnf)|(refine zX (fun hc=>?_) (fun hc=>?_)<;>(try simp only[SY] at hc)<;>omega))
  rename_i bm;refine aC.sF (some 17) rfl [.box bm [.int .i64 p.body.op,.int .i64 p.body.n,.sl 1 (p.body.v.map (PV.int .i64)) none,.sl 4 (p.body.t.map aa.pv) none,.int .i64 (c8 p.body)]] [5,6] [] [7] [8] ai mixed ?_
  conv=>whnf
  repeat (refine qF ?_)
  refine av.go (hmk _) (aX.refl _) ?_;rintro _ _ ⟨rfl,rfl⟩;have hck2:=qN ⟨p.consts,R.1⟩ 1 (by show R.1.aQ≤_;omega) hl;rw[←vp] at hck2
  conv=>whnf
  repeat' (first|refine aS ?_|((first|refine pC (hck2) wR ?_|intro _);conv=>whnf)|(refine zX (fun hc=>?_) (fun hc=>?_)<;>(try simp only[SY] at hc)<;>(conv=>whnf)))
  ·exact ak.pure (Wk.bn (.cons (by rw[hcnv,if_neg hc];exact wB) (.cons (by rw[hcnv,if_neg hc];exact Wk.refl _) .nil)))
  ·exact ak.pure (Wk.bn (.cons (by rw[hcnv,if_pos hc];exact Wk.refl _) (.cons (by rw[hcnv,if_pos hc];exact Wk.refl _) .nil)))
theorem sS (p:Prog) (hbb:Datum.aD p.consts + p.body.aQ≤1048576):aA Tryz.prog 3 [.agg p.cells] (.bool true):=by
 have hlen:=Datum.aU p.consts;have hfw:=LS p.body 300 (by omega) (by omega);have hfa:=Iv p.consts 2000 (by omega) (by omega);by_cases hf:0≤p.body.sk 300
 ·have hcn:=p.body.LU 300 hf
  have hcnp:=p.body.qS;rw[decide_eq_true hf] at hfw;refine af.ah ai Tryz.func3 rfl rfl (n:=41) rfl rfl ?_
  conv=>whnf
  repeat' (first|refine aS ?_|((first|(((apply zY;intro hg));(conv=>whnf);(repeat ((first|refine pC (hfa) wR ?_|refine pC (Oy (fe p).1 (fe p).1) wR ?_|refine aH ?_);conv=>whnf));exact pZ)|refine pC (xJ) wR ?_|refine pC (hfw) wR ?_|refine pC (BD p (by omega) (by omega) (by omega)) wR ?_|refine pC (Gq p (by omega) (by omega) (by omega)) wR ?_|intro _);conv=>whnf)|(refine zX (fun hc=>?_) (fun hc=>?_)<;>(try simp only[SY] at hc)<;>(conv=>whnf)))
  all_goals exact ak.pure (Wk.bool (by simp[Prog.HU]))
 ·rw[decide_eq_false hf] at hfw
  refine af.ah ai Tryz.func3 rfl rfl (n:=41) rfl rfl ?_
  conv=>whnf
  repeat' (first|refine aS ?_|((first|(((apply zY;intro hg));(conv=>whnf);(repeat ((first|refine pC (hfa) wR ?_|refine aH ?_);conv=>whnf));exact pZ)|refine pC (xJ) wR ?_|refine pC (hfw) wR ?_|intro _);conv=>whnf)|(refine zX (fun hc=>?_) (fun hc=>?_)<;>(try simp only[SY] at hc)<;>(conv=>whnf)))
  all_goals exact ak.pure (Wk.refl _)
open Go.RowKit (Below)
open Go.ChangeShapes
def Fz.of (w:World):Fz:=fun b o=>w.cell? ⟨b,o,none⟩
theorem aP.start (w:World):aP w (Fz.of w) [] w:=⟨Below.refl _ w,fun _ _ _ h=>h,by simp,.nil⟩
theorem tP {α:Type} {p:Nat→α→Prop}: ∀ {n:Nat},(∀ i,i < n→ ∃ a,p i a)→ ∃ l:List α,l.length=n∧ ∀ i a,l[i]?=some a→p i a
 | 0,_=>⟨[],rfl,by simp⟩
 | n + 1,h=>by
  obtain ⟨l,h1,h2⟩:=tP (n:=n) fun i hi=>h i (by omega);obtain ⟨a,ha⟩:=h n (by omega);refine ⟨l++ [a],by simp[h1],fun i b hb=>?_⟩;by_cases hi:i < l.length
  ·rw[List.getElem?_append_left hi] at hb;exact h2 i b hb
  ·rw[List.getElem?_append_right (by omega)] at hb
   have h0:i - l.length=0:=by
    rcases Nat.eq_zero_or_pos (i - l.length) with h | h
    ·exact h
    ·rw[List.getElem?_eq_none (by simp;omega)] at hb;cases hb
   rw[h0] at hb;simp at hb;obtain rfl:i=n:=by omega
   rwa [←hb]
section
variable {H:Type} {enc:TypeId×Value→H} {P:Program} {w:World} {UB:DataW H→Nat} {UBs:List (DataW H)→Nat}
structure Be (UB:DataW H→Nat) (UBs:List (DataW H)→Nat):Prop where
 nil:UBs []=0
 cons: ∀ x l,UBs (x::l)=UB x + UBs l
 agg: ∀ l,1 + UBs l≤UB (.agg l)
 slice: ∀ l m,1 + UBs l≤UB (.slice l m)
 str: ∀ s,s.length + 1≤UB (.lit (.string s))
 pos: ∀ d,1≤UB d
def Rd {α:Type} (enc:TypeId×Value→H) (P:Program) (w:World) (UB:DataW H→Nat) (n:Nat) (t:TypeId) (cells:α→List PV) (bk:α→Nat):Prop:=
 ∀ cs x,DataW.trod enc P w 0 (fun _=>true) true n t cs=some x→ ∃ a:α,aR (Fz.of w) (cells a) cs∧bk a≤UB x.1
theorem s9 (hB:Be UB UBs) {t:TypeId} {k:IntKind} (ht:P.underlying t=some (.int k)) (n:Nat):Rd enc P w UB n t (fun n:Int=> [.int k n]) fun _=>1:=by
 intro cs x h;obtain ⟨m,rfl,rfl,_⟩:=DataW.trod_int ht h;exact ⟨m,by simp only[aR,aE,and_true];exact rfl,hB.pos _⟩
theorem Ol (hB:Be UB UBs) {t:TypeId} (ht:P.underlying t=some .string) (n:Nat):Rd enc P w UB n t (fun s:List UInt8=> [.str s]) fun s=>s.length:=by
 intro cs x h;obtain ⟨s,rfl,rfl,hs⟩:=DataW.trod_string ht h;refine ⟨s.data.toList,?_,by have:=hB.str s.data.toList;show s.data.toList.length≤UB (.lit (.string s.data.toList));omega⟩
 have:s.data.toList.length≤9223372036854775807:=by
  have h1:s.data.toList.length=s.size:=Array.length_toList;have h2:maxLen≤9223372036854775807:=by simp only[maxLen];omega
  omega
 exact cq.2 ⟨⟨rfl,by unfold aE;exact ⟨rfl,this⟩⟩,cG _⟩
theorem FX {α:Type} {pv:α→PV} {cells:α→List PV} [c:cz pv cells] {s b o:Nat} (hs: ∀ a,(cells a).length=s): ∀ (l:List α) (i:Nat),
  (∀ j a,l[j]?=some a→ ∃ cs,w.cells? 0 ((⟨b,o,none⟩:Addr).add ((i + j) * s)) s=some cs∧aR (Fz.of w) (cells a) cs)→aV (Fz.of w) s b (o + i * s) (l.map pv)
 | [],_,_=>by simp[aV]
 | a::l,i,h=>by
  rw[List.map_cons,tK];obtain ⟨cs,h1,h2⟩:=h 0 a rfl;obtain ⟨_,h3,h4⟩:=World.cells?_some h1;refine ⟨⟨by rw[c.eq];exact hs a,?_⟩,?_⟩
  ·rw[c.eq,bq]
   refine ⟨cs,h2,fun j u hu=>?_⟩
   have hj:j < cs.length:=by
    rcases Nat.lt_or_ge j cs.length with h | h
    ·exact h
    ·rw[List.getElem?_eq_none h] at hu;cases hu
   have:=h4 j (by omega);rw[hu,Addr.add_lit,Addr.add_lit] at this;simpa[Fz.of] using this
  ·have:=FX (pv:=pv) hs l (i + 1) fun j a ha=>by
    have:=h (j + 1) a (by simpa using ha);rwa [show i + (j + 1)=i + 1 + j by omega] at this
   rwa [show o + (i + 1) * s=o + i * s + s by rw[Nat.succ_mul];omega] at this
def j8 {α:Type} (bk:α→Nat):List α→Nat
 | []=>0
 | a::l=>bk a + j8 bk l
theorem CX (hB:Be UB UBs) {α:Type} {bk:α→Nat}: ∀ (l:List α) (ds:List (DataW H)),l.length≤ds.length→(∀ (i:Nat) (a:α) (d:DataW H),l[i]?=some a→ds[i]?=some d→bk a≤UB d)→j8 bk l≤UBs ds
 | [],_,_,_=>by simp[j8]
 | a::l, [],h,_=>by simp at h
 | a::l,d::ds,h,k=>by
  rw[j8,hB.cons];have h1:=k 0 a d rfl rfl;have h2:=CX hB l ds (by simpa using h) fun i a d ha hd=>k (i + 1) a d (by simpa using ha) (by simpa using hd);omega
theorem rX (hB:Be UB UBs) {n:Nat} {t e:TypeId} (ht:P.underlying t=some (.slice e)) {s:Nat} (hs:P.cellsOf e=s) (hp:0 < s) {α:Type} {pv:α→PV} {cells:α→List PV} [c:cz pv cells] {bk:α→Nat}
  (hc: ∀ a,(cells a).length=s) (he: ∀ m,m < n→Rd enc P w UB m e cells bk):Rd enc P w UB n t (fun l:List α=> [.sl s (l.map pv) none]) fun l=>1 + j8 bk l:=by
 intro cs x h
 rcases DataW.trod_slice ht h with ⟨rfl,rfl⟩ | ⟨a,len,cap,elems,rest,m,rfl,rfl,rfl,_,hlc,hcm,hel,hx,hr,_⟩
 ·refine ⟨[],?_,by have:=hB.pos (DataW.nil:DataW H);simpa[j8] using this⟩
  exact cq.2 ⟨⟨rfl,by unfold aE;exact ⟨by simp,.inl ⟨rfl,rfl⟩⟩⟩,cG _⟩
 ·have hx': ∀ i,i < len→ ∃ a':α, ∃ cs d,elems[i]?=some d∧w.cells? 0 (a.add (i * s)) s=some cs∧aR (Fz.of w) (cells a') cs∧bk a'≤UB d.1:=by
   intro i hi;have h1:=hx i hi;have h2:elems[i]?=some elems[i]:=List.getElem?_eq_getElem (by omega);rw[h2,hs] at h1;obtain ⟨cs,h3,h4⟩:=Option.bind_eq_some_iff.1 h1;obtain ⟨a',h5,h6⟩:=he m (by omega) cs _ h4;exact ⟨a',cs,_,h2,h3,h5,h6⟩
  obtain ⟨l,hl,hl2⟩:=tP hx'
  have hcount:1 + j8 bk l≤UB (.slice (elems.map (·.1)) (rest.map (·.1))):=by
   have:=CX hB (bk:=bk) l (elems.map (·.1)) (by simp;omega) (by
    intro i a' d ha hd;obtain ⟨_,d',h2,_,_,h5⟩:=hl2 i a' ha;rw[List.getElem?_map,h2] at hd;simp at hd
    rw[←hd];exact h5)
   have:=hB.slice (elems.map (·.1)) (rest.map (·.1));omega
  refine ⟨l,?_,hcount⟩;refine cq.2 ⟨⟨rfl,?_⟩,cG _⟩;unfold aE;refine ⟨fun t ht=>(by cases ht),?_⟩;by_cases h0:cap=0
  ·subst h0
   obtain rfl:len=0:=by omega
   have:l= []:=List.eq_nil_of_length_eq_zero hl;subst this;exact .inr (.inr ⟨rfl,a,rfl⟩)
  ·
   have hsp:a.spot=none:=by
    have h1: ∃ cs,w.cells? 0 a s=some cs:=by
     by_cases h2:0 < len
     ·obtain ⟨_,cs,_,_,h3,_⟩:=hx' 0 h2
      exact ⟨cs,by simpa[Addr.add] using h3⟩
     ·obtain ⟨h3,h4⟩:=hr rfl
      have h5:=h4 0 (by omega);have h6:rest[0]?=some (rest[0]'(by omega)):=List.getElem?_eq_getElem (by omega);rw[h6,hs] at h5;obtain ⟨cs,h7,_⟩:=Option.bind_eq_some_iff.1 h5;have:len=0:=by omega
      subst this;exact ⟨cs,by simpa[Addr.add] using h7⟩
    obtain ⟨cs,h1⟩:=h1;obtain ⟨_,h3,h4⟩:=World.cells?_some h1;have h5:=h4 0 hp;have h6:cs[0]?=some (cs[0]'(by omega)):=List.getElem?_eq_getElem (by omega);rw[h6] at h5;simp only[Addr.add,if_true,World.cell?] at h5
    split at h5
    ·split at h5
     ·cases h5
     ·rename_i hn;simpa using hn
    ·cases h5
   obtain ⟨b,o,sp⟩:=a;simp only at hsp;subst hsp;refine .inr (.inl ⟨b,o,cap,by simp[hl],by simp;omega,hcm,by simp,?_⟩)
   have:=FX (pv:=pv) (w:=w) (b:=b) (o:=o) hc l 0 fun j a' ha=>by
    obtain ⟨cs,_,_,h3,h4,_⟩:=hl2 j a' ha;exact ⟨cs,by simpa using h3,h4⟩
   simpa using this
end
section
variable {H:Type} {enc:TypeId×Value→H} {P:Program} {w:World} {UB:DataW H→Nat} {UBs:List (DataW H)→Nat}
theorem fu {F:Fz} {ps bs:List PV} {cs:List Value} {o s:Nat} (h1:aR F ps ((cs.drop o).take s)) (h2:aR F bs (cs.drop (o + s))):aR F (ps++bs) (cs.drop o):=by
 have:=bN h1 h2;rwa [←List.drop_drop,List.take_append_drop] at this
theorem fq {α:Type} {n o s:Nat} {t:TypeId} {cells:α→List PV} {bk:α→Nat} (hR:Rd enc P w UB n t cells bk) {fs:Array Field} {cs:List Value} {xs:List (DataW H×List MemPlace)} (hlen:xs.length=fs.size)
  (hf: ∀ (i:Nat) (f:Field),fs[i]?=some f→DataW.trod enc P w 0 (fun _=>true) true n f.type ((cs.drop f.offset).take (P.cellsOf f.type))=xs[i]?) (i:Nat) (h:(fs.toList.map fun f=>(f.type,f.offset))[i]?=some (t,o)) (hs:P.cellsOf t=s):
  ∃ a y,xs[i]?=some y∧aR (Fz.of w) (cells a) ((cs.drop o).take s)∧bk a≤UB y.1:=by
 rw[List.getElem?_map] at h;obtain ⟨f,hfi,hft⟩:=Option.map_eq_some_iff.1 h;rw[Array.getElem?_toList] at hfi;simp only[Prod.mk.injEq] at hft;obtain ⟨rfl,rfl⟩:=hft;have h1:=hf i f hfi;have hi:i < xs.length:=by rw[hlen];exact (Array.getElem?_eq_some_iff.1 hfi).1
 have h2:xs[i]?=some xs[i]:=List.getElem?_eq_getElem hi;rw[h2] at h1;obtain ⟨a,h3,h4⟩:=hR _ _ h1;exact ⟨a,_,h2,by rw[←hs];exact h3,h4⟩
theorem Dg {α:Type} {t:TypeId} {cells:α→List PV} {bk:α→Nat} {fs:Array Field} (hs:P.underlying t=some (.struct fs)) (hR: ∀ n,Rd enc P w UB n t cells bk) {r:Reach} {b0:Nat} {v:Value} {d:DataW H} {p:List MemPlace}
  (hv:Value.okWide P w r b0 t v) (h:DataW.Trod enc P w 0 (fun _=>true) true t v d p): ∃ a,aE (Fz.of w) (.agg (cells a)) v∧bk a≤UB d:=by
 obtain ⟨cs,rfl,_⟩:=Go.WideShapes.okWide_struct hs hv;obtain ⟨fuel,hf⟩:=h;obtain ⟨a,h1,h2⟩:=hR fuel _ _ hf;refine ⟨a,?_,h2⟩;simp only[aE];exact ⟨cs.toList,by simp,by simpa[Value.cells] using h1⟩
theorem oW (hl:laidOutB P=true) {W W':World} (hb:Below W.heap.size W W'): ∀ {ts:List TypeId} {vs:List Value} {ds:List (DataW H)} {ps:List MemPlace},(∀ t∈ts,P.readableRec t=true∧t < P.types.size)→
  DataW.TrodAll enc P W 0 (fun _=>true) true ts vs ds ps→(∀ x∈ps,x.block < W.heap.size)→DataW.TrodAll enc P W' 0 (fun b=>decide (b < W.heap.size)) true ts vs ds ps
 | [],_,_,_,_,h,_=>by
  obtain ⟨rfl,rfl,rfl⟩:=trodAll_nil h;exact trodAll_mk0
 | t::ts,_,_,_,hr,h,hlt=>by
  obtain ⟨v,vs,d,ds,p,q,rfl,rfl,rfl,h1,h2⟩:=trodAll_cons h;exact trodAll_cons_mk (Go.RowKit.Below.trod hl (hr t (by simp)).1 (hr t (by simp)).2 h1 hb fun x hx=>hlt x (by simp[hx])) (oW hl hb (fun t ht=>hr t (by simp[ht])) h2 fun x hx=>hlt x (by simp[hx]))
theorem uy {spare:Nat→Bool} {base:Nat} {held:Bool}: ∀ {ts:List TypeId} {vs:List Value} {ds:List (DataW H)} {ps:List MemPlace},DataW.TrodAll enc P w base spare held ts vs ds ps→ds.length=ts.length
 | [],_,_,_,h=>by obtain ⟨rfl,rfl,rfl⟩:=trodAll_nil h;rfl
 | t::ts,_,_,_,h=>by
  obtain ⟨v,vs,d,ds,p,q,rfl,rfl,rfl,h1,h2⟩:=trodAll_cons h;simp[uy h2]
theorem JI {f:Func} {s:ChangeSpec} {tb:TypeId} {W W':World} {args:Array Value} {ds gs:List (DataW H)} {before:List MemPlace} (hl:laidOutB P=true) (hr: ∀ t∈f.params.toList,P.readableRec t=true∧t < P.types.size)
  (hres:f.resultTypes= #[tb]) (hb:P.underlying tb=some .bool) (hv:s.vars= []) (hfn: ∀ ds:List (DataW H),ds.length=f.params.size→s.fn H ds={ results:= [.lit (.bool true)],args:=ds })
  (hW:DataW.Whole enc P f.params.toList s.vars false W args.toList ds gs before) (hbel:Below W.heap.size W W'):s.post enc P f false true false false W args (.bool true) W':=by
 have hW':=hW;obtain ⟨p,q,hA,hV,rfl,_,_⟩:=hW;have hV0:DataW.TrodVars enc P W (fun _=>true) [] gs q:=by rw[←hv];exact hV
 obtain ⟨rfl,rfl⟩:=trodVars_none hV0;have hfn':=hfn (ds++ []) (by rw[List.append_nil,uy hA];simp);refine ⟨ds, [],p++ [], [],p, [],hW',?_,?_,?_,hbel.frame _,fun h=>by cases h⟩
 ·rw[hfn',hres]
  exact trodAll_mk1 (Go.RowKit.shut_bool hb _)
 ·rw[hfn',List.append_nil]
  exact oW hl hbel hr hA fun x hx=>hW'.lt x (by simp[hx])
 ·rw[hfn',hv];rfl
end
theorem n4: ∀ l:List Datum,j8 Datum.aQ l=Datum.aD l
 | []=>rfl
 | x::l=>by rw[j8,Datum.aD,n4 l]
theorem yZ: ∀ l:List aa,j8 aa.aQ l=aa.aD l
 | []=>rfl
 | x::l=>by rw[j8,aa.aD,yZ l]
theorem yY {α:Type}: ∀ l:List α,j8 (fun _=>1) l=l.length
 | []=>rfl
 | x::l=>by rw[j8,yY l,List.length_cons];omega
section
variable {H:Type} {enc:TypeId×Value→H} {P:Program} {w:World} {UB:DataW H→Nat} {UBs:List (DataW H)→Nat}
theorem wM {F:Fz} {cs:List Value} {n:Nat} (h:cs.length=n):aR F [] (cs.drop n):=by
 rw[List.drop_of_length_le (by omega)];exact cG F
theorem Ke (hB:Be UB UBs) {tI tS tL tD:TypeId} (hI:P.underlying tI=some (.int .i64)) (hS:P.underlying tS=some .string) (hL:P.underlying tL=some (.slice tD)) {fs:Array Field} (hD:P.underlying tD=some (.struct fs))
  (hfs:(fs.toList.map fun f=>(f.type,f.offset))= [(tI,0),(tI,1),(tI,2),(tS,3),(tL,4)]) (cI:P.cellsOf tI=1) (cS:P.cellsOf tS=1) (cL:P.cellsOf tL=1) (cD:P.cellsOf tD=5): ∀ n,Rd enc P w UB n tD Datum.cells Datum.aQ:=by
 intro n
 induction n using Nat.strongRecOn with
 | ind n ih=>
  intro cs x h;obtain ⟨xs,m,rfl,rfl,hl,hlen,hf⟩:=DataW.trod_struct hD h;obtain ⟨a0,y0,e0,r0,_⟩:=fq (s9 (w:=w) (enc:=enc) hB hI m) hlen hf 0 (by rw[hfs];rfl) cI;obtain ⟨a1,y1,e1,r1,_⟩:=fq (s9 (w:=w) (enc:=enc) hB hI m) hlen hf 1 (by rw[hfs];rfl) cI;obtain ⟨a2,y2,e2,r2,_⟩:=fq (s9 (w:=w) (enc:=enc) hB hI m) hlen hf 2 (by rw[hfs];rfl) cI;obtain ⟨a3,y3,e3,r3,b3⟩:=fq (Ol (w:=w) (enc:=enc) hB hS m) hlen hf 3 (by rw[hfs];rfl) cS;obtain ⟨a4,y4,e4,r4,b4⟩:=fq (rX (pv:=Datum.pv) hB hL cD (by omega) (fun a=>rfl) (fun k hk=>ih k (by omega))) hlen hf 4 (by rw[hfs];rfl) cL;refine ⟨.mk a0 a1 a2 a3 a4,?_,?_⟩
  ·exact fu r0 (fu r1 (fu r2 (fu r3 (fu r4 (wM (hl.trans cD))))))
  ·have h5:xs.length=5:=by
    have:=congrArg List.length hfs;simp at this;omega
   match xs,h5 with
   | [z0,z1,z2,z3,z4],_=>
    simp at e3 e4;subst e3 e4;have:=hB.agg ([z0,z1,z2,z3,z4].map (·.1));simp only[List.map_cons,List.map_nil,hB.cons,hB.nil] at this;rw[n4] at b4;rw[Datum.bu];show 1 + a3.length + Datum.aD a4≤_;simp only[List.map_cons,List.map_nil];omega
theorem Mt (hB:Be UB UBs) {tI tV:TypeId} (hI:P.underlying tI=some (.int .i64)) (hV:P.underlying tV=some (.slice tI)) (cI:P.cellsOf tI=1) (n:Nat):Rd enc P w UB n tV (fun l:List Int=> [.sl 1 (l.map (PV.int .i64)) none]) fun l=>1 + l.length:=by
 intro cs x h;obtain ⟨a,h1,h2⟩:=rX (pv:=PV.int .i64) hB hV cI (by omega) (fun a=>rfl) (fun k hk=>s9 (w:=w) (enc:=enc) hB hI k) cs x h;exact ⟨a,h1,by have:=yY a;show 1 + a.length≤_;have h3:1 + j8 (fun _=>1) a≤UB x.1:=h2;omega⟩
theorem Om (hB:Be UB UBs) {tI tV tL tT:TypeId} (hI:P.underlying tI=some (.int .i64)) (hV:P.underlying tV=some (.slice tI)) (hL:P.underlying tL=some (.slice tT)) {fs:Array Field} (hT:P.underlying tT=some (.struct fs))
  (hfs:(fs.toList.map fun f=>(f.type,f.offset))= [(tI,0),(tI,1),(tV,2),(tL,3)]) (cI:P.cellsOf tI=1) (cV:P.cellsOf tV=1) (cL:P.cellsOf tL=1) (cT:P.cellsOf tT=4): ∀ n,Rd enc P w UB n tT aa.cells aa.aQ:=by
 intro n
 induction n using Nat.strongRecOn with
 | ind n ih=>
  intro cs x h;obtain ⟨xs,m,rfl,rfl,hl,hlen,hf⟩:=DataW.trod_struct hT h;obtain ⟨a0,y0,e0,r0,_⟩:=fq (s9 (w:=w) (enc:=enc) hB hI m) hlen hf 0 (by rw[hfs];rfl) cI;obtain ⟨a1,y1,e1,r1,_⟩:=fq (s9 (w:=w) (enc:=enc) hB hI m) hlen hf 1 (by rw[hfs];rfl) cI;obtain ⟨a2,y2,e2,r2,b2⟩:=fq (Mt (w:=w) (enc:=enc) hB hI hV cI m) hlen hf 2 (by rw[hfs];rfl) cV;obtain ⟨a3,y3,e3,r3,b3⟩:=fq (rX (pv:=aa.pv) hB hL cT (by omega) (fun a=>rfl) (fun k hk=>ih k (by omega))) hlen hf 3 (by rw[hfs];rfl) cL;refine ⟨.mk a0 a1 a2 a3,?_,?_⟩
  ·exact fu r0 (fu r1 (fu r2 (fu r3 (wM (hl.trans cT)))))
  ·have h5:xs.length=4:=by
    have:=congrArg List.length hfs;simp at this;omega
   match xs,h5 with
   | [z0,z1,z2,z3],_=>
    simp at e2 e3;subst e2 e3;have:=hB.agg ([z0,z1,z2,z3].map (·.1));simp only[List.map_cons,List.map_nil,hB.cons,hB.nil] at this;rw[yZ] at b3;rw[aa.bu];show 1 + a2.length + aa.aD a3≤_;simp only[List.map_cons,List.map_nil];omega
end
open Go.Proofs.YtamlcgkjinbnlaaGreatDoor
theorem MV {H:Type} (d:DataW H):1≤Rows.uptoBulk d:=by
 cases d with
 | lit l=>cases l<;>simp[Rows.uptoBulk]
 | nil=>simp[Rows.uptoBulk]
 | ptr d=>simp[Rows.uptoBulk]
 | slice elems spare=>simp[Rows.uptoBulk]
 | agg parts=>simp[Rows.uptoBulk]
 | iface t d=>simp[Rows.uptoBulk]
 | map entries=>simp[Rows.uptoBulk]
 | held h=>simp[Rows.uptoBulk]
theorem xN {H:Type}:Be (H:=H) Rows.uptoBulk Rows.uptoBulkAll where
 nil:=by simp[Rows.uptoBulkAll]
 cons x l:=by simp[Rows.uptoBulkAll]
 agg l:=by simp[Rows.uptoBulk];omega
 slice l m:=by simp[Rows.uptoBulk];omega
 str s:=by simp[Rows.uptoBulk]
 pos d:=MV d
section
variable {H:Type} {enc:TypeId×Value→H} {w:World}
theorem Po:Tryz.prog.cellsOf 3=1:=by kernel_rfl
theorem Qn:Tryz.prog.cellsOf 9=1:=by kernel_rfl
theorem Pp:Tryz.prog.cellsOf 23=1:=by kernel_rfl
theorem QY:Tryz.prog.cellsOf 22=1:=by kernel_rfl
theorem Ry:Tryz.prog.cellsOf 24=1:=by kernel_rfl
theorem cD:Tryz.prog.cellsOf 55=5:=by kernel_rfl
theorem cT:Tryz.prog.cellsOf 26=4:=by kernel_rfl
theorem cP:Tryz.prog.cellsOf 28=5:=by kernel_rfl
theorem RN (n:Nat):Rd enc Tryz.prog w Rows.uptoBulk n 55 Datum.cells Datum.aQ:=
 Ke xN Tryz.underlying3 Tryz.underlying9 Tryz.underlying22 Tryz.underlying55 rfl Po Qn QY cD n
theorem RO (n:Nat):Rd enc Tryz.prog w Rows.uptoBulk n 26 aa.cells aa.aQ:=
 Om xN Tryz.underlying3 Tryz.underlying23 Tryz.underlying24 Tryz.underlying26 rfl Po Pp Ry cT n
theorem QJ (n:Nat):Rd enc Tryz.prog w Rows.uptoBulk n 22 (fun l:List Datum=> [.sl 5 (l.map Datum.pv) none]) fun l=>1 + Datum.aD l:=by
 intro cs x h;obtain ⟨a,h1,h2⟩:=rX (pv:=Datum.pv) xN Tryz.underlying22 cD (by omega) (fun a=>rfl) (fun k hk=>RN (w:=w) (enc:=enc) k) cs x h;have h3:1 + j8 Datum.aQ a≤Rows.uptoBulk x.1:=h2;rw[n4] at h3;exact ⟨a,h1,h3⟩
def Prog.aQ (p:Prog):Nat:=Datum.aD p.consts + p.body.aQ
theorem QL (n:Nat):Rd enc Tryz.prog w Rows.uptoBulk n 28 Prog.cells Prog.aQ:=by
 intro cs x h;obtain ⟨xs,m,rfl,rfl,hl,hlen,hf⟩:=DataW.trod_struct Tryz.underlying28 h;obtain ⟨a0,y0,e0,r0,b0⟩:=fq (QJ (w:=w) (enc:=enc) m) hlen hf 0 rfl QY;obtain ⟨a1,y1,e1,r1,b1⟩:=fq (RO (w:=w) (enc:=enc) m) hlen hf 1 rfl cT;refine ⟨⟨a0,a1⟩,?_,?_⟩
 ·have:=fu r0 (fu r1 (wM (hl.trans cP)))
  rwa [List.append_nil] at this
 ·match xs,hlen with
  | [z0,z1],_=>
   simp at e0 e1;subst e0 e1;have:=(xN (H:=H)).agg ([z0,z1].map (·.1));simp only[List.map_cons,List.map_nil,(xN (H:=H)).cons,(xN (H:=H)).nil] at this;show Datum.aD a0 + a1.aQ≤_;simp only[List.map_cons,List.map_nil];omega
theorem RL:Tryz.prog.readableRec 28=true∧28 < Tryz.prog.types.size:=⟨by kernel_rfl,of_decide_eq_true (by kernel_rfl)⟩
theorem xm:Tryz.prog.readableRec 26=true∧26 < Tryz.prog.types.size:=⟨by kernel_rfl,of_decide_eq_true (by kernel_rfl)⟩
theorem Dm {f:FuncId} {args:List PV} {vs:List Value} {W:World} (h:aA Tryz.prog f args (.bool true)) (hr:aB (Fz.of W) args vs):Calls Tryz.prog f vs.toArray W fun e W'=>e=.returned (.bool true)∧Below W.heap.size W W':=by
 refine (h.2 W (Fz.of W) [] W vs (aP.start W) hr).mono ?_;rintro e W' ⟨v,F',y,Γ',rfl,_,hS,hR,rfl⟩;exact ⟨by rw[show v=.bool true by simpa only[aE] using hR],hS.below⟩
end
mutual
def Dn:DataW Unit→List Value
 | .lit (.int k n)=> [.int k n]
 | .lit (.bool b)=> [.bool b]
 | .lit (.string s)=> [.string ⟨s.toArray⟩]
 | .agg l=>EX l
 | _=> []
def EX:List (DataW Unit)→List Value
 | []=> []
 | d::l=>Dn d++EX l
end
def sW (e:TypeId):List (String×DataW Unit)→List Obj
 | []=> []
 | (_,.iface _ (.ptr d))::l=>.cells (Dn d).toArray e::sW e l
 | _::l=>sW e l
def Nj (h:Array Obj) (g:Option Nat) (cs:Array Value):Array Obj:=match g with
 | some g=>h.modify g fun
  | .cells _ t frozen=>.cells cs t frozen
  | o=>o
 | none=>h
def D3 (P:Program) (p:TypeId):List (String×DataW Unit)→Nat→Array Obj→Array Obj
 | [],_,h=>h
 | (n,.iface _ _)::l,k,h=>D3 P p l (k + 1) (Nj h (P.globalNamed n) #[.iface p (.pointer (some ⟨k,0,none⟩))])
 | (n,d)::l,k,h=>D3 P p l k (Nj h (P.globalNamed n) (Dn d).toArray)
noncomputable def laidWorld (os:Os):World:=
 let w0:=World.holding Tryz.prog os ⟨(sW 348 Rows.letrecConvertsRow.laid).toArray, #[], []⟩
 { w0 with heap:=D3 Tryz.prog 346 Rows.letrecConvertsRow.laid (World.settled Tryz.prog os).heap.size w0.heap }
theorem JH (os:Os) (args:Array Value):laidMet Tryz.prog Rows.letrecConvertsRow.laid ((laidWorld os).forCall (fun _ _=>0) ⟨#[],args, []⟩).memory:=
 (LaidIn.of_run (l:=Rows.letrecConvertsRow.laid) (List.range 1000) 16 (by kernel_rfl) (by kernel_rfl) (by kernel_rfl) (by kernel_rfl)).met
theorem J1:ownKnob Tryz.prog.godebug=none:=by kernel_rfl
theorem laidOut:laidOutB Tryz.prog=true:=by kernel_rfl
end Go.Cb


