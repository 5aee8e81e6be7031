/-
 Contracts: what the document says is free.
 Contracts: the document's recursive bindings: what is known of a Rec's terms.
 Contracts: the document's recursive bindings: levels and groups.
 Contracts: the document's recursive bindings: groups.
 Contracts: the document's recursive bindings: the links of a chain.
 Contracts: the document's recursive bindings: the links of a Rec.
 Contracts: the document's recursive bindings: the links of a Rec whose parts are not in order.
 Contracts: the document's recursive bindings: late variables are asked.
 Contracts: the document's recursive bindings: a Rec.
 Contracts: the document's recursive bindings: terms, a program, converted.
 The laws of letrec: what any program, any text comes to.
 Contracts: letrec's laws' own functions.
 The law of letrec: where all are procedures nothing is asked.
 From the readings of arguments to values, and from a contract to what a statement asks.
 The program's data, read at the seat's types; the bulk.
 A world that holds the listed tables: the statements' witness.
-/
import Derived.Carry
import Derived.ChangeArms
import Derived.ChangeSame
import Derived.Deep.DeepHandedRow
import Derived.Deep.DeepWitnessRowRef
import Derived.KernelRfl
import Derived.Lib.LaidIn
import Derived.OpenShut
import Derived.OpenVars
import Derived.RowKit
import Derived.Test.YtamlcgkjinbnlaaGreatDoorRows
import Derived.WideShapes
import Derived.Test.YtamlcgkjinbnlaaGreatDoorD8
set_option linter.unusedSimpArgs false
set_option linter.unusedVariables false
namespace Go.Cb
open Go.Proofs
set_option maxRecDepth 100000
set_option maxHeartbeats 4000000
section
variable {P:Program}
end
def tc (body:aa) (v:Int):Bool:=!(body.uC (gN v) 0 == 0)
section
variable (bc:Nat) (t:aa) (n:Nat) (pr:List Bool) (ln:List (List Int)) (lt:List Bool) (E:List aa) (gF:List (List Int)) (gS:List Int) (tk:Tok) (l:List aa) (h1:tk.e=26) (h2:tk.s=4)
include h1 h2
end
section
variable (bc:Nat) (t:aa) (pr:List Bool) (ln:List (List Int)) (lt:List Bool) (E:List aa) (tk:Tok) (l:List aa) (h1:tk.e=26) (h2:tk.s=4) (hl:l.length≤10000) (hn:t.v.length≤500) (hp:pr.length=t.v.length) (hlt:lt.length=t.v.length) (hln:ln.length=t.v.length) (hE:E.length=t.v.length + 1)
include h1 h2 hl hn hp hlt hln hE
end
section
variable (b:Nat) (body:aa) (nx:Int) (bc:Nat) (t:aa) (pr:List Bool) (ln:List (List Int)) (lt:List Bool) (E:List aa) (tk:Tok) (l:List aa) (hnx:0≤nx∧nx≤1000000000) (h1:tk.e=26) (h2:tk.s=4) (hl:l.length≤10000) (hn:t.v.length≤500) (hp:pr.length=t.v.length) (hlt:lt.length=t.v.length) (hln:ln.length=t.v.length) (hE:E.length=t.v.length + 1)
include hnx h1 h2 hl hn hp hlt hln hE
end
theorem w5 (o:Int) (t:aa):t.aR≤1000000000→aA Tryz.prog 21 [.agg t.cells,.int .i64 o] (.int .i64 (t.ct o)):=by
 induction t using aa.ind with
 | h t ih=>
  intro hb;have hbe:=t.bu;have hbs:=aa.aZ t.t;have hcb:=t.Ki o;refine af.ah ai Tryz.func21 rfl rfl (n:=28) rfl rfl ?_
  conv=>whnf
  repeat' (first|refine aX ?_|((intro _);conv=>whnf)|(refine zX (fun hc=>?_) (fun hc=>?_)<;>(try simp only[SY] at hc)<;>(conv=>whnf)))
  ·have hst:1 + aa.cg o (t.t.drop 0)=t.ct o:=by rw[List.drop_zero,aa.mC,if_pos hc]
   refine ax.keep [5,6,11,12,13,14,15,16,17,18,19,20,21,22,23,24,25,26] (fun x:Nat×Nat=> [(5,.int .i64 x.2),(6,.int .i64 x.1)]) (fun x=>x.1≤t.t.length∧x.2 + aa.cg o (t.t.drop x.1)=t.ct o) (fun x=>t.t.length - x.1) (0,1) ⟨Nat.zero_le _,hst⟩ wA ?_;rintro ⟨i,m⟩ ⟨hi,hm⟩;dsimp only at hi hm⊢
   conv=>whnf
   repeat' (first|refine aX ?_|((intro _);conv=>whnf)|(refine zX (fun hc=>?_) (fun hc=>?_)<;>(try simp only[SY] at hc)<;>(conv=>whnf)))
   ·have hlt:i < t.t.length:=by omega
    have hy:=ih _ (List.getElem_mem hlt) (by have:=aa.bL (List.getElem_mem hlt);omega);rw[aO hlt,aa.cg] at hm;refine aq.pure hy (aY.refl _) ?_
    conv=>whnf
    repeat' (first|refine aX ?_|(refine zX (fun hc=>?_) (fun hc=>?_)<;>(try simp only[SY] at hc)<;>omega))
    refine av (i + 1,m + t.t[i].ct o) ⟨by show i + 1≤_;omega,by dsimp only;omega⟩ (by show t.t.length - (i + 1) < t.t.length - i;omega) wA
   ·rw[List.drop_of_length_le (by omega),aa.cg] at hm
    exact ak.pure (Wk.int (by omega))
  ·have hst:0 + aa.cg o (t.t.drop 0)=t.ct o:=by rw[List.drop_zero,aa.mC,if_neg hc]
   refine ax.keep [5,6,11,12,13,14,15,16,17,18,19,20,21,22,23,24,25,26] (fun x:Nat×Nat=> [(5,.int .i64 x.2),(6,.int .i64 x.1)]) (fun x=>x.1≤t.t.length∧x.2 + aa.cg o (t.t.drop x.1)=t.ct o) (fun x=>t.t.length - x.1) (0,0) ⟨Nat.zero_le _,hst⟩ wA ?_;rintro ⟨i,m⟩ ⟨hi,hm⟩;dsimp only at hi hm⊢
   conv=>whnf
   repeat' (first|refine aX ?_|((intro _);conv=>whnf)|(refine zX (fun hc=>?_) (fun hc=>?_)<;>(try simp only[SY] at hc)<;>(conv=>whnf)))
   ·have hlt:i < t.t.length:=by omega
    have hy:=ih _ (List.getElem_mem hlt) (by have:=aa.bL (List.getElem_mem hlt);omega);rw[aO hlt,aa.cg] at hm;refine aq.pure hy (aY.refl _) ?_
    conv=>whnf
    repeat' (first|refine aX ?_|(refine zX (fun hc=>?_) (fun hc=>?_)<;>(try simp only[SY] at hc)<;>omega))
    refine av (i + 1,m + t.t[i].ct o) ⟨by show i + 1≤_;omega,by dsimp only;omega⟩ (by show t.t.length - (i + 1) < t.t.length - i;omega) wA
   ·rw[List.drop_of_length_le (by omega),aa.cg] at hm
    exact ak.pure (Wk.int (by omega))
mutual
def aa.n8:aa→Bool
 | .mk op _ _ t=>(op == 12 || (op == 14 || op == 13)) || aa.kr t
def aa.kr:List aa→Bool
 | []=>false
 | x::xs=>aa.n8 x || aa.kr xs
end
theorem aa.uu (t:aa):t.n8=((t.op == 12 || (t.op == 14 || t.op == 13)) || aa.kr t.t):=by cases t;rw[aa.n8];rfl
theorem Hf (t:aa):t.ct 12=0→t.ct 13=0→t.ct 14=0→t.n8=false:=by
 induction t using aa.ind with
 | h t ih=>
  intro h1 h2 h3;rw[aa.mC] at h1 h2 h3
  have key: ∀ l:List aa,(∀ x∈l,x.ct 12=0→x.ct 13=0→x.ct 14=0→x.n8=false)→aa.cg 12 l=0→aa.cg 13 l=0→aa.cg 14 l=0→aa.kr l=false:=by
   intro l
   induction l with
   | nil=>intro _ _ _ _;rw[aa.kr]
   | cons x l ihl=>
    intro h a b c;rw[aa.cg] at a b c;rw[aa.kr,h x (List.mem_cons_self ..) (by omega) (by omega) (by omega),ihl (fun y hy=>h y (List.mem_cons_of_mem _ hy)) (by omega) (by omega) (by omega)];rfl
  rw[aa.uu,key t.t ih (by omega) (by omega) (by omega)];have e1: ¬t.op=12:=fun e=>by rw[if_pos e] at h1;omega
  have e2: ¬t.op=13:=fun e=>by rw[if_pos e] at h2;omega
  have e3: ¬t.op=14:=fun e=>by rw[if_pos e] at h3;omega
  simp[e1,e2,e3]
theorem He (t:aa):t.aR≤1000000000→aA Tryz.prog 20 [.agg t.cells] (.bool t.n8):=by
 induction t using aa.ind with
 | h t ih=>
  intro hb;have hbe:=t.bu;have hbs:=aa.aZ t.t;refine af.ah ai Tryz.func20 rfl rfl (n:=30) rfl rfl ?_
  conv=>whnf
  repeat' (first|refine aX ?_|((intro _);conv=>whnf)|(refine zX (fun hc=>?_) (fun hc=>?_)<;>(try simp only[SY] at hc)<;>(conv=>whnf)))
  ·refine ak.pure (Wk.tt ?_)
   rw[aa.uu];rcases (by assumption:(t.op=12∨t.op=14)∨t.op=13) with (h | h) | h<;>simp[h]
  ·obtain ⟨⟨h1,h2⟩,h3⟩:(¬t.op=12∧ ¬t.op=14)∧ ¬t.op=13:=by assumption
   have he:t.n8=aa.kr t.t:=by rw[aa.uu];simp[h1,h2,h3]
   refine ax.keep [2,3,17,18,19,20,21,22,23,24,25,26,27,28,29] (fun i:Nat=> [(3,.int .i64 i)]) (fun i=>i≤t.t.length∧t.n8=aa.kr (t.t.drop i)) (fun i=>t.t.length - i) 0 ⟨Nat.zero_le _,he⟩ wA ?_;rintro i ⟨hi,hm⟩;rcases Nat.lt_or_ge i t.t.length with hlt | hge
   ·have hy:=ih _ (List.getElem_mem hlt) (by have:=aa.bL (List.getElem_mem hlt);omega)
    rw[aO hlt,aa.kr] at hm
    conv=>whnf
    repeat' (first|refine aX ?_|((first|refine pC (hy) wR ?_|intro _);conv=>whnf)|(refine zX (fun hc=>?_) (fun hc=>?_)<;>(try simp only[SY] at hc)<;>first|omega|(conv=>whnf)))
    ·exact ak.pure (Wk.tt (by rw[hm];simp_all))
    ·exact av (i + 1) ⟨by show i + 1≤_;omega,by rw[hm];simp_all⟩ (by show t.t.length - (i + 1) < t.t.length - i;omega) wA
   ·rw[List.drop_of_length_le (by omega),aa.kr] at hm
    conv=>whnf
    repeat' (first|refine aX ?_|((intro _);conv=>whnf)|(refine zX (fun hc=>?_) (fun hc=>?_)<;>(try simp only[SY] at hc)<;>first|omega|(conv=>whnf)))
    exact ak.pure (Wk.ff hm)
theorem xd {p q:Prop} (k:q) (h:q→p:=by intro hq;first | exact aE.sP (some 22) rfl [] [] ai mixed hq | exact aE.sP (some 49) rfl [] [] ai mixed hq):p:=h k
theorem K1 (whole:aa) (hw:whole.aR≤1000000000) (t:aa):t.Gu→t.aR≤1000000000→aA Tryz.prog 19 [.agg t.cells,.agg whole.cells] (.bool (t.JZ (tc whole))):=by
 induction t using aa.ind with
 | h t ih=>
  intro hs hb;have hbe:=t.bu;have hbs:=aa.aZ t.t;have hs2:=(t.oX).1 hs;have hxs:=aa.jL hs2.2;have he:=t.IP (tc whole);refine af.ah ai Tryz.func19 rfl rfl (n:=57) rfl rfl ?_
  conv=>whnf
  repeat' (first|((intro _);conv=>whnf)|(refine zX (fun hc=>?_) (fun hc=>?_)<;>(try simp only[SY] at hc)<;>omega))
  refine ax.keep [4,5,6,7,9,10,11,12,13,14,15,16,17,18,19,20,21,22,23,24,25,26,27,28,29,30,31,32,33,34,35,36,37,38,39,40,41] (fun i:Nat=> [(5,.int .i64 i)]) (fun i=>i≤t.v.length∧(t.op=7→ ∀ k (h:k < i) (h1:k < t.v.length) (h2:k < t.t.length),t.t[k].op=4∧tc whole t.v[k]=false)) (fun i=>t.v.length - i) 0 ⟨Nat.zero_le _,fun _ k h=>absurd h (Nat.not_lt_zero _)⟩ wA ?_;rintro i ⟨hi,hm⟩;by_cases ho:i < t.v.length∧t.op=7
  ·obtain ⟨hlt,ho⟩:=ho
   have htl:=hs2.1 ho;have hit:i < t.t.length:=by omega
   have hub:=whole.sr (gN t.v[i]) 0;have hcb:=whole.AS;have hsd:tc whole t.v[i]=!(whole.uC (gN t.v[i]) 0 == 0):=rfl
   conv=>whnf
   repeat' (first|refine aX ?_|((first|((apply zZ);(conv=>whnf);(repeat ((refine pC (L9 t.v[i] whole hw) wR ?_);conv=>whnf));exact pZ)|refine xd ?_|intro _);conv=>whnf)|(refine zX (fun hc=>?_) (fun hc=>?_)<;>(try simp only[SY] at hc)<;>first|omega|(conv=>whnf)))
   ·refine ak.pure (Wk.ff ?_)
    have h1: ¬t.t[i].op=4∨0 < whole.uC (gN t.v[i]) 0:=by assumption
    rw[he];rcases h1 with h1 | h1
    ·have:(t.t.take t.v.length).all (fun x=>x.op == 4)=false:=by
      rw[List.all_eq_false];exact ⟨t.t[i],by rw[List.mem_take_iff_getElem];exact ⟨i,by omega,rfl⟩,by simpa using h1⟩
     simp[ho,this]
    ·have:(t.v.all fun u=>!tc whole u)=false:=by
      rw[List.all_eq_false];exact ⟨t.v[i],List.getElem_mem hlt,by rw[hsd];simp;omega⟩
     simp[ho,this]
   ·obtain ⟨a1,a2⟩:t.t[i].op=4∧whole.uC (gN t.v[i]) 0≤0:=by assumption
    refine av (i + 1) ⟨by show i + 1≤_;omega,fun h7 k hk k1 k2=>?_⟩ (by show t.v.length - (i + 1) < t.v.length - i;omega) wA;rcases Nat.lt_or_ge k i with h | h
    ·exact hm h7 k h k1 k2
    ·obtain rfl:k=i:=by omega
     exact ⟨a1,by rw[hsd];simp;omega⟩
  ·have hpl:t.JZ (tc whole)=aa.zy (tc whole) t.t:=by
    rw[he];by_cases h7:t.op=7
    ·have hi2:i=t.v.length:=by omega
     have h1:(t.t.take t.v.length).all (fun x=>x.op == 4)=true:=by
      rw[List.all_eq_true];intro x hx;obtain ⟨k,hk,rfl⟩:=List.mem_take_iff_getElem.1 hx;simpa using (hm h7 k (by omega) (by omega) (by omega)).1
     have h2:(t.v.all fun u=>!tc whole u)=true:=by
      rw[List.all_eq_true];intro u hu;obtain ⟨k,hk,rfl⟩:=List.getElem_of_mem hu;have:=hs2.1 h7;rw[(hm h7 k (by omega) hk (by omega)).2];rfl
     simp[h1,h2]
    ·simp[h7]
   conv=>whnf
   repeat' (first|refine aX ?_|((intro _);conv=>whnf)|(refine zX (fun hc=>?_) (fun hc=>?_)<;>(try simp only[SY] at hc)<;>first|omega|(conv=>whnf)))
   refine ax.keep [4,8,42,43,44,45,46,47,48,49,50,51,52,53,54,55,56] (fun i:Nat=> [(8,.int .i64 i)]) (fun i=>i≤t.t.length∧t.JZ (tc whole)=aa.zy (tc whole) (t.t.drop i)) (fun i=>t.t.length - i) 0 ⟨Nat.zero_le _,hpl⟩ wA ?_;rintro j ⟨hj,hmj⟩;rcases Nat.lt_or_ge j t.t.length with hlt | hge
   ·have hy:=ih _ (List.getElem_mem hlt) (hxs _ (List.getElem_mem hlt)) (by have:=aa.bL (List.getElem_mem hlt);omega)
    rw[aO hlt,aa.zy] at hmj
    conv=>whnf
    repeat' (first|refine aX ?_|((first|((apply zZ);(conv=>whnf);(repeat ((refine pC (hy) wR ?_);conv=>whnf));exact pZ)|refine xd ?_|intro _);conv=>whnf)|(refine zX (fun hc=>?_) (fun hc=>?_)<;>(try simp only[SY] at hc)<;>first|omega|(conv=>whnf)))
    ·exact ak.pure (Wk.ff (by rw[hmj];simp_all))
    ·exact av (j + 1) ⟨by show j + 1≤_;omega,by rw[hmj];simp_all⟩ (by show t.t.length - (j + 1) < t.t.length - j;omega) wA
   ·rw[List.drop_of_length_le (by omega),aa.zy] at hmj
    conv=>whnf
    repeat' (first|refine aX ?_|((intro _);conv=>whnf)|(refine zX (fun hc=>?_) (fun hc=>?_)<;>(try simp only[SY] at hc)<;>first|omega|(conv=>whnf)))
    exact ak.pure (Wk.tt hmj)
theorem wY {p:Prog} (h:(eO p).2=0):eL p 0∧eL (pO p) 1∧eO p=(pO p,0):=by
 have hR: ∀ (q:Prog) (l:Int),hU q l=0→eL q l:=fun q l h=>(pG q l).1 (by rw[←AP];exact h);unfold eO at h ⊢;by_cases h0:hU p 0=0
 ·rw[if_pos h0] at h⊢
  by_cases h1:hU (pO p) 1=0
  ·rw[if_pos h1]
   exact ⟨hR _ _ h0,hR _ _ h1,rfl⟩
  ·rw[if_neg h1] at h
   exact absurd h (by decide)
 ·rw[if_neg h0] at h
  exact absurd h (by decide)
theorem CK (M B:Int) (h0M:0≤M) (hMB:M * B≤600000000) (p:Prog) (hcM:p.body.cnt + 10≤M) (hb:p.body.aR≤B):(eO p).1.body.aR≤1000000000:=by
 by_cases h:(eO p).2=0
 ·obtain ⟨h1,h2,h3⟩:=wY h
  rw[h3];have hrsh:=p.body.zq h1.2.2.1;have hcb:=(uD (fun v=>p.body.Aq.contains v) p.body hrsh (fZ p.body)).2;have hcb2:((p.body.cnt:Int) + 10) * p.body.aR≤M * B:=Int.le_trans (Int.mul_le_mul_of_nonneg_right (by omega) (by omega)) (Int.mul_le_mul_of_nonneg_left hb h0M);show ((p.body.mD (fun v=>p.body.Aq.contains v) (fZ p.body)).1).aR≤_;omega
 ·unfold eO at h⊢
  split
  ·split
   ·rename_i a1 a2
    rw[if_pos a1,if_pos a2] at h;exact absurd rfl h
   ·decide
  ·decide
theorem AW (p:Prog) (hcn:p.body.cnt≤500) (hb:p.body.aR≤1100000):(eO p).1.body.aR≤1000000000:=CK 510 1100000 (by decide) (by decide) p (by omega) (by omega)
theorem Jq {p:Prog} (h:eL p 0):tc p.body=fun v=>p.body.Aq.contains v:=funext fun v=>by
 have h0:=h.fits.2.1;have h1:=p.body.No v 0 (by omega);have h2:=(p.body.sr (gN v) 0).1;unfold tc;rw[Bool.eq_iff_iff,List.contains_iff_mem, ←h1];simp;omega
theorem Ft {p q:Prop} (k:q) (h:q→p:=by intro hq;first | exact aE.sP (some 26) rfl [] [] ai mixed hq):p:=h k
theorem wB (p:Prog) (hbb:Datum.aD p.consts + p.body.aR≤1048576):aA Tryz.prog 7 [.agg p.cells] (.bool true):=by
 have hlen:=Datum.aZ p.consts;have hfw:=Kq p.body 300 (by omega) (by omega);have hfa:=GU p.consts 2000 (by omega) (by omega);by_cases hf:0≤p.body.qv 300
 ·have hcn:=p.body.Kr 300 hf
  have hcnp:=p.body.pM;rw[decide_eq_true hf] at hfw;have hcv:=AX p (by omega) (by omega) (by omega);by_cases hq:(eO p).2=0
  ·obtain ⟨h1,h2,h3⟩:=wY hq
   have hrsh:=p.body.zq h1.2.2.1;have hbk:=AW p (by omega) (by omega);rw[h3] at hcv hbk;have hpl:=K1 p.body (by omega) p.body hrsh (by omega);rw[Jq h1] at hpl;have e4:(pO p).body.ct 4=p.body.ct 4:=CO (by decide) (by decide) (by decide) _ p.body hrsh _;have e0:(pO p).body.ct 0=p.body.ct 0:=CO (by decide) (by decide) (by decide) _ p.body hrsh _;have e11:(pO p).body.ct 11=p.body.ct 11:=CO (by decide) (by decide) (by decide) _ p.body hrsh _;have e7:(pO p).body.ct 7=0:=Kk _ p.body hrsh _
   have ha:p.body.JZ (fun v=>p.body.Aq.contains v)=true→(pO p).body.n8=false:=fun hp=>by
    have hz: ∀ o:Int,o=12∨o=13∨o=14→(pO p).body.ct o=0:=fun o ho=>Kj ho _ p.body hrsh hp (EI ho p.body h1.2.2.1) _;exact Hf _ (hz 12 (by decide)) (hz 13 (by decide)) (hz 14 (by decide))
   have c0:=fun o=>w5 o p.body (by omega);have c1:=fun o=>w5 o (pO p).body hbk;have c4:=c1 4;have c5:=c1 0;have c6:=c1 11;have c7:=c1 7;rw[e4] at c4;rw[e0] at c5;rw[e11] at c6;rw[e7] at c7;have hak:=He (pO p).body hbk;generalize hQ:pO p=Q at *;generalize hP:p.body.JZ (fun v=>p.body.Aq.contains v)=P at *;generalize hA:Q.body.n8=A at *;refine af.ah ai Tryz.func7 rfl rfl (n:=74) rfl rfl ?_
   conv=>whnf
   repeat' (first|refine aX ?_|((first|(((apply zY;intro hg));(conv=>whnf);(repeat ((first|refine pC (hfa) wR ?_|refine pC (hpl) wR ?_|refine pC (hak) wR ?_|refine pC (c0 4) wR ?_|refine pC (c0 0) wR ?_|refine pC (c0 11) wR ?_|refine pC (c4) wR ?_|refine pC (c5) wR ?_|refine pC (c6) wR ?_|refine pC (c7) wR ?_|refine aH ?_);conv=>whnf));exact pZ)|refine pC (qC) wR ?_|refine pC (hfw) wR ?_|refine pC (hcv) wR ?_|refine Ft ?_|intro _);conv=>whnf)|(refine zX (fun hc=>?_) (fun hc=>?_)<;>(try simp only[SY] at hc)<;>(conv=>whnf)))
   ·exact ak.pure (Wk.refl _)
   ·refine ak.pure (Wk.bool ?_)
    cases P with
    | false=>simp
    | true=>rw[ha rfl];simp
  ·have hz:0=0:=rfl
   refine af.ah ai Tryz.func7 rfl rfl (n:=74) rfl rfl ?_
   conv=>whnf
   repeat' (first|refine aX ?_|((first|(((apply zY;intro hg));(conv=>whnf);(repeat ((first|refine pC (hfa) wR ?_|refine aH ?_);conv=>whnf));exact pZ)|refine pC (qC) wR ?_|refine pC (hfw) wR ?_|refine pC (hcv) wR ?_|intro _);conv=>whnf)|(refine zX (fun hc=>?_) (fun hc=>?_)<;>(try simp only[SY] at hc)<;>first|omega|(conv=>whnf)))
   all_goals first | exact ak.pure (Wk.refl _) | exact absurd (by assumption) hq
 ·rw[decide_eq_false hf] at hfw
  refine af.ah ai Tryz.func7 rfl rfl (n:=74) rfl rfl ?_
  conv=>whnf
  repeat' (first|refine aX ?_|((first|(((apply zY;intro hg));(conv=>whnf);(repeat ((first|refine pC (hfa) wR ?_|refine aH ?_);conv=>whnf));exact pZ)|refine pC (qC) wR ?_|refine pC (hfw) wR ?_|intro _);conv=>whnf)|(refine zX (fun hc=>?_) (fun hc=>?_)<;>(try simp only[SY] at hc)<;>(conv=>whnf)))
  all_goals exact ak.pure (Wk.refl _)
open Go.RowKit (Below)
open Go.ChangeShapes
def Fz.of (w:World):Fz:=fun b o=>w.cell? ⟨b,o,none⟩
theorem aP.start (w:World):aP w (Fz.of w) [] w:=⟨Below.refl _ w,fun _ _ _ h=>h,by simp,.nil⟩
theorem rN {α:Type} {p:Nat→α→Prop}: ∀ {n:Nat},(∀ i,i < n→ ∃ a,p i a)→ ∃ l:List α,l.length=n∧ ∀ i a,l[i]?=some a→p i a
 | 0,_=>⟨[],rfl,by simp⟩
 | n + 1,h=>by
  obtain ⟨l,h1,h2⟩:=rN (n:=n) fun i hi=>h i (by omega);obtain ⟨a,ha⟩:=h n (by omega);refine ⟨l++ [a],by simp[h1],fun i b hb=>?_⟩;by_cases hi:i < l.length
  ·rw[List.getElem?_append_left hi] at hb;exact h2 i b hb
  ·rw[List.getElem?_append_right (by omega)] at hb
   have h0:i - l.length=0:=by
    rcases Nat.eq_zero_or_pos (i - l.length) with h | h
    ·exact h
    ·rw[List.getElem?_eq_none (by simp;omega)] at hb;cases hb
   rw[h0] at hb;simp at hb;obtain rfl:i=n:=by omega
   rwa [←hb]
section
variable {H:Type} {enc:TypeId×Value→H} {P:Program} {w:World} {UB:DataW H→Nat} {UBs:List (DataW H)→Nat}
structure As (UB:DataW H→Nat) (UBs:List (DataW H)→Nat):Prop where
 nil:UBs []=0
 cons: ∀ x l,UBs (x::l)=UB x + UBs l
 agg: ∀ l,1 + UBs l≤UB (.agg l)
 slice: ∀ l m,1 + UBs l≤UB (.slice l m)
 str: ∀ s,s.length + 1≤UB (.lit (.string s))
 pos: ∀ d,1≤UB d
def Rd {α:Type} (enc:TypeId×Value→H) (P:Program) (w:World) (UB:DataW H→Nat) (n:Nat) (t:TypeId) (cells:α→List PV) (bk:α→Nat):Prop:=
 ∀ cs x,DataW.trod enc P w 0 (fun _=>true) true n t cs=some x→ ∃ a:α,aQ (Fz.of w) (cells a) cs∧bk a≤UB x.1
theorem ru (hB:As UB UBs) {t:TypeId} {k:IntKind} (ht:P.underlying t=some (.int k)) (n:Nat):Rd enc P w UB n t (fun n:Int=> [.int k n]) fun _=>1:=by
 intro cs x h;obtain ⟨m,rfl,rfl,_⟩:=DataW.trod_int ht h;exact ⟨m,by simp only[aQ,aB,and_true];exact rfl,hB.pos _⟩
theorem MY (hB:As UB UBs) {t:TypeId} (ht:P.underlying t=some .string) (n:Nat):Rd enc P w UB n t (fun s:List UInt8=> [.str s]) fun s=>s.length:=by
 intro cs x h;obtain ⟨s,rfl,rfl,hs⟩:=DataW.trod_string ht h;refine ⟨s.data.toList,?_,by have:=hB.str s.data.toList;show s.data.toList.length≤UB (.lit (.string s.data.toList));omega⟩
 have:s.data.toList.length≤9223372036854775807:=by
  have h1:s.data.toList.length=s.size:=Array.length_toList;have h2:maxLen≤9223372036854775807:=by simp only[maxLen];omega
  omega
 exact bV.2 ⟨⟨rfl,by unfold aB;exact ⟨rfl,this⟩⟩,cy _⟩
theorem ES {α:Type} {pv:α→PV} {cells:α→List PV} [c:cn pv cells] {s b o:Nat} (hs: ∀ a,(cells a).length=s): ∀ (l:List α) (i:Nat),
  (∀ j a,l[j]?=some a→ ∃ cs,w.cells? 0 ((⟨b,o,none⟩:Addr).add ((i + j) * s)) s=some cs∧aQ (Fz.of w) (cells a) cs)→aT (Fz.of w) s b (o + i * s) (l.map pv)
 | [],_,_=>by simp[aT]
 | a::l,i,h=>by
  rw[List.map_cons,rJ];obtain ⟨cs,h1,h2⟩:=h 0 a rfl;obtain ⟨_,h3,h4⟩:=World.cells?_some h1;refine ⟨⟨by rw[c.eq];exact hs a,?_⟩,?_⟩
  ·rw[c.eq,bg]
   refine ⟨cs,h2,fun j u hu=>?_⟩
   have hj:j < cs.length:=by
    rcases Nat.lt_or_ge j cs.length with h | h
    ·exact h
    ·rw[List.getElem?_eq_none h] at hu;cases hu
   have:=h4 j (by omega);rw[hu,Addr.add_lit,Addr.add_lit] at this;simpa[Fz.of] using this
  ·have:=ES (pv:=pv) hs l (i + 1) fun j a ha=>by
    have:=h (j + 1) a (by simpa using ha);rwa [show i + (j + 1)=i + 1 + j by omega] at this
   rwa [show o + (i + 1) * s=o + i * s + s by rw[Nat.succ_mul];omega] at this
def jO {α:Type} (bk:α→Nat):List α→Nat
 | []=>0
 | a::l=>bk a + jO bk l
theorem Ca (hB:As UB UBs) {α:Type} {bk:α→Nat}: ∀ (l:List α) (ds:List (DataW H)),l.length≤ds.length→(∀ (i:Nat) (a:α) (d:DataW H),l[i]?=some a→ds[i]?=some d→bk a≤UB d)→jO bk l≤UBs ds
 | [],_,_,_=>by simp[jO]
 | a::l, [],h,_=>by simp at h
 | a::l,d::ds,h,k=>by
  rw[jO,hB.cons];have h1:=k 0 a d rfl rfl;have h2:=Ca hB l ds (by simpa using h) fun i a d ha hd=>k (i + 1) a d (by simpa using ha) (by simpa using hd);omega
theorem qk (hB:As UB UBs) {n:Nat} {t e:TypeId} (ht:P.underlying t=some (.slice e)) {s:Nat} (hs:P.cellsOf e=s) (hp:0 < s) {α:Type} {pv:α→PV} {cells:α→List PV} [c:cn pv cells] {bk:α→Nat}
  (hc: ∀ a,(cells a).length=s) (he: ∀ m,m < n→Rd enc P w UB m e cells bk):Rd enc P w UB n t (fun l:List α=> [.sl s (l.map pv) none]) fun l=>1 + jO bk l:=by
 intro cs x h
 rcases DataW.trod_slice ht h with ⟨rfl,rfl⟩ | ⟨a,len,cap,elems,rest,m,rfl,rfl,rfl,_,hlc,hcm,hel,hx,hr,_⟩
 ·refine ⟨[],?_,by have:=hB.pos (DataW.nil:DataW H);simpa[jO] using this⟩
  exact bV.2 ⟨⟨rfl,by unfold aB;exact ⟨by simp,.inl ⟨rfl,rfl⟩⟩⟩,cy _⟩
 ·have hx': ∀ i,i < len→ ∃ a':α, ∃ cs d,elems[i]?=some d∧w.cells? 0 (a.add (i * s)) s=some cs∧aQ (Fz.of w) (cells a') cs∧bk a'≤UB d.1:=by
   intro i hi;have h1:=hx i hi;have h2:elems[i]?=some elems[i]:=List.getElem?_eq_getElem (by omega);rw[h2,hs] at h1;obtain ⟨cs,h3,h4⟩:=Option.bind_eq_some_iff.1 h1;obtain ⟨a',h5,h6⟩:=he m (by omega) cs _ h4;exact ⟨a',cs,_,h2,h3,h5,h6⟩
  obtain ⟨l,hl,hl2⟩:=rN hx'
  have hcount:1 + jO bk l≤UB (.slice (elems.map (·.1)) (rest.map (·.1))):=by
   have:=Ca hB (bk:=bk) l (elems.map (·.1)) (by simp;omega) (by
    intro i a' d ha hd;obtain ⟨_,d',h2,_,_,h5⟩:=hl2 i a' ha;rw[List.getElem?_map,h2] at hd;simp at hd
    rw[←hd];exact h5)
   have:=hB.slice (elems.map (·.1)) (rest.map (·.1));omega
  refine ⟨l,?_,hcount⟩;refine bV.2 ⟨⟨rfl,?_⟩,cy _⟩;unfold aB;refine ⟨fun t ht=>(by cases ht),?_⟩;by_cases h0:cap=0
  ·subst h0
   obtain rfl:len=0:=by omega
   have:l= []:=List.eq_nil_of_length_eq_zero hl;subst this;exact .inr (.inr ⟨rfl,a,rfl⟩)
  ·
   have hsp:a.spot=none:=by
    have h1: ∃ cs,w.cells? 0 a s=some cs:=by
     by_cases h2:0 < len
     ·obtain ⟨_,cs,_,_,h3,_⟩:=hx' 0 h2
      exact ⟨cs,by simpa[Addr.add] using h3⟩
     ·obtain ⟨h3,h4⟩:=hr rfl
      have h5:=h4 0 (by omega);have h6:rest[0]?=some (rest[0]'(by omega)):=List.getElem?_eq_getElem (by omega);rw[h6,hs] at h5;obtain ⟨cs,h7,_⟩:=Option.bind_eq_some_iff.1 h5;have:len=0:=by omega
      subst this;exact ⟨cs,by simpa[Addr.add] using h7⟩
    obtain ⟨cs,h1⟩:=h1;obtain ⟨_,h3,h4⟩:=World.cells?_some h1;have h5:=h4 0 hp;have h6:cs[0]?=some (cs[0]'(by omega)):=List.getElem?_eq_getElem (by omega);rw[h6] at h5;simp only[Addr.add,if_true,World.cell?] at h5
    split at h5
    ·split at h5
     ·cases h5
     ·rename_i hn;simpa using hn
    ·cases h5
   obtain ⟨b,o,sp⟩:=a;simp only at hsp;subst hsp;refine .inr (.inl ⟨b,o,cap,by simp[hl],by simp;omega,hcm,by simp,?_⟩)
   have:=ES (pv:=pv) (w:=w) (b:=b) (o:=o) hc l 0 fun j a' ha=>by
    obtain ⟨cs,_,_,h3,h4,_⟩:=hl2 j a' ha;exact ⟨cs,by simpa using h3,h4⟩
   simpa using this
end
section
variable {H:Type} {enc:TypeId×Value→H} {P:Program} {w:World} {UB:DataW H→Nat} {UBs:List (DataW H)→Nat}
theorem eU {F:Fz} {ps bs:List PV} {cs:List Value} {o s:Nat} (h1:aQ F ps ((cs.drop o).take s)) (h2:aQ F bs (cs.drop (o + s))):aQ F (ps++bs) (cs.drop o):=by
 have:=bF h1 h2;rwa [←List.drop_drop,List.take_append_drop] at this
theorem eT {α:Type} {n o s:Nat} {t:TypeId} {cells:α→List PV} {bk:α→Nat} (hR:Rd enc P w UB n t cells bk) {fs:Array Field} {cs:List Value} {xs:List (DataW H×List MemPlace)} (hlen:xs.length=fs.size)
  (hf: ∀ (i:Nat) (f:Field),fs[i]?=some f→DataW.trod enc P w 0 (fun _=>true) true n f.type ((cs.drop f.offset).take (P.cellsOf f.type))=xs[i]?) (i:Nat) (h:(fs.toList.map fun f=>(f.type,f.offset))[i]?=some (t,o)) (hs:P.cellsOf t=s):
  ∃ a y,xs[i]?=some y∧aQ (Fz.of w) (cells a) ((cs.drop o).take s)∧bk a≤UB y.1:=by
 rw[List.getElem?_map] at h;obtain ⟨f,hfi,hft⟩:=Option.map_eq_some_iff.1 h;rw[Array.getElem?_toList] at hfi;simp only[Prod.mk.injEq] at hft;obtain ⟨rfl,rfl⟩:=hft;have h1:=hf i f hfi;have hi:i < xs.length:=by rw[hlen];exact (Array.getElem?_eq_some_iff.1 hfi).1
 have h2:xs[i]?=some xs[i]:=List.getElem?_eq_getElem hi;rw[h2] at h1;obtain ⟨a,h3,h4⟩:=hR _ _ h1;exact ⟨a,_,h2,by rw[←hs];exact h3,h4⟩
theorem Cu {α:Type} {t:TypeId} {cells:α→List PV} {bk:α→Nat} {fs:Array Field} (hs:P.underlying t=some (.struct fs)) (hR: ∀ n,Rd enc P w UB n t cells bk) {r:Reach} {b0:Nat} {v:Value} {d:DataW H} {p:List MemPlace}
  (hv:Value.okWide P w r b0 t v) (h:DataW.Trod enc P w 0 (fun _=>true) true t v d p): ∃ a,aB (Fz.of w) (.agg (cells a)) v∧bk a≤UB d:=by
 obtain ⟨cs,rfl,_⟩:=Go.WideShapes.okWide_struct hs hv;obtain ⟨fuel,hf⟩:=h;obtain ⟨a,h1,h2⟩:=hR fuel _ _ hf;refine ⟨a,?_,h2⟩;simp only[aB];exact ⟨cs.toList,by simp,by simpa[Value.cells] using h1⟩
theorem oo (hl:laidOutB P=true) {W W':World} (hb:Below W.heap.size W W'): ∀ {ts:List TypeId} {vs:List Value} {ds:List (DataW H)} {ps:List MemPlace},(∀ t∈ts,P.readableRec t=true∧t < P.types.size)→
  DataW.TrodAll enc P W 0 (fun _=>true) true ts vs ds ps→(∀ x∈ps,x.block < W.heap.size)→DataW.TrodAll enc P W' 0 (fun b=>decide (b < W.heap.size)) true ts vs ds ps
 | [],_,_,_,_,h,_=>by
  obtain ⟨rfl,rfl,rfl⟩:=trodAll_nil h;exact trodAll_mk0
 | t::ts,_,_,_,hr,h,hlt=>by
  obtain ⟨v,vs,d,ds,p,q,rfl,rfl,rfl,h1,h2⟩:=trodAll_cons h;exact trodAll_cons_mk (Go.RowKit.Below.trod hl (hr t (by simp)).1 (hr t (by simp)).2 h1 hb fun x hx=>hlt x (by simp[hx])) (oo hl hb (fun t ht=>hr t (by simp[ht])) h2 fun x hx=>hlt x (by simp[hx]))
theorem sq {spare:Nat→Bool} {base:Nat} {held:Bool}: ∀ {ts:List TypeId} {vs:List Value} {ds:List (DataW H)} {ps:List MemPlace},DataW.TrodAll enc P w base spare held ts vs ds ps→ds.length=ts.length
 | [],_,_,_,h=>by obtain ⟨rfl,rfl,rfl⟩:=trodAll_nil h;rfl
 | t::ts,_,_,_,h=>by
  obtain ⟨v,vs,d,ds,p,q,rfl,rfl,rfl,h1,h2⟩:=trodAll_cons h;simp[sq h2]
theorem Ik {f:Func} {s:ChangeSpec} {tb:TypeId} {W W':World} {args:Array Value} {ds gs:List (DataW H)} {before:List MemPlace} (hl:laidOutB P=true) (hr: ∀ t∈f.params.toList,P.readableRec t=true∧t < P.types.size)
  (hres:f.resultTypes= #[tb]) (hb:P.underlying tb=some .bool) (hv:s.vars= []) (hfn: ∀ ds:List (DataW H),ds.length=f.params.size→s.fn H ds={ results:= [.lit (.bool true)],args:=ds })
  (hW:DataW.Whole enc P f.params.toList s.vars false W args.toList ds gs before) (hbel:Below W.heap.size W W'):s.post enc P f false true false false W args (.bool true) W':=by
 have hW':=hW;obtain ⟨p,q,hA,hV,rfl,_,_⟩:=hW;have hV0:DataW.TrodVars enc P W (fun _=>true) [] gs q:=by rw[←hv];exact hV
 obtain ⟨rfl,rfl⟩:=trodVars_none hV0;have hfn':=hfn (ds++ []) (by rw[List.append_nil,sq hA];simp);refine ⟨ds, [],p++ [], [],p, [],hW',?_,?_,?_,hbel.frame _,fun h=>by cases h⟩
 ·rw[hfn',hres]
  exact trodAll_mk1 (Go.RowKit.shut_bool hb _)
 ·rw[hfn',List.append_nil]
  exact oo hl hbel hr hA fun x hx=>hW'.lt x (by simp[hx])
 ·rw[hfn',hv];rfl
end
theorem nc: ∀ l:List Datum,jO Datum.aR l=Datum.aD l
 | []=>rfl
 | x::l=>by rw[jO,Datum.aD,nc l]
theorem x4: ∀ l:List aa,jO aa.aR l=aa.aD l
 | []=>rfl
 | x::l=>by rw[jO,aa.aD,x4 l]
theorem xZ {α:Type}: ∀ l:List α,jO (fun _=>1) l=l.length
 | []=>rfl
 | x::l=>by rw[jO,xZ l,List.length_cons];omega
section
variable {H:Type} {enc:TypeId×Value→H} {P:Program} {w:World} {UB:DataW H→Nat} {UBs:List (DataW H)→Nat}
theorem vH {F:Fz} {cs:List Value} {n:Nat} (h:cs.length=n):aQ F [] (cs.drop n):=by
 rw[List.drop_of_length_le (by omega)];exact cy F
theorem IW (hB:As UB UBs) {tI tS tL tD:TypeId} (hI:P.underlying tI=some (.int .i64)) (hS:P.underlying tS=some .string) (hL:P.underlying tL=some (.slice tD)) {fs:Array Field} (hD:P.underlying tD=some (.struct fs))
  (hfs:(fs.toList.map fun f=>(f.type,f.offset))= [(tI,0),(tI,1),(tI,2),(tS,3),(tL,4)]) (cI:P.cellsOf tI=1) (cS:P.cellsOf tS=1) (cL:P.cellsOf tL=1) (cD:P.cellsOf tD=5): ∀ n,Rd enc P w UB n tD Datum.cells Datum.aR:=by
 intro n
 induction n using Nat.strongRecOn with
 | ind n ih=>
  intro cs x h;obtain ⟨xs,m,rfl,rfl,hl,hlen,hf⟩:=DataW.trod_struct hD h;obtain ⟨a0,y0,e0,r0,_⟩:=eT (ru (w:=w) (enc:=enc) hB hI m) hlen hf 0 (by rw[hfs];rfl) cI;obtain ⟨a1,y1,e1,r1,_⟩:=eT (ru (w:=w) (enc:=enc) hB hI m) hlen hf 1 (by rw[hfs];rfl) cI;obtain ⟨a2,y2,e2,r2,_⟩:=eT (ru (w:=w) (enc:=enc) hB hI m) hlen hf 2 (by rw[hfs];rfl) cI;obtain ⟨a3,y3,e3,r3,b3⟩:=eT (MY (w:=w) (enc:=enc) hB hS m) hlen hf 3 (by rw[hfs];rfl) cS;obtain ⟨a4,y4,e4,r4,b4⟩:=eT (qk (pv:=Datum.pv) hB hL cD (by omega) (fun a=>rfl) (fun k hk=>ih k (by omega))) hlen hf 4 (by rw[hfs];rfl) cL;refine ⟨.mk a0 a1 a2 a3 a4,?_,?_⟩
  ·exact eU r0 (eU r1 (eU r2 (eU r3 (eU r4 (vH (hl.trans cD))))))
  ·have h5:xs.length=5:=by
    have:=congrArg List.length hfs;simp at this;omega
   match xs,h5 with
   | [z0,z1,z2,z3,z4],_=>
    simp at e3 e4;subst e3 e4;have:=hB.agg ([z0,z1,z2,z3,z4].map (·.1));simp only[List.map_cons,List.map_nil,hB.cons,hB.nil] at this;rw[nc] at b4;rw[Datum.bu];show 1 + a3.length + Datum.aD a4≤_;simp only[List.map_cons,List.map_nil];omega
theorem K5 (hB:As UB UBs) {tI tV:TypeId} (hI:P.underlying tI=some (.int .i64)) (hV:P.underlying tV=some (.slice tI)) (cI:P.cellsOf tI=1) (n:Nat):Rd enc P w UB n tV (fun l:List Int=> [.sl 1 (l.map (PV.int .i64)) none]) fun l=>1 + l.length:=by
 intro cs x h;obtain ⟨a,h1,h2⟩:=qk (pv:=PV.int .i64) hB hV cI (by omega) (fun a=>rfl) (fun k hk=>ru (w:=w) (enc:=enc) hB hI k) cs x h;exact ⟨a,h1,by have:=xZ a;show 1 + a.length≤_;have h3:1 + jO (fun _=>1) a≤UB x.1:=h2;omega⟩
theorem MZ (hB:As UB UBs) {tI tV tL tT:TypeId} (hI:P.underlying tI=some (.int .i64)) (hV:P.underlying tV=some (.slice tI)) (hL:P.underlying tL=some (.slice tT)) {fs:Array Field} (hT:P.underlying tT=some (.struct fs))
  (hfs:(fs.toList.map fun f=>(f.type,f.offset))= [(tI,0),(tI,1),(tV,2),(tL,3)]) (cI:P.cellsOf tI=1) (cV:P.cellsOf tV=1) (cL:P.cellsOf tL=1) (cT:P.cellsOf tT=4): ∀ n,Rd enc P w UB n tT aa.cells aa.aR:=by
 intro n
 induction n using Nat.strongRecOn with
 | ind n ih=>
  intro cs x h;obtain ⟨xs,m,rfl,rfl,hl,hlen,hf⟩:=DataW.trod_struct hT h;obtain ⟨a0,y0,e0,r0,_⟩:=eT (ru (w:=w) (enc:=enc) hB hI m) hlen hf 0 (by rw[hfs];rfl) cI;obtain ⟨a1,y1,e1,r1,_⟩:=eT (ru (w:=w) (enc:=enc) hB hI m) hlen hf 1 (by rw[hfs];rfl) cI;obtain ⟨a2,y2,e2,r2,b2⟩:=eT (K5 (w:=w) (enc:=enc) hB hI hV cI m) hlen hf 2 (by rw[hfs];rfl) cV;obtain ⟨a3,y3,e3,r3,b3⟩:=eT (qk (pv:=aa.pv) hB hL cT (by omega) (fun a=>rfl) (fun k hk=>ih k (by omega))) hlen hf 3 (by rw[hfs];rfl) cL;refine ⟨.mk a0 a1 a2 a3,?_,?_⟩
  ·exact eU r0 (eU r1 (eU r2 (eU r3 (vH (hl.trans cT)))))
  ·have h5:xs.length=4:=by
    have:=congrArg List.length hfs;simp at this;omega
   match xs,h5 with
   | [z0,z1,z2,z3],_=>
    simp at e2 e3;subst e2 e3;have:=hB.agg ([z0,z1,z2,z3].map (·.1));simp only[List.map_cons,List.map_nil,hB.cons,hB.nil] at this;rw[x4] at b3;rw[aa.bu];show 1 + a2.length + aa.aD a3≤_;simp only[List.map_cons,List.map_nil];omega
end
open Go.Proofs.YtamlcgkjinbnlaaGreatDoor
theorem Lx {H:Type} (d:DataW H):1≤Rows.uptoBulk d:=by
 cases d with
 | lit l=>cases l<;>simp[Rows.uptoBulk]
 | nil=>simp[Rows.uptoBulk]
 | ptr d=>simp[Rows.uptoBulk]
 | slice elems spare=>simp[Rows.uptoBulk]
 | agg parts=>simp[Rows.uptoBulk]
 | iface t d=>simp[Rows.uptoBulk]
 | map entries=>simp[Rows.uptoBulk]
 | held h=>simp[Rows.uptoBulk]
theorem wT {H:Type}:As (H:=H) Rows.uptoBulk Rows.uptoBulkAll where
 nil:=by simp[Rows.uptoBulkAll]
 cons x l:=by simp[Rows.uptoBulkAll]
 agg l:=by simp[Rows.uptoBulk];omega
 slice l m:=by simp[Rows.uptoBulk];omega
 str s:=by simp[Rows.uptoBulk]
 pos d:=Lx d
section
variable {H:Type} {enc:TypeId×Value→H} {w:World}
theorem N2:Tryz.prog.cellsOf 3=1:=by kernel_rfl
theorem OU:Tryz.prog.cellsOf 9=1:=by kernel_rfl
theorem N3:Tryz.prog.cellsOf 23=1:=by kernel_rfl
theorem Pv:Tryz.prog.cellsOf 22=1:=by kernel_rfl
theorem P9:Tryz.prog.cellsOf 24=1:=by kernel_rfl
theorem cD:Tryz.prog.cellsOf 55=5:=by kernel_rfl
theorem cT:Tryz.prog.cellsOf 26=4:=by kernel_rfl
theorem cP:Tryz.prog.cellsOf 28=5:=by kernel_rfl
theorem Ql (n:Nat):Rd enc Tryz.prog w Rows.uptoBulk n 55 Datum.cells Datum.aR:=
 IW wT Tryz.underlying3 Tryz.underlying9 Tryz.underlying22 Tryz.underlying55 rfl N2 OU Pv cD n
theorem Qm (n:Nat):Rd enc Tryz.prog w Rows.uptoBulk n 26 aa.cells aa.aR:=
 MZ wT Tryz.underlying3 Tryz.underlying23 Tryz.underlying24 Tryz.underlying26 rfl N2 N3 P9 cT n
theorem Pg (n:Nat):Rd enc Tryz.prog w Rows.uptoBulk n 22 (fun l:List Datum=> [.sl 5 (l.map Datum.pv) none]) fun l=>1 + Datum.aD l:=by
 intro cs x h;obtain ⟨a,h1,h2⟩:=qk (pv:=Datum.pv) wT Tryz.underlying22 cD (by omega) (fun a=>rfl) (fun k hk=>Ql (w:=w) (enc:=enc) k) cs x h;have h3:1 + jO Datum.aR a≤Rows.uptoBulk x.1:=h2;rw[nc] at h3;exact ⟨a,h1,h3⟩
def Prog.aR (p:Prog):Nat:=Datum.aD p.consts + p.body.aR
theorem Pj (n:Nat):Rd enc Tryz.prog w Rows.uptoBulk n 28 Prog.cells Prog.aR:=by
 intro cs x h;obtain ⟨xs,m,rfl,rfl,hl,hlen,hf⟩:=DataW.trod_struct Tryz.underlying28 h;obtain ⟨a0,y0,e0,r0,b0⟩:=eT (Pg (w:=w) (enc:=enc) m) hlen hf 0 rfl Pv;obtain ⟨a1,y1,e1,r1,b1⟩:=eT (Qm (w:=w) (enc:=enc) m) hlen hf 1 rfl cT;refine ⟨⟨a0,a1⟩,?_,?_⟩
 ·have:=eU r0 (eU r1 (vH (hl.trans cP)))
  rwa [List.append_nil] at this
 ·match xs,hlen with
  | [z0,z1],_=>
   simp at e0 e1;subst e0 e1;have:=(wT (H:=H)).agg ([z0,z1].map (·.1));simp only[List.map_cons,List.map_nil,(wT (H:=H)).cons,(wT (H:=H)).nil] at this;show Datum.aD a0 + a1.aR≤_;simp only[List.map_cons,List.map_nil];omega
theorem Qk:Tryz.prog.readableRec 28=true∧28 < Tryz.prog.types.size:=⟨by kernel_rfl,of_decide_eq_true (by kernel_rfl)⟩
theorem wg:Tryz.prog.readableRec 26=true∧26 < Tryz.prog.types.size:=⟨by kernel_rfl,of_decide_eq_true (by kernel_rfl)⟩
theorem CA {f:FuncId} {args:List PV} {vs:List Value} {W:World} (h:aA Tryz.prog f args (.bool true)) (hr:ay (Fz.of W) args vs):Calls Tryz.prog f vs.toArray W fun e W'=>e=.returned (.bool true)∧Below W.heap.size W W':=by
 refine (h.2 W (Fz.of W) [] W vs (aP.start W) hr).mono ?_;rintro e W' ⟨v,F',y,Γ',rfl,_,hS,hR,rfl⟩;exact ⟨by rw[show v=.bool true by simpa only[aB] using hR],hS.below⟩
end
mutual
def CB:DataW Unit→List Value
 | .lit (.int k n)=> [.int k n]
 | .lit (.bool b)=> [.bool b]
 | .lit (.string s)=> [.string ⟨s.toArray⟩]
 | .agg l=>D4 l
 | _=> []
def D4:List (DataW Unit)→List Value
 | []=> []
 | d::l=>CB d++D4 l
end
def qY (e:TypeId):List (String×DataW Unit)→List Obj
 | []=> []
 | (_,.iface _ (.ptr d))::l=>.cells (CB d).toArray e::qY e l
 | _::l=>qY e l
def LX (h:Array Obj) (g:Option Nat) (cs:Array Value):Array Obj:=match g with
 | some g=>h.modify g fun
  | .cells _ t frozen=>.cells cs t frozen
  | o=>o
 | none=>h
def C7 (P:Program) (p:TypeId):List (String×DataW Unit)→Nat→Array Obj→Array Obj
 | [],_,h=>h
 | (n,.iface _ _)::l,k,h=>C7 P p l (k + 1) (LX h (P.globalNamed n) #[.iface p (.pointer (some ⟨k,0,none⟩))])
 | (n,d)::l,k,h=>C7 P p l k (LX h (P.globalNamed n) (CB d).toArray)
noncomputable def laidWorld (os:Os):World:=
 let w0:=World.holding Tryz.prog os ⟨(qY 348 Rows.letrecConvertsRow.laid).toArray, #[], []⟩
 { w0 with heap:=C7 Tryz.prog 346 Rows.letrecConvertsRow.laid (World.settled Tryz.prog os).heap.size w0.heap }
theorem Ij (os:Os) (args:Array Value):laidMet Tryz.prog Rows.letrecConvertsRow.laid ((laidWorld os).forCall (fun _ _=>0) ⟨#[],args, []⟩).memory:=
 (LaidIn.of_run (l:=Rows.letrecConvertsRow.laid) (List.range 1000) 16 (by kernel_rfl) (by kernel_rfl) (by kernel_rfl) (by kernel_rfl)).met
theorem II:ownKnob Tryz.prog.godebug=none:=by kernel_rfl
theorem laidOut:laidOutB Tryz.prog=true:=by kernel_rfl
end Go.Cb


