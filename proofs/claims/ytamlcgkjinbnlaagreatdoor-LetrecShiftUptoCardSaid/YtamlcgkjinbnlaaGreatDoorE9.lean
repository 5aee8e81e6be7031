/-
 Contracts: what the document says is free.
 Contracts: the document's recursive bindings: what is known of a Rec's terms.
 Contracts: the document's recursive bindings: levels and groups.
 Contracts: the document's recursive bindings: groups.
 Contracts: the document's recursive bindings: the links of a chain.
 Contracts: the document's recursive bindings: the links of a Rec.
 Contracts: the document's recursive bindings: the links of a Rec whose parts are not in order.
 Contracts: the document's recursive bindings: late variables are asked.
 Contracts: the document's recursive bindings: a Rec.
 Contracts: the document's recursive bindings: terms, a program, converted.
 The laws of letrec: what any program, any text comes to.
 Contracts: letrec's laws' own functions.
 The law of letrec: where all are procedures nothing is asked.
 Contracts: all variables greater by the same, of any term.
 Contracts and plain: what shifts leave; two programs, one behind the other.
 The law of letrec: what variables are called says nothing.
 From the readings of arguments to values, and from a contract to what a statement asks.
 The program's data, read at the seat's types; the bulk.
 A world that holds the listed tables: the statements' witness.
-/
import Derived.Carry
import Derived.ChangeArms
import Derived.ChangeSame
import Derived.Deep.DeepHandedRow
import Derived.Deep.DeepWitnessRowRef
import Derived.KernelRfl
import Derived.Lib.LaidIn
import Derived.OpenShut
import Derived.OpenVars
import Derived.RowKit
import Derived.Test.YtamlcgkjinbnlaaGreatDoorRows
import Derived.WideShapes
import Derived.Test.YtamlcgkjinbnlaaGreatDoorE8
set_option linter.unusedSimpArgs false
set_option linter.unusedVariables false
namespace Go.Cb
open Go.Proofs
set_option maxRecDepth 100000
set_option maxHeartbeats 4000000
section
variable {P:Program}
end
section
variable (bc:Nat) (t:aa) (n:Nat) (pr:List Bool) (ln:List (List Int)) (lt:List Bool) (E:List aa) (gF:List (List Int)) (gS:List Int) (tk:Tok) (l:List aa) (h1:tk.e=26) (h2:tk.s=4)
include h1 h2
end
section
variable (bc:Nat) (t:aa) (pr:List Bool) (ln:List (List Int)) (lt:List Bool) (E:List aa) (tk:Tok) (l:List aa) (h1:tk.e=26) (h2:tk.s=4) (hl:l.length≤10000) (hn:t.v.length≤500) (hp:pr.length=t.v.length) (hlt:lt.length=t.v.length) (hln:ln.length=t.v.length) (hE:E.length=t.v.length + 1)
include h1 h2 hl hn hp hlt hln hE
end
section
variable (b:Nat) (body:aa) (nx:Int) (bc:Nat) (t:aa) (pr:List Bool) (ln:List (List Int)) (lt:List Bool) (E:List aa) (tk:Tok) (l:List aa) (hnx:0≤nx∧nx≤1000000000) (h1:tk.e=26) (h2:tk.s=4) (hl:l.length≤10000) (hn:t.v.length≤500) (hp:pr.length=t.v.length) (hlt:lt.length=t.v.length) (hln:ln.length=t.v.length) (hE:E.length=t.v.length + 1)
include hnx h1 h2 hl hn hp hlt hln hE
end
mutual
def aa.OI:aa→Bool
 | .mk op _ _ t=>(op == 12 || (op == 14 || op == 13)) || aa.Hx t
def aa.Hx:List aa→Bool
 | []=>false
 | x::xs=>aa.OI x || aa.Hx xs
end
theorem qC {p:Prog} (h:(dx p).2=0):c7 p 0∧c7 (uA p) 1∧dx p=(uA p,0):=by
 have hR: ∀ (q:Prog) (l:Int),hU q l=0→c7 q l:=fun q l h=>(pF q l).1 (by rw[←AS];exact h);unfold dx at h ⊢;by_cases h0:hU p 0=0
 ·rw[if_pos h0] at h⊢
  by_cases h1:hU (uA p) 1=0
  ·rw[if_pos h1]
   exact ⟨hR _ _ h0,hR _ _ h1,rfl⟩
  ·rw[if_neg h1] at h
   exact absurd h (by decide)
 ·rw[if_neg h0] at h
  exact absurd h (by decide)
theorem CO (M B:Int) (h0M:0≤M) (hMB:M * B≤600000000) (p:Prog) (hcM:p.body.cnt + 10≤M) (hb:p.body.aR≤B):(dx p).1.body.aR≤1000000000:=by
 by_cases h:(dx p).2=0
 ·obtain ⟨h1,h2,h3⟩:=qC h
  rw[h3];have hrsh:=p.body.EO h1.2.2.1;have hcb:=(uI (fun v=>p.body.qs.contains v) p.body hrsh (eU p.body)).2;have hcb2:((p.body.cnt:Int) + 10) * p.body.aR≤M * B:=Int.le_trans (Int.mul_le_mul_of_nonneg_right (by omega) (by omega)) (Int.mul_le_mul_of_nonneg_left hb h0M);show ((p.body.mI (fun v=>p.body.qs.contains v) (eU p.body)).1).aR≤_;omega
 ·unfold dx at h⊢
  split
  ·split
   ·rename_i a1 a2
    rw[if_pos a1,if_pos a2] at h;exact absurd rfl h
   ·decide
  ·decide
theorem AY (p:Prog) (hcn:p.body.cnt≤500) (hb:p.body.aR≤1100000):(dx p).1.body.aR≤1000000000:=CO 510 1100000 (by decide) (by decide) p (by omega) (by omega)
section
variable {P:Program} {tt:Nat→TI}
theorem ax.ghost {B:List PV→List aj→Ds→QT→Prop} {T:List PV} {Γ Γ':List aj} {D:Ds} {Q:QT} (hg:au Γ Γ') (h:ax B T Γ' D Q):ax B T Γ D Q:=by
 obtain ⟨I,J,⟨n,T0,Γ0,h1,h2⟩,h3,h4⟩:=h.h;refine ⟨I,J,⟨n,T0,Γ0,fun w0 F M w vs hS hT=>?_,h2⟩,h3,h4⟩;obtain ⟨F1,e1,hS1⟩:=hg w0 F M w hS;obtain ⟨F2,e2,hS2,hT2⟩:=h1 w0 F1 M w vs hS1 (ay.mono e1 _ _ hT);exact ⟨F2,Fz.le_trans e1 e2,hS2,hT2⟩
theorem iC.w {k:IntKind} {v:Int} {K:Int→Prop} (h:K (k.wrap v)):iC k v K:=⟨h⟩
end
mutual
def aa.jP (k:Int):aa→aa
 | .mk op n v t=>.mk op (if bQ op=true then IntKind.i64.wrap (n + k) else n) (v.map fun x=>IntKind.i64.wrap (x + k)) (aa.LN k t)
def aa.LN (k:Int):List aa→List aa
 | []=> []
 | x::xs=>aa.jP k x::aa.LN k xs
end
theorem aa.Ak (k:Int): ∀ l:List aa,aa.LN k l=l.map (aa.jP k)
 | []=>rfl
 | x::l=>by rw[aa.LN,List.map_cons,aa.Ak k l]
theorem aa.NU (k:Int) (t:aa):(t.jP k).op=t.op:=by cases t;rw[aa.jP];rfl
theorem aa.Mv (k:Int) (t:aa):(t.jP k).n=if bQ t.op=true then IntKind.i64.wrap (t.n + k) else t.n:=by cases t;rw[aa.jP];rfl
theorem aa.Mw (k:Int) (t:aa):(t.jP k).v=t.v.map fun x=>IntKind.i64.wrap (x + k):=by cases t;rw[aa.jP];rfl
theorem aa.JM (k:Int) (t:aa):(t.jP k).t=t.t.map (aa.jP k):=by cases t;rw[aa.jP, ←aa.Ak];rfl
theorem aa.JL (k:Int) (t:aa):(t.jP k).aR=t.aR:=by
 induction t using aa.ind with
 | h t ih=>
  have: ∀ l:List aa,(∀ x∈l,(x.jP k).aR=x.aR)→aa.aE (l.map (aa.jP k))=aa.aE l:=by
   intro l
   induction l with
   | nil=>intro _;rfl
   | cons y l ihl=>intro h;rw[List.map_cons,aa.aE,aa.aE,h y (by simp),ihl fun x hx=>h x (by simp[hx])]
  rw[aa.bE,aa.bE,aa.JM,aa.Mw,this t.t ih,List.length_map]
theorem rR {p q:Prop} (k:q) (h:q→p:=by intro hq;first | exact aD.sP (some 38) rfl [] [10,11,12] ai mixed hq | exact aD.sP (some 57) rfl [] [10,11,12] ai mixed hq):p:=h k
theorem Cc (k:Int) (t:aa):t.aR≤1000000000→aA Tryz.prog 24 [.agg t.cells,.int .i64 k] (.agg (t.jP k).cells):=by
 induction t using aa.ind with
 | h t ih=>
  intro hb;have hbe:=t.bE;have hlv:=aa.bn t.t;have ih': ∀ x∈t.t,aA Tryz.prog 24 [.agg x.cells,.int .i64 k] (.agg (x.jP k).cells):=fun x hx=>ih x hx (by have:=aa.cJ hx;omega);refine af.ah ai Tryz.func24 rfl rfl (n:=70) rfl rfl ?_
  conv=>whnf
  repeat (first|refine Qf ?_|((intro _);conv=>whnf))
  rename_i b1 b2 b3;refine nV.join (τ:=Unit) (fun _=> []) (fun _=> [.box b3 [.int .i64 t.op,.int .i64 (t.jP k).n,.nil,.nil],.box b2 [.int .i64 0,.int .i64 0,.nil,.nil],.box b1 [.int .i64 t.op,.int .i64 t.n,.sl 1 (t.v.map (PV.int .i64)) none,.sl 4 (t.t.map aa.pv) none]]) (fun _=>True) ?_ ?_
  ·conv=>whnf
   repeat' (first|refine nX ?_|(refine zX (fun hc=>?_) (fun hc=>?_)<;>(try simp only[SY] at hc)<;>(conv=>whnf)))
   ·have hn:bQ t.op=true:=by simp[bQ];omega
    have e:(t.jP k).n=IntKind.i64.wrap (t.n + k):=by rw[aa.Mv,if_pos hn]
    refine iC.w ?_
    conv=>whnf
    repeat' (first|refine nX ?_|(refine zX (fun hc=>?_) (fun hc=>?_)<;>(try simp only[SY] at hc)<;>omega))
    rw[e];exact jb () trivial wA
   ·have hn: ¬ bQ t.op=true:=by simp[bQ];omega
    have e:(t.jP k).n=t.n:=by rw[aa.Mv,if_neg hn]
    rw[e];exact jb () trivial wA
  ·intro _ _
   conv=>whnf
   skip
   generalize hN:(t.jP k).n=N;refine ax.ghost (au.trans (au.nil 1 3 _) (au.trans (au.nil 4 26 _) (au.box (b:=b3) (cs:= [.int .i64 t.op,.int .i64 N,.nil,.nil]) (cs':= [.int .i64 t.op,.int .i64 N,.sl 1 (([]:List Int).map (PV.int .i64)) (some (aB 1 3)),.sl 4 (([]:List aa).map aa.pv) (some (aB 4 26))]) wA))) ?_
   refine ax.over [6,31,32,33,34,35,36,37,38,39,40,41,42,43,44,45,46,47,48,49] (fun (x:Nat×List Int×Tok)=> [(6,.int .i64 x.1)])
    (fun (x:Nat×List Int×Tok)=> [.box b3 [.int .i64 t.op,.int .i64 N,.sl 1 (x.2.1.map (PV.int .i64)) (some x.2.2),.sl 4 (([]:List aa).map aa.pv) (some (aB 4 26))],.tok x.2.2,.tok (aB 4 26),.box b2 [.int .i64 0,.int .i64 0,.nil,.nil],.box b1 [.int .i64 t.op,.int .i64 t.n,.sl 1 (t.v.map (PV.int .i64)) none,.sl 4 (t.t.map aa.pv) none]])
    (fun x=>x.1≤t.v.length∧x.2.2.e=3∧x.2.1=(t.v.map fun x=>IntKind.i64.wrap (x + k)).take x.1) (fun x=>t.v.length - x.1) (0, [],aB 1 3) ⟨Nat.zero_le _,rfl,rfl⟩ wA ?_
   rintro ⟨i,l,tk⟩ ⟨hi,htk,hl⟩;dsimp only at hi htk hl ⊢;have hll:l.length≤1000000000:=by rw[hl,List.length_take];simp;omega
   conv=>whnf
   repeat' (first|refine nX ?_|((first|refine rR ?_|intro _);conv=>whnf)|(refine zX (fun hc=>?_) (fun hc=>?_)<;>(try simp only[SY] at hc)<;>(conv=>whnf)))
   ·have hlt:i < t.v.length:=by omega
    refine nW.of (.int .i64 (IntKind.i64.wrap (t.v[i] + k))) ?_ ?_
    ·conv=>whnf
     refine iC.w ?_;exact bw.same
    conv=>whnf
    repeat' (first|refine nX ?_|((intro _);conv=>whnf)|(refine zX (fun hc=>?_) (fun hc=>?_)<;>(try simp only[SY] at hc)<;>omega))
    exact av (i + 1,l++ [IntKind.i64.wrap (t.v[i] + k)],_) ⟨by show i + 1≤_;omega,by assumption,by show l++ [_]=(t.v.map fun x=>IntKind.i64.wrap (x + k)).take (i + 1);rw[List.take_succ_eq_append_getElem (by simp;omega), ←hl];simp⟩ (by show t.v.length - (i + 1) < t.v.length - i;omega) wA
   ·obtain rfl:l=t.v.map fun x=>IntKind.i64.wrap (x + k):=by rw[hl,List.take_of_length_le (by simp;omega)]
    refine ax.over [7,50,51,52,53,54,55,56,57,58,59,60,61,62,63,64,65,66,67,68] (fun (x:Nat×List aa×Tok)=> [(7,.int .i64 x.1)])
     (fun (x:Nat×List aa×Tok)=> [.box b3 [.int .i64 t.op,.int .i64 N,.sl 1 ((t.v.map fun x=>IntKind.i64.wrap (x + k)).map (PV.int .i64)) (some tk),.sl 4 (x.2.1.map aa.pv) (some x.2.2)],.tok x.2.2,.tok tk,.box b2 [.int .i64 0,.int .i64 0,.nil,.nil],.box b1 [.int .i64 t.op,.int .i64 t.n,.sl 1 (t.v.map (PV.int .i64)) none,.sl 4 (t.t.map aa.pv) none]])
     (fun x=>x.1≤t.t.length∧x.2.2.e=26∧x.2.1=(t.t.map (aa.jP k)).take x.1) (fun x=>t.t.length - x.1) (0, [],aB 4 26) ⟨Nat.zero_le _,rfl,rfl⟩ wA ?_
    rintro ⟨j,m,tm⟩ ⟨hj,htm,hm⟩;dsimp only at hj htm hm ⊢;have hml:m.length≤1000000000:=by rw[hm,List.length_take];simp;omega
    conv=>whnf
    repeat' (first|refine nX ?_|((first|((apply zZ);(conv=>whnf);(repeat ((refine pC (ih' _ (List.getElem_mem _)) wR ?_);conv=>whnf));exact pZ)|refine rR ?_|intro _);conv=>whnf)|(refine zX (fun hc=>?_) (fun hc=>?_)<;>(try simp only[SY] at hc)<;>(conv=>whnf)))
    ·have hlt:j < t.t.length:=by omega
     exact av (j + 1,m++ [t.t[j].jP k],_) ⟨by show j + 1≤_;omega,by assumption,by show m++ [t.t[j].jP k]=(t.t.map (aa.jP k)).take (j + 1);rw[List.take_succ_eq_append_getElem (by simp;omega), ←hm];simp⟩ (by show t.t.length - (j + 1) < t.t.length - j;omega) wA
    ·obtain rfl:m=t.t.map (aa.jP k):=by rw[hm,List.take_of_length_le (by simp;omega)]
     have e:(t.jP k).cells= [.int .i64 t.op,.int .i64 N,.sl 1 ((t.v.map fun x=>IntKind.i64.wrap (x + k)).map (PV.int .i64)) none,.sl 4 ((t.t.map (aa.jP k)).map aa.pv) none]:=by
      unfold aa.cells;rw[aa.NU,aa.Mw,aa.JM,hN]
     rw[e];exact ak.pure wA
theorem CB (a:Int):0≤bitsOf .and .i64 a 1023∧bitsOf .and .i64 a 1023≤1023:=by
 have e: ∀ v:Nat,v≤1023→IntKind.wrap .i64 (v:Int)=v:=fun v hv=>by
  simp[IntKind.wrap,IntKind.bits,IntKind.signed];omega
 have h:(BitVec.ofInt IntKind.i64.bits a &&& BitVec.ofInt IntKind.i64.bits 1023).toNat≤1023:=by
  rw[BitVec.toNat_and];exact Nat.le_trans Nat.and_le_right (by decide)
 unfold bitsOf;simp only;rw[e _ h];omega
theorem Fa {v:Int} (h0:0≤v) (h1:v≤1000000000):IntKind.i64.wrap v=v:=by simp[IntKind.wrap,IntKind.bits,IntKind.signed];omega
theorem aa.NV (k:Int) (h0:0≤k) (h1:k≤1000000) (t:aa):(∀ v,v∈t.Kl∨v∈t.qs→0≤v∧v≤1000000)→t.jP k=t.sh k:=by
 induction t using aa.ind with
 | h t ih=>
  intro hv;obtain ⟨op,n,v,l⟩:=t;rw[aa.jP,aa.sh,aa.Ak,aa.jL];rw[aa.Kl,aa.qs] at hv
  have hn: ∀ y∈l, ∀ w,w∈y.Kl→w∈aa.vA l:=by
   intro y hy w hw
   have key: ∀ m:List aa,y∈m→w∈aa.vA m:=by
    intro m
    induction m with
    | nil=>intro h;cases h
    | cons z m ihm=>
     intro h;rw[aa.vA,List.mem_append];rcases List.mem_cons.1 h with rfl | h
     ·exact .inl hw
     ·exact .inr (ihm h)
   exact key l hy
  have ha: ∀ y∈l, ∀ w,w∈y.qs→w∈aa.lF l:=by
   intro y hy w hw;rw[aa.wX,List.mem_flatMap];exact ⟨y,hy,hw⟩
  have e1:(if bQ op=true then IntKind.i64.wrap (n + k) else n)=if bQ op=true then n + k else n:=by
   split
   ·rename_i hb
    have:n∈(if op=1 then [n] else [])++v++aa.vA l∨n∈(if op=2∨op=14 then [n] else [])++aa.lF l:=by
     simp[bQ] at hb;rcases hb with (h | h) | h
     ·left;simp[h]
     ·right;simp[h]
     ·right;simp[h]
    have:=hv n this;exact Fa (by omega) (by omega)
   ·rfl
  have e2:(v.map fun x=>IntKind.i64.wrap (x + k))=v.map (· + k):=List.map_congr_left fun x hx=>by
   have:=hv x (.inl (by simp[hx]));exact Fa (by omega) (by omega)
  have e3:l.map (aa.jP k)=l.map (aa.sh k):=List.map_congr_left fun y hy=>ih y hy fun w hw=>hv w (by
   rcases hw with hw | hw
   ·exact .inl (by simp[hn y hy w hw])
   ·exact .inr (by simp[ha y hy w hw]))
  rw[e1,e2,e3]
theorem c7.names {p:Prog} {level:Int} (h:c7 p level): ∀ v,v∈p.body.Kl∨v∈p.body.qs→v∈p.body.vars:=fun v hv=>by
 rcases p.body.Ln h.2.2.1 v hv with h2 | h2
 ·cases h2
 ·exact h2
theorem c7.jP {p:Prog} {level k:Int} (h:c7 p level) (h0:0≤k) (h1:k≤1000000):p.body.jP k=p.body.sh k:=
 p.body.NV k h0 h1 fun v hv=>h.fits.2.2 v (h.names v hv)
theorem aa.NQ (k:Int) (t:aa):(t.sh k).qs=t.qs.map (· + k):=by
 induction t using aa.ind with
 | h t ih=>
  have key: ∀ l:List aa,(∀ x∈l,(x.sh k).qs=x.qs.map (· + k))→aa.lF (l.map (aa.sh k))=(aa.lF l).map (· + k):=by
   intro l
   induction l with
   | nil=>intro _;rfl
   | cons y l ihl=>intro h;rw[List.map_cons,aa.lF,aa.lF,h y (by simp),ihl fun x hx=>h x (by simp[hx]),List.map_append]
  rw[aa.yq,aa.yq,aa.ni,aa.DK,aa.Aj,key t.t ih,List.map_append];congr 1
  split
  ·rename_i h
   rw[if_pos (by unfold bQ;rcases h with h | h<;>simp[h])];rfl
  ·rfl
theorem La {l:List Int} {v k:Int}:(v + k∈l.map (· + k))↔v∈l:=by
 rw[List.mem_map]
 exact ⟨fun ⟨x,hx,e⟩=>(by rwa [show v=x by omega]),fun h=>⟨v,h,rfl⟩⟩
theorem Kv (k:Int) (t:aa) (v:Int):MH (t.sh k) (v + k)=MH t v:=by
 unfold MH;rw[aa.NQ,Bool.eq_iff_iff,List.contains_iff_mem,List.contains_iff_mem,La]
theorem KF (k:Int) (t:aa):fD (t.sh k)=(fD t).map (· + k):=by unfold fD;rw[aa.E5,BZ]
theorem IT (k:Int) (t:aa) (h:fD t≠ []):eU (t.sh k)=eU t + k:=by
 unfold eU;rw[KF,if_neg (by simpa using h),if_neg h];have hl:(fD t).length - 1 < (fD t).length:=by have:=List.length_pos_iff.2 h;omega
 simp[List.getD,hl];omega
theorem wN (t:aa) (hb:t.aR≤1000000000):aA Tryz.prog 23 [.agg t.cells] (gQ (t.bD 0 [])):=by
 have h:=KE t 0 [] (by omega) (by omega) List.Pairwise.nil (by simpa using hb);have h2:aA Tryz.prog 44 [.agg t.cells,.int .i64 0,.nil] (gQ (t.bD 0 [])):=af.wk h (.cons (Wk.refl _) (.cons (Wk.refl _) (.cons LO .nil)));refine af.ah ai Tryz.func23 rfl rfl (n:=5) rfl rfl ?_
 conv=>whnf
 repeat (first|refine lB ?_|((first|refine pC (h2) wR ?_|intro _);conv=>whnf))
 exact ak.pure (Wk.refl _)
theorem aa.LM (k:Int) (t:aa):(t.jP k).cnt=t.cnt:=by
 induction t using aa.ind with
 | h t ih=>
  have: ∀ l:List aa,(∀ x∈l,(x.jP k).cnt=x.cnt)→aa.cW (l.map (aa.jP k))=aa.cW l:=by
   intro l
   induction l with
   | nil=>intro _;rfl
   | cons x l ihl=>
    intro h;rw[List.map_cons,aa.cW,aa.cW,h x (by simp),ihl fun y hy=>h y (by simp[hy])]
  rw[aa.ju,aa.ju t,aa.JM,this t.t ih]
theorem KG (k:Int) (p:Prog) (h:fD p.body≠ []):uA ⟨p.consts,p.body.sh k⟩=⟨p.consts,(uA p).body.sh k⟩:=by
 unfold uA;simp only;rw[IT k _ h,MT (A:=fun v=>p.body.qs.contains v) (B:=fun v=>(p.body.sh k).qs.contains v) (s:=k) (fun v=>Kv k p.body v)]
theorem FC {p q:Prop} (k:q) (h:q→p:=by intro hq;first | exact aD.sP (some 38) rfl [11,12] [13] ai mixed hq | exact aD.sP (some 55) rfl [] [] ai mixed hq):p:=h k
theorem wF (p:Prog) (z:Int) (hbb:Datum.aE p.consts + p.body.aR≤1048576):aA Tryz.prog 8 [.agg p.cells,.int .i64 z] (.bool true):=by
 have hlen:=Datum.bn p.consts;have hk:=CB z;have hbl:=(p.body.tw 0 [] List.Pairwise.nil).2.1;have hfw:=Hg p.body 200 (by omega) (by omega);have hfa:=Hf p.consts 2000 (by omega) (by omega);by_cases hf:0≤p.body.qE 200
 ·have hcn:=p.body.KN 200 hf
  have hcnp:=p.body.pK;rw[decide_eq_true hf] at hfw;have hbk:=AY p (by omega) (by omega);have hwb:=fun k=>p.body.JL k;have hwc:=fun k=>p.body.LM k;have hcs: ∀ k,aA Tryz.prog 13 [.agg (⟨p.consts,p.body.jP k⟩:Prog).cells] (.bp [.agg (dx ⟨p.consts,p.body.jP k⟩).1.cells,.int .i64 (dx ⟨p.consts,p.body.jP k⟩).2]):=fun k=>uF _ (by show (p.body.jP k).cnt≤_;rw[hwc];omega) (by show (p.body.jP k).aR≤_;rw[hwb];omega) (by show p.consts.length≤_;omega);have hss:=fun k=>NN ⟨(dx p).1.consts,(dx p).1.body.jP k⟩ (dx ⟨p.consts,p.body.jP k⟩).1;generalize hkk:bitsOf .and .i64 z 1023=k at hk;refine af.ah ai Tryz.func8 rfl rfl (n:=67) rfl rfl ?_
  conv=>whnf
  repeat' (first|refine aY ?_|((first|((first|(apply zY;intro hg)|apply zZ);(conv=>whnf);(repeat ((first|refine pC (hfa) wR ?_|refine pC (wN p.body (by omega)) wR ?_|refine pC (Cc _ p.body (by omega)) wR ?_|refine pC (Cc _ (dx p).1.body hbk) wR ?_|refine pC (hcs _) wR ?_|refine pC (hss _) wR ?_|refine aH ?_);conv=>whnf));exact pZ)|refine pC (wY) wR ?_|refine pC (hfw) wR ?_|refine pC (uF p (by omega) (by omega) (by omega)) wR ?_|refine FC ?_|intro _);conv=>whnf)|(refine zX (fun hc=>?_) (fun hc=>?_)<;>(try simp only[SY] at hc)<;>(conv=>whnf)))
  ·exact ak.pure (Wk.refl _)
  ·exact ak.pure (Wk.refl _)
  rename_i hcc _ _;rw[hkk] at hc ⊢;obtain ⟨h1,h2,h3⟩:=qC hc.1;have e1:p.body.jP k=p.body.sh k:=h1.jP hk.1 (by omega);rw[e1] at hc ⊢;obtain ⟨h4,h5,h6⟩:=qC hc.2
  have hb:fD p.body≠ []:=by
   intro h;have:=p.body.D9 (by have:=h1.fits.2.1;omega);rw[h] at this;exact hcc.2 (by rw[this];rfl)
  have e2:(uA p).body.jP k=(uA p).body.sh k:=h2.jP hk.1 (by omega);refine ak.pure (Wk.bool ?_);rw[h3,h6,KG k p hb];simp only;rw[e2];exact (by simp[Prog.GJ,uA])
 ·rw[decide_eq_false hf] at hfw
  refine af.ah ai Tryz.func8 rfl rfl (n:=67) rfl rfl ?_
  conv=>whnf
  repeat' (first|refine aY ?_|((first|(((apply zY;intro hg));(conv=>whnf);(repeat ((first|refine pC (hfa) wR ?_|refine pC (wN p.body (by omega)) wR ?_|refine aH ?_);conv=>whnf));exact pZ)|refine pC (wY) wR ?_|refine pC (hfw) wR ?_|intro _);conv=>whnf)|(refine zX (fun hc=>?_) (fun hc=>?_)<;>(try simp only[SY] at hc)<;>(conv=>whnf)))
  all_goals exact ak.pure (Wk.refl _)
open Go.RowKit (Below)
open Go.ChangeShapes
def Fz.of (w:World):Fz:=fun b o=>w.cell? ⟨b,o,none⟩
theorem aP.start (w:World):aP w (Fz.of w) [] w:=⟨Below.refl _ w,fun _ _ _ h=>h,by simp,.nil⟩
theorem rO {α:Type} {p:Nat→α→Prop}: ∀ {n:Nat},(∀ i,i < n→ ∃ a,p i a)→ ∃ l:List α,l.length=n∧ ∀ i a,l[i]?=some a→p i a
 | 0,_=>⟨[],rfl,by simp⟩
 | n + 1,h=>by
  obtain ⟨l,h1,h2⟩:=rO (n:=n) fun i hi=>h i (by omega);obtain ⟨a,ha⟩:=h n (by omega);refine ⟨l++ [a],by simp[h1],fun i b hb=>?_⟩;by_cases hi:i < l.length
  ·rw[List.getElem?_append_left hi] at hb;exact h2 i b hb
  ·rw[List.getElem?_append_right (by omega)] at hb
   have h0:i - l.length=0:=by
    rcases Nat.eq_zero_or_pos (i - l.length) with h | h
    ·exact h
    ·rw[List.getElem?_eq_none (by simp;omega)] at hb;cases hb
   rw[h0] at hb;simp at hb;obtain rfl:i=n:=by omega
   rwa [←hb]
section
variable {H:Type} {enc:TypeId×Value→H} {P:Program} {w:World} {UB:DataW H→Nat} {UBs:List (DataW H)→Nat}
structure Av (UB:DataW H→Nat) (UBs:List (DataW H)→Nat):Prop where
 nil:UBs []=0
 cons: ∀ x l,UBs (x::l)=UB x + UBs l
 agg: ∀ l,1 + UBs l≤UB (.agg l)
 slice: ∀ l m,1 + UBs l≤UB (.slice l m)
 str: ∀ s,s.length + 1≤UB (.lit (.string s))
 pos: ∀ d,1≤UB d
def Rd {α:Type} (enc:TypeId×Value→H) (P:Program) (w:World) (UB:DataW H→Nat) (n:Nat) (t:TypeId) (cells:α→List PV) (bk:α→Nat):Prop:=
 ∀ cs x,DataW.trod enc P w 0 (fun _=>true) true n t cs=some x→ ∃ a:α,aQ (Fz.of w) (cells a) cs∧bk a≤UB x.1
theorem ry (hB:Av UB UBs) {t:TypeId} {k:IntKind} (ht:P.underlying t=some (.int k)) (n:Nat):Rd enc P w UB n t (fun n:Int=> [.int k n]) fun _=>1:=by
 intro cs x h;obtain ⟨m,rfl,rfl,_⟩:=DataW.trod_int ht h;exact ⟨m,by simp only[aQ,aC,and_true];exact rfl,hB.pos _⟩
theorem NC (hB:Av UB UBs) {t:TypeId} (ht:P.underlying t=some .string) (n:Nat):Rd enc P w UB n t (fun s:List UInt8=> [.str s]) fun s=>s.length:=by
 intro cs x h;obtain ⟨s,rfl,rfl,hs⟩:=DataW.trod_string ht h;refine ⟨s.data.toList,?_,by have:=hB.str s.data.toList;show s.data.toList.length≤UB (.lit (.string s.data.toList));omega⟩
 have:s.data.toList.length≤9223372036854775807:=by
  have h1:s.data.toList.length=s.size:=Array.length_toList;have h2:maxLen≤9223372036854775807:=by simp only[maxLen];omega
  omega
 exact bW.2 ⟨⟨rfl,by unfold aC;exact ⟨rfl,this⟩⟩,cw _⟩
theorem EY {α:Type} {pv:α→PV} {cells:α→List PV} [c:cn pv cells] {s b o:Nat} (hs: ∀ a,(cells a).length=s): ∀ (l:List α) (i:Nat),
  (∀ j a,l[j]?=some a→ ∃ cs,w.cells? 0 ((⟨b,o,none⟩:Addr).add ((i + j) * s)) s=some cs∧aQ (Fz.of w) (cells a) cs)→aT (Fz.of w) s b (o + i * s) (l.map pv)
 | [],_,_=>by simp[aT]
 | a::l,i,h=>by
  rw[List.map_cons,rK];obtain ⟨cs,h1,h2⟩:=h 0 a rfl;obtain ⟨_,h3,h4⟩:=World.cells?_some h1;refine ⟨⟨by rw[c.eq];exact hs a,?_⟩,?_⟩
  ·rw[c.eq,aZ]
   refine ⟨cs,h2,fun j u hu=>?_⟩
   have hj:j < cs.length:=by
    rcases Nat.lt_or_ge j cs.length with h | h
    ·exact h
    ·rw[List.getElem?_eq_none h] at hu;cases hu
   have:=h4 j (by omega);rw[hu,Addr.add_lit,Addr.add_lit] at this;simpa[Fz.of] using this
  ·have:=EY (pv:=pv) hs l (i + 1) fun j a ha=>by
    have:=h (j + 1) a (by simpa using ha);rwa [show i + (j + 1)=i + 1 + j by omega] at this
   rwa [show o + (i + 1) * s=o + i * s + s by rw[Nat.succ_mul];omega] at this
def jN {α:Type} (bk:α→Nat):List α→Nat
 | []=>0
 | a::l=>bk a + jN bk l
theorem Ce (hB:Av UB UBs) {α:Type} {bk:α→Nat}: ∀ (l:List α) (ds:List (DataW H)),l.length≤ds.length→(∀ (i:Nat) (a:α) (d:DataW H),l[i]?=some a→ds[i]?=some d→bk a≤UB d)→jN bk l≤UBs ds
 | [],_,_,_=>by simp[jN]
 | a::l, [],h,_=>by simp at h
 | a::l,d::ds,h,k=>by
  rw[jN,hB.cons];have h1:=k 0 a d rfl rfl;have h2:=Ce hB l ds (by simpa using h) fun i a d ha hd=>k (i + 1) a d (by simpa using ha) (by simpa using hd);omega
theorem qh (hB:Av UB UBs) {n:Nat} {t e:TypeId} (ht:P.underlying t=some (.slice e)) {s:Nat} (hs:P.cellsOf e=s) (hp:0 < s) {α:Type} {pv:α→PV} {cells:α→List PV} [c:cn pv cells] {bk:α→Nat}
  (hc: ∀ a,(cells a).length=s) (he: ∀ m,m < n→Rd enc P w UB m e cells bk):Rd enc P w UB n t (fun l:List α=> [.sl s (l.map pv) none]) fun l=>1 + jN bk l:=by
 intro cs x h
 rcases DataW.trod_slice ht h with ⟨rfl,rfl⟩ | ⟨a,len,cap,elems,rest,m,rfl,rfl,rfl,_,hlc,hcm,hel,hx,hr,_⟩
 ·refine ⟨[],?_,by have:=hB.pos (DataW.nil:DataW H);simpa[jN] using this⟩
  exact bW.2 ⟨⟨rfl,by unfold aC;exact ⟨by simp,.inl ⟨rfl,rfl⟩⟩⟩,cw _⟩
 ·have hx': ∀ i,i < len→ ∃ a':α, ∃ cs d,elems[i]?=some d∧w.cells? 0 (a.add (i * s)) s=some cs∧aQ (Fz.of w) (cells a') cs∧bk a'≤UB d.1:=by
   intro i hi;have h1:=hx i hi;have h2:elems[i]?=some elems[i]:=List.getElem?_eq_getElem (by omega);rw[h2,hs] at h1;obtain ⟨cs,h3,h4⟩:=Option.bind_eq_some_iff.1 h1;obtain ⟨a',h5,h6⟩:=he m (by omega) cs _ h4;exact ⟨a',cs,_,h2,h3,h5,h6⟩
  obtain ⟨l,hl,hl2⟩:=rO hx'
  have hcount:1 + jN bk l≤UB (.slice (elems.map (·.1)) (rest.map (·.1))):=by
   have:=Ce hB (bk:=bk) l (elems.map (·.1)) (by simp;omega) (by
    intro i a' d ha hd;obtain ⟨_,d',h2,_,_,h5⟩:=hl2 i a' ha;rw[List.getElem?_map,h2] at hd;simp at hd
    rw[←hd];exact h5)
   have:=hB.slice (elems.map (·.1)) (rest.map (·.1));omega
  refine ⟨l,?_,hcount⟩;refine bW.2 ⟨⟨rfl,?_⟩,cw _⟩;unfold aC;refine ⟨fun t ht=>(by cases ht),?_⟩;by_cases h0:cap=0
  ·subst h0
   obtain rfl:len=0:=by omega
   have:l= []:=List.eq_nil_of_length_eq_zero hl;subst this;exact .inr (.inr ⟨rfl,a,rfl⟩)
  ·
   have hsp:a.spot=none:=by
    have h1: ∃ cs,w.cells? 0 a s=some cs:=by
     by_cases h2:0 < len
     ·obtain ⟨_,cs,_,_,h3,_⟩:=hx' 0 h2
      exact ⟨cs,by simpa[Addr.add] using h3⟩
     ·obtain ⟨h3,h4⟩:=hr rfl
      have h5:=h4 0 (by omega);have h6:rest[0]?=some (rest[0]'(by omega)):=List.getElem?_eq_getElem (by omega);rw[h6,hs] at h5;obtain ⟨cs,h7,_⟩:=Option.bind_eq_some_iff.1 h5;have:len=0:=by omega
      subst this;exact ⟨cs,by simpa[Addr.add] using h7⟩
    obtain ⟨cs,h1⟩:=h1;obtain ⟨_,h3,h4⟩:=World.cells?_some h1;have h5:=h4 0 hp;have h6:cs[0]?=some (cs[0]'(by omega)):=List.getElem?_eq_getElem (by omega);rw[h6] at h5;simp only[Addr.add,if_true,World.cell?] at h5
    split at h5
    ·split at h5
     ·cases h5
     ·rename_i hn;simpa using hn
    ·cases h5
   obtain ⟨b,o,sp⟩:=a;simp only at hsp;subst hsp;refine .inr (.inl ⟨b,o,cap,by simp[hl],by simp;omega,hcm,by simp,?_⟩)
   have:=EY (pv:=pv) (w:=w) (b:=b) (o:=o) hc l 0 fun j a' ha=>by
    obtain ⟨cs,_,_,h3,h4,_⟩:=hl2 j a' ha;exact ⟨cs,by simpa using h3,h4⟩
   simpa using this
end
section
variable {H:Type} {enc:TypeId×Value→H} {P:Program} {w:World} {UB:DataW H→Nat} {UBs:List (DataW H)→Nat}
theorem eW {F:Fz} {ps bs:List PV} {cs:List Value} {o s:Nat} (h1:aQ F ps ((cs.drop o).take s)) (h2:aQ F bs (cs.drop (o + s))):aQ F (ps++bs) (cs.drop o):=by
 have:=bF h1 h2;rwa [←List.drop_drop,List.take_append_drop] at this
theorem eV {α:Type} {n o s:Nat} {t:TypeId} {cells:α→List PV} {bk:α→Nat} (hR:Rd enc P w UB n t cells bk) {fs:Array Field} {cs:List Value} {xs:List (DataW H×List MemPlace)} (hlen:xs.length=fs.size)
  (hf: ∀ (i:Nat) (f:Field),fs[i]?=some f→DataW.trod enc P w 0 (fun _=>true) true n f.type ((cs.drop f.offset).take (P.cellsOf f.type))=xs[i]?) (i:Nat) (h:(fs.toList.map fun f=>(f.type,f.offset))[i]?=some (t,o)) (hs:P.cellsOf t=s):
  ∃ a y,xs[i]?=some y∧aQ (Fz.of w) (cells a) ((cs.drop o).take s)∧bk a≤UB y.1:=by
 rw[List.getElem?_map] at h;obtain ⟨f,hfi,hft⟩:=Option.map_eq_some_iff.1 h;rw[Array.getElem?_toList] at hfi;simp only[Prod.mk.injEq] at hft;obtain ⟨rfl,rfl⟩:=hft;have h1:=hf i f hfi;have hi:i < xs.length:=by rw[hlen];exact (Array.getElem?_eq_some_iff.1 hfi).1
 have h2:xs[i]?=some xs[i]:=List.getElem?_eq_getElem hi;rw[h2] at h1;obtain ⟨a,h3,h4⟩:=hR _ _ h1;exact ⟨a,_,h2,by rw[←hs];exact h3,h4⟩
theorem Cx {α:Type} {t:TypeId} {cells:α→List PV} {bk:α→Nat} {fs:Array Field} (hs:P.underlying t=some (.struct fs)) (hR: ∀ n,Rd enc P w UB n t cells bk) {r:Reach} {b0:Nat} {v:Value} {d:DataW H} {p:List MemPlace}
  (hv:Value.okWide P w r b0 t v) (h:DataW.Trod enc P w 0 (fun _=>true) true t v d p): ∃ a,aC (Fz.of w) (.agg (cells a)) v∧bk a≤UB d:=by
 obtain ⟨cs,rfl,_⟩:=Go.WideShapes.okWide_struct hs hv;obtain ⟨fuel,hf⟩:=h;obtain ⟨a,h1,h2⟩:=hR fuel _ _ hf;refine ⟨a,?_,h2⟩;simp only[aC];exact ⟨cs.toList,by simp,by simpa[Value.cells] using h1⟩
theorem Ku {t:TypeId} {k:IntKind} (ht:P.underlying t=some (.int k)) {r:Reach} {b0:Nat} {v:Value} {d:DataW H} {p:List MemPlace} (hv:Value.okWide P w r b0 t v) (h:DataW.Trod enc P w 0 (fun _=>true) true t v d p):
  ∃ n:Int,aC (Fz.of w) (.int k n) v∧(Lit.int k n).wf=true:=by
 obtain ⟨n,rfl,_,_,h4⟩:=open_int ht hv h;exact ⟨n,by simp only[aC],h4⟩
theorem ow (hl:laidOutB P=true) {W W':World} (hb:Below W.heap.size W W'): ∀ {ts:List TypeId} {vs:List Value} {ds:List (DataW H)} {ps:List MemPlace},(∀ t∈ts,P.readableRec t=true∧t < P.types.size)→
  DataW.TrodAll enc P W 0 (fun _=>true) true ts vs ds ps→(∀ x∈ps,x.block < W.heap.size)→DataW.TrodAll enc P W' 0 (fun b=>decide (b < W.heap.size)) true ts vs ds ps
 | [],_,_,_,_,h,_=>by
  obtain ⟨rfl,rfl,rfl⟩:=trodAll_nil h;exact trodAll_mk0
 | t::ts,_,_,_,hr,h,hlt=>by
  obtain ⟨v,vs,d,ds,p,q,rfl,rfl,rfl,h1,h2⟩:=trodAll_cons h;exact trodAll_cons_mk (Go.RowKit.Below.trod hl (hr t (by simp)).1 (hr t (by simp)).2 h1 hb fun x hx=>hlt x (by simp[hx])) (ow hl hb (fun t ht=>hr t (by simp[ht])) h2 fun x hx=>hlt x (by simp[hx]))
theorem sv {spare:Nat→Bool} {base:Nat} {held:Bool}: ∀ {ts:List TypeId} {vs:List Value} {ds:List (DataW H)} {ps:List MemPlace},DataW.TrodAll enc P w base spare held ts vs ds ps→ds.length=ts.length
 | [],_,_,_,h=>by obtain ⟨rfl,rfl,rfl⟩:=trodAll_nil h;rfl
 | t::ts,_,_,_,h=>by
  obtain ⟨v,vs,d,ds,p,q,rfl,rfl,rfl,h1,h2⟩:=trodAll_cons h;simp[sv h2]
theorem IC {f:Func} {s:ChangeSpec} {tb:TypeId} {W W':World} {args:Array Value} {ds gs:List (DataW H)} {before:List MemPlace} (hl:laidOutB P=true) (hr: ∀ t∈f.params.toList,P.readableRec t=true∧t < P.types.size)
  (hres:f.resultTypes= #[tb]) (hb:P.underlying tb=some .bool) (hv:s.vars= []) (hfn: ∀ ds:List (DataW H),ds.length=f.params.size→s.fn H ds={ results:= [.lit (.bool true)],args:=ds })
  (hW:DataW.Whole enc P f.params.toList s.vars false W args.toList ds gs before) (hbel:Below W.heap.size W W'):s.post enc P f false true false false W args (.bool true) W':=by
 have hW':=hW;obtain ⟨p,q,hA,hV,rfl,_,_⟩:=hW;have hV0:DataW.TrodVars enc P W (fun _=>true) [] gs q:=by rw[←hv];exact hV
 obtain ⟨rfl,rfl⟩:=trodVars_none hV0;have hfn':=hfn (ds++ []) (by rw[List.append_nil,sv hA];simp);refine ⟨ds, [],p++ [], [],p, [],hW',?_,?_,?_,hbel.frame _,fun h=>by cases h⟩
 ·rw[hfn',hres]
  exact trodAll_mk1 (Go.RowKit.shut_bool hb _)
 ·rw[hfn',List.append_nil]
  exact ow hl hbel hr hA fun x hx=>hW'.lt x (by simp[hx])
 ·rw[hfn',hv];rfl
end
theorem nq: ∀ l:List Datum,jN Datum.aR l=Datum.aE l
 | []=>rfl
 | x::l=>by rw[jN,Datum.aE,nq l]
theorem x9: ∀ l:List aa,jN aa.aR l=aa.aE l
 | []=>rfl
 | x::l=>by rw[jN,aa.aE,x9 l]
theorem x8 {α:Type}: ∀ l:List α,jN (fun _=>1) l=l.length
 | []=>rfl
 | x::l=>by rw[jN,x8 l,List.length_cons];omega
section
variable {H:Type} {enc:TypeId×Value→H} {P:Program} {w:World} {UB:DataW H→Nat} {UBs:List (DataW H)→Nat}
theorem vM {F:Fz} {cs:List Value} {n:Nat} (h:cs.length=n):aQ F [] (cs.drop n):=by
 rw[List.drop_of_length_le (by omega)];exact cw F
theorem Jf (hB:Av UB UBs) {tI tS tL tD:TypeId} (hI:P.underlying tI=some (.int .i64)) (hS:P.underlying tS=some .string) (hL:P.underlying tL=some (.slice tD)) {fs:Array Field} (hD:P.underlying tD=some (.struct fs))
  (hfs:(fs.toList.map fun f=>(f.type,f.offset))= [(tI,0),(tI,1),(tI,2),(tS,3),(tL,4)]) (cI:P.cellsOf tI=1) (cS:P.cellsOf tS=1) (cL:P.cellsOf tL=1) (cD:P.cellsOf tD=5): ∀ n,Rd enc P w UB n tD Datum.cells Datum.aR:=by
 intro n
 induction n using Nat.strongRecOn with
 | ind n ih=>
  intro cs x h;obtain ⟨xs,m,rfl,rfl,hl,hlen,hf⟩:=DataW.trod_struct hD h;obtain ⟨a0,y0,e0,r0,_⟩:=eV (ry (w:=w) (enc:=enc) hB hI m) hlen hf 0 (by rw[hfs];rfl) cI;obtain ⟨a1,y1,e1,r1,_⟩:=eV (ry (w:=w) (enc:=enc) hB hI m) hlen hf 1 (by rw[hfs];rfl) cI;obtain ⟨a2,y2,e2,r2,_⟩:=eV (ry (w:=w) (enc:=enc) hB hI m) hlen hf 2 (by rw[hfs];rfl) cI;obtain ⟨a3,y3,e3,r3,b3⟩:=eV (NC (w:=w) (enc:=enc) hB hS m) hlen hf 3 (by rw[hfs];rfl) cS;obtain ⟨a4,y4,e4,r4,b4⟩:=eV (qh (pv:=Datum.pv) hB hL cD (by omega) (fun a=>rfl) (fun k hk=>ih k (by omega))) hlen hf 4 (by rw[hfs];rfl) cL;refine ⟨.mk a0 a1 a2 a3 a4,?_,?_⟩
  ·exact eW r0 (eW r1 (eW r2 (eW r3 (eW r4 (vM (hl.trans cD))))))
  ·have h5:xs.length=5:=by
    have:=congrArg List.length hfs;simp at this;omega
   match xs,h5 with
   | [z0,z1,z2,z3,z4],_=>
    simp at e3 e4;subst e3 e4;have:=hB.agg ([z0,z1,z2,z3,z4].map (·.1));simp only[List.map_cons,List.map_nil,hB.cons,hB.nil] at this;rw[nq] at b4;rw[Datum.bE];show 1 + a3.length + Datum.aE a4≤_;simp only[List.map_cons,List.map_nil];omega
theorem Lt (hB:Av UB UBs) {tI tV:TypeId} (hI:P.underlying tI=some (.int .i64)) (hV:P.underlying tV=some (.slice tI)) (cI:P.cellsOf tI=1) (n:Nat):Rd enc P w UB n tV (fun l:List Int=> [.sl 1 (l.map (PV.int .i64)) none]) fun l=>1 + l.length:=by
 intro cs x h;obtain ⟨a,h1,h2⟩:=qh (pv:=PV.int .i64) hB hV cI (by omega) (fun a=>rfl) (fun k hk=>ry (w:=w) (enc:=enc) hB hI k) cs x h;exact ⟨a,h1,by have:=x8 a;show 1 + a.length≤_;have h3:1 + jN (fun _=>1) a≤UB x.1:=h2;omega⟩
theorem ND (hB:Av UB UBs) {tI tV tL tT:TypeId} (hI:P.underlying tI=some (.int .i64)) (hV:P.underlying tV=some (.slice tI)) (hL:P.underlying tL=some (.slice tT)) {fs:Array Field} (hT:P.underlying tT=some (.struct fs))
  (hfs:(fs.toList.map fun f=>(f.type,f.offset))= [(tI,0),(tI,1),(tV,2),(tL,3)]) (cI:P.cellsOf tI=1) (cV:P.cellsOf tV=1) (cL:P.cellsOf tL=1) (cT:P.cellsOf tT=4): ∀ n,Rd enc P w UB n tT aa.cells aa.aR:=by
 intro n
 induction n using Nat.strongRecOn with
 | ind n ih=>
  intro cs x h;obtain ⟨xs,m,rfl,rfl,hl,hlen,hf⟩:=DataW.trod_struct hT h;obtain ⟨a0,y0,e0,r0,_⟩:=eV (ry (w:=w) (enc:=enc) hB hI m) hlen hf 0 (by rw[hfs];rfl) cI;obtain ⟨a1,y1,e1,r1,_⟩:=eV (ry (w:=w) (enc:=enc) hB hI m) hlen hf 1 (by rw[hfs];rfl) cI;obtain ⟨a2,y2,e2,r2,b2⟩:=eV (Lt (w:=w) (enc:=enc) hB hI hV cI m) hlen hf 2 (by rw[hfs];rfl) cV;obtain ⟨a3,y3,e3,r3,b3⟩:=eV (qh (pv:=aa.pv) hB hL cT (by omega) (fun a=>rfl) (fun k hk=>ih k (by omega))) hlen hf 3 (by rw[hfs];rfl) cL;refine ⟨.mk a0 a1 a2 a3,?_,?_⟩
  ·exact eW r0 (eW r1 (eW r2 (eW r3 (vM (hl.trans cT)))))
  ·have h5:xs.length=4:=by
    have:=congrArg List.length hfs;simp at this;omega
   match xs,h5 with
   | [z0,z1,z2,z3],_=>
    simp at e2 e3;subst e2 e3;have:=hB.agg ([z0,z1,z2,z3].map (·.1));simp only[List.map_cons,List.map_nil,hB.cons,hB.nil] at this;rw[x9] at b3;rw[aa.bE];show 1 + a2.length + aa.aE a3≤_;simp only[List.map_cons,List.map_nil];omega
end
open Go.Proofs.YtamlcgkjinbnlaaGreatDoor
theorem L8 {H:Type} (d:DataW H):1≤Rows.uptoBulk d:=by
 cases d with
 | lit l=>cases l<;>simp[Rows.uptoBulk]
 | nil=>simp[Rows.uptoBulk]
 | ptr d=>simp[Rows.uptoBulk]
 | slice elems spare=>simp[Rows.uptoBulk]
 | agg parts=>simp[Rows.uptoBulk]
 | iface t d=>simp[Rows.uptoBulk]
 | map entries=>simp[Rows.uptoBulk]
 | held h=>simp[Rows.uptoBulk]
theorem w8 {H:Type}:Av (H:=H) Rows.uptoBulk Rows.uptoBulkAll where
 nil:=by simp[Rows.uptoBulkAll]
 cons x l:=by simp[Rows.uptoBulkAll]
 agg l:=by simp[Rows.uptoBulk];omega
 slice l m:=by simp[Rows.uptoBulk];omega
 str s:=by simp[Rows.uptoBulk]
 pos d:=L8 d
section
variable {H:Type} {enc:TypeId×Value→H} {w:World}
theorem OJ:Tryz.prog.cellsOf 3=1:=by kernel_rfl
theorem PD:Tryz.prog.cellsOf 9=1:=by kernel_rfl
theorem OK:Tryz.prog.cellsOf 23=1:=by kernel_rfl
theorem Qh:Tryz.prog.cellsOf 22=1:=by kernel_rfl
theorem QO:Tryz.prog.cellsOf 24=1:=by kernel_rfl
theorem cD:Tryz.prog.cellsOf 55=5:=by kernel_rfl
theorem cT:Tryz.prog.cellsOf 26=4:=by kernel_rfl
theorem cP:Tryz.prog.cellsOf 28=5:=by kernel_rfl
theorem Q5 (n:Nat):Rd enc Tryz.prog w Rows.uptoBulk n 55 Datum.cells Datum.aR:=
 Jf w8 Tryz.underlying3 Tryz.underlying9 Tryz.underlying22 Tryz.underlying55 rfl OJ PD Qh cD n
theorem Q6 (n:Nat):Rd enc Tryz.prog w Rows.uptoBulk n 26 aa.cells aa.aR:=
 ND w8 Tryz.underlying3 Tryz.underlying23 Tryz.underlying24 Tryz.underlying26 rfl OJ OK QO cT n
theorem P5 (n:Nat):Rd enc Tryz.prog w Rows.uptoBulk n 22 (fun l:List Datum=> [.sl 5 (l.map Datum.pv) none]) fun l=>1 + Datum.aE l:=by
 intro cs x h;obtain ⟨a,h1,h2⟩:=qh (pv:=Datum.pv) w8 Tryz.underlying22 cD (by omega) (fun a=>rfl) (fun k hk=>Q5 (w:=w) (enc:=enc) k) cs x h;have h3:1 + jN Datum.aR a≤Rows.uptoBulk x.1:=h2;rw[nq] at h3;exact ⟨a,h1,h3⟩
def Prog.aR (p:Prog):Nat:=Datum.aE p.consts + p.body.aR
theorem P7 (n:Nat):Rd enc Tryz.prog w Rows.uptoBulk n 28 Prog.cells Prog.aR:=by
 intro cs x h;obtain ⟨xs,m,rfl,rfl,hl,hlen,hf⟩:=DataW.trod_struct Tryz.underlying28 h;obtain ⟨a0,y0,e0,r0,b0⟩:=eV (P5 (w:=w) (enc:=enc) m) hlen hf 0 rfl Qh;obtain ⟨a1,y1,e1,r1,b1⟩:=eV (Q6 (w:=w) (enc:=enc) m) hlen hf 1 rfl cT;refine ⟨⟨a0,a1⟩,?_,?_⟩
 ·have:=eW r0 (eW r1 (vM (hl.trans cP)))
  rwa [List.append_nil] at this
 ·match xs,hlen with
  | [z0,z1],_=>
   simp at e0 e1;subst e0 e1;have:=(w8 (H:=H)).agg ([z0,z1].map (·.1));simp only[List.map_cons,List.map_nil,(w8 (H:=H)).cons,(w8 (H:=H)).nil] at this;show Datum.aE a0 + a1.aR≤_;simp only[List.map_cons,List.map_nil];omega
theorem Q2:Tryz.prog.readableRec 3=true∧3 < Tryz.prog.types.size:=⟨by kernel_rfl,of_decide_eq_true (by kernel_rfl)⟩
theorem Q3:Tryz.prog.readableRec 28=true∧28 < Tryz.prog.types.size:=⟨by kernel_rfl,of_decide_eq_true (by kernel_rfl)⟩
theorem qt:Tryz.prog.readableRec 26=true∧26 < Tryz.prog.types.size:=⟨by kernel_rfl,of_decide_eq_true (by kernel_rfl)⟩
theorem CE {f:FuncId} {args:List PV} {vs:List Value} {W:World} (h:aA Tryz.prog f args (.bool true)) (hr:ay (Fz.of W) args vs):Calls Tryz.prog f vs.toArray W fun e W'=>e=.returned (.bool true)∧Below W.heap.size W W':=by
 refine (h.2 W (Fz.of W) [] W vs (aP.start W) hr).mono ?_;rintro e W' ⟨v,F',y,Γ',rfl,_,hS,hR,rfl⟩;exact ⟨by rw[show v=.bool true by simpa only[aC] using hR],hS.below⟩
end
mutual
def CF:DataW Unit→List Value
 | .lit (.int k n)=> [.int k n]
 | .lit (.bool b)=> [.bool b]
 | .lit (.string s)=> [.string ⟨s.toArray⟩]
 | .agg l=>Eb l
 | _=> []
def Eb:List (DataW Unit)→List Value
 | []=> []
 | d::l=>CF d++Eb l
end
def qZ (e:TypeId):List (String×DataW Unit)→List Obj
 | []=> []
 | (_,.iface _ (.ptr d))::l=>.cells (CF d).toArray e::qZ e l
 | _::l=>qZ e l
def Mu (h:Array Obj) (g:Option Nat) (cs:Array Value):Array Obj:=match g with
 | some g=>h.modify g fun
  | .cells _ t frozen=>.cells cs t frozen
  | o=>o
 | none=>h
def Db (P:Program) (p:TypeId):List (String×DataW Unit)→Nat→Array Obj→Array Obj
 | [],_,h=>h
 | (n,.iface _ _)::l,k,h=>Db P p l (k + 1) (Mu h (P.globalNamed n) #[.iface p (.pointer (some ⟨k,0,none⟩))])
 | (n,d)::l,k,h=>Db P p l k (Mu h (P.globalNamed n) (CF d).toArray)
noncomputable def laidWorld (os:Os):World:=
 let w0:=World.holding Tryz.prog os ⟨(qZ 348 Rows.letrecConvertsRow.laid).toArray, #[], []⟩
 { w0 with heap:=Db Tryz.prog 346 Rows.letrecConvertsRow.laid (World.settled Tryz.prog os).heap.size w0.heap }
theorem IA (os:Os) (args:Array Value):laidMet Tryz.prog Rows.letrecConvertsRow.laid ((laidWorld os).forCall (fun _ _=>0) ⟨#[],args, []⟩).memory:=
 (LaidIn.of_run (l:=Rows.letrecConvertsRow.laid) (List.range 1000) 16 (by kernel_rfl) (by kernel_rfl) (by kernel_rfl) (by kernel_rfl)).met
theorem I2:ownKnob Tryz.prog.godebug=none:=by kernel_rfl
theorem laidOut:laidOutB Tryz.prog=true:=by kernel_rfl
end Go.Cb


