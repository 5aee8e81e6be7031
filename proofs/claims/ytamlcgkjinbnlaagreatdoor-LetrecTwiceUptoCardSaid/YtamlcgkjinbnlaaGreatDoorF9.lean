/-
 Contracts: what the document says is free.
 Contracts: the document's recursive bindings: what is known of a Rec's terms.
 Contracts: the document's recursive bindings: levels and groups.
 Contracts: the document's recursive bindings: groups.
 Contracts: the document's recursive bindings: the links of a chain.
 Contracts: the document's recursive bindings: the links of a Rec.
 Contracts: the document's recursive bindings: the links of a Rec whose parts are not in order.
 Contracts: the document's recursive bindings: late variables are asked.
 Contracts: the document's recursive bindings: a Rec.
 Contracts: the document's recursive bindings: terms, a program, converted.
 The laws of letrec: what any program, any text comes to.
 Contracts: letrec's laws' own functions.
 The law of letrec: where all are procedures nothing is asked.
 Contracts: all variables greater by the same, of any term.
 Contracts and plain: what shifts leave; two programs, one behind the other.
 The law of letrec: what variables are called says nothing.
 Plain: recursive bindings made of plain ones: what new variables are called says nothing of a term's size.
 The law of letrec: two programs, one behind the other.
 From the readings of arguments to values, and from a contract to what a statement asks.
 The program's data, read at the seat's types; the bulk.
 A world that holds the listed tables: the statements' witness.
-/
import Derived.Carry
import Derived.ChangeArms
import Derived.ChangeSame
import Derived.Deep.DeepHandedRow
import Derived.Deep.DeepWitnessRowRef
import Derived.KernelRfl
import Derived.Lib.LaidIn
import Derived.OpenShut
import Derived.OpenVars
import Derived.RowKit
import Derived.Test.YtamlcgkjinbnlaaGreatDoorRows
import Derived.WideShapes
import Derived.Test.YtamlcgkjinbnlaaGreatDoorF8
set_option linter.unusedSimpArgs false
set_option linter.unusedVariables false
namespace Go.Cb
open Go.Proofs
set_option maxRecDepth 100000
set_option maxHeartbeats 4000000
section
variable {P:Program}
end
section
variable (bc:Nat) (t:aa) (n:Nat) (pr:List Bool) (ln:List (List Int)) (lt:List Bool) (E:List aa) (gF:List (List Int)) (gS:List Int) (tk:Tok) (l:List aa) (h1:tk.e=26) (h2:tk.s=4)
include h1 h2
end
section
variable (bc:Nat) (t:aa) (pr:List Bool) (ln:List (List Int)) (lt:List Bool) (E:List aa) (tk:Tok) (l:List aa) (h1:tk.e=26) (h2:tk.s=4) (hl:l.length≤10000) (hn:t.v.length≤500) (hp:pr.length=t.v.length) (hlt:lt.length=t.v.length) (hln:ln.length=t.v.length) (hE:E.length=t.v.length + 1)
include h1 h2 hl hn hp hlt hln hE
end
section
variable (b:Nat) (body:aa) (nx:Int) (bc:Nat) (t:aa) (pr:List Bool) (ln:List (List Int)) (lt:List Bool) (E:List aa) (tk:Tok) (l:List aa) (hnx:0≤nx∧nx≤1000000000) (h1:tk.e=26) (h2:tk.s=4) (hl:l.length≤10000) (hn:t.v.length≤500) (hp:pr.length=t.v.length) (hlt:lt.length=t.v.length) (hln:ln.length=t.v.length) (hE:E.length=t.v.length + 1)
include hnx h1 h2 hl hn hp hlt hln hE
end
mutual
def aa.O5:aa→Bool
 | .mk op _ _ t=>(op == 12 || (op == 14 || op == 13)) || aa.HR t
def aa.HR:List aa→Bool
 | []=>false
 | x::xs=>aa.O5 x || aa.HR xs
end
theorem nQ {p:Prog} (h:(ee p).2=0):c7 p 0∧c7 (lU p) 1∧ee p=(lU p,0):=by
 have hR: ∀ (q:Prog) (l:Int),iw q l=0→c7 q l:=fun q l h=>(qd q l).1 (by rw[←A6];exact h);unfold ee at h ⊢;by_cases h0:iw p 0=0
 ·rw[if_pos h0] at h⊢
  by_cases h1:iw (lU p) 1=0
  ·rw[if_pos h1]
   exact ⟨hR _ _ h0,hR _ _ h1,rfl⟩
  ·rw[if_neg h1] at h
   exact absurd h (by decide)
 ·rw[if_neg h0] at h
  exact absurd h (by decide)
theorem uS (M B:Int) (h0M:0≤M) (hMB:M * B≤600000000) (p:Prog) (hcM:p.body.cnt + 10≤M) (hb:p.body.aR≤B):(ee p).1.body.aR≤1000000000:=by
 by_cases h:(ee p).2=0
 ·obtain ⟨h1,h2,h3⟩:=nQ h
  rw[h3];have hrsh:=p.body.E6 h1.2.2.1;have hcb:=(uV (fun v=>p.body.iQ.contains v) p.body hrsh (bO p.body)).2;have hcb2:((p.body.cnt:Int) + 10) * p.body.aR≤M * B:=Int.le_trans (Int.mul_le_mul_of_nonneg_right (by omega) (by omega)) (Int.mul_le_mul_of_nonneg_left hb h0M);show ((p.body.iy (fun v=>p.body.iQ.contains v) (bO p.body)).1).aR≤_;omega
 ·unfold ee at h⊢
  split
  ·split
   ·rename_i a1 a2
    rw[if_pos a1,if_pos a2] at h;exact absurd rfl h
   ·decide
  ·decide
theorem Bc (p:Prog) (hcn:p.body.cnt≤500) (hb:p.body.aR≤1100000):(ee p).1.body.aR≤1000000000:=uS 510 1100000 (by decide) (by decide) p (by omega) (by omega)
section
variable {P:Program} {tt:Nat→TI}
theorem ax.ghost {B:List PV→List aj→Ds→QT→Prop} {T:List PV} {Γ Γ':List aj} {D:Ds} {Q:QT} (hg:au Γ Γ') (h:ax B T Γ' D Q):ax B T Γ D Q:=by
 obtain ⟨I,J,⟨n,T0,Γ0,h1,h2⟩,h3,h4⟩:=h.h;refine ⟨I,J,⟨n,T0,Γ0,fun w0 F M w vs hS hT=>?_,h2⟩,h3,h4⟩;obtain ⟨F1,e1,hS1⟩:=hg w0 F M w hS;obtain ⟨F2,e2,hS2,hT2⟩:=h1 w0 F1 M w vs hS1 (aA.mono e1 _ _ hT);exact ⟨F2,Fz.le_trans e1 e2,hS2,hT2⟩
theorem ij.w {k:IntKind} {v:Int} {K:Int→Prop} (h:K (k.wrap v)):ij k v K:=⟨h⟩
end
mutual
def aa.jg (k:Int):aa→aa
 | .mk op n v t=>.mk op (if bx op=true then IntKind.i64.wrap (n + k) else n) (v.map fun x=>IntKind.i64.wrap (x + k)) (aa.Me k t)
def aa.Me (k:Int):List aa→List aa
 | []=> []
 | x::xs=>aa.jg k x::aa.Me k xs
end
theorem aa.Ay (k:Int): ∀ l:List aa,aa.Me k l=l.map (aa.jg k)
 | []=>rfl
 | x::l=>by rw[aa.Me,List.map_cons,aa.Ay k l]
theorem aa.Of (k:Int) (t:aa):(t.jg k).op=t.op:=by cases t;rw[aa.jg];rfl
theorem aa.MT (k:Int) (t:aa):(t.jg k).n=if bx t.op=true then IntKind.i64.wrap (t.n + k) else t.n:=by cases t;rw[aa.jg];rfl
theorem aa.MU (k:Int) (t:aa):(t.jg k).v=t.v.map fun x=>IntKind.i64.wrap (x + k):=by cases t;rw[aa.jg];rfl
theorem aa.Ka (k:Int) (t:aa):(t.jg k).t=t.t.map (aa.jg k):=by cases t;rw[aa.jg, ←aa.Ay];rfl
theorem aa.J9 (k:Int) (t:aa):(t.jg k).aR=t.aR:=by
 induction t using aa.ind with
 | h t ih=>
  have: ∀ l:List aa,(∀ x∈l,(x.jg k).aR=x.aR)→aa.aD (l.map (aa.jg k))=aa.aD l:=by
   intro l
   induction l with
   | nil=>intro _;rfl
   | cons y l ihl=>intro h;rw[List.map_cons,aa.aD,aa.aD,h y (by simp),ihl fun x hx=>h x (by simp[hx])]
  rw[aa.bu,aa.bu,aa.Ka,aa.MU,this t.t ih,List.length_map]
theorem sn {p q:Prop} (k:q) (h:q→p:=by intro hq;first | exact aE.sP (some 38) rfl [] [10,11,12] ai mixed hq | exact aE.sP (some 57) rfl [] [10,11,12] ai mixed hq):p:=h k
theorem J8 (k:Int) (t:aa):t.aR≤1000000000→ay Tryz.prog 24 [.agg t.cells,.int .i64 k] (.agg (t.jg k).cells):=by
 induction t using aa.ind with
 | h t ih=>
  intro hb;have hbe:=t.bu;have hlv:=aa.bn t.t;have ih': ∀ x∈t.t,ay Tryz.prog 24 [.agg x.cells,.int .i64 k] (.agg (x.jg k).cells):=fun x hx=>ih x hx (by have:=aa.cu hx;omega);refine af.ah ai Tryz.func24 rfl rfl (n:=70) rfl rfl ?_
  conv=>whnf
  repeat (first|refine P6 ?_|((intro _);conv=>whnf))
  rename_i b1 b2 b3;refine od.join (τ:=Unit) (fun _=> []) (fun _=> [.box b3 [.int .i64 t.op,.int .i64 (t.jg k).n,.nil,.nil],.box b2 [.int .i64 0,.int .i64 0,.nil,.nil],.box b1 [.int .i64 t.op,.int .i64 t.n,.sl 1 (t.v.map (PV.int .i64)) none,.sl 4 (t.t.map aa.pv) none]]) (fun _=>True) ?_ ?_
  ·conv=>whnf
   repeat' (first|refine qQ ?_|(refine zX (fun hc=>?_) (fun hc=>?_)<;>(try simp only[SY] at hc)<;>(conv=>whnf)))
   ·have hn:bx t.op=true:=by simp[bx];omega
    have e:(t.jg k).n=IntKind.i64.wrap (t.n + k):=by rw[aa.MT,if_pos hn]
    refine ij.w ?_
    conv=>whnf
    repeat' (first|refine qQ ?_|(refine zX (fun hc=>?_) (fun hc=>?_)<;>(try simp only[SY] at hc)<;>omega))
    rw[e];exact jo () trivial wA
   ·have hn: ¬ bx t.op=true:=by simp[bx];omega
    have e:(t.jg k).n=t.n:=by rw[aa.MT,if_neg hn]
    rw[e];exact jo () trivial wA
  ·intro _ _
   conv=>whnf
   skip
   generalize hN:(t.jg k).n=N;refine ax.ghost (au.trans (au.nil 1 3 _) (au.trans (au.nil 4 26 _) (au.box (b:=b3) (cs:= [.int .i64 t.op,.int .i64 N,.nil,.nil]) (cs':= [.int .i64 t.op,.int .i64 N,.sl 1 (([]:List Int).map (PV.int .i64)) (some (aB 1 3)),.sl 4 (([]:List aa).map aa.pv) (some (aB 4 26))]) wA))) ?_
   refine ax.over [6,31,32,33,34,35,36,37,38,39,40,41,42,43,44,45,46,47,48,49] (fun (x:Nat×List Int×Tok)=> [(6,.int .i64 x.1)])
    (fun (x:Nat×List Int×Tok)=> [.box b3 [.int .i64 t.op,.int .i64 N,.sl 1 (x.2.1.map (PV.int .i64)) (some x.2.2),.sl 4 (([]:List aa).map aa.pv) (some (aB 4 26))],.tok x.2.2,.tok (aB 4 26),.box b2 [.int .i64 0,.int .i64 0,.nil,.nil],.box b1 [.int .i64 t.op,.int .i64 t.n,.sl 1 (t.v.map (PV.int .i64)) none,.sl 4 (t.t.map aa.pv) none]])
    (fun x=>x.1≤t.v.length∧x.2.2.e=3∧x.2.1=(t.v.map fun x=>IntKind.i64.wrap (x + k)).take x.1) (fun x=>t.v.length - x.1) (0, [],aB 1 3) ⟨Nat.zero_le _,rfl,rfl⟩ wA ?_
   rintro ⟨i,l,tk⟩ ⟨hi,htk,hl⟩;dsimp only at hi htk hl ⊢;have hll:l.length≤1000000000:=by rw[hl,List.length_take];simp;omega
   conv=>whnf
   repeat' (first|refine qQ ?_|((first|refine sn ?_|intro _);conv=>whnf)|(refine zX (fun hc=>?_) (fun hc=>?_)<;>(try simp only[SY] at hc)<;>(conv=>whnf)))
   ·have hlt:i < t.v.length:=by omega
    refine oe.of (.int .i64 (IntKind.i64.wrap (t.v[i] + k))) ?_ ?_
    ·conv=>whnf
     refine ij.w ?_;exact bB.same
    conv=>whnf
    repeat' (first|refine qQ ?_|((intro _);conv=>whnf)|(refine zX (fun hc=>?_) (fun hc=>?_)<;>(try simp only[SY] at hc)<;>omega))
    exact av (i + 1,l++ [IntKind.i64.wrap (t.v[i] + k)],_) ⟨by show i + 1≤_;omega,by assumption,by show l++ [_]=(t.v.map fun x=>IntKind.i64.wrap (x + k)).take (i + 1);rw[List.take_succ_eq_append_getElem (by simp;omega), ←hl];simp⟩ (by show t.v.length - (i + 1) < t.v.length - i;omega) wA
   ·obtain rfl:l=t.v.map fun x=>IntKind.i64.wrap (x + k):=by rw[hl,List.take_of_length_le (by simp;omega)]
    refine ax.over [7,50,51,52,53,54,55,56,57,58,59,60,61,62,63,64,65,66,67,68] (fun (x:Nat×List aa×Tok)=> [(7,.int .i64 x.1)])
     (fun (x:Nat×List aa×Tok)=> [.box b3 [.int .i64 t.op,.int .i64 N,.sl 1 ((t.v.map fun x=>IntKind.i64.wrap (x + k)).map (PV.int .i64)) (some tk),.sl 4 (x.2.1.map aa.pv) (some x.2.2)],.tok x.2.2,.tok tk,.box b2 [.int .i64 0,.int .i64 0,.nil,.nil],.box b1 [.int .i64 t.op,.int .i64 t.n,.sl 1 (t.v.map (PV.int .i64)) none,.sl 4 (t.t.map aa.pv) none]])
     (fun x=>x.1≤t.t.length∧x.2.2.e=26∧x.2.1=(t.t.map (aa.jg k)).take x.1) (fun x=>t.t.length - x.1) (0, [],aB 4 26) ⟨Nat.zero_le _,rfl,rfl⟩ wA ?_
    rintro ⟨j,m,tm⟩ ⟨hj,htm,hm⟩;dsimp only at hj htm hm ⊢;have hml:m.length≤1000000000:=by rw[hm,List.length_take];simp;omega
    conv=>whnf
    repeat' (first|refine qQ ?_|((first|((apply zZ);(conv=>whnf);(repeat ((refine pC (ih' _ (List.getElem_mem _)) wR ?_);conv=>whnf));exact pZ)|refine sn ?_|intro _);conv=>whnf)|(refine zX (fun hc=>?_) (fun hc=>?_)<;>(try simp only[SY] at hc)<;>(conv=>whnf)))
    ·have hlt:j < t.t.length:=by omega
     exact av (j + 1,m++ [t.t[j].jg k],_) ⟨by show j + 1≤_;omega,by assumption,by show m++ [t.t[j].jg k]=(t.t.map (aa.jg k)).take (j + 1);rw[List.take_succ_eq_append_getElem (by simp;omega), ←hm];simp⟩ (by show t.t.length - (j + 1) < t.t.length - j;omega) wA
    ·obtain rfl:m=t.t.map (aa.jg k):=by rw[hm,List.take_of_length_le (by simp;omega)]
     have e:(t.jg k).cells= [.int .i64 t.op,.int .i64 N,.sl 1 ((t.v.map fun x=>IntKind.i64.wrap (x + k)).map (PV.int .i64)) none,.sl 4 ((t.t.map (aa.jg k)).map aa.pv) none]:=by
      unfold aa.cells;rw[aa.Of,aa.MU,aa.Ka,hN]
     rw[e];exact ak.pure wA
theorem Fv {v:Int} (h0:0≤v) (h1:v≤1000000000):IntKind.i64.wrap v=v:=by simp[IntKind.wrap,IntKind.bits,IntKind.signed];omega
theorem aa.Og (k:Int) (h0:0≤k) (h1:k≤1000000) (t:aa):(∀ v,v∈t.KM∨v∈t.iQ→0≤v∧v≤1000000)→t.jg k=t.sh k:=by
 induction t using aa.ind with
 | h t ih=>
  intro hv;obtain ⟨op,n,v,l⟩:=t;rw[aa.jg,aa.sh,aa.Ay,aa.jU];rw[aa.KM,aa.iQ] at hv
  have hn: ∀ y∈l, ∀ w,w∈y.KM→w∈aa.vN l:=by
   intro y hy w hw
   have key: ∀ m:List aa,y∈m→w∈aa.vN m:=by
    intro m
    induction m with
    | nil=>intro h;cases h
    | cons z m ihm=>
     intro h;rw[aa.vN,List.mem_append];rcases List.mem_cons.1 h with rfl | h
     ·exact .inl hw
     ·exact .inr (ihm h)
   exact key l hy
  have ha: ∀ y∈l, ∀ w,w∈y.iQ→w∈aa.kX l:=by
   intro y hy w hw;rw[aa.xh,List.mem_flatMap];exact ⟨y,hy,hw⟩
  have e1:(if bx op=true then IntKind.i64.wrap (n + k) else n)=if bx op=true then n + k else n:=by
   split
   ·rename_i hb
    have:n∈(if op=1 then [n] else [])++v++aa.vN l∨n∈(if op=2∨op=14 then [n] else [])++aa.kX l:=by
     simp[bx] at hb;rcases hb with (h | h) | h
     ·left;simp[h]
     ·right;simp[h]
     ·right;simp[h]
    have:=hv n this;exact Fv (by omega) (by omega)
   ·rfl
  have e2:(v.map fun x=>IntKind.i64.wrap (x + k))=v.map (· + k):=List.map_congr_left fun x hx=>by
   have:=hv x (.inl (by simp[hx]));exact Fv (by omega) (by omega)
  have e3:l.map (aa.jg k)=l.map (aa.sh k):=List.map_congr_left fun y hy=>ih y hy fun w hw=>hv w (by
   rcases hw with hw | hw
   ·exact .inl (by simp[hn y hy w hw])
   ·exact .inr (by simp[ha y hy w hw]))
  rw[e1,e2,e3]
theorem c7.names {p:Prog} {level:Int} (h:c7 p level): ∀ v,v∈p.body.KM∨v∈p.body.iQ→v∈p.body.vars:=fun v hv=>by
 rcases p.body.LN h.2.2.1 v hv with h2 | h2
 ·cases h2
 ·exact h2
theorem c7.jg {p:Prog} {level k:Int} (h:c7 p level) (h0:0≤k) (h1:k≤1000000):p.body.jg k=p.body.sh k:=
 p.body.Og k h0 h1 fun v hv=>h.fits.2.2 v (h.names v hv)
theorem aa.Oc (k:Int) (t:aa):(t.sh k).iQ=t.iQ.map (· + k):=by
 induction t using aa.ind with
 | h t ih=>
  have key: ∀ l:List aa,(∀ x∈l,(x.sh k).iQ=x.iQ.map (· + k))→aa.kX (l.map (aa.sh k))=(aa.kX l).map (· + k):=by
   intro l
   induction l with
   | nil=>intro _;rfl
   | cons y l ihl=>intro h;rw[List.map_cons,aa.kX,aa.kX,h y (by simp),ihl fun x hx=>h x (by simp[hx]),List.map_append]
  rw[aa.yP,aa.yP,aa.nG,aa.DY,aa.Ax,key t.t ih,List.map_append];congr 1
  split
  ·rename_i h
   rw[if_pos (by unfold bx;rcases h with h | h<;>simp[h])];rfl
  ·rfl
theorem Fy (t:aa) (hb:t.aR≤1000000000):ay Tryz.prog 23 [.agg t.cells] (gZ (t.bD 0 [])):=by
 have h:=K5 t 0 [] (by omega) (by omega) List.Pairwise.nil (by simpa using hb);have h2:ay Tryz.prog 44 [.agg t.cells,.int .i64 0,.nil] (gZ (t.bD 0 [])):=af.wk h (.cons (Wk.refl _) (.cons (Wk.refl _) (.cons Mf .nil)));refine af.ah ai Tryz.func23 rfl rfl (n:=5) rfl rfl ?_
 conv=>whnf
 repeat (first|refine lM ?_|((first|refine pC (h2) wR ?_|intro _);conv=>whnf))
 exact ak.pure (Wk.refl _)
def bJ (p:Prog):Prog:=⟨p.consts,.mk 5 0 [] [.mk 11 17 [] [],p.body,p.body.jg 20000]⟩
theorem MO {l:List Int} (hs:l.Pairwise (· < ·)) (h:l.length≠0) {c:Int} (hc:l.getD (l.length - 1) 0≤c): ∀ x∈l,x≤c:=fun x hx=>by
 obtain ⟨i,hi,rfl⟩:=List.getElem_of_mem hx;have hl:l.length - 1 < l.length:=by omega
 have e:l.getD (l.length - 1) 0=l[l.length - 1]:=by simp[List.getD,hl]
 rw[e] at hc;by_cases h1:i=l.length - 1
 ·subst h1;exact hc
 ·have:=List.pairwise_iff_getElem.1 hs i (l.length - 1) hi hl (by omega)
  omega
theorem aa.Ik {t x:aa} (hx:x∈t.t):x.dep < t.dep:=by
 have:=(aa.nS t.dep t.t 0).1 (by rw[←aa.qV];omega);have:=this.2 x hx;omega
theorem aa.Md (k:Int) (t:aa):(t.jg k).cnt=t.cnt:=by
 induction t using aa.ind with
 | h t ih=>
  have: ∀ l:List aa,(∀ x∈l,(x.jg k).cnt=x.cnt)→aa.bR (l.map (aa.jg k))=aa.bR l:=by
   intro l
   induction l with
   | nil=>intro _;rfl
   | cons x l ihl=>
    intro h;rw[List.map_cons,aa.bR,aa.bR,h x (by simp),ihl fun y hy=>h y (by simp[hy])]
  rw[aa.fD,aa.fD t,aa.Ka,this t.t ih]
def E2 (K a b:Int):Prop:=a=b∨(K≤a∧K≤b)
def tW (K:Int):List Int→List Int→Prop
 | [],l=>l= []
 | x::xs,l=> ∃ y ys,l=y::ys∧E2 K x y∧tW K xs ys
mutual
def aa.oO (K:Int):aa→aa→Prop
 | .mk op n v t,u=>u.op=op∧(if bx op=true then E2 K n u.n else u.n=n)∧tW K v u.v∧aa.bQ K t u.t
def aa.bQ (K:Int):List aa→List aa→Prop
 | [],l=>l= []
 | x::xs,l=> ∃ y ys,l=y::ys∧aa.oO K x y∧aa.bQ K xs ys
end
theorem aa.mO (K:Int) (t u:aa):t.oO K u↔u.op=t.op∧(if bx t.op=true then E2 K t.n u.n else u.n=t.n)∧tW K t.v u.v∧aa.bQ K t.t u.t:=by cases t;rw[aa.oO];rfl
theorem kH {K op n n':Int} {v v':List Int} {l l':List aa} (h:if bx op=true then E2 K n n' else n'=n) (hv:tW K v v') (hl:aa.bQ K l l'):(aa.mk op n v l).oO K (.mk op n' v' l'):=by
 rw[aa.oO];exact ⟨rfl,h,hv,hl⟩
theorem uH {K:Int}:aa.bQ K [] []:=by rw[aa.bQ]
theorem pW {K:Int} {x y:aa} (h:x.oO K y):aa.bQ K [x] [y]:=by rw[aa.bQ];exact ⟨_,_,rfl,h,uH⟩
section
variable {K:Int}
theorem E2.refl (a:Int):E2 K a a:=.inl rfl
theorem E2.low {a b c:Int} (h:E2 K a b) (hc:c < K):a=c↔b=c:=by
 rcases h with rfl | h
 ·exact Iff.rfl
 ·constructor<;>intro e<;>omega
theorem tW.refl: ∀ v:List Int,tW K v v
 | []=>rfl
 | x::v=>⟨x,v,rfl,.inl rfl,tW.refl v⟩
theorem tW.low {c:Int} (hc:c < K): ∀ {v w:List Int},tW K v w→(c∈v↔c∈w)
 | [],w,h=>by rw[show w= [] from h]
 | x::v,w,h=>by
  obtain ⟨y,ys,rfl,h1,h2⟩:=h;rw[List.mem_cons,List.mem_cons,tW.low hc h2];have:=h1.low hc;constructor
  ·rintro (e | e)
   ·exact .inl ((this.1 e.symm).symm)
   ·exact .inr e
  ·rintro (e | e)
   ·exact .inl ((this.2 e.symm).symm)
   ·exact .inr e
theorem tW.app: ∀ {v w v' w':List Int},tW K v w→tW K v' w'→tW K (v++v') (w++w')
 | [],w,v',w',h,h'=>by rw[show w= [] from h];exact h'
 | x::v,w,v',w',h,h'=>by
  obtain ⟨y,ys,rfl,h1,h2⟩:=h;exact ⟨y,ys++w',rfl,h1,tW.app h2 h'⟩
theorem jB: ∀ {a b c d:List aa},aa.bQ K a b→aa.bQ K c d→aa.bQ K (a++c) (b++d)
 | [],b,c,d,h,h'=>by rw[show b= [] by rw[aa.bQ] at h;exact h];exact h'
 | x::a,b,c,d,h,h'=>by
  rw[aa.bQ] at h;obtain ⟨y,ys,rfl,h1,h2⟩:=h;rw[List.cons_append,aa.bQ];exact ⟨y,ys++d,rfl,h1,jB h2 h'⟩
theorem AQ: ∀ {a b:List aa},aa.bQ K a b→b.length=a.length
 | [],b,h=>by rw[aa.bQ] at h;rw[h]
 | x::a,b,h=>by
  rw[aa.bQ] at h;obtain ⟨y,ys,rfl,_,h2⟩:=h;rw[List.length_cons,List.length_cons,AQ h2]
theorem gD: ∀ {a b:List aa},aa.bQ K a b→ ∀ k,(a.getD k iE).oO K (b.getD k iE)
 | [],b,h,k=>by
  rw[aa.bQ] at h;rw[h];exact kH (by rw[if_neg (by decide)]) rfl uH
 | x::a,b,h,k=>by
  rw[aa.bQ] at h;obtain ⟨y,ys,rfl,h1,h2⟩:=h
  cases k with
  | zero=>exact h1
  | succ k=>exact gD h2 k
theorem pV: ∀ {α:Type} (l:List α) (f g:α→aa),(∀ x∈l,(f x).oO K (g x))→aa.bQ K (l.map f) (l.map g)
 | _, [],f,g,_=>by rw[List.map_nil,List.map_nil,aa.bQ]
 | _,x::l,f,g,h=>by
  rw[List.map_cons,List.map_cons,aa.bQ];exact ⟨_,_,rfl,h x (List.mem_cons_self ..),pV l f g fun y hy=>h y (List.mem_cons_of_mem _ hy)⟩
theorem kW: ∀ {α:Type} (l:List α) (f g:α→List aa),(∀ x∈l,aa.bQ K (f x) (g x))→aa.bQ K (l.flatMap f) (l.flatMap g)
 | _, [],f,g,_=>by rw[List.flatMap_nil,List.flatMap_nil,aa.bQ]
 | _,x::l,f,g,h=>by
  rw[List.flatMap_cons,List.flatMap_cons];exact jB (h x (List.mem_cons_self ..)) (kW l f g fun y hy=>h y (List.mem_cons_of_mem _ hy))
theorem Ej (t:aa): ∀ {u:aa},t.oO K u→u.cnt=t.cnt:=by
 induction t using aa.ind with
 | h t ih=>
  intro u h;rw[aa.mO] at h
  have key: ∀ l:List aa,(∀ x∈l, ∀ {u:aa},x.oO K u→u.cnt=x.cnt)→ ∀ m,aa.bQ K l m→aa.bR m=aa.bR l:=by
   intro l
   induction l with
   | nil=>intro _ m hm;rw[aa.bQ] at hm;rw[hm]
   | cons x l ihl=>
    intro hx m hm;rw[aa.bQ] at hm;obtain ⟨y,ys,rfl,h1,h2⟩:=hm;rw[aa.bR,aa.bR,hx x (List.mem_cons_self ..) h1,ihl (fun z hz=>hx z (List.mem_cons_of_mem _ hz)) ys h2]
  rw[aa.fD,aa.fD,key _ ih _ h.2.2.2]
def Qq (K:Int) (a b:aa×List Int):Prop:=a.1.oO K b.1∧tW K a.2 b.2
def EX (K:Int):List (aa×List Int)→List (aa×List Int)→Prop
 | [],l=>l= []
 | x::xs,l=> ∃ y ys,l=y::ys∧Qq K x y∧EX K xs ys
theorem EX.app: ∀ {a b c d},EX K a b→EX K c d→EX K (a++c) (b++d)
 | [],b,c,d,h,h'=>by rw[show b= [] from h];exact h'
 | x::a,b,c,d,h,h'=>by
  obtain ⟨y,ys,rfl,h1,h2⟩:=h;exact ⟨y,ys++d,rfl,h1,EX.app h2 h'⟩
theorem EX.mem: ∀ {a b},EX K a b→(∀ x∈a, ∃ y∈b,Qq K x y)∧ ∀ y∈b, ∃ x∈a,Qq K x y
 | [],b,h=>by rw[show b= [] from h];exact ⟨fun x hx=>(by cases hx),fun x hx=>by cases hx⟩
 | x::a,b,h=>by
  obtain ⟨y,ys,rfl,h1,h2⟩:=h;obtain ⟨q1,q2⟩:=EX.mem h2;refine ⟨fun z hz=>?_,fun z hz=>?_⟩
  ·rcases List.mem_cons.1 hz with rfl | hz
   ·exact ⟨y,List.mem_cons_self ..,h1⟩
   ·obtain ⟨w,hw,hm⟩:=q1 z hz
    exact ⟨w,List.mem_cons_of_mem _ hw,hm⟩
  ·rcases List.mem_cons.1 hz with rfl | hz
   ·exact ⟨x,List.mem_cons_self ..,h1⟩
   ·obtain ⟨w,hw,hm⟩:=q2 z hz
    exact ⟨w,List.mem_cons_of_mem _ hw,hm⟩
theorem KU (t:aa): ∀ {u:aa} (sc sc':List Int) (deep:Int),t.oO K u→tW K sc sc'→EX K (t.met sc deep) (u.met sc' deep):=by
 induction t using aa.ind with
 | h t ih=>
  intro u sc sc' deep h hs;have h0:=h;rw[aa.mO] at h
  have key: ∀ (op:Int) (l:List aa),(∀ x∈l, ∀ {u:aa} (sc sc':List Int) (deep:Int),x.oO K u→tW K sc sc'→EX K (x.met sc deep) (u.met sc' deep))→ ∀ m sc sc' i i' deep,aa.bQ K l m→tW K sc sc'→tW K i i'→EX K (aa.gy op sc i l deep) (aa.gy op sc' i' m deep):=by
   intro op l
   induction l with
   | nil=>intro _ m sc sc' i i' deep hm _ _;rw[aa.bQ] at hm;rw[hm,aa.gy,aa.gy];rfl
   | cons x l ihl=>
    intro hx m sc sc' i i' deep hm h1 h2;rw[aa.bQ] at hm;obtain ⟨y,ys,rfl,k1,k2⟩:=hm;have hl:=AQ k2;rw[aa.gy,aa.gy];refine EX.app ?_ (ihl (fun z hz=>hx z (List.mem_cons_of_mem _ hz)) ys sc sc' i i' deep k2 h1 h2);have he:(ys= [])↔(l= []):=by rw[←List.length_eq_zero_iff,hl,List.length_eq_zero_iff]
    by_cases hc:eY op=true∨l= []
    ·rw[if_pos hc,if_pos (hc.imp id he.2)]
     exact hx x (List.mem_cons_self ..) _ _ _ k1 h2
    ·rw[if_neg hc,if_neg fun h=>hc (h.imp id he.1)]
     exact hx x (List.mem_cons_self ..) _ _ _ k1 h1
  rw[aa.nj,aa.nj,h.1];refine ⟨_,_,rfl,⟨h0,hs⟩,?_⟩
  split
  ·rfl
  ·exact key _ _ ih _ _ _ _ _ _ h.2.2.2 hs (hs.app h.2.2.1)
theorem HM {t u:aa} (h:t.oO K u) {c:Int} (hc:c < K):c∈cW t.all↔c∈cW u.all:=by
 have hm:=EX.mem (KU t [] [] 0 h (tW.refl []));rw[vL,vL]
 have hs: ∀ {a b:List Int},tW K a b→(a.contains c=false↔b.contains c=false):=fun {a b} h=>by
  have:=h.low hc;rw[←Bool.not_eq_true, ←Bool.not_eq_true,List.contains_iff_mem,List.contains_iff_mem,this]
 constructor
 ·rintro ⟨m,h1,h2,h3,h4⟩
  obtain ⟨m',q1,q2⟩:=hm.1 m h1;have q3:=(aa.mO K _ _).1 q2.1;have q4:=q3.2.1;rw[if_pos h2] at q4;have q5:=(q4.low hc).1 h4;refine ⟨m',q1,by rw[q3.1];exact h2,?_,q5⟩;rw[q5];rw[h4] at h3;exact (hs q2.2).1 h3
 ·rintro ⟨m',h1,h2,h3,h4⟩
  obtain ⟨m,q1,q2⟩:=hm.2 m' h1;have q3:=(aa.mO K _ _).1 q2.1;have q4:=q3.2.1;have h2':bx m.1.op=true:=by rw[←q3.1];exact h2
  rw[if_pos h2'] at q4;have q5:=(q4.low hc).2 h4;refine ⟨m,q1,h2',?_,q5⟩;rw[q5];rw[h4] at h3;exact (hs q2.2).2 h3
theorem Gx {V:List Int} (hV: ∀ v∈V,v < K) {t u:aa} (h:t.oO K u):m6 V u=m6 V t:=by
 unfold m6 fM;congr 1;refine List.filter_congr fun j hj=>?_;have hj':=List.mem_range.1 hj;have e:V.getD j 0=V[j]:=by rw[List.getD_eq_getElem?_getD,List.getElem?_eq_getElem hj'];rfl
 rw[e,Bool.eq_iff_iff,List.contains_iff_mem,List.contains_iff_mem,jR,jR];exact (HM h (hV _ (List.getElem_mem hj'))).symm
theorem KV {late:List Int} (hL: ∀ v∈late,v < K) (t:aa): ∀ {u:aa},t.oO K u→(t.ask late).oO K (u.ask late):=by
 induction t using aa.ind with
 | h t ih=>
  intro u h;rw[aa.mO] at h;obtain ⟨h1,h2,h3,h4⟩:=h
  have key: ∀ l:List aa,(∀ x∈l, ∀ {u:aa},x.oO K u→(x.ask late).oO K (u.ask late))→ ∀ m,aa.bQ K l m→aa.bQ K (l.map (aa.ask late)) (m.map (aa.ask late)):=by
   intro l
   induction l with
   | nil=>intro _ m hm;rw[aa.bQ] at hm;rw[hm,List.map_nil,aa.bQ]
   | cons x l ihl=>
    intro hx m hm;rw[aa.bQ] at hm;obtain ⟨y,ys,rfl,k1,k2⟩:=hm;rw[List.map_cons,List.map_cons,aa.bQ];exact ⟨_,_,rfl,hx x (List.mem_cons_self ..) k1,ihl (fun z hz=>hx z (List.mem_cons_of_mem _ hz)) ys k2⟩
  have h5:=key _ ih _ h4;have hsame:aa.oO K (.mk t.op t.n t.v (t.t.map (aa.ask late))) (.mk t.op u.n u.v (u.t.map (aa.ask late))):=kH h2 h3 h5;rw[aa.oP,aa.oP,h1];unfold Ng;by_cases hn:bx t.op=true
  ·rw[if_pos hn] at h2
   have hc:late.contains u.n=late.contains t.n:=by
    rw[Bool.eq_iff_iff,List.contains_iff_mem,List.contains_iff_mem];constructor
    ·intro hm
     rw[(h2.low (hL _ hm)).2 rfl];exact hm
    ·intro hm
     rw[(h2.low (hL _ hm)).1 rfl];exact hm
   rw[hc]
   split
   ·split
    ·exact kH (by rw[if_neg (by decide)]) rfl (pW hsame)
    split
    ·exact kH (by rw[if_pos (by decide)];exact h2) h3 h5
    ·exact hsame
   ·exact hsame
  ·have hno: ¬t.op=1∧ ¬t.op=2:=⟨fun e=>hn (by rw[e];rfl),fun e=>hn (by rw[e];rfl)⟩
   simp only[if_neg hno.1,if_neg hno.2,ite_self];exact hsame
theorem BJ {v w:Int} {e f:aa} (hv:E2 K v w) (h:e.oO K f):(lg v e).oO K (lg w f):=kH (by rw[if_neg (by decide)]) ⟨w, [],rfl,hv,rfl⟩ (pW h)
theorem Ck (v:Int) {e f:aa} (h:e.oO K f):(mq v e).oO K (mq v f):=kH (by rw[if_neg (by decide)]) rfl (pW (kH (by rw[if_pos (by decide)];exact E2.refl _) rfl (pW h)))
theorem x5: ∀ {l m:List aa} {t u:aa},aa.bQ K l m→t.oO K u→(gT l t).oO K (gT m u)
 | [],m,t,u,h,h'=>by rw[aa.bQ] at h;rw[h];exact h'
 | x::l,m,t,u,h,h'=>by
  rw[aa.bQ] at h;obtain ⟨y,ys,rfl,h1,h2⟩:=h;show aa.oO K (.mk x.op x.n x.v (x.t++ [gT l t])) (.mk y.op y.n y.v (y.t++ [gT ys u]));rw[aa.mO] at h1 ⊢;refine ⟨h1.1,h1.2.1,h1.2.2.1,jB h1.2.2.2 ?_⟩;rw[aa.bQ];exact ⟨_,_,rfl,x5 h2 h',by rw[aa.bQ]⟩
theorem HN (t:aa):t.oO K t:=by
 induction t using aa.ind with
 | h t ih=>
  rw[aa.mO];refine ⟨rfl,?_,tW.refl _,?_⟩
  ·split
   ·exact E2.refl _
   ·rfl
  ·have:=pV t.t id id ih
   rwa [List.map_id] at this
theorem JD {A A':Int→Bool} {N:Int} {V:List Int} {T T':List aa} {nx nx':Int} (hV: ∀ v∈V,v < K∧A v=A' v) (hT:aa.bQ K T T') (h1:K≤nx) (h2:K≤nx'):(gU A N V T nx).1.oO K (gU A' N V T' nx').1∧nx≤(gU A N V T nx).2∧nx'≤(gU A' N V T' nx').2:=by
 have hp:cx A' V T'=cx A V T:=by
  unfold cx;refine List.map_congr_left fun k hk=>?_;have hk':=List.mem_range.1 hk;have e:V.getD k 0=V[k]:=by rw[List.getD_eq_getElem?_getD,List.getElem?_eq_getElem hk'];rfl
  rw[e,(hV _ (List.getElem_mem hk')).2,((aa.mO K _ _).1 (gD hT k)).1]
 have hl:br V T'=br V T:=by
  unfold br;exact List.map_congr_left fun k _=>Gx (fun v hv=>(hV v hv).1) (gD hT k)
 have htmp: ∀ pr lt k,0≤ou pr lt k:=fun pr lt k=>by unfold ou;omega
 have hlv: ∀ lt, ∀ v∈eF V lt,v < K:=fun lt v hv=>by
  unfold eF at hv;obtain ⟨k,hk,rfl⟩:=List.mem_map.1 hv;have hk':=List.mem_range.1 (List.mem_filter.1 hk).1;have e:V.getD k 0=V[k]:=by rw[List.getD_eq_getElem?_getD,List.getElem?_eq_getElem hk'];rfl
  rw[e];exact (hV _ (List.getElem_mem hk')).1
 obtain ⟨pr,hpr⟩: ∃ pr,pr=cx A V T:=⟨_,rfl⟩
 obtain ⟨ln,hln⟩: ∃ ln,ln=br V T:=⟨_,rfl⟩
 obtain ⟨lt,hlt⟩: ∃ lt,lt=gl N pr ln:=⟨_,rfl⟩
 have hE:aa.bQ K (T.map (aa.ask (eF V lt))) (T'.map (aa.ask (eF V lt))):=by
  have key: ∀ l m:List aa,aa.bQ K l m→aa.bQ K (l.map (aa.ask (eF V lt))) (m.map (aa.ask (eF V lt))):=by
   intro l
   induction l with
   | nil=>intro m hm;rw[aa.bQ] at hm;rw[hm,List.map_nil,aa.bQ]
   | cons x l ihl=>
    intro m hm;rw[aa.bQ] at hm;obtain ⟨y,ys,rfl,k1,k2⟩:=hm;rw[List.map_cons,List.map_cons,aa.bQ];exact ⟨_,_,rfl,KV (hlv lt) x k1,ihl ys k2⟩
  exact key _ _ hT
 obtain ⟨E,hEe⟩: ∃ E,E=T.map (aa.ask (eF V lt)):=⟨_,rfl⟩
 obtain ⟨E',hEe'⟩: ∃ E,E=T'.map (aa.ask (eF V lt)):=⟨_,rfl⟩
 rw[←hEe, ←hEe'] at hE
 have hfix: ∀ lv,aa.bQ K (cj (cC V E pr lt ln) lv) (cj (cC V E' pr lt ln) lv):=fun lv=>by
  unfold cj cC;rw[List.filter_map,List.filter_map,List.map_map,List.map_map];refine pV _ _ _ fun grp _=>?_;exact kH (by rw[if_neg (by decide)]) (tW.refl _) (pV _ _ _ fun k _=>gD hE k)
 refine ⟨?_,?_,?_⟩
 ·unfold gU
  dsimp only;rw[hp,hl, ←hpr, ←hln, ←hlt, ←hEe, ←hEe'];refine x5 (jB ?_ ?_) (gD hE _)
  ·have: ∀ l:List aa,aa.bQ K l l:=fun l=>by
    have:=pV l id id fun x _=>HN (K:=K) x;rwa [List.map_id] at this
   exact this _
  ·split
   ·unfold jh
    refine jB (hfix 0) (kW _ _ _ fun k _=>?_)
    split
    ·rw[aa.bQ]
     exact ⟨_,_,rfl,Ck _ (gD hE k),by rw[aa.bQ]⟩
    split
    ·rw[aa.bQ]
    ·rw[aa.bQ]
     exact ⟨_,_,rfl,BJ (E2.refl _) (gD hE k),hfix _⟩
   ·unfold fF
    refine jB (jB (kW _ _ _ fun k _=>?_) (kW _ _ _ fun k _=>hfix _)) (kW _ _ _ fun k _=>?_)
    ·split
     ·rw[aa.bQ]
     ·rw[aa.bQ]
      refine ⟨_,_,rfl,BJ ?_ (gD hE k),by rw[aa.bQ]⟩;have:=htmp pr lt k
      split
      ·exact .inr ⟨by omega,by omega⟩
      ·exact E2.refl _
    ·split
     ·rw[aa.bQ]
      refine ⟨_,_,rfl,Ck _ ?_,by rw[aa.bQ]⟩;have:=htmp pr lt k
      split
      ·exact gD hE k
      ·exact kH (by rw[if_pos (by decide)];exact .inr ⟨by omega,by omega⟩) rfl uH
     ·rw[aa.bQ]
 ·unfold gU
  dsimp only;have:=htmp (cx A V T) (gl N (cx A V T) (br V T)) V.length
  split<;>omega
 ·unfold gU
  dsimp only;have:=htmp (cx A' V T') (gl N (cx A' V T') (br V T')) V.length
  split<;>omega
theorem Es {A A':Int→Bool} (t:aa): ∀ {nx nx':Int},(∀ v∈t.vars,v < K∧A v=A' v)→K≤nx→K≤nx'→(t.iy A nx).1.oO K (t.iy A' nx').1∧nx≤(t.iy A nx).2∧nx'≤(t.iy A' nx').2:=by
 induction t using aa.ind with
 | h t ih=>
  intro nx nx' hv h1 h2
  have key: ∀ l:List aa,(∀ x∈l, ∀ {nx nx':Int},(∀ v∈x.vars,v < K∧A v=A' v)→K≤nx→K≤nx'→(x.iy A nx).1.oO K (x.iy A' nx').1∧nx≤(x.iy A nx).2∧nx'≤(x.iy A' nx').2)→ ∀ nx nx',(∀ v∈aa.dI l,v < K∧A v=A' v)→K≤nx→K≤nx'→aa.bQ K (aa.bZ A l nx).1 (aa.bZ A' l nx').1∧nx≤(aa.bZ A l nx).2∧nx'≤(aa.bZ A' l nx').2:=by
   intro l
   induction l with
   | nil=>intro _ nx nx' _ _ _;rw[aa.bZ,aa.bZ];exact ⟨by rw[aa.bQ],Int.le_refl _,Int.le_refl _⟩
   | cons x l ihl=>
    intro hx nx nx' hv h1 h2;rw[aa.dI] at hv;obtain ⟨a1,a2,a3⟩:=hx x (List.mem_cons_self ..) (fun v h=>hv v (List.mem_append.2 (.inl h))) h1 h2;obtain ⟨b1,b2,b3⟩:=ihl (fun z hz=>hx z (List.mem_cons_of_mem _ hz)) (x.iy A nx).2 (x.iy A' nx').2 (fun v h=>hv v (List.mem_append.2 (.inr h))) (by omega) (by omega);rw[aa.bZ,aa.bZ];dsimp only;exact ⟨by rw[aa.bQ];exact ⟨_,_,rfl,a1,b1⟩,by omega,by omega⟩
  rw[aa.kD] at hv;obtain ⟨k1,k2,k3⟩:=key t.t ih nx nx' (fun v h=>hv v (List.mem_append.2 (.inr h))) h1 h2;rw[aa.mU,aa.mU];by_cases h7:t.op=7
  ·rw[if_pos h7,if_pos h7]
   obtain ⟨r1,r2,r3⟩:=JD (A:=A) (A':=A') (N:=t.n) (V:=t.v) (nx:=(aa.bZ A t.t nx).2) (nx':=(aa.bZ A' t.t nx').2) (fun v h=>hv v (List.mem_append.2 (.inl h))) k1 (by omega) (by omega);exact ⟨r1,by omega,by omega⟩
  ·rw[if_neg h7,if_neg h7]
   refine ⟨kH ?_ (tW.refl _) k1,k2,k3⟩
   split
   ·exact E2.refl t.n
   ·rfl
end
theorem Ag {t:aa} {v:Int} (h:v∈t.vars):v < bO t:=by
 have hm:v∈dX t:=(mR t v).2 h;have hne:dX t≠ []:=fun e=>by rw[e] at hm;cases hm
 have hpos:=List.length_pos_iff.2 hne;unfold bO;rw[if_neg hne];have:=MO (qE t.vars) (by show (dX t).length≠0;omega) (c:=(dX t).getD ((dX t).length - 1) 0) (Int.le_refl _) v hm;omega
theorem Je {t:aa} (h:dX t≠ []):bO t - 1∈t.vars:=by
 have hpos:=List.length_pos_iff.2 h;have hl:(dX t).length - 1 < (dX t).length:=by omega
 unfold bO;rw[if_neg h,List.getD_eq_getElem?_getD,List.getElem?_eq_getElem hl];have:=(mR t _).1 (List.getElem_mem hl);show (dX t)[(dX t).length - 1] + 1 - 1∈t.vars;rwa [show (dX t)[(dX t).length - 1] + 1 - 1=(dX t)[(dX t).length - 1] by omega]
section
variable {p:Prog} (h:c7 p 0) (hm: ∀ x∈p.body.vars,x≤10000) (hb:dX p.body≠ [])
include h in
theorem xo (v:Int):(bJ p).body.iQ.contains v=true↔v∈p.body.iQ∨v - 20000∈p.body.iQ:=by
 have e:(bJ p).body.iQ=p.body.iQ++p.body.iQ.map (· + 20000):=by
  show aa.iQ (.mk 5 0 [] [.mk 11 17 [] [],p.body,p.body.jg 20000])=_;rw[h.jg (by omega) (by omega)];simp[aa.iQ,aa.kX,aa.Oc]
 rw[List.contains_iff_mem,e,List.mem_append,List.mem_map];constructor
 ·rintro (h1 | ⟨a,h1,rfl⟩)
  ·exact .inl h1
  ·exact .inr (by rwa [show a + 20000 - 20000=a by omega])
 ·rintro (h1 | h1)
  ·exact .inl h1
  ·exact .inr ⟨_,h1,by omega⟩
include h hm in
theorem FK (nx:Int) (hn:bO p.body≤nx):(p.body.iy (fun v=>(bJ p).body.iQ.contains v) nx).1.cnt=(lU p).body.cnt:=by
 have hk:=(Es (K:=bO p.body) (A:=fun v=>p.body.iQ.contains v) (A':=fun v=>(bJ p).body.iQ.contains v) p.body (nx:=bO p.body) (nx':=nx) (fun v hv=>⟨Ag hv,by
  have h0:=(h.fits.2.2 v hv).1
  have hno:v - 20000∉p.body.iQ:=fun hx=>by
   have h1:=(h.fits.2.2 _ (h.names _ (.inr hx))).1;have h2:=hm v hv;omega
  rw[Bool.eq_iff_iff,xo h,List.contains_iff_mem]
  simp[hno]⟩) (Int.le_refl _) hn).1
 exact Ej _ hk
include h hm in
theorem FL (nx:Int) (hn:bO p.body + 20000≤nx):((p.body.jg 20000).iy (fun v=>(bJ p).body.iQ.contains v) nx).1.cnt=(lU p).body.cnt:=by
 rw[h.jg (by omega) (by omega)];have e2:=Nj (A:=fun v=>(bJ p).body.iQ.contains (v + 20000)) (B:=fun v=>(bJ p).body.iQ.contains v) (s:=20000) (fun _=>rfl) p.body (nx - 20000);rw[show nx - 20000 + 20000=nx by omega] at e2;rw[e2];show (aa.sh 20000 _).cnt=_;rw[aa.J5]
 have hk:=(Es (K:=bO p.body) (A:=fun v=>p.body.iQ.contains v) (A':=fun v=>(bJ p).body.iQ.contains (v + 20000)) p.body (nx:=bO p.body) (nx':=nx - 20000) (fun v hv=>⟨Ag hv,by
  have h0:=(h.fits.2.2 v hv).1
  have hno:v + 20000∉p.body.iQ:=fun hx=>by
   have h2:=hm _ (h.names _ (.inr hx));omega
  rw[Bool.eq_iff_iff,xo h,List.contains_iff_mem,show v + 20000 - 20000=v by omega]
  simp[hno]⟩) (Int.le_refl _) (by omega)).1
 exact Ej _ hk
include h hb in
theorem CR:bO p.body + 20000≤bO (bJ p).body∧bO p.body≤bO (bJ p).body:=by
 have h1:=Je hb
 have e:(bJ p).body.vars=p.body.vars++p.body.vars.map (· + 20000):=by
  show aa.vars (.mk 5 0 [] [.mk 11 17 [] [],p.body,p.body.jg 20000])=_;rw[h.jg (by omega) (by omega)];simp[aa.vars,aa.dI,aa.Fp]
 have h2:bO p.body - 1 + 20000∈(bJ p).body.vars:=by
  rw[e,List.mem_append,List.mem_map];exact .inr ⟨_,h1,rfl⟩
 have:=Ag h2;omega
end
theorem HV (p:Prog):(lU (bJ p)).body=.mk 5 0 [] (aa.bZ (fun v=>(bJ p).body.iQ.contains v) [.mk 11 17 [] [],p.body,p.body.jg 20000] (bO (bJ p).body)).1:=by
 have h5:(bJ p).body.op=5:=rfl;show ((bJ p).body.iy _ _).1=_;rw[aa.mU,if_neg (by rw[h5];omega)];rfl
theorem xC {p q:Prop} (k:q) (h:q→p:=by intro hq;first | exact aE.sP (some 48) rfl [8] [9] ai mixed hq | exact aE.sP (some 71) rfl [] [] ai mixed hq):p:=h k
theorem wW (p:Prog) (hbb:Datum.aD p.consts + p.body.aR≤1048576):ay Tryz.prog 9 [.agg p.cells] (.bool true):=by
 have hlen:=Datum.bn p.consts;have hbl:(p.body.bD 0 []).length≤1048576:=by have:=(p.body.pX 0 [] List.Pairwise.nil).2.1;rw[List.length_nil] at this;omega
 have hfw:=HA p.body 100 (by omega) (by omega);have hfa:=Hz p.consts 2000 (by omega) (by omega);by_cases hf:0≤p.body.qX 100
 case neg=>
  rw[decide_eq_false hf] at hfw;refine af.ah ai Tryz.func9 rfl rfl (n:=104) rfl rfl ?_
  conv=>whnf
  repeat' (first|refine aY ?_|((first|(((apply zY;intro hg));(conv=>whnf);(repeat ((first|refine pC (hfa) wR ?_|refine aH ?_);conv=>whnf));exact pZ)|refine pC (xj) wR ?_|refine pC (hfw) wR ?_|intro _);conv=>whnf)|(refine zX (fun hc=>?_) (fun hc=>?_)<;>(try simp only[SY] at hc)<;>(conv=>whnf)))
  all_goals exact ak.pure (Wk.refl _)
 have hcn:=p.body.Lc 100 hf;have hcnp:=p.body.qh;rw[decide_eq_true hf] at hfw;have hbk:=Bc p (by omega) (by omega);have hwb:=p.body.J9 20000
 have hbb2:(bJ p).body.aR≤2400000:=by
  show aa.aR (.mk 5 0 [] [.mk 11 17 [] [],p.body,p.body.jg 20000])≤_;simp only[aa.aR,aa.aD,List.length_nil];omega
 have hcn2:(bJ p).body.cnt≤205:=by
  have:=p.body.Md 20000;show aa.cnt (.mk 5 0 [] [.mk 11 17 [] [],p.body,p.body.jg 20000])≤_;simp only[aa.cnt,aa.bR];omega
 have hcs:=Be 220 2400000 (by decide) (by decide) (by decide) (bJ p) (by omega) (by omega) (by omega) (by show p.consts.length≤_;omega);have hbk2:=uS 220 2400000 (by decide) (by decide) (bJ p) (by omega) (by omega);refine af.ah ai Tryz.func9 rfl rfl (n:=104) rfl rfl ?_
 conv=>whnf
 repeat' (first|refine aY ?_|((first|((first|(apply zY;intro hg)|apply zZ);(conv=>whnf);(repeat ((first|refine pC (hfa) wR ?_|refine pC (J8 _ p.body (by omega)) wR ?_|refine aH ?_);conv=>whnf));exact pZ)|refine pC (xj) wR ?_|refine pC (hfw) wR ?_|refine pC (Fy p.body (by omega)) wR ?_|refine pC (Bd p (by omega) (by omega) (by omega)) wR ?_|refine xC ?_|intro _);conv=>whnf)|(refine zX (fun hc=>?_) (fun hc=>?_)<;>(try simp only[SY] at hc)<;>(conv=>whnf)))
 ·exact ak.pure (Wk.refl _)
 ·exact ak.pure (Wk.refl _)
 rename_i _ hcc _ _
 have hcw:ay Tryz.prog 13 [.agg [.sl 5 (p.consts.map Datum.pv) none,.int .i64 5,.int .i64 0,.nil,.sl 4 [.agg [.int .i64 11,.int .i64 17,.nil,.nil],.agg p.body.cells,.agg (p.body.jg 20000).cells] none]] (.bp [.agg (ee (bJ p)).1.cells,.int .i64 (ee (bJ p)).2]):=by
  refine af.wk hcs (.cons (Wk.agg (.cons (Wk.refl _) (.cons (Wk.refl _) (.cons (Wk.refl _) (.cons (Wk.dM rfl) (.cons (Wk.row ?_) .nil)))))) .nil);refine .cons ?_ (.cons ?_ (.cons ?_ .nil))
  ·exact .cons (Wk.refl _) (.cons (Wk.refl _) (.cons (Wk.dM rfl) (.cons (Wk.dM rfl) .nil)))
  ·rw[aa.fB]
   exact .refl _
  ·rw[aa.fB]
   exact .refl _
 by_cases h10:(ee (bJ p)).2=0
 ·obtain ⟨g1,g2,g3⟩:=nQ h10
  have hmx: ∀ x∈p.body.vars,x≤10000:=by
   obtain ⟨f1,f2,f3⟩:=nQ hc.1.1;have hbd:=p.body.yQ (by have:=f1.fits.2.1;omega);intro x hx;refine MO (p.body.pX 0 [] List.Pairwise.nil).1 (by omega) (c:=10000) ?_ x (by rw[hbd,mR];exact hx);exact hc.2
  obtain ⟨f1,f2,f3⟩:=nQ hc.1.1;have hd2:(lU (bJ p)).body.dep≤400:=g2.fits.2.1;have hd1:(lU p).body.dep≤400:=f2.fits.2.1;have hcb:=hbk2;rw[g3] at hcb;rw[g3] at hcw;rw[f3] at hbk
  have hb9:dX p.body≠ []:=by
   intro h;have:=p.body.yQ (by have:=f1.fits.2.1;omega);rw[h] at this;have h2:=hc.1.2;rw[this] at h2;exact h2 rfl
  have hnx:=CR f1 hb9;have e':=HV p;have c1:=FK f1 hmx (bO (bJ p).body) hnx.2;have hle9:=Ig (fun v=>(bJ p).body.iQ.contains v) p.body (bO (bJ p).body);have c2:=FL f1 hmx (p.body.iy (fun v=>(bJ p).body.iQ.contains v) (bO (bJ p).body)).2 (by omega);have e3:(aa.bZ (fun v=>(bJ p).body.iQ.contains v) [.mk 11 17 [] [],p.body,p.body.jg 20000] (bO (bJ p).body)).1= [.mk 11 17 [] [],(p.body.iy (fun v=>(bJ p).body.iQ.contains v) (bO (bJ p).body)).1,((p.body.jg 20000).iy (fun v=>(bJ p).body.iQ.contains v) (p.body.iy (fun v=>(bJ p).body.iQ.contains v) (bO (bJ p).body)).2).1]:=rfl;rw[e3] at e'
  obtain ⟨L3,hL⟩: ∃ l,l= [aa.mk 11 17 [] [],(p.body.iy (fun v=>(bJ p).body.iQ.contains v) (bO (bJ p).body)).1,((p.body.jg 20000).iy (fun v=>(bJ p).body.iQ.contains v) (p.body.iy (fun v=>(bJ p).body.iQ.contains v) (bO (bJ p).body)).2).1]:=⟨_,rfl⟩
  rw[←hL] at e';have hlen3:L3.length=3:=by rw[hL];rfl
  have hk1:(L3.getD (L3.length - 2) pK.d).cnt=(lU p).body.cnt:=by
   rw[hlen3,hL];exact c1
  have hk2:(L3.getD (L3.length - 1) pK.d).cnt=(lU p).body.cnt:=by
   rw[hlen3,hL];exact c2
  clear hL c1 c2
  have hmem: ∀ i,i < 3→L3.getD i pK.d∈(lU (bJ p)).body.t:=fun i hi=>by
   rw[e'];show L3.getD i pK.d∈L3;have:i < L3.length:=by omega
   rw[List.getD_eq_getElem?_getD,List.getElem?_eq_getElem this];exact List.getElem_mem this
  have hbi: ∀ i,i < 3→(L3.getD i pK.d).aR≤1000000000:=fun i hi=>by
   have:=aa.cu (hmem i hi);have h2:=(lU (bJ p)).body.bu;simp only at hcb;omega
  have hsz: ∀ i,i < 3→ay Tryz.prog 25 [.agg (L3.getD i pK.d).cells] (.int .i64 (L3.getD i pK.d).cnt):=fun i hi=>by
   have h1:=HI _ (hbi i hi);have:=aa.Ik (hmem i hi);rwa [aa.Kv _ _ (by omega)] at h1
  have hsq:ay Tryz.prog 25 [.agg (lU p).body.cells] (.int .i64 (lU p).body.cnt):=by
   have h1:=HI _ hbk;rwa [aa.Kv _ _ (by show 0 + (lU p).body.dep < 1000;omega)] at h1
  have hs1:=hsz (L3.length - 2) (by omega);have hs2:=hsz (L3.length - 1) (by omega);rw[hk1] at hs1;rw[hk2] at hs2;have q1:L3.getD (L3.length - 2) pK.d=L3[L3.length - 2]'(by omega):=by rw[List.getD_eq_getElem?_getD,List.getElem?_eq_getElem (by omega)];rfl
  have q2:L3.getD (L3.length - 1) pK.d=L3[L3.length - 1]'(by omega):=by rw[List.getD_eq_getElem?_getD,List.getElem?_eq_getElem (by omega)];rfl
  rw[q1] at hs1;rw[q2] at hs2;rw[f3]
  have hcw2:ay Tryz.prog 13 [.agg [.sl 5 (p.consts.map Datum.pv) none,.int .i64 5,.int .i64 0,.nil,.sl 4 [.agg [.int .i64 11,.int .i64 17,.nil,.nil],.agg p.body.cells,.agg (p.body.jg 20000).cells] none]] (.bp [.agg [.sl 5 (p.consts.map Datum.pv) none,.int .i64 5,.int .i64 0,.sl 1 [] none,.sl 4 (L3.map aa.pv) none],.int .i64 0]):=by
   have e2:(lU (bJ p)).cells= [.sl 5 (p.consts.map Datum.pv) none,.int .i64 5,.int .i64 0,.sl 1 [] none,.sl 4 (L3.map aa.pv) none]:=by
    show PV.sl 5 (p.consts.map Datum.pv) none::(lU (bJ p)).body.cells=_;rw[e'];rfl
   rw[←e2];exact hcw
  conv=>whnf
  repeat' (first|refine aY ?_|((first|(((apply zY;intro hg));(conv=>whnf);(repeat ((first|refine pC (hs1) wR ?_|refine pC (hs2) wR ?_|refine pC (hsq) wR ?_|refine aH ?_);conv=>whnf));exact pZ)|refine pC (hcw2) wR ?_|refine xC ?_|intro _);conv=>whnf)|(refine zX (fun hc=>?_) (fun hc=>?_)<;>(try simp only[SY] at hc)<;>(conv=>whnf)))
  exact ak.pure (Wk.bool (by simp;omega))
 conv=>whnf
 repeat' (first|refine aY ?_|((first|refine pC (hcw) wR ?_|intro _);conv=>whnf)|(refine zX (fun hc=>?_) (fun hc=>?_)<;>(try simp only[SY] at hc)<;>first|omega|(conv=>whnf)))
 exact ak.pure (Wk.refl _)
open Go.RowKit (Below)
open Go.ChangeShapes
def Fz.of (w:World):Fz:=fun b o=>w.cell? ⟨b,o,none⟩
theorem aP.start (w:World):aP w (Fz.of w) [] w:=⟨Below.refl _ w,fun _ _ _ h=>h,by simp,.nil⟩
theorem si {α:Type} {p:Nat→α→Prop}: ∀ {n:Nat},(∀ i,i < n→ ∃ a,p i a)→ ∃ l:List α,l.length=n∧ ∀ i a,l[i]?=some a→p i a
 | 0,_=>⟨[],rfl,by simp⟩
 | n + 1,h=>by
  obtain ⟨l,h1,h2⟩:=si (n:=n) fun i hi=>h i (by omega);obtain ⟨a,ha⟩:=h n (by omega);refine ⟨l++ [a],by simp[h1],fun i b hb=>?_⟩;by_cases hi:i < l.length
  ·rw[List.getElem?_append_left hi] at hb;exact h2 i b hb
  ·rw[List.getElem?_append_right (by omega)] at hb
   have h0:i - l.length=0:=by
    rcases Nat.eq_zero_or_pos (i - l.length) with h | h
    ·exact h
    ·rw[List.getElem?_eq_none (by simp;omega)] at hb;cases hb
   rw[h0] at hb;simp at hb;obtain rfl:i=n:=by omega
   rwa [←hb]
section
variable {H:Type} {enc:TypeId×Value→H} {P:Program} {w:World} {UB:DataW H→Nat} {UBs:List (DataW H)→Nat}
structure AJ (UB:DataW H→Nat) (UBs:List (DataW H)→Nat):Prop where
 nil:UBs []=0
 cons: ∀ x l,UBs (x::l)=UB x + UBs l
 agg: ∀ l,1 + UBs l≤UB (.agg l)
 slice: ∀ l m,1 + UBs l≤UB (.slice l m)
 str: ∀ s,s.length + 1≤UB (.lit (.string s))
 pos: ∀ d,1≤UB d
def Rd {α:Type} (enc:TypeId×Value→H) (P:Program) (w:World) (UB:DataW H→Nat) (n:Nat) (t:TypeId) (cells:α→List PV) (bk:α→Nat):Prop:=
 ∀ cs x,DataW.trod enc P w 0 (fun _=>true) true n t cs=some x→ ∃ a:α,aQ (Fz.of w) (cells a) cs∧bk a≤UB x.1
theorem rQ (hB:AJ UB UBs) {t:TypeId} {k:IntKind} (ht:P.underlying t=some (.int k)) (n:Nat):Rd enc P w UB n t (fun n:Int=> [.int k n]) fun _=>1:=by
 intro cs x h;obtain ⟨m,rfl,rfl,_⟩:=DataW.trod_int ht h;exact ⟨m,by simp only[aQ,aC,and_true];exact rfl,hB.pos _⟩
theorem N0 (hB:AJ UB UBs) {t:TypeId} (ht:P.underlying t=some .string) (n:Nat):Rd enc P w UB n t (fun s:List UInt8=> [.str s]) fun s=>s.length:=by
 intro cs x h;obtain ⟨s,rfl,rfl,hs⟩:=DataW.trod_string ht h;refine ⟨s.data.toList,?_,by have:=hB.str s.data.toList;show s.data.toList.length≤UB (.lit (.string s.data.toList));omega⟩
 have:s.data.toList.length≤9223372036854775807:=by
  have h1:s.data.toList.length=s.size:=Array.length_toList;have h2:maxLen≤9223372036854775807:=by simp only[maxLen];omega
  omega
 exact cg.2 ⟨⟨rfl,by unfold aC;exact ⟨rfl,this⟩⟩,cG _⟩
theorem Fg {α:Type} {pv:α→PV} {cells:α→List PV} [c:cz pv cells] {s b o:Nat} (hs: ∀ a,(cells a).length=s): ∀ (l:List α) (i:Nat),
  (∀ j a,l[j]?=some a→ ∃ cs,w.cells? 0 ((⟨b,o,none⟩:Addr).add ((i + j) * s)) s=some cs∧aQ (Fz.of w) (cells a) cs)→aT (Fz.of w) s b (o + i * s) (l.map pv)
 | [],_,_=>by simp[aT]
 | a::l,i,h=>by
  rw[List.map_cons,r7];obtain ⟨cs,h1,h2⟩:=h 0 a rfl;obtain ⟨_,h3,h4⟩:=World.cells?_some h1;refine ⟨⟨by rw[c.eq];exact hs a,?_⟩,?_⟩
  ·rw[c.eq,aZ]
   refine ⟨cs,h2,fun j u hu=>?_⟩
   have hj:j < cs.length:=by
    rcases Nat.lt_or_ge j cs.length with h | h
    ·exact h
    ·rw[List.getElem?_eq_none h] at hu;cases hu
   have:=h4 j (by omega);rw[hu,Addr.add_lit,Addr.add_lit] at this;simpa[Fz.of] using this
  ·have:=Fg (pv:=pv) hs l (i + 1) fun j a ha=>by
    have:=h (j + 1) a (by simpa using ha);rwa [show i + (j + 1)=i + 1 + j by omega] at this
   rwa [show o + (i + 1) * s=o + i * s + s by rw[Nat.succ_mul];omega] at this
def jV {α:Type} (bk:α→Nat):List α→Nat
 | []=>0
 | a::l=>bk a + jV bk l
theorem Cs (hB:AJ UB UBs) {α:Type} {bk:α→Nat}: ∀ (l:List α) (ds:List (DataW H)),l.length≤ds.length→(∀ (i:Nat) (a:α) (d:DataW H),l[i]?=some a→ds[i]?=some d→bk a≤UB d)→jV bk l≤UBs ds
 | [],_,_,_=>by simp[jV]
 | a::l, [],h,_=>by simp at h
 | a::l,d::ds,h,k=>by
  rw[jV,hB.cons];have h1:=k 0 a d rfl rfl;have h2:=Cs hB l ds (by simpa using h) fun i a d ha hd=>k (i + 1) a d (by simpa using ha) (by simpa using hd);omega
theorem qB (hB:AJ UB UBs) {n:Nat} {t e:TypeId} (ht:P.underlying t=some (.slice e)) {s:Nat} (hs:P.cellsOf e=s) (hp:0 < s) {α:Type} {pv:α→PV} {cells:α→List PV} [c:cz pv cells] {bk:α→Nat}
  (hc: ∀ a,(cells a).length=s) (he: ∀ m,m < n→Rd enc P w UB m e cells bk):Rd enc P w UB n t (fun l:List α=> [.sl s (l.map pv) none]) fun l=>1 + jV bk l:=by
 intro cs x h
 rcases DataW.trod_slice ht h with ⟨rfl,rfl⟩ | ⟨a,len,cap,elems,rest,m,rfl,rfl,rfl,_,hlc,hcm,hel,hx,hr,_⟩
 ·refine ⟨[],?_,by have:=hB.pos (DataW.nil:DataW H);simpa[jV] using this⟩
  exact cg.2 ⟨⟨rfl,by unfold aC;exact ⟨by simp,.inl ⟨rfl,rfl⟩⟩⟩,cG _⟩
 ·have hx': ∀ i,i < len→ ∃ a':α, ∃ cs d,elems[i]?=some d∧w.cells? 0 (a.add (i * s)) s=some cs∧aQ (Fz.of w) (cells a') cs∧bk a'≤UB d.1:=by
   intro i hi;have h1:=hx i hi;have h2:elems[i]?=some elems[i]:=List.getElem?_eq_getElem (by omega);rw[h2,hs] at h1;obtain ⟨cs,h3,h4⟩:=Option.bind_eq_some_iff.1 h1;obtain ⟨a',h5,h6⟩:=he m (by omega) cs _ h4;exact ⟨a',cs,_,h2,h3,h5,h6⟩
  obtain ⟨l,hl,hl2⟩:=si hx'
  have hcount:1 + jV bk l≤UB (.slice (elems.map (·.1)) (rest.map (·.1))):=by
   have:=Cs hB (bk:=bk) l (elems.map (·.1)) (by simp;omega) (by
    intro i a' d ha hd;obtain ⟨_,d',h2,_,_,h5⟩:=hl2 i a' ha;rw[List.getElem?_map,h2] at hd;simp at hd
    rw[←hd];exact h5)
   have:=hB.slice (elems.map (·.1)) (rest.map (·.1));omega
  refine ⟨l,?_,hcount⟩;refine cg.2 ⟨⟨rfl,?_⟩,cG _⟩;unfold aC;refine ⟨fun t ht=>(by cases ht),?_⟩;by_cases h0:cap=0
  ·subst h0
   obtain rfl:len=0:=by omega
   have:l= []:=List.eq_nil_of_length_eq_zero hl;subst this;exact .inr (.inr ⟨rfl,a,rfl⟩)
  ·
   have hsp:a.spot=none:=by
    have h1: ∃ cs,w.cells? 0 a s=some cs:=by
     by_cases h2:0 < len
     ·obtain ⟨_,cs,_,_,h3,_⟩:=hx' 0 h2
      exact ⟨cs,by simpa[Addr.add] using h3⟩
     ·obtain ⟨h3,h4⟩:=hr rfl
      have h5:=h4 0 (by omega);have h6:rest[0]?=some (rest[0]'(by omega)):=List.getElem?_eq_getElem (by omega);rw[h6,hs] at h5;obtain ⟨cs,h7,_⟩:=Option.bind_eq_some_iff.1 h5;have:len=0:=by omega
      subst this;exact ⟨cs,by simpa[Addr.add] using h7⟩
    obtain ⟨cs,h1⟩:=h1;obtain ⟨_,h3,h4⟩:=World.cells?_some h1;have h5:=h4 0 hp;have h6:cs[0]?=some (cs[0]'(by omega)):=List.getElem?_eq_getElem (by omega);rw[h6] at h5;simp only[Addr.add,if_true,World.cell?] at h5
    split at h5
    ·split at h5
     ·cases h5
     ·rename_i hn;simpa using hn
    ·cases h5
   obtain ⟨b,o,sp⟩:=a;simp only at hsp;subst hsp;refine .inr (.inl ⟨b,o,cap,by simp[hl],by simp;omega,hcm,by simp,?_⟩)
   have:=Fg (pv:=pv) (w:=w) (b:=b) (o:=o) hc l 0 fun j a' ha=>by
    obtain ⟨cs,_,_,h3,h4,_⟩:=hl2 j a' ha;exact ⟨cs,by simpa using h3,h4⟩
   simpa using this
end
section
variable {H:Type} {enc:TypeId×Value→H} {P:Program} {w:World} {UB:DataW H→Nat} {UBs:List (DataW H)→Nat}
theorem e6 {F:Fz} {ps bs:List PV} {cs:List Value} {o s:Nat} (h1:aQ F ps ((cs.drop o).take s)) (h2:aQ F bs (cs.drop (o + s))):aQ F (ps++bs) (cs.drop o):=by
 have:=bH h1 h2;rwa [←List.drop_drop,List.take_append_drop] at this
theorem eZ {α:Type} {n o s:Nat} {t:TypeId} {cells:α→List PV} {bk:α→Nat} (hR:Rd enc P w UB n t cells bk) {fs:Array Field} {cs:List Value} {xs:List (DataW H×List MemPlace)} (hlen:xs.length=fs.size)
  (hf: ∀ (i:Nat) (f:Field),fs[i]?=some f→DataW.trod enc P w 0 (fun _=>true) true n f.type ((cs.drop f.offset).take (P.cellsOf f.type))=xs[i]?) (i:Nat) (h:(fs.toList.map fun f=>(f.type,f.offset))[i]?=some (t,o)) (hs:P.cellsOf t=s):
  ∃ a y,xs[i]?=some y∧aQ (Fz.of w) (cells a) ((cs.drop o).take s)∧bk a≤UB y.1:=by
 rw[List.getElem?_map] at h;obtain ⟨f,hfi,hft⟩:=Option.map_eq_some_iff.1 h;rw[Array.getElem?_toList] at hfi;simp only[Prod.mk.injEq] at hft;obtain ⟨rfl,rfl⟩:=hft;have h1:=hf i f hfi;have hi:i < xs.length:=by rw[hlen];exact (Array.getElem?_eq_some_iff.1 hfi).1
 have h2:xs[i]?=some xs[i]:=List.getElem?_eq_getElem hi;rw[h2] at h1;obtain ⟨a,h3,h4⟩:=hR _ _ h1;exact ⟨a,_,h2,by rw[←hs];exact h3,h4⟩
theorem CM {α:Type} {t:TypeId} {cells:α→List PV} {bk:α→Nat} {fs:Array Field} (hs:P.underlying t=some (.struct fs)) (hR: ∀ n,Rd enc P w UB n t cells bk) {r:Reach} {b0:Nat} {v:Value} {d:DataW H} {p:List MemPlace}
  (hv:Value.okWide P w r b0 t v) (h:DataW.Trod enc P w 0 (fun _=>true) true t v d p): ∃ a,aC (Fz.of w) (.agg (cells a)) v∧bk a≤UB d:=by
 obtain ⟨cs,rfl,_⟩:=Go.WideShapes.okWide_struct hs hv;obtain ⟨fuel,hf⟩:=h;obtain ⟨a,h1,h2⟩:=hR fuel _ _ hf;refine ⟨a,?_,h2⟩;simp only[aC];exact ⟨cs.toList,by simp,by simpa[Value.cells] using h1⟩
theorem oJ (hl:laidOutB P=true) {W W':World} (hb:Below W.heap.size W W'): ∀ {ts:List TypeId} {vs:List Value} {ds:List (DataW H)} {ps:List MemPlace},(∀ t∈ts,P.readableRec t=true∧t < P.types.size)→
  DataW.TrodAll enc P W 0 (fun _=>true) true ts vs ds ps→(∀ x∈ps,x.block < W.heap.size)→DataW.TrodAll enc P W' 0 (fun b=>decide (b < W.heap.size)) true ts vs ds ps
 | [],_,_,_,_,h,_=>by
  obtain ⟨rfl,rfl,rfl⟩:=trodAll_nil h;exact trodAll_mk0
 | t::ts,_,_,_,hr,h,hlt=>by
  obtain ⟨v,vs,d,ds,p,q,rfl,rfl,rfl,h1,h2⟩:=trodAll_cons h;exact trodAll_cons_mk (Go.RowKit.Below.trod hl (hr t (by simp)).1 (hr t (by simp)).2 h1 hb fun x hx=>hlt x (by simp[hx])) (oJ hl hb (fun t ht=>hr t (by simp[ht])) h2 fun x hx=>hlt x (by simp[hx]))
theorem sR {spare:Nat→Bool} {base:Nat} {held:Bool}: ∀ {ts:List TypeId} {vs:List Value} {ds:List (DataW H)} {ps:List MemPlace},DataW.TrodAll enc P w base spare held ts vs ds ps→ds.length=ts.length
 | [],_,_,_,h=>by obtain ⟨rfl,rfl,rfl⟩:=trodAll_nil h;rfl
 | t::ts,_,_,_,h=>by
  obtain ⟨v,vs,d,ds,p,q,rfl,rfl,rfl,h1,h2⟩:=trodAll_cons h;simp[sR h2]
theorem IZ {f:Func} {s:ChangeSpec} {tb:TypeId} {W W':World} {args:Array Value} {ds gs:List (DataW H)} {before:List MemPlace} (hl:laidOutB P=true) (hr: ∀ t∈f.params.toList,P.readableRec t=true∧t < P.types.size)
  (hres:f.resultTypes= #[tb]) (hb:P.underlying tb=some .bool) (hv:s.vars= []) (hfn: ∀ ds:List (DataW H),ds.length=f.params.size→s.fn H ds={ results:= [.lit (.bool true)],args:=ds })
  (hW:DataW.Whole enc P f.params.toList s.vars false W args.toList ds gs before) (hbel:Below W.heap.size W W'):s.post enc P f false true false false W args (.bool true) W':=by
 have hW':=hW;obtain ⟨p,q,hA,hV,rfl,_,_⟩:=hW;have hV0:DataW.TrodVars enc P W (fun _=>true) [] gs q:=by rw[←hv];exact hV
 obtain ⟨rfl,rfl⟩:=trodVars_none hV0;have hfn':=hfn (ds++ []) (by rw[List.append_nil,sR hA];simp);refine ⟨ds, [],p++ [], [],p, [],hW',?_,?_,?_,hbel.frame _,fun h=>by cases h⟩
 ·rw[hfn',hres]
  exact trodAll_mk1 (Go.RowKit.shut_bool hb _)
 ·rw[hfn',List.append_nil]
  exact oJ hl hbel hr hA fun x hx=>hW'.lt x (by simp[hx])
 ·rw[hfn',hv];rfl
end
theorem nI: ∀ l:List Datum,jV Datum.aR l=Datum.aD l
 | []=>rfl
 | x::l=>by rw[jV,Datum.aD,nI l]
theorem yq: ∀ l:List aa,jV aa.aR l=aa.aD l
 | []=>rfl
 | x::l=>by rw[jV,aa.aD,yq l]
theorem yp {α:Type}: ∀ l:List α,jV (fun _=>1) l=l.length
 | []=>rfl
 | x::l=>by rw[jV,yp l,List.length_cons];omega
section
variable {H:Type} {enc:TypeId×Value→H} {P:Program} {w:World} {UB:DataW H→Nat} {UBs:List (DataW H)→Nat}
theorem vZ {F:Fz} {cs:List Value} {n:Nat} (h:cs.length=n):aQ F [] (cs.drop n):=by
 rw[List.drop_of_length_le (by omega)];exact cG F
theorem Jz (hB:AJ UB UBs) {tI tS tL tD:TypeId} (hI:P.underlying tI=some (.int .i64)) (hS:P.underlying tS=some .string) (hL:P.underlying tL=some (.slice tD)) {fs:Array Field} (hD:P.underlying tD=some (.struct fs))
  (hfs:(fs.toList.map fun f=>(f.type,f.offset))= [(tI,0),(tI,1),(tI,2),(tS,3),(tL,4)]) (cI:P.cellsOf tI=1) (cS:P.cellsOf tS=1) (cL:P.cellsOf tL=1) (cD:P.cellsOf tD=5): ∀ n,Rd enc P w UB n tD Datum.cells Datum.aR:=by
 intro n
 induction n using Nat.strongRecOn with
 | ind n ih=>
  intro cs x h;obtain ⟨xs,m,rfl,rfl,hl,hlen,hf⟩:=DataW.trod_struct hD h;obtain ⟨a0,y0,e0,r0,_⟩:=eZ (rQ (w:=w) (enc:=enc) hB hI m) hlen hf 0 (by rw[hfs];rfl) cI;obtain ⟨a1,y1,e1,r1,_⟩:=eZ (rQ (w:=w) (enc:=enc) hB hI m) hlen hf 1 (by rw[hfs];rfl) cI;obtain ⟨a2,y2,e2,r2,_⟩:=eZ (rQ (w:=w) (enc:=enc) hB hI m) hlen hf 2 (by rw[hfs];rfl) cI;obtain ⟨a3,y3,e3,r3,b3⟩:=eZ (N0 (w:=w) (enc:=enc) hB hS m) hlen hf 3 (by rw[hfs];rfl) cS;obtain ⟨a4,y4,e4,r4,b4⟩:=eZ (qB (pv:=Datum.pv) hB hL cD (by omega) (fun a=>rfl) (fun k hk=>ih k (by omega))) hlen hf 4 (by rw[hfs];rfl) cL;refine ⟨.mk a0 a1 a2 a3 a4,?_,?_⟩
  ·exact e6 r0 (e6 r1 (e6 r2 (e6 r3 (e6 r4 (vZ (hl.trans cD))))))
  ·have h5:xs.length=5:=by
    have:=congrArg List.length hfs;simp at this;omega
   match xs,h5 with
   | [z0,z1,z2,z3,z4],_=>
    simp at e3 e4;subst e3 e4;have:=hB.agg ([z0,z1,z2,z3,z4].map (·.1));simp only[List.map_cons,List.map_nil,hB.cons,hB.nil] at this;rw[nI] at b4;rw[Datum.bu];show 1 + a3.length + Datum.aD a4≤_;simp only[List.map_cons,List.map_nil];omega
theorem LU (hB:AJ UB UBs) {tI tV:TypeId} (hI:P.underlying tI=some (.int .i64)) (hV:P.underlying tV=some (.slice tI)) (cI:P.cellsOf tI=1) (n:Nat):Rd enc P w UB n tV (fun l:List Int=> [.sl 1 (l.map (PV.int .i64)) none]) fun l=>1 + l.length:=by
 intro cs x h;obtain ⟨a,h1,h2⟩:=qB (pv:=PV.int .i64) hB hV cI (by omega) (fun a=>rfl) (fun k hk=>rQ (w:=w) (enc:=enc) hB hI k) cs x h;exact ⟨a,h1,by have:=yp a;show 1 + a.length≤_;have h3:1 + jV (fun _=>1) a≤UB x.1:=h2;omega⟩
theorem N1 (hB:AJ UB UBs) {tI tV tL tT:TypeId} (hI:P.underlying tI=some (.int .i64)) (hV:P.underlying tV=some (.slice tI)) (hL:P.underlying tL=some (.slice tT)) {fs:Array Field} (hT:P.underlying tT=some (.struct fs))
  (hfs:(fs.toList.map fun f=>(f.type,f.offset))= [(tI,0),(tI,1),(tV,2),(tL,3)]) (cI:P.cellsOf tI=1) (cV:P.cellsOf tV=1) (cL:P.cellsOf tL=1) (cT:P.cellsOf tT=4): ∀ n,Rd enc P w UB n tT aa.cells aa.aR:=by
 intro n
 induction n using Nat.strongRecOn with
 | ind n ih=>
  intro cs x h;obtain ⟨xs,m,rfl,rfl,hl,hlen,hf⟩:=DataW.trod_struct hT h;obtain ⟨a0,y0,e0,r0,_⟩:=eZ (rQ (w:=w) (enc:=enc) hB hI m) hlen hf 0 (by rw[hfs];rfl) cI;obtain ⟨a1,y1,e1,r1,_⟩:=eZ (rQ (w:=w) (enc:=enc) hB hI m) hlen hf 1 (by rw[hfs];rfl) cI;obtain ⟨a2,y2,e2,r2,b2⟩:=eZ (LU (w:=w) (enc:=enc) hB hI hV cI m) hlen hf 2 (by rw[hfs];rfl) cV;obtain ⟨a3,y3,e3,r3,b3⟩:=eZ (qB (pv:=aa.pv) hB hL cT (by omega) (fun a=>rfl) (fun k hk=>ih k (by omega))) hlen hf 3 (by rw[hfs];rfl) cL;refine ⟨.mk a0 a1 a2 a3,?_,?_⟩
  ·exact e6 r0 (e6 r1 (e6 r2 (e6 r3 (vZ (hl.trans cT)))))
  ·have h5:xs.length=4:=by
    have:=congrArg List.length hfs;simp at this;omega
   match xs,h5 with
   | [z0,z1,z2,z3],_=>
    simp at e2 e3;subst e2 e3;have:=hB.agg ([z0,z1,z2,z3].map (·.1));simp only[List.map_cons,List.map_nil,hB.cons,hB.nil] at this;rw[yq] at b3;rw[aa.bu];show 1 + a2.length + aa.aD a3≤_;simp only[List.map_cons,List.map_nil];omega
end
open Go.Proofs.YtamlcgkjinbnlaaGreatDoor
theorem Mv {H:Type} (d:DataW H):1≤Rows.uptoBulk d:=by
 cases d with
 | lit l=>cases l<;>simp[Rows.uptoBulk]
 | nil=>simp[Rows.uptoBulk]
 | ptr d=>simp[Rows.uptoBulk]
 | slice elems spare=>simp[Rows.uptoBulk]
 | agg parts=>simp[Rows.uptoBulk]
 | iface t d=>simp[Rows.uptoBulk]
 | map entries=>simp[Rows.uptoBulk]
 | held h=>simp[Rows.uptoBulk]
theorem xp {H:Type}:AJ (H:=H) Rows.uptoBulk Rows.uptoBulkAll where
 nil:=by simp[Rows.uptoBulkAll]
 cons x l:=by simp[Rows.uptoBulkAll]
 agg l:=by simp[Rows.uptoBulk];omega
 slice l m:=by simp[Rows.uptoBulk];omega
 str s:=by simp[Rows.uptoBulk]
 pos d:=Mv d
section
variable {H:Type} {enc:TypeId×Value→H} {w:World}
theorem O6:Tryz.prog.cellsOf 3=1:=by kernel_rfl
theorem P7:Tryz.prog.cellsOf 9=1:=by kernel_rfl
theorem O7:Tryz.prog.cellsOf 23=1:=by kernel_rfl
theorem QF:Tryz.prog.cellsOf 22=1:=by kernel_rfl
theorem Rh:Tryz.prog.cellsOf 24=1:=by kernel_rfl
theorem cD:Tryz.prog.cellsOf 55=5:=by kernel_rfl
theorem cT:Tryz.prog.cellsOf 26=4:=by kernel_rfl
theorem cP:Tryz.prog.cellsOf 28=5:=by kernel_rfl
theorem Rt (n:Nat):Rd enc Tryz.prog w Rows.uptoBulk n 55 Datum.cells Datum.aR:=
 Jz xp Tryz.underlying3 Tryz.underlying9 Tryz.underlying22 Tryz.underlying55 rfl O6 P7 QF cD n
theorem Ru (n:Nat):Rd enc Tryz.prog w Rows.uptoBulk n 26 aa.cells aa.aR:=
 N1 xp Tryz.underlying3 Tryz.underlying23 Tryz.underlying24 Tryz.underlying26 rfl O6 O7 Rh cT n
theorem Qu (n:Nat):Rd enc Tryz.prog w Rows.uptoBulk n 22 (fun l:List Datum=> [.sl 5 (l.map Datum.pv) none]) fun l=>1 + Datum.aD l:=by
 intro cs x h;obtain ⟨a,h1,h2⟩:=qB (pv:=Datum.pv) xp Tryz.underlying22 cD (by omega) (fun a=>rfl) (fun k hk=>Rt (w:=w) (enc:=enc) k) cs x h;have h3:1 + jV Datum.aR a≤Rows.uptoBulk x.1:=h2;rw[nI] at h3;exact ⟨a,h1,h3⟩
def Prog.aR (p:Prog):Nat:=Datum.aD p.consts + p.body.aR
theorem Qw (n:Nat):Rd enc Tryz.prog w Rows.uptoBulk n 28 Prog.cells Prog.aR:=by
 intro cs x h;obtain ⟨xs,m,rfl,rfl,hl,hlen,hf⟩:=DataW.trod_struct Tryz.underlying28 h;obtain ⟨a0,y0,e0,r0,b0⟩:=eZ (Qu (w:=w) (enc:=enc) m) hlen hf 0 rfl QF;obtain ⟨a1,y1,e1,r1,b1⟩:=eZ (Ru (w:=w) (enc:=enc) m) hlen hf 1 rfl cT;refine ⟨⟨a0,a1⟩,?_,?_⟩
 ·have:=e6 r0 (e6 r1 (vZ (hl.trans cP)))
  rwa [List.append_nil] at this
 ·match xs,hlen with
  | [z0,z1],_=>
   simp at e0 e1;subst e0 e1;have:=(xp (H:=H)).agg ([z0,z1].map (·.1));simp only[List.map_cons,List.map_nil,(xp (H:=H)).cons,(xp (H:=H)).nil] at this;show Datum.aD a0 + a1.aR≤_;simp only[List.map_cons,List.map_nil];omega
theorem Rr:Tryz.prog.readableRec 28=true∧28 < Tryz.prog.types.size:=⟨by kernel_rfl,of_decide_eq_true (by kernel_rfl)⟩
theorem qL:Tryz.prog.readableRec 26=true∧26 < Tryz.prog.types.size:=⟨by kernel_rfl,of_decide_eq_true (by kernel_rfl)⟩
theorem CT {f:FuncId} {args:List PV} {vs:List Value} {W:World} (h:ay Tryz.prog f args (.bool true)) (hr:aA (Fz.of W) args vs):Calls Tryz.prog f vs.toArray W fun e W'=>e=.returned (.bool true)∧Below W.heap.size W W':=by
 refine (h.2 W (Fz.of W) [] W vs (aP.start W) hr).mono ?_;rintro e W' ⟨v,F',y,Γ',rfl,_,hS,hR,rfl⟩;exact ⟨by rw[show v=.bool true by simpa only[aC] using hR],hS.below⟩
end
mutual
def CU:DataW Unit→List Value
 | .lit (.int k n)=> [.int k n]
 | .lit (.bool b)=> [.bool b]
 | .lit (.string s)=> [.string ⟨s.toArray⟩]
 | .agg l=>Ep l
 | _=> []
def Ep:List (DataW Unit)→List Value
 | []=> []
 | d::l=>CU d++Ep l
end
def rI (e:TypeId):List (String×DataW Unit)→List Obj
 | []=> []
 | (_,.iface _ (.ptr d))::l=>.cells (CU d).toArray e::rI e l
 | _::l=>rI e l
def MS (h:Array Obj) (g:Option Nat) (cs:Array Value):Array Obj:=match g with
 | some g=>h.modify g fun
  | .cells _ t frozen=>.cells cs t frozen
  | o=>o
 | none=>h
def Dq (P:Program) (p:TypeId):List (String×DataW Unit)→Nat→Array Obj→Array Obj
 | [],_,h=>h
 | (n,.iface _ _)::l,k,h=>Dq P p l (k + 1) (MS h (P.globalNamed n) #[.iface p (.pointer (some ⟨k,0,none⟩))])
 | (n,d)::l,k,h=>Dq P p l k (MS h (P.globalNamed n) (CU d).toArray)
noncomputable def laidWorld (os:Os):World:=
 let w0:=World.holding Tryz.prog os ⟨(rI 348 Rows.letrecConvertsRow.laid).toArray, #[], []⟩
 { w0 with heap:=Dq Tryz.prog 346 Rows.letrecConvertsRow.laid (World.settled Tryz.prog os).heap.size w0.heap }
theorem IX (os:Os) (args:Array Value):laidMet Tryz.prog Rows.letrecConvertsRow.laid ((laidWorld os).forCall (fun _ _=>0) ⟨#[],args, []⟩).memory:=
 (LaidIn.of_run (l:=Rows.letrecConvertsRow.laid) (List.range 1000) 16 (by kernel_rfl) (by kernel_rfl) (by kernel_rfl) (by kernel_rfl)).met
theorem Jn:ownKnob Tryz.prog.godebug=none:=by kernel_rfl
theorem laidOut:laidOutB Tryz.prog=true:=by kernel_rfl
end Go.Cb


