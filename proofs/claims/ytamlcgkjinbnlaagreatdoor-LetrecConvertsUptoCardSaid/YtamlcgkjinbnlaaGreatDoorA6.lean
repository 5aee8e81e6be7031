/-
 Contracts: the document's comparisons.
 Plain laws: a term and its parts.
 Layings of the library's contracts at this seat (written by the kit's tools).
 Contracts: numbers sorted by the library, equal neighbours struck.
 Contracts: what a term names and does not bind, what it binds, how often a variable is named and assigned.
 Plain laws: all variables greater by the same.
 Plain laws: assigned variables become boxes.
 Plain laws: chapter 10, what is right; the document's counts; programs.
 Contracts: the document's counts, bindings.
 Contracts: the document's program of a core datum.
 Plain law: how great data that are read are.
 The document's machine: its values and how they lie in memory.
 Contracts: the document's machine: values of data, places, lists.
 Plain: the texts of the document's machine's values.
 Contracts: the texts of the document's machine's values.
 Contracts: the document's numbers: sums, products, which is less.
 Contracts: the document's primitives that fold.
 Contracts: the document's primitives that fold, of values as primitives look at them.
 Contracts: the document's Fold.
 Contracts: the document's machine: values held against one another, lists' values, parts.
 Contracts: the document's machine: primitives that are not calls.
 Contracts: the document's machine: primitives that fold, of values.
 Contracts: the document's machine: constants, names, procedures, calls of these.
-/
import Derived.Shelf.Slices.CompactI
import Derived.Shelf.Slices.In.SortNone
import Derived.Shelf.Sort.Plain
import Derived.Sort.OwnSortedInts
import Derived.Test.YtamlcgkjinbnlaaGreatDoorProg
import Derived.Test.YtamlcgkjinbnlaaGreatDoorA5
set_option linter.unusedSimpArgs false
set_option linter.unusedVariables false
namespace Go.Cb
open Go.Proofs
set_option maxRecDepth 100000
set_option maxHeartbeats 4000000
mutual
def aa.Bm:aa→aa→Bool
 | .mk op n v t,.mk op' n' v' t'=>op == op' && n == n' && v == v' && aa.dS t t'
def aa.dS:List aa→List aa→Bool
 | [], []=>true
 | x::xs,y::ys=>aa.Bm x y && aa.dS xs ys
 | _,_=>false
end
theorem aa.vg (a b:aa):a.Bm b=(a.op == b.op && a.n == b.n && a.v == b.v && aa.dS a.t b.t):=by cases a;cases b;rw[aa.Bm];rfl
theorem aa.vh (a:aa):a.Bm a=true:=by
 induction a using aa.ind with
 | h t ih=>
  have key: ∀ l:List aa,(∀ x∈l,x.Bm x=true)→aa.dS l l=true:=by
   intro l
   induction l with
   | nil=>intro _;rw[aa.dS]
   | cons x l ihl=>intro h;rw[aa.dS,h x (by simp),ihl fun y hy=>h y (by simp[hy])];rfl
  rw[aa.vg,key _ ih];simp
theorem aa.lB: ∀ {l m:List aa},aa.dS l m=true→l.length=m.length
 | [], [],_=>rfl
 | x::l,y::m,h=>by rw[aa.dS,Bool.and_eq_true] at h;rw[List.length_cons,List.length_cons,aa.lB h.2]
 | [],_::_,h=>by simp[aa.dS] at h
 | _::_, [],h=>by simp[aa.dS] at h
theorem Ib {l m:List Int} {i:Nat} (h:l.take i=m.take i) (hl:i < l.length) (hm:i < m.length) (e:l[i]=m[i]):l.take (i + 1)=m.take (i + 1):=by
 rw[List.take_succ_eq_append_getElem hl,List.take_succ_eq_append_getElem hm,h,e]
theorem xS {p q:Prop} (k:q) (h:q→p:=by intro hq;first | exact aC.sP (some 44) rfl [] [] ai mixed hq | exact aC.sP (some 62) rfl [] [] ai mixed hq):p:=h k
theorem Lw (a:aa): ∀ b:aa,aA Tryz.prog 36 [.agg a.cells,.agg b.cells] (.bool (a.Bm b)):=by
 induction a using aa.ind with
 | h a ih=>
  intro b;have he:=a.vg b;refine af.ah ai Tryz.func36 rfl rfl (n:=74) rfl rfl ?_
  conv=>whnf
  repeat' (first|refine l9 ?_|((intro _);conv=>whnf)|(refine zX (fun hc=>?_) (fun hc=>?_)<;>(try simp only[SY] at hc)<;>(conv=>whnf)))
  ·exact ak.pure (Wk.ff (by
    rw[he,Bool.eq_false_iff];intro h;simp only[Bool.and_eq_true,beq_iff_eq] at h;obtain ⟨⟨⟨h1,h2⟩,h3⟩,h4⟩:=h;have h5:=aa.lB h4
    simp only[h1,h2,h3,h5,not_true_eq_false,or_self] at hc))
  have h0:=hc;refine aq.keep [4,5,37,38,39,40,41,42,43,44,45,46,47,48,49,50,51,52,53,54] (fun i:Nat=> [(5,.int .i64 i)]) (fun i=>i≤a.v.length∧a.v.take i=b.v.take i) (fun i=>a.v.length - i) 0 ⟨Nat.zero_le _,by simp⟩ wA ?_;rintro i ⟨hi,hm⟩
  conv=>whnf
  repeat' (first|refine l9 ?_|((first|refine xS ?_|intro _);conv=>whnf)|(refine zX (fun hc=>?_) (fun hc=>?_)<;>(try simp only[SY] at hc)<;>(conv=>whnf)))
  ·have ha:i < a.v.length:=by omega
   have hb:i < b.v.length:=by omega
   exact ak.pure (Wk.ff (by
    rw[he,Bool.eq_false_iff];intro h;simp only[Bool.and_eq_true,beq_iff_eq] at h;apply hc
    simp only[h.1.2]))
  ·exact an (i + 1) ⟨by omega,Ib hm (by omega) (by omega) hc⟩ (by show a.v.length - (i + 1) < a.v.length - i;omega) wA
  have hv:a.v=b.v:=by rw[List.take_of_length_le (by omega),List.take_of_length_le (by omega)] at hm;exact hm
  have he2:a.Bm b=aa.dS a.t b.t:=by rw[he,h0.1.1.1,h0.1.1.2,hv];simp
  rw[he2];refine aq.keep [4,6,55,56,57,58,59,60,61,62,63,64,65,66,67,68,69,70,71,72,73] (fun i:Nat=> [(6,.int .i64 i)]) (fun i=>i≤a.t.length∧aa.dS (a.t.drop i) (b.t.drop i)=aa.dS a.t b.t) (fun i=>a.t.length - i) 0 ⟨Nat.zero_le _,rfl⟩ wA ?_;rintro j ⟨hj,hm⟩
  conv=>whnf
  repeat' (first|refine l9 ?_|((first|((apply zZ);(conv=>whnf);(repeat ((refine pC (ih _ (List.getElem_mem _) _) wR ?_);conv=>whnf));exact pZ)|refine xS ?_|intro _);conv=>whnf)|(refine zX (fun hc=>?_) (fun hc=>?_)<;>(try simp only[SY] at hc)<;>(conv=>whnf)))
  ·rw[aI (show j < a.t.length by omega),aI (show j < b.t.length by omega),aa.dS,hc,Bool.false_and] at hm
   exact ak.pure (Wk.ff hm.symm)
  ·rw[aI (show j < a.t.length by omega),aI (show j < b.t.length by omega),aa.dS,hc,Bool.true_and] at hm
   exact an (j + 1) ⟨by omega,hm⟩ (by show a.t.length - (j + 1) < a.t.length - j;omega) wA
  ·rw[List.drop_of_length_le (by omega),List.drop_of_length_le (by omega),aa.dS] at hm
   exact ak.pure (Wk.tt hm.symm)
mutual
def Datum.Bm:Datum→Datum→Bool
 | .mk k n d s l,.mk k' n' d' s' l'=>k == k' && n == n' && d == d' && s == s' && Datum.dS l l'
def Datum.dS:List Datum→List Datum→Bool
 | [], []=>true
 | x::xs,y::ys=>Datum.Bm x y && Datum.dS xs ys
 | _,_=>false
end
theorem Datum.vg (a b:Datum):a.Bm b=(a.kind == b.kind && a.n == b.n && a.d == b.d && a.s == b.s && Datum.dS a.l b.l):=by cases a;cases b;rw[Datum.Bm];rfl
theorem Datum.vh (a:Datum):a.Bm a=true:=by
 induction a using Datum.ind with
 | h t ih=>
  have key: ∀ l:List Datum,(∀ x∈l,x.Bm x=true)→Datum.dS l l=true:=by
   intro l
   induction l with
   | nil=>intro _;rw[Datum.dS]
   | cons x l ihl=>intro h;rw[Datum.dS,h x (by simp),ihl fun y hy=>h y (by simp[hy])];rfl
  rw[Datum.vg,key _ ih];simp
theorem Datum.Gj (l:List Datum):Datum.dS l l=true:=by
 induction l with
 | nil=>rw[Datum.dS]
 | cons x l ih=>rw[Datum.dS,x.vh,ih];rfl
theorem Datum.lB: ∀ {l m:List Datum},Datum.dS l m=true→l.length=m.length
 | [], [],_=>rfl
 | x::l,y::m,h=>by rw[Datum.dS,Bool.and_eq_true] at h;rw[List.length_cons,List.length_cons,Datum.lB h.2]
 | [],_::_,h=>by simp[Datum.dS] at h
 | _::_, [],h=>by simp[Datum.dS] at h
theorem Gv {p q:Prop} (k:q) (h:q→p:=by intro hq;first | exact aC.sP (some 48) rfl [] [] ai mixed hq):p:=h k
theorem I6 (a:Datum): ∀ b:Datum,aA Tryz.prog 54 [.agg a.cells,.agg b.cells] (.bool (a.Bm b)):=by
 induction a using Datum.ind with
 | h a ih=>
  intro b;have he:=a.vg b;refine af.ah ai Tryz.func54 rfl rfl (n:=60) rfl rfl ?_
  conv=>whnf
  repeat' (first|refine l9 ?_|((intro _);conv=>whnf)|(refine zX (fun hc=>?_) (fun hc=>?_)<;>(try simp only[SY] at hc)<;>(conv=>whnf)))
  ·exact ak.pure (Wk.ff (by
    rw[he,Bool.eq_false_iff];intro h;simp only[Bool.and_eq_true,beq_iff_eq] at h;obtain ⟨⟨⟨⟨h1,h2⟩,h3⟩,h4⟩,h5⟩:=h;have h6:=Datum.lB h5
    simp only[h1,h2,h3,h4,h6,not_true_eq_false,or_self] at hc))
  have h0:=hc;have he2:a.Bm b=Datum.dS a.l b.l:=by rw[he,h0.1.1.1.1,h0.1.1.1.2,h0.1.1.2,h0.1.2];simp
  rw[he2];refine aq.keep [4,5,41,42,43,44,45,46,47,48,49,50,51,52,53,54,55,56,57,58,59] (fun i:Nat=> [(5,.int .i64 i)]) (fun i=>i≤a.l.length∧Datum.dS (a.l.drop i) (b.l.drop i)=Datum.dS a.l b.l) (fun i=>a.l.length - i) 0 ⟨Nat.zero_le _,rfl⟩ wA ?_;rintro j ⟨hj,hm⟩
  conv=>whnf
  repeat' (first|refine l9 ?_|((first|((apply zZ);(conv=>whnf);(repeat ((refine pC (ih _ (List.getElem_mem _) _) wR ?_);conv=>whnf));exact pZ)|refine Gv ?_|intro _);conv=>whnf)|(refine zX (fun hc=>?_) (fun hc=>?_)<;>(try simp only[SY] at hc)<;>(conv=>whnf)))
  ·rw[aI (show j < a.l.length by omega),aI (show j < b.l.length by omega),Datum.dS,hc,Bool.false_and] at hm
   exact ak.pure (Wk.ff hm.symm)
  ·rw[aI (show j < a.l.length by omega),aI (show j < b.l.length by omega),Datum.dS,hc,Bool.true_and] at hm
   exact an (j + 1) ⟨by omega,hm⟩ (by show a.l.length - (j + 1) < a.l.length - j;omega) wA
  ·rw[List.drop_of_length_le (by omega),List.drop_of_length_le (by omega),Datum.dS] at hm
   exact ak.pure (Wk.tt hm.symm)
theorem Gw {p q:Prop} (k:q) (h:q→p:=by intro hq;first | exact aC.sP (some 17) rfl [] [] ai mixed hq):p:=h k
theorem IY (a b:List Datum):aA Tryz.prog 35 [.sl 5 (a.map Datum.pv) none,.sl 5 (b.map Datum.pv) none] (.bool (Datum.dS a b)):=by
 refine af.ah ai Tryz.func35 rfl rfl (n:=27) rfl rfl ?_
 conv=>whnf
 repeat' (first|refine l9 ?_|((intro _);conv=>whnf)|(refine zX (fun hc=>?_) (fun hc=>?_)<;>(try simp only[SY] at hc)<;>(conv=>whnf)))
 ·exact ak.pure (Wk.ff (by
   rw[Bool.eq_false_iff];intro h;have:=Datum.lB h
   omega))
 refine aq.keep [4,5,11,12,13,14,15,16,17,18,19,20,21,22,23,24,25,26] (fun i:Nat=> [(5,.int .i64 i)]) (fun i=>i≤a.length∧Datum.dS (a.drop i) (b.drop i)=Datum.dS a b) (fun i=>a.length - i) 0 ⟨Nat.zero_le _,rfl⟩ wA ?_;rintro j ⟨hj,hm⟩
 conv=>whnf
 repeat' (first|refine l9 ?_|((first|((apply zZ);(conv=>whnf);(repeat ((refine pC (I6 _ _) wR ?_);conv=>whnf));exact pZ)|refine Gw ?_|intro _);conv=>whnf)|(refine zX (fun hc=>?_) (fun hc=>?_)<;>(try simp only[SY] at hc)<;>(conv=>whnf)))
 ·rw[aI (show j < a.length by omega),aI (show j < b.length by omega),Datum.dS,hc,Bool.false_and] at hm
  exact ak.pure (Wk.ff hm.symm)
 ·rw[aI (show j < a.length by omega),aI (show j < b.length by omega),Datum.dS,hc,Bool.true_and] at hm
  exact an (j + 1) ⟨by omega,hm⟩ (by show a.length - (j + 1) < a.length - j;omega) wA
 ·rw[List.drop_of_length_le (by omega),List.drop_of_length_le (by omega),Datum.dS] at hm
  exact ak.pure (Wk.tt hm.symm)
def Prog.same (p q:Prog):Bool:=Datum.dS p.consts q.consts && p.body.Bm q.body
theorem Prog.HU (p:Prog):p.same p=true:=by rw[Prog.same,Datum.Gj,aa.vh];rfl
theorem Oy (p q:Prog):aA Tryz.prog 15 [.agg p.cells,.agg q.cells] (.bool (p.same q)):=by
 refine af.ah ai Tryz.func15 rfl rfl (n:=17) rfl rfl ?_
 conv=>whnf
 repeat' (first|refine l9 ?_|((first|(((apply zY;intro hg));(conv=>whnf);(repeat ((first|refine pC (Lw p.body q.body) wR ?_|refine aG ?_);conv=>whnf));exact pZ)|refine pC (IY p.consts q.consts) wR ?_|intro _);conv=>whnf)|(refine zX (fun hc=>?_) (fun hc=>?_)<;>(try simp only[SY] at hc)<;>omega))
 exact ak.pure (Wk.refl _)
end Go.Cb
namespace Go.Proofs
open Go.Shelf
def Tryz.Cg:Go.Shelf.Ren:=⟨fun | 189=>87 | 125=>140 | 257=>139 | 128=>187 | 129=>188 | 294=>178 | 295=>179 | 296=>180 | 297=>181 | 298=>182 | 299=>183 | 216=>184 | 300=>185 | 301=>186 | 328=>224 | 329=>225 | 330=>226 | 331=>227 | 332=>228 | 215=>229 | 343=>255 | n=>n,fun | 28=>23 | 3=>3 | 46=>202 | 0=>0 | 51=>245 | 53=>247 | 4=>4 | 183=>239 | 182=>238 | 131=>172 | 5=>5 | 9=>9 | 218=>274 | 222=>278 | 228=>304 | 229=>77 | n=>n,fun | n=>n⟩
theorem Tryz.Fp:Go.Proofs.Lays.n189 Tryz.prog Tryz.Cg:={
 mixed:=by kernel_rfl
 f125:=Tryz.func140.trans (congrArg some (by kernel_rfl))
 f128:=Tryz.func187.trans (congrArg some (by kernel_rfl))
 f129:=Tryz.func188.trans (congrArg some (by kernel_rfl))
 f189:=Tryz.func87.trans (congrArg some (by kernel_rfl))
 f215:=Tryz.func229.trans (congrArg some (by kernel_rfl))
 f216:=Tryz.func184.trans (congrArg some (by kernel_rfl))
 f257:=Tryz.func139.trans (congrArg some (by kernel_rfl))
 f294:=Tryz.func178.trans (congrArg some (by kernel_rfl))
 f295:=Tryz.func179.trans (congrArg some (by kernel_rfl))
 f296:=Tryz.func180.trans (congrArg some (by kernel_rfl))
 f297:=Tryz.func181.trans (congrArg some (by kernel_rfl))
 f298:=Tryz.func182.trans (congrArg some (by kernel_rfl))
 f299:=Tryz.func183.trans (congrArg some (by kernel_rfl))
 f300:=Tryz.func185.trans (congrArg some (by kernel_rfl))
 f301:=Tryz.func186.trans (congrArg some (by kernel_rfl))
 f328:=Tryz.func224.trans (congrArg some (by kernel_rfl))
 f329:=Tryz.func225.trans (congrArg some (by kernel_rfl))
 f330:=Tryz.func226.trans (congrArg some (by kernel_rfl))
 f331:=Tryz.func227.trans (congrArg some (by kernel_rfl))
 f332:=Tryz.func228.trans (congrArg some (by kernel_rfl))
 f343:=Tryz.func255.trans (congrArg some (by kernel_rfl))
 t0:=Tryz.underlying0
 a0:=Tryz.isAgg0
 z0:=Tryz.sizeOf0
 v0:=Tryz.zeroValue0
 t3:=Tryz.underlying3
 a3:=Tryz.isAgg3
 z3:=Tryz.sizeOf3
 v3:=Tryz.zeroValue3
 t4:=Tryz.underlying4
 a4:=Tryz.isAgg4
 z4:=Tryz.sizeOf4
 v4:=Tryz.zeroValue4
 t5:=Tryz.underlying5
 a5:=Tryz.isAgg5
 z5:=Tryz.sizeOf5
 v5:=Tryz.zeroValue5
 t9:=Tryz.underlying9
 a9:=Tryz.isAgg9
 z9:=Tryz.sizeOf9
 v9:=Tryz.zeroValue9
 t28:=Tryz.underlying23
 a28:=Tryz.isAgg23
 z28:=Tryz.sizeOf23
 v28:=Tryz.zeroValue23
 t46:=Tryz.underlying202
 a46:=Tryz.isAgg202
 z46:=Tryz.sizeOf202
 v46:=Tryz.zeroValue202
 t51:=Tryz.underlying245
 a51:=Tryz.isAgg245
 z51:=Tryz.sizeOf245
 v51:=Tryz.zeroValue245
 t53:=Tryz.underlying247
 a53:=Tryz.isAgg247
 z53:=Tryz.sizeOf247
 v53:=Tryz.zeroValue247
 t131:=Tryz.underlying172
 a131:=Tryz.isAgg172
 z131:=Tryz.sizeOf172
 v131:=Tryz.zeroValue172
 t182:=Tryz.underlying238
 a182:=Tryz.isAgg238
 z182:=Tryz.sizeOf238
 v182:=Tryz.zeroValue238
 t183:=Tryz.underlying239
 a183:=Tryz.isAgg239
 z183:=Tryz.sizeOf239
 v183:=Tryz.zeroValue239
 t218:=Tryz.underlying274
 a218:=Tryz.isAgg274
 z218:=Tryz.sizeOf274
 v218:=Tryz.zeroValue274
 t222:=Tryz.underlying278
 a222:=Tryz.isAgg278
 z222:=Tryz.sizeOf278
 v222:=Tryz.zeroValue278
 t228:=Tryz.underlying304
 a228:=Tryz.isAgg304
 z228:=Tryz.sizeOf304
 v228:=Tryz.zeroValue304
 t229:=Tryz.underlying77
 a229:=Tryz.isAgg77
 z229:=Tryz.sizeOf77
 v229:=Tryz.zeroValue77 }
def Tryz.xw:Go.Shelf.Ren:=⟨fun | 20=>88 | n=>n,fun | 22=>23 | 3=>3 | 4=>4 | 0=>0 | n=>n,fun | n=>n⟩
theorem Tryz.yq:Go.Proofs.Lays2.n20 Tryz.prog Tryz.xw:={
 mixed:=by kernel_rfl
 f20:=Tryz.func88.trans (congrArg some (by kernel_rfl))
 t0:=Tryz.underlying0
 a0:=Tryz.isAgg0
 z0:=Tryz.sizeOf0
 v0:=Tryz.zeroValue0
 t3:=Tryz.underlying3
 a3:=Tryz.isAgg3
 z3:=Tryz.sizeOf3
 v3:=Tryz.zeroValue3
 t4:=Tryz.underlying4
 a4:=Tryz.isAgg4
 z4:=Tryz.sizeOf4
 v4:=Tryz.zeroValue4
 t22:=Tryz.underlying23
 a22:=Tryz.isAgg23
 z22:=Tryz.sizeOf23
 v22:=Tryz.zeroValue23
 i3:=by kernel_rfl }
end Go.Proofs
namespace Go.Cb
open Go.Proofs Go.Sort
open Go.RowKit (Below)
set_option maxRecDepth 100000
set_option maxHeartbeats 4000000
theorem sG: ∀ l:List Int,flat (l.map (PV.int .i64))=l.map (PV.int .i64)
 | []=>rfl
 | x::l=>by
  have:=sG l;simp only[flat,List.map_cons,List.flatMap_cons,PV.cellsOf] at this ⊢;rw[this];rfl
theorem yO (F:Fz): ∀ l:List Int,aR F (l.map (PV.int .i64)) (l.map (Value.int .i64))
 | []=>cG F
 | x::l=>cq.2 ⟨⟨rfl,by simp only[aE]⟩,yO F l⟩
theorem rZ {F:Fz}: ∀ {l:List Int} {xs:List Value},aR F (l.map (PV.int .i64)) xs→xs=l.map (Value.int .i64)
 | [], [],_=>rfl
 | [],_::_,h=>by simp only[List.map_nil,aR] at h
 | _::_, [],h=>by simp only[List.map_cons,aR] at h
 | x::l,v::xs,h=>by
  have h:=cq.1 h;have h1:v=.int .i64 x:=by simpa only[aE] using h.1.2
  rw[h1,rZ h.2];rfl
theorem aP.FT {w0:World} {F:Fz} {M:List aj} {w:World} {t:Tok} {l ts:List Int} (h:aP w0 F (.row t (l.map (PV.int .i64))::M) w) (hs:t.s=1) (hlen:ts.length=l.length) {g:Nat} (hg:t.b=some g) (q:Nat) (os:Array Obj):
  aP w0 F (.row t (ts.map (PV.int .i64))::M) (grow (putRow (Value.int .i64) (Sort.ahead w q) g 0 ts.toArray) os):=by
 obtain ⟨⟨xs,hown,hr⟩,hes,e2,hfree⟩:=h.fE _ (List.mem_cons_self ..)
 rcases hown.2 with ⟨h1,_⟩ | ⟨g',cap,cur,hb,hv,hB,hh,hnc,hcm,hsz,htake⟩
 ·rw[h1] at hg;cases hg
 obtain rfl:g'=g:=by rw[hb] at hg;simpa using hg
 have hsep:=List.pairwise_cons.1 h.sep;have hgr:w.grownBy (grow (putRow (Value.int .i64) (Sort.ahead w q) g' 0 ts.toArray) os) (some g'):=grownBy_sortedI ts.toArray;have hn:l.length=t.n:=by simpa using e2
 have hfl:flat (ts.map (PV.int .i64))=ts.map (PV.int .i64):=sG ts;refine aP.HR (t:=t) (ys:=ts.map (PV.int .i64)) (xs:=ts.map (Value.int .i64)) h.tail ((Below.refl _ w).grown hgr h.below.size fun k hk=>by simp at hk;omega) ?_ (by simp[hs,PV.cellsOf]) (by simp;omega) (by rw[hfl];exact yO F ts) ?_ ?_ hfree
 ·refine ⟨by simp[hs];omega,.inr ⟨g',cap,_,hb,hv,hB,heap_sortedI ts.toArray hh,hnc,hcm,by simp[putCells,hsz],?_⟩⟩
  have:t.n * t.s=ts.length:=by rw[hs];omega
  rw[this];exact take_putCellsI cur ts (by rw[hsz,hs];omega)
 ·intro b o u x
  have hne:b≠g':=fun e=>by rw[e,hfree g' hb o] at x;cases x
  have hlt:=World.block_lt_of_cell? w _ (h.fz b o u x);rw[World.cell?_of_block (w:=w) (hgr.block b hlt (by simp;omega))];exact h.fz b o u x
 ·intro e he k hk
  have hne:t.b≠some k:=by
   rcases hsep.1 e he with hh | hh
   ·simp only[aj.blk] at hh;rw[hh];simp
   ·intro hx;exact hh (by rw[hk];exact hx)
  have hlt:=(aj.jM (h.fE e (List.mem_cons_of_mem _ he)) hk).2;exact ⟨hgr.block k hlt (by rw[hb] at hne;exact fun e=>hne e.symm),hne⟩
theorem BB (l:List Int):(Lib.compact l).length≤l.length:=by
 unfold Lib.compact Lib.compactUpTo;rw[List.length_map];exact Nat.le_trans (List.length_filter_le _ _) (by simp)
theorem CN {w0:World} {F:Fz} {M:List aj} {w:World} {t:Tok} {l:List Int} (h:aP w0 F (.row t (l.map (PV.int .i64))::M) w) (hs:t.s=1):
  (l= []∧ ∃ p,t.v=.slice p 0 0)∨ ∃ g cap,t.b=some g∧t.v=.slice (some ⟨g,0,none⟩) l.length cap∧Holds (Value.int .i64) w g 0 l.toArray∧g < w.heap.size∧l.length≤cap∧t.n=l.length:=by
 obtain ⟨⟨xs,hown,hr⟩,hes,e2,hfree⟩:=h.fE _ (List.mem_cons_self ..);have hn:l.length=t.n:=by simpa using e2
 rcases hown.2 with ⟨h1,h2,h3⟩ | ⟨g,cap,cur,hb,hv,hB,hh,hnc,hcm,hsz,htake⟩
 ·refine .inl ⟨List.eq_nil_of_length_eq_zero (by omega),?_⟩
  rcases h3 with h3 | ⟨a,h3⟩
  ·exact ⟨none,h3⟩
  ·exact ⟨some a,h3⟩
 ·rw[sG] at hr
  have hx:=rZ hr;refine .inr ⟨g,cap,hb,by rw[hn];exact hv,holds_of_blockI (e:=t.e) (cur:=cur) hh (by rw[←hx, ←htake,hs,hn,Nat.mul_one]),(Array.getElem?_eq_some_iff.1 hh).1,by omega,hn.symm⟩
theorem Ez (t:Tok) (l:List Int) (hs:t.s=1) (hl:l.length≤1000000000):
  af Tryz.prog 87 [.ms t] [.row t (l.map (PV.int .i64))] (fun y Γ'=>y=.bn []∧Γ'= [.row t ((l.mergeSort fun x y=>decide (x≤y)).map (PV.int .i64))]):=by
 refine ⟨⟨_,Tryz.func87,rfl,rfl⟩,fun w0 F M w vs hS hT=>?_⟩
 obtain rfl:vs= [t.v]:=by
  match vs,hT with
  | [v],hT=>simp only[aB,aE,and_true] at hT;rw[hT.1]
 rcases CN hS hs with ⟨rfl,p,hv⟩ | ⟨g,cap,hb,hv,hH,hg,hc,hn⟩
 ·rw[hv]
  refine (Any.slices_Sort_int_none Tryz.Fp p 0 w).mono ?_;rintro e w' ⟨rfl,rfl⟩;exact ⟨_,F,.bn [],_,rfl,Fz.le_refl F,hS,by simp only[aE];exact ⟨[],rfl,by simp[aB]⟩,rfl,by simp⟩
 ·rw[hv]
  refine (Any.slices_Sort_int Tryz.Fp g 0 cap l w hH hg (by omega)).mono ?_;rintro e w' ⟨rfl,q,os,rfl⟩;exact ⟨_,F,.bn [],_,rfl,Fz.le_refl F,hS.FT hs (by simp) hb q os,by simp only[aE];exact ⟨[],rfl,by simp[aB]⟩,rfl,rfl⟩
theorem Gp (t:Tok) (l:List Int) (hs:t.s=1) (hl:l.length≤1000000000):
  af Tryz.prog 88 [.ms t] [.row t (l.map (PV.int .i64))] (fun y Γ'=> ∃ t':Tok,t'.e=t.e∧t'.s=1∧y=.ms t'∧Γ'= [.row t' ((Lib.compact l).map (PV.int .i64))]):=by
 refine ⟨⟨_,Tryz.func88,rfl,rfl⟩,fun w0 F M w vs hS hT=>?_⟩
 obtain ⟨rfl,h1⟩:vs= [t.v]∧t.v.oneCell'=true:=by
  match vs,hT with
  | [v],hT=>simp only[aB,aE,and_true] at hT;rw[hT.1];exact ⟨rfl,hT.2⟩
 rcases CN hS hs with ⟨rfl,p,hv⟩ | ⟨g,cap,hb,hv,hH,hg,hc,hn⟩
 ·rw[hv]
  refine (Any.slices_Compact_int_empty Tryz.yq p 0 w).mono ?_;rintro e w' ⟨rfl,rfl⟩;exact ⟨_,F,.ms t,_,rfl,Fz.le_refl F,hS,by simp only[aE];exact ⟨hv.symm,h1⟩,t,rfl,hs,rfl,by simp[Lib.compact,Lib.compactUpTo]⟩
 ·rw[hv]
  refine (Any.slices_Compact_int Tryz.yq g 0 cap l w hH (by omega) hc).mono ?_;rintro e w' ⟨rfl,q,rfl⟩;have hle:=BB l;have h2:=hS.FT (ts:=Lib.compact l++List.replicate (l.length - (Lib.compact l).length) 0) hs (by simp;omega) hb q #[];rw[grow_empty] at h2;have h3:=aP.C0 (M1:= []) h2 hb (by rw[hn];exact hv) (Lib.compact l).length (by simp)
  have fin: ∀ T:Tok,T=⟨.slice (some ⟨g,0,none⟩) (Lib.compact l).length cap,(Lib.compact l).length,t.s,t.e,some g⟩→ ∃ v F' y Γ',(Ending.returned (.slice (some ⟨g,0,none⟩) (Lib.compact l).length cap))=.returned v∧F.le F'∧aP w0 F' (Γ'++M) (putRow (Value.int .i64) (Sort.ahead w q) g 0 (Lib.compact l++List.replicate (l.length - (Lib.compact l).length) 0).toArray)∧aE F' y v∧ ∃ t':Tok,t'.e=t.e∧t'.s=1∧y=.ms t'∧Γ'= [.row t' ((Lib.compact l).map (PV.int .i64))]:=by
   intro T hT;subst hT;refine ⟨_,F,.ms ⟨.slice (some ⟨g,0,none⟩) (Lib.compact l).length cap,(Lib.compact l).length,t.s,t.e,some g⟩, [.row ⟨.slice (some ⟨g,0,none⟩) (Lib.compact l).length cap,(Lib.compact l).length,t.s,t.e,some g⟩ ((Lib.compact l).map (PV.int .i64))],rfl,Fz.le_refl F,?_,by unfold aE;exact ⟨rfl,rfl⟩,⟨.slice (some ⟨g,0,none⟩) (Lib.compact l).length cap,(Lib.compact l).length,t.s,t.e,some g⟩,rfl,hs,rfl,rfl⟩;simpa using h3
  exact fin _ rfl
theorem CM (t:Tok) (l:List Int) (hs:t.s=1) (hl:l.length≤1000000000):
  af Tryz.prog 50 [.ms t] [.row t (l.map (PV.int .i64))] (fun y Γ'=> ∃ t':Tok,t'.e=t.e∧t'.s=1∧y=.ms t'∧Γ'= [.row t' ((eA l).map (PV.int .i64))]):=by
 refine af.ah ai Tryz.func50 rfl rfl (n:=7) rfl rfl ?_
 conv=>whnf
 skip
 refine av.go (Ez t l hs hl) (aX.refl _) ?_;rintro _ _ ⟨rfl,rfl⟩
 conv=>whnf
 skip
 refine av.go (Gp t (l.mergeSort fun x y=>decide (x≤y)) hs (by simp;omega)) (aX.refl _) ?_;rintro _ _ ⟨t2,e2,s2,rfl,rfl⟩
 conv=>whnf
 skip
 have e:Lib.compact (l.mergeSort fun x y=>decide (x≤y))=eA l:=rfl;rw[e];exact ak.gen (Wk.refl _) ⟨t2,e2,s2,rfl,rfl⟩
def bG (l:List (aa×List Int)):List Int:=l.flatMap fun m=>m.1.v
theorem zq (l:List (aa×List Int)) (k:Nat):(bG (l.take k)).length≤(bG l).length:=by
 have:=congrArg List.length (congrArg bG (List.take_append_drop k l));unfold bG at this ⊢;rw[List.flatMap_append,List.length_append] at this;omega
theorem aa.JQ (t:aa): ∀ (sc:List Int) (deep:Int),(bG (t.met sc deep)).length≤t.aQ:=by
 induction t using aa.ind with
 | h t ih=>
  intro sc deep;rw[aa.wv,t.bu]
  have key: ∀ (l:List aa),(∀ y∈l, ∀ (sc:List Int) (deep:Int),(bG (y.met sc deep)).length≤y.aQ)→ ∀ sc inner deep,(bG (aa.fZ t.op sc inner l deep)).length≤aa.aD l:=by
   intro l
   induction l with
   | nil=>intro _ _ _ _;simp[aa.fZ,bG]
   | cons x l ihl=>
    intro hy sc inner deep;have h1:=hy x (by simp) (if fk t.op=true∨l= [] then inner else sc) deep;have h2:=ihl (fun y h=>hy y (by simp[h])) sc inner deep;unfold bG at h1 h2 ⊢;rw[aa.fZ,aa.aD,List.flatMap_append,List.length_append];omega
  have:=key t.t ih sc (sc++t.v) (deep + 1);unfold bG at this ⊢;rw[List.flatMap_cons,List.length_append]
  split
  ·simp;omega
  ·show t.v.length + _≤_
   omega
theorem LW (t:aa) (hb:t.aQ≤1000000000):af Tryz.prog 141 [.agg t.cells] [] (fun y Γ'=> ∃ tk:Tok,tk.e=3∧tk.s=1∧y=.ms tk∧Γ'= [.row tk ((eA (bg t.all)).map (PV.int .i64))]):=by
 have hlen:t.all.length≤t.aQ:=t.FA [] 0;refine af.ah ai Tryz.func141 rfl rfl (n:=28) rfl rfl ?_
 conv=>whnf
 repeat' (first|refine dw ?_|((intro _);conv=>whnf)|(refine zX (fun hc=>?_) (fun hc=>?_)<;>(try simp only[SY] at hc)<;>omega))
 rename_i bt bo;refine av.OY (au.trans (au.cm 1 3 _) (au.box (b:=bo) (cs:= [.nil]) (cs':= [.ms (ay 1 3)]) (.cons (Wk.cm 1 3) .nil))) (M0 t) (aX.refl _) ?_;rintro _ _ ⟨b,rfl,rfl⟩
 conv=>whnf
 skip
 refine PRange.go (t.all.map fun m=> [Hx m]) (fun s:Tok×List Int=> [.box bo [.ms s.1],.row s.1 (s.2.map (PV.int .i64))]) (fun k s=>s.1.e=3∧s.1.s=1∧s.2=bg (t.all.take k)) (fun _ _=>False) (ay 1 3, []) (IG b t hb) ⟨rfl,rfl,rfl⟩
  (hp:=(inferInstance:bC _ [.box bo [.ms (ay 1 3)],.row (ay 1 3) [],.box b t.cells] _)) (by intro ys hy;obtain ⟨m,_,rfl⟩:=List.mem_map.1 hy;rfl) ?_ ?_ (fun _ _ _ h=>h.elim)
 ·rintro k ys ⟨tk,l⟩ hk ⟨k1,k2,k3⟩
  dsimp only at k1 k2 k3⊢
  obtain ⟨m,hm,rfl⟩: ∃ m,t.all[k]?=some m∧ys= [Hx m]:=by
   rw[List.getElem?_map] at hk
   cases h:t.all[k]? with
   | none=>rw[h] at hk;cases hk
   | some m=>rw[h] at hk;cases hk;exact ⟨m,rfl,rfl⟩
  obtain ⟨hlt,hmg⟩:=List.getElem?_eq_some_iff.1 hm
  have hst:bg (t.all.take (k + 1))=bg (t.all.take k)++(if (iN m.1.op && !m.2.contains m.1.n)=true then [m.1.n] else []):=by
   rw[List.take_succ_eq_append_getElem hlt,bg,List.filter_append,List.map_append,hmg];congr 1;by_cases h:(iN m.1.op && !m.2.contains m.1.n)=true
   ·rw[if_pos h];simp only[List.filter,h];rfl
   ·rw[if_neg h];rw[Bool.not_eq_true] at h;simp only[List.filter,h];rfl
  have hll:l.length≤k:=by
   rw[k3,bg,List.length_map];exact Nat.le_trans (List.length_filter_le _ _) (by rw[List.length_take];omega)
  conv=>whnf
  repeat' (first|refine dw ?_|((intro _);conv=>whnf)|(refine zX (fun hc=>?_) (fun hc=>?_)<;>(try simp only[SY] at hc)<;>omega))
  refine ⟨rfl,?_⟩
  conv=>whnf
  repeat' (first|refine dw ?_|((first|(((apply zY;intro hg));(conv=>whnf);(repeat ((first|refine pC (fT m.2 m.1.n) wR ?_|refine aG ?_);conv=>whnf));exact pZ)|refine pC (Mi m.1) wR ?_|intro _);conv=>whnf)|(refine zX (fun hc=>?_) (fun hc=>?_)<;>(try simp only[SY] at hc)<;>(conv=>whnf)))
  ·refine aZ.Oq (f:=PV.int .i64) (l:=l) m.1.n k1 k2 (Wk.tok _ _ _) (by omega) (by show _ * 8≤_;omega) (fun t3 e3 s3=>?_)
   conv=>whnf
   repeat (refine mj ?_)
   exact wQ (k:=k) (G:=fun s:Tok×List Int=> [.box bo [.ms s.1],.row s.1 (s.2.map (PV.int .i64))]) (I:=fun k s=>s.1.e=3∧s.1.s=1∧s.2=bg (t.all.take k)) (X:=fun _ _=>False) (t3,l++ [m.1.n]) ⟨e3,s3,by show l++ [m.1.n]=bg (t.all.take (k + 1));rw[hst,if_pos (by rw[Bool.and_eq_true,hc.1,hc.2];exact ⟨rfl,rfl⟩),k3]⟩ (hp:=(inferInstance:bC _ [.box bo [.ms t3],.row t3 ((l++ [m.1.n]).map (PV.int .i64))] _))
  ·exact wQ (k:=k) (G:=fun s:Tok×List Int=> [.box bo [.ms s.1],.row s.1 (s.2.map (PV.int .i64))]) (I:=fun k s=>s.1.e=3∧s.1.s=1∧s.2=bg (t.all.take k)) (X:=fun _ _=>False) (tk,l) ⟨k1,k2,by show l=bg (t.all.take (k + 1));rw[hst,if_neg (by rw[Bool.and_eq_true,Bool.not_eq_true'];rintro ⟨a,b⟩;rcases hc with h | h;rw[a] at h;cases h;rw[b] at h;cases h),List.append_nil,k3]⟩ (hp:=(inferInstance:bC _ [.box bo [.ms tk],.row tk (l.map (PV.int .i64))] _))
 ·rintro bd ⟨tk,l⟩ ⟨k1,k2,k3⟩
  dsimp only at k1 k2 k3 ⊢;rw[List.length_map,List.take_length] at k3;subst k3
  have hfl:(bg t.all).length≤1000000000:=by
   rw[bg,List.length_map];exact Nat.le_trans (List.length_filter_le _ _) (by omega)
  conv=>whnf
  repeat' (first|refine dw ?_|(refine zX (fun hc=>?_) (fun hc=>?_)<;>(try simp only[SY] at hc)<;>omega))
  refine av.LX [.ob bd kV [] [],.box bo [.ms tk]] (CM tk (bg t.all) k2 hfl) (aX.refl _) (List.Perm.refl _) ?_;rintro _ _ ⟨t4,e4,s4,rfl,rfl⟩
  conv=>whnf
  skip
  refine Bh.at_ rfl ?_
  conv=>whnf
  exact ak.gen (y:=.ms t4) (Wk.refl _) ⟨t4,e4.trans k1,s4,rfl,rfl⟩
theorem NQ (t:aa) (hb:t.aQ≤1000000000):aA Tryz.prog 141 [.agg t.cells] (cW (eA (bg t.all))):=
 aA.Ef ((LW t hb).shift fun y Γ' hq=>by
  obtain ⟨tk,h1,h2,rfl,rfl⟩:=hq
  exact ⟨_,_,Shift.bK (es:=(eA (bg t.all)).map (PV.int .i64)) (iA.ms' h2),rfl⟩)
theorem IN (t:aa) (hb:t.aQ≤1000000000):af Tryz.prog 30 [.agg t.cells] [] (fun y Γ'=> ∃ tk:Tok,tk.e=3∧tk.s=1∧y=.ms tk∧Γ'= [.row tk ((eA (bG t.all)).map (PV.int .i64))]):=by
 have hlen:(bG t.all).length≤t.aQ:=t.JQ [] 0;refine af.ah ai Tryz.func30 rfl rfl (n:=15) rfl rfl ?_
 conv=>whnf
 repeat' (first|refine dw ?_|((intro _);conv=>whnf)|(refine zX (fun hc=>?_) (fun hc=>?_)<;>(try simp only[SY] at hc)<;>omega))
 rename_i bt bo;refine av.OY (au.trans (au.cm 1 3 _) (au.box (b:=bo) (cs:= [.nil]) (cs':= [.ms (ay 1 3)]) (.cons (Wk.cm 1 3) .nil))) (M0 t) (aX.refl _) ?_;rintro _ _ ⟨b,rfl,rfl⟩
 conv=>whnf
 skip
 refine PRange.go (t.all.map fun m=> [Hx m]) (fun s:Tok×List Int=> [.box bo [.ms s.1],.row s.1 (s.2.map (PV.int .i64))]) (fun k s=>s.1.e=3∧s.1.s=1∧s.2=bG (t.all.take k)) (fun _ _=>False) (ay 1 3, []) (IG b t hb) ⟨rfl,rfl,rfl⟩
  (hp:=(inferInstance:bC _ [.box bo [.ms (ay 1 3)],.row (ay 1 3) [],.box b t.cells] _)) (by intro ys hy;obtain ⟨m,_,rfl⟩:=List.mem_map.1 hy;rfl) ?_ ?_ (fun _ _ _ h=>h.elim)
 ·rintro k ys ⟨tk,l⟩ hk ⟨k1,k2,k3⟩
  dsimp only at k1 k2 k3⊢
  obtain ⟨m,hm,rfl⟩: ∃ m,t.all[k]?=some m∧ys= [Hx m]:=by
   rw[List.getElem?_map] at hk
   cases h:t.all[k]? with
   | none=>rw[h] at hk;cases hk
   | some m=>rw[h] at hk;cases hk;exact ⟨m,rfl,rfl⟩
  obtain ⟨hlt,hmg⟩:=List.getElem?_eq_some_iff.1 hm
  have hst:bG (t.all.take (k + 1))=bG (t.all.take k)++m.1.v:=by
   rw[List.take_succ_eq_append_getElem hlt,bG,List.flatMap_append,hmg];simp[bG]
  have hll:l.length + m.1.v.length≤1000000000:=by
   have h1:(bG (t.all.take (k + 1))).length≤(bG t.all).length:=zq _ _;rw[hst,List.length_append, ←k3] at h1;omega
  conv=>whnf
  repeat' (first|refine dw ?_|((intro _);conv=>whnf)|(refine zX (fun hc=>?_) (fun hc=>?_)<;>(try simp only[SY] at hc)<;>omega))
  refine ⟨rfl,?_⟩
  conv=>whnf
  repeat' (first|refine dw ?_|(refine zX (fun hc=>?_) (fun hc=>?_)<;>(try simp only[SY] at hc)<;>omega))
  refine aZ.FY (f:=PV.int .i64) (l:=l) (m:=m.1.v) k1 k2 (Wk.tok _ _ _) (by omega) (by show _ * 8≤_;omega) (fun t3 e3 s3=>?_)
  conv=>whnf
  repeat (refine mj ?_)
  exact wQ (k:=k) (G:=fun s:Tok×List Int=> [.box bo [.ms s.1],.row s.1 (s.2.map (PV.int .i64))]) (I:=fun k s=>s.1.e=3∧s.1.s=1∧s.2=bG (t.all.take k)) (X:=fun _ _=>False) (t3,l++m.1.v) ⟨e3,s3,by show l++m.1.v=bG (t.all.take (k + 1));rw[hst,k3]⟩ (hp:=(inferInstance:bC _ [.box bo [.ms t3],.row t3 ((l++m.1.v).map (PV.int .i64))] _))
 ·rintro bd ⟨tk,l⟩ ⟨k1,k2,k3⟩
  dsimp only at k1 k2 k3 ⊢;rw[List.length_map,List.take_length] at k3;subst k3;have hfl:(bG t.all).length≤1000000000:=by omega
  conv=>whnf
  repeat' (first|refine dw ?_|(refine zX (fun hc=>?_) (fun hc=>?_)<;>(try simp only[SY] at hc)<;>omega))
  refine av.LX [.ob bd kV [] [],.box bo [.ms tk]] (CM tk (bG t.all) k2 hfl) (aX.refl _) (List.Perm.refl _) ?_;rintro _ _ ⟨t4,e4,s4,rfl,rfl⟩
  conv=>whnf
  skip
  refine Bh.at_ rfl ?_
  conv=>whnf
  exact ak.gen (y:=.ms t4) (Wk.refl _) ⟨t4,e4.trans k1,s4,rfl,rfl⟩
theorem LG (t:aa) (hb:t.aQ≤1000000000):aA Tryz.prog 30 [.agg t.cells] (cW (eA (bG t.all))):=
 aA.Ef ((IN t hb).shift fun y Γ' hq=>by
  obtain ⟨tk,h1,h2,rfl,rfl⟩:=hq
  exact ⟨_,_,Shift.bK (es:=(eA (bG t.all)).map (PV.int .i64)) (iA.ms' h2),rfl⟩)
mutual
def aa.sh (k:Int):aa→aa
 | .mk op n v t=>.mk op (if iN op=true then n + k else n) (v.map (· + k)) (aa.Q9 k t)
def aa.Q9 (k:Int):List aa→List aa
 | []=> []
 | x::xs=>aa.sh k x::aa.Q9 k xs
end
mutual
def aa.A9:aa→List Int
 | .mk op n _ t=>(if op=2∨op=14 then [n] else [])++aa.zj t
def aa.zj:List aa→List Int
 | []=> []
 | x::xs=>aa.A9 x++aa.zj xs
end
theorem aa.II (t:aa):t.A9=(if t.op=2∨t.op=14 then [t.n] else [])++aa.zj t.t:=by cases t;rw[aa.A9];rfl
def Kj (v:Int):aa:=.mk 1 v [] []
def NC (t:aa):aa:=.mk 15 0 [] [t]
def N4 (A:Int→Bool):List Int→Int→List Int
 | [],_=> []
 | x::xs,k=>if A x=true then k::N4 A xs (k + 1) else x::N4 A xs k
def N3 (A:Int→Bool):List Int→Int→List aa
 | [],_=> []
 | x::xs,k=>if A x=true then NC (Kj k)::N3 A xs (k + 1) else N3 A xs k
def N0 (A:Int→Bool) (l:List Int):Int:=((l.filter A).length:Int)
def IQ (A:Int→Bool):List Int→List aa→List aa
 | v::vs,x::xs=>(if A v=true then NC x else x)::IQ A vs xs
 | _,l=>l
def NP (A:Int→Bool):List Int→List aa→List aa
 | v::vs,x::xs=>if A v=true then NP A vs xs else x::NP A vs xs
 | _,_=> []
def NO (A:Int→Bool):List Int→List aa→aa→aa
 | v::vs,x::xs,o=>if A v=true then .mk 6 0 [] [.mk 17 0 [] [Kj v,x],NO A vs xs o] else NO A vs xs o
 | _,_,o=>o
def Qy (A:Int→Bool) (vs:List Int) (l:List aa):aa:=
 let o:=NO A vs l (l.getD vs.length (Kj 0))
 if vs.filter (fun v=>!A v)= [] then o else .mk 9 0 (vs.filter fun v=>!A v) (NP A vs l++ [o])
def Qz (A:Int→Bool) (vs:List Int) (l:List aa):aa:=
 .mk 8 0 (vs.filter A) ((vs.filter A).map (fun _=>NC (.mk 13 0 [] []))++ [Qy A vs l])
mutual
def aa.fr (A:Int→Bool):aa→Int
 | .mk op _ v t=>(if op=4 then N0 A v else 0) + aa.Q0 A t
def aa.Q0 (A:Int→Bool):List aa→Int
 | []=>0
 | x::xs=>aa.fr A x + aa.Q0 A xs
end
mutual
def aa.cv (A:Int→Bool):aa→Int→aa
 | .mk op n v t,k=>
  if op=1∧A n=true then .mk 16 0 [] [.mk op n v t]
  else if op=2 then .mk 17 0 [] (Kj n::aa.M4 A t k)
  else if op=14 then .mk 18 0 [] (Kj n::aa.M4 A t k)
  else if op=4 then .mk 4 n (N4 A v k) (if v.filter A= [] then aa.M4 A t (k + N0 A v) else [.mk 8 0 (v.filter A) (N3 A v k++aa.M4 A t (k + N0 A v))])
  else if op=9∧v.any A=true then Qz A v (aa.M4 A t k)
  else .mk op n v (if op=8 then IQ A v (aa.M4 A t k) else aa.M4 A t k)
def aa.M4 (A:Int→Bool):List aa→Int→List aa
 | [],_=> []
 | x::xs,k=>aa.cv A x k::aa.M4 A xs (k + aa.fr A x)
end
mutual
def aa.O2:aa→Prop
 | .mk op n v t=>((op=1→v= []∧t= [])∧(op=2∨op=14∨op=4→t.length=1)∧(op=8∨op=9→t.length=v.length + 1)∧(op=9→n=0))∧aa.HY t
def aa.HY:List aa→Prop
 | []=>True
 | x::xs=>aa.O2 x∧aa.HY xs
end
theorem aa.OB (t:aa):t.O2↔((t.op=1→t.v= []∧t.t= [])∧(t.op=2∨t.op=14∨t.op=4→t.t.length=1)∧(t.op=8∨t.op=9→t.t.length=t.v.length + 1)∧(t.op=9→t.n=0))∧aa.HY t.t:=by
 cases t;rw[aa.O2];rfl
mutual
def aa.RK:aa→List Int
 | .mk op n v t=>(if op=1 then [n] else [])++v++aa.PK t
def aa.PK:List aa→List Int
 | []=> []
 | x::xs=>aa.RK x++aa.PK xs
end
def aa.sz (l:List aa):Int:=aa.c6 l
def Qm:List aa→List aa→Prop
 | [], []=>True
 | x::l,y::m=>x.cnt=y.cnt∧Qm l m
 | _,_=>False
theorem Qm.getD: ∀ {l m:List aa} (i:Nat) (d:aa),Qm l m→(l.getD i d).cnt=(m.getD i d).cnt
 | [], [],_,_,_=>rfl
 | x::l,y::m,0,d,h=>by simpa using h.1
 | x::l,y::m,i + 1,d,h=>by simpa using h.2.getD i d
 | [],_::_,_,_,h=>h.elim
 | _::_, [],_,_,h=>h.elim
section
variable {A B:Int→Bool} {s:Int} (hAB: ∀ v,B (v + s)=A v)
include hAB
end
theorem aa.Mp {level c codes:Int} {free:Bool} (t:aa): ∀ {scope:List Int} {deep:Int},t.xm level c codes free scope deep→t.O2:=by
 induction t using aa.ind with
 | h t ih=>
  intro scope deep h;rw[aa.nO] at h;rw[aa.OB]
  have key: ∀ (op:Int) (sc inner:List Int) (deep:Int) (l:List aa),(∀ y∈l, ∀ {scope:List Int} {deep:Int},y.xm level c codes free scope deep→y.O2)→aa.jd level c codes free op sc inner l deep→aa.HY l:=by
   intro op sc inner deep l
   induction l with
   | nil=>intro _ _;rw[aa.HY];trivial
   | cons x l ihl=>
    intro hy hk;rw[aa.jd] at hk;rw[aa.HY];exact ⟨hy x (by simp) hk.2.1,ihl (fun z hz=>hy z (by simp[hz])) hk.2.2⟩
  refine ⟨?_,key _ _ _ _ _ ih h.2⟩;obtain ⟨⟨_,_,h3,h4⟩,_⟩:=h;unfold dF at h3;refine ⟨fun e=>?_,fun e=>?_,fun e=>?_,fun e=>?_⟩
  ·rw[e] at h3
   simp[zo] at h3;exact h3
  ·split at h3
   ·cases h3
   ·rw[if_neg (by omega),if_pos (by omega)] at h3
    have:(t.t.length:Int)=1:=by simpa using h3
    omega
  ·split at h3
   ·cases h3
   ·rw[if_neg (by omega),if_neg (by omega),if_neg (by omega),if_neg (by omega),if_neg (by omega),if_pos (by omega)] at h3
    have:(t.t.length:Int)=(t.v.length:Int) + 1:=by simpa using h3
    omega
  ·unfold cB at h4
   rw[if_neg (by omega),if_neg (by omega),if_neg (by omega),if_neg (by omega),if_neg (by omega),if_neg (by omega),if_neg (by omega)] at h4;simpa using h4
mutual
def aa.uC (P:Int→Int→Bool):aa→Int→Int
 | .mk op n _ t,deep=>(if P op n=true then 1 else 0) + (if deep < 1000 then aa.A4 P t (deep + 1) else 0)
def aa.A4 (P:Int→Int→Bool):List aa→Int→Int
 | [],_=>0
 | x::xs,deep=>aa.uC P x deep + aa.A4 P xs deep
end
theorem aa.Gb (P:Int→Int→Bool) (t:aa) (deep:Int):t.uC P deep=(if P t.op t.n=true then 1 else 0) + (if deep < 1000 then aa.A4 P t.t (deep + 1) else 0):=by cases t;rw[aa.uC];rfl
theorem aa.uz (P:Int→Int→Bool) (t:aa): ∀ deep:Int,0≤t.uC P deep∧t.uC P deep≤t.cnt:=by
 induction t using aa.ind with
 | h t ih=>
  intro deep
  have key: ∀ l:List aa,(∀ y∈l, ∀ deep:Int,0≤y.uC P deep∧y.uC P deep≤y.cnt)→ ∀ deep,0≤aa.A4 P l deep∧aa.A4 P l deep≤aa.c6 l:=by
   intro l
   induction l with
   | nil=>intro _ _;rw[aa.A4,aa.c6];omega
   | cons x l ihl=>intro hy deep;rw[aa.A4,aa.c6];have:=hy x (by simp) deep;have:=ihl (fun z hz=>hy z (by simp[hz])) deep;omega
  have:=key t.t ih (deep + 1);have:=aa.eO t.t;rw[aa.Gb,aa.kU]
  split<;>split<;>omega
theorem aa.A5 (P:Int→Int→Bool) (l:List aa) (deep:Int):0≤aa.A4 P l deep∧aa.A4 P l deep≤aa.c6 l:=by
 induction l with
 | nil=>rw[aa.A4,aa.c6];omega
 | cons x l ih=>rw[aa.A4,aa.c6];have:=x.uz P deep;omega
def iD (v op n:Int):Bool:=(op == 2 || op == 14) && n == v
def rY (v op n:Int):Bool:=op == 1 && n == v
theorem aa.ON (v:Int) (t:aa): ∀ deep:Int,deep + t.dep < 1000→(0 < t.uC (iD v) deep↔v∈t.A9):=by
 induction t using aa.ind with
 | h t ih=>
  intro deep h;have hge:=aa.uQ t.t 0;rw[aa.vA] at h;have hd:=(aa.qU (999 - deep) t.t 0).1 (by omega)
  have key: ∀ l:List aa,(∀ y∈l, ∀ deep:Int,deep + y.dep < 1000→(0 < y.uC (iD v) deep↔v∈y.A9))→ ∀ deep,(∀ x∈l,deep + x.dep < 1000)→(0 < aa.A4 (iD v) l deep↔v∈aa.zj l):=by
   intro l
   induction l with
   | nil=>intro _ _ _;rw[aa.A4,aa.zj];simp
   | cons x l ihl=>
    intro hy deep hx;rw[aa.A4,aa.zj,List.mem_append, ←hy x (by simp) deep (hx x (by simp)), ←ihl (fun z hz=>hy z (by simp[hz])) deep fun z hz=>hx z (by simp[hz])];have:=x.uz (iD v) deep;have:=aa.A5 (iD v) l deep;omega
  have hk:=key t.t ih (deep + 1) fun x hx=>by have:=hd.2 x hx;omega
  have hb:=aa.A5 (iD v) t.t (deep + 1);have hlt:deep < 1000:=by omega
  rw[aa.Gb,if_pos hlt,aa.II,List.mem_append, ←hk];by_cases hp:iD v t.op t.n=true
  ·rw[if_pos hp]
   simp[iD] at hp;rw[if_pos hp.1];simp[hp.2];omega
  ·rw[if_neg hp]
   have: ¬ v∈(if t.op=2∨t.op=14 then [t.n] else []):=by
    split
    ·rename_i ho
     intro hv;exact hp (by simp[iD,ho];simp at hv;exact hv.symm)
    ·simp
   simp only[this,false_or];omega
def cU (l:List Int) (v:Int):List Int:=l.takeWhile (fun x=>decide (x < v))++(if (l.dropWhile fun x=>decide (x < v)).head?=some v then l.dropWhile (fun x=>decide (x < v)) else v::l.dropWhile fun x=>decide (x < v))
theorem s7 (x:Int) (l:List Int) (v:Int):cU (x::l) v=if x < v then x::cU l v else if x=v then x::l else v::x::l:=by
 unfold cU;by_cases h:x < v
 ·simp[List.takeWhile_cons,List.dropWhile_cons,h]
 ·simp[List.takeWhile_cons,List.dropWhile_cons,h]
theorem wu (v x:Int): ∀ l:List Int,x∈cU l v↔x=v∨x∈l
 | []=>by simp[cU]
 | y::l=>by
  rw[s7]
  split
  ·rw[List.mem_cons,wu v x l,List.mem_cons]
   constructor
   ·rintro (h | h | h)
    ·exact .inr (.inl h)
    ·exact .inl h
    ·exact .inr (.inr h)
   ·rintro (h | h | h)
    ·exact .inr (.inl h)
    ·exact .inl h
    ·exact .inr (.inr h)
  ·split
   ·rename_i e;rw[List.mem_cons,e]
    constructor
    ·rintro (h | h)
     ·exact .inl h
     ·exact .inr (.inr h)
    ·rintro (h | h | h)
     ·exact .inl h
     ·exact .inl h
     ·exact .inr h
   ·rw[List.mem_cons]
theorem rW (v:Int): ∀ {l:List Int},l.Pairwise (· < ·)→(cU l v).Pairwise (· < ·)
 | [],_=>by simp[cU]
 | y::l,h=>by
  rw[List.pairwise_cons] at h;rw[s7]
  split
  ·rw[List.pairwise_cons]
   refine ⟨fun z hz=>?_,rW v h.2⟩;rcases (wu v z l).1 hz with rfl | hz
   ·assumption
   ·exact h.1 z hz
  ·split
   ·exact List.pairwise_cons.2 h
   ·rw[List.pairwise_cons]
    refine ⟨fun z hz=>?_,List.pairwise_cons.2 h⟩;rcases List.mem_cons.1 hz with rfl | hz
    ·omega
    ·have:=h.1 z hz;omega
theorem nQ (v:Int): ∀ l:List Int,(cU l v).length≤l.length + 1
 | []=>by simp[cU]
 | y::l=>by
  rw[s7];have:=nQ v l
  split
  ·simp;omega
  ·split<;>simp
mutual
def aa.bD:aa→Int→List Int→List Int
 | .mk _ _ v t,deep,out=>if deep < 1000 then aa.Ik t (deep + 1) (v.foldl cU out) else v.foldl cU out
def aa.Ik:List aa→Int→List Int→List Int
 | [],_,out=>out
 | x::xs,deep,out=>aa.Ik xs deep (aa.bD x deep out)
end
theorem aa.M3 (t:aa) (deep:Int) (out:List Int):t.bD deep out=if deep < 1000 then aa.Ik t.t (deep + 1) (t.v.foldl cU out) else t.v.foldl cU out:=by cases t;rw[aa.bD];rfl
theorem kW: ∀ (v out:List Int),out.Pairwise (· < ·)→(v.foldl cU out).Pairwise (· < ·)
 | [],_,h=>h
 | x::v,out,h=>kW v _ (rW x h)
theorem j3 (x:Int): ∀ (v out:List Int),x∈v.foldl cU out↔x∈out∨x∈v
 | [],_=>by simp
 | y::v,out=>by
  rw[List.foldl_cons,j3 x v,wu,List.mem_cons];constructor
  ·rintro ((h | h) | h)
   ·exact .inr (.inl h)
   ·exact .inl h
   ·exact .inr (.inr h)
  ·rintro (h | h | h)
   ·exact .inl (.inr h)
   ·exact .inl (.inl h)
   ·exact .inr h
theorem nr: ∀ (v out:List Int),(v.foldl cU out).length≤out.length + v.length
 | [],_=>by simp
 | x::v,out=>by
  rw[List.foldl_cons,List.length_cons];have:=nr v (cU out x);have:=nQ x out;omega
theorem aa.uL (t:aa): ∀ (deep:Int) (out:List Int),out.Pairwise (· < ·)→(t.bD deep out).Pairwise (· < ·)∧(t.bD deep out).length≤out.length + t.aQ∧(deep + t.dep < 1000→ ∀ x,x∈t.bD deep out↔x∈out∨x∈t.vars):=by
 induction t using aa.ind with
 | h t ih=>
  intro deep out ho;have hge:=aa.uQ t.t 0;have hbe:=t.bu
  have key: ∀ l:List aa,(∀ y∈l, ∀ (deep:Int) (out:List Int),out.Pairwise (· < ·)→(y.bD deep out).Pairwise (· < ·)∧(y.bD deep out).length≤out.length + y.aQ∧(deep + y.dep < 1000→ ∀ x,x∈y.bD deep out↔x∈out∨x∈y.vars))→
    ∀ (deep:Int) (out:List Int),out.Pairwise (· < ·)→(aa.Ik l deep out).Pairwise (· < ·)∧(aa.Ik l deep out).length≤out.length + aa.aD l∧((∀ x∈l,deep + x.dep < 1000)→ ∀ x,x∈aa.Ik l deep out↔x∈out∨x∈aa.iw l):=by
   intro l
   induction l with
   | nil=>intro _ deep out ho;rw[aa.Ik,aa.iw];exact ⟨ho,by omega,by simp⟩
   | cons x l ihl=>
    intro hy deep out ho;obtain ⟨a1,a2,a3⟩:=hy x (by simp) deep out ho;obtain ⟨b1,b2,b3⟩:=ihl (fun z hz=>hy z (by simp[hz])) deep (x.bD deep out) a1;rw[aa.Ik,aa.iw,aa.aD];refine ⟨b1,by omega,fun hd z=>?_⟩;rw[b3 (fun y hz=>hd y (by simp[hz])),a3 (hd x (by simp)),List.mem_append,or_assoc]
  have hf:=kW t.v out ho;have hl:=nr t.v out;obtain ⟨b1,b2,b3⟩:=key t.t ih (deep + 1) _ hf;rw[aa.M3]
  split
  ·refine ⟨b1,by omega,fun hd z=>?_⟩
   rw[aa.vA] at hd;have hd2:=(aa.qU (999 - deep) t.t 0).1 (by omega);rw[b3 fun x hx=>by have:=hd2.2 x hx;omega];rw[j3,aa.va,List.mem_append,or_assoc]
  ·exact ⟨hf,by omega,fun hd=>by rw[aa.vA] at hd;omega⟩
def dY (t:aa):List Int:=eA t.vars
theorem aa.zl (t:aa) (h:t.dep < 1000):t.bD 0 []=dY t:=by
 obtain ⟨h1,_,h3⟩:=t.uL 0 [] List.Pairwise.nil;exact D7 h1 (AQ _) fun x=>by rw[h3 (by omega),dY,nM];simp
theorem aa.Dj (t:aa) (h:t.dep < 1000):eA (bG t.all)=dY t:=by
 have:=(t.Fy [] 0 (by omega)).2;unfold dY bG;exact congrArg eA this
def c8 (t:aa):Int:=if dY t= [] then 0 else (dY t).getD ((dY t).length - 1) 0 + 1
def PL:Prog:=⟨[],.mk 0 0 [] []⟩
theorem OO (v:Int) (t:aa): ∀ deep:Int,0≤deep→deep≤1000→t.aQ≤1000000000→aA Tryz.prog 67 [.agg t.cells,.int .i64 v,.int .i64 deep] (.bn [.int .i64 (t.uC (rY v) deep),.int .i64 (t.uC (iD v) deep)]):=by
 induction t using aa.ind with
 | h t ih=>
  intro deep h0 h1 hb;have hbe:=t.bu;have he:=t.Gb (rY v) deep;have he2:=t.Gb (iD v) deep;have hbd:=t.uz (rY v) deep;have hbd2:=t.uz (iD v) deep;have hcb:=t.Bz;have ih': ∀ x∈t.t, ∀ deep:Int,0≤deep→deep≤1000→aA Tryz.prog 67 [.agg x.cells,.int .i64 v,.int .i64 deep] (.bn [.int .i64 (x.uC (rY v) deep),.int .i64 (x.uC (iD v) deep)]):=fun x hx d a b=>ih x hx d a b (by have:=aa.bz hx;omega);refine af.ah ai Tryz.func67 rfl rfl (n:=67) rfl rfl ?_
  conv=>whnf
  repeat (((intro _);conv=>whnf))
  refine me.keep (fun r:Int=> [(8,.int .i64 r)]) (fun r=>r=if rY v t.op t.n=true then 1 else 0) ?_ ?_
  ·conv=>whnf
   repeat' (first|refine l9 ?_|(refine zX (fun hc=>?_) (fun hc=>?_)<;>(try simp only[SY] at hc)<;>(conv=>whnf)))
   ·exact fH 1 (by rw[if_pos (by simp[rY,hc])]) wA
   ·exact fH 0 (by rw[if_neg (by simp only[rY,Bool.and_eq_true,beq_iff_eq];omega)]) wA
  rintro r hr
  conv=>whnf
  skip
  refine me.keep (fun s:Int=> [(9,.int .i64 s)]) (fun s=>s=if iD v t.op t.n=true then 1 else 0) ?_ ?_
  ·conv=>whnf
   repeat' (first|refine l9 ?_|(refine zX (fun hc=>?_) (fun hc=>?_)<;>(try simp only[SY] at hc)<;>(conv=>whnf)))
   ·exact fH 1 (by rw[if_pos (by simp only[iD,Bool.and_eq_true,Bool.or_eq_true,beq_iff_eq];omega)]) wA
   ·exact fH 0 (by rw[if_neg (by simp only[iD,Bool.and_eq_true,Bool.or_eq_true,beq_iff_eq];omega)]) wA
  rintro s hs;have hr1:0≤r∧r≤1:=by rw[hr];split<;>omega
  have hs1:0≤s∧s≤1:=by rw[hs];split<;>omega
  rw[←hr] at he;rw[←hs] at he2
  conv=>whnf
  skip
  refine aq.keep [8,9,10,11,12,36,37,38,39,40,41,42,43,44,45,46,47,48,49,50,51,52,53,54,55,56,57,58,59,60,61,62,63,64] (fun x:Nat×Int×Int=> [(8,.int .i64 x.2.1),(9,.int .i64 x.2.2),(10,.int .i64 x.1)])
   (fun x=>x.1≤t.t.length∧(0≤x.2.1∧0≤x.2.2)∧x.2.1 + (if deep < 1000 then aa.A4 (rY v) (t.t.drop x.1) (deep + 1) else 0)=t.uC (rY v) deep∧x.2.2 + (if deep < 1000 then aa.A4 (iD v) (t.t.drop x.1) (deep + 1) else 0)=t.uC (iD v) deep)
   (fun x=>t.t.length - x.1) (0,r,s) ⟨Nat.zero_le _,⟨by simp;omega,by simp;omega⟩,by rw[he];simp,by rw[he2];simp⟩ wA ?_
  rintro ⟨i,n,m⟩ ⟨hi,hn,hm,hm2⟩;dsimp only at hi hn hm hm2⊢
  conv=>whnf
  repeat' (first|refine l9 ?_|((first|refine pC (ih' _ (List.getElem_mem _) _ (by omega) (by omega)) wR ?_|intro _);conv=>whnf)|(refine zX (fun hc=>?_) (fun hc=>?_)<;>(try simp only[SY] at hc)<;>(conv=>whnf)))
  ·have hlt:deep < 1000:=by omega
   rw[if_pos hlt,aI (show i < t.t.length by omega),aa.A4] at hm hm2;have hx:=(t.t[i]).uz (rY v) (deep + 1);have hr:=aa.A5 (rY v) (t.t.drop (i + 1)) (deep + 1);have hx2:=(t.t[i]).uz (iD v) (deep + 1);have hr2:=aa.A5 (iD v) (t.t.drop (i + 1)) (deep + 1);refine ju.ok (by omega) (by omega) ?_
   conv=>whnf
   repeat' (first|refine l9 ?_|(refine zX (fun hc=>?_) (fun hc=>?_)<;>(try simp only[SY] at hc)<;>omega))
   exact an (i + 1,n + t.t[i].uC (rY v) (deep + 1),m + t.t[i].uC (iD v) (deep + 1)) ⟨by show i + 1≤_;omega,⟨by show 0≤n + (t.t[i]).uC _ (deep + 1);omega,by show 0≤m + (t.t[i]).uC _ (deep + 1);omega⟩,by dsimp only;rw[if_pos hlt];omega,by dsimp only;rw[if_pos hlt];omega⟩ (by show t.t.length - (i + 1) < t.t.length - i;omega) wA
  ·have e1:n=t.uC (rY v) deep:=by
    rw[←hm]
    split
    ·rw[List.drop_of_length_le (by omega),aa.A4];omega
    ·omega
   have e2:m=t.uC (iD v) deep:=by
    rw[←hm2]
    split
    ·rw[List.drop_of_length_le (by omega),aa.A4];omega
    ·omega
   rw[←e1, ←e2];exact ak.pure (Wk.refl _)
theorem Nu (v:Int) (t:aa) (hb:t.aQ≤1000000000):aA Tryz.prog 42 [.agg t.cells,.int .i64 v] (.bn [.int .i64 (t.uC (rY v) 0),.int .i64 (t.uC (iD v) 0)]):=by
 refine af.ah ai Tryz.func42 rfl rfl (n:=11) rfl rfl ?_
 conv=>whnf
 repeat (first|refine Qc ?_|((first|refine pC (OO v t 0 (by omega) (by omega) hb) wR ?_|intro _);conv=>whnf))
 exact ak.pure (Wk.refl _)
def O1 (p:Prog):Bool:=ji p 0 == 0
abbrev PZ (r:QW):PV:=.bn [.agg r.p.cells,.int .i64 r.e]
theorem Shift.JW {x:PV} {Γ Γ':List aj} (g:au Γ Γ'):Shift x Γ x Γ':=fun w0 F M w v hS hx=>by
 obtain ⟨F',e,h⟩:=g w0 F M w hS;exact ⟨F',e,h,aE.mono e _ _ hx⟩
theorem au.Mk (Γ:List aj):au Γ (.row (ay 5 55) (([]:List Datum).map Datum.pv)::Γ):=au.cm _ _ _
theorem Ks (b:Nat) (d:Datum) (hs:d.sz≤100000000) (hp:d.pr=true) (hc:cy d.sz d=true):
  af Tryz.prog 62 [.ptr b 0,.agg d.cells,.agg (nh [])] (qu b (ay 5 55) ⟨[],0,false⟩)
   (fun y Γ'=> ∃ tk,y=.agg (TF (-1) d.sz d [] ⟨[],0,false⟩).1.cells∧Γ'= [.box b [.sl 5 ((TF (-1) d.sz d [] ⟨[],0,false⟩).2.cs.map Datum.pv) none,.int .i64 (TF (-1) d.sz d [] ⟨[],0,false⟩).2.vars,.bool (TF (-1) d.sz d [] ⟨[],0,false⟩).2.lost],.tok tk]):=
 (uw b d.sz hs d hp (Nat.le_refl _) hc (ay 5 55) [] ⟨[],0,false⟩ rfl rfl (fun p h=>by cases h) (by simp;omega) ⟨by simp,by simp;omega,by simp;omega⟩).2.shift fun y Γ' hq=>by
  obtain ⟨tk',e,s,hy,hΓ⟩:=hq;generalize TF (-1) d.sz d [] ⟨[],0,false⟩=r at *;subst hy hΓ;exact ⟨_,_,Shift.JW (au.bK (t:=tk') (es:=r.2.cs.map Datum.pv) (b:=b) (cs:= [.ms tk',.int .i64 r.2.vars,.bool r.2.lost]) (cs':= [.sl 5 (r.2.cs.map Datum.pv) none,.int .i64 r.2.vars,.bool r.2.lost]) (.cons (iA.ms' s) (.cons (iA.of (Wk.refl _)) (.cons (iA.of (Wk.refl _)) .nil)))),tk',rfl,rfl⟩
theorem DO {p q:Prop} (k:q) (h:q→p:=by intro hq;first | exact aC.sP (some 22) rfl [6] [7] ai mixed hq):p:=h k
theorem CK (d:Datum) (hs:d.sz≤100000000):aA Tryz.prog 39 [.agg d.cells] (PZ (HM O1 (-1) d)):=by
 have hC:=Iu d (by omega) (tj d 0);have hR:HM O1 (-1) d=HM O1 (-1) d:=rfl
 conv at hR=>rhs;unfold HM;dsimp only
 generalize HM O1 (-1) d=O at *
 cases hc:BG d with
 | false=>
  rw[hc] at hC;rw[if_pos hc] at hR;rw[hR];refine af.ah ai Tryz.func39 rfl rfl (n:=33) rfl rfl ?_
  conv=>whnf
  repeat' (first|refine aS ?_|((first|refine pC (hC) wR ?_|intro _);conv=>whnf)|(refine zX (fun hc=>?_) (fun hc=>?_)<;>(try simp only[SY] at hc)<;>(conv=>whnf)))
  exact ak.pure wA
 | true=>
  rw[hc] at hC;rw[if_neg (by rw[hc];simp)] at hR;have hcd:=hc;unfold BG at hcd;rw[Bool.and_eq_true] at hcd;have hp:=tj d 0 hcd.1;have hgo:=IC (-1) d.sz d hp [] ⟨[],0,false⟩;have hroot:=fun b=>Ks b d hs hp hcd.2;generalize TF (-1) d.sz d [] ⟨[],0,false⟩=r at *;obtain ⟨t,s⟩:=r;dsimp only at hgo hroot hR;have hck:=qN ⟨s.cs,t⟩ 0 (by show t.aQ≤_;omega) (by have:=hgo.1.2.2;dsimp only at this ⊢; simp at this;omega);have hok:O1 ⟨s.cs,t⟩=(ji ⟨s.cs,t⟩ 0 == 0):=rfl;generalize ji ⟨s.cs,t⟩ 0=ck at *;refine af.ah ai Tryz.func39 rfl rfl (n:=33) rfl rfl ?_
  conv=>whnf
  repeat' (first|refine aS ?_|((first|refine pC (hC) wR ?_|intro _);conv=>whnf)|(refine zX (fun hc=>?_) (fun hc=>?_)<;>(try simp only[SY] at hc)<;>(conv=>whnf)))
  rename_i b1 b2 b4;refine av.OY (au.trans (au.Mk _) (au.box (b:=b4) (cs:= [.nil,.int .i64 0,.bfalse]) (cs':= [.ms (ay 5 55),.int .i64 0,.bool false]) (.cons (Wk.cm 5 55) (.cons (Wk.refl _) (.cons (Wk.ff rfl) .nil))))) (hroot b4) (.cons (Wk.refl _) (.cons (Wk.refl _) (.cons (Wk.agg (.cons (Wk.eu rfl) (.cons (Wk.eu rfl) .nil))) .nil))) ?_;rintro _ _ ⟨tk,rfl,rfl⟩
  conv=>whnf
  repeat' (first|refine aS ?_|((first|refine pC (hck) wR ?_|refine DO ?_|intro _);conv=>whnf)|(refine zX (fun hc=>?_) (fun hc=>?_)<;>(try simp only[SY] at hc)<;>(conv=>whnf)))
  ·rw[if_pos hc] at hR
   rw[hR];exact ak.pure wA
  ·have hl:s.lost=false:= ‹s.lost=false›
   rw[if_neg (by rw[hl];simp),hok,if_pos (by simpa using hc)] at hR;rw[hR];exact ak.pure wA
  ·have hl:s.lost=false:= ‹s.lost=false›
   rw[if_neg (by rw[hl];simp),hok,if_neg (by simp[hc])] at hR;rw[hR];exact ak.pure (Wk.refl _)
def Rk (k:Nat) (r:OT):Prop:=r.2.2= -1→r.1.sz + 1 + 5 * k≤5 * r.2.1
def Rj (k:Nat) (l:List Datum) (e:Datum) (r:(List Datum×Datum)×Nat×Int):Prop:=r.2.2= -1→r.1.1.length + Datum.eM r.1.1 + r.1.2.sz + 5 + 5 * k≤5 * r.2.1 + l.length + Datum.eM l + e.sz
abbrev iY:=List (Int×Nat)
structure MZ where
 v:List Int
 rest:Bool
 body:aa
 env:iY
inductive Vl where
 | mk (k n d:Int) (s:List UInt8) (l:List Vl) (p:Option MZ) (c:Option Nat)
def Vl.k:Vl→Int | .mk k _ _ _ _ _ _=>k
def Vl.n:Vl→Int | .mk _ n _ _ _ _ _=>n
def Vl.d:Vl→Int | .mk _ _ d _ _ _ _=>d
def Vl.s:Vl→List UInt8 | .mk _ _ _ s _ _ _=>s
def Vl.l:Vl→List Vl | .mk _ _ _ _ l _ _=>l
def Vl.p:Vl→Option MZ | .mk _ _ _ _ _ p _=>p
def Vl.c:Vl→Option Nat | .mk _ _ _ _ _ _ c=>c
def cH:iY→PV
 | []=>.np
 | (v,a)::e=>.ep [.int .i64 v,.ptr a 0,cH e]
abbrev MZ.cells (c:MZ):List PV:= [.sl 1 (c.v.map (PV.int .i64)) none,.bool c.rest,.int .i64 c.body.op,.int .i64 c.body.n,.sl 1 (c.body.v.map (PV.int .i64)) none,.sl 4 (c.body.t.map aa.pv) none,cH c.env,.int .i64 (-1),.nil]
def oP:Option MZ→PV
 | none=>.np
 | some c=>.ep c.cells
def jN:Option Nat→PV
 | none=>.np
 | some a=>.ptr a 0
mutual
def Vl.pv:Vl→PV
 | .mk k n d s l p c=>.agg [.int .i64 k,.int .i64 n,.int .i64 d,.str s,.sl 7 (Vl.FU l) none,oP p,jN c]
def Vl.FU:List Vl→List PV
 | []=> []
 | x::xs=>Vl.pv x::Vl.FU xs
end
theorem Vl.nS: ∀ l:List Vl,Vl.FU l=l.map Vl.pv
 | []=>rfl
 | x::xs=>by simp only[Vl.FU,List.map_cons,Vl.nS xs]
def Vl.cells (x:Vl):List PV:= [.int .i64 x.k,.int .i64 x.n,.int .i64 x.d,.str x.s,.sl 7 (x.l.map Vl.pv) none,oP x.p,jN x.c]
abbrev iu (x:Vl):List PV:= [.int .i64 x.k,.int .i64 x.n,.int .i64 x.d,.str x.s,.sl 7 (x.l.map Vl.pv) none,oP x.p,jN x.c]
abbrev Bw (x:Vl) (r:Bool):List PV:= [.int .i64 x.k,.int .i64 x.n,.int .i64 x.d,.str x.s,.sl 7 (x.l.map Vl.pv) none,oP x.p,jN x.c,.bool r]
theorem Vl.gI (x:Vl):x.pv=.agg x.cells:=by
 cases x;simp only[Vl.pv,Vl.cells,Vl.nS,Vl.k,Vl.n,Vl.d,Vl.s,Vl.l,Vl.p,Vl.c]
instance:cz Vl.pv Vl.cells:=⟨fun x=>by rw[Vl.gI];rfl⟩
mutual
theorem Vl.mu {p:Vl→Prop} (h: ∀ x:Vl,(∀ y∈x.l,p y)→p x): ∀ d,p d
 | .mk k n d s l pr c=>h (.mk k n d s l pr c) (Vl.jb h l)
theorem Vl.jb {p:Vl→Prop} (h: ∀ x:Vl,(∀ y∈x.l,p y)→p x): ∀ (l:List Vl), ∀ x∈l,p x
 | []=>by simp
 | y::ys=>List.forall_mem_cons.2 ⟨Vl.mu h y,Vl.jb h ys⟩
end
instance:xD Vl:=⟨.mk 0 0 0 [] [] none none⟩
instance (priority:=high) cn.Rh (t:Vl):cn Vl.pv (Vl.pv t) t:=⟨Wk.refl _,fR.refl _⟩
instance (priority:=high) cn.QS (t:Vl):cn Vl.pv (.agg t.cells) t:=⟨by rw[Vl.gI];exact Wk.refl _,by rw[Vl.gI];exact fR.refl _⟩
theorem cn.Q7 {x:List PV} {t:Vl} (h:fR x t.cells):cn Vl.pv (.agg x) t:=⟨by rw[Vl.gI];exact Wk.agg h,by rw[Vl.gI];exact h⟩
instance (priority:=high) cn.QU (t:Vl) (tk:Option Tok):cn Vl.pv (.agg [.int .i64 (Vl.k t),.int .i64 (Vl.n t),.int .i64 (Vl.d t),.str (Vl.s t),.sl 7 ((Vl.l t).map Vl.pv) tk,oP (Vl.p t),jN (Vl.c t)]) t:=
 cn.Q7 (.cons (Wk.refl _) (.cons (Wk.refl _) (.cons (Wk.refl _) (.cons (Wk.refl _) (.cons (Wk.tok _ _ _) (.cons (Wk.refl _) (.cons (Wk.refl _) .nil)))))))
class oK {α:Type} (f:α→PV) (x:PV) (v:outParam α):Prop where
 h:x=f v
instance oK.Q3:oK oP .np none:=⟨rfl⟩
instance oK.Q4:oK jN .np none:=⟨rfl⟩
instance oK.Rb (a:Nat):oK jN (.ptr a 0) (some a):=⟨rfl⟩
instance (priority:=high) oK.same {α:Type} (f:α→PV) (v:α):oK f (f v) v:=⟨rfl⟩
instance cn.Si (a b c:Int) (s:List UInt8) (x y z:PV) (l:List Vl) (p:Option MZ) (q:Option Nat) [h:uD Vl.pv 7 x l] [hy:oK oP y p] [hz:oK jN z q]:cn Vl.pv (.agg [.int .i64 a,.int .i64 b,.int .i64 c,.str s,x,y,z]) (.mk a b c s l p q):=
 cn.Q7 (.cons (Wk.refl _) (.cons (Wk.refl _) (.cons (Wk.refl _) (.cons (Wk.refl _) (.cons h.wk (.cons (by rw[hy.h];exact Wk.refl _) (.cons (by rw[hz.h];exact Wk.refl _) .nil)))))))
theorem Ph.wk {x:PV} {t:Vl} [h:cn Vl.pv x t]:Wk x (.agg t.cells):=by rw[←Vl.gI];exact h.wk
theorem dI {x:PV} {l:List PV} {K:List PV→Prop} (hx:rT x=x) (h:uj l fun r=>K (x::r)):uj (x::l) K:=by
 rw[wC] at h ⊢;rw[List.map_cons,hx];exact h
theorem nC {p:Option MZ}:rT (oP p)=oP p:=by cases p<;>rfl
theorem nD {c:Option Nat}:rT (jN c)=jN c:=by cases c<;>rfl
abbrev dN:Vl:=.mk 0 0 0 [] [] none none
abbrev fW (k:Int):Vl:=.mk k 0 0 [] [] none none
mutual
def Qa:Datum→Vl
 | .mk k n d s l=>.mk k n d s (Np l) none none
def Np:List Datum→List Vl
 | []=> []
 | x::xs=>Qa x::Np xs
end
def D6 (l:List Vl):Vl:=l.foldr (fun x r=>.mk 6 0 0 [] [x,r] none none) (fW 4)
abbrev Hp:=List (Nat×Vl×Bool)
def C7 (h:Hp):List aj:=h.map fun c=>.box c.1 (Bw c.2.1 c.2.2)
def sH:iY→Int→Option Nat
 | [],_=>none
 | (x,a)::e,v=>if x=v then some a else sH e v
structure lf where
 fuel:Int
 out:List UInt8
 alive:List Bool
 to:Int
 val:Vl
 h:Hp
abbrev QE (K:List Vl) (t:Tok) (s:lf):List PV:= [.sl 7 (K.map Vl.pv) none,.nil,.int .i64 s.fuel,.str s.out,.ms t,.int .i64 s.to,.int .i64 s.val.k,.int .i64 s.val.n,.int .i64 s.val.d,.str s.val.s,.sl 7 (s.val.l.map Vl.pv) none,oP s.val.p,jN s.val.c]
abbrev eY (b:Nat) (K:List Vl) (t:Tok) (s:lf):List aj:=.box b (QE K t s)::.row t (s.alive.map PV.bool)::C7 s.h
theorem Di (e:iY) (v:Int) (x:Vl) (r:Bool):af Tryz.prog 170 [cH e,.int .i64 v,.agg x.cells,.bool r] [] (fun y Γ'=> ∃ a,y=cH ((v,a)::e)∧Γ'= [.box a (Bw x r)]):=by
 rcases e with _ | ⟨⟨w,c⟩,e⟩
 all_goals
  refine af.ah ai Tryz.func170 rfl rfl (n:=17) rfl rfl ?_
  conv=>whnf
  repeat' (first|refine aS ?_|((intro _);conv=>whnf)|(refine zX (fun hc=>?_) (fun hc=>?_)<;>(try simp only[SY] at hc)<;>omega))
  rename_i b1 b2 b3;exact ak.freeze (b:=b3) (Γ':= [.box b2 (Bw x r)]) (Wk.refl _) ⟨b2,rfl,rfl⟩
theorem AJ (e:iY) (v:Int) (a:Nat) (h:sH e v=some a):aA Tryz.prog 125 [cH e,.int .i64 v] (.ptr a 0):=by
 refine af.ah ai Tryz.func125 rfl rfl (n:=28) rfl rfl ?_
 conv=>whnf
 skip
 refine aq.keep [0,5,6,7,8,9,10,11,12,13,14,15,16,17,18] (fun x:iY=> [(0,cH x)]) (fun x=>sH x v=some a) (fun x=>x.length) e h wA ?_;intro x hx
 rcases x with _ | ⟨⟨w,c⟩,x⟩
 ·cases hx
 rw[sH] at hx
 conv=>whnf
 repeat' (first|refine aS ?_|(refine zX (fun hc=>?_) (fun hc=>?_)<;>(try simp only[SY] at hc)<;>(conv=>whnf)))
 ·rw[if_neg hc] at hx
  exact an x hx (by show x.length < x.length + 1;omega) wA
 ·rw[if_pos hc] at hx
  obtain rfl:=Option.some.inj hx;exact ak.pure (Wk.refl _)
theorem J2 {a b:Vl}:fR [.int .i64 6,.int .i64 0,.int .i64 0,.str [],.sl 7 [.agg a.cells,.agg b.cells] none,.np,.np] (Vl.mk 6 0 0 [] [a,b] none none).cells:=
 .cons (Wk.refl _) (.cons (Wk.refl _) (.cons (Wk.refl _) (.cons (Wk.refl _) (.cons (uD.wk (f:=Vl.pv) (l:= [a,b])) (.cons (Wk.refl _) (.cons (Wk.refl _) .nil))))))
theorem Fo {k:Int}:fR [.int .i64 k,.int .i64 0,.int .i64 0,.str [],.nil,.np,.np] (fW k).cells:=.cons (Wk.refl _) (.cons (Wk.refl _) (.cons (Wk.refl _) (.cons (Wk.refl _) (.cons (Wk.eu rfl) (.cons (Wk.refl _) (.cons (Wk.refl _) .nil))))))
theorem GH {p q:Prop} (k:q) (h:q→p:=by intro hq;first | exact aC.sP (some 13) rfl [] [7] ai mixed hq):p:=h k
theorem L8 (l:List Vl):aA Tryz.prog 236 [.sl 7 (l.map Vl.pv) none] (.agg (D6 l).cells):=by
 refine af.ah ai Tryz.func236 rfl rfl (n:=21) rfl rfl ?_
 conv=>whnf
 repeat' (first|refine aS ?_|((intro _);conv=>whnf)|(refine zX (fun hc=>?_) (fun hc=>?_)<;>(try simp only[SY] at hc)<;>omega))
 rename_i b2 b3 hl;refine aq.gh (au.box (b:=b3) (cs:= [.int .i64 4,.int .i64 0,.int .i64 0,.str [],.nil,.np,.np]) (cs':=iu (fW 4)) Fo) ?_;refine aq.over [4,9,10,11,12,13,14,15,16,17,18,19] (fun x:Nat×Vl=> [(4,.int .i64 ((x.1:Int) - 1))]) (fun x:Nat×Vl=> [.box b2 [.int .i64 0,.int .i64 0,.int .i64 0,.str [],.nil,.np,.np],.box b3 (iu x.2)]) (fun x=>x.1≤l.length∧x.2=D6 (l.drop x.1)) (fun x=>x.1) (l.length,fW 4) ⟨Nat.le_refl _,by rw[List.drop_of_length_le (Nat.le_refl _)];rfl⟩ wA ?_;rintro ⟨i,D⟩ ⟨hi,hD⟩;dsimp only at hi hD⊢
 conv=>whnf
 repeat' (first|refine aS ?_|((first|refine dI nC ?_|refine dI nD ?_|refine GH ?_);conv=>whnf)|(refine zX (fun hc=>?_) (fun hc=>?_)<;>(try simp only[SY] at hc)<;>(conv=>whnf)))
 ·have h1:i - 1 < l.length:=by omega
  have e:l.drop (i - 1)=l[i - 1]::l.drop i:=by rw[aI h1,show i - 1 + 1=i by omega]
  refine jK.gh (i - 1,.mk 6 0 0 [] [l[i - 1],D] none none) ⟨by show i - 1≤_;omega,by show _=D6 (l.drop (i - 1));rw[e,hD];rfl⟩ (by show i - 1 < i;omega) wA ?_;refine au.trans (au.box (b:=b3) (cs:= [.int .i64 6,.int .i64 0,.int .i64 0,.str [],.sl 7 [.agg (iu l[i - 1]),.agg (iu D)] none,.np,.np]) (cs':=iu (Vl.mk 6 0 0 [] [l[i - 1],D] none none)) J2) ?_;exact au.pick
 ·have e:D=D6 l:=by rw[hD,show i=0 by omega];rfl
  rw[←e];exact ak.pure (Wk.refl _)
def NK:Nat→Nat→List UInt8
 | 0,_=> []
 | f + 1,n=>if n < 10 then [(48 + n).toUInt8] else NK f (n / 10)++ [(48 + n % 10).toUInt8]
def QG (n d:Int):List UInt8:=if cM n d=false then [] else (if n < 0 then [45] else [])++NK 10 n.natAbs++(if d=1 then [] else 47::NK 10 d.natAbs)
abbrev QI:List UInt8:= [35,60,112,114,111,99,101,100,117,114,101,62]
mutual
def wV (tail:Bool):Vl→List UInt8→List UInt8
 | .mk k n d s l _ _,out=>
  let core:=fun (out:List UInt8)=>
   if 1000≤out.length then out else
   if k=0 then out++QG n d else
   if k=1 then out++(if bitsOf .and .i64 n 1=0 then [35,102] else [35,116]) else
   if k=2 then out++s else
   if k=3 then out++ [34]++s++ [34] else
   if k=4 then out++ [40,41] else
   if k=5 then out++ [35,118] else
   if k=11 then out++ [35,60,98,111,120,62] else
   if k=12 then out++ [35,60,117,110,115,101,116,62] else
   if k=8∨k=9∨k=10 then out++QI else
   if k=7 then wL true l (out++ [35,40])++ [41] else wP l (out++ [40])
  if tail=false then core out else
  if k=6∧out.length < 1000 then wP l (out++ [32]) else
  if k=4 then out++ [41] else core (out++ [32,46,32])++ [41]
def wL (first:Bool):List Vl→List UInt8→List UInt8
 | [],out=>out
 | x::xs,out=>if 1000≤out.length then out else wL false xs (wV false x (if first=true then out else out++ [32]))
def wP:List Vl→List UInt8→List UInt8
 | [a,b],out=>wV true b (wV false a out)
 | _,out=>out
end
def QO (x:Vl):List UInt8:=(wV false x []).take 1000
mutual
def Vl.tx:Vl→Bool
 | .mk k _ _ s l _ _=>decide (0≤k∧k≤12) && (k !=6 || l.length == 2) && decide (s.length≤1000000000) && Vl.Rf l
def Vl.Rf:List Vl→Bool
 | []=>true
 | x::xs=>Vl.tx x && Vl.Rf xs
end
mutual
def Vl.sz:Vl→Nat
 | .mk _ _ _ _ l _ _=>1 + Vl.eM l
def Vl.eM:List Vl→Nat
 | []=>0
 | x::xs=>Vl.sz x + Vl.eM xs
end
def Pj (n d m e:Int):Int×Int×Int:=if (cM n d && cM m e)=false then (0,0,3) else kI (n * e + m * d) (d * e)
def QN (n d m e:Int):Int×Int×Int:=if (cM n d && cM m e)=false then (0,0,3) else Pj n d (0 - m) e
def N9 (n d m e:Int):Int×Int×Int:=if (cM n d && cM m e)=false then (0,0,3) else
 kI (n.tdiv (Nat.gcd n.natAbs e.natAbs:Nat) * m.tdiv (Nat.gcd m.natAbs d.natAbs:Nat)) (d.tdiv (Nat.gcd m.natAbs d.natAbs:Nat) * e.tdiv (Nat.gcd n.natAbs e.natAbs:Nat))
def Qq (n d m e:Int):Int×Int×Int:=if (cM n d && cM m e)=false then (0,0,3) else
 if m=0 then (0,0,4) else if m < 0 then N9 n d (0 - e) (0 - m) else N9 n d e m
def PJ (n d m e:Int):Bool:=cM n d && (cM m e && decide (n * e < m * d))
def Qf (n:Int) (a b:Int×Int):Int×Int×Int:=if n=0 then Pj a.1 a.2 b.1 b.2 else if n=1 then QN a.1 a.2 b.1 b.2 else if n=2 then N9 a.1 a.2 b.1 b.2 else Qq a.1 a.2 b.1 b.2
abbrev HB (a:Int×Int):Datum:=.mk 0 a.1 a.2 [] []
def KR (n:Int):List Datum→Int×Int→Datum×Int
 | [],a=>(HB a,0)
 | x::l,a=>if (Qf n a (x.n,x.d)).2.2≠0 then (HB (0,0),(Qf n a (x.n,x.d)).2.2) else KR n l ((Qf n a (x.n,x.d)).1,(Qf n a (x.n,x.d)).2.1)
def PN (l:List Datum):Bool:=l.all fun x=>x.kind == 0
def P9 (n:Int) (l:List Datum):Datum×Int:=
 if PN l=false then (HB (0,0),1) else
 if (n=1∨n=3)∧1 < l.length then KR n (l.drop 1) ((l.getD 0 aK).n,(l.getD 0 aK).d) else
 KR n l (if 2≤n then (1,1) else (0,1))
set_option maxHeartbeats 8000000
instance:gq 4 4:=⟨rfl⟩
instance:gq 5 5:=⟨rfl⟩
instance:gq 6 6:=⟨rfl⟩
def MQ (b:Bool):Datum:=.mk 1 (if b=true then 1 else 0) 0 [] []
def QD (n:Int):Int:= [4,6,0,2,1,3,7].getD (n - 9).toNat (-1)
def Pv (n:Int) (l:List Datum):Datum×Int:=
 if n < 4 then P9 n l else
 if n=4∨n=5 then (if ¬(l.getD 0 aK).kind=0∨ ¬(l.getD 1 aK).kind=0 then (HB (0,0),1) else if n=4 then (MQ ((l.getD 0 aK).Bm (l.getD 1 aK)),0) else (MQ (PJ (l.getD 0 aK).n (l.getD 0 aK).d (l.getD 1 aK).n (l.getD 1 aK).d),0)) else
 if n=8 then (MQ ((l.getD 0 aK).kind == 1 && (l.getD 0 aK).n == 0),0) else
 if n=25 then (.mk 5 0 0 [] [],0) else (MQ ((l.getD 0 aK).kind == QD n),0)
def OH (n:Int) (k:Nat):Bool:=decide (0≤n∧n < 31) && (decide ((gu n).least≤k) && (decide ((gu n).most < 0) || decide ((k:Int)≤(gu n).most)))
def M9 (n:Int) (l:List Datum):Datum×Int:=if l.all (fun d=>d.bS 0)=false then (HB (0,0),0) else if OH n l.length=false then (HB (0,0),2) else Pv n l
set_option maxHeartbeats 4000000
def RH (a b:Vl):Bool:=a.k == b.k && decide (a.k≤5) && a.k !=3 && a.n == b.n && a.d == b.d && a.s == b.s
def MR (b:Bool):Vl:=.mk 1 (if b=true then 1 else 0) 0 [] [] none none
mutual
def Jj:Vl→Vl→Int→Bool×Int
 | .mk k n d s l _ _,b,left=>if left - 1 < 0∨ ¬k=b.k∨7 < k∨ ¬n=b.n∨ ¬d=b.d∨ ¬s=b.s∨ ¬l.length=b.l.length then (false,left - 1) else M5 l b.l (left - 1)
def M5:List Vl→List Vl→Int→Bool×Int
 | x::xs,y::ys,left=>if (Jj x y left).1=false then (false,(Jj x y left).2) else M5 xs ys (Jj x y left).2
 | _,_,left=>(true,left)
end
mutual
def Vl.ax:Vl→List Vl×Vl
 | .mk k n d s l p c=>if k=6 then Vl.Jz l else ([],.mk k n d s l p c)
def Vl.Jz:List Vl→List Vl×Vl
 | [a,b]=>(a::b.ax.1,b.ax.2)
 | _=>([],dN)
end
theorem Vl.mw (x:Vl) (h: ¬x.k=6):x.ax=([],x):=by
 cases x with
 | mk k n d s l p c=>
  have h': ¬k=6:=h;rw[Vl.ax,if_neg h']
theorem Vl.jS (x:Vl) (h:x.k=6) (h2:x.l.length=2):x.ax=((x.l[0]'(by omega))::(x.l[1]'(by omega)).ax.1,(x.l[1]'(by omega)).ax.2):=by
 cases x with
 | mk k n d s l p c=>
  have h':k=6:=h;rw[Vl.ax,if_pos h']
  match l,h2 with
  | [a,b],_=>rw[Vl.Jz];rfl
abbrev QM (r:Vl×Int):PV:=.bn [.agg (iu r.1),.int .i64 r.2]
abbrev PM (n:Int):Vl:=.mk 0 n 1 [] [] none none
def PX (n:Int) (l:List Vl):Vl×Int:=
 let a:=l.getD 0 dN
 let b:=l.getD 1 dN
 if n=18∨n=19 then (if ¬a.k=6 then (dN,1) else (a.l.getD (n - 18).toNat dN,0)) else
 if n=22 then (if ¬a.k=7∨ ¬b.k=0 then (dN,1) else if ¬b.d=1∨b.n < 0∨(a.l.length:Int)≤b.n then (dN,3) else (a.l.getD b.n.toNat dN,0)) else
 if n=23 then (if ¬a.k=7 then (dN,1) else (PM a.l.length,0)) else
 if a.ax.2.k=4 then (PM a.ax.1.length,0) else (dN,1)
set_option maxHeartbeats 8000000
def P8 (x:Vl):Datum:=if x.k≤5 then .mk x.k x.n x.d x.s [] else if x.k=6 then ic [aK] else .mk 7 0 0 [] []
def OC (n:Int) (l:List Vl):Vl×Int×List UInt8:=
 let a:=l.getD 0 dN
 let b:=l.getD 1 dN
 if n=6 then (MR (RH a b),0, []) else
 if n=7 then (if (Jj a b 1000).2 < 0 then (dN,3, []) else (MR (Jj a b 1000).1,0, [])) else
 if n=16 then (MR (decide (8≤a.k) && decide (a.k≤10)),0, []) else
 if n=17 then (.mk 6 0 0 [] l none none,0, []) else
 if n=20 then (D6 l,0, []) else
 if n=21 then (.mk 7 0 0 [] l none none,0, []) else
 if n=26 then (fW 5,0,QO a) else
 if n=27 then (fW 5,0, [10]) else
 if n=18∨n=19∨n=22∨n=23∨n=24 then ((PX n l).1,(PX n l).2, []) else
 if n=15∧l.any (fun x=>decide (7 < x.k))=true then (MR false,0, []) else
 (Qa (M9 n (l.map P8)).1,(M9 n (l.map P8)).2, [])
abbrev QH (s:lf) (w:List UInt8):lf:=⟨s.fuel,s.out++w,s.alive,s.to,s.val,s.h⟩
theorem qA.res {x:PV} {v:Vl} {c:Int} [h:cn Vl.pv x v]:Wk (.bn [x,.int .i64 c]) (QM (v,c)):=Wk.bn (.cons Ph.wk (.cons (Wk.refl _) .nil))
set_option maxHeartbeats 4000000
instance (priority:=low) bC.Ra (e:aj) (Γ D r:List aj) [h:bC Γ D r]:bC (e::Γ) D (e::r):=⟨(h.p.cons e).trans List.perm_middle.symm⟩
def Gi (b:Nat) (cs:List PV) (x y:PV):Prop:= ∀ F v,(∀ o u,aE F (.ptr b o) u→aE F (.ep (cs.drop o)) u)→aE F x v→aE F y v
inductive vf (b:Nat) (cs:List PV):List PV→List PV→Prop
 | nil:vf b cs [] []
 | cons {x y:PV} {xs ys:List PV}:Gi b cs x y→vf b cs xs ys→vf b cs (x::xs) (y::ys)
theorem Gi.of {b:Nat} {cs:List PV} {x y:PV} (h:Wk x y):Gi b cs x y:=fun F v _ r=>h F v r
theorem Gi.ep {b:Nat} {cs:List PV}:Gi b cs (.ptr b 0) (.ep cs):=fun _ v h r=>h 0 v r
theorem vf.rep {b:Nat} {cs:List PV} {F:Fz} (hF: ∀ o u,aE F (.ptr b o) u→aE F (.ep (cs.drop o)) u): ∀ {xs ys:List PV} {vs:List Value},vf b cs xs ys→aB F xs vs→aB F ys vs
 | _,_, [],.nil,h=>h
 | _,_,_::_,.nil,h=>h
 | _,_, [],.cons _ _,h=>by simp only[aB] at h
 | _,_,v::vs,.cons h1 h2,h=>by
  simp only[aB] at h ⊢;exact ⟨h1 _ _ hF h.1,vf.rep hF h2 h.2⟩
theorem vf.qp {b:Nat} {cs:List PV} {F:Fz} (hF: ∀ o u,aE F (.ptr b o) u→aE F (.ep (cs.drop o)) u): ∀ {xs ys:List PV} {vs:List Value},vf b cs xs ys→aR F xs vs→aR F ys vs
 | _,_, [],.nil,h=>h
 | _,_,_::_,.nil,h=>h
 | _,_, [],.cons _ _,h=>by simp only[aR] at h
 | _,_,v::vs,.cons h1 h2,h=>by
  simp only[aR] at h ⊢;exact ⟨⟨h.1.1,h1 _ _ hF h.1.2⟩,vf.qp hF h2 h.2⟩
theorem Gi.agg {b:Nat} {cs xs ys:List PV} (h:vf b cs xs ys):Gi b cs (.agg xs) (.agg ys):=fun F v hF r=>by
 simp only[aE] at r ⊢;obtain ⟨vs,h1,h2⟩:=r;exact ⟨vs,h1,h.qp hF h2⟩
theorem Gi.bn {b:Nat} {cs xs ys:List PV} (h:vf b cs xs ys):Gi b cs (.bn xs) (.bn ys):=fun F v hF r=>by
 simp only[aE] at r ⊢;obtain ⟨vs,h1,h2⟩:=r;exact ⟨vs,h1,h.rep hF h2⟩
theorem ak.QB {b:Nat} {cs:List PV} {x y:PV} {Γ Γ1 Γ' Γ2:List aj} {Q:PV→List aj→Prop} [hp:gP Γ (.box b cs) Γ1] [hq:bC Γ1 Γ' Γ2] (h:Gi b cs x y) (q:Q y Γ'):ak x Γ Q:=
 ⟨y,Γ',Shift.trans (Γ':=Γ1) (y:=y) (fun w0 F M w v hS hx=>by
  have hS':=hS.perm (hp.p.append_right M);obtain ⟨F',h1,h2,h3⟩:=aP.freeze (M:=Γ1++M) (by simpa using hS');refine ⟨F',h1,h2,h F' v (fun o u hu=>?_) (aE.mono h1 _ _ hx)⟩;simp only[aE] at hu⊢
  exact ⟨b,o,hu,h3 o⟩) (Shift.wk (Wk.refl _) hq.p),q⟩
theorem av.Jp {P:Program} {f:FuncId} {args args':List PV} {Γ Γ1 Γ2:List aj} {Q K:PV→List aj→Prop} (h:af P f args' Γ1 Q) (hw:aX args args') [hp:bC Γ Γ1 Γ2]
  (k: ∀ y Γ1',Q y Γ1'→kS Γ2 Γ1' fun Γ'=>K y Γ'):av P f args Γ K:=by
 refine ⟨.inl (((h.wk hw).frame hp.p).shift ?_)⟩;rintro y Γ' ⟨Γ1',rfl,hq⟩;have:=k y Γ1' hq;rw[fC] at this;exact ⟨y,Γ2++Γ1',Shift.wk (Wk.refl _) (Γ1:= []) (by rw[List.append_nil];exact List.perm_append_comm),this⟩
theorem Pm {Γ:List aj} {K:List aj→Prop} (h:K Γ):kS Γ [] K:=by rw[fC,List.append_nil];exact h
abbrev bL (s:lf):lf:=⟨s.fuel - 1,s.out,s.alive,s.to,s.val,s.h⟩
section
variable (b:Nat) (K:List Vl) (tk:Tok) (s:lf) (t:aa) (e:iY)
theorem GI {p q:Prop} (k:q) (h:q→p:=by intro hq;first | exact aC.sP (some 32) rfl [] [8,9] ai mixed hq | exact aC.sP (some 73) rfl [] [11,12,13,14] ai mixed hq):p:=h k
theorem LQ (h0:0 < s.fuel∧s.fuel≤1000000) (ho:t.op=4) (hl:t.t.length=1):
  af Tryz.prog 70 [.ptr b 0,.agg t.cells,cH e,.nil] (eY b K tk s) (fun y Γ'=>y=.bn [.agg (iu (.mk 8 0 0 [] [] (some ⟨t.v,t.n == 1,t.t[0],e⟩) none)),.int .i64 0]∧Γ'=eY b K tk (bL s)):=by
 rcases e with _ | ⟨⟨w,c⟩,e⟩
 all_goals
  refine af.ah ai Tryz.func70 rfl rfl (n:=181) rfl rfl ?_
  conv=>whnf
  repeat' (first|refine aS ?_|((first|refine GI ?_|intro _);conv=>whnf)|(refine zX (fun hc=>?_) (fun hc=>?_)<;>(try simp only[SY] at hc)<;>first|omega|(conv=>whnf)))
  rename_i b3 b2 b1;exact ak.QB (b:=b1) (y:=.bn [.agg (iu (.mk 8 0 0 [] [] (some ⟨t.v,t.n == 1,t.t[0],_⟩) none)),.int .i64 0]) (Γ':=eY b K tk (bL s)) (Gi.bn (.cons (Gi.agg (.cons (.of (Wk.refl _)) (.cons (.of (Wk.refl _)) (.cons (.of (Wk.refl _)) (.cons (.of (Wk.refl _)) (.cons (.of (Wk.eu rfl)) (.cons Gi.ep (.cons (.of (Wk.refl _)) .nil)))))))) (.cons (.of (Wk.refl _)) .nil))) ⟨rfl,rfl⟩
end
end Go.Cb


