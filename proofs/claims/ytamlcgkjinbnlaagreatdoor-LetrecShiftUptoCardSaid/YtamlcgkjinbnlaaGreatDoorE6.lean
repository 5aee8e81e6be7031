/-
 Contracts: the document's comparisons.
 Plain laws: a term and its parts.
 Layings of the library's contracts at this seat (written by the kit's tools).
 Contracts: numbers sorted by the library, equal neighbours struck.
 Contracts: what a term names and does not bind, what it binds, how often a variable is named and assigned.
 Plain laws: all variables greater by the same.
 Plain laws: assigned variables become boxes.
 Plain laws: chapter 10, what is right; the document's counts; programs.
 Contracts: the document's counts, bindings.
 Contracts: the document's program of a core datum.
 Plain law: how great data that are read are.
 The document's machine: its values and how they lie in memory.
 Contracts: the document's machine: values of data, places, lists.
 Plain: the texts of the document's machine's values.
 Contracts: the texts of the document's machine's values.
 Contracts: the document's numbers: sums, products, which is less.
 Contracts: the document's primitives that fold.
 Contracts: the document's primitives that fold, of values as primitives look at them.
 Contracts: the document's Fold.
 Contracts: the document's machine: values held against one another, lists' values, parts.
 Contracts: the document's machine: primitives that are not calls.
 Contracts: the document's machine: primitives that fold, of values.
 Contracts: the document's machine: constants, names, procedures, calls of these.
-/
import Derived.Shelf.Slices.CompactI
import Derived.Shelf.Slices.In.SortNone
import Derived.Shelf.Sort.Plain
import Derived.Sort.OwnSortedInts
import Derived.Test.YtamlcgkjinbnlaaGreatDoorProg
import Derived.Test.YtamlcgkjinbnlaaGreatDoorE5
set_option linter.unusedSimpArgs false
set_option linter.unusedVariables false
namespace Go.Cb
open Go.Proofs
set_option maxRecDepth 100000
set_option maxHeartbeats 4000000
mutual
def aa.AE:aa→aa→Bool
 | .mk op n v t,.mk op' n' v' t'=>op == op' && n == n' && v == v' && aa.dF t t'
def aa.dF:List aa→List aa→Bool
 | [], []=>true
 | x::xs,y::ys=>aa.AE x y && aa.dF xs ys
 | _,_=>false
end
theorem aa.um (a b:aa):a.AE b=(a.op == b.op && a.n == b.n && a.v == b.v && aa.dF a.t b.t):=by cases a;cases b;rw[aa.AE];rfl
theorem aa.uo (a:aa):a.AE a=true:=by
 induction a using aa.ind with
 | h t ih=>
  have key: ∀ l:List aa,(∀ x∈l,x.AE x=true)→aa.dF l l=true:=by
   intro l
   induction l with
   | nil=>intro _;rw[aa.dF]
   | cons x l ihl=>intro h;rw[aa.dF,h x (by simp),ihl fun y hy=>h y (by simp[hy])];rfl
  rw[aa.um,key _ ih];simp
theorem aa.kO: ∀ {l m:List aa},aa.dF l m=true→l.length=m.length
 | [], [],_=>rfl
 | x::l,y::m,h=>by rw[aa.dF,Bool.and_eq_true] at h;rw[List.length_cons,List.length_cons,aa.kO h.2]
 | [],_::_,h=>by simp[aa.dF] at h
 | _::_, [],h=>by simp[aa.dF] at h
theorem GY {l m:List Int} {i:Nat} (h:l.take i=m.take i) (hl:i < l.length) (hm:i < m.length) (e:l[i]=m[i]):l.take (i + 1)=m.take (i + 1):=by
 rw[List.take_succ_eq_append_getElem hl,List.take_succ_eq_append_getElem hm,h,e]
theorem xj {p q:Prop} (k:q) (h:q→p:=by intro hq;first | exact aD.sP (some 44) rfl [] [] ai mixed hq | exact aD.sP (some 62) rfl [] [] ai mixed hq):p:=h k
theorem Kt (a:aa): ∀ b:aa,aA Tryz.prog 36 [.agg a.cells,.agg b.cells] (.bool (a.AE b)):=by
 induction a using aa.ind with
 | h a ih=>
  intro b;have he:=a.um b;refine af.ah ai Tryz.func36 rfl rfl (n:=74) rfl rfl ?_
  conv=>whnf
  repeat' (first|refine nX ?_|((intro _);conv=>whnf)|(refine zX (fun hc=>?_) (fun hc=>?_)<;>(try simp only[SY] at hc)<;>(conv=>whnf)))
  ·exact ak.pure (Wk.ff (by
    rw[he,Bool.eq_false_iff];intro h;simp only[Bool.and_eq_true,beq_iff_eq] at h;obtain ⟨⟨⟨h1,h2⟩,h3⟩,h4⟩:=h;have h5:=aa.kO h4
    simp only[h1,h2,h3,h5,not_true_eq_false,or_self] at hc))
  have h0:=hc;refine ax.keep [4,5,37,38,39,40,41,42,43,44,45,46,47,48,49,50,51,52,53,54] (fun i:Nat=> [(5,.int .i64 i)]) (fun i=>i≤a.v.length∧a.v.take i=b.v.take i) (fun i=>a.v.length - i) 0 ⟨Nat.zero_le _,by simp⟩ wA ?_;rintro i ⟨hi,hm⟩
  conv=>whnf
  repeat' (first|refine nX ?_|((first|refine xj ?_|intro _);conv=>whnf)|(refine zX (fun hc=>?_) (fun hc=>?_)<;>(try simp only[SY] at hc)<;>(conv=>whnf)))
  ·have ha:i < a.v.length:=by omega
   have hb:i < b.v.length:=by omega
   exact ak.pure (Wk.ff (by
    rw[he,Bool.eq_false_iff];intro h;simp only[Bool.and_eq_true,beq_iff_eq] at h;apply hc
    simp only[h.1.2]))
  ·exact av (i + 1) ⟨by omega,GY hm (by omega) (by omega) hc⟩ (by show a.v.length - (i + 1) < a.v.length - i;omega) wA
  have hv:a.v=b.v:=by rw[List.take_of_length_le (by omega),List.take_of_length_le (by omega)] at hm;exact hm
  have he2:a.AE b=aa.dF a.t b.t:=by rw[he,h0.1.1.1,h0.1.1.2,hv];simp
  rw[he2];refine ax.keep [4,6,55,56,57,58,59,60,61,62,63,64,65,66,67,68,69,70,71,72,73] (fun i:Nat=> [(6,.int .i64 i)]) (fun i=>i≤a.t.length∧aa.dF (a.t.drop i) (b.t.drop i)=aa.dF a.t b.t) (fun i=>a.t.length - i) 0 ⟨Nat.zero_le _,rfl⟩ wA ?_;rintro j ⟨hj,hm⟩
  conv=>whnf
  repeat' (first|refine nX ?_|((first|((apply zZ);(conv=>whnf);(repeat ((refine pC (ih _ (List.getElem_mem _) _) wR ?_);conv=>whnf));exact pZ)|refine xj ?_|intro _);conv=>whnf)|(refine zX (fun hc=>?_) (fun hc=>?_)<;>(try simp only[SY] at hc)<;>(conv=>whnf)))
  ·rw[aJ (show j < a.t.length by omega),aJ (show j < b.t.length by omega),aa.dF,hc,Bool.false_and] at hm
   exact ak.pure (Wk.ff hm.symm)
  ·rw[aJ (show j < a.t.length by omega),aJ (show j < b.t.length by omega),aa.dF,hc,Bool.true_and] at hm
   exact av (j + 1) ⟨by omega,hm⟩ (by show a.t.length - (j + 1) < a.t.length - j;omega) wA
  ·rw[List.drop_of_length_le (by omega),List.drop_of_length_le (by omega),aa.dF] at hm
   exact ak.pure (Wk.tt hm.symm)
mutual
def Datum.AE:Datum→Datum→Bool
 | .mk k n d s l,.mk k' n' d' s' l'=>k == k' && n == n' && d == d' && s == s' && Datum.dF l l'
def Datum.dF:List Datum→List Datum→Bool
 | [], []=>true
 | x::xs,y::ys=>Datum.AE x y && Datum.dF xs ys
 | _,_=>false
end
theorem Datum.um (a b:Datum):a.AE b=(a.kind == b.kind && a.n == b.n && a.d == b.d && a.s == b.s && Datum.dF a.l b.l):=by cases a;cases b;rw[Datum.AE];rfl
theorem Datum.uo (a:Datum):a.AE a=true:=by
 induction a using Datum.ind with
 | h t ih=>
  have key: ∀ l:List Datum,(∀ x∈l,x.AE x=true)→Datum.dF l l=true:=by
   intro l
   induction l with
   | nil=>intro _;rw[Datum.dF]
   | cons x l ihl=>intro h;rw[Datum.dF,h x (by simp),ihl fun y hy=>h y (by simp[hy])];rfl
  rw[Datum.um,key _ ih];simp
theorem Datum.Fi (l:List Datum):Datum.dF l l=true:=by
 induction l with
 | nil=>rw[Datum.dF]
 | cons x l ih=>rw[Datum.dF,x.uo,ih];rfl
theorem Datum.kO: ∀ {l m:List Datum},Datum.dF l m=true→l.length=m.length
 | [], [],_=>rfl
 | x::l,y::m,h=>by rw[Datum.dF,Bool.and_eq_true] at h;rw[List.length_cons,List.length_cons,Datum.kO h.2]
 | [],_::_,h=>by simp[Datum.dF] at h
 | _::_, [],h=>by simp[Datum.dF] at h
theorem Fu {p q:Prop} (k:q) (h:q→p:=by intro hq;first | exact aD.sP (some 48) rfl [] [] ai mixed hq):p:=h k
theorem HQ (a:Datum): ∀ b:Datum,aA Tryz.prog 54 [.agg a.cells,.agg b.cells] (.bool (a.AE b)):=by
 induction a using Datum.ind with
 | h a ih=>
  intro b;have he:=a.um b;refine af.ah ai Tryz.func54 rfl rfl (n:=60) rfl rfl ?_
  conv=>whnf
  repeat' (first|refine nX ?_|((intro _);conv=>whnf)|(refine zX (fun hc=>?_) (fun hc=>?_)<;>(try simp only[SY] at hc)<;>(conv=>whnf)))
  ·exact ak.pure (Wk.ff (by
    rw[he,Bool.eq_false_iff];intro h;simp only[Bool.and_eq_true,beq_iff_eq] at h;obtain ⟨⟨⟨⟨h1,h2⟩,h3⟩,h4⟩,h5⟩:=h;have h6:=Datum.kO h5
    simp only[h1,h2,h3,h4,h6,not_true_eq_false,or_self] at hc))
  have h0:=hc;have he2:a.AE b=Datum.dF a.l b.l:=by rw[he,h0.1.1.1.1,h0.1.1.1.2,h0.1.1.2,h0.1.2];simp
  rw[he2];refine ax.keep [4,5,41,42,43,44,45,46,47,48,49,50,51,52,53,54,55,56,57,58,59] (fun i:Nat=> [(5,.int .i64 i)]) (fun i=>i≤a.l.length∧Datum.dF (a.l.drop i) (b.l.drop i)=Datum.dF a.l b.l) (fun i=>a.l.length - i) 0 ⟨Nat.zero_le _,rfl⟩ wA ?_;rintro j ⟨hj,hm⟩
  conv=>whnf
  repeat' (first|refine nX ?_|((first|((apply zZ);(conv=>whnf);(repeat ((refine pC (ih _ (List.getElem_mem _) _) wR ?_);conv=>whnf));exact pZ)|refine Fu ?_|intro _);conv=>whnf)|(refine zX (fun hc=>?_) (fun hc=>?_)<;>(try simp only[SY] at hc)<;>(conv=>whnf)))
  ·rw[aJ (show j < a.l.length by omega),aJ (show j < b.l.length by omega),Datum.dF,hc,Bool.false_and] at hm
   exact ak.pure (Wk.ff hm.symm)
  ·rw[aJ (show j < a.l.length by omega),aJ (show j < b.l.length by omega),Datum.dF,hc,Bool.true_and] at hm
   exact av (j + 1) ⟨by omega,hm⟩ (by show a.l.length - (j + 1) < a.l.length - j;omega) wA
  ·rw[List.drop_of_length_le (by omega),List.drop_of_length_le (by omega),Datum.dF] at hm
   exact ak.pure (Wk.tt hm.symm)
theorem Fv {p q:Prop} (k:q) (h:q→p:=by intro hq;first | exact aD.sP (some 17) rfl [] [] ai mixed hq):p:=h k
theorem HI (a b:List Datum):aA Tryz.prog 35 [.sl 5 (a.map Datum.pv) none,.sl 5 (b.map Datum.pv) none] (.bool (Datum.dF a b)):=by
 refine af.ah ai Tryz.func35 rfl rfl (n:=27) rfl rfl ?_
 conv=>whnf
 repeat' (first|refine nX ?_|((intro _);conv=>whnf)|(refine zX (fun hc=>?_) (fun hc=>?_)<;>(try simp only[SY] at hc)<;>(conv=>whnf)))
 ·exact ak.pure (Wk.ff (by
   rw[Bool.eq_false_iff];intro h;have:=Datum.kO h
   omega))
 refine ax.keep [4,5,11,12,13,14,15,16,17,18,19,20,21,22,23,24,25,26] (fun i:Nat=> [(5,.int .i64 i)]) (fun i=>i≤a.length∧Datum.dF (a.drop i) (b.drop i)=Datum.dF a b) (fun i=>a.length - i) 0 ⟨Nat.zero_le _,rfl⟩ wA ?_;rintro j ⟨hj,hm⟩
 conv=>whnf
 repeat' (first|refine nX ?_|((first|((apply zZ);(conv=>whnf);(repeat ((refine pC (HQ _ _) wR ?_);conv=>whnf));exact pZ)|refine Fv ?_|intro _);conv=>whnf)|(refine zX (fun hc=>?_) (fun hc=>?_)<;>(try simp only[SY] at hc)<;>(conv=>whnf)))
 ·rw[aJ (show j < a.length by omega),aJ (show j < b.length by omega),Datum.dF,hc,Bool.false_and] at hm
  exact ak.pure (Wk.ff hm.symm)
 ·rw[aJ (show j < a.length by omega),aJ (show j < b.length by omega),Datum.dF,hc,Bool.true_and] at hm
  exact av (j + 1) ⟨by omega,hm⟩ (by show a.length - (j + 1) < a.length - j;omega) wA
 ·rw[List.drop_of_length_le (by omega),List.drop_of_length_le (by omega),Datum.dF] at hm
  exact ak.pure (Wk.tt hm.symm)
def Prog.same (p q:Prog):Bool:=Datum.dF p.consts q.consts && p.body.AE q.body
theorem Prog.GJ (p:Prog):p.same p=true:=by rw[Prog.same,Datum.Fi,aa.uo];rfl
theorem NN (p q:Prog):aA Tryz.prog 15 [.agg p.cells,.agg q.cells] (.bool (p.same q)):=by
 refine af.ah ai Tryz.func15 rfl rfl (n:=17) rfl rfl ?_
 conv=>whnf
 repeat' (first|refine nX ?_|((first|(((apply zY;intro hg));(conv=>whnf);(repeat ((first|refine pC (Kt p.body q.body) wR ?_|refine aG ?_);conv=>whnf));exact pZ)|refine pC (HI p.consts q.consts) wR ?_|intro _);conv=>whnf)|(refine zX (fun hc=>?_) (fun hc=>?_)<;>(try simp only[SY] at hc)<;>omega))
 exact ak.pure (Wk.refl _)
end Go.Cb
namespace Go.Proofs
open Go.Shelf
def Tryz.Bu:Go.Shelf.Ren:=⟨fun | 189=>87 | 125=>140 | 257=>139 | 128=>187 | 129=>188 | 294=>178 | 295=>179 | 296=>180 | 297=>181 | 298=>182 | 299=>183 | 216=>184 | 300=>185 | 301=>186 | 328=>224 | 329=>225 | 330=>226 | 331=>227 | 332=>228 | 215=>229 | 343=>255 | n=>n,fun | 28=>23 | 3=>3 | 46=>202 | 0=>0 | 51=>245 | 53=>247 | 4=>4 | 183=>239 | 182=>238 | 131=>172 | 5=>5 | 9=>9 | 218=>274 | 222=>278 | 228=>304 | 229=>77 | n=>n,fun | n=>n⟩
theorem Tryz.Ez:Go.Proofs.Lays.n189 Tryz.prog Tryz.Bu:={
 mixed:=by kernel_rfl
 f125:=Tryz.func140.trans (congrArg some (by kernel_rfl))
 f128:=Tryz.func187.trans (congrArg some (by kernel_rfl))
 f129:=Tryz.func188.trans (congrArg some (by kernel_rfl))
 f189:=Tryz.func87.trans (congrArg some (by kernel_rfl))
 f215:=Tryz.func229.trans (congrArg some (by kernel_rfl))
 f216:=Tryz.func184.trans (congrArg some (by kernel_rfl))
 f257:=Tryz.func139.trans (congrArg some (by kernel_rfl))
 f294:=Tryz.func178.trans (congrArg some (by kernel_rfl))
 f295:=Tryz.func179.trans (congrArg some (by kernel_rfl))
 f296:=Tryz.func180.trans (congrArg some (by kernel_rfl))
 f297:=Tryz.func181.trans (congrArg some (by kernel_rfl))
 f298:=Tryz.func182.trans (congrArg some (by kernel_rfl))
 f299:=Tryz.func183.trans (congrArg some (by kernel_rfl))
 f300:=Tryz.func185.trans (congrArg some (by kernel_rfl))
 f301:=Tryz.func186.trans (congrArg some (by kernel_rfl))
 f328:=Tryz.func224.trans (congrArg some (by kernel_rfl))
 f329:=Tryz.func225.trans (congrArg some (by kernel_rfl))
 f330:=Tryz.func226.trans (congrArg some (by kernel_rfl))
 f331:=Tryz.func227.trans (congrArg some (by kernel_rfl))
 f332:=Tryz.func228.trans (congrArg some (by kernel_rfl))
 f343:=Tryz.func255.trans (congrArg some (by kernel_rfl))
 t0:=Tryz.underlying0
 a0:=Tryz.isAgg0
 z0:=Tryz.sizeOf0
 v0:=Tryz.zeroValue0
 t3:=Tryz.underlying3
 a3:=Tryz.isAgg3
 z3:=Tryz.sizeOf3
 v3:=Tryz.zeroValue3
 t4:=Tryz.underlying4
 a4:=Tryz.isAgg4
 z4:=Tryz.sizeOf4
 v4:=Tryz.zeroValue4
 t5:=Tryz.underlying5
 a5:=Tryz.isAgg5
 z5:=Tryz.sizeOf5
 v5:=Tryz.zeroValue5
 t9:=Tryz.underlying9
 a9:=Tryz.isAgg9
 z9:=Tryz.sizeOf9
 v9:=Tryz.zeroValue9
 t28:=Tryz.underlying23
 a28:=Tryz.isAgg23
 z28:=Tryz.sizeOf23
 v28:=Tryz.zeroValue23
 t46:=Tryz.underlying202
 a46:=Tryz.isAgg202
 z46:=Tryz.sizeOf202
 v46:=Tryz.zeroValue202
 t51:=Tryz.underlying245
 a51:=Tryz.isAgg245
 z51:=Tryz.sizeOf245
 v51:=Tryz.zeroValue245
 t53:=Tryz.underlying247
 a53:=Tryz.isAgg247
 z53:=Tryz.sizeOf247
 v53:=Tryz.zeroValue247
 t131:=Tryz.underlying172
 a131:=Tryz.isAgg172
 z131:=Tryz.sizeOf172
 v131:=Tryz.zeroValue172
 t182:=Tryz.underlying238
 a182:=Tryz.isAgg238
 z182:=Tryz.sizeOf238
 v182:=Tryz.zeroValue238
 t183:=Tryz.underlying239
 a183:=Tryz.isAgg239
 z183:=Tryz.sizeOf239
 v183:=Tryz.zeroValue239
 t218:=Tryz.underlying274
 a218:=Tryz.isAgg274
 z218:=Tryz.sizeOf274
 v218:=Tryz.zeroValue274
 t222:=Tryz.underlying278
 a222:=Tryz.isAgg278
 z222:=Tryz.sizeOf278
 v222:=Tryz.zeroValue278
 t228:=Tryz.underlying304
 a228:=Tryz.isAgg304
 z228:=Tryz.sizeOf304
 v228:=Tryz.zeroValue304
 t229:=Tryz.underlying77
 a229:=Tryz.isAgg77
 z229:=Tryz.sizeOf77
 v229:=Tryz.zeroValue77 }
def Tryz.wD:Go.Shelf.Ren:=⟨fun | 20=>88 | n=>n,fun | 22=>23 | 3=>3 | 4=>4 | 0=>0 | n=>n,fun | n=>n⟩
theorem Tryz.xI:Go.Proofs.Lays2.n20 Tryz.prog Tryz.wD:={
 mixed:=by kernel_rfl
 f20:=Tryz.func88.trans (congrArg some (by kernel_rfl))
 t0:=Tryz.underlying0
 a0:=Tryz.isAgg0
 z0:=Tryz.sizeOf0
 v0:=Tryz.zeroValue0
 t3:=Tryz.underlying3
 a3:=Tryz.isAgg3
 z3:=Tryz.sizeOf3
 v3:=Tryz.zeroValue3
 t4:=Tryz.underlying4
 a4:=Tryz.isAgg4
 z4:=Tryz.sizeOf4
 v4:=Tryz.zeroValue4
 t22:=Tryz.underlying23
 a22:=Tryz.isAgg23
 z22:=Tryz.sizeOf23
 v22:=Tryz.zeroValue23
 i3:=by kernel_rfl }
end Go.Proofs
namespace Go.Cb
open Go.Proofs Go.Sort
open Go.RowKit (Below)
set_option maxRecDepth 100000
set_option maxHeartbeats 4000000
theorem qH: ∀ l:List Int,flat (l.map (PV.int .i64))=l.map (PV.int .i64)
 | []=>rfl
 | x::l=>by
  have:=qH l;simp only[flat,List.map_cons,List.flatMap_cons,PV.cellsOf] at this ⊢;rw[this];rfl
theorem xU (F:Fz): ∀ l:List Int,aQ F (l.map (PV.int .i64)) (l.map (Value.int .i64))
 | []=>cw F
 | x::l=>bW.2 ⟨⟨rfl,by simp only[aC]⟩,xU F l⟩
theorem qi {F:Fz}: ∀ {l:List Int} {xs:List Value},aQ F (l.map (PV.int .i64)) xs→xs=l.map (Value.int .i64)
 | [], [],_=>rfl
 | [],_::_,h=>by simp only[List.map_nil,aQ] at h
 | _::_, [],h=>by simp only[List.map_cons,aQ] at h
 | x::l,v::xs,h=>by
  have h:=bW.1 h;have h1:v=.int .i64 x:=by simpa only[aC] using h.1.2
  rw[h1,qi h.2];rfl
theorem aP.EV {w0:World} {F:Fz} {M:List aj} {w:World} {t:Tok} {l ts:List Int} (h:aP w0 F (.row t (l.map (PV.int .i64))::M) w) (hs:t.s=1) (hlen:ts.length=l.length) {g:Nat} (hg:t.b=some g) (q:Nat) (os:Array Obj):
  aP w0 F (.row t (ts.map (PV.int .i64))::M) (grow (putRow (Value.int .i64) (Sort.ahead w q) g 0 ts.toArray) os):=by
 obtain ⟨⟨xs,hown,hr⟩,hes,e2,hfree⟩:=h.e7 _ (List.mem_cons_self ..)
 rcases hown.2 with ⟨h1,_⟩ | ⟨g',cap,cur,hb,hv,hB,hh,hnc,hcm,hsz,htake⟩
 ·rw[h1] at hg;cases hg
 obtain rfl:g'=g:=by rw[hb] at hg;simpa using hg
 have hsep:=List.pairwise_cons.1 h.sep;have hgr:w.grownBy (grow (putRow (Value.int .i64) (Sort.ahead w q) g' 0 ts.toArray) os) (some g'):=grownBy_sortedI ts.toArray;have hn:l.length=t.n:=by simpa using e2
 have hfl:flat (ts.map (PV.int .i64))=ts.map (PV.int .i64):=qH ts;refine aP.GF (t:=t) (ys:=ts.map (PV.int .i64)) (xs:=ts.map (Value.int .i64)) h.tail ((Below.refl _ w).grown hgr h.below.size fun k hk=>by simp at hk;omega) ?_ (by simp[hs,PV.cellsOf]) (by simp;omega) (by rw[hfl];exact xU F ts) ?_ ?_ hfree
 ·refine ⟨by simp[hs];omega,.inr ⟨g',cap,_,hb,hv,hB,heap_sortedI ts.toArray hh,hnc,hcm,by simp[putCells,hsz],?_⟩⟩
  have:t.n * t.s=ts.length:=by rw[hs];omega
  rw[this];exact take_putCellsI cur ts (by rw[hsz,hs];omega)
 ·intro b o u x
  have hne:b≠g':=fun e=>by rw[e,hfree g' hb o] at x;cases x
  have hlt:=World.block_lt_of_cell? w _ (h.fz b o u x);rw[World.cell?_of_block (w:=w) (hgr.block b hlt (by simp;omega))];exact h.fz b o u x
 ·intro e he k hk
  have hne:t.b≠some k:=by
   rcases hsep.1 e he with hh | hh
   ·simp only[aj.blk] at hh;rw[hh];simp
   ·intro hx;exact hh (by rw[hk];exact hx)
  have hlt:=(aj.jr (h.e7 e (List.mem_cons_of_mem _ he)) hk).2;exact ⟨hgr.block k hlt (by rw[hb] at hne;exact fun e=>hne e.symm),hne⟩
theorem AW (l:List Int):(Lib.compact l).length≤l.length:=by
 unfold Lib.compact Lib.compactUpTo;rw[List.length_map];exact Nat.le_trans (List.length_filter_le _ _) (by simp)
theorem B1 {w0:World} {F:Fz} {M:List aj} {w:World} {t:Tok} {l:List Int} (h:aP w0 F (.row t (l.map (PV.int .i64))::M) w) (hs:t.s=1):
  (l= []∧ ∃ p,t.v=.slice p 0 0)∨ ∃ g cap,t.b=some g∧t.v=.slice (some ⟨g,0,none⟩) l.length cap∧Holds (Value.int .i64) w g 0 l.toArray∧g < w.heap.size∧l.length≤cap∧t.n=l.length:=by
 obtain ⟨⟨xs,hown,hr⟩,hes,e2,hfree⟩:=h.e7 _ (List.mem_cons_self ..);have hn:l.length=t.n:=by simpa using e2
 rcases hown.2 with ⟨h1,h2,h3⟩ | ⟨g,cap,cur,hb,hv,hB,hh,hnc,hcm,hsz,htake⟩
 ·refine .inl ⟨List.eq_nil_of_length_eq_zero (by omega),?_⟩
  rcases h3 with h3 | ⟨a,h3⟩
  ·exact ⟨none,h3⟩
  ·exact ⟨some a,h3⟩
 ·rw[qH] at hr
  have hx:=qi hr;refine .inr ⟨g,cap,hb,by rw[hn];exact hv,holds_of_blockI (e:=t.e) (cur:=cur) hh (by rw[←hx, ←htake,hs,hn,Nat.mul_one]),(Array.getElem?_eq_some_iff.1 hh).1,by omega,hn.symm⟩
theorem DM (t:Tok) (l:List Int) (hs:t.s=1) (hl:l.length≤1000000000):
  af Tryz.prog 87 [.ms t] [.row t (l.map (PV.int .i64))] (fun y Γ'=>y=.bp []∧Γ'= [.row t ((l.mergeSort fun x y=>decide (x≤y)).map (PV.int .i64))]):=by
 refine ⟨⟨_,Tryz.func87,rfl,rfl⟩,fun w0 F M w vs hS hT=>?_⟩
 obtain rfl:vs= [t.v]:=by
  match vs,hT with
  | [v],hT=>simp only[ay,aC,and_true] at hT;rw[hT.1]
 rcases B1 hS hs with ⟨rfl,p,hv⟩ | ⟨g,cap,hb,hv,hH,hg,hc,hn⟩
 ·rw[hv]
  refine (Any.slices_Sort_int_none Tryz.Ez p 0 w).mono ?_;rintro e w' ⟨rfl,rfl⟩;exact ⟨_,F,.bp [],_,rfl,Fz.le_refl F,hS,by simp only[aC];exact ⟨[],rfl,by simp[ay]⟩,rfl,by simp⟩
 ·rw[hv]
  refine (Any.slices_Sort_int Tryz.Ez g 0 cap l w hH hg (by omega)).mono ?_;rintro e w' ⟨rfl,q,os,rfl⟩;exact ⟨_,F,.bp [],_,rfl,Fz.le_refl F,hS.EV hs (by simp) hb q os,by simp only[aC];exact ⟨[],rfl,by simp[ay]⟩,rfl,rfl⟩
theorem Fp (t:Tok) (l:List Int) (hs:t.s=1) (hl:l.length≤1000000000):
  af Tryz.prog 88 [.ms t] [.row t (l.map (PV.int .i64))] (fun y Γ'=> ∃ t':Tok,t'.e=t.e∧t'.s=1∧y=.ms t'∧Γ'= [.row t' ((Lib.compact l).map (PV.int .i64))]):=by
 refine ⟨⟨_,Tryz.func88,rfl,rfl⟩,fun w0 F M w vs hS hT=>?_⟩
 obtain ⟨rfl,h1⟩:vs= [t.v]∧t.v.oneCell'=true:=by
  match vs,hT with
  | [v],hT=>simp only[ay,aC,and_true] at hT;rw[hT.1];exact ⟨rfl,hT.2⟩
 rcases B1 hS hs with ⟨rfl,p,hv⟩ | ⟨g,cap,hb,hv,hH,hg,hc,hn⟩
 ·rw[hv]
  refine (Any.slices_Compact_int_empty Tryz.xI p 0 w).mono ?_;rintro e w' ⟨rfl,rfl⟩;exact ⟨_,F,.ms t,_,rfl,Fz.le_refl F,hS,by simp only[aC];exact ⟨hv.symm,h1⟩,t,rfl,hs,rfl,by simp[Lib.compact,Lib.compactUpTo]⟩
 ·rw[hv]
  refine (Any.slices_Compact_int Tryz.xI g 0 cap l w hH (by omega) hc).mono ?_;rintro e w' ⟨rfl,q,rfl⟩;have hle:=AW l;have h2:=hS.EV (ts:=Lib.compact l++List.replicate (l.length - (Lib.compact l).length) 0) hs (by simp;omega) hb q #[];rw[grow_empty] at h2;have h3:=aP.Cg (M1:= []) h2 hb (by rw[hn];exact hv) (Lib.compact l).length (by simp)
  have fin: ∀ T:Tok,T=⟨.slice (some ⟨g,0,none⟩) (Lib.compact l).length cap,(Lib.compact l).length,t.s,t.e,some g⟩→ ∃ v F' y Γ',(Ending.returned (.slice (some ⟨g,0,none⟩) (Lib.compact l).length cap))=.returned v∧F.le F'∧aP w0 F' (Γ'++M) (putRow (Value.int .i64) (Sort.ahead w q) g 0 (Lib.compact l++List.replicate (l.length - (Lib.compact l).length) 0).toArray)∧aC F' y v∧ ∃ t':Tok,t'.e=t.e∧t'.s=1∧y=.ms t'∧Γ'= [.row t' ((Lib.compact l).map (PV.int .i64))]:=by
   intro T hT;subst hT;refine ⟨_,F,.ms ⟨.slice (some ⟨g,0,none⟩) (Lib.compact l).length cap,(Lib.compact l).length,t.s,t.e,some g⟩, [.row ⟨.slice (some ⟨g,0,none⟩) (Lib.compact l).length cap,(Lib.compact l).length,t.s,t.e,some g⟩ ((Lib.compact l).map (PV.int .i64))],rfl,Fz.le_refl F,?_,by unfold aC;exact ⟨rfl,rfl⟩,⟨.slice (some ⟨g,0,none⟩) (Lib.compact l).length cap,(Lib.compact l).length,t.s,t.e,some g⟩,rfl,hs,rfl,rfl⟩;simpa using h3
  exact fin _ rfl
theorem B0 (t:Tok) (l:List Int) (hs:t.s=1) (hl:l.length≤1000000000):
  af Tryz.prog 50 [.ms t] [.row t (l.map (PV.int .i64))] (fun y Γ'=> ∃ t':Tok,t'.e=t.e∧t'.s=1∧y=.ms t'∧Γ'= [.row t' ((ej l).map (PV.int .i64))]):=by
 refine af.ah ai Tryz.func50 rfl rfl (n:=7) rfl rfl ?_
 conv=>whnf
 skip
 refine aq.go (DM t l hs hl) (aX.refl _) ?_;rintro _ _ ⟨rfl,rfl⟩
 conv=>whnf
 skip
 refine aq.go (Fp t (l.mergeSort fun x y=>decide (x≤y)) hs (by simp;omega)) (aX.refl _) ?_;rintro _ _ ⟨t2,e2,s2,rfl,rfl⟩
 conv=>whnf
 skip
 have e:Lib.compact (l.mergeSort fun x y=>decide (x≤y))=ej l:=rfl;rw[e];exact ak.gen (Wk.refl _) ⟨t2,e2,s2,rfl,rfl⟩
def bx (l:List (aa×List Int)):List Int:=l.flatMap fun m=>m.1.v
theorem yx (l:List (aa×List Int)) (k:Nat):(bx (l.take k)).length≤(bx l).length:=by
 have:=congrArg List.length (congrArg bx (List.take_append_drop k l));unfold bx at this ⊢;rw[List.flatMap_append,List.length_append] at this;omega
theorem aa.IP (t:aa): ∀ (sc:List Int) (deep:Int),(bx (t.met sc deep)).length≤t.aR:=by
 induction t using aa.ind with
 | h t ih=>
  intro sc deep;rw[aa.qX,t.bE]
  have key: ∀ (l:List aa),(∀ y∈l, ∀ (sc:List Int) (deep:Int),(bx (y.met sc deep)).length≤y.aR)→ ∀ sc inner deep,(bx (aa.jc t.op sc inner l deep)).length≤aa.aE l:=by
   intro l
   induction l with
   | nil=>intro _ _ _ _;simp[aa.jc,bx]
   | cons x l ihl=>
    intro hy sc inner deep;have h1:=hy x (by simp) (if fu t.op=true∨l= [] then inner else sc) deep;have h2:=ihl (fun y h=>hy y (by simp[h])) sc inner deep;unfold bx at h1 h2 ⊢;rw[aa.jc,aa.aE,List.flatMap_append,List.length_append];omega
  have:=key t.t ih sc (sc++t.v) (deep + 1);unfold bx at this ⊢;rw[List.flatMap_cons,List.length_append]
  split
  ·simp;omega
  ·show t.v.length + _≤_
   omega
theorem KP (t:aa) (hb:t.aR≤1000000000):af Tryz.prog 141 [.agg t.cells] [] (fun y Γ'=> ∃ tk:Tok,tk.e=3∧tk.s=1∧y=.ms tk∧Γ'= [.row tk ((ej (dG t.all)).map (PV.int .i64))]):=by
 have hlen:t.all.length≤t.aR:=t.Lb [] 0;refine af.ah ai Tryz.func141 rfl rfl (n:=28) rfl rfl ?_
 conv=>whnf
 repeat' (first|refine c9 ?_|((intro _);conv=>whnf)|(refine zX (fun hc=>?_) (fun hc=>?_)<;>(try simp only[SY] at hc)<;>omega))
 rename_i bt bo;refine aq.Of (au.trans (au.cz 1 3 _) (au.box (b:=bo) (cs:= [.nil]) (cs':= [.ms (aB 1 3)]) (.cons (Wk.cz 1 3) .nil))) (Md t) (aX.refl _) ?_;rintro _ _ ⟨b,rfl,rfl⟩
 conv=>whnf
 skip
 refine PRange.go (t.all.map fun m=> [Gl m]) (fun s:Tok×List Int=> [.box bo [.ms s.1],.row s.1 (s.2.map (PV.int .i64))]) (fun k s=>s.1.e=3∧s.1.s=1∧s.2=dG (t.all.take k)) (fun _ _=>False) (aB 1 3, []) (Hv b t hb) ⟨rfl,rfl,rfl⟩
  (hp:=(inferInstance:bu _ [.box bo [.ms (aB 1 3)],.row (aB 1 3) [],.box b t.cells] _)) (by intro ys hy;obtain ⟨m,_,rfl⟩:=List.mem_map.1 hy;rfl) ?_ ?_ (fun _ _ _ h=>h.elim)
 ·rintro k ys ⟨tk,l⟩ hk ⟨k1,k2,k3⟩
  dsimp only at k1 k2 k3⊢
  obtain ⟨m,hm,rfl⟩: ∃ m,t.all[k]?=some m∧ys= [Gl m]:=by
   rw[List.getElem?_map] at hk
   cases h:t.all[k]? with
   | none=>rw[h] at hk;cases hk
   | some m=>rw[h] at hk;cases hk;exact ⟨m,rfl,rfl⟩
  obtain ⟨hlt,hmg⟩:=List.getElem?_eq_some_iff.1 hm
  have hst:dG (t.all.take (k + 1))=dG (t.all.take k)++(if (bQ m.1.op && !m.2.contains m.1.n)=true then [m.1.n] else []):=by
   rw[List.take_succ_eq_append_getElem hlt,dG,List.filter_append,List.map_append,hmg];congr 1;by_cases h:(bQ m.1.op && !m.2.contains m.1.n)=true
   ·rw[if_pos h];simp only[List.filter,h];rfl
   ·rw[if_neg h];rw[Bool.not_eq_true] at h;simp only[List.filter,h];rfl
  have hll:l.length≤k:=by
   rw[k3,dG,List.length_map];exact Nat.le_trans (List.length_filter_le _ _) (by rw[List.length_take];omega)
  conv=>whnf
  repeat' (first|refine c9 ?_|((intro _);conv=>whnf)|(refine zX (fun hc=>?_) (fun hc=>?_)<;>(try simp only[SY] at hc)<;>omega))
  refine ⟨rfl,?_⟩
  conv=>whnf
  repeat' (first|refine c9 ?_|((first|(((apply zY;intro hg));(conv=>whnf);(repeat ((first|refine pC (fE m.2 m.1.n) wR ?_|refine aG ?_);conv=>whnf));exact pZ)|refine pC (Lf m.1) wR ?_|intro _);conv=>whnf)|(refine zX (fun hc=>?_) (fun hc=>?_)<;>(try simp only[SY] at hc)<;>(conv=>whnf)))
  ·refine aW.NH (f:=PV.int .i64) (l:=l) m.1.n k1 k2 (Wk.tok _ _ _) (by omega) (by show _ * 8≤_;omega) (fun t3 e3 s3=>?_)
   conv=>whnf
   repeat (refine lB ?_)
   exact vP (k:=k) (G:=fun s:Tok×List Int=> [.box bo [.ms s.1],.row s.1 (s.2.map (PV.int .i64))]) (I:=fun k s=>s.1.e=3∧s.1.s=1∧s.2=dG (t.all.take k)) (X:=fun _ _=>False) (t3,l++ [m.1.n]) ⟨e3,s3,by show l++ [m.1.n]=dG (t.all.take (k + 1));rw[hst,if_pos (by rw[Bool.and_eq_true,hc.1,hc.2];exact ⟨rfl,rfl⟩),k3]⟩ (hp:=(inferInstance:bu _ [.box bo [.ms t3],.row t3 ((l++ [m.1.n]).map (PV.int .i64))] _))
  ·exact vP (k:=k) (G:=fun s:Tok×List Int=> [.box bo [.ms s.1],.row s.1 (s.2.map (PV.int .i64))]) (I:=fun k s=>s.1.e=3∧s.1.s=1∧s.2=dG (t.all.take k)) (X:=fun _ _=>False) (tk,l) ⟨k1,k2,by show l=dG (t.all.take (k + 1));rw[hst,if_neg (by rw[Bool.and_eq_true,Bool.not_eq_true'];rintro ⟨a,b⟩;rcases hc with h | h;rw[a] at h;cases h;rw[b] at h;cases h),List.append_nil,k3]⟩ (hp:=(inferInstance:bu _ [.box bo [.ms tk],.row tk (l.map (PV.int .i64))] _))
 ·rintro bd ⟨tk,l⟩ ⟨k1,k2,k3⟩
  dsimp only at k1 k2 k3 ⊢;rw[List.length_map,List.take_length] at k3;subst k3
  have hfl:(dG t.all).length≤1000000000:=by
   rw[dG,List.length_map];exact Nat.le_trans (List.length_filter_le _ _) (by omega)
  conv=>whnf
  repeat' (first|refine c9 ?_|(refine zX (fun hc=>?_) (fun hc=>?_)<;>(try simp only[SY] at hc)<;>omega))
  refine aq.KQ [.ob bd kC [] [],.box bo [.ms tk]] (B0 tk (dG t.all) k2 hfl) (aX.refl _) (List.Perm.refl _) ?_;rintro _ _ ⟨t4,e4,s4,rfl,rfl⟩
  conv=>whnf
  skip
  refine Ay.at_ rfl ?_
  conv=>whnf
  exact ak.gen (y:=.ms t4) (Wk.refl _) ⟨t4,e4.trans k1,s4,rfl,rfl⟩
theorem M0 (t:aa) (hb:t.aR≤1000000000):aA Tryz.prog 141 [.agg t.cells] (gQ (ej (dG t.all))):=
 aA.Dp ((KP t hb).shift fun y Γ' hq=>by
  obtain ⟨tk,h1,h2,rfl,rfl⟩:=hq
  exact ⟨_,_,Shift.cr (es:=(ej (dG t.all)).map (PV.int .i64)) (qx.ms' h2),rfl⟩)
theorem HA (t:aa) (hb:t.aR≤1000000000):af Tryz.prog 30 [.agg t.cells] [] (fun y Γ'=> ∃ tk:Tok,tk.e=3∧tk.s=1∧y=.ms tk∧Γ'= [.row tk ((ej (bx t.all)).map (PV.int .i64))]):=by
 have hlen:(bx t.all).length≤t.aR:=t.IP [] 0;refine af.ah ai Tryz.func30 rfl rfl (n:=15) rfl rfl ?_
 conv=>whnf
 repeat' (first|refine c9 ?_|((intro _);conv=>whnf)|(refine zX (fun hc=>?_) (fun hc=>?_)<;>(try simp only[SY] at hc)<;>omega))
 rename_i bt bo;refine aq.Of (au.trans (au.cz 1 3 _) (au.box (b:=bo) (cs:= [.nil]) (cs':= [.ms (aB 1 3)]) (.cons (Wk.cz 1 3) .nil))) (Md t) (aX.refl _) ?_;rintro _ _ ⟨b,rfl,rfl⟩
 conv=>whnf
 skip
 refine PRange.go (t.all.map fun m=> [Gl m]) (fun s:Tok×List Int=> [.box bo [.ms s.1],.row s.1 (s.2.map (PV.int .i64))]) (fun k s=>s.1.e=3∧s.1.s=1∧s.2=bx (t.all.take k)) (fun _ _=>False) (aB 1 3, []) (Hv b t hb) ⟨rfl,rfl,rfl⟩
  (hp:=(inferInstance:bu _ [.box bo [.ms (aB 1 3)],.row (aB 1 3) [],.box b t.cells] _)) (by intro ys hy;obtain ⟨m,_,rfl⟩:=List.mem_map.1 hy;rfl) ?_ ?_ (fun _ _ _ h=>h.elim)
 ·rintro k ys ⟨tk,l⟩ hk ⟨k1,k2,k3⟩
  dsimp only at k1 k2 k3⊢
  obtain ⟨m,hm,rfl⟩: ∃ m,t.all[k]?=some m∧ys= [Gl m]:=by
   rw[List.getElem?_map] at hk
   cases h:t.all[k]? with
   | none=>rw[h] at hk;cases hk
   | some m=>rw[h] at hk;cases hk;exact ⟨m,rfl,rfl⟩
  obtain ⟨hlt,hmg⟩:=List.getElem?_eq_some_iff.1 hm
  have hst:bx (t.all.take (k + 1))=bx (t.all.take k)++m.1.v:=by
   rw[List.take_succ_eq_append_getElem hlt,bx,List.flatMap_append,hmg];simp[bx]
  have hll:l.length + m.1.v.length≤1000000000:=by
   have h1:(bx (t.all.take (k + 1))).length≤(bx t.all).length:=yx _ _;rw[hst,List.length_append, ←k3] at h1;omega
  conv=>whnf
  repeat' (first|refine c9 ?_|((intro _);conv=>whnf)|(refine zX (fun hc=>?_) (fun hc=>?_)<;>(try simp only[SY] at hc)<;>omega))
  refine ⟨rfl,?_⟩
  conv=>whnf
  repeat' (first|refine c9 ?_|(refine zX (fun hc=>?_) (fun hc=>?_)<;>(try simp only[SY] at hc)<;>omega))
  refine aW.EZ (f:=PV.int .i64) (l:=l) (m:=m.1.v) k1 k2 (Wk.tok _ _ _) (by omega) (by show _ * 8≤_;omega) (fun t3 e3 s3=>?_)
  conv=>whnf
  repeat (refine lB ?_)
  exact vP (k:=k) (G:=fun s:Tok×List Int=> [.box bo [.ms s.1],.row s.1 (s.2.map (PV.int .i64))]) (I:=fun k s=>s.1.e=3∧s.1.s=1∧s.2=bx (t.all.take k)) (X:=fun _ _=>False) (t3,l++m.1.v) ⟨e3,s3,by show l++m.1.v=bx (t.all.take (k + 1));rw[hst,k3]⟩ (hp:=(inferInstance:bu _ [.box bo [.ms t3],.row t3 ((l++m.1.v).map (PV.int .i64))] _))
 ·rintro bd ⟨tk,l⟩ ⟨k1,k2,k3⟩
  dsimp only at k1 k2 k3 ⊢;rw[List.length_map,List.take_length] at k3;subst k3;have hfl:(bx t.all).length≤1000000000:=by omega
  conv=>whnf
  repeat' (first|refine c9 ?_|(refine zX (fun hc=>?_) (fun hc=>?_)<;>(try simp only[SY] at hc)<;>omega))
  refine aq.KQ [.ob bd kC [] [],.box bo [.ms tk]] (B0 tk (bx t.all) k2 hfl) (aX.refl _) (List.Perm.refl _) ?_;rintro _ _ ⟨t4,e4,s4,rfl,rfl⟩
  conv=>whnf
  skip
  refine Ay.at_ rfl ?_
  conv=>whnf
  exact ak.gen (y:=.ms t4) (Wk.refl _) ⟨t4,e4.trans k1,s4,rfl,rfl⟩
theorem KD (t:aa) (hb:t.aR≤1000000000):aA Tryz.prog 30 [.agg t.cells] (gQ (ej (bx t.all))):=
 aA.Dp ((HA t hb).shift fun y Γ' hq=>by
  obtain ⟨tk,h1,h2,rfl,rfl⟩:=hq
  exact ⟨_,_,Shift.cr (es:=(ej (bx t.all)).map (PV.int .i64)) (qx.ms' h2),rfl⟩)
mutual
def aa.sh (k:Int):aa→aa
 | .mk op n v t=>.mk op (if bQ op=true then n + k else n) (v.map (· + k)) (aa.Pn k t)
def aa.Pn (k:Int):List aa→List aa
 | []=> []
 | x::xs=>aa.sh k x::aa.Pn k xs
end
theorem aa.jL (k:Int): ∀ l:List aa,aa.Pn k l=l.map (aa.sh k)
 | []=>rfl
 | x::l=>by rw[aa.Pn,List.map_cons,aa.jL k l]
theorem aa.ni (k:Int) (t:aa):(t.sh k).op=t.op:=by cases t;rw[aa.sh];rfl
theorem aa.DK (k:Int) (t:aa):(t.sh k).n=if bQ t.op=true then t.n + k else t.n:=by cases t;rw[aa.sh];rfl
theorem aa.Ca (k:Int) (t:aa):(t.sh k).v=t.v.map (· + k):=by cases t;rw[aa.sh];rfl
theorem aa.Aj (k:Int) (t:aa):(t.sh k).t=t.t.map (aa.sh k):=by cases t;rw[aa.sh, ←aa.jL];rfl
theorem aa.NR (k:Int) (t:aa):(t.sh k).cnt=t.cnt:=by
 induction t using aa.ind with
 | h t ih=>
  have: ∀ l:List aa,(∀ x∈l,(x.sh k).cnt=x.cnt)→aa.cW (l.map (aa.sh k))=aa.cW l:=by
   intro l
   induction l with
   | nil=>intro _;rfl
   | cons y l ihl=>intro h;rw[List.map_cons,aa.cW,aa.cW,h y (by simp),ihl fun x hx=>h x (by simp[hx])]
  rw[aa.ju,aa.ju,aa.Aj,this t.t ih]
theorem aa.E5 (k:Int) (t:aa):(t.sh k).vars=t.vars.map (· + k):=by
 induction t using aa.ind with
 | h t ih=>
  have: ∀ l:List aa,(∀ x∈l,(x.sh k).vars=x.vars.map (· + k))→aa.dW (l.map (aa.sh k))=(aa.dW l).map (· + k):=by
   intro l
   induction l with
   | nil=>intro _;rfl
   | cons y l ihl=>intro h;rw[List.map_cons,aa.dW,aa.dW,h y (by simp),ihl fun x hx=>h x (by simp[hx]),List.map_append]
  rw[aa.mh,aa.mh,aa.Aj,aa.Ca,this t.t ih,List.map_append]
theorem aa.NS (k:Int) (t:aa): ∀ (sc:List Int) (deep:Int),(t.sh k).met (sc.map (· + k)) deep=(t.met sc deep).map fun m=>(m.1.sh k,m.2.map (· + k)):=by
 induction t using aa.ind with
 | h t ih=>
  intro sc deep
  have key: ∀ (op:Int) (l:List aa),(∀ y∈l, ∀ (sc:List Int) (deep:Int),(y.sh k).met (sc.map (· + k)) deep=(y.met sc deep).map fun m=>(m.1.sh k,m.2.map (· + k)))→
    ∀ (sc inner:List Int) (deep:Int),aa.jc op (sc.map (· + k)) (inner.map (· + k)) (l.map (aa.sh k)) deep=(aa.jc op sc inner l deep).map fun m=>(m.1.sh k,m.2.map (· + k)):=by
   intro op l
   induction l with
   | nil=>intro _ _ _ _;simp[aa.jc]
   | cons x l ihl=>
    intro hy sc inner deep;rw[List.map_cons,aa.jc,aa.jc,List.map_append,ihl fun y hh=>hy y (by simp[hh])];congr 1;have e:(fu op=true∨l.map (aa.sh k)= [])↔(fu op=true∨l= []):=by simp
    by_cases h:fu op=true∨l= []
    ·rw[if_pos h,if_pos (e.2 h)];exact hy x (by simp) _ _
    ·rw[if_neg h,if_neg (fun h'=>h (e.1 h'))];exact hy x (by simp) _ _
  rw[aa.qX,aa.qX,List.map_cons,aa.ni,aa.Ca,aa.Aj, ←List.map_append];congr 1
  split
  ·rfl
  ·exact key _ _ ih _ _ _
theorem aa.NP (k:Int) (t:aa):(t.sh k).all=t.all.map fun m=>(m.1.sh k,m.2.map (· + k)):=t.NS k [] 0
theorem GN (k c codes:Int) (free:Bool) (t:aa) (scope:List Int) (h:bM c codes free t scope=true):bM c codes free (t.sh k) (scope.map (· + k))=true:=by
 unfold bM at h ⊢;rw[aa.ni,aa.DK,aa.Ca,List.length_map];by_cases hn:t.op=1∨t.op=2∨t.op=14
 ·rw[if_neg (by omega),if_pos hn] at h⊢
  have:bQ t.op=true:=by simp[bQ];omega
  rw[if_pos this];simp at h ⊢;exact h
 ·have: ¬ bQ t.op=true:=by simp[bQ];omega
  rw[if_neg this,if_neg hn];rw[if_neg hn] at h;exact h
theorem aa.Pk {level c codes:Int} {free:Bool} (k:Int) (t:aa): ∀ {scope:List Int} {deep:Int},t.qt level c codes free scope deep→(t.sh k).qt level c codes free (scope.map (· + k)) deep:=by
 induction t using aa.ind with
 | h t ih=>
  intro scope deep h;rw[aa.kF] at h⊢
  have key: ∀ (op:Int) (sc inner:List Int) (deep:Int) (l:List aa),(∀ y∈l, ∀ {scope:List Int} {deep:Int},y.qt level c codes free scope deep→(y.sh k).qt level c codes free (scope.map (· + k)) deep)→
    aa.fy level c codes free op sc inner l deep→aa.fy level c codes free op (sc.map (· + k)) (inner.map (· + k)) (l.map (aa.sh k)) deep:=by
   intro op sc inner deep l
   induction l with
   | nil=>intro _ _;simp[aa.fy]
   | cons x l ihl=>
    intro hy hk;rw[aa.fy] at hk;rw[List.map_cons,aa.fy,aa.ni];have e:l.map (aa.sh k)= []↔l= []:=by simp
    refine ⟨fun hh=>hk.1 ⟨hh.1,fun h2=>hh.2.1 (e.2 h2),hh.2.2⟩,?_,ihl (fun z hz=>hy z (by simp[hz])) hk.2.2⟩;have h2:=hy x (by simp) hk.2.1;by_cases h3:l= []∨op=7∨op=9
    ·rw[if_pos h3] at h2
     rw[if_pos (h3.imp_left e.2)];exact h2
    ·rw[if_neg h3] at h2
     rw[if_neg (fun h4=>h3 (h4.imp_left e.1))];exact h2
  rw[aa.ni,aa.Ca,aa.Aj, ←List.map_append];refine ⟨⟨h.1.1,h.1.2.1,?_,GN k _ _ _ _ _ h.1.2.2.2⟩,key _ _ _ _ _ ih h.2⟩;have:=h.1.2.2.1;unfold cX at this ⊢;simp only[aa.ni,aa.Ca,aa.Aj,List.length_map];exact this
theorem c7.sh {p:Prog} {level:Int} (h:c7 p level) (k:Int) (h0:0≤k) (hk: ∀ x∈p.body.vars,x + k≤1000000):c7 ⟨p.consts,p.body.sh k⟩ level:=by
 obtain ⟨h1,h2,h3,h4,h5⟩:=h;refine ⟨h1,h2,p.body.Pk k h3,by rw[show (⟨p.consts,p.body.sh k⟩:Prog).body=p.body.sh k from rfl,aa.NR];exact h4,?_⟩;show gW (p.body.sh k).vars [];rw[aa.E5];refine ⟨fun x hx=>?_,?_⟩
 ·obtain ⟨y,hy,rfl⟩:=List.mem_map.1 hx
  have:=h5.1 y hy;have:=hk y hy;exact ⟨by omega,by omega,by simp⟩
 ·exact List.Pairwise.map _ (fun a b hab=>by omega) h5.2
mutual
def aa.qs:aa→List Int
 | .mk op n _ t=>(if op=2∨op=14 then [n] else [])++aa.lF t
def aa.lF:List aa→List Int
 | []=> []
 | x::xs=>aa.qs x++aa.lF xs
end
theorem aa.yq (t:aa):t.qs=(if t.op=2∨t.op=14 then [t.n] else [])++aa.lF t.t:=by cases t;rw[aa.qs];rfl
theorem aa.wX: ∀ l:List aa,aa.lF l=l.flatMap aa.qs
 | []=>by simp[aa.lF]
 | x::l=>by rw[aa.lF,aa.wX l];rfl
def Jk (v:Int):aa:=.mk 1 v [] []
def MM (t:aa):aa:=.mk 15 0 [] [t]
def Nh (A:Int→Bool):List Int→Int→List Int
 | [],_=> []
 | x::xs,k=>if A x=true then k::Nh A xs (k + 1) else x::Nh A xs k
def Ng (A:Int→Bool):List Int→Int→List aa
 | [],_=> []
 | x::xs,k=>if A x=true then MM (Jk k)::Ng A xs (k + 1) else Ng A xs k
def Nc (A:Int→Bool) (l:List Int):Int:=((l.filter A).length:Int)
def HB (A:Int→Bool):List Int→List aa→List aa
 | v::vs,x::xs=>(if A v=true then MM x else x)::HB A vs xs
 | _,l=>l
def MZ (A:Int→Bool):List Int→List aa→List aa
 | v::vs,x::xs=>if A v=true then MZ A vs xs else x::MZ A vs xs
 | _,_=> []
def MY (A:Int→Bool):List Int→List aa→aa→aa
 | v::vs,x::xs,o=>if A v=true then .mk 6 0 [] [.mk 17 0 [] [Jk v,x],MY A vs xs o] else MY A vs xs o
 | _,_,o=>o
def PS (A:Int→Bool) (vs:List Int) (l:List aa):aa:=
 let o:=MY A vs l (l.getD vs.length (Jk 0))
 if vs.filter (fun v=>!A v)= [] then o else .mk 9 0 (vs.filter fun v=>!A v) (MZ A vs l++ [o])
def PT (A:Int→Bool) (vs:List Int) (l:List aa):aa:=
 .mk 8 0 (vs.filter A) ((vs.filter A).map (fun _=>MM (.mk 13 0 [] []))++ [PS A vs l])
mutual
def aa.fr (A:Int→Bool):aa→Int
 | .mk op _ v t=>(if op=4 then Nc A v else 0) + aa.Qj A t
def aa.Qj (A:Int→Bool):List aa→Int
 | []=>0
 | x::xs=>aa.fr A x + aa.Qj A xs
end
mutual
def aa.cv (A:Int→Bool):aa→Int→aa
 | .mk op n v t,k=>
  if op=1∧A n=true then .mk 16 0 [] [.mk op n v t]
  else if op=2 then .mk 17 0 [] (Jk n::aa.Mf A t k)
  else if op=14 then .mk 18 0 [] (Jk n::aa.Mf A t k)
  else if op=4 then .mk 4 n (Nh A v k) (if v.filter A= [] then aa.Mf A t (k + Nc A v) else [.mk 8 0 (v.filter A) (Ng A v k++aa.Mf A t (k + Nc A v))])
  else if op=9∧v.any A=true then PT A v (aa.Mf A t k)
  else .mk op n v (if op=8 then HB A v (aa.Mf A t k) else aa.Mf A t k)
def aa.Mf (A:Int→Bool):List aa→Int→List aa
 | [],_=> []
 | x::xs,k=>aa.cv A x k::aa.Mf A xs (k + aa.fr A x)
end
mutual
def aa.Oj:aa→Prop
 | .mk op n v t=>((op=1→v= []∧t= [])∧(op=2∨op=14∨op=4→t.length=1)∧(op=8∨op=9→t.length=v.length + 1)∧(op=9→n=0))∧aa.GP t
def aa.GP:List aa→Prop
 | []=>True
 | x::xs=>aa.Oj x∧aa.GP xs
end
theorem aa.NT (t:aa):t.Oj↔((t.op=1→t.v= []∧t.t= [])∧(t.op=2∨t.op=14∨t.op=4→t.t.length=1)∧(t.op=8∨t.op=9→t.t.length=t.v.length + 1)∧(t.op=9→t.n=0))∧aa.GP t.t:=by
 cases t;rw[aa.Oj];rfl
mutual
def aa.Kl:aa→List Int
 | .mk op n v t=>(if op=1 then [n] else [])++v++aa.vA t
def aa.vA:List aa→List Int
 | []=> []
 | x::xs=>aa.Kl x++aa.vA xs
end
theorem aa.Nq (t:aa):t.Kl=(if t.op=1 then [t.n] else [])++t.v++aa.vA t.t:=by cases t;rw[aa.Kl];rfl
def aa.sz (l:List aa):Int:=aa.cW l
def PC:List aa→List aa→Prop
 | [], []=>True
 | x::l,y::m=>x.cnt=y.cnt∧PC l m
 | _,_=>False
theorem PC.getD: ∀ {l m:List aa} (i:Nat) (d:aa),PC l m→(l.getD i d).cnt=(m.getD i d).cnt
 | [], [],_,_,_=>rfl
 | x::l,y::m,0,d,h=>by simpa using h.1
 | x::l,y::m,i + 1,d,h=>by simpa using h.2.getD i d
 | [],_::_,_,_,h=>h.elim
 | _::_, [],_,_,h=>h.elim
section
variable {A B:Int→Bool} {s:Int} (hAB: ∀ v,B (v + s)=A v)
include hAB
end
theorem aa.Lo {level c codes:Int} {free:Bool} (t:aa): ∀ {scope:List Int} {deep:Int},t.qt level c codes free scope deep→t.Oj:=by
 induction t using aa.ind with
 | h t ih=>
  intro scope deep h;rw[aa.kF] at h;rw[aa.NT]
  have key: ∀ (op:Int) (sc inner:List Int) (deep:Int) (l:List aa),(∀ y∈l, ∀ {scope:List Int} {deep:Int},y.qt level c codes free scope deep→y.Oj)→aa.fy level c codes free op sc inner l deep→aa.GP l:=by
   intro op sc inner deep l
   induction l with
   | nil=>intro _ _;rw[aa.GP];trivial
   | cons x l ihl=>
    intro hy hk;rw[aa.fy] at hk;rw[aa.GP];exact ⟨hy x (by simp) hk.2.1,ihl (fun z hz=>hy z (by simp[hz])) hk.2.2⟩
  refine ⟨?_,key _ _ _ _ _ ih h.2⟩;obtain ⟨⟨_,_,h3,h4⟩,_⟩:=h;unfold cX at h3;refine ⟨fun e=>?_,fun e=>?_,fun e=>?_,fun e=>?_⟩
  ·rw[e] at h3
   simp[yw] at h3;exact h3
  ·split at h3
   ·cases h3
   ·rw[if_neg (by omega),if_pos (by omega)] at h3
    have:(t.t.length:Int)=1:=by simpa using h3
    omega
  ·split at h3
   ·cases h3
   ·rw[if_neg (by omega),if_neg (by omega),if_neg (by omega),if_neg (by omega),if_neg (by omega),if_pos (by omega)] at h3
    have:(t.t.length:Int)=(t.v.length:Int) + 1:=by simpa using h3
    omega
  ·unfold bM at h4
   rw[if_neg (by omega),if_neg (by omega),if_neg (by omega),if_neg (by omega),if_neg (by omega),if_neg (by omega),if_neg (by omega)] at h4;simpa using h4
theorem aa.Ln {level c codes:Int} {free:Bool} (t:aa): ∀ {scope:List Int} {deep:Int},t.qt level c codes free scope deep→ ∀ v,v∈t.Kl∨v∈t.qs→v∈scope∨v∈t.vars:=by
 induction t using aa.ind with
 | h t ih=>
  intro scope deep h v hv;rw[aa.kF] at h;rw[aa.Nq,aa.yq] at hv;rw[aa.mh]
  have key: ∀ (op:Int) (sc inner:List Int) (deep:Int) (l:List aa),(∀ y∈l, ∀ {scope:List Int} {deep:Int},y.qt level c codes free scope deep→ ∀ v,v∈y.Kl∨v∈y.qs→v∈scope∨v∈y.vars)→
    aa.fy level c codes free op sc inner l deep→ ∀ v,v∈aa.vA l∨v∈aa.lF l→v∈sc∨v∈inner∨v∈aa.dW l:=by
   intro op sc inner deep l
   induction l with
   | nil=>intro _ _ v hv;simp[aa.vA,aa.lF] at hv
   | cons x l ihl=>
    intro hy hk v hv;rw[aa.fy] at hk;rw[aa.vA,aa.lF,List.mem_append,List.mem_append] at hv;rw[aa.dW,List.mem_append]
    have h1:v∈x.Kl∨v∈x.qs→v∈sc∨v∈inner∨v∈x.vars:=fun h=>by
     have:=hy x (by simp) hk.2.1 v h
     split at this
     ·rcases this with h | h
      ·exact .inr (.inl h)
      ·exact .inr (.inr h)
     ·rcases this with h | h
      ·exact .inl h
      ·exact .inr (.inr h)
    have h2:v∈aa.vA l∨v∈aa.lF l→v∈sc∨v∈inner∨v∈aa.dW l:=ihl (fun z hz=>hy z (by simp[hz])) hk.2.2 v
    rcases hv with (h | h) | (h | h)
    ·rcases h1 (.inl h) with h | h | h
     ·exact .inl h
     ·exact .inr (.inl h)
     ·exact .inr (.inr (.inl h))
    ·rcases h2 (.inl h) with h | h | h
     ·exact .inl h
     ·exact .inr (.inl h)
     ·exact .inr (.inr (.inr h))
    ·rcases h1 (.inr h) with h | h | h
     ·exact .inl h
     ·exact .inr (.inl h)
     ·exact .inr (.inr (.inl h))
    ·rcases h2 (.inr h) with h | h | h
     ·exact .inl h
     ·exact .inr (.inl h)
     ·exact .inr (.inr (.inr h))
  have hk:=key _ _ _ _ _ ih h.2 v
  have hn:t.op=1∨t.op=2∨t.op=14→v=t.n→v∈scope:=by
   intro ho e;have h4:=h.1.2.2.2;unfold bM at h4;rw[if_neg (by omega),if_pos (by omega)] at h4;rw[e];simpa using h4
  rw[List.mem_append,List.mem_append,List.mem_append] at hv;rw[List.mem_append]
  rcases hv with ((h | h) | h) | (h | h)
  ·split at h
   ·rename_i ho;exact .inl (hn (.inl ho) (by simpa using h))
   ·cases h
  ·exact .inr (.inl h)
  ·rcases hk (.inl h) with h | h | h
   ·exact .inl h
   ·rcases List.mem_append.1 h with h | h
    ·exact .inl h
    ·exact .inr (.inl h)
   ·exact .inr (.inr h)
  ·split at h
   ·rename_i ho;exact .inl (hn (.inr ho) (by simpa using h))
   ·cases h
  ·rcases hk (.inr h) with h | h | h
   ·exact .inl h
   ·rcases List.mem_append.1 h with h | h
    ·exact .inl h
    ·exact .inr (.inl h)
   ·exact .inr (.inr h)
mutual
def aa.uC (P:Int→Int→Bool):aa→Int→Int
 | .mk op n _ t,deep=>(if P op n=true then 1 else 0) + (if deep < 1000 then aa.Qw P t (deep + 1) else 0)
def aa.Qw (P:Int→Int→Bool):List aa→Int→Int
 | [],_=>0
 | x::xs,deep=>aa.uC P x deep + aa.Qw P xs deep
end
def iL (l:List Int) (v:Int):List Int:=l.takeWhile (fun x=>decide (x < v))++(if (l.dropWhile fun x=>decide (x < v)).head?=some v then l.dropWhile (fun x=>decide (x < v)) else v::l.dropWhile fun x=>decide (x < v))
theorem rq (x:Int) (l:List Int) (v:Int):iL (x::l) v=if x < v then x::iL l v else if x=v then x::l else v::x::l:=by
 unfold iL;by_cases h:x < v
 ·simp[List.takeWhile_cons,List.dropWhile_cons,h]
 ·simp[List.takeWhile_cons,List.dropWhile_cons,h]
theorem vz (v x:Int): ∀ l:List Int,x∈iL l v↔x=v∨x∈l
 | []=>by simp[iL]
 | y::l=>by
  rw[rq]
  split
  ·rw[List.mem_cons,vz v x l,List.mem_cons]
   constructor
   ·rintro (h | h | h)
    ·exact .inr (.inl h)
    ·exact .inl h
    ·exact .inr (.inr h)
   ·rintro (h | h | h)
    ·exact .inr (.inl h)
    ·exact .inl h
    ·exact .inr (.inr h)
  ·split
   ·rename_i e;rw[List.mem_cons,e]
    constructor
    ·rintro (h | h)
     ·exact .inl h
     ·exact .inr (.inr h)
    ·rintro (h | h | h)
     ·exact .inl h
     ·exact .inl h
     ·exact .inr h
   ·rw[List.mem_cons]
theorem Ac (v:Int): ∀ {l:List Int},l.Pairwise (· < ·)→(iL l v).Pairwise (· < ·)
 | [],_=>by simp[iL]
 | y::l,h=>by
  rw[List.pairwise_cons] at h;rw[rq]
  split
  ·rw[List.pairwise_cons]
   refine ⟨fun z hz=>?_,Ac v h.2⟩;rcases (vz v z l).1 hz with rfl | hz
   ·assumption
   ·exact h.1 z hz
  ·split
   ·exact List.pairwise_cons.2 h
   ·rw[List.pairwise_cons]
    refine ⟨fun z hz=>?_,List.pairwise_cons.2 h⟩;rcases List.mem_cons.1 hz with rfl | hz
    ·omega
    ·have:=h.1 z hz;omega
theorem vJ (v:Int): ∀ l:List Int,(iL l v).length≤l.length + 1
 | []=>by simp[iL]
 | y::l=>by
  rw[rq];have:=vJ v l
  split
  ·simp;omega
  ·split<;>simp
mutual
def aa.bD:aa→Int→List Int→List Int
 | .mk _ _ v t,deep,out=>if deep < 1000 then aa.G5 t (deep + 1) (v.foldl iL out) else v.foldl iL out
def aa.G5:List aa→Int→List Int→List Int
 | [],_,out=>out
 | x::xs,deep,out=>aa.G5 xs deep (aa.bD x deep out)
end
theorem aa.Me (t:aa) (deep:Int) (out:List Int):t.bD deep out=if deep < 1000 then aa.G5 t.t (deep + 1) (t.v.foldl iL out) else t.v.foldl iL out:=by cases t;rw[aa.bD];rfl
theorem om: ∀ (v out:List Int),out.Pairwise (· < ·)→(v.foldl iL out).Pairwise (· < ·)
 | [],_,h=>h
 | x::v,out,h=>om v _ (Ac x h)
theorem mX (x:Int): ∀ (v out:List Int),x∈v.foldl iL out↔x∈out∨x∈v
 | [],_=>by simp
 | y::v,out=>by
  rw[List.foldl_cons,mX x v,vz,List.mem_cons];constructor
  ·rintro ((h | h) | h)
   ·exact .inr (.inl h)
   ·exact .inl h
   ·exact .inr (.inr h)
  ·rintro (h | h | h)
   ·exact .inl (.inr h)
   ·exact .inl (.inl h)
   ·exact .inr h
theorem mN: ∀ (v out:List Int),(v.foldl iL out).length≤out.length + v.length
 | [],_=>by simp
 | x::v,out=>by
  rw[List.foldl_cons,List.length_cons];have:=mN v (iL out x);have:=vJ x out;omega
theorem aa.tw (t:aa): ∀ (deep:Int) (out:List Int),out.Pairwise (· < ·)→(t.bD deep out).Pairwise (· < ·)∧(t.bD deep out).length≤out.length + t.aR∧(deep + t.dep < 1000→ ∀ x,x∈t.bD deep out↔x∈out∨x∈t.vars):=by
 induction t using aa.ind with
 | h t ih=>
  intro deep out ho;have hge:=aa.yT t.t 0;have hbe:=t.bE
  have key: ∀ l:List aa,(∀ y∈l, ∀ (deep:Int) (out:List Int),out.Pairwise (· < ·)→(y.bD deep out).Pairwise (· < ·)∧(y.bD deep out).length≤out.length + y.aR∧(deep + y.dep < 1000→ ∀ x,x∈y.bD deep out↔x∈out∨x∈y.vars))→
    ∀ (deep:Int) (out:List Int),out.Pairwise (· < ·)→(aa.G5 l deep out).Pairwise (· < ·)∧(aa.G5 l deep out).length≤out.length + aa.aE l∧((∀ x∈l,deep + x.dep < 1000)→ ∀ x,x∈aa.G5 l deep out↔x∈out∨x∈aa.dW l):=by
   intro l
   induction l with
   | nil=>intro _ deep out ho;rw[aa.G5,aa.dW];exact ⟨ho,by omega,by simp⟩
   | cons x l ihl=>
    intro hy deep out ho;obtain ⟨a1,a2,a3⟩:=hy x (by simp) deep out ho;obtain ⟨b1,b2,b3⟩:=ihl (fun z hz=>hy z (by simp[hz])) deep (x.bD deep out) a1;rw[aa.G5,aa.dW,aa.aE];refine ⟨b1,by omega,fun hd z=>?_⟩;rw[b3 (fun y hz=>hd y (by simp[hz])),a3 (hd x (by simp)),List.mem_append,or_assoc]
  have hf:=om t.v out ho;have hl:=mN t.v out;obtain ⟨b1,b2,b3⟩:=key t.t ih (deep + 1) _ hf;rw[aa.Me]
  split
  ·refine ⟨b1,by omega,fun hd z=>?_⟩
   rw[aa.yS] at hd;have hd2:=(aa.tH (999 - deep) t.t 0).1 (by omega);rw[b3 fun x hx=>by have:=hd2.2 x hx;omega];rw[mX,aa.mh,List.mem_append,or_assoc]
  ·exact ⟨hf,by omega,fun hd=>by rw[aa.yS] at hd;omega⟩
def fD (t:aa):List Int:=ej t.vars
theorem aa.D9 (t:aa) (h:t.dep < 1000):t.bD 0 []=fD t:=by
 obtain ⟨h1,_,h3⟩:=t.tw 0 [] List.Pairwise.nil;exact Df h1 (ua _) fun x=>by rw[h3 (by omega),fD,mY];simp
theorem aa.CA (t:aa) (h:t.dep < 1000):ej (bx t.all)=fD t:=by
 have:=(t.EG [] 0 (by omega)).2;unfold fD bx;exact congrArg ej this
def eU (t:aa):Int:=if fD t= [] then 0 else (fD t).getD ((fD t).length - 1) 0 + 1
def Pu:Prog:=⟨[],.mk 0 0 [] []⟩
def MH (t:aa) (v:Int):Bool:=t.qs.contains v
def Oi (p:Prog):Bool:=iP p 0 == 0
abbrev Pd (r:Qe):PV:=.bp [.agg r.p.cells,.int .i64 r.e]
theorem Shift.IX {x:PV} {Γ Γ':List aj} (g:au Γ Γ'):Shift x Γ x Γ':=fun w0 F M w v hS hx=>by
 obtain ⟨F',e,h⟩:=g w0 F M w hS;exact ⟨F',e,h,aC.mono e _ _ hx⟩
theorem au.Lh (Γ:List aj):au Γ (.row (aB 5 55) (([]:List Datum).map Datum.pv)::Γ):=au.cz _ _ _
theorem Jt (b:Nat) (d:Datum) (hs:d.sz≤100000000) (hp:d.pr=true) (hc:cm d.sz d=true):
  af Tryz.prog 62 [.ptr b 0,.agg d.cells,.agg (mJ [])] (oW b (aB 5 55) ⟨[],0,false⟩)
   (fun y Γ'=> ∃ tk,y=.agg (TF (-1) d.sz d [] ⟨[],0,false⟩).1.cells∧Γ'= [.box b [.sl 5 ((TF (-1) d.sz d [] ⟨[],0,false⟩).2.cs.map Datum.pv) none,.int .i64 (TF (-1) d.sz d [] ⟨[],0,false⟩).2.vars,.bool (TF (-1) d.sz d [] ⟨[],0,false⟩).2.lost],.tok tk]):=
 (sr b d.sz hs d hp (Nat.le_refl _) hc (aB 5 55) [] ⟨[],0,false⟩ rfl rfl (fun p h=>by cases h) (by simp;omega) ⟨by simp,by simp;omega,by simp;omega⟩).2.shift fun y Γ' hq=>by
  obtain ⟨tk',e,s,hy,hΓ⟩:=hq;generalize TF (-1) d.sz d [] ⟨[],0,false⟩=r at *;subst hy hΓ;exact ⟨_,_,Shift.IX (au.cr (t:=tk') (es:=r.2.cs.map Datum.pv) (b:=b) (cs:= [.ms tk',.int .i64 r.2.vars,.bool r.2.lost]) (cs':= [.sl 5 (r.2.cs.map Datum.pv) none,.int .i64 r.2.vars,.bool r.2.lost]) (.cons (qx.ms' s) (.cons (qx.of (Wk.refl _)) (.cons (qx.of (Wk.refl _)) .nil)))),tk',rfl,rfl⟩
theorem CZ {p q:Prop} (k:q) (h:q→p:=by intro hq;first | exact aD.sP (some 22) rfl [6] [7] ai mixed hq):p:=h k
theorem BX (d:Datum) (hs:d.sz≤100000000):aA Tryz.prog 39 [.agg d.cells] (Pd (Gz Oi (-1) d)):=by
 have hC:=He d (by omega) (rA d 0);have hR:Gz Oi (-1) d=Gz Oi (-1) d:=rfl
 conv at hR=>rhs;unfold Gz;dsimp only
 generalize Gz Oi (-1) d=O at *
 cases hc:A3 d with
 | false=>
  rw[hc] at hC;rw[if_pos hc] at hR;rw[hR];refine af.ah ai Tryz.func39 rfl rfl (n:=33) rfl rfl ?_
  conv=>whnf
  repeat' (first|refine aY ?_|((first|refine pC (hC) wR ?_|intro _);conv=>whnf)|(refine zX (fun hc=>?_) (fun hc=>?_)<;>(try simp only[SY] at hc)<;>(conv=>whnf)))
  exact ak.pure wA
 | true=>
  rw[hc] at hC;rw[if_neg (by rw[hc];simp)] at hR;have hcd:=hc;unfold A3 at hcd;rw[Bool.and_eq_true] at hcd;have hp:=rA d 0 hcd.1;have hgo:=Hr (-1) d.sz d hp [] ⟨[],0,false⟩;have hroot:=fun b=>Jt b d hs hp hcd.2;generalize TF (-1) d.sz d [] ⟨[],0,false⟩=r at *;obtain ⟨t,s⟩:=r;dsimp only at hgo hroot hR;have hck:=AR ⟨s.cs,t⟩ 0 (by show t.aR≤_;omega) (by have:=hgo.1.2.2;dsimp only at this ⊢; simp at this;omega);have hok:Oi ⟨s.cs,t⟩=(iP ⟨s.cs,t⟩ 0 == 0):=rfl;generalize iP ⟨s.cs,t⟩ 0=ck at *;refine af.ah ai Tryz.func39 rfl rfl (n:=33) rfl rfl ?_
  conv=>whnf
  repeat' (first|refine aY ?_|((first|refine pC (hC) wR ?_|intro _);conv=>whnf)|(refine zX (fun hc=>?_) (fun hc=>?_)<;>(try simp only[SY] at hc)<;>(conv=>whnf)))
  rename_i b1 b2 b4;refine aq.Of (au.trans (au.Lh _) (au.box (b:=b4) (cs:= [.nil,.int .i64 0,.bfalse]) (cs':= [.ms (aB 5 55),.int .i64 0,.bool false]) (.cons (Wk.cz 5 55) (.cons (Wk.refl _) (.cons (Wk.ff rfl) .nil))))) (hroot b4) (.cons (Wk.refl _) (.cons (Wk.refl _) (.cons (Wk.agg (.cons (Wk.ec rfl) (.cons (Wk.ec rfl) .nil))) .nil))) ?_;rintro _ _ ⟨tk,rfl,rfl⟩
  conv=>whnf
  repeat' (first|refine aY ?_|((first|refine pC (hck) wR ?_|refine CZ ?_|intro _);conv=>whnf)|(refine zX (fun hc=>?_) (fun hc=>?_)<;>(try simp only[SY] at hc)<;>(conv=>whnf)))
  ·rw[if_pos hc] at hR
   rw[hR];exact ak.pure wA
  ·have hl:s.lost=false:= ‹s.lost=false›
   rw[if_neg (by rw[hl];simp),hok,if_pos (by simpa using hc)] at hR;rw[hR];exact ak.pure wA
  ·have hl:s.lost=false:= ‹s.lost=false›
   rw[if_neg (by rw[hl];simp),hok,if_neg (by simp[hc])] at hR;rw[hR];exact ak.pure (Wk.refl _)
def QA (k:Nat) (r:Oa):Prop:=r.2.2= -1→r.1.sz + 1 + 5 * k≤5 * r.2.1
def Qz (k:Nat) (l:List Datum) (e:Datum) (r:(List Datum×Datum)×Nat×Int):Prop:=r.2.2= -1→r.1.1.length + Datum.ef r.1.1 + r.1.2.sz + 5 + 5 * k≤5 * r.2.1 + l.length + Datum.ef l + e.sz
abbrev iB:=List (Int×Nat)
structure Mc where
 v:List Int
 rest:Bool
 body:aa
 env:iB
inductive Vl where
 | mk (k n d:Int) (s:List UInt8) (l:List Vl) (p:Option Mc) (c:Option Nat)
def Vl.k:Vl→Int | .mk k _ _ _ _ _ _=>k
def Vl.n:Vl→Int | .mk _ n _ _ _ _ _=>n
def Vl.d:Vl→Int | .mk _ _ d _ _ _ _=>d
def Vl.s:Vl→List UInt8 | .mk _ _ _ s _ _ _=>s
def Vl.l:Vl→List Vl | .mk _ _ _ _ l _ _=>l
def Vl.p:Vl→Option Mc | .mk _ _ _ _ _ p _=>p
def Vl.c:Vl→Option Nat | .mk _ _ _ _ _ _ c=>c
def cx:iB→PV
 | []=>.np
 | (v,a)::e=>.ep [.int .i64 v,.ptr a 0,cx e]
abbrev Mc.cells (c:Mc):List PV:= [.sl 1 (c.v.map (PV.int .i64)) none,.bool c.rest,.int .i64 c.body.op,.int .i64 c.body.n,.sl 1 (c.body.v.map (PV.int .i64)) none,.sl 4 (c.body.t.map aa.pv) none,cx c.env,.int .i64 (-1),.nil]
def og:Option Mc→PV
 | none=>.np
 | some c=>.ep c.cells
def js:Option Nat→PV
 | none=>.np
 | some a=>.ptr a 0
mutual
def Vl.pv:Vl→PV
 | .mk k n d s l p c=>.agg [.int .i64 k,.int .i64 n,.int .i64 d,.str s,.sl 7 (Vl.EW l) none,og p,js c]
def Vl.EW:List Vl→List PV
 | []=> []
 | x::xs=>Vl.pv x::Vl.EW xs
end
theorem Vl.m5: ∀ l:List Vl,Vl.EW l=l.map Vl.pv
 | []=>rfl
 | x::xs=>by simp only[Vl.EW,List.map_cons,Vl.m5 xs]
def Vl.cells (x:Vl):List PV:= [.int .i64 x.k,.int .i64 x.n,.int .i64 x.d,.str x.s,.sl 7 (x.l.map Vl.pv) none,og x.p,js x.c]
abbrev gM (x:Vl):List PV:= [.int .i64 x.k,.int .i64 x.n,.int .i64 x.d,.str x.s,.sl 7 (x.l.map Vl.pv) none,og x.p,js x.c]
abbrev AQ (x:Vl) (r:Bool):List PV:= [.int .i64 x.k,.int .i64 x.n,.int .i64 x.d,.str x.s,.sl 7 (x.l.map Vl.pv) none,og x.p,js x.c,.bool r]
theorem Vl.gi (x:Vl):x.pv=.agg x.cells:=by
 cases x;simp only[Vl.pv,Vl.cells,Vl.m5,Vl.k,Vl.n,Vl.d,Vl.s,Vl.l,Vl.p,Vl.c]
instance:cn Vl.pv Vl.cells:=⟨fun x=>by rw[Vl.gi];rfl⟩
mutual
theorem Vl.lN {p:Vl→Prop} (h: ∀ x:Vl,(∀ y∈x.l,p y)→p x): ∀ d,p d
 | .mk k n d s l pr c=>h (.mk k n d s l pr c) (Vl.iG h l)
theorem Vl.iG {p:Vl→Prop} (h: ∀ x:Vl,(∀ y∈x.l,p y)→p x): ∀ (l:List Vl), ∀ x∈l,p x
 | []=>by simp
 | y::ys=>List.forall_mem_cons.2 ⟨Vl.lN h y,Vl.iG h ys⟩
end
instance:wO Vl:=⟨.mk 0 0 0 [] [] none none⟩
instance (priority:=high) bV.Qx (t:Vl):bV Vl.pv (Vl.pv t) t:=⟨Wk.refl _,gq.refl _⟩
instance (priority:=high) bV.Qb (t:Vl):bV Vl.pv (.agg t.cells) t:=⟨by rw[Vl.gi];exact Wk.refl _,by rw[Vl.gi];exact gq.refl _⟩
theorem bV.Qp {x:List PV} {t:Vl} (h:gq x t.cells):bV Vl.pv (.agg x) t:=⟨by rw[Vl.gi];exact Wk.agg h,by rw[Vl.gi];exact h⟩
instance (priority:=high) bV.Qc (t:Vl) (tk:Option Tok):bV Vl.pv (.agg [.int .i64 (Vl.k t),.int .i64 (Vl.n t),.int .i64 (Vl.d t),.str (Vl.s t),.sl 7 ((Vl.l t).map Vl.pv) tk,og (Vl.p t),js (Vl.c t)]) t:=
 bV.Qp (.cons (Wk.refl _) (.cons (Wk.refl _) (.cons (Wk.refl _) (.cons (Wk.refl _) (.cons (Wk.tok _ _ _) (.cons (Wk.refl _) (.cons (Wk.refl _) .nil)))))))
class n9 {α:Type} (f:α→PV) (x:PV) (v:outParam α):Prop where
 h:x=f v
instance n9.Ql:n9 og .np none:=⟨rfl⟩
instance n9.Qm:n9 js .np none:=⟨rfl⟩
instance n9.Qs (a:Nat):n9 js (.ptr a 0) (some a):=⟨rfl⟩
instance (priority:=high) n9.same {α:Type} (f:α→PV) (v:α):n9 f (f v) v:=⟨rfl⟩
instance bV.Ry (a b c:Int) (s:List UInt8) (x y z:PV) (l:List Vl) (p:Option Mc) (q:Option Nat) [h:sy Vl.pv 7 x l] [hy:n9 og y p] [hz:n9 js z q]:bV Vl.pv (.agg [.int .i64 a,.int .i64 b,.int .i64 c,.str s,x,y,z]) (.mk a b c s l p q):=
 bV.Qp (.cons (Wk.refl _) (.cons (Wk.refl _) (.cons (Wk.refl _) (.cons (Wk.refl _) (.cons h.wk (.cons (by rw[hy.h];exact Wk.refl _) (.cons (by rw[hz.h];exact Wk.refl _) .nil)))))))
theorem OE.wk {x:PV} {t:Vl} [h:bV Vl.pv x t]:Wk x (.agg t.cells):=by rw[←Vl.gi];exact h.wk
theorem dn {x:PV} {l:List PV} {K:List PV→Prop} (hx:qe x=x) (h:r8 l fun r=>K (x::r)):r8 (x::l) K:=by
 rw[vC] at h ⊢;rw[List.map_cons,hx];exact h
theorem nC {p:Option Mc}:qe (og p)=og p:=by cases p<;>rfl
theorem nD {c:Option Nat}:qe (js c)=js c:=by cases c<;>rfl
abbrev dz:Vl:=.mk 0 0 0 [] [] none none
abbrev fG (k:Int):Vl:=.mk k 0 0 [] [] none none
mutual
def Pp:Datum→Vl
 | .mk k n d s l=>.mk k n d s (MA l) none none
def MA:List Datum→List Vl
 | []=> []
 | x::xs=>Pp x::MA xs
end
def De (l:List Vl):Vl:=l.foldr (fun x r=>.mk 6 0 0 [] [x,r] none none) (fG 4)
abbrev Hp:=List (Nat×Vl×Bool)
def Cn (h:Hp):List aj:=h.map fun c=>.box c.1 (AQ c.2.1 c.2.2)
def qI:iB→Int→Option Nat
 | [],_=>none
 | (x,a)::e,v=>if x=v then some a else qI e v
structure kH where
 fuel:Int
 out:List UInt8
 alive:List Bool
 to:Int
 val:Vl
 h:Hp
abbrev PY (K:List Vl) (t:Tok) (s:kH):List PV:= [.sl 7 (K.map Vl.pv) none,.nil,.int .i64 s.fuel,.str s.out,.ms t,.int .i64 s.to,.int .i64 s.val.k,.int .i64 s.val.n,.int .i64 s.val.d,.str s.val.s,.sl 7 (s.val.l.map Vl.pv) none,og s.val.p,js s.val.c]
abbrev eC (b:Nat) (K:List Vl) (t:Tok) (s:kH):List aj:=.box b (PY K t s)::.row t (s.alive.map PV.bool)::Cn s.h
theorem Cz (e:iB) (v:Int) (x:Vl) (r:Bool):af Tryz.prog 170 [cx e,.int .i64 v,.agg x.cells,.bool r] [] (fun y Γ'=> ∃ a,y=cx ((v,a)::e)∧Γ'= [.box a (AQ x r)]):=by
 rcases e with _ | ⟨⟨w,c⟩,e⟩
 all_goals
  refine af.ah ai Tryz.func170 rfl rfl (n:=17) rfl rfl ?_
  conv=>whnf
  repeat' (first|refine aY ?_|((intro _);conv=>whnf)|(refine zX (fun hc=>?_) (fun hc=>?_)<;>(try simp only[SY] at hc)<;>omega))
  rename_i b1 b2 b3;exact ak.freeze (b:=b3) (Γ':= [.box b2 (AQ x r)]) (Wk.refl _) ⟨b2,rfl,rfl⟩
theorem z8 (e:iB) (v:Int) (a:Nat) (h:qI e v=some a):aA Tryz.prog 125 [cx e,.int .i64 v] (.ptr a 0):=by
 refine af.ah ai Tryz.func125 rfl rfl (n:=28) rfl rfl ?_
 conv=>whnf
 skip
 refine ax.keep [0,5,6,7,8,9,10,11,12,13,14,15,16,17,18] (fun x:iB=> [(0,cx x)]) (fun x=>qI x v=some a) (fun x=>x.length) e h wA ?_;intro x hx
 rcases x with _ | ⟨⟨w,c⟩,x⟩
 ·cases hx
 rw[qI] at hx
 conv=>whnf
 repeat' (first|refine aY ?_|(refine zX (fun hc=>?_) (fun hc=>?_)<;>(try simp only[SY] at hc)<;>(conv=>whnf)))
 ·rw[if_neg hc] at hx
  exact av x hx (by show x.length < x.length + 1;omega) wA
 ·rw[if_pos hc] at hx
  obtain rfl:=Option.some.inj hx;exact ak.pure (Wk.refl _)
theorem I3 {a b:Vl}:gq [.int .i64 6,.int .i64 0,.int .i64 0,.str [],.sl 7 [.agg a.cells,.agg b.cells] none,.np,.np] (Vl.mk 6 0 0 [] [a,b] none none).cells:=
 .cons (Wk.refl _) (.cons (Wk.refl _) (.cons (Wk.refl _) (.cons (Wk.refl _) (.cons (sy.wk (f:=Vl.pv) (l:= [a,b])) (.cons (Wk.refl _) (.cons (Wk.refl _) .nil))))))
theorem Ey {k:Int}:gq [.int .i64 k,.int .i64 0,.int .i64 0,.str [],.nil,.np,.np] (fG k).cells:=.cons (Wk.refl _) (.cons (Wk.refl _) (.cons (Wk.refl _) (.cons (Wk.refl _) (.cons (Wk.ec rfl) (.cons (Wk.refl _) (.cons (Wk.refl _) .nil))))))
theorem FF {p q:Prop} (k:q) (h:q→p:=by intro hq;first | exact aD.sP (some 13) rfl [] [7] ai mixed hq):p:=h k
theorem KZ (l:List Vl):aA Tryz.prog 236 [.sl 7 (l.map Vl.pv) none] (.agg (De l).cells):=by
 refine af.ah ai Tryz.func236 rfl rfl (n:=21) rfl rfl ?_
 conv=>whnf
 repeat' (first|refine aY ?_|((intro _);conv=>whnf)|(refine zX (fun hc=>?_) (fun hc=>?_)<;>(try simp only[SY] at hc)<;>omega))
 rename_i b2 b3 hl;refine ax.gh (au.box (b:=b3) (cs:= [.int .i64 4,.int .i64 0,.int .i64 0,.str [],.nil,.np,.np]) (cs':=gM (fG 4)) Ey) ?_;refine ax.over [4,9,10,11,12,13,14,15,16,17,18,19] (fun x:Nat×Vl=> [(4,.int .i64 ((x.1:Int) - 1))]) (fun x:Nat×Vl=> [.box b2 [.int .i64 0,.int .i64 0,.int .i64 0,.str [],.nil,.np,.np],.box b3 (gM x.2)]) (fun x=>x.1≤l.length∧x.2=De (l.drop x.1)) (fun x=>x.1) (l.length,fG 4) ⟨Nat.le_refl _,by rw[List.drop_of_length_le (Nat.le_refl _)];rfl⟩ wA ?_;rintro ⟨i,D⟩ ⟨hi,hD⟩;dsimp only at hi hD⊢
 conv=>whnf
 repeat' (first|refine aY ?_|((first|refine dn nC ?_|refine dn nD ?_|refine FF ?_);conv=>whnf)|(refine zX (fun hc=>?_) (fun hc=>?_)<;>(try simp only[SY] at hc)<;>(conv=>whnf)))
 ·have h1:i - 1 < l.length:=by omega
  have e:l.drop (i - 1)=l[i - 1]::l.drop i:=by rw[aJ h1,show i - 1 + 1=i by omega]
  refine jo.gh (i - 1,.mk 6 0 0 [] [l[i - 1],D] none none) ⟨by show i - 1≤_;omega,by show _=De (l.drop (i - 1));rw[e,hD];rfl⟩ (by show i - 1 < i;omega) wA ?_;refine au.trans (au.box (b:=b3) (cs:= [.int .i64 6,.int .i64 0,.int .i64 0,.str [],.sl 7 [.agg (gM l[i - 1]),.agg (gM D)] none,.np,.np]) (cs':=gM (Vl.mk 6 0 0 [] [l[i - 1],D] none none)) I3) ?_;exact au.pick
 ·have e:D=De l:=by rw[hD,show i=0 by omega];rfl
  rw[←e];exact ak.pure (Wk.refl _)
def MV:Nat→Nat→List UInt8
 | 0,_=> []
 | f + 1,n=>if n < 10 then [(48 + n).toUInt8] else MV f (n / 10)++ [(48 + n % 10).toUInt8]
def P0 (n d:Int):List UInt8:=if cB n d=false then [] else (if n < 0 then [45] else [])++MV 10 n.natAbs++(if d=1 then [] else 47::MV 10 d.natAbs)
abbrev P4:List UInt8:= [35,60,112,114,111,99,101,100,117,114,101,62]
mutual
def wV (tail:Bool):Vl→List UInt8→List UInt8
 | .mk k n d s l _ _,out=>
  let core:=fun (out:List UInt8)=>
   if 1000≤out.length then out else
   if k=0 then out++P0 n d else
   if k=1 then out++(if bitsOf .and .i64 n 1=0 then [35,102] else [35,116]) else
   if k=2 then out++s else
   if k=3 then out++ [34]++s++ [34] else
   if k=4 then out++ [40,41] else
   if k=5 then out++ [35,118] else
   if k=11 then out++ [35,60,98,111,120,62] else
   if k=12 then out++ [35,60,117,110,115,101,116,62] else
   if k=8∨k=9∨k=10 then out++P4 else
   if k=7 then wL true l (out++ [35,40])++ [41] else wP l (out++ [40])
  if tail=false then core out else
  if k=6∧out.length < 1000 then wP l (out++ [32]) else
  if k=4 then out++ [41] else core (out++ [32,46,32])++ [41]
def wL (first:Bool):List Vl→List UInt8→List UInt8
 | [],out=>out
 | x::xs,out=>if 1000≤out.length then out else wL false xs (wV false x (if first=true then out else out++ [32]))
def wP:List Vl→List UInt8→List UInt8
 | [a,b],out=>wV true b (wV false a out)
 | _,out=>out
end
def Qa (x:Vl):List UInt8:=(wV false x []).take 1000
mutual
def Vl.tx:Vl→Bool
 | .mk k _ _ s l _ _=>decide (0≤k∧k≤12) && (k !=6 || l.length == 2) && decide (s.length≤1000000000) && Vl.Qv l
def Vl.Qv:List Vl→Bool
 | []=>true
 | x::xs=>Vl.tx x && Vl.Qv xs
end
mutual
def Vl.sz:Vl→Nat
 | .mk _ _ _ _ l _ _=>1 + Vl.ef l
def Vl.ef:List Vl→Nat
 | []=>0
 | x::xs=>Vl.sz x + Vl.ef xs
end
def OF (n d m e:Int):Int×Int×Int:=if (cB n d && cB m e)=false then (0,0,3) else j9 (n * e + m * d) (d * e)
def P9 (n d m e:Int):Int×Int×Int:=if (cB n d && cB m e)=false then (0,0,3) else OF n d (0 - m) e
def Np (n d m e:Int):Int×Int×Int:=if (cB n d && cB m e)=false then (0,0,3) else
 j9 (n.tdiv (Nat.gcd n.natAbs e.natAbs:Nat) * m.tdiv (Nat.gcd m.natAbs d.natAbs:Nat)) (d.tdiv (Nat.gcd m.natAbs d.natAbs:Nat) * e.tdiv (Nat.gcd n.natAbs e.natAbs:Nat))
def PI (n d m e:Int):Int×Int×Int:=if (cB n d && cB m e)=false then (0,0,3) else
 if m=0 then (0,0,4) else if m < 0 then Np n d (0 - e) (0 - m) else Np n d e m
def O2 (n d m e:Int):Bool:=cB n d && (cB m e && decide (n * e < m * d))
def Pw (n:Int) (a b:Int×Int):Int×Int×Int:=if n=0 then OF a.1 a.2 b.1 b.2 else if n=1 then P9 a.1 a.2 b.1 b.2 else if n=2 then Np a.1 a.2 b.1 b.2 else PI a.1 a.2 b.1 b.2
abbrev Gq (a:Int×Int):Datum:=.mk 0 a.1 a.2 [] []
def JV (n:Int):List Datum→Int×Int→Datum×Int
 | [],a=>(Gq a,0)
 | x::l,a=>if (Pw n a (x.n,x.d)).2.2≠0 then (Gq (0,0),(Pw n a (x.n,x.d)).2.2) else JV n l ((Pw n a (x.n,x.d)).1,(Pw n a (x.n,x.d)).2.1)
def O4 (l:List Datum):Bool:=l.all fun x=>x.kind == 0
def Po (n:Int) (l:List Datum):Datum×Int:=
 if O4 l=false then (Gq (0,0),1) else
 if (n=1∨n=3)∧1 < l.length then JV n (l.drop 1) ((l.getD 0 aK).n,(l.getD 0 aK).d) else
 JV n l (if 2≤n then (1,1) else (0,1))
set_option maxHeartbeats 8000000
instance:fP 4 4:=⟨rfl⟩
instance:fP 5 5:=⟨rfl⟩
instance:fP 6 6:=⟨rfl⟩
def L0 (b:Bool):Datum:=.mk 1 (if b=true then 1 else 0) 0 [] []
def PX (n:Int):Int:= [4,6,0,2,1,3,7].getD (n - 9).toNat (-1)
def OO (n:Int) (l:List Datum):Datum×Int:=
 if n < 4 then Po n l else
 if n=4∨n=5 then (if ¬(l.getD 0 aK).kind=0∨ ¬(l.getD 1 aK).kind=0 then (Gq (0,0),1) else if n=4 then (L0 ((l.getD 0 aK).AE (l.getD 1 aK)),0) else (L0 (O2 (l.getD 0 aK).n (l.getD 0 aK).d (l.getD 1 aK).n (l.getD 1 aK).d),0)) else
 if n=8 then (L0 ((l.getD 0 aK).kind == 1 && (l.getD 0 aK).n == 0),0) else
 if n=25 then (.mk 5 0 0 [] [],0) else (L0 ((l.getD 0 aK).kind == PX n),0)
def N1 (n:Int) (k:Nat):Bool:=decide (0≤n∧n < 31) && (decide ((fR n).least≤k) && (decide ((fR n).most < 0) || decide ((k:Int)≤(fR n).most)))
def Mk (n:Int) (l:List Datum):Datum×Int:=if l.all (fun d=>d.bJ 0)=false then (Gq (0,0),0) else if N1 n l.length=false then (Gq (0,0),2) else OO n l
set_option maxHeartbeats 4000000
def Q0 (a b:Vl):Bool:=a.k == b.k && decide (a.k≤5) && a.k !=3 && a.n == b.n && a.d == b.d && a.s == b.s
def L4 (b:Bool):Vl:=.mk 1 (if b=true then 1 else 0) 0 [] [] none none
mutual
def H8:Vl→Vl→Int→Bool×Int
 | .mk k n d s l _ _,b,left=>if left - 1 < 0∨ ¬k=b.k∨7 < k∨ ¬n=b.n∨ ¬d=b.d∨ ¬s=b.s∨ ¬l.length=b.l.length then (false,left - 1) else Mg l b.l (left - 1)
def Mg:List Vl→List Vl→Int→Bool×Int
 | x::xs,y::ys,left=>if (H8 x y left).1=false then (false,(H8 x y left).2) else Mg xs ys (H8 x y left).2
 | _,_,left=>(true,left)
end
mutual
def Vl.an:Vl→List Vl×Vl
 | .mk k n d s l p c=>if k=6 then Vl.Ir l else ([],.mk k n d s l p c)
def Vl.Ir:List Vl→List Vl×Vl
 | [a,b]=>(a::b.an.1,b.an.2)
 | _=>([],dz)
end
theorem Vl.lP (x:Vl) (h: ¬x.k=6):x.an=([],x):=by
 cases x with
 | mk k n d s l p c=>
  have h': ¬k=6:=h;rw[Vl.an,if_neg h']
theorem Vl.jA (x:Vl) (h:x.k=6) (h2:x.l.length=2):x.an=((x.l[0]'(by omega))::(x.l[1]'(by omega)).an.1,(x.l[1]'(by omega)).an.2):=by
 cases x with
 | mk k n d s l p c=>
  have h':k=6:=h;rw[Vl.an,if_pos h']
  match l,h2 with
  | [a,b],_=>rw[Vl.Ir];rfl
abbrev P8 (r:Vl×Int):PV:=.bp [.agg (gM r.1),.int .i64 r.2]
abbrev O3 (n:Int):Vl:=.mk 0 n 1 [] [] none none
def Pa (n:Int) (l:List Vl):Vl×Int:=
 let a:=l.getD 0 dz
 let b:=l.getD 1 dz
 if n=18∨n=19 then (if ¬a.k=6 then (dz,1) else (a.l.getD (n - 18).toNat dz,0)) else
 if n=22 then (if ¬a.k=7∨ ¬b.k=0 then (dz,1) else if ¬b.d=1∨b.n < 0∨(a.l.length:Int)≤b.n then (dz,3) else (a.l.getD b.n.toNat dz,0)) else
 if n=23 then (if ¬a.k=7 then (dz,1) else (O3 a.l.length,0)) else
 if a.an.2.k=4 then (O3 a.an.1.length,0) else (dz,1)
set_option maxHeartbeats 8000000
def Pm (x:Vl):Datum:=if x.k≤5 then .mk x.k x.n x.d x.s [] else if x.k=6 then gJ [aK] else .mk 7 0 0 [] []
def NW (n:Int) (l:List Vl):Vl×Int×List UInt8:=
 let a:=l.getD 0 dz
 let b:=l.getD 1 dz
 if n=6 then (L4 (Q0 a b),0, []) else
 if n=7 then (if (H8 a b 1000).2 < 0 then (dz,3, []) else (L4 (H8 a b 1000).1,0, [])) else
 if n=16 then (L4 (decide (8≤a.k) && decide (a.k≤10)),0, []) else
 if n=17 then (.mk 6 0 0 [] l none none,0, []) else
 if n=20 then (De l,0, []) else
 if n=21 then (.mk 7 0 0 [] l none none,0, []) else
 if n=26 then (fG 5,0,Qa a) else
 if n=27 then (fG 5,0, [10]) else
 if n=18∨n=19∨n=22∨n=23∨n=24 then ((Pa n l).1,(Pa n l).2, []) else
 if n=15∧l.any (fun x=>decide (7 < x.k))=true then (L4 false,0, []) else
 (Pp (Mk n (l.map Pm)).1,(Mk n (l.map Pm)).2, [])
abbrev P3 (s:kH) (w:List UInt8):kH:=⟨s.fuel,s.out++w,s.alive,s.to,s.val,s.h⟩
theorem o8.res {x:PV} {v:Vl} {c:Int} [h:bV Vl.pv x v]:Wk (.bp [x,.int .i64 c]) (P8 (v,c)):=Wk.bp (.cons OE.wk (.cons (Wk.refl _) .nil))
set_option maxHeartbeats 4000000
instance (priority:=low) bu.Qr (e:aj) (Γ D r:List aj) [h:bu Γ D r]:bu (e::Γ) D (e::r):=⟨(h.p.cons e).trans List.perm_middle.symm⟩
def Fh (b:Nat) (cs:List PV) (x y:PV):Prop:= ∀ F v,(∀ o u,aC F (.ptr b o) u→aC F (.ep (cs.drop o)) u)→aC F x v→aC F y v
inductive uk (b:Nat) (cs:List PV):List PV→List PV→Prop
 | nil:uk b cs [] []
 | cons {x y:PV} {xs ys:List PV}:Fh b cs x y→uk b cs xs ys→uk b cs (x::xs) (y::ys)
theorem Fh.of {b:Nat} {cs:List PV} {x y:PV} (h:Wk x y):Fh b cs x y:=fun F v _ r=>h F v r
theorem Fh.ep {b:Nat} {cs:List PV}:Fh b cs (.ptr b 0) (.ep cs):=fun _ v h r=>h 0 v r
theorem uk.rep {b:Nat} {cs:List PV} {F:Fz} (hF: ∀ o u,aC F (.ptr b o) u→aC F (.ep (cs.drop o)) u): ∀ {xs ys:List PV} {vs:List Value},uk b cs xs ys→ay F xs vs→ay F ys vs
 | _,_, [],.nil,h=>h
 | _,_,_::_,.nil,h=>h
 | _,_, [],.cons _ _,h=>by simp only[ay] at h
 | _,_,v::vs,.cons h1 h2,h=>by
  simp only[ay] at h ⊢;exact ⟨h1 _ _ hF h.1,uk.rep hF h2 h.2⟩
theorem uk.oS {b:Nat} {cs:List PV} {F:Fz} (hF: ∀ o u,aC F (.ptr b o) u→aC F (.ep (cs.drop o)) u): ∀ {xs ys:List PV} {vs:List Value},uk b cs xs ys→aQ F xs vs→aQ F ys vs
 | _,_, [],.nil,h=>h
 | _,_,_::_,.nil,h=>h
 | _,_, [],.cons _ _,h=>by simp only[aQ] at h
 | _,_,v::vs,.cons h1 h2,h=>by
  simp only[aQ] at h ⊢;exact ⟨⟨h.1.1,h1 _ _ hF h.1.2⟩,uk.oS hF h2 h.2⟩
theorem Fh.agg {b:Nat} {cs xs ys:List PV} (h:uk b cs xs ys):Fh b cs (.agg xs) (.agg ys):=fun F v hF r=>by
 simp only[aC] at r ⊢;obtain ⟨vs,h1,h2⟩:=r;exact ⟨vs,h1,h.oS hF h2⟩
theorem Fh.bp {b:Nat} {cs xs ys:List PV} (h:uk b cs xs ys):Fh b cs (.bp xs) (.bp ys):=fun F v hF r=>by
 simp only[aC] at r ⊢;obtain ⟨vs,h1,h2⟩:=r;exact ⟨vs,h1,h.rep hF h2⟩
theorem ak.PU {b:Nat} {cs:List PV} {x y:PV} {Γ Γ1 Γ' Γ2:List aj} {Q:PV→List aj→Prop} [hp:iD Γ (.box b cs) Γ1] [hq:bu Γ1 Γ' Γ2] (h:Fh b cs x y) (q:Q y Γ'):ak x Γ Q:=
 ⟨y,Γ',Shift.trans (Γ':=Γ1) (y:=y) (fun w0 F M w v hS hx=>by
  have hS':=hS.perm (hp.p.append_right M);obtain ⟨F',h1,h2,h3⟩:=aP.freeze (M:=Γ1++M) (by simpa using hS');refine ⟨F',h1,h2,h F' v (fun o u hu=>?_) (aC.mono h1 _ _ hx)⟩;simp only[aC] at hu⊢
  exact ⟨b,o,hu,h3 o⟩) (Shift.wk (Wk.refl _) hq.p),q⟩
theorem aq.Ig {P:Program} {f:FuncId} {args args':List PV} {Γ Γ1 Γ2:List aj} {Q K:PV→List aj→Prop} (h:af P f args' Γ1 Q) (hw:aX args args') [hp:bu Γ Γ1 Γ2]
  (k: ∀ y Γ1',Q y Γ1'→kA Γ2 Γ1' fun Γ'=>K y Γ'):aq P f args Γ K:=by
 refine ⟨.inl (((h.wk hw).frame hp.p).shift ?_)⟩;rintro y Γ' ⟨Γ1',rfl,hq⟩;have:=k y Γ1' hq;rw[eZ] at this;exact ⟨y,Γ2++Γ1',Shift.wk (Wk.refl _) (Γ1:= []) (by rw[List.append_nil];exact List.perm_append_comm),this⟩
theorem OH {Γ:List aj} {K:List aj→Prop} (h:K Γ):kA Γ [] K:=by rw[eZ,List.append_nil];exact h
abbrev bB (s:kH):kH:=⟨s.fuel - 1,s.out,s.alive,s.to,s.val,s.h⟩
section
variable (b:Nat) (K:List Vl) (tk:Tok) (s:kH) (t:aa) (e:iB)
theorem FG {p q:Prop} (k:q) (h:q→p:=by intro hq;first | exact aD.sP (some 32) rfl [] [8,9] ai mixed hq | exact aD.sP (some 73) rfl [] [11,12,13,14] ai mixed hq):p:=h k
theorem KL (h0:0 < s.fuel∧s.fuel≤1000000) (ho:t.op=4) (hl:t.t.length=1):
  af Tryz.prog 70 [.ptr b 0,.agg t.cells,cx e,.nil] (eC b K tk s) (fun y Γ'=>y=.bp [.agg (gM (.mk 8 0 0 [] [] (some ⟨t.v,t.n == 1,t.t[0],e⟩) none)),.int .i64 0]∧Γ'=eC b K tk (bB s)):=by
 rcases e with _ | ⟨⟨w,c⟩,e⟩
 all_goals
  refine af.ah ai Tryz.func70 rfl rfl (n:=181) rfl rfl ?_
  conv=>whnf
  repeat' (first|refine aY ?_|((first|refine FG ?_|intro _);conv=>whnf)|(refine zX (fun hc=>?_) (fun hc=>?_)<;>(try simp only[SY] at hc)<;>first|omega|(conv=>whnf)))
  rename_i b3 b2 b1;exact ak.PU (b:=b1) (y:=.bp [.agg (gM (.mk 8 0 0 [] [] (some ⟨t.v,t.n == 1,t.t[0],_⟩) none)),.int .i64 0]) (Γ':=eC b K tk (bB s)) (Fh.bp (.cons (Fh.agg (.cons (.of (Wk.refl _)) (.cons (.of (Wk.refl _)) (.cons (.of (Wk.refl _)) (.cons (.of (Wk.refl _)) (.cons (.of (Wk.ec rfl)) (.cons Fh.ep (.cons (.of (Wk.refl _)) .nil)))))))) (.cons (.of (Wk.refl _)) .nil))) ⟨rfl,rfl⟩
end
end Go.Cb


