/-
 Contracts: the document's machine: a procedure is called; a call; a program runs.
 Plain: what the document's machine does, as a relation; addresses as they come.
 Contracts: the document's machine: strict terms.
 Contracts: the document's machine: calls.
 Contracts: the document's machine: primitives called, escapes.
 Contracts: the document's machine: terms one after the other, terms.
 Contracts: the document's machine: bindings.
 Contracts: the document's machine: Rec and Fix.
 Plain: which things lead to which; groups of things that lead to one another.
 Plain: recursive bindings made of plain ones, as a function.
 A scope that the run jumps back into: what holds at each jump, and a measure.
 Contracts: package slices: Clone, ContainsFunc, Backward, of numbers.
 Contracts: recursive bindings: what is assigned; terms rebuilt; asked.
 Plain: groups are a partition.
 Contracts: graphs: what is wrong with one.
 Contracts: graphs: what things lead to, as a set.
 Contracts: graphs: what things lead to, in order.
 Contracts: recursive bindings: the items of a Rec, what they lead to.
 Contracts: recursive bindings: the items of a Rec.
 Contracts: graphs: whether a group is ready.
 Contracts: graphs: groups.
 Contracts: recursive bindings: the links of a chain.
-/
import Derived.Test.YtamlcgkjinbnlaaGreatDoorE6
set_option linter.unusedSimpArgs false
set_option linter.unusedVariables false
namespace Go.Cb
open Go.Proofs
set_option maxRecDepth 100000
set_option maxHeartbeats 4000000
def hY:iB→List Int→List Nat→iB
 | e,v::vs,a::az=>hY ((v,a)::e) vs az
 | e,_,_=>e
def za:Hp→List Vl→List Nat→Hp
 | h,x::xs,a::az=>za ((a,x,false)::h) xs az
 | h,_,_=>h
theorem nH: ∀ (e:iB) (vs:List Int) (az:List Nat) (v:Int) (a:Nat),vs.length=az.length→hY e (vs++ [v]) (az++ [a])=(v,a)::hY e vs az
 | _, [], [],_,_,_=>rfl
 | e,w::vs,c::az,v,a,h=>by
  rw[List.cons_append,List.cons_append,hY,nH _ vs az v a (by simpa using h),hY]
 | _, [],_::_,_,_,h=>by simp at h
 | _,_::_, [],_,_,h=>by simp at h
theorem u0: ∀ (e:Hp) (vs:List Vl) (az:List Nat) (v:Vl) (a:Nat),vs.length=az.length→za e (vs++ [v]) (az++ [a])=(a,v,false)::za e vs az
 | _, [], [],_,_,_=>rfl
 | e,w::vs,c::az,v,a,h=>by
  rw[List.cons_append,List.cons_append,za,u0 _ vs az v a (by simpa using h),za]
 | _, [],_::_,_,_,h=>by simp at h
 | _,_::_, [],_,_,h=>by simp at h
abbrev gw (s:kH) (h:Hp):kH:=⟨s.fuel,s.out,s.alive,s.to,s.val,h⟩
section
variable (b:Nat) (K:List Vl) (tk:Tok) (s:kH)
end
theorem aq.PW {P:Program} {f:FuncId} {args args':List PV} {Γ Γ0 Γ1 Γ2:List aj} {Q K:PV→List aj→Prop} (hg:au Γ Γ0) (h:af P f args' Γ1 Q) (hw:aX args args') [hp:bu Γ0 Γ1 Γ2]
  (k: ∀ y Γ1',Q y Γ1'→kA Γ2 Γ1' fun Γ'=>K y Γ'):aq P f args Γ K:=
 aq.ghost hg (((h.wk hw).frame hp.p).shift fun y Γ' ⟨Γ1',e,hq⟩=>by
  have:=k y Γ1' hq;rw[eZ] at this;rw[e]
  exact ⟨y,Γ2++Γ1',Shift.wk (Wk.refl _) (Γ1:= []) (by rw[List.append_nil];exact List.perm_append_comm),this⟩)
theorem au.Lg (Γ:List aj):au Γ (.row (aB 1 4) (([]:List Bool).map PV.bool)::Γ):=au.cz _ _ _
abbrev IN (fuel:Int):kH:=⟨fuel, [], [],0,dz, []⟩
def e9:Hp→Nat→Option (Vl×Bool)
 | [],_=>none
 | c::h,a=>if c.1=a then some c.2 else e9 h a
def hput:Hp→Nat→Vl→Hp
 | [],_,_=> []
 | c::h,a,x=>if c.1=a then (c.1,x,c.2.2)::h else c::hput h a x
theorem uZ: ∀ {h:Hp} {a:Nat} {x:Vl} {r:Bool},e9 h a=some (x,r)→ ∃ h1 h2,h=h1++(a,x,r)::h2∧ ∀ y,hput h a y=h1++(a,y,r)::h2
 | (b,y,q)::h,a,x,r,he=>by
  rw[e9] at he;by_cases hb:b=a
  ·rw[if_pos hb] at he
   subst hb;obtain ⟨rfl,rfl⟩:=Prod.mk.inj (Option.some.inj he);exact ⟨[],h,rfl,fun z=>by rw[hput,if_pos rfl];rfl⟩
  ·rw[if_neg hb] at he
   obtain ⟨h1,h2,e1,e2⟩:=uZ he;exact ⟨(b,y,q)::h1,h2,by rw[e1];rfl,fun z=>by rw[hput,if_neg hb,e2];rfl⟩
def Ep:Hp→Bool→List Nat→Hp
 | h,_, []=>h
 | h,r,a::az=>Ep ((a,fG 12,r)::h) r az
def GU (s:kH) (e:iB) (v:Int) (x:Vl):kH:=match qI e v with
 | none=>s
 | some a=>gw s (hput s.h a x)
def vY (s:kH) (e:iB):List Int→List Vl→kH
 | v::vs,x::xs=>vY (GU s e v x) e vs xs
 | _,_=>s
def vV (l:List Vl) (k:Nat) (rest:Bool):Option (List Vl):=
 if rest=true∧k≤l.length + 1 then some (l.take (k - 1)++ [De (l.drop (k - 1))]) else
 if rest=false∧l.length=k then some l else none
inductive Jd where
 | ev (t:aa) (e:iB)
 | go (t:aa) (e:iB)
 | all (l:List aa) (e:iB)
 | rc (now:Bool) (v:List Int) (l:List aa) (e:iB)
 | str (t:aa) (l:List Vl) (e:iB)
 | call (f:Vl) (l:List Vl)
 | Ab (n:Int) (l:List Vl)
def Qk (h:Hp):Prop:=(h.map fun c=>c.1).Nodup
abbrev OP (id:Nat):Vl:=.mk 10 id 0 [] [] none none
inductive Ev (K:List Vl):Jd→kH→List Vl→Int→kH→Prop
 | Re {t e s}:s.fuel≤0→Ev K (.ev t e) s [dz] 8 s
 | ev {t e s v c s'}:0 < s.fuel→Qk s.h→Ev K (.go t e) (bB s) [v] c s'→Ev K (.ev t e) s [v] c s'
 | Rb {t e s x}:t.op=0→K[t.n.toNat]?=some x→Ev K (.go t e) s [x] 0 s
 | ref {t e s a x r}:t.op=1→qI e t.n=some a→e9 s.h a=some (x,r)→ ¬(r=true∧x.k=12)→Ev K (.go t e) s [x] 0 s
 | Q7 {t e s a x}:t.op=1→qI e t.n=some a→e9 s.h a=some (x,true)→x.k=12→Ev K (.go t e) s [dz] 5 s
 | prf {t e s}:t.op=11→Ev K (.go t e) s [.mk 9 t.n 0 [] [] none none] 0 s
 | Rw {t e s}:t.op=13→Ev K (.go t e) s [fG 12] 0 s
 | lam {t e s b}:t.op=4→t.t= [b]→Ev K (.go t e) s [.mk 8 0 0 [] [] (some ⟨t.v,t.n == 1,b,e⟩) none] 0 s
 | Rj {t e s a b d v c s1}:t.op=3→t.t= [a,b,d]→Ev K (.ev a e) s [v] c s1→c≠0→Ev K (.go t e) s [dz] c s1
 | Rk {t e s a b d x s1 v c s'}:t.op=3→t.t= [a,b,d]→Ev K (.ev a e) s [x] 0 s1→x.k=1∧x.n=0→Ev K (.ev d e) s1 [v] c s'→Ev K (.go t e) s [v] c s'
 | Rl {t e s a b d x s1 v c s'}:t.op=3→t.t= [a,b,d]→Ev K (.ev a e) s [x] 0 s1→ ¬(x.k=1∧x.n=0)→Ev K (.ev b e) s1 [v] c s'→Ev K (.go t e) s [v] c s'
 | Ro {t e s l b vs c s1}:t.op=8→t.t=l++ [b]→l.length=t.v.length→Ev K (.all l e) s vs c s1→c≠0→Ev K (.go t e) s [dz] c s1
 | Rn {t e s l b vs s1 az v c s'}:t.op=8→t.t=l++ [b]→l.length=t.v.length→Ev K (.all l e) s vs 0 s1→az.length=t.v.length→Ev K (.ev b (hY e t.v az)) (gw s1 (za s1.h vs az)) [v] c s'→Ev K (.go t e) s [v] c s'
 | Rh {t e s l b az vs c s1}:t.op=7∨t.op=9→t.t=l++ [b]→l.length=t.v.length→az.length=t.v.length→Ev K (.rc (t.op == 9 || t.n == 1) t.v l (hY e t.v az)) (gw s (Ep s.h (t.op == 7) az)) vs c s1→c≠0→Ev K (.go t e) s [dz] c s1
 | Rf {t e s l b az vs s1 v c s'}:t.op=7∨t.op=9→t.t=l++ [b]→l.length=t.v.length→az.length=t.v.length→Ev K (.rc (t.op == 9 || t.n == 1) t.v l (hY e t.v az)) (gw s (Ep s.h (t.op == 7) az)) vs 0 s1→
   Ev K (.ev b (hY e t.v az)) (if t.op=7∧t.n=0 then vY s1 (hY e t.v az) t.v vs else s1) [v] c s'→Ev K (.go t e) s [v] c s'
 | Ru {t e s vs c s1}:t.op=2∨t.op=5∨t.op=6∨t.op=10∨t.op=12∨(14≤t.op∧t.op≤18)→Ev K (.all t.t e) s vs c s1→c≠0→Ev K (.go t e) s [dz] c s1
 | st {t e s vs s1 v c s'}:t.op=2∨t.op=5∨t.op=6∨t.op=10∨t.op=12∨(14≤t.op∧t.op≤18)→Ev K (.all t.t e) s vs 0 s1→Ev K (.str t vs e) s1 [v] c s'→Ev K (.go t e) s [v] c s'
 | QD {e s}:Ev K (.all [] e) s [] 0 s
 | QC {t l e s v c s1}:Ev K (.ev t e) s [v] c s1→c≠0→Ev K (.all (t::l) e) s [] c s1
 | QB {t l e s x s1 xs s2}:Ev K (.ev t e) s [x] 0 s1→Ev K (.all l e) s1 xs 0 s2→Ev K (.all (t::l) e) s (x::xs) 0 s2
 | QE {t l e s x s1 xs c s2}:Ev K (.ev t e) s [x] 0 s1→Ev K (.all l e) s1 xs c s2→c≠0→Ev K (.all (t::l) e) s [] c s2
 | Rs {now e s}:Ev K (.rc now [] [] e) s [] 0 s
 | Rr {now v vs t l e s y c s1}:Ev K (.ev t e) s [y] c s1→c≠0→Ev K (.rc now (v::vs) (t::l) e) s [] c s1
 | Rq {now v vs t l e s x s1 xs s2}:Ev K (.ev t e) s [x] 0 s1→Ev K (.rc now vs l e) (if now=true then GU s1 e v x else s1) xs 0 s2→Ev K (.rc now (v::vs) (t::l) e) s (x::xs) 0 s2
 | Rt {now v vs t l e s x s1 xs c s2}:Ev K (.ev t e) s [x] 0 s1→Ev K (.rc now vs l e) (if now=true then GU s1 e v x else s1) xs c s2→c≠0→Ev K (.rc now (v::vs) (t::l) e) s [] c s2
 | seq {t e s l x}:t.op=6→Ev K (.str t (l++ [x]) e) s [x] 0 s
 | Qu {t e s x a y r}:t.op=2∨t.op=14→qI e t.n=some a→e9 s.h a=some (y,r)→ ¬((r=true∨t.op=14)∧y.k=12)→Ev K (.str t [x] e) s [fG 5] 0 (gw s (hput s.h a x))
 | Rv {t e s x a y r}:t.op=2∨t.op=14→qI e t.n=some a→e9 s.h a=some (y,r)→(r=true∨t.op=14)→y.k=12→Ev K (.str t [x] e) s [dz] 5 s
 | G7 {t e s x}:t.op=12→ ¬x.k=12→Ev K (.str t [x] e) s [x] 0 s
 | QZ {t e s x}:t.op=12→x.k=12→Ev K (.str t [x] e) s [dz] 5 s
 | box {t e s x a}:t.op=15→Qk ((a,x,false)::s.h)→Ev K (.str t [x] e) s [.mk 11 0 0 [] [] none (some a)] 0 (gw s ((a,x,false)::s.h))
 | bad {t e s x l}:16≤t.op∧t.op≤18→ ¬x.k=11→Ev K (.str t (x::l) e) s [dz] 1 s
 | get {t e s x a y r}:t.op=16→x.k=11→x.c=some a→e9 s.h a=some (y,r)→Ev K (.str t [x] e) s [y] 0 s
 | put {t e s x z a y r}:t.op=17∨t.op=18→x.k=11→x.c=some a→e9 s.h a=some (y,r)→ ¬(t.op=18∧y.k=12)→Ev K (.str t [x,z] e) s [fG 5] 0 (gw s (hput s.h a z))
 | fV {t e s x z a y r}:t.op=18→x.k=11→x.c=some a→e9 s.h a=some (y,r)→y.k=12→Ev K (.str t [x,z] e) s [dz] 5 s
 | app {t e s f l v c s'}:t.op=5→Ev K (.call f l) s [v] c s'→Ev K (.str t (f::l) e) s [v] c s'
 | Rp {t e s l v c s'}:t.op=10→Ev K (.Ab t.n l) s [v] c s'→Ev K (.str t l e) s [v] c s'
 | QY {f l s v c s'}:f.k=9→Ev K (.Ab f.n l) s [v] c s'→Ev K (.call f l) s [v] c s'
 | QX {f l s}:f.k=10→ ¬l.length=1→Ev K (.call f l) s [dz] 2 s
 | QU {f x s}:f.k=10→s.alive[f.n.toNat]?=some false→Ev K (.call f [x]) s [dz] 6 s
 | QV {f x s}:f.k=10→s.alive[f.n.toNat]?=some true→Ev K (.call f [x]) s [dz] 100 ⟨s.fuel,s.out,s.alive,f.n,x,s.h⟩
 | QW {f l s cl}:f.k=8→f.p=some cl→vV l cl.v.length cl.rest=none→Ev K (.call f l) s [dz] 2 s
 | Ra {f l s cl xs az v c s'}:f.k=8→f.p=some cl→vV l cl.v.length cl.rest=some xs→az.length=cl.v.length→Ev K (.ev cl.body (hY cl.env cl.v az)) (gw s (za s.h xs az)) [v] c s'→Ev K (.call f l) s [v] c s'
 | QS {f l s}: ¬f.k=8→ ¬f.k=9→ ¬f.k=10→Ev K (.call f l) s [dz] 1 s
 | pN {n l s}:N1 n l.length=false→Ev K (.Ab n l) s [dz] 2 s
 | pR {x s}:Ev K (.Ab 28 [x]) s [dz] 7 ⟨s.fuel,s.out,s.alive,s.to,x,s.h⟩
 | pE {f s v c s'}:Ev K (.call f [OP s.alive.length]) ⟨s.fuel,s.out,s.alive++ [true],s.to,s.val,s.h⟩ [v] c s'→ ¬(c=100∧s'.to=s.alive.length)→Ev K (.Ab 29 [f]) s [v] c ⟨s'.fuel,s'.out,s'.alive.set s.alive.length false,s'.to,s'.val,s'.h⟩
 | pJ {f s v s'}:Ev K (.call f [OP s.alive.length]) ⟨s.fuel,s.out,s.alive++ [true],s.to,s.val,s.h⟩ [v] 100 s'→s'.to=s.alive.length→Ev K (.Ab 29 [f]) s [s'.val] 0 ⟨s'.fuel,s'.out,s'.alive.set s.alive.length false,s'.to,s'.val,s'.h⟩
 | pL {f x s}: ¬x.an.2.k=4→Ev K (.Ab 30 [f,x]) s [dz] 1 s
 | pA {f x s v c s'}:x.an.2.k=4→Ev K (.call f x.an.1) s [v] c s'→Ev K (.Ab 30 [f,x]) s [v] c s'
 | pS {n l s}:n < 28→N1 n l.length=true→Ev K (.Ab n l) s [(NW n l).1] (NW n l).2.1 (P3 s (NW n l).2.2)
theorem y9 {h:Hp} {a:Nat} {x:Vl} {r:Bool} (hg:e9 h a=some (x,r)): ∃ put,fK (Cn h) a (AQ x r) put∧ ∀ y,put (AQ y r)=Cn (hput h a y):=by
 obtain ⟨h1,h2,e1,e2⟩:=uZ hg;refine ⟨fun cs'=>Cn h1++.box a cs'::Cn h2,⟨Cn h1,Cn h2,by rw[e1,Cn,List.map_append];rfl,fun _=>rfl⟩,fun y=>?_⟩;rw[e2];simp only[Cn,List.map_append,List.map_cons]
section
variable (b:Nat) (K:List Vl) (tk:Tok) (s:kH) (t:aa) (e:iB)
theorem JT (ho:t.op=12) (l:List Vl) (hl:l.length=1) (hx:l[0].k=12):
  af Tryz.prog 129 [.ptr b 0,.agg t.cells,.sl 7 (l.map Vl.pv) none,cx e] (eC b K tk s) (fun y Γ'=>y=.bp [.agg (gM dz),.int .i64 5]∧Γ'=eC b K tk s):=by
 refine af.ah ai Tryz.func129 rfl rfl (n:=173) rfl rfl ?_
 conv=>whnf
 repeat' (first|refine aY ?_|((intro _);conv=>whnf)|(refine zX (fun hc=>?_) (fun hc=>?_)<;>(try simp only[SY] at hc)<;>first|omega|(conv=>whnf)))
 exact ak.gen (y:=.bp [.agg (gM dz),.int .i64 5]) (Γ':=eC b K tk s) o8.res ⟨rfl,rfl⟩
end
def kz (b:Nat) (K:List Vl) (R:Vl→Int→kH→Tok→Prop) (y:PV) (Γ':List aj):Prop:= ∃ x c s' tk',y=.bp [.agg (gM x),.int .i64 c]∧Γ'=eC b K tk' s'∧R x c s' tk'
section
variable (b:Nat) (K:List Vl) (tk:Tok) (s:kH) (R:Vl→Int→kH→Tok→Prop)
theorem NZ (t:aa) (ho:t.op=5) (e:iB) (l:List Vl) (hl:0 < l.length)
  (hca:af Tryz.prog 171 [.ptr b 0,.agg (gM (l[0]'hl)),.sl 7 ((l.drop 1).map Vl.pv) none] (eC b K tk s) (kz b K R)):
  af Tryz.prog 129 [.ptr b 0,.agg t.cells,.sl 7 (l.map Vl.pv) none,cx e] (eC b K tk s) (kz b K R):=by
 refine af.ah ai Tryz.func129 rfl rfl (n:=173) rfl rfl ?_
 conv=>whnf
 repeat' (first|refine aY ?_|((intro _);conv=>whnf)|(refine zX (fun hc=>?_) (fun hc=>?_)<;>(try simp only[SY] at hc)<;>first|omega|(conv=>whnf)))
 rename_i b5 b8 b10 _ _ _ _ _ _ _ _ _;refine aD.tree ai mixed [0,0,2,6,0,16,63,127,127,511,1023] [0,1,2,3,4,5] [6,7,8,9,10] (.box b8 [.int .i64 0,.int .i64 0,.int .i64 0,.str [],.nil,.np,.np]::.box b10 [.int .i64 5,.int .i64 0,.int .i64 0,.str [],.nil,.np,.np]::.box b5 [.int .i64 t.op,.int .i64 t.n,.sl 1 (t.v.map (PV.int .i64)) none,.sl 4 (t.t.map aa.pv) none]::eC b K tk s) ?_
 conv=>whnf
 conv=>whnf
 repeat' (first|((first|((apply zZ);exact tB)|(refine And.intro ?_ ?_));conv=>whnf)|(refine zX (fun hc=>?_) (fun hc=>?_)<;>(try simp only[SY] at hc)<;>omega))
 all_goals try exact trivial
 refine aq.Ig hca (aX.refl _) ?_;rintro _ _ ⟨x,c,s',tk',rfl,rfl,hq⟩
 conv=>whnf
 repeat' (first|((first|refine aM ?_|(refine And.intro ?_ ?_)|refine dn nC ?_|refine dn nD ?_|refine OH ?_|refine aF ?_);conv=>whnf)|(refine zX (fun hc=>?_) (fun hc=>?_)<;>(try simp only[SY] at hc)<;>omega))
 all_goals try exact trivial
 all_goals exact ak.gen (y:=.bp [.agg (gM x),.int .i64 c]) (Γ':=eC b K tk' s') (Wk.refl _) ⟨x,c,s',tk',rfl,rfl,hq⟩
theorem FH {p q:Prop} (k:q) (h:q→p:=by intro hq;first | exact aD.sP (some 31) rfl [] [] ai mixed hq | exact aD.sP (some 84) rfl [] [12,13] ai mixed hq):p:=h k
theorem FI {p q:Prop} (k:q) (h:q→p:=by intro hq;first | exact aD.sT (some 16) rfl [0,5] [10,11,12,13,14] ai mixed hq):p:=h k
theorem GS (l:List Vl) (k:Nat) (hk:k≤1000000000) (r:Bool) (h1:r=true→1≤k) (hl:l.length≤1000000000):aA Tryz.prog 213 [.sl 7 (l.map Vl.pv) none,.int .i64 k,.bool r] (.bp [.sl 7 (((vV l k r).getD l).map Vl.pv) none,.bool (vV l k r).isSome]):=by
 rcases r with _ | _
 ·have e:vV l k false=if l.length=k then some l else none:=by unfold vV;rw[if_neg (by simp)];simp
  refine af.ah ai Tryz.func213 rfl rfl (n:=38) rfl rfl ?_
  conv=>whnf
  repeat' (first|refine aY ?_|(refine zX (fun hc=>?_) (fun hc=>?_)<;>(try simp only[SY] at hc)<;>(conv=>whnf)))
  refine ak.pure (Wk.bp (.cons ?_ (.cons (Wk.bool ?_) .nil)))
  ·rw[e]
   split<;>exact Wk.refl _
  ·rw[e,Bool.eq_iff_iff]
   split<;>simp<;>omega
 ·have hk1:=h1 rfl
  have e:vV l k true=if k≤l.length + 1 then some (l.take (k - 1)++ [De (l.drop (k - 1))]) else none:=by
   unfold vV;simp
  have hls:=KZ (l.drop (k - 1));refine af.ah ai Tryz.func213 rfl rfl (n:=38) rfl rfl ?_
  conv=>whnf
  repeat' (first|refine aY ?_|((first|refine pC (hls) wR ?_|refine FI ?_|intro _);conv=>whnf)|(refine zX (fun hc=>?_) (fun hc=>?_)<;>(try simp only[SY] at hc)<;>(conv=>whnf)))
  ·rw[e,if_pos (by omega)]
   exact ak.pure (Wk.bp (.cons (Wk.tok _ _ _) (.cons (Wk.tt rfl) .nil)))
  ·rw[e,if_neg (by omega)]
   exact ak.pure (Wk.bp (.cons (Wk.refl _) (.cons (Wk.bool (by simp)) .nil)))
theorem JO {l xs:List Vl} {k:Nat} {r:Bool} (h1:r=true→1≤k) (h:vV l k r=some xs):xs.length=k:=by
 unfold vV at h
 split at h
 ·rename_i hc
  have:=h1 hc.1;rw[←Option.some.inj h];simp;omega
 ·split at h
  ·rename_i hc
   rw[←Option.some.inj h,hc.2]
  ·cases h
theorem OL (x:Vl) (hk:x.k=8) (cl:Mc) (hp:x.p=some cl) (l0 l:List Vl) (hl0:l0.length≤1000000000) (hz:cl.v.length≤1000000000) (hr:cl.rest=true→1≤cl.v.length) (hx:vV l0 cl.v.length cl.rest=some l)
  (hev: ∀ az:List Nat,az.length=cl.v.length→af Tryz.prog 70 [.ptr b 0,.agg cl.body.cells,cx (hY cl.env cl.v az),.nil] (eC b K tk (gw s (za s.h l az))) (kz b K R)):
  af Tryz.prog 171 [.ptr b 0,.agg (gM x),.sl 7 (l0.map Vl.pv) none] (eC b K tk s) (kz b K R):=by
 have hlen:=JO hr hx;have hsp:=GS l0 cl.v.length hz cl.rest hr hl0;rw[hx] at hsp;simp only[Option.getD_some,Option.isSome_some] at hsp;refine af.ah ai Tryz.func171 rfl rfl (n:=111) rfl rfl ?_
 conv=>whnf
 repeat' (first|refine aY ?_|((intro _);conv=>whnf)|(refine zX (fun hc=>?_) (fun hc=>?_)<;>(try simp only[SY] at hc)<;>first|omega|(conv=>whnf)))
 rw[hp]
 conv=>whnf
 repeat' (first|refine aY ?_|((first|refine pC (hsp) wR ?_|intro _);conv=>whnf)|(refine zX (fun hc=>?_) (fun hc=>?_)<;>(try simp only[SY] at hc)<;>(conv=>whnf)))
 rename_i b4 b6 _ _ _ _
 have hL: ∀ i (az:List Nat) (a:Nat) (_:az.length=i) (h:i < l.length),Cn (za s.h (l.take (i + 1)) (az++ [a]))=.box a (AQ (l[i]'h) false)::Cn (za s.h (l.take i) az):=fun i az a h1 h=>by
  rw[List.take_succ_eq_append_getElem h,u0 _ _ _ _ _ (by rw[List.length_take];omega)];rfl
 have e0:eC b K tk s=eC b K tk (gw s (za s.h (l.take 0) [])):=rfl;rw[e0]
 refine ax.over [12,13,79,80,81,82,83,84,85,86,87,88,89,90,91,92,93,94,95,96] (fun x:Nat×List Nat=> [(12,cx (hY cl.env (cl.v.take x.1) x.2)),(13,.int .i64 x.1)]) (fun x:Nat×List Nat=>.box b6 [.int .i64 0,.int .i64 0,.int .i64 0,.str [],.nil,.np,.np]::eC b K tk (gw s (za s.h (l.take x.1) x.2)))
  (fun x=>x.1≤l.length∧x.2.length=x.1) (fun x=>l.length - x.1) (0, []) ⟨Nat.zero_le _,rfl⟩ wA ?_
 rintro ⟨i,az⟩ ⟨hi,ha⟩;dsimp only at hi ha⊢
 conv=>whnf
 repeat' (first|refine aY ?_|((refine FH ?_);conv=>whnf)|(refine zX (fun hc=>?_) (fun hc=>?_)<;>(try simp only[SY] at hc)<;>(conv=>whnf)))
 ·have h1:i < l.length:=by omega
  refine aq.go (Γ1:= []) (Cz _ _ l[i] false) (.cons (Wk.refl _) (.cons (Wk.refl _) (.cons (Wk.refl _) (.cons (Wk.ff rfl) .nil)))) ?_;rintro _ _ ⟨a,rfl,rfl⟩
  conv=>whnf
  repeat' (first|refine aY ?_|(refine zX (fun hc=>?_) (fun hc=>?_)<;>(try simp only[SY] at hc)<;>omega))
  have e1:=hL i az a ha h1;have e2:(cl.v.take (i + 1))=cl.v.take i++ [cl.v[i]'(by omega)]:=List.take_succ_eq_append_getElem (by omega);refine av (i + 1,az++ [a]) ⟨by show i + 1≤_;omega,by show (az++ [a]).length=i + 1;simp;omega⟩ (by show l.length - (i + 1) < l.length - i;omega) (by dsimp only;rw[e2,nH _ _ _ _ _ (by rw[List.length_take];omega)];exact wA) (hp:=by dsimp only[eC,gw];rw[e1];infer_instance)
 ·obtain rfl:i=l.length:=by omega
  rw[List.take_length,List.take_of_length_le (by omega:cl.v.length≤l.length)];refine aD.tree ai mixed [0,0,2,6,14,0,0,64,192,448,1023,2047,2047,8191,16383] [0,1,2,3,4,5,6,7,8,9] [10,11,12,13,14] (.box b6 [.int .i64 0,.int .i64 0,.int .i64 0,.str [],.nil,.np,.np]::eC b K tk (gw s (za s.h l az))) ?_
  conv=>whnf
  conv=>whnf
  repeat' (first|((first|((apply zZ);exact tB)|(refine And.intro ?_ ?_));conv=>whnf)|(refine zX (fun hc=>?_) (fun hc=>?_)<;>(try simp only[SY] at hc)<;>omega))
  all_goals try exact trivial
  refine aq.Ig (hev az (by omega)) (aX.refl _) ?_;rintro _ _ ⟨y,c,s',tk',rfl,rfl,hq⟩
  conv=>whnf
  repeat' (first|((first|refine aM ?_|(refine And.intro ?_ ?_)|refine dn nC ?_|refine dn nD ?_|refine OH ?_|refine aF ?_);conv=>whnf)|(refine zX (fun hc=>?_) (fun hc=>?_)<;>(try simp only[SY] at hc)<;>omega))
  all_goals try exact trivial
  all_goals exact ak.gen (y:=.bp [.agg (gM y),.int .i64 c]) (Γ':=eC b K tk' s') (Wk.refl _) ⟨y,c,s',tk',rfl,rfl,hq⟩
end
instance:bV PV.bool .aV true:=⟨Wk.tt rfl,.cons (Wk.tt rfl) .nil⟩
instance:bV PV.bool .bfalse false:=⟨Wk.ff rfl,.cons (Wk.ff rfl) .nil⟩
section
variable (b:Nat) (K:List Vl) (tk:Tok) (s:kH) (R:Vl→Int→kH→Tok→Prop)
end
def MD (b:Nat) (K:List Vl) (R:List Vl→Int→kH→Tok→Prop) (y:PV) (Γ':List aj):Prop:= ∃ x c s' tk',y=.bp [.sl 7 (x.map Vl.pv) none,.int .i64 c]∧Γ'=eC b K tk' s'∧R x c s' tk'
section
variable (b:Nat) (K:List Vl)
theorem uq (e:iB) (l:List aa) (hl:l.length≤1000000000) (P:Nat→List Vl→kH→Tok→Prop) (R:List Vl→Int→kH→Tok→Prop) (s:kH) (tk:Tok) (h0:P 0 [] s tk)
  (H: ∀ i m s tk,P i m s tk→ ∀ h:i < l.length,af Tryz.prog 70 [.ptr b 0,.agg l[i].cells,cx e,.nil] (eC b K tk s) (kz b K fun x c s' tk'=>(c=0→P (i + 1) (m++ [x]) s' tk')∧(¬c=0→R [] c s' tk')))
  (hE: ∀ m s tk,P l.length m s tk→R m 0 s tk):
  af Tryz.prog 128 [.ptr b 0,.sl 4 (l.map aa.pv) none,cx e,.nil] (eC b K tk s) (MD b K R):=by
 refine af.ah ai Tryz.func128 rfl rfl (n:=39) rfl rfl ?_
 conv=>whnf
 skip
 refine ax.gh (au.nil 7 122 _) ?_
 refine ax.over [8,9,10,11,12,13,14,15,16,17,18,19,20,21,22,23,24,25,26,27,28,29,30,31,32,33,34,35,36,37] (fun x:Nat×List Vl×Tok×kH×Tok=> [(10,.sl 7 (x.2.1.map Vl.pv) (some x.2.2.1)),(11,.int .i64 x.1)]) (fun x:Nat×List Vl×Tok×kH×Tok=>.tok x.2.2.1::eC b K x.2.2.2.2 x.2.2.2.1)
  (fun x=>x.1≤l.length∧x.2.2.1.e=122∧x.2.1.length=x.1∧P x.1 x.2.1 x.2.2.2.1 x.2.2.2.2) (fun x=>l.length - x.1) (0, [],aB 7 122,s,tk) ⟨Nat.zero_le _,rfl,rfl,h0⟩ wA ?_
 rintro ⟨i,m,t1,s1,tk1⟩ ⟨hi,ht,hm,hP⟩;dsimp only at hi ht hm hP ⊢;have hml:m.length≤1000000000:=by omega
 conv=>whnf
 repeat' (first|refine aY ?_|((intro _);conv=>whnf)|(refine zX (fun hc=>?_) (fun hc=>?_)<;>(try simp only[SY] at hc)<;>(conv=>whnf)))
 ·have h1:i < l.length:=by omega
  refine aq.Ig (H i m s1 tk1 hP h1) (aX.refl _) ?_;rintro _ _ ⟨x,c,s',tk',rfl,rfl,hq,hr⟩
  conv=>whnf
  repeat' (first|refine aY ?_|((first|refine dn nC ?_|refine dn nD ?_|intro _);conv=>whnf)|(refine zX (fun hc=>?_) (fun hc=>?_)<;>(try simp only[SY] at hc)<;>(conv=>whnf)))
  ·exact ak.gen (y:=.bp [.sl 7 (([]:List Vl).map Vl.pv) none,.int .i64 c]) (Γ':=eC b K tk' s') (Wk.bp (.cons (Wk.ec rfl) (.cons (Wk.refl _) .nil))) ⟨[],c,s',tk',rfl,rfl,hr hc⟩
  ·rename_i t2 ht2
   exact av (i + 1,m++ [x],t2,s',tk') ⟨by show i + 1≤_;omega,ht2,by show (m++ [x]).length=i + 1;simp;omega,hq hc⟩ (by show l.length - (i + 1) < l.length - i;omega) wA
 ·obtain rfl:i=l.length:=by omega
  exact ak.gen (y:=.bp [.sl 7 (m.map Vl.pv) none,.int .i64 0]) (Γ':=eC b K tk1 s1) (Wk.bp (.cons (Wk.tok _ _ _) (.cons (Wk.refl _) .nil))) ⟨m,0,s1,tk1,rfl,rfl,hE m s1 tk1 hP⟩
variable (tk:Tok) (s:kH) (t:aa) (e:iB) (R:Vl→Int→kH→Tok→Prop)
theorem OQ (h0:s.fuel≤0):
  af Tryz.prog 70 [.ptr b 0,.agg t.cells,cx e,.nil] (eC b K tk s) (fun y Γ'=>y=.bp [.agg (gM dz),.int .i64 8]∧Γ'=eC b K tk s):=by
 refine af.ah ai Tryz.func70 rfl rfl (n:=181) rfl rfl ?_
 conv=>whnf
 repeat' (first|refine aY ?_|((intro _);conv=>whnf)|(refine zX (fun hc=>?_) (fun hc=>?_)<;>(try simp only[SY] at hc)<;>first|omega|(conv=>whnf)))
 all_goals exact ak.gen (y:=.bp [.agg (gM dz),.int .i64 8]) (Γ':=eC b K tk s) o8.res ⟨rfl,rfl⟩
theorem OR (h0:0 < s.fuel∧s.fuel≤1000000) (ho:t.op=13):
  af Tryz.prog 70 [.ptr b 0,.agg t.cells,cx e,.nil] (eC b K tk s) (fun y Γ'=>y=.bp [.agg (gM (fG 12)),.int .i64 0]∧Γ'=eC b K tk (bB s)):=by
 refine af.ah ai Tryz.func70 rfl rfl (n:=181) rfl rfl ?_
 conv=>whnf
 repeat' (first|refine aY ?_|((intro _);conv=>whnf)|(refine zX (fun hc=>?_) (fun hc=>?_)<;>(try simp only[SY] at hc)<;>first|omega|(conv=>whnf)))
 all_goals exact ak.gen (y:=.bp [.agg (gM (fG 12)),.int .i64 0]) (Γ':=eC b K tk (bB s)) o8.res ⟨rfl,rfl⟩
theorem Mi (h0:0 < s.fuel∧s.fuel≤1000000) (ho:t.op=1) (a:Nat) (hf:qI e t.n=some a) (x:Vl) (r:Bool) (hg:e9 s.h a=some (x,r)) (hu: ¬(r=true∧x.k=12)):
  af Tryz.prog 70 [.ptr b 0,.agg t.cells,cx e,.nil] (eC b K tk s) (fun y Γ'=>y=.bp [.agg (gM x),.int .i64 0]∧Γ'=eC b K tk (bB s)):=by
 have hp:=z8 e t.n a hf;obtain ⟨put,hpb,hpu⟩:=y9 hg;refine af.ah ai Tryz.func70 rfl rfl (n:=181) rfl rfl ?_
 conv=>whnf
 repeat' (first|refine aY ?_|((first|refine dn nC ?_|refine dn nD ?_|refine pC (hp) wR ?_|intro _);conv=>whnf)|(refine zX (fun hc=>?_) (fun hc=>?_)<;>(try simp only[SY] at hc)<;>first|omega|(conv=>whnf)))
 all_goals first
  | exact absurd hc hu
  | exact ak.gen (y:=.bp [.agg (gM x),.int .i64 0]) (Γ':=eC b K tk (bB s)) (Wk.refl _) ⟨rfl,rfl⟩
theorem Ek (h0:0 < s.fuel∧s.fuel≤1000000) (ho:t.op=2∨t.op=5∨t.op=6∨t.op=10∨t.op=12∨(14≤t.op∧t.op≤18))
  (hE:af Tryz.prog 128 [.ptr b 0,.sl 4 (t.t.map aa.pv) none,cx e,.nil] (eC b K tk (bB s)) (MD b K fun l c s' tk'=>(¬c=0→R dz c s' tk')∧
   (c=0→af Tryz.prog 129 [.ptr b 0,.agg t.cells,.sl 7 (l.map Vl.pv) none,cx e] (eC b K tk' s') (kz b K R)))):
  af Tryz.prog 70 [.ptr b 0,.agg t.cells,cx e,.nil] (eC b K tk s) (kz b K R):=by
 refine af.ah ai Tryz.func70 rfl rfl (n:=181) rfl rfl ?_
 conv=>whnf
 repeat' (first|refine aY ?_|((intro _);conv=>whnf)|(refine zX (fun hc=>?_) (fun hc=>?_)<;>(try simp only[SY] at hc)<;>first|omega|(conv=>whnf)))
 refine aq.Ig hE (aX.refl _) ?_;rintro _ _ ⟨x,c,s',tk',rfl,rfl,h1,h2⟩
 conv=>whnf
 repeat' (first|refine aY ?_|(refine zX (fun hc=>?_) (fun hc=>?_)<;>(try simp only[SY] at hc)<;>(conv=>whnf)))
 ·exact ak.gen (y:=.bp [.agg (gM dz),.int .i64 c]) (Γ':=eC b K tk' s') o8.res ⟨dz,c,s',tk',rfl,rfl,h1 hc⟩
 ·refine aq.Ig (h2 hc) (aX.refl _) ?_
  rintro _ _ ⟨x',c',s'',tk'',rfl,rfl,hq⟩
  conv=>whnf
  repeat' (first|refine aY ?_|((first|refine dn nC ?_|refine dn nD ?_);conv=>whnf)|(refine zX (fun hc=>?_) (fun hc=>?_)<;>(try simp only[SY] at hc)<;>omega))
  all_goals exact ak.gen (y:=.bp [.agg (gM x'),.int .i64 c']) (Γ':=eC b K tk'' s'') (Wk.refl _) ⟨x',c',s'',tk'',rfl,rfl,hq⟩
theorem Mh (h0:0 < s.fuel∧s.fuel≤1000000) (ho:7≤t.op∧t.op≤9)
  (hE:af Tryz.prog 127 [.ptr b 0,.agg t.cells,cx e,.nil] (eC b K tk (bB s)) (kz b K R)):
  af Tryz.prog 70 [.ptr b 0,.agg t.cells,cx e,.nil] (eC b K tk s) (kz b K R):=by
 refine af.ah ai Tryz.func70 rfl rfl (n:=181) rfl rfl ?_
 conv=>whnf
 repeat' (first|refine aY ?_|((intro _);conv=>whnf)|(refine zX (fun hc=>?_) (fun hc=>?_)<;>(try simp only[SY] at hc)<;>first|omega|(conv=>whnf)))
 all_goals
  refine aq.Ig hE (aX.refl _) ?_;rintro _ _ ⟨x',c',s'',tk'',rfl,rfl,hq⟩
  conv=>whnf
  repeat' (first|refine aY ?_|((first|refine dn nC ?_|refine dn nD ?_);conv=>whnf)|(refine zX (fun hc=>?_) (fun hc=>?_)<;>(try simp only[SY] at hc)<;>omega))
  all_goals exact ak.gen (y:=.bp [.agg (gM x'),.int .i64 c']) (Γ':=eC b K tk'' s'') (Wk.refl _) ⟨x',c',s'',tk'',rfl,rfl,hq⟩
end
section
variable (b:Nat) (K:List Vl) (tk:Tok) (s:kH) (t:aa) (e:iB) (R:Vl→Int→kH→Tok→Prop)
theorem FJ {p q:Prop} (k:q) (h:q→p:=by intro hq;first | exact aD.sP (some 48) rfl [] [10,11] ai mixed hq | exact aD.sP (some 79) rfl [] [10,11] ai mixed hq | exact aD.sP (some 192) rfl [] [10] ai mixed hq | exact aD.sP (some 217) rfl [] [13] ai mixed hq):p:=h k
theorem KB (ho:t.op=8) (hl:t.t.length=t.v.length + 1) (hz:t.v.length≤1000000000)
  (hA:af Tryz.prog 128 [.ptr b 0,.sl 4 ((t.t.take t.v.length).map aa.pv) none,cx e,.nil] (eC b K tk s) (MD b K fun l c s' tk'=>(¬c=0→R dz c s' tk')∧
   (c=0→l.length=t.v.length∧ ∀ az:List Nat,az.length=t.v.length→af Tryz.prog 70 [.ptr b 0,.agg (t.t[t.v.length]'(by omega)).cells,cx (hY e t.v az),.nil] (eC b K tk' (gw s' (za s'.h l az))) (kz b K R)))):
  af Tryz.prog 127 [.ptr b 0,.agg t.cells,cx e,.nil] (eC b K tk s) (kz b K R):=by
 refine af.ah ai Tryz.func127 rfl rfl (n:=241) rfl rfl ?_
 conv=>whnf
 repeat' (first|refine aY ?_|((intro _);conv=>whnf)|(refine zX (fun hc=>?_) (fun hc=>?_)<;>(try simp only[SY] at hc)<;>first|omega|(conv=>whnf)))
 refine aq.Ig hA (aX.refl _) ?_;rintro _ _ ⟨l,c,s',tk',rfl,rfl,h1,h2⟩
 conv=>whnf
 skip
 rename_i b1 b2 _;by_cases hc0:c=0
 ·subst hc0
  obtain ⟨hlen,hev⟩:=h2 rfl
  have hL: ∀ i (az:List Nat) (a:Nat) (_:az.length=i) (h:i < l.length),Cn (za s'.h (l.take (i + 1)) (az++ [a]))=.box a (AQ (l[i]'h) false)::Cn (za s'.h (l.take i) az):=fun i az a h1 h=>by
   rw[List.take_succ_eq_append_getElem h,u0 _ _ _ _ _ (by rw[List.length_take];omega)];rfl
  have e0:eC b K tk' s'=eC b K tk' (gw s' (za s'.h (l.take 0) [])):=rfl;rw[e0]
  refine ax.over [2,13,39,40,41,42,43,44,45,46,47,48,49,50,51,52,53,54,55,56,57,58] (fun x:Nat×List Nat=> [(2,cx (hY e (t.v.take x.1) x.2)),(13,.int .i64 x.1)]) (fun x:Nat×List Nat=>.box b2 [.int .i64 0,.int .i64 0,.int .i64 0,.str [],.nil,.np,.np]::.box b1 [.int .i64 t.op,.int .i64 t.n,.sl 1 (t.v.map (PV.int .i64)) none,.sl 4 (t.t.map aa.pv) none]::eC b K tk' (gw s' (za s'.h (l.take x.1) x.2)))
   (fun x=>x.1≤l.length∧x.2.length=x.1) (fun x=>l.length - x.1) (0, []) ⟨Nat.zero_le _,rfl⟩ wA ?_
  rintro ⟨i,az⟩ ⟨hi,ha⟩;dsimp only at hi ha⊢
  conv=>whnf
  repeat' (first|refine aY ?_|((refine FJ ?_);conv=>whnf)|(refine zX (fun hc=>?_) (fun hc=>?_)<;>(try simp only[SY] at hc)<;>(conv=>whnf)))
  ·have h1:i < l.length:=by omega
   refine aq.go (Γ1:= []) (Cz _ _ l[i] false) (.cons (Wk.refl _) (.cons (Wk.refl _) (.cons (Wk.refl _) (.cons (Wk.ff rfl) .nil)))) ?_;rintro _ _ ⟨a,rfl,rfl⟩
   conv=>whnf
   repeat' (first|refine aY ?_|(refine zX (fun hc=>?_) (fun hc=>?_)<;>(try simp only[SY] at hc)<;>omega))
   have e1:=hL i az a ha h1;have e2:(t.v.take (i + 1))=t.v.take i++ [t.v[i]'(by omega)]:=List.take_succ_eq_append_getElem (by omega);refine av (i + 1,az++ [a]) ⟨by show i + 1≤_;omega,by show (az++ [a]).length=i + 1;simp;omega⟩ (by show l.length - (i + 1) < l.length - i;omega) (by dsimp only;rw[e2,nH _ _ _ _ _ (by rw[List.length_take];omega)];exact wA) (hp:=by dsimp only[eC,gw];rw[e1];infer_instance)
  ·have hil:i=t.v.length:=by omega
   subst hil;have hev':=hev az ha;rw[List.take_length,List.take_of_length_le (by omega:l.length≤t.v.length)]
   conv=>whnf
   skip
   refine aq.Ig hev' (aX.refl _) ?_;rintro _ _ ⟨x',c',s'',tk'',rfl,rfl,hq⟩
   conv=>whnf
   repeat' (first|refine aY ?_|((first|refine dn nC ?_|refine dn nD ?_);conv=>whnf)|(refine zX (fun hc=>?_) (fun hc=>?_)<;>(try simp only[SY] at hc)<;>omega))
   all_goals exact ak.gen (y:=.bp [.agg (gM x'),.int .i64 c']) (Γ':=eC b K tk'' s'') (Wk.refl _) ⟨x',c',s'',tk'',rfl,rfl,hq⟩
 ·refine ax.over [2,13,39,40,41,42,43,44,45,46,47,48,49,50,51,52,53,54,55,56,57,58] (fun _:Unit=> [(2,cx e),(13,.int .i64 0)]) (fun _:Unit=>.box b2 [.int .i64 0,.int .i64 0,.int .i64 0,.str [],.nil,.np,.np]::.box b1 [.int .i64 t.op,.int .i64 t.n,.sl 1 (t.v.map (PV.int .i64)) none,.sl 4 (t.t.map aa.pv) none]::eC b K tk' s') (fun _=>True) (fun _=>0) () trivial wA ?_
  rintro ⟨⟩ _;dsimp only
  conv=>whnf
  repeat' (first|refine aY ?_|(refine zX (fun hc=>?_) (fun hc=>?_)<;>(try simp only[SY] at hc)<;>first|omega|(conv=>whnf)))
  all_goals exact ak.gen (y:=.bp [.agg (gM dz),.int .i64 c]) (Γ':=eC b K tk' s') o8.res ⟨dz,c,s',tk',rfl,rfl,h1 hc0⟩
end
theorem Bn: ∀ (h:Hp) (r:Bool) (az:List Nat) (a:Nat),Ep h r (az++ [a])=(a,fG 12,r)::Ep h r az
 | _,_, [],_=>rfl
 | h,r,b::az,a=>by rw[List.cons_append,Ep,Bn _ r az a,Ep]
def I7 (h:Hp) (e:iB) (vs:List Int):Prop:= ∀ v∈vs, ∃ a,qI e v=some a∧ ∃ y r,e9 h a=some (y,r)
theorem xF (b:Nat) (z:Vl): ∀ {h:Hp} {a:Nat} {y:Vl} {r:Bool},e9 h a=some (y,r)→ ∃ y',e9 (hput h b z) a=some (y',r)
 | (c,w,q)::h,a,y,r,hg=>by
  rw[e9] at hg;rw[hput];by_cases hcb:c=b
  ·rw[if_pos hcb,e9]
   by_cases hca:c=a
   ·rw[if_pos hca] at hg⊢
    obtain ⟨rfl,rfl⟩:=Prod.mk.inj (Option.some.inj hg);exact ⟨z,rfl⟩
   ·rw[if_neg hca] at hg⊢
    exact ⟨y,hg⟩
  ·rw[if_neg hcb,e9]
   by_cases hca:c=a
   ·rw[if_pos hca] at hg⊢
    exact ⟨y,hg⟩
   ·rw[if_neg hca] at hg⊢
    exact xF b z hg
theorem I7.put {h:Hp} {e:iB} {vs:List Int} (b:Nat) (z:Vl) (hk:I7 h e vs):I7 (hput h b z) e vs:=fun v hv=>by
 obtain ⟨a,hf,y,r,hg⟩:=hk v hv;obtain ⟨y',hg'⟩:=xF b z hg;exact ⟨a,hf,y',r,hg'⟩
section
variable (b:Nat) (K:List Vl) (tk:Tok) (s:kH) (t:aa) (e:iB) (R:Vl→Int→kH→Tok→Prop)
theorem qD {p q:Prop} (k:q) (h:q→p:=by intro hq;first | exact aD.sP (some 48) rfl [] [10,11] ai mixed hq | exact aD.sP (some 79) rfl [] [10,11] ai mixed hq | exact aD.sP (some 192) rfl [] [10] ai mixed hq | exact aD.sP (some 217) rfl [] [13] ai mixed hq):p:=h k
theorem KC (ho:t.op=7∨t.op=9) (hl:t.t.length=t.v.length + 1) (hz:t.v.length≤1000000000) (h19: ∀ x∈t.t, ¬x.op=19)
  (P:List Nat→Nat→List Vl→kH→Tok→Prop) (hP: ∀ az:List Nat,az.length=t.v.length→P az 0 [] (gw s (Ep s.h (t.op == 7) az)) tk)
  (H: ∀ az i m s tk,P az i m s tk→ ∀ h:i < t.v.length,af Tryz.prog 70 [.ptr b 0,.agg (t.t[i]'(by omega)).cells,cx (hY e t.v az),.nil] (eC b K tk s) (kz b K fun x c s' tk'=>(¬c=0→R dz c s' tk')∧
   (c=0→(t.op=9∨t.n=1→ ∃ a y r,qI (hY e t.v az) (t.v[i]'h)=some a∧e9 s'.h a=some (y,r))∧P az (i + 1) (m++ [x]) (if t.op=9∨t.n=1 then GU s' (hY e t.v az) (t.v[i]'h) x else s') tk')))
  (HE: ∀ az m s tk,P az t.v.length m s tk→m.length=t.v.length→(t.op=7∧t.n=0→I7 s.h (hY e t.v az) t.v)∧
   af Tryz.prog 70 [.ptr b 0,.agg (t.t[t.v.length]'(by omega)).cells,cx (hY e t.v az),.nil] (eC b K tk (if t.op=7∧t.n=0 then vY s (hY e t.v az) t.v m else s)) (kz b K R)):
  af Tryz.prog 127 [.ptr b 0,.agg t.cells,cx e,.nil] (eC b K tk s) (kz b K R):=by
 refine af.ah ai Tryz.func127 rfl rfl (n:=241) rfl rfl ?_
 conv=>whnf
 repeat' (first|refine aY ?_|((intro _);conv=>whnf)|(refine zX (fun hc=>?_) (fun hc=>?_)<;>(try simp only[SY] at hc)<;>first|omega|(conv=>whnf)))
 rename_i b1 b2 _;have hL: ∀ (az:List Nat) (a:Nat),Cn (Ep s.h (t.op == 7) (az++ [a]))=.box a (AQ (fG 12) (t.op == 7))::Cn (Ep s.h (t.op == 7) az):=fun az a=>by rw[Bn];rfl
 have e0:eC b K tk s=eC b K tk (gw s (Ep s.h (t.op == 7) [])):=rfl;rw[e0]
 refine ax.over [2,14,74,75,76,77,78,79,80,81,82,83,84,85,86,87,88,89,90,91,92,93,94,95,96,97,98,99,100,101,102,103,104,105,106,107,108,109,110,111,112,113,114,115] (fun x:Nat×List Nat=> [(2,cx (hY e (t.v.take x.1) x.2)),(14,.int .i64 x.1)]) (fun x:Nat×List Nat=>.box b2 [.int .i64 0,.int .i64 0,.int .i64 0,.str [],.nil,.np,.np]::.box b1 [.int .i64 t.op,.int .i64 t.n,.sl 1 (t.v.map (PV.int .i64)) none,.sl 4 (t.t.map aa.pv) none]::eC b K tk (gw s (Ep s.h (t.op == 7) x.2)))
  (fun x=>x.1≤t.v.length∧x.2.length=x.1) (fun x=>t.v.length - x.1) (0, []) ⟨Nat.zero_le _,rfl⟩ wA ?_
 rintro ⟨i,az⟩ ⟨hi,ha⟩;dsimp only at hi ha⊢
 conv=>whnf
 repeat' (first|refine aY ?_|((refine qD ?_);conv=>whnf)|(refine zX (fun hc=>?_) (fun hc=>?_)<;>(try simp only[SY] at hc)<;>(conv=>whnf)))
 ·have h1:i < t.v.length:=by omega
  have h19i: ¬(t.t[i]'(by omega)).op=19:=h19 _ (List.getElem_mem _);refine aq.go (Γ1:= []) (Cz _ _ (fG 12) (t.op == 7)) (.cons (Wk.refl _) (.cons (Wk.refl _) (.cons (Wk.agg Ey) (.cons (Wk.refl _) .nil)))) ?_;rintro _ _ ⟨a,rfl,rfl⟩
  conv=>whnf
  repeat' (first|refine aY ?_|(refine zX (fun hc=>?_) (fun hc=>?_)<;>(try simp only[SY] at hc)<;>first|omega|(conv=>whnf)))
  all_goals try (exfalso;omega)
  have e1:=hL az a;have e2:(t.v.take (i + 1))=t.v.take i++ [t.v[i]'(by omega)]:=List.take_succ_eq_append_getElem (by omega);refine av (i + 1,az++ [a]) ⟨by show i + 1≤_;omega,by show (az++ [a]).length=i + 1;simp;omega⟩ (by show t.v.length - (i + 1) < t.v.length - i;omega) (by dsimp only;rw[e2,nH _ _ _ _ _ (by rw[List.length_take];omega)];exact wA) (hp:=by dsimp only[eC,gw];rw[e1];infer_instance)
 ·have hil:i=t.v.length:=by omega
  subst hil;have hP0:=hP az ha;rw[List.take_length]
  conv=>whnf
  skip
  refine ax.gh (au.nil 7 122 _) ?_
  refine ax.over [9,15,16,17,18,19,20,116,117,118,119,120,121,122,123,124,125,126,127,128,129,130,131,132,133,134,135,136,137,138,139,140,141,142,143,144,145,146,147,148,149,150,151,152,153,154,155,156,157,158,159,160,161,162,163,164,165,166,167,168,169,170,171,172,173,174,175,176,177,178,179,180,181,182,183,184,185,186,187,188,189,190,191,192,193,194,195,196,197,198,199,200,201] (fun x:Nat×List Vl×Tok×kH×Tok=> [(15,.sl 7 (x.2.1.map Vl.pv) (some x.2.2.1)),(16,.int .i64 x.1)]) (fun x:Nat×List Vl×Tok×kH×Tok=>.tok x.2.2.1::.box b2 [.int .i64 0,.int .i64 0,.int .i64 0,.str [],.nil,.np,.np]::.box b1 [.int .i64 t.op,.int .i64 t.n,.sl 1 (t.v.map (PV.int .i64)) none,.sl 4 (t.t.map aa.pv) none]::eC b K x.2.2.2.2 x.2.2.2.1)
   (fun x=>x.1≤t.v.length∧x.2.2.1.e=122∧x.2.1.length=x.1∧P az x.1 x.2.1 x.2.2.2.1 x.2.2.2.2) (fun x=>t.v.length - x.1) (0, [],aB 7 122,gw s (Ep s.h (t.op == 7) az),tk) ⟨Nat.zero_le _,rfl,rfl,hP0⟩ wA ?_
  rintro ⟨i,m,t1,s1,tk1⟩ ⟨hi,ht,hm,hPi⟩;dsimp only at hi ht hm hPi ⊢;have hml:m.length≤1000000000:=by omega
  conv=>whnf
  repeat' (first|refine aY ?_|(refine zX (fun hc=>?_) (fun hc=>?_)<;>(try simp only[SY] at hc)<;>(conv=>whnf)))
  ·exact absurd hc.2 (h19 _ (List.getElem_mem _))
  ·have h1:i < t.v.length:=by omega
   refine aq.Ig (H az i m s1 tk1 hPi h1) (aX.refl _) ?_;rintro _ _ ⟨x,c,s',tk',rfl,rfl,hq,hr⟩;by_cases hc0:c=0
   ·subst hc0
    obtain ⟨hn,hP'⟩:=hr rfl;by_cases hnow:t.op=9∨t.n=1
    ·obtain ⟨a,y,r,hf,hg⟩:=hn hnow
     rw[if_pos hnow] at hP';unfold GU at hP';rw[hf] at hP';have hp:=z8 _ _ _ hf;obtain ⟨put,hpb,hpu⟩:=y9 hg
     conv=>whnf
     repeat' (first|refine aY ?_|((first|((apply zZ);(conv=>whnf);(repeat ((refine pC (hp) wR ?_);conv=>whnf));exact pZ)|refine dn nC ?_|refine dn nD ?_|refine qD ?_|intro _);conv=>whnf)|(refine zX (fun hc=>?_) (fun hc=>?_)<;>(try simp only[SY] at hc)<;>first|omega|(conv=>whnf)))
     all_goals try (exfalso;omega)
     rw[hpu x];rename_i t2 ht2;exact av (i + 1,m++ [x],t2,gw s' (hput s'.h a x),tk') ⟨by show i + 1≤_;omega,ht2,by show (m++ [x]).length=i + 1;simp;omega,hP'⟩ (by show t.v.length - (i + 1) < t.v.length - i;omega) wA
    ·rw[if_neg hnow] at hP'
     conv=>whnf
     repeat' (first|refine aY ?_|((first|refine dn nC ?_|refine dn nD ?_|intro _);conv=>whnf)|(refine zX (fun hc=>?_) (fun hc=>?_)<;>(try simp only[SY] at hc)<;>first|omega|(conv=>whnf)))
     all_goals try (exfalso;omega)
     rename_i t2 ht2;exact av (i + 1,m++ [x],t2,s',tk') ⟨by show i + 1≤_;omega,ht2,by show (m++ [x]).length=i + 1;simp;omega,hP'⟩ (by show t.v.length - (i + 1) < t.v.length - i;omega) wA
   ·conv=>whnf
    repeat' (first|refine aY ?_|((first|refine dn nC ?_|refine dn nD ?_|intro _);conv=>whnf)|(refine zX (fun hc=>?_) (fun hc=>?_)<;>(try simp only[SY] at hc)<;>first|omega|(conv=>whnf)))
    exact ak.gen (y:=.bp [.agg (gM dz),.int .i64 c]) (Γ':=eC b K tk' s') o8.res ⟨dz,c,s',tk',rfl,rfl,hq hc0⟩
  ·have hi2:i=t.v.length:=by omega
   subst hi2;obtain ⟨hpl,hev⟩:=HE az m s1 tk1 hPi hm;by_cases hsto:t.op=7∧t.n=0
   ·rw[if_pos hsto] at hev
    refine ax.over [21,202,203,204,205,206,207,208,209,210,211,212,213,214,215,216,217,218,219,220,221,222,223,224,225,226,227,228,229] (fun x:Nat×kH=> [(21,.int .i64 x.1)]) (fun x:Nat×kH=>.tok t1::.box b2 [.int .i64 0,.int .i64 0,.int .i64 0,.str [],.nil,.np,.np]::.box b1 [.int .i64 t.op,.int .i64 t.n,.sl 1 (t.v.map (PV.int .i64)) none,.sl 4 (t.t.map aa.pv) none]::eC b K tk1 x.2)
     (fun x=>x.1≤t.v.length∧vY x.2 (hY e t.v az) (t.v.drop x.1) (m.drop x.1)=vY s1 (hY e t.v az) t.v m∧I7 x.2.h (hY e t.v az) t.v) (fun x=>t.v.length - x.1) (0,s1) ⟨Nat.zero_le _,rfl,hpl hsto⟩ wA ?_
    rintro ⟨j,s2⟩ ⟨hj,hst,hok⟩;dsimp only at hj hst hok ⊢;by_cases hjl:j < t.v.length
    ·obtain ⟨a,hf,y,r,hg⟩:=hok (t.v[j]'hjl) (List.getElem_mem _)
     have hp:=z8 _ _ _ hf;obtain ⟨put,hpb,hpu⟩:=y9 hg
     conv=>whnf
     repeat' (first|refine aY ?_|((first|((apply zZ);(conv=>whnf);(repeat ((refine pC (hp) wR ?_);conv=>whnf));exact pZ)|refine dn nC ?_|refine dn nD ?_|refine qD ?_);conv=>whnf)|(refine zX (fun hc=>?_) (fun hc=>?_)<;>(try simp only[SY] at hc)<;>first|omega|(conv=>whnf)))
     all_goals try (exfalso;omega)
     have hjm:j < m.length:=by omega
     rw[aJ hjl,aJ hjm,vY] at hst;unfold GU at hst;rw[hf] at hst;rw[hpu m[j]];exact av (j + 1,gw s2 (hput s2.h a m[j])) ⟨by show j + 1≤_;omega,hst,hok.put a _⟩ (by show t.v.length - (j + 1) < t.v.length - j;omega) wA
    ·rw[List.drop_of_length_le (by omega),List.drop_of_length_le (by omega)] at hst
     rw[←show s2=vY s1 (hY e t.v az) t.v m from hst] at hev
     conv=>whnf
     repeat' (first|refine aY ?_|(refine zX (fun hc=>?_) (fun hc=>?_)<;>(try simp only[SY] at hc)<;>first|omega|(conv=>whnf)))
     all_goals try (exfalso;omega)
     refine aq.Ig hev (aX.refl _) ?_;rintro _ _ ⟨x',c',s'',tk'',rfl,rfl,hq⟩
     conv=>whnf
     repeat' (first|refine aY ?_|((first|refine dn nC ?_|refine dn nD ?_);conv=>whnf)|(refine zX (fun hc=>?_) (fun hc=>?_)<;>(try simp only[SY] at hc)<;>omega))
     all_goals exact ak.gen (y:=.bp [.agg (gM x'),.int .i64 c']) (Γ':=eC b K tk'' s'') (Wk.refl _) ⟨x',c',s'',tk'',rfl,rfl,hq⟩
   ·rw[if_neg hsto] at hev
    refine ax.over [21,202,203,204,205,206,207,208,209,210,211,212,213,214,215,216,217,218,219,220,221,222,223,224,225,226,227,228,229] (fun _:Unit=> [(21,.int .i64 0)]) (fun _:Unit=>.tok t1::.box b2 [.int .i64 0,.int .i64 0,.int .i64 0,.str [],.nil,.np,.np]::.box b1 [.int .i64 t.op,.int .i64 t.n,.sl 1 (t.v.map (PV.int .i64)) none,.sl 4 (t.t.map aa.pv) none]::eC b K tk1 s1) (fun _=>True) (fun _=>0) () trivial wA ?_;rintro ⟨⟩ _
    conv=>whnf
    repeat' (first|refine aY ?_|(refine zX (fun hc=>?_) (fun hc=>?_)<;>(try simp only[SY] at hc)<;>first|omega|(conv=>whnf)))
    all_goals try (exfalso;omega)
    refine aq.Ig hev (aX.refl _) ?_;rintro _ _ ⟨x',c',s'',tk'',rfl,rfl,hq⟩
    conv=>whnf
    repeat' (first|refine aY ?_|((first|refine dn nC ?_|refine dn nD ?_);conv=>whnf)|(refine zX (fun hc=>?_) (fun hc=>?_)<;>(try simp only[SY] at hc)<;>omega))
    all_goals exact ak.gen (y:=.bp [.agg (gM x'),.int .i64 c']) (Γ':=eC b K tk'' s'') (Wk.refl _) ⟨x',c',s'',tk'',rfl,rfl,hq⟩
end
abbrev dm:=List (List Int)
inductive Rg (g:dm) (frm:List Int):Int→Prop
 | base {x:Int}:x∈frm→Rg g frm x
 | step {y x:Int}:Rg g frm y→x∈g.getD y.toNat []→Rg g frm x
def nU (g:dm):Prop:= ∀ l∈g, ∀ x∈l,0≤x∧x < g.length
def Ff (g:dm) (l:List Int):Prop:= ∀ x∈l,0≤x∧x < g.length
theorem nU.at_ {g:dm} (h:nU g) (k:Nat):Ff g (g.getD k []):=by
 intro x hx;rw[List.getD_eq_getElem?_getD] at hx;by_cases hk:k < g.length
 ·rw[List.getElem?_eq_getElem hk] at hx
  exact h _ (List.getElem_mem hk) x hx
 ·rw[List.getElem?_eq_none (by omega)] at hx
  cases hx
theorem Rg.KT {g:dm} {frm:List Int} (hg:nU g) (hf:Ff g frm) {x:Int} (h:Rg g frm x):0≤x∧x < g.length:=by
 induction h with
 | base hx=>exact hf _ hx
 | step _ hx _=>exact hg.at_ _ _ hx
theorem Rg.trans {g:dm} {frm:List Int} {x y:Int} (h:Rg g frm x) (k:Rg g [x] y):Rg g frm y:=by
 induction k with
 | base hx=>rw[List.mem_singleton.1 hx];exact h
 | step _ hx ih=>exact ih.step hx
def q8 (g:dm) (S:List Bool):List Bool:=(List.range g.length).map fun x=>S.getD x false || (List.range g.length).any fun y=>S.getD y false && (g.getD y []).contains (x:Int)
def wB (g:dm) (S:List Bool):Nat→List Bool
 | 0=>S
 | k + 1=>q8 g (wB g S k)
def ic (g:dm) (frm:List Int):List Bool:=wB g ((List.range g.length).map fun x:Nat=>frm.contains (x:Int)) g.length
def cE (g:dm) (frm:List Int):List Int:=((List.range g.length).filter fun x=>(ic g frm).getD x false).map fun x:Nat=>(x:Int)
theorem eT {n:Nat} (f:Nat→Bool) {x:Nat} (hx:x < n):((List.range n).map f).getD x false=f x:=by
 rw[List.getD_eq_getElem?_getD,List.getElem?_eq_getElem (by simpa using hx)];simp
theorem qg (g:dm) (S:List Bool):(q8 g S).length=g.length:=by unfold q8;simp
theorem tQ (g:dm) (S:List Bool) (hS:S.length=g.length): ∀ k,(wB g S k).length=g.length
 | 0=>hS
 | k + 1=>qg g _
theorem qf {g:dm} {S:List Bool} {x:Nat} (hx:x < g.length):(q8 g S).getD x false=true↔S.getD x false=true∨ ∃ y,y < g.length∧S.getD y false=true∧(x:Int)∈g.getD y []:=by
 unfold q8;rw[eT _ hx];simp only[Bool.or_eq_true,List.any_eq_true,List.mem_range,Bool.and_eq_true,List.contains_iff_mem]
theorem yz {S S':List Bool} (hl:S.length=S'.length) (h: ∀ x,x < S.length→(S.getD x false=true↔S'.getD x false=true)):S=S':=by
 refine List.ext_getElem hl fun i h1 h2=>?_;have:=h i h1;rw[List.getD_eq_getElem?_getD,List.getD_eq_getElem?_getD,List.getElem?_eq_getElem h1,List.getElem?_eq_getElem h2] at this;exact Bool.eq_iff_iff.2 this
theorem mH: ∀ {S S':List Bool},S.length=S'.length→(∀ x,x < S.length→S.getD x false=true→S'.getD x false=true)→S≠S'→S.countP id < S'.countP id
 | [], [],_,_,h=>absurd rfl h
 | [],_::_,hl,_,_=>by simp at hl
 | _::_, [],hl,_,_=>by simp at hl
 | a::S,b::S',hl,h,hne=>by
  have hl':S.length=S'.length:=by simpa using hl
  have h0:=h 0 (by simp)
  have hs: ∀ x,x < S.length→S.getD x false=true→S'.getD x false=true:=fun x hx hh=>by
   have:=h (x + 1) (by simpa using hx);simpa using this (by simpa using hh)
  have hle:S.countP id≤S'.countP id:=by
   by_cases e:S=S'
   ·rw[e];exact Nat.le_refl _
   ·exact Nat.le_of_lt (mH hl' hs e)
  rw[List.countP_cons,List.countP_cons];cases a<;>cases b
  ·have e:S≠S':=fun e=>hne (by rw[e])
   have:=mH hl' hs e;simpa using this
  ·simp;omega
  ·simp at h0
  ·have e:S≠S':=fun e=>hne (by rw[e])
   have:=mH hl' hs e;simpa using this
theorem Eu (g:dm) (S:List Bool) (hS:S.length=g.length): ∀ k,q8 g (wB g S k)=wB g S k∨k≤(wB g S k).countP id
 | 0=>.inr (Nat.zero_le _)
 | k + 1=>by
  by_cases e:q8 g (wB g S k)=wB g S k
  ·left
   show q8 g (q8 g (wB g S k))=q8 g (wB g S k);rw[e,e]
  ·right
   have hk:=(Eu g S hS k).resolve_left e;have hl:=tQ g S hS k;have:=mH (S:=wB g S k) (S':=q8 g (wB g S k)) (by rw[hl,qg]) (fun x hx h=>(qf (by omega)).2 (.inl h)) fun h=>e h.symm;show k + 1≤(q8 g (wB g S k)).countP id;omega
theorem Io (g:dm) (S:List Bool) (hS:S.length=g.length):q8 g (wB g S g.length)=wB g S g.length:=by
 rcases Eu g S hS g.length with h | h
 ·exact h
 ·have hl:=tQ g S hS g.length
  have hall: ∀ b∈wB g S g.length,b=true:=by
   have:=List.countP_eq_length.1 (Nat.le_antisymm List.countP_le_length (by omega):(wB g S g.length).countP id=(wB g S g.length).length);exact fun b hb=>this b hb
  refine yz (by rw[qg,hl]) fun x hx=>?_;rw[qg] at hx
  have h1:(wB g S g.length).getD x false=true:=by
   rw[List.getD_eq_getElem?_getD,List.getElem?_eq_getElem (by omega)];exact hall _ (List.getElem_mem _)
  exact ⟨fun _=>h1,fun _=>(qf hx).2 (.inl h1)⟩
theorem qL {g:dm} {frm:List Int} {S:List Bool} (hS: ∀ x,x < g.length→S.getD x false=true→Rg g frm (x:Int)): ∀ k x,x < g.length→(wB g S k).getD x false=true→Rg g frm (x:Int)
 | 0,x,hx,h=>hS x hx h
 | k + 1,x,hx,h=>by
  rcases (qf hx).1 h with h | ⟨y,hy,h1,h2⟩
  ·exact qL hS k x hx h
  ·exact (qL hS k y hy h1).step (by simpa using h2)
theorem Bq {g:dm} {S:List Bool}: ∀ k x,x < g.length→S.getD x false=true→(wB g S k).getD x false=true
 | 0,x,_,h=>h
 | k + 1,x,hx,h=>(qf hx).2 (.inl (Bq k x hx h))
theorem lX {g:dm} {frm:List Int} (hg:nU g) (hf:Ff g frm) {x:Nat} (hx:x < g.length):(ic g frm).getD x false=true↔Rg g frm (x:Int):=by
 have hS:((List.range g.length).map fun x:Nat=>frm.contains (x:Int)).length=g.length:=by simp
 constructor
 ·exact qL (fun y hy h=>.base (by rw[eT _ hy] at h;simpa using h)) _ x hx
 ·intro h
  have key: ∀ z:Int,Rg g frm z→(ic g frm).getD z.toNat false=true:=by
   intro z hz
   induction hz with
   | @base z hz=>
    have:=hf z hz;refine Bq _ _ (by omega) ?_;rw[eT _ (by omega),Int.toNat_of_nonneg this.1];simpa using hz
   | @step y z hy hz ih=>
    have h1:=hy.KT hg hf;have h2:=hg.at_ _ _ hz;have hfull:=Io g _ hS;unfold ic at ih ⊢;rw[←hfull];refine (qf (by omega)).2 (.inr ⟨y.toNat,by omega,ih,?_⟩);rw[Int.toNat_of_nonneg h2.1];exact hz
  have:=key x h;simpa using this
theorem ig {g:dm} {frm:List Int} (hg:nU g) (hf:Ff g frm) (x:Int):x∈cE g frm↔Rg g frm x:=by
 unfold cE;simp only[List.mem_map,List.mem_filter,List.mem_range];constructor
 ·rintro ⟨k,⟨hk,h⟩,rfl⟩
  exact (lX hg hf hk).1 h
 ·intro h
  have:=h.KT hg hf;refine ⟨x.toNat,⟨by omega,(lX hg hf (by omega)).2 (by rw[Int.toNat_of_nonneg this.1];exact h)⟩,by omega⟩
theorem vK (n:Nat) (p:Nat→Bool):(((List.range n).filter p).map fun x:Nat=>(x:Int)).Pairwise (· < ·):=by
 rw[List.pairwise_map];refine List.Pairwise.imp ?_ (List.pairwise_lt_range.sublist List.filter_sublist);intro a b h;omega
theorem BT (g:dm) (frm:List Int):(cE g frm).Pairwise (· < ·):=vK _ _
theorem oR (g:dm) (frm:List Int):(cE g frm).length≤g.length:=by
 unfold cE;rw[List.length_map];exact Nat.le_trans (List.length_filter_le _ _) (by simp)
def wE (g:dm) (i k:Nat):Bool:=(ic g [(i:Int)]).getD k false
def n7 (g:dm) (done:List Bool) (i:Nat):Bool:=!done.getD i false && (List.range g.length).all fun k=>!wE g i k || (wE g k i || done.getD k false)
def eu (g:dm) (i:Nat):List Nat:=(List.range g.length).filter fun k=>wE g i k && wE g k i
def j6 (g:dm) (done:List Bool) (own:List Nat):List Bool:=(List.range g.length).map fun x=>done.getD x false || own.contains x
def mz (g:dm):Nat→List Bool→Nat→List (List Nat)
 | 0,_,_=> []
 | f + 1,done,n=>if n < g.length then match (List.range g.length).find? (n7 g done) with
  | none=> []
  | some i=>eu g i::mz g f (j6 g done (eu g i)) (n + (eu g i).length)
  else []
def j8 (g:dm):List (List Nat):=mz g g.length ((List.range g.length).map fun _=>false) 0
theorem p7 {g:dm} (hg:nU g) {i k:Nat} (hi:i < g.length) (hk:k < g.length):wE g i k=true↔Rg g [(i:Int)] (k:Int):=
 lX hg (fun x hx=>by rw[List.mem_singleton.1 hx];omega) hk
theorem iJ {g:dm} (hg:nU g) {i:Nat} (hi:i < g.length):wE g i i=true:=(p7 hg hi hi).2 (.base (List.mem_singleton.2 rfl))
theorem qQ {g:dm} (hg:nU g) {i j k:Nat} (hi:i < g.length) (hj:j < g.length) (hk:k < g.length) (h1:wE g i j=true) (h2:wE g j k=true):wE g i k=true:=
 (p7 hg hi hk).2 (((p7 hg hi hj).1 h1).trans ((p7 hg hj hk).1 h2))
theorem m7 {g:dm} {done:List Bool} {i:Nat}:n7 g done i=true↔done.getD i false=false∧ ∀ k,k < g.length→wE g i k=true→wE g k i=true∨done.getD k false=true:=by
 unfold n7;simp only[Bool.and_eq_true,Bool.not_eq_true',List.all_eq_true,List.mem_range,Bool.or_eq_true];constructor
 ·rintro ⟨h1,h2⟩
  exact ⟨h1,fun k hk h=>(h2 k hk).resolve_left (by rw[h];decide)⟩
 ·rintro ⟨h1,h2⟩
  refine ⟨h1,fun k hk=>?_⟩
  cases h:wE g i k with
  | false=>exact .inl rfl
  | true=>exact .inr (h2 k hk h)
theorem Ji {g:dm} (hg:nU g) {done:List Bool}: ∀ (m i:Nat),i < g.length→done.getD i false=false→(ic g [(i:Int)]).countP id≤m→ ∃ k,k < g.length∧n7 g done k=true:=by
 intro m
 induction m with
 | zero=>
  intro i hi _ hm;have h1:=iJ hg hi;unfold wE at h1;rw[List.getD_eq_getElem?_getD] at h1
  have hl:i < (ic g [(i:Int)]).length:=by
   apply Decidable.byContradiction;intro hc;rw[List.getElem?_eq_none (by omega)] at h1;cases h1
  rw[List.getElem?_eq_getElem hl] at h1;have:0 < (ic g [(i:Int)]).countP id:=List.countP_pos_iff.2 ⟨_,List.getElem_mem hl,h1⟩;omega
 | succ m ih=>
  intro i hi hd hm;by_cases hr:n7 g done i=true
  ·exact ⟨i,hi,hr⟩
  ·rw[m7] at hr
   have: ∃ k,k < g.length∧wE g i k=true∧wE g k i=false∧done.getD k false=false:=by
    apply Decidable.byContradiction;intro hc;refine hr ⟨hd,fun k hk hik=>?_⟩;apply Decidable.byContradiction;intro hn;rw[not_or] at hn;exact hc ⟨k,hk,hik,by simpa using hn.1,by simpa using hn.2⟩
   obtain ⟨k,hk,h1,h2,h3⟩:=this;have hlen: ∀ j:Nat,(ic g [(j:Int)]).length=g.length:=fun j=>tQ g _ (by simp) _
   have hlt:(ic g [(k:Int)]).countP id < (ic g [(i:Int)]).countP id:=by
    refine mH (by rw[hlen,hlen]) (fun x hx h=>?_) fun e=>?_
    ·rw[hlen] at hx
     exact qQ hg hi hk hx h1 h
    ·have:=iJ hg hi
     unfold wE at this h2;rw[←e,h2] at this;cases this
   exact ih k hk h3 (by omega)
abbrev iM:aa:=.mk 0 0 [] []
def gb (n:Nat) (p:Nat→Bool):List Int:=((List.range n).filter p).map fun x:Nat=>(x:Int)
theorem kW {n:Nat} {p:Nat→Bool} {x:Int}:x∈gb n p↔0≤x∧x < n∧p x.toNat=true:=by
 unfold gb;simp only[List.mem_map,List.mem_filter,List.mem_range];constructor
 ·rintro ⟨k,⟨h1,h2⟩,rfl⟩
  exact ⟨by omega,by omega,by simpa using h2⟩
 ·rintro ⟨h1,h2,h3⟩
  exact ⟨x.toNat,⟨by omega,h3⟩,by omega⟩
def r5 (V:List Int) (t:aa):List Int:=gb V.length fun j=>(ej (dG t.all)).contains (V.getD j 0)
def dr (A:Int→Bool) (V:List Int) (T:List aa):List Bool:=(List.range V.length).map fun k=>(T.getD k iM).op == 4 && !A (V.getD k 0)
def bG (V:List Int) (T:List aa):List (List Int):=(List.range V.length).map fun k=>r5 V (T.getD k iM)
def rF (some:List Bool) (ln:List (List Int)):dm:=(List.range ln.length).map fun k=>if some.getD k false=true then ln.getD k [] else []
def iI (N:Int) (pr:List Bool) (ln:List (List Int)):List Bool:=(List.range ln.length).map fun j:Nat=>(List.range ln.length).any fun k=>!pr.getD k false && ((cE (rF pr ln) (ln.getD k [])).contains (j:Int) && (N == 0 || decide (k≤j)))
def eo (pr lt:List Bool):List Bool:=(List.range pr.length).map fun k=>pr.getD k false && !lt.getD k false
def kX (er:List Bool):List Nat:=(List.range er.length).filter fun k=>er.getD k false
def n5 (own:List Nat) (ln:List (List Int)):dm:=own.map fun k=>gb own.length fun b=>(ln.getD k []).contains ((own.getD b 0:Nat):Int)
def BC (pr lt:List Bool):List Int→Int→Int
 | [],m=>m
 | j::l,m=>BC pr lt l (if pr.getD j.toNat false=false∧lt.getD j.toNat false=false then max m (j + 1) else m)
def BB (g:dm) (pr lt:List Bool):List Nat→Int→Int
 | [],m=>m
 | k::l,m=>BB g pr lt l (BC pr lt (cE g [(k:Int)]) m)
structure gP where
 lv:Int
 vs:List Int
 ts:List aa
def cZ (V:List Int) (E:List aa) (pr lt:List Bool) (ln:List (List Int)):List gP:=
 (j8 (n5 (kX (eo pr lt)) ln)).map fun grp=>let ks:=grp.map fun a=>(kX (eo pr lt)).getD a 0
  ⟨BB (rF (eo pr lt) ln) pr lt ks 0,ks.map fun k=>V.getD k 0,ks.map fun k=>E.getD k iM⟩
def OU (f:gP):aa:=.mk 9 0 f.vs f.ts
def cj (l:List gP) (lv:Int):List aa:=(l.filter fun f=>f.lv == lv).map OU
def mA (v:Int) (e:aa):aa:=.mk 8 0 [v] [e]
def nc (v:Int) (e:aa):aa:=.mk 6 0 [] [.mk 2 v [] [e]]
def Oe (late:List Int) (op n:Int) (v:List Int) (t:List aa):aa:=
 if late.contains n=true then if op=1 then .mk 12 0 [] [.mk op n v t] else if op=2 then .mk 14 n v t else .mk op n v t else .mk op n v t
mutual
def aa.ask (late:List Int):aa→aa
 | .mk op n v t=>Oe late op n v (aa.asks late t)
def aa.asks (late:List Int):List aa→List aa
 | []=> []
 | x::xs=>aa.ask late x::aa.asks late xs
end
theorem aa.uw (late:List Int) (t:aa):t.ask late=Oe late t.op t.n t.v (t.t.map (aa.ask late)):=by
 have h: ∀ l,aa.asks late l=l.map (aa.ask late):=by
  intro l
  induction l with
  | nil=>rw[aa.asks];rfl
  | cons x l ih=>rw[aa.asks,ih];rfl
 cases t;rw[aa.ask,h];rfl
def jM (V:List Int) (E:List aa) (pr lt:List Bool) (f:List gP) (n:Nat):List aa:=
 cj f 0++(List.range n).flatMap fun k=>if lt.getD k false=true then [nc (V.getD k 0) (E.getD k iM)] else if pr.getD k false=true then [] else mA (V.getD k 0) (E.getD k iM)::cj f ((k:Int) + 1)
def qo (pr lt:List Bool) (k:Nat):Int:=(((List.range k).filter fun i=>!pr.getD i false && lt.getD i false).length:Int)
def fU (V:List Int) (E:List aa) (pr lt:List Bool) (f:List gP) (nx:Int) (n:Nat):List aa:=
 ((List.range n).flatMap fun k=>if pr.getD k false=true then [] else [mA (if lt.getD k false=true then nx + qo pr lt k else V.getD k 0) (E.getD k iM)])++
 ((List.range (n + 1)).flatMap fun k:Nat=>cj f (k:Int))++
 (List.range n).flatMap fun k=>if lt.getD k false=true then [nc (V.getD k 0) (if pr.getD k false=true then E.getD k iM else .mk 1 (nx + qo pr lt k) [] [])] else []
def jJ (l:List aa) (t:aa):aa:=l.foldr (fun x r=>.mk x.op x.n x.v (x.t++ [r])) t
def iV (V:List Int) (lt:List Bool):List Int:=((List.range V.length).filter fun k=>lt.getD k false).map fun k=>V.getD k 0
def jT (l:List Int):List aa:=if l.length=0 then [] else [.mk 8 0 l (l.map fun _=>.mk 13 0 [] [])]
def jS (A:Int→Bool) (N:Int) (V:List Int) (T:List aa) (nx:Int):aa×Int:=
 let pr:=dr A V T
 let ln:=bG V T
 let lt:=iI N pr ln
 let lv:=iV V lt
 let E:=T.map (aa.ask lv)
 let f:=cZ V E pr lt ln
 (jJ (jT lv++if N=1 then jM V E pr lt f V.length else fU V E pr lt f nx V.length) (E.getD V.length iM),if N=1 then nx else nx + qo pr lt V.length)
mutual
def aa.mI (A:Int→Bool):aa→Int→aa×Int
 | .mk op n v t,nx=>
  let r:=aa.cK A t nx
  if op=7 then jS A n v r.1 r.2 else (.mk op n v r.1,r.2)
def aa.cK (A:Int→Bool):List aa→Int→List aa×Int
 | [],nx=>([],nx)
 | x::xs,nx=>
  let a:=aa.mI A x nx
  let b:=aa.cK A xs a.2
  (a.1::b.1,b.2)
end
theorem aa.uJ (A:Int→Bool) (t:aa) (nx:Int):t.mI A nx=if t.op=7 then jS A t.n t.v (aa.cK A t.t nx).1 (aa.cK A t.t nx).2 else (.mk t.op t.n t.v (aa.cK A t.t nx).1,(aa.cK A t.t nx).2):=by
 cases t;rw[aa.mI];rfl
def uA (p:Prog):Prog:=⟨p.consts,(p.body.mI (fun v=>p.body.qs.contains v) (eU p.body)).1⟩
set_option maxHeartbeats 1000000
theorem Cu.jump {P:Program} {tt:Nat→TI} (hk:TT.ok P tt) {c rest:Code} {T:List PV} {Γ:List aj} {D:Ds} {Q:QT} (l:Nat) (hl:findLabel c l=some rest) (hq:de rest=true) (J:Nat→List PV→List aj→Prop)
  (h1:W P tt c T Γ D (rZ l D (fun T Γ=> ∃ m T0 Γ0,c8 T Γ T0 Γ0∧J m T0 Γ0) Q)) (h2: ∀ m T Γ,J m T Γ→W P tt rest T Γ D (rZ l D (fun T Γ=> ∃ k T0 Γ0,k < m∧c8 T Γ T0 Γ0∧J k T0 Γ0) Q)):Cu P c (W P tt c) T Γ D Q:=
 ⟨l,rest,J,hl,hq,h1,fun m T Γ hJ=>yp hk rest T Γ D _ (h2 m T Γ hJ)⟩
structure Cs {σ:Type} (ds:List Nat) (R:σ→List (Nat×PV)) (G:σ→List aj) (I:σ→Prop) (μ:σ→Nat) (T0:List PV) (s:Option σ) (T:List PV) (Γ:List aj):Prop where
 h: ∃ s',I s'∧(∀ s0,s=some s0→μ s' < μ s0)∧c8 T Γ (kf 0 T0 ds (R s')) (G s')
theorem zm {σ:Type} {ds:List Nat} {R:σ→List (Nat×PV)} {G:σ→List aj} {I:σ→Prop} {μ:σ→Nat} {T0:List PV} {s:Option σ} {l:Nat} {D:Ds} {T:List PV} {Γ Γ1:List aj} (s':σ) (hI:I s') (hμ: ∀ s0,s=some s0→μ s' < μ s0)
  (hw:bU 0 T T0 ds (R s')) [hp:bu Γ (G s') Γ1]:l=l∧D=D∧Cs ds R G I μ T0 s T Γ:=⟨rfl,rfl,s',hI,hμ,c8.of (bU.wk 0 T T0 ds (R s') hw) (au.drop hp.p)⟩
theorem Cu.over {σ:Type} {P:Program} {tt:Nat→TI} {c rest:Code} {T:List PV} {Γ:List aj} {D:Ds} {Q:QT} (hk:TT.ok P tt) (l:Nat) (hl:findLabel c l=some rest) (hq:de rest=true) (ds:List Nat) (R:σ→List (Nat×PV)) (G:σ→List aj) (I:σ→Prop) (μ:σ→Nat)
  (h1:W P tt c T Γ D (rZ l D (Cs ds R G I μ T none) Q)) (h2: ∀ s,I s→mq 0 T ds (R s) fun T0=>W P tt rest T0 (G s) D (rZ l D (Cs ds R G I μ T (some s)) Q)):Cu P c (W P tt c) T Γ D Q:=by
 refine Cu.jump hk l hl hq (fun m T' Γ=> ∃ s,I s∧m=μ s∧T'=kf 0 T ds (R s)∧Γ=G s) (oA _ _ _ _ _ _ ?_ h1) ?_
 ·intro e T' Γ D' h
  cases e<;>first | exact h | skip
  obtain ⟨e1,e2,⟨s',h3,_,h4⟩⟩:=h;exact ⟨e1,e2,μ s',_,_,h4,s',h3,rfl,rfl,rfl⟩
 ·rintro m _ _ ⟨s,hs,rfl,rfl,rfl⟩
  have hr:=h2 s hs;rw[jI] at hr;refine oA _ _ _ _ _ _ ?_ hr;intro e T' Γ D' h;cases e<;>first | exact h | skip
  obtain ⟨e1,e2,⟨s',h3,h5,h4⟩⟩:=h;exact ⟨e1,e2,μ s',_,_,h5 s rfl,h4,s',h3,rfl,rfl,rfl⟩
set_option maxHeartbeats 4000000
theorem uz (l:List Int) (hl:l.length≤1000000000):aA Tryz.prog 89 [gQ l] (gQ l):=by
 refine af.ah ai Tryz.func89 rfl rfl (n:=8) rfl rfl ?_
 conv=>whnf
 repeat' (first|refine nX ?_|((intro _);conv=>whnf)|(refine zX (fun hc=>?_) (fun hc=>?_)<;>(try simp only[SY] at hc)<;>(conv=>whnf)))
 ·rename_i q hq
  have:l= []:=by simpa using hq hc
  subst this;exact ak.pure (Wk.ec rfl)
 ·exact ak.pure wA
theorem CJ (l:List Datum) (hl:l.length≤1000000000):aA Tryz.prog 31 [.sl 5 (l.map Datum.pv) none] (.sl 5 (l.map Datum.pv) none):=by
 refine af.ah ai Tryz.func31 rfl rfl (n:=8) rfl rfl ?_
 conv=>whnf
 repeat' (first|refine nX ?_|((intro _);conv=>whnf)|(refine zX (fun hc=>?_) (fun hc=>?_)<;>(try simp only[SY] at hc)<;>(conv=>whnf)))
 ·rename_i q hq
  have:l= []:=by simpa using hq hc
  subst this;exact ak.pure (Wk.ec rfl)
 ·exact ak.pure wA
theorem u6 (k:Nat) (cap:List PV) (Γ1:List aj) (p:Int→Bool) (l:List Int) (hf: ∀ x∈l,af Tryz.prog k (.int .i64 x::cap) Γ1 (fun y Γ'=>y=.bool (p x)∧Γ'=Γ1)):
  af Tryz.prog 256 [gQ l,.fn (.func k) cap] Γ1 (fun y Γ'=>y=.int .i64 (dI p l)∧Γ'=Γ1):=by
 refine af.ah ai Tryz.func256 rfl rfl (n:=19) rfl rfl ?_
 conv=>whnf
 repeat (first|refine Qf ?_|((intro _);conv=>whnf))
 refine ax.keep [4,5,8,9,10,11,12,13,14,15,16,17,18] (fun i:Nat=> [(8,.int .i64 i)]) (fun i=>i≤l.length∧dI p l=if dI p (l.drop i)= -1 then -1 else i + dI p (l.drop i)) (fun i=>l.length - i) 0 ⟨by omega,by simp only[List.drop_zero];split<;>omega⟩ wA ?_;rintro i ⟨h1,h2⟩
 conv=>whnf
 repeat' (first|refine nX ?_|(refine zX (fun hc=>?_) (fun hc=>?_)<;>(try simp only[SY] at hc)<;>(conv=>whnf)))
 ·refine aq.same (hf _ (List.getElem_mem (show i < l.length by omega))) (aX.refl _) ?_
  rintro _ _ ⟨rfl,rfl⟩;rw[aJ (show i < l.length by omega),dI] at h2
  conv=>whnf
  repeat' (first|refine nX ?_|(refine zX (fun hc=>?_) (fun hc=>?_)<;>(try simp only[SY] at hc)<;>(conv=>whnf)))
  ·rw[hc] at h2
   refine ak.gen (Wk.int ?_) ⟨rfl,rfl⟩;simpa using h2.symm
  ·rw[hc] at h2
   refine av (i + 1) ⟨by omega,?_⟩ (by show l.length - (i + 1) < l.length - i;omega) wA;rw[h2];have hg:=kT p (l.drop (i + 1));simp only[Bool.false_eq_true,if_false]
   split
   ·simp
   ·rw[if_neg (by omega)];omega
 ·rw[List.drop_of_length_le (by omega)] at h2
  exact ak.gen (Wk.int (by rw[h2];rfl)) ⟨rfl,rfl⟩
theorem j3 (k:Nat) (cap:List PV) (Γ1:List aj) (p:Int→Bool) (l:List Int) (hf: ∀ x∈l,af Tryz.prog k (.int .i64 x::cap) Γ1 (fun y Γ'=>y=.bool (p x)∧Γ'=Γ1)):
  af Tryz.prog 231 [gQ l,.fn (.func k) cap] Γ1 (fun y Γ'=>y=.bool (l.any p)∧Γ'=Γ1):=by
 refine af.ah ai Tryz.func231 rfl rfl (n:=9) rfl rfl ?_
 conv=>whnf
 skip
 refine aq.same (u6 k cap Γ1 p l hf) (aX.refl _) ?_;rintro _ _ ⟨rfl,rfl⟩
 conv=>whnf
 skip
 exact ak.gen (Wk.bool (kS p l)) ⟨rfl,rfl⟩
section
variable {P:Program} {tt:Nat→TI}
theorem ax.jy {B:List PV→List aj→Ds→QT→Prop} {T:List PV} {Γ Γ':List aj} {D:Ds} {Q:QT} (hg:au Γ Γ') (h:ax B T Γ' D Q):ax B T Γ D Q:=by
 obtain ⟨I,J,⟨n,T0,Γ0,h1,h2⟩,h3,h4⟩:=h.h;refine ⟨I,J,⟨n,T0,Γ0,fun w0 F M w vs hS hT=>?_,h2⟩,h3,h4⟩;obtain ⟨F1,e1,hS1⟩:=hg w0 F M w hS;obtain ⟨F2,e2,hS2,hT2⟩:=h1 w0 F1 M w vs hS1 (ay.mono e1 _ _ hT);exact ⟨F2,Fz.le_trans e1 e2,hS2,hT2⟩
end
mutual
def aa.Kn:aa→List Int
 | .mk op n _ t=>(if op=2 then [n] else [])++aa.vZ t
def aa.vZ:List aa→List Int
 | []=> []
 | x::l=>aa.Kn x++aa.vZ l
end
theorem aa.JP (t:aa):t.Kn=(if t.op=2 then [t.n] else [])++aa.vZ t.t:=by cases t;rw[aa.Kn];rfl
theorem aa.rD: ∀ l:List aa,aa.vZ l=l.flatMap aa.Kn
 | []=>by rw[aa.vZ];rfl
 | x::l=>by rw[aa.vZ,aa.rD l];rfl
theorem JI (r:Nat) (t:aa): ∀ (L:List Int),t.aR≤1000000000→af Tryz.prog 29 [.agg t.cells,.mp r] [.mp r (.int .i64) (aS L) []] (fun y Γ'=>y=.bp []∧ ∃ L',(∀ x,x∈L'↔x∈L∨x∈t.Kn)∧Γ'= [.mp r (.int .i64) (aS L') []]):=by
 induction t using aa.ind with
 | h t ih=>
  intro L hb;have hbe:=t.bE;have hbs:=aa.bn t.t;have he:=t.JP;refine af.ah ai Tryz.func29 rfl rfl (n:=23) rfl rfl ?_
  conv=>whnf
  repeat (((intro _);conv=>whnf))
  rename_i b1;refine nV.join (fun _=> []) (fun L'=> [.box b1 [.int .i64 t.op,.int .i64 t.n,.sl 1 (t.v.map (PV.int .i64)) none,.sl 4 (t.t.map aa.pv) none],.mp r (.int .i64) (aS L') []]) (fun L'=> ∀ x,x∈L'↔x∈L∨x∈(if t.op=2 then [t.n] else [])) ?_ ?_
  ·conv=>whnf
   repeat' (first|refine aY ?_|(refine zX (fun hc=>?_) (fun hc=>?_)<;>(try simp only[SY] at hc)<;>(conv=>whnf)))
   ·exact jb (t.n::L) (by intro x;rw[if_pos hc];simp[or_comm]) wA
   ·exact jb L (by intro x;rw[if_neg (by omega)];simp) wA
  ·intro L1 hL1
   conv=>whnf
   repeat (first|refine wu ?_|((intro _);conv=>whnf))
   refine ax.over [5,15,16,17,18,19,20,21,22] (fun x:Nat×List Int=> [(15,.int .i64 x.1)]) (fun x:Nat×List Int=> [.box b1 [.int .i64 t.op,.int .i64 t.n,.sl 1 (t.v.map (PV.int .i64)) none,.sl 4 (t.t.map aa.pv) none],.mp r (.int .i64) (aS x.2) []])
    (fun x=>x.1≤t.t.length∧ ∀ y,y∈x.2↔y∈L1∨y∈aa.vZ (t.t.take x.1)) (fun x=>t.t.length - x.1) (0,L1) ⟨Nat.zero_le _,by simp[aa.vZ]⟩ wA ?_
   rintro ⟨i,L2⟩ ⟨hi,hL2⟩;dsimp only at hi hL2⊢
   conv=>whnf
   repeat' (first|refine aY ?_|((intro _);conv=>whnf)|(refine zX (fun hc=>?_) (fun hc=>?_)<;>(try simp only[SY] at hc)<;>(conv=>whnf)))
   ·have hlt:i < t.t.length:=by omega
    refine aq.go (ih _ (List.getElem_mem hlt) L2 (by have:=aa.cJ (List.getElem_mem hlt);omega)) (aX.refl _) ?_;rintro _ _ ⟨rfl,L3,hL3,rfl⟩
    conv=>whnf
    repeat' (first|refine aY ?_|(refine zX (fun hc=>?_) (fun hc=>?_)<;>(try simp only[SY] at hc)<;>omega))
    refine av (i + 1,L3) ⟨by show i + 1≤_;omega,fun y=>?_⟩ (by show t.t.length - (i + 1) < t.t.length - i;omega) wA;rw[hL3,hL2,List.take_succ_eq_append_getElem hlt,aa.rD,aa.rD,List.flatMap_append,List.mem_append,or_assoc];simp
   ·rw[List.take_of_length_le (by omega)] at hL2
    refine ak.gen (Γ':= [.mp r (.int .i64) (aS L2) []]) (Wk.refl _) ⟨rfl,L2,fun y=>?_,rfl⟩;rw[hL2,hL1,he,List.mem_append,or_assoc]
abbrev Ht (bf bl:Nat) (late:List Int):List aj:= [.box bf [.fn (.func 146) [.ptr bf 0,.ptr bl 0]],.box bl [gQ late]]
theorem FD {p q:Prop} (k:q) (h:q→p:=by intro hq;first | exact aD.sP (some 8) rfl [8] [9] ai mixed hq):p:=h k
theorem Dy (t:aa) (bf bl:Nat) (late:List Int) (f:aa→aa) (hb:t.aR≤1000000000)
  (hf: ∀ x∈t.t,af Tryz.prog 146 [.agg x.cells,.ptr bf 0,.ptr bl 0] (Ht bf bl late) (fun y Γ'=>y=.agg (f x).cells∧Γ'=Ht bf bl late)):
  af Tryz.prog 51 [.agg t.cells,.fn (.func 146) [.ptr bf 0,.ptr bl 0]] (Ht bf bl late) (fun y Γ'=>y=.agg (aa.mk t.op t.n t.v (t.t.map f)).cells∧Γ'=Ht bf bl late):=by
 have hbe:=t.bE;have hbs:=aa.bn t.t;refine af.ah ai Tryz.func51 rfl rfl (n:=33) rfl rfl ?_
 conv=>whnf
 repeat (first|refine wu ?_|((first|((apply zZ);(conv=>whnf);(repeat ((refine pC (uz t.v (by omega)) wR ?_);conv=>whnf));exact pZ)|refine FD ?_|intro _);conv=>whnf))
 rename_i b2 b4 b5 _;refine ax.jy (au.trans (au.nil 4 26 _) (au.box (b:=b5) (cs:= [.int .i64 t.op,.int .i64 t.n,gQ t.v,.nil]) (cs':= [.int .i64 t.op,.int .i64 t.n,gQ t.v,.sl 4 (([]:List aa).map aa.pv) (some (aB 4 26))]) wA)) ?_
 refine ax.over [7,19,20,21,22,23,24,25,26,27,28,29,30,31] (fun x:Nat×List aa×Tok=> [(19,.int .i64 x.1)]) (fun x=> [.box b5 [.int .i64 t.op,.int .i64 t.n,gQ t.v,.sl 4 (x.2.1.map aa.pv) (some x.2.2)],.tok x.2.2,.box b4 [.int .i64 0,.int .i64 0,.nil,.nil],.box b2 [.int .i64 t.op,.int .i64 t.n,gQ t.v,.sl 4 (t.t.map aa.pv) none],.box bf [.fn (.func 146) [.ptr bf 0,.ptr bl 0]],.box bl [gQ late]])
  (fun x=>x.1≤t.t.length∧x.2.2.e=26∧x.2.1=(t.t.take x.1).map f) (fun x=>t.t.length - x.1) (0, [],aB 4 26) ⟨Nat.zero_le _,rfl,rfl⟩ wA ?_
 rintro ⟨i,l,tk⟩ ⟨hi,hte,hl⟩;dsimp only at hi hte hl ⊢;have hrl:l.length=i:=by rw[hl];simp;omega
 rcases Nat.lt_or_ge i t.t.length with hlt | hge
 ·have hfi:=hf _ (List.getElem_mem hlt)
  have hsn:l++ [f t.t[i]]=(t.t.take (i + 1)).map f:=by rw[List.take_succ_eq_append_getElem hlt,List.map_append,hl];rfl
  conv=>whnf
  repeat' (first|refine aY ?_|((intro _);conv=>whnf)|(refine zX (fun hc=>?_) (fun hc=>?_)<;>(try simp only[SY] at hc)<;>first|omega|(conv=>whnf)))
  refine aD.sE [.tok tk,.box bf [.fn (.func 146) [.ptr bf 0,.ptr bl 0]],.box bl [gQ late]] [4,5] [6,7,8] ai mixed ?_
  conv=>whnf
  conv=>whnf
  repeat' (first|refine aY ?_|((first|refine aq.read (hfi) wR ?_|intro _);conv=>whnf)|(refine zX (fun hc=>?_) (fun hc=>?_)<;>(try simp only[SY] at hc)<;>omega))
  rename Tok=>t5
  exact av (i + 1,l++ [f t.t[i]],t5) ⟨by show i + 1≤_;omega,by assumption,hsn⟩ (by show t.t.length - (i + 1) < t.t.length - i;omega) wA
 ·rw[List.take_of_length_le (by omega)] at hl
  rw[←hl]
  conv=>whnf
  repeat' (first|refine aY ?_|(refine zX (fun hc=>?_) (fun hc=>?_)<;>(try simp only[SY] at hc)<;>first|omega|(conv=>whnf)))
  exact ak.gen (y:=.agg (aa.mk t.op t.n t.v l).cells) (Γ':=Ht bf bl late) eg.wk ⟨rfl,rfl⟩
theorem CG (bf bl:Nat) (late:List Int) (t:aa):t.aR≤1000000000→af Tryz.prog 146 [.agg t.cells,.ptr bf 0,.ptr bl 0] (Ht bf bl late) (fun y Γ'=>y=.agg (t.ask late).cells∧Γ'=Ht bf bl late):=by
 induction t using aa.ind with
 | h t ih=>
  intro hb;have hbe:=t.bE;have hrb:=Dy t bf bl late (aa.ask late) hb (fun x hx=>ih x hx (by have:=aa.cJ hx;omega));have hak:=t.uw late;unfold Oe at hak
  obtain ⟨m,hm,hak⟩: ∃ m,aa.mk t.op t.n t.v (t.t.map (aa.ask late))=m∧t.ask late=if late.contains t.n=true then if t.op=1 then .mk 12 0 [] [m] else if t.op=2 then .mk 14 m.n m.v m.t else m else m:=⟨_,rfl,hak⟩
  rw[hm] at hrb;refine af.ah ai Tryz.func146 rfl rfl (n:=28) rfl rfl ?_
  conv=>whnf
  repeat' (first|refine aY ?_|((first|refine pC (fE late t.n) wR ?_|refine aq.read (hrb) wR ?_|intro _);conv=>whnf)|(refine zX (fun hc=>?_) (fun hc=>?_)<;>(try simp only[SY] at hc)<;>(conv=>whnf)))
  ·rw[hak,if_neg (by simp_all)]
   exact ak.gen (y:=.agg m.cells) (Γ':=Ht bf bl late) eg.wk ⟨rfl,rfl⟩
  ·rw[hak,if_pos (by simp_all),if_pos (by omega)]
   exact ak.gen (y:=.agg (aa.mk 12 0 [] [m]).cells) (Γ':=Ht bf bl late) eg.wk ⟨rfl,rfl⟩
  ·rw[hak,if_pos (by simp_all),if_neg (by omega),if_pos (by omega)]
   exact ak.gen (y:=.agg (aa.mk 14 m.n m.v m.t).cells) (Γ':=Ht bf bl late) eg.wk ⟨rfl,rfl⟩
  ·rw[hak,if_pos (by simp_all),if_neg (by omega),if_neg (by omega)]
   exact ak.gen (y:=.agg m.cells) (Γ':=Ht bf bl late) eg.wk ⟨rfl,rfl⟩
theorem rN (t:aa) (late:List Int) (hb:t.aR≤1000000000):aA Tryz.prog 91 [.agg t.cells,gQ late] (.agg (t.ask late).cells):=by
 refine af.ah ai Tryz.func91 rfl rfl (n:=10) rfl rfl ?_
 conv=>whnf
 repeat' (first|refine aY ?_|((intro _);conv=>whnf)|(refine zX (fun hc=>?_) (fun hc=>?_)<;>(try simp only[SY] at hc)<;>omega))
 rename_i b2 b3 b4 b5;refine aq.read (CG b5 b3 late t hb) (aX.refl _) ?_
 conv=>whnf
 repeat' (first|refine aY ?_|(refine zX (fun hc=>?_) (fun hc=>?_)<;>(try simp only[SY] at hc)<;>omega))
 exact ak.pure eg.wk
def PJ (g:dm) (done:List Bool):List Nat:=(List.range g.length).filter fun x=>done.getD x false
def EM (g:dm) (done:List Bool):List Nat:=(List.range g.length).filter fun x=>!done.getD x false
structure Hh (g:dm) (done:List Bool) (n:Nat):Prop where
 len:done.length=g.length
 cl: ∀ i k,i < g.length→k < g.length→done.getD i false=true→wE g i k=true→wE g k i=true→done.getD k false=true
 n:(PJ g done).length=n
theorem vF (l:List Nat) (p:Nat→Bool):(l.filter p++l.filter fun x=>!p x).Perm l:=List.filter_append_perm p l
theorem uN (g:dm) (done:List Bool):(PJ g done).length + (EM g done).length=g.length:=by
 have:=(vF (List.range g.length) fun x=>done.getD x false).length_eq;rw[List.length_append,List.length_range] at this;exact this
theorem iz {g:dm} {i x:Nat}:x∈eu g i↔x < g.length∧wE g i x=true∧wE g x i=true:=by
 unfold eu;rw[List.mem_filter,List.mem_range,Bool.and_eq_true]
section
variable {g:dm} {done:List Bool} {n i:Nat}
theorem Lp (h:Hh g done n) (hi:i < g.length) (hr:n7 g done i=true) {x:Nat} (hx:x∈eu g i):done.getD x false=false:=by
 obtain ⟨h1,h2,h3⟩:=iz.1 hx
 cases hd:done.getD x false with
 | false=>rfl
 | true=>exact absurd (h.cl x i h1 hi hd h3 h2) (by rw[(m7.1 hr).1];decide)
theorem tJ {x:Nat} (hx:x < g.length):(j6 g done (eu g i)).getD x false=true↔done.getD x false=true∨x∈eu g i:=by
 unfold j6;rw[eT _ hx];simp
theorem EN (h:Hh g done n) (hi:i < g.length) (hr:n7 g done i=true):(EM g done).Perm (eu g i++EM g (j6 g done (eu g i))):=by
 have h1:=(vF (EM g done) fun x=>(eu g i).contains x).symm
 have e1:(EM g done).filter (fun x=>(eu g i).contains x)=eu g i:=by
  unfold EM;rw[List.filter_filter];unfold eu;refine List.filter_congr fun x hx=>?_;rw[Bool.eq_iff_iff,Bool.and_eq_true,List.contains_iff_mem,List.mem_filter];constructor
  ·exact fun hh=>hh.1.2
  ·intro hh
   refine ⟨⟨hx,hh⟩,?_⟩;have:x∈eu g i:=iz.2 ⟨List.mem_range.1 hx,by simpa using hh⟩;rw[Lp h hi hr this];rfl
 have e2:(EM g done).filter (fun x=>!(eu g i).contains x)=EM g (j6 g done (eu g i)):=by
  unfold EM;rw[List.filter_filter];refine List.filter_congr fun x hx=>?_;have:=tJ (done:=done) (i:=i) (List.mem_range.1 hx)
  cases hd:(j6 g done (eu g i)).getD x false with
  | true=>
   rcases this.1 hd with h2 | h2
   ·rw[h2];simp
   ·simp[h2]
  | false=>
   have h3: ¬(done.getD x false=true∨x∈eu g i):=fun hh=>by rw[this.2 hh] at hd;cases hd
   rw[not_or] at h3;simp only[Bool.not_eq_true] at h3;rw[h3.1];simp[h3.2]
 rw[e1,e2] at h1;exact h1
theorem Hh.next (hg:nU g) (h:Hh g done n) (hi:i < g.length) (hr:n7 g done i=true):Hh g (j6 g done (eu g i)) (n + (eu g i).length):=by
 refine ⟨by unfold j6;simp,fun a k ha hk hd h1 h2=>?_,?_⟩
 ·rw[tJ ha] at hd
  rw[tJ hk];rcases hd with hd | hd
  ·exact .inl (h.cl a k ha hk hd h1 h2)
  ·obtain ⟨q1,q2,q3⟩:=iz.1 hd
   exact .inr (iz.2 ⟨hk,qQ hg hi ha hk q2 h1,qQ hg hk ha hi h2 q3⟩)
 ·have h1:=(EN h hi hr).length_eq
  rw[List.length_append] at h1;have h2:=uN g done;have h3:=uN g (j6 g done (eu g i));have h4:=h.n;omega
end
theorem Hh.zero (g:dm):Hh g ((List.range g.length).map fun _=>false) 0:=by
 refine ⟨by simp,fun i k hi hk hd=>?_,?_⟩
 ·rw[eT _ hi] at hd
  cases hd
 ·unfold PJ
  rw[List.length_eq_zero_iff,List.filter_eq_nil_iff];intro x hx;rw[eT _ (List.mem_range.1 hx)];decide
theorem Hh.find {g:dm} (hg:nU g) {done:List Bool} {n:Nat} (h:Hh g done n) (hn:n < g.length): ∃ i,i < g.length∧n7 g done i=true∧(List.range g.length).find? (n7 g done)=some i:=by
 have h1:=uN g done;have h2:=h.n;have h3:0 < (EM g done).length:=by omega
 obtain ⟨x,hx⟩:=List.exists_mem_of_length_pos h3;obtain ⟨hx1,hx2⟩:=List.mem_filter.1 hx;obtain ⟨k,hk,hr⟩:=Ji hg _ x (List.mem_range.1 hx1) (by simpa using hx2) (Nat.le_refl _)
 cases hf:(List.range g.length).find? (n7 g done) with
 | none=>exact absurd hr (List.find?_eq_none.1 hf k (List.mem_range.2 hk))
 | some i=>exact ⟨i,List.mem_range.1 (List.mem_of_find?_eq_some hf),List.find?_some hf,rfl⟩
theorem xD {g:dm} (hg:nU g): ∀ (f:Nat) (done:List Bool) (n:Nat),Hh g done n→g.length≤n + f→(mz g f done n).flatten.Perm (EM g done)
 | 0,done,n,h,hf=>by
  rw[mz];have h1:=uN g done;have h2:=h.n;rw[List.eq_nil_of_length_eq_zero (show (EM g done).length=0 by omega)];exact List.Perm.nil
 | f + 1,done,n,h,hf=>by
  rw[mz];by_cases hn:n < g.length
  ·obtain ⟨i,hi,hr,e⟩:=h.find hg hn
   rw[if_pos hn,e];have hpos:0 < (eu g i).length:=List.length_pos_of_mem (iz.2 ⟨hi,iJ hg hi,iJ hg hi⟩);have:=xD hg f _ _ (h.next hg hi hr) (by omega);rw[List.flatten_cons];exact (List.Perm.append_left _ this).trans (EN h hi hr).symm
  ·rw[if_neg hn]
   have h1:=uN g done;have h2:=h.n;rw[List.eq_nil_of_length_eq_zero (show (EM g done).length=0 by omega)];exact List.Perm.nil
theorem mO {g:dm} (hg:nU g):(j8 g).flatten.Perm (List.range g.length):=by
 refine (xD hg _ _ _ (Hh.zero g) (by omega)).trans ?_;unfold EM;rw[List.filter_eq_self.2];intro x hx;rw[eT _ (List.mem_range.1 hx)];rfl
instance bV.Q8 (l:List Int) (tk:Option Tok):bV gQ (.sl 1 (l.map (PV.int .i64)) tk) l:=⟨Wk.tok _ _ _,.cons (Wk.tok _ _ _) .nil⟩
instance:bV PV.bool .aV true:=⟨Wk.tt rfl,.cons (Wk.tt rfl) .nil⟩
instance:bV PV.bool .bfalse false:=⟨Wk.ff rfl,.cons (Wk.ff rfl) .nil⟩
theorem au.GG {Γ Γ1:List aj} {t:Tok} {es es':List PV} [hp:iD Γ (.row t es) Γ1] (h:o8 es es'):au Γ (.row t es'::Γ1):=fun w0 F M w hS=>by
 have hS':=hS.perm (hp.p.append_right M);have hS':aP w0 F (.row t es::(Γ1++M)) w:=by simpa using hS'
 refine ⟨F,Fz.le_refl F,⟨hS'.below,hS'.fz,fun x hx=>?_,?_⟩⟩
 ·rcases List.mem_cons.1 hx with rfl | hx
  ·obtain ⟨⟨xs,hown,hr⟩,hes,e2,hfree⟩:=hS'.e7 _ (List.mem_cons_self ..)
   exact ⟨⟨xs,hown,h.flat.rep hr⟩,h.sizes hes,h.length▸e2,hfree⟩
  ·exact hS'.e7 x (List.mem_cons_of_mem _ hx)
 ·have:=List.pairwise_cons.1 hS'.sep
  exact List.pairwise_cons.2 ⟨this.1,this.2⟩
abbrev Kh (g:dm):PV:=.sl 1 (g.map gQ) none
theorem sD (k:Nat) (cap:List PV) (Γ1:List aj) (p:List Int→Bool) (l:dm) (hf: ∀ x∈l,af Tryz.prog k (gQ x::cap) Γ1 (fun y Γ'=>y=.bool (p x)∧Γ'=Γ1)):
  af Tryz.prog 257 [Kh l,.fn (.func k) cap] Γ1 (fun y Γ'=>y=.int .i64 (dI p l)∧Γ'=Γ1):=by
 refine af.ah ai Tryz.func257 rfl rfl (n:=19) rfl rfl ?_
 conv=>whnf
 repeat (first|refine wu ?_|((intro _);conv=>whnf))
 refine ax.keep [4,5,8,9,10,11,12,13,14,15,16,17,18] (fun i:Nat=> [(8,.int .i64 i)]) (fun i=>i≤l.length∧dI p l=if dI p (l.drop i)= -1 then -1 else i + dI p (l.drop i)) (fun i=>l.length - i) 0 ⟨by omega,by simp only[List.drop_zero];split<;>omega⟩ wA ?_;rintro i ⟨h1,h2⟩
 conv=>whnf
 repeat' (first|refine aY ?_|(refine zX (fun hc=>?_) (fun hc=>?_)<;>(try simp only[SY] at hc)<;>(conv=>whnf)))
 ·refine aq.same (hf _ (List.getElem_mem (show i < l.length by omega))) (aX.refl _) ?_
  rintro _ _ ⟨rfl,rfl⟩;rw[aJ (show i < l.length by omega),dI] at h2
  conv=>whnf
  repeat' (first|refine aY ?_|(refine zX (fun hc=>?_) (fun hc=>?_)<;>(try simp only[SY] at hc)<;>(conv=>whnf)))
  ·rw[hc] at h2
   refine ak.gen (Wk.int ?_) ⟨rfl,rfl⟩;simpa using h2.symm
  ·rw[hc] at h2
   refine av (i + 1) ⟨by omega,?_⟩ (by show l.length - (i + 1) < l.length - i;omega) wA;rw[h2];have hg:=kT p (l.drop (i + 1));simp only[Bool.false_eq_true,if_false]
   split
   ·simp
   ·rw[if_neg (by omega)];omega
 ·rw[List.drop_of_length_le (by omega)] at h2
  exact ak.gen (Wk.int (by rw[h2];rfl)) ⟨rfl,rfl⟩
theorem oD (k:Nat) (cap:List PV) (Γ1:List aj) (p:List Int→Bool) (l:dm) (hf: ∀ x∈l,af Tryz.prog k (gQ x::cap) Γ1 (fun y Γ'=>y=.bool (p x)∧Γ'=Γ1)):
  af Tryz.prog 232 [Kh l,.fn (.func k) cap] Γ1 (fun y Γ'=>y=.bool (l.any p)∧Γ'=Γ1):=by
 refine af.ah ai Tryz.func232 rfl rfl (n:=9) rfl rfl ?_
 conv=>whnf
 skip
 refine aq.same (sD k cap Γ1 p l hf) (aX.refl _) ?_;rintro _ _ ⟨rfl,rfl⟩
 conv=>whnf
 skip
 exact ak.gen (Wk.bool (kS p l)) ⟨rfl,rfl⟩
def yt (g:dm) (x:Int):Bool:=decide (x < 0) || decide ((g.length:Int)≤x)
abbrev Kf (b b2:Nat) (g:dm):List aj:= [.box b [Kh g],.box b2 [.fn (.func 230) [.ptr b 0]]]
theorem yf (b b2:Nat) (g:dm) (x:Int):af Tryz.prog 230 [.int .i64 x,.ptr b 0] (Kf b b2 g) (fun y Γ'=>y=.bool (yt g x)∧Γ'=Kf b b2 g):=by
 unfold yt;refine af.ah ai Tryz.func230 rfl rfl (n:=12) rfl rfl ?_
 conv=>whnf
 repeat' (first|refine aY ?_|(refine zX (fun hc=>?_) (fun hc=>?_)<;>(try simp only[SY] at hc)<;>omega))
 all_goals exact ak.gen (by first | exact Wk.refl _ | (refine Wk.bool ?_;simp;try omega)) ⟨rfl,rfl⟩
theorem Kg (b b2:Nat) (g:dm) (l:List Int):af Tryz.prog 233 [gQ l,.ptr b2 0] (Kf b b2 g) (fun y Γ'=>y=.bool (l.any (yt g))∧Γ'=Kf b b2 g):=by
 refine af.ah ai Tryz.func233 rfl rfl (n:=7) rfl rfl ?_
 conv=>whnf
 repeat' (first|refine aY ?_|(refine zX (fun hc=>?_) (fun hc=>?_)<;>(try simp only[SY] at hc)<;>omega))
 refine aq.go (j3 230 [.ptr b 0] (Kf b b2 g) (yt g) l (fun x _=>yf b b2 g x)) (aX.refl _) ?_;rintro _ _ ⟨rfl,rfl⟩
 conv=>whnf
 skip
 exact ak.gen (Wk.refl _) ⟨rfl,rfl⟩
theorem AJ {g:dm} {l:List Int} (h:Ff g l):l.any (yt g)=false:=by
 rw[List.any_eq_false];intro x hx;have:=h x hx;unfold yt;simp;omega
theorem Fb (g:dm) (frm:List Int) (hg:nU g) (hf:Ff g frm) (hl:g.length≤1000):aA Tryz.prog 191 [Kh g,gQ frm] .bfalse:=by
 have h1:=AJ hf
 have h2:g.any (fun l=>l.any (yt g))=false:=by
  rw[List.any_eq_false];intro l hl;rw[AJ (hg l hl)];simp
 refine af.ah ai Tryz.func191 rfl rfl (n:=20) rfl rfl ?_
 conv=>whnf
 repeat' (first|refine aY ?_|((intro _);conv=>whnf)|(refine zX (fun hc=>?_) (fun hc=>?_)<;>(try simp only[SY] at hc)<;>omega))
 rename_i b b2 _
 have e1:af Tryz.prog 231 [gQ frm,.fn (.func 230) [.ptr b 0]] (Kf b b2 g) (fun y Γ'=>y=.bool false∧Γ'=Kf b b2 g):=by
  have:=j3 230 [.ptr b 0] (Kf b b2 g) (yt g) frm (fun x _=>yf b b2 g x);rwa [h1] at this
 have e2:af Tryz.prog 232 [Kh g,.fn (.func 233) [.ptr b2 0]] (Kf b b2 g) (fun y Γ'=>y=.bool false∧Γ'=Kf b b2 g):=by
  have:=oD 233 [.ptr b2 0] (Kf b b2 g) (fun l=>l.any (yt g)) g (fun l _=>Kg b b2 g l);rwa [h2] at this
 conv=>whnf
 repeat' (first|refine aY ?_|(((((apply zY;intro hg));(conv=>whnf);(repeat ((first|refine aq.read (e1) wR ?_|refine aq.read (e2) wR ?_|refine aH ?_);conv=>whnf));exact pZ));conv=>whnf)|(refine zX (fun hc=>?_) (fun hc=>?_)<;>(try simp only[SY] at hc)<;>omega))
 rw[show (decide ((g.length:Int) > 1000) || false || false)=false by simp;omega];exact ak.pure (fun F v h=>by simpa[aC] using h)
theorem kL.IU {s:Nat} {e:TypeId} {K:PV→aj→Prop} (k: ∀ t:Tok,t.e=e→t.s=s→K (.ms t) (.row t (([]:List Int).map (PV.int .i64)))):kL s [] e K:=
 ⟨by simp,by simp,.inr k⟩
theorem Shift.qJ {x:PV} {Γ Γ':List aj} (hg:au Γ Γ'):Shift x Γ x Γ':=fun w0 F M w v hS hx=>by
 obtain ⟨F',h1,h2⟩:=hg w0 F M w hS;exact ⟨F',h1,h2,aC.mono h1 x v hx⟩
theorem ak.qJ {x:PV} {Γ Γ':List aj} {Q:PV→List aj→Prop} (hg:au Γ Γ') (h:ak x Γ' Q):ak x Γ Q:=by
 obtain ⟨y,Γ2,h1,h2⟩:=h;exact ⟨y,Γ2,Shift.trans (Shift.qJ hg) h1,h2⟩
theorem GK:(fun (_:Value)=>(none:Option PV))=aS []:=by
 funext v;unfold aS
 split<;>rfl
theorem CK (l:List Int) (hl:l.length≤1000000000):af Tryz.prog 89 [gQ l] [] (fun y Γ'=> ∃ t:Tok,t.e=3∧t.s=1∧y=.ms t∧Γ'= [.row t (l.map (PV.int .i64))]):=by
 refine af.ah ai Tryz.func89 rfl rfl (n:=8) rfl rfl ?_
 conv=>whnf
 repeat' (first|((first|refine kL.IU ?_|refine aM ?_|refine aF ?_|intro _);conv=>whnf)|(refine zX (fun hc=>?_) (fun hc=>?_)<;>(try simp only[SY] at hc)<;>(conv=>whnf)))
 ·rename_i q hq
  have:l= []:=by simpa using hq hc
  subst this;refine ak.qJ (Γ':= [.row (aB 1 3) (([]:List Int).map (PV.int .i64))]) (au.cz 1 3 _) ?_;exact ak.gen (Wk.cz 1 3) ⟨_,rfl,rfl,rfl,rfl⟩
 ·rename_i t2 ht2 hs2
  rw[List.nil_append];exact ak.gen (Wk.refl _) ⟨t2,by assumption,by assumption,rfl,rfl⟩
def N7 (g:dm) (S:List Int):Nat:=((List.range g.length).map fun k:Nat=>if S.contains (k:Int) then 0 else (g.getD k []).length + 1).sum
theorem E6 {f f':Nat→Nat} {v c:Nat} (h2:f v=f' v + c) (h1: ∀ k,k≠v→f k=f' k): ∀ l:List Nat,l.Nodup→v∈l→(l.map f).sum=(l.map f').sum + c
 | [],_,h=>by cases h
 | x::l,hn,hv=>by
  rw[List.nodup_cons] at hn;rw[List.map_cons,List.map_cons,List.sum_cons,List.sum_cons];by_cases e:x=v
  ·subst e
   have:l.map f=l.map f':=List.map_congr_left fun k hk=>h1 k fun e=>hn.1 (e▸hk);rw[this,h2];omega
  ·have ih:=E6 h2 h1 l hn.2 ((List.mem_cons.1 hv).resolve_left fun h=>e h.symm)
   rw[ih,h1 x e];omega
theorem As {g:dm} {S:List Int} {k:Nat} (hk:k < g.length) (h: ¬(k:Int)∈S):N7 g S=N7 g ((k:Int)::S) + ((g.getD k []).length + 1):=by
 unfold N7;refine E6 (v:=k) ?_ (fun j hj=>?_) _ List.nodup_range (List.mem_range.2 hk)
 ·rw[if_neg (by simpa using h),if_pos (by simp)];omega
 ·have:((k:Int)::S).contains (j:Int)=S.contains (j:Int):=by
   rw[List.contains_cons,show ((j:Int) == (k:Int))=false by rw[beq_eq_false_iff_ne];omega,Bool.false_or]
  rw[this]
theorem Ma (g:dm):N7 g []=gr g + g.length:=by
 unfold N7 gr
 induction g with
 | nil=>rfl
 | cons l g ih=>
  rw[List.length_cons,List.range_succ_eq_map,List.map_cons,List.sum_cons,List.map_map,List.map_cons,List.sum_cons]
  have e1:(List.range g.length).map ((fun k:Nat=>if ([]:List Int).contains (k:Int) then 0 else ((l::g).getD k []).length + 1) ∘ Nat.succ)=(List.range g.length).map fun k:Nat=>if ([]:List Int).contains (k:Int) then 0 else (g.getD k []).length + 1:=
   List.map_congr_left fun k _=>rfl
  rw[e1,ih];simp;omega
structure qu (g:dm) (frm S L:List Int):Prop where
 s: ∀ x∈S,Rg g frm x
 l: ∀ x∈L,Rg g frm x
 f: ∀ x∈frm,x∈S∨x∈L
 n: ∀ x∈S, ∀ y∈g.getD x.toNat [],y∈S∨y∈L
 w:L.length + N7 g S≤frm.length + (gr g + g.length)
theorem qu.zero (g:dm) (frm:List Int):qu g frm [] frm:=⟨fun x h=>absurd h (by simp),fun x h=>.base h,fun x h=>.inr h,fun x h=>absurd h (by simp),by rw[Ma];omega⟩
theorem qu.end_ {g:dm} {frm S:List Int} (h:qu g frm S []) (x:Int):x∈S↔Rg g frm x:=by
 refine ⟨h.s x,fun hx=>?_⟩
 induction hx with
 | base hx=>exact (h.f _ hx).resolve_right (by simp)
 | step _ hx ih=>exact (h.n _ ih _ hx).resolve_right (by simp)
theorem lR {L:List Int} {i:Nat} (h:i + 1=L.length) (hi:i < L.length):L=L.take i++ [L[i]]:=by
 have:=List.take_append_drop i L;rw[List.drop_eq_getElem_cons hi,List.drop_of_length_le (by omega)] at this;exact this.symm
theorem qu.skip {g:dm} {frm S L:List Int} {v:Int} (h:qu g frm S (L++ [v])) (hv:v∈S):qu g frm S L:=by
 have key: ∀ y,y∈S∨y∈L++ [v]→y∈S∨y∈L:=fun y hy=>by
  rcases hy with hy | hy
  ·exact .inl hy
  ·rcases List.mem_append.1 hy with hy | hy
   ·exact .inr hy
   ·rw[List.mem_singleton] at hy;subst hy;exact .inl hv
 refine ⟨h.s,fun x hx=>h.l x (by simp[hx]),fun x hx=>key x (h.f x hx),fun x hx y hy=>key y (h.n x hx y hy),?_⟩;have:=h.w;rw[List.length_append] at this;omega
theorem qu.put {g:dm} {frm S L:List Int} {k:Nat} (h:qu g frm S (L++ [(k:Int)])) (hk:k < g.length) (hv: ¬(k:Int)∈S):qu g frm ((k:Int)::S) (L++g.getD k []):=by
 have hr:=h.l (k:Int) (by simp)
 have key: ∀ y,y∈S∨y∈L++ [(k:Int)]→y∈(k:Int)::S∨y∈L++g.getD k []:=fun y hy=>by
  rcases hy with hy | hy
  ·exact .inl (by simp[hy])
  ·rcases List.mem_append.1 hy with hy | hy
   ·exact .inr (by simp[hy])
   ·rw[List.mem_singleton] at hy;exact .inl (by simp[hy])
 refine ⟨fun x hx=>?_,fun x hx=>?_,fun x hx=>key x (h.f x hx),fun x hx y hy=>?_,?_⟩
 ·rcases List.mem_cons.1 hx with rfl | hx
  ·exact hr
  ·exact h.s x hx
 ·rcases List.mem_append.1 hx with hx | hx
  ·exact h.l x (by simp[hx])
  ·exact hr.step (by simpa using hx)
 ·rcases List.mem_cons.1 hx with rfl | hx
  ·exact .inr (List.mem_append.2 (.inr (by rwa [Int.toNat_natCast] at hy)))
  ·exact key y (h.n x hx y hy)
 ·have h1:=h.w
  rw[As hk hv,List.length_append,List.length_singleton] at h1;rw[List.length_append];omega
theorem xS (g:dm) (frm:List Int) (hg:nU g) (hf:Ff g frm) (hl:frm.length + (gr g + g.length)≤1000000):
  af Tryz.prog 192 [Kh g,gQ frm] [] (fun y Γ'=> ∃ r S,y=.mp r∧Γ'= [.mp r (.int .i64) (aS S) []]∧ ∀ x,x∈S↔Rg g frm x):=by
 refine af.ah ai Tryz.func192 rfl rfl (n:=38) rfl rfl ?_
 conv=>whnf
 skip
 refine Cu.over ai 0 rfl rfl [5,6,7,8,9,10,11,12,13,14,15,16,17,18,19,20,21,22,23,24,25,26,27,28,29,30,31,32,33,34,35,36,37] (fun x:List Int×List Int×Tok×Nat=> [(5,.mp x.2.2.2),(6,.ms x.2.2.1)]) (fun x=> [.row x.2.2.1 (x.2.1.map (PV.int .i64)),.mp x.2.2.2 (.int .i64) (aS x.1) []])
  (fun x=>qu g frm x.1 x.2.1∧x.2.2.1.e=3∧x.2.2.1.s=1) (fun x=>x.2.1.length + N7 g x.1) ?_ ?_
 ·conv=>whnf
  conv=>whnf
  repeat' (first|((intro _);conv=>whnf)|(refine zX (fun hc=>?_) (fun hc=>?_)<;>(try simp only[SY] at hc)<;>omega))
  obtain ⟨L,hL,hi⟩: ∃ L,frm=L∧qu g frm [] L:=⟨frm,rfl,qu.zero g frm⟩
  refine aq.go (CK L (by rw[←hL];omega)) (by rw[hL];exact aX.refl _) ?_;rintro _ _ ⟨t,ht,hs,rfl,rfl⟩;rw[GK]
  obtain ⟨S,hS⟩: ∃ S:List Int,([]:List Int)=S:=⟨_,rfl⟩
  rw[hS] at hi⊢
  rename Nat=>r
  have hw:=hi.w
  conv=>whnf
  repeat' (first|((first|refine aM ?_|(refine eF.map fun _=>?_)|(refine o3.hi (i:=L.length - 1) (by assumption) (by omega) (by simp;omega) fun t2 ht2 hs2=>?_)|refine aF ?_|refine zG ?_);conv=>whnf)|(refine zX (fun hc=>?_) (fun hc=>?_)<;>(try simp only[SY] at hc)<;>(conv=>whnf)))
  ·obtain rfl:L= []:=List.eq_nil_of_length_eq_zero (by omega)
   exact ak.gen (y:=.mp r) (Γ':= [.mp r (.int .i64) (aS S) []]) (Wk.refl _) ⟨r,S,rfl,rfl,hi.end_⟩
  ·have hlt:L.length - 1 < L.length:=by omega
   have hcv:S.contains L[L.length - 1]=false:=by assumption
   have hsp:=lR (i:=L.length - 1) (by omega) hlt;have hR:=(hi.l _ (List.getElem_mem hlt)).KT hg hf;rw[←List.map_take];generalize L[L.length - 1]=v at *;obtain ⟨k,rfl⟩:=Int.eq_ofNat_of_zero_le hR.1;have hkl:k < g.length:=by omega
   generalize L.take (L.length - 1)=L1 at *;have hLl:L.length=L1.length + 1:=by rw[hsp];simp
   have hcn: ¬(k:Int)∈S:=by simpa using hcv
   rw[hsp] at hi;have hi2:=hi.put hkl hcn;have hwp:=As hkl hcn;rw[List.getD_eq_getElem?_getD,List.getElem?_eq_getElem hkl,Option.getD_some] at hi2 hwp;have hw2:=hi2.w;rw[List.length_append] at hw2;have ht5:=ht2.trans ht;have hs5:=hs2.trans hs
   conv=>whnf
   repeat' (first|((first|refine aM ?_|refine aF ?_|intro _);conv=>whnf)|(refine zX (fun hc=>?_) (fun hc=>?_)<;>(try simp only[SY] at hc)<;>omega))
   rename Tok=>t3
   exact zm (σ:=List Int×List Int×Tok×Nat) ((k:Int)::S,L1++g[k],t3,r) ⟨hi2,by assumption,by assumption⟩ (fun s0 e=>by cases e) wA
  ·have hlt:L.length - 1 < L.length:=by omega
   have hcv:S.contains L[L.length - 1]=true:=by assumption
   have hsp:=lR (i:=L.length - 1) (by omega) hlt;rw[←List.map_take];generalize L[L.length - 1]=v at *;generalize L.take (L.length - 1)=L1 at *;have hLl:L.length=L1.length + 1:=by rw[hsp];simp
   rw[hsp] at hi;have hi2:=hi.skip (by simpa using hcv);exact zm (σ:=List Int×List Int×Tok×Nat) (S,L1,t2,r) ⟨hi2,ht2.trans ht,hs2.trans hs⟩ (fun s0 e=>by cases e) wA
 ·rintro ⟨S,L,t,r⟩ ⟨hi,ht,hs⟩
  dsimp only at hi ht hs⊢
  conv=>whnf
  have hw:=hi.w
  conv=>whnf
  repeat' (first|((first|refine aM ?_|(refine eF.map fun _=>?_)|(refine o3.hi (i:=L.length - 1) (by assumption) (by omega) (by simp;omega) fun t2 ht2 hs2=>?_)|refine aF ?_|refine zG ?_);conv=>whnf)|(refine zX (fun hc=>?_) (fun hc=>?_)<;>(try simp only[SY] at hc)<;>(conv=>whnf)))
  ·obtain rfl:L= []:=List.eq_nil_of_length_eq_zero (by omega)
   exact ak.gen (y:=.mp r) (Γ':= [.mp r (.int .i64) (aS S) []]) (Wk.refl _) ⟨r,S,rfl,rfl,hi.end_⟩
  ·have hlt:L.length - 1 < L.length:=by omega
   have hcv:S.contains L[L.length - 1]=false:=by assumption
   have hsp:=lR (i:=L.length - 1) (by omega) hlt;have hR:=(hi.l _ (List.getElem_mem hlt)).KT hg hf;rw[←List.map_take];generalize L[L.length - 1]=v at *;obtain ⟨k,rfl⟩:=Int.eq_ofNat_of_zero_le hR.1;have hkl:k < g.length:=by omega
   generalize L.take (L.length - 1)=L1 at *;have hLl:L.length=L1.length + 1:=by rw[hsp];simp
   have hcn: ¬(k:Int)∈S:=by simpa using hcv
   rw[hsp] at hi;have hi2:=hi.put hkl hcn;have hwp:=As hkl hcn;rw[List.getD_eq_getElem?_getD,List.getElem?_eq_getElem hkl,Option.getD_some] at hi2 hwp;have hw2:=hi2.w;rw[List.length_append] at hw2;have ht5:=ht2.trans ht;have hs5:=hs2.trans hs
   conv=>whnf
   repeat' (first|((first|refine aM ?_|refine aF ?_|intro _);conv=>whnf)|(refine zX (fun hc=>?_) (fun hc=>?_)<;>(try simp only[SY] at hc)<;>omega))
   rename Tok=>t3
   exact zm (σ:=List Int×List Int×Tok×Nat) ((k:Int)::S,L1++g[k],t3,r) ⟨hi2,by assumption,by assumption⟩ (fun s0 e=>by cases e;dsimp only;rw[hwp,List.length_append];omega) wA
  ·have hlt:L.length - 1 < L.length:=by omega
   have hcv:S.contains L[L.length - 1]=true:=by assumption
   have hsp:=lR (i:=L.length - 1) (by omega) hlt;rw[←List.map_take];generalize L[L.length - 1]=v at *;generalize L.take (L.length - 1)=L1 at *;have hLl:L.length=L1.length + 1:=by rw[hsp];simp
   rw[hsp] at hi;have hi2:=hi.skip (by simpa using hcv);exact zm (σ:=List Int×List Int×Tok×Nat) (S,L1,t2,r) ⟨hi2,ht2.trans ht,hs2.trans hs⟩ (fun s0 e=>by cases e;dsimp only;omega) wA
theorem Jg (g:dm) (frm:List Int) (hg:nU g) (hf:Ff g frm) (hl:frm.length + (gr g + g.length)≤1000000):
  af Tryz.prog 192 [Kh g,gQ frm] [] (fun y Γ'=> ∃ r,y=.mp r∧Γ'= [.mp r (.int .i64) (aS (cE g frm)) []]):=
 (xS g frm hg hf hl).mono fun y Γ' ⟨r,S,e1,e2,hS⟩=>⟨r,e1,by rw[e2,oX fun x=>(hS x).trans (ig hg hf x).symm]⟩
section
variable {P:Program} {tt:Nat→TI}
theorem ax.y6 {B:List PV→List aj→Ds→QT→Prop} {T:List PV} {Γ Γ':List aj} {D:Ds} {Q:QT} (hg:au Γ Γ') (h:ax B T Γ' D Q):ax B T Γ D Q:=by
 obtain ⟨I,J,⟨n,T0,Γ0,h1,h2⟩,h3,h4⟩:=h.h;refine ⟨I,J,⟨n,T0,Γ0,fun w0 F M w vs hS hT=>?_,h2⟩,h3,h4⟩;obtain ⟨F1,e1,hS1⟩:=hg w0 F M w hS;obtain ⟨F2,e2,hS2,hT2⟩:=h1 w0 F1 M w vs hS1 (ay.mono e1 _ _ hT);exact ⟨F2,Fz.le_trans e1 e2,hS2,hT2⟩
end
theorem au.EJ (Γ:List aj):au Γ (.row (aB 1 3) (([]:List Int).map (PV.int .i64))::Γ):=au.cz _ _ _
def Ko (S:List Int):Int→Option Unit:=fun n=>if S.contains n then some () else none
abbrev N4:Unit→PV:=fun _=>.aV
theorem DJ (S:List Int):aS S=mapM N4 (Ko S):=by
 funext v;unfold aS mapM Ko
 split
 ·rename_i k
  by_cases h:S.contains k=true
  ·show (if S.contains k=true then some PV.aV else none)=Option.map N4 (if S.contains k=true then some () else none)
   rw[if_pos h,if_pos h];rfl
  ·show (if S.contains k=true then some PV.aV else none)=Option.map N4 (if S.contains k=true then some () else none)
   rw[if_neg h,if_neg h];rfl
 ·rename_i h
  split
  ·rename_i k;exact absurd rfl (h k)
  ·rfl
theorem uS {α:Type} {p q:α→Bool} (h: ∀ x,q x=true→p x=true): ∀ l:List α,(∃ x∈l,p x=true∧q x=false)→(l.filter q).length < (l.filter p).length
 | [],⟨x,hx,_⟩=>by cases hx
 | y::l,⟨x,hx,h1,h2⟩=>by
  have hle: ∀ l:List α,(l.filter q).length≤(l.filter p).length:=by
   intro l
   induction l with
   | nil=>simp
   | cons z l ih=>
    by_cases hq:q z=true
    ·rw[List.filter_cons_of_pos hq,List.filter_cons_of_pos (h z hq)];simp;exact ih
    ·rw[List.filter_cons_of_neg hq]
     by_cases hp:p z=true
     ·rw[List.filter_cons_of_pos hp];simp;omega
     ·rw[List.filter_cons_of_neg hp];exact ih
  rcases List.mem_cons.1 hx with rfl | hx
  ·rw[List.filter_cons_of_neg (by simp[h2]),List.filter_cons_of_pos h1]
   have:=hle l;simp;omega
  ·have ih:=uS h l ⟨x,hx,h1,h2⟩
   by_cases hq:q y=true
   ·rw[List.filter_cons_of_pos hq,List.filter_cons_of_pos (h y hq)];simp;exact ih
   ·rw[List.filter_cons_of_neg hq]
    by_cases hp:p y=true
    ·rw[List.filter_cons_of_pos hp];simp;omega
    ·rw[List.filter_cons_of_neg hp];exact ih
theorem q7: ∀ {A B:List Int},A.Nodup→(∀ z∈A,z∈B)→A.length≤B.length
 | [],_,_,_=>Nat.zero_le _
 | a::A,B,h,hs=>by
  rw[List.nodup_cons] at h;have:=q7 (A:=A) (B:=B.erase a) h.2 fun z hz=>(List.mem_erase_of_ne (by rintro rfl;exact h.1 hz)).2 (hs z (by simp[hz]));rw[List.length_erase_of_mem (hs a (by simp))] at this;have h0:0 < B.length:=List.length_pos_of_mem (hs a (by simp));rw[List.length_cons];omega
theorem sj {A B:List Int} (hn:A.Nodup) (hB:B.Pairwise (· < ·)) (h: ∀ z,z∈A↔z∈B):(A.mergeSort fun x y=>decide (x≤y))=B:=by
 have h1:(A.mergeSort fun x y=>decide (x≤y)).Pairwise (fun x y=>decide (x≤y)=true):=List.pairwise_mergeSort (by intro a b c;simp;omega) (by intro a b;simp;omega) A;have h2:B.Pairwise (fun x y=>decide (x≤y)=true):=hB.imp fun {a b} h=>by simp;omega
 have hk:B.Nodup:=hB.imp fun {a b} h=>by omega
 have hp:(A.mergeSort fun x y=>decide (x≤y)).Perm B:=(List.mergeSort_perm A _).trans ((List.perm_ext_iff_of_nodup hn hk).2 h);exact hp.eq_of_pairwise (fun a b _ _ h1 h2=>by simp at h1 h2;omega) h1 h2
theorem wQ (g:dm) (frm:List Int) (hg:nU g) (hf:Ff g frm) (hn:g.length≤1000) (hl:frm.length + (gr g + g.length)≤1000000):
  aA Tryz.prog 145 [Kh g,gQ frm] (.bp [gQ (cE g frm),.int .i64 0]):=by
 refine af.ah ai Tryz.func145 rfl rfl (n:=26) rfl rfl ?_
 conv=>whnf
 skip
 refine aq.pure (Fb g frm hg hf hn) (aX.refl _) ?_
 conv=>whnf
 skip
 refine aq.go (xS g frm hg hf hl) (aX.refl _) ?_;rintro _ _ ⟨r,S,rfl,rfl,hS⟩;rw[DJ]
 conv=>whnf
 skip
 refine iY.num fun bI all cl hAll hcl=>?_
 conv=>whnf
 skip
 refine ax.y6 (au.EJ _) ?_
 refine ax.over [6,7,15,16,17,18,19,20,21,22] (fun x:Array Nat×List Int×Tok=> [(6,.ms x.2.2)])
  (fun x=>.ob bI (Nb r cl x.1) [] []::.mp r (.int .i64) (mapM N4 (Ko S)) (Ms cl all)::.row x.2.2 (x.2.1.map (PV.int .i64)):: [])
  (fun x=>x.2.2.e=3∧x.2.2.s=1∧x.2.1.Nodup∧(∀ z,z∈x.2.1↔ ∃ n,n∈x.1.toList∧(n,z)∈all)) (fun x=>(all.filter fun q=>decide (q.1∉x.1.toList)).length) (#[], [],aB 1 3) ⟨rfl,rfl,by simp,by simp⟩ (by repeat' (first|exact trivial|refine And.intro ?_ ?_|exact Wk.cz _ _|exact Wk.aB _ _|exact Wk.refl _)) ?_
 rintro ⟨seen,A,ta⟩ ⟨ha1,ha2,hnd,hA⟩;dsimp only at ha1 ha2 hnd hA⊢
 have hdom: ∀ z,Ko S z≠none↔z∈cE g frm:=fun z=>by
  rw[ig hg hf, ←hS];unfold Ko
  split
  ·rename_i h;simpa using h
  ·rename_i h;simpa using h
 have hsub: ∀ z∈A,z∈cE g frm:=fun z hz=>by
  obtain ⟨n,_,hn⟩:=(hA z).1 hz;exact (hdom z).1 ((hAll.dom z).2 ⟨n,hn⟩)
 have hAl:A.length≤1000:=by
  have:=q7 hnd hsub;have:=oR g frm;omega
 conv=>whnf
 skip
 refine lC.num hAll hcl (fun n z y hn hz hs=>?_) (fun hs=>?_)
 ·conv=>whnf
  skip
  refine iX.num z y hn hz ?_
  conv=>whnf
  repeat' (first|refine aY ?_|((intro _);conv=>whnf)|(refine zX (fun hc=>?_) (fun hc=>?_)<;>(try simp only[SY] at hc)<;>omega))
  rename_i t2 ht2 hs2;refine av (seen.push n,A++ [z],t2) ⟨ht2,hs2,?_,fun k=>?_⟩ ?_ wA
  ·show (A++ [z]).Nodup
   rw[List.nodup_append];refine ⟨hnd,by simp,?_⟩;rintro a ha b hb rfl;rw[List.mem_singleton] at hb;subst hb;obtain ⟨n2,q1,q2⟩:=(hA a).1 ha;have:=jk hAll.nk hn q2 rfl;cases this;exact hs q1
  ·show k∈A++ [z]↔_
   rw[List.mem_append,List.mem_singleton,hA];simp only[Array.toList_push,List.mem_append,List.mem_singleton];constructor
   ·rintro (⟨n2,q1,q2⟩ | rfl)
    ·exact ⟨n2,.inl q1,q2⟩
    ·exact ⟨n,.inr rfl,hn⟩
   ·rintro ⟨n2,q1 | rfl,q2⟩
    ·exact .inl ⟨n2,q1,q2⟩
    ·have:=jk hAll.nb hn q2 rfl
     cases this;exact .inr rfl
  ·refine uS (fun q hq=>?_) all ⟨(n,z),hn,by simpa using hs,by simp⟩
   simp only[Array.toList_push,List.mem_append,List.mem_singleton,not_or,decide_eq_true_eq] at hq ⊢;exact hq.1
 ·have hAk: ∀ z,z∈A↔z∈cE g frm:=fun z=>by
   rw[hA, ←hdom,hAll.dom];exact ⟨fun ⟨n,_,h⟩=>⟨n,h⟩,fun ⟨n,h⟩=>⟨n,hs _ h,h⟩⟩
  conv=>whnf
  skip
  refine aq.go (DM ta A ha2 (by omega)) (aX.refl _) ?_;rintro _ _ ⟨rfl,rfl⟩;rw[sj hnd (BT g frm) hAk]
  conv=>whnf
  skip
  exact ⟨_,_,Shift.cr (es:=(cE g frm).map (PV.int .i64)) (qx.bp (.cons (qx.ms' ha2) (.cons (qx.of (Wk.refl _)) .nil))),rfl⟩
structure cN where
 v:Int
 e:aa
 pr:Bool
 lt:Bool
 ln:List Int
abbrev cN.cells (x:cN):List PV:= [.int .i64 x.v,.int .i64 x.e.op,.int .i64 x.e.n,.sl 1 (x.e.v.map (PV.int .i64)) none,.sl 4 (x.e.t.map aa.pv) none,.bool x.pr,.bool x.lt,.sl 1 (x.ln.map (PV.int .i64)) none]
abbrev cN.pv (x:cN):PV:=.agg x.cells
instance:cn cN.pv cN.cells:=⟨fun _=>rfl⟩
instance (priority:=high) bV.Pt (t:cN):bV cN.pv (.agg t.cells) t:=⟨Wk.refl _,gq.refl _⟩
theorem J9 (n:Nat):o8 (List.replicate n PV.nil) ((List.replicate n ([]:List Int)).map gQ):=by
 induction n with
 | zero=>exact .nil
 | succ n ih=>exact .cons (.cons (Wk.ec rfl) .nil) ih
theorem Iq (x:cN):aA Tryz.prog 144 [.agg x.cells] (.bool x.pr):=by
 refine af.ah ai Tryz.func144 rfl rfl (n:=5) rfl rfl ?_
 conv=>whnf
 repeat' (first|refine aY ?_|((intro _);conv=>whnf)|(refine zX (fun hc=>?_) (fun hc=>?_)<;>(try simp only[SY] at hc)<;>omega))
 exact ak.pure (Wk.refl _)
theorem Ej (x:cN):aA Tryz.prog 193 [.agg x.cells] (.bool (x.pr && !x.lt)):=by
 refine af.ah ai Tryz.func193 rfl rfl (n:=10) rfl rfl ?_
 conv=>whnf
 repeat' (first|refine aY ?_|((intro _);conv=>whnf)|(refine zX (fun hc=>?_) (fun hc=>?_)<;>(try simp only[SY] at hc)<;>omega))
 all_goals exact ak.pure (by first | exact Wk.refl _ | (refine Wk.bool ?_;simp_all))
abbrev lf (p:cN→Bool) (an:List cN):dm:=an.map fun x=>if p x=true then x.ln else []
theorem yd (an:List cN) (ti:Tok) (hts:ti.s=8) (fn:Nat) (p:cN→Bool) (hf: ∀ x,aA Tryz.prog fn [.agg (cN.cells x)] (.bool (p x))) (hl:an.length≤1000000):
  af Tryz.prog 143 [.ms ti,.fn (.func fn) []] [.row ti (an.map cN.pv)] (fun y Γ'=>y=Kh (lf p an)∧Γ'= [.row ti (an.map cN.pv)]):=by
 refine af.ah ai Tryz.func143 rfl rfl (n:=28) rfl rfl ?_
 conv=>whnf
 repeat' (first|((first|refine kK.row (by omega) (by omega) (by omega) (by show _ * 24≤_;omega) rfl fun tr hte hrs=>?_|(refine eF.map fun _=>?_));conv=>whnf)|(refine zX (fun hc=>?_) (fun hc=>?_)<;>(try simp only[SY] at hc)<;>omega))
 rw[Int.toNat_natCast];refine ax.jy (au.GG (t:=tr) (J9 an.length)) ?_;refine ax.over [6,7,13,14,15,16,17,18,19,20,21,22,23,24,25,26] (fun x:Nat×dm=> [(13,.int .i64 x.1)]) (fun x=> [.row tr (x.2.map gQ),.row ti (an.map cN.pv)]) (fun x=>x.1≤an.length∧x.2.length=an.length∧x.2=lf p (an.take x.1)++List.replicate (an.length - x.1) []) (fun x=>an.length - x.1) (0,List.replicate an.length []) ⟨Nat.zero_le _,by simp,by simp[lf]⟩ wA ?_;rintro ⟨i,G⟩ ⟨hi,hgl,hG⟩;dsimp only at hi hgl hG ⊢;rcases Nat.lt_or_ge i an.length with hlt | hge
 ·have hfi:=hf an[i]
  have hset: ∀ u,G.set i u=lf p (an.take i)++u::List.replicate (an.length - (i + 1)) []:=fun u=>by
   rw[hG,List.set_append_right _ _ (by simp[lf];omega)];have:(lf p (an.take i)).length=i:=by simp[lf];omega
   rw[this,Nat.sub_self,show an.length - i=(an.length - (i + 1)) + 1 by omega,List.replicate_succ,List.set_cons_zero]
  have htk: ∀ u,(u=if p an[i]=true then an[i].ln else [])→lf p (an.take i)++u::List.replicate (an.length - (i + 1)) []=lf p (an.take (i + 1))++List.replicate (an.length - (i + 1)) []:=fun u hu=>by
   rw[lf,lf,List.take_succ_eq_append_getElem hlt,List.map_append,List.append_assoc,hu];rfl
  conv=>whnf
  repeat' (first|((first|refine aM ?_|refine pC (hfi) wR ?_|refine aF ?_|intro _|refine zG ?_);conv=>whnf)|(refine zX (fun hc=>?_) (fun hc=>?_)<;>(try simp only[SY] at hc)<;>first|omega|(conv=>whnf)))
  ·exact av (i + 1,G.set i an[i].ln) ⟨by show i + 1≤_;omega,by show (G.set _ _).length=_;rw[List.length_set];exact hgl,by show G.set _ _=_;rw[hset,htk _ (by rw[if_pos (by simp_all)])]⟩ (by show an.length - (i + 1) < an.length - i;omega) wA
  ·exact av (i + 1,G) ⟨by show i + 1≤_;omega,hgl,by show G=_;rw[hG,show an.length - i=(an.length - (i + 1)) + 1 by omega,List.replicate_succ,htk [] (by rw[if_neg (by simp_all)])]⟩ (by show an.length - (i + 1) < an.length - i;omega) wA
 ·rw[List.take_of_length_le (by omega),show an.length - i=0 by omega,List.replicate_zero,List.append_nil] at hG
  rw[←hG]
  conv=>whnf
  repeat' ((refine zX (fun hc=>?_) (fun hc=>?_)<;>(try simp only[SY] at hc)<;>first|omega|(conv=>whnf)))
  exact ⟨_,_,Shift.trans (Shift.cr (es:=G.map gQ) (qx.ms' hrs)) (Shift.wk (Wk.refl _) (List.perm_append_singleton _ _).symm),rfl,rfl⟩
abbrev AU (b r:Nat) (L:List Int) (k:Int):List aj:= [.box b [.mp r,.int .i64 k],.mp r (.int .i64) (aS L) []]
def On:cN:=⟨0,iM,false,false, []⟩
def G8 (f:Nat→cN) (n i:Nat):List cN:=(List.range n).map fun k=>if k < i then f k else On
theorem tR (f:Nat→cN) (n i:Nat):(G8 f n i).length=n:=by unfold G8;simp
theorem zi {f:Nat→cN} {n i j:Nat} (h:j < (G8 f n i).length):(G8 f n i)[j]=if j < i then f j else On:=by
 simp[G8]
instance bV.Rm (v:Int) (e:aa) (p l:Bool) (ln:List Int) (tk:Option Tok):bV cN.pv (.agg [.int .i64 v,.int .i64 (aa.op e),.int .i64 (aa.n e),.sl 1 ((aa.v e).map (PV.int .i64)) none,.sl 4 ((aa.t e).map aa.pv) none,.bool p,.bool l,.sl 1 (ln.map (PV.int .i64)) tk]) ⟨v,e,p,l,ln⟩:=
 ⟨Wk.agg (.cons (Wk.refl _) (.cons (Wk.refl _) (.cons (Wk.refl _) (.cons (Wk.refl _) (.cons (Wk.refl _) (.cons (Wk.refl _) (.cons (Wk.refl _) (.cons (Wk.tok _ _ _) .nil)))))))),.cons (Wk.refl _) (.cons (Wk.refl _) (.cons (Wk.refl _) (.cons (Wk.refl _) (.cons (Wk.refl _) (.cons (Wk.refl _) (.cons (Wk.refl _) (.cons (Wk.tok _ _ _) .nil)))))))⟩
theorem KW {f:Nat→cN} {n i:Nat}:(G8 f n i).set i (f i)=G8 f n (i + 1):=by
 refine List.ext_getElem (by simp[tR]) fun j h1 h2=>?_;rw[List.getElem_set,zi h2];by_cases e:i=j
 ·subst e;rw[if_pos rfl,if_pos (by omega)]
 ·rw[if_neg e,zi (by rw[tR] at h2 ⊢; exact h2)]
  by_cases h:j < i
  ·rw[if_pos h,if_pos (by omega)]
  ·rw[if_neg h,if_neg (by omega)]
theorem Ip (f:Nat→cN) (n:Nat):List.replicate n On=G8 f n 0:=by
 refine List.ext_getElem (by simp[tR]) fun j h1 h2=>?_;rw[zi h2,if_neg (by omega),List.getElem_replicate]
theorem oO (n:Nat) (p:Nat→Bool):gb (n + 1) p=gb n p++if p n=true then [(n:Int)] else []:=by
 unfold gb;rw[List.range_succ,List.filter_append,List.map_append];congr 1;by_cases h:p n=true
 ·rw[if_pos h];simp[h]
 ·rw[if_neg h];simp[h]
theorem gd (n:Nat) (p:Nat→Bool):(gb n p).length≤n:=by
 unfold gb;rw[List.length_map];exact Nat.le_trans (List.length_filter_le _ _) (by simp)
theorem G3 (n:Nat):o8 (List.replicate n (PV.agg [.int .i64 0,.int .i64 0,.int .i64 0,.nil,.nil,.bfalse,.bfalse,.nil])) ((List.replicate n On).map cN.pv):=by
 have h:Wk (PV.agg [.int .i64 0,.int .i64 0,.int .i64 0,.nil,.nil,.bfalse,.bfalse,.nil]) (cN.pv On):=Wk.agg (.cons (Wk.refl _) (.cons (Wk.refl _) (.cons (Wk.refl _) (.cons (Wk.ec rfl) (.cons (Wk.ec rfl) (.cons (Wk.ff rfl) (.cons (Wk.ff rfl) (.cons (Wk.ec rfl) .nil))))))));have h2:gq (PV.agg [.int .i64 0,.int .i64 0,.int .i64 0,.nil,.nil,.bfalse,.bfalse,.nil]).cellsOf (cN.pv On).cellsOf:=.cons (Wk.refl _) (.cons (Wk.refl _) (.cons (Wk.refl _) (.cons (Wk.ec rfl) (.cons (Wk.ec rfl) (.cons (Wk.ff rfl) (.cons (Wk.ff rfl) (.cons (Wk.ec rfl) .nil)))))))
 induction n with
 | zero=>exact .nil
 | succ n ih=>exact .cons h2 ih
def Co (A:Int→Bool) (V:List Int) (T:List aa) (k:Nat):cN:=⟨V.getD k 0,T.getD k iM,(T.getD k iM).op == 4 && !A (V.getD k 0),false,r5 V (T.getD k iM)⟩
def wq (f:Nat→cN) (lt:Nat→Bool) (n:Nat):List cN:=(List.range n).map fun k=>{ f k with lt:=lt k }
theorem nI (f:Nat→cN) (lt:Nat→Bool) (n:Nat):(wq f lt n).length=n:=by unfold wq;simp
theorem tU {f:Nat→cN} {lt:Nat→Bool} {n j:Nat} (h:j < (wq f lt n).length):(wq f lt n)[j]={ f j with lt:=lt j }:=by simp[wq]
theorem KV {f:Nat→cN} (hf: ∀ k,(f k).lt=false) (n:Nat):G8 f n n=wq f (fun _=>false) n:=by
 unfold G8 wq;refine List.map_congr_left fun k hk=>?_;rw[if_pos (List.mem_range.1 hk), ←hf k]
theorem KX {f:Nat→cN} {l l':Nat→Bool} {n c:Nat} {x:cN} (h: ∀ j,j≠c→l' j=l j) (hx:x={ f c with lt:=l' c }):(wq f l n).set c x=wq f l' n:=by
 refine List.ext_getElem (by simp[nI]) fun j h1 h2=>?_;rw[List.getElem_set,tU h2];by_cases e:c=j
 ·subst e;rw[if_pos rfl,hx]
 ·rw[if_neg e,tU (by rw[nI] at h2 ⊢; exact h2),h j (fun h=>e h.symm)]
def Au (f:Nat→cN) (n:Nat):dm:=(List.range n).map fun k=>if (f k).pr=true then (f k).ln else []
theorem J1 (f:Nat→cN) (lt:Nat→Bool) (n:Nat):lf (fun x=>x.pr) (wq f lt n)=Au f n:=by
 unfold lf wq Au;rw[List.map_map];rfl
theorem Aa (f:Nat→cN) (n:Nat):(Au f n).length=n:=by unfold Au;simp
theorem Nz {f:Nat→cN} {n:Nat} (hf: ∀ k, ∀ x∈(f k).ln,0≤x∧x < n):nU (Au f n):=by
 intro l hl x hx;unfold Au at hl;obtain ⟨k,hk,rfl⟩:=List.mem_map.1 hl;rw[Aa]
 split at hx
 ·exact hf k x hx
 ·cases hx
theorem ud: ∀ (g:dm) (n:Nat),(∀ l∈g,l.length≤n)→gr g≤g.length * n
 | [],_,_=>by simp[gr]
 | l::g,n,h=>by
  have ih:=ud g n fun x hx=>h x (by simp[hx]);have:=h l (by simp);unfold gr at ih ⊢;rw[List.map_cons,List.sum_cons,List.length_cons,Nat.add_mul];omega
theorem Lr {f:Nat→cN} {n:Nat} (hf: ∀ k,(f k).ln.length≤n):gr (Au f n)≤n * n:=by
 have:=ud (Au f n) n fun l hl=>by
  unfold Au at hl;obtain ⟨k,hk,rfl⟩:=List.mem_map.1 hl
  split
  ·exact hf k
  ·exact Nat.zero_le _
 rwa [Aa] at this
def xJ (f:Nat→cN) (n:Nat) (N:Int) (i j:Nat):Bool:=(List.range i).any fun k=>!(f k).pr && ((cE (Au f n) (f k).ln).contains (j:Int) && (N == 0 || decide (k≤j)))
theorem IG (f:Nat→cN) (n:Nat) (N:Int) (i j:Nat):xJ f n N (i + 1) j=(xJ f n N i j || (!(f i).pr && ((cE (Au f n) (f i).ln).contains (j:Int) && (N == 0 || decide (i≤j))))):=by
 unfold xJ;rw[List.range_succ,List.any_append];simp
def ED (l:Nat→Bool) (R:List Int) (N:Int) (i m:Nat):Nat→Bool:=fun j=>l j || ((R.take m).contains (j:Int) && (N == 0 || decide (i≤j)))
theorem Nj {l:Nat→Bool} {R:List Int} {N:Int} {i m j:Nat} (hm:m < R.length) (h: ¬(j:Int)=R[m]):ED l R N i (m + 1) j=ED l R N i m j:=by
 unfold ED;rw[List.take_succ_eq_append_getElem hm]
 have:(R.take m++ [R[m]]).contains (j:Int)=(R.take m).contains (j:Int):=by
  rw[Bool.eq_iff_iff,List.contains_iff_mem,List.contains_iff_mem,List.mem_append,List.mem_singleton];exact ⟨fun hh=>hh.resolve_right h,.inl⟩
 rw[this]
theorem Ni {l:Nat→Bool} {R:List Int} {N:Int} {i m c:Nat} (hm:m < R.length) (h:R[m]=(c:Int)):ED l R N i (m + 1) c=(ED l R N i m c || N == 0 || decide (R[m]≥(i:Int))):=by
 unfold ED;rw[List.take_succ_eq_append_getElem hm];have h1:(R.take m++ [R[m]]).contains (c:Int)=true:=by simp[h]
 have h2:decide (R[m]≥(i:Int))=decide (i≤c):=by rw[h,Bool.eq_iff_iff];simp
 rw[h1,h2];cases l c<;>cases (R.take m).contains (c:Int)<;>cases (N == 0)<;>simp
def zj (A:Int→Bool) (N:Int) (V:List Int) (T:List aa):List cN:=wq (Co A V T) (xJ (Co A V T) V.length N V.length) V.length
theorem CX {p q:Prop} (k:q) (h:q→p:=by intro hq;first | exact aD.sP (some 31) rfl [23] [24] ai mixed hq):p:=h k
theorem Gb (b r:Nat) (L:List Int) (k:Int) (t:aa) (hb:t.aR≤1000000000) (hv:t.t.length=t.v.length + 1) (hn:t.v.length≤500):
  af Tryz.prog 90 [.ptr b 0,.agg t.cells] (AU b r L k) (fun y Γ'=> ∃ ti:Tok,ti.e=144∧ti.s=8∧y=.ms ti∧Γ'=.row ti ((zj L.contains t.n t.v t.t).map cN.pv)::AU b r L k):=by
 have hbe:=t.bE;have hbs:=aa.bn t.t;refine af.ah ai Tryz.func90 rfl rfl (n:=126) rfl rfl ?_
 conv=>whnf
 repeat' (first|((first|refine kK.row (by omega) (by omega) (by omega) (by show _ * 104≤_;omega) rfl fun ti hte hts=>?_|refine aM ?_|intro _);conv=>whnf)|(refine zX (fun hc=>?_) (fun hc=>?_)<;>(try simp only[SY] at hc)<;>omega))
 rename_i b3 _ _;rw[Int.toNat_natCast];refine ax.jy (au.GG (t:=ti) (G3 t.v.length)) ?_;rw[Ip (Co L.contains t.v t.t)]
 refine ax.over [6,7,8,9,10,11,26,27,28,29,30,31,32,33,34,35,36,37,38,39,40,41,42,43,44,45,46,47,48,49,50,51,52,53,54,55,56,57,58,59,60,61,62,63,64,65,66,67,68,69,70,71,72,73,74,75,76,77,78,79] (fun i:Nat=> [(26,.int .i64 i)]) (fun i=> [.row ti ((G8 (Co L.contains t.v t.t) t.v.length i).map cN.pv),.box b3 [.int .i64 t.op,.int .i64 t.n,.sl 1 (t.v.map (PV.int .i64)) none,.sl 4 (t.t.map aa.pv) none],.box b [.mp r,.int .i64 k],.mp r (.int .i64) (aS L) []])
  (fun i=>i≤t.v.length) (fun i=>t.v.length - i) 0 (Nat.zero_le _) wA ?_
 intro i hi;have hil:=tR (Co L.contains t.v t.t) t.v.length i;rcases Nat.lt_or_ge i t.v.length with hlt | hge
 ·have hit:i < t.t.length:=by omega
  have hset:=KW (f:=Co L.contains t.v t.t) (n:=t.v.length) (i:=i);generalize hI:G8 (Co L.contains t.v t.t) t.v.length i=an at *
  conv=>whnf
  repeat' (first|((first|((first|(apply zY;intro hg)|apply zZ);exact tB)|refine aM ?_|refine pC (M0 t.t[i] (by have:=aa.cJ (List.getElem_mem hit);omega)) wR ?_|refine aF ?_|refine CX ?_|intro _);conv=>whnf)|(refine zX (fun hc=>?_) (fun hc=>?_)<;>(try simp only[SY] at hc)<;>first|omega|(conv=>whnf)))
  rename Nat=>b8
  generalize hF:ej (dG t.t[i].all)=fr;refine ax.jy (au.trans (au.nil 1 3 _) (au.box (b:=b8) (cs:= [.int .i64 t.v[i],.int .i64 t.t[i].op,.int .i64 t.t[i].n,.sl 1 (t.t[i].v.map (PV.int .i64)) none,.sl 4 (t.t[i].t.map aa.pv) none,.bool (t.t[i].op == 4 && !L.contains t.v[i]),.bool false,.nil]) (cs':= [.int .i64 t.v[i],.int .i64 t.t[i].op,.int .i64 t.t[i].n,.sl 1 (t.t[i].v.map (PV.int .i64)) none,.sl 4 (t.t[i].t.map aa.pv) none,.bool (t.t[i].op == 4 && !L.contains t.v[i]),.bool false,.sl 1 (([]:List Int).map (PV.int .i64)) (some (aB 1 3))]) wA)) ?_
  refine ax.over [10,11,60,61,62,63,64,65,66,67,68,69,70,71,72,73,74] (fun x:Nat×List Int×Tok=> [(60,.int .i64 x.1)]) (fun x=> [.tok x.2.2,.box b8 [.int .i64 t.v[i],.int .i64 t.t[i].op,.int .i64 t.t[i].n,.sl 1 (t.t[i].v.map (PV.int .i64)) none,.sl 4 (t.t[i].t.map aa.pv) none,.bool (t.t[i].op == 4 && !L.contains t.v[i]),.bool false,.sl 1 (x.2.1.map (PV.int .i64)) (some x.2.2)],.row ti (an.map cN.pv),.box b3 [.int .i64 t.op,.int .i64 t.n,.sl 1 (t.v.map (PV.int .i64)) none,.sl 4 (t.t.map aa.pv) none],.box b [.mp r,.int .i64 k],.mp r (.int .i64) (aS L) []])
   (fun x=>x.1≤t.v.length∧x.2.2.e=3∧x.2.1=gb x.1 (fun m=>fr.contains (t.v.getD m 0))) (fun x=>t.v.length - x.1) (0, [],aB 1 3) ⟨Nat.zero_le _,rfl,rfl⟩ wA ?_
  rintro ⟨j,l,tk⟩ ⟨hj,hte2,hl⟩;dsimp only at hj hte2 hl ⊢;have hll:l.length≤j:=by rw[hl];exact gd _ _
  rcases Nat.lt_or_ge j t.v.length with hjl | hje
  ·have hsn:=oO j (fun m=>fr.contains (t.v.getD m 0))
   rw[←hl,List.getD_eq_getElem?_getD,List.getElem?_eq_getElem hjl,Option.getD_some] at hsn
   conv=>whnf
   repeat' (first|((first|refine aM ?_|refine pC (fE fr t.v[j]) wR ?_|refine aF ?_|intro _|refine zG ?_);conv=>whnf)|(refine zX (fun hc=>?_) (fun hc=>?_)<;>(try simp only[SY] at hc)<;>first|omega|(conv=>whnf)))
   ·rename Tok=>t5
    rw[if_pos (by assumption)] at hsn;exact av (j + 1,l++ [(j:Int)],t5) ⟨by show j + 1≤_;omega,by assumption,hsn.symm⟩ (by show t.v.length - (j + 1) < t.v.length - j;omega) wA
   ·rw[if_neg (by simp_all),List.append_nil] at hsn
    exact av (j + 1,l,tk) ⟨by show j + 1≤_;omega,hte2,hsn.symm⟩ (by show t.v.length - (j + 1) < t.v.length - j;omega) wA
  ·obtain rfl:j=t.v.length:=by omega
   have hit2:Co L.contains t.v t.t i=⟨t.v[i],t.t[i],t.t[i].op == 4 && !L.contains t.v[i],false,l⟩:=by
    unfold Co r5;rw[List.getD_eq_getElem?_getD,List.getElem?_eq_getElem hlt,List.getD_eq_getElem?_getD,List.getElem?_eq_getElem hit,Option.getD_some,Option.getD_some,hF,hl]
   have hii:i < an.length:=by omega
   conv=>whnf
   repeat' (first|((first|refine aM ?_|refine aF ?_);conv=>whnf)|(refine zX (fun hc=>?_) (fun hc=>?_)<;>(try simp only[SY] at hc)<;>first|omega|(conv=>whnf)))
   rw[←hit2,hset];exact av (i + 1) (by show i + 1≤_;omega) (by show t.v.length - (i + 1) < t.v.length - i;omega) wA
 ·obtain rfl:i=t.v.length:=by omega
  rw[KV (fun _=>rfl)];unfold zj
  have hlnm: ∀ k, ∀ x∈(Co L.contains t.v t.t k).ln,0≤x∧x < (t.v.length:Int):=fun k x hx=>by
   have:=kW.1 hx;exact ⟨this.1,this.2.1⟩
  have hlnl: ∀ k,(Co L.contains t.v t.t k).ln.length≤t.v.length:=fun k=>gd _ _;generalize hFF:Co L.contains t.v t.t=F at *;generalize hnn:t.v.length=n at *;have hgo:=Nz hlnm;have hgs:=Lr hlnl;have hgl:=Aa F n;have hnn2:n * n≤500 * 500:=Nat.mul_le_mul hn hn;have hits:=nI F (fun _=>false) n
  conv=>whnf
  repeat' ((refine zX (fun hc=>?_) (fun hc=>?_)<;>(try simp only[SY] at hc)<;>first|omega|(conv=>whnf)))
  refine aq.go (yd (wq F (fun _=>false) n) ti hts 144 (fun x=>x.pr) Iq (by omega)) (aX.refl _) ?_;rintro _ _ ⟨rfl,rfl⟩;rw[J1]
  conv=>whnf
  repeat' (first|(((refine eF.map fun _=>?_));conv=>whnf)|(refine zX (fun hc=>?_) (fun hc=>?_)<;>(try simp only[SY] at hc)<;>omega))
  rw[nI,show (fun _:Nat=>false)=xJ F n t.n 0 from funext fun _=>rfl]
  refine ax.over [13,14,15,16,18,84,85,86,87,88,89,90,91,92,93,94,95,96,97,98,99,100,101,102,103,104,105,106,107,108,109,110,111,112,113,114,115,116,117,118,119,120,121,122,123,124] (fun i:Nat=> [(84,.int .i64 i)]) (fun i=> [.row ti ((wq F (xJ F n t.n i) n).map cN.pv),.box b3 [.int .i64 t.op,.int .i64 t.n,.sl 1 (t.v.map (PV.int .i64)) none,.sl 4 (t.t.map aa.pv) none],.box b [.mp r,.int .i64 k],.mp r (.int .i64) (aS L) []])
   (fun i=>i≤n) (fun i=>n - i) 0 (Nat.zero_le _) wA ?_
  intro i hi;rcases Nat.lt_or_ge i n with hlt | hge
  ·have hii:i < (wq F (xJ F n t.n i) n).length:=by rw[nI];exact hlt
   have hge2:=tU hii;have hls:=IG F n t.n i;have ep:(wq F (xJ F n t.n i) n)[i].pr=(F i).pr:=by rw[hge2]
   have eln:(wq F (xJ F n t.n i) n)[i].ln=(F i).ln:=by rw[hge2]
   have hrr: ∀ c∈cE (Au F n) (F i).ln,0≤c∧c < (n:Int):=fun c hc=>by
    have:=((ig hgo (fun x hx=>by rw[hgl];exact hlnm i x hx) c).1 hc).KT hgo (fun x hx=>by rw[hgl];exact hlnm i x hx);rwa [hgl] at this
   conv=>whnf
   repeat' (first|((first|refine aM ?_|refine aF ?_|intro _);conv=>whnf)|(refine zX (fun hc=>?_) (fun hc=>?_)<;>(try simp only[SY] at hc)<;>first|omega|(conv=>whnf)))
   ·have hpt:(F i).pr=true:=by rw[←ep];assumption
    have hle:xJ F n t.n (i + 1)=xJ F n t.n i:=funext fun j=>by rw[hls,hpt];simp
    exact av (i + 1) (by show i + 1≤_;omega) (by show n - (i + 1) < n - i;omega) wA (hp:=⟨by rw[hle];exact (List.perm_append_singleton _ _).symm⟩) (Γ1:= [_])
   ·have hpf:(F i).pr=false:=by rw[←ep];assumption
    refine aq.pure (wQ (Au F n) (F i).ln hgo (fun x hx=>by rw[hgl];exact hlnm i x hx) (by omega) (by have:=hlnl i;omega)) (by rw[eln];exact aX.refl _) ?_;have hend: ∀ j,xJ F n t.n (i + 1) j=(xJ F n t.n i j || ((cE (Au F n) (F i).ln).contains (j:Int) && (t.n == 0 || decide (i≤j)))):=fun j=>by rw[hls,hpf];simp
    have hrl:=oR (Au F n) (F i).ln;generalize cE (Au F n) (F i).ln=R at *
    conv=>whnf
    repeat' (first|((first|refine aM ?_|intro _);conv=>whnf)|(refine zX (fun hc=>?_) (fun hc=>?_)<;>(try simp only[SY] at hc)<;>omega))
    have hz:xJ F n t.n i=ED (xJ F n t.n i) R t.n i 0:=funext fun j=>by unfold ED;simp
    generalize hl0:xJ F n t.n i=l0 at *
    refine ax.over [18,100,101,102,103,104,105,106,107,108,109,110,111,112,113,114,115,116,117,118,119,120,121,122,123] (fun m:Nat=> [(100,.int .i64 m)]) (fun m=> [.row ti ((wq F (ED l0 R t.n i m) n).map cN.pv),.box b3 [.int .i64 t.op,.int .i64 t.n,.sl 1 (t.v.map (PV.int .i64)) none,.sl 4 (t.t.map aa.pv) none],.box b [.mp r,.int .i64 k],.mp r (.int .i64) (aS L) []])
     (fun m=>m≤R.length) (fun m=>R.length - m) 0 (Nat.zero_le _) wA (hp:=⟨by rw[←hz];exact (List.perm_append_singleton _ _).symm⟩) (Γ1:= [_]) ?_
    intro m hm;have hil2:=nI F (ED l0 R t.n i m) n;rcases Nat.lt_or_ge m R.length with hml | hme
    ·have hcr:=hrr _ (List.getElem_mem hml)
     obtain ⟨c,hcR⟩:=Int.eq_ofNat_of_zero_le hcr.1;generalize hits2:wq F (ED l0 R t.n i m) n=an at *;have hcl:R[m] < an.length:=by omega
     conv=>whnf
     repeat' (first|((first|(((apply zY;intro hg));exact tB)|refine aM ?_|refine aF ?_|refine zG ?_);conv=>whnf)|(refine zX (fun hc=>?_) (fun hc=>?_)<;>(try simp only[SY] at hc)<;>first|omega|(conv=>whnf)))
     have hcn:R[m].toNat=c:=by omega
     have hcb:c < an.length:=by omega
     have hset:an.set R[m].toNat { an[R[m].toNat] with lt:=(an[R[m].toNat].lt || t.n == 0 || decide (R[m]≥(i:Int)))}=wq F (ED l0 R t.n i (m + 1)) n:=by
      subst hits2;refine KX (fun j hj=>Nj hml (by omega)) ?_;rw[tU];simp only[hcn];rw[Ni hml hcR]
     refine cc.row (f:=cN.pv) (l:=an) ({ an[R[m].toNat] with lt:=(an[R[m].toNat].lt || t.n == 0 || decide (R[m]≥(i:Int)))}:cN) (by omega) rfl rfl rfl (xs:= [.bool (an[R[m].toNat].lt || t.n == 0 || decide (R[m]≥(i:Int)))]) (gq.refl _) rfl ?_;rw[hset]
     conv=>whnf
     repeat' (first|((refine aM ?_);conv=>whnf)|(refine zX (fun hc=>?_) (fun hc=>?_)<;>(try simp only[SY] at hc)<;>omega))
     exact av (m + 1) (by show m + 1≤_;omega) (by show R.length - (m + 1) < R.length - m;omega) wA
    ·obtain rfl:m=R.length:=by omega
     have hle:xJ F n t.n (i + 1)=ED l0 R t.n i R.length:=funext fun j=>by rw[hend];unfold ED;rw[List.take_length]
     conv=>whnf
     repeat' (first|((refine aM ?_);conv=>whnf)|(refine zX (fun hc=>?_) (fun hc=>?_)<;>(try simp only[SY] at hc)<;>first|omega|(conv=>whnf)))
     exact av (i + 1) (by show i + 1≤_;omega) (by show n - (i + 1) < n - i;omega) wA (hp:=⟨by rw[hle];simp⟩) (Γ1:= [])
  ·obtain rfl:i=n:=by omega
   conv=>whnf
   repeat' ((refine zX (fun hc=>?_) (fun hc=>?_)<;>(try simp only[SY] at hc)<;>first|omega|(conv=>whnf)))
   exact ak.gen (y:=.ms ti) (Γ':=.row ti ((wq F (xJ F i t.n i) i).map cN.pv)::AU b r L k) (Wk.refl _) ⟨ti,hte,hts,rfl,rfl⟩
instance:cn PV.mp (fun r=> [PV.mp r]):=⟨fun _=>rfl⟩
instance (r:Nat):bV PV.mp (.mp r) r:=⟨Wk.refl _,gq.refl _⟩
theorem fk.PZ {r:Nat} {S:List Int} {n:Int} {Γ:List aj} {aL:List (Int×Value)} {K:PV→Bool→Prop} (hm:aj.mp r (.int .i64) (aS S) aL∈Γ) (h:K (.bool (S.contains n)) (S.contains n)):fk r (.int .i64) (some (.int .i64 n)) .bfalse Γ K:=
by
 refine ⟨.int .i64 n,aS S,aL,.bool (S.contains n),S.contains n,rfl,by simp[ox,MapKept.IsKey],hm,fun p hp=>?_,fun hn=>?_,h⟩
 ·simp only[aS] at hp
  split at hp
  ·rename_i hc;cases hp;exact ⟨Wk.tt hc,hc⟩
  ·cases hp
 ·simp only[aS] at hn
  split at hn
  ·cases hn
  ·rename_i hc;simp only[Bool.not_eq_true] at hc;exact ⟨Wk.ff hc,hc⟩
abbrev P6 (tl td:Tok) (rs:List Nat) (done:List Bool) (r:Nat) (S:List Int) (R:List aj):List aj:=.row tl (rs.map PV.mp)::.row td (done.map PV.bool)::.mp r (.int .i64) (aS S) []::R
abbrev Qq (tl td:Tok) (rs:List Nat) (done:List Bool) (r:Nat) (S:List Int) (cl:Nat) (all:List (Nat×Int)) (R:List aj):List aj:=.row tl (rs.map PV.mp)::.row td (done.map PV.bool)::.mp r (.int .i64) (mapM N4 (Ko S)) (Ms cl all)::R
def lW (g:dm) (i:Nat):List Int:=(eu g i).map fun x:Nat=>(x:Int)
theorem Gu (g:dm) (i:Nat):(lW g i).Pairwise (· < ·):=vK _ _
theorem Gy (g:dm) (hg:nU g) (hn:g.length≤1000) (rs:List Nat) (SS:Nat→List Int) (tl td:Tok) (done:List Bool) (i:Nat) (R:List aj) (h1:rs.length=g.length) (hS: ∀ k,k < g.length→ ∀ x,x∈SS k↔Rg g [(k:Int)] x)
  (hi:i < rs.length) (hd:done.length=g.length) (hdi:done.getD i false=false) (hR: ∀ k (hk:k < rs.length),k≠i→aj.mp rs[k] (.int .i64) (aS (SS k)) []∈R) (hls:tl.s=1) (hds:td.s=1):
  af Tryz.prog 234 [.ms tl,.int .i64 i,.ms td] (P6 tl td rs done rs[i] (SS i) R) (fun y Γ'=>Γ'=P6 tl td rs done rs[i] (SS i) R∧((n7 g done i=true∧y=gQ (lW g i))∨(n7 g done i=false∧y=.nil))):=by
 have hig:i < g.length:=by omega
 have hone:Ff g [(i:Int)]:=fun x hx=>by rw[List.mem_singleton.1 hx];omega
 have hld: ∀ j k,j < g.length→k < g.length→(wE g j k=true↔(k:Int)∈SS j):=fun j k hj hk=>by rw[p7 hg hj hk,hS j hj]
 refine af.ah ai Tryz.func234 rfl rfl (n:=38) rfl rfl ?_
 conv=>whnf
 repeat' (first|refine aY ?_|(refine zX (fun hc=>?_) (fun hc=>?_)<;>(try simp only[SY] at hc)<;>omega))
 rw[P6,DJ (SS i)];refine iY.num fun bI all cl hAll hcl=>?_
 conv=>whnf
 skip
 refine ax.y6 (au.EJ _) ?_
 refine ax.over [6,7,8,14,15,16,17,18,19,20,21,22,23,24,25,26,27,28,29,30,31,32,33,34] (fun x:Array Nat×List Int×Tok=> [(7,.ms x.2.2)])
  (fun x=>.row x.2.2 (x.2.1.map (PV.int .i64))::.ob bI (Nb rs[i] cl x.1) [] []::Qq tl td rs done rs[i] (SS i) cl all R)
  (fun x=>x.2.2.e=3∧x.2.2.s=1∧x.2.1.Nodup∧(∀ z,z∈x.2.1↔ ∃ n,n∈x.1.toList∧(n,z)∈all∧(i:Int)∈SS z.toNat)∧ ∀ n z,n∈x.1.toList→(n,z)∈all→ ¬(i:Int)∈SS z.toNat→done.getD z.toNat false=true) (fun x=>(all.filter fun q=>decide (q.1∉x.1.toList)).length) (#[], [],aB 1 3) ⟨rfl,rfl,by simp,by simp,by simp⟩ (by repeat' (first|exact trivial|refine And.intro ?_ ?_|exact Wk.cz _ _|exact Wk.aB _ _|exact Wk.refl _)) (hp:=⟨by rw[List.append_nil]⟩) (Γ1:= []) ?_
 rintro ⟨seen,A,ta⟩ ⟨ha1,ha2,hnd,hA,hD⟩;dsimp only at ha1 ha2 hnd hA hD⊢
 have hdom: ∀ z,Ko (SS i) z≠none↔z∈SS i:=fun z=>by
  unfold Ko
  split
  ·rename_i h;simpa using h
  ·rename_i h;simpa using h
 have hin: ∀ z,z∈SS i→0≤z∧z < g.length:=fun z hz=>((hS i hig z).1 hz).KT hg hone
 have hown: ∀ z,z∈lW g i↔z∈SS i∧(i:Int)∈SS z.toNat:=fun z=>by
  unfold lW;rw[List.mem_map];constructor
  ·rintro ⟨k,hk,rfl⟩
   obtain ⟨q1,q2,q3⟩:=iz.1 hk;rw[Int.toNat_natCast];exact ⟨(hld i k hig q1).1 q2,(hld k i q1 hig).1 q3⟩
  ·rintro ⟨q1,q2⟩
   have hz:=hin z q1;refine ⟨z.toNat,iz.2 ⟨by omega,(hld i _ hig (by omega)).2 (by rw[Int.toNat_of_nonneg hz.1];exact q1),(hld _ i (by omega) hig).2 q2⟩,Int.toNat_of_nonneg hz.1⟩
 have hsub: ∀ z∈A,z∈lW g i:=fun z hz=>by
  obtain ⟨n,_,hn,hq⟩:=(hA z).1 hz;exact (hown z).2 ⟨(hdom z).1 ((hAll.dom z).2 ⟨n,hn⟩),hq⟩
 have hAl:A.length≤1000:=by
  have:=q7 hnd hsub
  have h3:(lW g i).length≤g.length:=by
   unfold lW eu;rw[List.length_map];exact Nat.le_trans (List.length_filter_le _ _) (by simp)
  omega
 conv=>whnf
 skip
 refine lC.num hAll hcl (fun n z y hn hz hs=>?_) (fun hs=>?_)
 ·have hzS:z∈SS i:=(hdom z).1 (by rw[hz];simp)
  have hzr:=hin z hzS;obtain ⟨k,rfl⟩:=Int.eq_ofNat_of_zero_le hzr.1;have hkg:k < g.length:=by omega
  have hkr:k < rs.length:=by omega
  have hkd:k < done.length:=by omega
  have hfil:(all.filter fun q=>decide (q.1∉(seen.push n).toList)).length < (all.filter fun q=>decide (q.1∉seen.toList)).length:=by
   refine uS (fun q hq=>?_) all ⟨(n,(k:Int)),hn,by simpa using hs,by simp⟩;simp only[Array.toList_push,List.mem_append,List.mem_singleton,not_or,decide_eq_true_eq] at hq ⊢;exact hq.1
  have hun: ∀ n2 (z2:Int),(n2,z2)∈all→n2=n→z2=k:=fun n2 z2 q e=>by
   subst e;have:=jk hAll.nb hn q rfl;cases this;rfl
  obtain ⟨pd,hmem⟩: ∃ pd, ∀ Γ1,aj.mp rs[k] (.int .i64) (aS (SS k)) pd∈Γ1++Qq tl td rs done rs[i] (SS i) cl all R:=by
   by_cases e:k=i
   ·subst e
    exact ⟨Ms cl all,fun Γ1=>by rw[DJ];simp⟩
   ·exact ⟨[],fun Γ1=>by have:=hR k hkr e;simp[this]⟩
  conv=>whnf
  skip
  refine iX.num (k:Int) y hn hz ?_
  conv=>whnf
  repeat' (first|refine aY ?_|(refine zX (fun hc=>?_) (fun hc=>?_)<;>(try simp only[SY] at hc)<;>omega))
  refine fk.PZ (hmem [_,_]) ?_
  conv=>whnf
  repeat' (first|refine aY ?_|((intro _);conv=>whnf)|(refine zX (fun hc=>?_) (fun hc=>?_)<;>(try simp only[SY] at hc)<;>(conv=>whnf)))
  ·have hik:(i:Int)∈SS k:=by rename_i hc;first | simpa using hc | (have:=(by assumption:(SS k).contains (i:Int)=true);simpa using this)
   rename Tok=>t3
   refine av (seen.push n,A++ [(k:Int)],t3) ⟨by assumption,by assumption,?_,fun z=>?_,fun n2 z hn2 hz2 hq=>?_⟩ hfil wA (hp:=⟨(List.perm_append_singleton _ _).symm⟩) (Γ1:= [_])
   ·show (A++ [(k:Int)]).Nodup
    rw[List.nodup_append];refine ⟨hnd,by simp,?_⟩;rintro a ha b hb rfl;rw[List.mem_singleton] at hb;subst hb;obtain ⟨n2,q1,q2,_⟩:=(hA _).1 ha;have:=jk hAll.nk hn q2 rfl;cases this;exact hs q1
   ·show z∈A++ [(k:Int)]↔_
    rw[List.mem_append,List.mem_singleton,hA];simp only[Array.toList_push,List.mem_append,List.mem_singleton];constructor
    ·rintro (⟨n2,q1,q2,q3⟩ | rfl)
     ·exact ⟨n2,.inl q1,q2,q3⟩
     ·exact ⟨n,.inr rfl,hn,by rwa [Int.toNat_natCast]⟩
    ·rintro ⟨n2,q1 | q1,q2,q3⟩
     ·exact .inl ⟨n2,q1,q2,q3⟩
     ·exact .inr (hun n2 z q2 q1)
   ·simp only[Array.toList_push,List.mem_append,List.mem_singleton] at hn2
    rcases hn2 with hn2 | hn2
    ·exact hD n2 z hn2 hz2 hq
    ·have:=hun n2 z hz2 hn2
     subst this;rw[Int.toNat_natCast] at hq;exact absurd hik hq
  ·have hik: ¬(i:Int)∈SS k:=by have:=(by assumption:(SS k).contains (i:Int)=false);simpa using this
   have hdk:done.getD k false=false:=by
    rw[List.getD_eq_getElem?_getD,List.getElem?_eq_getElem hkd]
    have:=(by assumption:done[k]=false)
    exact this
   have hnr:n7 g done i=false:=by
    cases hr:n7 g done i with
    | false=>rfl
    | true=>
     have:=(m7.1 hr).2 k hkg ((hld i k hig hkg).2 hzS);rw[hld k i hkg hig,hdk] at this;rcases this with h | h
     ·exact absurd h hik
     ·cases h
   refine ak.qJ (Γ':=.row ta (A.map (PV.int .i64))::.ob bI (Nb rs[i] cl (seen.push n)) [] []::.row tl (rs.map PV.mp)::.row td (done.map PV.bool)::.mp rs[i] (.int .i64) (mapM N4 (Ko (SS i))) []::R) (au.cC rs[i]) ?_;exact ak.gen (y:=.nil) (Γ':=.row tl (rs.map PV.mp)::.row td (done.map PV.bool)::.mp rs[i] (.int .i64) (mapM N4 (Ko (SS i))) []::R) (hp:=⟨(List.perm_append_comm (l₂:= [_,_])).symm⟩) (Wk.refl _) ⟨rfl,.inr ⟨hnr,rfl⟩⟩
  ·have hik: ¬(i:Int)∈SS k:=by have:=(by assumption:(SS k).contains (i:Int)=false);simpa using this
   have hdk:done.getD k false=true:=by
    rw[List.getD_eq_getElem?_getD,List.getElem?_eq_getElem hkd]
    have:=(by assumption:done[k]=true)
    exact this
   refine av (seen.push n,A,ta) ⟨ha1,ha2,hnd,fun z=>?_,fun n2 z hn2 hz2 hq=>?_⟩ hfil wA (hp:=⟨by rw[List.append_nil]⟩) (Γ1:= [])
   ·show z∈A↔_
    rw[hA];simp only[Array.toList_push,List.mem_append,List.mem_singleton];constructor
    ·rintro ⟨n2,q1,q2,q3⟩
     exact ⟨n2,.inl q1,q2,q3⟩
    ·rintro ⟨n2,q1 | q1,q2,q3⟩
     ·exact ⟨n2,q1,q2,q3⟩
     ·have:=hun n2 z q2 q1
      subst this;rw[Int.toNat_natCast] at q3;exact absurd q3 hik
   ·simp only[Array.toList_push,List.mem_append,List.mem_singleton] at hn2
    rcases hn2 with hn2 | hn2
    ·exact hD n2 z hn2 hz2 hq
    ·have:=hun n2 z hz2 hn2
     subst this;rw[Int.toNat_natCast];exact hdk
 ·have hAk: ∀ z,z∈A↔z∈lW g i:=fun z=>by
   rw[hA,hown, ←hdom,hAll.dom];exact ⟨fun ⟨n,_,h,q⟩=>⟨⟨n,h⟩,q⟩,fun ⟨⟨n,h⟩,q⟩=>⟨n,hs _ h,h,q⟩⟩
  have hrd:n7 g done i=true:=by
   rw[m7];refine ⟨hdi,fun k hk hik=>?_⟩;rw[hld k i hk hig];by_cases e:(i:Int)∈SS k
   ·exact .inl e
   ·obtain ⟨n,hn⟩:=(hAll.dom (k:Int)).1 ((hdom _).2 ((hld i k hig hk).1 hik))
    have:=hD n (k:Int) (hs _ hn) hn (by rwa [Int.toNat_natCast]);rw[Int.toNat_natCast] at this;exact .inr this
  conv=>whnf
  skip
  refine aq.go (DM ta A ha2 (by omega)) (aX.refl _) ?_;rintro _ _ ⟨rfl,rfl⟩;rw[sj hnd (Gu g i) hAk]
  conv=>whnf
  skip
  exact ⟨_,_,Shift.trans (Shift.qJ (au.cC rs[i])) (Shift.trans (Shift.cr (es:=(lW g i).map (PV.int .i64)) (qx.ms' ha2)) (Shift.wk (Wk.refl _) (List.perm_append_comm (l₂:= [_,_])).symm)),rfl,.inl ⟨hrd,rfl⟩⟩
def jF (SS:Nat→List Int):Nat→List Nat→List aj
 | _, []=> []
 | o,r::rs=>.mp r (.int .i64) (aS (SS o)) []::jF SS (o + 1) rs
theorem xK (SS:Nat→List Int): ∀ (rs:List Nat) (o k:Nat) (hk:k < rs.length),aj.mp rs[k] (.int .i64) (aS (SS (o + k))) []∈jF SS o rs
 | [],_,_,h=>absurd h (by simp)
 | r::rs,o,0,_=>by rw[jF,List.getElem_cons_zero];exact List.mem_cons_self ..
 | r::rs,o,k + 1,h=>by
  have:=xK SS rs (o + 1) k (by simpa using h);rw[jF,List.getElem_cons_succ,show o + (k + 1)=o + 1 + k by omega];exact List.mem_cons_of_mem _ this
theorem vt (SS:Nat→List Int): ∀ (rs:List Nat) (o k:Nat) (hk:k < rs.length), ∃ R,(jF SS o rs).Perm (.mp rs[k] (.int .i64) (aS (SS (o + k))) []::R)∧ ∀ j (hj:j < rs.length),j≠k→aj.mp rs[j] (.int .i64) (aS (SS (o + j))) []∈R
 | [],_,_,h=>absurd h (by simp)
 | r::rs,o,0,_=>by
  refine ⟨jF SS (o + 1) rs,by rw[jF,List.getElem_cons_zero];exact List.Perm.refl _,fun j hj hne=>?_⟩
  obtain ⟨j,rfl⟩: ∃ m,j=m + 1:=⟨j - 1,by omega⟩
  have:=xK SS rs (o + 1) j (by simpa using hj);rw[List.getElem_cons_succ,show o + (j + 1)=o + 1 + j by omega];exact this
 | r::rs,o,k + 1,h=>by
  obtain ⟨R,h1,h2⟩:=vt SS rs (o + 1) k (by simpa using h);refine ⟨.mp r (.int .i64) (aS (SS o)) []::R,?_,fun j hj hne=>?_⟩
  ·rw[jF,List.getElem_cons_succ,show o + (k + 1)=o + 1 + k by omega]
   exact (h1.cons _).trans (List.Perm.swap ..)
  ·cases j with
   | zero=>exact List.mem_cons_self ..
   | succ j=>
    have:=h2 j (by simpa using hj) (by omega);rw[List.getElem_cons_succ,show o + (j + 1)=o + 1 + j by omega];exact List.mem_cons_of_mem _ this
theorem vu (SS:Nat→List Int): ∀ (rs:List Nat) (o r:Nat),jF SS o (rs++ [r])=jF SS o rs++ [.mp r (.int .i64) (aS (SS (o + rs.length))) []]
 | [],_,_=>rfl
 | q::rs,o,r=>by
  rw[List.cons_append,jF,vu SS rs,jF,List.cons_append,List.length_cons,show o + (rs.length + 1)=o + 1 + rs.length by omega]
abbrev No:Option Nat→PV
 | some r=>.mp r
 | none=>ZK.mp.pv
instance:cn No (fun x=> [No x]):=⟨fun x=>by cases x<;>rfl⟩
instance (r:Nat):bV No (.mp r) (some r):=⟨Wk.refl _,gq.refl _⟩
def mV (n:Nat) (rs:List Nat):List (Option Nat):=rs.map some++List.replicate (n - rs.length) none
theorem Gj {n:Nat} {rs:List Nat} (h:rs.length≤n):(mV n rs).length=n:=by unfold mV;simp;omega
theorem Gk {n:Nat} {rs:List Nat} {r:Nat} (h:rs.length < n):(mV n rs).set rs.length (some r)=mV n (rs++ [r]):=by
 unfold mV;rw[List.set_append_right _ _ (by simp),List.length_map,Nat.sub_self,show n - rs.length=(n - (rs.length + 1)) + 1 by omega,List.replicate_succ,List.set_cons_zero,List.map_append,List.append_assoc,List.length_append,List.length_singleton];rfl
theorem Dg (rs:List Nat):(mV rs.length rs).map No=rs.map PV.mp:=by
 unfold mV;rw[Nat.sub_self,List.replicate_zero,List.append_nil,List.map_map];rfl
theorem DV (n:Nat):o8 (List.replicate n PV.bfalse) (((List.range n).map fun _=>false).map PV.bool):=by
 rw[List.map_const',List.length_range]
 induction n with
 | zero=>exact .nil
 | succ n ih=>exact .cons (.cons (Wk.ff rfl) .nil) ih
abbrev O7 (g:dm) (i:Nat):Bool→PV
 | true=>gQ (lW g i)
 | false=>.nil
theorem I1 {g:dm} {i y:Nat}:(y:Int)∈lW g i↔y∈eu g i:=by
 unfold lW;rw[List.mem_map];constructor
 ·rintro ⟨k,hk,e⟩
  have:k=y:=by omega
  rw[←this];exact hk
 ·intro h
  exact ⟨y,h,rfl⟩
theorem C3 {g:dm} {done:List Bool} {i0:Nat} (h:(List.range g.length).find? (n7 g done)=some i0) {j:Nat} (hj:j < i0):n7 g done j=false:=by
 rw[List.find?_range_eq_some] at h;have:=h.2.2 j hj;simpa using this
def iu (g:dm):List (List Int):=(j8 g).map fun l=>l.map fun x:Nat=>(x:Int)
abbrev Je (g:dm) (k:Nat):List Int:=cE g [(k:Int)]
theorem C7 (g:dm) (hg:nU g) (hn:g.length≤1000) (hl:1 + (gr g + g.length)≤1000000):aA Tryz.prog 194 [Kh g] (.bp [.sl 1 ((iu g).map gQ) none,.int .i64 0]):=by
 have hone: ∀ k:Nat,k < g.length→Ff g [(k:Int)]:=fun k hk x hx=>by rw[List.mem_singleton.1 hx];omega
 refine af.ah ai Tryz.func194 rfl rfl (n:=70) rfl rfl ?_
 conv=>whnf
 skip
 refine aq.pure (Fb g [] hg (fun x h=>absurd h (by simp)) hn) (by exact aX.cons (Wk.refl _) (aX.cons (Wk.ec rfl) aX.nil)) ?_
 conv=>whnf
 repeat' (first|((first|refine kK.row (by omega) (by omega) (by omega) (by show _ * 8≤_;omega) rfl fun tl hte hts=>?_|refine aM ?_|intro _);conv=>whnf)|(refine zX (fun hc=>?_) (fun hc=>?_)<;>(try simp only[SY] at hc)<;>omega))
 rw[show List.replicate ((g.length:Int)).toNat ZK.mp.pv=(mV g.length []).map No by rw[Int.toNat_natCast];unfold mV;simp[List.map_replicate,No]];refine ax.over [5,20,21,22,23,24,25,26,27,28,29,30] (fun rs:List Nat=> [(20,.int .i64 rs.length)]) (fun rs=>.row tl ((mV g.length rs).map No)::jF (Je g) 0 rs) (fun rs=>rs.length≤g.length) (fun rs=>g.length - rs.length) [] (Nat.zero_le _) wA (hp:=⟨by rw[List.append_nil];rfl⟩) (Γ1:= []) ?_;intro rs hrs;have hol:=Gj hrs;rcases Nat.lt_or_ge rs.length g.length with hlt | hge
 ·generalize hM:jF (Je g) 0 rs=M
  generalize hO:mV g.length rs=O at *
  conv=>whnf
  repeat' (first|((first|refine aM ?_|intro _);conv=>whnf)|(refine zX (fun hc=>?_) (fun hc=>?_)<;>(try simp only[SY] at hc)<;>first|omega|(conv=>whnf)))
  rename Tok=>t0
  refine aq.go (Jg g [(rs.length:Int)] hg (hone _ hlt) (by simp;omega)) (aX.cons (Wk.refl _) (aX.cons (Wk.tok 1 [.int .i64 (rs.length:Int)] _) aX.nil)) ?_;rintro _ _ ⟨r,rfl,rfl⟩
  conv=>whnf
  repeat' (first|((first|refine aM ?_|refine aF ?_);conv=>whnf)|(refine zX (fun hc=>?_) (fun hc=>?_)<;>(try simp only[SY] at hc)<;>omega))
  subst hO;subst hM;refine av (rs++ [r]) (by simp;omega) (by simp;omega) (by show bU 0 _ _ _ [(20,.int .i64 (((rs++ [r]).length:Nat):Int))];rw[show (rs++ [r]).length=rs.length + 1 by simp];exact wA) (hp:=⟨?_⟩) (Γ1:= [.tok t0]);rw[vu,Nat.zero_add, ←Gk hlt];refine (List.Perm.swap ..).trans (List.Perm.trans ?_ (List.perm_append_singleton (aj.tok t0) _).symm);refine List.Perm.cons _ ?_;refine (List.Perm.swap ..).trans (List.Perm.cons _ ?_);exact (List.perm_append_singleton _ _).symm
 ·obtain hrl:rs.length=g.length:=by omega
  rw[←hrl,Dg,hrl];have hpk:=fun k (hk:k < rs.length)=>vt (Je g) rs 0 k hk;simp only[Nat.zero_add] at hpk;generalize hM:jF (Je g) 0 rs=M at *
  conv=>whnf
  repeat' (first|((first|refine kK.row (by omega) (by omega) (by omega) (by show _ * 1≤_;omega) rfl fun td htd hds=>?_|refine aM ?_|intro _);conv=>whnf)|(refine zX (fun hc=>?_) (fun hc=>?_)<;>(try simp only[SY] at hc)<;>first|omega|(conv=>whnf)))
  rw[Int.toNat_natCast];refine ax.y6 (au.GG (t:=td) (DV g.length)) ?_;refine ax.y6 (au.nil 1 23 _) ?_
  refine ax.over [7,8,9,10,12,34,35,36,37,38,39,40,41,42,43,44,45,46,47,48,49,50,51,52,53,54,55,56,57,58,59,60,61,62,63,64,65,66,67,68] (fun x:List Bool×Nat×(List (List Int)×Tok)×Nat=> [(7,.sl 1 (x.2.2.1.1.map gQ) (some x.2.2.1.2)),(8,.int .i64 x.2.1)])
   (fun x=>.tok x.2.2.1.2::.row tl (rs.map PV.mp)::.row td (x.1.map PV.bool)::M)
   (fun x=>Hh g x.1 x.2.1∧x.2.2.1.2.e=23∧g.length≤x.2.1 + x.2.2.2∧x.2.2.1.1++((mz g x.2.2.2 x.1 x.2.1).map fun l=>l.map fun x:Nat=>(x:Int))=iu g∧x.2.2.1.1.length≤x.2.1) (fun x=>x.2.2.2)
   ((List.range g.length).map fun _=>false,0,([],aB 1 23),g.length) ⟨Hh.zero g,rfl,by simp,rfl,by simp⟩ (by repeat' (first|exact trivial|refine And.intro ?_ ?_|exact Wk.cz _ _|exact Wk.aB _ _|exact Wk.refl _)) (hp:=⟨by rw[List.append_nil];exact .cons _ (.swap ..)⟩) (Γ1:= []) ?_
  rintro ⟨done,n,⟨G,tg⟩,f⟩ ⟨hG,htg,hf,he,hgl⟩;dsimp only at hG htg hf he hgl ⊢;have hdl:=hG.len;have hnl:n≤g.length:=by have:=hG.n;have:=uN g done;omega
  rcases Nat.lt_or_ge n g.length with hlt | hge2
  ·obtain ⟨f,rfl⟩: ∃ k,f=k + 1:=⟨f - 1,by omega⟩
   obtain ⟨i0,hi0,hr0,hfd⟩:=hG.find hg hlt;rw[mz,if_pos hlt,hfd] at he;dsimp only at he
   conv=>whnf
   repeat' (first|((first|refine aM ?_|intro _);conv=>whnf)|(refine zX (fun hc=>?_) (fun hc=>?_)<;>(try simp only[SY] at hc)<;>first|omega|(conv=>whnf)))
   refine ax.keep [9,10,38,39,40,41,42,43,44,45,46,47,48,49,50] (fun x:Nat×Bool=> [(9,O7 g i0 x.2),(10,.int .i64 x.1)]) (fun x=>x.1≤i0 + 1∧(x.2=false→x.1≤i0)) (fun x=>i0 + 1 - x.1) (0,false) ⟨by omega,fun _=>Nat.zero_le _⟩ wA ?_;have hd0:=(m7.1 hr0).1;rintro ⟨i,b⟩ ⟨hb1,hb2⟩;dsimp only at hb1 hb2⊢
   cases b with
   | false=>
    have hb:=hb2 rfl;have hid:i < done.length:=by omega
    have hir:i < rs.length:=by omega
    conv=>whnf
    repeat' (first|((first|refine aM ?_|refine aF ?_|refine zG ?_);conv=>whnf)|(refine zX (fun hc=>?_) (fun hc=>?_)<;>(try simp only[SY] at hc)<;>(conv=>whnf)))
    ·obtain ⟨R,hp1,hp2⟩:=hpk i hir
     have hdi:done.getD i false=false:=by
      rw[List.getD_eq_getElem?_getD,List.getElem?_eq_getElem hid]
      have:=(by assumption:done[i]=false)
      exact this
     refine aq.KQ [.tok tg] (Gy g hg hn rs (Je g) tl td done i R hrl (fun k hk x=>ig hg (hone k hk) x) hir hdl hdi hp2 hts hds) (aX.refl _) (((hp1.cons _).cons _).cons _) ?_;rintro _ _ ⟨rfl,hy⟩
     rcases hy with ⟨hr,rfl⟩ | ⟨hr,rfl⟩
     ·have hii:i=i0:=by
       rcases Nat.lt_or_ge i i0 with h | h
       ·rw[C3 hfd h] at hr;cases hr
       ·omega
      subst hii
      conv=>whnf
      repeat' (first|((refine aM ?_);conv=>whnf)|(refine zX (fun hc=>?_) (fun hc=>?_)<;>(try simp only[SY] at hc)<;>omega))
      exact av (i + 1,true) ⟨Nat.le_refl _,fun h=>by cases h⟩ (by show i + 1 - (i + 1) < i + 1 - i;omega) wA (hp:=⟨by rw[List.append_nil];exact (((hp1.cons _).cons _).cons _).symm⟩) (Γ1:= [])
     ·have hii:i < i0:=by
       rcases Nat.lt_or_ge i i0 with h | h
       ·exact h
       ·rw[show i=i0 by omega,hr0] at hr;cases hr
      conv=>whnf
      repeat' (first|((refine aM ?_);conv=>whnf)|(refine zX (fun hc=>?_) (fun hc=>?_)<;>(try simp only[SY] at hc)<;>omega))
      exact av (i + 1,false) ⟨by show i + 1≤_;omega,fun _=>by show i + 1≤_;omega⟩ (by show i0 + 1 - (i + 1) < i0 + 1 - i;omega) wA (hp:=⟨by rw[List.append_nil];exact (((hp1.cons _).cons _).cons _).symm⟩) (Γ1:= [])
    ·have hdi:done.getD i false=true:=by
      rw[List.getD_eq_getElem?_getD,List.getElem?_eq_getElem hid]
      have:=(by assumption:done[i]=true)
      exact this
     have hii:i < i0:=by
      rcases Nat.lt_or_ge i i0 with h | h
      ·exact h
      ·rw[show i=i0 by omega,hd0] at hdi;cases hdi
     exact av (i + 1,false) ⟨by show i + 1≤_;omega,fun _=>by show i + 1≤_;omega⟩ (by show i0 + 1 - (i + 1) < i0 + 1 - i;omega) wA
   | true=>
    have hoc: ∀ y:Nat,(y:Int)∈lW g i0↔y∈eu g i0:=fun y=>I1;have hol:(lW g i0).length=(eu g i0).length:=by unfold lW;simp
    have hor: ∀ c∈lW g i0, ∃ y:Nat,c=y∧y < g.length:=fun c hc=>by
     unfold lW at hc;obtain ⟨y,hy,rfl⟩:=List.mem_map.1 hc;exact ⟨y,rfl,(iz.1 hy).1⟩
    have hpos:0 < (eu g i0).length:=List.length_pos_of_mem (iz.2 ⟨hi0,iJ hg hi0,iJ hg hi0⟩);have hnx:=hG.next hg hi0 hr0;have hnn:n + (eu g i0).length≤g.length:=by have:=hnx.n;have:=uN g (j6 g done (eu g i0));omega
    have hda: ∀ y,y < g.length→((j6 g done (eu g i0)).getD y false=true↔done.getD y false=true∨(y:Int)∈lW g i0):=fun y hy=>by rw[tJ hy,hoc]
    have hdll:(j6 g done (eu g i0)).length=g.length:=hnx.len;rw[List.map_cons] at he;generalize hOI:((eu g i0).map fun x:Nat=>(x:Int))=own at *;have hOI2:lW g i0=own:=hOI;simp only[O7,hOI2] at *
    conv=>whnf
    repeat' (first|((first|refine aM ?_|refine aF ?_|intro _|refine zG ?_);conv=>whnf)|(refine zX (fun hc=>?_) (fun hc=>?_)<;>(try simp only[SY] at hc)<;>(conv=>whnf)))
    ·rename_i q hq
     have h0:own= []:=by simpa using hq (by simpa using hc)
     rw[h0,List.length_nil] at hol;omega
    ·refine ax.over [12,53,54,55,56,57,58,59,60] (fun x:Nat×List Bool=> [(53,.int .i64 x.1)]) (fun x=>.tok tg::.row tl (rs.map PV.mp)::.row td (x.2.map PV.bool)::M)
      (fun x=>x.1≤own.length∧x.2.length=g.length∧ ∀ y,y < g.length→(x.2.getD y false=true↔done.getD y false=true∨(y:Int)∈own.take x.1)) (fun x=>own.length - x.1) (0,done) ⟨Nat.zero_le _,hdl,fun y hy=>by simp⟩ wA (hp:=⟨by rw[List.append_nil]⟩) (Γ1:= []) ?_
     rintro ⟨j,d⟩ ⟨hj,hdl2,hdt⟩;dsimp only at hj hdl2 hdt ⊢;rcases Nat.lt_or_ge j own.length with hjl | hje
     ·obtain ⟨c,hc1,hc2⟩:=hor own[j] (List.getElem_mem hjl)
      have hcd:0≤own[j]∧own[j] < d.length:=by omega
      have e2:own[j].toNat=c:=by omega
      conv=>whnf
      repeat' (first|((first|refine aM ?_|refine aF ?_);conv=>whnf)|(refine zX (fun hc=>?_) (fun hc=>?_)<;>(try simp only[SY] at hc)<;>first|omega|(conv=>whnf)))
      refine av (j + 1,d.set own[j].toNat true) ⟨by show j + 1≤_;omega,by show (d.set _ _).length=_;rw[List.length_set];exact hdl2,fun y hy=>?_⟩ (by show own.length - (j + 1) < own.length - j;omega) wA (hp:=⟨by rw[List.append_nil]⟩) (Γ1:= []);show (d.set own[j].toNat true).getD y false=true↔_;rw[List.take_succ_eq_append_getElem hjl,List.mem_append,List.mem_singleton,hc1,Int.toNat_natCast,List.getD_eq_getElem?_getD,List.getElem?_set];by_cases e:c=y
      ·subst e
       rw[if_pos rfl,if_pos (by omega)];simp
      ·rw[if_neg e, ←List.getD_eq_getElem?_getD,hdt y hy]
       have: ¬(y:Int)=(c:Int):=by omega
       simp[this]
     ·have hd2:d=j6 g done (eu g i0):=by
       refine yz (by omega) fun y hy=>?_;rw[hdt y (by omega),hda y (by omega),List.take_of_length_le (by omega)]
      subst hd2;rw[←hol] at he hnx hnn
      conv=>whnf
      repeat' (first|((first|refine aM ?_|refine aF ?_|intro _);conv=>whnf)|(refine zX (fun hc=>?_) (fun hc=>?_)<;>(try simp only[SY] at hc)<;>first|omega|(conv=>whnf)))
      rename Tok=>t5
      exact av (j6 g done (eu g i0),n + own.length,(G++ [own],t5),f) ⟨hnx,by assumption,by show _≤n + own.length + f;omega,by show (G++ [own])++_=_;rw[List.append_assoc];exact he,by show (G++ [own]).length≤n + own.length;rw[List.length_append,List.length_singleton];omega⟩ (by show f < f + 1;omega) wA (hp:=⟨(List.perm_append_singleton _ _).symm⟩) (Γ1:= [_])
  ·have hgf:mz g f done n= []:=by
    cases f with
    | zero=>rfl
    | succ f=>rw[mz,if_neg (by omega)]
   rw[hgf,List.map_nil,List.append_nil] at he;subst he
   conv=>whnf
   repeat' (first|((first|refine aM ?_|intro _);conv=>whnf)|(refine zX (fun hc=>?_) (fun hc=>?_)<;>(try simp only[SY] at hc)<;>first|omega|(conv=>whnf)))
   exact ak.pure (Wk.bp (.cons (Wk.tok _ _ _) (.cons (Wk.refl _) .nil)))
abbrev G6 (bc:Nat) (tk:Tok) (l:List aa):List aj:= [.box bc [.ms tk],.row tk (l.map aa.pv)]
theorem nP {α:Type} (l:List α) (z x:α):(l++ [z]).set l.length x=l++ [x]:=by
 rw[List.set_append_right _ _ (Nat.le_refl _),Nat.sub_self];rfl
theorem zn (bc:Nat) (tk:Tok) (l:List aa) (v:Int) (e:aa) (h1:tk.e=26) (h2:tk.s=4) (hl:l.length≤1000000):
  af Tryz.prog 150 [.ptr bc 0,.int .i64 v,.agg e.cells] (G6 bc tk l) (fun y Γ'=> ∃ tk':Tok,tk'.e=26∧tk'.s=4∧y=.bp []∧Γ'=G6 bc tk' (l++ [mA v e])):=by
 refine af.ah ai Tryz.func150 rfl rfl (n:=19) rfl rfl ?_
 conv=>whnf
 repeat' (first|((intro _);conv=>whnf)|(refine zX (fun hc=>?_) (fun hc=>?_)<;>(try simp only[SY] at hc)<;>omega))
 refine aD.tree ai mixed [0,1,3,0,8,0,32,120,7,0,1023,2047,4095,2047,10239] [0,1,3,4,5,6,7,9] [2,8,10,11,12,13,14] [.box bc [.ms tk],.row tk (l.map aa.pv)] ?_
 conv=>whnf
 conv=>whnf
 repeat' (first|((first|((apply zZ);exact tB)|refine aM ?_|(refine And.intro ?_ ?_)|(refine eF.map fun _=>?_)|(refine eY.Ob (l:=l++ [aa.mk 0 0 [] []]) (by assumption) (by omega) (by simp;omega) ?_)|(refine cc.rB (f:=aa.pv) (l:=l++ [aa.mk 0 0 [] []]) (by simp) rfl rfl rfl ?_)|refine aF ?_|intro _);conv=>whnf)|(refine zX (fun hc=>?_) (fun hc=>?_)<;>(try simp only[SY] at hc)<;>omega))
 all_goals try exact trivial
 all_goals
  rw[nP]
  rename Tok=>t5
  exact ak.gen (y:=.bp []) (Γ':=G6 bc t5 (l++ [aa.mk 8 0 [v] [e]])) (Wk.refl _) ⟨t5,by assumption,by assumption,rfl,rfl⟩
theorem E3 (bc:Nat) (tk:Tok) (l:List aa) (v:Int) (e:aa) (h1:tk.e=26) (h2:tk.s=4) (hl:l.length≤1000000):
  af Tryz.prog 149 [.ptr bc 0,.int .i64 v,.agg e.cells] (G6 bc tk l) (fun y Γ'=> ∃ tk':Tok,tk'.e=26∧tk'.s=4∧y=.bp []∧Γ'=G6 bc tk' (l++ [nc v e])):=by
 refine af.ah ai Tryz.func149 rfl rfl (n:=20) rfl rfl ?_
 conv=>whnf
 repeat' (first|((intro _);conv=>whnf)|(refine zX (fun hc=>?_) (fun hc=>?_)<;>(try simp only[SY] at hc)<;>omega))
 refine aD.tree ai mixed [0,1,3,0,0,16,56,120,248,7,0,2047,4095,8191,4095,20479] [0,1,3,4,5,6,7,8,10] [2,9,11,12,13,14,15] [.box bc [.ms tk],.row tk (l.map aa.pv)] ?_
 conv=>whnf
 conv=>whnf
 repeat' (first|((first|((apply zZ);exact tB)|refine aM ?_|(refine And.intro ?_ ?_)|(refine eF.map fun _=>?_)|(refine eY.Ob (l:=l++ [aa.mk 0 0 [] []]) (by assumption) (by omega) (by simp;omega) ?_)|(refine cc.rB (f:=aa.pv) (l:=l++ [aa.mk 0 0 [] []]) (by simp) rfl rfl rfl ?_)|refine aF ?_|intro _);conv=>whnf)|(refine zX (fun hc=>?_) (fun hc=>?_)<;>(try simp only[SY] at hc)<;>omega))
 all_goals try exact trivial
 all_goals
  rw[nP]
  rename Tok=>t5
  exact ak.gen (y:=.bp []) (Γ':=G6 bc t5 (l++ [aa.mk 6 0 [] [aa.mk 2 v [] [e]]])) (Wk.refl _) ⟨t5,by assumption,by assumption,rfl,rfl⟩
abbrev gP.cells (f:gP):List PV:= [.int .i64 f.lv,.int .i64 9,.int .i64 0,.sl 1 (f.vs.map (PV.int .i64)) none,.sl 4 (f.ts.map aa.pv) none]
abbrev gP.pv (f:gP):PV:=.agg f.cells
instance:cn gP.pv gP.cells:=⟨fun _=>rfl⟩
theorem C4 {fs:List gP} {lv:Int} {i:Nat} (h:i < fs.length):cj (fs.take (i + 1)) lv=cj (fs.take i) lv++if fs[i].lv=lv then [OU fs[i]] else []:=by
 unfold cj;rw[List.take_succ_eq_append_getElem h,List.filter_append,List.map_append];congr 1;by_cases e:fs[i].lv=lv
 ·rw[if_pos e];simp[e]
 ·rw[if_neg e];simp[e]
theorem FV (fs:List gP) (lv:Int) (i:Nat):(cj (fs.take i) lv).length≤i:=by
 unfold cj;rw[List.length_map];exact Nat.le_trans (List.length_filter_le _ _) (by rw[List.length_take];omega)
theorem yX (bc:Nat) (tk:Tok) (l0:List aa) (fs:List gP) (lv:Int) (h1:tk.e=26) (h2:tk.s=4) (hl0:l0.length + fs.length≤1000000):
  af Tryz.prog 148 [.ptr bc 0,.sl 5 (fs.map gP.pv) none,.int .i64 lv] (G6 bc tk l0) (fun y Γ'=> ∃ tk':Tok,tk'.e=26∧tk'.s=4∧y=.bp []∧Γ'=G6 bc tk' (l0++cj fs lv)):=by
 refine af.ah ai Tryz.func148 rfl rfl (n:=29) rfl rfl ?_
 conv=>whnf
 repeat (first|refine wu ?_|((intro _);conv=>whnf))
 refine ax.over [7,10,11,12,13,14,15,16,17,18,19,20,21,22,23,24,25,26,27,28] (fun x:Nat×Tok×List aa=> [(10,.int .i64 x.1)]) (fun x=> [.box bc [.ms x.2.1],.row x.2.1 (x.2.2.map aa.pv)]) (fun x=>x.1≤fs.length∧x.2.1.e=26∧x.2.1.s=4∧x.2.2=l0++cj (fs.take x.1) lv) (fun x=>fs.length - x.1) (0,tk,l0) ⟨Nat.zero_le _,h1,h2,by simp[cj]⟩ wA ?_;rintro ⟨i,tk,l⟩ ⟨hi,h1,h2,hl⟩;dsimp only at hi h1 h2 hl ⊢;have hfl:=FV fs lv i;have hll:l.length=l0.length + (cj (fs.take i) lv).length:=by rw[hl,List.length_append]
 rcases Nat.lt_or_ge i fs.length with hlt | hge
 ·have hft:=C4 (lv:=lv) hlt
  conv=>whnf
  repeat' (first|refine aY ?_|((intro _);conv=>whnf)|(refine zX (fun hc=>?_) (fun hc=>?_)<;>(try simp only[SY] at hc)<;>first|omega|(conv=>whnf)))
  ·refine aD.tree ai mixed [0,1,3,0,8,7,0,127,255,511,255,1279] [0,1,3,4,6] [2,5,7,8,9,10,11] [.box bc [.ms tk],.row tk (l.map aa.pv)] ?_
   conv=>whnf
   conv=>whnf
   repeat' (first|((first|((apply zZ);exact tB)|refine aM ?_|(refine And.intro ?_ ?_)|(refine eF.map fun _=>?_)|(refine eY.Ob (l:=l++ [aa.mk 0 0 [] []]) (by assumption) (by omega) (by simp;omega) ?_)|(refine cc.rB (f:=aa.pv) (l:=l++ [aa.mk 0 0 [] []]) (by simp) rfl rfl rfl ?_)|refine aF ?_|intro _);conv=>whnf)|(refine zX (fun hc=>?_) (fun hc=>?_)<;>(try simp only[SY] at hc)<;>omega))
   all_goals try exact trivial
   all_goals
    rw[nP]
    rename Tok=>t5
    exact av (i + 1,t5,l++ [aa.mk 9 0 fs[i].vs fs[i].ts]) ⟨by show i + 1≤_;omega,by assumption,by assumption,by show l++_=_;rw[hft,if_pos (by assumption),hl,List.append_assoc];rfl⟩ (by show fs.length - (i + 1) < fs.length - i;omega) wA
  ·rw[if_neg (by assumption),List.append_nil] at hft
   exact av (i + 1,tk,l) ⟨by show i + 1≤_;omega,h1,h2,by show l=_;rw[hft];exact hl⟩ (by show fs.length - (i + 1) < fs.length - i;omega) wA
 ·rw[List.take_of_length_le (by omega)] at hl
  rw[←hl]
  conv=>whnf
  repeat' ((refine zX (fun hc=>?_) (fun hc=>?_)<;>(try simp only[SY] at hc)<;>first|omega|(conv=>whnf)))
  exact ak.gen (y:=.bp []) (Γ':=G6 bc tk l) (Wk.refl _) ⟨tk,h1,h2,rfl,rfl⟩
end Go.Cb


