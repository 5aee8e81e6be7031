/-
 Appends onto rows of one's own; maps from numbers.
 Contracts: the document's reader: lists, data.
 Plain law: the document's expander of forms, as a function.
 Contracts: Go's library, as far as the program calls it.
 Contracts: the program's reading of a number.
 Contracts: package slices at the program's types (written by tools/gen_slices.py).
 Contracts: the program's data.
 Contracts: how many.
 Contracts: the document's check of terms.
 Contracts: the program's check of terms, the small functions.
 Plain law: core data, and terms of them, as functions.
 Plain law: data, their parts and sizes.
 Contracts: the document's core data.
 Contracts: the document's core data: what is one.
 Contracts: the document's reader: all up to a closing bracket.
 Contracts: the document's reader: what stands behind a #, data, texts.
 Contracts: the document's expander: names, lists.
 Contracts: the document's check of terms, the rest of it.
 Contracts: the document's check of terms, within a scope.
 Contracts: the document's check of programs.
 Plain law: a program's term, and the document's: where no name is lost they are the same.
 Plain laws: numbers in order, each once.
 Contracts: the program's check of terms: variables are bound.
 Contracts: package slices with functions that change what they hold.
 Contracts: the program's check of terms: what is done at the end.
 Contracts: the program's check of terms: whether a term is right.
-/
import Derived.Lib.Bytealg
import Derived.Lib.SlicesCompact
import Derived.Test.YtamlcgkjinbnlaaGreatDoorA3
set_option linter.unusedSimpArgs false
set_option linter.unusedVariables false
namespace Go.Cb
open Go.Proofs
set_option maxRecDepth 100000
theorem aZ.FZ {α:Type} {f:α→PV} {l m:List α} {es:List PV} {s kB:Nat} {e:TypeId} {tk:Option Tok} {t:Tok} {Γ:List aj} {put:Tok→List PV→List aj} [hp:dD Γ t (l.map f) put] [hm:oL f es m] {K:PV→List aj→Prop} (he:t.e=e) (hs:t.s=s)
  (hb:Nat.ble kB 4096=true) (h1:l.length + m.length≤34359738368)
  (k: ∀ t':Tok,t'.e=e→t'.s=s→K (.ms t') (put t' ((l++m).map f))):aZ s kB e (.ms t) (.sl s es tk) Γ K:=by
 obtain ⟨Γ1,Γ2,e1,e2⟩:=hp.at_;refine ⟨l.map f,m.map f,.inl ⟨none,Wk.trans (Wk.tok _ _ _) (Wk.row hm.h)⟩,by simp;omega,by simpa using qK hb h1,.inr (.inr ⟨t,Γ1,Γ2,rfl,e1,he,hs,fun t' ht hs'=>?_⟩)⟩;have:=k t' ht hs';rw[List.map_append,e2] at this;exact this
theorem yD:type_of% @aZ.FZ:= @aZ.FZ
def mapM {α:Type} (f:α→PV) (m:Int→Option α) (v:Value):Option PV:=match v with
 | .int .i64 k=>(m k).map f
 | _=>none
theorem fM.num {α:Type} {f:α→PV} {r:Nat} {m:Int→Option α} {n:Int} {z:PV} {Γ:List aj} {aL:List (Int×Value)} {put:(Value→Option PV)→List (Int×Value)→List aj} [hp:de Γ r (.int .i64) (mapM f m) aL put] {K:PV→Bool→Prop}
  (h:K (match m n with | some x=>f x | none=>z) (m n).isSome):fM r (.int .i64) (some (.int .i64 n)) z Γ K:=
 fM.at_ (hp:=hp) _ _ (by simp[oX,MapKept.IsKey]) (fun p hp=>by
  simp only[mapM] at hp
  cases hm:m n with
  | none=>rw[hm] at hp;cases hp
  | some x=>rw[hm] at hp;cases hp;exact ⟨Wk.refl _,rfl⟩) (fun hn=>by
  simp only[mapM] at hn
  cases hm:m n with
  | none=>exact ⟨Wk.refl _,rfl⟩
  | some x=>rw[hm] at hn;cases hn) h
theorem yH {α:Type} {f:α→PV} {r:Nat} {m:Int→Option α} {n:Int} {x:α} {z:PV} {Γ:List aj} {aL:List (Int×Value)} {put:(Value→Option PV)→List (Int×Value)→List aj} [hp:de Γ r (.int .i64) (mapM f m) aL put] {K:PV→Bool→Prop}
  (hx:m n=some x) (h:K (f x) true):fM r (.int .i64) (some (.int .i64 n)) z Γ K:=fM.num (hp:=hp) (by rw[hx];exact h)
theorem yI {α:Type} {f:α→PV} {r:Nat} {m:Int→Option α} {n:Int} {z:PV} {Γ:List aj} {aL:List (Int×Value)} {put:(Value→Option PV)→List (Int×Value)→List aj} [hp:de Γ r (.int .i64) (mapM f m) aL put] {K:PV→Bool→Prop}
  (hx:m n=none) (h:K z false):fM r (.int .i64) (some (.int .i64 n)) z Γ K:=fM.num (hp:=hp) (by rw[hx];exact h)
def Sh {α:Type} (m:Int→Option α) (n:Int) (x:α):Int→Option α:=fun k=>if k=n then some x else m k
theorem jI {α β:Type} {f:α→β}: ∀ {l:List α},(l.map f).Nodup→ ∀ {x y:α},x∈l→y∈l→f x=f y→x=y
 | [],_,x,_,hx,_,_=>by cases hx
 | a::l,h,x,y,hx,hy,e=>by
  rw[List.map_cons,List.nodup_cons] at h;rcases List.mem_cons.1 hx with hx1 | hx
  ·rcases List.mem_cons.1 hy with hy1 | hy
   ·rw[hx1,hy1]
   ·exact absurd (List.mem_map.2 ⟨y,hy,by rw[←e,hx1]⟩) h.1
  ·rcases List.mem_cons.1 hy with hy1 | hy
   ·exact absurd (List.mem_map.2 ⟨x,hx,by rw[e,hy1]⟩) h.1
   ·exact jI h.2 hx hy e
structure Nr {α:Type} (m:Int→Option α) (all:List (Nat×Int)):Prop where
 dom: ∀ z,m z≠none↔ ∃ n,(n,z)∈all
 nk:(all.map (·.2)).Nodup
 nb:(all.map (·.1)).Nodup
def Nh (cl:Nat) (all:List (Nat×Int)):List (Int×Value):=((cl:Int),.tuple #[])::all.map fun q=>((q.1:Int),.int .i64 q.2)
abbrev NZ (r cl:Nat) (seen:Array Nat):Obj:=.mapIter (some r) cl seen cl
theorem NY {v:Value} (h:oX (.int .i64) v): ∃ z,v=.int .i64 z:=by
 rcases h with h | ⟨e,a,b,h,_⟩
 ·cases v<;>first | exact h.elim | skip
  rename_i k z;have:k=.i64:=h;exact ⟨z,by rw[this]⟩
 ·cases h
theorem xI: ∀ l:List (Int×Value),(∀ q∈l,0≤q.1∧oX (.int .i64) q.2)→ ∃ all:List (Nat×Int),l=all.map fun q=>((q.1:Int),Value.int .i64 q.2)
 | [],_=>⟨[],rfl⟩
 | (a,v)::l,h=>by
  obtain ⟨h1,h2⟩:=h (a,v) (by simp);obtain ⟨z,rfl⟩:=NY h2;obtain ⟨all,rfl⟩:=xI l fun q hq=>h q (by simp[hq]);simp only at h1;exact ⟨(a.toNat,z)::all,by rw[List.map_cons];simp only[List.cons.injEq,Prod.mk.injEq,and_true];omega⟩
theorem jv.num {α:Type} {f:α→PV} {r:Nat} {m:Int→Option α} {Γ:List aj} {aL:List (Int×Value)} {put:(Value→Option PV)→List (Int×Value)→List aj} [hp:de Γ r (.int .i64) (mapM f m) aL put] {K:PV→List aj→Prop}
  (h: ∀ b all cl,Nr m all→(∀ q∈all,q.1 < cl)→K (.ptr b 0) (.ob b (NZ r cl #[]) [] []::put (mapM f m) (Nh cl all))):jv r (.int .i64) Γ K:=by
 obtain ⟨Γ1,Γ2,e1,e2⟩:=hp.at_;refine ⟨mapM f m,aL,Γ1,Γ2,e1,fun b l cl ha=>?_⟩
 obtain ⟨all,rfl⟩:=xI l fun q hq=>⟨(ha.lt q hq).1,(ha.key q hq).1⟩
 have hA:Nr m all:=by
  refine ⟨fun z=>⟨fun hz=>?_,fun ⟨n,hn⟩ hz=>?_⟩,?_,?_⟩
  ·cases hm:m z with
   | none=>exact absurd hm hz
   | some x=>
    obtain ⟨n,hn⟩:=ha.dom (.int .i64 z) (f x) (by simp[mapM,hm]);obtain ⟨q,hq,e⟩:=List.mem_map.1 hn;simp only[Prod.mk.injEq,Value.int.injEq,true_and] at e;exact ⟨q.1,by rw[←e.2];exact hq⟩
  ·have:=(ha.key ((n:Int),.int .i64 z) (List.mem_map.2 ⟨(n,z),hn,rfl⟩)).2
   exact this (by simp[mapM,hz])
  ·have:=ha.nk
   rw[List.map_map,List.Nodup,List.pairwise_map] at this;rw[List.Nodup,List.pairwise_map];exact this.imp fun {x y} h e=>h (by simp only[Function.comp,e])
  ·have:=ha.nb
   rw[List.map_map,List.Nodup,List.pairwise_map] at this;rw[List.Nodup,List.pairwise_map];exact this.imp fun {x y} h e=>h (by simp only[Function.comp,e])
 have:=h b all cl hA fun q hq=>by have:=(ha.lt _ (List.mem_map.2 ⟨q,hq,rfl⟩)).2;simp only at this;omega
 rw[e2] at this;exact this
class oZ (Γ:List aj) (b:Nat) (o:outParam Obj) (put:outParam (Obj→List aj)):Prop where
 at_: ∃ Γ1 Γ2,Γ=Γ1++.ob b o [] []::Γ2∧ ∀ o',put o'=Γ1++.ob b o' [] []::Γ2
instance (priority:=high) oZ.head (Γ:List aj) (b:Nat) (o:Obj):oZ (.ob b o [] []::Γ) b o (fun o'=>.ob b o' [] []::Γ):=⟨[],Γ,rfl,fun _=>rfl⟩
instance oZ.tail (e:aj) (Γ:List aj) (b:Nat) (o:Obj) (put:Obj→List aj) [h:oZ Γ b o put]:oZ (e::Γ) b o (fun o'=>e::put o'):=by
 obtain ⟨Γ1,Γ2,h1,h2⟩:=h.at_;exact ⟨e::Γ1,Γ2,by rw[h1];rfl,fun o'=>by rw[h2];rfl⟩
theorem uX {cl:Nat} {all:List (Nat×Int)} {n:Nat} {z:Int}:((n:Int),Value.int .i64 z)∈all.map (fun q=>((q.1:Int),Value.int .i64 q.2))↔(n,z)∈all:=by
 rw[List.mem_map];constructor
 ·rintro ⟨q,hq,e⟩
  simp only[Prod.mk.injEq,Value.int.injEq,true_and] at e;have:q=(n,z):=Prod.ext (by have:=e.1;simp only;omega) e.2;rw[←this];exact hq
 ·intro h;exact ⟨_,h,rfl⟩
theorem mc.num {α:Type} {f:α→PV} {b r cl:Nat} {seen:Array Nat} {m:Int→Option α} {all:List (Nat×Int)} {Γ:List aj} {put:Obj→List aj} [hb:oZ Γ b (NZ r cl seen) put] {put2:(Value→Option PV)→List (Int×Value)→List aj} [hp:de Γ r (.int .i64) (mapM f m) (Nh cl all) put2] {K:PV→List aj→Prop}
  (hA:Nr m all) (hl: ∀ q∈all,q.1 < cl) (h1: ∀ n z x,(n,z)∈all→m z=some x→n∉seen.toList→K (.bn [.aY,.any,.any]) (put (NZ r cl (seen.push n)))) (h2:(∀ q∈all,q.1∈seen.toList)→K (.bn [.bfalse]) Γ):mc b Γ K:=by
 obtain ⟨Γ1,Γ2,e1,e2⟩:=hb.at_;obtain ⟨Γ3,Γ4,e3,e4⟩:=hp.at_
 have hdom: ∀ k p,mapM f m k=some p→ ∃ z x,k=.int .i64 z∧m z=some x:=fun k p hk=>by
  unfold mapM at hk
  split at hk
  ·rename_i z
   cases hm:m z with
   | none=>rw[hm] at hk;cases hk
   | some x=>exact ⟨z,x,rfl,hm⟩
  ·cases hk
 refine ⟨r,cl,seen,.int .i64,mapM f m,all.map (fun q=>((q.1:Int),.int .i64 q.2)),Γ1,Γ2,e1,by rw[e3];simp[Nh],fun k p hk=>?_,fun q hq=>?_,fun n k p hn hk hs=>?_,fun hs=>h2 fun q hq=>?_⟩
 ·obtain ⟨z,x,rfl,hm⟩:=hdom k p hk
  obtain ⟨n,hn⟩:=(hA.dom z).1 (by simp[hm]);exact ⟨(n:Int),(uX (cl:=cl)).2 hn⟩
 ·obtain ⟨q',hq',rfl⟩:=List.mem_map.1 hq
  have:=hl q' hq';simp only;omega
 ·obtain ⟨z,x,rfl,hm⟩:=hdom k p hk
  have:=h1 n z x ((uX (cl:=cl)).1 hn) hm hs;rw[e2] at this;exact this
 ·obtain ⟨n,z⟩:=q
  have hz:m z≠none:=(hA.dom z).2 ⟨n,hq⟩
  cases hm:m z with
  | none=>exact absurd hm hz
  | some x=>
   obtain ⟨n',hn',hs'⟩:=hs (.int .i64 z) (f x) (by simp[mapM,hm]);have hn2:=(uX (cl:=cl)).1 hn';have:=jI hA.nk hq hn2 rfl;cases this;exact hs'
theorem jt.num {α:Type} {f:α→PV} {b r cl n:Nat} {seen:Array Nat} {m:Int→Option α} {all:List (Nat×Int)} {Γ:List aj} {put:Obj→List aj} [hb:oZ Γ b (NZ r cl (seen.push n)) put] {put2:(Value→Option PV)→List (Int×Value)→List aj} [hp:de Γ r (.int .i64) (mapM f m) (Nh cl all) put2] {K:PV→Prop}
  (z:Int) (x:α) (hn:(n,z)∈all) (hm:m z=some x) (h:K (.bn [.int .i64 z,f x])):jt b Γ K:=by
 obtain ⟨Γ1,Γ2,e1,_⟩:=hb.at_;obtain ⟨Γ3,Γ4,e3,_⟩:=hp.at_;exact ⟨r,cl,seen,n,.int .i64 z,.int .i64 z,f x,.int .i64,mapM f m,all.map (fun q=>((q.1:Int),.int .i64 q.2)),by rw[e1];simp,by rw[e3];simp[Nh],(uX (cl:=cl)).2 hn,by simp,by simp[mapM,hm],fun F=>by simp[aE],h⟩
theorem dB.IK {α:Type} {f:α→PV} {l:List α} {sz:Nat} {Γ:List aj} {t:Tok} {put:Tok→List PV→List aj} [hp:dD Γ t (l.map f) put] {k:IntKind} {n:Int} {i:Nat} [x:eU n i] {K:PV→Prop} (hs:t.s=sz) (h0:0≤n) (h:n < l.length) (hk:K (.rp t i 0)):dB sz t (.int k n) Γ K:=
 dB.at_ (hp:=hp) hs h0 (by have:=x.eq h0;rw[List.length_map];omega) hk
theorem yE:type_of% @dB.IK:= @dB.IK
theorem yF:type_of% @e7.row:= @e7.row
theorem bP.j6 {α:Type} {f:α→PV} {c:α→List PV} [hc:cz f c] {l:List α} {Γ:List aj} {t:Tok} {put:Tok→List PV→List aj} [hp:dD Γ t (l.map f) put] {i n:Nat} {x:PV} {v:α} [hv:cn f x v] {K:List aj→Prop} (hi:i < l.length)
  (hl:Nat.beq (c l[i]).length n=true) (hx:jU x.cellsOf n=true) (hcl:x.cC=true) (k:K (put t ((l.set i v).map f))):bP n (.rp t i 0) x Γ K:=by
 have hn:(c l[i]).length=n:=Nat.eq_of_beq_eq_true hl;have hw:fR x.cellsOf (c v):=by have:=hv.wl;rwa [hc.eq] at this
 refine bP.row (hp:=hp) v hi (by rw[hn,Nat.zero_add];exact Nat.ble_eq_true_of_le (Nat.le_refl _)) hx hcl hw ?_ k;rw[List.take_zero,List.nil_append,Nat.zero_add,List.drop_of_length_le (by omega),List.append_nil]
theorem yG:type_of% @bP.j6:= @bP.j6
theorem sF {p q:Prop} (k:q) (h:q→p:=by intro hq;first | exact yA (by clear hq;assumption) rfl lA hq | exact yB (by clear hq;assumption) rfl lA hq | exact yC rfl lA hq | exact yD (by clear hq;assumption) (by clear hq;assumption) rfl lA hq | exact yE (by clear hq;assumption) (by clear hq;omega) (by clear hq;omega) hq | exact yF (by clear hq;omega) rfl hq | exact yH (by clear hq;assumption) hq | exact yI (by clear hq;assumption) hq | exact yG (by clear hq;omega) rfl rfl rfl hq):p:=h k
theorem Re {p:Prop} (h:p:=by
 conv=>whnf
 repeat ((first|(refine zW ?_ ?_;exact gA)|refine zA ?_|refine zH rfl ?_|refine zB ?_|(refine yE ?_ ?_ ?_ ?_;assumption;omega;omega)|(refine yF ?_ rfl ?_;omega)|(apply yH;assumption)|(refine yI ?_ ?_;assumption)|intro _);conv=>whnf)
 first | exact pS | exact pL | exact pE):p:=h
theorem tC {p:Prop} (h:p:=by first | exact Qh | exact Rc | exact Re):p:=h
theorem Lv {p q:Prop} (k:q) (h:Hd q→p:=by intro hq;(first | ((first | (apply zY;intro hg) | apply zZ);exact tC));exact hq.h):p:=h ⟨k⟩
theorem aF {p q:Prop} (k:q) (h:Hd q→p:=by intro hq;(first | (refine yA ?_ rfl lA ?_;assumption) | (refine yB ?_ rfl lA ?_;assumption) | refine yC rfl lA ?_ | (refine yD ?_ ?_ rfl lA ?_;assumption;assumption) | (refine yE ?_ ?_ ?_ ?_;assumption;omega;omega) | (refine yF ?_ rfl ?_;omega) | (apply yH;assumption) | (refine yI ?_ ?_;assumption) | (refine yG ?_ rfl rfl rfl ?_;omega) | refine n0 ?_ | refine zN rfl rfl rfl ?_ | refine zD ?_ | refine zE ?_ | refine zF ?_);exact hq.h):p:=h ⟨k⟩
theorem aH {p q:Prop} (k:q) (h:Hd q→p:=by intro hq;(first | (refine zW ?_ ?_;exact gA) | refine zA ?_ | refine zH rfl ?_ | refine zB ?_ | (refine yE ?_ ?_ ?_ ?_;assumption;omega;omega) | (refine yF ?_ rfl ?_;omega) | (apply yH;assumption) | (refine yI ?_ ?_;assumption));exact hq.h):p:=h ⟨k⟩
theorem qF {p q:Prop} (k:q) (h:Hd q→p:=by intro hq;(conv=>whnf);(repeat1' ((first | ((first | (apply zY;intro hg) | apply zZ);exact tC) | (refine zW ?_ ?_;exact gA) | refine zH rfl ?_ | refine zA ?_ | refine zI bA ?_ | refine zI rfl ?_ | refine zJ rfl rfl ?_ | refine zB ?_ | refine zK rfl ?_ | refine zL rfl ?_ | refine zC ?_ | (refine zO ?_ ?_ ?_;omega;omega) | (refine zP ?_ ?_ ?_;omega;omega) | refine zM rfl ?_ | (refine zQ ?_ ?_ ?_;omega;omega) | (refine zR ?_ ?_;omega) | (refine zI ?_ ?_;exact nA) | (refine zS ?_ ?_ ?_;omega;omega) | (refine zT ?_ ?_ ?_;omega;omega) | (refine zU ?_ ?_ ?_;omega;omega) | (refine zV ?_ ?_ ?_;omega;omega) | (refine yA ?_ rfl lA ?_;assumption) | (refine yB ?_ rfl lA ?_;assumption) | refine yC rfl lA ?_ | (refine yD ?_ ?_ rfl lA ?_;assumption;assumption) | (refine yE ?_ ?_ ?_ ?_;assumption;omega;omega) | (refine yF ?_ rfl ?_;omega) | (apply yH;assumption) | (refine yI ?_ ?_;assumption) | (refine yG ?_ rfl rfl rfl ?_;omega) | refine n0 ?_ | refine zN rfl rfl rfl ?_ | refine zD ?_ | refine zE ?_ | refine zF ?_);conv=>whnf));exact hq.h):p:=h ⟨k⟩
theorem aS {p q:Prop} (k:q) (h:Hd q→p:=by intro hq;(conv=>whnf);(repeat1' ((first | ((first | (apply zY;intro hg) | apply zZ);exact tC) | (refine zW ?_ ?_;exact gA) | refine zH rfl ?_ | refine zA ?_ | refine zI bA ?_ | refine zI rfl ?_ | refine zJ rfl rfl ?_ | refine zB ?_ | refine zK rfl ?_ | refine zL rfl ?_ | refine zC ?_ | (refine zO ?_ ?_ ?_;omega;omega) | (refine zP ?_ ?_ ?_;omega;omega) | refine zM rfl ?_ | (refine zQ ?_ ?_ ?_;omega;omega) | (refine zR ?_ ?_;omega) | (refine zI ?_ ?_;exact nA) | (refine zS ?_ ?_ ?_;omega;omega) | (refine zT ?_ ?_ ?_;omega;omega) | (refine zU ?_ ?_ ?_;omega;omega) | (refine zV ?_ ?_ ?_;omega;omega) | (refine yA ?_ rfl lA ?_;assumption) | (refine yB ?_ rfl lA ?_;assumption) | refine yC rfl lA ?_ | (refine yD ?_ ?_ rfl lA ?_;assumption;assumption) | (refine yE ?_ ?_ ?_ ?_;assumption;omega;omega) | (refine yF ?_ rfl ?_;omega) | (apply yH;assumption) | (refine yI ?_ ?_;assumption) | (refine yG ?_ rfl rfl rfl ?_;omega) | refine n0 ?_ | refine zN rfl rfl rfl ?_ | refine zD ?_ | refine zE ?_ | refine zF ?_ | refine zG ?_);conv=>whnf));exact hq.h):p:=h ⟨k⟩
set_option maxHeartbeats 4000000
section
theorem aq.gh {B:List PV→List aj→Ds→QT→Prop} {T:List PV} {Γ Γ':List aj} {D:Ds} {Q:QT} (hg:au Γ Γ') (h:aq B T Γ' D Q):aq B T Γ D Q:=by
 obtain ⟨I,J,⟨n,T0,Γ0,h1,h2⟩,h3,h4⟩:=h.h;refine ⟨I,J,⟨n,T0,Γ0,fun w0 F M w vs hS hT=>?_,h2⟩,h3,h4⟩;obtain ⟨F1,e1,hS1⟩:=hg w0 F M w hS;obtain ⟨F2,e2,hS2,hT2⟩:=h1 w0 F1 M w vs hS1 (aB.mono e1 _ _ hT);exact ⟨F2,Fz.le_trans e1 e2,hS2,hT2⟩
end
abbrev lG (d:Datum):List PV:= [.int .i64 d.kind,.int .i64 d.n,.int .i64 d.d,.str d.s,.sl 5 (d.l.map Datum.pv) none]
theorem FO {a b:Datum} {tk:Option Tok}:fR [.int .i64 6,.int .i64 0,.int .i64 0,.str [],.sl 5 [.agg (lG a),.agg (lG b)] tk] (lG (lQ a b)):=
 .cons (Wk.refl _) (.cons (Wk.refl _) (.cons (Wk.refl _) (.cons (Wk.refl _) (.cons (uD.wk (f:=Datum.pv) (l:= [a,b])) .nil))))
theorem JV:fR [.int .i64 4,.int .i64 0,.int .i64 0,.str [],.nil] (lG aK):=.cons (Wk.refl _) (.cons (Wk.refl _) (.cons (Wk.refl _) (.cons (Wk.refl _) (.cons (Wk.eu rfl) .nil))))
theorem GN {p q:Prop} (k:q) (h:q→p:=by intro hq;first | exact aC.sP (some 13) rfl [] [7] ai mixed hq):p:=h k
theorem Ch (l:List Datum):aA Tryz.prog 103 [.sl 5 (l.map Datum.pv) none] (.agg (ic l).cells):=by
 refine af.ah ai Tryz.func103 rfl rfl (n:=21) rfl rfl ?_
 conv=>whnf
 repeat' (first|refine aS ?_|((intro _);conv=>whnf)|(refine zX (fun hc=>?_) (fun hc=>?_)<;>(try simp only[SY] at hc)<;>omega))
 rename_i b2 b3 hl;refine aq.gh (au.box (b:=b3) (cs:= [.int .i64 4,.int .i64 0,.int .i64 0,.str [],.nil]) (cs':=lG aK) JV) ?_;refine aq.over [4,9,10,11,12,13,14,15,16,17,18,19] (fun x:Nat×Datum=> [(4,.int .i64 ((x.1:Int) - 1))]) (fun x:Nat×Datum=> [CJ b2,.box b3 (lG x.2)]) (fun x=>x.1≤l.length∧x.2=(l.drop x.1).foldr lQ aK) (fun x=>x.1) (l.length,aK) ⟨Nat.le_refl _,by rw[List.drop_of_length_le (Nat.le_refl _)];rfl⟩ wA ?_;rintro ⟨i,D⟩ ⟨hi,hD⟩;dsimp only at hi hD⊢
 conv=>whnf
 repeat' (first|refine aS ?_|((refine GN ?_);conv=>whnf)|(refine zX (fun hc=>?_) (fun hc=>?_)<;>(try simp only[SY] at hc)<;>(conv=>whnf)))
 ·have h1:i - 1 < l.length:=by omega
  have e:l.drop (i - 1)=l[i - 1]::l.drop i:=by rw[aI h1,show i - 1 + 1=i by omega]
  refine jK.gh (i - 1,lQ l[i - 1] D) ⟨by show i - 1≤_;omega,by show lQ _ _=_;rw[e,hD];rfl⟩ (by show i - 1 < i;omega) wA ?_;refine au.trans (au.box (b:=b3) (cs:= [.int .i64 6,.int .i64 0,.int .i64 0,.str [],.sl 5 [.agg (lG l[i - 1]),.agg (lG D)] none]) (cs':=lG (lQ l[i - 1] D)) FO) ?_;exact au.pick
 ·have e:D=ic l:=by rw[hD,show i=0 by omega];rfl
  rw[←e];exact ak.pure (Wk.refl _)
def eV:List UInt8:= [113,117,111,116,101]
def sO:List UInt8:= [105,102]
def dx:List UInt8:= [108,97,109,98,100,97]
def nB:List UInt8:= [115,101,116,33]
def iU:List UInt8:= [98,101,103,105,110]
def ia:List UInt8:= [108,101,116,114,101,99]
def cx:List UInt8:= [108,101,116,114,101,99,42]
def wg:List UInt8:= [100,101,102,105,110,101]
def Nf:List UInt8:= [108,101,116]
def JF:List UInt8:= [108,101,116,42]
def JD:List UInt8:= [99,111,110,100]
def JC:List UInt8:= [99,97,115,101]
def Nd:List UInt8:= [97,110,100]
def PG:List UInt8:= [111,114]
def JG:List UInt8:= [119,104,101,110]
def Cf:List UInt8:= [117,110,108,101,115,115]
def PE:List UInt8:= [100,111]
def JE:List UInt8:= [101,108,115,101]
def PI:List UInt8:= [61,62]
def PF:List UInt8:= [37,101,113,63]
def Nc:List (List UInt8):= [eV,sO,dx,nB,iU,ia,cx,wg,Nf,JF,JD,JC,Nd,PG,JG,Cf,PE,JE,PI]
def sN (s:List UInt8):Bool:=Nc.contains s
def PD (d:Datum) (s:List UInt8):Bool:=d.kind == 2 && d.s == s
def EK (d:Datum):Bool:=d.kind == 2 && !sN d.s
mutual
def Datum.sz:Datum→Nat
 | .mk _ _ _ _ l=>1 + Datum.eM l
def Datum.eM:List Datum→Nat
 | []=>0
 | x::xs=>Datum.sz x + Datum.eM xs
end
theorem Datum.Nl (x:Datum):x.sz=1 + Datum.eM x.l:=by cases x;rfl
mutual
def Datum.pr:Datum→Bool
 | .mk k _ _ _ l=>(k !=6 || l.length == 2) && Datum.Ni l
def Datum.Ni:List Datum→Bool
 | []=>true
 | x::xs=>Datum.pr x && Datum.Ni xs
end
mutual
def Datum.ax:Datum→List Datum×Datum
 | .mk k n d s l=>if k=6 then Datum.Jz l else ([],.mk k n d s l)
def Datum.Jz:List Datum→List Datum×Datum
 | [a,b]=>(a::b.ax.1,b.ax.2)
 | _=>([],aK)
end
def ej (d:Datum):Bool:=d.ax.2.kind == 4
def jr:List Datum→List (List UInt8)→Bool
 | [],_=>true
 | x::xs,met=>EK x && !met.contains x.s && jr xs (met++ [x.s])
def eP (d:Datum):List Datum:=d.ax.1++(if d.ax.2.kind=4 then [] else [d.ax.2])
def hU (d:Datum):Bool:=jr (eP d) []
def dh:List Datum→Option (List (Datum×Datum))
 | []=>some []
 | x::xs=>if ej x=true∧x.ax.1.length=2 then (dh xs).map ((x.ax.1.getD 0 aK,x.ax.1.getD 1 aK):: ·) else none
def dJ (d:Datum):Option (List (Datum×Datum)):=if ej d=true then dh d.ax.1 else none
structure Pb where
 n:Int
 bad:Bool
abbrev QV:=Datum×Pb
section
variable (ex:Datum→Pb→QV) (bd:List Datum→Pb→QV)
end
mutual
def Datum.OZ:Datum→Bool
 | .mk k _ _ s l=>(k == 2 && s.contains 37) || Datum.Cu l
def Datum.Cu:List Datum→Bool
 | []=>false
 | x::xs=>Datum.OZ x || Datum.Cu xs
end
theorem Datum.N7 (x:Datum):x.OZ=((x.kind == 2 && x.s.contains 37) || Datum.Cu x.l):=by cases x;rfl
def kN (p:UInt8→Bool) (s:List UInt8):List UInt8:=(s.reverse.dropWhile p).reverse
theorem Ig (p:UInt8→Bool) (s:List UInt8) (h:0 < s.length):kN p s=if p (s.getD (s.length - 1) 0) then kN p (s.take (s.length - 1)) else s:=by
 have hne:s≠ []:=by intro e;subst e;simp at h
 have e:s=s.take (s.length - 1)++ [s.getD (s.length - 1) 0]:=by
  have:=List.dropLast_concat_getLast hne;rw[List.dropLast_eq_take,List.getLast_eq_getElem] at this;rw[List.getD,List.getElem?_eq_getElem (by omega)];exact this.symm
 generalize s.getD (s.length - 1) 0=c at *;generalize s.take (s.length - 1)=t at *;subst e;simp only[kN,List.reverse_append,List.reverse_cons,List.reverse_nil,List.nil_append,List.singleton_append,List.dropWhile_cons]
 split<;>simp
theorem vu (m:List Bool) (hm:m.length=256) (b:Nat) (c:UInt8):af Tryz.prog 259 [.ptr b 0,.int .u8 c.toNat] [.box b (m.map PV.bool)] (fun y Γ'=>y=.bool (m.getD c.toNat false)∧Γ'= [.box b (m.map PV.bool)]):=by
 have hc:=UInt8.toNat_lt c;refine af.ah ai Tryz.func259 rfl rfl (n:=10) rfl rfl ?_
 conv=>whnf
 skip
 refine kr.ix rfl (by omega) (by omega) ?_
 conv=>whnf
 refine e7.cell (.bool (m.getD c.toNat false)) (by simp[List.getD,show c.toNat < m.length by omega]) ?_
 conv=>whnf
 exact ak.gen (Wk.refl _) ⟨rfl,rfl⟩
theorem EH (m:List Bool) (hm:m.length=256) (b:Nat) (s:List UInt8):af Tryz.prog 246 [.str s,.ptr b 0] [.box b (m.map PV.bool)] (fun y Γ'=>y=.str (s.dropWhile fun c=>m.getD c.toNat false)∧Γ'= [.box b (m.map PV.bool)]):=by
 refine af.ah ai Tryz.func246 rfl rfl (n:=16) rfl rfl ?_
 conv=>whnf
 skip
 refine aq.keep [0,5,6,7,8,9,10,11,12,13,14] (fun t:List UInt8=> [(0,.str t)]) (fun t=>t.dropWhile (fun c=>m.getD c.toNat false)=s.dropWhile (fun c=>m.getD c.toNat false)) (fun t=>t.length) s rfl wA ?_;intro t ht
 conv=>whnf
 repeat' (first|refine dw ?_|((intro _);conv=>whnf)|(refine zX (fun hc=>?_) (fun hc=>?_)<;>(try simp only[SY] at hc)<;>(conv=>whnf)))
 ·refine av.go (vu m hm b (t.getD 0 0)) (aX.refl _) ?_
  rintro _ _ ⟨rfl,rfl⟩;have hd:t=t.getD 0 0::t.drop 1:=dP (s:=t) (i:=0) (by omega);generalize t.getD 0 0=c at *;rw[hd,List.dropWhile_cons] at ht
  conv=>whnf
  repeat' (first|refine dw ?_|(refine zX (fun hc=>?_) (fun hc=>?_)<;>(try simp only[SY] at hc)<;>(conv=>whnf)))
  ·rw[hc] at ht
   refine ak.gen (Wk.str ?_) ⟨rfl,rfl⟩;rw[hd];simpa using ht
  ·rw[hc] at ht
   exact an (t.drop 1) (by simpa using ht) (by show (t.drop 1).length < t.length;rw[List.length_drop];omega) wA
 ·obtain rfl:t= []:=List.eq_nil_of_length_eq_zero (by omega)
  exact ak.gen (Wk.str ht) ⟨rfl,rfl⟩
theorem C2 (m:List Bool) (hm:m.length=256) (b:Nat) (s:List UInt8):af Tryz.prog 247 [.str s,.ptr b 0] [.box b (m.map PV.bool)] (fun y Γ'=>y=.str (kN (fun c=>m.getD c.toNat false) s)∧Γ'= [.box b (m.map PV.bool)]):=by
 refine af.ah ai Tryz.func247 rfl rfl (n:=22) rfl rfl ?_
 conv=>whnf
 skip
 refine aq.keep [0,5,6,7,8,9,10,11,12,13,14,15,16,17,18,19,20] (fun t:List UInt8=> [(0,.str t)]) (fun t=>kN (fun c=>m.getD c.toNat false) t=kN (fun c=>m.getD c.toNat false) s) (fun t=>t.length) s rfl wA ?_;intro t ht
 conv=>whnf
 repeat' (first|refine dw ?_|((intro _);conv=>whnf)|(refine zX (fun hc=>?_) (fun hc=>?_)<;>(try simp only[SY] at hc)<;>(conv=>whnf)))
 ·refine av.go (vu m hm b (t.getD (t.length - 1) 0)) (aX.refl _) ?_
  rintro _ _ ⟨rfl,rfl⟩;rw[Ig _ t (by omega)] at ht
  conv=>whnf
  repeat' (first|refine dw ?_|((intro _);conv=>whnf)|(refine zX (fun hc=>?_) (fun hc=>?_)<;>(try simp only[SY] at hc)<;>(conv=>whnf)))
  ·rw[hc] at ht
   exact ak.gen (Wk.str (by simpa using ht)) ⟨rfl,rfl⟩
  ·rw[hc] at ht
   exact an (t.take (t.length - 1)) (by simpa using ht) (by show (t.take (t.length - 1)).length < t.length;rw[List.length_take];omega) wA
 ·obtain rfl:t= []:=List.eq_nil_of_length_eq_zero (by omega)
  exact ak.gen (Wk.str ht) ⟨rfl,rfl⟩
def setOf (s:List UInt8) (m:List Bool):List Bool:=s.foldl (fun m c=>m.set c.toNat true) m
theorem AU (s:List UInt8): ∀ m,(setOf s m).length=m.length:=by
 induction s with
 | nil=>intro m;rfl
 | cons c s ih=>intro m;rw[setOf,List.foldl_cons];exact (ih _).trans (by simp)
theorem HW (s:List UInt8): ∀ (m:List Bool),m.length=256→ ∀ c:UInt8,(setOf s m).getD c.toNat false=(m.getD c.toNat false || s.contains c):=by
 induction s with
 | nil=>intro m _ c;simp[setOf]
 | cons d s ih=>
  intro m hm c;rw[setOf,List.foldl_cons];refine (ih _ (by simp[hm]) c).trans ?_;rw[List.contains_cons];have hc:=UInt8.toNat_lt c;by_cases h:d=c
  ·subst h
   simp[List.getD,show d.toNat < m.length by omega]
  ·have h':d.toNat≠c.toNat:=fun e=>h (UInt8.toNat_inj.1 e)
   have h2:(c == d)=false:=by simp;exact fun e=>h e.symm
   simp[List.getD,List.getElem?_set_ne h',h2]
def k8 (s:List UInt8) (m:List PV):List PV:=s.foldl (fun m c=>m.set c.toNat .aY) m
theorem xx (s:List UInt8): ∀ m,(k8 s m).length=m.length:=by
 induction s with
 | nil=>intro m;rfl
 | cons c s ih=>intro m;rw[k8,List.foldl_cons];exact (ih _).trans (by simp)
theorem fR.set {xs ys:List PV} {x y:PV} (h:fR xs ys) (hx:Wk x y): ∀ i,fR (xs.set i x) (ys.set i y):=by
 induction h with
 | nil=>intro i;exact .nil
 | cons a b ih=>
  intro i
  cases i with
  | zero=>exact .cons hx b
  | succ i=>exact .cons a (ih i)
theorem Hy (s:List UInt8): ∀ (m:List PV) (m':List Bool),fR m (m'.map PV.bool)→fR (k8 s m) ((setOf s m').map PV.bool):=by
 induction s with
 | nil=>intro m m' h;exact h
 | cons c s ih=>
  intro m m' h;rw[k8,setOf,List.foldl_cons,List.foldl_cons];exact ih _ _ (by rw[List.map_set];exact h.set (Wk.tt rfl) _)
theorem uf (s:List UInt8) (c:UInt8) (m:List PV):k8 (s++ [c]) m=(k8 s m).set c.toNat .aY:=by simp[k8]
theorem Ht (s:List UInt8) (hs: ∀ c∈s,c.toNat < 128):aA Tryz.prog 245 [.str s] (.bn [.agg ((setOf s (List.replicate 256 false)).map PV.bool),.aY]):=by
 refine af.ah ai Tryz.func245 rfl rfl (n:=21) rfl rfl ?_
 conv=>whnf
 repeat (((intro _);conv=>whnf))
 rename_i b;show aq _ _ [.box b (k8 (s.take 0) (List.replicate 256 .bfalse))] _ _;have hl: ∀ i,(k8 (s.take i) (List.replicate 256 .bfalse)).length=256:=fun i=>(xx _ _).trans (by simp);refine aq.over [3,4,5,6,7,8,9,10,11,12,13,14,15,16,17,18,19] (fun i:Nat=> [(4,.int .i64 i)]) (fun i=> [.box b (k8 (s.take i) (List.replicate 256 .bfalse))]) (fun i=>i≤s.length) (fun i=>s.length - i) 0 (by omega) wA ?_;intro i hi;have hli:=hl i;have hln:=hl (i + 1);by_cases hlt:i < s.length
 ·have hc:(s.getD i 0).toNat < 128:=hs _ (by rw[List.getD,List.getElem?_eq_getElem hlt];exact List.getElem_mem _)
  have hsn:s.take (i + 1)=s.take i++ [s.getD i 0]:=by rw[List.take_add_one];simp[hlt]
  rw[hsn,uf] at hln
  conv=>whnf
  repeat' (first|refine dw ?_|((intro _);conv=>whnf)|(refine zX (fun hc=>?_) (fun hc=>?_)<;>(try simp only[SY] at hc)<;>first|omega|(conv=>whnf)))
  refine kr.ix rfl (by omega) (by omega) ?_
  conv=>whnf
  refine bP.cell (by omega) rfl rfl ?_
  conv=>whnf
  repeat' (first|refine dw ?_|(refine zX (fun hc=>?_) (fun hc=>?_)<;>(try simp only[SY] at hc)<;>omega))
  rw[show 0 + (s.getD i 0).toNat=(s.getD i 0).toNat by omega, ←uf, ←hsn];exact an (i + 1) (by omega) (by omega) wA
 ·rw[List.take_of_length_le (by omega)] at *
  conv=>whnf
  repeat' (first|((intro _);conv=>whnf)|(refine zX (fun hc=>?_) (fun hc=>?_)<;>(try simp only[SY] at hc)<;>first|omega|(conv=>whnf)))
  refine e7.all hli ?_
  conv=>whnf
  refine bP.all hli hli ?_
  conv=>whnf
  refine e7.all hli ?_
  conv=>whnf
  refine ak.pure (Wk.bn (.cons (Wk.agg (Hy s _ _ ?_)) (.cons (Wk.refl _) .nil)));rw[List.map_replicate]
  have: ∀ n,fR (List.replicate n .bfalse) (List.replicate n (PV.bool false)):=by
   intro n
   induction n with
   | zero=>exact .nil
   | succ n ih=>exact .cons (Wk.ff rfl) ih
  exact this 256
theorem K3 (s cs:List UInt8) (hl:2≤cs.length) (hcs: ∀ c∈cs,c.toNat < 128):aA Tryz.prog 221 [.str s,.str cs] (.str ((kN cs.contains s).dropWhile cs.contains)):=by
 have hp:(fun c:UInt8=>(setOf cs (List.replicate 256 false)).getD c.toNat false)=cs.contains:=by
  funext c;rw[HW cs _ (by simp) c];have:(List.replicate 256 false).getD c.toNat false=false:=by rw[List.getD,List.getElem?_replicate];split<;>rfl
  rw[this,Bool.false_or]
 have hlen:(setOf cs (List.replicate 256 false)).length=256:=by rw[AU];simp
 have hne:(cs == [])=false:=by simp;intro e;subst e;simp at hl
 refine af.ah ai Tryz.func221 rfl rfl (n:=43) rfl rfl ?_
 conv=>whnf
 repeat' (first|refine dw ?_|((first|refine pC (Ht cs hcs) wR ?_|intro _);conv=>whnf)|(refine zX (fun hc=>?_) (fun hc=>?_)<;>(try simp only[SY] at hc)<;>first|omega|(conv=>whnf)))
 ·rcases hc with hc | hc
  ·subst hc
   exact ak.pure (Wk.str rfl)
  ·subst hc;simp at hl
 ·refine bP.all rfl (by rw[List.length_map];exact hlen) ?_
  conv=>whnf
  skip
  refine av.go (C2 _ hlen _ s) (aX.refl _) ?_;rintro _ _ ⟨rfl,rfl⟩
  conv=>whnf
  skip
  refine av.go (EH _ hlen _ _) (aX.refl _) ?_;rintro _ _ ⟨rfl,rfl⟩
  conv=>whnf
  skip
  rw[hp];exact ak.pure (Wk.refl _)
theorem rq (s:List UInt8) (c:UInt8):Nq Tryz.prog 277 [.str s,.int .u8 c.toNat] (.int .i64 (Go.Lib.indexByte s c)):=by
 intro F w vs hv
 obtain ⟨v1,v2,rfl⟩: ∃ v1 v2,vs= [v1,v2]:=by
  have:=hv.length
  match vs,this with
  | [a,b],_=>exact ⟨a,b,rfl⟩
 simp only[aB,aE] at hv;obtain ⟨⟨rfl,_⟩,rfl,_⟩:=hv;refine ⟨.int .i64 (Go.Lib.indexByte s c),?_,by simp only[aE]⟩;rw[show [Value.string ⟨s.toArray⟩,Value.int .u8 c.toNat].toArray= #[Value.string ⟨s.toArray⟩,Value.int .u8 c.toNat] from rfl];rw[run_callFunc_extern (fn:=Tryz.f277) (e:=Extern.BytealgIndexByte.indexByte) (by kernel_rfl) (by kernel_rfl) (by kernel_rfl) (by kernel_rfl) (by kernel_rfl)];simp[Go.Lib.run_indexByteString]
theorem rj (s:List UInt8) (c:UInt8):aA Tryz.prog 263 [.str s,.int .u8 c.toNat] (.int .i64 (Go.Lib.indexByte s c)):=by
 refine af.ah ai Tryz.func263 rfl rfl (n:=8) rfl rfl ?_
 conv=>whnf
 skip
 refine av.ext (rq s c) (aX.refl _) ?_
 conv=>whnf
 skip
 exact ak.pure (Wk.refl _)
theorem Ca (s:List UInt8) (c:UInt8):aA Tryz.prog 250 [.str s,.int .u8 c.toNat] (.int .i64 (Go.Lib.indexByte s c)):=by
 refine af.ah ai Tryz.func250 rfl rfl (n:=8) rfl rfl ?_
 conv=>whnf
 repeat (((refine pC (rj s c) wR ?_);conv=>whnf))
 exact ak.pure (Wk.refl _)
theorem Jv (s:List UInt8) (c:UInt8):aA Tryz.prog 279 [.str s,.str [c]] (.int .i64 (Go.Lib.indexByte s c)):=by
 refine af.ah ai Tryz.func279 rfl rfl (n:=143) rfl rfl ?_
 conv=>whnf
 repeat' (first|refine dw ?_|((first|refine pC (rj s c) wR ?_|intro _);conv=>whnf)|(refine zX (fun hc=>?_) (fun hc=>?_)<;>(try simp only[SY] at hc)<;>(conv=>whnf)))
 ·have h: [c]=s:=by rcases hc with hc | hc;simp at hc;exact hc
  subst h;exact ak.pure (Wk.int (by simp[Go.Lib.indexByte]))
 ·exact ak.pure (Wk.refl _)
 all_goals exact absurd rfl ‹¬ (([c].length:Nat):Int)=1›
theorem B5 (s p:List UInt8):aA Tryz.prog 278 [.str s,.str p] (.bool (decide (p.length≤s.length) && s.take p.length == p)):=by
 refine af.ah ai Tryz.func278 rfl rfl (n:=18) rfl rfl ?_
 conv=>whnf
 repeat' (first|refine dw ?_|((intro _);conv=>whnf)|(refine zX (fun hc=>?_) (fun hc=>?_)<;>(try simp only[SY] at hc)<;>omega))
 exact ak.pure (Wk.bool (by congr 1;simp))
def preB (s p:List UInt8):Bool:=decide (p.length≤s.length) && s.take p.length == p
theorem BH (s p:List UInt8):aA Tryz.prog 264 [.str s,.str p] (.bn [.str (if preB s p=true then s.drop p.length else s),.bool (preB s p)]):=by
 refine af.ah ai Tryz.func264 rfl rfl (n:=15) rfl rfl ?_
 conv=>whnf
 repeat (((refine pC (B5 s p) wR ?_);conv=>whnf))
 rw[show (decide (p.length≤s.length) && s.take p.length == p)=preB s p from rfl]
 have hb:preB s p=true→p.length≤s.length:=by
  intro h;simp only[preB,Bool.and_eq_true,decide_eq_true_eq] at h;exact h.1
 generalize preB s p=b at *
 cases b with
 | false=>
  conv=>whnf
  repeat' ((refine zX (fun hc=>?_) (fun hc=>?_)<;>(try simp only[SY] at hc)<;>(conv=>whnf)))
  ·exact ak.pure (Wk.bn (.cons (Wk.str rfl) (.cons (Wk.ff rfl) .nil)))
 | true=>
  have hb:=hb rfl
  conv=>whnf
  repeat' (first|refine dw ?_|((intro _);conv=>whnf)|(refine zX (fun hc=>?_) (fun hc=>?_)<;>(try simp only[SY] at hc)<;>(conv=>whnf)))
  exact ak.pure (Wk.bn (.cons (Wk.str rfl) (.cons (Wk.tt rfl) .nil)))
theorem Aa (s p:List UInt8):aA Tryz.prog 251 [.str s,.str p] (.bn [.str (if preB s p=true then s.drop p.length else s),.bool (preB s p)]):=by
 refine af.ah ai Tryz.func251 rfl rfl (n:=11) rfl rfl ?_
 conv=>whnf
 repeat (((refine pC (BH s p) wR ?_);conv=>whnf))
 exact ak.pure (Wk.refl _)
def uG (s:List UInt8) (c:UInt8):List UInt8:=if 0≤Go.Lib.indexByte s c then s.take (Go.Lib.indexByte s c).toNat else s
def z8 (s:List UInt8) (c:UInt8):List UInt8:=if 0≤Go.Lib.indexByte s c then s.drop ((Go.Lib.indexByte s c).toNat + 1) else []
theorem Ap (s:List UInt8) (c:UInt8):Go.Lib.indexByte s c < s.length∨Go.Lib.indexByte s c= -1:=by
 induction s with
 | nil=>simp[Go.Lib.indexByte]
 | cons d s ih=>
  rw[Go.Lib.indexByte];simp only[List.length_cons]
  split
  ·omega
  ·split<;>rename_i h<;>simp at h<;>omega
theorem LM {p q:Prop} (k:q) (h:q→p:=by intro hq;first | exact aC.sP (some 13) rfl [] [] ai mixed hq):p:=h k
theorem Pu (s:List UInt8) (c:UInt8) (hs:s.length≤9223372036854775806):aA Tryz.prog 265 [.str s,.str [c]] (.bn [.str (uG s c),.str (z8 s c),.bool (decide (0≤Go.Lib.indexByte s c))]):=by
 refine af.ah ai Tryz.func265 rfl rfl (n:=23) rfl rfl ?_
 conv=>whnf
 repeat (((refine pC (Jv s c) wR ?_);conv=>whnf))
 have h1:=Ap s c;unfold uG z8;have e1: [c].length=1:=rfl;generalize Go.Lib.indexByte s c=n at *
 conv=>whnf
 repeat' (first|refine dw ?_|((refine LM ?_);conv=>whnf)|(refine zX (fun hc=>?_) (fun hc=>?_)<;>(try simp only[SY] at hc)<;>(conv=>whnf)))
 ·simp only[hc,if_true,decide_true]
  exact ak.pure (Wk.bn (.cons (Wk.refl _) (.cons (Wk.str (by congr 1;simp;omega)) (.cons (Wk.tt rfl) .nil))))
 ·simp only[show ¬ 0≤n by omega,if_false,decide_false]
  exact ak.pure (Wk.bn (.cons (Wk.refl _) (.cons (Wk.str rfl) (.cons (Wk.ff rfl) .nil))))
theorem NH (s:List UInt8) (c:UInt8) (hs:s.length≤9223372036854775806):aA Tryz.prog 252 [.str s,.str [c]] (.bn [.str (uG s c),.str (z8 s c),.bool (decide (0≤Go.Lib.indexByte s c))]):=by
 refine af.ah ai Tryz.func252 rfl rfl (n:=13) rfl rfl ?_
 conv=>whnf
 repeat (((refine pC (Pu s c hs) wR ?_);conv=>whnf))
 exact ak.pure (Wk.refl _)
theorem B1 {s:List UInt8} {i:Nat} (h:i < s.length):s.getD i 0∈s:=by rw[List.getD,List.getElem?_eq_getElem h];exact List.getElem_mem _
theorem Ia {s:List UInt8} {i:Nat} (h:i < s.length):s.take (i + 1)=s.take i++ [s.getD i 0]:=by rw[List.take_add_one];simp[h]
theorem Jo {s:List UInt8} {i:Nat} (h:i < s.length):s[i]=s.getD i 0:=by simp[List.getD,h]
theorem ym {c:UInt8}:ei c=true↔(48:Int)≤c.toNat∧(c.toNat:Int)≤57:=by simp only[ei,Bool.and_eq_true,decide_eq_true_eq];omega
theorem Lz (s:List UInt8) (h1:1≤s.length) (h2:s.length≤10) (hd: ∀ c∈s,ei c=true):aA Tryz.prog 280 [.str s] (.bn [.int .i64 (eD s),.sc .nilIface]):=by
 have h0:=ym.1 (hd _ (B1 (i:=0) (by omega)));refine af.ah ai Tryz.func280 rfl rfl (n:=77) rfl rfl ?_
 conv=>whnf
 repeat' (first|refine dw ?_|((intro _);conv=>whnf)|(refine zX (fun hc=>?_) (fun hc=>?_)<;>(try simp only[SY] at hc)<;>first|omega|(conv=>whnf)))
 ·have hv: ∀ i,eD (s.take i) < 10 ^ 10:=fun i=>Nat.lt_of_lt_of_le (oc _ fun c hc=>hd c (List.mem_of_mem_take hc)) (Nat.pow_le_pow_right (by omega) (by simp;omega))
  refine aq.keep [2,3,6,8,49,50,51,52,53,54,55,56,57,58,59,60,61,62,63] (fun i:Nat=> [(6,.int .i64 (eD (s.take i))),(49,.int .i64 i)]) (fun i=>i≤s.length) (fun i=>s.length - i) 0 (by omega) wA ?_;intro i hi;have hvi:=hv i;by_cases hlt:i < s.length
  ·have hc1:=ym.1 (hd _ (B1 hlt))
   have hsn:eD (s.take (i + 1))=10 * eD (s.take i) + ((s.getD i 0).toNat - 48):=by rw[Ia hlt,tR]
   rw[←Jo hlt] at hc1 hsn
   conv=>whnf
   repeat' (first|refine dw ?_|(refine zX (fun hc=>?_) (fun hc=>?_)<;>(try simp only[SY] at hc)<;>first|omega|(conv=>whnf)))
   exact an (i + 1) (by omega) (by show s.length - (i + 1) < s.length - i;omega) wA
  ·conv=>whnf
   repeat' (first|refine dw ?_|(refine zX (fun hc=>?_) (fun hc=>?_)<;>(try simp only[SY] at hc)<;>first|omega|(conv=>whnf)))
   rw[List.take_of_length_le (by omega)];exact ak.pure (Wk.refl _)
theorem Ny (s:List UInt8) (h1:1≤s.length) (h2:s.length≤10) (hd: ∀ c∈s,ei c=true):aA Tryz.prog 266 [.str s] (.bn [.int .i64 (eD s),.sc .nilIface]):=by
 refine af.ah ai Tryz.func266 rfl rfl (n:=18) rfl rfl ?_
 conv=>whnf
 repeat' (first|((refine pC (Lz s h1 h2 hd) wR ?_);conv=>whnf)|(refine zX (fun hc=>?_) (fun hc=>?_)<;>(try simp only[SY] at hc)<;>omega))
 exact ak.pure (Wk.refl _)
def iC (s:List UInt8):Bool:=decide (1≤s.length) && (decide (s.length≤10) && s.all ei)
def jm (s:List UInt8):Nat:=if iC s then eD s else 0
def digits:List UInt8:= [48,49,50,51,52,53,54,55,56,57]
theorem kG (p:UInt8→Bool): ∀ l:List UInt8,l.dropWhile p= []↔l.all p=true
 | []=>by simp
 | c::l=>by
  rw[List.dropWhile_cons,List.all_cons];cases h:p c
  ·simp
  ·simp only[if_true,Bool.true_and];exact kG p l
theorem oM (p:UInt8→Bool): ∀ l:List UInt8,(l.dropWhile p).all p=l.all p
 | []=>rfl
 | c::l=>by
  rw[List.dropWhile_cons,List.all_cons];cases h:p c
  ·simp[h]
  ·simp only[if_true,Bool.true_and];exact oM p l
theorem xg (p:UInt8→Bool) (s:List UInt8):(kN p s).dropWhile p= []↔s.all p=true:=by
 rw[kG,kN,List.all_reverse,oM,List.all_reverse]
theorem vE:digits.contains=ei:=by
 funext c;simp only[digits,ei,List.contains_cons,List.contains_nil,Bool.or_false];rw[Bool.eq_iff_iff];simp only[Bool.or_eq_true,beq_iff_eq,Bool.and_eq_true,decide_eq_true_eq, ←UInt8.toNat_inj];simp;omega
theorem JS (s:List UInt8):iC s=true↔(¬ (s.length:Int)=0∧(s.length:Int)≤10)∧(kN digits.contains s).dropWhile digits.contains= []:=by
 rw[xg,vE,iC,Bool.and_eq_true,Bool.and_eq_true,decide_eq_true_eq,decide_eq_true_eq];constructor
 ·rintro ⟨h1,h2,h3⟩;exact ⟨⟨by omega,by omega⟩,h3⟩
 ·rintro ⟨⟨h1,h2⟩,h3⟩;exact ⟨by omega,by omega,h3⟩
theorem Je {p q:Prop} (k:q) (h:q→p:=by intro hq;first | exact aC.sP (some 24) rfl [] [] ai mixed hq):p:=h k
theorem Hz (s:List UInt8):aA Tryz.prog 253 [.str s] (.bn [.int .i64 (jm s),.bool (iC s)]):=by
 have hb:=JS s;refine af.ah ai Tryz.func253 rfl rfl (n:=27) rfl rfl ?_
 conv=>whnf
 repeat' (first|refine dw ?_|((first|(((apply zY;intro hg));(conv=>whnf);(repeat ((first|refine pC (K3 s digits (by decide) (by decide)) wR ?_|refine aG ?_);conv=>whnf));exact pZ)|intro _);conv=>whnf)|(refine zX (fun hc=>?_) (fun hc=>?_)<;>(try simp only[SY] at hc)<;>(conv=>whnf)))
 ·have hn:iC s=false:=by
   rw[←Bool.not_eq_true,hb];rintro ⟨⟨h1,h2⟩,h3⟩;rcases hc with hc | hc
   ·omega
   ·exact hc h3
  exact ak.pure (Wk.bn (.cons (Wk.int (by simp[jm,hn])) (.cons (Wk.ff hn) .nil)))
 ·have hn:iC s=true:=hb.2 hc
  have hall: ∀ c∈s,ei c=true:=by
   have:=hc.2;rw[xg,vE] at this;exact fun c hc=>List.all_eq_true.1 this c hc
  conv=>whnf
  repeat' (first|refine dw ?_|((first|refine pC (Ny s (by omega) (by omega) hall) wR ?_|refine Je ?_);conv=>whnf)|(refine zX (fun hc=>?_) (fun hc=>?_)<;>(try simp only[SY] at hc)<;>omega))
  exact ak.pure (Wk.bn (.cons (Wk.int (by simp[jm,hn])) (.cons (Wk.tt hn) .nil)))
def wE (s:List UInt8):Int×Int×Bool:=
 let u:=if mF s then s.drop 1 else s
 let a:=uG u 47
 let b:=if 0≤Go.Lib.indexByte u 47 then z8 u 47 else [49]
 if iC a && iC b then
  let x:=kI (if mF s then -(jm a:Int) else jm a) (jm b)
  (x.1,x.2.1,x.2.2 == 0)
 else (0,0,false)
theorem Ka (s:List UInt8):preB s [45]=mF s:=by
 cases s with
 | nil=>rfl
 | cons c s=>simp[preB,mF]
theorem FD (s:List UInt8):jm s < 10000000000:=by
 unfold jm
 split
 ·rename_i h
  simp only[iC,Bool.and_eq_true,decide_eq_true_eq] at h;refine Nat.lt_of_lt_of_le (oc s fun c hc=>List.all_eq_true.1 h.2.2 c hc) ?_;have:10 ^ s.length≤10 ^ 10:=Nat.pow_le_pow_right (by omega) (by omega);omega
 ·omega
def qm (neg:Bool) (a b:List UInt8):Int×Int×Bool:=
 if (iC a && iC b)=true then
  ((kI (if neg=true then -(jm a:Int) else jm a) (jm b)).1,(kI (if neg=true then -(jm a:Int) else jm a) (jm b)).2.1,(kI (if neg=true then -(jm a:Int) else jm a) (jm b)).2.2 == 0)
 else (0,0,false)
theorem J4 (s:List UInt8) (hs:s.length≤1000000):aA Tryz.prog 223 [.str s] (EI (wE s)):=by
 refine af.ah ai Tryz.func223 rfl rfl (n:=57) rfl rfl ?_
 conv=>whnf
 skip
 refine av.pure (Aa s [45]) (aX.refl _) ?_;have hP:wE s=qm (mF s) (uG (if mF s=true then s.drop [45].length else s) 47) (if 0≤Go.Lib.indexByte (if mF s=true then s.drop [45].length else s) 47 then z8 (if mF s=true then s.drop [45].length else s) 47 else [49]):=rfl;have hu:(if mF s=true then s.drop [45].length else s).length≤1000000:=by split<;>(try rw[List.length_drop])<;>omega
 rw[Ka];rw[hP];generalize (if mF s=true then s.drop [45].length else s)=u at *;generalize mF s=neg at *;have v1:=FD (uG u 47);have v2:=FD (z8 u 47);have v3:jm [49]=1:=by decide
 generalize h1:jm [49]=n1 at *;have h2:iC [49]=true:=by decide
 conv=>whnf
 repeat' (first|refine dw ?_|((first|refine pC (NH _ 47 OA) wR ?_|refine pC (Hz _) wR ?_|refine pC (Me _ _ OA OA OA OA) wR ?_);conv=>whnf)|(refine zX (fun hc=>?_) (fun hc=>?_)<;>(try simp only[SY] at hc)<;>(conv=>whnf)))
 all_goals first | rw[if_neg (by omega)] | rw[if_pos (by omega)]
 ·rw[qm,if_neg (by simp only[SS];rcases hc with hc | hc;simp[hc];rw[h2] at hc;cases hc)]
  exact ak.pure si
 ·rw[h1,qm,if_pos (by simp only[SS];exact ‹_∧_›),hc,if_pos rfl,h1]
  exact ak.pure (Wk.eq (by simp only[EI,Int.zero_sub]))
 ·rw[h1,qm,if_pos (by simp only[SS];exact ‹_∧_›),hc,if_neg (by simp),h1]
  exact ak.pure (Wk.refl _)
 ·rw[qm,if_neg (by simp only[SS];rcases hc with hc | hc<;>simp[hc])]
  exact ak.pure si
 ·rw[qm,if_pos (by simp only[SS];exact ‹_∧_›),hc,if_pos rfl]
  exact ak.pure (Wk.eq (by simp only[EI,Int.zero_sub]))
 ·rw[qm,if_pos (by simp only[SS];exact ‹_∧_›),hc,if_neg (by simp)]
  exact ak.pure (Wk.refl _)
def dW {α:Type} (p:α→Bool):List α→Int
 | []=> -1
 | x::l=>if p x then 0 else if dW p l= -1 then -1 else dW p l + 1
theorem lJ {α:Type} (p:α→Bool): ∀ l:List α, -1≤dW p l
 | []=>by simp[dW]
 | x::l=>by
  have:=lJ p l;rw[dW];split
  ·omega
  ·split<;>omega
theorem lI {α:Type} (p:α→Bool): ∀ l:List α,decide (dW p l≥0)=l.any p
 | []=>by simp[dW]
 | x::l=>by
  have h:=lI p l;have hg:=lJ p l;rw[dW,List.any_cons, ←h];cases p x
  ·simp only[Bool.false_eq_true,if_false,Bool.false_or]
   split
   ·rename_i e;rw[e]
   ·rw[Bool.eq_iff_iff,decide_eq_true_eq,decide_eq_true_eq];omega
  ·simp
theorem vU (k:Nat) (cap:List PV) (Γ1:List aj) (p:Datum→Bool) (l:List Datum) (hf: ∀ x∈l,af Tryz.prog k (.agg (Datum.cells x)::cap) Γ1 (fun y Γ'=>y=.bool (p x)∧Γ'=Γ1)):
  af Tryz.prog 131 [.sl 5 (l.map Datum.pv) none,.fn (.func k) cap] Γ1 (fun y Γ'=>y=.int .i64 (dW p l)∧Γ'=Γ1):=by
 refine af.ah ai Tryz.func131 rfl rfl (n:=19) rfl rfl ?_
 conv=>whnf
 repeat (first|refine mj ?_|((intro _);conv=>whnf))
 refine aq.keep [4,5,8,9,10,11,12,13,14,15,16,17,18] (fun i:Nat=> [(8,.int .i64 i)]) (fun i=>i≤l.length∧dW p l=if dW p (l.drop i)= -1 then -1 else i + dW p (l.drop i)) (fun i=>l.length - i) 0 ⟨by omega,by simp only[List.drop_zero];split<;>omega⟩ wA ?_;rintro i ⟨h1,h2⟩
 conv=>whnf
 repeat' (first|refine dw ?_|(refine zX (fun hc=>?_) (fun hc=>?_)<;>(try simp only[SY] at hc)<;>(conv=>whnf)))
 ·refine av.same (hf _ (List.getElem_mem (show i < l.length by omega))) (aX.refl _) ?_
  rintro _ _ ⟨rfl,rfl⟩;rw[aI (show i < l.length by omega),dW] at h2
  conv=>whnf
  repeat' (first|refine dw ?_|(refine zX (fun hc=>?_) (fun hc=>?_)<;>(try simp only[SY] at hc)<;>(conv=>whnf)))
  ·rw[hc] at h2
   refine ak.gen (Wk.int ?_) ⟨rfl,rfl⟩;simpa using h2.symm
  ·rw[hc] at h2
   refine an (i + 1) ⟨by omega,?_⟩ (by show l.length - (i + 1) < l.length - i;omega) wA;rw[h2];have hg:=lJ p (l.drop (i + 1));simp only[Bool.false_eq_true,if_false]
   split
   ·simp
   ·rw[if_neg (by omega)];omega
 ·rw[List.drop_of_length_le (by omega)] at h2
  exact ak.gen (Wk.int (by rw[h2];rfl)) ⟨rfl,rfl⟩
theorem kC (k:Nat) (cap:List PV) (Γ1:List aj) (p:Datum→Bool) (l:List Datum) (hf: ∀ x∈l,af Tryz.prog k (.agg (Datum.cells x)::cap) Γ1 (fun y Γ'=>y=.bool (p x)∧Γ'=Γ1)):
  af Tryz.prog 72 [.sl 5 (l.map Datum.pv) none,.fn (.func k) cap] Γ1 (fun y Γ'=>y=.bool (l.any p)∧Γ'=Γ1):=by
 refine af.ah ai Tryz.func72 rfl rfl (n:=9) rfl rfl ?_
 conv=>whnf
 skip
 refine av.same (vU k cap Γ1 p l hf) (aX.refl _) ?_;rintro _ _ ⟨rfl,rfl⟩
 conv=>whnf
 skip
 exact ak.gen (Wk.bool (lI p l)) ⟨rfl,rfl⟩
theorem vW (k:Nat) (cap:List PV) (Γ1:List aj) (p:aa→Bool) (l:List aa) (hf: ∀ x∈l,af Tryz.prog k (.agg (aa.cells x)::cap) Γ1 (fun y Γ'=>y=.bool (p x)∧Γ'=Γ1)):
  af Tryz.prog 136 [.sl 4 (l.map aa.pv) none,.fn (.func k) cap] Γ1 (fun y Γ'=>y=.int .i64 (dW p l)∧Γ'=Γ1):=by
 refine af.ah ai Tryz.func136 rfl rfl (n:=19) rfl rfl ?_
 conv=>whnf
 repeat (first|refine mj ?_|((intro _);conv=>whnf))
 refine aq.keep [4,5,8,9,10,11,12,13,14,15,16,17,18] (fun i:Nat=> [(8,.int .i64 i)]) (fun i=>i≤l.length∧dW p l=if dW p (l.drop i)= -1 then -1 else i + dW p (l.drop i)) (fun i=>l.length - i) 0 ⟨by omega,by simp only[List.drop_zero];split<;>omega⟩ wA ?_;rintro i ⟨h1,h2⟩
 conv=>whnf
 repeat' (first|refine dw ?_|(refine zX (fun hc=>?_) (fun hc=>?_)<;>(try simp only[SY] at hc)<;>(conv=>whnf)))
 ·refine av.same (hf _ (List.getElem_mem (show i < l.length by omega))) (aX.refl _) ?_
  rintro _ _ ⟨rfl,rfl⟩;rw[aI (show i < l.length by omega),dW] at h2
  conv=>whnf
  repeat' (first|refine dw ?_|(refine zX (fun hc=>?_) (fun hc=>?_)<;>(try simp only[SY] at hc)<;>(conv=>whnf)))
  ·rw[hc] at h2
   refine ak.gen (Wk.int ?_) ⟨rfl,rfl⟩;simpa using h2.symm
  ·rw[hc] at h2
   refine an (i + 1) ⟨by omega,?_⟩ (by show l.length - (i + 1) < l.length - i;omega) wA;rw[h2];have hg:=lJ p (l.drop (i + 1));simp only[Bool.false_eq_true,if_false]
   split
   ·simp
   ·rw[if_neg (by omega)];omega
 ·rw[List.drop_of_length_le (by omega)] at h2
  exact ak.gen (Wk.int (by rw[h2];rfl)) ⟨rfl,rfl⟩
theorem kE (k:Nat) (cap:List PV) (Γ1:List aj) (p:aa→Bool) (l:List aa) (hf: ∀ x∈l,af Tryz.prog k (.agg (aa.cells x)::cap) Γ1 (fun y Γ'=>y=.bool (p x)∧Γ'=Γ1)):
  af Tryz.prog 81 [.sl 4 (l.map aa.pv) none,.fn (.func k) cap] Γ1 (fun y Γ'=>y=.bool (l.any p)∧Γ'=Γ1):=by
 refine af.ah ai Tryz.func81 rfl rfl (n:=9) rfl rfl ?_
 conv=>whnf
 skip
 refine av.same (vW k cap Γ1 p l hf) (aX.refl _) ?_;rintro _ _ ⟨rfl,rfl⟩
 conv=>whnf
 skip
 exact ak.gen (Wk.bool (lI p l)) ⟨rfl,rfl⟩
def dm:List UInt8:= [97,98,99,100,101,102,103,104,105,106,107,108,109,110,111,112,113,114,115,116,117,118,119,120,121,122,48,49,50,51,52,53,54,55,56,57,45,43,42,47,60,62,61,33,63,95,37]
theorem jR (c:UInt8): ∀ l:List UInt8,0≤Go.Lib.indexByte l c↔l.contains c=true
 | []=>by simp[Go.Lib.indexByte]
 | b::l=>by
  have ih:=jR c l;have hge:=Go.Lib.indexByte_ge l c;rw[Go.Lib.indexByte,List.contains_cons];by_cases h:b=c
  ·subst h;simp
  ·have h1:(b == c)=false:=by simp[h]
   have h2:(c == b)=false:=by simp;exact fun e=>h e.symm
   rw[h1,h2,Bool.false_or, ←ih];simp only[Bool.false_eq_true,if_false]
   split<;>rename_i h<;>simp at h<;>omega
theorem Mr (s:List UInt8):aA Tryz.prog 222 [.str s] (.bool (s.all dm.contains)):=by
 have hi:=fun c=>jR c dm;refine af.ah ai Tryz.func222 rfl rfl (n:=16) rfl rfl ?_
 conv=>whnf
 repeat (first|refine mj ?_|((intro _);conv=>whnf))
 refine aq.keep [2,4,8,9,10,11,12,13,14,15] (fun i:Nat=> [(8,.int .i64 i)]) (fun i=>i≤s.length∧(s.drop i).all dm.contains=s.all dm.contains) (fun i=>s.length - i) 0 ⟨by omega,rfl⟩ wA ?_;rintro i ⟨h1,h2⟩
 conv=>whnf
 repeat' (first|refine dw ?_|((refine pC (Ca dm _) wR ?_);conv=>whnf)|(refine zX (fun hc=>?_) (fun hc=>?_)<;>(try simp only[SY] at hc)<;>(conv=>whnf)))
 ·rw[aI (show i < s.length by omega),List.all_cons,show dm.contains s[i]=false by rw[←Bool.not_eq_true, ←hi];omega] at h2
  exact ak.pure (Wk.ff h2.symm)
 ·rw[aI (show i < s.length by omega),List.all_cons,(hi s[i]).1 hc] at h2
  exact an (i + 1) ⟨by omega,h2⟩ (by show s.length - (i + 1) < s.length - i;omega) wA
 ·rw[List.drop_of_length_le (by omega)] at h2
  exact ak.pure (Wk.tt h2.symm)
theorem KQ (s:List UInt8):aA Tryz.prog 176 [.str s] (.bool (!s.any mN)):=by
 refine af.ah ai Tryz.func176 rfl rfl (n:=27) rfl rfl ?_
 conv=>whnf
 repeat (first|refine mj ?_|((intro _);conv=>whnf))
 refine aq.keep [2,4,8,9,10,11,12,13,14,15,16,17,18,19,20,21,22,23,24,25,26] (fun i:Nat=> [(8,.int .i64 i)]) (fun i=>i≤s.length∧(s.drop i).any mN=s.any mN) (fun i=>s.length - i) 0 ⟨by omega,rfl⟩ wA ?_;rintro i ⟨h1,h2⟩
 conv=>whnf
 repeat' (first|refine dw ?_|(refine zX (fun hc=>?_) (fun hc=>?_)<;>(try simp only[SY] at hc)<;>(conv=>whnf)))
 ·rw[aI (show i < s.length by omega),List.any_cons,show mN s[i]=true by simp only[mN,SS,hc]] at h2
  exact ak.pure (Wk.ff (by rw[←h2];rfl))
 ·rw[aI (show i < s.length by omega),List.any_cons,show mN s[i]=false by simp only[mN,SS,hc,not_false_eq_true,and_self]] at h2
  exact an (i + 1) ⟨by omega,h2⟩ (by show s.length - (i + 1) < s.length - i;omega) wA
 ·rw[List.drop_of_length_le (by omega)] at h2
  exact ak.pure (Wk.tt (by rw[←h2];rfl))
def sV (s:List UInt8):Bool:=!((s.length:Int) == 0 || decide ((s.length:Int) > 40) || !((kN dm.contains s).dropWhile dm.contains == []) || !s.all dm.contains) && !(wE s).2.2
theorem Mg (s:List UInt8):aA Tryz.prog 175 [.str s] (.bool (sV s)):=by
 refine af.ah ai Tryz.func175 rfl rfl (n:=32) rfl rfl ?_
 conv=>whnf
 repeat' (first|refine dw ?_|((first|(((apply zY;intro hg));(conv=>whnf);(repeat ((first|refine pC (K3 s dm (by decide) (by decide)) wR ?_|refine pC (Mr s) wR ?_|refine aG ?_);conv=>whnf));exact pZ)|refine pC (J4 s (by omega)) wR ?_|intro _);conv=>whnf)|(refine zX (fun hc=>?_) (fun hc=>?_)<;>(try simp only[SY] at hc)<;>(conv=>whnf)))
 ·exact ak.pure (Wk.ff (by rw[sV,show ((s.length:Int) == 0 || decide ((s.length:Int) > 40) || !((kN dm.contains s).dropWhile dm.contains == []) || !s.all dm.contains)=true by simp only[SS,hc]];rfl))
 ·refine ak.pure (Wk.bool ?_)
  have:((s.length:Int) == 0 || decide ((s.length:Int) > 40) || !((kN dm.contains s).dropWhile dm.contains == []) || !s.all dm.contains)=false:=by simp only[SS,hc,not_false_eq_true,and_self]
  rw[sV,this];rfl
def m9 (d:Datum):Datum×Bool:=
 if d.kind=0 then (.mk 0 d.n d.d [] [],cM d.n d.d) else
 if d.kind=1 then (.mk d.kind d.n 0 [] [],d.n == 0 || d.n == 1) else
 if d.kind=2 then (.mk d.kind 0 0 d.s [],sV d.s) else
 if d.kind=3 then (.mk d.kind 0 0 d.s [],!d.s.any mN) else
 if d.kind=4∨d.kind=5 then (.mk d.kind 0 0 [] [],true) else
 if d.kind=6 then (.mk d.kind 0 0 [] d.l,(d.l.length:Int) == 2) else
 if d.kind=7 then (.mk d.kind 0 0 [] d.l,true) else
 (.mk 0 0 0 [] [],false)
theorem Jb {p q:Prop} (k:q) (h:q→p:=by intro hq;first | exact aC.sP (some 8) rfl [] [10,11] ai mixed hq | exact aC.sQ (some 20) rfl [13] [14] ai mixed hq | exact aC.sP (some 35) rfl [] [8,9] ai mixed hq | exact aC.sP (some 45) rfl [] [8,9] ai mixed hq | exact aC.sQ (some 61) rfl [9] [10] ai mixed hq):p:=h k
theorem NB (d:Datum):aA Tryz.prog 133 [.agg d.cells] (.bn [.agg (m9 d).1.cells,.bool (m9 d).2]):=by
 refine af.ah ai Tryz.func133 rfl rfl (n:=78) rfl rfl ?_
 conv=>whnf
 repeat (((intro _);conv=>whnf))
 have hB:m9 d=m9 d:=rfl
 conv at hB=>rhs;unfold m9
 conv=>whnf
 repeat' (first|refine dw ?_|((first|((apply zZ);(conv=>whnf);(repeat ((first|refine pC (Kn _ _) wR ?_|refine pC (Mg _) wR ?_|refine pC (KQ _) wR ?_);conv=>whnf));exact pZ)|refine Jb ?_);conv=>whnf)|(refine zX (fun hc=>?_) (fun hc=>?_)<;>(try simp only[SY] at hc)<;>first|omega|(conv=>whnf)))
 all_goals repeat (first|rw[if_neg (by omega)] at hB|rw[if_pos (by omega)] at hB)
 all_goals rw[hB]
 all_goals exact ak.pure wA
def gU (d:Datum) (deep:Int):Bool:=
 !(m9 d).2 || decide (deep > 200) || !((m9 d).1.n == d.n) || !((m9 d).1.d == d.d) || !((m9 d).1.s == d.s) || !(((m9 d).1.l.length:Int) == d.l.length)
mutual
def Datum.fQ:Datum→Int→Bool
 | .mk k n d s l,deep=>!gU (.mk k n d s l) deep && Datum.kM l (deep + 1)
def Datum.kM:List Datum→Int→Bool
 | [],_=>true
 | x::xs,deep=>Datum.fQ x deep && Datum.kM xs deep
end
theorem Datum.yQ (x:Datum) (deep:Int):x.fQ deep=(!gU x deep && Datum.kM x.l (deep + 1)):=by cases x;rfl
theorem HQ (b bd:Nat) (x:Datum) (deep:Int) (h0:0≤deep) (h1:deep≤1000) (ih:af Tryz.prog 132 [.agg x.cells,.int .i64 (deep + 1),.ptr b 0] [.box b [.fn (.func 132) [.ptr b 0]]] (fun y Γ'=>y=.bool (x.fQ (deep + 1))∧Γ'= [.box b [.fn (.func 132) [.ptr b 0]]])):
  af Tryz.prog 134 [.agg x.cells,.ptr b 0,.ptr bd 0] [.box b [.fn (.func 132) [.ptr b 0]],.box bd [.int .i64 deep]] (fun y Γ'=>y=.bool (!x.fQ (deep + 1))∧Γ'= [.box b [.fn (.func 132) [.ptr b 0]],.box bd [.int .i64 deep]]):=by
 refine af.ah ai Tryz.func134 rfl rfl (n:=11) rfl rfl ?_
 conv=>whnf
 repeat (first|refine mj ?_|((intro _);conv=>whnf))
 refine av.go ih (aX.refl _) ?_;rintro _ _ ⟨rfl,rfl⟩
 conv=>whnf
 skip
 exact ak.gen (Wk.refl _) ⟨rfl,rfl⟩
theorem oN (deep:Int): ∀ l:List Datum,l.any (fun x=>!x.fQ deep)=!Datum.kM l deep
 | []=>rfl
 | x::l=>by rw[List.any_cons,Datum.kM,oN deep l,Bool.not_and]
theorem HP (b:Nat) (d:Datum): ∀ deep:Int,0≤deep→deep≤1000→af Tryz.prog 132 [.agg d.cells,.int .i64 deep,.ptr b 0] [.box b [.fn (.func 132) [.ptr b 0]]] (fun y Γ'=>y=.bool (d.fQ deep)∧Γ'= [.box b [.fn (.func 132) [.ptr b 0]]]):=by
 induction d using Datum.ind with
 | h d ih=>
  intro deep h0 h1;have hb:gU d deep=gU d deep:=rfl
  conv at hb=>rhs;unfold gU
  rw[Datum.yQ];refine af.ah ai Tryz.func132 rfl rfl (n:=54) rfl rfl ?_
  conv=>whnf
  repeat' (first|refine dw ?_|((first|refine pC (NB d) wR ?_|intro _);conv=>whnf)|(refine zX (fun hc=>?_) (fun hc=>?_)<;>(try simp only[SY] at hc)<;>(conv=>whnf)))
  ·rw[show gU d deep=true by rw[hb];simp only[SS,hc]]
   exact ak.gen (Wk.ff rfl) ⟨rfl,rfl⟩
  ·rename_i b1 b2 b3
   rw[show gU d deep=false by rw[hb];simp only[SS,hc,and_self]];refine av.go (kC 134 [.ptr b 0,.ptr b2 0] [.box b [.fn (.func 132) [.ptr b 0]],.box b2 [.int .i64 deep]] (fun x=>!x.fQ (deep + 1)) d.l (fun x hx=>HQ b b2 x deep h0 (by omega) (ih x hx (deep + 1) (by omega) (by omega)))) (aX.refl _) ?_;rintro _ _ ⟨rfl,rfl⟩
   conv=>whnf
   skip
   exact ak.gen (Wk.bool (by rw[oN];simp)) ⟨rfl,rfl⟩
theorem Ko (d:Datum):aA Tryz.prog 74 [.agg d.cells] (.bool (d.fQ 0)):=by
 refine af.ah ai Tryz.func74 rfl rfl (n:=8) rfl rfl ?_
 conv=>whnf
 repeat (first|refine mj ?_|((intro _);conv=>whnf))
 refine av.go (HP _ d 0 (by omega) (by omega)) (aX.refl _) ?_;rintro _ _ ⟨rfl,rfl⟩
 conv=>whnf
 skip
 exact ak.pure (Wk.refl _)
theorem DS (d:Datum): ∀ left:Int,0≤left→left≤1000000000→aA Tryz.prog 27 [.agg d.cells,.int .i64 left] (.int .i64 (d.sk left)):=by
 induction d using Datum.ind with
 | h d ih=>
  intro left h0 h1;refine af.ah ai Tryz.func27 rfl rfl (n:=27) rfl rfl ?_
  conv=>whnf
  repeat (first|refine mj ?_|((intro _);conv=>whnf))
  refine aq.keep [1,5,8,9,10,11,12,13,14,15,16,17,18,19,20,21,22,23,24,25] (fun (x:Nat×Int)=> [(1,.int .i64 x.2),(5,.int .i64 x.1)]) (fun x=>x.1≤d.l.length∧ -1≤x.2∧x.2 < left∧Datum.fh (d.l.drop x.1) x.2=Datum.fh d.l (left - 1)) (fun x=>d.l.length - x.1) (0,left - 1) ⟨by simp,by simp only;omega,by simp only;omega,rfl⟩ wA ?_;rintro ⟨i,n⟩ ⟨hi,h2,h3,hf⟩;simp only at hi h2 h3 hf;have hbd:=fun (x:Datum) (h:0≤n)=>x.Ad n h
  conv=>whnf
  repeat' (first|refine dw ?_|((first|(((apply zY;intro hg));(conv=>whnf);(repeat ((refine aG ?_);conv=>whnf));exact pZ)|refine pC (ih _ (List.getElem_mem _) _ OA OA) wR ?_|intro _);conv=>whnf)|(refine zX (fun hc=>?_) (fun hc=>?_)<;>(try simp only[SY] at hc)<;>(conv=>whnf)))
  ·rw[aI (show i < d.l.length by omega),Datum.fh,if_pos (by omega)] at hf
   have hx:=hbd d.l[i] (by omega);exact an (i + 1,d.l[i].sk n) ⟨by simp only;omega,by simp only;omega,by simp only;omega,hf⟩ (by show d.l.length - (i + 1) < d.l.length - i;omega) wA
  ·refine ak.pure (Wk.int ?_)
   rw[Datum.sC, ←hf];rcases Nat.lt_or_ge i d.l.length with h | h
   ·rw[aI h,Datum.fh,if_neg (by omega)]
   ·rw[List.drop_of_length_le h,Datum.fh]
theorem Jm (d:aa): ∀ left:Int,0≤left→left≤1000000000→aA Tryz.prog 43 [.agg d.cells,.int .i64 left] (.int .i64 (d.sk left)):=by
 induction d using aa.ind with
 | h d ih=>
  intro left h0 h1;refine af.ah ai Tryz.func43 rfl rfl (n:=27) rfl rfl ?_
  conv=>whnf
  repeat (first|refine mj ?_|((intro _);conv=>whnf))
  refine aq.keep [1,5,8,9,10,11,12,13,14,15,16,17,18,19,20,21,22,23,24,25] (fun (x:Nat×Int)=> [(1,.int .i64 x.2),(5,.int .i64 x.1)]) (fun x=>x.1≤d.t.length∧ -1≤x.2∧x.2 < left∧aa.fh (d.t.drop x.1) x.2=aa.fh d.t (left - 1)) (fun x=>d.t.length - x.1) (0,left - 1) ⟨by simp,by simp only;omega,by simp only;omega,rfl⟩ wA ?_;rintro ⟨i,n⟩ ⟨hi,h2,h3,hf⟩;simp only at hi h2 h3 hf;have hbd:=fun (x:aa) (h:0≤n)=>x.Ad n h
  conv=>whnf
  repeat' (first|refine dw ?_|((first|refine pC (ih _ (List.getElem_mem _) _ OA OA) wR ?_|intro _);conv=>whnf)|(refine zX (fun hc=>?_) (fun hc=>?_)<;>(try simp only[SY] at hc)<;>(conv=>whnf)))
  ·rw[aI (show i < d.t.length by omega),aa.fh,if_pos (by omega)] at hf
   have hx:=hbd d.t[i] (by omega);exact an (i + 1,d.t[i].sk n) ⟨by simp only;omega,by simp only;omega,by simp only;omega,hf⟩ (by show d.t.length - (i + 1) < d.t.length - i;omega) wA
  ·refine ak.pure (Wk.int ?_)
   rw[aa.sC, ←hf];rcases Nat.lt_or_ge i d.t.length with h | h
   ·rw[aI h,aa.fh,if_neg (by omega)]
   ·rw[List.drop_of_length_le h,aa.fh]
theorem Iw (d:aa) (n:Int) (h0:0≤n) (h1:n≤1000000000):aA Tryz.prog 22 [.agg d.cells,.int .i64 n] (.bool (decide (0≤d.sk n))):=by
 refine af.ah ai Tryz.func22 rfl rfl (n:=9) rfl rfl ?_
 conv=>whnf
 repeat (first|refine mj ?_|((first|refine pC (Jm d n h0 h1) wR ?_|intro _);conv=>whnf))
 exact ak.pure (Wk.refl _)
theorem Iv (l:List Datum) (n:Int) (h0:0≤n) (h1:n≤1000000000):aA Tryz.prog 12 [.sl 5 (l.map Datum.pv) none,.int .i64 n] (.bool (decide (0≤Datum.fh l n))):=by
 refine af.ah ai Tryz.func12 rfl rfl (n:=24) rfl rfl ?_
 conv=>whnf
 skip
 refine aq.keep [1,5,6,7,8,9,10,11,12,13,14,15,16,17,18,19,20,21] (fun (x:Nat×Int)=> [(1,.int .i64 x.2),(5,.int .i64 x.1)]) (fun x=>x.1≤l.length∧ -1≤x.2∧x.2≤n∧Datum.fh (l.drop x.1) x.2=Datum.fh l n) (fun x=>l.length - x.1) (0,n) ⟨by simp,by simp only;omega,by simp only;omega,rfl⟩ wA ?_;rintro ⟨i,m⟩ ⟨hi,h2,h3,hf⟩;simp only at hi h2 h3 hf;have hbd:=fun (x:Datum) (h:0≤m)=>x.Ad m h
 conv=>whnf
 repeat' (first|refine dw ?_|((first|refine pC (DS _ _ OA OA) wR ?_|intro _);conv=>whnf)|(refine zX (fun hc=>?_) (fun hc=>?_)<;>(try simp only[SY] at hc)<;>(conv=>whnf)))
 ·rw[aI (show i < l.length by omega),Datum.fh,if_pos (by omega)] at hf
  have hx:=hbd l[i] (by omega);exact an (i + 1,l[i].sk m) ⟨by simp only;omega,by simp only;omega,by simp only;omega,hf⟩ (by show l.length - (i + 1) < l.length - i;omega) wA
 ·refine ak.pure (Wk.bool ?_)
  rw[←hf];rcases Nat.lt_or_ge i l.length with h | h
  ·rw[aI h,Datum.fh,if_neg (by omega)]
  ·rw[List.drop_of_length_le h,Datum.fh]
def ek (op level:Int):Bool:=
 if op=0∨op=1∨op=3∨op=5∨op=6∨op=11 then true else
 if op=2 then decide (level≤1) else
 if op=4 then decide (level≤2) else
 if op=7 then level == 0 else
 if op=8∨op=9∨op=12∨op=13 then decide (level≥1) else
 if op=14 then level == 1 else
 if op=10∨op=15∨op=16∨op=17∨op=18 then decide (level≥2) else
 if op=19∨op=20∨op=21∨op=22 then level == 3 else false
theorem MI (op level:Int):aA Tryz.prog 63 [.int .i64 op,.int .i64 level] (.bool (ek op level)):=by
 have hs:ek op level=ek op level:=rfl
 conv at hs=>rhs;unfold ek
 refine af.ah ai Tryz.func63 rfl rfl (n:=51) rfl rfl ?_
 conv=>whnf
 repeat' (first|refine dw ?_|(refine zX (fun hc=>?_) (fun hc=>?_)<;>(try simp only[SY] at hc)<;>first|omega|(conv=>whnf)))
 all_goals repeat (first|rw[if_neg (by omega)] at hs|rw[if_pos (by omega)] at hs)
 all_goals rw[hs]
 all_goals first | exact ak.pure (Wk.refl _) | exact ak.pure (Wk.tt rfl) | exact ak.pure (Wk.ff rfl)
def zo (op:Int):Bool:=op == 4 || op == 7 || op == 8 || op == 9
def dF (t:aa):Bool:=
 if (!zo t.op && decide ((t.v.length:Int) > 0))=true then false else
 if t.op=0∨t.op=1∨t.op=11∨t.op=13∨t.op=20∨t.op=21 then (t.t.length:Int) == 0 else
 if t.op=2∨t.op=14∨t.op=4∨t.op=12∨t.op=15∨t.op=16 then (t.t.length:Int) == 1 else
 if t.op=3 then (t.t.length:Int) == 3 else
 if t.op=17∨t.op=18 then (t.t.length:Int) == 2 else
 if t.op=5∨t.op=6∨t.op=22 then decide ((t.t.length:Int)≥1) else
 if t.op=7∨t.op=8∨t.op=9 then (t.t.length:Int) == (t.v.length:Int) + 1 else true
theorem I4 (t:aa) (hv:t.v.length≤1000000000):aA Tryz.prog 64 [.agg t.cells] (.bool (dF t)):=by
 have hs:dF t=dF t:=rfl
 conv at hs=>rhs;unfold dF;simp only[zo,SS]
 refine af.ah ai Tryz.func64 rfl rfl (n:=79) rfl rfl ?_
 conv=>whnf
 repeat' (first|refine dw ?_|((intro _);conv=>whnf)|(refine zX (fun hc=>?_) (fun hc=>?_)<;>(try simp only[SY] at hc)<;>first|omega|(conv=>whnf)))
 all_goals repeat (first|rw[if_neg (by omega)] at hs|rw[if_pos (by omega)] at hs)
 all_goals rw[hs]
 all_goals first | exact ak.pure (Wk.refl _) | exact ak.pure (Wk.tt rfl) | exact ak.pure (Wk.ff rfl)
theorem Jr (l:List Int) (v:Int):aA Tryz.prog 124 [.sl 1 (l.map (PV.int .i64)) none,.int .i64 v] (.bool (l.contains v)):=by
 refine af.ah ai Tryz.func124 rfl rfl (n:=18) rfl rfl ?_
 conv=>whnf
 skip
 refine aq.keep [4,5,6,7,8,9,10,11,12,13,14,15,16,17] (fun i:Nat=> [(5,.int .i64 i)]) (fun i=>i≤l.length∧(l.drop i).contains v=l.contains v) (fun i=>l.length - i) 0 ⟨by omega,rfl⟩ wA ?_;rintro i ⟨h1,h2⟩
 conv=>whnf
 repeat' (first|refine dw ?_|((intro _);conv=>whnf)|(refine zX (fun hc=>?_) (fun hc=>?_)<;>(try simp only[SY] at hc)<;>(conv=>whnf)))
 ·rw[aI (show i < l.length by omega),List.contains_cons,show (v == l[i])=true by simp[hc]] at h2
  exact ak.pure (Wk.tt (by rw[←h2];rfl))
 ·rw[aI (show i < l.length by omega),List.contains_cons,show (v == l[i])=false by simp;exact fun e=>hc e.symm] at h2
  exact an (i + 1) ⟨by omega,by simpa using h2⟩ (by show l.length - (i + 1) < l.length - i;omega) wA
 ·rw[List.drop_of_length_le (by omega)] at h2
  exact ak.pure (Wk.ff (by rw[←h2];rfl))
theorem gJ (d:Datum):aA Tryz.prog 57 [.agg d.cells] (.bool (d.bS 0)):=by
 refine af.ah ai Tryz.func57 rfl rfl (n:=5) rfl rfl ?_
 conv=>whnf
 repeat (first|refine mj ?_|((first|refine pC (Km d 0 (by omega) (by omega)) wR ?_|intro _);conv=>whnf))
 exact ak.pure (Wk.refl _)
theorem z6 (l:List Datum):aA Tryz.prog 40 [.sl 5 (l.map Datum.pv) none] (.bool (l.all fun d=>d.bS 0)):=by
 refine af.ah ai Tryz.func40 rfl rfl (n:=16) rfl rfl ?_
 conv=>whnf
 skip
 refine aq.keep [2,3,4,5,6,7,8,9,10,11,12,13,14,15] (fun i:Nat=> [(3,.int .i64 i)]) (fun i=>i≤l.length∧(l.drop i).all (fun d=>d.bS 0)=l.all fun d=>d.bS 0) (fun i=>l.length - i) 0 ⟨by omega,rfl⟩ wA ?_;rintro i ⟨h1,h2⟩
 conv=>whnf
 repeat' (first|refine dw ?_|((first|refine pC (gJ _) wR ?_|intro _);conv=>whnf)|(refine zX (fun hc=>?_) (fun hc=>?_)<;>(try simp only[SY] at hc)<;>(conv=>whnf)))
 ·rw[aI (show i < l.length by omega),List.all_cons,hc] at h2
  exact ak.pure (Wk.ff (by rw[←h2];rfl))
 ·rw[aI (show i < l.length by omega),List.all_cons,hc] at h2
  exact an (i + 1) ⟨by omega,by simpa using h2⟩ (by show l.length - (i + 1) < l.length - i;omega) wA
 ·rw[List.drop_of_length_le (by omega)] at h2
  exact ak.pure (Wk.tt (by rw[←h2];rfl))
def K6 (bound:List Int) (v:Int):Bool:=!(decide (v < 0) || decide (v > 1000000) || bound.contains v)
def bw:List Int→List Int→Bool×List Int
 | [],bound=>(true,bound)
 | v::l,bound=>if K6 bound v then bw l (bound++ [v]) else (false,bound++ [v])
theorem GU {p q:Prop} (k:q) (h:q→p:=by intro hq;first | exact aC.sP (some 17) rfl [] [] ai mixed hq):p:=h k
theorem LC (b:Nat) (level consts codes size:Int) (free:Bool) (l bound:List Int) (t:Tok) (ht:t.e=3) (hl:l.length + bound.length≤1000000000):
  af Tryz.prog 66 [.ptr b 0,.sl 1 (l.map (PV.int .i64)) none] [.box b [.int .i64 level,.int .i64 consts,.int .i64 codes,.bool free,.int .i64 size,.sl 1 (bound.map (PV.int .i64)) (some t),.bool true],.tok t]
  (fun y Γ'=>y=.bn []∧ ∃ t':Tok,t'.e=3∧Γ'= [.box b [.int .i64 level,.int .i64 consts,.int .i64 codes,.bool free,.int .i64 size,.sl 1 ((bw l bound).2.map (PV.int .i64)) (some t'),.bool (bw l bound).1],.tok t']):=by
 refine af.ah ai Tryz.func66 rfl rfl (n:=56) rfl rfl ?_
 conv=>whnf
 skip
 refine aq.over [4,5,6,7,8,9,10,11,12,13,14,15,16,17,18,19,20,21,22,23,24,25,26,27,28,29,30,31,32,33,34,35,36,37,38,39,40,41,42,43,44,45,46,47,48,49,50,51,52,53,54,55] (fun | ((i,bd,ok,t1):Nat×List Int×Bool×Tok)=> [(4,.int .i64 i)]) (fun x=> [.box b [.int .i64 level,.int .i64 consts,.int .i64 codes,.bool free,.int .i64 size,.sl 1 (x.2.1.map (PV.int .i64)) (some x.2.2.2),.bool x.2.2.1],.tok x.2.2.2])
  (fun | (i,bd,ok,t1)=>i≤l.length∧bd.length=bound.length + i∧t1.e=3∧(ok=true→bw (l.drop i) bd=bw l bound)∧(ok=false→bw l bound=(false,bd))) (fun | (i,_)=>l.length - i) (0,bound,true,t) ⟨by simp,by simp,ht,fun _=>rfl,fun h=>by cases h⟩ wA ?_
 rintro ⟨i,bd,ok,t1⟩ ⟨hi,hb,ht1,h1,h2⟩;have e1:List.length (i,bd,ok,t1).2.1=bd.length:=rfl
 conv=>whnf
 repeat' (first|refine dw ?_|((first|(((apply zY;intro hg));(conv=>whnf);(repeat ((first|refine pC (Jr _ _) cA ?_|refine aG ?_);conv=>whnf));exact pZ)|refine GU ?_|intro _);conv=>whnf)|(refine zX (fun hc=>?_) (fun hc=>?_)<;>(try simp only[SY] at hc)<;>(conv=>whnf)))
 ·have hlt:i < l.length:=by omega
  refine aC.sE [.tok t1] [10] [11,12,13] ai mixed ?_
  conv=>whnf
  repeat (refine mj ?_)
  refine aZ.one l[i] ht1 (Wk.tok _ _ _) (by omega) (by show _ * 8≤_;omega) ?_;intro t2 ht2
  conv=>whnf
  repeat (refine mj ?_)
  rw[aI hlt,bw,if_neg (by simp only[K6,SS];rintro ⟨h,h'⟩;rw[h'] at hc;simp at hc;omega)] at h1;have h1':=h1 (‹_∧ok=true›).2;refine an (i + 1,bd++ [l[i]],false,t2) ⟨by omega,by simp;omega,ht2,fun h=>(by cases h),fun _=>h1'.symm⟩ (by show l.length - (i + 1) < l.length - i;omega) wA
 ·have hlt:i < l.length:=by omega
  refine aC.sE [.tok t1] [10] [11,12,13] ai mixed ?_
  conv=>whnf
  repeat (refine mj ?_)
  refine aZ.one l[i] ht1 (Wk.tok _ _ _) (by omega) (by show _ * 8≤_;omega) ?_;intro t2 ht2
  conv=>whnf
  repeat (refine mj ?_)
  rw[aI hlt,bw,if_pos (by simp only[K6,SS];exact hc)] at h1;obtain ⟨_,rfl⟩:= ‹_∧ok=true›;refine an (i + 1,bd++ [l[i]],true,t2) ⟨by omega,by simp;omega,ht2,fun _=>h1 rfl,fun h=>(by cases h)⟩ (by show l.length - (i + 1) < l.length - i;omega) wA
 ·have e:bw l bound=(ok,bd):=by
   cases ok with
   | false=>exact h2 rfl
   | true=>
    have:=h1 rfl;rw[List.drop_of_length_le (by rcases hc with hc | hc;omega;cases hc),bw] at this;exact this.symm
  exact ak.gen (Wk.refl _) ⟨rfl,t1,ht1,by rw[e]⟩
structure Pg where
 fm:Int
 to:Int
 least:Int
 any:Bool
 binds:Bool
abbrev Pg.cells (s:Pg):List PV:= [.int .i64 s.fm,.int .i64 s.to,.int .i64 s.least,.bool s.any,.bool s.binds]
def cQ (op:Int):Pg×Bool:=
 if op=0∨op=1∨op=11 then (⟨0,3,0,false,false⟩,true) else
 if op=3 then (⟨0,3,3,false,false⟩,true) else
 if op=5∨op=6 then (⟨0,3,1,true,false⟩,true) else
 if op=2 then (⟨0,1,1,false,false⟩,true) else
 if op=4 then (⟨0,2,1,false,true⟩,true) else
 if op=7 then (⟨0,0,0,false,true⟩,true) else
 if op=8∨op=9 then (⟨1,3,0,false,true⟩,true) else
 if op=12 then (⟨1,3,1,false,false⟩,true) else
 if op=13 then (⟨1,3,0,false,false⟩,true) else
 if op=14 then (⟨1,1,1,false,false⟩,true) else
 if op=10 then (⟨2,3,0,true,false⟩,true) else
 if op=15∨op=16 then (⟨2,3,1,false,false⟩,true) else
 if op=17∨op=18 then (⟨2,3,2,false,false⟩,true) else
 if op=19 then (⟨3,3,0,true,false⟩,true) else
 if op=20∨op=21 then (⟨3,3,0,false,false⟩,true) else
 if op=22 then (⟨3,3,1,true,false⟩,true) else (⟨0,0,0,false,false⟩,false)
theorem HX (op:Int):aA Tryz.prog 75 [.int .i64 op] (.bn [.agg (cQ op).1.cells,.bool (cQ op).2]):=by
 have hs:cQ op=cQ op:=rfl
 conv at hs=>rhs;unfold cQ
 refine af.ah ai Tryz.func75 rfl rfl (n:=61) rfl rfl ?_
 conv=>whnf
 repeat' (first|refine dw ?_|((intro _);conv=>whnf)|(refine zX (fun hc=>?_) (fun hc=>?_)<;>(try simp only[SY] at hc)<;>first|omega|(conv=>whnf)))
 all_goals repeat (first|rw[if_neg (by omega)] at hs|rw[if_pos (by omega)] at hs)
 all_goals rw[hs]
 all_goals exact ak.pure wA
def fk (op:Int):Bool:=op == 7 || op == 9
theorem uT (t:aa):aA Tryz.prog 78 [.agg t.cells] (.bool (fk t.op)):=by
 refine af.ah ai Tryz.func78 rfl rfl (n:=11) rfl rfl ?_
 conv=>whnf
 repeat' (first|refine dw ?_|((intro _);conv=>whnf)|(refine zX (fun hc=>?_) (fun hc=>?_)<;>(try simp only[SY] at hc)<;>omega))
 exact ak.pure (Wk.refl _)
def nj (s:Pg) (t:aa):Bool:=
 let want:Int:=if s.binds=true∧t.op≠4 then (t.v.length:Int) + 1 else s.least
 ((t.t.length:Int) == want || (s.any && decide ((t.t.length:Int)≥want))) && (s.binds || (t.v.length:Int) == 0)
theorem NN (s:Pg) (t:aa) (hv:t.v.length≤1000000000):aA Tryz.prog 76 [.agg s.cells,.agg t.cells] (.bool (nj s t)):=by
 refine af.ah ai Tryz.func76 rfl rfl (n:=45) rfl rfl ?_
 conv=>whnf
 repeat' (first|refine dw ?_|((intro _);conv=>whnf)|(refine zX (fun hc=>?_) (fun hc=>?_)<;>(try simp only[SY] at hc)<;>(conv=>whnf)))
 ·rw[show nj s t=(((t.t.length:Int) == (t.v.length:Int) + 1 || (s.any && decide ((t.t.length:Int)≥(t.v.length:Int) + 1))) && (s.binds || (t.v.length:Int) == 0)) by unfold nj;rw[if_pos hc]]
  exact ak.pure (Wk.refl _)
 ·rw[show nj s t=(((t.t.length:Int) == s.least || (s.any && decide ((t.t.length:Int)≥s.least))) && (s.binds || (t.v.length:Int) == 0)) by
   unfold nj;rw[if_neg (by rcases hc with hc | hc<;>simp[hc])]]
  exact ak.pure (Wk.refl _)
theorem CC (b:Nat) (t:aa) (w:Int):af Tryz.prog 137 [.agg t.cells,.ptr b 0] [.box b [.int .i64 w]] (fun y Γ'=>y=.bool (t.op !=w)∧Γ'= [.box b [.int .i64 w]]):=by
 refine af.ah ai Tryz.func137 rfl rfl (n:=8) rfl rfl ?_
 conv=>whnf
 repeat' (first|refine dw ?_|((intro _);conv=>whnf)|(refine zX (fun hc=>?_) (fun hc=>?_)<;>(try simp only[SY] at hc)<;>omega))
 exact ak.gen (Wk.refl _) ⟨rfl,rfl⟩
def jq (level:Int) (l:List aa):Bool:=!l.any (fun t=>t.op !=if level=3 then 19 else 4)
abbrev vv (level consts codes size:Int) (frees:Bool) (rb:Nat):List PV:= [.int .i64 level,.int .i64 consts,.int .i64 codes,.bool frees,.int .i64 size,.mp rb]
theorem FQ (c rb:Nat) (level consts codes size:Int) (frees:Bool) (l:List aa):af Tryz.prog 83 [.ptr c 0,.sl 4 (l.map aa.pv) none] [.box c (vv level consts codes size frees rb)] (fun y Γ'=>y=.bool (jq level l)∧Γ'= [.box c (vv level consts codes size frees rb)]):=by
 refine af.ah ai Tryz.func83 rfl rfl (n:=15) rfl rfl ?_
 conv=>whnf
 repeat' (first|refine dw ?_|((intro _);conv=>whnf)|(refine zX (fun hc=>?_) (fun hc=>?_)<;>(try simp only[SY] at hc)<;>(conv=>whnf)))
 all_goals rename_i b2
 ·refine av.go (kE 137 [.ptr b2 0] [.box b2 [.int .i64 19]] (fun t=>t.op !=19) l (fun x _=>CC b2 x 19)) (aX.refl _) ?_
  rintro _ _ ⟨rfl,rfl⟩
  conv=>whnf
  skip
  exact ak.gen (Wk.bool (by simp[jq,hc])) ⟨rfl,rfl⟩
 ·refine av.go (kE 137 [.ptr b2 0] [.box b2 [.int .i64 4]] (fun t=>t.op !=4) l (fun x _=>CC b2 x 4)) (aX.refl _) ?_
  rintro _ _ ⟨rfl,rfl⟩
  conv=>whnf
  skip
  exact ak.gen (Wk.bool (by simp[jq,hc])) ⟨rfl,rfl⟩
structure Da where
 name:List UInt8
 least:Int
 most:Int
 pure:Bool
 PA:Bool
abbrev Da.cells (f:Da):List PV:= [.str f.name,.int .i64 f.least,.int .i64 f.most,.bool f.pure,.bool f.PA]
def Da.none:Da:=⟨[],0,0,false,false⟩
def facts:List Da:= [⟨[43],0, -1,true,true⟩,⟨[45],1, -1,true,true⟩,⟨[42],0, -1,true,true⟩,⟨[47],1, -1,true,true⟩,⟨[61],2,2,true,true⟩,⟨[60],2,2,true,true⟩,
 ⟨[101,113,63],2,2,true,true⟩,⟨[101,113,117,97,108,63],2,2,true,true⟩,⟨[110,111,116],1,1,true,true⟩,⟨[110,117,108,108,63],1,1,true,true⟩,⟨[112,97,105,114,63],1,1,true,true⟩,
 ⟨[110,117,109,98,101,114,63],1,1,true,true⟩,⟨[115,121,109,98,111,108,63],1,1,true,true⟩,⟨[98,111,111,108,101,97,110,63],1,1,true,true⟩,⟨[115,116,114,105,110,103,63],1,1,true,true⟩,
 ⟨[118,101,99,116,111,114,63],1,1,true,true⟩,⟨[112,114,111,99,101,100,117,114,101,63],1,1,true,true⟩,⟨[99,111,110,115],2,2,true,false⟩,⟨[99,97,114],1,1,true,true⟩,⟨[99,100,114],1,1,true,true⟩,
 ⟨[108,105,115,116],0, -1,true,false⟩,⟨[118,101,99,116,111,114],0, -1,true,false⟩,⟨[118,101,99,116,111,114,45,114,101,102],2,2,true,true⟩,⟨[118,101,99,116,111,114,45,108,101,110,103,116,104],1,1,true,true⟩,
 ⟨[108,101,110,103,116,104],1,1,true,true⟩,⟨[118,111,105,100],0,0,true,true⟩,⟨[100,105,115,112,108,97,121],1,1,false,false⟩,⟨[110,101,119,108,105,110,101],0,0,false,false⟩,
 ⟨[114,97,105,115,101],1,1,false,false⟩,⟨[99,97,108,108,47,99,99],1,1,false,false⟩,⟨[97,112,112,108,121],2,2,false,false⟩]
theorem MM:aA Tryz.prog 177 [] (.agg (facts.flatMap Da.cells)):=by
 refine af.ah ai Tryz.func177 rfl rfl (n:=33) rfl rfl ?_
 conv=>whnf
 repeat (((intro _);conv=>whnf))
 refine Bg.lit rfl ?_
 conv=>whnf
 repeat (refine mj ?_)
 exact ak.pure (Wk.refl _)
def gu (n:Int):Da:=if 0≤n∧n < 31 then facts.getD n.toNat Da.none else Da.none
theorem ya {α:Type} {c:α→List PV} {s:Nat} (hc: ∀ x,(c x).length=s): ∀ (l:List α) (m:Nat) (h:m < l.length),((l.flatMap c).drop (m * s)).take s=c l[m]
 | x::l,0,_=>by
  simp only[Nat.zero_mul,List.drop_zero,List.flatMap_cons,List.getElem_cons_zero];rw[←hc x,List.take_left]
 | x::l,m + 1,h=>by
  have:=ya hc l m (by simpa using h);rw[Nat.succ_mul,Nat.add_comm,List.flatMap_cons]
  conv=>lhs;rw[←hc x]
  rw[List.drop_length_add_append,hc x];simpa using this
theorem BT {α:Type} {c:α→List PV} {s:Nat} (hc: ∀ x,(c x).length=s): ∀ (l:List α),(l.flatMap c).length=l.length * s
 | []=>by simp
 | x::l=>by rw[List.flatMap_cons,List.length_append,hc,BT hc l,List.length_cons,Nat.succ_mul,Nat.add_comm]
theorem ko.flat {α:Type} {c:α→List PV} {l:List α} {n sz:Nat} {k:IntKind} {m:Int} {K:PV→Prop} (hc: ∀ x,(c x).length=sz) (hn:l.length=n) (h0:0≤m) (h1:m < n) (h:K (.agg (c (l[m.toNat]'(by omega))))):ko n sz true (l.flatMap c) (.int k m) K:=
 ⟨k,m,rfl,h0,h1,by rw[BT hc,hn],.inl ⟨rfl,by rw[ya hc l m.toNat (by omega)];exact h⟩⟩
theorem Lr (n:Int):aA Tryz.prog 135 [.int .i64 n] (.bn [.agg (gu n).cells,.bool (decide (0≤n∧n < 31))]):=by
 refine af.ah ai Tryz.func135 rfl rfl (n:=14) rfl rfl ?_
 conv=>whnf
 repeat' (first|refine dw ?_|((first|refine pC (MM) wR ?_|intro _);conv=>whnf)|(refine zX (fun hc=>?_) (fun hc=>?_)<;>(try simp only[SY] at hc)<;>(conv=>whnf)))
 ·rw[show gu n=Da.none by unfold gu;rw[if_neg (by omega)],show decide (0≤n∧n < 31)=false by simp;omega]
  exact ak.pure wA
 ·have hl:n.toNat < facts.length:=by show n.toNat < 31;omega
  refine ko.flat (fun _=>rfl) rfl (by omega) (by omega) ?_
  conv=>whnf
  repeat (refine mj ?_)
  rw[show decide (0≤n∧n < 31)=true by simp;omega];rw[show gu n=facts[n.toNat] by unfold gu;rw[if_pos (by omega)];simp[List.getD,hl]];exact ak.pure wA
def cy:Nat→Datum→Bool
 | 0,_=>false
 | n + 1,d=>
  if d.kind=2 then !sN d.s else
  let l:=d.ax.1
  if ej d=false∨l= [] then false else
  let h:=l.getD 0 aK
  if h.kind=2∧sN h.s=true then
   if h.s=eV then l.length == 2 else
   if h.s=sO then l.length == 4 && (l.drop 1).all (cy n) else
   if h.s=dx then l.length == 3 && hU (l.getD 1 aK) && (l.drop 2).all (cy n) else
   if h.s=nB then l.length == 3 && EK (l.getD 1 aK) && (l.drop 2).all (cy n) else
   if h.s=iU then decide (2≤l.length) && (l.drop 1).all (cy n) else
   if h.s=ia∨h.s=cx then
    if l.length≠3 then false else match dJ (l.getD 1 aK) with
     | none=>false
     | some b=>jr (b.map Prod.fst) [] && (b.map Prod.snd++ [l.getD 2 aK]).all (cy n)
   else false
  else l.all (cy n)
def BG (d:Datum):Bool:=d.bS 0 && cy d.sz d
structure l8 where
 cs:List Datum
 vars:Int
 lost:Bool
abbrev Nt:=aa×l8
abbrev Env:=List (List UInt8×Int)
def nq:Env→List UInt8→Option Int
 | [],_=>none
 | (x,n)::e,s=>if x=s then some n else nq e s
def gV:Env→Int→List (List UInt8)→Env
 | e,_, []=>e
 | e,n,x::l=>gV ((x,n)::e) (n + 1) l
def uJ (n:Int) (k:Nat):List Int:=(List.range k).map fun (i:Nat)=>n + i
def dX (tm:Datum→Env→l8→Nt):List Datum→Env→l8→List aa×l8
 | [],_,s=>([],s)
 | x::l,e,s=>let a:=tm x e s;let r:=dX tm l e a.2;(a.1::r.1,r.2)
def s6 (s:List UInt8):Option Int:=let i:=idxN (if s=PF then [101,113,63] else s) facts;if i < facts.length then some i else none
where idxN (s:List UInt8):List Da→Nat
 | []=>0
 | f::l=>if f.name=s then 0 else idxN s l + 1
def TF (nf:Int):Nat→Datum→Env→l8→Nt
 | 0,_,_,s=>(.mk 0 0 [] [],s)
 | n + 1,d,e,s=>
  if d.kind=2 then match nq e d.s with
   | some v=>(.mk 1 v [] [],s)
   | none=>match s6 d.s with
    | some p=>(.mk 11 p [] [],s)
    | none=>(.mk 11 0 [] [],⟨s.cs,s.vars,true⟩)
  else
  let l:=d.ax.1
  let h:=l.getD 0 aK
  if h.kind=2∧sN h.s=true then
   if h.s=eV then (.mk 0 s.cs.length [] [],⟨s.cs++ [l.getD 1 aK],s.vars,s.lost⟩) else
   if h.s=sO then let r:=dX (TF nf n) (l.drop 1) e s;(.mk 3 0 [] r.1,r.2) else
   if h.s=iU then let r:=dX (TF nf n) (l.drop 1) e s;(.mk 6 0 [] r.1,r.2) else
   if h.s=dx then
    let f:=eP (l.getD 1 aK)
    let r:=dX (TF nf n) (l.drop 2) (gV e s.vars (f.map Datum.s)) ⟨s.cs,s.vars + f.length,s.lost⟩
    (.mk 4 (if (l.getD 1 aK).ax.2.kind=4 then 0 else 1) (uJ s.vars f.length) r.1,r.2)
   else
   if h.s=ia∨h.s=cx then
    let b:=(dJ (l.getD 1 aK)).getD []
    let r:=dX (TF nf n) (b.map Prod.snd++ [l.getD 2 aK]) (gV e s.vars (b.map fun p=>p.1.s)) ⟨s.cs,s.vars + b.length,s.lost⟩
    (.mk 7 (if h.s=cx then 1 else 0) (uJ s.vars b.length) r.1,r.2)
   else
   if h.s=nB then match nq e (l.getD 1 aK).s with
    | some v=>let r:=dX (TF nf n) (l.drop 2) e s;(.mk 2 v [] r.1,r.2)
    | none=>let r:=dX (TF nf n) (l.drop 2) e ⟨s.cs,s.vars,true⟩;(.mk 2 nf [] r.1,r.2)
   else let r:=dX (TF nf n) l e s;(.mk 5 0 [] r.1,r.2)
  else let r:=dX (TF nf n) l e s;(.mk 5 0 [] r.1,r.2)
theorem Datum.J9 (d:Datum):d.pr=((d.kind !=6 || d.l.length == 2) && Datum.Ni d.l):=by cases d;rfl
theorem Datum.FR: ∀ {l:List Datum},Datum.Ni l=true↔ ∀ x∈l,x.pr=true
 | []=>by simp[Datum.Ni]
 | x::l=>by rw[Datum.Ni,Bool.and_eq_true,Datum.FR];simp
theorem Datum.s5 {d:Datum} (h:d.pr=true) (h6:d.kind=6):d.l.length=2:=by
 rw[Datum.J9,Bool.and_eq_true] at h;have:=h.1;rw[h6] at this;simpa using this
theorem Datum.sZ {d x:Datum} (h:d.pr=true) (hx:x∈d.l):x.pr=true:=by
 rw[Datum.J9,Bool.and_eq_true] at h;exact Datum.FR.1 h.2 x hx
theorem Datum.dM (d:Datum):1≤d.sz:=by rw[Datum.Nl];omega
theorem Datum.eX: ∀ {l:List Datum} {x:Datum},x∈l→x.sz≤Datum.eM l
 | y::l,x,h=>by
  rw[Datum.eM];rcases List.mem_cons.1 h with h | h
  ·subst h;omega
  ·have:=Datum.eX h;omega
theorem Datum.mP: ∀ (l m:List Datum),Datum.eM (l++m)=Datum.eM l + Datum.eM m
 | [],m=>by simp[Datum.eM]
 | x::l,m=>by rw[List.cons_append,Datum.eM,Datum.eM,Datum.mP l m];omega
theorem Datum.mQ: ∀ (l:List Datum),l.length≤Datum.eM l
 | []=>by simp
 | x::l=>by have:=Datum.mQ l;have:=x.dM;rw[List.length_cons,Datum.eM];omega
theorem Datum.n5 (l:List Datum) (n:Nat):Datum.eM (l.drop n)≤Datum.eM l:=by
 have:=Datum.mP (l.take n) (l.drop n);rw[List.take_append_drop] at this;omega
theorem OM {α:Type} {l:List α} (h:l.length=2):l= [l[0]'(by omega),l[1]'(by omega)]:=by
 match l,h with
 | [a,b],_=>rfl
theorem Datum.jS (d:Datum) (h6:d.kind=6) (h2:d.l.length=2):d.ax=((d.l[0]'(by omega))::(d.l[1]'(by omega)).ax.1,(d.l[1]'(by omega)).ax.2):=by
 cases d with
 | mk k n dd s l=>
  match l,h2 with
  | [a,b],_=>
   have:k=6:=h6;rw[Datum.ax,if_pos this,Datum.Jz];rfl
theorem Datum.mw (d:Datum) (h6: ¬d.kind=6):d.ax=([],d):=by
 cases d with
 | mk k n dd s l=>
  have: ¬k=6:=h6;rw[Datum.ax,if_neg this]
theorem Datum.w9 (d:Datum) (h2:d.l.length=2):d.sz=1 + (d.l[0]'(by omega)).sz + (d.l[1]'(by omega)).sz:=by
 rw[Datum.Nl]
 conv=>lhs;rw[OM h2]
 rw[Datum.eM,Datum.eM,Datum.eM];omega
theorem Datum.Au: ∀ (n:Nat) (d:Datum),d.sz≤n→d.pr=true→d.sz=d.ax.1.length + Datum.eM d.ax.1 + d.ax.2.sz∧(∀ x∈d.ax.1,x.pr=true)∧d.ax.2.pr=true∧ ¬d.ax.2.kind=6
 | 0,d,h,_=>by have:=d.dM;omega
 | n + 1,d,h,hp=>by
  by_cases h6:d.kind=6
  ·have h2:=Datum.s5 hp h6
   have e:=d.jS h6 h2;have s:=d.w9 h2;have hm0:d.l[0]'(by omega)∈d.l:=List.getElem_mem _;have hm1:d.l[1]'(by omega)∈d.l:=List.getElem_mem _;have hs0:=(d.l[0]'(by omega)).dM;have ih:=Datum.Au n (d.l[1]'(by omega)) (by omega) (Datum.sZ hp hm1);rw[e];dsimp only;refine ⟨?_,?_,ih.2.2.1,ih.2.2.2⟩
   ·rw[List.length_cons,Datum.eM];omega
   ·intro x hx
    rcases List.mem_cons.1 hx with hx | hx
    ·subst hx;exact Datum.sZ hp hm0
    ·exact ih.2.1 x hx
  ·rw[d.mw h6]
   exact ⟨by simp[Datum.eM],by simp,hp,h6⟩
theorem Datum.kX {d x:Datum} (hp:d.pr=true) (hx:x∈d.ax.1):x.sz + 2≤d.sz∧x.pr=true:=by
 obtain ⟨h1,h2,_,_⟩:=Datum.Au d.sz d (Nat.le_refl _) hp;have h3:=Datum.eX hx;have h4:=d.ax.2.dM;have h5:0 < d.ax.1.length:=List.length_pos_of_mem hx;exact ⟨by omega,h2 x hx⟩
theorem Datum.mz {d:Datum} (hp:d.pr=true):Datum.eM d.ax.1 + d.ax.1.length + 1≤d.sz:=by
 obtain ⟨h1,_,_,_⟩:=Datum.Au d.sz d (Nat.le_refl _) hp;have h4:=d.ax.2.dM;omega
theorem gW {l:List Datum} {i:Nat} (h:i < l.length):l.getD i aK∈l:=by simp[List.getD,h]
theorem aO {l:List Datum} {i:Nat} (h:i < l.length):l.getD i aK=l[i]:=by simp[List.getD,h]
theorem o5: ∀ {l:List Datum} {b:List (Datum×Datum)},dh l=some b→b.length=l.length
 | [],b,h=>by rw[dh] at h;cases h;rfl
 | x::xs,b,h=>by
  rw[dh] at h
  split at h
  ·cases hb:dh xs with
   | none=>rw[hb] at h;cases h
   | some b'=>
    rw[hb] at h;cases h;rw[List.length_cons,List.length_cons,o5 hb]
  ·cases h
theorem ML {l:List Datum} (h:l.length=2):Datum.eM l=(l.getD 0 aK).sz + (l.getD 1 aK).sz:=by
 match l,h with
 | [a,b],_=>simp[Datum.eM]
theorem xM: ∀ {l:List Datum} {b:List (Datum×Datum)},(∀ x∈l,x.pr=true)→dh l=some b→Datum.eM (b.map Prod.fst) + Datum.eM (b.map Prod.snd) + 3 * b.length≤Datum.eM l∧(∀ p∈b,p.1.pr=true∧p.2.pr=true)
 | [],b,_,h=>by rw[dh] at h;cases h;simp[Datum.eM]
 | x::xs,b,hp,h=>by
  rw[dh] at h
  split at h
  ·rename_i hc
   cases hb:dh xs with
   | none=>rw[hb] at h;cases h
   | some b'=>
    rw[hb] at h;cases h;have ih:=xM (fun y hy=>hp y (by simp[hy])) hb;have hx:=hp x (by simp);have h1:=Datum.mz hx;have h2:=ML hc.2;simp only[List.map_cons,Datum.eM,List.length_cons];refine ⟨by omega,?_⟩;intro p hp';rcases List.mem_cons.1 hp' with rfl | hp'
    ·exact ⟨(Datum.kX hx (gW (i:=0) (by rw[hc.2];omega))).2,(Datum.kX hx (gW (i:=1) (by rw[hc.2];omega))).2⟩
    ·exact ih.2 p hp'
  ·cases h
theorem jF {d:Datum} {b:List (Datum×Datum)} (hp:d.pr=true) (h:dJ d=some b):Datum.eM (b.map Prod.fst) + Datum.eM (b.map Prod.snd) + 4 * b.length + 1≤d.sz∧(∀ p∈b,p.1.pr=true∧p.2.pr=true):=by
 unfold dJ at h
 split at h
 ·have h1:=xM (fun x hx=>(Datum.kX hp hx).2) h
  have h2:=o5 h;have h3:=Datum.mz hp;exact ⟨by omega,h1.2⟩
 ·cases h
theorem pF (s:List UInt8):aA Tryz.prog 120 [.str s] (.bool (sN s)):=by
 refine af.ah ai Tryz.func120 rfl rfl (n:=24) rfl rfl ?_
 conv=>whnf
 repeat' (first|refine aS ?_|(refine zX (fun hc=>?_) (fun hc=>?_)<;>(try simp only[SY] at hc)<;>(conv=>whnf)))
 all_goals first
  | contradiction
  | (subst hc;exact ak.pure (Wk.tt rfl))
  | exact ak.pure (Wk.ff (by simp[sN,Nc,eV,sO,dx,nB,iU,ia,cx,wg,Nf,JF,JD,JC,Nd,PG,JG,Cf,PE,JE,PI, *]))
theorem K7 (d:Datum):aA Tryz.prog 167 [.agg d.cells] (.bool (EK d)):=by
 refine af.ah ai Tryz.func167 rfl rfl (n:=12) rfl rfl ?_
 conv=>whnf
 repeat' (first|refine aS ?_|((first|(((apply zY;intro hg));(conv=>whnf);(repeat ((first|refine pC (pF _) wR ?_|refine aH ?_);conv=>whnf));exact pZ)|intro _);conv=>whnf)|(refine zX (fun hc=>?_) (fun hc=>?_)<;>(try simp only[SY] at hc)<;>omega))
 exact ak.pure (Wk.refl _)
theorem GQ {p q:Prop} (k:q) (h:q→p:=by intro hq;first | exact aC.sP (some 19) rfl [] [] ai mixed hq):p:=h k
theorem lK (d:Datum) (hp:d.pr=true) (hs:d.sz≤1000000000):aA Tryz.prog 107 [.agg d.cells] (.bn [.sl 5 (d.ax.1.map Datum.pv) none,.bool (ej d)]):=by
 refine af.ah ai Tryz.func107 rfl rfl (n:=23) rfl rfl ?_
 conv=>whnf
 repeat (((intro _);conv=>whnf))
 rename_i b1;refine aq.gh (au.nil 5 55 _) ?_
 refine aq.over [4,5,6,7,8,9,10,11,12,13,14,15,16,17,18] (fun x:Datum×List Datum×Tok=> [(4,.sl 5 (x.2.1.map Datum.pv) (some x.2.2))]) (fun x:Datum×List Datum×Tok=> [.box b1 (lG x.1),.tok x.2.2])
  (fun x=>x.1.pr=true∧x.1.sz + x.2.1.length≤d.sz∧x.2.2.e=55∧x.2.1++x.1.ax.1=d.ax.1∧x.1.ax.2=d.ax.2) (fun x=>x.1.sz) (d, [],ay 5 55) ⟨hp,by simp,rfl,rfl,rfl⟩ wA ?_
 rintro ⟨D,m,t1⟩ ⟨hD,hm,ht,h1,h2⟩;dsimp only at hD hm ht h1 h2 ⊢;have hlen:=fun h=>Datum.s5 hD h;have hpos:=D.dM
 conv=>whnf
 repeat' (first|refine aS ?_|((first|refine GQ ?_|intro _);conv=>whnf)|(refine zX (fun hc=>?_) (fun hc=>?_)<;>(try simp only[SY] at hc)<;>(conv=>whnf)))
 ·rename_i ta tb htb
  have h3:=hlen hc;have e:=D.jS hc h3;have hz:=D.w9 h3;have hp0:=(D.l[0]'(by omega)).dM;rw[e] at h1 h2;exact an (D.l[1]'(by omega),m++ [D.l[0]'(by omega)],tb) ⟨Datum.sZ hD (List.getElem_mem _),by simp;omega,htb,by dsimp only;rw[List.append_assoc];exact h1,h2⟩ (by show (D.l[1]'(by omega)).sz < D.sz;omega) wA
 ·have e:=D.mw hc
  rw[e] at h1 h2;rw[List.append_nil] at h1;have h2':D=d.ax.2:=h2;rw[show ej d=(D.kind == 4) by rw[h2'];rfl, ←h1];exact ak.pure (Wk.bn (.cons (Wk.tok _ _ _) (.cons (Wk.refl _) .nil)))
theorem LJ {l:List Datum} {i k:Nat} (hk:k < i) (hi:i < l.length) (h:l[k].s=l[i].s):((l.take i).map Datum.s).contains l[i].s=true:=by
 rw[List.contains_iff_mem,List.mem_map];exact ⟨l[k],by rw[List.mem_take_iff_getElem];exact ⟨k,by omega,rfl⟩,h⟩
theorem GS {p q:Prop} (k:q) (h:q→p:=by intro hq;first | exact aC.sP (some 22) rfl [] [] ai mixed hq):p:=h k
theorem fD (l:List Datum) (hl:l.length≤1000000000):aA Tryz.prog 113 [.sl 5 (l.map Datum.pv) none] (.bool (jr l [])):=by
 refine af.ah ai Tryz.func113 rfl rfl (n:=33) rfl rfl ?_
 conv=>whnf
 skip
 refine aq.keep [2,3,4,5,6,7,8,9,10,11,12,13,14,15,16,17,18,19,20,21,22,23,24,25,26,27,28,29,30,31,32] (fun i:Nat=> [(3,.int .i64 i)]) (fun i=>i≤l.length∧jr (l.drop i) ((l.take i).map Datum.s)=jr l []) (fun i=>l.length - i) 0 ⟨Nat.zero_le _,by simp⟩ wA ?_;rintro i ⟨hi,he⟩
 conv=>whnf
 repeat' (first|refine aS ?_|((first|refine pC (K7 _) wR ?_|intro _);conv=>whnf)|(refine zX (fun hc=>?_) (fun hc=>?_)<;>(try simp only[SY] at hc)<;>(conv=>whnf)))
 ·have hlt:i < l.length:=by omega
  rw[aI hlt,jr,hc,Bool.false_and,Bool.false_and] at he;exact ak.pure (Wk.ff he.symm)
 ·have hlt:i < l.length:=by omega
  have hv:=hc;rw[aI hlt,jr,hc,Bool.true_and] at he;refine aq.keep [2,4,17,18,19,20,21,22,23,24,25,26,27,28,29,30,31,32] (fun k:Nat=> [(4,.int .i64 k)]) (fun k=>k≤i∧ ∀ j,(h:j < k)→(h2:j < l.length)→ ¬l[j].s=l[i].s) (fun k=>i - k) 0 ⟨Nat.zero_le _,fun j h=>by omega⟩ wA ?_;rintro k ⟨hk,hn⟩
  conv=>whnf
  repeat' (first|refine aS ?_|((refine GS ?_);conv=>whnf)|(refine zX (fun hc=>?_) (fun hc=>?_)<;>(try simp only[SY] at hc)<;>(conv=>whnf)))
  ·rw[LJ (k:=k) (by omega) hlt hc,Bool.not_true,Bool.false_and] at he
   exact ak.pure (Wk.ff he.symm)
  ·refine an (k + 1) ⟨by omega,fun j h h2=>?_⟩ (by omega) wA
   rcases Nat.lt_or_ge j k with h3 | h3
   ·exact hn j h3 h2
   ·obtain rfl:j=k:=by omega
    exact hc
  ·have hf:((l.take i).map Datum.s).contains l[i].s=false:=by
    rw[←Bool.not_eq_true,List.contains_iff_mem,List.mem_map];rintro ⟨x,hx,hs⟩;rw[List.mem_take_iff_getElem] at hx;obtain ⟨j,hj,rfl⟩:=hx;exact hn j (by omega) (by omega) hs
   rw[hf,Bool.not_false,Bool.true_and] at he;exact an (i + 1) ⟨by omega,by rw[←he,List.take_succ_eq_append_getElem hlt,List.map_append];rfl⟩ (by omega) wA
 ·rw[List.drop_of_length_le (by omega),jr] at he
  exact ak.pure (Wk.tt he.symm)
theorem ua (d:Datum) (hp:d.pr=true) (hs:d.sz≤1000000000):aA Tryz.prog 109 [.agg d.cells] (.bool (hU d)):=by
 refine af.ah ai Tryz.func109 rfl rfl (n:=27) rfl rfl ?_
 conv=>whnf
 repeat (((intro _);conv=>whnf))
 rename_i b1;refine aq.gh (au.nil 5 55 _) ?_
 refine aq.over [3,4,5,6,7,8,9,10,11,12,13,14,15,16,17] (fun x:Datum×List Datum×Tok=> [(3,.sl 5 (x.2.1.map Datum.pv) (some x.2.2))]) (fun x:Datum×List Datum×Tok=> [.box b1 (lG x.1),.tok x.2.2])
  (fun x=>x.1.pr=true∧x.1.sz + x.2.1.length≤d.sz∧x.2.2.e=55∧x.2.1++x.1.ax.1=d.ax.1∧x.1.ax.2=d.ax.2) (fun x=>x.1.sz) (d, [],ay 5 55) ⟨hp,by simp,rfl,rfl,rfl⟩ wA ?_
 rintro ⟨D,m,t1⟩ ⟨hD,hm,ht,h1,h2⟩;dsimp only at hD hm ht h1 h2 ⊢;have hlen:=fun h=>Datum.s5 hD h;have hpos:=D.dM
 conv=>whnf
 repeat' (first|refine aS ?_|((intro _);conv=>whnf)|(refine zX (fun hc=>?_) (fun hc=>?_)<;>(try simp only[SY] at hc)<;>(conv=>whnf)))
 ·rename_i ta tb htb
  have h3:=hlen hc;have e:=D.jS hc h3;have hz:=D.w9 h3;have hp0:=(D.l[0]'(by omega)).dM;rw[e] at h1 h2;exact an (D.l[1]'(by omega),m++ [D.l[0]'(by omega)],tb) ⟨Datum.sZ hD (List.getElem_mem _),by simp;omega,htb,by dsimp only;rw[List.append_assoc];exact h1,h2⟩ (by show (D.l[1]'(by omega)).sz < D.sz;omega) wA
 all_goals
  have e:=D.mw (by assumption);rw[e] at h1 h2;rw[List.append_nil] at h1;have h2':D=d.ax.2:=h2;have hF:hU d=jr (m++if D.kind=4 then [] else [D]) []:=by unfold hU eP;rw[h1,h2']
 ·rw[if_neg (by assumption)] at hF
  refine pC (fD (m++ [D]) (by simp;omega)) (.cons (Wk.tok _ _ _) .nil) ?_
  conv=>whnf
  skip
  exact ak.pure (Wk.eq (by rw[hF]))
 ·rw[if_pos (by assumption),List.append_nil] at hF
  refine pC (fD m (by omega)) (.cons (Wk.tok _ _ _) .nil) ?_
  conv=>whnf
  skip
  exact ak.pure (Wk.eq (by rw[hF]))
def O6 (o:Option (List (Datum×Datum))) (y:PV) (Γ':List aj):Prop:=match o with
 | some b=> ∃ tk:Tok,tk.e=55∧y=.bn [.sl 5 ((b.map Prod.fst).map Datum.pv) none,.sl 5 ((b.map Prod.snd).map Datum.pv) (some tk),.bool true]∧Γ'= [.tok tk]
 | none=>y=.bn [.sl 5 [] none,.sl 5 [] none,.bool false]∧Γ'= []
theorem mm (d:Datum) (hp:d.pr=true) (hs:d.sz≤1000000000):af Tryz.prog 168 [.agg d.cells] [] (O6 (dJ d)):=by
 have hX: ∀ x∈d.ax.1,x.pr=true∧x.sz≤1000000000:=fun x hx=>by have:=Datum.kX hp hx;exact ⟨this.2,by omega⟩
 have hLs:=Datum.mz hp;have hLl:=Datum.mQ d.ax.1;have hD:dJ d=if ej d=true then dh d.ax.1 else none:=rfl
 refine af.ah ai Tryz.func168 rfl rfl (n:=54) rfl rfl ?_
 conv=>whnf
 repeat (first|refine qF ?_|((first|refine pC (lK d hp hs) wR ?_|intro _);conv=>whnf))
 generalize d.ax.1=L at *
 conv=>whnf
 repeat' ((refine zX (fun hc=>?_) (fun hc=>?_)<;>(try simp only[SY] at hc)<;>(conv=>whnf)))
 ·rw[hc,if_neg (by simp)] at hD
  rw[hD];exact ak.gen (y:=.bn [.sl 5 [] none,.sl 5 [] none,.bool false]) (Γ':= []) (Wk.bn (.cons (Wk.eu rfl) (.cons (Wk.eu rfl) (.cons (Wk.ff rfl) .nil)))) (And.intro rfl rfl)
 ·rw[if_pos hc] at hD
  refine aq.gh (au.trans (au.nil 5 55 _) (au.nil 5 55 _)) ?_
  refine aq.over [2,3,4,7,8,9,10,11,19,20,21,22,23,24,25,26,27,28,29,30,31,32,33,34,35,36,37,38,39,40,41,42,43,44,45,46,47,48,49,50,51] (fun x:Nat×List (Datum×Datum)×Tok×Tok=> [(7,.sl 5 ((x.2.1.map Prod.fst).map Datum.pv) (some x.2.2.1)),(8,.sl 5 ((x.2.1.map Prod.snd).map Datum.pv) (some x.2.2.2)),(9,.int .i64 x.1)]) (fun x:Nat×List (Datum×Datum)×Tok×Tok=> [.tok x.2.2.1,.tok x.2.2.2])
   (fun x=>x.1≤L.length∧x.2.1.length=x.1∧x.2.2.1.e=55∧x.2.2.2.e=55∧dh L=(dh (L.drop x.1)).map (x.2.1++ ·)) (fun x=>L.length - x.1) (0, [],ay 5 55,ay 5 55) ⟨Nat.zero_le _,rfl,rfl,rfl,by simp⟩ wA ?_
  rintro ⟨i,acc,t1,t2⟩ ⟨hi,hal,ht1,ht2,he⟩;dsimp only at hi hal ht1 ht2 he ⊢;have hl1:(acc.map Prod.fst).length=i:=by rw[List.length_map,hal]
  have hl2:(acc.map Prod.snd).length=i:=by rw[List.length_map,hal]
  conv=>whnf
  repeat' (first|refine aS ?_|((first|refine pC (lK _ (hX _ (List.getElem_mem _)).1 (hX _ (List.getElem_mem _)).2) wR ?_|intro _);conv=>whnf)|(refine zX (fun hc=>?_) (fun hc=>?_)<;>(try simp only[SY] at hc)<;>(conv=>whnf)))
  ·have hlt:i < L.length:=by omega
   have hn:dh (L.drop i)=none:=by
    rw[aI hlt,dh,if_neg];rintro ⟨h1,h2⟩;rcases hc with h | h
    ·rw[h1] at h;cases h
    ·omega
   rw[hD,he,hn];exact ak.gen (y:=.bn [.sl 5 [] none,.sl 5 [] none,.bool false]) (Γ':= []) (Wk.bn (.cons (Wk.eu rfl) (.cons (Wk.eu rfl) (.cons (Wk.ff rfl) .nil)))) (And.intro rfl rfl)
  ·rename_i ta hta tx ty td htd
   have hlt:i < L.length:=by omega
   have h2:L[i].ax.1.length=2:=by omega
   have hs1:dh (L.drop i)=(dh (L.drop (i + 1))).map ((L[i].ax.1.getD 0 aK,L[i].ax.1.getD 1 aK):: ·):=by
    rw[aI hlt,dh,if_pos ⟨hc.1,h2⟩]
   have e1:acc.map Prod.fst++ [L[i].ax.1[0]'(by omega)]=(acc++ [(L[i].ax.1.getD 0 aK,L[i].ax.1.getD 1 aK)]).map Prod.fst:=by simp[aO,h2]
   have e2:acc.map Prod.snd++ [L[i].ax.1[1]'(by omega)]=(acc++ [(L[i].ax.1.getD 0 aK,L[i].ax.1.getD 1 aK)]).map Prod.snd:=by simp[aO,h2]
   rw[e1,e2];refine an (i + 1,acc++ [(L[i].ax.1.getD 0 aK,L[i].ax.1.getD 1 aK)],ta,td) ⟨by show i + 1≤_;omega,by simp;omega,hta,htd,?_⟩ (by show L.length - (i + 1) < L.length - i;omega) wA;rw[he,hs1];dsimp only;cases dh (L.drop (i + 1))<;>simp
  ·rw[List.drop_of_length_le (by omega),dh] at he
   rw[hD,he];refine ak.gen (y:=.bn [.sl 5 ((acc.map Prod.fst).map Datum.pv) none,.sl 5 ((acc.map Prod.snd).map Datum.pv) (some t2),.bool true]) (Γ':= [.tok t2]) (Wk.bn (.cons (Wk.tok _ _ _) (.cons (Wk.refl _) (.cons (Wk.tt rfl) .nil)))) ?_;show O6 (some (acc++ [])) _ _;rw[List.append_nil];exact ⟨t2,ht2,rfl,rfl⟩
theorem NJ {L:List Datum} {n:Nat} (h: ∀ x∈L,x.pr=true∧x.sz≤n) (h1:1≤n) (i:Nat):(L.getD i (xD.d:Datum)).pr=true∧(L.getD i (xD.d:Datum)).sz≤n:=by
 by_cases hi:i < L.length
 ·have:L.getD i (xD.d:Datum)=L[i]:=by simp[List.getD,hi]
  rw[this];exact h _ (List.getElem_mem hi)
 ·have:L.getD i (xD.d:Datum)=(xD.d:Datum):=by simp[List.getD,hi]
  rw[this];exact ⟨rfl,h1⟩
theorem Bo {L:List Datum} (F:Datum→Bool) (a b:Datum):(L.length == 3 && F (L.getD 1 a))=(L.length == 3 && F (L.getD 1 b)):=by
 by_cases h:L.length=3
 ·have h1:1 < L.length:=by omega
  rw[show L.getD 1 a=L.getD 1 b by simp[List.getD,h1]]
 ·rw[show (L.length == 3)=false by simpa using h];rfl
theorem I3 (n:Nat) (hn:n≤1000000000): ∀ d:Datum,d.sz≤n→d.pr=true→aA Tryz.prog 116 [.agg d.cells] (.bool (cy n d)):=by
 induction n with
 | zero=>intro d h;have:=d.dM;omega
 | succ n ih=>
  intro d hs hp;have hX: ∀ x∈d.ax.1,x.pr=true∧x.sz≤n:=fun x hx=>by have:=Datum.kX hp hx;exact ⟨this.2,by omega⟩
  have hX9: ∀ x∈d.ax.1,x.pr=true∧x.sz≤1000000000:=fun x hx=>⟨(hX x hx).1,by have:=(hX x hx).2;omega⟩
  have hXd:=NJ hX9 (by omega);have hLs:=Datum.mz hp;have hLl:=Datum.mQ d.ax.1;have hC:cy (n + 1) d=cy (n + 1) d:=rfl
  conv at hC=>rhs;rw[cy];dsimp only
  unfold eV sO dx nB iU ia cx at hC;have hI:=lK d hp (by omega);have hbe: ∀ k:Nat,((d.ax.1.length:Int) == (k:Int))=(d.ax.1.length == k):=fun k=>by rw[Bool.eq_iff_iff];simp;omega
  have ih':=fun x (h:x∈d.ax.1)=>ih (by omega) x (hX x h).2 (hX x h).1;generalize d.ax.1=L at *;refine af.ah ai Tryz.func116 rfl rfl (n:=123) rfl rfl ?_
  conv=>whnf
  repeat (first|refine qF ?_|((intro _);conv=>whnf))
  rename_i b1
  conv=>whnf
  repeat' (first|refine aS ?_|((first|(((apply zY;intro hg));(conv=>whnf);(repeat ((first|refine pC (pF _) wR ?_|refine pC (K7 _) wR ?_|refine pC (ua _ (hXd _).1 (hXd _).2) wR ?_|refine aH ?_);conv=>whnf));exact pZ)|refine pC (pF _) wR ?_|refine pC (hI) wR ?_|intro _);conv=>whnf)|(refine zX (fun hc=>?_) (fun hc=>?_)<;>(try simp only[SY] at hc)<;>(conv=>whnf)))
  all_goals try contradiction
  all_goals try
   have hL0:0 < L.length:=by omega
   have hNL: ¬(ej d=false∨L= []):=by
    rintro (h | h)
    ·have hx:=(‹ej d=true∧ ¬((L.length:Int)=0)›).1
     rw[h] at hx;cases hx
    ·rw[h] at hL0;simp at hL0
   rw[aO hL0] at hC
  all_goals repeat (first|rw[if_neg (by assumption)] at hC|rw[if_pos (by assumption)] at hC)
  ·rw[hC]
   exact ak.pure (Wk.refl _)
  ·have hNL:ej d=false∨L= []:=by
    rcases hc with h | h
    ·exact .inl h
    ·exact .inr (List.eq_nil_of_length_eq_zero (by omega))
   rw[if_pos hNL] at hC;rw[hC];exact ak.pure (Wk.ff rfl)
  ·rw[hC]
   exact ak.pure (Wk.bool (hbe 2))
  ·refine aq.keep [4,10,108,109,110,111,112,113,114,115,116,117,118,119,120,121] (fun x:Nat×Bool=> [(4,.bool x.2),(10,.int .i64 x.1)]) (fun x=>(x.2 && ((L).drop x.1).all (cy n))=cy (n + 1) d) (fun x=>(L).length - x.1) (1,((L.length:Int) == 4)) (by rw[hC, ←hbe];rfl) wA ?_
   rintro ⟨i,ok⟩ he;dsimp only at he⊢
   conv=>whnf
   repeat' (first|refine aS ?_|((refine pC (ih' _ (List.getElem_mem _)) wR ?_);conv=>whnf)|(refine zX (fun hc=>?_) (fun hc=>?_)<;>(try simp only[SY] at hc)<;>(conv=>whnf)))
   ·have hlt:i < (L).length:=by omega
    rw[hc.1,Bool.true_and,aI hlt,List.all_cons] at he;exact an (i + 1,cy n (L)[i]) he (by show (L).length - (i + 1) < (L).length - i;omega) wA
   ·refine ak.pure (Wk.bool ?_)
    rw[←he];rcases hc with h | h
    ·rw[h];rfl
    ·rw[List.drop_of_length_le (by omega)];simp
  ·refine aq.keep [4,10,108,109,110,111,112,113,114,115,116,117,118,119,120,121] (fun x:Nat×Bool=> [(4,.bool x.2),(10,.int .i64 x.1)]) (fun x=>(x.2 && ((L).drop x.1).all (cy n))=cy (n + 1) d) (fun x=>(L).length - x.1) (2,((L.length:Int) == 3 && hU (L.getD 1 xD.d))) (by rw[hC, ←Bo hU (xD.d:Datum) aK, ←hbe];rfl) wA ?_
   rintro ⟨i,ok⟩ he;dsimp only at he⊢
   conv=>whnf
   repeat' (first|refine aS ?_|((refine pC (ih' _ (List.getElem_mem _)) wR ?_);conv=>whnf)|(refine zX (fun hc=>?_) (fun hc=>?_)<;>(try simp only[SY] at hc)<;>(conv=>whnf)))
   ·have hlt:i < (L).length:=by omega
    rw[hc.1,Bool.true_and,aI hlt,List.all_cons] at he;exact an (i + 1,cy n (L)[i]) he (by show (L).length - (i + 1) < (L).length - i;omega) wA
   ·refine ak.pure (Wk.bool ?_)
    rw[←he];rcases hc with h | h
    ·rw[h];rfl
    ·rw[List.drop_of_length_le (by omega)];simp
  ·refine aq.keep [4,10,108,109,110,111,112,113,114,115,116,117,118,119,120,121] (fun x:Nat×Bool=> [(4,.bool x.2),(10,.int .i64 x.1)]) (fun x=>(x.2 && ((L).drop x.1).all (cy n))=cy (n + 1) d) (fun x=>(L).length - x.1) (2,((L.length:Int) == 3 && EK (L.getD 1 xD.d))) (by rw[hC, ←Bo EK (xD.d:Datum) aK, ←hbe];rfl) wA ?_
   rintro ⟨i,ok⟩ he;dsimp only at he⊢
   conv=>whnf
   repeat' (first|refine aS ?_|((refine pC (ih' _ (List.getElem_mem _)) wR ?_);conv=>whnf)|(refine zX (fun hc=>?_) (fun hc=>?_)<;>(try simp only[SY] at hc)<;>(conv=>whnf)))
   ·have hlt:i < (L).length:=by omega
    rw[hc.1,Bool.true_and,aI hlt,List.all_cons] at he;exact an (i + 1,cy n (L)[i]) he (by show (L).length - (i + 1) < (L).length - i;omega) wA
   ·refine ak.pure (Wk.bool ?_)
    rw[←he];rcases hc with h | h
    ·rw[h];rfl
    ·rw[List.drop_of_length_le (by omega)];simp
  ·refine aq.keep [4,10,108,109,110,111,112,113,114,115,116,117,118,119,120,121] (fun x:Nat×Bool=> [(4,.bool x.2),(10,.int .i64 x.1)]) (fun x=>(x.2 && ((L).drop x.1).all (cy n))=cy (n + 1) d) (fun x=>(L).length - x.1) (1,decide ((L.length:Int)≥2)) (by rw[hC];dsimp only;congr 1;rw[decide_eq_decide];omega) wA ?_
   rintro ⟨i,ok⟩ he;dsimp only at he⊢
   conv=>whnf
   repeat' (first|refine aS ?_|((refine pC (ih' _ (List.getElem_mem _)) wR ?_);conv=>whnf)|(refine zX (fun hc=>?_) (fun hc=>?_)<;>(try simp only[SY] at hc)<;>(conv=>whnf)))
   ·have hlt:i < (L).length:=by omega
    rw[hc.1,Bool.true_and,aI hlt,List.all_cons] at he;exact an (i + 1,cy n (L)[i]) he (by show (L).length - (i + 1) < (L).length - i;omega) wA
   ·refine ak.pure (Wk.bool ?_)
    rw[←he];rcases hc with h | h
    ·rw[h];rfl
    ·rw[List.drop_of_length_le (by omega)];simp
  ·rw[if_pos (.inl (by assumption)),if_pos (by omega)] at hC
   rw[hC];exact ak.pure (Wk.ff rfl)
  ·rw[if_pos (.inl (by assumption)),if_neg (by omega),aO (show 1 < L.length by omega),aO (show 2 < L.length by omega)] at hC
   have hm1:L[1]'(by omega)∈L:=List.getElem_mem _;have hb1:=(hX9 _ hm1).2;have hb2:=(hX _ hm1).2;have hit:=(‹ej d=true∧ ¬((L.length:Int)=0)›).1;refine av.go (Γ1:= []) (mm L[1] (hX _ hm1).1 hb1) (aX.refl _) ?_;intro y Γ1 hb
   cases hB:dJ (L[1]'(by omega)) with
   | none=>
    rw[hB] at hb hC;obtain ⟨rfl,rfl⟩:=hb;dsimp only at hC
    conv=>whnf
    repeat' (first|refine aS ?_|(refine zX (fun hc=>?_) (fun hc=>?_)<;>(try simp only[SY] at hc)<;>omega))
    refine e6.ways (fun hg=>by simp at hg) (fun hg=>?_)
    conv=>whnf
    skip
    rw[hC];exact ak.pure (Wk.ff rfl)
   | some b=>
    rw[hB] at hb hC;obtain ⟨tk,htk,rfl,rfl⟩:=hb;dsimp only at hC;obtain ⟨hz,hpp⟩:=jF (hX _ hm1).1 hB;have hl1:(b.map Prod.fst).length≤1000000000:=by rw[List.length_map];omega
    have hl2:(b.map Prod.snd).length≤1000000000:=by rw[List.length_map];omega
    conv=>whnf
    repeat' (first|refine aS ?_|((first|(((apply zY;intro hg));(conv=>whnf);(repeat ((first|refine pC (fD (b.map Prod.fst) hl1) wR ?_|refine aH ?_);conv=>whnf));exact pZ)|intro _);conv=>whnf)|(refine zX (fun hc=>?_) (fun hc=>?_)<;>(try simp only[SY] at hc)<;>(conv=>whnf)))
    ·rw[‹jr (b.map Prod.fst) []=false›, Bool.false_and] at hC
     rw[hC];exact ak.pure (Wk.ff rfl)
    ·rename_i t1 t2 ht2
     rw[hc,Bool.true_and] at hC;have hm2:L[2]'(by omega)∈L:=List.getElem_mem _
     have ihv: ∀ x∈b.map Prod.snd++ [L[2]'(by omega)],aA Tryz.prog 116 [.agg x.cells] (.bool (cy n x)):=by
      intro x hx;rcases List.mem_append.1 hx with hx | hx
      ·have h1:=Datum.eX hx
       obtain ⟨p,hp',rfl⟩:=List.mem_map.1 hx;exact ih (by omega) _ (by omega) (hpp p hp').2
      ·rw[List.mem_singleton] at hx
       rw[hx];exact ih' _ hm2
     have hMl:(b.map Prod.snd++ [L[2]'(by omega)]).length≤2000000000:=by rw[List.length_append,List.length_singleton];omega
     generalize b.map Prod.snd++ [L[2]'(by omega)]=M at *;refine aq.keep [4,10,108,109,110,111,112,113,114,115,116,117,118,119,120,121] (fun x:Nat×Bool=> [(4,.bool x.2),(10,.int .i64 x.1)]) (fun x=>(x.2 && ((M).drop x.1).all (cy n))=cy (n + 1) d) (fun x=>(M).length - x.1) (0,ej d) (by rw[hC,hit];rfl) wA ?_;rintro ⟨i,ok⟩ he;dsimp only at he⊢
     conv=>whnf
     repeat' (first|refine aS ?_|((refine pC (ihv _ (List.getElem_mem _)) wR ?_);conv=>whnf)|(refine zX (fun hc=>?_) (fun hc=>?_)<;>(try simp only[SY] at hc)<;>(conv=>whnf)))
     ·have hlt:i < (M).length:=by omega
      rw[hc.1,Bool.true_and,aI hlt,List.all_cons] at he;exact an (i + 1,cy n (M)[i]) he (by show (M).length - (i + 1) < (M).length - i;omega) wA
     ·refine ak.pure (Wk.bool ?_)
      rw[←he];rcases hc with h | h
      ·rw[h];rfl
      ·rw[List.drop_of_length_le (by omega)];simp
  ·rw[if_pos (.inr (by assumption)),if_pos (by omega)] at hC
   rw[hC];exact ak.pure (Wk.ff rfl)
  ·rw[if_pos (.inr (by assumption)),if_neg (by omega),aO (show 1 < L.length by omega),aO (show 2 < L.length by omega)] at hC
   have hm1:L[1]'(by omega)∈L:=List.getElem_mem _;have hb1:=(hX9 _ hm1).2;have hb2:=(hX _ hm1).2;have hit:=(‹ej d=true∧ ¬((L.length:Int)=0)›).1;refine av.go (Γ1:= []) (mm L[1] (hX _ hm1).1 hb1) (aX.refl _) ?_;intro y Γ1 hb
   cases hB:dJ (L[1]'(by omega)) with
   | none=>
    rw[hB] at hb hC;obtain ⟨rfl,rfl⟩:=hb;dsimp only at hC
    conv=>whnf
    repeat' (first|refine aS ?_|(refine zX (fun hc=>?_) (fun hc=>?_)<;>(try simp only[SY] at hc)<;>omega))
    refine e6.ways (fun hg=>by simp at hg) (fun hg=>?_)
    conv=>whnf
    skip
    rw[hC];exact ak.pure (Wk.ff rfl)
   | some b=>
    rw[hB] at hb hC;obtain ⟨tk,htk,rfl,rfl⟩:=hb;dsimp only at hC;obtain ⟨hz,hpp⟩:=jF (hX _ hm1).1 hB;have hl1:(b.map Prod.fst).length≤1000000000:=by rw[List.length_map];omega
    have hl2:(b.map Prod.snd).length≤1000000000:=by rw[List.length_map];omega
    conv=>whnf
    repeat' (first|refine aS ?_|((first|(((apply zY;intro hg));(conv=>whnf);(repeat ((first|refine pC (fD (b.map Prod.fst) hl1) wR ?_|refine aH ?_);conv=>whnf));exact pZ)|intro _);conv=>whnf)|(refine zX (fun hc=>?_) (fun hc=>?_)<;>(try simp only[SY] at hc)<;>(conv=>whnf)))
    ·rw[‹jr (b.map Prod.fst) []=false›, Bool.false_and] at hC
     rw[hC];exact ak.pure (Wk.ff rfl)
    ·rename_i t1 t2 ht2
     rw[hc,Bool.true_and] at hC;have hm2:L[2]'(by omega)∈L:=List.getElem_mem _
     have ihv: ∀ x∈b.map Prod.snd++ [L[2]'(by omega)],aA Tryz.prog 116 [.agg x.cells] (.bool (cy n x)):=by
      intro x hx;rcases List.mem_append.1 hx with hx | hx
      ·have h1:=Datum.eX hx
       obtain ⟨p,hp',rfl⟩:=List.mem_map.1 hx;exact ih (by omega) _ (by omega) (hpp p hp').2
      ·rw[List.mem_singleton] at hx
       rw[hx];exact ih' _ hm2
     have hMl:(b.map Prod.snd++ [L[2]'(by omega)]).length≤2000000000:=by rw[List.length_append,List.length_singleton];omega
     generalize b.map Prod.snd++ [L[2]'(by omega)]=M at *;refine aq.keep [4,10,108,109,110,111,112,113,114,115,116,117,118,119,120,121] (fun x:Nat×Bool=> [(4,.bool x.2),(10,.int .i64 x.1)]) (fun x=>(x.2 && ((M).drop x.1).all (cy n))=cy (n + 1) d) (fun x=>(M).length - x.1) (0,ej d) (by rw[hC,hit];rfl) wA ?_;rintro ⟨i,ok⟩ he;dsimp only at he⊢
     conv=>whnf
     repeat' (first|refine aS ?_|((refine pC (ihv _ (List.getElem_mem _)) wR ?_);conv=>whnf)|(refine zX (fun hc=>?_) (fun hc=>?_)<;>(try simp only[SY] at hc)<;>(conv=>whnf)))
     ·have hlt:i < (M).length:=by omega
      rw[hc.1,Bool.true_and,aI hlt,List.all_cons] at he;exact an (i + 1,cy n (M)[i]) he (by show (M).length - (i + 1) < (M).length - i;omega) wA
     ·refine ak.pure (Wk.bool ?_)
      rw[←he];rcases hc with h | h
      ·rw[h];rfl
      ·rw[List.drop_of_length_le (by omega)];simp
  ·rw[if_neg (by rintro (h | h)<;>contradiction)] at hC
   rw[hC];exact ak.pure (Wk.ff rfl)
  ·rw[if_neg (fun ⟨h1,h2⟩=>by
    rcases hc with h | h
    ·exact h h1
    ·rw[h2] at h;cases h)] at hC
   have hit:=(‹ej d=true∧ ¬((L.length:Int)=0)›).1;refine aq.keep [4,10,108,109,110,111,112,113,114,115,116,117,118,119,120,121] (fun x:Nat×Bool=> [(4,.bool x.2),(10,.int .i64 x.1)]) (fun x=>(x.2 && ((L).drop x.1).all (cy n))=cy (n + 1) d) (fun x=>(L).length - x.1) (0,ej d) (by rw[hC,hit];rfl) wA ?_;rintro ⟨i,ok⟩ he;dsimp only at he⊢
   conv=>whnf
   repeat' (first|refine aS ?_|((refine pC (ih' _ (List.getElem_mem _)) wR ?_);conv=>whnf)|(refine zX (fun hc=>?_) (fun hc=>?_)<;>(try simp only[SY] at hc)<;>(conv=>whnf)))
   ·have hlt:i < (L).length:=by omega
    rw[hc.1,Bool.true_and,aI hlt,List.all_cons] at he;exact an (i + 1,cy n (L)[i]) he (by show (L).length - (i + 1) < (L).length - i;omega) wA
   ·refine ak.pure (Wk.bool ?_)
    rw[←he];rcases hc with h | h
    ·rw[h];rfl
    ·rw[List.drop_of_length_le (by omega)];simp
def Bf (s:List UInt8) (b n:Nat):Prop:= ∀ (k:Nat) (deep:Int),k≤s.length→2 * (s.length - k) + 1≤n→0≤deep→deep + ((s.length - k:Nat):Int)≤2000000→
 af Tryz.prog 56 [.ptr b 0,.int .i64 deep] [m4 b s k (-1)] (fun y Γ'=>y=.agg ((RF s n).1 k).1.cells∧Γ'= [m4 b s ((RF s n).1 k).2.1 ((RF s n).1 k).2.2])
def EN (s:List UInt8) (b n:Nat):Prop:= ∀ (pair:Bool) (k:Nat) (deep:Int),k≤s.length→2 * (s.length - k) + 2≤n→0≤deep→deep + 1 + ((s.length - k:Nat):Int)≤2000000→
 af Tryz.prog 105 [.ptr b 0,.bool pair,.int .i64 deep] [m4 b s k (-1)] (fun y Γ'=>y=.bn [.sl 5 (((RF s n).2 pair k [] aK).1.1.map Datum.pv) none,.agg ((RF s n).2 pair k [] aK).1.2.cells]∧Γ'= [m4 b s ((RF s n).2 pair k [] aK).2.1 ((RF s n).2 pair k [] aK).2.2])
theorem IT {s:List UInt8} {k:Nat} (h:c5 s k≠0):k < s.length:=by
 unfold c5 at h
 split at h
 ·assumption
 ·exact absurd rfl h
theorem xX {p q:Prop} (k:q) (h:q→p:=by intro hq;first | exact aC.sP (some 28) rfl [] [3] ai mixed hq | exact aC.sP (some 74) rfl [] [3] ai mixed hq):p:=h k
theorem I7 (s:List UInt8) (b n:Nat) (hs:s.length≤1000000) (ih: ∀ m,m < n→Bf s b m):EN s b n:=by
 intro pair k0 deep hk0 hn h0 hd;generalize hR:(RF s n).2 pair k0 [] aK=R;refine af.ah ai Tryz.func105 rfl rfl (n:=76) rfl rfl ?_
 conv=>whnf
 repeat (first|refine qF ?_|((intro _);conv=>whnf))
 rename_i b7 b9;refine aq.gh (au.trans (au.nil 5 55 _) (au.box (b:=b9) (cs:= [.int .i64 4,.int .i64 0,.int .i64 0,.str [],.nil]) (cs':=lG aK) JV)) ?_
 refine aq.over [6,8,10,12,13,14,15,16,17,18,19,20,21,22,23,24,25,26,27,28,29,30,31,32,33,34,35,36,37,38,39,40,41,42,43,44,45,46,47,48,49,50,51,52,53,54,55,56,57,58,59,60,61,62,63,64,65,66,67,68,69,70,71,72,73] (fun x:Nat×Nat×Int×List Datum×Datum×Tok=> [(8,.sl 5 (x.2.2.2.1.map Datum.pv) (some x.2.2.2.2.2))]) (fun x:Nat×Nat×Int×List Datum×Datum×Tok=> [CJ b7,.box b9 (lG x.2.2.2.2.1),m4 b s x.2.1 x.2.2.1,.tok x.2.2.2.2.2])
  (fun x=>x.1≤n∧x.2.1≤s.length∧x.2.2.2.1.length≤2000000∧x.2.2.2.2.2.e=55∧((x.2.2.1= -1∧k0≤x.2.1∧x.2.2.2.1.length≤x.2.1∧2 * (s.length - x.2.1) + 2≤x.1∧(RF s x.1).2 pair x.2.1 x.2.2.2.1 x.2.2.2.2.1=R)∨(0≤x.2.2.1∧R=((x.2.2.2.1,x.2.2.2.2.1),x.2.1,x.2.2.1)))) (fun x=>x.1) (n,k0, -1, [],aK,ay 5 55) ⟨Nat.le_refl _,hk0,by simp,rfl,.inl ⟨rfl,Nat.le_refl _,by simp,hn,hR⟩⟩ wA ?_
 rintro ⟨m,k,bad,l,e,tk⟩ ⟨hm,hk,hl,htk,hI⟩;dsimp only at hm hk hl htk hI⊢
 rcases hI with ⟨hb,hkk,hlk,hmk,hR2⟩ | ⟨hb,hR2⟩
 ·obtain ⟨m,rfl⟩: ∃ m',m=m' + 1:=⟨m - 1,by omega⟩
  subst hb;rw[RF] at hR2;dsimp only at hR2
  conv=>whnf
  repeat' (first|refine aS ?_|(refine zX (fun hc=>?_) (fun hc=>?_)<;>(try simp only[SY] at hc)<;>first|omega|(conv=>whnf)))
  refine av.go (rR b s k (-1) hs hk) (aX.refl _) ?_;rintro _ _ ⟨rfl,rfl⟩;have hn:k≤c9 s k∧c9 s k≤s.length:=ij s (s.length + 1) k hk;generalize c9 s k=K at *
  conv=>whnf
  repeat' (first|refine aS ?_|((refine xX ?_);conv=>whnf)|(refine zX (fun hc=>?_) (fun hc=>?_)<;>(try simp only[SY] at hc)<;>(conv=>whnf)))
  ·rw[if_pos (jg.1 (by exact hc))] at hR2
   subst hR2;exact ak.gen (y:=.bn [.sl 5 (l.map Datum.pv) none,.agg e.cells]) (Γ':= [.box b [.str s,.int .i64 ((K:Int) + 1),.int .i64 (-1)]]) (Wk.bn (.cons (Wk.tok _ _ _) (.cons (Wk.refl _) .nil))) (And.intro rfl rfl)
  ·have h41: ¬c5 s K=41:=fun h=>by have:= ‹¬((c5 s K).toNat:Int)=41›; rw[h] at this;exact this rfl
   have h46:c5 s K=46:=jg.1 (by exact hc.1.1);have hl0: ¬l= []:=fun h=>by rw[h] at hc;simp at hc
   have hKl:K < s.length:=IT (by rw[h46];decide);rw[if_neg h41,if_pos ⟨h46,hc.1.2,hl0⟩] at hR2;rw[show (K:Int) + 1=((K + 1:Nat):Int) from rfl];refine av.go (ih m (by omega) (K + 1) (deep + 1) (by omega) (by omega) (by omega) (by omega)) (aX.refl _) ?_;rintro _ _ ⟨rfl,rfl⟩;have hok:=(zg s m).1 (K + 1) (by omega);generalize (RF s m).1 (K + 1)=r at *;obtain ⟨d,k2,bd⟩:=r;obtain ⟨hk2,hok⟩:=hok;dsimp only at hk2 hok hR2 ⊢;rcases hok with ⟨rfl,hlt⟩ | hbd
   ·rw[if_pos (by decide)] at hR2
    conv=>whnf
    repeat' (first|refine aS ?_|(refine zX (fun hc=>?_) (fun hc=>?_)<;>(try simp only[SY] at hc)<;>omega))
    refine e6.ways (fun hg=>?_) (fun hg=>by simp at hg)
    conv=>whnf
    repeat' (first|refine aS ?_|(refine zX (fun hc=>?_) (fun hc=>?_)<;>(try simp only[SY] at hc)<;>omega))
    refine av.go (rR b s k2 (-1) hs hk2) (aX.refl _) ?_;rintro _ _ ⟨rfl,rfl⟩;have hn2:k2≤c9 s k2∧c9 s k2≤s.length:=ij s (s.length + 1) k2 hk2;generalize c9 s k2=K2 at *
    conv=>whnf
    repeat' (first|refine aS ?_|(refine zX (fun hc=>?_) (fun hc=>?_)<;>(try simp only[SY] at hc)<;>(conv=>whnf)))
    ·rw[if_neg (fun h=>by have:= ‹¬((c5 s K2).toNat:Int)=41›; rw[h] at this;exact this rfl)] at hR2
     refine av.go (gY b s K2 K2) (aX.refl _) ?_;rintro _ _ ⟨rfl,rfl⟩
     conv=>whnf
     skip
     exact an (m,K2,K2,l,d,tk) ⟨by show m≤n;omega,hn2.2,hl,htk,.inr ⟨by show 0≤(K2:Int);omega,hR2.symm⟩⟩ (by show m < m + 1;omega) wA
    ·rw[if_pos (jg.1 (by exact hc))] at hR2
     exact an (m,K2, -1,l,d,tk) ⟨by show m≤n;omega,hn2.2,hl,htk,.inl ⟨rfl,by show k0≤K2;omega,by show l.length≤K2;omega,by show 2 * (s.length - K2) + 2≤m;omega,hR2⟩⟩ (by show m < m + 1;omega) wA
   ·rw[if_neg (by omega)] at hR2
    conv=>whnf
    repeat' (first|refine aS ?_|(refine zX (fun hc=>?_) (fun hc=>?_)<;>(try simp only[SY] at hc)<;>omega))
    refine e6.ways (fun hg=>by simp at hg;omega) (fun hg=>?_)
    conv=>whnf
    skip
    exact an (m,k2,bd,l,d,tk) ⟨by show m≤n;omega,hk2,hl,htk,.inr ⟨hbd,hR2.symm⟩⟩ (by show m < m + 1;omega) wA
  ·have h41: ¬c5 s K=41:=fun h=>by have:= ‹¬((c5 s K).toNat:Int)=41›; rw[h] at this;exact this rfl
   have hcn: ¬(c5 s K=46∧pair=true∧l≠ []):=fun ⟨h1,h2,h3⟩=>by
    rcases hc with (h | h) | h
    ·rw[h1] at h;exact h rfl
    ·rw[h2] at h;cases h
    ·exact h3 (List.eq_nil_of_length_eq_zero (by omega))
   rw[if_neg h41,if_neg hcn] at hR2;refine av.go (ih m (by omega) K (deep + 1) (by omega) (by omega) (by omega) (by omega)) (aX.refl _) ?_;rintro _ _ ⟨rfl,rfl⟩;have hok:=(zg s m).1 K (by omega);generalize (RF s m).1 K=r at *;obtain ⟨d,k2,bd⟩:=r;obtain ⟨hk2,hok⟩:=hok;dsimp only at hk2 hok hR2 ⊢;rcases hok with ⟨rfl,hlt⟩ | hbd
   ·rw[if_pos (by decide)] at hR2
    conv=>whnf
    repeat' (first|refine aS ?_|((intro _);conv=>whnf)|(refine zX (fun hc=>?_) (fun hc=>?_)<;>(try simp only[SY] at hc)<;>omega))
    rename_i t2 ht2;exact an (m,k2, -1,l++ [d],e,t2) ⟨by show m≤n;omega,hk2,by simp;omega,ht2,.inl ⟨rfl,by show k0≤k2;omega,by simp;omega,by show 2 * (s.length - k2) + 2≤m;omega,hR2⟩⟩ (by show m < m + 1;omega) wA
   ·rw[if_neg (by omega)] at hR2
    conv=>whnf
    repeat' (first|refine aS ?_|((intro _);conv=>whnf)|(refine zX (fun hc=>?_) (fun hc=>?_)<;>(try simp only[SY] at hc)<;>omega))
    rename_i t2 ht2;exact an (m,k2,bd,l++ [d],e,t2) ⟨by show m≤n;omega,hk2,by simp;omega,ht2,.inr ⟨hbd,hR2.symm⟩⟩ (by show m < m + 1;omega) wA
 ·conv=>whnf
  repeat' (first|refine aS ?_|((refine xX ?_);conv=>whnf)|(refine zX (fun hc=>?_) (fun hc=>?_)<;>(try simp only[SY] at hc)<;>first|omega|(conv=>whnf)))
  subst hR2;exact ak.gen (y:=.bn [.sl 5 (l.map Datum.pv) none,.agg e.cells]) (Γ':= [m4 b s k bad]) (Wk.bn (.cons (Wk.tok _ _ _) (.cons (Wk.refl _) .nil))) (And.intro rfl rfl)
theorem gK {c n:UInt8} (h: ¬(c.toNat:Int)=(n.toNat:Int)): ¬c=n:=fun e=>h (by rw[e])
def oS (s:List UInt8) (m k:Nat):OT:=
 if k + 1=s.length then (aK,k + 1,(k + 1:Nat)) else
 if s.getD (k + 1) 0=116 then (.mk 1 1 0 [] [],k + 2, -1) else
 if s.getD (k + 1) 0=102 then (.mk 1 0 0 [] [],k + 2, -1) else
 if s.getD (k + 1) 0=118 then (.mk 5 0 0 [] [],k + 2, -1) else
 if s.getD (k + 1) 0=40 then (.mk 7 0 0 [] ((RF s m).2 false (k + 2) [] aK).1.1,((RF s m).2 false (k + 2) [] aK).2) else (aK,k + 2,(k + 1:Nat))
theorem GO {p q:Prop} (k:q) (h:q→p:=by intro hq;first | exact aC.sP (some 15) rfl [] [] ai mixed hq | exact aC.sP (some 31) rfl [] [] ai mixed hq):p:=h k
theorem Js (s:List UInt8) (b m:Nat) (hs:s.length≤1000000) (ih:EN s b m) (k:Nat) (deep:Int) (hk:k < s.length) (hm:2 * (s.length - k)≤m) (h0:0≤deep) (hd:deep + ((s.length - k:Nat):Int)≤2000000):
  af Tryz.prog 104 [.ptr b 0,.int .i64 deep] [m4 b s k (-1)] (fun y Γ'=>y=.agg (oS s m k).1.cells∧Γ'= [m4 b s (oS s m k).2.1 (oS s m k).2.2]):=by
 have hF:oS s m k=oS s m k:=rfl
 conv at hF=>rhs;unfold oS
 refine af.ah ai Tryz.func104 rfl rfl (n:=74) rfl rfl ?_
 conv=>whnf
 repeat' (first|refine aS ?_|((first|refine GO ?_|intro _);conv=>whnf)|(refine zX (fun hc=>?_) (fun hc=>?_)<;>(try simp only[SY] at hc)<;>(conv=>whnf)))
 ·rw[if_pos (by omega)] at hF
  rw[show (k:Int) + 1=((k + 1:Nat):Int) from rfl];refine av.go (gY b s (k + 1) (k + 1:Nat)) (aX.refl _) ?_;rintro _ _ ⟨rfl,rfl⟩
  conv=>whnf
  repeat' (first|refine aS ?_|(refine zX (fun hc=>?_) (fun hc=>?_)<;>(try simp only[SY] at hc)<;>omega))
  rw[hF];exact ak.gen (y:=.agg aK.cells) (Γ':= [m4 b s (k + 1:Nat) (k + 1:Nat)]) (Wk.refl _) (And.intro rfl rfl)
 ·rw[if_neg (by omega),if_pos (jg.1 (by exact hc))] at hF
  rw[hF];exact ak.gen (y:=.agg (Datum.mk 1 1 0 [] []).cells) (Γ':= [.box b [.str s,.int .i64 ((k:Int) + 1 + 1),.int .i64 (-1)]]) tJ.wk (And.intro rfl rfl)
 ·rw[if_neg (by omega),if_neg (gK (by assumption)),if_pos (jg.1 (by exact hc))] at hF
  rw[hF];exact ak.gen (y:=.agg (Datum.mk 1 0 0 [] []).cells) (Γ':= [.box b [.str s,.int .i64 ((k:Int) + 1 + 1),.int .i64 (-1)]]) tJ.wk (And.intro rfl rfl)
 ·rw[if_neg (by omega),if_neg (gK (by assumption)),if_neg (gK (by assumption)),if_pos (jg.1 (by exact hc))] at hF
  rw[hF];exact ak.gen (y:=.agg (Datum.mk 5 0 0 [] []).cells) (Γ':= [.box b [.str s,.int .i64 ((k:Int) + 1 + 1),.int .i64 (-1)]]) tJ.wk (And.intro rfl rfl)
 ·rw[if_neg (by omega),if_neg (gK (by assumption)),if_neg (gK (by assumption)),if_neg (gK (by assumption)),if_pos (jg.1 (by exact hc))] at hF
  rw[show (k:Int) + 1 + 1=((k + 2:Nat):Int) from rfl];refine av.go (ih false (k + 2) deep (by omega) (by omega) (by omega) (by omega)) (.cons (Wk.refl _) (.cons (Wk.ff rfl) (.cons (Wk.refl _) .nil))) ?_;rintro _ _ ⟨rfl,rfl⟩;generalize (RF s m).2 false (k + 2) [] aK=r at *
  conv=>whnf
  repeat' (first|refine aS ?_|((intro _);conv=>whnf)|(refine zX (fun hc=>?_) (fun hc=>?_)<;>(try simp only[SY] at hc)<;>omega))
  rw[hF];exact ak.gen (y:=.agg (Datum.mk 7 0 0 [] r.1.1).cells) (Γ':= [m4 b s r.2.1 r.2.2]) tJ.wk (And.intro rfl rfl)
 ·rw[if_neg (by omega),if_neg (gK (by assumption)),if_neg (gK (by assumption)),if_neg (gK (by assumption)),if_neg (gK (by assumption))] at hF
  rw[show (k:Int) + 1 + 1 - 1=((k + 1:Nat):Int) by omega,show (k:Int) + 1 + 1=((k + 2:Nat):Int) from rfl];refine av.go (gY b s (k + 2) (k + 1:Nat)) (aX.refl _) ?_;rintro _ _ ⟨rfl,rfl⟩
  conv=>whnf
  repeat' (first|refine aS ?_|(refine zX (fun hc=>?_) (fun hc=>?_)<;>(try simp only[SY] at hc)<;>omega))
  rw[hF];exact ak.gen (y:=.agg aK.cells) (Γ':= [m4 b s (k + 2:Nat) (k + 1:Nat)]) (Wk.refl _) (And.intro rfl rfl)
theorem Pd (s:List UInt8) (m k0:Nat):((RF s (m + 1)).1 k0)=(
  if c9 s k0=s.length then (aK,c9 s k0,((c9 s k0:Nat):Int)) else
  if jY (c5 s (c9 s k0))=true then l6 s (c9 s k0) else
  if c5 s (c9 s k0)=34 then lW s (c9 s k0) else
  if c5 s (c9 s k0)=39 then (ic [xB [113,117,111,116,101],((RF s m).1 (c9 s k0 + 1)).1],((RF s m).1 (c9 s k0 + 1)).2) else
  if c5 s (c9 s k0)=35 then oS s m (c9 s k0) else
  if c5 s (c9 s k0)=40 then (((RF s m).2 true (c9 s k0 + 1) [] aK).1.1.foldr lQ ((RF s m).2 true (c9 s k0 + 1) [] aK).1.2,((RF s m).2 true (c9 s k0 + 1) [] aK).2) else
  (aK,c9 s k0,((c9 s k0:Nat):Int)):OT):=by
 rw[RF];rfl
theorem L9 {x:PV} {l:List Datum} [h:uD Datum.pv 5 x l]:aA Tryz.prog 103 [x] (.agg (ic l).cells):=
 af.wk (args':= [.sl 5 (l.map Datum.pv) none]) (Ch l) (.cons h.wk .nil)
theorem xY {p q:Prop} (k:q) (h:q→p:=by intro hq;first | exact aC.sP (some 11) rfl [] [] ai mixed hq | exact aC.sP (some 79) rfl [] [7] ai mixed hq):p:=h k
theorem Gu (s:List UInt8) (b m:Nat) (hs:s.length≤1000000) (ih1:Bf s b m) (ih2:EN s b m):Bf s b (m + 1):=by
 intro k0 deep hk0 hn h0 hd;have hF:=Pd s m k0;generalize hR:(RF s (m + 1)).1 k0=R at *;refine af.ah ai Tryz.func56 rfl rfl (n:=93) rfl rfl ?_
 conv=>whnf
 repeat' (first|((intro _);conv=>whnf)|(refine zX (fun hc=>?_) (fun hc=>?_)<;>(try simp only[SY] at hc)<;>omega))
 rename_i b4;refine av.go (rR b s k0 (-1) hs hk0) (aX.refl _) ?_;rintro _ _ ⟨rfl,rfl⟩;have hn:k0≤c9 s k0∧c9 s k0≤s.length:=ij s (s.length + 1) k0 hk0;generalize c9 s k0=k at *
 conv=>whnf
 repeat' (first|refine aS ?_|((first|refine pC (Cq _) wR ?_|refine xY ?_);conv=>whnf)|(refine zX (fun hc=>?_) (fun hc=>?_)<;>(try simp only[SY] at hc)<;>(conv=>whnf)))
 ·rw[if_pos (by omega)] at hF
  subst hF;refine av.go (gY b s k k) (aX.refl _) ?_;rintro _ _ ⟨rfl,rfl⟩
  conv=>whnf
  repeat' (first|refine aS ?_|(refine zX (fun hc=>?_) (fun hc=>?_)<;>(try simp only[SY] at hc)<;>omega))
  exact ak.gen (y:=.agg aK.cells) (Γ':= [m4 b s k k]) (Wk.refl _) (And.intro rfl rfl)
 ·rw[if_neg (by omega),if_pos hc] at hF
  subst hF;refine av.go (K9 b s k hs (by omega)) (aX.refl _) ?_;rintro _ _ ⟨rfl,rfl⟩
  conv=>whnf
  repeat' (first|refine aS ?_|(refine zX (fun hc=>?_) (fun hc=>?_)<;>(try simp only[SY] at hc)<;>omega))
  exact ak.gen (y:=.agg (l6 s k).1.cells) (Γ':= [m4 b s (l6 s k).2.1 (l6 s k).2.2]) (Wk.refl _) (And.intro rfl rfl)
 ·rw[if_neg (by omega),if_neg (by rw[‹jY (c5 s k)=false›];simp),if_pos (jg.1 (by exact hc))] at hF
  subst hF;refine av.go (KV b s k hs (by omega)) (aX.refl _) ?_;rintro _ _ ⟨rfl,rfl⟩
  conv=>whnf
  repeat' (first|refine aS ?_|(refine zX (fun hc=>?_) (fun hc=>?_)<;>(try simp only[SY] at hc)<;>omega))
  exact ak.gen (y:=.agg (lW s k).1.cells) (Γ':= [m4 b s (lW s k).2.1 (lW s k).2.2]) (Wk.refl _) (And.intro rfl rfl)
 ·rw[if_neg (by omega),if_neg (by rw[‹jY (c5 s k)=false›];simp),if_neg (gK (by assumption)),if_pos (jg.1 (by exact hc))] at hF
  rw[show (k:Int) + 1=((k + 1:Nat):Int) from rfl];refine av.go (ih1 (k + 1) (deep + 1) (by omega) (by omega) (by omega) (by omega)) (aX.refl _) ?_;rintro _ _ ⟨rfl,rfl⟩;generalize (RF s m).1 (k + 1)=r at *;subst hF
  conv=>whnf
  repeat' (first|refine aS ?_|((first|refine pC (L9) wR ?_|intro _);conv=>whnf)|(refine zX (fun hc=>?_) (fun hc=>?_)<;>(try simp only[SY] at hc)<;>omega))
  exact ak.gen (y:=.agg (ic [xB [113,117,111,116,101],r.1]).cells) (Γ':= [m4 b s r.2.1 r.2.2]) (Wk.refl _) (And.intro rfl rfl)
 ·rw[if_neg (by omega),if_neg (by rw[‹jY (c5 s k)=false›];simp),if_neg (gK (by assumption)),if_neg (gK (by assumption)),if_pos (jg.1 (by exact hc))] at hF
  subst hF;refine av.go (Js s b m hs ih2 k deep (by omega) (by omega) h0 (by omega)) (aX.refl _) ?_;rintro _ _ ⟨rfl,rfl⟩
  conv=>whnf
  repeat' (first|refine aS ?_|(refine zX (fun hc=>?_) (fun hc=>?_)<;>(try simp only[SY] at hc)<;>omega))
  exact ak.gen (y:=.agg (oS s m k).1.cells) (Γ':= [m4 b s (oS s m k).2.1 (oS s m k).2.2]) (Wk.refl _) (And.intro rfl rfl)
 ·rw[if_neg (by omega),if_neg (by rw[‹jY (c5 s k)=false›];simp),if_neg (gK (by assumption)),if_neg (gK (by assumption)),if_neg (gK (by assumption)),if_pos (jg.1 (by exact hc))] at hF
  rw[show (k:Int) + 1=((k + 1:Nat):Int) from rfl];refine av.go (ih2 true (k + 1) deep (by omega) (by omega) (by omega) (by omega)) (.cons (Wk.refl _) (.cons (Wk.tt rfl) (.cons (Wk.refl _) .nil))) ?_;rintro _ _ ⟨rfl,rfl⟩;generalize (RF s m).2 true (k + 1) [] aK=r at *;obtain ⟨⟨l,e⟩,j,bd⟩:=r;dsimp only at hF⊢
  conv=>whnf
  repeat' (first|refine aS ?_|((intro _);conv=>whnf)|(refine zX (fun hc=>?_) (fun hc=>?_)<;>(try simp only[SY] at hc)<;>omega))
  rename_i b7 hl;rw[show ([.int .i64 e.kind,.int .i64 e.n,.int .i64 e.d,.str e.s,.sl 5 (e.l.map Datum.pv) none]:List PV)=lG e from rfl];refine aq.over [8,75,76,77,78,79,80,81,82,83,84,85] (fun x:Nat×Datum=> [(8,.int .i64 ((x.1:Int) - 1))]) (fun x:Nat×Datum=> [m4 b s j bd,CJ b4,.box b7 (lG x.2)]) (fun x=>x.1≤l.length∧x.2=(l.drop x.1).foldr lQ e) (fun x=>x.1) (l.length,e) ⟨Nat.le_refl _,by rw[List.drop_of_length_le (Nat.le_refl _)];rfl⟩ wA ?_;rintro ⟨i,D⟩ ⟨hi,hD⟩;dsimp only at hi hD⊢
  conv=>whnf
  repeat' (first|refine aS ?_|((refine xY ?_);conv=>whnf)|(refine zX (fun hc=>?_) (fun hc=>?_)<;>(try simp only[SY] at hc)<;>(conv=>whnf)))
  ·have h1:i - 1 < l.length:=by omega
   have e1:l.drop (i - 1)=l[i - 1]::l.drop i:=by rw[aI h1,show i - 1 + 1=i by omega]
   refine jK.gh (i - 1,lQ l[i - 1] D) ⟨by show i - 1≤_;omega,by show lQ _ _=_;rw[e1,hD];rfl⟩ (by show i - 1 < i;omega) wA ?_;refine au.trans (au.box (b:=b7) (cs:= [.int .i64 6,.int .i64 0,.int .i64 0,.str [],.sl 5 [.agg (lG l[i - 1]),.agg (lG D)] none]) (cs':=lG (lQ l[i - 1] D)) FO) ?_;exact au.pick
  ·have e1:D=l.foldr lQ e:=by rw[hD,show i=0 by omega];rfl
   rw[←e1] at hF;subst hF;exact ak.gen (y:=.agg D.cells) (Γ':= [m4 b s j bd]) (Wk.refl _) (And.intro rfl rfl)
 ·rw[if_neg (by omega),if_neg (by rw[‹jY (c5 s k)=false›];simp),if_neg (gK (by assumption)),if_neg (gK (by assumption)),if_neg (gK (by assumption)),if_neg (gK (by assumption))] at hF
  subst hF;refine av.go (gY b s k k) (aX.refl _) ?_;rintro _ _ ⟨rfl,rfl⟩
  conv=>whnf
  repeat' (first|refine aS ?_|(refine zX (fun hc=>?_) (fun hc=>?_)<;>(try simp only[SY] at hc)<;>omega))
  exact ak.gen (y:=.agg aK.cells) (Γ':= [m4 b s k k]) (Wk.refl _) (And.intro rfl rfl)
theorem DC (s:List UInt8) (b:Nat) (hs:s.length≤1000000): ∀ n,Bf s b n:=by
 have key: ∀ n, ∀ m,m≤n→Bf s b m∧EN s b m:=by
  intro n
  induction n with
  | zero=>
   intro m hm;refine ⟨fun k deep hk h=>by omega,fun pair k deep hk h=>by omega⟩
  | succ n ih=>
   intro m hm;rcases Nat.lt_or_ge m (n + 1) with h | h
   ·exact ih m (by omega)
   ·obtain rfl:m=n + 1:=by omega
    exact ⟨Gu s b n hs (ih n (Nat.le_refl _)).1 (ih n (Nat.le_refl _)).2,I7 s b (n + 1) hs fun j hj=>(ih j (by omega)).1⟩
 exact fun n=>(key n n (Nat.le_refl _)).1
theorem GP {p q:Prop} (k:q) (h:q→p:=by intro hq;first | exact aC.sP (some 55) rfl [] [] ai mixed hq):p:=h k
theorem Kg (s:List UInt8):aA Tryz.prog 37 [.str s] (wK s):=by
 by_cases hs:s.length > 65536
 ·refine af.ah ai Tryz.func37 rfl rfl (n:=59) rfl rfl ?_
  conv=>whnf
  repeat' (first|((intro _);conv=>whnf)|(refine zX (fun hc=>?_) (fun hc=>?_)<;>(try simp only[SY] at hc)<;>first|omega|(conv=>whnf)))
  rw[show wK s=.bn [.sl 5 [] none,.int .i64 65536,.int .i64 2] by unfold wK oU;rw[if_pos hs];rfl];exact ak.pure (Wk.bn (.cons (Wk.eu rfl) (.cons (Wk.refl _) (.cons (Wk.refl _) .nil))))
 ·have hR:oU s=K1 s (s.length + 1) 0 []:=by unfold oU;rw[if_neg hs]
  unfold wK;generalize oU s=R at *;refine af.ah ai Tryz.func37 rfl rfl (n:=59) rfl rfl ?_
  conv=>whnf
  repeat' (first|((intro _);conv=>whnf)|(refine zX (fun hc=>?_) (fun hc=>?_)<;>(try simp only[SY] at hc)<;>first|omega|(conv=>whnf)))
  rename_i hl b5;refine aq.gh (au.nil 5 55 _) ?_
  refine aq.over [2,3,4,6,7,8,15,16,17,18,19,20,21,22,23,24,25,26,27,28,29,30,31,32,33,34,35,36,37,38,39,40,41,42,43,44,45,46,47,48,49,50,51,52,53,54] (fun x:Nat×Nat×Int×List Datum×Tok=> [(6,.sl 5 (x.2.2.2.1.map Datum.pv) (some x.2.2.2.2))]) (fun x:Nat×Nat×Int×List Datum×Tok=> [m4 b5 s x.2.1 x.2.2.1,.tok x.2.2.2.2])
   (fun x=>x.2.1≤s.length∧x.2.2.2.1.length≤2000000∧x.2.2.2.2.e=55∧((x.2.2.1= -1∧x.2.2.2.1.length≤x.2.1∧s.length - x.2.1 + 1≤x.1∧R=K1 s x.1 x.2.1 x.2.2.2.1)∨(0≤x.2.2.1∧R=([],x.2.2.1,2)))) (fun x=>x.1) (s.length + 1,0, -1, [],ay 5 55) ⟨Nat.zero_le _,by simp,rfl,.inl ⟨rfl,by simp,by simp,hR⟩⟩ wA ?_
  rintro ⟨m,k,bad,l,tk⟩ ⟨hk,hl2,htk,hI⟩;dsimp only at hk hl2 htk hI⊢
  rcases hI with ⟨hb,hlk,hmk,hR2⟩ | ⟨hb,hR2⟩
  ·obtain ⟨m,rfl⟩: ∃ m',m=m' + 1:=⟨m - 1,by omega⟩
   subst hb;rw[K1] at hR2;dsimp only at hR2
   conv=>whnf
   repeat' (first|refine aS ?_|(refine zX (fun hc=>?_) (fun hc=>?_)<;>(try simp only[SY] at hc)<;>first|omega|(conv=>whnf)))
   refine av.go (rR b5 s k (-1) (by omega) hk) (aX.refl _) ?_;rintro _ _ ⟨rfl,rfl⟩;have hn:k≤c9 s k∧c9 s k≤s.length:=ij s (s.length + 1) k hk;generalize c9 s k=K at *
   conv=>whnf
   repeat' (first|refine aS ?_|((intro _);conv=>whnf)|(refine zX (fun hc=>?_) (fun hc=>?_)<;>(try simp only[SY] at hc)<;>(conv=>whnf)))
   ·rw[if_pos (by omega)] at hR2
    subst hR2;exact ak.pure (Wk.bn (.cons (Wk.tok _ _ _) (.cons (Wk.refl _) (.cons (Wk.refl _) .nil))))
   ·rw[if_neg (by omega)] at hR2
    refine av.go (DC s b5 (by omega) (Qg s) K 0 hn.2 (by show _≤2 * s.length + 4;omega) (by omega) (by omega)) (aX.refl _) ?_;rintro _ _ ⟨rfl,rfl⟩;have hok:=(zg s (Qg s)).1 K hn.2;generalize (RF s (Qg s)).1 K=r at *;obtain ⟨d,k2,bd⟩:=r;obtain ⟨hk2,hok⟩:=hok;dsimp only at hk2 hok hR2 ⊢;rcases hok with ⟨rfl,hlt⟩ | hbd
    ·rw[if_pos (by decide)] at hR2
     conv=>whnf
     repeat' (first|refine aS ?_|((first|(((apply zY;intro hg));(conv=>whnf);(repeat ((first|refine pC (gJ _) wR ?_|refine aH ?_);conv=>whnf));exact pZ)|intro _);conv=>whnf)|(refine zX (fun hc=>?_) (fun hc=>?_)<;>(try simp only[SY] at hc)<;>(conv=>whnf)))
     ·have hnr:d.bS 0=false:=hc.2
      rw[if_neg (by rw[hnr];simp)] at hR2;refine av.go (gY b5 s k2 K) (aX.refl _) ?_;rintro _ _ ⟨rfl,rfl⟩
      conv=>whnf
      repeat' (first|refine aS ?_|((intro _);conv=>whnf)|(refine zX (fun hc=>?_) (fun hc=>?_)<;>(try simp only[SY] at hc)<;>omega))
      rename_i t2 ht2;exact an (m,k2,K,l++ [d],t2) ⟨hk2,by simp;omega,ht2,.inr ⟨by show 0≤(K:Int);omega,hR2⟩⟩ (by show m < m + 1;omega) wA
     ·rename_i t2 ht2
      have hr:d.bS 0=true:=by
       rcases hc with h | h
       ·omega
       ·exact h
      rw[if_pos hr] at hR2;exact an (m,k2, -1,l++ [d],t2) ⟨hk2,by simp;omega,ht2,.inl ⟨rfl,by simp;omega,by show s.length - k2 + 1≤m;omega,hR2⟩⟩ (by show m < m + 1;omega) wA
    ·rw[if_neg (by omega)] at hR2
     conv=>whnf
     repeat' (first|refine aS ?_|((first|(((apply zY;intro hg));(conv=>whnf);(repeat ((first|refine pC (gJ _) wR ?_|refine aH ?_);conv=>whnf));exact pZ)|intro _);conv=>whnf)|(refine zX (fun hc=>?_) (fun hc=>?_)<;>(try simp only[SY] at hc)<;>first|omega|(conv=>whnf)))
     rename_i t2 ht2;exact an (m,k2,bd,l++ [d],t2) ⟨hk2,by simp;omega,ht2,.inr ⟨hbd,hR2⟩⟩ (by show m < m + 1;omega) wA
  ·conv=>whnf
   repeat' (first|refine aS ?_|((refine GP ?_);conv=>whnf)|(refine zX (fun hc=>?_) (fun hc=>?_)<;>(try simp only[SY] at hc)<;>first|omega|(conv=>whnf)))
   subst hR2;exact ak.pure (Wk.bn (.cons (Wk.eu rfl) (.cons (Wk.refl _) (.cons (Wk.refl _) .nil))))
theorem Iu (d:Datum) (hs:d.sz≤1000000000) (hp:d.bS 0=true→d.pr=true):aA Tryz.prog 61 [.agg d.cells] (.bool (BG d)):=by
 unfold BG
 cases hr:d.bS 0 with
 | true=>
  have h1:=gJ d;rw[hr] at h1;refine af.ah ai Tryz.func61 rfl rfl (n:=9) rfl rfl ?_
  conv=>whnf
  repeat' (first|refine aS ?_|((first|(((apply zY;intro hg));(conv=>whnf);(repeat ((first|refine pC (I3 d.sz hs d (Nat.le_refl _) (hp hr)) wR ?_|refine aH ?_);conv=>whnf));exact pZ)|refine pC (h1) wR ?_|intro _);conv=>whnf)|(refine zX (fun hc=>?_) (fun hc=>?_)<;>(try simp only[SY] at hc)<;>omega))
  exact ak.pure (Wk.refl _)
 | false=>
  have h1:=gJ d;rw[hr] at h1;refine af.ah ai Tryz.func61 rfl rfl (n:=9) rfl rfl ?_
  conv=>whnf
  repeat' (first|refine aS ?_|((first|refine pC (h1) wR ?_|intro _);conv=>whnf)|(refine zX (fun hc=>?_) (fun hc=>?_)<;>(try simp only[SY] at hc)<;>omega))
  refine e6.ways (fun hg=>by cases hg) (fun hg=>?_)
  conv=>whnf
  skip
  exact ak.pure (Wk.ff rfl)
theorem nH {x:PV} {l:List Datum} [h:uD Datum.pv 5 x l]:aA Tryz.prog 110 [x] (.agg (ic l).cells):=by
 refine af.wk (args':= [.sl 5 (l.map Datum.pv) none]) ?_ (.cons h.wk .nil);refine af.ah ai Tryz.func110 rfl rfl (n:=5) rfl rfl ?_
 conv=>whnf
 repeat' (first|refine aS ?_|((first|refine pC (Ch l) wR ?_|intro _);conv=>whnf)|(refine zX (fun hc=>?_) (fun hc=>?_)<;>(try simp only[SY] at hc)<;>omega))
 exact ak.pure (Wk.refl _)
theorem F9 (s:List UInt8):aA Tryz.prog 111 [.str s] (.agg (xB s).cells):=by
 refine af.ah ai Tryz.func111 rfl rfl (n:=5) rfl rfl ?_
 conv=>whnf
 repeat' (first|refine aS ?_|((intro _);conv=>whnf)|(refine zX (fun hc=>?_) (fun hc=>?_)<;>(try simp only[SY] at hc)<;>omega))
 exact ak.pure tJ.wk
abbrev qj (b:Nat) (s:Pb):aj:=.box b [.int .i64 s.n,.bool s.bad]
abbrev OV (level consts codes size:Int) (free:Bool) (bound:List Int) (t:Tok) (ok:Bool):List PV:=
 [.int .i64 level,.int .i64 consts,.int .i64 codes,.bool free,.int .i64 size,.sl 1 (bound.map (PV.int .i64)) (some t),.bool ok]
def cB (consts codes:Int) (free:Bool) (t:aa) (scope:List Int):Bool:=
 if t.op=0 then decide (t.n≥0) && decide (t.n < consts) else
 if t.op=1∨t.op=2∨t.op=14 then scope.contains t.n else
 if t.op=11∨t.op=10 then decide (t.n≥0) && decide (t.n≤30) else
 if t.op=4 then t.n == 0 || (t.n == 1 && decide ((t.v.length:Int) > 0)) else
 if t.op=7 then t.n == 0 || t.n == 1 else
 if t.op=19∨t.op=21∨t.op=22 then decide (t.n≥0) && decide (t.n < codes) else
 if t.op=20 then decide (t.n≥0) && free else t.n == 0
theorem Gx {p q:Prop} (k:q) (h:q→p:=by intro hq;first | exact aC.sP (some 11) rfl [] [] ai mixed hq | exact aC.sP (some 72) rfl [] [] ai mixed hq):p:=h k
theorem HC (b:Nat) (level consts codes size:Int) (free ok:Bool) (bound:List Int) (tk:Tok) (t:aa) (scope:List Int):
  af Tryz.prog 65 [.ptr b 0,.agg t.cells,.sl 1 (scope.map (PV.int .i64)) none] [.box b (OV level consts codes size free bound tk ok)]
  (fun y Γ'=>y=.bool (cB consts codes free t scope)∧Γ'= [.box b (OV level consts codes size free bound tk ok)]):=by
 have hs:cB consts codes free t scope=cB consts codes free t scope:=rfl
 conv at hs=>rhs;unfold cB
 refine af.ah ai Tryz.func65 rfl rfl (n:=98) rfl rfl ?_
 conv=>whnf
 repeat' (first|refine dw ?_|((first|refine pC (Jr _ _) wR ?_|refine Gx ?_|intro _);conv=>whnf)|(refine zX (fun hc=>?_) (fun hc=>?_)<;>(try simp only[SY] at hc)<;>first|omega|(conv=>whnf)))
 all_goals repeat (first|rw[if_neg (by omega)] at hs|rw[if_pos (by omega)] at hs)
 all_goals rw[hs]
 all_goals exact ak.gen (Wk.refl _) ⟨rfl,rfl⟩
def qw (level:Int):Int:=if level=3 then 19 else 4
mutual
def aa.C6 (level consts codes:Int) (free:Bool):aa→List Int→Int→Int→List Int→Option (Int×List Int)
 | .mk op n v t,scope,deep,size,bound=>
  if (decide (deep > 400) || decide (size + 1 > 20000) || !ek op level || !dF (.mk op n v t) || !cB consts codes free (.mk op n v t) scope)=true then none else
  if (bw v bound).1=true then aa.oC level consts codes free op scope (scope++v) t (deep + 1) (size + 1) (bw v bound).2 else none
def aa.oC (level consts codes:Int) (free:Bool) (op:Int) (scope inner:List Int):List aa→Int→Int→List Int→Option (Int×List Int)
 | [],_,size,bound=>some (size,bound)
 | x::xs,deep,size,bound=>
  if op=9∧xs≠ []∧x.op≠qw level then none else
  match aa.C6 level consts codes free x (if xs= []∨op=7∨op=9 then inner else scope) deep size bound with
  | none=>none
  | some (s,b)=>aa.oC level consts codes free op scope inner xs deep s b
end
theorem aa.Dq (level consts codes:Int) (free:Bool) (x:aa) (scope:List Int) (deep size:Int) (bound:List Int):x.C6 level consts codes free scope deep size bound=
  if (decide (deep > 400) || decide (size + 1 > 20000) || !ek x.op level || !dF x || !cB consts codes free x scope)=true then none else
  if (bw x.v bound).1=true then aa.oC level consts codes free x.op scope (scope++x.v) x.t (deep + 1) (size + 1) (bw x.v bound).2 else none:=by
 cases x;rw[aa.C6];rfl
theorem sw: ∀ (l bound:List Int),(bw l bound).2.length≤bound.length + l.length
 | [],bound=>by simp[bw]
 | v::l,bound=>by
  rw[bw]
  split
  ·have:=sw l (bound++ [v]);simp at this ⊢; omega
  ·simp
theorem aa.ND (level consts codes:Int) (free:Bool) (x:aa): ∀ (scope:List Int) (deep size:Int) (bound:List Int) (s:Int) (b:List Int),x.C6 level consts codes free scope deep size bound=some (s,b)→
  size < s∧s≤20000∧b.length≤bound.length + x.aQ:=by
 induction x using aa.ind with
 | h x ih=>
  intro scope deep size bound s b h;rw[aa.Dq] at h
  split at h
  ·cases h
  rename_i hc
  split at h
  ·have key: ∀ (l:List aa),(∀ y∈l, ∀ (scope:List Int) (deep size:Int) (bound:List Int) (s:Int) (b:List Int),y.C6 level consts codes free scope deep size bound=some (s,b)→size < s∧s≤20000∧b.length≤bound.length + y.aQ)→
     ∀ (deep size:Int) (bound:List Int) (s:Int) (b:List Int),size≤20000→aa.oC level consts codes free x.op scope (scope++x.v) l deep size bound=some (s,b)→size≤s∧s≤20000∧b.length≤bound.length + aa.aD l:=by
    intro l
    induction l with
    | nil=>intro _ deep size bound s b h0 h;rw[aa.oC] at h;cases h;rw[aa.aD];omega
    | cons y l ihl=>
     intro hy deep size bound s b h0 h;rw[aa.oC] at h
     split at h
     ·cases h
     split at h
     ·cases h
     ·rename_i s1 b1 h1
      have e1:=hy y (by simp) _ _ _ _ _ _ h1;have e2:=ihl (fun z hz=>hy z (by simp[hz])) _ _ _ _ _ (by omega) h;rw[aa.aD];omega
   have hb:=sw x.v bound;have h2:size + 1≤20000:=by simp at hc;omega
   have:=key x.t ih _ _ _ _ _ h2 h;rw[aa.bu];omega
  ·cases h
def NG (b:Nat) (level consts codes:Int) (free:Bool) (r:Option (Int×List Int)) (y:PV) (Γ':List aj):Prop:=
 y=.bn []∧ ∃ size' bound' tk' ok',tk'.e=3∧Γ'= [.box b (OV level consts codes size' free bound' tk' ok'),.tok tk']∧(ok'=true→r=some (size',bound'))∧(ok'=false→r=none)
theorem qR {level consts codes:Int} {free:Bool} {op:Int} {scope inner:List Int} {l:List aa} {i:Nat} (hlt:i < l.length) {deep sz:Int} {bd:List Int} {total:Option (Int×List Int)}
  (h:total=aa.oC level consts codes free op scope inner (l.drop i) deep sz bd) (okv:Bool) (sc:List Int) (h1:okv=true↔(op=9∧i + 1≠l.length→l[i].op=qw level)) (h2:sc=if i + 1=l.length∨op=7∨op=9 then inner else scope):
  (∀ s b,(if okv=true then l[i].C6 level consts codes free sc deep sz bd else none)=some (s,b)→total=aa.oC level consts codes free op scope inner (l.drop (i + 1)) deep s b)∧
  ((if okv=true then l[i].C6 level consts codes free sc deep sz bd else none)=none→total=none):=by
 have e:l.drop (i + 1)= []↔i + 1=l.length:=by rw[List.drop_eq_nil_iff];omega
 rw[aI hlt,aa.oC] at h;simp only[ne_eq,e] at h;rw[←h2] at h;by_cases ho:okv=true
 ·rw[if_pos ho]
  have:=h1.1 ho;rw[if_neg (fun hh=>hh.2.2 (this ⟨hh.1,hh.2.1⟩))] at h;refine ⟨fun s b hr=>?_,fun hr=>?_⟩
  ·rw[hr] at h;exact h
  ·rw[hr] at h;exact h
 ·rw[if_neg ho]
  refine ⟨fun s b hr=>(by cases hr),fun _=>?_⟩;rw[if_pos] at h
  ·exact h
  ·refine ⟨?_,?_,?_⟩
   ·apply Classical.byContradiction;intro hh;exact ho (h1.2 fun x=>absurd x.1 hh)
   ·intro hh;exact ho (h1.2 fun x=>absurd hh x.2)
   ·intro hh;exact ho (h1.2 fun _=>hh)
theorem uM {level consts codes:Int} {free:Bool} {x:aa} {sc:List Int} {deep sz:Int} {bd:List Int} {R:Int→List Int→Prop} {n:Nat} (okv:Bool) {s:Int} {b:List Int}
  (h:(if okv=true then x.C6 level consts codes free sc deep sz bd else none)=some (s,b)) (k: ∀ s b,(if okv=true then x.C6 level consts codes free sc deep sz bd else none)=some (s,b)→R s b) (h0:0≤sz) (hn:bd.length + (x.aQ + n)≤1000000000):
  0≤s∧s≤20000∧b.length + n≤1000000000∧R s b:=by
 have hk:=k s b h
 split at h
 ·have:=x.ND level consts codes free sc deep sz bd s b h
  exact ⟨by omega,by omega,by omega,hk⟩
 ·cases h
theorem DG {p q:Prop} (k:q) (h:q→p:=by intro hq;first | exact aC.sP (some 19) rfl [] [28,29,30] ai mixed hq):p:=h k
theorem MN (b:Nat) (level consts codes:Int) (free:Bool) (t:aa): ∀ (size deep:Int) (bound scope:List Int) (ok0:Bool) (tk:Tok),tk.e=3→0≤size→size≤20000→0≤deep→deep≤401→bound.length + t.aQ≤1000000000→scope.length + t.aQ≤1000000000→
  af Tryz.prog 41 [.ptr b 0,.agg t.cells,.sl 1 (scope.map (PV.int .i64)) none,.int .i64 deep] [.box b (OV level consts codes size free bound tk ok0),.tok tk]
  (NG b level consts codes free (if ok0=true then t.C6 level consts codes free scope deep size bound else none)):=by
 induction t using aa.ind with
 | h t ih=>
  intro size deep bound scope ok0 tk htk hs0 hs1 hd0 hd1 hb1 hb2;have hbk:=t.bu;have hr:=t.Dq level consts codes free scope deep size bound;refine af.ah ai Tryz.func41 rfl rfl (n:=141) rfl rfl ?_
  conv=>whnf
  repeat' (first|refine dw ?_|((first|(((apply zY;intro hg));(conv=>whnf);(repeat ((first|refine pC (MI _ _) wR ?_|refine pC (I4 t OA) wR ?_|refine av.read (HC b level consts codes (size + 1) free ok0 bound tk t scope) wR ?_|refine aG ?_);conv=>whnf));exact pZ)|refine DG ?_|intro _);conv=>whnf)|(refine zX (fun hc=>?_) (fun hc=>?_)<;>(try simp only[SY] at hc)<;>(conv=>whnf)))
  ·exact ak.gen (Wk.refl _) ⟨rfl,size + 1,bound,tk,false,htk,rfl,fun h=>(by cases h),fun _=>(by split;rw[hr,if_pos (by simp only[SS];exact ‹_∨_›)];rfl)⟩
  ·exact ak.gen (Wk.refl _) ⟨rfl,size + 1,bound,tk,ok0,htk,rfl,fun h=>(by rw[h] at hc;simp at hc),fun h=>by rw[if_neg (by simp[h])]⟩
  rename_i b2 hgood;obtain ⟨⟨⟨⟨g1,g2⟩,g3⟩,g4⟩,g5⟩:=hgood;obtain rfl:ok0=true:=by simpa using hc
  rw[if_pos rfl];rw[if_neg (by simp[g3,g4,g5];omega)] at hr;refine av.go (LC b level consts codes (size + 1) free t.v bound tk htk (by omega)) (aX.refl _) ?_;rintro _ _ ⟨rfl,tk2,htk2,rfl⟩
  conv=>whnf
  skip
  refine aC.sE [] [0,2] [5,6] ai mixed ?_
  conv=>whnf
  repeat (first|refine mj ?_|((intro _);conv=>whnf))
  rename_i t3 ht3;refine aZ.list (l:=([]:List Int)) (f:=PV.int .i64) ht3 (by simp;omega) (by show _ * 8≤_;simp;omega) ?_;intro t4 ht4
  conv=>whnf
  skip
  refine aZ.list (l:= []++scope) (f:=PV.int .i64) ht4 (by simp;omega) (by show _ * 8≤_;simp;omega) ?_;intro t5 ht5
  conv=>whnf
  skip
  rw[List.nil_append];have hbl:=sw t.v bound
  refine aq.over [9,10,11,68,69,70,71,72,73,74,75,76,77,78,79,80,81,82,83,84,85,86,87,88,89,90,91,92,93,94,95,96,97,98,99,100,101,102,103,104,105,106,107,108,109,110,111,112,113,114,115,116,117,118,119,120,121,122,123,124,125,126,127,128,129,130,131,132,133,134,135,136,137,138,139,140] (fun | ((i,sz,bd,ok,tk'):Nat×Int×List Int×Bool×Tok)=> [(9,.int .i64 i)])
   (fun x=> [.box b (OV level consts codes x.2.1 free x.2.2.1 x.2.2.2.2 x.2.2.2.1),.tok x.2.2.2.2,.box b2 [.int .i64 t.op,.int .i64 t.n,.sl 1 (t.v.map (PV.int .i64)) none,.sl 4 (t.t.map aa.pv) none]])
   (fun | (i,sz,bd,ok,tk')=>i≤t.t.length∧tk'.e=3∧(ok=true→0≤sz∧sz≤20000∧bd.length + aa.aD (t.t.drop i)≤1000000000∧t.C6 level consts codes free scope deep size bound=aa.oC level consts codes free t.op scope (scope++t.v) (t.t.drop i) (deep + 1) sz bd)∧
    (ok=false→t.C6 level consts codes free scope deep size bound=none)) (fun | (i,_)=>t.t.length - i) (0,size + 1,(bw t.v bound).2,(bw t.v bound).1,tk2)
   ⟨by simp,htk2,fun h=>⟨by omega,by omega,by rw[List.drop_zero];omega,by rw[hr,if_pos h];rfl⟩,fun h=>by rw[hr,if_neg (by simp[h])]⟩ wA ?_
  rintro ⟨i,sz,bd,ok,tk'⟩ ⟨hi,htk',hok,hno⟩
  conv=>whnf
  repeat' (first|refine dw ?_|((intro _);conv=>whnf)|(refine zX (fun hc=>?_) (fun hc=>?_)<;>(try simp only[SY] at hc)<;>first|omega|(conv=>whnf)))
  rotate_right
  ·refine ak.gen (Wk.refl _) ⟨rfl,sz,bd,tk',ok,htk',rfl,fun h=>?_,hno⟩
   obtain ⟨_,_,_,h3⟩:=hok h;rw[h3,List.drop_of_length_le (by rcases hc with hc | hc;omega;rw[h] at hc;cases hc),aa.oC]
  all_goals
   have hlt:i < t.t.length:=by omega
   obtain rfl:ok=true:=(‹_∧ok=true›).2;obtain ⟨hz,q1,q2,q3⟩:=hok rfl;have hbm:=aa.bz (List.getElem_mem hlt);rw[aI hlt,aa.aD] at q2
  ·obtain ⟨k1,k2⟩:=qR hlt q3 (t.t[i].op == 19) (scope++t.v) (by simp[qw, *];omega) (by rw[if_pos (by omega)])
   refine av.go (ih t.t[i] (List.getElem_mem _) sz (deep + 1) bd (scope++t.v) (t.t[i].op == 19) tk' htk' hz q1 (by omega) (by omega) (by omega) (by first | omega | (simp;omega))) wA ?_;rintro _ _ ⟨rfl,s',b',tk2',ok2,h1,rfl,h3,h4⟩
   conv=>whnf
   repeat (refine mj ?_)
   exact an (i + 1,s',b',ok2,tk2') ⟨by omega,h1,fun h=>uM _ (h3 h) k1 hz (by omega),fun h=>k2 (h4 h)⟩ (by show t.t.length - (i + 1) < t.t.length - i;omega) wA
  ·obtain ⟨k1,k2⟩:=qR hlt q3 (t.t[i].op == 4) (scope++t.v) (by simp[qw, *];omega) (by rw[if_pos (by omega)])
   refine av.go (ih t.t[i] (List.getElem_mem _) sz (deep + 1) bd (scope++t.v) (t.t[i].op == 4) tk' htk' hz q1 (by omega) (by omega) (by omega) (by first | omega | (simp;omega))) wA ?_;rintro _ _ ⟨rfl,s',b',tk2',ok2,h1,rfl,h3,h4⟩
   conv=>whnf
   repeat (refine mj ?_)
   exact an (i + 1,s',b',ok2,tk2') ⟨by omega,h1,fun h=>uM _ (h3 h) k1 hz (by omega),fun h=>k2 (h4 h)⟩ (by show t.t.length - (i + 1) < t.t.length - i;omega) wA
  ·obtain ⟨k1,k2⟩:=qR hlt q3 true (scope++t.v) ⟨fun _ hh=>(by omega),fun _=>rfl⟩ (by rw[if_pos (by omega)])
   refine av.go (ih t.t[i] (List.getElem_mem _) sz (deep + 1) bd (scope++t.v) (true) tk' htk' hz q1 (by omega) (by omega) (by omega) (by first | omega | (simp;omega))) wA ?_;rintro _ _ ⟨rfl,s',b',tk2',ok2,h1,rfl,h3,h4⟩
   conv=>whnf
   repeat (refine mj ?_)
   exact an (i + 1,s',b',ok2,tk2') ⟨by omega,h1,fun h=>uM _ (h3 h) k1 hz (by omega),fun h=>k2 (h4 h)⟩ (by show t.t.length - (i + 1) < t.t.length - i;omega) wA
  ·obtain ⟨k1,k2⟩:=qR hlt q3 true scope ⟨fun _ hh=>(by omega),fun _=>rfl⟩ (by rw[if_neg (by omega)])
   refine av.go (ih t.t[i] (List.getElem_mem _) sz (deep + 1) bd (scope) (true) tk' htk' hz q1 (by omega) (by omega) (by omega) (by first | omega | (simp;omega))) wA ?_;rintro _ _ ⟨rfl,s',b',tk2',ok2,h1,rfl,h3,h4⟩
   conv=>whnf
   repeat (refine mj ?_)
   exact an (i + 1,s',b',ok2,tk2') ⟨by omega,h1,fun h=>uM _ (h3 h) k1 hz (by omega),fun h=>k2 (h4 h)⟩ (by show t.t.length - (i + 1) < t.t.length - i;omega) wA
structure Prog where
 consts:List Datum
 body:aa
def Prog.cells (p:Prog):List PV:=.sl 5 (p.consts.map Datum.pv) none::p.body.cells
def ji (p:Prog) (level:Int):Int:=
 if (decide (level < 0) || decide (level > 2))=true then 1 else
 if (p.consts.all (fun d=>d.bS 0) && (p.body.C6 level p.consts.length 0 false [] 0 0 []).isSome)=true then 0 else 5
theorem DH {p q:Prop} (k:q) (h:q→p:=by intro hq;first | exact aC.sP (some 12) rfl [] [8,9] ai mixed hq):p:=h k
theorem qN (p:Prog) (level:Int) (hb:p.body.aQ≤1000000000) (hl:p.consts.length≤1000000000):aA Tryz.prog 17 [.agg p.cells,.int .i64 level] (.int .i64 (ji p level)):=by
 have hs:ji p level=ji p level:=rfl
 conv at hs=>rhs;unfold ji
 refine af.ah ai Tryz.func17 rfl rfl (n:=34) rfl rfl ?_
 conv=>whnf
 repeat' (first|refine dw ?_|((first|((apply zZ);(conv=>whnf);(repeat ((refine pC (z6 _) wR ?_);conv=>whnf));exact pZ)|refine DH ?_|intro _);conv=>whnf)|(refine zX (fun hc=>?_) (fun hc=>?_)<;>(try simp only[SY] at hc)<;>(conv=>whnf)))
 ·rw[hs,if_pos (by simp only[SS];exact hc)]
  exact ak.pure (Wk.refl _)
 ·rename_i b1 b2
  refine av.OY (au.trans (au.nil 1 3 _) (au.box (b:=b2) (cs:= [.int .i64 level,.int .i64 p.consts.length,.int .i64 0,.bfalse,.int .i64 0,.nil,.bool (p.consts.all fun d=>d.bS 0)]) (cs':=OV level p.consts.length 0 0 false [] (ay 1 3) (p.consts.all fun d=>d.bS 0)) wA))
   (MN b2 level p.consts.length 0 false p.body 0 0 [] [] (p.consts.all fun d=>d.bS 0) (ay 1 3) rfl (by omega) (by omega) (by omega) (by omega) (by simp;omega) (by simp;omega)) wA ?_
  rintro _ _ ⟨rfl,s',b',tk,ok,h1,rfl,h3,h4⟩;rw[hc] at h3 h4;simp only[if_true] at h3 h4
  conv=>whnf
  repeat' (first|refine dw ?_|(refine zX (fun hc=>?_) (fun hc=>?_)<;>(try simp only[SY] at hc)<;>(conv=>whnf)))
  ·rw[hs,if_neg (by simp only[SS];omega),if_neg (by rw[h4 hc];simp)]
   exact ak.pure (Wk.refl _)
  ·rw[hs,if_neg (by simp only[SS];omega),if_pos (by rw[h3 hc];simp[*])]
   exact ak.pure (Wk.refl _)
 ·rw[hs,if_neg (by simp only[SS];omega),if_neg (by simp[*])]
  exact ak.pure (Wk.refl _)
 ·rename_i hx;rw[hc] at hx;cases hx
abbrev OR:aa:=.mk 0 0 [] []
structure QW where
 p:Prog
 e:Int
def HM (ok:Prog→Bool) (nf:Int) (d:Datum):QW:=
 if BG d=false then ⟨⟨[],OR⟩,3⟩ else
 let r:=TF nf d.sz d [] ⟨[],0,false⟩
 if r.2.lost=true then ⟨⟨[],OR⟩,4⟩ else
 if ok ⟨r.2.cs,r.1⟩=false then ⟨⟨[],OR⟩,3⟩ else ⟨⟨r.2.cs,r.1⟩,0⟩
open Go.Lib
def eA (l:List Int):List Int:=compact (l.mergeSort fun x y=>decide (x≤y))
theorem fS {α:Type} [Inhabited α] {l:List α} {j:Nat} (h:j < l.length):l.toArray[j]! =l[j]:=by
 rw[getElem!_pos _ j (by simpa using h)];simp
theorem Cs (l:List Int) (x:Int):x∈compact l↔x∈l:=by
 unfold compact compactUpTo;simp only[List.mem_map,List.mem_filter,List.mem_range];constructor
 ·rintro ⟨j,⟨hj,_⟩,rfl⟩
  rw[fS hj];exact List.getElem_mem hj
 ·intro hx
  have key: ∀ n (j:Nat) (hj:j < l.length),j≤n→l[j]=x→ ∃ i,(i < l.length∧keeps l.toArray i=true)∧l.toArray[i]! =x:=by
   intro n
   induction n with
   | zero=>
    intro j hj hn e;obtain rfl:j=0:=by omega
    exact ⟨0,⟨hj,keeps_lt_one _ 0 (by omega)⟩,by rw[fS hj,e]⟩
   | succ n ih=>
    intro j hj hn e;by_cases h0:j=0
    ·subst h0
     exact ⟨0,⟨hj,keeps_lt_one _ 0 (by omega)⟩,by rw[fS hj,e]⟩
    by_cases hp:l[j - 1]=x
    ·exact ih (j - 1) (by omega) (by omega) hp
    ·refine ⟨j,⟨hj,keeps_pos ?_⟩,by rw[fS hj,e]⟩
     rw[fS hj,fS (show j - 1 < l.length by omega),e];exact fun h=>hp h.symm
  obtain ⟨j,hj,e⟩:=List.getElem_of_mem hx;exact key j j hj (Nat.le_refl _) e
theorem JB {l:List Int} {j:Nat} (h0:0 < j) (hj:j < l.length) (h:keeps l.toArray j=true):l[j]≠l[j - 1]:=by
 intro e;have:=keeps_neg (d:=l.toArray) h0 (by rw[fS hj,fS (show j - 1 < l.length by omega)];exact e);rw[this] at h;cases h
theorem Dw {l:List Int} (h:l.Pairwise (· ≤ ·)):(compact l).Pairwise (· < ·):=by
 unfold compact compactUpTo;rw[List.pairwise_map];refine List.Pairwise.imp_of_mem ?_ (List.Pairwise.filter _ List.pairwise_lt_range);intro i j hi hj hij;simp only[List.mem_filter,List.mem_range] at hi hj;rw[fS hi.1,fS hj.1];have h1:=JB (by omega) hj.1 hj.2;have hp:=List.pairwise_iff_getElem.1 h;have h2:l[j - 1]≤l[j]:=hp (j - 1) j (by omega) hj.1 (by omega)
 have h3:l[i]≤l[j - 1]:=by
  by_cases e:i=j - 1
  ·subst e;omega
  ·exact hp i (j - 1) hi.1 (by omega) (by omega)
 omega
theorem nM (l:List Int) (x:Int):x∈eA l↔x∈l:=by
 unfold eA;rw[Cs,List.mem_mergeSort]
theorem HZ (l:List Int):(l.mergeSort fun x y=>decide (x≤y)).Pairwise (· ≤ ·):=by
 have:=List.pairwise_mergeSort (le:=fun x y:Int=>decide (x≤y)) (by intro a b c;simp;omega) (by intro a b;simp;omega) l;simpa using this
theorem AQ (l:List Int):(eA l).Pairwise (· < ·):=Dw (HZ l)
theorem D7: ∀ {l m:List Int},l.Pairwise (· < ·)→m.Pairwise (· < ·)→(∀ x,x∈l↔x∈m)→l=m
 | [], [],_,_,_=>rfl
 | [],y::m,_,_,h=>by have:=(h y).2 (by simp);cases this
 | x::l, [],_,_,h=>by have:=(h x).1 (by simp);cases this
 | x::l,y::m,hl,hm,h=>by
  rw[List.pairwise_cons] at hl hm
  have hxy:x=y:=by
   have h1:=(h x).1 (by simp);have h2:=(h y).2 (by simp);rw[List.mem_cons] at h1 h2;rcases h1 with h1 | h1
   ·exact h1
   ·rcases h2 with h2 | h2
    ·exact h2.symm
    ·have:=hl.1 _ h2;have:=hm.1 _ h1;omega
  subst hxy;rw[D7 hl.2 hm.2 fun z=>?_];have:=h z;simp only[List.mem_cons] at this;constructor
  ·intro hz
   have hlt:=hl.1 z hz;exact (this.1 (.inr hz)).resolve_left (by omega)
  ·intro hz
   have hlt:=hm.1 z hz;exact (this.2 (.inr hz)).resolve_left (by omega)
theorem Kr {l:List Int} (h:l.Nodup):(eA l).length=l.length:=by
 have h1:(eA l).Nodup:=(AQ l).imp fun h=>by omega
 have:(eA l).Perm l:=(List.perm_ext_iff_of_nodup h1 h).2 (nM l);exact this.length_eq
def kJ (consts codes:Int) (free:Bool) (t:aa) (scope:List Int):Bool:=
 if t.op=0 then decide (t.n≥0) && decide (t.n < consts) else
 if t.op=1∨t.op=2∨t.op=14 then scope.contains t.n else
 if t.op=11∨t.op=10 then decide (0≤t.n∧t.n < 31) else
 if t.op=4 then t.n == 0 || (t.n == 1 && decide ((t.v.length:Int) > 0)) else
 if t.op=7 then t.n == 0 || t.n == 1 else
 if t.op=19∨t.op=21∨t.op=22 then decide (t.n≥0) && decide (t.n < codes) else
 if t.op=20 then decide (t.n≥0) && free else t.n == 0
theorem tN: ∀ (l b1 b2:List Int),(∀ x,x∈b1↔x∈b2)→(bw l b1).1=(bw l b2).1
 | [],_,_,_=>rfl
 | v::l,b1,b2,h=>by
  have hv:K6 b1 v=K6 b2 v:=by
   have:b1.contains v=b2.contains v:=by rw[Bool.eq_iff_iff];simp[h]
   unfold K6;rw[this]
  rw[bw,bw,hv]
  split
  ·exact tN l _ _ (by intro x;simp[h])
  ·rfl
theorem Bt (c rb rs:Nat) (level consts codes size:Int) (frees:Bool) (l bound scope:List Int) (pb ps:List (Int×Value)):
  af Tryz.prog 80 [.ptr c 0,.sl 1 (l.map (PV.int .i64)) none,.mp rs] [.box c (vv level consts codes size frees rb),.mp rb (.int .i64) (aT bound) pb,.mp rs (.int .i64) (aT scope) ps]
  (fun y Γ'=>y=.bool (bw l bound).1∧ ∃ pb' mb ms,Γ'= [.box c (vv level consts codes size frees rb),.mp rb (.int .i64) mb pb',.mp rs (.int .i64) ms []]∧((bw l bound).1=true→mb=aT (bound++l)∧ms=aT (scope++l))):=by
 refine af.ghost (Γ':= [.box c (vv level consts codes size frees rb),.mp rb (.int .i64) (aT bound) [],.mp rs (.int .i64) (aT scope) []]) (au.trans (Γ':= [.box c (vv level consts codes size frees rb),.mp rb (.int .i64) (aT bound) [],.mp rs (.int .i64) (aT scope) ps]) (au.cN rb) (au.cN rs)) ?_;refine af.ah ai Tryz.func80 rfl rfl (n:=39) rfl rfl ?_
 conv=>whnf
 repeat (first|refine mj ?_|((intro _);conv=>whnf))
 refine aq.over [6,8,11,12,13,14,15,16,17,18,19,20,21,22,23,24,25,26,27,28,29,30,31,32,33,34,35,36,37,38] (fun | ((i,bd,sc,pb):Nat×List Int×List Int×List (Int×Value))=> [(11,.int .i64 i)])
  (fun x=> [.box c (vv level consts codes size frees rb),.mp rb (.int .i64) (aT x.2.1) x.2.2.2,.mp rs (.int .i64) (aT x.2.2.1) []])
  (fun | (i,bd,sc,pb)=>i≤l.length∧(∀ x,x∈bd↔x∈bound∨x∈l.take i)∧(∀ x,x∈sc↔x∈scope∨x∈l.take i)∧(bw (l.drop i) bd).1=(bw l bound).1∧ ∀ q∈pb,q.2≠.tuple #[]) (fun | (i,_)=>l.length - i) (0,bound,scope, [])
  ⟨by omega,by simp,by simp,rfl,by simp⟩ wA ?_
 rintro ⟨i,bd,sc,pb'⟩ ⟨hi,hbd,hsc,hr,hpb⟩
 conv=>whnf
 repeat' (first|refine dw ?_|(refine zX (fun hc=>?_) (fun hc=>?_)<;>(try simp only[SY] at hc)<;>(conv=>whnf)))
 ·have hlt:i < l.length:=by omega
  have hb:(bw l bound).1=false:=by
   rw[←hr,aI hlt,bw,if_neg (by simp only[K6,SS];rintro ⟨h,h'⟩;rw[h'] at hc;simp at hc;omega)]
  exact ak.gen (Wk.ff hb) ⟨rfl,pb',aT bd,aT sc,rfl,fun h=>by rw[hb] at h;cases h⟩
 ·have hlt:i < l.length:=by omega
  refine ef.set hc.2 ?_ (.inr hpb);intro j
  conv=>whnf
  refine cF.set ?_
  conv=>whnf
  repeat (refine mj ?_)
  have htk: ∀ x,x∈l.take (i + 1)↔x=l[i]∨x∈l.take i:=by
   intro x;rw[List.take_succ_eq_append_getElem hlt,List.mem_append,List.mem_singleton,or_comm]
  refine an (i + 1,l[i]::bd,l[i]::sc,(j,.int .i64 l[i])::pb') ⟨by omega,fun x=>?_,fun x=>?_,?_,?_⟩ (by show l.length - (i + 1) < l.length - i;omega) wA
  ·rw[htk,List.mem_cons,hbd]
   constructor
   ·rintro (h | h | h)
    ·exact .inr (.inl h)
    ·exact .inl h
    ·exact .inr (.inr h)
   ·rintro (h | h | h)
    ·exact .inr (.inl h)
    ·exact .inl h
    ·exact .inr (.inr h)
  ·rw[htk,List.mem_cons,hsc]
   constructor
   ·rintro (h | h | h)
    ·exact .inr (.inl h)
    ·exact .inl h
    ·exact .inr (.inr h)
   ·rintro (h | h | h)
    ·exact .inr (.inl h)
    ·exact .inl h
    ·exact .inr (.inr h)
  ·rw[←hr,aI hlt,bw,if_pos (by simp only[K6,SS];exact hc)]
   exact tN _ _ _ (by intro x;simp[or_comm])
  ·intro q hq
   rcases List.mem_cons.1 hq with rfl | hq
   ·simp
   ·exact hpb q hq
 ·have hb:(bw l bound).1=true:=by rw[←hr,List.drop_of_length_le (by omega),bw]
  have ht:l.take i=l:=List.take_of_length_le (by omega);rw[ht] at hbd hsc;exact ak.gen (Wk.tt hb) ⟨rfl,pb',aT bd,aT sc,rfl,fun _=>⟨qv (by simpa using hbd),qv (by simpa using hsc)⟩⟩
theorem DJ {p q:Prop} (k:q) (h:q→p:=by intro hq;first | exact aC.sP (some 13) rfl [] [] ai mixed hq | exact aC.sP (some 73) rfl [] [] ai mixed hq):p:=h k
theorem Ed (c rb rs:Nat) (level consts codes size:Int) (frees:Bool) (t:aa) (scope:List Int) (ps:List (Int×Value)):
  af Tryz.prog 77 [.ptr c 0,.agg t.cells,.mp rs] [.box c (vv level consts codes size frees rb),.mp rs (.int .i64) (aT scope) ps]
  (fun y Γ'=>y=.bool (kJ consts codes frees t scope)∧Γ'= [.box c (vv level consts codes size frees rb),.mp rs (.int .i64) (aT scope) ps]):=by
 have hs:kJ consts codes frees t scope=kJ consts codes frees t scope:=rfl
 conv at hs=>rhs;unfold kJ
 refine af.ah ai Tryz.func77 rfl rfl (n:=99) rfl rfl ?_
 conv=>whnf
 repeat' (first|refine dw ?_|((first|refine pC (Lr _) wR ?_|refine DJ ?_|intro _);conv=>whnf)|(refine zX (fun hc=>?_) (fun hc=>?_)<;>(try simp only[SY] at hc)<;>first|omega|(conv=>whnf)))
 all_goals repeat (first|rw[if_neg (by omega)] at hs|rw[if_pos (by omega)] at hs)
 all_goals rw[hs]
 all_goals exact ak.gen (Wk.refl _) ⟨rfl,rfl⟩
theorem uI (k:Nat) (cap:List PV) (l:List aa) (J:Nat→List aj→Prop) (X:Nat→List aj→Prop)
  (hf: ∀ i x Γ,l[i]?=some x→J i Γ→af Tryz.prog k (.agg (aa.cells x)::cap) Γ (fun y Γ'=>(y=.bool false∧J (i + 1) Γ')∨(y=.bool true∧X i Γ'))) (Γ0:List aj) (h0:J 0 Γ0):
  af Tryz.prog 136 [.sl 4 (l.map aa.pv) none,.fn (.func k) cap] Γ0 (fun y Γ'=>(y=.int .i64 (-1)∧J l.length Γ')∨ ∃ i:Nat,y=.int .i64 i∧i < l.length∧X i Γ'):=by
 refine af.ah ai Tryz.func136 rfl rfl (n:=19) rfl rfl ?_
 conv=>whnf
 repeat (first|refine mj ?_|((intro _);conv=>whnf))
 refine aq.over [4,5,8,9,10,11,12,13,14,15,16,17,18] (fun s:Nat×List aj=> [(8,.int .i64 s.1)]) (fun s=>s.2) (fun s=>s.1≤l.length∧J s.1 s.2) (fun s=>l.length - s.1) (0,Γ0) ⟨by omega,h0⟩ wA ?_;rintro ⟨i,Γ⟩ ⟨h1,h2⟩
 conv=>whnf
 repeat' (first|refine dw ?_|(refine zX (fun hc=>?_) (fun hc=>?_)<;>(try simp only[SY] at hc)<;>(conv=>whnf)))
 ·have hlt:i < l.length:=by omega
  refine av.same (hf i _ Γ (List.getElem?_eq_getElem hlt) h2) (aX.refl _) ?_;rintro _ Γ' (⟨rfl,h⟩ | ⟨rfl,h⟩)
  ·conv=>whnf
   repeat' (first|refine dw ?_|(refine zX (fun hc=>?_) (fun hc=>?_)<;>(try simp only[SY] at hc)<;>(conv=>whnf)))
   ·exact an (i + 1,Γ') ⟨by omega,h⟩ (by show l.length - (i + 1) < l.length - i;omega) wA
  ·conv=>whnf
   repeat' ((refine zX (fun hc=>?_) (fun hc=>?_)<;>(try simp only[SY] at hc)<;>(conv=>whnf)))
   ·exact ak.gen (Wk.refl _) (.inr ⟨i,rfl,hlt,h⟩)
 ·obtain rfl:i=l.length:=by omega
  exact ak.gen (Wk.refl _) (.inl ⟨rfl,h2⟩)
theorem o7 (k:Nat) (cap:List PV) (l:List aa) (J:Nat→List aj→Prop) (X:Nat→List aj→Prop)
  (hf: ∀ i x Γ,l[i]?=some x→J i Γ→af Tryz.prog k (.agg (aa.cells x)::cap) Γ (fun y Γ'=>(y=.bool false∧J (i + 1) Γ')∨(y=.bool true∧X i Γ'))) (Γ0:List aj) (h0:J 0 Γ0):
  af Tryz.prog 81 [.sl 4 (l.map aa.pv) none,.fn (.func k) cap] Γ0 (fun y Γ'=>(y=.bool false∧J l.length Γ')∨ ∃ i:Nat,y=.bool true∧i < l.length∧X i Γ'):=by
 refine af.ah ai Tryz.func81 rfl rfl (n:=9) rfl rfl ?_
 conv=>whnf
 skip
 refine av.same (uI k cap l J X hf Γ0 h0) (aX.refl _) ?_;rintro _ Γ' (⟨rfl,h⟩ | ⟨i,rfl,hi,h⟩)
 ·conv=>whnf
  skip
  exact ak.gen (Wk.bool rfl) (.inl ⟨rfl,h⟩)
 ·conv=>whnf
  skip
  exact ak.gen (Wk.bool (by simp)) (.inr ⟨i,rfl,hi,h⟩)
def mq (s:List Int) (m:Value→Option PV) (v:Value):Option PV:=match v with
 | .int .i64 k=>if s.contains k then none else m v
 | v=>m v
theorem I8 (m:Value→Option PV):mq [] m=m:=by
 funext v;unfold mq;split<;>simp
theorem dZ.Qp {r:Nat} {s:List Int} {n:Int} {m:Value→Option PV} {Γ:List aj} {aL:List (Int×Value)} {put:(Value→Option PV)→List (Int×Value)→List aj} [hp:de Γ r (.int .i64) (mq s m) aL put] {K:List aj→Prop} (h:K (put (mq (s++ [n]) m) [])):
  dZ r (.int .i64) (some (.int .i64 n)) Γ K:=
 dZ.at_ (hp:=hp) (mq (s++ [n]) m) (by simp[oX,MapKept.IsKey]) (by simp[mq]) (fun k hk=>by
  unfold mq
  split
  ·rename_i m
   have hm:m≠n:=fun e=>hk (by rw[e]);have:(s++ [n]).contains m=s.contains m:=by rw[Bool.eq_iff_iff];simp[hm]
   rw[this]
  ·rfl) h
theorem xR (v scope:List Int) (h: ∀ x∈scope,x∉v):mq v (aT (scope++v))=aT scope:=by
 funext k;unfold mq aT
 split
 ·rename_i n
  by_cases h1:n∈v
  ·have:n∉scope:=fun h2=>h n h2 h1
   simp[h1,this]
  ·simp[h1]
 ·rename_i hne
  split
  ·rename_i n;exact absurd rfl (hne n)
  ·rfl
theorem uP (b5 b6 rs:Nat) (op n:Int) (v:List Int) (ts:List PV) (m:Value→Option PV) (ps:List (Int×Value)):
  m7 Tryz.prog 79 [.ptr b5 0,.ptr b6 0] [.box b5 [.int .i64 op,.int .i64 n,.sl 1 (v.map (PV.int .i64)) none,.sl 4 ts none],.box b6 [.mp rs],.mp rs (.int .i64) m ps]
  (fun _ Γ'=> ∃ ps',Γ'= [.box b5 [.int .i64 op,.int .i64 n,.sl 1 (v.map (PV.int .i64)) none,.sl 4 ts none],.box b6 [.mp rs],.mp rs (.int .i64) (mq v m) ps']):=by
 have key:m7 Tryz.prog 79 [.ptr b5 0,.ptr b6 0] [.box b5 [.int .i64 op,.int .i64 n,.sl 1 (v.map (PV.int .i64)) none,.sl 4 ts none],.box b6 [.mp rs],.mp rs (.int .i64) (mq (v.take 0) m) ps]
   (fun _ Γ'=> ∃ ps',Γ'= [.box b5 [.int .i64 op,.int .i64 n,.sl 1 (v.map (PV.int .i64)) none,.sl 4 ts none],.box b6 [.mp rs],.mp rs (.int .i64) (mq v m) ps']):=by
  refine m7.ah ai Tryz.func79 rfl rfl (n:=14) rfl rfl ?_
  conv=>whnf
  repeat (first|refine mj ?_|((intro _);conv=>whnf))
  refine aq.over [3,7,8,9,10,11,12,13] (fun (x:Nat×List (Int×Value))=> [(7,.int .i64 x.1)])
   (fun (x:Nat×List (Int×Value))=> [.box b5 [.int .i64 op,.int .i64 n,.sl 1 (v.map (PV.int .i64)) none,.sl 4 ts none],.box b6 [.mp rs],.mp rs (.int .i64) (mq (v.take x.1) m) x.2]) (fun x=>x.1≤v.length) (fun x=>v.length - x.1) (0,ps) (by simp) wA ?_
  rintro ⟨i,ps'⟩ hi
  conv=>whnf
  repeat' (first|refine dw ?_|(refine zX (fun hc=>?_) (fun hc=>?_)<;>(try simp only[SY] at hc)<;>(conv=>whnf)))
  ·have hlt:i < v.length:=by omega
   refine dZ.Qp ?_
   conv=>whnf
   repeat (refine mj ?_)
   show jK _ _ _ _ _ _ _ _ _ [_,_,.mp rs (.int .i64) (mq (v.take i++ [v[i]]) m) []] _;rw[←List.take_succ_eq_append_getElem hlt];exact an (i + 1, []) (by show i + 1≤v.length;omega) (by show v.length - (i + 1) < v.length - i;omega) wA
  ·refine ⟨rfl,?_⟩
   have ht:v.take i=v:=List.take_of_length_le (by omega);show AP _ _ _ [_,_,.mp rs (.int .i64) (mq (v.take i) m) ps'] _;rw[ht]
   conv=>whnf
   exact ak.gen (Wk.refl _) ⟨ps',rfl⟩
 rw[List.take_zero,I8] at key;exact key
def zn (level consts codes:Int) (free:Bool) (t:aa) (scope:List Int) (deep size:Int):Bool:=
 !(cQ t.op).2 || decide (deep > 400) || decide (size > 20000) || decide (level < (cQ t.op).1.fm) || decide (level > (cQ t.op).1.to) || !nj (cQ t.op).1 t || !kJ consts codes free t scope
mutual
def aa.tQ (level consts codes:Int) (free:Bool):aa→List Int→Int→Int→List Int→Option (Int×List Int)
 | .mk op n v t,scope,deep,size,bound=>
  if zn level consts codes free (.mk op n v t) scope deep (size + 1)=true then none else
  if fk op=true then
   if (op == 9 && !jq level t.dropLast)=true then none else if (bw v bound).1=true then aa.kT level consts codes free (scope++v) t (deep + 1) (size + 1) (bound++v) else none
  else aa.qQ level consts codes free scope v t (deep + 1) (size + 1) bound
def aa.kT (level consts codes:Int) (free:Bool) (scope:List Int):List aa→Int→Int→List Int→Option (Int×List Int)
 | [],_,size,bound=>some (size,bound)
 | x::xs,deep,size,bound=>
  match aa.tQ level consts codes free x scope deep size bound with
  | none=>none
  | some (s,b)=>aa.kT level consts codes free scope xs deep s b
def aa.qQ (level consts codes:Int) (free:Bool) (scope v:List Int):List aa→Int→Int→List Int→Option (Int×List Int)
 | [],_,size,bound=>if (bw v bound).1=true then some (size,bound++v) else none
 | x::xs,deep,size,bound=>
  if xs.isEmpty=true then (if (bw v bound).1=true then aa.tQ level consts codes free x (scope++v) deep size (bound++v) else none) else
  match aa.tQ level consts codes free x scope deep size bound with
  | none=>none
  | some (s,b)=>aa.qQ level consts codes free scope v xs deep s b
end
theorem aa.Dr (level consts codes:Int) (free:Bool) (t:aa) (scope:List Int) (deep size:Int) (bound:List Int):t.tQ level consts codes free scope deep size bound=
  if zn level consts codes free t scope deep (size + 1)=true then none else
  if fk t.op=true then
   if (t.op == 9 && !jq level t.t.dropLast)=true then none else if (bw t.v bound).1=true then aa.kT level consts codes free (scope++t.v) t.t (deep + 1) (size + 1) (bound++t.v) else none
  else aa.qQ level consts codes free scope t.v t.t (deep + 1) (size + 1) bound:=by
 cases t;rw[aa.tQ];rfl
theorem aa.IV (level consts codes:Int) (free:Bool) (x:aa): ∀ (scope:List Int) (deep size:Int) (bound:List Int) (s:Int) (b:List Int),x.tQ level consts codes free scope deep size bound=some (s,b)→
  size < s∧s≤20000∧ ∀ v∈bound,v∈b:=by
 induction x using aa.ind with
 | h x ih=>
  intro scope deep size bound s b h;rw[aa.Dr] at h
  split at h
  ·cases h
  rename_i hc;have hsz:size + 1≤20000:=by simp[zn] at hc;omega
  split at h
  ·split at h
   ·cases h
   split at h
   ·have key: ∀ (l:List aa),(∀ y∈l, ∀ (scope:List Int) (deep size:Int) (bound:List Int) (s:Int) (b:List Int),y.tQ level consts codes free scope deep size bound=some (s,b)→size < s∧s≤20000∧ ∀ v∈bound,v∈b)→
      ∀ (sc:List Int) (deep size:Int) (bound:List Int) (s:Int) (b:List Int),size≤20000→aa.kT level consts codes free sc l deep size bound=some (s,b)→size≤s∧s≤20000∧ ∀ v∈bound,v∈b:=by
     intro l
     induction l with
     | nil=>intro _ sc deep size bound s b h0 h;rw[aa.kT] at h;cases h;exact ⟨by omega,by omega,fun _ h=>h⟩
     | cons y l ihl=>
      intro hy sc deep size bound s b h0 h;rw[aa.kT] at h
      split at h
      ·cases h
      ·rename_i s1 b1 h1
       have e1:=hy y (by simp) _ _ _ _ _ _ h1;have e2:=ihl (fun z hz=>hy z (by simp[hz])) _ _ _ _ _ _ (by omega) h;exact ⟨by omega,e2.2.1,fun v hv=>e2.2.2 v (e1.2.2 v hv)⟩
    have:=key x.t ih _ _ _ _ _ _ hsz h;exact ⟨by omega,this.2.1,fun v hv=>this.2.2 v (by simp[hv])⟩
   ·cases h
  ·have key: ∀ (l:List aa),(∀ y∈l, ∀ (scope:List Int) (deep size:Int) (bound:List Int) (s:Int) (b:List Int),y.tQ level consts codes free scope deep size bound=some (s,b)→size < s∧s≤20000∧ ∀ v∈bound,v∈b)→
     ∀ (sc:List Int) (deep size:Int) (bound:List Int) (s:Int) (b:List Int),size≤20000→aa.qQ level consts codes free sc x.v l deep size bound=some (s,b)→size≤s∧s≤20000∧ ∀ v∈bound,v∈b:=by
    intro l
    induction l with
    | nil=>
     intro _ sc deep size bound s b h0 h;rw[aa.qQ] at h
     split at h
     ·cases h;exact ⟨by omega,by omega,fun _ h=>by simp[h]⟩
     ·cases h
    | cons y l ihl=>
     intro hy sc deep size bound s b h0 h;rw[aa.qQ] at h
     split at h
     ·split at h
      ·have e1:=hy y (by simp) _ _ _ _ _ _ h
       exact ⟨by omega,e1.2.1,fun v hv=>e1.2.2 v (by simp[hv])⟩
      ·cases h
     split at h
     ·cases h
     ·rename_i s1 b1 h1
      have e1:=hy y (by simp) _ _ _ _ _ _ h1;have e2:=ihl (fun z hz=>hy z (by simp[hz])) _ _ _ _ _ _ (by omega) h;exact ⟨by omega,e2.2.1,fun v hv=>e2.2.2 v (e1.2.2 v hv)⟩
   have:=key x.t ih _ _ _ _ _ _ hsz h;exact ⟨by omega,this.2⟩
def Kb (c rb rs:Nat) (level consts codes:Int) (free:Bool) (scope:List Int) (r:Option (Int×List Int)) (y:PV) (Γ':List aj):Prop:=
 y=.bool r.isSome∧ ∃ size' mb ms pb' ps',Γ'= [.box c (vv level consts codes size' free rb),.mp rb (.int .i64) mb pb',.mp rs (.int .i64) ms ps']∧ ∀ s b,r=some (s,b)→size'=s∧mb=aT b∧ms=aT scope
theorem HO (c rb rs b4 b6 b7:Nat) (level consts codes:Int) (free:Bool) (x:aa) (scope:List Int) (deep size:Int) (bound:List Int) (pb ps:List (Int×Value)) (hd0:0≤deep) (hd1:deep≤400)
  (hx:af Tryz.prog 48 [.ptr c 0,.agg x.cells,.mp rs,.int .i64 (deep + 1)] [.box c (vv level consts codes size free rb),.mp rb (.int .i64) (aT bound) pb,.mp rs (.int .i64) (aT scope) ps]
   (Kb c rb rs level consts codes free scope (x.tQ level consts codes free scope (deep + 1) size bound))):
  af Tryz.prog 82 [.agg x.cells,.ptr b4 0,.ptr b6 0,.ptr b7 0] [.box c (vv level consts codes size free rb),.mp rb (.int .i64) (aT bound) pb,.mp rs (.int .i64) (aT scope) ps,.box b4 [.ptr c 0],.box b6 [.mp rs],.box b7 [.int .i64 deep]]
   (fun y Γ'=> ∃ size' mb ms pb' ps',y=.bool (!(x.tQ level consts codes free scope (deep + 1) size bound).isSome)∧Γ'= [.box c (vv level consts codes size' free rb),.mp rb (.int .i64) mb pb',.mp rs (.int .i64) ms ps',.box b4 [.ptr c 0],.box b6 [.mp rs],.box b7 [.int .i64 deep]]∧
    ∀ s b,x.tQ level consts codes free scope (deep + 1) size bound=some (s,b)→size'=s∧mb=aT b∧ms=aT scope):=by
 refine af.ah ai Tryz.func82 rfl rfl (n:=13) rfl rfl ?_
 conv=>whnf
 repeat' (first|refine dw ?_|((intro _);conv=>whnf)|(refine zX (fun hc=>?_) (fun hc=>?_)<;>(try simp only[SY] at hc)<;>omega))
 refine av.go hx (aX.refl _) ?_;rintro _ _ ⟨rfl,sz2,mb,ms,pb2,ps2,rfl,hs⟩
 conv=>whnf
 skip
 exact ak.gen (Wk.refl _) ⟨sz2,mb,ms,pb2,ps2,rfl,rfl,hs⟩
theorem ET (c rb rs b4 b6 b7:Nat) (level consts codes:Int) (free:Bool) (l:List aa) (scope:List Int) (deep:Int) (hd0:0≤deep) (hd1:deep≤400)
  (ih: ∀ x∈l, ∀ (size:Int) (bound:List Int) (pb ps:List (Int×Value)),0≤size→size≤20000→(∀ x∈scope,x∈bound)→af Tryz.prog 48 [.ptr c 0,.agg x.cells,.mp rs,.int .i64 (deep + 1)] [.box c (vv level consts codes size free rb),.mp rb (.int .i64) (aT bound) pb,.mp rs (.int .i64) (aT scope) ps]
   (Kb c rb rs level consts codes free scope (x.tQ level consts codes free scope (deep + 1) size bound)))
  (size:Int) (bound:List Int) (pb ps:List (Int×Value)) (hs0:0≤size) (hs1:size≤20000) (hsub: ∀ x∈scope,x∈bound):
  af Tryz.prog 81 [.sl 4 (l.map aa.pv) none,.fn (.func 82) [.ptr b4 0,.ptr b6 0,.ptr b7 0]] [.box c (vv level consts codes size free rb),.mp rb (.int .i64) (aT bound) pb,.mp rs (.int .i64) (aT scope) ps,.box b4 [.ptr c 0],.box b6 [.mp rs],.box b7 [.int .i64 deep]]
   (fun y Γ'=> ∃ size' mb ms pb' ps',y=.bool (!(aa.kT level consts codes free scope l (deep + 1) size bound).isSome)∧Γ'= [.box c (vv level consts codes size' free rb),.mp rb (.int .i64) mb pb',.mp rs (.int .i64) ms ps',.box b4 [.ptr c 0],.box b6 [.mp rs],.box b7 [.int .i64 deep]]∧
    ∀ s b,aa.kT level consts codes free scope l (deep + 1) size bound=some (s,b)→size'=s∧mb=aT b∧ms=aT scope):=by
 refine (o7 82 [.ptr b4 0,.ptr b6 0,.ptr b7 0] l
  (fun i Γ=> ∃ sz bd pb ps,Γ= [.box c (vv level consts codes sz free rb),.mp rb (.int .i64) (aT bd) pb,.mp rs (.int .i64) (aT scope) ps,.box b4 [.ptr c 0],.box b6 [.mp rs],.box b7 [.int .i64 deep]]∧0≤sz∧sz≤20000∧(∀ x∈scope,x∈bd)∧aa.kT level consts codes free scope l (deep + 1) size bound=aa.kT level consts codes free scope (l.drop i) (deep + 1) sz bd)
  (fun _ Γ=> ∃ sz mb ms pb ps,Γ= [.box c (vv level consts codes sz free rb),.mp rb (.int .i64) mb pb,.mp rs (.int .i64) ms ps,.box b4 [.ptr c 0],.box b6 [.mp rs],.box b7 [.int .i64 deep]]∧aa.kT level consts codes free scope l (deep + 1) size bound=none)
  ?_ _ ⟨size,bound,pb,ps,rfl,hs0,hs1,hsub,rfl⟩).mono ?_
 ·rintro i x _ hx ⟨sz,bd,pb,ps,rfl,h0,h1,h2,h3⟩
  obtain ⟨hi,rfl⟩:=List.getElem?_eq_some_iff.1 hx;refine (HO c rb rs b4 b6 b7 level consts codes free l[i] scope deep sz bd pb ps hd0 hd1 (ih _ (List.getElem_mem _) sz bd pb ps h0 h1 h2)).mono ?_;rintro _ _ ⟨sz2,mb,ms,pb2,ps2,rfl,rfl,hs⟩;rw[aI hi,aa.kT] at h3
  cases e:aa.tQ level consts codes free l[i] scope (deep + 1) sz bd with
  | none=>rw[e] at h3;exact .inr ⟨by simp[PV.bool],sz2,mb,ms,pb2,ps2,rfl,h3⟩
  | some q=>
   obtain ⟨s1,b1⟩:=q;obtain ⟨rfl,rfl,rfl⟩:=hs s1 b1 e;have hbd:=aa.IV _ _ _ _ _ _ _ _ _ _ _ e;rw[e] at h3;exact .inl ⟨by simp[PV.bool],sz2,b1,pb2,ps2,rfl,by omega,hbd.2.1,fun x h=>hbd.2.2 x (h2 x h),h3⟩
 ·rintro _ _ (⟨rfl,sz,bd,pb,ps,rfl,h0,h1,h2,h3⟩ | ⟨i,rfl,hi,sz,mb,ms,pb,ps,rfl,h3⟩)
  ·rw[List.drop_length,aa.kT] at h3
   rw[h3];exact ⟨sz,aT bd,aT scope,pb,ps,rfl,rfl,fun s b h=>by cases h;exact ⟨rfl,rfl,rfl⟩⟩
  ·rw[h3]
   exact ⟨sz,mb,ms,pb,ps,rfl,rfl,fun s b h=>by cases h⟩
theorem IW {level consts codes:Int} {free:Bool} {scope v:List Int} {l:List aa} {deep size:Int} {bound:List Int} (h:l.length≤1):
  aa.qQ level consts codes free scope v l deep size bound=if (bw v bound).1=true then aa.kT level consts codes free (scope++v) l deep size (bound++v) else none:=by
 match l,h with
 | [],_=>rw[aa.qQ,aa.kT]
 | [x],_=>
  rw[aa.qQ,if_pos (show ([]:List aa).isEmpty=true from rfl),aa.kT]
  split
  ·cases hx:aa.tQ level consts codes free x (scope++v) deep size (bound++v) with
   | none=>rfl
   | some q=>obtain ⟨s,b⟩:=q;simp only[aa.kT]
  ·rfl
 | _::_::_,h=>simp at h
theorem nc: ∀ {l bound:List Int},(bw l bound).1=true→ ∀ x,x∈l→x∈bound→False
 | [],_,_,_,h,_=>by cases h
 | v::l,bound,h,x,hx,hb=>by
  rw[bw] at h
  split at h
  ·rename_i hv
   rcases List.mem_cons.1 hx with rfl | hx
   ·simp[K6,hb] at hv
   ·exact nc h x hx (by simp[hb])
  ·cases h
theorem yR {r ck:Option (Int×List Int)} {a:Int} {b:Bool} (hck:ck=if (a == 9 && !b)=true then none else r):(!!r.isSome && (a !=9 || b))=ck.isSome:=by
 subst hck;cases h:a == 9<;>cases b<;>cases r<;>simp_all [bne]
theorem Pz {t:aa} (h:nj (cQ t.op).1 t=true) (h9:t.op=9):1≤t.t.length:=by
 have e:cQ 9=(⟨1,3,0,false,true⟩,true):=rfl;rw[h9,e] at h;simp[nj,h9] at h;omega
theorem vF {p q:Prop} (k:q) (h:q→p:=by intro hq;first | exact aC.sP (some 27) rfl [] [41,42,43] ai mixed hq | exact aC.sP (some 83) rfl [] [9,10] ai mixed hq | exact aC.sP (some 106) rfl [] [17,18,19,20] ai mixed hq):p:=h k
theorem Kq (c rb rs:Nat) (level consts codes:Int) (free:Bool) (t:aa): ∀ (scope:List Int) (deep size:Int) (bound:List Int) (pb ps:List (Int×Value)),0≤deep→deep≤401→0≤size→size≤20000→(∀ x∈scope,x∈bound)→t.aQ≤1000000000→
  af Tryz.prog 48 [.ptr c 0,.agg t.cells,.mp rs,.int .i64 deep] [.box c (vv level consts codes size free rb),.mp rb (.int .i64) (aT bound) pb,.mp rs (.int .i64) (aT scope) ps]
  (Kb c rb rs level consts codes free scope (t.tQ level consts codes free scope deep size bound)):=by
 induction t using aa.ind with
 | h t ih=>
  intro scope deep size bound pb ps hd0 hd1 hs0 hs1 hsub hbk;have hbe:=t.bu;have hlv:=aa.aU t.t;have hr:=t.Dr level consts codes free scope deep size bound;refine af.ah ai Tryz.func48 rfl rfl (n:=126) rfl rfl ?_
  conv=>whnf
  repeat' (first|refine dw ?_|((first|(((apply zY;intro hg));(conv=>whnf);(repeat ((first|refine pC (NN (cQ t.op).1 t OA) wR ?_|refine av.read (Ed c rb rs level consts codes (size + 1) free t scope ps) wR ?_|refine aG ?_);conv=>whnf));exact pZ)|refine pC (HX _) wR ?_|refine pC (uT t) wR ?_|refine vF ?_|intro _);conv=>whnf)|(refine zX (fun hc=>?_) (fun hc=>?_)<;>(try simp only[SY] at hc)<;>(conv=>whnf)))
  ·rw[hr,if_pos (by simp only[zn,SS];exact hc)]
   exact ak.gen (y:=.bool false) (Wk.ff rfl) ⟨rfl,size + 1,aT bound,aT scope,pb,ps,rfl,fun _ _ h=>by cases h⟩
  all_goals
   rename_i b4 b5 b6 b7 b9 hgood hlen;have hfx:t.op=9→1≤t.t.length:=Pz hgood.1.2;rw[if_neg (by simp only[zn,SS];intro h;obtain ⟨⟨⟨⟨⟨⟨g1,g2⟩,g3⟩,g4⟩,g5⟩,g6⟩,g7⟩:=hgood;simp only[g1,g6,g7,Bool.true_eq_false,or_false,false_or] at h;omega)] at hr
  ·have hgr:=hc
   rw[if_neg (by rw[hc];simp)] at hr
   refine aq.over [8,12,78,79,80,81,82,83,84,85,86,87,88,89,90,91,92,93] (fun (x:Nat×Int×List Int×List (Int×Value)×List (Int×Value))=> [(12,.int .i64 x.1)])
    (fun (x:Nat×Int×List Int×List (Int×Value)×List (Int×Value))=> [.box b9 (cQ t.op).1.cells,.box b7 [.int .i64 deep],.box b6 [.mp rs],.box b5 [.int .i64 t.op,.int .i64 t.n,.sl 1 (t.v.map (PV.int .i64)) none,.sl 4 (t.t.map aa.pv) none],.box b4 [.ptr c 0],
     .box c (vv level consts codes x.2.1 free rb),.mp rb (.int .i64) (aT x.2.2.1) x.2.2.2.1,.mp rs (.int .i64) (aT scope) x.2.2.2.2])
    (fun | (k,sz,bd,pb,ps)=>(k=0∨k < t.t.length)∧0≤sz∧sz≤20000∧(∀ x∈bound,x∈bd)∧t.tQ level consts codes free scope deep size bound=aa.qQ level consts codes free scope t.v (t.t.drop k) (deep + 1) sz bd) (fun | (k,_)=>t.t.length - k) (0,size + 1,bound,pb,ps)
    ⟨.inl rfl,by omega,by omega,fun _ h=>h,by rw[hr];rfl⟩ wA ?_
   rintro ⟨k,sz,bd,pb',ps'⟩ ⟨hk,hz0,hz1,hsb,hck⟩;dsimp only
   conv=>whnf
   repeat' (first|refine dw ?_|((refine vF ?_);conv=>whnf)|(refine zX (fun hc=>?_) (fun hc=>?_)<;>(try simp only[SY] at hc)<;>(conv=>whnf)))
   ·have hlt:k < t.t.length:=by omega
    have hbm:=aa.bz (List.getElem_mem hlt);rw[aI hlt,aa.qQ,if_neg (by rw[List.isEmpty_iff,List.drop_eq_nil_iff];omega)] at hck;refine av.go (ih t.t[k] (List.getElem_mem _) scope (deep + 1) sz bd pb' ps' (by omega) (by omega) hz0 hz1 (fun x h=>hsb x (hsub x h)) (by omega)) (aX.refl _) ?_;rintro _ _ ⟨rfl,sz2,mb,ms,pb2,ps2,rfl,hs⟩
    conv=>whnf
    repeat' (first|refine dw ?_|(refine zX (fun hc=>?_) (fun hc=>?_)<;>(try simp only[SY] at hc)<;>(conv=>whnf)))
    ·have hn:=hc
     rw[Option.isSome_eq_false_iff,Option.isNone_iff_eq_none] at hn;rw[hn] at hck;exact ak.gen (y:=.bool false) (Wk.ff rfl) ⟨by rw[hck];rfl,sz2,mb,ms,pb2,ps2,rfl,fun _ _ h=>by rw[hck] at h;cases h⟩
    ·obtain ⟨⟨s1,b1⟩,e⟩:=Option.isSome_iff_exists.mp hc
     obtain ⟨rfl,rfl,rfl⟩:=hs s1 b1 e;have hbd:=aa.IV _ _ _ _ _ _ _ _ _ _ _ e;rw[e] at hck;exact an (k + 1,sz2,b1,pb2,ps2) ⟨.inr (by omega),by show (0:Int)≤sz2;omega,hbd.2.1,fun x h=>hbd.2.2 x (hsb x h),hck⟩ (by show t.t.length - (k + 1) < t.t.length - k;omega) wA
   ·rw[IW (by rw[List.length_drop];omega)] at hck
    have hop:t.op≠9:=fun h=>by simp[fk,h] at hgr
    have hdk:(if (t.t.length:Int) - 1 < 0 then 0 else (t.t.length:Int) - 1).toNat=k:=by split<;>omega
    have hck:t.tQ level consts codes free scope deep size bound=if (t.op == 9 && !jq level t.t.dropLast)=true then none else if (bw t.v bd).1=true then aa.kT level consts codes free (scope++t.v) (t.t.drop (if (t.t.length:Int) - 1 < 0 then 0 else (t.t.length:Int) - 1).toNat) (deep + 1) sz (bd++t.v) else none:=by
     rw[if_neg (by simp[hop]),hdk];exact hck
    have hgc:aA Tryz.prog 78 [.agg t.cells] (.bool false):=by
     have:=uT t;rw[hgr] at this;exact this
    refine av.go (Bt c rb rs level consts codes sz free t.v bd scope pb' ps') (aX.refl _) ?_;rintro _ _ ⟨rfl,pb3,mb,ms,rfl,hb⟩
    conv=>whnf
    repeat' (first|refine dw ?_|((refine pC (hgc) wR ?_);conv=>whnf)|(refine zX (fun hc=>?_) (fun hc=>?_)<;>(try simp only[SY] at hc)<;>(conv=>whnf)))
    ·refine kP.go (uP b5 b6 rs t.op t.n t.v (t.t.map aa.pv) ms []) (aX.refl _) ?_
     rintro _ _ ⟨ps4,rfl⟩
     conv=>whnf
     have hno:t.tQ level consts codes free scope deep size bound=none:=by rw[hck];split;rfl;exact if_neg (by rw[hc];simp)
     exact ak.gen (y:=.bool false) (Wk.ff rfl) ⟨by rw[hno];rfl,sz,mb,mq t.v ms,pb3,ps4,rfl,fun _ _ h=>by rw[hno] at h;cases h⟩
    ·have hbt:= ‹(bw t.v bd).1=true›
     obtain ⟨rfl,rfl⟩:=hb hbt;rw[if_pos hbt] at hck;refine aC.KJ ai mixed [0,1,0,7,0,31,63,127,255,511,1023,2047,4095,4095,12287,4095,61439,131071,262143,524287,1048575] [0,1,2,3,4] [5] [6,7,8,9,10,11,12,13,14,15,16,17,18,19,20] [] [.box c (vv level consts codes sz free rb),.mp rb (.int .i64) (aT (bd++t.v)) pb3,.mp rs (.int .i64) (aT (scope++t.v)) [],.box b4 [.ptr c 0],.box b6 [.mp rs],.box b7 [.int .i64 deep]] (by kernel_rfl) ?_
     conv=>whnf
     repeat (refine mj ?_)
     have hdj: ∀ x∈scope,x∉t.v:=fun x h h'=>nc hbt x h' (hsb x (hsub x h));refine av.go (ET c rb rs b4 b6 b7 level consts codes free (t.t.drop (if (t.t.length:Int) - 1 < 0 then 0 else (t.t.length:Int) - 1).toNat) (scope++t.v) deep hd0 (by omega) (fun x hx sz bd pb ps h0 h1 h2=>ih x (List.mem_of_mem_drop hx) (scope++t.v) (deep + 1) sz bd pb ps (by omega) (by omega) h0 h1 h2 (by have:=aa.bz (List.mem_of_mem_drop hx);omega)) sz (bd++t.v) pb3 [] (by omega) (by omega) (by intro x h;rw[List.mem_append] at h ⊢; exact h.imp (fun h=>hsb x (hsub x h)) id)) (aX.refl _) ?_;rintro _ _ ⟨sz5,mb5,ms5,pb5,ps5,rfl,rfl,hs5⟩
     conv=>whnf
     repeat (first|refine mj ?_|(((((apply zY;intro hg));(conv=>whnf);(repeat ((first|refine av.read (FQ c rb level consts codes sz5 free (t.t.take (t.t.length - 1))) wR ?_|refine aG ?_);conv=>whnf));exact pZ));conv=>whnf))
     refine kP.go (uP b5 b6 rs t.op t.n t.v (t.t.map aa.pv) ms5 ps5) (aX.refl _) ?_;rintro _ _ ⟨ps4,rfl⟩
     conv=>whnf
     refine ak.gen (y:=.bool (t.tQ level consts codes free scope deep size bound).isSome) (Wk.bool ?_) ⟨rfl,sz5,mb5,mq t.v ms5,pb5,ps4,rfl,fun s b h=>?_⟩
     ·exact yR (by rw[←List.dropLast_eq_take];exact hck)
     ·rw[hck] at h
      split at h
      ·cases h
      ·obtain ⟨h1,h2,h3⟩:=hs5 s b h
       exact ⟨h1,h2,by rw[h3,xR _ _ hdj]⟩
  ·have hgr:=hc
   rw[if_pos hc] at hr;have hck:=hr
   have hgc:aA Tryz.prog 78 [.agg t.cells] (.bool true):=by
    have:=uT t;rw[hgr] at this;exact this
   refine av.go (Bt c rb rs level consts codes (size + 1) free t.v bound scope pb ps) (aX.refl _) ?_;rintro _ _ ⟨rfl,pb3,mb,ms,rfl,hb⟩
   conv=>whnf
   repeat' (first|refine dw ?_|((refine pC (hgc) wR ?_);conv=>whnf)|(refine zX (fun hc=>?_) (fun hc=>?_)<;>(try simp only[SY] at hc)<;>(conv=>whnf)))
   ·refine kP.go (uP b5 b6 rs t.op t.n t.v (t.t.map aa.pv) ms []) (aX.refl _) ?_
    rintro _ _ ⟨ps4,rfl⟩
    conv=>whnf
    have hno:t.tQ level consts codes free scope deep size bound=none:=by rw[hck];split;rfl;exact if_neg (by rw[hc];simp)
    exact ak.gen (y:=.bool false) (Wk.ff rfl) ⟨by rw[hno];rfl,(size + 1),mb,mq t.v ms,pb3,ps4,rfl,fun _ _ h=>by rw[hno] at h;cases h⟩
   ·have hbt:= ‹(bw t.v bound).1=true›
    obtain ⟨rfl,rfl⟩:=hb hbt;rw[if_pos hbt] at hck;refine aC.KJ ai mixed [0,1,0,7,0,31,63,127,255,511,1023,2047,4095,4095,12287,4095,61439,131071,262143,524287,1048575] [0,1,2,3,4] [5] [6,7,8,9,10,11,12,13,14,15,16,17,18,19,20] [] [.box c (vv level consts codes (size + 1) free rb),.mp rb (.int .i64) (aT (bound++t.v)) pb3,.mp rs (.int .i64) (aT (scope++t.v)) [],.box b4 [.ptr c 0],.box b6 [.mp rs],.box b7 [.int .i64 deep]] (by kernel_rfl) ?_
    conv=>whnf
    repeat (refine mj ?_)
    have hdj: ∀ x∈scope,x∉t.v:=fun x h h'=>nc hbt x h' (hsub x h);refine av.go (ET c rb rs b4 b6 b7 level consts codes free (t.t.drop 0) (scope++t.v) deep hd0 (by omega) (fun x hx sz bd pb ps h0 h1 h2=>ih x (List.mem_of_mem_drop hx) (scope++t.v) (deep + 1) sz bd pb ps (by omega) (by omega) h0 h1 h2 (by have:=aa.bz (List.mem_of_mem_drop hx);omega)) (size + 1) (bound++t.v) pb3 [] (by omega) (by omega) (by intro x h;rw[List.mem_append] at h ⊢; exact h.imp (fun h=>hsub x h) id)) (aX.refl _) ?_;rintro _ _ ⟨sz5,mb5,ms5,pb5,ps5,rfl,rfl,hs5⟩
    conv=>whnf
    repeat (first|refine mj ?_|(((((apply zY;intro hg));(conv=>whnf);(repeat ((first|refine av.read (FQ c rb level consts codes sz5 free (t.t.take (t.t.length - 1))) wR ?_|refine aG ?_);conv=>whnf));exact pZ));conv=>whnf))
    refine kP.go (uP b5 b6 rs t.op t.n t.v (t.t.map aa.pv) ms5 ps5) (aX.refl _) ?_;rintro _ _ ⟨ps4,rfl⟩
    conv=>whnf
    refine ak.gen (y:=.bool (t.tQ level consts codes free scope deep size bound).isSome) (Wk.bool ?_) ⟨rfl,sz5,mb5,mq t.v ms5,pb5,ps4,rfl,fun s b h=>?_⟩
    ·exact yR (by rw[←List.dropLast_eq_take];exact hck)
    ·rw[hck] at h
     split at h
     ·cases h
     ·obtain ⟨h1,h2,h3⟩:=hs5 s b h
      exact ⟨h1,h2,by rw[h3,xR _ _ hdj]⟩
end Go.Cb


