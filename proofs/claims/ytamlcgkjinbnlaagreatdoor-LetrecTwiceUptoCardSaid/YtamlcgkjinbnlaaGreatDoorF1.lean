/-
 A small program logic over the model: values as trees (a slice as its elements), frozen cells, boxes and spare capacity as owned entries.
 Keys of maps: numbers, bools, strings, and arrays of two integers.
 The state relation: frozen cells, owned boxes, owned spare capacity; what allocation, stores and appends do to it.
 What the operations that make or change memory do to the state relation.
 The table of types that the logic works with, and what it says of the model's types.
 Maps: what their operations do to the state relation.
 The logic itself: what each operation asks and gives, as a computing function; the places where a proof has to choose are structures.
 Each operation's rule is sound.
 Each operation's rule is sound: the cases.
 Each operation's rule is sound: further cases.
 Each operation's rule is sound: literals, slices, numbers, strings.
 Each operation's rule is sound: literals, numbers, append, calls.
 Each operation's rule is sound: slice literals, numbers, append, calls.
 Each operation's rule is sound: numbers and strings, append, calls; all of them together.
-/
import Derived.Below
import Derived.KernelRfl
import Derived.Laws.AppendOwn
import Derived.Laws.BytesArg
import Derived.Laws.Cells
import Derived.Laws.Entries
import Derived.Laws.IdiomCopy
import Derived.Laws.MakeOwn
import Derived.Laws.OwnMore
import Derived.Laws.Pointers
import Derived.Laws.Small
import Derived.Laws.Strings
import Derived.Laws.StructEq
import Derived.Lib.ConvBytes
import Derived.MapKept
import Derived.RangeFuncRecord
import Derived.Tactics
set_option linter.unusedSimpArgs false
set_option linter.unusedVariables false
namespace Go.Cb
open Go.RowKit (Below)
structure Tok where
 v:Value
 n:Nat
 s:Nat
 e:TypeId
 b:Option Nat
inductive PV where
 | int (k:IntKind) (n:Int)
 | bool (b:Bool)
 | aV
 | bfalse
 | str (s:List UInt8)
 | ptr (b o:Nat)
 | nil
 | np
 | sc (v:Value)
 | sl (s:Nat) (es:List PV) (tk:Option Tok)
 | agg (cs:List PV)
 | bp (vs:List PV)
 | fn (f:Fn) (cap:List PV)
 | ep (cs:List PV)
 | mp (r:Nat)
 | ri
 | opt (q:Bool) (x:PV)
 | ms (t:Tok)
 | rp (t:Tok) (i o:Nat)
 | fm (f:FuncId) (x:PV)
 | any
 deriving Inhabited
abbrev Fz:=Nat→Nat→Option Value
def Fz.le (F F':Fz):Prop:= ∀ b o u,F b o=some u→F' b o=some u
theorem Fz.le_refl (F:Fz):F.le F:=fun _ _ _ h=>h
theorem Fz.le_trans {F G H:Fz} (h:F.le G) (k:G.le H):F.le H:=fun b o u x=>k b o u (h b o u x)
mutual
def aC (F:Fz):PV→Value→Prop
 | .int k n,v=>v=.int k n
 | .bool b,v=>v=.bool b
 | .aV,v=>v=.bool true
 | .bfalse,v=>v=.bool false
 | .str s,v=>v=.string ⟨s.toArray⟩∧s.length≤9223372036854775807
 | .ptr b o,v=>v=.pointer (some ⟨b,o,none⟩)
 | .nil,v=>v=.slice none 0 0
 | .np,v=>v=.pointer none
 | .sc u,v=>v=u∧u.oneCell'=true
 | .sl s es tk,v=>(∀ t,tk=some t→v=t.v∧t.n=es.length∧t.s=s)∧
   ((v=.slice none 0 0∧es= [])∨(∃ b o cap,v=.slice (some ⟨b,o,none⟩) es.length cap∧es.length≤cap∧cap≤maxLen∧(∀ t,tk=some t→o=0∨es= [])∧aT F s b o es)∨
   (es= []∧ ∃ a,v=.slice (some a) 0 0))
 | .agg cs,v=> ∃ vs:List Value,v=.agg vs.toArray∧aQ F cs vs
 | .bp cs,v=> ∃ vs:List Value,v=.tuple vs.toArray∧aA F cs vs
 | .fn f cs,v=> ∃ vs:List Value,v=.func f #[] vs.toArray∧aA F cs vs
 | .ep cs,v=> ∃ b o,v=.pointer (some ⟨b,o,none⟩)∧bT F b o cs
 | .mp r,v=>v=.map (some r)
 | .ri,v=> ∃ d x,v=.iface d x
 | .opt q x,v=>(q=true→aC F x v)∧(q=false→v=.tuple #[])
 | .ms t,v=>v=t.v∧t.v.oneCell'=true
 | .rp t i o,v=> ∃ g,t.b=some g∧v=.pointer (some ⟨g,i * t.s + o,none⟩)
 | .fm f x,v=> ∃ u,v=.func (.func f) #[u] #[]∧aC F x u
 | .any,_=>True
def aQ (F:Fz):List PV→List Value→Prop
 | [], []=>True
 | c::cs,v::vs=>(v.oneCell'=true∧aC F c v)∧aQ F cs vs
 | _,_=>False
def aA (F:Fz):List PV→List Value→Prop
 | [], []=>True
 | c::cs,v::vs=>aC F c v∧aA F cs vs
 | _,_=>False
def bT (F:Fz) (b:Nat):Nat→List PV→Prop
 | _, []=>True
 | o,c::cs=>(∃ u:Value,F b o=some u∧u.oneCell'=true∧aC F c u)∧bT F b (o + 1) cs
def aT (F:Fz) (s b:Nat):Nat→List PV→Prop
 | _, []=>True
 | o,.agg cs::es=>(cs.length=s∧bT F b o cs)∧aT F s b (o + s) es
 | o,e::es=>(s=1∧ ∃ u:Value,F b o=some u∧u.oneCell'=true∧aC F e u)∧aT F s b (o + s) es
end
def PV.cellsOf:PV→List PV
 | .agg cs=>cs
 | e=> [e]
def flat (es:List PV):List PV:=es.flatMap PV.cellsOf
mutual
theorem aC.mono {F F':Fz} (h:F.le F'): ∀ (x:PV) (v:Value),aC F x v→aC F' x v
 | .int _ _,v,r=>by simpa only[aC] using r
 | .bool _,v,r=>by simpa only[aC] using r
 | .aV,v,r=>by simpa only[aC] using r
 | .bfalse,v,r=>by simpa only[aC] using r
 | .str _,v,r=>by simpa only[aC] using r
 | .ptr _ _,v,r=>by simpa only[aC] using r
 | .nil,v,r=>by simpa only[aC] using r
 | .np,v,r=>by simpa only[aC] using r
 | .sc _,v,r=>by simpa only[aC] using r
 | .any,v,r=>by simp only[aC]
 | .mp _,v,r=>by simpa only[aC] using r
 | .ri,v,r=>by simpa only[aC] using r
 | .ms _,v,r=>by simpa only[aC] using r
 | .rp _ _ _,v,r=>by simpa only[aC] using r
 | .opt q x,v,r=>by
  simp only[aC] at r ⊢;exact ⟨fun hq=>aC.mono h x v (r.1 hq),r.2⟩
 | .fm f x,v,r=>by
  simp only[aC] at r ⊢;obtain ⟨u,h1,h2⟩:=r;exact ⟨u,h1,aC.mono h x u h2⟩
 | .sl s es tk,v,r=>by
  simp only[aC] at r ⊢;refine ⟨r.1,?_⟩;rcases r.2 with r | ⟨b,o,cap,h1,h2,h3,h4,h5⟩ | r
  ·exact .inl r
  ·exact .inr (.inl ⟨b,o,cap,h1,h2,h3,h4,aT.mono h s b o es h5⟩)
  ·exact .inr (.inr r)
 | .agg cs,v,r=>by
  simp only[aC] at r ⊢;obtain ⟨vs,h1,h2⟩:=r;exact ⟨vs,h1,aQ.mono h cs vs h2⟩
 | .bp cs,v,r=>by
  simp only[aC] at r ⊢;obtain ⟨vs,h1,h2⟩:=r;exact ⟨vs,h1,aA.mono h cs vs h2⟩
 | .fn f cs,v,r=>by
  simp only[aC] at r ⊢;obtain ⟨vs,h1,h2⟩:=r;exact ⟨vs,h1,aA.mono h cs vs h2⟩
 | .ep cs,v,r=>by
  simp only[aC] at r ⊢;obtain ⟨b,o,h1,h2⟩:=r;exact ⟨b,o,h1,bT.mono h b o cs h2⟩
theorem aQ.mono {F F':Fz} (h:F.le F'): ∀ (cs:List PV) (vs:List Value),aQ F cs vs→aQ F' cs vs
 | [], [],_=>by simp only[aQ]
 | [],_::_,r=>by simp only[aQ] at r
 | _::_, [],r=>by simp only[aQ] at r
 | c::cs,v::vs,r=>by
  simp only[aQ] at r ⊢;exact ⟨⟨r.1.1,aC.mono h c v r.1.2⟩,aQ.mono h cs vs r.2⟩
theorem aA.mono {F F':Fz} (h:F.le F'): ∀ (cs:List PV) (vs:List Value),aA F cs vs→aA F' cs vs
 | [], [],_=>by simp only[aA]
 | [],_::_,r=>by simp only[aA] at r
 | _::_, [],r=>by simp only[aA] at r
 | c::cs,v::vs,r=>by
  simp only[aA] at r ⊢;exact ⟨aC.mono h c v r.1,aA.mono h cs vs r.2⟩
theorem bT.mono {F F':Fz} (h:F.le F') (b:Nat): ∀ (o:Nat) (cs:List PV),bT F b o cs→bT F' b o cs
 | _, [],_=>by simp only[bT]
 | o,c::cs,r=>by
  simp only[bT] at r ⊢;obtain ⟨⟨u,h1,h2,h3⟩,r⟩:=r;exact ⟨⟨u,h _ _ _ h1,h2,aC.mono h c u h3⟩,bT.mono h b (o + 1) cs r⟩
theorem aT.mono {F F':Fz} (h:F.le F') (s b:Nat): ∀ (o:Nat) (es:List PV),aT F s b o es→aT F' s b o es
 | _, [],_=>by simp only[aT]
 | o,.agg cs::es,r=>by
  simp only[aT] at r ⊢;exact ⟨⟨r.1.1,bT.mono h b o cs r.1.2⟩,aT.mono h s b (o + s) es r.2⟩
 | o,.int k n::es,r=>by
  simp only[aT] at r ⊢;obtain ⟨⟨h0,u,h1,h2,h3⟩,r⟩:=r;exact ⟨⟨h0,u,h _ _ _ h1,h2,aC.mono h (.int k n) u h3⟩,aT.mono h s b (o + s) es r⟩
 | o,.bool k::es,r=>by
  simp only[aT] at r ⊢;obtain ⟨⟨h0,u,h1,h2,h3⟩,r⟩:=r;exact ⟨⟨h0,u,h _ _ _ h1,h2,aC.mono h (.bool k) u h3⟩,aT.mono h s b (o + s) es r⟩
 | o,.aV::es,r=>by
  simp only[aT] at r ⊢;obtain ⟨⟨h0,u,h1,h2,h3⟩,r⟩:=r;exact ⟨⟨h0,u,h _ _ _ h1,h2,aC.mono h .aV u h3⟩,aT.mono h s b (o + s) es r⟩
 | o,.bfalse::es,r=>by
  simp only[aT] at r ⊢;obtain ⟨⟨h0,u,h1,h2,h3⟩,r⟩:=r;exact ⟨⟨h0,u,h _ _ _ h1,h2,aC.mono h .bfalse u h3⟩,aT.mono h s b (o + s) es r⟩
 | o,.str k::es,r=>by
  simp only[aT] at r ⊢;obtain ⟨⟨h0,u,h1,h2,h3⟩,r⟩:=r;exact ⟨⟨h0,u,h _ _ _ h1,h2,aC.mono h (.str k) u h3⟩,aT.mono h s b (o + s) es r⟩
 | o,.ptr k l::es,r=>by
  simp only[aT] at r ⊢;obtain ⟨⟨h0,u,h1,h2,h3⟩,r⟩:=r;exact ⟨⟨h0,u,h _ _ _ h1,h2,aC.mono h (.ptr k l) u h3⟩,aT.mono h s b (o + s) es r⟩
 | o,.nil::es,r=>by
  simp only[aT] at r ⊢;obtain ⟨⟨h0,u,h1,h2,h3⟩,r⟩:=r;exact ⟨⟨h0,u,h _ _ _ h1,h2,aC.mono h .nil u h3⟩,aT.mono h s b (o + s) es r⟩
 | o,.np::es,r=>by
  simp only[aT] at r ⊢;obtain ⟨⟨h0,u,h1,h2,h3⟩,r⟩:=r;exact ⟨⟨h0,u,h _ _ _ h1,h2,aC.mono h .np u h3⟩,aT.mono h s b (o + s) es r⟩
 | o,.sc k::es,r=>by
  simp only[aT] at r ⊢;obtain ⟨⟨h0,u,h1,h2,h3⟩,r⟩:=r;exact ⟨⟨h0,u,h _ _ _ h1,h2,aC.mono h (.sc k) u h3⟩,aT.mono h s b (o + s) es r⟩
 | o,.any::es,r=>by
  simp only[aT] at r ⊢;obtain ⟨⟨h0,u,h1,h2,h3⟩,r⟩:=r;exact ⟨⟨h0,u,h _ _ _ h1,h2,aC.mono h .any u h3⟩,aT.mono h s b (o + s) es r⟩
 | o,.sl k l m::es,r=>by
  simp only[aT] at r ⊢;obtain ⟨⟨h0,u,h1,h2,h3⟩,r⟩:=r;exact ⟨⟨h0,u,h _ _ _ h1,h2,aC.mono h (.sl k l m) u h3⟩,aT.mono h s b (o + s) es r⟩
 | o,.bp k::es,r=>by
  simp only[aT] at r ⊢;obtain ⟨⟨h0,u,h1,h2,h3⟩,r⟩:=r;exact ⟨⟨h0,u,h _ _ _ h1,h2,aC.mono h (.bp k) u h3⟩,aT.mono h s b (o + s) es r⟩
 | o,.fn k l::es,r=>by
  simp only[aT] at r ⊢;obtain ⟨⟨h0,u,h1,h2,h3⟩,r⟩:=r;exact ⟨⟨h0,u,h _ _ _ h1,h2,aC.mono h (.fn k l) u h3⟩,aT.mono h s b (o + s) es r⟩
 | o,.ep k::es,r=>by
  simp only[aT] at r ⊢;obtain ⟨⟨h0,u,h1,h2,h3⟩,r⟩:=r;exact ⟨⟨h0,u,h _ _ _ h1,h2,aC.mono h (.ep k) u h3⟩,aT.mono h s b (o + s) es r⟩
 | o,.mp k::es,r=>by
  simp only[aT] at r ⊢;obtain ⟨⟨h0,u,h1,h2,h3⟩,r⟩:=r;exact ⟨⟨h0,u,h _ _ _ h1,h2,aC.mono h (.mp k) u h3⟩,aT.mono h s b (o + s) es r⟩
 | o,.ri::es,r=>by
  simp only[aT] at r ⊢;obtain ⟨⟨h0,u,h1,h2,h3⟩,r⟩:=r;exact ⟨⟨h0,u,h _ _ _ h1,h2,aC.mono h (.ri) u h3⟩,aT.mono h s b (o + s) es r⟩
 | o,.ms k::es,r=>by
  simp only[aT] at r ⊢;obtain ⟨⟨h0,u,h1,h2,h3⟩,r⟩:=r;exact ⟨⟨h0,u,h _ _ _ h1,h2,aC.mono h (.ms k) u h3⟩,aT.mono h s b (o + s) es r⟩
 | o,.rp k l m::es,r=>by
  simp only[aT] at r ⊢;obtain ⟨⟨h0,u,h1,h2,h3⟩,r⟩:=r;exact ⟨⟨h0,u,h _ _ _ h1,h2,aC.mono h (.rp k l m) u h3⟩,aT.mono h s b (o + s) es r⟩
 | o,.opt q k::es,r=>by
  simp only[aT] at r ⊢;obtain ⟨⟨h0,u,h1,h2,h3⟩,r⟩:=r;exact ⟨⟨h0,u,h _ _ _ h1,h2,aC.mono h (.opt q k) u h3⟩,aT.mono h s b (o + s) es r⟩
 | o,.fm k l::es,r=>by
  simp only[aT] at r ⊢;obtain ⟨⟨h0,u,h1,h2,h3⟩,r⟩:=r;exact ⟨⟨h0,u,h _ _ _ h1,h2,aC.mono h (.fm k l) u h3⟩,aT.mono h s b (o + s) es r⟩
end
theorem r7 (F:Fz) (s b o:Nat) (e:PV) (es:List PV):
  aT F s b o (e::es)↔(e.cellsOf.length=s∧bT F b o e.cellsOf)∧aT F s b (o + s) es:=by
 cases e<;>simp[aT,bT,PV.cellsOf]<;>intro _ _ _ _ _<;>exact eq_comm
theorem cG (F:Fz):aQ F [] []:=by simp only[aQ]
theorem cg {F:Fz} {c:PV} {cs:List PV} {v:Value} {vs:List Value}:aQ F (c::cs) (v::vs)↔(v.oneCell'=true∧aC F c v)∧aQ F cs vs:=by simp only[aQ]
theorem aQ.length {F:Fz}: ∀ {cs:List PV} {vs:List Value},aQ F cs vs→cs.length=vs.length
 | [], [],_=>rfl
 | [],_::_,h=>by simp only[aQ] at h
 | _::_, [],h=>by simp only[aQ] at h
 | c::cs,v::vs,h=>by simp only[aQ] at h;simp[aQ.length h.2]
theorem aQ.get {F:Fz}: ∀ {cs:List PV} {vs:List Value} (_:aQ F cs vs) (i:Nat) {c:PV},cs[i]?=some c→ ∃ v,vs[i]?=some v∧v.oneCell'=true∧aC F c v
 | [],_,_,i,c,hc=>by simp at hc
 | _::_, [],h,_,_,_=>by simp only[aQ] at h
 | c::cs,v::vs,h,0,c',hc=>by simp only[aQ] at h;simp at hc;subst hc;exact ⟨v,rfl,h.1.1,h.1.2⟩
 | c::cs,v::vs,h,i + 1,c',hc=>by simp only[aQ] at h;exact aQ.get h.2 i (by simpa using hc)
theorem aQ.jq {F:Fz}: ∀ {cs:List PV} {vs:List Value},aQ F cs vs→ ∀ v∈vs,v.oneCell'=true
 | [], [],_=>by simp
 | [],_::_,h=>by simp only[aQ] at h
 | _::_, [],h=>by simp only[aQ] at h
 | c::cs,v::vs,h=>by
  simp only[aQ] at h;intro u hu;rcases List.mem_cons.1 hu with rfl | hu
  ·exact h.1.1
  ·exact aQ.jq h.2 u hu
theorem bH {F:Fz}: ∀ {cs ds:List PV} {vs us:List Value},aQ F cs vs→aQ F ds us→aQ F (cs++ds) (vs++us)
 | [],_, [],_,_,h=>h
 | [],_,_::_,_,h,_=>by simp only[aQ] at h
 | _::_,_, [],_,h,_=>by simp only[aQ] at h
 | c::cs,ds,v::vs,us,h,k=>by
  simp only[aQ] at h;simp only[List.cons_append,aQ];exact ⟨h.1,bH h.2 k⟩
theorem cU {F:Fz}: ∀ (n:Nat) {cs:List PV} {vs:List Value},aQ F cs vs→aQ F (cs.take n) (vs.take n)
 | 0,_,_,_=>by simp[aQ]
 | n + 1, [], [],_=>by simp[aQ]
 | n + 1, [],_::_,h=>by simp only[aQ] at h
 | n + 1,_::_, [],h=>by simp only[aQ] at h
 | n + 1,c::cs,v::vs,h=>by
  simp only[aQ] at h;simp only[List.take_succ_cons,aQ];exact ⟨h.1,cU n h.2⟩
theorem dg {F:Fz}: ∀ (n:Nat) {cs:List PV} {vs:List Value},aQ F cs vs→aQ F (cs.drop n) (vs.drop n)
 | 0,_,_,h=>by simpa using h
 | n + 1, [], [],_=>by simp[aQ]
 | n + 1, [],_::_,h=>by simp only[aQ] at h
 | n + 1,_::_, [],h=>by simp only[aQ] at h
 | n + 1,c::cs,v::vs,h=>by
  simp only[aQ] at h;simp only[List.drop_succ_cons];exact dg n h.2
theorem eT {F:Fz} {cs ds:List PV} {vs:List Value} (h:aQ F (cs++ds) vs):aQ F cs (vs.take cs.length)∧aQ F ds (vs.drop cs.length):=by
 have h1:=cU cs.length h;have h2:=dg cs.length h;simp only[List.take_left,List.drop_left] at h1 h2;exact ⟨h1,h2⟩
theorem aZ (F:Fz) (b:Nat): ∀ (cs:List PV) (o:Nat),bT F b o cs↔ ∃ vs,aQ F cs vs∧ ∀ j u,vs[j]?=some u→F b (o + j)=some u
 | [],o=>by simp only[bT,true_iff];exact ⟨[],cG F,by simp⟩
 | c::cs,o=>by
  simp only[bT,aZ F b cs];constructor
  ·rintro ⟨⟨u,h1,h2,h3⟩,vs,h4,h5⟩
   refine ⟨u::vs,cg.2 ⟨⟨h2,h3⟩,h4⟩,?_⟩;intro j w hw
   cases j with
   | zero=>simp at hw;subst hw;simpa using h1
   | succ j=>have:=h5 j w (by simpa using hw);rwa [show o + (j + 1)=o + 1 + j by omega]
  ·rintro ⟨vs,h1,h2⟩
   cases vs with
   | nil=>simp only[aQ] at h1
   | cons v vs=>
    have h1:=cg.1 h1;refine ⟨⟨v,by simpa using h2 0 v rfl,h1.1.1,h1.1.2⟩,vs,h1.2,fun j u hu=>?_⟩;have:=h2 (j + 1) u (by simpa using hu);rwa [show o + 1 + j=o + (j + 1) by omega]
theorem eU (F:Fz) (s b:Nat): ∀ (es:List PV) (o:Nat),aT F s b o es↔(∀ e∈es,e.cellsOf.length=s)∧bT F b o (flat es)
 | [],o=>by simp[aT,flat,bT]
 | e::es,o=>by
  rw[r7,eU F s b es];simp only[flat,List.flatMap_cons,List.forall_mem_cons];constructor
  ·rintro ⟨⟨h1,h2⟩,h3,h4⟩
   refine ⟨⟨h1,h3⟩,?_⟩;rw[aZ] at h2 h4 ⊢;obtain ⟨vs,a1,a2⟩:=h2;obtain ⟨us,b1,b2⟩:=h4;refine ⟨vs++us,bH a1 b1,fun j u hu=>?_⟩;have hl:=a1.length;by_cases hj:j < vs.length
   ·rw[List.getElem?_append_left hj] at hu;exact a2 j u hu
   ·rw[List.getElem?_append_right (by omega)] at hu
    have:=b2 _ u hu;rwa [show o + s + (j - vs.length)=o + j by omega] at this
  ·rintro ⟨⟨h1,h3⟩,h2⟩
   rw[aZ] at h2;obtain ⟨vs,a1,a2⟩:=h2;have hl:=a1.length;obtain ⟨p1,p2⟩:=eT a1;refine ⟨⟨h1,(aZ ..).2 ⟨_,p1,fun j u hu=>?_⟩⟩,h3,(aZ ..).2 ⟨_,p2,fun j u hu=>?_⟩⟩
   ·rw[List.getElem?_take] at hu
    split at hu
    ·exact a2 j u hu
    ·cases hu
   ·rw[List.getElem?_drop] at hu
    have:=a2 _ u hu;rwa [show o + s + j=o + (e.cellsOf.length + j) by omega]
theorem cm {es:List PV} {s:Nat} (h: ∀ e∈es,e.cellsOf.length=s):(flat es).length=es.length * s:=by
 induction es with
 | nil=>simp[flat]
 | cons e es ih=>
  simp only[flat,List.flatMap_cons,List.length_append,List.length_cons] at ih ⊢;rw[ih fun x hx=>h x (List.mem_cons_of_mem _ hx),h e (List.mem_cons_self ..),Nat.succ_mul];omega
theorem cJ (a b:List PV):flat (a++b)=flat a++flat b:=by simp[flat]
open Go.MapKept (IsKey)
def oK (d:TypeDesc) (v:Value):Prop:=IsKey d v∨ ∃ e a b,d=.array 2 e∧v=.agg #[.int .i64 a,.int .i64 b]
def uE (P:Program) (d:TypeDesc):Prop:= ∀ n e,d=.array n e→P.underlying e=some (.int .i64)∧ ∃ i,P.info? e=some i∧i.size=1
section
variable {P:Program} {w:World} {kt e:TypeId} {d:TypeDesc} {k:Value}
theorem B3 (h1:P.underlying e=some (.int .i64)) {cs:Array Value} {o:Nat} {v:Value} (hv:cs[o]?=some v) (w:World):(part e cs o).run P w=.ok v w:=by
 simp[part,isAgg,run_underlying h1,hv]
theorem Cr {i:TypeInfo} (h:P.info? e=some i) (h1:i.size=1) (w:World):(sizeOf e).run P w=.ok 1 w:=by
 simp[sizeOf,typeInfo,h,h1]
theorem e7 (ho:uE P d) (hd:P.underlying kt=some d) (hk:oK d k) (em:Bool) (w:World):(Instr.checkKey em 10000 kt k).run P w=.ok () w:=by
 rcases hk with hk | ⟨el,a,b,rfl,rfl⟩
 ·exact MapKept.run_checkKey hd hk em 9999
 ·obtain ⟨h1,i,h2,h3⟩:=ho _ _ rfl
  have c: ∀ z w,(Instr.checkKey em 9999 el (.int .i64 z)).run P w=.ok () w:=fun z w=>MapKept.run_checkKey (n:=9998) h1 (by simp[IsKey]) em;rw[show (10000:Nat)=9999 + 1 from rfl,Instr.checkKey];simp only[Sem.run_bind,run_underlying hd,Result.andThen_ok];simp only[Std.Legacy.Range.forIn_eq_forIn_range',Std.Legacy.Range.size,Nat.sub_zero,Nat.add_sub_cancel,Nat.div_one,List.range'_succ,List.range'_zero,List.forIn_cons,List.forIn_nil];simp[Cr h2 h3,B3 h1,c]
theorem DT (h1:P.underlying e=some (.int .i64)) {i:TypeInfo} (h2:P.info? e=some i) (h3:i.size=1) (hd:P.underlying kt=some (.array 2 e)) (a b a' b':Int) (w:World):
  (Op.equal kt (.agg #[.int .i64 a,.int .i64 b]) (.agg #[.int .i64 a',.int .i64 b'])).run P w=.ok (a == a' && b == b') w:=by
 unfold Op.equal;rw[show Op.maxDepth=9999 + 1 from rfl,Op.equalIn];simp only[Sem.run_bind,run_underlying hd,Result.andThen_ok];simp only[Std.Legacy.Range.forIn_eq_forIn_range',Std.Legacy.Range.size,Nat.sub_zero,Nat.add_sub_cancel,Nat.div_one,List.range'_succ,List.range'_zero,List.forIn_cons,List.forIn_nil];have q: ∀ x y w,(Op.equalIn 9999 e (.int .i64 x) (.int .i64 y)).run P w=.ok (x == y) w:=fun x y w=>run_equalIn_int w 9998 e .i64 .i64 x y h1;simp[Cr h2 h3,B3 h1,q];by_cases e1:a=a'<;>by_cases e2:b=b'<;>simp[e1,e2]
theorem n5 (ho:uE P d) (hd:P.underlying kt=some d) (hk:oK d k) {l:List MapEntry} (h: ∀ x∈l,oK d x.key) (w:World):
  ((Instr.findKey kt k l).run P w=.ok none w∧ ∀ x∈l,x.key≠k)∨ ∃ j y,(Instr.findKey kt k l).run P w=.ok (some (j,y.val)) w∧l[j]?=some y∧y.key=k:=by
 rcases hk with hk | ⟨el,a,b,rfl,rfl⟩
 ·have hl: ∀ x∈l,IsKey d x.key:=fun x hx=>by
   rcases h x hx with h | ⟨e,a,b,rfl,_⟩
   ·exact h
   ·simp[IsKey] at hk
  rcases MapKept.findNow_spec hk l 0 hl with ⟨e1,e2⟩ | ⟨j,y,e1,e2,e3⟩
  ·exact .inl ⟨MapKept.run_findKey hd e1,e2⟩
  ·exact .inr ⟨j,y,by simpa using MapKept.run_findKey hd e1,e2,e3⟩
 ·obtain ⟨h1,i,h2,h3⟩:=ho _ _ rfl
  have ask: ∀ (l:List MapEntry) (n:Nat),(∀ x∈l,oK (.array 2 el) x.key)→
    ((Instr.findAsking kt (.agg #[.int .i64 a,.int .i64 b]) l n).run P w=.ok none w∧ ∀ x∈l,x.key≠.agg #[.int .i64 a,.int .i64 b])∨
    ∃ j y,(Instr.findAsking kt (.agg #[.int .i64 a,.int .i64 b]) l n).run P w=.ok (some (n + j,y.val)) w∧l[j]?=some y∧y.key=.agg #[.int .i64 a,.int .i64 b]:=by
   intro l
   induction l with
   | nil=>intro n _;exact .inl ⟨by simp[Instr.findAsking],by simp⟩
   | cons x l ih=>
    intro n h
    rcases h x (List.mem_cons_self ..) with hx | ⟨e',a',b',hd',hx⟩
    ·simp[IsKey] at hx
    have hr:(Op.equal kt (.agg #[.int .i64 a,.int .i64 b]) x.key).run P w=.ok (a == a' && b == b') w:=by rw[hx];exact DT h1 h2 h3 hd a b a' b' w
    by_cases he:a=a'∧b=b'
    ·obtain ⟨rfl,rfl⟩:=he
     exact .inr ⟨0,x,by simp[Instr.findAsking,hr],rfl,hx⟩
    ·have hf:(a == a' && b == b')=false:=by
      rw[Bool.eq_false_iff];intro q;simp at q;exact he q
     rw[hf] at hr
     have hne:x.key≠.agg #[.int .i64 a,.int .i64 b]:=fun q=>he (by
      rw[hx] at q;simp at q
      exact ⟨q.1.symm,q.2.symm⟩)
     rcases ih (n + 1) (fun y hy=>h y (List.mem_cons_of_mem _ hy)) with ⟨g1,g2⟩ | ⟨j,y,g1,g2,g3⟩
     ·refine .inl ⟨by simp[Instr.findAsking,hr,g1],fun y hy=>?_⟩
      rcases List.mem_cons.1 hy with rfl | hy
      ·exact hne
      ·exact g2 y hy
     ·exact .inr ⟨j + 1,y,by simp[Instr.findAsking,hr,g1];omega,by simpa using g2,g3⟩
  cases l with
  | nil=>exact .inl ⟨by simp[Instr.findKey,run_underlying hd,Instr.findNow],by simp⟩
  | cons x l=>
   have hn:Instr.findNow (.array 2 el) (.agg #[.int .i64 a,.int .i64 b]) (x::l) 0=none:=by simp[Instr.findNow,Instr.sameNow]
   have hr:(Instr.findKey kt (.agg #[.int .i64 a,.int .i64 b]) (x::l)).run P w=(Instr.findAsking kt (.agg #[.int .i64 a,.int .i64 b]) (x::l) 0).run P w:=by
    simp[Instr.findKey,run_underlying hd,hn]
   rw[hr]
   rcases ask (x::l) 0 h with g | ⟨j,y,g1,g2⟩
   ·exact .inl g
   ·exact .inr ⟨j,y,by rw[g1];simp,g2⟩
theorem wm (hk:oK d k) (w:World):(Instr.keyThatStays k k).run P w=.ok k w:=by
 rcases hk with hk | ⟨el,a,b,rfl,rfl⟩
 ·exact MapKept.run_keyThatStays hk
 ·simp[Instr.keyThatStays,Instr.sameBits]
theorem oX {es:Array MapEntry} (h: ∀ x∈es.toList,oK d x.key) (i:Nat) (f:MapEntry→MapEntry) (hk: ∀ e,es[i]?=some e→(f e).key=e.key): ∀ x∈(es.modify i f).toList,oK d x.key:=by
 intro x hx;have:x.key∈(es.modify i f).toList.map (·.key):=List.mem_map.2 ⟨x,hx,rfl⟩;rw[MapKept.modify_keys i f hk] at this;obtain ⟨y,hy,e⟩:=List.mem_map.1 this;rw[←e];exact h y hy
end
inductive aj where
 | box (b:Nat) (cs:List PV)
 | tok (t:Tok)
 | mp (r:Nat) (d:TypeDesc) (m:Value→Option PV) (aK:List (Int×Value))
 | row (t:Tok) (es:List PV)
 | ob (b:Nat) (o:Obj) (T:List PV) (vs:List Value)
structure mD (F:Fz) (d:TypeDesc) (m:Value→Option PV) (aK:List (Int×Value)) (es:Array MapEntry) (clock:Nat):Prop where
 st:MapKept.Stamped es clock
 key: ∀ x∈es.toList,oK d x.key
 get: ∀ x∈es.toList, ∃ p,m x.key=some p∧aC F p x.val
 dom: ∀ k p,m k=some p→ ∃ x∈es.toList,x.key=k
 KN: ∀ q∈aK,(q.2=.tuple #[]∧q.1=(clock:Int))∨ ∃ x∈es.toList,(x.born:Int)=q.1∧x.key=q.2
theorem mD.mono {F F':Fz} (hF:F.le F') {d:TypeDesc} {m:Value→Option PV} {aK:List (Int×Value)} {es:Array MapEntry} {clock:Nat} (h:mD F d m aK es clock):mD F' d m aK es clock:=
 ⟨h.st,h.key,fun x hx=>by obtain ⟨p,h1,h2⟩:=h.get x hx;exact ⟨p,h1,aC.mono hF _ _ h2⟩,h.dom,h.KN⟩
def own (B:Nat) (w:World) (t:Tok) (xs:List Value):Prop:=
 xs.length=t.n * t.s∧((t.b=none∧t.n=0∧(t.v=.slice none 0 0∨ ∃ a,t.v=.slice (some a) 0 0))∨
  ∃ g cap cur,t.b=some g∧t.v=.slice (some ⟨g,0,none⟩) t.n cap∧B≤g∧w.heap[g]?=some (.cells cur t.e (0,0))∧t.n≤cap∧cap≤maxLen∧cur.size=cap * t.s∧cur.toList.take (t.n * t.s)=xs)
theorem own.row {B:Nat} {w:World} {t:Tok} {xs:List Value} (h:own B w t xs) {g:Nat} (hg:t.b=some g):w.ownsRow B t.e t.s t.v t.n xs:=by
 refine ⟨h.1,?_⟩
 rcases h.2 with ⟨h1,_⟩ | ⟨g',cap,cur,_,h2⟩
 ·rw[h1] at hg;cases hg
 ·exact .inr ⟨g',cap,cur,h2⟩
theorem own.Ai {B:Nat} {w:World} {e:TypeId} {s n:Nat} {v:Value} {xs:List Value} (h:w.ownsRow B e s v n xs):own B w ⟨v,n,s,e,v.ownBlock⟩ xs:=by
 refine ⟨h.1,?_⟩
 rcases h.2 with ⟨rfl,rfl⟩ | ⟨g,cap,cur,rfl,h2⟩
 ·exact .inl ⟨rfl,rfl,.inl rfl⟩
 ·exact .inr ⟨g,cap,cur,rfl,rfl,h2⟩
theorem own.lt {B:Nat} {w:World} {t:Tok} {xs:List Value} (h:own B w t xs) (k:Nat) (hk:t.b=some k):B≤k∧k < w.heap.size:=by
 rcases h.2 with ⟨h1,_⟩ | ⟨g',cap,cur,h1,_,h2,h3,_⟩
 ·rw[h1] at hk;cases hk
 ·rw[h1] at hk;cases hk
  exact ⟨h2,(Array.getElem?_eq_some_iff.1 h3).1⟩
theorem own.keep {B:Nat} {w w':World} {t:Tok} {xs:List Value} (h:own B w t xs) (hb: ∀ k,t.b=some k→w'.heap[k]?=w.heap[k]?):own B w' t xs:=by
 refine ⟨h.1,?_⟩
 rcases h.2 with h1 | ⟨g',cap,cur,h1,h2,h3,h4,h5⟩
 ·exact .inl h1
 ·exact .inr ⟨g',cap,cur,h1,h2,h3,by rw[hb g' h1];exact h4,h5⟩
theorem own.cells {B:Nat} {w:World} {t:Tok} {xs:List Value} (h:own B w t xs) {g:Nat} (hg:t.b=some g): ∀ j u,xs[j]?=some u→w.cell? ((⟨g,0,none⟩:Addr).add j)=some u:=by
 have h2:=h.row hg;refine h2.cells ?_
 rcases h.2 with ⟨h1,_⟩ | ⟨g',cap,cur,h1,h3,_⟩
 ·rw[h1] at hg;cases hg
 ·rw[h1] at hg;cases hg;rw[h3];rfl
theorem own.jq {B:Nat} {w:World} {t:Tok} {xs:List Value} (h:own B w t xs):t.v.oneCell'=true:=by
 rcases h.2 with ⟨_,_,h | ⟨a,h⟩⟩ | ⟨g,cap,cur,_,h,_⟩<;>rw[h]<;>rfl
def aj.ok (B:Nat) (F:Fz) (w:World):aj→Prop
 | .box b cs=>B≤b∧(∃ vs el,w.heap[b]?=some (.cells (List.toArray vs) el (0,0))∧aQ F cs vs)∧ ∀ o,F b o=none
 | .tok t=>(∃ xs,own B w t xs)∧ ∀ g,t.b=some g→ ∀ o,t.n * t.s≤o→F g o=none
 | .mp r d m aK=>B≤r∧ ∃ es clock,w.heap[r]?=some (.map es clock)∧mD F d m aK es clock
 | .row t es=>(∃ xs,own B w t xs∧aQ F (flat es) xs)∧(∀ e∈es,e.cellsOf.length=t.s)∧es.length=t.n∧ ∀ g,t.b=some g→ ∀ o,F g o=none
 | .ob b o T vs=>B≤b∧w.heap[b]?=some o∧(∀ o,F b o=none)∧aA F T vs
def aj.blk:aj→Option Nat
 | .box b _=>some b
 | .tok t=>t.b
 | .mp r _ _ _=>some r
 | .row t _=>t.b
 | .ob b _ _ _=>some b
def aj.apart (x y:aj):Prop:=x.blk=none∨x.blk≠y.blk
theorem aj.eV {x y:aj} (h:x.apart y):y.apart x:=by
 unfold aj.apart at *;rcases h with h | h
 ·cases hy:y.blk with
  | none=>exact .inl rfl
  | some k=>right;rw[h];simp
 ·exact .inr (Ne.symm h)
structure aP (w0:World) (F:Fz) (M:List aj) (w:World):Prop where
 below:Below w0.heap.size w0 w
 fz: ∀ b o u,F b o=some u→w.cell? ⟨b,o,none⟩=some u
 fe: ∀ e∈M,e.ok w0.heap.size F w
 sep:M.Pairwise aj.apart
theorem aP.perm {w0:World} {F:Fz} {M M':List aj} {w:World} (h:aP w0 F M w) (p:M.Perm M'):aP w0 F M' w:=
 ⟨h.below,h.fz,fun e he=>h.fe e (p.mem_iff.2 he),(p.pairwise_iff (fun h=>aj.eV h)).1 h.sep⟩
theorem aP.tail {w0:World} {F:Fz} {e:aj} {M:List aj} {w:World} (h:aP w0 F (e::M) w):aP w0 F M w:=
 ⟨h.below,h.fz,fun x hx=>h.fe x (List.mem_cons_of_mem _ hx),h.sep.tail⟩
theorem aP.sub {w0:World} {F:Fz} {M M':List aj} {w:World} (h:aP w0 F M w) (p:M'.Sublist M):aP w0 F M' w:=
 ⟨h.below,h.fz,fun e he=>h.fe e (p.subset he),h.sep.sublist p⟩
theorem aj.fT {B:Nat} {F F':Fz} {w w':World} {e:aj} (h:e.ok B F w) (hF:F.le F')
  (hb: ∀ k,e.blk=some k→w'.heap[k]?=w.heap[k]?∧ ∀ o,F k o=none→F' k o=none):e.ok B F' w':=by
 cases e with
 | box b cs=>
  obtain ⟨h1,⟨vs,el,h2,h3⟩,h4⟩:=h;obtain ⟨k1,k2⟩:=hb b rfl;exact ⟨h1,⟨vs,el,k1.trans h2,aQ.mono hF _ _ h3⟩,fun o=>k2 o (h4 o)⟩
 | tok t=>
  obtain ⟨⟨xs,h1⟩,h2⟩:=h;exact ⟨⟨xs,h1.keep fun k hk=>(hb k hk).1⟩,fun g hg o ho=>(hb g hg).2 o (h2 g hg o ho)⟩
 | mp r d m aK=>
  obtain ⟨h1,es,clock,h2,h3⟩:=h;exact ⟨h1,es,clock,(hb r rfl).1.trans h2,h3.mono hF⟩
 | row t es=>
  obtain ⟨⟨xs,h1,h2⟩,h3,h4,h5⟩:=h;exact ⟨⟨xs,h1.keep fun k hk=>(hb k hk).1,aQ.mono hF _ _ h2⟩,h3,h4,fun g hg o=>(hb g hg).2 o (h5 g hg o)⟩
 | ob b o T vs=>
  obtain ⟨h1,h2,h3,h4⟩:=h;exact ⟨h1,(hb b rfl).1.trans h2,fun o=>(hb b rfl).2 o (h3 o),aA.mono hF _ _ h4⟩
theorem aj.jC {B:Nat} {F:Fz} {w:World} {e:aj} (h:e.ok B F w) {k:Nat} (hk:e.blk=some k):B≤k∧k < w.heap.size:=by
 cases e with
 | box b cs=>
  obtain ⟨h1,⟨vs,el,h2,h3⟩,h4⟩:=h;simp only[aj.blk,Option.some.injEq] at hk;subst hk;exact ⟨h1,(Array.getElem?_eq_some_iff.1 h2).1⟩
 | tok t=>
  obtain ⟨⟨xs,h1⟩,h2⟩:=h;exact h1.lt k hk
 | mp r d m aK=>
  obtain ⟨h1,es,clock,h2,_⟩:=h;simp only[aj.blk,Option.some.injEq] at hk;subst hk;exact ⟨h1,(Array.getElem?_eq_some_iff.1 h2).1⟩
 | row t es=>
  obtain ⟨⟨xs,h1,_⟩,_⟩:=h;exact h1.lt k hk
 | ob b o T vs=>
  obtain ⟨h1,h2,_⟩:=h;simp only[aj.blk,Option.some.injEq] at hk;subst hk;exact ⟨h1,(Array.getElem?_eq_some_iff.1 h2).1⟩
theorem vg {F:Fz} {w:World} (h: ∀ b o u,F b o=some u→w.cell? ⟨b,o,none⟩=some u) {b o:Nat} (hb:w.heap.size≤b):F b o=none:=by
 cases hf:F b o with
 | none=>rfl
 | some u=>
  have:=h b o u hf;have:=World.block_lt_of_cell? w _ this;simp at this;omega
theorem aP.drew {w0:World} {F:Fz} {M:List aj} {w:World} (h:aP w0 F M w):aP w0 F M w.drew:=
 ⟨h.below.drew,fun b o u x=>by simpa using h.fz b o u x,fun e he=>aj.fT (h.fe e he) (Fz.le_refl F) fun _ _=>⟨rfl,fun _ x=>x⟩,h.sep⟩
theorem aP.of_heap {w0:World} {F:Fz} {M:List aj} {w w':World} (h:aP w0 F M w) (hh:w'.heap=w.heap) (ho:w'.os=w.os) (ht:w'.tape=w.tape) (hp:w'.output=w.output):aP w0 F M w':=
 ⟨h.below.trans ⟨ho,ht,hp,by rw[hh];exact Nat.le_refl _,fun k _=>by rw[hh]⟩,fun b o u x=>by simpa[World.cell?,hh] using h.fz b o u x,
  fun e he=>aj.fT (h.fe e he) (Fz.le_refl F) fun _ _=>⟨by rw[hh],fun _ x=>x⟩,h.sep⟩
theorem aP.qR {w0:World} {F:Fz} {M:List aj} {w:World} (h:aP w0 F M w) (o:Obj):aP w0 F M (w.alloc o):=by
 refine ⟨h.below.alloc h.below.size o,fun b p u x=>?_,fun e he=>aj.fT (h.fe e he) (Fz.le_refl F) fun k hk=>⟨?_,fun _ x=>x⟩,h.sep⟩
 ·have:=h.fz b p u x
  rw[World.cell?_alloc_lt w o _ (World.block_lt_of_cell? w _ this)];exact this
 ·exact heap_alloc_old w o k (aj.jC (h.fe e he) hk).2
theorem aP.box {w0:World} {F:Fz} {M:List aj} {w:World} (h:aP w0 F M w) {cs:List PV} {vs:List Value} (r:aQ F cs vs) (el:TypeId):
  aP w0 F (.box w.heap.size cs::M) (w.alloc (.cells vs.toArray el)):=by
 have h':=h.qR (.cells vs.toArray el);refine ⟨h'.below,h'.fz,fun e he=>?_,List.pairwise_cons.2 ⟨fun e he=>?_,h.sep⟩⟩
 ·rcases List.mem_cons.1 he with rfl | he
  ·exact ⟨h.below.size,⟨vs,el,heap_alloc_new w _,r⟩,fun o=>vg h.fz (Nat.le_refl _)⟩
  ·exact h'.fe e he
 ·right
  intro hb;have:=(aj.jC (h.fe e he) hb.symm).2;omega
theorem aP.HX {w0:World} {F:Fz} {M:List aj} {w:World} (h:aP w0 F M w) {b:Nat} {cs:List PV} (he:aj.box b cs∈M):
  ∃ vs el,w.heap[b]?=some (.cells (List.toArray vs) el (0,0))∧aQ F cs vs:=(h.fe _ he).2.1
theorem qc {w:World} {b:Nat} {vs:List Value} {el:TypeId} {fr:Nat×Nat} (hb:w.heap[b]?=some (.cells (List.toArray vs) el fr)) (off:Nat):
  ∀ j v,(vs.drop off)[j]?=some v→w.cell? ((⟨b,off,none⟩:Addr).add j)=some v:=by
 intro j v hv;rw[Addr.add_lit,cell_of_row w b _ _ el fr hb];simpa[List.getElem?_drop] using hv
theorem aP.store {w0:World} {F:Fz} {M1 M2:List aj} {w:World} {b off:Nat} {cs xs:List PV} {us:List Value} (P:Program)
  (h:aP w0 F (M1++.box b cs::M2) w) (r:aQ F xs us) (hl:off + xs.length≤cs.length):
  ∃ w',(storeCells ⟨b,off,none⟩ us).run P w=.ok () w'∧aP w0 F (M1++.box b (cs.take off++xs++cs.drop (off + xs.length))::M2) w':=by
 have hbox:aj.box b cs∈M1++.box b cs::M2:=by simp
 have hok:=h.fe _ hbox;obtain ⟨hB,⟨vs,el,hb,hr⟩,hF⟩:=hok;have l1:=hr.length;have l2:=r.length;have hst:=run_storeCells_at P b off el us 0 vs.toArray w hb (by simp;omega) r.jq;refine ⟨_,hst,?_⟩;simp only[Nat.add_zero];have hperm:(M1++.box b cs::M2).Perm (.box b cs::(M1++M2)):=List.perm_middle;have hsep:=(hperm.pairwise_iff (fun h=>aj.eV h)).1 h.sep;rw[List.pairwise_cons] at hsep;have hother: ∀ k,k≠b→(w.setRow b (vs.take off++us++vs.drop (off + us.length)).toArray).heap[k]?=w.heap[k]?:=fun k hk=>setRow_other w b k _ hk
 suffices H:aP w0 F (.box b (cs.take off++xs++cs.drop (off + xs.length))::(M1++M2)) (w.setRow b (vs.take off++us++vs.drop (off + us.length)).toArray) from
  H.perm List.perm_middle.symm
 refine ⟨h.below.trans ⟨rfl,rfl,rfl,by simp[World.setRow],fun k hk=>hother k (by omega)⟩,fun b' o u x=>?_,fun e he=>?_,List.pairwise_cons.2 ⟨fun e he=>?_,hsep.2⟩⟩
 ·have hne:b'≠b:=fun e=>by rw[e,hF o] at x;cases x
  rw[World.cell?_of_block (w:=w) (hother b' hne)];exact h.fz b' o u x
 ·rcases List.mem_cons.1 he with rfl | he
  ·refine ⟨hB,⟨_,el,setRow_heap w b _ _ el _ hb,?_⟩,hF⟩
   rw[←l2];exact bH (bH (cU _ hr) r) (dg _ hr)
  ·refine aj.fT (h.fe e (hperm.symm.subset (List.mem_cons_of_mem _ he))) (Fz.le_refl F) fun k hk=>⟨hother k ?_,fun _ x=>x⟩
   intro hkb;rcases hsep.1 e he with h1 | h1
   ·simp[aj.blk] at h1
   ·exact h1 (by rw[hk,hkb];rfl)
 ·exact hsep.1 e he
def Fz.put (F:Fz) (b:Nat) (vs:List Value):Fz:=fun b' o=>if b'=b∧o < vs.length then vs[o]? else F b' o
theorem Fz.Dr {F:Fz} {b:Nat} {vs:List Value} (h: ∀ o u,F b o=some u→vs[o]?=some u∨vs.length≤o):F.le (F.put b vs):=by
 intro b' o u x;unfold Fz.put
 split
 ·rename_i hc
  obtain ⟨rfl,hlt⟩:=hc;rcases h o u x with h | h
  ·exact h
  ·omega
 ·exact x
theorem Fz.DM {F:Fz} {b:Nat} {vs:List Value}: ∀ j u,vs[j]?=some u→F.put b vs b (0 + j)=some u:=by
 intro j u hu
 have hlt:j < vs.length:=by
  rcases Nat.lt_or_ge j vs.length with h | h
  ·exact h
  ·simp[List.getElem?_eq_none h] at hu
 simp only[Fz.put,Nat.zero_add,hlt,and_self,if_true];exact hu
theorem aP.row {w0:World} {F:Fz} {M:List aj} {w w':World} {t:Tok} {ys:List PV} {xs:List Value} (h:aP w0 F M w)
  (hbelow:Below w0.heap.size w w')
  (hown:own w0.heap.size w' t xs)
  (hys: ∀ e∈ys,e.cellsOf.length=t.s) (hn:t.n=ys.length) (hr:aQ F (flat ys) xs)
  (hfz: ∀ b o u,F b o=some u→w'.cell? ⟨b,o,none⟩=some u)
  (hblk: ∀ e∈M, ∀ k,e.blk=some k→w'.heap[k]?=w.heap[k]?∧t.b≠some k)
  (hfree: ∀ g,t.b=some g→ ∀ o,t.n * t.s≤o→F g o=none):
  ∃ F',F.le F'∧aP w0 F' (.tok t::M) w'∧aC F' (.sl t.s ys (some t)) t.v:=by
 have hfl:=cm hys;have hxl:=hown.1
 rcases hown.2 with ⟨hb,h0,hv⟩ | ⟨g,cap,cur,hb,hv,hbg,hg,hnc,hcm,hcs,htake⟩
 ·refine ⟨F,Fz.le_refl F,⟨h.below.trans hbelow,hfz,fun e he=>?_,List.pairwise_cons.2 ⟨fun e he=>.inl (by simp[aj.blk,hb]),h.sep⟩⟩,?_⟩
  ·rcases List.mem_cons.1 he with rfl | he
   ·exact ⟨⟨xs,hown⟩,hfree⟩
   ·exact aj.fT (h.fe e he) (Fz.le_refl F) fun k hk=>⟨(hblk e he k hk).1,fun _ x=>x⟩
  ·have:ys= []:=List.eq_nil_of_length_eq_zero (by omega)
   subst this;simp only[aC];refine ⟨fun t' ht=>?_,?_⟩
   ·cases ht
    exact ⟨rfl,hn,rfl⟩
   ·rcases hv with hv | ⟨a,hv⟩
    ·exact .inl ⟨hv,trivial⟩
    ·exact .inr (.inr ⟨trivial,a,hv⟩)
 ·have hcell: ∀ o,w'.cell? ⟨g,o,none⟩=cur[o]?:=fun o=>cell_of_row w' g o cur t.e (0,0) hg
  have hxcell: ∀ o,o < xs.length→cur[o]?=xs[o]?:=fun o ho=>by
   rw[←htake,List.getElem?_take,if_pos (by omega)];simp
  have hle:F.le (F.put g xs):=Fz.Dr fun o u x=>by
   by_cases ho:o < xs.length
   ·left
    have:=hfz g o u x;rw[hcell,hxcell o ho] at this;exact this
   ·exact .inr (by omega)
  refine ⟨F.put g xs,hle,⟨h.below.trans hbelow,fun b o u x=>?_,fun e he=>?_,List.pairwise_cons.2 ⟨fun e he=>?_,h.sep⟩⟩,?_⟩
  ·unfold Fz.put at x
   split at x
   ·rename_i hc
    obtain ⟨rfl,ho⟩:=hc;rw[hcell,hxcell o ho];exact x
   ·exact hfz b o u x
  ·rcases List.mem_cons.1 he with rfl | he
   ·refine ⟨⟨xs,hown⟩,fun g' hg' o ho=>?_⟩
    rw[hb] at hg';cases hg';unfold Fz.put;rw[if_neg (by omega)];exact hfree _ hb o ho
   ·refine aj.fT (h.fe e he) hle fun k hk=>⟨(hblk e he k hk).1,fun o x=>?_⟩
    have hne:=(hblk e he k hk).2;unfold Fz.put;rw[if_neg]
    ·exact x
    ·rintro ⟨rfl,_⟩
     exact hne hb
  ·right
   show t.b≠e.blk;intro hb';have:e.blk=some g:=by rw[←hb',hb]
   exact (hblk e he g this).2 hb
  ·simp only[aC]
   refine ⟨fun t' ht=>?_,.inr (.inl ⟨g,0,cap,by rw[hv,hn],by omega,hcm,fun _ _=>.inl rfl,?_⟩)⟩
   ·cases ht
    exact ⟨rfl,hn,rfl⟩
   ·rw[eU]
    refine ⟨hys,(aZ ..).2 ⟨xs,aQ.mono hle _ _ hr,Fz.DM⟩⟩
theorem aP.freeze {w0:World} {F:Fz} {M:List aj} {w:World} {b:Nat} {cs:List PV} (h:aP w0 F (.box b cs::M) w):
  ∃ F',F.le F'∧aP w0 F' M w∧ ∀ o,bT F' b o (cs.drop o):=by
 obtain ⟨hB,⟨vs,el,hw,hv⟩,hF⟩:=h.fe _ (List.mem_cons_self ..);have hle:F.le (F.put b vs):=Fz.Dr fun o u x=>by rw[hF o] at x;cases x
 have hsep:=List.pairwise_cons.1 h.sep;refine ⟨F.put b vs,hle,⟨h.below,fun b' o u x=>?_,fun e he=>?_,hsep.2⟩,fun o=>?_⟩
 ·unfold Fz.put at x
  split at x
  ·rename_i hc
   obtain ⟨rfl,ho⟩:=hc;rw[cell_of_row w _ o _ el (0,0) hw];simpa using x
  ·exact h.fz b' o u x
 ·refine aj.fT (h.fe e (List.mem_cons_of_mem _ he)) hle fun k hk=>⟨rfl,fun o x=>?_⟩
  have hne:k≠b:=by
   rcases hsep.1 e he with h1 | h1
   ·simp[aj.blk] at h1
   ·intro e1;subst e1;exact h1 (by rw[hk];rfl)
  unfold Fz.put;rw[if_neg (fun hc=>hne hc.1)];exact x
 ·rw[aZ]
  refine ⟨vs.drop o,dg _ (aQ.mono hle _ _ hv),fun j u hu=>?_⟩;rw[List.getElem?_drop] at hu;have:=Fz.DM (F:=F) (b:=b) (o + j) u hu;rwa [Nat.zero_add] at this
theorem aP.obj {w0:World} {F:Fz} {M:List aj} {w:World} (h:aP w0 F M w) (o:Obj) {T:List PV} {vs:List Value} (hT:aA F T vs):aP w0 F (.ob w.heap.size o T vs::M) (w.alloc o):=by
 have h':=h.qR o;refine ⟨h'.below,h'.fz,fun e he=>?_,List.pairwise_cons.2 ⟨fun e he=>?_,h.sep⟩⟩
 ·rcases List.mem_cons.1 he with rfl | he
  ·exact ⟨h.below.size,heap_alloc_new w _,fun o=>vg h.fz (Nat.le_refl _),hT⟩
  ·exact h'.fe e he
 ·right
  intro hb;have:=(aj.jC (h.fe e he) hb.symm).2;omega
theorem aP.putObj {w0:World} {F:Fz} {M:List aj} {w w':World} {b:Nat} {o o':Obj} {T:List PV} {vs:List Value} (h:aP w0 F (.ob b o T vs::M) w) (hb:w'.heap[b]?=some o') (hz:w'.heap.size=w.heap.size) (ho: ∀ k,k≠b→w'.heap[k]?=w.heap[k]?)
  (e1:w'.os=w.os) (e2:w'.tape=w.tape) (e3:w'.output=w.output):aP w0 F (.ob b o' T vs::M) w':=by
 obtain ⟨h1,h2,h3,h4⟩:=h.fe _ (List.mem_cons_self ..);have hsep:=List.pairwise_cons.1 h.sep;refine ⟨h.below.trans ⟨e1,e2,e3,by rw[hz];exact Nat.le_refl _,fun k hk=>ho k (by omega)⟩,fun b' o u x=>?_,fun e he=>?_,List.pairwise_cons.2 ⟨fun e he=>?_,hsep.2⟩⟩
 ·have hne:b'≠b:=fun e=>by rw[e,h3 o] at x;cases x
  rw[World.cell?_of_block (w:=w) (ho b' hne)];exact h.fz b' o u x
 ·rcases List.mem_cons.1 he with rfl | he
  ·exact ⟨h1,hb,h3,h4⟩
  ·refine aj.fT (h.fe e (List.mem_cons_of_mem _ he)) (Fz.le_refl F) fun k hk=>⟨ho k ?_,fun _ x=>x⟩
   intro hkb;rcases hsep.1 e he with h1 | h1
   ·simp[aj.blk] at h1
   ·exact h1 (by rw[hk,hkb];rfl)
 ·exact hsep.1 e he
theorem aP.cE {w0:World} {F:Fz} {M:List aj} {w:World} {t:Tok} {es:List PV} (h:aP w0 F (.row t es::M) w):
  ∃ F',F.le F'∧aP w0 F' (.tok t::M) w∧aC F' (.sl t.s es (some t)) t.v:=by
 obtain ⟨⟨xs,h1,h2⟩,h3,h4,h5⟩:=h.fe _ (List.mem_cons_self ..);have hsep:=List.pairwise_cons.1 h.sep;refine aP.row (M:=M) (xs:=xs) h.tail (Below.refl _ w) h1 h3 h4.symm h2 h.fz (fun e he k hk=>⟨rfl,?_⟩) (fun g hg o _=>h5 g hg o);rcases hsep.1 e he with hh | hh
 ·simp only[aj.blk] at hh;rw[hh];simp
 ·intro hx;exact hh (by rw[hk];exact hx)
theorem aP.G0 {w0:World} {F:Fz} {M:List aj} {w w':World} {t:Tok} {ys:List PV} {xs:List Value} (h:aP w0 F M w)
  (hbelow:Below w0.heap.size w w')
  (hown:own w0.heap.size w' t xs)
  (hys: ∀ e∈ys,e.cellsOf.length=t.s) (hn:ys.length=t.n) (hr:aQ F (flat ys) xs)
  (hfz: ∀ b o u,F b o=some u→w'.cell? ⟨b,o,none⟩=some u)
  (hblk: ∀ e∈M, ∀ k,e.blk=some k→w'.heap[k]?=w.heap[k]?∧t.b≠some k)
  (hfree: ∀ g,t.b=some g→ ∀ o,F g o=none):aP w0 F (.row t ys::M) w':=by
 refine ⟨h.below.trans hbelow,hfz,fun e he=>?_,List.pairwise_cons.2 ⟨fun e he=>?_,h.sep⟩⟩
 ·rcases List.mem_cons.1 he with rfl | he
  ·exact ⟨⟨xs,hown,hr⟩,hys,hn,hfree⟩
  ·exact aj.fT (h.fe e he) (Fz.le_refl F) fun k hk=>⟨(hblk e he k hk).1,fun _ x=>x⟩
 ·cases hk:t.b with
  | none=>exact .inl hk
  | some k=>
   right;intro hb;exact (hblk e he k (hb▸hk)).2 hk
theorem wZ {P:Program} (w:World) (B:Nat) (t ty e:TypeId) (i:TypeInfo) (z:Value) (ht:P.underlying t=some (.slice e)) (hi:P.info? e=some i) (hz:i.zero=some z)
  (hzs:z.cells.size=i.size) (hB:B≤w.heap.size)
  (v:Value) (n:Nat) (xs:List Value) (hown:w.ownsRow B e i.size v n xs)
  (a:Addr) (m c:Nat) (news:List Value) (hl:news.length=m * i.size) (hnews: ∀ j u,news[j]?=some u→w.cell? (a.add j)=some u) (h1: ∀ u∈news,u.oneCell'=true)
  (h63:n + m≤maxLen) (hbytes:(n + m) * i.bytes≤140737488355328):
  ∃ v' w',(Builtin.append_ #[t,t] ty #[v,.slice (some a) m c]).run P w=.ok v' w'∧w'.ownsRow B e i.size v' (n + m) (xs++news)∧Below B w w'∧
   ((v'.ownBlock=v.ownBlock∧ ∀ k,v.ownBlock≠some k→w'.heap[k]?=w.heap[k]?)∨(v'.ownBlock=some w.heap.size∧ ∀ k,k < w.heap.size→w'.heap[k]?=w.heap[k]?)):=by
 have hsmall:n + m≤9223372036854775807:=by simp only[maxLen] at h63;omega
 have hlen:(xs++news).length=(n + m) * i.size:=by rw[List.length_append,hown.1,hl,Nat.add_mul]
 have grown: ∀ (old:Nat),old < n + m→
   (w.drew.alloc (.cells (xs.toArray++news.toArray++Builtin.zeroCells z.cells (grownCap w (n + m) old e - (n + m))) e)).ownsRow B e i.size
    (.slice (some ⟨w.heap.size,0,none⟩) (n + m) (grownCap w (n + m) old e)) (n + m) (xs++news)∧
   Below B w (w.drew.alloc (.cells (xs.toArray++news.toArray++Builtin.zeroCells z.cells (grownCap w (n + m) old e - (n + m))) e)):=by
  intro old ho;have hge:=grownCap_ge w (n + m) old e;have hcm:grownCap w (n + m) old e≤maxLen:=grownCap_le_maxLen w (n + m) old e h63;refine ⟨⟨hlen,.inr ⟨w.heap.size,_,_,rfl,hB,heap_alloc_new w.drew _,hge,hcm,?_,?_⟩⟩,((Below.refl _ w).drew).alloc hB _⟩
  ·simp only[Array.size_append,List.size_toArray,size_zeroCells,hzs,hown.1,hl, ←Nat.add_mul]
   congr 1;omega
  ·simp only[Array.toList_append,List.append_assoc]
   rw[←List.append_assoc, ←hlen];exact List.take_left
 rcases hown.2 with ⟨rfl,rfl⟩ | ⟨g,cap,cur,rfl,hbg,hg,hnc,hcm,hcs,htake⟩
 ·have hx:xs= []:=List.eq_nil_of_length_eq_zero (by simpa using hown.1)
  subst hx;by_cases hm:m=0
  ·subst hm
   have hn:news= []:=List.eq_nil_of_length_eq_zero (by simpa using hl);subst hn;refine ⟨.slice none 0 0,w,?_,World.ownsRow_nil w B e i.size,Below.refl _ w,.inl ⟨rfl,fun _ _=>rfl⟩⟩;simp[Builtin.append_,run_underlying ht,sizeOf,typeInfo,hi,Builtin.lenOf,Builtin.firstCells,loadCells,loadCellsFrom]
  ·have hr:=run_append_nil (P:=P) w t ty e i z ht hi hz a m c news hl hnews (by omega) (by omega) (by have hb:=hbytes;simp only[Nat.zero_add] at hb;omega)
   have hgr:=grown 0 (by omega);simp only[Nat.zero_add,List.nil_append,Array.empty_append] at hgr ⊢;exact ⟨_,_,hr,hgr.1,hgr.2,.inr ⟨rfl,fun k hk=>heap_alloc_old w.drew _ k hk⟩⟩
 ·by_cases hroom:n + m≤cap
  ·have hfit:n * i.size + news.length≤cur.size:=by rw[hl,hcs, ←Nat.add_mul];exact Nat.mul_le_mul_right _ hroom
   have hr:=run_append_room (P:=P) w t ty e i ht hi g n cap cur hg a m c news hl hnews h1 hroom hfit
   refine ⟨_,_,hr,⟨hlen,.inr ⟨g,cap,_,rfl,hbg,setRow_heap w g cur _ e _ hg,hroom,hcm,?_,?_⟩⟩,
    ⟨rfl,rfl,rfl,by simp[World.setRow],fun k hk=>setRow_other w g k _ (by omega)⟩,.inl ⟨rfl,fun k hk=>setRow_other w g k _ (fun e=>hk (by simp[Value.ownBlock,e]))⟩⟩
   ·simp only[List.size_toArray,List.length_append,List.length_take,List.length_drop,Array.length_toList]
    omega
   ·rw[htake, ←hlen]
    exact List.take_left
  ·have holds: ∀ j u,xs[j]?=some u→w.cell? ((⟨g,0,none⟩:Addr).add j)=some u:=hown.cells (g:=g) rfl
   have hr:=run_append_grow (P:=P) w t ty e i z ht hi hz ⟨g,0,none⟩ n cap xs hown.1 holds a m c news hl hnews (by omega) (by omega) (growslice_fits (by omega) hbytes);have hgr:=grown cap (by omega);exact ⟨_,_,hr,hgr.1,hgr.2,.inr ⟨rfl,fun k hk=>heap_alloc_old w.drew _ k hk⟩⟩
theorem run_append_own {P:Program} (w:World) (B:Nat) (t ty:TypeId) {k:Tok} (i:TypeInfo) (z:Value) (ht:P.underlying t=some (.slice k.e)) (hi:P.info? k.e=some i) (hz:i.zero=some z)
  (hzs:z.cells.size=i.size) (hs:i.size=k.s) (hB:B≤w.heap.size) (xs:List Value) (hown:own B w k xs)
  (a:Addr) (m c:Nat) (news:List Value) (hl:news.length=m * i.size) (hnews: ∀ j u,news[j]?=some u→w.cell? (a.add j)=some u) (h1: ∀ u∈news,u.oneCell'=true)
  (h63:k.n + m≤maxLen) (hbytes:(k.n + m) * i.bytes≤140737488355328):
  ∃ v' b' w',(Builtin.append_ #[t,t] ty #[k.v,.slice (some a) m c]).run P w=.ok v' w'∧own B w' ⟨v',k.n + m,k.s,k.e,b'⟩ (xs++news)∧Below B w w'∧
   ((b'=k.b∧ ∀ j,k.b≠some j→w'.heap[j]?=w.heap[j]?)∨(b'=some w.heap.size∧ ∀ j,j < w.heap.size→w'.heap[j]?=w.heap[j]?)):=by
 obtain ⟨v,n,s,e,b⟩:=k;simp only at *;subst hs
 have key: ∀ {v:Value} (hr:w.ownsRow B e i.size v n xs) (hv:v.ownBlock=b), ∃ v' b' w',(Builtin.append_ #[t,t] ty #[v,.slice (some a) m c]).run P w=.ok v' w'∧own B w' ⟨v',n + m,i.size,e,b'⟩ (xs++news)∧Below B w w'∧
   ((b'=b∧ ∀ j,b≠some j→w'.heap[j]?=w.heap[j]?)∨(b'=some w.heap.size∧ ∀ j,j < w.heap.size→w'.heap[j]?=w.heap[j]?)):=by
  intro v hr hv;obtain ⟨v',w',h1,h2,h3,h4⟩:=wZ (P:=P) w B t ty e i z ht hi hz hzs hB v n xs hr a m c news hl hnews h1 h63 hbytes;refine ⟨v',v'.ownBlock,w',h1,own.Ai h2,h3,?_⟩;rw[←hv];exact h4
 rcases hown.2 with ⟨h2,h3,h4⟩ | ⟨g,cap,cur,h2,h3,h4⟩
 ·simp only at h2 h3 h4
  subst h2 h3;have hx:xs= []:=List.eq_nil_of_length_eq_zero (by simpa using hown.1);subst hx
  rcases h4 with rfl | ⟨ad,rfl⟩
  ·exact key (World.ownsRow_nil w B e i.size) rfl
  ·by_cases hm:m=0
   ·subst hm
    have hn:news= []:=List.eq_nil_of_length_eq_zero (by simpa using hl);subst hn;refine ⟨_,none,w,?_,⟨by simp,.inl ⟨rfl,rfl,.inr ⟨ad,rfl⟩⟩⟩,Below.refl _ w,.inl ⟨rfl,fun _ _=>rfl⟩⟩;simp[Builtin.append_,run_underlying ht,sizeOf,typeInfo,hi,Builtin.lenOf,Builtin.firstCells,storeCells,loadCells,loadCellsFrom]
   ·have hr:=run_append_grow (P:=P) w t ty e i z ht hi hz ad 0 0 [] (by simp) (by simp) a m c news hl hnews (by omega) (by simp only[maxLen] at h63;omega) (growslice_fits (by omega) (by simpa using hbytes))
    have hcm:grownCap w (0 + m) 0 e≤maxLen:=grownCap_le_maxLen w (0 + m) 0 e h63;have hge:=grownCap_ge w (0 + m) 0 e;simp only[Nat.zero_add] at hr hcm hge ⊢;refine ⟨_,some w.heap.size,_,hr,⟨by simp[hl],.inr ⟨w.heap.size,_,_,rfl,rfl,hB,heap_alloc_new w.drew _,hge,hcm,?_,?_⟩⟩,((Below.refl _ w).drew).alloc hB _,.inr ⟨rfl,fun k hk=>heap_alloc_old w.drew _ k hk⟩⟩
    ·simp only[Array.size_append,List.size_toArray,size_zeroCells,hzs,hl, ←Nat.add_mul,List.length_nil,Nat.zero_add]
     congr 1;omega
    ·simp only[Array.toList_append,List.append_assoc,List.nil_append]
     rw[←hl];exact List.take_left
 ·simp only at h2 h3
  subst h2;refine key (hown.row rfl) ?_;rw[h3];rfl
theorem fq {w0:World} {F:Fz} {M:List aj} {w:World} (h:aP w0 F M w) {s:Nat} {es:List PV} {tk:Option Tok} {v:Value} (r:aC F (.sl s es tk) v):
  ((v=.slice none 0 0∨ ∃ a,v=.slice (some a) 0 0)∧es= [])∨ ∃ b o cap vs,v=.slice (some ⟨b,o,none⟩) es.length cap∧es.length≤cap∧cap≤maxLen∧(∀ e∈es,e.cellsOf.length=s)∧aQ F (flat es) vs∧
   (∀ j u,vs[j]?=some u→F b (o + j)=some u)∧ ∀ j u,vs[j]?=some u→w.cell? ((⟨b,o,none⟩:Addr).add j)=some u:=by
 simp only[aC] at r
 rcases r.2 with ⟨h1,h2⟩ | ⟨b,o,cap,h1,h2,h3,h4,h5⟩ | ⟨h1,h2⟩
 ·exact .inl ⟨.inl h1,h2⟩
 rotate_right
 ·exact .inl ⟨.inr h2,h1⟩
 ·rw[eU,aZ] at h5
  obtain ⟨h5,vs,h6,h7⟩:=h5;refine .inr ⟨b,o,cap,vs,h1,h2,h3,h5,h6,h7,fun j u hu=>?_⟩;rw[Addr.add_lit];exact h.fz _ _ _ (h7 j u hu)
def iG (F:Fz) (w:World) (s:Nat) (es:List PV) (v:Value):Prop:=
 (v=.slice none 0 0∧es= [])∨ ∃ a cap vs,v=.slice (some a) es.length cap∧es.length≤cap∧cap≤maxLen∧(∀ e∈es,e.cellsOf.length=s)∧aQ F (flat es) vs∧
  ∀ j u,vs[j]?=some u→w.cell? (a.add j)=some u
theorem iG.Pv {w0:World} {F:Fz} {M:List aj} {w:World} (h:aP w0 F M w) {s:Nat} {es:List PV} {tk:Option Tok} {v:Value} (r:aC F (.sl s es tk) v):iG F w s es v:=by
 rcases fq h r with ⟨h1 | ⟨a,h1⟩,h2⟩ | ⟨b,o,cap,vs,h1,h2,h3,h4,h5,_,h7⟩
 ·exact .inl ⟨h1,h2⟩
 ·subst h2
  exact .inr ⟨a,0, [],h1,by simp,by simp[maxLen],by simp,cG F,by simp⟩
 ·exact .inr ⟨⟨b,o,none⟩,cap,vs,h1,h2,h3,h4,h5,h7⟩
theorem Mp {w0:World} {F:Fz} {M:List aj} {w:World} (h:aP w0 F M w) {t:Tok} (ht:aj.tok t∈M) {s:Nat} {es:List PV} {v:Value} (r:aC F (.sl s es (some t)) v):
  v=t.v∧t.n=es.length∧t.s=s∧(∀ e∈es,e.cellsOf.length=s)∧ ∃ xs,own w0.heap.size w t xs∧aQ F (flat es) xs∧ ∀ g,t.b=some g→ ∀ o,t.n * t.s≤o→F g o=none:=by
 have r0:=r;simp only[aC] at r;obtain ⟨e1,e2,e3⟩:=r.1 t rfl;obtain ⟨⟨xs,hown⟩,hfree⟩:=h.fe _ ht
 rcases fq h r0 with ⟨h1,h2⟩ | ⟨b,o,cap,vs,h1,h2,h3,h4,h5,h6,h7⟩
 ·subst h2
  refine ⟨e1,e2,e3,by simp,xs,hown,?_,hfree⟩;have:=hown.1;rw[e2] at this;simp at this;subst this;exact cG F
 ·refine ⟨e1,e2,e3,h4,xs,hown,?_,hfree⟩
  by_cases he:es= []
  ·subst he
   have:=hown.1;rw[e2] at this;simp at this;subst this;exact cG F
  have ho:o=0:=by
   rcases r.2 with ⟨k1,_⟩ | ⟨b',o',cap',k1,_,_,k4,_⟩ | ⟨k1,_⟩
   rotate_right
   ·exact absurd k1 he
   ·rw[h1] at k1;cases k1
   ·rw[h1] at k1
    simp only[Value.slice.injEq,Option.some.injEq,Addr.mk.injEq,and_true] at k1;rw[k1.1.2];exact (k4 t rfl).resolve_right he
  subst ho
  have hb:t.b=some b:=by
   rcases hown.2 with ⟨_,k2,_⟩ | ⟨g,cap',cur,k1,k2,_⟩
   ·exfalso;apply he;apply List.eq_nil_of_length_eq_zero;omega
   ·rw[←e1,h1] at k2
    simp only[Value.slice.injEq,Option.some.injEq,Addr.mk.injEq,and_true] at k2;rw[k1,k2.1]
  have hvx:vs=xs:=by
   have l1:vs.length=es.length * s:=by rw[←h5.length,cm h4]
   have l2:=hown.1;apply List.ext_getElem?;intro j;by_cases hj:j < vs.length
   ·have hu:vs[j]?=some vs[j]:=List.getElem?_eq_getElem hj
    have hc:=h7 j _ hu;have hc2: ∀ u,xs[j]?=some u→w.cell? ((⟨b,0,none⟩:Addr).add j)=some u:=hown.cells hb j;have hj2:j < xs.length:=by rw[l2,e2,e3];omega
    have:=hc2 _ (List.getElem?_eq_getElem hj2);rw[hc] at this;rw[hu,List.getElem?_eq_getElem hj2,this]
   ·rw[List.getElem?_eq_none (by omega),List.getElem?_eq_none (by rw[l2,e2,e3];omega)]
  rw[←hvx];exact h5
theorem jf {P:Program} (w:World) (B:Nat) (t ty:TypeId) {k:Tok} (i:TypeInfo) (ht:P.underlying t=some (.slice k.e)) (hi:P.info? k.e=some i) (hs:i.size=k.s) (xs:List Value) (hown:own B w k xs):
  (Builtin.append_ #[t,t] ty #[k.v,.slice none 0 0]).run P w=.ok k.v w:=by
 obtain ⟨v,n,s,e,b⟩:=k;simp only at *;subst hs
 rcases hown.2 with ⟨h2,h3,h4⟩ | ⟨g,cap,cur,h2,h3,h4⟩
 ·simp only at h2 h3 h4
  subst h2 h3
  rcases h4 with rfl | ⟨ad,rfl⟩
  ·simp[Builtin.append_,run_underlying ht,sizeOf,typeInfo,hi,Builtin.lenOf,Builtin.firstCells]
  ·simp[Builtin.append_,run_underlying ht,sizeOf,typeInfo,hi,Builtin.lenOf,Builtin.firstCells,storeCells]
 ·simp only at h2 h3
  subst h2;exact run_append_owned_none (P:=P) w B t ty e i i.size ht hi v n xs (hown.row rfl)
theorem aP.r8 {P:Program} {w0:World} {F:Fz} {M1 M2:List aj} {w:World} {t:Tok} (h:aP w0 F (M1++.tok t::M2) w)
  (tt ty:TypeId) (i:TypeInfo) (z:Value) (ht:P.underlying tt=some (.slice t.e)) (hi:P.info? t.e=some i) (hz:i.zero=some z) (hzs:z.cells.size=i.size)
  {s:Nat} (hs:i.size=s) {es ys:List PV} {v v2:Value} (r:aC F (.sl s es (some t)) v) (r2:iG F w s ys v2)
  (h63:es.length + ys.length≤maxLen) (hbytes:(es.length + ys.length) * i.bytes≤140737488355328):
  ∃ v' w' F' t',(Builtin.append_ #[tt,tt] ty #[v,v2]).run P w=.ok v' w'∧F.le F'∧aP w0 F' (M1++.tok t'::M2) w'∧aC F' (.sl s (es++ys) (some t')) v'∧t'.e=t.e:=by
 obtain ⟨rfl,e2,e3,hes,xs,hown,hrx,hfree⟩:=Mp h (by simp) r;subst e3;have hB:=h.below.size
 rcases r2 with ⟨k1,k2⟩ | ⟨ad,cap,vs,k1,k2,k3,k4,k5,k7⟩
 ·subst k2
  subst k1;refine ⟨t.v,w,F,t,jf w w0.heap.size tt ty i ht hi hs xs hown,Fz.le_refl F,h,?_,rfl⟩;simpa using r
 ·subst k1
  have l5:vs.length=ys.length * i.size:=by rw[←k5.length,cm k4,hs]
  obtain ⟨v',b',w',hr,hown',hbel,hcase⟩:=run_append_own w w0.heap.size tt ty i z ht hi hz hzs hs hB xs hown ad ys.length cap vs l5 k7 k5.jq (by rw[e2];exact h63) (by rw[e2];exact hbytes);have hperm:(M1++.tok t::M2).Perm (.tok t::(M1++M2)):=List.perm_middle;have hsep:=(hperm.pairwise_iff (fun h=>aj.eV h)).1 h.sep;rw[List.pairwise_cons] at hsep;have hS:aP w0 F (M1++M2) w:=(h.perm hperm).tail
  obtain ⟨F',hle,hS',hR'⟩:=aP.row (t:=⟨v',t.n + ys.length,t.s,t.e,b'⟩) (ys:=es++ys) (xs:=xs++vs) hS hbel hown'
   (fun e he=>(List.mem_append.1 he).elim (hes e) (k4 e)) (by simp[e2]) (by rw[cJ];exact bH hrx k5)
   (fun b2 o' u x=>by
    have hold:=h.fz b2 o' u x;have hlt:=World.block_lt_of_cell? w _ hold
    rcases hcase with ⟨c1,c2⟩ | ⟨c1,c2⟩
    ·by_cases hbk:t.b=some b2
     ·
      have hlt':o' < t.n * t.s:=by
       rcases Nat.lt_or_ge o' (t.n * t.s) with hh | hh
       ·exact hh
       ·rw[hfree b2 hbk o' hh] at x;cases x
      have hxl:=hown.1;have hcells:=hown.cells hbk o' xs[o'] (List.getElem?_eq_getElem (by omega));rw[Addr.add_lit,Nat.zero_add] at hcells;have hcells':=hown'.cells (g:=b2) (by rw[←hbk];exact c1) o' xs[o'] (by rw[List.getElem?_append_left (by omega)];exact List.getElem?_eq_getElem (by omega));rw[Addr.add_lit,Nat.zero_add] at hcells';rw[hcells'];rw[hold] at hcells;exact hcells.symm
     ·rw[World.cell?_of_block (w:=w) (c2 b2 hbk)];exact hold
    ·rw[World.cell?_of_block (w:=w) (c2 b2 hlt)];exact hold)
   (fun e he k hk=>by
    have hlt:=(aj.jC (hS.fe e he) hk).2
    have hne:t.b≠some k:=by
     rcases hsep.1 e he with hh | hh
     ·simp only[aj.blk] at hh;rw[hh];simp
     ·intro hx;exact hh (by rw[hk];exact hx)
    rcases hcase with ⟨c1,c2⟩ | ⟨c1,c2⟩
    ·exact ⟨c2 k hne,by show b'≠some k;rw[c1];exact hne⟩
    ·exact ⟨c2 k hlt,by show b'≠some k;rw[c1];simp;omega⟩)
   (fun g hg o' ho'=>by
    have hg:b'=some g:=hg
    rcases hcase with ⟨c1,c2⟩ | ⟨c1,c2⟩
    ·refine hfree g (by rw[←c1];exact hg) o' ?_
     exact Nat.le_trans (Nat.mul_le_mul_right _ (Nat.le_add_right _ _)) ho'
    ·have:g=w.heap.size:=by rw[c1] at hg;simpa using hg.symm
     exact vg h.fz (by omega))
  exact ⟨v',w',F',_,hr,hle,hS'.perm List.perm_middle.symm,hR',rfl⟩
def aB (s:Nat) (e:TypeId):Tok:=⟨.slice none 0 0,0,s,e,none⟩
theorem E8 (B:Nat) (w:World) (s:Nat) (e:TypeId):own B w (aB s e) []:=⟨by simp[aB],.inl ⟨rfl,rfl,.inl rfl⟩⟩
theorem aP.aB {w0:World} {F:Fz} {M:List aj} {w:World} (h:aP w0 F M w) (s:Nat) (e:TypeId):aP w0 F (.tok (aB s e)::M) w:=by
 refine ⟨h.below,h.fz,fun x hx=>?_,List.pairwise_cons.2 ⟨fun x hx=>.inl rfl,h.sep⟩⟩;rcases List.mem_cons.1 hx with rfl | hx
 ·exact ⟨⟨[],E8 _ _ _ _⟩,by simp[Cb.aB]⟩
 ·exact h.fe x hx
theorem aP.append_nil {P:Program} {w0:World} {F:Fz} {M:List aj} {w:World} (h:aP w0 F M w)
  (tt ty e:TypeId) (i:TypeInfo) (z:Value) (ht:P.underlying tt=some (.slice e)) (hi:P.info? e=some i) (hz:i.zero=some z) (hzs:z.cells.size=i.size)
  {s:Nat} (hs:i.size=s) {ys:List PV} {v2:Value} (r2:iG F w s ys v2)
  (h63:ys.length≤maxLen) (hbytes:ys.length * i.bytes≤140737488355328):
  ∃ v' w' F' t',(Builtin.append_ #[tt,tt] ty #[.slice none 0 0,v2]).run P w=.ok v' w'∧F.le F'∧aP w0 F' (.tok t'::M) w'∧aC F' (.sl s ys (some t')) v'∧t'.e=e:=by
 have r0:aC F (.sl s [] (some (Cb.aB s e))) (.slice none 0 0):=by
  simp only[aC];exact ⟨fun t ht=>by cases ht;exact ⟨rfl,rfl,rfl⟩,.inl ⟨trivial,trivial⟩⟩
 have:=aP.r8 (P:=P) (M1:= []) (M2:=M) (h.aB s e) tt ty i z ht hi hz hzs hs r0 r2 (by simpa using h63) (by simpa using hbytes);simpa[Cb.aB] using this
theorem aP.newRow {w0:World} {F:Fz} {M:List aj} {w:World} (h:aP w0 F M w) (e:TypeId) (s:Nat) {ys:List PV} {vs:List Value}
  (hys: ∀ y∈ys,y.cellsOf.length=s) (hr:aQ F (flat ys) vs) (hm:ys.length≤maxLen):
  ∃ F',F.le F'∧aP w0 F' (.tok ⟨.slice (some ⟨w.heap.size,0,none⟩) ys.length ys.length,ys.length,s,e,some w.heap.size⟩::M) (w.alloc (.cells vs.toArray e))∧
   aC F' (.sl s ys (some ⟨.slice (some ⟨w.heap.size,0,none⟩) ys.length ys.length,ys.length,s,e,some w.heap.size⟩)) (.slice (some ⟨w.heap.size,0,none⟩) ys.length ys.length):=by
 have l:vs.length=ys.length * s:=by rw[←hr.length,cm hys]
 have hown:=World.ownsRow_lit (base:=w0.heap.size) (e:=e) (size:=s) w vs.toArray ys.length h.below.size hm (by simpa using l)
 have:=aP.row (t:=⟨.slice (some ⟨w.heap.size,0,none⟩) ys.length ys.length,ys.length,s,e,some w.heap.size⟩) (ys:=ys) (xs:=vs) h ((Below.refl _ w).alloc h.below.size _) (by simpa[Value.ownBlock] using own.Ai hown) hys rfl hr
  (fun b o u x=>by
   have hold:=h.fz b o u x
   rw[World.cell?_alloc_lt w _ _ (World.block_lt_of_cell? w _ hold)];exact hold)
  (fun x hx k hk=>by
   have hlt:=(aj.jC (h.fe x hx) hk).2
   exact ⟨heap_alloc_old w _ k hlt,by simp;omega⟩)
  (fun g hg o _=>by
   simp only[Option.some.injEq] at hg
   exact vg h.fz (by omega))
 exact this
theorem own.shape {B:Nat} {w:World} {t:Tok} {xs:List Value} (h:own B w t xs):t.v=.slice none 0 0∧t.n=0∨ ∃ a cap,t.v=.slice (some a) t.n cap∧t.n≤cap∧cap≤maxLen∧(t.n=0∨ ∃ g,t.b=some g∧a=⟨g,0,none⟩):=by
 rcases h.2 with ⟨h1,h2,h3 | ⟨a,h3⟩⟩ | ⟨g,cap,cur,h1,h2,_,_,h3,h4,_⟩
 ·exact .inl ⟨h3,h2⟩
 ·exact .inr ⟨a,0,by rw[h3,h2],by omega,by simp[maxLen],.inl h2⟩
 ·exact .inr ⟨⟨g,0,none⟩,cap,h2,h3,h4,.inr ⟨g,h1,rfl⟩⟩
theorem iG.Ai {w0:World} {F:Fz} {M:List aj} {w:World} (h:aP w0 F M w) {t:Tok} {es:List PV} (ht:aj.row t es∈M):iG F w t.s es t.v:=by
 obtain ⟨⟨xs,hown,hr⟩,h3,h4,_⟩:=h.fe _ ht
 rcases hown.shape with ⟨h1,h2⟩ | ⟨ad,cap,h1,h2,h2',h5⟩
 ·exact .inl ⟨h1,List.eq_nil_of_length_eq_zero (by omega)⟩
 ·refine .inr ⟨ad,cap,xs,by rw[h4];exact h1,by omega,h2',h3,hr,fun j u hu=>?_⟩
  rcases h5 with h5 | ⟨g,h5,rfl⟩
  ·have:=hown.1
   rw[h5] at this;simp at this;subst this;simp at hu
  ·exact hown.cells h5 j u hu
theorem aP.uL {P:Program} {w0:World} {F:Fz} {M1 M2:List aj} {w:World} {t:Tok} {es:List PV} (h:aP w0 F (M1++.row t es::M2) w)
  (tt ty:TypeId) (i:TypeInfo) (z:Value) (ht:P.underlying tt=some (.slice t.e)) (hi:P.info? t.e=some i) (hz:i.zero=some z) (hzs:z.cells.size=i.size)
  (hs:i.size=t.s) {ys:List PV} {v2:Value} (r2:iG F w t.s ys v2)
  (h63:es.length + ys.length≤maxLen) (hbytes:(es.length + ys.length) * i.bytes≤140737488355328):
  ∃ w' t',(Builtin.append_ #[tt,tt] ty #[t.v,v2]).run P w=.ok t'.v w'∧aP w0 F (M1++.row t' (es++ys)::M2) w'∧t'.v.oneCell'=true∧t'.e=t.e∧t'.s=t.s:=by
 obtain ⟨⟨xs,hown,hrx⟩,hes,e2,hfree⟩:=h.fe _ (List.mem_append_right M1 (List.mem_cons_self ..));have hB:=h.below.size
 rcases r2 with ⟨k1,k2⟩ | ⟨ad,cap,vs,k1,k2,k3,k4,k5,k7⟩
 ·subst k2
  subst k1;refine ⟨w,t,jf w w0.heap.size tt ty i ht hi hs xs hown,by simpa using h,hown.jq,rfl,rfl⟩
 ·subst k1
  have l5:vs.length=ys.length * i.size:=by rw[←k5.length,cm k4,hs]
  obtain ⟨v',b',w',hr,hown',hbel,hcase⟩:=run_append_own w w0.heap.size tt ty i z ht hi hz hzs hs hB xs hown ad ys.length cap vs l5 k7 k5.jq (by rw[←e2];exact h63) (by rw[←e2];exact hbytes);have hperm:(M1++.row t es::M2).Perm (.row t es::(M1++M2)):=List.perm_middle;have hsep:=(hperm.pairwise_iff (fun h=>aj.eV h)).1 h.sep;rw[List.pairwise_cons] at hsep;have hS:aP w0 F (M1++M2) w:=(h.perm hperm).tail;refine ⟨w',⟨v',t.n + ys.length,t.s,t.e,b'⟩,hr,?_,hown'.jq,rfl,rfl⟩
  refine (aP.G0 (t:=⟨v',t.n + ys.length,t.s,t.e,b'⟩) (ys:=es++ys) (xs:=xs++vs) hS hbel hown'
   (fun e he=>(List.mem_append.1 he).elim (hes e) (k4 e)) (by simp[e2]) (by rw[cJ];exact bH hrx k5) ?_ ?_ ?_).perm List.perm_middle.symm
  ·intro b2 o' u x
   have hold:=h.fz b2 o' u x;have hlt:=World.block_lt_of_cell? w _ hold
   rcases hcase with ⟨c1,c2⟩ | ⟨c1,c2⟩
   ·have hne:t.b≠some b2:=fun hb=>by rw[hfree b2 hb o'] at x;cases x
    rw[World.cell?_of_block (w:=w) (c2 b2 hne)];exact hold
   ·rw[World.cell?_of_block (w:=w) (c2 b2 hlt)];exact hold
  ·intro e he k hk
   have hlt:=(aj.jC (hS.fe e he) hk).2
   have hne:t.b≠some k:=by
    rcases hsep.1 e he with hh | hh
    ·simp only[aj.blk] at hh;rw[hh];simp
    ·intro hx;exact hh (by rw[hk];exact hx)
   rcases hcase with ⟨c1,c2⟩ | ⟨c1,c2⟩
   ·exact ⟨c2 k hne,by show b'≠some k;rw[c1];exact hne⟩
   ·exact ⟨c2 k hlt,by show b'≠some k;rw[c1];simp;omega⟩
  ·intro g hg o'
   have hg:b'=some g:=hg
   rcases hcase with ⟨c1,c2⟩ | ⟨c1,c2⟩
   ·exact hfree g (by rw[←c1];exact hg) o'
   ·have:g=w.heap.size:=by rw[c1] at hg;simpa using hg.symm
    exact vg h.fz (by omega)
theorem aP.cK {w0:World} {F:Fz} {M:List aj} {w:World} (h:aP w0 F M w) (s:Nat) (e:TypeId):aP w0 F (.row (Cb.aB s e) []::M) w:=by
 refine ⟨h.below,h.fz,fun x hx=>?_,List.pairwise_cons.2 ⟨fun x hx=>.inl rfl,h.sep⟩⟩;rcases List.mem_cons.1 hx with rfl | hx
 ·exact ⟨⟨[],E8 _ _ _ _,cG F⟩,by simp,rfl,by simp[Cb.aB]⟩
 ·exact h.fe x hx
theorem aP.Af {w0:World} {F:Fz} {M:List aj} {w:World} (h:aP w0 F M w) (e:TypeId) (s n cap:Nat) {ys:List PV} {vs us:List Value}
  (hys: ∀ y∈ys,y.cellsOf.length=s) (hr:aQ F (flat ys) vs) (hn:ys.length=n) (hc:n≤cap) (hm:cap≤maxLen) (hl:(vs++us).length=cap * s):
  aP w0 F (.row ⟨.slice (some ⟨w.heap.size,0,none⟩) n cap,n,s,e,some w.heap.size⟩ ys::M) (w.alloc (.cells (vs++us).toArray e)):=by
 have l:vs.length=n * s:=by rw[←hr.length,cm hys,hn]
 refine aP.G0 (t:=⟨.slice (some ⟨w.heap.size,0,none⟩) n cap,n,s,e,some w.heap.size⟩) (xs:=vs) h ((Below.refl _ w).alloc h.below.size _) ?_ hys hn hr ?_ ?_ ?_
 ·refine ⟨l,.inr ⟨w.heap.size,cap,_,rfl,rfl,h.below.size,heap_alloc_new w _,hc,hm,by simpa using hl,?_⟩⟩
  rw[←l];simp
 ·intro b o u x
  have hold:=h.fz b o u x;rw[World.cell?_alloc_lt w _ _ (World.block_lt_of_cell? w _ hold)];exact hold
 ·intro x hx k hk
  have hlt:=(aj.jC (h.fe x hx) hk).2;exact ⟨heap_alloc_old w _ k hlt,by simp;omega⟩
 ·intro g hg o
  simp only[Option.some.injEq] at hg;exact vg h.fz (by omega)
theorem sM {α:Type} (l us:List α) (p K:Nat) (h1:p + us.length≤K) (h2:K≤l.length):
  (l.take K).take p++us++(l.take K).drop (p + us.length)=(l.take p++us++l.drop (p + us.length)).take K:=by
 have e1:(l.take p++us).length=p + us.length:=by simp;omega
 have e2:(l.take p++us).take K=l.take p++us:=List.take_of_length_le (by omega);rw[List.take_take,Nat.min_eq_left (by omega),List.drop_take,List.take_append,e2,e1]
theorem aP.Hh {w0:World} {F:Fz} {M1 M2:List aj} {w:World} {t:Tok} {es:List PV} {xs:List PV} {us:List Value} (P:Program)
  (h:aP w0 F (M1++.row t es::M2) w) (r:aQ F xs us) {i o g:Nat} {e e':PV} (hg:t.b=some g) (hi:es[i]?=some e) (hl:o + xs.length≤e.cellsOf.length) (he':e'.cellsOf=e.cellsOf.take o++xs++e.cellsOf.drop (o + xs.length)):
  ∃ w',(storeCells ⟨g,i * t.s + o,none⟩ us).run P w=.ok () w'∧aP w0 F (M1++.row t (es.set i e')::M2) w':=by
 obtain ⟨⟨vs,hown,hrx⟩,hes,e2,hfree⟩:=h.fe _ (List.mem_append_right M1 (List.mem_cons_self ..))
 rcases hown.2 with ⟨h1,_⟩ | ⟨g',cap,cur,hb,hv,hbg,hgg,hnc,hcm,hsz,htake⟩
 ·rw[h1] at hg;cases hg
 obtain rfl:g'=g:=by rw[hb] at hg;simpa using hg
 have hxl:=hown.1;have l2:=r.length;have hlt:i < es.length:=(List.getElem?_eq_some_iff.1 hi).1;have hes0:e.cellsOf.length=t.s:=hes e (List.mem_of_getElem? hi);have hpos:(i + 1) * t.s≤t.n * t.s:=Nat.mul_le_mul_right _ (by omega);rw[Nat.succ_mul] at hpos;have hcap:t.n * t.s≤cap * t.s:=Nat.mul_le_mul_right _ hnc;have hst:=run_storeCells_at P g' (i * t.s + o) t.e us 0 cur w hgg (by omega) r.jq;refine ⟨_,hst,?_⟩;simp only[Nat.add_zero];have hperm:(M1++.row t es::M2).Perm (.row t es::(M1++M2)):=List.perm_middle;have hsep:=(hperm.pairwise_iff (fun h=>aj.eV h)).1 h.sep;rw[List.pairwise_cons] at hsep;have hS:aP w0 F (M1++M2) w:=(h.perm hperm).tail;have hother: ∀ k,k≠g'→(w.setRow g' (cur.toList.take (i * t.s + o)++us++cur.toList.drop (i * t.s + o + us.length)).toArray).heap[k]?=w.heap[k]?:=fun k hk=>setRow_other w g' k _ hk
 have hsplit:flat (es.set i e')=(flat es).take (i * t.s + o)++xs++(flat es).drop (i * t.s + o + xs.length):=by
  have e1:es=es.take i++e::es.drop (i + 1):=by
   have:es.drop i=e::es.drop (i + 1):=by
    rw[List.drop_eq_getElem_cons hlt];congr 1;have:=List.getElem?_eq_getElem hlt;rw[hi] at this;simpa using this.symm
   rw[←this,List.take_append_drop]
  have e3:es.set i e'=es.take i++e'::es.drop (i + 1):=by
   rw[List.set_eq_take_append_cons_drop,if_pos hlt]
  have hl1:(flat (es.take i)).length=i * t.s:=by
   rw[cm (s:=t.s) fun e he=>hes e (List.mem_of_mem_take he)];simp[Nat.min_eq_left (Nat.le_of_lt hlt)]
  have f1:flat es=flat (es.take i)++(e.cellsOf++flat (es.drop (i + 1))):=(congrArg flat e1).trans (by rw[cJ];rfl);have f2:flat (es.set i e')=flat (es.take i)++(e'.cellsOf++flat (es.drop (i + 1))):=(congrArg flat e3).trans (by rw[cJ];rfl);rw[f2,f1,he', ←hl1];generalize flat (es.take i)=A;generalize flat (es.drop (i + 1))=Z
  have t1:(A++(e.cellsOf++Z)).take (A.length + o)=A++e.cellsOf.take o:=by
   rw[List.take_length_add_append,List.take_append_of_le_length (by omega)]
  have t2:(A++(e.cellsOf++Z)).drop (A.length + o + xs.length)=e.cellsOf.drop (o + xs.length)++Z:=by
   rw[Nat.add_assoc,List.drop_length_add_append,List.drop_append_of_le_length hl]
  rw[t1,t2];simp
 have hxc:vs.take (i * t.s + o)++us++vs.drop (i * t.s + o + us.length)=(cur.toList.take (i * t.s + o)++us++cur.toList.drop (i * t.s + o + us.length)).take (t.n * t.s):=by
  rw[←htake];exact sM cur.toList us (i * t.s + o) (t.n * t.s) (by omega) (by simp;omega)
 refine (aP.G0 (w':=w.setRow g' (cur.toList.take (i * t.s + o)++us++cur.toList.drop (i * t.s + o + us.length)).toArray) (t:=t) (ys:=es.set i e') (xs:=vs.take (i * t.s + o)++us++vs.drop (i * t.s + o + us.length)) hS ⟨rfl,rfl,rfl,by simp[World.setRow],fun k hk=>hother k (by omega)⟩ ?_ ?_ (by simpa using e2) ?_ ?_ ?_ hfree).perm List.perm_middle.symm
 ·refine ⟨by simp;omega,.inr ⟨g',cap,_,hb,hv,hbg,setRow_heap w g' cur _ t.e _ hgg,hnc,hcm,by simp;omega,hxc.symm⟩⟩
 ·intro x hx
  rcases List.mem_or_eq_of_mem_set hx with hx | rfl
  ·exact hes x hx
  ·rw[he'];simp;omega
 ·rw[hsplit,l2]
  exact bH (bH (cU _ hrx) r) (dg _ hrx)
 ·intro b o' u x
  have hne:b≠g':=fun e=>by rw[e,hfree g' hg o'] at x;cases x
  rw[World.cell?_of_block (w:=w) (hother b hne)];exact h.fz b o' u x
 ·intro x hx k hk
  refine ⟨hother k ?_,?_⟩
  ·intro hkb
   rcases hsep.1 x hx with h1 | h1
   ·simp[aj.blk,hg] at h1
   ·exact h1 (by rw[hk,hkb];exact hg)
  ·intro hkb
   rcases hsep.1 x hx with h1 | h1
   ·simp[aj.blk,hg] at h1
   ·exact h1 (by rw[hk];exact hkb)
theorem Gk {l:List PV} (h: ∀ x∈l,x.cellsOf= [x]):flat l=l:=by
 induction l with
 | nil=>rfl
 | cons x l ih=>rw[flat,List.flatMap_cons,h x (by simp)];have:=ih fun y hy=>h y (by simp[hy]);rw[flat] at this;rw[this];rfl
theorem aP.D6 {w0:World} {F:Fz} {M1 M2:List aj} {w:World} {t:Tok} {es:List PV} {xs:List PV} {us:List Value} (P:Program)
  (h:aP w0 F (M1++.row t es::M2) w) (r:aQ F xs us) (hs:t.s=1) {i g:Nat} (hg:t.b=some g) (hl:i + xs.length=es.length) (hx1: ∀ x∈xs,x.cellsOf= [x]):
  ∃ w',(storeCells ⟨g,i,none⟩ us).run P w=.ok () w'∧aP w0 F (M1++.row t (es.take i++xs)::M2) w':=by
 obtain ⟨⟨vs,hown,hrx⟩,hes,e2,hfree⟩:=h.fe _ (List.mem_append_right M1 (List.mem_cons_self ..))
 rcases hown.2 with ⟨h1,_⟩ | ⟨g',cap,cur,hb,hv,hbg,hgg,hnc,hcm,hsz,htake⟩
 ·rw[h1] at hg;cases hg
 obtain rfl:g'=g:=by rw[hb] at hg;simpa using hg
 have hxl:=hown.1;have l2:=r.length;rw[hs,Nat.mul_one] at hxl hsz htake;have hst:=run_storeCells_at P g' i t.e us 0 cur w hgg (by omega) r.jq;refine ⟨_,hst,?_⟩;simp only[Nat.add_zero];have hperm:(M1++.row t es::M2).Perm (.row t es::(M1++M2)):=List.perm_middle;have hsep:=(hperm.pairwise_iff (fun h=>aj.eV h)).1 h.sep;rw[List.pairwise_cons] at hsep;have hS:aP w0 F (M1++M2) w:=(h.perm hperm).tail;have hother: ∀ k,k≠g'→(w.setRow g' (cur.toList.take i++us++cur.toList.drop (i + us.length)).toArray).heap[k]?=w.heap[k]?:=fun k hk=>setRow_other w g' k _ hk
 have hlt:(flat (es.take i)).length=i:=by
  rw[cm (s:=t.s) fun e he=>hes e (List.mem_of_mem_take he),hs];simp;omega
 have hsplit:flat (es.take i++xs)=(flat es).take i++xs:=by
  rw[cJ,Gk hx1];have e1:flat es=flat (es.take i)++flat (es.drop i):=by rw[←cJ,List.take_append_drop]
  rw[e1,List.take_append_of_le_length (by omega),List.take_of_length_le (l:=flat (es.take i)) (by omega)]
 have hvl:vs.length=es.length:=by omega
 have hxc:vs.take i++us=(cur.toList.take i++us++cur.toList.drop (i + us.length)).take t.n:=by
  have:=sM cur.toList us i t.n (by omega) (by simp;omega);rw[htake] at this;rw[←this,List.drop_of_length_le (by omega),List.append_nil]
 refine (aP.G0 (w':=w.setRow g' (cur.toList.take i++us++cur.toList.drop (i + us.length)).toArray) (t:=t) (ys:=es.take i++xs) (xs:=vs.take i++us) hS ⟨rfl,rfl,rfl,by simp[World.setRow],fun k hk=>hother k (by omega)⟩ ?_ ?_ (by simp;omega) ?_ ?_ ?_ hfree).perm List.perm_middle.symm
 ·refine ⟨by rw[hs];simp;omega,.inr ⟨g',cap,_,hb,hv,hbg,setRow_heap w g' cur _ t.e _ hgg,hnc,hcm,by rw[hs];simp;omega,by rw[hs,Nat.mul_one];exact hxc.symm⟩⟩
 ·intro x hx
  rcases List.mem_append.1 hx with hx | hx
  ·exact hes x (List.mem_of_mem_take hx)
  ·rw[hx1 x hx,hs];rfl
 ·rw[hsplit]
  exact bH (cU _ hrx) r
 ·intro b o' u x
  have hne:b≠g':=fun e=>by rw[e,hfree g' hg o'] at x;cases x
  rw[World.cell?_of_block (w:=w) (hother b hne)];exact h.fz b o' u x
 ·intro x hx k hk
  refine ⟨hother k ?_,?_⟩
  ·intro hkb
   rcases hsep.1 x hx with h1 | h1
   ·simp[aj.blk,hg] at h1
   ·exact h1 (by rw[hk,hkb];exact hg)
  ·intro hkb
   rcases hsep.1 x hx with h1 | h1
   ·simp[aj.blk,hg] at h1
   ·exact h1 (by rw[hk];exact hkb)
theorem aP.Cu {w0:World} {F:Fz} {M1 M2:List aj} {w:World} {t:Tok} {es:List PV} (h:aP w0 F (M1++.row t es::M2) w) {g cap:Nat} (hb:t.b=some g) (hv:t.v=.slice (some ⟨g,0,none⟩) t.n cap) (n:Nat) (hn:n≤es.length):
  aP w0 F (M1++.row ⟨.slice (some ⟨g,0,none⟩) n cap,n,t.s,t.e,some g⟩ (es.take n)::M2) w:=by
 obtain ⟨⟨vs,hown,hrx⟩,hes,e2,hfree⟩:=h.fe _ (List.mem_append_right M1 (List.mem_cons_self ..));have hperm:(M1++.row t es::M2).Perm (.row t es::(M1++M2)):=List.perm_middle;have hsep:=(hperm.pairwise_iff (fun h=>aj.eV h)).1 h.sep;rw[List.pairwise_cons] at hsep;have hS:aP w0 F (M1++M2) w:=(h.perm hperm).tail;have hxl:=hown.1;have hle:n * t.s≤t.n * t.s:=Nat.mul_le_mul_right _ (by omega);refine (aP.G0 (t:=⟨.slice (some ⟨g,0,none⟩) n cap,n,t.s,t.e,some g⟩) (ys:=es.take n) (xs:=vs.take (n * t.s)) hS (Below.refl _ w) ?_ (fun e he=>hes e (List.mem_of_mem_take he)) (by simp;omega) ?_ h.fz ?_ ?_).perm List.perm_middle.symm
 ·rcases hown.2 with ⟨h1,_⟩ | ⟨g',cap',cur,hb',hv',hbg,hgg,hnc,hcm,hsz,htake⟩
  ·rw[h1] at hb;cases hb
  ·rw[hv] at hv'
   simp only[Value.slice.injEq,Option.some.injEq,Addr.mk.injEq,and_true,true_and] at hv';obtain ⟨rfl,rfl⟩:=hv';refine ⟨by simp;omega,.inr ⟨g,cap,cur,rfl,rfl,hbg,hgg,by show n≤cap;omega,hcm,hsz,?_⟩⟩;rw[←htake,List.take_take,Nat.min_eq_left hle]
 ·have e1:es=es.take n++es.drop n:=(List.take_append_drop n es).symm
  have hl1:(flat (es.take n)).length=n * t.s:=by
   rw[cm (s:=t.s) fun e he=>hes e (List.mem_of_mem_take he)];simp[Nat.min_eq_left hn]
  rw[e1,cJ] at hrx;have:=(eT hrx).1;rwa [hl1] at this
 ·intro x hx k hk
  refine ⟨rfl,?_⟩;intro hkb;rcases hsep.1 x hx with h1 | h1
  ·simp[aj.blk,hb] at h1
  ·exact h1 (by rw[hk];exact hb.trans hkb)
 ·intro g' hg' o
  simp only[Option.some.injEq] at hg';exact hfree _ (by rw[←hg'];exact hb) o
inductive ZK where
 | bool
 | int (k:IntKind)
 | str
 | ptr
 | sl
 | mp
 | fn
 | ri
def ZK.pv:ZK→PV
 | .bool=>.bfalse
 | .int k=>.int k 0
 | .str=>.str []
 | .ptr=>.np
 | .sl=>.nil
 | .mp=>.sc (.map none)
 | .fn=>.sc .nilFunc
 | .ri=>.sc .nilIface
def ZK.val:ZK→Value
 | .bool=>.bool false
 | .int k=>.int k 0
 | .str=>.string ⟨#[]⟩
 | .ptr=>.pointer none
 | .sl=>.slice none 0 0
 | .mp=>.map none
 | .fn=>.nilFunc
 | .ri=>.nilIface
def ZK.Hv:ZK→Value→Bool
 | .bool,.bool b=>!b
 | .int k,.int k' n=>k == k' && n == 0
 | .str,.string s=>s.data.toList.isEmpty
 | .ptr,.pointer none=>true
 | .sl,.slice none 0 0=>true
 | .mp,.map none=>true
 | .fn,.nilFunc=>true
 | .ri,.nilIface=>true
 | _,_=>false
theorem ZK.NS: ∀ {z:ZK} {v:Value},z.Hv v=true→v=z.val:=by
 intro z v h;unfold ZK.Hv at h
 split at h<;>first | rfl | (simp at h;done) | skip
 ·simp at h;simp[ZK.val,h]
 ·simp at h;simp[ZK.val,h]
 ·rename_i s
  simp at h;obtain ⟨d⟩:=s;simp at h;simp[ZK.val,h]
theorem ZK.rep (F:Fz) (z:ZK):aC F z.pv z.val∧z.val.oneCell'=true:=by
 cases z<;>simp[ZK.pv,ZK.val,aC,Value.oneCell']
theorem ZK.o9 (F:Fz): ∀ zs:List ZK,aQ F (zs.map ZK.pv) (zs.map ZK.val)
 | []=>cG F
 | z::zs=>cg.2 ⟨⟨(ZK.rep F z).2,(ZK.rep F z).1⟩,ZK.o9 F zs⟩
inductive TD where
 | int (k:IntKind)
 | bool
 | str
 | ptr (e:Nat)
 | sl (e:Nat)
 | st (fs:List (Nat×Nat×Bool))
 | arr (n e:Nat)
 | mp (k e:Nat)
 | fn
 | ri
 | other
structure TI where
 cq:TD
 size:Nat
 bytes:Nat
 zero:List ZK
def TI.none:TI:=⟨.other,0,0, []⟩
def sW:TypeDesc→Bool
 | .struct _=>true
 | .array _ _=>true
 | _=>false
def fK (P:Program):List Field→List (Nat×Nat×Bool)→Prop
 | [], []=>True
 | f::fs,x::r=>(f.offset=x.1∧(∃ i,P.info? f.type=some i∧i.size=x.2.1)∧x.2.1≠0∧ ∃ d,P.underlying f.type=some d∧sW d=x.2.2)∧fK P fs r
 | _,_=>False
def ju (P:Program):List Field→List (Nat×Nat×Bool)→Bool
 | [], []=>true
 | f::fs,x::r=>(f.offset == x.1 && (match P.info? f.type with | some i=>i.size == x.2.1 | _=>false) && x.2.1 !=0 && (match P.underlying f.type with | some d=>sW d == x.2.2 | _=>false)) && ju P fs r
 | _,_=>false
theorem sv {P:Program}: ∀ {fs:List Field} {r:List (Nat×Nat×Bool)},ju P fs r=true→fK P fs r
 | [], [],_=>trivial
 | [],_::_,h=>by simp[ju] at h
 | _::_, [],h=>by simp[ju] at h
 | f::fs,x::r,h=>by
  simp only[ju,Bool.and_eq_true,beq_iff_eq,bne_iff_ne] at h;obtain ⟨⟨⟨⟨h1,h2⟩,h3⟩,h4⟩,h5⟩:=h;refine ⟨⟨h1,?_,h3,?_⟩,sv h5⟩
  ·split at h2
   ·rename_i i hi;exact ⟨i,hi,by simpa using h2⟩
   ·cases h2
  ·split at h4
   ·rename_i d hd;exact ⟨d,hd,by simpa using h4⟩
   ·cases h4
def TD.agg:TD→Bool
 | .st _=>true
 | .arr _ _=>true
 | _=>false
def TD.ok (P:Program) (t:TypeId):TD→Prop
 | .int k=>P.underlying t=some (.int k)
 | .bool=>P.underlying t=some .bool
 | .str=>P.underlying t=some .string
 | .ptr e=>P.underlying t=some (.pointer e)
 | .sl e=>P.underlying t=some (.slice e)
 | .st fs=> ∃ f,P.underlying t=some (.struct f)∧fK P f.toList fs
 | .arr n e=>P.underlying t=some (.array n e)
 | .mp k e=>P.underlying t=some (.map k e)
 | .fn=> ∃ a b c,P.underlying t=some (.func a b c)
 | .ri=> ∃ m,P.underlying t=some (.interface m)
 | .other=>True
def TD.Hv (P:Program) (t:TypeId):TD→Bool
 | .int k=>match P.underlying t with | some (.int k')=>k == k' | _=>false
 | .bool=>match P.underlying t with | some .bool=>true | _=>false
 | .str=>match P.underlying t with | some .string=>true | _=>false
 | .ptr e=>match P.underlying t with | some (.pointer e')=>e == e' | _=>false
 | .sl e=>match P.underlying t with | some (.slice e')=>e == e' | _=>false
 | .st fs=>match P.underlying t with | some (.struct f)=>ju P f.toList fs | _=>false
 | .arr n e=>match P.underlying t with | some (.array n' e')=>n == n' && e == e' | _=>false
 | .mp k e=>match P.underlying t with | some (.map k' e')=>k == k' && e == e' | _=>false
 | .fn=>match P.underlying t with | some (.func ..)=>true | _=>false
 | .ri=>match P.underlying t with | some (.interface _)=>true | _=>false
 | .other=>true
theorem TD.Jk {P:Program} {t:TypeId} {d:TD} (h:d.Hv P t=true):d.ok P t:=by
 cases d<;>simp only[TD.Hv] at h<;>simp only[TD.ok]
 all_goals (split at h<;>first | (cases h;done) | skip)
 all_goals rename_i h1
 all_goals try simp only[beq_iff_eq,Bool.and_eq_true] at h
 all_goals first
  | (subst h;exact h1)
  | (obtain ⟨rfl,rfl⟩:=h;exact h1)
  | exact ⟨_,h1,sv h⟩
  | exact h1
  | exact ⟨_,_,_,h1⟩
  | exact ⟨_,h1⟩
def lJ:List ZK→List Value→Bool
 | [], []=>true
 | z::zs,v::vs=>z.Hv v && lJ zs vs
 | _,_=>false
theorem CA: ∀ {zs:List ZK} {vs:List Value},lJ zs vs=true→vs=zs.map ZK.val
 | [], [],_=>rfl
 | [],_::_,h=>by simp[lJ] at h
 | _::_, [],h=>by simp[lJ] at h
 | z::zs,v::vs,h=>by
  simp only[lJ,Bool.and_eq_true] at h;rw[List.map_cons, ←ZK.NS h.1, ←CA h.2]
def vm:Value→Bool
 | .agg _=>true
 | _=>false
def TI.ok (P:Program) (t:TypeId) (ti:TI):Prop:=
 match ti.cq with
 | .other=>True
 | d=>(∃ i z,P.info? t=some i∧i.size=ti.size∧i.bytes=ti.bytes∧i.zero=some z∧z.cells.toList=ti.zero.map ZK.val∧z.cells.size=ti.size)∧d.ok P t∧ ∀ i z,P.info? t=some i→i.zero=some z→vm z=d.agg
def TI.Hv (P:Program) (t:TypeId) (ti:TI):Bool:=
 match ti.cq with
 | .other=>true
 | d=>(match P.info? t with | some i=>i.size == ti.size && i.bytes == ti.bytes && (match i.zero with | some z=>lJ ti.zero z.cells.toList && z.cells.size == ti.size && vm z == d.agg | _=>false) | _=>false) && d.Hv P t
theorem TI.Jk {P:Program} {t:TypeId} {ti:TI} (h:ti.Hv P t=true):ti.ok P t:=by
 unfold TI.Hv at h;unfold TI.ok
 split at h
 ·trivial
 ·rename_i h0
  simp only[Bool.and_eq_true] at h;have h1:=h.1
  split at h1
  ·rename_i i hi
   simp only[Bool.and_eq_true,beq_iff_eq] at h1;obtain ⟨⟨h1,h2⟩,h3⟩:=h1
   split at h3
   ·rename_i z hz
    simp only[Bool.and_eq_true,beq_iff_eq] at h3;refine ⟨⟨i,z,hi,h1,h2,hz,CA h3.1.1,h3.1.2⟩,TD.Jk h.2,fun i' z' hi' hz'=>?_⟩;rw[hi] at hi';cases hi';rw[hz] at hz';cases hz';exact h3.2
   ·cases h3
  ·cases h1
def TT.ok (P:Program) (tt:Nat→TI):Prop:= ∀ t,(tt t).ok P t
def qe (P:Program):Nat→List TI→Bool
 | _, []=>true
 | t,x::r=>x.Hv P t && qe P (t + 1) r
def bE (l:List TI) (t:Nat):TI:=l.getD t TI.none
theorem sL {P:Program}: ∀ (l:List TI) (k:Nat),qe P k l=true→ ∀ j,(l.getD j TI.none).ok P (k + j)
 | [],k,_,j=>by simp[TI.none,TI.ok]
 | x::r,k,h,0=>by
  simp only[qe,Bool.and_eq_true] at h;simpa using TI.Jk h.1
 | x::r,k,h,j + 1=>by
  simp only[qe,Bool.and_eq_true] at h;have:=sL r (k + 1) h.2 j;rwa [show k + 1 + j=k + (j + 1) by omega] at this
theorem On {P:Program} {l:List TI} (h:qe P 0 l=true):TT.ok P (bE l):=fun t=>by
 have:=sL l 0 h t;rwa [Nat.zero_add] at this
theorem TT.ok.get {P:Program} {tt:Nat→TI} (h:TT.ok P tt) {t:Nat} {d:TD} (hd:(tt t).cq=d) (hne:d≠.other):
  (∃ i z,P.info? t=some i∧i.size=(tt t).size∧i.bytes=(tt t).bytes∧i.zero=some z∧z.cells.toList=(tt t).zero.map ZK.val∧z.cells.size=(tt t).size)∧d.ok P t:=by
 have:=h t;unfold TI.ok at this;rw[hd] at this;cases d<;>first | exact ⟨this.1,this.2.1⟩ | exact absurd rfl hne
theorem TT.ok.agg {P:Program} {tt:Nat→TI} (h:TT.ok P tt) {t:Nat} {d:TD} (hd:(tt t).cq=d) (hne:d≠.other) {i:TypeInfo} {z:Value} (hi:P.info? t=some i) (hz:i.zero=some z):vm z=d.agg:=by
 have:=h t;unfold TI.ok at this;rw[hd] at this;cases d<;>first | exact this.2.2 i z hi hz | exact absurd rfl hne
open Go.MapKept
theorem aP.nc {w0:World} {F:Fz} {M:List aj} {w:World} (h:aP w0 F M w) {r:Nat} {d:TypeDesc} {m:Value→Option PV} {aK:List (Int×Value)} (he:aj.mp r d m aK∈M):
  ∃ es clock,w.heap[r]?=some (.map es clock)∧mD F d m aK es clock:=(h.fe _ he).2
def m9 (w:World) (r:Nat) (es:Array MapEntry) (clock:Nat):World:={ w with heap:=w.heap.setIfInBounds r (.map es clock)}
theorem aP.nF {w0:World} {F:Fz} {M1 M2:List aj} {w w':World} {r:Nat} {d:TypeDesc} {m m':Value→Option PV} {aK pend':List (Int×Value)} {es':Array MapEntry} {clock':Nat}
  (h:aP w0 F (M1++.mp r d m aK::M2) w) (hw:w'=m9 w r es' clock') (hm:mD F d m' pend' es' clock'):aP w0 F (M1++.mp r d m' pend'::M2) w':=by
 have hent:aj.mp r d m aK∈M1++.mp r d m aK::M2:=by simp
 obtain ⟨hB,es,clock,hb,_⟩:=h.fe _ hent;obtain ⟨hs1,hs2⟩:=heap_set (o':=.map es' clock') hb;have hw':w'.heap=w.heap.setIfInBounds r (.map es' clock'):=by rw[hw];rfl
 have hperm:(M1++.mp r d m aK::M2).Perm (.mp r d m aK::(M1++M2)):=List.perm_middle;have hsep:=(hperm.pairwise_iff (fun h=>aj.eV h)).1 h.sep;rw[List.pairwise_cons] at hsep
 suffices H:aP w0 F (.mp r d m' pend'::(M1++M2)) w' from H.perm List.perm_middle.symm
 have hother: ∀ k,k≠r→w'.heap[k]?=w.heap[k]?:=fun k hk=>by rw[hw'];exact hs2 k hk
 refine ⟨h.below.trans ⟨by rw[hw];rfl,by rw[hw];rfl,by rw[hw];rfl,by rw[hw'];simp,fun k hk=>hother k (by omega)⟩,fun b' o u x=>?_,fun e he=>?_,List.pairwise_cons.2 ⟨fun e he=>?_,hsep.2⟩⟩
 ·have hold:=h.fz b' o u x
  have hne:b'≠r:=fun e=>by
   subst e;simp[World.cell?,hb] at hold
  rw[World.cell?_of_block (w:=w) (hother b' hne)];exact hold
 ·rcases List.mem_cons.1 he with rfl | he
  ·exact ⟨hB,es',clock',by rw[hw'];exact hs1,hm⟩
  ·refine aj.fT (h.fe e (hperm.symm.subset (List.mem_cons_of_mem _ he))) (Fz.le_refl F) fun k hk=>⟨hother k ?_,fun _ x=>x⟩
   intro hkb;rcases hsep.1 e he with h1 | h1
   ·simp[aj.blk] at h1
   ·exact h1 (by rw[hk,hkb];rfl)
 ·exact hsep.1 e he
theorem aP.NR {w0:World} {F:Fz} {M:List aj} {w:World} (h:aP w0 F M w) (d:TypeDesc):aP w0 F (.mp w.heap.size d (fun _=>none) []::M) (w.alloc (.map #[] 0)):=by
 have h':=h.qR (.map #[] 0);refine ⟨h'.below,h'.fz,fun e he=>?_,List.pairwise_cons.2 ⟨fun e he=>?_,h.sep⟩⟩
 ·rcases List.mem_cons.1 he with rfl | he
  ·exact ⟨h.below.size, #[],0,heap_alloc_new w _,⟨stamped_empty 0,by simp,by simp,by simp,by simp⟩⟩
  ·exact h'.fe e he
 ·right
  intro hb;have:=(aj.jC (h.fe e he) hb.symm).2;omega
section
variable {P:Program} {w0 w:World} {F:Fz} {M1 M2:List aj} {r:Nat} {d:TypeDesc} {m:Value→Option PV} {aK:List (Int×Value)} {mty kt et:TypeId} {k:Value}
theorem jK {es:Array MapEntry} {clock:Nat} (h:Stamped es clock) {x y:MapEntry} (hx:x∈es.toList) (hy:y∈es.toList) (e:x.key=y.key):x=y:=by
 have hp:=((stamped_iff es clock).1 h).2.2;obtain ⟨i,hi,rfl⟩:=List.getElem_of_mem hx;obtain ⟨j,hj,rfl⟩:=List.getElem_of_mem hy;rw[List.pairwise_iff_getElem] at hp;rcases Nat.lt_trichotomy i j with h | h | h
 ·exact absurd e (hp i j hi hj h)
 ·subst h;rfl
 ·exact absurd e.symm (hp j i hj hi h)
theorem AZ {es:Array MapEntry} {clock:Nat} (h:Stamped es clock) {x y:MapEntry} (hx:x∈es.toList) (hy:y∈es.toList) (e:x.born=y.born):x=y:=by
 have hp:=h.2.1;rw[List.Nodup,List.pairwise_map] at hp;obtain ⟨i,hi,rfl⟩:=List.getElem_of_mem hx;obtain ⟨j,hj,rfl⟩:=List.getElem_of_mem hy;rw[List.pairwise_iff_getElem] at hp;rcases Nat.lt_trichotomy i j with h | h | h
 ·exact absurd e (hp i j hi hj h)
 ·subst h;rfl
 ·exact absurd e.symm (hp j i hj hi h)
theorem aP.lookup (h:aP w0 F (M1++.mp r d m aK::M2) w) (hm:P.underlying mty=some (.map kt et)) (hd:P.underlying kt=some d) (ho:uE P d) (hk:oK d k) (ok:Bool) {z:Value} (hz:(zeroValue et).run P w=.ok z w):
  ∃ v b,(Instr.lookup mty (.map (some r)) k ok).run P w=.ok (if ok then .tuple #[v,.bool b] else v) w∧((∃ p,m k=some p∧aC F p v∧b=true)∨(m k=none∧v=z∧b=false)):=by
 obtain ⟨es,clock,hb,hM⟩:=h.nc (r:=r) (d:=d) (m:=m) (aK:=aK) (by simp)
 rcases n5 ho hd hk hM.key w with ⟨h1,h2⟩ | ⟨j,e,h1,h2,h3⟩
 ·refine ⟨z,false,?_,.inr ⟨?_,rfl,rfl⟩⟩
  ·simp[Instr.lookup,run_underlying hm,MapKept.run_getObj_map hb,e7 ho hd hk,h1,hz,Result.andThen]
  ·cases hmk:m k with
   | none=>rfl
   | some p=>
    obtain ⟨x,hx,hxk⟩:=hM.dom k p hmk;exact absurd hxk (h2 x hx)
 ·have he:=List.mem_of_getElem? h2
  obtain ⟨p,hp1,hp2⟩:=hM.get e he;rw[h3] at hp1;refine ⟨e.val,true,?_,.inl ⟨p,hp1,hp2,rfl⟩⟩;simp[Instr.lookup,run_underlying hm,MapKept.run_getObj_map hb,e7 ho hd hk,h1,Result.andThen]
theorem Il {es:Array MapEntry} {clock:Nat} (hM:mD F d m aK es clock) (e2: ∀ x∈es.toList,x.key≠k):m k=none:=by
 cases hmk:m k with
 | none=>rfl
 | some p=>
  obtain ⟨x,hx,hxk⟩:=hM.dom k p hmk;exact absurd hxk (e2 x hx)
theorem vJ {es:Array MapEntry} {clock:Nat} (hM:mD F d m aK es clock) (e2: ∀ x∈es.toList,x.key≠k) (hc:m k≠none∨ ∀ q∈aK,q.2≠.tuple #[]): ∀ q∈aK,q.2≠.tuple #[]:=
 hc.resolve_left fun h=>h (Il hM e2)
theorem mem_push {es:Array MapEntry} {x y:MapEntry}:x∈(es.push y).toList↔x∈es.toList∨x=y:=by simp
theorem mem_modify {es:Array MapEntry} {clock:Nat} (hst:Stamped es clock) {j:Nat} {e:MapEntry} (hj:es[j]?=some e) (f:MapEntry→MapEntry) {x:MapEntry}:
  x∈(es.modify j f).toList↔(x∈es.toList∧x≠e)∨x=f e:=by
 have hjl:j < es.size:=(Array.getElem?_eq_some_iff.1 hj).1;have hje:es[j]=e:=(Array.getElem?_eq_some_iff.1 hj).2;constructor
 ·intro hx
  obtain ⟨i,hi,rfl⟩:=List.getElem_of_mem hx;have hi':i < es.size:=by simpa using hi
  simp only[Array.getElem_toList,Array.getElem_modify]
  split
  ·rename_i hji;subst hji;right;rw[hje]
  ·rename_i hji
   left;refine ⟨by simp,?_⟩;intro heq;have:es[i].key=es[j].key:=by rw[heq,hje]
   have hp:=((stamped_iff es clock).1 hst).2.2;rw[List.pairwise_iff_getElem] at hp;rcases Nat.lt_trichotomy i j with h | h | h
   ·exact hp i j (by simpa using hi') (by simpa using hjl) h (by simpa using this)
   ·exact hji h.symm
   ·exact hp j i (by simpa using hjl) (by simpa using hi') h (by simpa using this.symm)
 ·rintro (⟨hx,hne⟩ | rfl)
  ·obtain ⟨i,hi,rfl⟩:=List.getElem_of_mem hx
   have hi':i < es.size:=by simpa using hi
   have hji:j≠i:=fun e1=>by subst e1;exact hne (by simpa using hje)
   refine List.mem_iff_getElem.2 ⟨i,by simpa using hi',?_⟩;simp[Array.getElem_modify,hji]
  ·refine List.mem_iff_getElem.2 ⟨j,by simpa using hjl,?_⟩
   simp[hje]
theorem aP.NM (h:aP w0 F (M1++.mp r d m aK::M2) w) (hm:P.underlying mty=some (.map kt et)) (hd:P.underlying kt=some d) (ho:uE P d) (hk:oK d k) {v:Value} {p:PV} (hv:aC F p v)
  {m':Value→Option PV} (h1:m' k=some p) (h2: ∀ k',k'≠k→m' k'=m k') (hc:m k≠none∨ ∀ q∈aK,q.2≠.tuple #[]):
  ∃ w',(Instr.mapUpdate mty (.map (some r)) k v).run P w=.ok () w'∧aP w0 F (M1++.mp r d m' aK::M2) w':=by
 obtain ⟨es,clock,hb,hM⟩:=h.nc (r:=r) (d:=d) (m:=m) (aK:=aK) (by simp)
 rcases n5 ho hd hk hM.key w with ⟨e1,e2⟩ | ⟨j,e,e1,e2,e3⟩
 ·have hc:=vJ hM e2 hc
  refine ⟨m9 w r (es.push { key:=k,val:=v,born:=clock }) (clock + 1),?_,h.nF rfl ?_⟩
  ·simp[Instr.mapUpdate,run_underlying hm,MapKept.run_getObj_map hb,e7 ho hd hk,e1,run_setObj_map _ hb,Result.andThen,m9]
  ·refine ⟨stamped_push hM.st e2,fun x hx=>?_,fun x hx=>?_,fun k' p' hk'=>?_,fun q hq=>?_⟩
   ·rcases mem_push.1 hx with hx | rfl
    ·exact hM.key x hx
    ·exact hk
   ·rcases mem_push.1 hx with hx | rfl
    ·rw[h2 _ (e2 x hx)];exact hM.get x hx
    ·exact ⟨p,h1,hv⟩
   ·by_cases hkk:k'=k
    ·exact ⟨_,mem_push.2 (.inr rfl),hkk.symm⟩
    ·rw[h2 _ hkk] at hk'
     obtain ⟨x,hx,hxk⟩:=hM.dom k' p' hk';exact ⟨x,mem_push.2 (.inl hx),hxk⟩
   ·obtain ⟨x,hx,hxk⟩:=(hM.KN q hq).resolve_left fun h=>hc q hq h.1
    exact .inr ⟨x,mem_push.2 (.inl hx),hxk⟩
 ·have hj:es[j]?=some e:=by simpa using e2
  have he:e∈es.toList:=List.mem_of_getElem? e2;refine ⟨m9 w r (es.modify j fun e=>{ e with key:=k,val:=v }) clock,?_,h.nF rfl ?_⟩
  ·simp[Instr.mapUpdate,run_underlying hm,MapKept.run_getObj_map hb,e7 ho hd hk,e1,hj,e3,wm hk,run_setObj_map _ hb,Result.andThen,m9]
  ·have hkey: ∀ e',es[j]?=some e'→({ e' with key:=k,val:=v }:MapEntry).key=e'.key:=fun e' he'=>by rw[hj] at he';cases he';exact e3.symm
   refine ⟨stamped_modify hM.st _ _ (fun _ _=>rfl) (fun e' _ he'=>hkey e' he'),oX hM.key _ _ hkey,fun x hx=>?_,fun k' p' hk'=>?_,fun q hq=>?_⟩
   ·rcases (mem_modify hM.st hj _).1 hx with ⟨hx,hne⟩ | rfl
    ·rw[h2 _ (fun hxk=>hne (jK hM.st hx he (by rw[hxk,e3])))];exact hM.get x hx
    ·exact ⟨p,h1,hv⟩
   ·by_cases hkk:k'=k
    ·exact ⟨_,(mem_modify hM.st hj _).2 (.inr rfl),hkk.symm⟩
    ·rw[h2 _ hkk] at hk'
     obtain ⟨x,hx,hxk⟩:=hM.dom k' p' hk';exact ⟨x,(mem_modify hM.st hj _).2 (.inl ⟨hx,fun e1=>hkk (by rw[←hxk,e1,e3])⟩),hxk⟩
   ·rcases hM.KN q hq with hl | ⟨x,hx,hxb,hxk⟩
    ·exact .inl hl
    refine .inr ?_;by_cases hxe:x=e
    ·subst hxe
     exact ⟨_,(mem_modify hM.st hj _).2 (.inr rfl),hxb,by rw[←hxk,e3]⟩
    ·exact ⟨x,(mem_modify hM.st hj _).2 (.inl ⟨hx,hxe⟩),hxb,hxk⟩
theorem aP.mapEntry (h:aP w0 F (M1++.mp r d m aK::M2) w) (hm:P.underlying mty=some (.map kt et)) (hd:P.underlying kt=some d) (ho:uE P d) (hk:oK d k) {z:Value} {pz:PV} (hz:(zeroValue et).run P w=.ok z w) (hpz:aC F pz z)
  {m':Value→Option PV} (h1:m' k=some ((m k).getD pz)) (h2: ∀ k',k'≠k→m' k'=m k') (hc:m k≠none∨ ∀ q∈aK,q.2≠.tuple #[]):
  ∃ v n w',(Instr.mapEntry mty (.map (some r)) k).run P w=.ok (.tuple #[v,.int .i64 n]) w'∧aC F ((m k).getD pz) v∧aP w0 F (M1++.mp r d m' ((n,k)::aK)::M2) w':=by
 obtain ⟨es,clock,hb,hM⟩:=h.nc (r:=r) (d:=d) (m:=m) (aK:=aK) (by simp)
 rcases n5 ho hd hk hM.key w with ⟨e1,e2⟩ | ⟨j,e,e1,e2,e3⟩
 ·have hmk:m k=none:=by
   cases hmk:m k with
   | none=>rfl
   | some p=>
    obtain ⟨x,hx,hxk⟩:=hM.dom k p hmk;exact absurd hxk (e2 x hx)
  have hc:=vJ hM e2 hc;rw[hmk] at h1 ⊢;refine ⟨z,clock,m9 w r (es.push { key:=k,val:=z,born:=clock }) (clock + 1),?_,hpz,h.nF rfl ?_⟩
  ·simp[Instr.mapEntry,run_underlying hm,MapKept.run_getObj_map hb,e7 ho hd hk,e1,run_setObj_map _ hb,Result.andThen,hz,goInt,m9]
  ·refine ⟨stamped_push hM.st e2,fun x hx=>?_,fun x hx=>?_,fun k' p' hk'=>?_,fun q hq=>?_⟩
   ·rcases mem_push.1 hx with hx | rfl
    ·exact hM.key x hx
    ·exact hk
   ·rcases mem_push.1 hx with hx | rfl
    ·rw[h2 _ (e2 x hx)];exact hM.get x hx
    ·exact ⟨pz,h1,hpz⟩
   ·by_cases hkk:k'=k
    ·exact ⟨_,mem_push.2 (.inr rfl),hkk.symm⟩
    ·rw[h2 _ hkk] at hk'
     obtain ⟨x,hx,hxk⟩:=hM.dom k' p' hk';exact ⟨x,mem_push.2 (.inl hx),hxk⟩
   ·rcases List.mem_cons.1 hq with rfl | hq
    ·exact .inr ⟨_,mem_push.2 (.inr rfl),rfl,rfl⟩
    ·obtain ⟨x,hx,hxk⟩:=(hM.KN q hq).resolve_left fun h=>hc q hq h.1
     exact .inr ⟨x,mem_push.2 (.inl hx),hxk⟩
 ·have hj:es[j]?=some e:=by simpa using e2
  have he:e∈es.toList:=List.mem_of_getElem? e2;obtain ⟨p,hp1,hp2⟩:=hM.get e he;rw[e3] at hp1;rw[hp1] at h1 ⊢;refine ⟨e.val,e.born,m9 w r (es.modify j fun e=>{ e with key:=k }) clock,?_,hp2,h.nF rfl ?_⟩
  ·simp[Instr.mapEntry,run_underlying hm,MapKept.run_getObj_map hb,e7 ho hd hk,e1,hj,e3,wm hk,run_setObj_map _ hb,Result.andThen,goInt,m9]
  ·have hkey: ∀ e',es[j]?=some e'→({ e' with key:=k }:MapEntry).key=e'.key:=fun e' he'=>by rw[hj] at he';cases he';exact e3.symm
   refine ⟨stamped_modify hM.st _ _ (fun _ _=>rfl) (fun e' _ he'=>hkey e' he'),oX hM.key _ _ hkey,fun x hx=>?_,fun k' p' hk'=>?_,fun q hq=>?_⟩
   ·rcases (mem_modify hM.st hj _).1 hx with ⟨hx,hne⟩ | rfl
    ·rw[h2 _ (fun hxk=>hne (jK hM.st hx he (by rw[hxk,e3])))];exact hM.get x hx
    ·exact ⟨p,h1,hp2⟩
   ·by_cases hkk:k'=k
    ·exact ⟨_,(mem_modify hM.st hj _).2 (.inr rfl),hkk.symm⟩
    ·rw[h2 _ hkk] at hk'
     obtain ⟨x,hx,hxk⟩:=hM.dom k' p' hk';exact ⟨x,(mem_modify hM.st hj _).2 (.inl ⟨hx,fun e1=>hkk (by rw[←hxk,e1,e3])⟩),hxk⟩
   ·rcases List.mem_cons.1 hq with rfl | hq
    ·exact .inr ⟨_,(mem_modify hM.st hj _).2 (.inr rfl),rfl,rfl⟩
    ·rcases hM.KN q hq with hl | ⟨x,hx,hxb,hxk⟩
     ·exact .inl hl
     refine .inr ?_;by_cases hxe:x=e
     ·subst hxe
      exact ⟨_,(mem_modify hM.st hj _).2 (.inr rfl),hxb,by rw[←hxk,e3]⟩
     ·exact ⟨x,(mem_modify hM.st hj _).2 (.inl ⟨hx,hxe⟩),hxb,hxk⟩
theorem ze {es:Array MapEntry} {clock:Nat} (hst:Stamped es clock) {x:MapEntry} (hx:x∈es.toList): ∃ j,es.findIdx? (fun e=>(e.born:Int) == (x.born:Int))=some j∧es[j]?=some x:=by
 cases hf:es.findIdx? (fun e=>(e.born:Int) == (x.born:Int)) with
 | none=>
  rw[Array.findIdx?_eq_none_iff] at hf;have:=hf x (by simpa using hx);simp at this
 | some j=>
  refine ⟨j,rfl,?_⟩;rw[Array.findIdx?_eq_some_iff_getElem] at hf;obtain ⟨hlt,hb,_⟩:=hf;have hb':es[j].born=x.born:=by have:=(beq_iff_eq).1 hb;omega
  have:es[j]=x:=AZ hst (by simp) hx hb';rw[Array.getElem?_eq_getElem hlt,this]
theorem aP.entryStore (h:aP w0 F (M1++.mp r d m aK::M2) w) {n:Int} {j:IntKind} (hn:(n,k)∈aK) (hkm:k≠.tuple #[]) {v:Value} {p:PV} (hv:aC F p v)
  {m':Value→Option PV} (h1:m' k=some p) (h2: ∀ k',k'≠k→m' k'=m k'):
  ∃ w',(Instr.entryStore mty (.map (some r)) (.int j n) v).run P w=.ok () w'∧aP w0 F (M1++.mp r d m' aK::M2) w':=by
 obtain ⟨es,clock,hb,hM⟩:=h.nc (r:=r) (d:=d) (m:=m) (aK:=aK) (by simp);obtain ⟨e,he,heb,hek⟩:=(hM.KN _ hn).resolve_left fun h=>hkm h.1;simp only at heb hek;obtain ⟨i,hi1,hi2⟩:=ze hM.st he;refine ⟨m9 w r (es.modify i fun e=>{ e with val:=v }) clock,?_,h.nF rfl ?_⟩
 ·rw[heb] at hi1
  simp[Instr.entryStore,MapKept.run_getObj_map hb,asInt,asIntOf,hi1,run_setObj_map _ hb,Result.andThen,m9]
 ·refine ⟨stamped_modify hM.st _ _ (fun _ _=>rfl) (fun _ _ _=>rfl),oX hM.key _ _ (fun _ _=>rfl),fun x hx=>?_,fun k' p' hk'=>?_,fun q hq=>?_⟩
  ·rcases (mem_modify hM.st hi2 _).1 hx with ⟨hx,hne⟩ | rfl
   ·rw[h2 _ (fun hxk=>hne (jK hM.st hx he (by rw[hxk,hek])))];exact hM.get x hx
   ·exact ⟨p,by rw[show ({ e with val:=v }:MapEntry).key=k from hek];exact h1,hv⟩
  ·by_cases hkk:k'=k
   ·exact ⟨_,(mem_modify hM.st hi2 _).2 (.inr rfl),by rw[hkk];exact hek⟩
   ·rw[h2 _ hkk] at hk'
    obtain ⟨x,hx,hxk⟩:=hM.dom k' p' hk';exact ⟨x,(mem_modify hM.st hi2 _).2 (.inl ⟨hx,fun e1=>hkk (by rw[←hxk,e1,hek])⟩),hxk⟩
  ·rcases hM.KN q hq with hl | ⟨x,hx,hxb,hxk⟩
   ·exact .inl hl
   refine .inr ?_;by_cases hxe:x=e
   ·subst hxe
    exact ⟨_,(mem_modify hM.st hi2 _).2 (.inr rfl),hxb,hxk⟩
   ·exact ⟨x,(mem_modify hM.st hi2 _).2 (.inl ⟨hx,hxe⟩),hxb,hxk⟩
theorem aP.NL (h:aP w0 F (M1++.mp r d m aK::M2) w) (hm:P.underlying mty=some (.map kt et)) (hd:P.underlying kt=some d) (ho:uE P d) (hk:oK d k) (ty t2:TypeId)
  {m':Value→Option PV} (h1:m' k=none) (h2: ∀ k',k'≠k→m' k'=m k'):
  ∃ w',(Builtin.delete_ #[mty,t2] ty #[.map (some r),k]).run P w=.ok (.tuple #[]) w'∧aP w0 F (M1++.mp r d m' []::M2) w':=by
 obtain ⟨es,clock,hb,hM⟩:=h.nc (r:=r) (d:=d) (m:=m) (aK:=aK) (by simp)
 rcases n5 ho hd hk hM.key w with ⟨e1,e2⟩ | ⟨j,e,e1,e2,e3⟩
 ·refine ⟨m9 w r es clock,?_,h.nF rfl ?_⟩
  ·simp[Builtin.delete_,run_underlying hm,MapKept.run_getObj_map hb,e7 ho hd hk,e1,run_setObj_map _ hb,Result.andThen,m9]
  ·refine ⟨hM.st,hM.key,fun x hx=>?_,fun k' p' hk'=>?_,by simp⟩
   ·rw[h2 _ (e2 x hx)];exact hM.get x hx
   ·by_cases hkk:k'=k
    ·rw[hkk,h1] at hk';cases hk'
    ·rw[h2 _ hkk] at hk';exact hM.dom k' p' hk'
 ·have he:e∈es.toList:=List.mem_of_getElem? e2
  have hjl:j < es.size:=by simpa using (List.getElem?_eq_some_iff.1 e2).1
  have hmem: ∀ x,x∈(es.eraseIdxIfInBounds j).toList↔x∈es.toList∧x≠e:=by
   intro x
   have hel:(es.eraseIdxIfInBounds j).toList=es.toList.eraseIdx j:=by
    unfold Array.eraseIdxIfInBounds;rw[dif_pos hjl,Array.toList_eraseIdx]
   rw[hel,List.mem_eraseIdx_iff_getElem?];constructor
   ·rintro ⟨i,hij,hi⟩
    refine ⟨List.mem_of_getElem? hi,fun e4=>hij ?_⟩;subst e4;have hp:=((stamped_iff es clock).1 hM.st).2.2;rw[List.pairwise_iff_getElem] at hp;obtain ⟨il,ie⟩:=List.getElem?_eq_some_iff.1 hi;obtain ⟨jl,je⟩:=List.getElem?_eq_some_iff.1 e2;rcases Nat.lt_trichotomy i j with h | h | h
    ·exact absurd (by rw[ie,je]) (hp i j il jl h)
    ·exact h
    ·exact absurd (by rw[ie,je]) (hp j i jl il h)
   ·rintro ⟨hx,hne⟩
    obtain ⟨i,hi⟩:=List.getElem?_of_mem hx;exact ⟨i,fun e4=>hne (by subst e4;rw[e2] at hi;cases hi;rfl),hi⟩
  refine ⟨m9 w r (es.eraseIdxIfInBounds j) clock,?_,h.nF rfl ?_⟩
  ·simp[Builtin.delete_,run_underlying hm,MapKept.run_getObj_map hb,e7 ho hd hk,e1,run_setObj_map _ hb,Result.andThen,m9]
  ·refine ⟨stamped_erase hM.st _,fun x hx=>hM.key x ((hmem x).1 hx).1,fun x hx=>?_,fun k' p' hk'=>?_,by simp⟩
   ·obtain ⟨hx,hne⟩:=(hmem x).1 hx
    rw[h2 _ (fun hxk=>hne (jK hM.st hx he (by rw[hxk,e3])))];exact hM.get x hx
   ·by_cases hkk:k'=k
    ·rw[hkk,h1] at hk';cases hk'
    ·rw[h2 _ hkk] at hk'
     obtain ⟨x,hx,hxk⟩:=hM.dom k' p' hk';exact ⟨x,(hmem x).2 ⟨hx,fun e4=>hkk (by rw[←hxk,e4,e3])⟩,hxk⟩
end
def cX (rd:Option Nat):Fence:={ Fence.wide with round:=rd }
def PV.fN:Value→PV
 | .int k n=>.int k n
 | .bool true=>.aV
 | .bool false=>.bfalse
 | .string s=>match Nat.ble s.data.toList.length 4294967296 with
  | true=>.str s.data.toList
  | false=>.any
 | .pointer none=>.np
 | .slice none 0 0=>.nil
 | .nilFunc=>.sc .nilFunc
 | .nilIface=>.sc .nilIface
 | .map none=>.sc (.map none)
 | _=>.any
def BZ:List Value→Bool
 | []=>true
 | v::l=>match v.oneCell' with
  | true=>BZ l
  | false=>false
def PV.ofValue (v:Value):PV:=match v with
 | .agg vs=>match BZ vs.toList with
  | true=>.agg (vs.toList.map PV.fN)
  | false=>.any
 | v=>PV.fN v
def zi {q:Sort _}:List PV→Nat→(PV→q)→q
 | [],_,k=>k .any
 | x::_,0,k=>k x
 | _::l,i + 1,k=>zi l i k
def w5 {q:Sort _}:List PV→Nat→PV→(List PV→q)→q
 | [],_,_,k=>k []
 | _::l,0,x,k=>k (x::l)
 | y::l,i + 1,x,k=>w5 l i x fun r=>k (y::r)
def mE {q:Sort _}:List PV→Nat→(List PV→q)→q
 | l,0,k=>k l
 | [],_ + 1,k=>k []
 | _::l,n + 1,k=>mE l n k
def nK {q:Sort _}:List PV→Nat→(List PV→q)→q
 | _,0,k=>k []
 | [],_ + 1,k=>k []
 | x::l,n + 1,k=>nK l n fun r=>k (x::r)
def uK {q:Sort _}:List PV→List PV→(List PV→q)→q
 | [],m,k=>k m
 | x::l,m,k=>uK l m fun r=>k (x::r)
def nr {q:Sort _} (T:List PV) (d:Option Nat) (x:PV) (k:List PV→q):q:=
 match d with
 | none=>k T
 | some d=>w5 T d x k
theorem eg {q:Sort _}: ∀ (l:List PV) (i:Nat) (k:PV→q),zi l i k=k (l.getD i .any)
 | [],_,_=>rfl
 | _::_,0,_=>rfl
 | _::l,i + 1,k=>by simp only[zi,eg l];simp
theorem fu {q:Sort _}: ∀ (l:List PV) (i:Nat) (x:PV) (k:List PV→q),w5 l i x k=k (l.set i x)
 | [],_,_,_=>rfl
 | _::_,0,_,_=>rfl
 | _::l,i + 1,x,k=>by simp only[w5,fu l,List.set_cons_succ]
theorem dQ {q:Sort _}: ∀ (l:List PV) (i:Nat) (k:List PV→q),mE l i k=k (l.drop i)
 | l,0,_=>by simp[mE]
 | [],_ + 1,_=>by simp[mE]
 | _::l,i + 1,k=>by simp only[mE,dQ l,List.drop_succ_cons]
theorem fO {q:Sort _}: ∀ (l:List PV) (i:Nat) (k:List PV→q),nK l i k=k (l.take i)
 | l,0,_=>by simp[nK]
 | [],_ + 1,_=>by simp[nK]
 | _::l,i + 1,k=>by simp only[nK,fO l,List.take_succ_cons]
theorem fR {q:Sort _}: ∀ (l m:List PV) (k:List PV→q),uK l m k=k (l++m)
 | [],_,_=>rfl
 | _::l,m,k=>by simp only[uK,fR l,List.cons_append]
def ER {q:Sort _} {α:Type}:List α→(List α→q)→q
 | [],k=>k []
 | x::l,k=>ER l fun r=>k (x::r)
theorem BL {q:Sort _} {α:Type}: ∀ (l:List α) (k:List α→q),ER l k=k l
 | [],_=>rfl
 | x::l,k=>by simp only[ER,BL l]
def ua {q:Sort _} (v:Value) (k:PV→q):q:=
 match v with
 | .int j n=>k (.int j n)
 | .bool true=>k .aV
 | .bool false=>k .bfalse
 | .string s=>match Nat.ble s.data.toList.length 4294967296 with
  | true=>ER s.data.toList fun l=>k (.str l)
  | false=>k .any
 | .pointer none=>k .np
 | .slice none 0 0=>k .nil
 | v=>k (PV.fN v)
theorem uP {q:Sort _} (v:Value) (k:PV→q):ua v k=k (PV.fN v):=by
 unfold ua
 split<;>first | rfl | (simp only[PV.fN];split<;>first | rfl | rw[BL]) | simp[PV.fN]
def uc {q:Sort _}:List Value→(List PV→q)→q
 | [],k=>k []
 | v::l,k=>ua v fun p=>uc l fun r=>k (p::r)
theorem uQ {q:Sort _}: ∀ (l:List Value) (k:List PV→q),uc l k=k (l.map PV.fN)
 | [],_=>rfl
 | v::l,k=>by simp only[uc,uP,uQ l,List.map_cons]
def C2 {q:Sort _} (v:Value) (k:PV→q):q:=
 match v with
 | .agg vs=>match BZ vs.toList with
  | true=>uc vs.toList fun l=>k (.agg l)
  | false=>k .any
 | v=>ua v k
theorem xw {q:Sort _} (v:Value) (k:PV→q):C2 v k=k (PV.ofValue v):=by
 unfold C2 PV.ofValue
 split
 ·split
  ·rw[uQ]
  ·rfl
 ·rw[uP]
def gf {q:Sort _}:List ZK→(List PV→q)→q
 | [],k=>k []
 | z::zs,k=>match z with
  | .bool=>gf zs fun l=>k (.bfalse::l)
  | .int j=>gf zs fun l=>k (.int j 0::l)
  | .str=>gf zs fun l=>k (.str []::l)
  | .ptr=>gf zs fun l=>k (.np::l)
  | .sl=>gf zs fun l=>k (.nil::l)
  | z=>gf zs fun l=>k (z.pv::l)
theorem cn {q:Sort _}: ∀ (zs:List ZK) (k:List PV→q),gf zs k=k (zs.map ZK.pv)
 | [],_=>rfl
 | z::zs,k=>by cases z<;>simp[gf,cn zs,ZK.pv]
def gB {q:Sort _} (T:List PV) (x:Operand) (k:PV→q):q:=
 match x with
 | .tmp t=>zi T t k
 | .const v=>C2 v k
 | .global g=>k (.ptr g 0)
 | .func f=>k (.fn (.func f) [])
def zb {q:Sort _} (T:List PV):List Operand→(List PV→q)→q
 | [],k=>k []
 | x::l,k=>gB T x fun p=>zb T l fun r=>k (p::r)
def ev (T:List PV) (x:Operand):PV:=gB T x id
theorem aI {q:Sort _} (T:List PV) (x:Operand) (k:PV→q):gB T x k=k (ev T x):=by
 cases x<;>simp[gB,ev,eg,xw]
theorem fh {q:Sort _} (T:List PV): ∀ (l:List Operand) (k:List PV→q),zb T l k=k (l.map (ev T))
 | [],_=>rfl
 | x::l,k=>by simp only[zb,aI,fh T l,List.map_cons]
def Wk (x y:PV):Prop:= ∀ F v,aC F x v→aC F y v
def wS:PV→Option Value
 | .int k n=>some (.int k n)
 | .str s=>some (.string ⟨s.toArray⟩)
 | .bool b=>some (.bool b)
 | .agg l=>match l with
  | [.int .i64 a,.int .i64 b]=>some (.agg #[.int .i64 a,.int .i64 b])
  | _=>none
 | _=>none
def oY (tt:Nat→TI):TD→Option TypeDesc
 | .int k=>some (.int k)
 | .str=>some .string
 | .bool=>some .bool
 | .arr 2 e=>match (tt e).cq,(tt e).size with
  | .int .i64,1=>some (.array 2 e)
  | _,_=>none
 | _=>none
structure fy (r:Nat) (d:TypeDesc) (key:Option Value) (z:PV) (Γ:List aj) (K:PV→Bool→Prop):Prop where
 h: ∃ k m aK y b,key=some k∧oK d k∧aj.mp r d m aK∈Γ∧(∀ p,m k=some p→Wk p y∧b=true)∧(m k=none→Wk z y∧b=false)∧K y b
structure fP (r:Nat) (d:TypeDesc) (key:Option Value) (p:PV) (Γ:List aj) (K:List aj→Prop):Prop where
 h: ∃ k m m' aK Γ1 Γ2,key=some k∧oK d k∧Γ=Γ1++.mp r d m aK::Γ2∧m' k=some p∧(∀ k',k'≠k→m' k'=m k')∧(m k≠none∨ ∀ q∈aK,q.2≠.tuple #[])∧K (Γ1++.mp r d m' aK::Γ2)
structure dP (r:Nat) (d:TypeDesc) (key:Option Value) (z:PV) (Γ:List aj) (K:PV→List aj→Prop):Prop where
 h: ∃ k m m' aK Γ1 Γ2,key=some k∧oK d k∧Γ=Γ1++.mp r d m aK::Γ2∧m' k=some ((m k).getD z)∧(∀ k',k'≠k→m' k'=m k')∧(m k≠none∨ ∀ q∈aK,q.2≠.tuple #[])∧
  ∀ n,K (.bp [(m k).getD z,.int .i64 n]) (Γ1++.mp r d m' ((n,k)::aK)::Γ2)
structure cF (r:Nat) (n:Int) (p:PV) (Γ:List aj) (K:List aj→Prop):Prop where
 h: ∃ d k m m' aK Γ1 Γ2,(n,k)∈aK∧k≠.tuple #[]∧Γ=Γ1++.mp r d m aK::Γ2∧m' k=some p∧(∀ k',k'≠k→m' k'=m k')∧K (Γ1++.mp r d m' aK::Γ2)
structure My (d:TypeDesc) (m:Value→Option PV) (all:List (Int×Value)) (cl:Nat):Prop where
 key: ∀ q∈all,oK d q.2∧m q.2≠none
 dom: ∀ k p,m k=some p→ ∃ n,(n,k)∈all
 nk:(all.map (·.2)).Nodup
 nb:(all.map (·.1)).Nodup
 lt: ∀ q∈all,0≤q.1∧q.1 < cl
structure jj (r:Nat) (d:TypeDesc) (Γ:List aj) (K:PV→List aj→Prop):Prop where
 h: ∃ m aK Γ1 Γ2,Γ=Γ1++.mp r d m aK::Γ2∧ ∀ b all cl,My d m all cl→K (.ptr b 0) (.ob b (.mapIter (some r) cl #[] cl) [] []::(Γ1++.mp r d m ((cl,.tuple #[])::all)::Γ2))
structure lN (b:Nat) (Γ:List aj) (K:PV→List aj→Prop):Prop where
 h: ∃ r cl seen d m all Γ1 Γ2,Γ=Γ1++.ob b (.mapIter (some r) cl seen cl) [] []::Γ2∧aj.mp r d m (((cl:Nat),.tuple #[])::all)∈Γ∧(∀ k p,m k=some p→ ∃ n,(n,k)∈all)∧(∀ q∈all,0≤q.1∧q.1 < cl)∧
  (∀ (n:Nat) k p,((n:Int),k)∈all→m k=some p→n∉seen.toList→K (.bp [.aV,.any,.any]) (Γ1++.ob b (.mapIter (some r) cl (seen.push n) cl) [] []::Γ2))∧
  ((∀ k p,m k=some p→ ∃ n:Nat,((n:Int),k)∈all∧n∈seen.toList)→K (.bp [.bfalse]) Γ)
structure ji (b:Nat) (Γ:List aj) (K:PV→Prop):Prop where
 h: ∃ r cl seen n k kp p d m all,aj.ob b (.mapIter (some r) cl (Array.push seen n) cl) [] []∈Γ∧aj.mp r d m (((cl:Nat),.tuple #[])::all)∈Γ∧((n:Int),k)∈all∧k≠.tuple #[]∧m k=some p∧(∀ F,aC F kp k)∧K (.bp [kp,p])
structure HF (P:Program) (t:TypeId) (xs ys:List PV) (K:Bool→Prop):Prop where
 h: ∃ q,(∀ F vs us w,aQ F xs vs→aQ F ys us→(∀ x y,(eqGuard .eql t x y (.agg vs.toArray) (.agg us.toArray)).run P w=.ok () w)∧(binOp .eql t (.agg vs.toArray) (.agg us.toArray)).run P w=.ok (.bool q) w)∧K q
structure dN (r:Nat) (d:TypeDesc) (key:Option Value) (Γ:List aj) (K:List aj→Prop):Prop where
 h: ∃ k m m' aK Γ1 Γ2,key=some k∧oK d k∧Γ=Γ1++.mp r d m aK::Γ2∧m' k=none∧(∀ k',k'≠k→m' k'=m k')∧K (Γ1++.mp r d m' []::Γ2)
structure kU (n sz:Nat) (b:Nat) (Γ:List aj) (K:PV→List aj→Prop):Prop where
 h: ∃ all es Γ1 Γ2,Γ=Γ1++.box b all::Γ2∧all=flat es∧(∀ e∈es,e.cellsOf.length=sz)∧es.length=n∧n≤maxLen∧K (.sl sz es none) (Γ1++Γ2)
structure j3 (n sz:Nat) (agg:Bool) (cs:List PV) (i:PV) (K:PV→Prop):Prop where
 h: ∃ k m,i=.int k m∧0≤m∧m < n∧cs.length=n * sz∧
  ((agg=true∧K (.agg ((cs.drop (m.toNat * sz)).take sz)))∨ ∃ c,agg=false∧sz=1∧cs[m.toNat]?=some c∧K c)
def dH (s:List UInt8):List PV:=s.map fun b=>.int .u8 b.toNat
structure HG (es:List PV) (K:Nat→Prop):Prop where
 h:es.length≤9223372036854775807→K es.length
structure HH (es:List PV) (K:Bool→Prop):Prop where
 h: ∀ q,(q=true→es= [])→K q
structure CI (s:List UInt8) (K:PV→Prop):Prop where
 h:K (.sl 1 (dH s) none)
structure KS (es:List PV) (K:PV→Prop):Prop where
 h: ∃ s,es=dH s∧K (.str s)
structure kR (p:Bool) (A B:Prop):Prop where
 t:p=true→A
 f:p=false→B
structure ij (k:IntKind) (v:Int) (K:Int→Prop):Prop where
 h:K (k.wrap v)
structure FC (k:IntKind) (a b:Int) (K:Prop):Prop where
 h:b≠0∧K
structure ia (p:Prop) (K:Prop):Prop where
 h:p∧K
def Reads (Γ:List aj) (p:PV) (n:Nat) (cs:List PV):Prop:=
 match p with
 | .ptr b o=> ∃ all,aj.box b all∈Γ∧o + n≤all.length∧cs=(all.drop o).take n
 | .ep all=>n≤all.length∧cs=all.take n
 | .rp t i o=> ∃ es e,aj.row t es∈Γ∧es[i]?=some e∧o + n≤e.cellsOf.length∧cs=(e.cellsOf.drop o).take n
 | _=>False
def mK {q:Sort _} (agg:Bool) (cs:List PV) (k:PV→q):q:=
 match agg with
 | true=>k (.agg cs)
 | false=>match cs with
  | x::_=>k x
  | []=>k .any
structure ek (agg:Bool) (n:Nat) (p:PV) (Γ:List aj) (K:PV→Prop):Prop where
 h: ∃ cs,Reads Γ p n cs∧mK agg cs K
def PV.cB:PV→Bool
 | .any=>false
 | .bp _=>false
 | .opt _ _=>false
 | _=>true
structure cr (n:Nat) (p x:PV) (Γ:List aj) (K:List aj→Prop):Prop where
  h:x.cellsOf.length=n∧x.cB=true∧ ∃ xs,(∀ F vs,aQ F x.cellsOf vs→aQ F xs vs)∧xs.length=n∧
    ((∃ b o all Γ1 Γ2,p=.ptr b o∧Γ=Γ1++.box b all::Γ2∧o + n≤all.length∧K (Γ1++.box b (all.take o++xs++all.drop (o + n))::Γ2))∨
     ∃ t i o es e e' Γ1 Γ2,p=.rp t i o∧Γ=Γ1++.row t es::Γ2∧es[i]?=some e∧o + n≤e.cellsOf.length∧e'.cellsOf=e.cellsOf.take o++xs++e.cellsOf.drop (o + n)∧K (Γ1++.row t (es.set i e')::Γ2))
structure eP (t:Tok) (Γ:List aj) (K:Nat→Prop):Prop where
 h: ∃ es,aj.row t es∈Γ∧(es.length≤9223372036854775807→K es.length)
structure OV (r:Nat) (Γ:List aj) (K:Nat→Prop):Prop where
 h: ∃ d m aK,aj.mp r d m aK∈Γ∧ ∀ n:Nat,(n=0↔ ∀ k,m k=none)→K n
structure e8 (sz:Nat) (t:Tok) (i:PV) (Γ:List aj) (K:PV→Prop):Prop where
 h: ∃ es k n,i=.int k n∧aj.row t es∈Γ∧0≤n∧n < es.length∧t.s=sz∧K (.rp t n.toNat 0)
structure dr (sz:Nat) (x i:PV) (K:PV→Prop):Prop where
 h: ∃ s es tk k n e,x=.sl s es tk∧i=.int k n∧0≤n∧es[n.toNat]?=some e∧s=sz∧K (.ep e.cellsOf)
structure j4 (n sz:Nat) (x i:PV) (K:PV→Prop):Prop where
 h: ∃ b o k m,x=.ptr b o∧i=.int k m∧0≤m∧m < n∧K (.ptr b (o + m.toNat * sz))
structure j5 (s:List UInt8) (i:PV) (K:PV→Prop):Prop where
 h: ∃ k n b,i=.int k n∧0≤n∧s[n.toNat]?=some b∧K (.int .u8 b.toNat)
def dO (x:Option PV) (dflt n:Nat):Prop:=
 match x with
 | none=>n=dflt
 | some (.int _ m)=>m=n
 | _=>False
structure iF (s:Nat) (es:List PV) (lo hi:Option PV) (K:PV→Prop):Prop where
 h: ∃ l h,dO hi es.length h∧dO lo 0 l∧l≤h∧h≤es.length∧K (.sl s ((es.take h).drop l) none)
structure ec (s:List UInt8) (lo hi:Option PV) (K:PV→Prop):Prop where
 h: ∃ l h,dO hi s.length h∧dO lo 0 l∧l≤h∧h≤s.length∧K (.str ((s.take h).drop l))
structure pM (sz:Nat) (t:Tok) (lo hi:Option PV) (Γ:List aj) (K:PV→List aj→Prop):Prop where
 h: ∃ es Γ1 Γ2 n,Γ=Γ1++.row t es::Γ2∧t.s=sz∧dO lo 0 0∧dO hi es.length n∧n≤es.length∧
  ∀ t',t'.e=t.e→t'.s=t.s→K (.ms t') (Γ1++.row t' (es.take n)::Γ2)
def wF (t:Tok) (l:Nat) (v:Value):Prop:=v.oneCell'=true∧ ∃ p cap,v=.slice p (t.n - l) cap∧(t.n=l∨ ∃ g,t.b=some g∧p=some ⟨g,l * t.s,none⟩)
structure pO (sz:Nat) (t:Tok) (lo hi:Option PV) (Γ:List aj) (K:PV→List aj→Prop):Prop where
 h:pM sz t lo hi Γ K∨(hi=none∧ ∃ es l,aj.row t es∈Γ∧t.s=sz∧dO lo 0 l∧l≤es.length∧ ∀ v,wF t l v→K (.sc v) Γ)
structure yK (z:PV) (x:Value) (Γ:List aj) (K:List aj→Prop):Prop where
 h: ∃ k n,z=.int k n∧ ∃ t es l Γ1 Γ2,wF t l x∧Γ=Γ1++.row t es::Γ2∧t.s=1∧l≤es.length∧K (Γ1++.row t (es.take l++List.replicate (es.length - l) z)::Γ2)
structure yL (s:Nat) (e:TypeId) (lo hi mx:Option PV) (Γ:List aj) (K:PV→List aj→Prop):Prop where
 h:dO lo 0 0∧dO hi 1 0∧dO mx 1 0∧ ∀ t:Tok,t.e=e→K (.sl s [] (some t)) (.tok t::Γ)
def OX (Γ:List aj) (s:Nat) (y:PV) (ys:List PV):Prop:=(∃ tk,Wk y (.sl s ys tk))∨ ∃ t,y=.ms t∧aj.row t ys∈Γ∧t.s=s
structure aW (s j7:Nat) (e:TypeId) (x y:PV) (Γ:List aj) (K:PV→List aj→Prop):Prop where
  h: ∃ es ys,OX Γ s y ys∧es.length + ys.length≤281474976710655∧(es.length + ys.length) * j7≤140737488355328∧
    ((x=.nil∧es= []∧((∀ t,t.e=e→K (.sl s ys (some t)) (.tok t::Γ))∨ ∀ t:Tok,t.e=e→t.s=s→K (.ms t) (.row t ys::Γ)))∨
     (∃ t Γ1 Γ2,x=.sl s es (some t)∧Γ=Γ1++.tok t::Γ2∧t.e=e∧ ∀ t',t'.e=e→K (.sl s (es++ys) (some t')) (Γ1++.tok t'::Γ2))∨
     ∃ t Γ1 Γ2,x=.ms t∧Γ=Γ1++.row t es::Γ2∧t.e=e∧t.s=s∧ ∀ t':Tok,t'.e=e→t'.s=s→K (.ms t') (Γ1++.row t' (es++ys)::Γ2))
structure kT (s:Nat) (ys:List PV) (e:TypeId) (K:PV→aj→Prop):Prop where
 h:(∀ y∈ys,y.cellsOf.length=s)∧(∀ y∈ys,y.cB=true)∧((∀ t,t.e=e→K (.sl s ys (some t)) (.tok t))∨ ∀ t:Tok,t.e=e→t.s=s→K (.ms t) (.row t ys))
structure AL (s:Nat) (ys:List PV) (K:List PV→Prop):Prop where
 h:(∀ y∈ys,y.cellsOf.length=s)∧(∀ y∈ys,y.cB=true)∧K (flat ys)
structure CK (s j7:Nat) (e:TypeId) (z:PV) (m:Int) (Γ:List aj) (K:PV→List aj→Prop):Prop where
 h:0 < m∧m≤140737488355328∧m * j7≤140737488355328∧z.cellsOf.length=s∧ ∀ t:Tok,t.e=e→t.s=s→K (.ms t) (.row t (List.replicate m.toNat z)::Γ)
structure kS (s j7:Nat) (e:TypeId) (z n c:PV) (K:PV→aj→Prop):Prop where
 h: ∃ k k' m p,n=.int k m∧c=.int k' p∧0≤m∧m≤p∧p≤140737488355328∧p * j7≤140737488355328∧z.cellsOf.length=s∧
  ((∀ t,t.e=e→K (.sl s (List.replicate m.toNat z) (some t)) (.tok t))∨ ∀ t:Tok,t.e=e→t.s=s→K (.ms t) (.row t (List.replicate m.toNat z)))
def af (P:Program) (f:FuncId) (args:List PV) (Γ:List aj) (Q:PV→List aj→Prop):Prop:=
 (∃ fn,P.funcs[f]?=some fn∧fn.body.isNone=false∧(fn.name == "runtime.NumGoroutine")=false)∧
 ∀ w0 F M w vs,aP w0 F (Γ++M) w→aA F args vs→
  Calls P f vs.toArray w fun e w'=> ∃ v F' y Γ',e=.returned v∧F.le F'∧aP w0 F' (Γ'++M) w'∧aC F' y v∧Q y Γ'
def MZ (P:Program) (f:FuncId) (args:List PV) (y:PV):Prop:=
 ∀ F w vs,aA F args vs→ ∃ v,(callFunc f vs.toArray).run P w=.ok (.value v) w∧aC F y v
structure aq (P:Program) (f:FuncId) (args:List PV) (Γ:List aj) (K:PV→List aj→Prop):Prop where
 h:af P f args Γ K∨ ∃ y,MZ P f args y∧K y Γ
def eM (P:Program) (l:Nat) (args:List PV) (Γ:List aj) (Q:PV→List aj→Prop):Prop:=
 ∀ w0 F M w vs,aP w0 F (Γ++M) w→aA F args vs→ ∃ fn tmps assign body,(Instr.yield l vs.toArray).run P w=.ok (.round l fn tmps assign body) w∧
  RoundIn Fence.wide 0 P l fn tmps assign body w fun e w'=> ∃ v F' y Γ',e=.returned v∧F.le F'∧aP w0 F' (Γ'++M) w'∧aC F' y v∧Q y Γ'
structure kF (P:Program) (l:Nat) (args:List PV) (Γ:List aj) (K:PV→List aj→Prop):Prop where
 h:eM P l args Γ K
def Ee (P:Program) (f:FuncId) (cap:List PV) (Γi:List aj) (xs:List (List PV)):Prop:=
 ∀ (l:Nat) (J:Nat→List aj→Prop) (X:List aj→Prop),
  (∀ k asx Γ,xs[k]?=some asx→J k Γ→eM P l asx Γ fun y Γ'=>(y=.aV∧J (k + 1) Γ')∨(y=.bfalse∧X Γ'))→
  ∀ Γ,J 0 Γ→af P f (.fn (.yield l) []::cap) (Γ++Γi) fun _ Γ'=>J xs.length Γ'∨X Γ'
def bitsOf (op:BinOp) (k:IntKind) (x y:Int):Int:=
 let a:=BitVec.ofInt k.bits x
 let b:=BitVec.ofInt k.bits y
 k.wrap (match op with
 | .and=>(a &&& b).toNat
 | .or=>(a ||| b).toNat
 | .xor=>(a ^^^ b).toNat
 | _=>(a &&& ~~~b).toNat)
def ID:IntKind→IntKind→Bool
 | .i8,.i8=>true
 | .i16,.i16=>true
 | .i32,.i32=>true
 | .i64,.i64=>true
 | .u8,.u8=>true
 | .u16,.u16=>true
 | .u32,.u32=>true
 | .u64,.u64=>true
 | _,_=>false
theorem IE {a b:IntKind}:ID a b=true↔a=b:=by cases a<;>cases b<;>simp[ID]
def mI (op:BinOp) (t:TD) (x y:PV) (K:PV→Prop):Prop:=
 match x,y with
 | .int k a,.int k' b=>
  match op with
  | .shl=>ia (0≤b) (K (.int k (k.wrap (a * 2 ^ (min b.toNat k.bits)))))
  | .shr=>ia (0≤b) (K (.int k (a.fdiv (2 ^ (min b.toNat k.bits)))))
  | _=>match ID k k' with
   | false=>False
   | true=>match op with
    | .add=>ij k (a + b) fun n=>K (.int k n)
    | .sub=>ij k (a - b) fun n=>K (.int k n)
    | .mul=>ij k (a * b) fun n=>K (.int k n)
    | .quo=>FC k a b (ij k (a.tdiv b) fun n=>K (.int k n))
    | .rem=>FC k a b (K (.int k (a.tmod b)))
    | .eql=>K (.bool (a == b))
    | .neq=>K (.bool (a !=b))
    | .lss=>K (.bool (decide (a < b)))
    | .leq=>K (.bool (decide (a≤b)))
    | .gtr=>K (.bool (decide (a > b)))
    | .geq=>K (.bool (decide (a≥b)))
    | .and=>K (.int k (bitsOf .and k a b))
    | .or=>K (.int k (bitsOf .or k a b))
    | .xor=>K (.int k (bitsOf .xor k a b))
    | .andNot=>K (.int k (bitsOf .andNot k a b))
    | _=>False
 | .str a,.str b=>
  match op with
  | .add=>ia (a.length + b.length≤maxLen) (K (.str (a++b)))
  | .eql=>K (.bool (a == b))
  | .neq=>K (.bool (!(a == b)))
  | _=>False
 | _,_=>
  match op,t with
  | .eql,.ptr _=>ptrEqK x y K false
  | .neq,.ptr _=>ptrEqK x y K true
  | .eql,.bool=>boolEqK x y K false
  | .neq,.bool=>boolEqK x y K true
  | .eql,.sl _=>slNilK x y K false
  | .neq,.sl _=>slNilK x y K true
  | _,_=>False
where
 slNilK (x y:PV) (K:PV→Prop) (neg:Bool):Prop:=
  match x,y with
  | .nil,.nil=>K (if neg then .bfalse else .aV)
  | .sl _ es _,.nil=>HH es fun q=>K (.bool (if neg then !q else q))
  | _,_=>False
 ptrEqK (x y:PV) (K:PV→Prop) (neg:Bool):Prop:=
  match x,y with
  | .np,.np=>K (if neg then .bfalse else .aV)
  | .ptr _ _,.np=>K (if neg then .aV else .bfalse)
  | .ep _,.np=>K (if neg then .aV else .bfalse)
  | _,_=>False
 boolEqK (x y:PV) (K:PV→Prop) (neg:Bool):Prop:=
  match x,y with
  | .bool a,.bool b=>K (.bool (if neg then a !=b else a == b))
  | .bool a,.aV=>K (.bool (if neg then a !=true else a == true))
  | .bool a,.bfalse=>K (.bool (if neg then a !=false else a == false))
  | .aV,.bool b=>K (.bool (if neg then true !=b else true == b))
  | .bfalse,.bool b=>K (.bool (if neg then false !=b else false == b))
  | .aV,.aV=>K (if neg then .bfalse else .aV)
  | .bfalse,.bfalse=>K (if neg then .bfalse else .aV)
  | .aV,.bfalse=>K (if neg then .aV else .bfalse)
  | .bfalse,.aV=>K (if neg then .aV else .bfalse)
  | _,_=>False
def Dp:Operand→Bool
 | .const .nilIface=>true
 | _=>false
def Gr (op:BinOp) (t:TD) (x:PV) (K:PV→Prop):Prop:=
 match t,op,x with
 | .ri,.eql,.sc .nilIface=>K .aV
 | .ri,.neq,.sc .nilIface=>K .bfalse
 | .ri,.eql,.ri=>K .bfalse
 | .ri,.neq,.ri=>K .aV
 | _,_,_=>False
def zeroOf (ti:TI):List PV:=ti.zero.map ZK.pv
def DB:List PV→Nat→Option PV
 | [],_=>none
 | x::_,0=>some x
 | _::l,n + 1=>DB l n
theorem Ah: ∀ (l:List PV) (n:Nat),DB l n=l[n]?
 | [],_=>by simp[DB]
 | _::_,0=>by simp[DB]
 | _::l,n + 1=>by simp[DB,Ah l]
def jL:List PV→Nat→Bool
 | [],0=>true
 | _::l,n + 1=>jL l n
 | _,_=>false
theorem eA: ∀ {l:List PV} {n:Nat},jL l n=true→l.length=n
 | [],0,_=>rfl
 | [],_ + 1,h=>by simp[jL] at h
 | _::_,0,h=>by simp[jL] at h
 | _::l,n + 1,h=>by simp only[jL] at h;simp[eA h]
def BX:List (Nat×Nat×Bool)→Nat→Option (Nat×Nat×Bool)
 | [],_=>none
 | x::_,0=>some x
 | _::l,n + 1=>BX l n
theorem ux: ∀ (l:List (Nat×Nat×Bool)) (n:Nat),BX l n=l[n]?
 | [],_=>by simp[BX]
 | _::_,0=>by simp[BX]
 | _::l,n + 1=>by simp[BX,ux l]
def mW (fs:List (Nat×Nat×Bool)) (T:List PV):List (Nat×Operand)→List PV→(List PV→Prop)→Prop
 | [],cs,k=>k cs
 | (i,x)::r,cs,k=>gB T x fun p=>match BX fs i with
  | none=>False
  | some (o,n,_)=>match p.cB with
   | false=>False
   | true=>match jL p.cellsOf n with
    | false=>False
    | true=>match Nat.ble (o + n) cs.length with
     | false=>False
     | true=>nK cs o fun a=>mE cs (o + n) fun z=>uK p.cellsOf z fun pz=>uK a pz fun cs'=>mW fs T r cs' k
def mo (T:List PV):Nat→List (Nat×Operand)→(List PV→Prop)→Prop
 | _, [],k=>k []
 | j,(i,x)::r,k=>match Nat.beq i j with
  | false=>False
  | true=>gB T x fun p=>mo T (j + 1) r fun l=>k (p::l)
def DH (T:List PV) (x:Option Operand) (k:Option PV→Prop):Prop:=
 match x with
 | none=>k none
 | some o=>gB T o fun p=>k (some p)
def isByte:TD→Bool
 | .int .u8=>true
 | _=>false
def xx (tt:Nat→TI) (s d:TD) (x:PV) (K:PV→Prop):Prop:=
 match d,x with
 | .int k,.int _ n=>ij k n fun m=>K (.int k m)
 | .sl e,.str b=>match isByte (tt e).cq,(tt e).size with
  | true,1=>CI b K
  | _,_=>False
 | .str,.str b=>match s with
  | .str=>K (.str b)
  | _=>False
 | .str,.sl _ es _=>match s with
  | .sl e=>match isByte (tt e).cq with
   | true=>KS es K
   | false=>False
  | _=>False
 | _,_=>False
def uh (tt:Nat→TI) (e:Nat) (k:Prop):Prop:=
 match (tt e).cq with
 | .other=>False
 | _=>k
theorem dc {tt:Nat→TI} {e:Nat} {k:Prop} (h:uh tt e k):(tt e).cq≠.other∧k:=by
 unfold uh at h
 split at h
 ·exact h.elim
 ·rename_i h0;exact ⟨h0,h⟩
def Dt (n:Nat) (k:Nat→Prop):Prop:=
 match n with
 | 1=>k 1
 | 2=>k 2
 | 3=>k 3
 | 4=>k 4
 | 5=>k 5
 | 6=>k 6
 | 7=>k 7
 | 8=>k 8
 | n=>k n
theorem gQ (n:Nat) (k:Nat→Prop):Dt n k=k n:=by unfold Dt;split<;>rfl
def xq (P:Program) (tt:Nat→TI) (T:List PV) (c:Call) (Γ:List aj) (K:PV→List aj→Prop):Prop:=
 match c.callee with
 | .value f=>gB T f fun g=>match g with
  | .fn (.func f) cap=>zb T c.args.toList fun asx=>uK asx cap fun as'=>aq P f as' Γ K
  | .fn (.yield l) []=>zb T c.args.toList fun asx=>kF P l asx Γ K
  | .fm f x=>zb T c.args.toList fun asx=>aq P f (x::asx) Γ K
  | _=>False
 | .builtin b=>zb T c.args.toList fun asx=>
  match b with
  | .len=>match asx with
   | [x]=>match c.argTypes.toList with
    | [t]=>match (tt t).cq,x with
     | .sl _,.sl _ es _=>HG es fun n=>K (.int .i64 n) Γ
     | .sl _,.nil=>K (.int .i64 0) Γ
     | .sl _,.ms t=>eP t Γ fun n=>K (.int .i64 n) Γ
     | .mp _ _,.mp r=>OV r Γ fun n=>K (.int .i64 n) Γ
     | .str,.str s=>s.length≤9223372036854775807→K (.int .i64 s.length) Γ
     | _,_=>False
    | _=>False
   | _=>False
  | .cap=>match asx with
   | [.nil]=>match c.argTypes.toList with
    | [t]=>match (tt t).cq with
     | .sl _=>K (.int .i64 0) Γ
     | _=>False
    | _=>False
   | _=>False
  | .append=>match asx,c.argTypes.toList with
   | [x,y], [t,u]=>match Nat.beq t u,(tt t).cq with
    | true,.sl e=>match Nat.blt 0 (tt e).size with
     | true=>uh tt e (Dt (tt e).size fun s=>aW s (tt e).bytes e x y Γ K)
     | false=>False
    | false,.sl e=>match (tt u).cq,x,y with
     | .int _,.nil,.int _ m=>uh tt e (match Nat.blt 0 (tt e).size with
      | true=>gf (tt e).zero fun z=>mK (tt e).cq.agg z fun z=>Dt (tt e).size fun s=>CK s (tt e).bytes e z m Γ K
      | false=>False)
     | _,_,_=>False
    | _,_=>False
   | _,_=>False
  | .clear=>match asx,c.argTypes.toList with
   | [.sc v], [t]=>match (tt t).cq with
    | .sl e=>uh tt e (gf (tt e).zero fun z=>mK (tt e).cq.agg z fun z=>yK z v Γ fun Γ'=>K (.bp []) Γ')
    | _=>False
   | _,_=>False
  | .delete=>match asx,c.argTypes.toList with
   | [.mp r,k], [t,_]=>match (tt t).cq with
    | .mp kt _=>match oY tt (tt kt).cq with
     | some d=>dN r d (wS k) Γ fun Γ'=>K (.bp []) Γ'
     | none=>False
    | _=>False
   | _,_=>False
  | .max=>match asx with
   | [.int k a,.int k' b]=>match ID k k' with
    | true=>K (.int k (if a < b then b else a)) Γ
    | false=>False
   | _=>False
  | .min=>match asx with
   | [.int k a,.int k' b]=>match ID k k' with
    | true=>K (.int k (if b < a then b else a)) Γ
    | false=>False
   | _=>False
  | _=>False
 | .invoke _ _=>False
def vT (p:Bool) (x y:PV) (K:PV→Prop):Prop:=
 match x,y with
 | .aV,.opt q (.bool r)=>ia ((p || q)=true) (K (.bool (p || r)))
 | .aV,.opt q .aV=>ia ((p || q)=true) (K .aV)
 | .aV,.opt q .bfalse=>ia ((p || q)=true) (K (.bool p))
 | .aV,.bool r=>K (.bool (p || r))
 | .opt q (.bool r),.bfalse=>ia ((!p || q)=true) (K (.bool (p && r)))
 | .opt q .aV,.bfalse=>ia ((!p || q)=true) (K (.bool p))
 | .opt q .bfalse,.bfalse=>ia ((!p || q)=true) (K .bfalse)
 | .bool r,.bfalse=>K (.bool (p && r))
 | x,y=>kR p (K x) (K y)
theorem DL {p:Bool} {x y:PV} {K:PV→Prop} (h:vT p x y K) {F:Fz} {u v:Value} (hx:aC F x u) (hy:aC F y v): ∃ z,aC F z (if p then u else v)∧K z:=by
 unfold vT at h
 split at h
 ·obtain ⟨h1,h2⟩:=h.h
  simp only[aC] at hx hy;cases p
  ·exact ⟨_,by simp only[aC];simpa using hy.1 (by simpa using h1),h2⟩
  ·exact ⟨_,by simp only[aC];simpa using hx,h2⟩
 ·obtain ⟨h1,h2⟩:=h.h
  simp only[aC] at hx hy;cases p
  ·exact ⟨_,by simp only[aC];simpa using hy.1 (by simpa using h1),h2⟩
  ·exact ⟨_,by simp only[aC];simpa using hx,h2⟩
 ·obtain ⟨h1,h2⟩:=h.h
  simp only[aC] at hx hy;cases p
  ·exact ⟨_,by simp only[aC];simpa using hy.1 (by simpa using h1),h2⟩
  ·exact ⟨_,by simp only[aC];simpa using hx,h2⟩
 ·simp only[aC] at hx hy
  cases p
  ·exact ⟨_,by simp only[aC];simpa using hy,h⟩
  ·exact ⟨_,by simp only[aC];simpa using hx,h⟩
 ·obtain ⟨h1,h2⟩:=h.h
  simp only[aC] at hx hy;cases p
  ·exact ⟨_,by simp only[aC];simpa using hy,h2⟩
  ·exact ⟨_,by simp only[aC];simpa using hx.1 (by simpa using h1),h2⟩
 ·obtain ⟨h1,h2⟩:=h.h
  simp only[aC] at hx hy;cases p
  ·exact ⟨_,by simp only[aC];simpa using hy,h2⟩
  ·exact ⟨_,by simp only[aC];simpa using hx.1 (by simpa using h1),h2⟩
 ·obtain ⟨h1,h2⟩:=h.h
  simp only[aC] at hx hy;cases p
  ·exact ⟨_,by simp only[aC];simpa using hy,h2⟩
  ·exact ⟨_,by simp only[aC];simpa using hx.1 (by simpa using h1),h2⟩
 ·simp only[aC] at hx hy
  cases p
  ·exact ⟨_,by simp only[aC];simpa using hy,h⟩
  ·exact ⟨_,by simp only[aC];simpa using hx,h⟩
 ·cases p
  ·exact ⟨_,hy,h.f rfl⟩
  ·exact ⟨_,hx,h.t rfl⟩
theorem DK {p:Bool} {x y:PV} {K K':PV→Prop} (hk: ∀ z,K z→K' z) (h:vT p x y K):vT p x y K':=by
 unfold vT at h⊢
 split at h<;>first | exact hk _ h | exact ⟨h.h.1,hk _ h.h.2⟩ | exact ⟨fun e=>hk _ (h.t e),fun e=>hk _ (h.f e)⟩
def pI (P:Program) (tt:Nat→TI) (op:Op) (T:List PV) (Γ:List aj) (K:PV→List aj→Prop):Prop:=
 match op with
 | .move x=>gB T x fun p=>K p Γ
 | .assign x=>gB T x fun p=>K p Γ
 | .pick c a b=>gB T c fun p=>match p with
  | .aV=>gB T a fun p=>K p Γ
  | .bfalse=>gB T b fun p=>K p Γ
  | .bool p=>gB T a fun x=>gB T b fun y=>vT p x y fun z=>K z Γ
  | _=>False
 | .alloc t=>match (tt t).cq with
  | .other=>False
  | _=> ∀ b,gf (tt t).zero fun z=>K (.ptr b 0) (.box b z::Γ)
 | .box _ x=>gB T x fun p=>match p.cB with
  | true=> ∀ b,uK p.cellsOf [] fun cs=>K (.ptr b 0) (.box b cs::Γ)
  | false=>False
 | .build t parts=>match (tt t).cq with
  | .st fs=>gf (tt t).zero fun z=>mW fs T parts.toList z fun cs=>K (.agg cs) Γ
  | .arr n e=>uh tt e (match Nat.beq (tt t).size (n * (tt e).size) with
   | true=>mo T 0 parts.toList fun ys=>match Nat.beq ys.length n with
    | true=>AL (tt e).size ys fun cs=>K (.agg cs) Γ
    | false=>False
   | false=>False)
  | _=>False
 | .buildSlice t len parts=>match (tt t).cq with
  | .sl e=>uh tt e (mo T 0 parts.toList fun ys=>match Nat.beq ys.length len with
    | true=>ia (len≤16777216∧len * (tt e).size≤16777216) (Dt (tt e).size fun s=>kT s ys e fun x t=>K x (t::Γ))
    | false=>False)
  | _=>False
 | .load t a=>gB T a fun p=>match (tt t).cq with
  | .other=>False
  | d=>match Nat.blt 0 (tt t).size with
   | false=>False
   | true=>ek d.agg (tt t).size p Γ fun x=>K x Γ
 | .store t a x=>gB T a fun p=>gB T x fun v=>match (tt t).cq with
  | .other=>False
  | _=>cr (tt t).size p v Γ fun Γ'=>K .any Γ'
 | .nilCheck x=>gB T x fun p=>match p with
  | .ptr b o=>K (.ptr b o) Γ
  | .ep cs=>K (.ep cs) Γ
  | .fn (.func f) cap=>K (.fn (.func f) cap) Γ
  | .fn (.yield l) []=>K (.fn (.yield l) []) Γ
  | .rp t i o=>K (.rp t i o) Γ
  | .fm f x=>K (.fm f x) Γ
  | _=>False
 | .binOp op t x y _=>match Dp y with
  | true=>gB T x fun a=>Gr op (tt t).cq a fun p=>K p Γ
  | false=>gB T x fun a=>gB T y fun b=>match op,a,b with
   | .eql,.agg xs,.agg ys=>HF P t xs ys fun q=>K (.bool q) Γ
   | op,a,b=>mI op (tt t).cq a b fun p=>K p Γ
 | .unOp op _ x=>gB T x fun a=>match op,a with
  | .neg,.int k n=>ij k (0 - n) fun m=>K (.int k m) Γ
  | .not,.bool b=>K (.bool (!b)) Γ
  | .not,.aV=>K .bfalse Γ
  | .not,.bfalse=>K .aV Γ
  | _,_=>False
 | .convert s d x=>gB T x fun a=>uh tt s (xx tt (tt s).cq (tt d).cq a fun p=>K p Γ)
 | .makeFunc (.func f) first cap=>match first.toList with
  | []=>zb T cap.toList fun cs=>K (.fn (.func f) cs) Γ
  | [r]=>match cap.toList with
   | []=>gB T r fun x=>K (.fm f x) Γ
   | _=>False
  | _=>False
 | .makeMap t none=>match (tt t).cq with
  | .mp kt _=>match oY tt (tt kt).cq with
   | some d=> ∀ r,K (.mp r) (.mp r d (fun _=>none) []::Γ)
   | none=>False
  | _=>False
 | .lookup t x i ok=>gB T x fun a=>gB T i fun j=>match (tt t).cq,a with
  | .mp kt et,.mp r=>match oY tt (tt kt).cq with
   | some d=>uh tt et (gf (tt et).zero fun z=>mK (tt et).cq.agg z fun z=>fy r d (wS j) z Γ fun y b=>match ok with
    | true=>K (.bp [y,.bool b]) Γ
    | false=>K y Γ)
   | none=>False
  | _,_=>False
 | .mapUpdate t x i v=>gB T x fun a=>gB T i fun j=>gB T v fun p=>match (tt t).cq,a with
  | .mp kt _,.mp r=>match oY tt (tt kt).cq with
   | some d=>fP r d (wS j) p Γ fun Γ'=>K .any Γ'
   | none=>False
  | _,_=>False
 | .mapEntry t x i=>gB T x fun a=>gB T i fun j=>match (tt t).cq,a with
  | .mp kt et,.mp r=>match oY tt (tt kt).cq with
   | some d=>uh tt et (gf (tt et).zero fun z=>mK (tt et).cq.agg z fun z=>dP r d (wS j) z Γ K)
   | none=>False
  | _,_=>False
 | .range t x=>gB T x fun a=>match (tt t).cq,a with
  | .mp kt _,.mp r=>match oY tt (tt kt).cq with
   | some d=>jj r d Γ K
   | none=>False
  | _,_=>False
 | .next it str=>gB T it fun a=>match a,str with
  | .ptr b 0,false=>lN b Γ K
  | _,_=>False
 | .entry it=>gB T it fun a=>match a with
  | .ptr b 0=>ji b Γ fun p=>K p Γ
  | _=>False
 | .entryStore _ x n v=>gB T x fun a=>gB T n fun j=>gB T v fun p=>match a,j with
  | .mp r,.int _ n=>cF r n p Γ fun Γ'=>K .any Γ'
  | _,_=>False
 | .slice t x lo hi none=>gB T x fun a=>DH T lo fun l=>DH T hi fun h=>match (tt t).cq,a with
  | .arr n e,.ptr b 0=>match l,h with
   | none,none=>uh tt e (kU n (tt e).size b Γ K)
   | _,_=>False
  | .sl e,.sl s es _=>uh tt e (ia (s=(tt e).size) (iF s es l h fun p=>K p Γ))
  | .sl e,.ms t=>uh tt e (pO (tt e).size t l h Γ K)
  | .str,.str s=>ec s l h fun p=>K p Γ
  | .sl e,.nil=>uh tt e (ia (dO l 0 0∧dO h 0 0) (K .nil Γ))
  | _,_=>False
 | .slice t x lo hi (some mx)=>gB T x fun a=>DH T lo fun l=>DH T hi fun h=>DH T (some mx) fun m=>match (tt t).cq,a with
  | .sl e,.sl s _ _=>uh tt e (ia (s=(tt e).size) (yL s e l h m Γ K))
  | .sl e,.nil=>uh tt e (Dt (tt e).size fun s=>yL s e l h m Γ K)
  | _,_=>False
 | .makeSlice t n c=>gB T n fun a=>gB T c fun b=>match (tt t).cq with
  | .sl e=>uh tt e (match Nat.blt 0 (tt e).size with
   | true=>gf (tt e).zero fun z=>mK (tt e).cq.agg z fun z=>Dt (tt e).size fun s=>kS s (tt e).bytes e z a b fun x t=>K x (t::Γ)
   | false=>False)
  | _=>False
 | .fieldAddr s x f=>gB T x fun p=>match (tt s).cq with
  | .st fs=>match BX fs f with
   | some (o,_,_)=>match p with
    | .ptr b q=>K (.ptr b (q + o)) Γ
    | .ep cs=>mE cs o fun r=>K (.ep r) Γ
    | .rp t i q=>K (.rp t i (q + o)) Γ
    | _=>False
   | none=>False
  | _=>False
 | .field s x f=>gB T x fun p=>match (tt s).cq,p with
  | .st fs,.agg cs=>match BX fs f with
   | some (o,n,g)=>match Nat.ble (o + n) cs.length with
    | true=>match g,n with
     | true,_=>mE cs o fun r=>nK r n fun l=>K (.agg l) Γ
     | false,1=>mE cs o fun r=>match r with
      | x::_=>K x Γ
      | []=>False
     | false,_=>False
    | false=>False
   | none=>False
  | _,_=>False
 | .indexAddr t x i=>gB T x fun a=>gB T i fun j=>match (tt t).cq with
  | .sl e=>match a with
   | .ms t=>uh tt e (e8 (tt e).size t j Γ fun p=>K p Γ)
   | a=>uh tt e (dr (tt e).size a j fun p=>K p Γ)
  | .arr n e=>uh tt e (j4 n (tt e).size a j fun p=>K p Γ)
  | _=>False
 | .index t x i=>gB T x fun a=>gB T i fun j=>match (tt t).cq,a with
  | .str,.str s=>j5 s j fun p=>K p Γ
  | .arr n e,.agg cs=>uh tt e (j3 n (tt e).size (tt e).cq.agg cs j fun p=>K p Γ)
  | _,_=>False
 | .extract t i=>gB T t fun p=>match p with
  | .bp xs=>match DB xs i with
   | some x=>K x Γ
   | none=>False
  | _=>False
 | .call c=>xq P tt T c Γ K
 | _=>False
def jF:List Oper→Nat→Option Nat
 | [],_=>none
 | o::_,0=>o.dst
 | _::l,n + 1=>jF l n
inductive DI where
 | call (f:FuncId) (asx:List PV)
 | mark (b:Nat)
abbrev Ds:=List DI
def pQ (P:Program) (tt:Nat→TI) (op:Op) (dst:Option Nat) (T:List PV) (Γ:List aj) (D:Ds) (K:List PV→List aj→Ds→Prop):Prop:=
 match op with
 | .defer c=>match c.callee with
  | .value f=>gB T f fun g=>match g with
   | .fn (.func f) cap=>zb T c.args.toList fun asx=>uK asx cap fun as'=>nr T dst .any fun T'=>K T' Γ (.call f as'::D)
   | _=>False
  | _=>False
 | op=>pI P tt op T Γ fun x Γ'=>nr T dst x fun T'=>K T' Γ' D
inductive aX:List PV→List PV→Prop
 | nil:aX [] []
 | cons {x y:PV} {xs ys:List PV}:Wk x y→aX xs ys→aX (x::xs) (y::ys)
structure AN (q:Bool) (K:Prop):Prop where
 h:q=true∧K
def nL (T:List PV):List Operand→(List PV→Prop)→Prop
 | [],k=>k T
 | .tmp t::r,k=>zi T t fun p=>match p with
  | .opt q x=>AN q (w5 T t x fun T'=>nL T' r k)
  | _=>nL T r k
 | _::r,k=>nL T r k
def Shift (x:PV) (Γ:List aj) (y:PV) (Γ':List aj):Prop:=
 ∀ w0 F M w v,aP w0 F (Γ++M) w→aC F x v→ ∃ F',F.le F'∧aP w0 F' (Γ'++M) w∧aC F' y v
theorem Shift.same {x:PV} {Γ:List aj}:Shift x Γ x Γ:=fun _ F _ _ _ hS hx=>⟨F,Fz.le_refl F,hS,hx⟩
structure bB (x:PV) (Γ:List aj) (y:PV) (Γ':List aj):Prop where
 h:Shift x Γ y Γ'
theorem bB.same {x:PV} {Γ:List aj}:bB x Γ x Γ:=⟨Shift.same⟩
structure eO (g:Bool) (E:PV→Prop) (A B:Prop) (L:PV→Prop):Prop where
 h:(kR g A B)∨ ∃ x,(g=true→E x)∧L (.opt g x)
def guardOf (y:PV) (want:Bool):Option Bool:=
 match y,want with
 | .bool p,true=>some p
 | .bool p,false=>some (!p)
 | .opt q (.bool p),true=>some (q && p)
 | .opt q (.bool p),false=>some (q && !p)
 | .opt q .aV,true=>some q
 | .opt q .bfalse,false=>some q
 | _,_=>none
def GL {q:Sort _} (T:List PV) (d:Nat) (y:PV) (want:Bool) (k:List PV→q):q:=
 match y,want with
 | .bool _,true=>w5 T d .bfalse k
 | .bool _,false=>w5 T d .aV k
 | _,_=>k T
def OI {q:Sort _} (T:List PV) (d:Nat) (want:Bool) (k:List PV→q):q:=
 match want with
 | true=>w5 T d .aV k
 | false=>w5 T d .bfalse k
theorem Aj {q:Sort _} (T:List PV) (d:Nat) (y:PV) (want:Bool) (k:List PV→q):GL T d y want k=k (GL T d y want id):=by
 unfold GL
 split<;>simp[fu]
theorem DG {q:Sort _} (T:List PV) (d:Nat) (want:Bool) (k:List PV→q):OI T d want k=k (OI T d want id):=by
 unfold OI
 split<;>simp[fu]
def sC:Op→List Operand
 | .pick c _ _=> [c]
 | op=>op.operands.toList
inductive GM where
 | run
 | skip
 | opt (g:Bool)
 | bad
def Bw (y:PV) (want:Bool):GM:=
 match y,want with
 | .aV,true=>.run
 | .bfalse,false=>.run
 | .bp [],_=>.skip
 | .aV,false=>.skip
 | .bfalse,true=>.skip
 | .opt _ .aV,false=>.skip
 | .opt _ .bfalse,true=>.skip
 | y,want=>match guardOf y want with
  | none=>.bad
  | some g=>.opt g
theorem dW: ∀ (l:List Operand) (T:List PV) {k k':List PV→Prop},(∀ T,k T→k' T)→nL T l k→nL T l k'
 | [],T,_,_,hk,h=>hk T h
 | .tmp t::r,T,k,k',hk,h=>by
  simp only[nL,eg] at h⊢
  split
  ·rename_i q x hq
   rw[hq] at h;obtain ⟨h1,h2⟩:=h.h;rw[fu] at h2;exact ⟨h1,by rw[fu];exact dW r _ hk h2⟩
  ·rename_i hq
   split at h
   ·rename_i q x hx;exact (hq q x hx).elim
   ·exact dW r T hk h
 | .const _::r,T,_,_,hk,h=>dW r T hk h
 | .global _::r,T,_,_,hk,h=>dW r T hk h
 | .func _::r,T,_,_,hk,h=>dW r T hk h
def zl (P:Program) (tt:Nat→TI) (o:Oper) (T:List PV) (Γ:List aj) (D:Ds) (d:Nat) (y:PV) (want:Bool) (K:List PV→List aj→Ds→Prop):Prop:=
 match guardOf y want with
 | none=>False
 | some g=>eO g (fun x=>nL T (sC o.op) fun T'=>pI P tt o.op T' Γ fun z Γ'=>bB z Γ' x Γ)
  (OI T d want fun T=>nL T (sC o.op) fun T=>pQ P tt o.op o.dst T Γ D K)
  (GL T d y want fun T=>nr T o.dst (.bp []) fun T'=>K T' Γ D)
  (fun z=>nr T o.dst z fun T'=>K T' Γ D)
def bN (P:Program) (tt:Nat→TI) (full:List Oper):List Oper→List PV→List aj→Ds→(List PV→List aj→Ds→Prop)→Prop
 | [],T,Γ,D,K=>K T Γ D
 | o::r,T,Γ,D,K=>
  match o.guard with
  | none=>pQ P tt o.op o.dst T Γ D fun T' Γ' D'=>bN P tt full r T' Γ' D' K
  | some (j,want)=>match jF full j with
   | none=>False
   | some d=>zi T d fun y=>match y,want with
    | .aV,true=>nL T (sC o.op) fun T=>pQ P tt o.op o.dst T Γ D fun T' Γ' D'=>bN P tt full r T' Γ' D' K
    | .bfalse,false=>nL T (sC o.op) fun T=>pQ P tt o.op o.dst T Γ D fun T' Γ' D'=>bN P tt full r T' Γ' D' K
    | .bp [],_=>nr T o.dst (.bp []) fun T'=>bN P tt full r T' Γ D K
    | .aV,false=>nr T o.dst (.bp []) fun T'=>bN P tt full r T' Γ D K
    | .bfalse,true=>nr T o.dst (.bp []) fun T'=>bN P tt full r T' Γ D K
    | .opt _ .aV,false=>nr T o.dst (.bp []) fun T'=>bN P tt full r T' Γ D K
    | .opt _ .bfalse,true=>nr T o.dst (.bp []) fun T'=>bN P tt full r T' Γ D K
    | y,want=>zl P tt o T Γ D d y want (fun T' Γ' D'=>bN P tt full r T' Γ' D' K)
def au (Γ Γ':List aj):Prop:= ∀ w0 F M w,aP w0 F (Γ++M) w→ ∃ F',F.le F'∧aP w0 F' (Γ'++M) w
def dh (T:List PV) (Γ:List aj) (T':List PV) (Γ':List aj):Prop:=
 ∀ w0 F M w vs,aP w0 F (Γ++M) w→aA F T vs→ ∃ F',F.le F'∧aP w0 F' (Γ'++M) w∧aA F' T' vs
abbrev QT:=Exit→List PV→List aj→Ds→Prop
structure ax (B:List PV→List aj→Ds→QT→Prop) (T:List PV) (Γ:List aj) (D:Ds) (Q:QT):Prop where
 h: ∃ (I J:Nat→List PV→List aj→Prop),(∃ n T0 Γ0,dh T Γ T0 Γ0∧I n T0 Γ0)∧
  (∀ n T Γ,I n T Γ→B T Γ D fun e T' Γ' D'=>match e with
   | .normal=>D'=D∧ ∃ m T0 Γ0,m < n∧dh T' Γ' T0 Γ0∧I m T0 Γ0
   | .exit j=>Q (.exit j) T' Γ' D'∨(D'=D∧ ∃ T0 Γ0,dh T' Γ' T0 Γ0∧J j T0 Γ0)
   | e=>Q e T' Γ' D')∧ ∀ j T Γ,J j T Γ→Q (.exit j) T Γ D
structure aE (P:Program) (ops:Array Oper) (T:List PV) (Γ:List aj) (K:List PV→List aj→Prop):Prop where
 h: ∀ (rd:Option Nat) (nn id:Nat) (w0:World) (F:Fz) (M:List aj) (w:World) (a:Act) (Q':Exit→Act→World→Prop),aP w0 F (Γ++M) w→aA F T a.tmps.toList→
  (∀ F' T' Γ' a' w',F.le F'→aP w0 F' (Γ'++M) w'→aA F' T' a'.tmps.toList→a'.defers=a.defers→K T' Γ'→Q' .normal a' w')→
  (Code.region id ops true).wpIn (cX rd) nn P Q' a w
structure od (ds:List Nat) (Wa Wb:List PV→List aj→Ds→QT→Prop) (T:List PV) (Γ:List aj) (D:Ds) (Q:QT):Prop where
 h: ∃ J:List PV→List aj→Prop,(Wa T Γ D fun e T' Γ' D'=>match e with
   | .normal=>Wb T' Γ' D' Q∨(D'=D∧ ∃ T0 Γ0,dh T' Γ' T0 Γ0∧J T0 Γ0)
   | e=>Q e T' Γ' D')∧ ∀ T Γ,J T Γ→Wb T Γ D Q
def xH:Code→Bool
 | .ret=>true
 | .exit _=>true
 | .seq a b=>match xH a with
  | true=>true
  | false=>xH b
 | .cond _ a b=>match xH a with
  | true=>xH b
  | false=>false
 | _=>false
def AU:List Oper→Bool
 | []=>false
 | o::l=>match o.guard with
  | some _=>true
  | none=>AU l
def lS:Code→Bool
 | .region _ ops draw=>match draw with
  | true=>false
  | false=>AU ops.toList
 | .seq a b=>match lS a with
  | true=>true
  | false=>lS b
 | .cond _ a b=>match xH a,xH b with
  | false,false=>true
  | _,_=>match lS a with
   | true=>true
   | false=>lS b
 | .block _ a=>lS a
 | .scope a=>lS a
 | _=>false
def It:List Oper→List Nat→List Nat
 | [],k=>k
 | o::l,k=>match o.dst with
  | some d=>d::It l k
  | none=>It l k
def sr:Code→List Nat→List Nat
 | .region _ ops _,k=>It ops.toList k
 | .seq a b,k=>sr a (sr b k)
 | .cond _ a b,k=>sr a (sr b k)
 | .block _ a,k=>sr a k
 | .scope a,k=>sr a k
 | .loop a,k=>sr a k
 | _,k=>k
def PJ (Wb:List PV→List aj→Ds→QT→Prop) (Q:QT):QT:=fun e T' Γ' D'=>match e with
 | .normal=>Wb T' Γ' D' Q
 | e=>Q e T' Γ' D'
def CQ (id:Nat) (Q:QT):QT:=fun e T' Γ' D'=>match e with
 | .exit j=>match Nat.beq j id with
  | true=>Q .normal T' Γ' D'
  | false=>Q (.exit j) T' Γ' D'
 | e=>Q e T' Γ' D'
def Oa (Q:QT):QT:=fun e T' Γ' D'=>match e with
 | .goto _=>False
 | e=>Q e T' Γ' D'
def Cv (N:List PV→List aj→Ds→Prop) (Q:QT):QT:=fun e T' Γ' D'=>match e with
 | .normal=>N T' Γ' D'
 | e=>Q e T' Γ' D'
def MW (N:List PV→List aj→Ds→Prop) (j0:Nat) (X:List PV→List aj→Ds→Prop) (Q:QT):QT:=fun e T' Γ' D'=>match e with
 | .normal=>N T' Γ' D'
 | .exit j=>match Nat.beq j j0 with
  | true=>X T' Γ' D'
  | false=>Q (.exit j) T' Γ' D'
 | e=>Q e T' Γ' D'
def nu:List Oper→Bool
 | []=>true
 | o::l=>match o.op with
  | .defer _=>false
  | _=>nu l
def dn:Code→Bool
 | .region _ ops _=>nu ops.toList
 | .seq a b=>match dn a with
  | true=>dn b
  | false=>false
 | .cond _ a b=>match dn a with
  | true=>dn b
  | false=>false
 | .block _ a=>dn a
 | .scope a=>dn a
 | .loop a=>dn a
 | .rangeFunc _ _ _ _=>false
 | _=>true
def qI {q:Sort _}:List PV→List Nat→List PV→(List PV→q)→q
 | T,d::ds,x::xs,k=>w5 T d x fun T'=>qI T' ds xs k
 | T,_,_,k=>k T
def kK:Obj:=.deferred (some [])
def DQ (j:Nat) (J:Nat→List aj→Prop) (X:Exit→List aj→Prop):QT:=fun e T Γ D=>match e with
 | .normal=>D= []∧ ∃ T0 Γ0,dh T Γ T0 Γ0∧J (j + 1) Γ0
 | .exit i=>D= []∧ ∃ T0 Γ0,dh T Γ T0 Γ0∧X (.exit i) Γ0
 | .ret=>D= []∧ ∃ T0 Γ0,dh T Γ T0 Γ0∧X .ret Γ0
 | _=>False
def En (WB:List PV→List aj→Ds→QT→Prop) (Q:QT):QT:=fun e T Γ D=>match e with
 | .normal=>D= []∧WB T Γ [] Q
 | _=>False
structure PRange (P:Program) (f:FuncId) (cap:List PV) (ps:List Nat) (WA WB:List PV→List aj→Ds→QT→Prop) (nd:Bool) (T:List PV) (Γ:List aj) (D:Ds) (Q:QT):Prop where
 h:nd=true∧ ∃ (Γ0 Γi:List aj) (xs:List (List PV)) (J:Nat→List aj→Prop) (X:Exit→List aj→Prop),
  (∃ T0,dh T Γ T0 (Γ0++Γi))∧Ee P f cap Γi xs∧J 0 Γ0∧(∀ asx∈xs,asx.length=ps.length)∧
  (∀ k asx Γ,xs[k]?=some asx→J k Γ→qI T ps asx fun T0=>WA T0 Γ [] (En WB (DQ k J X)))∧
  (∀ b Γ',J xs.length Γ'→Q .normal T (.ob b kK [] []::Γ') (.mark b::D))∧
  ∀ b e Γ',X e Γ'→Q e T (.ob b kK [] []::Γ') (.mark b::D)
def Ei (F:Fz):DI→Deferred→Prop
 | .call f asx,d=> ∃ vs cap:List Value,d={ target:=.fn (.func f) cap.toArray,args:=vs.toArray }∧aA F asx (vs++cap)
 | .mark b,d=>d={ target:=.collected b,args:= #[]}
def sU (F:Fz):Ds→List Deferred→Prop
 | [], []=>True
 | x::D,d::l=>Ei F x d∧sU F D l
 | _,_=>False
def jX (F:Fz) (D:Ds) (ds l:List Deferred):Prop:= ∃ new,l=new++ds∧sU F D new
def KT (w0:World) (F0:Fz) (M:List aj) (ds:List Deferred) (Q:QT):Exit→Act→World→Prop:=fun e a' w'=>
 (match e with | .normal=>True | .exit _=>True | .ret=>True | .goto _=>True | _=>False)∧
 ∃ F' T' Γ' D',F0.le F'∧aP w0 F' (Γ'++M) w'∧aA F' T' a'.tmps.toList∧jX F' D' ds a'.defers∧Q e T' Γ' D'
def OY (P:Program) (c:Code) (T:List PV) (Γ:List aj) (D:Ds) (Q:QT):Prop:= ∀ (w0:World) (F:Fz) (M:List aj) (w:World) (a:Act) (ds:List Deferred),
 aP w0 F (Γ++M) w→aA F T a.tmps.toList→jX F D ds a.defers→ ∀ (rd:Option Nat) (nn:Nat),(rd=none∨dn c=true)→c.wpIn (cX rd) nn P (KT w0 F M ds Q) a w
def oE:Code→Bool
 | .goto _=>true
 | .seq a b=>match oE a with
  | true=>true
  | false=>oE b
 | .cond _ a b=>match oE a with
  | true=>true
  | false=>oE b
 | .block _ a=>oE a
 | .scope a=>oE a
 | .loop a=>oE a
 | .rangeFunc _ _ a b=>match oE a with
  | true=>true
  | false=>oE b
 | _=>false
def sA (l:Nat) (D:Ds) (X:List PV→List aj→Prop) (Q:QT):QT:=fun e T' Γ' D'=>match e with
 | .goto j=>j=l∧D'=D∧X T' Γ'
 | e=>Q e T' Γ' D'
structure CJ (P:Program) (c:Code) (B:List PV→List aj→Ds→QT→Prop) (T:List PV) (Γ:List aj) (D:Ds) (Q:QT):Prop where
 h: ∃ (l:Nat) (rest:Code) (J:Nat→List PV→List aj→Prop),findLabel c l=some rest∧dn rest=true∧B T Γ D (sA l D (fun T Γ=> ∃ m T0 Γ0,dh T Γ T0 Γ0∧J m T0 Γ0) Q)∧
  ∀ m T Γ,J m T Γ→OY P rest T Γ D (sA l D (fun T Γ=> ∃ k T0 Γ0,k < m∧dh T Γ T0 Γ0∧J k T0 Γ0) Q)
def W (P:Program) (tt:Nat→TI):Code→List PV→List aj→Ds→QT→Prop
 | .skip,T,Γ,D,Q=>Q .normal T Γ D
 | .label _,T,Γ,D,Q=>Q .normal T Γ D
 | .ret,T,Γ,D,Q=>Q .ret T Γ D
 | .goto l,T,Γ,D,Q=>Q (.goto l) T Γ D
 | .exit id,T,Γ,D,Q=>Q (.exit id) T Γ D
 | .seq a b,T,Γ,D,Q=>match lS a with
  | false=>W P tt a T Γ D (PJ (W P tt b) Q)
  | true=>od (sr a []) (W P tt a) (W P tt b) T Γ D Q
 | .cond c a b,T,Γ,D,Q=>gB T c fun p=>match p with
  | .aV=>W P tt a T Γ D Q
  | .bfalse=>W P tt b T Γ D Q
  | .bool p=>kR p (W P tt a T Γ D Q) (W P tt b T Γ D Q)
  | _=>False
 | .block id c,T,Γ,D,Q=>W P tt c T Γ D (CQ id Q)
 | .scope c,T,Γ,D,Q=>match oE c with
  | false=>W P tt c T Γ D (Oa Q)
  | true=>CJ P c (W P tt c) T Γ D Q
 | .loop c,T,Γ,D,Q=>ax (W P tt c) T Γ D Q
 | .region _ ops draw,T,Γ,D,Q=>match draw with
  | false=>bN P tt ops.toList ops.toList T Γ D fun T' Γ' D'=>Q .normal T' Γ' D'
  | true=>aE P ops T Γ fun T' Γ'=>Q .normal T' Γ' D
 | .rangeFunc g ps x y,T,Γ,D,Q=>gB T g fun gv=>match gv with
  | .fn (.func f) cap=>PRange P f cap ps.toList (W P tt x) (W P tt y) (match dn x with
   | true=>dn y
   | false=>false) T Γ D Q
  | _=>False
 | _,_,_,_,_=>False
theorem aA.length {F:Fz}: ∀ {cs:List PV} {vs:List Value},aA F cs vs→cs.length=vs.length
 | [], [],_=>rfl
 | [],_::_,h=>by simp only[aA] at h
 | _::_, [],h=>by simp only[aA] at h
 | c::cs,v::vs,h=>by simp only[aA] at h;simp[aA.length h.2]
theorem aA.get {F:Fz}: ∀ {cs:List PV} {vs:List Value} (_:aA F cs vs) (i:Nat),aC F (cs.getD i .any) (vs.getD i undef)
 | [], [],_,_=>by simp[aC]
 | [],_::_,h,_=>by simp only[aA] at h
 | _::_, [],h,_=>by simp only[aA] at h
 | c::cs,v::vs,h,0=>by simp only[aA] at h;simpa using h.1
 | c::cs,v::vs,h,i + 1=>by simp only[aA] at h;simpa using aA.get h.2 i
theorem aA.set {F:Fz} {x:PV} {v:Value} (hx:aC F x v): ∀ {cs:List PV} {vs:List Value} (_:aA F cs vs) (i:Nat),aA F (cs.set i x) (vs.set i v)
 | [], [],_,_=>by simp[aA]
 | [],_::_,h,_=>by simp only[aA] at h
 | _::_, [],h,_=>by simp only[aA] at h
 | c::cs,u::vs,h,0=>by simp only[aA] at h;simp only[List.set_cons_zero,aA];exact ⟨hx,h.2⟩
 | c::cs,u::vs,h,i + 1=>by simp only[aA] at h;simp only[List.set_cons_succ,aA];exact ⟨h.1,aA.set hx h.2 i⟩
theorem j6 {F:Fz}: ∀ {cs ds:List PV} {vs us:List Value},aA F cs vs→aA F ds us→aA F (cs++ds) (vs++us)
 | [],_, [],_,_,h=>h
 | [],_,_::_,_,h,_=>by simp only[aA] at h
 | _::_,_, [],_,h,_=>by simp only[aA] at h
 | c::cs,ds,v::vs,us,h,k=>by
  simp only[aA] at h;simp only[List.cons_append,aA];exact ⟨h.1,j6 h.2 k⟩
theorem qD (F:Fz) (v:Value):aC F (PV.fN v) v:=by
 unfold PV.fN
 split<;>first | (simp[aC,Value.oneCell'];done) | skip
 split
 ·rename_i h;have h:=Nat.le_of_ble_eq_true h;simp only[aC];exact ⟨trivial,by omega⟩
 ·simp only[aC]
theorem Ca (F:Fz): ∀ l:List Value,BZ l=true→aQ F (l.map PV.fN) l
 | [],_=>by simp only[List.map_nil,aQ]
 | v::l,h=>by
  rw[BZ] at h
  split at h
  ·rename_i h1
   simp only[List.map_cons,aQ];exact ⟨⟨h1,qD F v⟩,Ca F l h⟩
  ·cases h
theorem B9 (F:Fz) (v:Value):aC F (PV.ofValue v) v:=by
 unfold PV.ofValue
 split
 ·rename_i vs
  split
  ·rename_i h
   simp only[aC];exact ⟨vs.toList,by simp,Ca F _ h⟩
  ·simp only[aC]
 ·exact qD F v
theorem aL {F:Fz} {T:List PV} {a:Act} (h:aA F T a.tmps.toList) (x:Operand):aC F (ev T x) (a.eval x):=by
 cases x with
 | tmp t=>
  have:=h.get t;simp only[ev,gB,eg,id,Act.eval];rw[Array.getD_eq_getD_getElem?];simpa[List.getD] using this
 | const v=>simpa[ev,gB,xw,Act.eval] using B9 F v
 | global g=>simp[ev,gB,Act.eval,aC]
 | func f=>simp[ev,gB,Act.eval,aC,aA]
theorem nT {F:Fz} {T:List PV} {a:Act} (h:aA F T a.tmps.toList): ∀ l:List Operand,aA F (l.map (ev T)) (l.map a.eval)
 | []=>by simp[aA]
 | x::l=>by simp only[List.map_cons,aA];exact ⟨aL h x,nT h l⟩
theorem eG {F:Fz} {T:List PV} {a:Act} (h:aA F T a.tmps.toList) {x:PV} {v:Value} (hx:aC F x v) (d:Option Tmp):
  aA F (match d with | none=>T | some d=>T.set d x) (a.put d v).tmps.toList:=by
 cases d with
 | none=>simpa[Act.put] using h
 | some d=>simpa[Act.put] using h.set hx d
theorem put_defers (a:Act) (d:Option Tmp) (v:Value):(a.put d v).defers=a.defers:=by cases d<;>rfl
theorem dx {q:Sort _} (T:List PV) (d:Option Nat) (x:PV) (k:List PV→q):nr T d x k=k (match d with | none=>T | some d=>T.set d x):=by
 cases d<;>simp[nr,fu]
def Nx (w0:World) (M:List aj) (F:Fz) (dst:Option Tmp) (a:Act) (next:Act→World→Prop) (K:PV→List aj→Prop):Prop:=
 ∀ F' x Γ' v w',F.le F'→aP w0 F' (Γ'++M) w'→aC F' x v→K x Γ'→next (a.put dst v) w'
section
variable {P:Program} {o:Oper} {a:Act} {rd:Option Nat} {nn:Nat} {next:Act→World→Prop} {Q:Exit→Act→World→Prop} {w w':World}
theorem qF {F:Fence} {x:Next} (h:(execOp a.eval o).run P w=.ok x w') (hx: ∀ d,x≠.defer d):(o.semAt F.round a.eval).run P w=.ok x w':=by
 rw[Oper.semAt_eq]
 ·exact h
 ·intro c hc
  rw[execOp,hc] at h;simp only[Sem.run_bind] at h
  cases hr:(resolve a.eval c o.type).run P w with
  | ok d w2=>
   rw[hr] at h;simp only[Result.andThen,Sem.run_pure,Result.ok.injEq] at h;exact hx d h.1.symm
  | halt x w2=>rw[hr] at h;cases h
theorem aU {v:Value} (h:(execOp a.eval o).run P w=.ok (.value v) w') (hn:next (a.put o.dst v) w'):o.wpIn (cX rd) nn P a w next Q:=by
 refine ⟨fun _ _=>trivial,?_⟩;rw[qF h (by simp)];exact hn
theorem qK (h:(execOp a.eval o).run P w=.ok .skip w') (hn:next (a.put o.dst undef) w'):o.wpIn (cX rd) nn P a w next Q:=by
 refine ⟨fun _ _=>trivial,?_⟩;rw[qF h (by simp)];exact hn
theorem Cy {f:FuncId} {args:Array Value} (h:(execOp a.eval o).run P w=.ok (.enter f args) w')
  (hn:Calls P f args w' fun e w''=> ∃ v,e=.returned v∧next (a.put o.dst v) w''):o.wpIn (cX rd) nn P a w next Q:=by
 refine ⟨fun _ _=>trivial,?_⟩;rw[qF h (by simp)];refine ⟨fun h=>by simp[cX,Fence.wide] at h,?_⟩;have h2:CallsIn (cX rd) (nn - 1) P f args w' fun e w''=> ∃ v,e=.returned v∧next (a.put o.dst v) w'':=(callsIn_wide (n:=nn - 1)).2 hn;refine h2.mono ?_;rintro e w'' ⟨v,rfl,h⟩;exact h
theorem KF {l:Nat} {f:FuncId} {tmps:Array Value} {assign body:Code} (h:(execOp a.eval o).run P w=.ok (.round l f tmps assign body) w')
  (hn:RoundIn Fence.wide 0 P l f tmps assign body w' fun e w''=> ∃ v,e=.returned v∧next (a.put o.dst v) w''):o.wpIn (cX rd) nn P a w next Q:=by
 refine ⟨fun _ _=>trivial,?_⟩;rw[qF h (by simp)];refine ⟨fun h=>by simp[cX,Fence.wide] at h,?_⟩
 have h2:RoundIn (cX rd) (nn - 1) P l f tmps assign body w' fun e w''=> ∃ v,e=.returned v∧next (a.put o.dst v) w'':=⟨trivial,fun c cs _=>hn.2 c cs (room_wide _)⟩
 refine h2.mono ?_;rintro e w'' ⟨v,rfl,h⟩;exact h
end
theorem cQ {F:Fz} {b:Bool} {v:Value} (h:aC F (.bool b) v):v=.bool b:=by simpa only[aC] using h
theorem bK {F:Fz} {v:Value} (h:aC F .aV v):v=.bool true:=by simpa only[aC] using h
theorem bw {F:Fz} {v:Value} (h:aC F .bfalse v):v=.bool false:=by simpa only[aC] using h
theorem bV {F:Fz} {k:IntKind} {n:Int} {v:Value} (h:aC F (.int k n) v):v=.int k n:=by simpa only[aC] using h
theorem jr {F:Fz} {s:List UInt8} {v:Value} (h:aC F (.str s) v):v=.string ⟨s.toArray⟩:=by simp only[aC] at h;exact h.1
theorem mm {F:Fz} {s:List UInt8} {v:Value} (h:aC F (.str s) v):s.length≤9223372036854775807:=by simp only[aC] at h;exact h.2
theorem iL {F:Fz} {b o:Nat} {v:Value} (h:aC F (.ptr b o) v):v=.pointer (some ⟨b,o,none⟩):=by simpa only[aC] using h
theorem mj {F:Fz} {v:Value} (h:aC F .np v):v=.pointer none:=by simpa only[aC] using h
theorem kA {F:Fz} {v:Value} (h:aC F .nil v):v=.slice none 0 0:=by simpa only[aC] using h
theorem uy {F:Fz} {cs:List PV} {v:Value} (h:aC F (.agg cs) v): ∃ vs:List Value,v=.agg vs.toArray∧aQ F cs vs:=by simpa only[aC] using h
theorem Ar {F:Fz} {cs:List PV} {v:Value} (h:aC F (.bp cs) v): ∃ vs:List Value,v=.tuple vs.toArray∧aA F cs vs:=by simpa only[aC] using h
theorem rR {F:Fz} {f:Fn} {cs:List PV} {v:Value} (h:aC F (.fn f cs) v): ∃ vs:List Value,v=.func f #[] vs.toArray∧aA F cs vs:=by simpa only[aC] using h
theorem pe {F:Fz} {cs:List PV} {v:Value} (h:aC F (.ep cs) v): ∃ b o,v=.pointer (some ⟨b,o,none⟩)∧bT F b o cs:=by simpa only[aC] using h
theorem n4 {F:Fz} {x:PV} {v:Value} (h:aC F x v) (hc:x.cB=true):aQ F x.cellsOf v.cells.toList:=by
 have one: ∀ {y:PV} {u:Value},aC F y u→y.cellsOf= [y]→u.oneCell'=true→aQ F y.cellsOf u.cells.toList:=by
  intro y u hy e hu;rw[e]
  have:u.cells= #[u]:=by cases u<;>first | rfl | (simp[Value.oneCell'] at hu)
  rw[this];exact cg.2 ⟨⟨hu,hy⟩,cG F⟩
 cases x with
 | agg cs=>
  obtain ⟨vs,rfl,h'⟩:=uy h;simpa[PV.cellsOf,Value.cells] using h'
 | any=>simp[PV.cB] at hc
 | bp cs=>simp[PV.cB] at hc
 | opt q x=>simp[PV.cB] at hc
 | int k n=>exact one h rfl (by rw[bV h];rfl)
 | bool b=>exact one h rfl (by rw[cQ h];rfl)
 | aV=>exact one h rfl (by rw[bK h];rfl)
 | bfalse=>exact one h rfl (by rw[bw h];rfl)
 | str s=>exact one h rfl (by rw[jr h];rfl)
 | ptr b q=>exact one h rfl (by rw[iL h];rfl)
 | nil=>exact one h rfl (by rw[kA h];rfl)
 | np=>exact one h rfl (by rw[mj h];rfl)
 | sc u=>exact one h rfl (by simp only[aC] at h;rw[h.1];exact h.2)
 | fn f cs=>exact one h rfl (by obtain ⟨vs,rfl,_⟩:=rR h;rfl)
 | ep cs=>exact one h rfl (by obtain ⟨b,q,rfl,_⟩:=pe h;rfl)
 | mp r=>exact one h rfl (by simp only[aC] at h;rw[h];rfl)
 | ri=>exact one h rfl (by simp only[aC] at h;obtain ⟨d,x,rfl⟩:=h;rfl)
 | ms t=>exact one h rfl (by simp only[aC] at h;rw[h.1];exact h.2)
 | rp t i q=>exact one h rfl (by simp only[aC] at h;obtain ⟨g,_,rfl⟩:=h;rfl)
 | fm f x=>exact one h rfl (by simp only[aC] at h;obtain ⟨u,rfl,_⟩:=h;rfl)
 | sl s es tk=>
  refine one h rfl ?_;simp only[aC] at h;rcases h.2 with ⟨rfl,_⟩ | ⟨b,q,c,rfl,_⟩ | ⟨_,_,a,rfl⟩<;>rfl
theorem TD.n8 {P:Program} {t:TypeId} {d:TD} (h:d.ok P t) (hne:d≠.other): ∃ desc,P.underlying t=some desc∧sW desc=d.agg:=by
 cases d<;>simp only[TD.ok] at h
 case st fs=>obtain ⟨f,h,_⟩:=h;exact ⟨_,h,rfl⟩
 case fn=>obtain ⟨_,_,_,h⟩:=h;exact ⟨_,h,rfl⟩
 case ri=>obtain ⟨_,h⟩:=h;exact ⟨_,h,rfl⟩
 case other=>exact absurd rfl hne
 all_goals exact ⟨_,h,rfl⟩
theorem lD {P:Program} {t:TypeId} {d:TypeDesc} (h:P.underlying t=some d) (w:World):(isAgg t).run P w=.ok (sW d) w:=by
 cases d<;>simp[isAgg,run_underlying h,sW]
theorem run_sizeOf {P:Program} {t:TypeId} {i:TypeInfo} (h:P.info? t=some i) (w:World):(sizeOf t).run P w=.ok i.size w:=by
 simp[sizeOf,typeInfo,h]
theorem nw {P:Program} {t:TypeId} {d:TypeDesc} {i:TypeInfo} {w:World} {ad:Addr} {vs:List Value} (h:P.underlying t=some d) (hi:P.info? t=some i)
  (hv: ∀ j v,vs[j]?=some v→w.cell? (ad.add j)=some v) (hl:vs.length=i.size) (h0:0 < i.size):
  (loadVar t ad).run P w=.ok (if sW d then .agg vs.toArray else vs.headD undef) w:=by
 unfold loadVar;rw[Sem.run_bind,lD h];simp only[Result.andThen_ok]
 cases hd:sW d with
 | true=>
  simp only[if_true,Sem.run_bind,run_sizeOf hi,Result.andThen_ok, ←hl,run_loadCells_list w ad vs hv,Sem.run_pure]
 | false=>
  cases vs with
  | nil=>simp at hl;omega
  | cons v vs=>
   have:=hv 0 v rfl;simp only[Addr.add_zero'] at this;simp[this]
section
variable {P:Program} {tt:Nat→TI} {o:Oper} {a:Act} {T:List PV} {Γ M:List aj} {K:PV→List aj→Prop} {w0 w:World} {F:Fz}
 {rd:Option Nat} {nn:Nat} {next:Act→World→Prop} {Q:Exit→Act→World→Prop}
theorem JY (hS:aP w0 F (Γ++M) w) (hT:aA F T a.tmps.toList) (hn:Nx w0 M F o.dst a next K) {x:Operand} (hop:o.op=.move x∨o.op=.assign x)
  (h:K (ev T x) Γ):o.wpIn (cX rd) nn P a w next Q:=by
 refine aU (v:=a.eval x) (w':=w) (by rcases hop with hop | hop<;>simp[execOp,hop]) ?_;exact hn F _ Γ _ w (Fz.le_refl F) hS (aL hT x) h
theorem JZ (hS:aP w0 F (Γ++M) w) (hT:aA F T a.tmps.toList) (hn:Nx w0 M F o.dst a next K) {c x y:Operand} (hop:o.op=.pick c x y)
  (b:Bool) (hb:a.eval c=.bool b) (h:K (ev T (if b then x else y)) Γ):o.wpIn (cX rd) nn P a w next Q:=by
 refine aU (v:=a.eval (if b then x else y)) (w':=w) (by cases b<;>simp[execOp,hop,hb,asBool]) ?_;exact hn F _ Γ _ w (Fz.le_refl F) hS (aL hT _) h
theorem L9 (hS:aP w0 F (Γ++M) w) (hT:aA F T a.tmps.toList) (hn:Nx w0 M F o.dst a next K) {c x y:Operand} (hop:o.op=.pick c x y)
  (b:Bool) (hb:a.eval c=.bool b) (h:vT b (ev T x) (ev T y) fun z=>K z Γ):o.wpIn (cX rd) nn P a w next Q:=by
 obtain ⟨z,h1,h2⟩:=DL h (aL hT x) (aL hT y);refine aU (v:=if b then a.eval x else a.eval y) (w':=w) (by cases b<;>simp[execOp,hop,hb,asBool]) ?_;exact hn F _ Γ _ w (Fz.le_refl F) hS h1 h2
theorem oI (w:World) (e:TypeId) (cs:Array Value):(newRow e cs).run P w=.ok ⟨w.heap.size,0,none⟩ (w.alloc (.cells cs e)):=rfl
theorem L0 (hk:TT.ok P tt) (hS:aP w0 F (Γ++M) w) (hn:Nx w0 M F o.dst a next K) {t:TypeId} (hop:o.op=.alloc t) (hne:(tt t).cq≠.other)
  (h: ∀ b,K (.ptr b 0) (.box b (zeroOf (tt t))::Γ)):o.wpIn (cX rd) nn P a w next Q:=by
 obtain ⟨⟨i,z,hi,h1,h2,hz,hzc,h3⟩,_⟩:=hk.get rfl hne;refine aU (v:=.pointer (some ⟨w.heap.size,0,none⟩)) (w':=w.alloc (.cells z.cells t)) (by simp[execOp,hop,Instr.alloc,zeroValue,typeInfo,hi,hz,newVar,oI]) ?_;refine hn F (.ptr w.heap.size 0) _ _ _ (Fz.le_refl F) ?_ (by simp[aC]) (h _);have:=hS.box (cs:=zeroOf (tt t)) (vs:=z.cells.toList) (by rw[hzc];exact ZK.o9 F _) t;simpa using this
theorem PG (hS:aP w0 F (Γ++M) w) (hT:aA F T a.tmps.toList) (hn:Nx w0 M F o.dst a next K) {t:TypeId} {x:Operand} (hop:o.op=.box t x)
  (hc:(ev T x).cB=true) (h: ∀ b,K (.ptr b 0) (.box b (ev T x).cellsOf::Γ)):o.wpIn (cX rd) nn P a w next Q:=by
 refine aU (v:=.pointer (some ⟨w.heap.size,0,none⟩)) (w':=w.alloc (.cells (a.eval x).cells t)) (by simp[execOp,hop,Instr.box,newVar,oI]) ?_;refine hn F (.ptr w.heap.size 0) _ _ _ (Fz.le_refl F) ?_ (by simp[aC]) (h _);have:=hS.box (n4 (aL hT x) hc) t;simpa using this
theorem yg {w0:World} {F:Fz} {M:List aj} {w:World} (h:aP w0 F M w) {t:Tok} {es:List PV} (ht:aj.row t es∈M) {i q:Nat} {e:PV} (hi:es[i]?=some e) {v:Value} (hv:aC F (.rp t i q) v):
  ∃ ad vs,v=.pointer (some ad)∧aQ F (e.cellsOf.drop q) vs∧vs.length=e.cellsOf.length - q∧ ∀ j u,vs[j]?=some u→w.cell? (ad.add j)=some u:=by
 obtain ⟨⟨xs,hown,hr⟩,h3,h4,_⟩:=h.fe _ ht;simp only[aC] at hv;obtain ⟨g,hg,rfl⟩:=hv;have hlt:i < es.length:=(List.getElem?_eq_some_iff.1 hi).1
 have hes:es=es.take i++e::es.drop (i + 1):=by
  have:es.drop i=e::es.drop (i + 1):=by
   rw[List.drop_eq_getElem_cons hlt];congr 1;have:=List.getElem?_eq_getElem hlt;rw[hi] at this;simpa using this.symm
  rw[←this,List.take_append_drop]
 have hsplit:flat es=flat (es.take i)++(e.cellsOf++flat (es.drop (i + 1))):=(congrArg flat hes).trans (by rw[cJ];rfl);rw[hsplit] at hr
 have hl1:(flat (es.take i)).length=i * t.s:=by
  rw[cm (s:=t.s) fun e he=>h3 e (List.mem_of_mem_take he)];simp[Nat.min_eq_left (Nat.le_of_lt hlt)]
 obtain ⟨p1,p2⟩:=eT hr;obtain ⟨p3,p4⟩:=eT p2;have p5:=dg q p3;have l5:=p5.length;refine ⟨⟨g,i * t.s + q,none⟩,_,rfl,p5,by rw[←l5];simp,fun j u hu=>?_⟩;rw[List.getElem?_drop,List.getElem?_take] at hu
 split at hu
 ·rw[List.getElem?_drop] at hu
  have:=hown.cells hg _ u hu;rw[Addr.add_lit] at this ⊢;rw[←this,hl1];congr 2;omega
 ·cases hu
theorem N8 (hk:TT.ok P tt) (hS:aP w0 F (Γ++M) w) (hT:aA F T a.tmps.toList) (hn:Nx w0 M F o.dst a next K) {t:TypeId} {x:Operand} (hop:o.op=.load t x)
  (hne:(tt t).cq≠.other) (h0:0 < (tt t).size) (h:ek (tt t).cq.agg (tt t).size (ev T x) Γ fun p=>K p Γ):o.wpIn (cX rd) nn P a w next Q:=by
 obtain ⟨⟨i,z,hi,h1,h2,hz,hzc,h3⟩,hd⟩:=hk.get rfl hne;obtain ⟨desc,hu,hag⟩:=TD.n8 hd hne;obtain ⟨cs,hr,hK⟩:=h.h;have hp:=aL hT x
 have key: ∃ ad vs,a.eval x=.pointer (some ad)∧aQ F cs vs∧vs.length=(tt t).size∧ ∀ j v,vs[j]?=some v→w.cell? (ad.add j)=some v:=by
  unfold Reads at hr
  split at hr
  ·rename_i b q he
   rw[he] at hp;obtain ⟨all,hb,hl,rfl⟩:=hr;obtain ⟨vs,el,hw,hv⟩:=hS.HX (List.mem_append_left M hb);have l:=hv.length;refine ⟨⟨b,q,none⟩,(vs.drop q).take (tt t).size,iL hp,cU _ (dg _ hv),by simp;omega,fun j v hj=>?_⟩;rw[List.getElem?_take] at hj
   split at hj
   ·exact qc hw q j v hj
   ·cases hj
  ·rename_i all he
   rw[he] at hp;obtain ⟨hl,rfl⟩:=hr;obtain ⟨b,q,hv,hcs⟩:=pe hp;rw[aZ] at hcs;obtain ⟨vs,hrl,hf⟩:=hcs;have l:=hrl.length;refine ⟨⟨b,q,none⟩,vs.take (tt t).size,hv,cU _ hrl,by simp;omega,fun j v hj=>?_⟩;rw[List.getElem?_take] at hj
   split at hj
   ·rw[Addr.add_lit];exact hS.fz _ _ _ (hf j v hj)
   ·cases hj
  ·rename_i t' k q he
   rw[he] at hp;obtain ⟨es,e,hrow,hi,hl,rfl⟩:=hr;obtain ⟨ad,vs,h1,h2,h3,h4⟩:=yg hS (List.mem_append_left M hrow) hi hp;refine ⟨ad,vs.take (tt t).size,h1,cU _ h2,by simp;omega,fun j v hj=>?_⟩;rw[List.getElem?_take] at hj
   split at hj
   ·exact h4 j v hj
   ·cases hj
  ·exact hr.elim
 obtain ⟨ad,vs,he,hrl,hlen,hcell⟩:=key;have hrun:=nw hu hi hcell (by rw[hlen,h1]) (by omega);refine aU (v:=if sW desc then .agg vs.toArray else vs.headD undef) (w':=w) (by simp[execOp,hop,Instr.loadAt,Instr.sureAddr,he,hrun]) ?_;rw[←hag] at hK;have l:=hrl.length
 cases hg:sW desc with
 | true=>
  rw[hg] at hK;exact hn F (.agg cs) Γ _ w (Fz.le_refl F) hS (by simp only[aC,if_true];exact ⟨vs,rfl,hrl⟩) hK
 | false=>
  rw[hg] at hK
  match cs,vs,hrl with
  | [], [],_=>simp at hlen;omega
  | c::cs,v::vs,hrl=>
   have:=cg.1 hrl;exact hn F c Γ _ w (Fz.le_refl F) hS (by simpa using this.1.2) hK
theorem Mb (hk:TT.ok P tt) (hS:aP w0 F (Γ++M) w) (hT:aA F T a.tmps.toList) (hn:Nx w0 M F o.dst a next K) {t:TypeId} {x y:Operand} (hop:o.op=.store t x y)
  (hne:(tt t).cq≠.other) (h:cr (tt t).size (ev T x) (ev T y) Γ fun Γ'=>K .any Γ'):o.wpIn (cX rd) nn P a w next Q:=by
 obtain ⟨⟨i,z,hi,h1,h2,hz,hzc,h3⟩,hd⟩:=hk.get rfl hne;obtain ⟨hx,hc,xs,hwk,hxl,h⟩:=h.h;have hp:=aL hT x;have hr:=n4 (aL hT y) hc;have l:=hr.length;have hsz:(a.eval y).cells.size=(tt t).size:=by rw[←Array.length_toList, ←l,hx]
 rcases h with ⟨b,q,all,Γ1,Γ2,he,rfl,hl,hK⟩ | ⟨t',k,q,es,e,e',Γ1,Γ2,he,rfl,hi',hl,he',hK⟩
 ·rw[he] at hp
  have hS':aP w0 F (Γ1++.box b all::(Γ2++M)) w:=by simpa using hS
  obtain ⟨w',hrun,hS2⟩:=hS'.store (off:=q) P (hwk F _ hr) (by omega);refine qK (w':=w') ?_ ?_
  ·simp[execOp,hop,Instr.storeAt,Instr.sureAddr,iL hp,storeVar,run_sizeOf hi,h1,hsz,hrun]
  ·refine hn F .any _ _ w' (Fz.le_refl F) ?_ (by simp[aC]) hK
   rw[hxl] at hS2;simpa using hS2
 ·rw[he] at hp
  simp only[aC] at hp;obtain ⟨g,hg,hp⟩:=hp;have hS':aP w0 F (Γ1++.row t' es::(Γ2++M)) w:=by simpa using hS
  obtain ⟨w',hrun,hS2⟩:=hS'.Hh (o:=q) P (hwk F _ hr) hg hi' (by omega) (by rw[hxl];exact he');refine qK (w':=w') ?_ ?_
  ·simp[execOp,hop,Instr.storeAt,Instr.sureAddr,hp,storeVar,run_sizeOf hi,h1,hsz,hrun]
  ·refine hn F .any _ _ w' (Fz.le_refl F) ?_ (by simp[aC]) hK
   simpa using hS2
theorem iD (hS:aP w0 F (Γ++M) w) (hT:aA F T a.tmps.toList) (hn:Nx w0 M F o.dst a next K) {x:Operand} (hop:o.op=.nilCheck x)
  (hc:(∃ b q,ev T x=.ptr b q)∨(∃ cs,ev T x=.ep cs)∨(∃ f cap,(∀ m,f≠.method m)∧ev T x=.fn f cap)∨(∃ t i q,ev T x=.rp t i q)∨ ∃ f z,ev T x=.fm f z) (h:K (ev T x) Γ):o.wpIn (cX rd) nn P a w next Q:=by
 have hp:=aL hT x;refine aU (v:=a.eval x) (w':=w) ?_ (hn F _ Γ _ w (Fz.le_refl F) hS hp h)
 rcases hc with ⟨b,q,he⟩ | ⟨cs,he⟩ | ⟨f,cap,hf,he⟩ | ⟨t,i,q,he⟩ | ⟨f,z,he⟩
 ·rw[he] at hp;simp[execOp,hop,iL hp]
 ·rw[he] at hp;obtain ⟨b,q,hv,_⟩:=pe hp;simp[execOp,hop,hv]
 ·rw[he] at hp;obtain ⟨vs,hv,_⟩:=rR hp
  cases f<;>first | exact absurd rfl (hf _) | simp[execOp,hop,hv]
 ·rw[he] at hp;simp only[aC] at hp;obtain ⟨g,_,hv⟩:=hp;simp[execOp,hop,hv]
 ·rw[he] at hp;simp only[aC] at hp;obtain ⟨u,hv,_⟩:=hp;simp[execOp,hop,hv]
theorem bX (hS:aP w0 F (Γ++M) w) (hn:Nx w0 M F o.dst a next K) {x:PV} {v:Value} (hr:(execOp a.eval o).run P w=.ok (.value v) w) (hx:aC F x v) (h:K x Γ):o.wpIn (cX rd) nn P a w next Q:=
 aU hr (hn F x Γ v w (Fz.le_refl F) hS hx h)
end
section
variable {P:Program} {tt:Nat→TI} {o:Oper} {a:Act} {T:List PV} {Γ M:List aj} {K:PV→List aj→Prop} {w0 w:World} {F:Fz}
 {rd:Option Nat} {nn:Nat} {next:Act→World→Prop} {Q:Exit→Act→World→Prop}
theorem gL: ∀ {fs:List Field} {r:List (Nat×Nat×Bool)},fK P fs r→ ∀ {k:Nat} {x:Nat×Nat×Bool},r[k]?=some x→
  ∃ f,fs[k]?=some f∧f.offset=x.1∧(∃ i,P.info? f.type=some i∧i.size=x.2.1)∧x.2.1≠0∧ ∃ d,P.underlying f.type=some d∧sW d=x.2.2
 | [], [],_,k,x,hx=>by simp at hx
 | [],_::_,h,_,_,_=>by simp[fK] at h
 | _::_, [],h,_,_,_=>by simp[fK] at h
 | f::fs,y::r,h,0,x,hx=>by simp at hx;subst hx;exact ⟨f,rfl,h.1⟩
 | f::fs,y::r,h,k + 1,x,hx=>by simpa using gL h.2 (k:=k) (x:=x) (by simpa using hx)
theorem jT {s:TypeId} {fields:Array Field} {r:List (Nat×Nat×Bool)} (hu:P.underlying s=some (.struct fields)) (hf:fK P fields.toList r) {k:Nat} {x:Nat×Nat×Bool}
  (hx:r[k]?=some x) (b q:Nat) (w:World):(Instr.fieldAt s (.pointer (some ⟨b,q,none⟩)) k).run P w=.ok (.pointer (some ⟨b,q + x.1,none⟩)) w:=by
 obtain ⟨f,h1,h2,⟨i,h3,h4⟩,h5,_⟩:=gL hf hx;have h1':fields[k]?=some f:=by simpa using h1
 simp[Instr.fieldAt,run_underlying hu,h1',Instr.sureAddr,fieldPlace,run_sizeOf h3,h4,h5,h2,Addr.add_lit]
theorem nB (hk:TT.ok P tt) (hS:aP w0 F (Γ++M) w) (hT:aA F T a.tmps.toList) (hn:Nx w0 M F o.dst a next K) {s:TypeId} {x:Operand} {k:Nat} (hop:o.op=.fieldAddr s x k)
  {fs:List (Nat×Nat×Bool)} (hfs:(tt s).cq=.st fs) {y:Nat×Nat×Bool} (hy:fs[k]?=some y)
  (h:(∃ b q,ev T x=.ptr b q∧K (.ptr b (q + y.1)) Γ)∨(∃ cs,ev T x=.ep cs∧K (.ep (cs.drop y.1)) Γ)∨ ∃ t i q,ev T x=.rp t i q∧K (.rp t i (q + y.1)) Γ):o.wpIn (cX rd) nn P a w next Q:=by
 obtain ⟨_,fields,hu,hf⟩:=hk.get hfs (by simp);have hp:=aL hT x
 rcases h with ⟨b,q,he,hK⟩ | ⟨cs,he,hK⟩ | ⟨t,i,q,he,hK⟩
 ·rw[he] at hp
  refine bX hS hn (v:=.pointer (some ⟨b,q + y.1,none⟩)) ?_ (by simp[aC]) hK;simp[execOp,hop,iL hp,jT hu hf hy]
 ·rw[he] at hp
  obtain ⟨b,q,hv,hcs⟩:=pe hp;refine bX hS hn (v:=.pointer (some ⟨b,q + y.1,none⟩)) ?_ ?_ hK
  ·simp[execOp,hop,hv,jT hu hf hy]
  ·simp only[aC]
   refine ⟨b,q + y.1,rfl,?_⟩;rw[aZ] at hcs ⊢;obtain ⟨vs,h1,h2⟩:=hcs;refine ⟨vs.drop y.1,dg _ h1,fun j u hu=>?_⟩;rw[List.getElem?_drop] at hu;have:=h2 _ u hu;rwa [show q + y.1 + j=q + (y.1 + j) by omega]
 ·rw[he] at hp
  simp only[aC] at hp;obtain ⟨g,hg,hv⟩:=hp;refine bX hS hn (v:=.pointer (some ⟨g,i * t.s + (q + y.1),none⟩)) ?_ (by simp only[aC];exact ⟨g,hg,rfl⟩) hK;simp[execOp,hop,hv,jT hu hf hy,Nat.add_assoc]
theorem Fk (hk:TT.ok P tt) (hS:aP w0 F (Γ++M) w) (hT:aA F T a.tmps.toList) (hn:Nx w0 M F o.dst a next K) {s:TypeId} {x:Operand} {k:Nat} (hop:o.op=.field s x k)
  {fs:List (Nat×Nat×Bool)} (hfs:(tt s).cq=.st fs) {y:Nat×Nat×Bool} (hy:fs[k]?=some y) {cs:List PV} (he:ev T x=.agg cs)
  (h:(y.2.2=true∧K (.agg ((cs.drop y.1).take y.2.1)) Γ)∨ ∃ c r,y.2.2=false∧cs.drop y.1=c::r∧K c Γ):o.wpIn (cX rd) nn P a w next Q:=by
 obtain ⟨_,fields,hu,hf⟩:=hk.get hfs (by simp);obtain ⟨f,h1,h2,⟨i,h3,h4⟩,h5,d,h6,h7⟩:=gL hf hy;have h1':fields[k]?=some f:=by simpa using h1
 have hp:=aL hT x;rw[he] at hp;obtain ⟨vs,hv,hr⟩:=uy hp;have l:=hr.length
 rcases h with ⟨hg,hK⟩ | ⟨c,r,hg,hd,hK⟩
 ·refine bX hS hn (v:=.agg ((vs.drop y.1).take y.2.1).toArray) ?_ ?_ hK
  ·rw[hg] at h7
   simp only[execOp,hop,Instr.field,Sem.run_bind,run_underlying hu,Result.andThen_ok,h1',asAgg,hv,Sem.run_pure,part,lD h6,h7,if_true,run_sizeOf h3,h4,h2];congr 2;simp[List.extract_eq_take_drop]
  ·simp only[aC];exact ⟨_,rfl,cU _ (dg _ hr)⟩
 ·have hr':=dg y.1 hr
  rw[hd] at hr'
  match hvs:vs.drop y.1,hr' with
  | [],hr'=>simp[aQ] at hr'
  | u::us,hr'=>
   have hr':=cg.1 hr';refine bX hS hn (v:=u) ?_ hr'.1.2 hK;rw[hg] at h7
   have hvu:vs[y.1]?=some u:=by
    have:(vs.drop y.1)[0]?=some u:=by rw[hvs];rfl
    simpa[List.getElem?_drop] using this
   simp[execOp,hop,Instr.field,run_underlying hu,h1',asAgg,hv,part,lD h6,h7,h2,hvu]
theorem JR (hk:TT.ok P tt) (hS:aP w0 F (Γ++M) w) (hT:aA F T a.tmps.toList) (hn:Nx w0 M F o.dst a next K) {t:TypeId} {x y:Operand} (hop:o.op=.indexAddr t x y)
  {e:Nat} (hfs:(tt t).cq=.sl e) (hne:(tt e).cq≠.other) (h:dr (tt e).size (ev T x) (ev T y) fun p=>K p Γ):o.wpIn (cX rd) nn P a w next Q:=by
 obtain ⟨_,hu⟩:=hk.get hfs (by simp);obtain ⟨⟨i,z,hi,hsz,_⟩,_⟩:=hk.get (t:=e) rfl hne;obtain ⟨s,es,tk,k,n,x0,hx,hy,h0,hg,hs,hK⟩:=h.h;have hp:=aL hT x;have hq:=aL hT y;rw[hx] at hp;rw[hy] at hq;have hu':P.underlying t=some (.slice e):=hu
 rcases fq hS hp with ⟨_,h2⟩ | ⟨b,q,cap,vs,h1,h2,h3,h4,h5,h6,h7⟩
 ·subst h2;simp at hg
 ·obtain ⟨m,rfl⟩:=Int.eq_ofNat_of_zero_le h0
  simp only[Int.toNat_natCast] at hg;have hlt:m < es.length:=(List.getElem?_eq_some_iff.1 hg).1;refine bX hS hn (v:=.pointer (some ⟨b,q + m * s,none⟩)) ?_ ?_ hK
  ·have hcond:(0:Int)≤m∧(m:Int) < es.length:=⟨h0,by omega⟩
   simp[execOp,hop,Instr.indexAt,bV hq,asIntOf,run_underlying hu',h1,hcond,run_sizeOf hi,hsz, ←hs,Addr.add_lit,hlt]
  ·simp only[aC]
   refine ⟨b,q + m * s,rfl,?_⟩;rw[aZ];have hx0:x0∈es:=List.mem_of_getElem? hg
   have hes:es=es.take m++x0::es.drop (m + 1):=by
    have:es.drop m=x0::es.drop (m + 1):=by
     rw[List.drop_eq_getElem_cons hlt];congr 1;have:=List.getElem?_eq_getElem hlt;rw[hg] at this;simpa using this.symm
    rw[←this,List.take_append_drop]
   have hsplit:flat es=flat (es.take m)++(x0.cellsOf++flat (es.drop (m + 1))):=
    (congrArg flat hes).trans (by rw[cJ];rfl)
   rw[hsplit] at h5;obtain ⟨p1,p2⟩:=eT h5;obtain ⟨p3,p4⟩:=eT p2
   have hl1:(flat (es.take m)).length=m * s:=by
    rw[cm (s:=s) fun e he=>h4 e (List.mem_of_mem_take he)];simp[Nat.min_eq_left (Nat.le_of_lt hlt)]
   refine ⟨_,p3,fun j u hj=>?_⟩;rw[List.getElem?_take] at hj
   split at hj
   ·rw[List.getElem?_drop] at hj
    have:=h6 _ u hj;rwa [hl1,show q + (m * s + j)=q + m * s + j by omega] at this
   ·cases hj
theorem JT (hk:TT.ok P tt) (hS:aP w0 F (Γ++M) w) (hT:aA F T a.tmps.toList) (hn:Nx w0 M F o.dst a next K) {t:TypeId} {x y:Operand} (hop:o.op=.indexAddr t x y)
  {e:Nat} (hfs:(tt t).cq=.sl e) (hne:(tt e).cq≠.other) {t':Tok} (hx:ev T x=.ms t') (h:e8 (tt e).size t' (ev T y) Γ fun p=>K p Γ):o.wpIn (cX rd) nn P a w next Q:=by
 obtain ⟨_,hu⟩:=hk.get hfs (by simp);obtain ⟨⟨i,z,hi,hsz,_⟩,_⟩:=hk.get (t:=e) rfl hne;obtain ⟨es,k,n,hy,hrow,h0,hlt,hs,hK⟩:=h.h;have hp:=aL hT x;have hq:=aL hT y;rw[hx] at hp;rw[hy] at hq;simp only[aC] at hp;have hu':P.underlying t=some (.slice e):=hu;obtain ⟨⟨xs,hown,hr⟩,h3,h4,_⟩:=hS.fe _ (List.mem_append_left M hrow);obtain ⟨m,rfl⟩:=Int.eq_ofNat_of_zero_le h0
 rcases hown.shape with ⟨_,h5⟩ | ⟨ad,cap,h5,h6,h7,h8⟩
 ·omega
 ·rcases h8 with h8 | ⟨g,h8,rfl⟩
  ·omega
  ·refine bX hS hn (v:=.pointer (some ⟨g,m * t'.s,none⟩)) ?_ (by simp only[aC];exact ⟨g,h8,by simp⟩) hK
   have hlt':m < t'.n:=by omega
   simp[execOp,hop,Instr.indexAt,bV hq,asIntOf,run_underlying hu',hp.1,h5,run_sizeOf hi,hsz, ←hs,Addr.add_lit];intro hh;omega
theorem JU (hk:TT.ok P tt) (hS:aP w0 F (Γ++M) w) (hT:aA F T a.tmps.toList) (hn:Nx w0 M F o.dst a next K) {t:TypeId} {x y:Operand} (hop:o.op=.indexAddr t x y)
  {e n:Nat} (hfs:(tt t).cq=.arr n e) (hne:(tt e).cq≠.other) (h:j4 n (tt e).size (ev T x) (ev T y) fun p=>K p Γ):o.wpIn (cX rd) nn P a w next Q:=by
 obtain ⟨_,hu⟩:=hk.get hfs (by simp);obtain ⟨⟨i,z,hi,hsz,_⟩,_⟩:=hk.get (t:=e) rfl hne;obtain ⟨b,q,k,m,hx,hy,h0,hlt,hK⟩:=h.h;have hp:=aL hT x;have hq:=aL hT y;rw[hx] at hp;rw[hy] at hq;have hu':P.underlying t=some (.array n e):=hu;refine bX hS hn (v:=.pointer (some ⟨b,q + m.toNat * (tt e).size,none⟩)) ?_ (by simp[aC]) hK;simp[execOp,hop,Instr.indexAt,bV hq,asIntOf,run_underlying hu',iL hp,Instr.sureAddr,h0,hlt,run_sizeOf hi,hsz,Addr.add_lit]
theorem JV (hk:TT.ok P tt) (hS:aP w0 F (Γ++M) w) (hT:aA F T a.tmps.toList) (hn:Nx w0 M F o.dst a next K) {t:TypeId} {x y:Operand} (hop:o.op=.index t x y)
  (hfs:(tt t).cq=.str) {s:List UInt8} (hx:ev T x=.str s) (h:j5 s (ev T y) fun p=>K p Γ):o.wpIn (cX rd) nn P a w next Q:=by
 obtain ⟨_,hu⟩:=hk.get hfs (by simp);obtain ⟨k,n,b,hy,h0,hg,hK⟩:=h.h;have hp:=aL hT x;have hq:=aL hT y;rw[hx] at hp;rw[hy] at hq;have hu':P.underlying t=some .string:=hu;refine bX hS hn (v:=.int .u8 b.toNat) ?_ (by simp[aC]) hK
 have hb:(⟨s.toArray⟩:ByteArray)[n.toNat]?=some b:=by
  show (ByteArray.mk s.toArray)[n.toNat]?=some b;have hlt:n.toNat < s.length:=(List.getElem?_eq_some_iff.1 hg).1;have hlt':n.toNat < (ByteArray.mk s.toArray).size:=by simpa[ByteArray.size] using hlt
  rw[getElem?_pos (ByteArray.mk s.toArray) n.toNat hlt'];have:=(List.getElem?_eq_some_iff.1 hg).2;rw[←this];rfl
 simp[execOp,hop,Instr.index,bV hq,asIntOf,run_underlying hu',jr hp,h0,hb]
end
section
variable {P:Program} {tt:Nat→TI} {o:Oper} {a:Act} {T:List PV} {Γ M:List aj} {K:PV→List aj→Prop} {w0 w:World} {F:Fz}
 {rd:Option Nat} {nn:Nat} {next:Act→World→Prop} {Q:Exit→Act→World→Prop}
theorem run_sliceBound {v:Value} {k:IntKind} {n y:Nat} {code:BoundsCode} (hv:v=.int k n) (h:n≤y) (w:World):(Instr.sliceBound v y code).run P w=.ok n w:=by
 subst hv
 have:(0:Int)≤n∧(n:Int)≤y:=⟨by omega,by omega⟩
 simp[Instr.sliceBound,asIntOf,this]
def HD (F:Fz):Option PV→Option Value→Prop
 | none,none=>True
 | some p,some u=>aC F p u
 | _,_=>False
theorem dF {F:Fz} {x:Option PV} {v:Option Value} {d n:Nat} (h:dO x d n) (hr:HD F x v):
  (v=none∧n=d)∨ ∃ k,v=some (.int k n):=by
 match x,v,hr with
 | none,none,_=>exact .inl ⟨rfl,h⟩
 | none,some _,hr=>exact hr.elim
 | some _,none,hr=>exact hr.elim
 | some p,some u,hr=>
  cases p<;>first | exact h.elim | skip
  simp only[dO] at h;subst h;exact .inr ⟨_,by rw[bV (F:=F) hr]⟩
theorem bW {lo hi:Option Value} {isSlice:Bool} {len cap l h:Nat} (hh:(hi=none∧h=len)∨ ∃ k,hi=some (.int k h)) (hl:(lo=none∧l=0)∨ ∃ k,lo=some (.int k l))
  (h1:l≤h) (h2:h≤cap) (w:World):(Instr.sliceBounds isSlice len cap lo hi none).run P w=.ok (l,h,cap) w:=by
 rcases hh with ⟨rfl,rfl⟩ | ⟨k,rfl⟩<;>rcases hl with ⟨rfl,rfl⟩ | ⟨k',rfl⟩
 ·simp[Instr.sliceBounds]
 ·simp[Instr.sliceBounds,run_sliceBound rfl h1]
 ·simp[Instr.sliceBounds,run_sliceBound rfl h2]
 ·simp[Instr.sliceBounds,run_sliceBound rfl h1,run_sliceBound rfl h2]
theorem fU {F:Fz} {T:List PV} {a:Act} (hT:aA F T a.tmps.toList) (x:Option Operand):HD F (x.map (ev T)) (x.map a.eval):=by
 cases x with
 | none=>trivial
 | some x=>exact aL hT x
theorem J0 (hk:TT.ok P tt) (hS:aP w0 F (Γ++M) w) (hT:aA F T a.tmps.toList) (hn:Nx w0 M F o.dst a next K) {t:TypeId} {x:Operand} {lo hi:Option Operand} (hop:o.op=.slice t x lo hi none)
  {e:Nat} (hfs:(tt t).cq=.sl e) (hne:(tt e).cq≠.other) {s:Nat} {es:List PV} {tk:Option Tok} (hx:ev T x=.sl s es tk) (hs:s=(tt e).size)
  (h:iF s es (lo.map (ev T)) (hi.map (ev T)) fun p=>K p Γ):o.wpIn (cX rd) nn P a w next Q:=by
 obtain ⟨_,hu⟩:=hk.get hfs (by simp);obtain ⟨⟨i,z,hi',hsz,_⟩,_⟩:=hk.get (t:=e) rfl hne;obtain ⟨l,g,hh,hl,h1,h2,hK⟩:=h.h;have hp:=aL hT x;rw[hx] at hp;have hu':P.underlying t=some (.slice e):=hu;have bh:=dF hh (fU hT hi);have bl:=dF hl (fU hT lo);have hlen:((es.take g).drop l).length=g - l:=by simp;omega
 rcases fq hS hp with ⟨k1,k2⟩ | ⟨b,q,cap,vs,k1,k2,k3,k4,k5,k6,k7⟩
 ·subst k2
  have h0:g=0:=by simpa using h2
  subst h0;have l0:l=0:=by omega
  subst l0
  rcases k1 with k1 | ⟨ad,k1⟩
  rotate_left
  ·refine bX hS hn (v:=.slice (some ad) 0 0) ?_ ?_ hK
   ·have hb:=bW (P:=P) (isSlice:=true) (cap:=0) bh bl (Nat.le_refl _) (Nat.le_refl _) w
    simp only[List.length_nil] at hb;simp[execOp,hop,Instr.sliceAt,Instr.slice,run_underlying hu',k1,hb,run_sizeOf hi']
   ·simp only[aC]
    exact ⟨fun t ht=>(by cases ht),.inr (.inr ⟨by simp,ad,rfl⟩)⟩
  refine bX hS hn (v:=.slice none 0 0) ?_ ?_ hK
  ·have hb:=bW (P:=P) (isSlice:=true) (cap:=0) bh bl (Nat.le_refl _) (Nat.le_refl _) w
   simp only[List.length_nil] at hb;simp[execOp,hop,Instr.sliceAt,Instr.slice,run_underlying hu',k1,hb,run_sizeOf hi']
  ·simp only[aC]
   refine ⟨fun t ht=>?_,.inl ⟨trivial,by simp⟩⟩;cases ht
 ·have hb:=bW (P:=P) (isSlice:=true) (cap:=cap) bh bl h1 (by omega) w
  refine bX hS hn (v:=.slice (some (if cap=l then ⟨b,q,none⟩ else ⟨b,q + l * s,none⟩)) (g - l) (cap - l)) ?_ ?_ hK
  ·simp only[execOp,hop,Instr.sliceAt,Instr.slice,Sem.run_bind,run_underlying hu',Result.andThen_ok,k1,Option.map_none,hb,run_sizeOf hi',hsz, ←hs,Sem.run_pure]
   split<;>simp[Addr.add_lit]
  ·simp only[aC]
   refine ⟨fun t ht=>absurd ht (by simp),.inr (.inl ⟨b,if cap=l then q else q + l * s,cap - l,?_,by omega,by omega,fun t ht=>absurd ht (by simp),?_⟩)⟩
   ·rw[hlen];split<;>rfl
   ·rw[eU]
    refine ⟨fun e he=>k4 e (List.mem_of_mem_take (List.mem_of_mem_drop he)),?_⟩;by_cases hc:cap=l
    ·have:(es.take g).drop l= []:=List.eq_nil_of_length_eq_zero (by omega)
     rw[this];simp[flat,bT]
    ·rw[if_neg hc,aZ]
     have hsplit:flat es=flat (es.take l)++(flat ((es.take g).drop l)++flat (es.drop g)):=by
      have e1:es=es.take l++((es.take g).drop l++es.drop g):=by
       have e2:es.take l=(es.take g).take l:=by rw[List.take_take,Nat.min_eq_left h1]
       rw[←List.append_assoc,e2,List.take_append_drop,List.take_append_drop]
      exact (congrArg flat e1).trans (by rw[cJ,cJ])
     rw[hsplit] at k5;obtain ⟨p1,p2⟩:=eT k5;obtain ⟨p3,p4⟩:=eT p2
     have hl1:(flat (es.take l)).length=l * s:=by
      rw[cm (s:=s) fun e he=>k4 e (List.mem_of_mem_take he)];simp[Nat.min_eq_left (show l≤es.length by omega)]
     refine ⟨_,p3,fun j u hj=>?_⟩;rw[List.getElem?_take] at hj
     split at hj
     ·rw[List.getElem?_drop] at hj
      have:=k6 _ u hj;rwa [hl1,show q + (l * s + j)=q + l * s + j by omega] at this
     ·cases hj
theorem J1 (hk:TT.ok P tt) (hS:aP w0 F (Γ++M) w) (hT:aA F T a.tmps.toList) (hn:Nx w0 M F o.dst a next K) {t:TypeId} {x:Operand} {lo hi:Option Operand} (hop:o.op=.slice t x lo hi none)
  {e:Nat} (hfs:(tt t).cq=.sl e) (hne:(tt e).cq≠.other) {t':Tok} (hx:ev T x=.ms t')
  (h:pO (tt e).size t' (lo.map (ev T)) (hi.map (ev T)) Γ K):o.wpIn (cX rd) nn P a w next Q:=by
 rcases h.h with h | ⟨hn0,es,l,hrow,hs,hl,hle,hK⟩
 rotate_left
 ·obtain ⟨_,hu⟩:=hk.get hfs (by simp)
  obtain ⟨⟨i,z,hi',hsz,_⟩,_⟩:=hk.get (t:=e) rfl hne;have hp:=aL hT x;rw[hx] at hp;simp only[aC] at hp;have hu':P.underlying t=some (.slice e):=hu;have bl:=dF hl (fU hT lo);obtain ⟨⟨xs,hown,hr⟩,h3,h4,h9⟩:=hS.fe _ (List.mem_append_left M hrow)
  have hn1:hi.map a.eval=none:=by cases hi with
   | none=>rfl
   | some y=>simp at hn0
  have bh:(hi.map a.eval=none∧es.length=t'.n)∨ ∃ k,hi.map a.eval=some (.int k es.length):=.inl ⟨hn1,by omega⟩
  have fin: ∀ v:Value,wF t' l v→(execOp a.eval o).run P w=.ok (.value v) w→o.wpIn (cX rd) nn P a w next Q:=fun v hv hrun=>
   bX hS hn hrun (x:=.sc v) (by simp only[aC];exact ⟨trivial,hv.1⟩) (hK v hv)
  rcases hown.shape with ⟨h5,h6⟩ | ⟨ad,cap,h5,h6,h7,h8⟩
  ·have e0:es.length=0:=by omega
   have l0:l=0:=by omega
   subst l0;refine fin t'.v ⟨hp.2,none,0,by rw[h5,h6],.inl h6⟩ ?_;have hb:=bW (P:=P) (isSlice:=true) (len:=0) (cap:=0) (by rw[h6,e0] at bh;exact bh) bl (Nat.le_refl _) (Nat.le_refl _) w;simp[execOp,hop,Instr.sliceAt,Instr.slice,run_underlying hu',hp.1,h5,hb,run_sizeOf hi']
  ·have hb:=bW (P:=P) (isSlice:=true) (len:=t'.n) (cap:=cap) bh bl hle (by omega) w
   have hrun: ∃ p,(execOp a.eval o).run P w=.ok (.value (.slice p (t'.n - l) (cap - l))) w∧(t'.n=l∨p=some (ad.add (l * t'.s))):=by
    simp only[execOp,hop,Instr.sliceAt,Instr.slice,Sem.run_bind,run_underlying hu',Result.andThen_ok,hp.1,h5,Option.map_none,hb,run_sizeOf hi',Sem.run_pure];have e1:i.size=t'.s:=by rw[hs,hsz]
    refine ⟨_,by rw[h4],?_⟩;by_cases hc:cap=l
    ·left;omega
    ·right;rw[if_neg hc,Option.map_some,e1]
   obtain ⟨p,hr,hpp⟩:=hrun;refine fin _ ⟨rfl,p,cap - l,rfl,?_⟩ hr;rcases hpp with h | h
   ·exact .inl h
   ·rcases h8 with h8 | ⟨g,h8,rfl⟩
    ·exact .inl (by omega)
    ·exact .inr ⟨g,h8,by rw[h,Addr.add_lit,Nat.zero_add]⟩
 obtain ⟨_,hu⟩:=hk.get hfs (by simp);obtain ⟨⟨i,z,hi',hsz,_⟩,_⟩:=hk.get (t:=e) rfl hne;obtain ⟨es,Γ1,Γ2,n,rfl,hs,hl,hh,h2,hK⟩:=h.h;have hp:=aL hT x;rw[hx] at hp;simp only[aC] at hp;have hu':P.underlying t=some (.slice e):=hu;have bh:=dF hh (fU hT hi);have bl:=dF hl (fU hT lo);have hS':aP w0 F (Γ1++.row t' es::(Γ2++M)) w:=by simpa using hS
 obtain ⟨⟨xs,hown,hr⟩,h3,h4,h9⟩:=hS'.fe _ (List.mem_append_right Γ1 (List.mem_cons_self ..))
 have same:n=es.length→(execOp a.eval o).run P w=.ok (.value t'.v) w→o.wpIn (cX rd) nn P a w next Q:=by
  intro hne hrun;refine bX hS hn hrun (x:=.ms t') (by simp only[aC];exact ⟨trivial,hp.2⟩) ?_;have:=hK t' rfl rfl;rwa [hne,List.take_length] at this
 rcases hown.shape with ⟨h5,h6⟩ | ⟨ad,cap,h5,h6,h7,h8⟩
 ·have e0:es.length=0:=by omega
  have n0:n=0:=by omega
  subst n0;refine same (by omega) ?_;rw[e0] at bh;have hb:=bW (P:=P) (isSlice:=true) (cap:=0) bh bl (Nat.le_refl _) (Nat.le_refl _) w;simp[execOp,hop,Instr.sliceAt,Instr.slice,run_underlying hu',hp.1,h5,hb,run_sizeOf hi']
 ·have hb:=bW (P:=P) (isSlice:=true) (len:=t'.n) (cap:=cap) (by rw[←h4];exact bh) bl (Nat.zero_le _) (by omega) w
  have hrun:(execOp a.eval o).run P w=.ok (.value (.slice (some ad) n cap)) w:=by
   simp only[execOp,hop,Instr.sliceAt,Instr.slice,Sem.run_bind,run_underlying hu',Result.andThen_ok,hp.1,h5,Option.map_none,hb,run_sizeOf hi',Sem.run_pure]
   split<;>simp[Addr.add]
  rcases h8 with h8 | ⟨g,h8,rfl⟩
  ·refine same (by omega) ?_
   rw[hrun,h5];have:n=t'.n:=by omega
   rw[this]
  ·have hS2:=hS'.Cu h8 h5 n h2
   exact hn F (.ms ⟨.slice (some ⟨g,0,none⟩) n cap,n,t'.s,t'.e,some g⟩) _ _ w (Fz.le_refl F) (by simpa using hS2) (by simp only[aC];exact ⟨trivial,rfl⟩) (hK _ rfl rfl) |> aU hrun
theorem Cj (hk:TT.ok P tt) (hS:aP w0 F (Γ++M) w) (hT:aA F T a.tmps.toList) (hn:Nx w0 M F o.dst a next K) {t:TypeId} {x:Operand} {lo hi:Option Operand} {mx:Operand} (hop:o.op=.slice t x lo hi (some mx))
  {e:Nat} (hfs:(tt t).cq=.sl e) (hne:(tt e).cq≠.other) {s:Nat} (hs:(tt e).size=s) (hx:(∃ es tk,ev T x=.sl s es tk)∨ev T x=.nil)
  (h:yL s e (lo.map (ev T)) (hi.map (ev T)) (some (ev T mx)) Γ K):o.wpIn (cX rd) nn P a w next Q:=by
 obtain ⟨_,hu⟩:=hk.get hfs (by simp);obtain ⟨⟨i,z,hi',hsz,_⟩,_⟩:=hk.get (t:=e) rfl hne;obtain ⟨hl,hh,hm,hK⟩:=h.h;have hp:=aL hT x;have hu':P.underlying t=some (.slice e):=hu;have bh:=dF hh (fU hT hi);have bl:=dF hl (fU hT lo);have bm:=dF hm (fU hT (some mx))
 have bh': ∃ k,hi.map a.eval=some (.int k 0):=by
  rcases bh with ⟨_,h⟩ | ⟨k,h⟩
  ·omega
  ·exact ⟨k,h⟩
 have bm': ∃ k,(a.eval mx)=.int k 0:=by
  rcases bm with ⟨_,h⟩ | ⟨k,h⟩
  ·omega
  ·exact ⟨k,by simpa using h⟩
 obtain ⟨k1,bh'⟩:=bh';obtain ⟨k2,bm'⟩:=bm'
 have fin: ∀ v:Value,(v=.slice none 0 0∨ ∃ ad,v=.slice (some ad) 0 0)→(execOp a.eval o).run P w=.ok (.value v) w→o.wpIn (cX rd) nn P a w next Q:=by
  intro v hv hrun
  have hown:own w0.heap.size w ⟨v,0,s,e,none⟩ []:=⟨by simp,.inl ⟨rfl,rfl,hv⟩⟩
  obtain ⟨F',hle,hS',hR⟩:=aP.row (t:=⟨v,0,s,e,none⟩) (ys:= []) (xs:= []) hS (Below.refl _ w) hown (by simp) rfl (cG F) hS.fz (fun e he k hk=>⟨rfl,by simp⟩) (by simp);exact aU hrun (hn F' _ (.tok _::Γ) v w hle hS' hR (hK _ rfl))
 have bounds: ∀ len cap,(Instr.sliceBounds true len cap (lo.map a.eval) (hi.map a.eval) (some (a.eval mx))).run P w=.ok (0,0,0) w:=by
  intro len cap;rw[bh',bm']
  rcases bl with ⟨h,_⟩ | ⟨k,h⟩
  ·rw[h]
   simp[Instr.sliceBounds,Instr.sliceBound,asIntOf]
  ·rw[h]
   simp[Instr.sliceBounds,Instr.sliceBound,asIntOf]
 have hv:(∃ len cap,a.eval x=.slice none len cap)∨ ∃ ad len cap,a.eval x=.slice (some ad) len cap:=by
  rcases hx with ⟨es,tk,hx⟩ | hx
  ·rw[hx] at hp
   rcases fq hS hp with ⟨k1 | ⟨ad,k1⟩,_⟩ | ⟨b,q,cap,vs,k1,_⟩
   ·exact .inl ⟨_,_,k1⟩
   ·exact .inr ⟨ad,_,_,k1⟩
   ·exact .inr ⟨_,_,cap,k1⟩
  ·rw[hx] at hp
   exact .inl ⟨_,_,kA hp⟩
 rcases hv with ⟨len,cap,hv⟩ | ⟨ad,len,cap,hv⟩
 ·refine fin (.slice none 0 0) (.inl rfl) ?_
  simp[execOp,hop,Instr.sliceAt,Instr.slice,run_underlying hu',hv,bounds,run_sizeOf hi']
 ·refine fin (.slice (some ad) 0 0) (.inr ⟨ad,rfl⟩) ?_
  simp only[execOp,hop,Instr.sliceAt,Instr.slice,Sem.run_bind,run_underlying hu',Result.andThen_ok,hv,Option.map_some,bounds,run_sizeOf hi',Sem.run_pure]
  split<;>simp[Addr.add]
theorem J2 (hk:TT.ok P tt) (hS:aP w0 F (Γ++M) w) (hT:aA F T a.tmps.toList) (hn:Nx w0 M F o.dst a next K) {t:TypeId} {x:Operand} {lo hi:Option Operand} (hop:o.op=.slice t x lo hi none)
  (hfs:(tt t).cq=.str) {s:List UInt8} (hx:ev T x=.str s)
  (h:ec s (lo.map (ev T)) (hi.map (ev T)) fun p=>K p Γ):o.wpIn (cX rd) nn P a w next Q:=by
 obtain ⟨_,hu⟩:=hk.get hfs (by simp);obtain ⟨l,g,hh,hl,h1,h2,hK⟩:=h.h;have hp:=aL hT x;rw[hx] at hp;have hu':P.underlying t=some .string:=hu;have bh:=dF hh (fU hT hi);have bl:=dF hl (fU hT lo);have hsz:(ByteArray.mk s.toArray).size=s.length:=by simp[ByteArray.size]
 have hb:=bW (P:=P) (isSlice:=false) (cap:=s.length) bh bl h1 h2 w;have hsl:=mm hp;refine bX hS hn (v:=.string ⟨((s.take g).drop l).toArray⟩) ?_ (by simp only[aC];exact ⟨trivial,by simp;omega⟩) hK
 have hex:(ByteArray.mk s.toArray).extract l g=⟨((s.take g).drop l).toArray⟩:=by
  apply ByteArray.ext;simp[ByteArray.data_extract,List.extract_eq_take_drop,List.drop_take]
 simp[execOp,hop,Instr.sliceAt,Instr.slice,run_underlying hu',jr hp,hsz,hb,hex]
end
section
variable {P:Program} {tt:Nat→TI} {o:Oper} {a:Act} {T:List PV} {Γ M:List aj} {K:PV→List aj→Prop} {w0 w:World} {F:Fz}
 {rd:Option Nat} {nn:Nat} {next:Act→World→Prop} {Q:Exit→Act→World→Prop}
theorem xO (us:List Value): ∀ (off k:Nat) (cs:List Value),off + us.length≤cs.length→
  ((us.zipIdx k).foldl (fun (cs:Array Value) (p:Value×Nat)=>cs.setIfInBounds (off + p.2 - k) p.1) cs.toArray)=(cs.take off++us++cs.drop (off + us.length)).toArray:=by
 induction us with
 | nil=>intro off k cs _;simp
 | cons u us ih=>
  intro off k cs hl;simp only[List.length_cons] at hl
  have e1:((u::us).zipIdx k).foldl (fun (cs:Array Value) (p:Value×Nat)=>cs.setIfInBounds (off + p.2 - k) p.1) cs.toArray
    =(us.zipIdx (k + 1)).foldl (fun (cs:Array Value) (p:Value×Nat)=>cs.setIfInBounds (off + p.2 - k) p.1) (cs.set off u).toArray:=by
   simp[List.zipIdx_cons]
  rw[e1]
  have e2:(fun (cs:Array Value) (p:Value×Nat)=>cs.setIfInBounds (off + p.2 - k) p.1)=fun cs p=>cs.setIfInBounds (off + 1 + p.2 - (k + 1)) p.1:=by
   funext cs p;congr 1;omega
  rw[e2,ih (off + 1) (k + 1) (cs.set off u) (by simp;omega)];congr 1;apply List.ext_getElem?;intro j;simp only[List.append_assoc,List.length_cons,List.getElem?_append,List.length_take,List.length_set];have hm:min off cs.length=off:=by omega
  have hm':min (off + 1) cs.length=off + 1:=by omega
  rw[hm,hm'];by_cases h1:j < off
  ·rw[if_pos h1,if_pos (by omega),List.getElem?_take,List.getElem?_take,if_pos h1,if_pos (by omega),List.getElem?_set_ne (by omega)]
  ·rw[if_neg h1]
   by_cases h2:j=off
   ·subst h2
    rw[if_pos (by omega),List.getElem?_take,if_pos (by omega),List.getElem?_set_self (by omega)];simp
   ·rw[if_neg (by omega)]
    have h3:j - off=(j - (off + 1)) + 1:=by omega
    rw[h3];simp only[List.getElem?_cons_succ,List.getElem?_drop];by_cases h4:j - (off + 1) < us.length
    ·rw[if_pos h4,if_pos (by omega)]
    ·rw[if_neg h4,if_neg (by omega)]
     rw[List.getElem?_set_ne (by omega)];congr 1;omega
theorem ED (place:Nat→Option (Nat×Nat)) (fs:List (Nat×Nat×Bool)) (hp: ∀ i x,fs[i]?=some x→place i=some (x.1,x.2.1)) (hT:aA F T a.tmps.toList):
  ∀ (parts:List (Nat×Operand)) (cs:List PV) (vs:List Value) (k:List PV→Prop),aQ F cs vs→mW fs T parts cs k→
   ∃ cs' vs',Instr.fill place vs.toArray (parts.map fun p=>(p.1,a.eval p.2))=some (List.toArray vs')∧aQ F cs' vs'∧k cs'
 | [],cs,vs,k,hr,h=>⟨cs,vs,rfl,hr,h⟩
 | (i,x)::r,cs,vs,k,hr,h=>by
  simp only[mW,aI,ux] at h
  split at h
  ·exact h.elim
  ·rename_i off n g hi
   split at h
   ·exact h.elim
   ·rename_i hc
    split at h
    ·exact h.elim
    ·rename_i hl
     have hl:=eA hl
     split at h
     ·exact h.elim
     ·rename_i hb
      have hb:=Nat.le_of_ble_eq_true hb;simp only[fO,dQ,fR] at h;have hx:=n4 (aL hT x) hc;have l1:=hx.length;have l2:=hr.length
      have hr':aQ F (cs.take off++((ev T x).cellsOf++cs.drop (off + n))) (vs.take off++((a.eval x).cells.toList++vs.drop (off + n))):=
       bH (cU _ hr) (bH hx (dg _ hr))
      obtain ⟨cs',vs',h1,h2,h3⟩:=ED place fs hp hT r _ _ k hr' h;refine ⟨cs',vs',?_,h2,h3⟩;simp only[List.map_cons,Instr.fill,hp i _ hi];have hsz:(a.eval x).cells.size=n:=by rw[←Array.length_toList, ←l1,hl]
      have e1:((decide ((a.eval x).cells.size≠n) || decide (off + (a.eval x).cells.size > vs.toArray.size))=true)↔False:=by
       simp[hsz];omega
      rw[if_neg (by rw[e1];exact id)];have:=xO (a.eval x).cells.toList off 0 vs (by simp[hsz];omega);simp only[Nat.sub_zero] at this;rw[←h1];congr 1
      have hz:(a.eval x).cells.zipIdx.foldl (fun cs (p:Value×Nat)=>match p with | (c,j)=>cs.setIfInBounds (off + j) c) vs.toArray
        =((a.eval x).cells.toList.zipIdx 0).foldl (fun (cs:Array Value) (p:Value×Nat)=>cs.setIfInBounds (off + p.2) p.1) vs.toArray:=by
       rw[←Array.foldl_toList];simp
      rw[hz,this];simp[hsz]
theorem L4 (hk:TT.ok P tt) (hS:aP w0 F (Γ++M) w) (hT:aA F T a.tmps.toList) (hn:Nx w0 M F o.dst a next K) {t:TypeId} {parts:Array (Nat×Operand)} (hop:o.op=.build t parts)
  {fs:List (Nat×Nat×Bool)} (hfs:(tt t).cq=.st fs) (h:mW fs T parts.toList (zeroOf (tt t)) fun cs=>K (.agg cs) Γ):o.wpIn (cX rd) nn P a w next Q:=by
 obtain ⟨⟨i,z,hi,h1,h2,hz,hzc,h3⟩,fields,hu,hf⟩:=hk.get hfs (by simp)
 have hrun:(fields.mapM (fun f=>(do pure (f.offset, ←sizeOf f.type):Sem (Nat×Nat)))).run P w=.ok (fields.map fun f=>(f.offset,((P.info? f.type).map (·.size)).getD 0)) w:=by
  have hall: ∀ f∈fields.toList, ∃ i,P.info? f.type=some i:=by
   intro f hfm;obtain ⟨k,hk'⟩:=List.getElem?_of_mem hfm
   have hlen: ∀ (l:List Field) (r:List (Nat×Nat×Bool)),fK P l r→l.length=r.length:=by
    intro l
    induction l with
    | nil=>intro r h;cases r<;>simp[fK] at h⊢
    | cons x l ih=>intro r h;cases r with
     | nil=>simp[fK] at h
     | cons y r=>simp[ih r h.2]
   have hl:=hlen _ _ hf;have hkl:k < fs.length:=by rw[←hl];exact (List.getElem?_eq_some_iff.1 hk').1
   obtain ⟨f',g1,_,⟨i,g3,_⟩,_⟩:=gL hf (List.getElem?_eq_getElem hkl);rw[hk'] at g1;cases g1;exact ⟨i,g3⟩
  have key: ∀ l:List Field,(∀ f∈l, ∃ i,P.info? f.type=some i)→(l.mapM (fun f=>(do pure (f.offset, ←sizeOf f.type):Sem (Nat×Nat)))).run P w=.ok (l.map fun f=>(f.offset,((P.info? f.type).map (·.size)).getD 0)) w:=by
   intro l
   induction l with
   | nil=>intro _;simp
   | cons x l ih=>
    intro hx;obtain ⟨i,hi⟩:=hx x (by simp);have:=ih fun f hf=>hx f (by simp[hf]);simp only[List.mapM_cons,Sem.run_bind,run_sizeOf hi,Result.andThen_ok,Sem.run_pure,this,List.map_cons,hi,Option.map_some,Option.getD_some]
  rw[Array.mapM_eq_mapM_toList,Sem.run_map,key _ hall];simp only[Result.andThen_ok];congr 1;apply Array.ext';simp
 have hplace: ∀ (i:Nat) (x:Nat×Nat×Bool),fs[i]?=some x→(fun (i:Nat)=>(fields.map fun f=>(f.offset,((P.info? f.type).map (·.size)).getD 0))[i]?) i=some (x.1,x.2.1):=by
  intro i x hx;obtain ⟨f,g1,g2,⟨j,g3,g4⟩,_⟩:=gL hf hx;have g1':fields[i]?=some f:=by simpa using g1
  simp[g1',g2,g3,g4]
 obtain ⟨cs',vs',k1,k2,k3⟩:=ED _ fs hplace hT parts.toList (zeroOf (tt t)) z.cells.toList _ (by rw[hzc];exact ZK.o9 F _) h;refine bX hS hn (v:=.agg vs'.toArray) ?_ (by simp only[aC];exact ⟨vs',rfl,k2⟩) k3
 have k1':Instr.fill (fun (i:Nat)=>(fields.map fun f=>(f.offset,((P.info? f.type).map (·.size)).getD 0))[i]?) z.cells (parts.map fun (i,x)=>(i,a.eval x)).toList=some vs'.toArray:=by
  have e2:(parts.map fun (i,x)=>(i,a.eval x)).toList=parts.toList.map fun p=>(p.1,a.eval p.2):=by simp
  rw[e2];simpa using k1
 simp only[execOp,hop,Instr.build,Sem.run_bind,zeroValue,typeInfo,run_program,Result.andThen_ok,hi,Sem.run_pure,hz,run_underlying hu,hrun,k1']
end
section
variable {P:Program} {tt:Nat→TI} {o:Oper} {a:Act} {T:List PV} {Γ M:List aj} {K:PV→List aj→Prop} {w0 w:World} {F:Fz}
 {rd:Option Nat} {nn:Nat} {next:Act→World→Prop} {Q:Exit→Act→World→Prop}
def zo:Nat→List (Nat×Operand)→Prop
 | _, []=>True
 | j,(i,_)::r=>i=j∧zo (j + 1) r
theorem wg: ∀ (ops:List (Nat×Operand)) (j:Nat) (k:List PV→Prop),mo T j ops k→zo j ops∧k (ops.map fun p=>ev T p.2)
 | [],_,_,h=>⟨trivial,h⟩
 | (i,x)::r,j,k,h=>by
  simp only[mo,aI] at h
  split at h
  ·exact h.elim
  ·rename_i hb
   have:=wg r (j + 1) _ h;exact ⟨⟨Nat.eq_of_beq_eq_true hb,this.1⟩,this.2⟩
theorem u7 (s:Nat) (hT:aA F T a.tmps.toList): ∀ (ops:List (Nat×Operand)) (j:Nat) (vs:List Value),zo j ops→
  (∀ p∈ops,(ev T p.2).cellsOf.length=s∧(ev T p.2).cB=true)→vs.length=(j + ops.length) * s→
  ∃ us,Instr.fill (fun i=>some (i * s,s)) vs.toArray (ops.map fun p=>(p.1,a.eval p.2))=some (vs.take (j * s)++us).toArray∧aQ F (flat (ops.map fun p=>ev T p.2)) us
 | [],j,vs,_,_,hl=>⟨[],by simp only[Instr.fill,List.map_nil,List.append_nil];rw[List.take_of_length_le (by simp at hl;omega)],by simp[flat,aQ]⟩
 | (i,x)::r,j,vs,ho,hx,hl=>by
  obtain ⟨rfl,ho⟩:=ho;obtain ⟨h1,h2⟩:=hx (i,x) (by simp);have hxc:=n4 (aL hT x) h2;have l1:=hxc.length;have hsz:(a.eval x).cells.size=s:=by rw[←Array.length_toList, ←l1,h1]
  have hlen:(i + 1) * s≤vs.length:=by rw[hl];exact Nat.mul_le_mul_right _ (by simp)
  rw[Nat.succ_mul] at hlen
  obtain ⟨us,k1,k2⟩:=u7 s hT r (i + 1) (vs.take (i * s)++(a.eval x).cells.toList++vs.drop (i * s + s)) ho (fun p hp=>hx p (by simp[hp]))
   (by simp[hsz];rw[hl] at hlen ⊢; simp only[List.length_cons] at hlen ⊢; rw[show i + (r.length + 1)=i + 1 + r.length by omega] at hlen ⊢; omega)
  refine ⟨(a.eval x).cells.toList++us,?_,?_⟩
  ·simp only[List.map_cons,Instr.fill]
   have e1:((decide ((a.eval x).cells.size≠s) || decide (i * s + (a.eval x).cells.size > vs.toArray.size))=true)↔False:=by
    simp[hsz];omega
   rw[if_neg (by rw[e1];exact id)];have:=xO (a.eval x).cells.toList (i * s) 0 vs (by simp[hsz];omega);simp only[Nat.sub_zero] at this
   have hz:(a.eval x).cells.zipIdx.foldl (fun cs (p:Value×Nat)=>match p with | (c,j)=>cs.setIfInBounds (i * s + j) c) vs.toArray
     =((a.eval x).cells.toList.zipIdx 0).foldl (fun (cs:Array Value) (p:Value×Nat)=>cs.setIfInBounds (i * s + p.2) p.1) vs.toArray:=by
    rw[←Array.foldl_toList];simp
   rw[hz,this];have hcl:(a.eval x).cells.toList.length=s:=by simpa using hsz
   rw[hcl,k1];congr 2;rw[Nat.succ_mul]
   have:(vs.take (i * s)++(a.eval x).cells.toList++vs.drop (i * s + s)).take (i * s + s)=vs.take (i * s)++(a.eval x).cells.toList:=by
    rw[List.take_append_of_le_length (by simp[hsz];omega),List.take_of_length_le (by simp[hsz];omega)]
   rw[this,List.append_assoc]
  ·simp only[List.map_cons,flat,List.flatMap_cons] at k2⊢
   exact bH hxc k2
theorem DU (hk:TT.ok P tt) (hS:aP w0 F (Γ++M) w) (hT:aA F T a.tmps.toList) (hn:Nx w0 M F o.dst a next K) {t:TypeId} {parts:Array (Nat×Operand)} (hop:o.op=.build t parts)
  {e n:Nat} (hfs:(tt t).cq=.arr n e) (hne:(tt e).cq≠.other) (hsz0:(tt t).size=n * (tt e).size)
  (h:mo T 0 parts.toList fun ys=>ys.length=n∧AL (tt e).size ys fun cs=>K (.agg cs) Γ):o.wpIn (cX rd) nn P a w next Q:=by
 obtain ⟨⟨i0,z,hi0,h1,h2,hz,hzc,h3⟩,hu⟩:=hk.get hfs (by simp);obtain ⟨⟨i,z',hi,hsz,hby,hz',hzc',h3'⟩,_⟩:=hk.get (t:=e) rfl hne;have hu':P.underlying t=some (.array n e):=hu;obtain ⟨ho,hlen,hr⟩:=wg _ _ _ h;obtain ⟨r1,r2,r3⟩:=hr.h;have hpl:parts.toList.length=n:=by simpa using hlen
 have hzl:z.cells.toList.length=n * (tt e).size:=by rw[Array.length_toList,h3,hsz0]
 obtain ⟨us,k1,k2⟩:=u7 (tt e).size hT parts.toList 0 z.cells.toList ho
  (fun p hp=>⟨r1 _ (List.mem_map_of_mem hp),r2 _ (List.mem_map_of_mem hp)⟩) (by rw[hzl,hpl,Nat.zero_add])
 simp only[Nat.zero_mul,List.take_zero,List.nil_append,Array.toArray_toList] at k1;have e2:(parts.map fun (i,x)=>(i,a.eval x)).toList=parts.toList.map fun p=>(p.1,a.eval p.2):=by simp
 refine bX hS hn (v:=.agg us.toArray) ?_ (by simp only[aC];exact ⟨us,rfl,k2⟩) r3;simp only[execOp,hop,Instr.build,Sem.run_bind,zeroValue,typeInfo,run_program,Result.andThen_ok,hi0,Sem.run_pure,hz,run_underlying hu',run_sizeOf hi,hsz,e2,k1]
theorem Au (hk:TT.ok P tt) (hS:aP w0 F (Γ++M) w) (hT:aA F T a.tmps.toList) (hn:Nx w0 M F o.dst a next K) {t:TypeId} {len:Nat} {parts:Array (Nat×Operand)} (hop:o.op=.buildSlice t len parts)
  {e:Nat} (hfs:(tt t).cq=.sl e) (hne:(tt e).cq≠.other)
  (h:mo T 0 parts.toList fun ys=>ys.length=len∧(len≤16777216∧len * (tt e).size≤16777216)∧kT (tt e).size ys e fun x t=>K x (t::Γ)):o.wpIn (cX rd) nn P a w next Q:=by
 obtain ⟨_,hu⟩:=hk.get hfs (by simp);obtain ⟨⟨i,z,hi,hsz,hby,hz,hzc,h3⟩,_⟩:=hk.get (t:=e) rfl hne;have hu':P.underlying t=some (.slice e):=hu;obtain ⟨ho,hlen,⟨hsm0,hsm⟩,hr⟩:=wg _ _ _ h;obtain ⟨r1,r2,r3⟩:=hr.h;have hpl:parts.toList.length=len:=by simpa using hlen
 have fin: ∀ zs:List Value,zs.length=len * (tt e).size→
   (execOp a.eval o).run P w=(match Instr.fill (fun i=>some (i * (tt e).size,(tt e).size)) zs.toArray (parts.toList.map fun p=>(p.1,a.eval p.2)) with
    | some cells=>.ok (.value (.slice (some ⟨w.heap.size,0,none⟩) len len)) (w.alloc (.cells cells e))
    | none=>.halt (.stuck "buildSlice: a part of the wrong size") w)→o.wpIn (cX rd) nn P a w next Q:=by
  intro zs hz hrun
  obtain ⟨us,k1,k2⟩:=u7 (tt e).size hT parts.toList 0 zs ho
   (fun p hp=>⟨r1 _ (List.mem_map_of_mem hp),r2 _ (List.mem_map_of_mem hp)⟩) (by rw[hz,hpl,Nat.zero_add])
  simp only[Nat.zero_mul,List.take_zero,List.nil_append] at k1;rw[k1] at hrun;rcases r3 with r3 | r3
  ·obtain ⟨F',hle,hS',hR⟩:=aP.newRow hS e (tt e).size (ys:=parts.toList.map fun p=>ev T p.2) r1 k2 (by
    simp only[List.length_map,hpl,maxLen];omega)
   simp only[List.length_map,hpl] at hS' hR;exact aU hrun (hn F' _ _ _ _ hle hS' hR (r3 _ rfl))
  ·have l2:=k2.length
   rw[cm r1,List.length_map,hpl] at l2;have hS':=aP.Af hS e (tt e).size len len (ys:=parts.toList.map fun p=>ev T p.2) (vs:=us) (us:= []) r1 k2 (by rw[List.length_map,hpl]) (Nat.le_refl _) (by simp only[maxLen];omega) (by rw[List.append_nil, ←l2]);rw[List.append_nil] at hS';exact aU hrun (hn F (.ms _) _ _ _ (Fz.le_refl F) hS' (by simp only[aC];exact ⟨trivial,rfl⟩) (r3 _ rfl rfl))
 have e2:(parts.map fun (i,x)=>(i,a.eval x)).toList=parts.toList.map fun p=>(p.1,a.eval p.2):=by simp
 by_cases h0:len * (tt e).size=0
 ·refine fin [] (by simp[h0]) ?_
  simp only[execOp,hop,Instr.buildSlice,Sem.run_bind,run_underlying hu',Result.andThen_ok,run_sizeOf hi,hsz,h0,if_true,Sem.run_pure,Sem.run_ite,Result.andThen_ite,e2];simp only[show ¬ (0 > 2 ^ 24) by omega,if_false,Array.range_zero',Array.map_empty];cases Instr.fill (fun i=>some (i * (tt e).size,(tt e).size)) #[] (parts.toList.map fun p=>(p.1,a.eval p.2))<;>rfl
 ·refine fin ((List.range (len * (tt e).size)).map fun i=>z.cells[i % z.cells.size]!) (by simp) ?_
  simp only[execOp,hop,Instr.buildSlice,Sem.run_bind,run_underlying hu',Result.andThen_ok,run_sizeOf hi,hsz,h0,if_false,Sem.run_pure,Sem.run_ite,e2,
   show ¬ (len * (tt e).size > 2 ^ 24) by omega,zeroValue,typeInfo,run_program,hi,hz]
  have e3:(Array.map (fun x=>z.cells[x % z.cells.size]!) (Array.range (len * (tt e).size)))=((List.range (len * (tt e).size)).map fun i=>z.cells[i % z.cells.size]!).toArray:=by
   apply Array.ext';simp
  rw[e3];cases Instr.fill (fun i=>some (i * (tt e).size,(tt e).size)) ((List.range (len * (tt e).size)).map fun i=>z.cells[i % z.cells.size]!).toArray (parts.toList.map fun p=>(p.1,a.eval p.2))<;>rfl
end
section
variable {P:Program} {tt:Nat→TI} {o:Oper} {a:Act} {T:List PV} {Γ M:List aj} {K:PV→List aj→Prop} {w0 w:World} {F:Fz}
 {rd:Option Nat} {nn:Nat} {next:Act→World→Prop} {Q:Exit→Act→World→Prop}
theorem dY (op:BinOp) (t:TypeId) (x y:Operand) (u v:Value) (hu: ∀ cs,u≠.agg cs) (hv:u≠.nilIface):(eqGuard op t x y u v).run P w=.ok () w:=by
 unfold eqGuard
 cases op<;>first | rfl | (cases u<;>first | exact absurd rfl hv | exact absurd rfl (hu _) | rfl)
theorem sO (s:List UInt8):(ByteArray.mk s.toArray).toList=s:=ByteArray.toList_mk s
theorem yY (w:World) {t e:TypeId} (c:Option Addr) (n m:Nat) (h:P.underlying t=some (.slice e)):(binOp .eql t (.slice c n m) (.slice none 0 0)).run P w=.ok (.bool c.isNone) w:=by
 have h: ∀ d:Nat,(Op.equalIn (d + 1) t (.slice c n m) (.slice none 0 0)).run P w=.ok c.isNone w:=fun d=>by
  cases c<;>simp[Op.equalIn,run_underlying h]
 simp only[binOp];simp[Op.equal,Op.maxDepth,h 9999]
theorem yZ (w:World) {t e:TypeId} (c:Option Addr) (n m:Nat) (h:P.underlying t=some (.slice e)):(binOp .neq t (.slice c n m) (.slice none 0 0)).run P w=.ok (.bool (!c.isNone)) w:=by
 have h: ∀ d:Nat,(Op.equalIn (d + 1) t (.slice c n m) (.slice none 0 0)).run P w=.ok c.isNone w:=fun d=>by
  cases c<;>simp[Op.equalIn,run_underlying h]
 simp only[binOp];simp[Op.equal,Op.maxDepth,h 9999]
theorem v7 {s:Nat} {es:List PV} {tk:Option Tok} {v:Value} (h:aC F (.sl s es tk) v): ∃ c n m,v=.slice c n m∧(c.isNone=true→es= []):=by
 simp only[aC] at h
 rcases h.2 with ⟨h1,h2⟩ | ⟨b,o,cap,h1,_⟩ | ⟨h1,a,h2⟩
 ·exact ⟨_,_,_,h1,fun _=>h2⟩
 ·exact ⟨_,_,_,h1,fun h=>by cases h⟩
 ·exact ⟨_,_,_,h2,fun _=>h1⟩
theorem jy {v:Value} (h:aC F .nil v):v=.slice none 0 0:=by simpa only[aC] using h
theorem PF (hk:TT.ok P tt) (hS:aP w0 F (Γ++M) w) (hT:aA F T a.tmps.toList) (hn:Nx w0 M F o.dst a next K) {op:BinOp} {t u:TypeId} {x y:Operand} (hop:o.op=.binOp op t x y u)
  (h:mI op (tt t).cq (ev T x) (ev T y) fun p=>K p Γ):o.wpIn (cX rd) nn P a w next Q:=by
 have hp:=aL hT x;have hq:=aL hT y
 have fin: ∀ {p:PV} {v:Value},(eqGuard op t x y (a.eval x) (a.eval y)).run P w=.ok () w→(binOp op t (a.eval x) (a.eval y)).run P w=.ok v w→aC F p v→K p Γ→o.wpIn (cX rd) nn P a w next Q:=by
  intro p v h1 h2 h3 h4;refine bX hS hn (v:=v) ?_ h3 h4;simp only[execOp,hop,Sem.run_bind,h1,Result.andThen_ok,h2,Sem.run_pure]
 unfold mI at h
 split at h
 ·
  rename_i k n k' m hx hy;rw[hx] at hp;rw[hy] at hq;have ex:=bV hp;have ey:=bV hq;rw[ex,ey] at fin;have hg:(eqGuard op t x y (.int k n) (.int k' m)).run P w=.ok () w:=dY _ _ _ _ _ _ (by simp) (by simp)
  split at h
  ·have h':=h.h
   refine fin hg (p:=.int k _) (v:=.int k (k.wrap (n * 2 ^ (min m.toNat k.bits)))) ?_ (by simp[aC]) h'.2;simp[binOp,Op.shift,Int.not_lt.2 h'.1]
  ·have h':=h.h
   refine fin hg (p:=.int k _) (v:=.int k (n.fdiv (2 ^ (min m.toNat k.bits)))) ?_ (by simp[aC]) h'.2;simp[binOp,Op.shift,Int.not_lt.2 h'.1]
  ·split at h
   ·exact h.elim
   ·rename_i hk'
    have hk':=IE.1 hk';subst hk'
    split at h
    ·exact fin hg (v:=.int k (k.wrap (n + m))) (by simp[binOp,Op.intArith]) (by simp[aC]) h.h
    ·exact fin hg (v:=.int k (k.wrap (n - m))) (by simp[binOp,Op.intArith]) (by simp[aC]) h.h
    ·exact fin hg (v:=.int k (k.wrap (n * m))) (by simp[binOp,Op.intArith]) (by simp[aC]) h.h
    ·exact fin hg (v:=.int k (k.wrap (n.tdiv m))) (by simp[binOp,Op.intDiv,h.h.1]) (by simp[aC]) h.h.2.h
    ·exact fin hg (v:=.int k (n.tmod m)) (by simp[binOp,Op.intDiv,h.h.1]) (by simp[aC]) h.h.2
    ·exact fin hg (v:=.bool (n == m)) (by simp[binOp,Op.intCmp]) (by simp[aC]) h
    ·exact fin hg (v:=.bool (n !=m)) (by simp[binOp,Op.intCmp]) (by simp[aC]) h
    ·exact fin hg (v:=.bool (decide (n < m))) (by simp[binOp,Op.intCmp]) (by simp[aC]) h
    ·exact fin hg (v:=.bool (decide (n≤m))) (by simp[binOp,Op.intCmp]) (by simp[aC]) h
    ·exact fin hg (v:=.bool (decide (n > m))) (by simp[binOp,Op.intCmp]) (by simp[aC]) h
    ·exact fin hg (v:=.bool (decide (n≥m))) (by simp[binOp,Op.intCmp]) (by simp[aC]) h
    ·exact fin hg (v:=.int k (bitsOf .and k n m)) (by simp[binOp,Op.intBits,bitsOf]) (by simp[aC]) h
    ·exact fin hg (v:=.int k (bitsOf .or k n m)) (by simp[binOp,Op.intBits,bitsOf]) (by simp[aC]) h
    ·exact fin hg (v:=.int k (bitsOf .xor k n m)) (by simp[binOp,Op.intBits,bitsOf]) (by simp[aC]) h
    ·exact fin hg (v:=.int k (bitsOf .andNot k n m)) (by simp[binOp,Op.intBits,bitsOf]) (by simp[aC]) h
    ·exact h.elim
 ·
  rename_i n m hx hy;rw[hx] at hp;rw[hy] at hq;have ex:=jr hp;have ey:=jr hq;rw[ex,ey] at fin;have hg:(eqGuard op t x y (.string ⟨n.toArray⟩) (.string ⟨m.toArray⟩)).run P w=.ok () w:=dY _ _ _ _ _ _ (by simp) (by simp)
  split at h
  ·have h':=h.h
   have hl: ¬ (((ByteArray.mk n.toArray).size + (ByteArray.mk m.toArray).size:Nat):Int) > IntKind.i64.max:=by
    have:=h'.1;simp[ByteArray.size,maxLen] at this ⊢;omega
   have ea:(ByteArray.mk n.toArray)++(ByteArray.mk m.toArray)=⟨(n++m).toArray⟩:=by
    apply ByteArray.ext;simp
   refine fin hg (v:=.string ⟨(n++m).toArray⟩) ?_ (by simp only[aC];exact ⟨trivial,by have:=h'.1;simp[maxLen] at this ⊢; omega⟩) h'.2;simp only[binOp,Op.stringOp,hl,if_false,ea,Sem.run_pure]
  ·exact fin hg (v:=.bool (n == m)) (by simp only[binOp,Op.stringOp,sO,Sem.run_pure]) (by simp[aC]) h
  ·exact fin hg (v:=.bool (!(n == m))) (by simp only[binOp,Op.stringOp,sO,Sem.run_pure]) (by simp[aC]) h
  ·exact h.elim
 ·
  split at h
  ·rename_i e hd
   obtain ⟨_,hu⟩:=hk.get (t:=t) hd (by simp);have hu':P.underlying t=some (.pointer e):=hu;have hpe:P.underlying t=some (.pointer (P.pointee t)):=by rw[hu'];simp[Program.pointee,hu']
   have key: ∀ (c:Option Addr),a.eval x=.pointer c→a.eval y=.pointer none→ ∀ p:PV,aC F p (.bool c.isNone)→K p Γ→o.wpIn (cX rd) nn P a w next Q:=by
    intro c ex ey p h1 h2;rw[ex,ey] at fin;exact fin (dY _ _ _ _ _ _ (by simp) (by simp)) (run_eql_pointer_nil w t c hpe) h1 h2
   unfold mI.ptrEqK at h
   split at h<;>first | exact h.elim | skip
   all_goals (rename_i hx hy;rw[hx] at hp;rw[hy] at hq)
   ·exact key _ (mj hp) (mj hq) _ (by simp[aC]) h
   ·exact key _ (iL hp) (mj hq) _ (by simp[aC]) h
   ·obtain ⟨b,q,ex,_⟩:=pe hp
    exact key _ ex (mj hq) _ (by simp[aC]) h
  ·rename_i e hd
   obtain ⟨_,hu⟩:=hk.get (t:=t) hd (by simp);have hu':P.underlying t=some (.pointer e):=hu;have hpe:P.underlying t=some (.pointer (P.pointee t)):=by rw[hu'];simp[Program.pointee,hu']
   have key: ∀ (c:Option Addr),a.eval x=.pointer c→a.eval y=.pointer none→ ∀ p:PV,aC F p (.bool (!c.isNone))→K p Γ→o.wpIn (cX rd) nn P a w next Q:=by
    intro c ex ey p h1 h2;rw[ex,ey] at fin;exact fin (dY _ _ _ _ _ _ (by simp) (by simp)) (run_neq_pointer_nil w t c hpe) h1 h2
   unfold mI.ptrEqK at h
   split at h<;>first | exact h.elim | skip
   all_goals (rename_i hx hy;rw[hx] at hp;rw[hy] at hq)
   ·exact key _ (mj hp) (mj hq) _ (by simp[aC]) h
   ·exact key _ (iL hp) (mj hq) _ (by simp[aC]) h
   ·obtain ⟨b,q,ex,_⟩:=pe hp
    exact key _ ex (mj hq) _ (by simp[aC]) h
  ·rename_i hd
   obtain ⟨_,hu⟩:=hk.get (t:=t) hd (by simp);have hu':P.underlying t=some .bool:=hu
   have key: ∀ (c d:Bool),a.eval x=.bool c→a.eval y=.bool d→ ∀ p:PV,aC F p (.bool (c == d))→K p Γ→o.wpIn (cX rd) nn P a w next Q:=by
    intro c d ex ey p h1 h2;rw[ex,ey] at fin;exact fin (dY _ _ _ _ _ _ (by simp) (by simp)) (run_eql_bool w t c d hu') h1 h2
   unfold mI.boolEqK at h
   split at h<;>first | exact h.elim | skip
   all_goals (rename_i hx hy;rw[hx] at hp;rw[hy] at hq)
   ·exact key _ _ (cQ hp) (cQ hq) _ (by simp[aC]) h
   ·exact key _ _ (cQ hp) (bK hq) _ (by simp[aC]) h
   ·exact key _ _ (cQ hp) (bw hq) _ (by simp[aC]) h
   ·exact key _ _ (bK hp) (cQ hq) _ (by simp[aC]) h
   ·exact key _ _ (bw hp) (cQ hq) _ (by simp[aC]) h
   ·exact key _ _ (bK hp) (bK hq) _ (by simp[aC]) h
   ·exact key _ _ (bw hp) (bw hq) _ (by simp[aC]) h
   ·exact key _ _ (bK hp) (bw hq) _ (by simp[aC]) h
   ·exact key _ _ (bw hp) (bK hq) _ (by simp[aC]) h
  ·rename_i hd
   obtain ⟨_,hu⟩:=hk.get (t:=t) hd (by simp);have hu':P.underlying t=some .bool:=hu
   have key: ∀ (c d:Bool),a.eval x=.bool c→a.eval y=.bool d→ ∀ p:PV,aC F p (.bool (!(c == d)))→K p Γ→o.wpIn (cX rd) nn P a w next Q:=by
    intro c d ex ey p h1 h2;rw[ex,ey] at fin;exact fin (dY _ _ _ _ _ _ (by simp) (by simp)) (run_neq_bool w t c d hu') h1 h2
   unfold mI.boolEqK at h
   split at h<;>first | exact h.elim | skip
   all_goals (rename_i hx hy;rw[hx] at hp;rw[hy] at hq)
   ·exact key _ _ (cQ hp) (cQ hq) _ (by simp only[aC];rfl) h
   ·exact key _ _ (cQ hp) (bK hq) _ (by simp only[aC];rfl) h
   ·exact key _ _ (cQ hp) (bw hq) _ (by simp only[aC];rfl) h
   ·exact key _ _ (bK hp) (cQ hq) _ (by simp only[aC];rfl) h
   ·exact key _ _ (bw hp) (cQ hq) _ (by simp only[aC];rfl) h
   ·exact key _ _ (bK hp) (bK hq) _ (by simp[aC]) h
   ·exact key _ _ (bw hp) (bw hq) _ (by simp[aC]) h
   ·exact key _ _ (bK hp) (bw hq) _ (by simp[aC]) h
   ·exact key _ _ (bw hp) (bK hq) _ (by simp[aC]) h
  ·rename_i e hd
   obtain ⟨_,hu⟩:=hk.get (t:=t) hd (by simp);have hu':P.underlying t=some (.slice e):=hu
   have key: ∀ (c:Option Addr) (n m:Nat),a.eval x=.slice c n m→a.eval y=.slice none 0 0→ ∀ p:PV,aC F p (.bool c.isNone)→K p Γ→o.wpIn (cX rd) nn P a w next Q:=by
    intro c n m ex ey p h1 h2;rw[ex,ey] at fin;exact fin (dY _ _ _ _ _ _ (by simp) (by simp)) (yY w c n m hu') h1 h2
   unfold mI.slNilK at h
   split at h<;>first | exact h.elim | skip
   all_goals (rename_i hx hy;rw[hx] at hp;rw[hy] at hq)
   ·exact key _ _ _ (jy hp) (jy hq) _ (by simp[aC]) h
   ·obtain ⟨c,n,m,e1,e2⟩:=v7 hp
    exact key _ _ _ e1 (jy hq) _ (by simp[aC]) (h.h c.isNone e2)
  ·rename_i e hd
   obtain ⟨_,hu⟩:=hk.get (t:=t) hd (by simp);have hu':P.underlying t=some (.slice e):=hu
   have key: ∀ (c:Option Addr) (n m:Nat),a.eval x=.slice c n m→a.eval y=.slice none 0 0→ ∀ p:PV,aC F p (.bool (!c.isNone))→K p Γ→o.wpIn (cX rd) nn P a w next Q:=by
    intro c n m ex ey p h1 h2;rw[ex,ey] at fin;exact fin (dY _ _ _ _ _ _ (by simp) (by simp)) (yZ w c n m hu') h1 h2
   unfold mI.slNilK at h
   split at h<;>first | exact h.elim | skip
   all_goals (rename_i hx hy;rw[hx] at hp;rw[hy] at hq)
   ·exact key _ _ _ (jy hp) (jy hq) _ (by simp[aC]) h
   ·obtain ⟨c,n,m,e1,e2⟩:=v7 hp
    exact key _ _ _ e1 (jy hq) _ (by simp[aC]) (h.h c.isNone e2)
  ·exact h.elim
end
end Go.Cb


