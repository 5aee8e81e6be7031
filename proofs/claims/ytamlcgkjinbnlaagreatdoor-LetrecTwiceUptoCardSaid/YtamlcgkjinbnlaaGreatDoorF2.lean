/-
 The rules of maps, of arrays and of conversions are sound.
 The rules of loops over maps, and of structs against one another, are sound.
 Each operation's rule is sound: all of them together.
 The rules depend on the temporaries by their operands alone, and are monotone.
 The logic of code is sound; a function's contract from its body.
 A function's contract from its body; how the logic's choices are made.
 How the logic's choices are made: weakening, picking an entry, calls, loops.
 A region whose order is drawn: stable operations, a chain of effects, a tail; every order gives the same.
 The game of a drawn region, and the rule.
 The logic of code is monotone.
-/
import Derived.DefersIn
import Derived.Lib.AppendZeros
import Derived.Maps.RangeRun
import Derived.OrdersIn
import Derived.RangeFuncLeaves
import Derived.Scope
import Derived.ScopeJumps
import Derived.TacticsIn
import Derived.Test.YtamlcgkjinbnlaaGreatDoorF1
set_option linter.unusedSimpArgs false
set_option linter.unusedVariables false
namespace Go.Cb
open Go.RowKit (Below)
open Go.MapKept (IsKey)
section
variable {P:Program} {tt:Nat→TI} {o:Oper} {a:Act} {T:List PV} {Γ M:List aj} {K:PV→List aj→Prop} {w0 w:World} {F:Fz}
 {rd:Option Nat} {nn:Nat} {next:Act→World→Prop} {Q:Exit→Act→World→Prop}
theorem qq (hk:TT.ok P tt) {kt:Nat} {d:TypeDesc} (h:oY tt (tt kt).cq=some d):P.underlying kt=some d:=by
 unfold oY at h
 split at h
 ·rename_i hd;cases h;exact (hk.get hd (by simp)).2
 ·rename_i hd;cases h;exact (hk.get hd (by simp)).2
 ·rename_i hd;cases h;exact (hk.get hd (by simp)).2
 ·rename_i hd
  split at h
  ·cases h;exact (hk.get hd (by simp)).2
  ·cases h
 ·cases h
theorem uv (hk:TT.ok P tt) {kt:Nat} {d:TypeDesc} (h:oY tt (tt kt).cq=some d):uE P d:=by
 unfold oY at h
 split at h
 ·cases h;intro n e q;cases q
 ·cases h;intro n e q;cases q
 ·cases h;intro n e q;cases q
 ·split at h
  ·rename_i hu hs
   cases h;intro n e q;cases q;obtain ⟨⟨i,z,hi,hz,_⟩,hu'⟩:=hk.get hu (by simp);exact ⟨hu',i,hi,by rw[hz,hs]⟩
  ·cases h
 ·cases h
theorem qs {x:PV} {v k:Value} (h:aC F x v) (hk:wS x=some k):v=k:=by
 unfold wS at hk
 split at hk
 ·cases hk;exact bV h
 ·cases hk;exact jr h
 ·cases hk;exact cQ h
 ·split at hk
  ·cases hk
   obtain ⟨vs,rfl,hr⟩:=uy h
   match vs,hr with
   | [u1,u2],hr=>
    have h1:=cg.1 hr;have h2:=cg.1 h1.2;rw[bV h1.1.2,bV h2.1.2]
   | [],hr=>simp[aQ] at hr
   | [_],hr=>simp[aQ] at hr
   | _::_::_::_,hr=>simp[aQ] at hr
  ·cases hk
 ·cases hk
def r5 (ti:TI):PV:=mK ti.cq.agg (ti.zero.map ZK.pv) id
theorem iJ {q:Sort _} (g:Bool) (cs:List PV) (k:PV→q):mK g cs k=k (mK g cs id):=by
 unfold mK;cases g<;>cases cs<;>rfl
theorem yz (hk:TT.ok P tt) {et:Nat} (hne:(tt et).cq≠.other): ∃ z,(∀ w,(zeroValue et).run P w=.ok z w)∧aC F (r5 (tt et)) z:=by
 obtain ⟨⟨i,z,hi,h1,h2,hz,hzc,h3⟩,_⟩:=hk.get (t:=et) rfl hne;have hag:=hk.agg (t:=et) rfl hne hi hz;refine ⟨z,fun w=>by simp[zeroValue,typeInfo,hi,hz],?_⟩;have hr:=ZK.o9 F (tt et).zero;unfold r5 mK
 split
 ·rename_i hg
  rw[hg] at hag;cases z<;>simp[vm] at hag;rename_i cs;simp only[Value.cells] at hzc;simp only[id,aC];exact ⟨cs.toList,by simp,by rw[hzc];exact hr⟩
 ·rename_i hg
  rw[hg] at hag;have hc:z.cells= #[z]:=by cases z<;>first | rfl | simp[vm] at hag
  rw[hc] at hzc
  cases hzz:(tt et).zero with
  | nil=>simp only[List.map_nil,id,aC]
  | cons x xs=>
   rw[hzz] at hzc;simp only[List.map_cons,id];have:z=x.val:=by simpa using (List.cons.inj hzc).1
   rw[this];exact (ZK.rep F x).1
theorem Cz (hk:TT.ok P tt) {et:Nat} (hne:(tt et).cq≠.other) (w:World): ∃ z,(zeroValue et).run P w=.ok z w∧aC F (r5 (tt et)) z:=
 (yz hk hne).imp fun _ h=>⟨h.1 w,h.2⟩
theorem G4 (hS:aP w0 F (Γ++M) w) (hn:Nx w0 M F o.dst a next K) {t:TypeId} (hop:o.op=.makeMap t none) (d:TypeDesc) (h: ∀ r,K (.mp r) (.mp r d (fun _=>none) []::Γ)):o.wpIn (cX rd) nn P a w next Q:=by
 refine aU (v:=.map (some w.heap.size)) (w':=w.alloc (.map #[] 0)) (by simp[execOp,hop,Instr.makeMap]) ?_;exact hn F (.mp w.heap.size) _ _ _ (Fz.le_refl F) (by simpa using hS.NR d) (by simp[aC]) (h _)
theorem JW (hk:TT.ok P tt) (hS:aP w0 F (Γ++M) w) (hT:aA F T a.tmps.toList) (hn:Nx w0 M F o.dst a next K) {t:TypeId} {x i:Operand} {ok:Bool} (hop:o.op=.lookup t x i ok)
  {kt et r:Nat} {d:TypeDesc} (ht:(tt t).cq=.mp kt et) (hx:ev T x=.mp r) (hd:oY tt (tt kt).cq=some d) (hne:(tt et).cq≠.other)
  (h:fy r d (wS (ev T i)) (r5 (tt et)) Γ fun y b=>match ok with
    | true=>K (.bp [y,.bool b]) Γ
    | false=>K y Γ):o.wpIn (cX rd) nn P a w next Q:=by
 obtain ⟨_,hu⟩:=hk.get ht (by simp);have hu':P.underlying t=some (.map kt et):=hu;obtain ⟨k,m,aK,y,b,hkk,hik,hent,h1,h2,hK⟩:=h.h;have hp:=aL hT x;rw[hx] at hp;have hp:a.eval x=.map (some r):=by simpa only[aC] using hp
 have hq:=qs (aL hT i) hkk;obtain ⟨Γ1,Γ2,rfl⟩:=List.append_of_mem hent;obtain ⟨z,hz,hzr⟩:=Cz hk (F:=F) hne w;have hS':aP w0 F (Γ1++.mp r d m aK::(Γ2++M)) w:=by simpa using hS
 obtain ⟨v,b',hrun,hcase⟩:=hS'.lookup hu' (qq hk hd) (uv hk hd) hik ok hz
 have hvy:aC F y v∧b'=b:=by
  rcases hcase with ⟨p,e1,e2,rfl⟩ | ⟨e1,rfl,rfl⟩
  ·obtain ⟨g1,g2⟩:=h1 p e1
   exact ⟨g1 _ _ e2,g2.symm⟩
  ·obtain ⟨g1,g2⟩:=h2 e1
   exact ⟨g1 _ _ hzr,g2.symm⟩
 obtain ⟨hvy,rfl⟩:=hvy
 cases ok with
 | false=>
  exact bX hS hn (v:=v) (by simp[execOp,hop,hp,hq,hrun]) hvy hK
 | true=>
  refine bX hS hn (v:=.tuple #[v,.bool b']) (by simp[execOp,hop,hp,hq,hrun]) ?_ hK;simp only[aC];exact ⟨[v,.bool b'],rfl,by simp[aA,aC,hvy]⟩
theorem Ci (hk:TT.ok P tt) (hS:aP w0 F (Γ++M) w) (hT:aA F T a.tmps.toList) (hn:Nx w0 M F o.dst a next K) {t:TypeId} {x i v:Operand} (hop:o.op=.mapUpdate t x i v)
  {kt et r:Nat} {d:TypeDesc} (ht:(tt t).cq=.mp kt et) (hx:ev T x=.mp r) (hd:oY tt (tt kt).cq=some d)
  (h:fP r d (wS (ev T i)) (ev T v) Γ fun Γ'=>K .any Γ'):o.wpIn (cX rd) nn P a w next Q:=by
 obtain ⟨_,hu⟩:=hk.get ht (by simp);have hu':P.underlying t=some (.map kt et):=hu;obtain ⟨k,m,m',aK,Γ1,Γ2,hkk,hik,rfl,h1,h2,hmk,hK⟩:=h.h;have hp:=aL hT x;rw[hx] at hp;have hp:a.eval x=.map (some r):=by simpa only[aC] using hp
 have hq:=qs (aL hT i) hkk;have hS':aP w0 F (Γ1++.mp r d m aK::(Γ2++M)) w:=by simpa using hS
 obtain ⟨w',hrun,hS2⟩:=hS'.NM hu' (qq hk hd) (uv hk hd) hik (aL hT v) h1 h2 hmk;exact qK (w':=w') (by simp[execOp,hop,hp,hq,hrun]) (hn F .any _ _ w' (Fz.le_refl F) (by simpa using hS2) (by simp[aC]) hK)
theorem DV (hk:TT.ok P tt) (hS:aP w0 F (Γ++M) w) (hT:aA F T a.tmps.toList) (hn:Nx w0 M F o.dst a next K) {t:TypeId} {x i:Operand} (hop:o.op=.mapEntry t x i)
  {kt et r:Nat} {d:TypeDesc} (ht:(tt t).cq=.mp kt et) (hx:ev T x=.mp r) (hd:oY tt (tt kt).cq=some d) (hne:(tt et).cq≠.other)
  (h:dP r d (wS (ev T i)) (r5 (tt et)) Γ K):o.wpIn (cX rd) nn P a w next Q:=by
 obtain ⟨_,hu⟩:=hk.get ht (by simp);have hu':P.underlying t=some (.map kt et):=hu;obtain ⟨k,m,m',aK,Γ1,Γ2,hkk,hik,rfl,h1,h2,hmk,hK⟩:=h.h;have hp:=aL hT x;rw[hx] at hp;have hp:a.eval x=.map (some r):=by simpa only[aC] using hp
 have hq:=qs (aL hT i) hkk;have hS':aP w0 F (Γ1++.mp r d m aK::(Γ2++M)) w:=by simpa using hS
 obtain ⟨z,hz,hzr⟩:=Cz hk (F:=F) hne w;obtain ⟨v,n,w',hrun,hv,hS2⟩:=hS'.mapEntry hu' (qq hk hd) (uv hk hd) hik hz hzr h1 h2 hmk;refine aU (v:=.tuple #[v,.int .i64 n]) (w':=w') (by simp[execOp,hop,hp,hq,hrun]) (hn F _ _ _ w' (Fz.le_refl F) (by simpa using hS2) ?_ (hK n));simp only[aC];exact ⟨[v,.int .i64 n],rfl,by simp[aA,aC,hv]⟩
theorem Av (hS:aP w0 F (Γ++M) w) (hT:aA F T a.tmps.toList) (hn:Nx w0 M F o.dst a next K) {t:TypeId} {x i v:Operand} (hop:o.op=.entryStore t x i v)
  {r:Nat} {j:IntKind} {n:Int} (hx:ev T x=.mp r) (hi:ev T i=.int j n) (h:cF r n (ev T v) Γ fun Γ'=>K .any Γ'):o.wpIn (cX rd) nn P a w next Q:=by
 obtain ⟨d,k,m,m',aK,Γ1,Γ2,hin,hkm,rfl,h1,h2,hK⟩:=h.h;have hp:=aL hT x;rw[hx] at hp;have hp:a.eval x=.map (some r):=by simpa only[aC] using hp
 have hq:=aL hT i;rw[hi] at hq;have hS':aP w0 F (Γ1++.mp r d m aK::(Γ2++M)) w:=by simpa using hS
 obtain ⟨w',hrun,hS2⟩:=hS'.entryStore (P:=P) (mty:=t) (j:=j) hin hkm (aL hT v) h1 h2;exact qK (w':=w') (by simp[execOp,hop,hp,bV hq,hrun]) (hn F .any _ _ w' (Fz.le_refl F) (by simpa using hS2) (by simp[aC]) hK)
theorem JX (hk:TT.ok P tt) (hS:aP w0 F (Γ++M) w) (hT:aA F T a.tmps.toList) (hn:Nx w0 M F o.dst a next K) {x i:Operand} {t t2:TypeId} {c:Call} (hop:o.op=.call c) (hc:c.callee=.builtin .delete)
  (hargs:c.args.toList= [x,i]) (hty:c.argTypes.toList= [t,t2]) {kt et r:Nat} {d:TypeDesc} (ht:(tt t).cq=.mp kt et) (hx:ev T x=.mp r) (hd:oY tt (tt kt).cq=some d)
  (h:dN r d (wS (ev T i)) Γ fun Γ'=>K (.bp []) Γ'):o.wpIn (cX rd) nn P a w next Q:=by
 obtain ⟨_,hu⟩:=hk.get ht (by simp);have hu':P.underlying t=some (.map kt et):=hu;obtain ⟨k,m,m',aK,Γ1,Γ2,hkk,hik,rfl,h1,h2,hK⟩:=h.h;have hp:=aL hT x;rw[hx] at hp;have hp:a.eval x=.map (some r):=by simpa only[aC] using hp
 have hq:=qs (aL hT i) hkk;have hS':aP w0 F (Γ1++.mp r d m aK::(Γ2++M)) w:=by simpa using hS
 obtain ⟨w',hrun,hS2⟩:=hS'.NL hu' (qq hk hd) (uv hk hd) hik o.type t2 h1 h2;have ha:c.args= #[x,i]:=by apply Array.ext';simpa using hargs
 have ht':c.argTypes= #[t,t2]:=by apply Array.ext';simpa using hty
 refine aU (v:=.tuple #[]) (w':=w') ?_ (hn F (.bp []) _ _ w' (Fz.le_refl F) (by simpa using hS2) (by simp only[aC];exact ⟨[],rfl,by simp[aA]⟩) hK);simp only[execOp,hop,resolve,hc,ha,ht',invoke,builtin,Sem.run_bind,Sem.run_pure,Result.andThen_ok,List.map_toArray,List.map_cons,List.map_nil,hp,hq,hrun]
theorem DW (hk:TT.ok P tt) (hS:aP w0 F (Γ++M) w) (hT:aA F T a.tmps.toList) (hn:Nx w0 M F o.dst a next K) {t:TypeId} {x:Operand} (hop:o.op=.slice t x none none none)
  {n e b:Nat} (ht:(tt t).cq=.arr n e) (hx:ev T x=.ptr b 0) (hne:(tt e).cq≠.other) (h:kU n (tt e).size b Γ K):o.wpIn (cX rd) nn P a w next Q:=by
 obtain ⟨_,hu⟩:=hk.get ht (by simp);have hu':P.underlying t=some (.array n e):=hu;obtain ⟨⟨i,z,hi,hsz,_⟩,_⟩:=hk.get (t:=e) rfl hne;obtain ⟨all,es,Γ1,Γ2,rfl,rfl,h1,h2,h3,hK⟩:=h.h;have hp:=aL hT x;rw[hx] at hp
 have hS':aP w0 F (.box b (flat es)::(Γ1++Γ2++M)) w:=hS.perm (by
  have:(Γ1++.box b (flat es)::Γ2++M)=Γ1++.box b (flat es)::(Γ2++M):=by simp
  rw[this,List.append_assoc]
  exact List.perm_middle)
 obtain ⟨F',hle,hS2,hcells⟩:=hS'.freeze;refine aU (v:=.slice (some ⟨b,0,none⟩) n n) (w':=w) ?_ (hn F' _ _ _ w hle hS2 ?_ hK)
 ·simp[execOp,hop,Instr.sliceAt,run_underlying hu',iL hp,Instr.sureAddr,Instr.sliceBounds,run_sizeOf hi,Addr.add_lit]
 ·simp only[aC]
  refine ⟨fun t ht=>(by cases ht),.inr (.inl ⟨b,0,n,by rw[h2],by omega,h3,fun t ht=>(by cases ht),(eU ..).2 ⟨h1,?_⟩⟩)⟩;simpa using hcells 0
theorem JS (hk:TT.ok P tt) (hS:aP w0 F (Γ++M) w) (hT:aA F T a.tmps.toList) (hn:Nx w0 M F o.dst a next K) {t:TypeId} {x y:Operand} (hop:o.op=.index t x y)
  {n e:Nat} {cs:List PV} (ht:(tt t).cq=.arr n e) (hx:ev T x=.agg cs) (hne:(tt e).cq≠.other) (h:j3 n (tt e).size (tt e).cq.agg cs (ev T y) fun p=>K p Γ):o.wpIn (cX rd) nn P a w next Q:=by
 obtain ⟨_,hu⟩:=hk.get ht (by simp);have hu':P.underlying t=some (.array n e):=hu;obtain ⟨⟨i,z,hi,hsz,_⟩,hd⟩:=hk.get (t:=e) rfl hne;obtain ⟨desc,h6,h7⟩:=TD.n8 hd hne;obtain ⟨k,m,hy,h0,hlt,hl,hcase⟩:=h.h;have hp:=aL hT x;have hq:=aL hT y;rw[hx] at hp;rw[hy] at hq;obtain ⟨vs,hv,hr⟩:=uy hp;have l:=hr.length;obtain ⟨m,rfl⟩:=Int.eq_ofNat_of_zero_le h0;have hm:m < n:=by omega
 have hb:m * (tt e).size + (tt e).size≤n * (tt e).size:=by rw[←Nat.succ_mul];exact Nat.mul_le_mul_right _ hm
 have hcond:(0:Int)≤m∧(m:Int) < n:=⟨h0,by omega⟩
 rcases hcase with ⟨hg,hK⟩ | ⟨c,hg,hs1,hc,hK⟩
 ·rw[hg] at h7
  refine bX hS hn (v:=.agg ((vs.drop (m * (tt e).size)).take (tt e).size).toArray) ?_ ?_ hK
  ·simp only[execOp,hop,Instr.index,bV hq,asIntOf,run_underlying hu',hv,Sem.run_bind,Sem.run_pure,Result.andThen_ok,hcond,and_self,if_true,part,lD h6,h7,run_sizeOf hi,hsz,Int.toNat_natCast]
   congr 2;simp[List.extract_eq_take_drop]
  ·simp only[aC];exact ⟨_,rfl,cU _ (dg _ hr)⟩
 ·rw[hg] at h7
  simp only[Int.toNat_natCast] at hc;obtain ⟨u,hu1,hu2,hu3⟩:=hr.get m hc;refine bX hS hn (v:=u) ?_ hu3 hK;simp[execOp,hop,Instr.index,bV hq,asIntOf,run_underlying hu',hv,hm,part,lD h6,h7,run_sizeOf hi,hsz,hs1,hu1]
theorem yX {s:List UInt8}: ∀ e∈dH s,e.cellsOf.length=1:=by
 intro e he;obtain ⟨b,_,rfl⟩:=List.mem_map.1 he;rfl
theorem p8 (s:List UInt8):flat (dH s)=dH s:=by
 induction s with
 | nil=>rfl
 | cons b s ih=>simp only[dH,flat,List.map_cons,List.flatMap_cons,PV.cellsOf] at ih ⊢; rw[ih];rfl
theorem A0 (s:List UInt8):aQ F (dH s) (s.map fun b=>.int .u8 b.toNat):=by
 induction s with
 | nil=>exact cG F
 | cons b s ih=>exact cg.2 ⟨⟨rfl,by simp[aC]⟩,ih⟩
theorem vn (hk:TT.ok P tt) {e:Nat} (h:isByte (tt e).cq=true):P.underlying e=some (.int .u8):=by
 unfold isByte at h
 split at h
 ·rename_i hd
  obtain ⟨_,hu⟩:=hk.get hd (by simp);exact hu
 ·cases h
theorem L5 (hk:TT.ok P tt) (hS:aP w0 F (Γ++M) w) (hT:aA F T a.tmps.toList) (hn:Nx w0 M F o.dst a next K) {s d:TypeId} {x:Operand} (hop:o.op=.convert s d x)
  {b:List UInt8} {e:Nat} {us:TypeDesc} (hus:P.underlying s=some us) (hd:(tt d).cq=.sl e) (hx:ev T x=.str b) (hb:isByte (tt e).cq=true) (h:K (.sl 1 (dH b) none) Γ):o.wpIn (cX rd) nn P a w next Q:=by
 obtain ⟨_,hu⟩:=hk.get hd (by simp);have hu':P.underlying d=some (.slice e):=hu;have he:=vn hk hb;have hp:=aL hT x;rw[hx] at hp;have hl:=mm hp;have hrun:=Go.Lib.run_convert_string_bytes (P:=P) w s d e ⟨b.toArray⟩ hus hu' he;have hsz:(⟨b.toArray⟩:ByteArray).size=b.length:=by simp[ByteArray.size]
 have hge:=grownCap_ge w b.length 0 e;have hcm:grownCap w b.length 0 e≤maxLen:=grownCap_le_maxLen w b.length 0 e (by simpa[maxLen] using hl)
 have hS1:aP w0 F (Γ++M) (Go.Lib.bytesWorld w e ⟨b.toArray⟩):=by
  have hdr:=hS.drew
  have hbelow:Below w0.heap.size w0 (Go.Lib.bytesWorld w e ⟨b.toArray⟩):=by
   refine hS.below.trans ⟨?_,?_,?_,?_,fun k hk=>Go.Lib.bytesWorld_at_old w e _ k (by have:=hS.below.size;omega)⟩
   ·simp[Go.Lib.bytesWorld,World.freeze,World.alloc,World.drew, -World.alloc_eq, -World.drew_eq]
   ·simp[Go.Lib.bytesWorld,World.freeze,World.alloc,World.drew, -World.alloc_eq, -World.drew_eq]
   ·simp[Go.Lib.bytesWorld,World.freeze,World.alloc,World.drew, -World.alloc_eq, -World.drew_eq]
   ·rw[Go.Lib.bytesWorld_size];omega
  refine ⟨hbelow,fun b' q u hu=>?_,fun en he=>aj.fT (hS.fe en he) (Fz.le_refl F) fun k hk=>⟨Go.Lib.bytesWorld_at_old w e _ k (aj.jC (hS.fe en he) hk).2,fun _ h=>h⟩,hS.sep⟩;have hold:=hS.fz b' q u hu;rw[Go.Lib.bytesWorld_old w e _ _ (World.block_lt_of_cell? w _ hold)];exact hold
 have hle:F.le (F.put w.heap.size (b.map fun b=>.int .u8 b.toNat)):=Fz.Dr fun q u hu=>by rw[vg hS.fz (Nat.le_refl _)] at hu;cases hu
 have hS2:aP w0 (F.put w.heap.size (b.map fun b=>.int .u8 b.toNat)) (Γ++M) (Go.Lib.bytesWorld w e ⟨b.toArray⟩):=by
  refine ⟨hS1.below,fun b' q u hu=>?_,fun en hen=>aj.fT (hS1.fe en hen) hle fun k hk=>⟨rfl,fun q hq=>?_⟩,hS1.sep⟩
  ·unfold Fz.put at hu
   split at hu
   ·rename_i hc
    obtain ⟨rfl,ho⟩:=hc;have ho':q < b.length:=by simpa using ho
    rw[Go.Lib.bytesWorld_cell w e _ q (by rw[hsz];exact ho')];rw[←hu];simp[List.getD,ho']
   ·exact hS1.fz b' q u hu
  ·have hlt:=(aj.jC (hS.fe en hen) hk).2
   unfold Fz.put;rw[if_neg (fun hc=>by omega)];exact hq
 refine aU (v:=.slice (some ⟨w.heap.size,0,none⟩) b.length (grownCap w b.length 0 e)) (w':=Go.Lib.bytesWorld w e ⟨b.toArray⟩) ?_ (hn _ _ Γ _ _ hle hS2 ?_ h)
 ·rw[hsz] at hrun
  simp[execOp,hop,jr hp,hrun]
 ·simp only[aC]
  refine ⟨fun t ht=>(by cases ht),.inr (.inl ⟨w.heap.size,0,grownCap w b.length 0 e,by simp[dH],by simpa[dH] using hge,hcm,fun t ht=>(by cases ht),(eU ..).2 ⟨yX,?_⟩⟩)⟩;rw[p8,aZ];exact ⟨_,A0 b,Fz.DM⟩
theorem xJ {m:Array (String×TypeId)} {t:TypeId} (hu:P.underlying t=some (.interface m)) (w:World):(Op.equal t .nilIface .nilIface).run P w=.ok true w:=by
 unfold Op.equal;rw[show Op.maxDepth=9999 + 1 from rfl];unfold Op.equalIn;simp only[Sem.run_bind,run_underlying hu,Result.andThen_ok,Sem.run_pure]
theorem xI {m:Array (String×TypeId)} {t:TypeId} (hu:P.underlying t=some (.interface m)) (w:World) (d:TypeId) (z:Value):(Op.equal t (.iface d z) .nilIface).run P w=.ok false w:=by
 unfold Op.equal;rw[show Op.maxDepth=9999 + 1 from rfl];unfold Op.equalIn;simp only[Sem.run_bind,run_underlying hu,Result.andThen_ok,Sem.run_pure]
theorem PI (hk:TT.ok P tt) (hS:aP w0 F (Γ++M) w) (hT:aA F T a.tmps.toList) (hn:Nx w0 M F o.dst a next K) {op:BinOp} {t u:TypeId} {x y:Operand} (hop:o.op=.binOp op t x y u) (hy:Dp y=true)
  (h:Gr op (tt t).cq (ev T x) fun p=>K p Γ):o.wpIn (cX rd) nn P a w next Q:=by
 have hy':y=.const .nilIface:=by
  unfold Dp at hy
  split at hy
  ·rfl
  ·cases hy
 subst hy';have hp:=aL hT x;have hc:a.eval (.const .nilIface)=.nilIface:=rfl;unfold Gr at h
 split at h<;>first | exact h.elim | skip
 all_goals
  rename_i hd hx;obtain ⟨_,m,hu⟩:=hk.get hd (by simp);rw[hx] at hp;simp only[aC] at hp
 ·refine bX hS hn (v:=.bool true) ?_ (by simp[aC]) h
  simp only[execOp,hop,hp.1,hc,eqGuard_nil_constR,binOp,Sem.run_bind,xJ hu,Result.andThen_ok,Sem.run_pure]
 ·refine bX hS hn (v:=.bool false) ?_ (by simp[aC]) h
  simp only[execOp,hop,hp.1,hc,eqGuard_nil_constR,binOp,Sem.run_bind,xJ hu,Result.andThen_ok,Sem.run_pure,Bool.not_true]
 ·obtain ⟨d,z,hp⟩:=hp
  refine bX hS hn (v:=.bool false) ?_ (by simp[aC]) h;simp only[execOp,hop,hp,hc,eqGuard_at_iface,binOp,Sem.run_bind,xI hu,Result.andThen_ok,Sem.run_pure]
 ·obtain ⟨d,z,hp⟩:=hp
  refine bX hS hn (v:=.bool true) ?_ (by simp[aC]) h;simp only[execOp,hop,hp,hc,eqGuard_at_iface,binOp,Sem.run_bind,xI hu,Result.andThen_ok,Sem.run_pure,Bool.not_false]
theorem J3 (hk:TT.ok P tt) (hS:aP w0 F (Γ++M) w) (hT:aA F T a.tmps.toList) (hn:Nx w0 M F o.dst a next K) {s d:TypeId} {x:Operand} (hop:o.op=.convert s d x)
  {b:List UInt8} {e sz:Nat} {tk:Option Tok} (hs:(tt s).cq=.sl e) (hd:(tt d).cq=.str) (hx:ev T x=.sl sz (dH b) tk) (hb:isByte (tt e).cq=true) (h:K (.str b) Γ):o.wpIn (cX rd) nn P a w next Q:=by
 obtain ⟨_,hu⟩:=hk.get hs (by simp);have hu':P.underlying s=some (.slice e):=hu;obtain ⟨_,hud⟩:=hk.get hd (by simp);have hud':P.underlying d=some .string:=hud;have he:=vn hk hb;have hp:=aL hT x;rw[hx] at hp
 rcases fq hS hp with ⟨h1,h2⟩ | ⟨g,q,cap,vs,h1,h2,h3,h4,h5,h6,h7⟩
 ·have hb0:b= []:=by simpa[dH] using h2
  subst hb0;have hrun:=run_convert_bytes_nil (P:=P) w s e hu' he 0 0 d hud'
  rcases h1 with h1 | ⟨ad,h1⟩
  ·exact bX hS hn (v:=.string ⟨#[]⟩) (by simp[execOp,hop,h1,hrun];rfl) (by simp[aC]) h
  ·have hrun2:(convert s d (.slice (some ad) 0 0)).run P w=.ok (.string ByteArray.empty) w:=by
    rw[run_convert_bytes_string w s d e _ 0 0 hu' he hud'];simp[Conv.bytesToString,loadCells,loadCellsFrom]
   exact bX hS hn (v:=.string ⟨#[]⟩) (by simp[execOp,hop,h1,hrun2];rfl) (by simp[aC]) h
 ·have hvs:vs=b.map fun b=>Value.int .u8 b.toNat:=by
   rw[p8] at h5;clear h6 h7 h1 h2 hx hp h hn
   induction b generalizing vs with
   | nil=>cases vs with
    | nil=>rfl
    | cons v vs=>simp[dH,aQ] at h5
   | cons c b ih=>cases vs with
    | nil=>simp[dH,aQ] at h5
    | cons v vs=>
     have h5:=cg.1 h5;rw[List.map_cons, ←ih vs (fun e he=>h4 e (by simp[dH] at he ⊢; exact .inr he)) h5.2,bV h5.1.2]
  have hl:(dH b).length=b.length:=by simp[dH]
  have hcm:b.length≤9223372036854775807:=by simp only[maxLen] at h3;omega
  have hrun:=run_convert_bytes_arg (P:=P) w s e hu' he g q b.length cap (b.map fun c=>(c.toNat:Int)) (by simp) (fun i hi=>by
   have:=h7 i (.int .u8 b[i].toNat) (by rw[hvs];simp[hi]);rw[Addr.add_lit] at this;rw[this]
   simp[List.getD,hi]) d hud'
  refine bX hS hn (v:=.string ⟨b.toArray⟩) ?_ (by simp only[aC];exact ⟨trivial,hcm⟩) h;rw[hl] at h1
  have hso:strOfNums (b.map fun c=>(c.toNat:Int))=⟨b.toArray⟩:=by
   unfold strOfNums;congr 2;rw[List.map_map];have: ∀ c:UInt8,((fun n:Int=>UInt8.ofNat n.toNat) ∘ fun c:UInt8=>(c.toNat:Int)) c=c:=fun c=>by simp
   rw[List.map_congr_left (fun c _=>this c)];simp
  rw[hso] at hrun;simp[execOp,hop,h1,hrun]
end
open Go.ChangeMaps (setBlock)
theorem vO {d:TypeDesc} (h:oK d (.tuple #[])):False:=by
 rcases h with h | ⟨e,a,b,_,h⟩
 ·cases d<;>exact h
 ·cases h
theorem GB {w:World} {r:Nat} {es:Array MapEntry} {clock:Nat} (hb:w.heap[r]?=some (.map es clock)):w=m9 w r es clock:=by
 have:w.heap.setIfInBounds r (.map es clock)=w.heap:=by
  apply Array.ext_getElem?;intro i;rw[Array.getElem?_setIfInBounds]
  split
  ·rename_i h;subst h
   split
   ·exact hb.symm
   ·rename_i hlt;rw[Array.getElem?_eq_none (by omega)]
  ·rfl
 unfold m9;rw[this]
theorem aP.JG {w0 w:World} {F:Fz} {M1 M2:List aj} {r:Nat} {d:TypeDesc} {m:Value→Option PV} {aK pend':List (Int×Value)} (h:aP w0 F (M1++.mp r d m aK::M2) w)
  (hp: ∀ es clock,w.heap[r]?=some (.map es clock)→mD F d m aK es clock→mD F d m pend' es clock):aP w0 F (M1++.mp r d m pend'::M2) w:=by
 obtain ⟨es,clock,hb,hM⟩:=h.nc (r:=r) (d:=d) (m:=m) (aK:=aK) (by simp);exact h.nF (GB hb) (hp es clock hb hM)
section
variable {P:Program} {tt:Nat→TI} {o:Oper} {a:Act} {T:List PV} {Γ M:List aj} {K:PV→List aj→Prop} {w0 w:World} {F:Fz}
 {rd:Option Nat} {nn:Nat} {next:Act→World→Prop} {Q:Exit→Act→World→Prop}
theorem LZ (hS:aP w0 F (Γ++M) w) (hT:aA F T a.tmps.toList) (hn:Nx w0 M F o.dst a next K) {t u:TypeId} {x y:Operand} (hop:o.op=.binOp .eql t x y u)
  {xs ys:List PV} (hx:ev T x=.agg xs) (hy:ev T y=.agg ys) (h:HF P t xs ys fun q=>K (.bool q) Γ):o.wpIn (cX rd) nn P a w next Q:=by
 have hp:=aL hT x;have hq:=aL hT y;rw[hx] at hp;rw[hy] at hq;simp only[aC] at hp hq;obtain ⟨vs,e1,r1⟩:=hp;obtain ⟨us,e2,r2⟩:=hq;obtain ⟨q,h1,h2⟩:=h.h;obtain ⟨g1,g2⟩:=h1 F vs us w r1 r2;refine bX hS hn (v:=.bool q) ?_ (by simp[aC]) h2;simp only[execOp,hop,Sem.run_bind,e1,e2,g1,Result.andThen_ok,g2,Sem.run_pure]
theorem O3 {es:Array MapEntry} {clock:Nat} {d:TypeDesc} {m:Value→Option PV} {aK:List (Int×Value)} (hM:mD F d m aK es clock):My d m (es.toList.map fun e=>((e.born:Int),e.key)) clock:=by
 obtain ⟨h1,h2,h3⟩:=(MapKept.stamped_iff es clock).1 hM.st;refine ⟨fun q hq=>?_,fun k p hk=>?_,?_,?_,fun q hq=>?_⟩
 ·obtain ⟨e,he,rfl⟩:=List.mem_map.1 hq
  obtain ⟨p,hp,_⟩:=hM.get e he;exact ⟨hM.key e he,by simp[hp]⟩
 ·obtain ⟨x,hx,hxk⟩:=hM.dom k p hk
  exact ⟨x.born,List.mem_map.2 ⟨x,hx,by rw[hxk]⟩⟩
 ·rw[List.map_map,List.Nodup,List.pairwise_map]
  exact h3
 ·rw[List.map_map]
  rw[List.Nodup,List.pairwise_map] at h2 ⊢;exact h2.imp fun {x y} h e=>h (by have:(x.born:Int)=(y.born:Int):=e;omega)
 ·obtain ⟨e,he,rfl⟩:=List.mem_map.1 hq
  have:=h1 e he;simp only;omega
theorem Ma (hk:TT.ok P tt) (hS:aP w0 F (Γ++M) w) (hT:aA F T a.tmps.toList) (hn:Nx w0 M F o.dst a next K) {t:TypeId} {x:Operand} (hop:o.op=.range t x)
  {kt et r:Nat} {d:TypeDesc} (ht:(tt t).cq=.mp kt et) (hx:ev T x=.mp r) (h:jj r d Γ K):o.wpIn (cX rd) nn P a w next Q:=by
 obtain ⟨_,hu⟩:=hk.get ht (by simp);have hu':P.underlying t=some (.map kt et):=hu;obtain ⟨m,aK,Γ1,Γ2,rfl,hK⟩:=h.h;have hp:=aL hT x;rw[hx] at hp;have hp:a.eval x=.map (some r):=by simpa only[aC] using hp
 have hS':aP w0 F (Γ1++.mp r d m aK::(Γ2++M)) w:=by simpa using hS
 obtain ⟨es,clock,hb,hM⟩:=hS'.nc (r:=r) (d:=d) (m:=m) (aK:=aK) (by simp)
 have hS2:aP w0 F (Γ1++.mp r d m (((clock:Int),.tuple #[])::es.toList.map fun e=>((e.born:Int),e.key))::(Γ2++M)) w:=by
  refine hS'.JG fun es' clock' hb' hM'=>?_;rw[hb] at hb';cases hb';refine ⟨hM.st,hM.key,hM.get,hM.dom,fun q hq=>?_⟩;rcases List.mem_cons.1 hq with rfl | hq
  ·exact .inl ⟨rfl,rfl⟩
  ·obtain ⟨e,he,rfl⟩:=List.mem_map.1 hq
   exact .inr ⟨e,he,rfl,rfl⟩
 have hS3:=hS2.obj (.mapIter (some r) clock #[] clock) (T:= []) (vs:= []) (by simp[aA]);refine aU (v:=.pointer (some ⟨w.heap.size,0,none⟩)) (w':=w.alloc (.mapIter (some r) clock #[] clock)) ?_ ?_
 ·simp only[execOp,hop,hp,run_range_map w t kt et r es clock hu' hb,Sem.run_bind,Result.andThen_ok,Sem.run_pure]
 ·refine hn F (.ptr w.heap.size 0) _ _ _ (Fz.le_refl F) ?_ (by simp[aC]) (hK w.heap.size _ clock (O3 hM))
  simpa using hS3
theorem vG (hS:aP w0 F (Γ++M) w) {r cl:Nat} {d:TypeDesc} {m:Value→Option PV} {all:List (Int×Value)} (hm:aj.mp r d m (((cl:Nat),.tuple #[])::all)∈Γ):
  ∃ es,w.heap[r]?=some (.map es cl)∧mD F d m (((cl:Nat),.tuple #[])::all) es cl:=by
 obtain ⟨es,clock,hb,hM⟩:=hS.nc (List.mem_append_left M hm)
 have:clock=cl:=by
  rcases hM.KN _ (List.mem_cons_self ..) with ⟨_,h⟩ | ⟨x,hx,_,h⟩
  ·simp only at h;omega
  ·have:=hM.key x hx
   rw[h] at this;exact (vO this).elim
 subst this;exact ⟨es,hb,hM⟩
theorem N9 (hS:aP w0 F (Γ++M) w) (hT:aA F T a.tmps.toList) (hn:Nx w0 M F o.dst a next K) {it:Operand} (hop:o.op=.next it false) {b:Nat} (hx:ev T it=.ptr b 0) (h:lN b Γ K):o.wpIn (cX rd) nn P a w next Q:=by
 obtain ⟨r,cl,seen,d,m,all,Γ1,Γ2,hΓ,hm,hdom,hlt,h1,h2⟩:=h.h;have hp:=aL hT it;rw[hx] at hp;have hp:a.eval it=.pointer (some ⟨b,0,none⟩):=by simpa only[aC] using hp
 obtain ⟨es,hb,hM⟩:=vG hS hm;obtain ⟨st1,KO,st3⟩:=(MapKept.stamped_iff es cl).1 hM.st;have hr:w.heap[b]?=some (.mapIter (some r) cl seen cl):=(hS.fe (.ob b (.mapIter (some r) cl seen cl) [] []) (List.mem_append_left M (by rw[hΓ];simp))).2.1;have fe: ∀ n k,(n,k)∈all→k≠.tuple #[]→ ∃ x∈es.toList,(x.born:Int)=n∧x.key=k:=fun n k hq hne=>(hM.KN (n,k) (List.mem_cons_of_mem _ hq)).resolve_left fun h=>hne h.1
 have nmk: ∀ k p,m k=some p→k≠.tuple #[]:=fun k p hk he=>by
  obtain ⟨x,hx,hxk⟩:=hM.dom k p hk;have:=hM.key x hx;rw[hxk,he] at this;exact vO this
 rcases run_next_at (P:=P) w o.type b r cl cl seen es cl hr hb st1 (Nat.le_refl _) with ⟨hz,hrun⟩ | ⟨e,he,w1,hw1,hrun⟩
 ·refine bX hS hn (v:=.tuple #[.bool false]) ?_ (by simp only[aC];exact ⟨[.bool false],rfl,by simp[aA,aC]⟩) (h2 fun k p hk=>?_)
  ·simp only[execOp,hop,hp,hrun,Sem.run_bind,Result.andThen_ok,Sem.run_pure]
  ·obtain ⟨n,hn'⟩:=hdom k p hk
   obtain ⟨x,hx1,hx2,hx3⟩:=fe n k hn' (nmk k p hk);refine ⟨x.born,by rw[hx2];exact hn',?_⟩
   have hnl:x∉leftOf es seen:=by
    have:leftOf es seen= #[]:=Array.eq_empty_of_size_eq_zero hz;rw[this];simp
   unfold leftOf at hnl;rw[Array.mem_filter] at hnl
   have hc:seen.contains x.born=true:=by
    cases hc:seen.contains x.born with
    | true=>rfl
    | false=>exact absurd ⟨by simpa using hx1,by simp only[hc];rfl⟩ hnl
   simpa using hc
 ·have he2:e∈es.toList∧e.born∉seen.toList:=by
   unfold leftOf at he;simp at he;exact ⟨by simpa using he.1,by simpa using he.2⟩
  obtain ⟨p,hp1,hp2⟩:=hM.get e he2.1;obtain ⟨n,hn'⟩:=hdom _ p hp1;obtain ⟨x,hx1,hx2,hx3⟩:=fe n _ hn' (nmk _ p hp1);have hxe:x=e:=jK hM.st hx1 he2.1 hx3;subst hxe
  have hS1:aP w0 F (Γ++M) w1:=by
   rcases hw1 with rfl | rfl
   ·exact hS
   ·exact hS.drew
  have hr1:w1.heap[b]?=some (.mapIter (some r) cl seen cl):=by rcases hw1 with rfl | rfl<;>exact hr
  have hlt1:=(Array.getElem?_eq_some_iff.1 hr1).1
  have hperm:(Γ++M).Perm (.ob b (.mapIter (some r) cl seen cl) [] []::((Γ1++Γ2)++M)):=by
   rw[hΓ,List.append_assoc,List.append_assoc,List.cons_append];exact List.perm_middle
  have hS2:=(hS1.perm hperm).putObj (w':=setBlock w1 b (.mapIter (some r) cl (seen.push x.born) cl)) (o':=.mapIter (some r) cl (seen.push x.born) cl)
   (by simp[setBlock,hlt1]) (by simp[setBlock]) (fun k hk=>by simp[setBlock,Array.getElem?_setIfInBounds,Ne.symm hk]) rfl rfl rfl
  refine aU (v:=.tuple #[.bool true,x.key,x.val]) (w':=setBlock w1 b (.mapIter (some r) cl (seen.push x.born) cl)) ?_ ?_
  ·simp only[execOp,hop,hp,hrun,Sem.run_bind,Result.andThen_ok,Sem.run_pure]
  ·refine hn F (.bp [.aV,.any,.any]) _ _ _ (Fz.le_refl F) ?_ ?_ (h1 x.born x.key p (by rw[hx2];exact hn') hp1 he2.2)
   ·refine hS2.perm ?_
    rw[List.append_assoc,List.append_assoc,List.cons_append];exact List.perm_middle.symm
   ·simp only[aC]
    exact ⟨[.bool true,x.key,x.val],rfl,by simp[aA,aC]⟩
theorem L8 (hS:aP w0 F (Γ++M) w) (hT:aA F T a.tmps.toList) (hn:Nx w0 M F o.dst a next K) {it:Operand} (hop:o.op=.entry it) {b:Nat} (hx:ev T it=.ptr b 0) (h:ji b Γ fun p=>K p Γ):o.wpIn (cX rd) nn P a w next Q:=by
 obtain ⟨r,cl,seen,n,k,kp,p,d,m,all,hΓ,hm,hall,hne,hmk,hkp,hK⟩:=h.h;have hp:=aL hT it;rw[hx] at hp;have hp:a.eval it=.pointer (some ⟨b,0,none⟩):=by simpa only[aC] using hp
 obtain ⟨es,hb,hM⟩:=vG hS hm;obtain ⟨st1,KO,st3⟩:=(MapKept.stamped_iff es cl).1 hM.st;have hr:w.heap[b]?=some (.mapIter (some r) cl (seen.push n) cl):=(hS.fe _ (List.mem_append_left M hΓ)).2.1;obtain ⟨x,hx1,hx2,hx3⟩:=(hM.KN ((n:Int),k) (List.mem_cons_of_mem _ hall)).resolve_left fun h=>hne h.1;simp only at hx2 hx3;have hxb:x.born=n:=by omega
 subst hxb;obtain ⟨p',hp1,hp2⟩:=hM.get x hx1;rw[hx3,hmk] at hp1;cases hp1;have hrun:=run_entry_at (P:=P) w b r cl seen es cl x hr hb hx1 KO;refine bX hS hn (v:=.tuple #[x.key,x.val]) ?_ ?_ hK
 ·simp only[execOp,hop,hp,hrun,Sem.run_bind,Result.andThen_ok,Sem.run_pure]
 ·simp only[aC]
  exact ⟨[x.key,x.val],rfl,by simp only[aA,and_true];exact ⟨by rw[hx3];exact hkp F,hp2⟩⟩
theorem yd {F:Fz} {x:PV} {v:Value} (h:aC F x v) (h1:v.oneCell'=true): ∀ n,aQ F (List.replicate n x) (List.replicate n v)
 | 0=>cG F
 | n + 1=>cg.2 ⟨⟨h1,h⟩,yd h h1 n⟩
theorem w8 (z:Value) (n:Nat):(Builtin.zeroCells #[z] n).toList=List.replicate n z:=by
 simp[Builtin.zeroCells];apply List.ext_getElem
 ·simp
 ·intro i h1 h2
  simp[Nat.mod_one]
theorem L7 (hk:TT.ok P tt) (hS:aP w0 F (Γ++M) w) (hT:aA F T a.tmps.toList) {x:Operand} {t:TypeId} {v:Value} {e:Nat} (ht:(tt t).cq=.sl e) (hne:(tt e).cq≠.other) (hx:ev T x=.sc v)
  (h:yK (r5 (tt e)) v Γ fun Γ'=>K (.bp []) Γ') (ty:TypeId): ∃ w' Γ',(Builtin.clear_ #[t] ty #[a.eval x]).run P w=.ok (.tuple #[]) w'∧aP w0 F (Γ'++M) w'∧K (.bp []) Γ':=by
 obtain ⟨_,hu⟩:=hk.get ht (by simp);have hu':P.underlying t=some (.slice e):=hu;obtain ⟨k,n,hz,tk,es,l,Γ1,Γ2,hv,rfl,hs,hl,hK⟩:=h.h;have hp:=aL hT x;rw[hx] at hp;simp only[aC] at hp;obtain ⟨zv,hz0,hzp⟩:=yz hk (F:=F) hne;rw[hz] at hzp hK;have hzv:=bV hzp;obtain ⟨hv1,p,cap,hve,hpp⟩:=hv;have hS':aP w0 F (Γ1++.row tk es::(Γ2++M)) w:=by simpa using hS
 have hn:=(hS'.fe (.row tk es) (List.mem_append_right Γ1 (List.mem_cons_self ..))).2.2.1;rw[hp.1,hve];by_cases h0:tk.n=l
 ·refine ⟨w,Γ1++.row tk es::Γ2,?_,hS,?_⟩
  ·rw[h0,Nat.sub_self]
   cases p<;>simp[Builtin.clear_,run_underlying hu']
  ·have e0:es.length - l=0:=by omega
   rw[e0,List.replicate_zero,List.append_nil,List.take_of_length_le (by omega)] at hK;exact hK
 ·obtain ⟨g,hg,rfl⟩:=hpp.resolve_left h0
  rw[hs,Nat.mul_one]
  obtain ⟨m,hm⟩: ∃ m,tk.n - l=m + 1:=⟨tk.n - l - 1,by omega⟩
  have hem:es.length - l=m + 1:=by omega
  rw[hem] at hK;obtain ⟨w',hst,hS2⟩:=hS'.D6 (i:=l) P (yd hzp (by rw[hzv];rfl) (m + 1)) hs hg (by rw[List.length_replicate];omega) (fun x hx=>by rw[List.eq_of_mem_replicate hx];rfl);refine ⟨w',_,?_,by simpa using hS2,hK⟩;have hzc:zv.cells= #[zv]:=by rw[hzv];rfl
  rw[hm];simp[Builtin.clear_,run_underlying hu',hz0,hzc,w8,hst]
end
section
variable {P:Program} {tt:Nat→TI} {o:Oper} {a:Act} {T:List PV} {Γ M:List aj} {K:PV→List aj→Prop} {w0 w:World} {F:Fz}
 {rd:Option Nat} {nn:Nat} {next:Act→World→Prop} {Q:Exit→Act→World→Prop}
theorem N7 (hk:TT.ok P tt) (hS:aP w0 F (Γ++M) w) (hT:aA F T a.tmps.toList) (hn:Nx w0 M F o.dst a next K) {s d:TypeId} {x:Operand} (hop:o.op=.convert s d x)
  (hs:(tt s).cq≠.other) (h:xx tt (tt s).cq (tt d).cq (ev T x) fun p=>K p Γ):o.wpIn (cX rd) nn P a w next Q:=by
 have hp:=aL hT x;obtain ⟨_,hd1⟩:=hk.get (t:=s) rfl hs;obtain ⟨ds,hus,_⟩:=TD.n8 hd1 hs;unfold xx at h
 split at h
 ·rename_i k k' n hd hx
  rw[hx] at hp;obtain ⟨_,hu⟩:=hk.get (t:=d) hd (by simp);have hu':P.underlying d=some (.int k):=hu;refine bX hS hn (v:=.int k (k.wrap n)) ?_ (by simp[aC]) h.h;simp[execOp,hop,bV hp,convert,run_underlying hus,run_underlying hu',Conv.intToInt]
 ·rename_i e b hd hx
  split at h
  ·rename_i hb hsz
   exact L5 hk hS hT hn hop hus hd hx hb h.h
  ·exact h.elim
 ·rename_i b hd hx
  split at h
  ·rename_i hs'
   rw[hx] at hp;obtain ⟨_,hu⟩:=hk.get (t:=d) hd (by simp);have hu':P.underlying d=some .string:=hu;obtain ⟨_,hu2⟩:=hk.get (t:=s) hs' (by simp);have hu2':P.underlying s=some .string:=hu2;refine bX hS hn (v:=.string ⟨b.toArray⟩) ?_ (by simp only[aC];exact ⟨trivial,mm hp⟩) h;simp[execOp,hop,jr hp,convert,run_underlying hu2',run_underlying hu']
  ·exact h.elim
 ·rename_i sz es tk hd hx
  split at h
  ·rename_i e hs'
   split at h
   ·rename_i hb
    obtain ⟨b,rfl,hK⟩:=h.h;exact J3 hk hS hT hn hop hs' hd hx hb hK
   ·exact h.elim
  ·exact h.elim
 ·exact h.elim
theorem JQ (hk:TT.ok P tt) (hS:aP w0 F (Γ++M) w) (hT:aA F T a.tmps.toList) (hn:Nx w0 M F o.dst a next K) {x y:Operand} {t:TypeId}
  {c:Call} (hop:o.op=.call c) (hc:c.callee=.builtin .append) (hargs:c.args.toList= [x,y]) (hty:c.argTypes.toList= [t,t])
  {e:Nat} (hfs:(tt t).cq=.sl e) (hne:(tt e).cq≠.other) (h:aW (tt e).size (tt e).bytes e (ev T x) (ev T y) Γ K):o.wpIn (cX rd) nn P a w next Q:=by
 obtain ⟨_,hu⟩:=hk.get hfs (by simp);have hu':P.underlying t=some (.slice e):=hu;obtain ⟨⟨i,z,hi,hsz,hby,hz,hzc,h3⟩,_⟩:=hk.get (t:=e) rfl hne;obtain ⟨es,ys,hy,hb1,hb2,hor⟩:=h.h;have hp:=aL hT x;have hq:=aL hT y;have hzs:z.cells.size=i.size:=by rw[h3,hsz]
 have hq2:iG F w (tt e).size ys (a.eval y):=by
  rcases hy with ⟨tk',hy⟩ | ⟨t',hy,hrow,hs⟩
  ·exact iG.Pv hS (hy _ _ hq)
  ·rw[hy] at hq
   simp only[aC] at hq;rw[hq.1, ←hs];exact iG.Ai hS (List.mem_append_left M hrow)
 have hexec: ∀ {v':Value} {w':World},(Builtin.append_ #[t,t] o.type #[a.eval x,a.eval y]).run P w=.ok v' w'→(execOp a.eval o).run P w=.ok (.value v') w':=by
  intro v' w' hr;have ha:c.args= #[x,y]:=by apply Array.ext';simpa using hargs
  have ht:c.argTypes= #[t,t]:=by apply Array.ext';simpa using hty
  simp only[execOp,hop,resolve,hc,ha,ht,invoke,builtin,Sem.run_bind,Sem.run_pure,Result.andThen_ok,List.map_toArray,List.map_cons,List.map_nil,hr]
 have hml:(281474976710655:Nat)≤maxLen:=by simp[maxLen]
 rcases hor with ⟨hx,hes,hK⟩ | ⟨tok,Γ1,Γ2,hx,rfl,hte,hK⟩ | ⟨tok,Γ1,Γ2,hx,rfl,hte,hts,hK⟩
 ·subst hes
  rw[hx] at hp;rcases hK with hK | hK
  ·obtain ⟨v',w',F',t',hr,hle,hS',hR,hte⟩:=hS.append_nil (P:=P) t o.type e i z hu' hi hz hzs hsz hq2 (by simp at hb1;omega) (by rw[hby];simpa using hb2)
   rw[←kA hp] at hr;exact aU (hexec hr) (hn F' _ _ _ _ hle (by simpa using hS') hR (hK t' hte))
  ·have hS0:aP w0 F ([]++.row (aB (tt e).size e) []::(Γ++M)) w:=hS.cK (tt e).size e
   obtain ⟨w',t',hr,hS2,h1,hte,hts⟩:=hS0.uL (P:=P) t o.type i z hu' hi hz hzs hsz hq2 (by simp at hb1 ⊢; omega) (by rw[hby];simpa using hb2);have hr':(Builtin.append_ #[t,t] o.type #[a.eval x,a.eval y]).run P w=.ok t'.v w':=by rw[kA hp];exact hr
   exact aU (hexec hr') (hn F (.ms t') _ _ _ (Fz.le_refl F) (by simpa using hS2) (by simp only[aC];exact ⟨trivial,h1⟩) (hK t' hte hts))
 ·rw[hx] at hp
  subst hte;have hS':aP w0 F (Γ1++.tok tok::(Γ2++M)) w:=by simpa using hS
  obtain ⟨v',w',F',t',hr,hle,hS2,hR,hte⟩:=hS'.r8 (P:=P) t o.type i z hu' hi hz hzs hsz hp hq2 (by omega) (by rw[hby];exact hb2);exact aU (hexec hr) (hn F' _ _ _ _ hle (by simpa using hS2) hR (hK t' hte))
 ·rw[hx] at hp
  subst hte;simp only[aC] at hp;have hS':aP w0 F (Γ1++.row tok es::(Γ2++M)) w:=by simpa using hS
  rw[←hts] at hq2 hsz;obtain ⟨w',t',hr,hS2,h1,hte,hts'⟩:=hS'.uL (P:=P) t o.type i z hu' hi hz hzs hsz hq2 (by omega) (by rw[hby];exact hb2);rw[←hp.1] at hr;exact aU (hexec hr) (hn F (.ms t') _ _ _ (Fz.le_refl F) (by simpa using hS2) (by simp only[aC];exact ⟨trivial,h1⟩) (hK t' hte (by rw[hts',hts])))
theorem jG (z:PV): ∀ n:Nat,flat (List.replicate n z)=(List.replicate n z.cellsOf).flatten
 | 0=>rfl
 | n + 1=>by
  have:=jG z n;simp only[flat,List.replicate_succ,List.flatMap_cons,List.flatten_cons] at this ⊢;rw[this]
theorem l8 (z:List Value) (hz:0 < z.length): ∀ n:Nat,(madeCells z.toArray (n * z.length)).toList=(List.replicate n z).flatten
 | 0=>by simp[madeCells]
 | n + 1=>by
  have ih:=l8 z hz n;rw[List.replicate_succ',List.flatten_append, ←ih];simp only[madeCells,Nat.succ_mul];apply List.ext_getElem
  ·simp
  ·intro i h1 h2
   simp only[List.size_toArray,Array.toList_map,Array.toList_range,List.length_map,List.length_range] at h1;simp only[List.size_toArray,Array.toList_map,Array.toList_range,List.getElem_map,List.getElem_range,List.getElem_append,List.length_map,List.length_range,List.flatten_cons,List.flatten_nil,List.append_nil]
   split
   ·rfl
   ·have e1:i % z.length=i - n * z.length:=by
     have:i=i - n * z.length + n * z.length:=by omega
     rw[this,Nat.add_mul_mod_self_right,Nat.mod_eq_of_lt (by omega)];omega
    simp only[e1];rw[getElem!_pos _ _ (by simp;omega)];simp
theorem Ch (hk:TT.ok P tt) (hS:aP w0 F (Γ++M) w) (hT:aA F T a.tmps.toList) (hn:Nx w0 M F o.dst a next K) {t:TypeId} {x y:Operand} (hop:o.op=.makeSlice t x y)
  {e:Nat} (hfs:(tt t).cq=.sl e) (hne:(tt e).cq≠.other) (h0:0 < (tt e).size) {zp:PV} (hzp:zp=mK (tt e).cq.agg (zeroOf (tt e)) id)
  (h:kS (tt e).size (tt e).bytes e zp (ev T x) (ev T y) fun p t=>K p (t::Γ)):o.wpIn (cX rd) nn P a w next Q:=by
 obtain ⟨_,hu⟩:=hk.get hfs (by simp);have hu':P.underlying t=some (.slice e):=hu;obtain ⟨⟨i,z,hi,hsz,hby,hz,hzc,h3⟩,_⟩:=hk.get (t:=e) rfl hne;obtain ⟨k,k',m,p,hx,hy,h1,h2,h4,h5,h6,h7⟩:=h.h;have hp:=aL hT x;have hq:=aL hT y;rw[hx] at hp;rw[hy] at hq;have hzl:z.cells.toList.length=(tt e).size:=by rw[Array.length_toList,h3]
 have hrun:=run_make (P:=P) w t e i z hu' hi hz k k' m p h1 h2 (by rw[hby,Int.mul_comm];omega) (by omega)
 have hmc:(madeCells z.cells (p.toNat * i.size)).toList=(List.replicate p.toNat z.cells.toList).flatten:=by
  have:=l8 z.cells.toList (by omega) p.toNat;rwa [hzl, ←hsz,Array.toArray_toList] at this
 have hcz:zp.cellsOf=zeroOf (tt e):=by
  have hl:(zeroOf (tt e)).length=(tt e).size:=by
   have hr:aQ F (zeroOf (tt e)) z.cells.toList:=by rw[hzc];exact ZK.o9 F _
   rw[hr.length,hzl]
  have hone: ∀ k:ZK,k.pv.cellsOf= [k.pv]:=by intro k;cases k<;>rfl
  rw[hzp] at h6 ⊢;generalize (tt e).cq.agg=ag at h6⊢
  cases ag with
  | true=>rfl
  | false=>
   unfold zeroOf at *
   cases hzo:(tt e).zero with
   | nil=>rw[hzo] at hl;simp at hl;omega
   | cons c cs=>
    rw[hzo] at h6 hl;have h6':c.pv.cellsOf.length=(tt e).size:=h6;have hl':cs.length + 1=(tt e).size:=by rw[←hl];simp
    rw[hone] at h6';have:cs= []:=List.eq_nil_of_length_eq_zero (by simp only[List.length_cons,List.length_nil] at h6';omega);subst this;exact hone c
 have hrz:aQ F zp.cellsOf z.cells.toList:=by rw[hcz,hzc];exact ZK.o9 F _
 have hrep: ∀ n:Nat,aQ F (flat (List.replicate n zp)) (List.replicate n z.cells.toList).flatten:=by
  intro n;rw[jG]
  induction n with
  | zero=>exact cG F
  | succ n ih=>simp only[List.replicate_succ,List.flatten_cons];exact bH hrz ih
 have hsplit:(List.replicate p.toNat z.cells.toList).flatten=(List.replicate m.toNat z.cells.toList).flatten++(List.replicate (p.toNat - m.toNat) z.cells.toList).flatten:=by
  rw[←List.flatten_append,List.replicate_append_replicate];congr 2;omega
 have hlen: ∀ n:Nat,((List.replicate n z.cells.toList).flatten).length=n * (tt e).size:=by
  intro n;simp[hzl]
 have hys: ∀ y∈List.replicate m.toNat zp,y.cellsOf.length=(tt e).size:=by
  intro y hy;rw[List.eq_of_mem_replicate hy];exact h6
 have hma:madeCells z.cells (p.toNat * i.size)=((List.replicate m.toNat z.cells.toList).flatten++(List.replicate (p.toNat - m.toNat) z.cells.toList).flatten).toArray:=by
  apply Array.ext';rw[hmc,hsplit]
 have hexec:(execOp a.eval o).run P w=.ok (.value (.slice (some ⟨w.heap.size,0,none⟩) m.toNat p.toNat)) (w.alloc (.cells ((List.replicate m.toNat z.cells.toList).flatten++(List.replicate (p.toNat - m.toNat) z.cells.toList).flatten).toArray e)):=by
  rw[hma] at hrun;simp only[execOp,hop,bV hp,bV hq,Sem.run_bind,hrun,Result.andThen_ok,Sem.run_pure]
 have hS':=aP.Af hS e (tt e).size m.toNat p.toNat (ys:=List.replicate m.toNat zp) (vs:=(List.replicate m.toNat z.cells.toList).flatten) (us:=(List.replicate (p.toNat - m.toNat) z.cells.toList).flatten) hys (hrep _) (by simp) (by omega) (by simp only[maxLen];omega)
  (by rw[←hsplit];exact hlen _)
 rcases h7 with h7 | h7
 ·obtain ⟨F',hle,hS2,hR⟩:=hS'.cE
  exact aU hexec (hn F' _ (.tok _::Γ) _ _ hle hS2 hR (h7 _ rfl))
 ·exact aU hexec (hn F (.ms _) (.row _ _::Γ) _ _ (Fz.le_refl F) hS' (by simp only[aC];exact ⟨trivial,rfl⟩) (h7 _ rfl rfl))
theorem G3 (hk:TT.ok P tt) (hS:aP w0 F (Γ++M) w) (hT:aA F T a.tmps.toList) (hn:Nx w0 M F o.dst a next K) {x y:Operand} {t u:TypeId}
  {c:Call} (hop:o.op=.call c) (hc:c.callee=.builtin .append) (hargs:c.args.toList= [x,y]) (hty:c.argTypes.toList= [t,u])
  {e:Nat} {ku kq:IntKind} {m:Int} (hfs:(tt t).cq=.sl e) (hfu:(tt u).cq=.int ku) (hx:ev T x=.nil) (hy:ev T y=.int kq m) (hne:(tt e).cq≠.other) (h0:0 < (tt e).size)
  {zp:PV} (hzp:zp=mK (tt e).cq.agg (zeroOf (tt e)) id) (h:CK (tt e).size (tt e).bytes e zp m Γ K):o.wpIn (cX rd) nn P a w next Q:=by
 obtain ⟨_,hu⟩:=hk.get hfs (by simp);have hu':P.underlying t=some (.slice e):=hu;obtain ⟨_,hv⟩:=hk.get hfu (by simp);have hv':P.underlying u=some (.int ku):=hv;obtain ⟨⟨i,z,hi,hsz,hby,hz,hzc,h3⟩,_⟩:=hk.get (t:=e) rfl hne;obtain ⟨h1,h2,h5,h6,h7⟩:=h.h;have hp:=aL hT x;have hq:=aL hT y;rw[hx] at hp;rw[hy] at hq;have hzl:z.cells.toList.length=(tt e).size:=by rw[Array.length_toList,h3]
 obtain ⟨n,rfl⟩: ∃ n:Nat,m=n:=⟨m.toNat,by omega⟩
 have hnb:n * i.bytes≤281474976710656:=by
  rw[hby];have:((n * (tt e).bytes:Nat):Int)≤140737488355328:=by rw[Int.natCast_mul];exact h5
  omega
 have hrun:=Go.Lib.run_append_nil_zeros (P:=P) w t u o.type e i z kq ku hu' hv' hi hz n (by omega) (by omega) (by omega) hnb;have hge:=grownCap_ge w n 0 e;have hle:=grownCap_le_maxLen w n 0 e (by simp only[maxLen];omega);generalize grownCap w n 0 e=g at hrun hge hle
 have hcz:zp.cellsOf=zeroOf (tt e):=by
  have hl:(zeroOf (tt e)).length=(tt e).size:=by
   have hr:aQ F (zeroOf (tt e)) z.cells.toList:=by rw[hzc];exact ZK.o9 F _
   rw[hr.length,hzl]
  have hone: ∀ k:ZK,k.pv.cellsOf= [k.pv]:=by intro k;cases k<;>rfl
  rw[hzp] at h6 ⊢;generalize (tt e).cq.agg=ag at h6⊢
  cases ag with
  | true=>rfl
  | false=>
   unfold zeroOf at *
   cases hzo:(tt e).zero with
   | nil=>rw[hzo] at hl;simp at hl;omega
   | cons c cs=>
    rw[hzo] at h6 hl;have h6':c.pv.cellsOf.length=(tt e).size:=h6;have hl':cs.length + 1=(tt e).size:=by rw[←hl];simp
    rw[hone] at h6';have:cs= []:=List.eq_nil_of_length_eq_zero (by simp only[List.length_cons,List.length_nil] at h6';omega);subst this;exact hone c
 have hrz:aQ F zp.cellsOf z.cells.toList:=by rw[hcz,hzc];exact ZK.o9 F _
 have hrep: ∀ n:Nat,aQ F (flat (List.replicate n zp)) (List.replicate n z.cells.toList).flatten:=by
  intro n;rw[jG]
  induction n with
  | zero=>exact cG F
  | succ n ih=>simp only[List.replicate_succ,List.flatten_cons];exact bH hrz ih
 have hlen: ∀ n:Nat,((List.replicate n z.cells.toList).flatten).length=n * (tt e).size:=by
  intro n;simp[hzl]
 have hzcells: ∀ n:Nat,(Builtin.zeroCells z.cells n).toList=(List.replicate n z.cells.toList).flatten:=by
  intro n;have:=l8 z.cells.toList (by omega) n;rwa [Array.toArray_toList,Array.length_toList] at this
 have hys: ∀ y∈List.replicate n zp,y.cellsOf.length=(tt e).size:=by
  intro y hy;rw[List.eq_of_mem_replicate hy];exact h6
 have hma:Builtin.zeroCells z.cells n++Builtin.zeroCells z.cells (g - n)=((List.replicate n z.cells.toList).flatten++(List.replicate (g - n) z.cells.toList).flatten).toArray:=by
  apply Array.ext';rw[Array.toList_append,hzcells,hzcells]
 rw[hma] at hrun;have ha:c.args= #[x,y]:=by apply Array.ext';simpa using hargs
 have ht:c.argTypes= #[t,u]:=by apply Array.ext';simpa using hty
 have hexec:(execOp a.eval o).run P w=.ok (.value (.slice (some ⟨w.heap.size,0,none⟩) n g)) (w.drew.alloc (.cells ((List.replicate n z.cells.toList).flatten++(List.replicate (g - n) z.cells.toList).flatten).toArray e)):=by
  simp only[execOp,hop,resolve,hc,ha,ht,invoke,builtin,Sem.run_bind,Sem.run_pure,Result.andThen_ok,List.map_toArray,List.map_cons,List.map_nil,kA hp,bV hq,hrun]
 have hSd:aP w0 F (Γ++M) w.drew:=hS.of_heap rfl rfl rfl rfl
 have hS':=aP.Af hSd e (tt e).size n g (ys:=List.replicate n zp) (vs:=(List.replicate n z.cells.toList).flatten) (us:=(List.replicate (g - n) z.cells.toList).flatten) hys (hrep _) (by simp) hge hle
  (by rw[List.length_append,hlen,hlen, ←Nat.add_mul];congr 1;omega)
 exact aU hexec (hn F (.ms _) (.row _ _::Γ) _ _ (Fz.le_refl F) hS' (by simp only[aC];exact ⟨rfl,rfl⟩) (h7 _ rfl rfl))
theorem js {f:FuncId} {fn:Func} (hf:P.funcs[f]?=some fn) (hb:fn.body.isNone=false) (hnm:(fn.name == "runtime.NumGoroutine")=false) (args:Array Value):
  (callFunc f args).run P w=.ok (.enter f args) w:=by
 simp only[callFunc,Sem.run_bind,run_program,Result.andThen_ok,hf,hnm,hb,Bool.false_eq_true,if_false,Sem.run_pure]
theorem N6 (hS:aP w0 F (Γ++M) w) (hT:aA F T a.tmps.toList) (hn:Nx w0 M F o.dst a next K) {c:Call} (hop:o.op=.call c) {x:Operand} (hc:c.callee=.value x)
  {f:FuncId} {cap:List PV} (hx:ev T x=.fn (.func f) cap) (h:aq P f (c.args.toList.map (ev T)++cap) Γ K):o.wpIn (cX rd) nn P a w next Q:=by
 have hp:=aL hT x;rw[hx] at hp;obtain ⟨vs,hv,hcap⟩:=rR hp;have hargs:=j6 (nT hT c.args.toList) hcap
 rcases h.h with h | ⟨y,hy,hK⟩
 rotate_left
 ·obtain ⟨v,h1,h2⟩:=hy F w _ hargs
  refine aU (v:=v) (w':=w) ?_ (hn F y Γ v w (Fz.le_refl F) hS h2 hK);have e:(c.args.toList.map a.eval++vs).toArray=c.args.map a.eval++vs.toArray:=by apply Array.ext';simp
  rw[e] at h1;simp only[execOp,hop,resolve,hc,Deferred.ofValue,hv,invoke,Sem.run_bind,Sem.run_pure,Result.andThen_ok];simpa using h1
 obtain ⟨⟨fn,hf,hb,hnm⟩,hA⟩:=h;have hC:=hA w0 F M w _ hS hargs;refine Cy (f:=f) (args:=(c.args.toList.map a.eval++vs).toArray) (w':=w) ?_ ?_
 ·simp only[execOp,hop,resolve,hc,Deferred.ofValue,hv,invoke,Sem.run_bind,Sem.run_pure,Result.andThen_ok,js hf hb hnm]
  congr 2;apply Array.ext';simp
 ·refine hC.mono ?_
  rintro e w' ⟨v,F',y,Γ',rfl,hle,hS',hR,hQ⟩;exact ⟨v,rfl,hn F' y Γ' v w' hle hS' hR hQ⟩
theorem L6 (hS:aP w0 F (Γ++M) w) (hT:aA F T a.tmps.toList) (hn:Nx w0 M F o.dst a next K) {c:Call} (hop:o.op=.call c) {x:Operand} (hc:c.callee=.value x)
  {f:FuncId} {z:PV} (hx:ev T x=.fm f z) (h:aq P f (z::c.args.toList.map (ev T)) Γ K):o.wpIn (cX rd) nn P a w next Q:=by
 have hp:=aL hT x;rw[hx] at hp;obtain ⟨u,hv,hz⟩: ∃ u,a.eval x=.func (.func f) #[u] #[]∧aC F z u:=by simpa only[aC] using hp
 have hargs:aA F (z::c.args.toList.map (ev T)) (u::c.args.toList.map a.eval):=by simp only[aA];exact ⟨hz,nT hT c.args.toList⟩
 have e:(u::c.args.toList.map a.eval).toArray= #[u]++c.args.map a.eval:=by apply Array.ext';simp
 rcases h.h with h | ⟨y,hy,hK⟩
 rotate_left
 ·obtain ⟨v,h1,h2⟩:=hy F w _ hargs
  refine aU (v:=v) (w':=w) ?_ (hn F y Γ v w (Fz.le_refl F) hS h2 hK);rw[e] at h1;simp only[execOp,hop,resolve,hc,Deferred.ofValue,hv,invoke,Sem.run_bind,Sem.run_pure,Result.andThen_ok];simpa using h1
 obtain ⟨⟨fn,hf,hb,hnm⟩,hA⟩:=h;have hC:=hA w0 F M w _ hS hargs;refine Cy (f:=f) (args:=(u::c.args.toList.map a.eval).toArray) (w':=w) ?_ ?_
 ·simp only[execOp,hop,resolve,hc,Deferred.ofValue,hv,invoke,Sem.run_bind,Sem.run_pure,Result.andThen_ok,js hf hb hnm]
  congr 2;apply Array.ext';simp
 ·refine hC.mono ?_
  rintro e w' ⟨v,F',y,Γ',rfl,hle,hS',hR,hQ⟩;exact ⟨v,rfl,hn F' y Γ' v w' hle hS' hR hQ⟩
theorem Mc (hS:aP w0 F (Γ++M) w) (hT:aA F T a.tmps.toList) (hn:Nx w0 M F o.dst a next K) {c:Call} (hop:o.op=.call c) {x:Operand} (hc:c.callee=.value x)
  {l:Nat} (hx:ev T x=.fn (.yield l) []) (h:kF P l (c.args.toList.map (ev T)) Γ K):o.wpIn (cX rd) nn P a w next Q:=by
 have hp:=aL hT x;rw[hx] at hp;obtain ⟨vs,hv,hcap⟩:=rR hp
 obtain rfl:vs= []:=by cases vs with
  | nil=>rfl
  | cons v vs=>simp[aA] at hcap
 obtain ⟨fn,tmps,assign,body,hr,hround⟩:=h.h w0 F M w _ hS (nT hT c.args.toList);have e:(c.args.toList.map a.eval).toArray=c.args.map a.eval:=by apply Array.ext';simp
 rw[e] at hr;refine KF (l:=l) (f:=fn) (tmps:=tmps) (assign:=assign) (body:=body) (w':=w) ?_ ?_
 ·simp only[execOp,hop,resolve,hc,Deferred.ofValue,hv,invoke,Sem.run_bind,Sem.run_pure,Result.andThen_ok]
  simpa using hr
 ·refine hround.mono ?_
  rintro e w' ⟨v,F',y,Γ',rfl,hle,hS',hR,hQ⟩;exact ⟨v,rfl,hn F' y Γ' v w' hle hS' hR hQ⟩
theorem wh: ∀ (ops:List (Nat×Operand)) (j:Nat) (k k':List PV→Prop),(∀ l,k l→k' l)→mo T j ops k→mo T j ops k'
 | [],j,k,k',hk,h=>hk _ h
 | (i,x)::r,j,k,k',hk,h=>by
  simp only[mo,aI] at h⊢
  split at h
  ·exact h.elim
  ·exact wh r _ _ _ (fun l=>hk _) h
theorem nZ (x:Option Operand) (k:Option PV→Prop):DH T x k=k (x.map (ev T)):=by
 cases x<;>simp[DH,aI]
theorem gi (hk:TT.ok P tt) (hS:aP w0 F (Γ++M) w) (hT:aA F T a.tmps.toList) (hW:pI P tt o.op T Γ K) (hn:Nx w0 M F o.dst a next K):o.wpIn (cX rd) nn P a w next Q:=by
 cases hop:o.op<;>rw[hop] at hW<;>simp only[pI] at hW<;>first | exact hW.elim | skip
 case move x=>rw[aI] at hW;exact JY hS hT hn (.inl hop) hW
 case assign x=>rw[aI] at hW;exact JY hS hT hn (.inr hop) hW
 case pick c x y=>
  simp only[aI] at hW;have hc:=aL hT c
  split at hW
  ·rename_i he;rw[he] at hc;exact JZ hS hT hn hop true (bK hc) hW
  ·rename_i he;rw[he] at hc;exact JZ hS hT hn hop false (bw hc) hW
  ·rename_i p he;rw[he] at hc
   exact L9 hS hT hn hop p (cQ hc) hW
  ·exact hW.elim
 case alloc t=>
  split at hW
  ·exact hW.elim
  ·rename_i h0;simp only[cn] at hW;exact L0 hk hS hn hop h0 hW
 case box t x=>
  rw[aI] at hW
  split at hW
  ·rename_i hc;simp only[fR,List.append_nil] at hW;exact PG hS hT hn hop hc hW
  ·exact hW.elim
 case build t parts=>
  split at hW
  ·rename_i fs hfs;rw[cn] at hW;exact L4 hk hS hT hn hop hfs hW
  ·rename_i n e hfs
   obtain ⟨hne,hW⟩:=dc hW
   split at hW
   ·rename_i hb
    refine DU hk hS hT hn hop hfs hne (Nat.eq_of_beq_eq_true hb) (wh parts.toList 0 _ _ (fun ys h=>?_) hW)
    split at h
    ·rename_i hb;exact ⟨Nat.eq_of_beq_eq_true hb,h⟩
    ·exact h.elim
   ·exact hW.elim
  ·exact hW.elim
 case buildSlice t len parts=>
  split at hW
  ·rename_i e hfs
   obtain ⟨hne,hW⟩:=dc hW;refine Au hk hS hT hn hop hfs hne ?_
   have mono: ∀ (ops:List (Nat×Operand)) (j:Nat) (k k':List PV→Prop),(∀ l,k l→k' l)→mo T j ops k→mo T j ops k':=by
    intro ops
    induction ops with
    | nil=>intro j k k' hk h;exact hk _ h
    | cons p r ih=>
     intro j k k' hk h;obtain ⟨i,x⟩:=p;simp only[mo,aI] at h⊢
     split at h
     ·exact h.elim
     ·exact ih _ _ _ (fun l=>hk _) h
   refine mono _ _ _ _ (fun ys h=>?_) hW
   split at h
   ·rename_i hb;exact ⟨Nat.eq_of_beq_eq_true hb,h.h.1,by have:=h.h.2;rwa [gQ] at this⟩
   ·exact h.elim
  ·exact hW.elim
 case load t x=>
  rw[aI] at hW
  split at hW
  ·exact hW.elim
  ·rename_i h1
   split at hW
   ·exact hW.elim
   ·rename_i h2;exact N8 hk hS hT hn hop h1 (by simpa using h2) hW
 case store t x y=>
  simp only[aI] at hW
  split at hW
  ·exact hW.elim
  ·rename_i h0;exact Mb hk hS hT hn hop h0 hW
 case nilCheck x=>
  rw[aI] at hW
  split at hW
  ·rename_i b q he;exact iD hS hT hn hop (.inl ⟨b,q,he⟩) (by rw[he];exact hW)
  ·rename_i cs he;exact iD hS hT hn hop (.inr (.inl ⟨cs,he⟩)) (by rw[he];exact hW)
  ·rename_i f cap he;exact iD hS hT hn hop (.inr (.inr (.inl ⟨.func f,cap,by simp,he⟩))) (by rw[he];exact hW)
  ·rename_i l he;exact iD hS hT hn hop (.inr (.inr (.inl ⟨.yield l, [],by simp,he⟩))) (by rw[he];exact hW)
  ·rename_i t i q he;exact iD hS hT hn hop (.inr (.inr (.inr (.inl ⟨t,i,q,he⟩)))) (by rw[he];exact hW)
  ·rename_i f z he;exact iD hS hT hn hop (.inr (.inr (.inr (.inr ⟨f,z,he⟩)))) (by rw[he];exact hW)
  ·exact hW.elim
 case binOp op t x y u=>
  simp only[aI] at hW
  split at hW
  ·rename_i hy;exact PI hk hS hT hn hop hy hW
  ·split at hW
   ·rename_i hx hy;exact LZ hS hT hn hop hx hy hW
   ·exact PF hk hS hT hn hop hW
 case makeMap t r=>
  cases r<;>simp only at hW<;>first | exact hW.elim | skip
  split at hW
  ·split at hW
   ·exact G4 hS hn hop _ hW
   ·exact hW.elim
  ·exact hW.elim
 case lookup t x i ok=>
  simp only[aI] at hW
  split at hW
  ·rename_i kt et r ht hx
   split at hW
   ·rename_i d hd
    obtain ⟨hne,hW⟩:=dc hW;rw[cn,iJ] at hW;refine JW hk hS hT hn hop ht hx hd hne ?_;obtain ⟨k,m,aK,y,b,h1,h2,h3,h4,h5,h6⟩:=hW.h;refine ⟨k,m,aK,y,b,h1,h2,h3,h4,h5,?_⟩;cases ok<;>exact h6
   ·exact hW.elim
  ·exact hW.elim
 case mapUpdate t x i v=>
  simp only[aI] at hW
  split at hW
  ·rename_i kt et r ht hx
   split at hW
   ·rename_i d hd;exact Ci hk hS hT hn hop ht hx hd hW
   ·exact hW.elim
  ·exact hW.elim
 case mapEntry t x i=>
  simp only[aI] at hW
  split at hW
  ·rename_i kt et r ht hx
   split at hW
   ·rename_i d hd
    obtain ⟨hne,hW⟩:=dc hW;rw[cn,iJ] at hW;exact DV hk hS hT hn hop ht hx hd hne hW
   ·exact hW.elim
  ·exact hW.elim
 case entryStore t x i v=>
  simp only[aI] at hW
  split at hW
  ·rename_i r j n hx hi;exact Av hS hT hn hop hx hi hW
  ·exact hW.elim
 case range t x=>
  rw[aI] at hW
  split at hW
  ·rename_i kt et r ht hx
   split at hW
   ·exact Ma hk hS hT hn hop ht hx hW
   ·exact hW.elim
  ·exact hW.elim
 case next it str=>
  rw[aI] at hW
  split at hW
  ·rename_i b hx;exact N9 hS hT hn hop hx hW
  ·exact hW.elim
 case entry it=>
  rw[aI] at hW
  split at hW
  ·rename_i b hx;exact L8 hS hT hn hop hx hW
  ·exact hW.elim
 case unOp op t x=>
  rw[aI] at hW;have hp:=aL hT x
  split at hW
  ·rename_i k n he;rw[he] at hp
   exact bX hS hn (v:=.int k (k.wrap (0 - n))) (by simp[execOp,hop,bV hp,Op.unary,Op.intArith]) (by simp[aC]) hW.h
  ·rename_i b he;rw[he] at hp
   exact bX hS hn (v:=.bool (!b)) (by simp[execOp,hop,cQ hp,Op.unary]) (by simp[aC]) hW
  ·rename_i he;rw[he] at hp
   exact bX hS hn (v:=.bool false) (by simp[execOp,hop,bK hp,Op.unary]) (by simp[aC]) hW
  ·rename_i he;rw[he] at hp
   exact bX hS hn (v:=.bool true) (by simp[execOp,hop,bw hp,Op.unary]) (by simp[aC]) hW
  ·exact hW.elim
 case convert s d x=>
  rw[aI] at hW;obtain ⟨hs,hW⟩:=dc hW;exact N7 hk hS hT hn hop hs hW
 case makeFunc fn first cap=>
  cases fn<;>simp only at hW<;>first | exact hW.elim | skip
  rename_i f
  split at hW
  ·rename_i hf
   rw[fh] at hW;have hf':first= #[]:=by apply Array.ext';simpa using hf
   refine bX hS hn (v:=.func (.func f) #[] (cap.toList.map a.eval).toArray) ?_ ?_ hW
   ·have e1:cap.map a.eval=(cap.toList.map a.eval).toArray:=by
     apply Array.ext';simp
    simp only[execOp,hop,Instr.makeFunc,hf',Sem.run_bind,Sem.run_pure,Result.andThen_ok,e1,Array.map_empty]
   ·simp only[aC];exact ⟨_,rfl,nT hT _⟩
  ·rename_i r hr
   split at hW
   ·rename_i hc
    rw[aI] at hW;have hr':first= #[r]:=by apply Array.ext';simpa using hr
    have hc':cap= #[]:=by apply Array.ext';simpa using hc
    refine bX hS hn (v:=.func (.func f) #[a.eval r] #[]) ?_ ?_ hW
    ·simp[execOp,hop,Instr.makeFunc,hr',hc']
    ·simp only[aC];exact ⟨_,rfl,aL hT r⟩
   ·exact hW.elim
  ·exact hW.elim
 case slice t x lo hi mx=>
  cases mx with
  | some m=>
   simp only[aI,nZ] at hW
   split at hW
   ·rename_i e s es tk hfs hx
    obtain ⟨hne,hW⟩:=dc hW;exact Cj hk hS hT hn hop hfs hne hW.h.1.symm (.inl ⟨es,tk,hx⟩) hW.h.2
   ·rename_i e hfs hx
    obtain ⟨hne,hW⟩:=dc hW;rw[gQ] at hW;exact Cj hk hS hT hn hop hfs hne rfl (.inr hx) hW
   ·exact hW.elim
  | none=>
   simp only[aI,nZ] at hW
   split at hW
   ·rename_i n e b ht hx
    split at hW
    ·rename_i hl hh
     have hl':lo=none:=by cases lo<;>simp at hl⊢
     have hh':hi=none:=by cases hi<;>simp at hh⊢
     subst hl' hh';obtain ⟨hne,hW⟩:=dc hW;exact DW hk hS hT hn hop ht hx hne hW
    ·exact hW.elim
   ·rename_i e s es tk hfs hx
    obtain ⟨hne,hW⟩:=dc hW;exact J0 hk hS hT hn hop hfs hne hx hW.h.1 hW.h.2
   ·rename_i e t' hfs hx
    obtain ⟨hne,hW⟩:=dc hW;exact J1 hk hS hT hn hop hfs hne hx hW
   ·rename_i s hfs hx
    exact J2 hk hS hT hn hop hfs hx hW
   ·rename_i e hfs hx
    obtain ⟨hne,hW⟩:=dc hW;have hp:=aL hT x;rw[hx] at hp;obtain ⟨_,hu⟩:=hk.get hfs (by simp);obtain ⟨⟨i,z,hi',hsz,_⟩,_⟩:=hk.get (t:=e) rfl hne;have hu':P.underlying t=some (.slice e):=hu;have hb:=bW (P:=P) (isSlice:=true) (len:=0) (cap:=0) (dF hW.h.1.2 (fU hT hi)) (dF hW.h.1.1 (fU hT lo)) (Nat.le_refl _) (Nat.le_refl _) w;refine bX hS hn (v:=.slice none 0 0) ?_ (by simp[aC]) hW.h.2;simp[execOp,hop,Instr.sliceAt,Instr.slice,run_underlying hu',kA hp,hb,run_sizeOf hi']
   ·exact hW.elim
 case makeSlice t x y=>
  simp only[aI] at hW
  split at hW
  ·rename_i e hfs
   obtain ⟨hne,hW⟩:=dc hW
   split at hW
   ·rename_i hb
    rw[cn,iJ,gQ] at hW;exact Ch hk hS hT hn hop hfs hne (by simpa[Nat.blt,Nat.succ_le_iff] using hb) rfl hW
   ·exact hW.elim
  ·exact hW.elim
 case fieldAddr s x f=>
  rw[aI] at hW
  split at hW
  ·rename_i fs hfs
   rw[ux] at hW
   split at hW
   ·rename_i p o' n g hy
    split at hW
    ·rename_i b q he;exact nB hk hS hT hn hop hfs hy (.inl ⟨b,q,he,hW⟩)
    ·rename_i cs he;rw[dQ] at hW;exact nB hk hS hT hn hop hfs hy (.inr (.inl ⟨cs,he,hW⟩))
    ·rename_i t i q he;exact nB hk hS hT hn hop hfs hy (.inr (.inr ⟨t,i,q,he,hW⟩))
    ·exact hW.elim
   ·exact hW.elim
  ·exact hW.elim
 case field s x f=>
  rw[aI] at hW
  split at hW
  ·rename_i fs cs hfs hx
   rw[ux] at hW
   split at hW
   ·rename_i o' n g hy
    split at hW
    ·split at hW
     ·simp only[dQ,fO] at hW
      exact Fk hk hS hT hn hop hfs hy hx (.inl ⟨rfl,hW⟩)
     ·rw[dQ] at hW
      split at hW
      ·rename_i c r hd;exact Fk hk hS hT hn hop hfs hy hx (.inr ⟨c,r,rfl,hd,hW⟩)
      ·exact hW.elim
     ·exact hW.elim
    ·exact hW.elim
   ·exact hW.elim
  ·exact hW.elim
 case indexAddr t x y=>
  simp only[aI] at hW
  split at hW
  ·rename_i e hfs
   split at hW
   ·rename_i t' hx
    obtain ⟨hne,hW⟩:=dc hW;exact JT hk hS hT hn hop hfs hne hx hW
   ·obtain ⟨hne,hW⟩:=dc hW
    exact JR hk hS hT hn hop hfs hne hW
  ·rename_i n e hfs
   obtain ⟨hne,hW⟩:=dc hW;exact JU hk hS hT hn hop hfs hne hW
  ·exact hW.elim
 case index t x y=>
  simp only[aI] at hW
  split at hW
  ·rename_i s hfs hx;exact JV hk hS hT hn hop hfs hx hW
  ·rename_i n e cs ht hx
   obtain ⟨hne,hW⟩:=dc hW;exact JS hk hS hT hn hop ht hx hne hW
  ·exact hW.elim
 case extract t i=>
  rw[aI] at hW;have hp:=aL hT t
  split at hW
  ·rename_i xs hx
   rw[hx] at hp;obtain ⟨vs,hv,hr⟩:=Ar hp;rw[Ah] at hW
   split at hW
   ·rename_i x1 hi
    have hg:=hr.get i;have hl:=hr.length;have hlt:i < xs.length:=(List.getElem?_eq_some_iff.1 hi).1;have hx1:xs.getD i .any=x1:=by simp[List.getD,hi]
    rw[hx1] at hg;refine bX hS hn (v:=vs.getD i undef) ?_ hg hW;have hvi:vs[i]?=some (vs.getD i undef):=by simp[List.getD,List.getElem?_eq_getElem (show i < vs.length by omega)]
    have hvi':vs.toArray[i]?=some (vs.getD i undef):=by simpa using hvi
    simp only[execOp,hop,Instr.extract,hv,hvi',Sem.run_bind,Sem.run_pure,Result.andThen_ok]
   ·exact hW.elim
  ·exact hW.elim
 case call c=>
  unfold xq at hW
  split at hW
  ·rename_i x hc
   rw[aI] at hW
   split at hW
   ·rename_i f cap hx
    simp only[fh,fR] at hW;exact N6 hS hT hn hop hc hx hW
   ·rename_i l hx
    simp only[fh] at hW;exact Mc hS hT hn hop hc hx hW
   ·rename_i f z hx
    simp only[fh] at hW;exact L6 hS hT hn hop hc hx hW
   ·exact hW.elim
  ·rename_i b hc
   rw[fh] at hW
   have hexec: ∀ {v':Value} {w':World},((builtin b c.argTypes o.type (c.args.map fun | .const _=>true | _=>false) (c.args.map a.eval)).run P w=.ok (.value v') w')→(execOp a.eval o).run P w=.ok (.value v') w':=by
    intro v' w' hr;simp only[execOp,hop,resolve,hc,invoke,Sem.run_bind,Sem.run_pure,Result.andThen_ok];exact hr
   have one: ∀ {p:PV},c.args.toList.map (ev T)= [p]→ ∃ x,c.args= #[x]∧ev T x=p:=by
    intro p h;rcases hl:c.args.toList with _ | ⟨x,_ | ⟨y,l⟩⟩<;>rw[hl] at h<;>simp at h;exact ⟨x,by apply Array.ext';simpa using hl,h⟩
   have two: ∀ {p q:PV},c.args.toList.map (ev T)= [p,q]→ ∃ x y,c.args= #[x,y]∧ev T x=p∧ev T y=q:=by
    intro p q h;rcases hl:c.args.toList with _ | ⟨x,_ | ⟨y,_ | ⟨z,l⟩⟩⟩<;>rw[hl] at h<;>simp at h;exact ⟨x,y,by apply Array.ext';simpa using hl,h.1,h.2⟩
   cases b<;>simp only at hW<;>first | exact hW.elim | skip
   case clear=>
    split at hW
    ·rename_i v t has hty
     obtain ⟨x,ha,hx⟩:=one has;have ht:c.argTypes= #[t]:=by apply Array.ext';simpa using hty
     split at hW
     ·rename_i e hfs
      obtain ⟨hne,hW⟩:=dc hW;rw[cn,iJ] at hW;obtain ⟨w',Γ',h1,h2,h3⟩:=L7 hk hS hT hfs hne hx hW o.type;refine aU (hexec (v':=.tuple #[]) (w':=w') ?_) (hn F _ Γ' _ w' (Fz.le_refl F) h2 (by simp only[aC];exact ⟨[],rfl,by simp[aA]⟩) h3);simp[builtin,ha,ht,h1]
     ·exact hW.elim
    ·exact hW.elim
   case delete=>
    split at hW
    ·rename_i r k t t2 has hty
     obtain ⟨x,i,ha,hx,rfl⟩:=two has
     split at hW
     ·rename_i kt et ht
      split at hW
      ·rename_i d hd
       exact JX hk hS hT hn hop hc (by rw[ha]) hty ht hx hd hW
      ·exact hW.elim
     ·exact hW.elim
    ·exact hW.elim
   case cap=>
    split at hW
    ·rename_i has
     obtain ⟨x,ha,hx⟩:=one has
     split at hW
     ·rename_i t hty
      have ht:c.argTypes= #[t]:=by apply Array.ext';simpa using hty
      have hp:=aL hT x;rw[hx] at hp
      split at hW
      ·rename_i e hfs
       obtain ⟨_,hu⟩:=hk.get hfs (by simp);have hu':P.underlying t=some (.slice e):=hu;refine aU (hexec (v':=.int .i64 0) (w':=w) ?_) (hn F _ Γ _ w (Fz.le_refl F) hS (by simp[aC]) hW);simp[builtin,Builtin.cap_,ha,ht,run_underlying hu',kA hp,goInt]
      ·exact hW.elim
     ·exact hW.elim
    ·exact hW.elim
   case append=>
    split at hW
    ·rename_i p q t u has hty
     obtain ⟨x,y,ha,rfl,rfl⟩:=two has
     split at hW
     ·rename_i e htu hfs
      have htu:=Nat.eq_of_beq_eq_true htu;subst htu
      split at hW
      ·obtain ⟨hne,hW⟩:=dc hW
       rw[gQ] at hW;exact JQ hk hS hT hn hop hc (by rw[ha]) hty hfs hne hW
      ·exact hW.elim
     ·rename_i e htu hfs
      split at hW
      ·rename_i ku kq m hfu hx hy
       obtain ⟨hne,hW⟩:=dc hW
       split at hW
       ·rename_i hb
        rw[cn,iJ,gQ] at hW;exact G3 hk hS hT hn hop hc (by rw[ha]) hty hfs hfu hx hy hne (by simpa[Nat.blt,Nat.succ_le_iff] using hb) rfl hW
       ·exact hW.elim
      ·exact hW.elim
     ·exact hW.elim
    ·exact hW.elim
   case len=>
    split at hW
    ·rename_i p has
     obtain ⟨x,ha,rfl⟩:=one has
     split at hW
     ·rename_i t hty
      have ht:c.argTypes= #[t]:=by apply Array.ext';simpa using hty
      have hp:=aL hT x
      split at hW
      ·rename_i e s es tk hfs hx
       rw[hx] at hp;obtain ⟨_,hu⟩:=hk.get hfs (by simp);have hu':P.underlying t=some (.slice e):=hu
       have hv: ∃ ad cap,a.eval x=.slice ad es.length cap∧es.length≤9223372036854775807:=by
        simp only[aC] at hp
        rcases hp.2 with ⟨h1,h2⟩ | ⟨b,q,cap,h1,h2,h3,_⟩ | ⟨h1,q,h2⟩
        ·subst h2;exact ⟨none,0,h1,by simp⟩
        ·exact ⟨_,cap,h1,by simp only[maxLen] at h3;omega⟩
        ·subst h1;exact ⟨_,0,h2,by simp⟩
       obtain ⟨ad,cap,hv,hbd⟩:=hv;refine aU (hexec (v':=.int .i64 es.length) (w':=w) ?_) (hn F _ Γ _ w (Fz.le_refl F) hS (by simp[aC]) (hW.h hbd));simp[builtin,Builtin.len_,ha,ht,run_underlying hu',hv,goInt]
      ·rename_i e hfs hx
       rw[hx] at hp;obtain ⟨_,hu⟩:=hk.get hfs (by simp);have hu':P.underlying t=some (.slice e):=hu;refine aU (hexec (v':=.int .i64 0) (w':=w) ?_) (hn F _ Γ _ w (Fz.le_refl F) hS (by simp[aC]) hW);simp[builtin,Builtin.len_,ha,ht,run_underlying hu',kA hp,goInt]
      ·rename_i e t' hfs hx
       rw[hx] at hp;simp only[aC] at hp;obtain ⟨_,hu⟩:=hk.get hfs (by simp);have hu':P.underlying t=some (.slice e):=hu;obtain ⟨es,hrow,hK⟩:=hW.h;obtain ⟨⟨xs,hown,_⟩,_,h4,_⟩:=hS.fe _ (List.mem_append_left M hrow)
       have hv: ∃ ad cap,a.eval x=.slice ad es.length cap∧es.length≤9223372036854775807:=by
        rw[hp.1]
        rcases hown.shape with ⟨h1,h2⟩ | ⟨ad,cap,h1,h2,h3,_⟩
        ·exact ⟨none,0,by rw[h1];congr 1;omega,by omega⟩
        ·exact ⟨_,cap,by rw[h1,h4],by simp only[maxLen] at h3;omega⟩
       obtain ⟨ad,cap,hv,hbd⟩:=hv;refine aU (hexec (v':=.int .i64 es.length) (w':=w) ?_) (hn F _ Γ _ w (Fz.le_refl F) hS (by simp[aC]) (hK hbd));simp[builtin,Builtin.len_,ha,ht,run_underlying hu',hv,goInt]
      ·rename_i kt et r hfs hx
       rw[hx] at hp;have hp:a.eval x=.map (some r):=by simpa only[aC] using hp
       obtain ⟨_,hu⟩:=hk.get hfs (by simp);have hu':P.underlying t=some (.map kt et):=hu;obtain ⟨d,m,aK,hmem,hK⟩:=hW.h;obtain ⟨_,es,clock,hheap,hmo⟩:=hS.fe _ (List.mem_append_left M hmem)
       have h0:es.size=0↔ ∀ k,m k=none:=by
        constructor
        ·intro h k
         cases hm:m k with
         | none=>rfl
         | some p=>
          obtain ⟨y,hy,_⟩:=hmo.dom k p hm;have he:es= #[]:=Array.eq_empty_of_size_eq_zero h;rw[he] at hy;simp at hy
        ·intro h
         apply Classical.byContradiction;intro hne;have hlt:0 < es.size:=Nat.pos_of_ne_zero hne;obtain ⟨p,hp2,_⟩:=hmo.get es[0] (by simp);rw[h] at hp2;cases hp2
       refine aU (hexec (v':=.int .i64 es.size) (w':=w) ?_) (hn F _ Γ _ w (Fz.le_refl F) hS (by simp[aC]) (hK es.size h0));simp[builtin,Builtin.len_,ha,ht,run_underlying hu',hp,MapKept.run_getObj_map hheap,Result.andThen,goInt]
      ·rename_i s hfs hx
       rw[hx] at hp;obtain ⟨_,hu⟩:=hk.get hfs (by simp);have hu':P.underlying t=some .string:=hu;refine aU (hexec (v':=.int .i64 s.length) (w':=w) ?_) (hn F _ Γ _ w (Fz.le_refl F) hS (by simp[aC]) (hW (mm hp)));have hsz:(ByteArray.mk s.toArray).size=s.length:=by simp[ByteArray.size]
       simp[builtin,Builtin.len_,ha,ht,run_underlying hu',jr hp,goInt,hsz]
      ·exact hW.elim
     ·exact hW.elim
    ·exact hW.elim
   case max=>
    split at hW
    ·rename_i k n k' m has
     obtain ⟨x,y,ha,hx,hy⟩:=two has;have hp:=aL hT x;have hq:=aL hT y;rw[hx] at hp;rw[hy] at hq
     split at hW
     ·refine aU (hexec (v':=.int k (if n < m then m else n)) (w':=w) ?_) (hn F _ Γ _ w (Fz.le_refl F) hS (by simp[aC]) hW)
      simp[builtin,Builtin.max_,Builtin.max2,ha,bV hp,bV hq]
     ·exact hW.elim
    ·exact hW.elim
   case min=>
    split at hW
    ·rename_i k n k' m has
     obtain ⟨x,y,ha,hx,hy⟩:=two has;have hp:=aL hT x;have hq:=aL hT y;rw[hx] at hp;rw[hy] at hq
     split at hW
     ·refine aU (hexec (v':=.int k (if m < n then m else n)) (w':=w) ?_) (hn F _ Γ _ w (Fz.le_refl F) hS (by simp[aC]) hW)
      simp[builtin,Builtin.min_,Builtin.min2,ha,bV hp,bV hq]
     ·exact hW.elim
    ·exact hW.elim
  ·exact hW.elim
end
section
variable {P:Program} {tt:Nat→TI}
theorem kR.mono {p:Bool} {A A' B B':Prop} (h:kR p A B) (ha:A→A') (hb:B→B'):kR p A' B':=⟨fun e=>ha (h.t e),fun e=>hb (h.f e)⟩
theorem eO.mono {g:Bool} {E:PV→Prop} {A A' B B':Prop} {L L':PV→Prop} (h:eO g E A B L) (hA:A→A') (hB:B→B') (hL: ∀ z,L z→L' z):eO g E A' B' L':=by
 rcases h.h with h | ⟨x,h1,h2⟩
 ·exact ⟨.inl ⟨fun e=>hA (h.t e),fun e=>hB (h.f e)⟩⟩
 ·exact ⟨.inr ⟨x,h1,hL _ h2⟩⟩
theorem u6 {fs:List (Nat×Nat×Bool)} {T:List PV}: ∀ (ps:List (Nat×Operand)) (cs:List PV) (k k':List PV→Prop),(∀ l,k l→k' l)→mW fs T ps cs k→mW fs T ps cs k'
 | [],cs,k,k',hk,h=>hk _ h
 | (i,x)::r,cs,k,k',hk,h=>by
  simp only[mW,aI] at h⊢
  split at h<;>first | exact h.elim | skip
  split at h<;>first | exact h.elim | skip
  split at h<;>first | exact h.elim | skip
  split at h<;>first | exact h.elim | skip
  simp only[fO,dQ,fR] at h ⊢;exact u6 r _ k k' hk h
theorem rU {T:List PV}: ∀ (ps:List (Nat×Operand)) (j:Nat) (k k':List PV→Prop),(∀ l,k l→k' l)→mo T j ps k→mo T j ps k'
 | [],j,k,k',hk,h=>hk _ h
 | (i,x)::r,j,k,k',hk,h=>by
  simp only[mo,aI] at h⊢
  split at h<;>first | exact h.elim | skip
  exact rU r _ _ _ (fun l=>hk _) h
theorem bU {e:Nat} {p q:Prop} (h:p→q) (k:uh tt e p):uh tt e q:=by
 unfold uh at *
 split at k<;>first | exact k.elim | exact h k
theorem FI {op:BinOp} {t:TD} {x y:PV} {K K':PV→Prop} (hk: ∀ p,K p→K' p) (h:mI op t x y K):mI op t x y K':=by
 unfold mI at h⊢
 split at h
 ·split at h
  ·exact ⟨h.h.1,hk _ h.h.2⟩
  ·exact ⟨h.h.1,hk _ h.h.2⟩
  ·split at h
   ·exact h.elim
   ·rename_i he
    split at h<;>first
     | exact ⟨hk _ h.h⟩
     | exact ⟨h.h.1,⟨hk _ h.h.2.h⟩⟩
     | exact ⟨h.h.1,hk _ h.h.2⟩
     | exact hk _ h
     | exact h.elim
 ·split at h<;>first | exact ⟨h.h.1,hk _ h.h.2⟩ | exact hk _ h | exact h.elim
 ·split at h
  ·unfold mI.ptrEqK at h ⊢; split at h<;>first | exact hk _ h | exact h.elim
  ·unfold mI.ptrEqK at h ⊢; split at h<;>first | exact hk _ h | exact h.elim
  ·unfold mI.boolEqK at h ⊢; split at h<;>first | exact hk _ h | exact h.elim
  ·unfold mI.boolEqK at h ⊢; split at h<;>first | exact hk _ h | exact h.elim
  ·unfold mI.slNilK at h ⊢; split at h<;>first | exact hk _ h | exact h.elim | exact ⟨fun q hq=>hk _ (h.h q hq)⟩
  ·unfold mI.slNilK at h ⊢; split at h<;>first | exact hk _ h | exact h.elim | exact ⟨fun q hq=>hk _ (h.h q hq)⟩
  ·exact h.elim
theorem C3 {s d:TD} {x:PV} {K K':PV→Prop} (hk: ∀ p,K p→K' p) (h:xx tt s d x K):xx tt s d x K':=by
 unfold xx at h⊢
 split at h
 ·exact ⟨hk _ h.h⟩
 ·split at h<;>first | exact ⟨hk _ h.h⟩ | exact h.elim
 ·split at h<;>first | exact hk _ h | exact h.elim
 ·split at h
  ·split at h
   ·obtain ⟨b,h1,h2⟩:=h.h
    exact ⟨b,h1,hk _ h2⟩
   ·exact h.elim
  ·exact h.elim
 ·exact h.elim
theorem Gs {op:BinOp} {t:TD} {x:PV} {K K':PV→Prop} (hk: ∀ p,K p→K' p) (h:Gr op t x K):Gr op t x K':=by
 unfold Gr at h⊢
 split at h<;>first | exact hk _ h | exact h.elim
theorem fy.mono {r:Nat} {d:TypeDesc} {key:Option Value} {z:PV} {Γ:List aj} {K K':PV→Bool→Prop} (hk: ∀ p b,K p b→K' p b) (h:fy r d key z Γ K):fy r d key z Γ K':=by
 obtain ⟨k,m,aK,y,b,h1,h2,h3,h4,h5,h6⟩:=h.h;exact ⟨k,m,aK,y,b,h1,h2,h3,h4,h5,hk _ _ h6⟩
theorem fP.mono {r:Nat} {d:TypeDesc} {key:Option Value} {p:PV} {Γ:List aj} {K K':List aj→Prop} (hk: ∀ Γ,K Γ→K' Γ) (h:fP r d key p Γ K):fP r d key p Γ K':=by
 obtain ⟨k,m,m',aK,Γ1,Γ2,h1,h2,h3,h4,h5,hq,h6⟩:=h.h;exact ⟨k,m,m',aK,Γ1,Γ2,h1,h2,h3,h4,h5,hq,hk _ h6⟩
theorem dN.mono {r:Nat} {d:TypeDesc} {key:Option Value} {Γ:List aj} {K K':List aj→Prop} (hk: ∀ Γ,K Γ→K' Γ) (h:dN r d key Γ K):dN r d key Γ K':=by
 obtain ⟨k,m,m',aK,Γ1,Γ2,h1,h2,h3,h4,h5,h6⟩:=h.h;exact ⟨k,m,m',aK,Γ1,Γ2,h1,h2,h3,h4,h5,hk _ h6⟩
theorem dP.mono {r:Nat} {d:TypeDesc} {key:Option Value} {z:PV} {Γ:List aj} {K K':PV→List aj→Prop} (hk: ∀ p Γ,K p Γ→K' p Γ) (h:dP r d key z Γ K):dP r d key z Γ K':=by
 obtain ⟨k,m,m',aK,Γ1,Γ2,h1,h2,h3,h4,h5,hq,h6⟩:=h.h;exact ⟨k,m,m',aK,Γ1,Γ2,h1,h2,h3,h4,h5,hq,fun n=>hk _ _ (h6 n)⟩
theorem cF.mono {r:Nat} {n:Int} {p:PV} {Γ:List aj} {K K':List aj→Prop} (hk: ∀ Γ,K Γ→K' Γ) (h:cF r n p Γ K):cF r n p Γ K':=by
 obtain ⟨d,k,m,m',aK,Γ1,Γ2,h1,hq,h2,h3,h4,h5⟩:=h.h;exact ⟨d,k,m,m',aK,Γ1,Γ2,h1,hq,h2,h3,h4,hk _ h5⟩
theorem jj.mono {r:Nat} {d:TypeDesc} {Γ:List aj} {K K':PV→List aj→Prop} (hk: ∀ p Γ,K p Γ→K' p Γ) (h:jj r d Γ K):jj r d Γ K':=by
 obtain ⟨m,aK,Γ1,Γ2,h1,h2⟩:=h.h;exact ⟨m,aK,Γ1,Γ2,h1,fun b all cl ha=>hk _ _ (h2 b all cl ha)⟩
theorem lN.mono {b:Nat} {Γ:List aj} {K K':PV→List aj→Prop} (hk: ∀ p Γ,K p Γ→K' p Γ) (h:lN b Γ K):lN b Γ K':=by
 obtain ⟨r,cl,seen,d,m,all,Γ1,Γ2,h1,h2,h3,h4,h5,h6⟩:=h.h;exact ⟨r,cl,seen,d,m,all,Γ1,Γ2,h1,h2,h3,h4,fun n k p a1 a2 a3=>hk _ _ (h5 n k p a1 a2 a3),fun a=>hk _ _ (h6 a)⟩
theorem ji.mono {b:Nat} {Γ:List aj} {K K':PV→Prop} (hk: ∀ p,K p→K' p) (h:ji b Γ K):ji b Γ K':=by
 obtain ⟨r,cl,seen,n,k,kp,p,d,m,all,h1,h2,h3,h4,h5,h6,h7⟩:=h.h;exact ⟨r,cl,seen,n,k,kp,p,d,m,all,h1,h2,h3,h4,h5,h6,hk _ h7⟩
theorem kU.mono {n sz b:Nat} {Γ:List aj} {K K':PV→List aj→Prop} (hk: ∀ p Γ,K p Γ→K' p Γ) (h:kU n sz b Γ K):kU n sz b Γ K':=by
 obtain ⟨all,es,Γ1,Γ2,h1,h2,h3,h4,h5,h6⟩:=h.h;exact ⟨all,es,Γ1,Γ2,h1,h2,h3,h4,h5,hk _ _ h6⟩
theorem j3.mono {n sz:Nat} {g:Bool} {cs:List PV} {i:PV} {K K':PV→Prop} (hk: ∀ p,K p→K' p) (h:j3 n sz g cs i K):j3 n sz g cs i K':=by
 obtain ⟨k,m,h1,h2,h3,h4,h5⟩:=h.h;refine ⟨k,m,h1,h2,h3,h4,?_⟩
 rcases h5 with ⟨e1,e2⟩ | ⟨c,e1,e2,e3,e4⟩
 ·exact .inl ⟨e1,hk _ e2⟩
 ·exact .inr ⟨c,e1,e2,e3,hk _ e4⟩
theorem aW.mono {s b:Nat} {e:TypeId} {x y:PV} {Γ:List aj} {K K':PV→List aj→Prop} (hk: ∀ p Γ',K p Γ'→K' p Γ') (h:aW s b e x y Γ K):aW s b e x y Γ K':=by
 obtain ⟨es,ys,h1,h2,h3,h4⟩:=h.h;refine ⟨es,ys,h1,h2,h3,?_⟩
 rcases h4 with ⟨a,b,c⟩ | ⟨t,Γ1,Γ2,a,b,c,d⟩ | ⟨t,Γ1,Γ2,a,b,c,c',d⟩
 ·exact .inl ⟨a,b,c.imp (fun c t ht=>hk _ _ (c t ht)) fun c t ht hs=>hk _ _ (c t ht hs)⟩
 ·exact .inr (.inl ⟨t,Γ1,Γ2,a,b,c,fun t' ht=>hk _ _ (d t' ht)⟩)
 ·exact .inr (.inr ⟨t,Γ1,Γ2,a,b,c,c',fun t' ht hs=>hk _ _ (d t' ht hs)⟩)
theorem kT.mono {s:Nat} {ys:List PV} {e:TypeId} {K K':PV→aj→Prop} (hk: ∀ p t,K p t→K' p t) (h:kT s ys e K):kT s ys e K':=
 ⟨h.h.1,h.h.2.1,h.h.2.2.imp (fun c t ht=>hk _ _ (c t ht)) fun c t ht hs=>hk _ _ (c t ht hs)⟩
theorem kS.mono {s b:Nat} {e:TypeId} {z n c:PV} {K K':PV→aj→Prop} (hk: ∀ p t,K p t→K' p t) (h:kS s b e z n c K):kS s b e z n c K':=by
 obtain ⟨k,k',m,p,h1,h2,h3,h4,h5,h6,h7,h8⟩:=h.h;exact ⟨k,k',m,p,h1,h2,h3,h4,h5,h6,h7,h8.imp (fun c t ht=>hk _ _ (c t ht)) fun c t ht hs=>hk _ _ (c t ht hs)⟩
theorem cr.mono {n:Nat} {p x:PV} {Γ:List aj} {K K':List aj→Prop} (hk: ∀ Γ,K Γ→K' Γ) (h:cr n p x Γ K):cr n p x Γ K':=by
 obtain ⟨h1,h2,xs,h3,h4,h5⟩:=h.h;refine ⟨h1,h2,xs,h3,h4,?_⟩
 rcases h5 with ⟨b,o,all,Γ1,Γ2,a1,a2,a3,a4⟩ | ⟨t,i,o,es,e,e',Γ1,Γ2,a1,a2,a3,a4,a5,a6⟩
 ·exact .inl ⟨b,o,all,Γ1,Γ2,a1,a2,a3,hk _ a4⟩
 ·exact .inr ⟨t,i,o,es,e,e',Γ1,Γ2,a1,a2,a3,a4,a5,hk _ a6⟩
theorem kF.mono {l:Nat} {args:List PV} {Γ:List aj} {K K':PV→List aj→Prop} (hk: ∀ p Γ',K p Γ'→K' p Γ') (h:kF P l args Γ K):kF P l args Γ K':=
 ⟨fun w0 F M w vs hS hT=>by
  obtain ⟨fn,tmps,assign,body,h1,h2⟩:=h.h w0 F M w vs hS hT;refine ⟨fn,tmps,assign,body,h1,h2.mono ?_⟩;rintro _ _ ⟨v,F',y,Γ',e1,e2,e3,e4,e5⟩
  exact ⟨v,F',y,Γ',e1,e2,e3,e4,hk _ _ e5⟩⟩
theorem aq.mono {f:FuncId} {args:List PV} {Γ:List aj} {K K':PV→List aj→Prop} (hk: ∀ p Γ',K p Γ'→K' p Γ') (h:aq P f args Γ K):aq P f args Γ K':=by
 rcases h.h with h | ⟨y,h1,h2⟩
 ·exact ⟨.inl ⟨h.1,fun w0 F M w vs hS hT=>(h.2 w0 F M w vs hS hT).mono fun _ _ ⟨v,F',y,Γ',e1,e2,e3,e4,e5⟩=>⟨v,F',y,Γ',e1,e2,e3,e4,hk _ _ e5⟩⟩⟩
 ·exact ⟨.inr ⟨y,h1,hk _ _ h2⟩⟩
theorem CS {T:List PV} {c:Call} {Γ:List aj} {K K':PV→List aj→Prop} (hk: ∀ p Γ',K p Γ'→K' p Γ') (h:xq P tt T c Γ K):xq P tt T c Γ K':=by
 unfold xq at h⊢
 split at h
 ·simp only[aI,fh,fR] at h⊢
  split at h
  ·exact aq.mono hk h
  ·exact h.mono hk
  ·exact aq.mono hk h
  ·exact h.elim
 ·rename_i b _
  simp only[fh] at h ⊢;cases b<;>simp only at h⊢ <;>first | exact h.elim | skip
  case clear=>
   split at h<;>first | exact h.elim | skip
   split at h<;>first | exact h.elim | skip
   refine bU (fun h=>?_) h;rw[cn,iJ] at h ⊢;obtain ⟨k,n,h1,t,es,l,Γ1,Γ2,h2,h3,h4,h5,h6⟩:=h.h;exact ⟨k,n,h1,t,es,l,Γ1,Γ2,h2,h3,h4,h5,hk _ _ h6⟩
  case cap=>
   split at h<;>first | exact h.elim | skip
   split at h<;>first | exact h.elim | skip
   split at h<;>first | exact h.elim | exact hk _ _ h
  ·split at h<;>first | exact h.elim | skip
   split at h<;>first | exact h.elim | skip
   ·split at h<;>first | exact h.elim | skip
    refine bU (fun h=>?_) h;rw[gQ] at h ⊢;exact aW.mono hk h
   ·split at h<;>first | exact h.elim | skip
    refine bU (fun h=>?_) h
    split at h<;>first | exact h.elim | skip
    rw[cn,iJ,gQ] at h ⊢;exact ⟨h.h.1,h.h.2.1,h.h.2.2.1,h.h.2.2.2.1,fun t h1 h2=>hk _ _ (h.h.2.2.2.2 t h1 h2)⟩
  ·split at h<;>first | exact h.elim | skip
   split at h<;>first | exact h.elim | skip
   split at h<;>first | exact h.elim | skip
   exact h.mono fun Γ=>hk _ Γ
  ·split at h<;>first | exact h.elim | skip
   split at h<;>first | exact h.elim | skip
   split at h<;>first | exact h.elim | exact hk _ _ h | exact fun e=>hk _ _ (h e) | exact ⟨fun e=>hk _ _ (h.h e)⟩ | exact ⟨h.h.choose,h.h.choose_spec.1,fun e=>hk _ _ (h.h.choose_spec.2 e)⟩ | (obtain ⟨d,m,aK,h1,h2⟩:=h.h;exact ⟨d,m,aK,h1,fun n hn=>hk _ _ (h2 n hn)⟩)
  ·split at h<;>first | exact h.elim | skip
   split at h<;>first | exact h.elim | exact hk _ _ h
  ·split at h<;>first | exact h.elim | skip
   split at h<;>first | exact h.elim | exact hk _ _ h
 ·exact h.elim
theorem uF {op:Op} {T:List PV} {Γ:List aj} {K K':PV→List aj→Prop} (hk: ∀ p Γ',K p Γ'→K' p Γ') (h:pI P tt op T Γ K):pI P tt op T Γ K':=by
 cases op<;>simp only[pI] at h⊢ <;>first | exact h.elim | skip
 case move x=>simp only[aI] at h ⊢; exact hk _ _ h
 case assign x=>simp only[aI] at h ⊢; exact hk _ _ h
 case pick c x y=>
  simp only[aI] at h⊢
  split at h<;>first | exact h.elim | exact hk _ _ h | exact DK (fun z=>hk z _) h
 case alloc t=>
  split at h<;>first | exact h.elim | skip
  intro b;simp only[cn] at h ⊢; exact hk _ _ (h b)
 case box t x=>
  simp only[aI,fR] at h⊢
  split at h<;>first | exact h.elim | exact fun b=>hk _ _ (h b)
 case build t ps=>
  split at h<;>first | exact h.elim | skip
  ·simp only[cn] at h⊢
   exact u6 _ _ _ _ (fun l=>hk _ _) h
  ·refine bU (fun h=>?_) h
   split at h<;>first | exact h.elim | skip
   refine rU _ _ _ _ (fun l h=>?_) h
   split at h<;>first | exact h.elim | exact ⟨h.h.1,h.h.2.1,hk _ _ h.h.2.2⟩
 case buildSlice t n ps=>
  split at h<;>first | exact h.elim | skip
  refine bU (fun h=>rU _ _ _ _ (fun l h=>?_) h) h
  split at h<;>first | exact h.elim | skip
  obtain ⟨h1,h2⟩:=h.h;rw[gQ] at h2;exact ⟨h1,by rw[gQ];exact h2.mono fun p t=>hk _ _⟩
 case load t x=>
  simp only[aI] at h⊢
  split at h<;>first | exact h.elim | skip
  split at h<;>first | exact h.elim | skip
  obtain ⟨cs,h1,h2⟩:=h.h;refine ⟨cs,h1,?_⟩;unfold mK at h2⊢
  split at h2
  ·exact hk _ _ h2
  ·split at h2<;>exact hk _ _ h2
 case store t x y=>
  simp only[aI] at h⊢
  split at h<;>first | exact h.elim | skip
  exact h.mono fun Γ=>hk _ Γ
 case nilCheck x=>
  simp only[aI] at h⊢
  split at h<;>first | exact h.elim | exact hk _ _ h
 case binOp op t x y u=>
  simp only[aI] at h⊢
  split at h
  ·rename_i hc;exact Gs (fun p=>hk _ _) h
  ·split at h
   ·obtain ⟨q,h1,h2⟩:=h.h
    exact ⟨q,h1,hk _ _ h2⟩
   ·exact FI (fun p=>hk _ _) h
 case makeMap t r=>
  cases r<;>simp only at h⊢ <;>first | exact h.elim | skip
  split at h<;>first | exact h.elim | skip
  split at h<;>first | exact h.elim | exact fun r=>hk _ _ (h r)
 case lookup t x i ok=>
  simp only[aI] at h⊢
  split at h<;>first | exact h.elim | skip
  split at h<;>first | exact h.elim | skip
  refine bU (fun h=>?_) h;rw[cn,iJ] at h ⊢;refine h.mono ?_;intro p b h;cases ok<;>exact hk _ _ h
 case mapUpdate t x i v=>
  simp only[aI] at h⊢
  split at h<;>first | exact h.elim | skip
  split at h<;>first | exact h.elim | exact h.mono fun Γ=>hk _ Γ
 case mapEntry t x i=>
  simp only[aI] at h⊢
  split at h<;>first | exact h.elim | skip
  split at h<;>first | exact h.elim | skip
  refine bU (fun h=>?_) h;rw[cn,iJ] at h ⊢;exact h.mono hk
 case entryStore t x i v=>
  simp only[aI] at h⊢
  split at h<;>first | exact h.elim | exact h.mono fun Γ=>hk _ Γ
 case range t x=>
  simp only[aI] at h⊢
  split at h<;>first | exact h.elim | skip
  split at h<;>first | exact h.elim | exact h.mono hk
 case next it str=>
  simp only[aI] at h⊢
  split at h<;>first | exact h.elim | exact h.mono hk
 case entry it=>
  simp only[aI] at h⊢
  split at h<;>first | exact h.elim | exact h.mono fun p=>hk p _
 case unOp op t x=>
  simp only[aI] at h⊢
  split at h<;>first | exact h.elim | exact ⟨hk _ _ h.h⟩ | exact hk _ _ h
 case convert s d x=>simp only[aI] at h ⊢; exact bU (C3 (fun p=>hk _ _)) h
 case makeFunc fn first cap=>
  cases fn<;>simp only at h⊢ <;>first | exact h.elim | skip
  split at h<;>first | exact h.elim | skip
  ·simp only[fh] at h ⊢; exact hk _ _ h
  ·split at h<;>first | exact h.elim | skip
   simp only[aI] at h ⊢; exact hk _ _ h
 case slice t x lo hi mx=>
  cases mx with
  | some m=>
   simp only[aI,nZ] at h⊢
   split at h
   ·refine bU (fun h=>⟨h.h.1,?_⟩) h
    obtain ⟨a,b,c,d⟩:=h.h.2.h;exact ⟨a,b,c,fun t ht=>hk _ _ (d t ht)⟩
   ·refine bU (fun h=>?_) h
    rw[gQ] at h ⊢;obtain ⟨a,b,c,d⟩:=h.h;exact ⟨a,b,c,fun t ht=>hk _ _ (d t ht)⟩
   ·exact h.elim
  | none=>
  simp only[aI,nZ] at h⊢
  split at h
  ·split at h
   ·exact bU (fun h=>h.mono hk) h
   ·exact h.elim
  ·refine bU (fun h=>⟨h.h.1,?_⟩) h
   obtain ⟨l,g,a,b,c,d,e⟩:=h.h.2.h;exact ⟨l,g,a,b,c,d,hk _ _ e⟩
  ·refine bU (fun h=>?_) h
   rcases h.h with h | ⟨a,es,l,b,c,d,e,f⟩
   ·obtain ⟨es,Γ1,Γ2,n,a,b,c,d,e,f⟩:=h.h
    exact ⟨.inl ⟨es,Γ1,Γ2,n,a,b,c,d,e,fun t' ht hs=>hk _ _ (f t' ht hs)⟩⟩
   ·exact ⟨.inr ⟨a,es,l,b,c,d,e,fun v hv=>hk _ _ (f v hv)⟩⟩
  ·obtain ⟨l,g,a,b,c,d,e⟩:=h.h
   exact ⟨l,g,a,b,c,d,hk _ _ e⟩
  ·exact bU (fun h=>⟨h.h.1,hk _ _ h.h.2⟩) h
  ·exact h.elim
 case makeSlice t x y=>
  simp only[aI] at h⊢
  split at h<;>first | exact h.elim | skip
  refine bU (fun h=>?_) h
  split at h<;>first | exact h.elim | skip
  rw[cn,iJ,gQ] at h ⊢;exact h.mono fun p t=>hk _ _
 case fieldAddr s x f=>
  simp only[aI] at h⊢
  split at h<;>first | exact h.elim | skip
  split at h<;>first | exact h.elim | skip
  split at h<;>first | exact h.elim | exact hk _ _ h | (simp only[dQ] at h ⊢; exact hk _ _ h)
 case field s x f=>
  simp only[aI] at h⊢
  split at h<;>first | exact h.elim | skip
  split at h<;>first | exact h.elim | skip
  split at h<;>first | exact h.elim | skip
  split at h<;>first | exact h.elim | skip
  ·simp only[dQ,fO] at h ⊢; exact hk _ _ h
  ·simp only[dQ] at h⊢
   split at h<;>first | exact h.elim | exact hk _ _ h
 case indexAddr t x y=>
  simp only[aI] at h⊢
  split at h
  ·split at h
   ·refine bU (fun h=>?_) h
    obtain ⟨es,k,n,a,b,c,d,e,f⟩:=h.h;exact ⟨es,k,n,a,b,c,d,e,hk _ _ f⟩
   ·refine bU (fun h=>?_) h
    obtain ⟨s,es,tk,k,n,e,a,b,c,d,f,g⟩:=h.h;exact ⟨s,es,tk,k,n,e,a,b,c,d,f,hk _ _ g⟩
  ·refine bU (fun h=>?_) h
   obtain ⟨b,o,k,m,a,c,d,e,f⟩:=h.h;exact ⟨b,o,k,m,a,c,d,e,hk _ _ f⟩
  ·exact h.elim
 case index t x y=>
  simp only[aI] at h⊢
  split at h<;>first | exact h.elim | skip
  ·obtain ⟨k,n,b,a,c,d,e⟩:=h.h
   exact ⟨k,n,b,a,c,d,hk _ _ e⟩
  ·exact bU (fun h=>h.mono fun p=>hk p _) h
 case extract t i=>
  simp only[aI] at h⊢
  split at h<;>first | exact h.elim | skip
  split at h<;>first | exact h.elim | exact hk _ _ h
 case call c=>exact CS hk h
theorem sw {fs:List (Nat×Nat×Bool)} {T T':List PV}: ∀ (ps:List (Nat×Operand)) (cs:List PV) (k:List PV→Prop),(∀ p∈ps,ev T p.2=ev T' p.2)→mW fs T ps cs k→mW fs T' ps cs k
 | [],cs,k,hk,h=>h
 | (i,x)::r,cs,k,hk,h=>by
  simp only[mW,aI] at h ⊢;rw[←hk (i,x) (by simp)]
  split at h<;>first | exact h.elim | skip
  split at h<;>first | exact h.elim | skip
  split at h<;>first | exact h.elim | skip
  split at h<;>first | exact h.elim | skip
  rename_i hc _ hl _ hb;simp only[hc,hl,hb];simp only[fO,dQ,fR] at h ⊢;exact sw r _ k (fun p hp=>hk p (by simp[hp])) h
theorem pn {T T':List PV}: ∀ (ps:List (Nat×Operand)) (j:Nat) (k:List PV→Prop),(∀ p∈ps,ev T p.2=ev T' p.2)→mo T j ps k→mo T' j ps k
 | [],j,k,hk,h=>h
 | (i,x)::r,j,k,hk,h=>by
  simp only[mo,aI] at h ⊢;rw[←hk (i,x) (by simp)]
  split at h<;>first | exact h.elim | skip
  exact pn r _ _ (fun p hp=>hk p (by simp[hp])) h
theorem iu {op:Op} {T T':List PV} {Γ:List aj} {K:PV→List aj→Prop} (hx: ∀ x∈op.operands.toList,ev T x=ev T' x) (h:pI P tt op T Γ K):pI P tt op T' Γ K:=by
 cases op<;>simp only[pI] at h⊢ <;>first | exact h.elim | skip
 case move x=>simp only[aI] at h ⊢; rwa [←hx x (by simp[Op.operands])]
 case assign x=>simp only[aI] at h ⊢; rwa [←hx x (by simp[Op.operands])]
 case pick c x y=>simp only[aI] at h ⊢; rwa [←hx c (by simp[Op.operands]), ←hx x (by simp[Op.operands]), ←hx y (by simp[Op.operands])]
 case alloc t=>exact h
 case box t x=>simp only[aI] at h ⊢; rwa [←hx x (by simp[Op.operands])]
 case build t ps=>
  split at h<;>first | exact h.elim | skip
  rotate_left
  ·refine bU (fun h=>?_) h
   split at h<;>first | exact h.elim | exact pn _ _ _ (fun p hp=>hx p.2 (by simp only[Op.operands];exact List.mem_map_of_mem hp)) h
  simp only[cn] at h ⊢;exact sw _ _ _ (fun p hp=>hx p.2 (by simp only[Op.operands];exact List.mem_map_of_mem hp)) h
 case buildSlice t n ps=>
  split at h<;>first | exact h.elim | skip
  exact bU (fun h=>pn _ _ _ (fun p hp=>hx p.2 (by simp only[Op.operands];exact List.mem_map_of_mem hp)) h) h
 case load t x=>simp only[aI] at h ⊢; rwa [←hx x (by simp[Op.operands])]
 case store t x y=>simp only[aI] at h ⊢; rwa [←hx x (by simp[Op.operands]), ←hx y (by simp[Op.operands])]
 case nilCheck x=>simp only[aI] at h ⊢; rwa [←hx x (by simp[Op.operands])]
 case binOp op t x y u=>simp only[aI] at h ⊢; rwa [←hx x (by simp[Op.operands]), ←hx y (by simp[Op.operands])]
 case makeMap t r=>cases r<;>simp only at h⊢ <;>first | exact h.elim | exact h
 case lookup t x i ok=>simp only[aI] at h ⊢; rwa [←hx x (by simp[Op.operands]), ←hx i (by simp[Op.operands])]
 case mapUpdate t x i v=>simp only[aI] at h ⊢; rwa [←hx x (by simp[Op.operands]), ←hx i (by simp[Op.operands]), ←hx v (by simp[Op.operands])]
 case mapEntry t x i=>simp only[aI] at h ⊢; rwa [←hx x (by simp[Op.operands]), ←hx i (by simp[Op.operands])]
 case entryStore t x i v=>simp only[aI] at h ⊢; rwa [←hx x (by simp[Op.operands]), ←hx i (by simp[Op.operands]), ←hx v (by simp[Op.operands])]
 case range t x=>simp only[aI] at h ⊢; rwa [←hx x (by simp[Op.operands])]
 case next it str=>simp only[aI] at h ⊢; rwa [←hx it (by simp[Op.operands])]
 case entry it=>simp only[aI] at h ⊢; rwa [←hx it (by simp[Op.operands])]
 case unOp op t x=>simp only[aI] at h ⊢; rwa [←hx x (by simp[Op.operands])]
 case convert s d x=>simp only[aI] at h ⊢; rwa [←hx x (by simp[Op.operands])]
 case makeFunc fn first cap=>
  cases fn<;>simp only at h⊢ <;>first | exact h.elim | skip
  split at h<;>first | exact h.elim | skip
  ·simp only[fh] at h⊢
   rwa [←List.map_congr_left (fun x hxm=>hx x (by simp[Op.operands];exact .inr (by simpa using hxm)))]
  ·rename_i r hr
   split at h<;>first | exact h.elim | skip
   simp only[aI] at h⊢
   rwa [←hx r (by
    have:first= #[r]:=by apply Array.ext';simpa using hr
    simp[Op.operands,this])]
 case slice t x lo hi mx=>
  have e3:mx.map (ev T)=mx.map (ev T'):=by cases mx with
   | none=>rfl
   | some l=>simp only[Option.map_some];rw[hx l (by simp[Op.operands])]
  have e1:lo.map (ev T)=lo.map (ev T'):=by cases lo with
   | none=>rfl
   | some l=>simp only[Option.map_some];rw[hx l (by simp[Op.operands])]
  have e2:hi.map (ev T)=hi.map (ev T'):=by cases hi with
   | none=>rfl
   | some l=>simp only[Option.map_some];rw[hx l (by simp[Op.operands])]
  cases mx with
  | none=>
   simp only[aI,nZ] at h ⊢;rwa [←hx x (by simp[Op.operands]), ←e1, ←e2]
  | some m=>
   simp only[aI,nZ] at h ⊢;rwa [←hx x (by simp[Op.operands]), ←e1, ←e2, ←e3]
 case makeSlice t x y=>simp only[aI] at h ⊢; rwa [←hx x (by simp[Op.operands]), ←hx y (by simp[Op.operands])]
 case fieldAddr s x f=>simp only[aI] at h ⊢; rwa [←hx x (by simp[Op.operands])]
 case field s x f=>simp only[aI] at h ⊢; rwa [←hx x (by simp[Op.operands])]
 case indexAddr t x y=>simp only[aI] at h ⊢; rwa [←hx x (by simp[Op.operands]), ←hx y (by simp[Op.operands])]
 case index t x y=>simp only[aI] at h ⊢; rwa [←hx x (by simp[Op.operands]), ←hx y (by simp[Op.operands])]
 case extract t i=>simp only[aI] at h ⊢; rwa [←hx t (by simp[Op.operands])]
 case call c=>
  unfold xq at h ⊢;simp only[aI,fh] at h ⊢;have e1:c.args.toList.map (ev T)=c.args.toList.map (ev T'):=List.map_congr_left (fun x hxm=>hx x (by simp[Op.operands,Call.operands];exact .inr (by simpa using hxm)));rw[←e1]
  split at h
  ·rename_i f hc
   rwa [←hx f (by simp[Op.operands,Call.operands,hc])]
  ·exact h
  ·exact h
end
theorem aA.reset {F:Fz} {x:PV}: ∀ {cs:List PV} {vs:List Value} (_:aA F cs vs) (i:Nat) (_:aC F x (vs.getD i undef)),aA F (cs.set i x) vs
 | [], [],_,_,_=>by simp[aA]
 | [],_::_,h,_,_=>by simp only[aA] at h
 | _::_, [],h,_,_=>by simp only[aA] at h
 | c::cs,u::vs,h,0,hx=>by simp only[aA] at h;simp only[List.set_cons_zero,aA];exact ⟨by simpa using hx,h.2⟩
 | c::cs,u::vs,h,i + 1,hx=>by simp only[aA] at h;simp only[List.set_cons_succ,aA];exact ⟨h.1,aA.reset h.2 i (by simpa using hx)⟩
theorem qj: ∀ (l:List Oper) (j:Nat),jF l j=(l[j]?).bind (·.dst)
 | [],_=>by simp[jF]
 | _::_,0=>by simp[jF]
 | _::l,j + 1=>by simp[jF,qj l]
theorem pH {ops:Array Oper} {tmps:Array Value} {j d:Nat} {b:Bool} (hd:jF ops.toList j=some d) (hv:tmps.toList.getD d undef=.bool b):yielded ops tmps j=some b:=by
 rw[qj] at hd;have hd':(ops[j]?).bind (·.dst)=some d:=by simpa using hd
 unfold yielded;rw[hd'];simp only[Option.bind_some]
 have:tmps[d]?=some (.bool b):=by
  by_cases hlt:d < tmps.size
  ·have:=hv
   simp[List.getD,hlt] at this;simp[hlt,this]
  ·simp[List.getD,Nat.le_of_not_lt hlt] at hv
   cases hv
 rw[this]
theorem gX {ops:Array Oper} {tmps:Array Value} {j d:Nat} {vs:List Value} (hd:jF ops.toList j=some d) (hv:tmps.toList.getD d undef=.tuple vs.toArray):yielded ops tmps j=none:=by
 rw[qj] at hd;have hd':(ops[j]?).bind (·.dst)=some d:=by simpa using hd
 unfold yielded;rw[hd'];simp only[Option.bind_some];by_cases hlt:d < tmps.size
 ·have:tmps[d]?=some (.tuple vs.toArray):=by
   simp[List.getD,hlt] at hv;simp[hlt,hv]
  rw[this]
 ·rw[Array.getElem?_eq_none (by omega)]
section
variable {P:Program} {tt:Nat→TI}
theorem Ei.mono {F F':Fz} (h:F.le F') {x:DI} {d:Deferred} (r:Ei F x d):Ei F' x d:=by
 cases x with
 | call f asx=>
  obtain ⟨vs,cap,h1,h2⟩:=r;exact ⟨vs,cap,h1,aA.mono h _ _ h2⟩
 | mark b=>exact r
theorem sU.mono {F F':Fz} (h:F.le F'): ∀ {D:Ds} {l:List Deferred},sU F D l→sU F' D l
 | [], [],_=>trivial
 | [],_::_,r=>r.elim
 | _::_, [],r=>by simp[sU] at r
 | x::D,d::l,r=>by
  simp only[sU] at r ⊢;exact ⟨r.1.mono h,sU.mono h r.2⟩
theorem jX.mono {F F':Fz} (h:F.le F') {D:Ds} {ds l:List Deferred} (r:jX F D ds l):jX F' D ds l:=by
 obtain ⟨new,h1,h2⟩:=r;exact ⟨new,h1,h2.mono h⟩
theorem jX.nil (F:Fz) (ds:List Deferred):jX F [] ds ds:=⟨[],rfl,trivial⟩
theorem CL (hk:TT.ok P tt) {rd:Option Nat} {nn:Nat} {o:Oper} (hq:rd=none∨ ∀ c,o.op≠.defer c) {w0:World} {M Γ:List aj} {F:Fz} {ds:List Deferred} {T:List PV} {D:Ds} {a:Act} {w:World} {next:Act→World→Prop} {Q':Exit→Act→World→Prop}
  {K:List PV→List aj→Ds→Prop} (hS:aP w0 F (Γ++M) w) (hT:aA F T a.tmps.toList) (hD:jX F D ds a.defers) (hW:pQ P tt o.op o.dst T Γ D K)
  (hn: ∀ F' T' Γ' D' a' w',F.le F'→aP w0 F' (Γ'++M) w'→aA F' T' a'.tmps.toList→jX F' D' ds a'.defers→K T' Γ' D'→next a' w'):o.wpIn (cX rd) nn P a w next Q':=by
 unfold pQ at hW
 split at hW
 ·rename_i c hop
  split at hW
  ·rename_i x hc
   rw[aI] at hW;have hp:=aL hT x
   split at hW
   ·rename_i f cap hx
    rw[hx] at hp;obtain ⟨vs,hv,hcap⟩:=rR hp;simp only[fh,fR,dx] at hW;have hargs:=nT hT c.args.toList
    have hrun:(execOp a.eval o).run P w=.ok (.defer { target:=.fn (.func f) vs.toArray,args:=(c.args.toList.map a.eval).toArray }) w:=by
     have e1:c.args.map a.eval=(c.args.toList.map a.eval).toArray:=by apply Array.ext';simp
     simp[execOp,hop,resolve,hc,Deferred.ofValue,hv,e1]
    obtain rfl:rd=none:=hq.resolve_right (fun h=>h c hop);refine ⟨fun _ _=>trivial,?_⟩;show o.uponIn (cX none) nn P a next Q' ((execOp a.eval o).run P w);rw[hrun];simp only[Oper.uponIn];obtain ⟨new,h1,h2⟩:=hD;have hT2:aA F T ({ a with defers:={ target:=.fn (.func f) vs.toArray,args:=(c.args.toList.map a.eval).toArray }::a.defers }:Act).tmps.toList:=hT;refine hn F _ Γ _ _ w (Fz.le_refl F) hS (eG hT2 (x:=.any) (v:=undef) (by simp[aC]) o.dst) ?_ hW;rw[put_defers];exact ⟨{ target:=.fn (.func f) vs.toArray,args:=(c.args.toList.map a.eval).toArray }::new,by simp[h1],⟨⟨_,_,rfl,j6 hargs hcap⟩,h2⟩⟩
   ·exact hW.elim
  ·exact hW.elim
 ·refine gi hk hS hT hW ?_
  intro F' x Γ' v w' hle' hS' hx hK;rw[dx] at hK;exact hn F' _ Γ' D _ w' hle' hS' (eG (aA.mono hle' _ _ hT) hx o.dst) (by rw[put_defers];exact hD.mono hle') hK
theorem dJ {F:Fz} {vs:List Value}: ∀ (l:List Operand) (T:List PV) {k:List PV→Prop},aA F T vs→nL T l k→ ∃ T',aA F T' vs∧k T'
 | [],T,k,hT,h=>⟨T,hT,h⟩
 | .tmp t::r,T,k,hT,h=>by
  simp only[nL,eg] at h
  split at h
  ·rename_i q x he
   obtain ⟨hq,h⟩:=h.h;rw[fu] at h;have hr:=hT.get t;rw[he] at hr;simp only[aC] at hr;exact dJ r _ (hT.reset t (hr.1 hq)) h
  ·exact dJ r _ hT h
 | .const _::r,T,k,hT,h=>dJ r _ hT h
 | .global _::r,T,k,hT,h=>dJ r _ hT h
 | .func _::r,T,k,hT,h=>dJ r _ hT h
theorem NT {F:Fz} {T:List PV} {vs:List Value} {d:Nat} {want:Bool} (hT:aA F T vs) (hb:vs.getD d undef=.bool want):aA F (OI T d want id) vs:=by
 unfold OI
 split<;>(rw[fu];exact hT.reset d (by simp only[aC];exact hb))
theorem xQ {F:Fz} {y:PV} {want g:Bool} {v:Value} (hr:aC F y v) (hgo:guardOf y want=some g):(v=.tuple #[]∧g=false)∨ ∃ b,v=.bool b∧g=(b == want):=by
 unfold guardOf at hgo
 split at hgo<;>simp only[Option.some.injEq,reduceCtorEq] at hgo
 ·subst hgo;right;simp only[aC] at hr;exact ⟨_,hr,by simp⟩
 ·subst hgo;right;simp only[aC] at hr;exact ⟨_,hr,by simp⟩
 ·rename_i q p
  subst hgo;simp only[aC] at hr;cases q
  ·exact .inl ⟨hr.2 rfl,rfl⟩
  ·exact .inr ⟨_,hr.1 rfl,by simp⟩
 ·rename_i q p
  subst hgo;simp only[aC] at hr;cases q
  ·exact .inl ⟨hr.2 rfl,rfl⟩
  ·exact .inr ⟨_,hr.1 rfl,by simp⟩
 ·rename_i q
  subst hgo;simp only[aC] at hr;cases q
  ·exact .inl ⟨hr.2 rfl,rfl⟩
  ·exact .inr ⟨_,hr.1 rfl,by simp⟩
 ·rename_i q
  subst hgo;simp only[aC] at hr;cases q
  ·exact .inl ⟨hr.2 rfl,rfl⟩
  ·exact .inr ⟨_,hr.1 rfl,by simp⟩
theorem gN {F:Fz} {ops:Array Oper} {o:Oper} {a:Act} {j d:Nat} {want g:Bool} {y:PV} (hr:aC F y (a.tmps.toList.getD d undef)) (hg:o.guard=some (j,want)) (hdst:jF ops.toList j=some d)
  (hgo:guardOf y want=some g):Region.wanted o (yielded ops a.tmps)=g:=by
 rcases xQ hr hgo with ⟨h1,h2⟩ | ⟨b,h1,h2⟩
 ·simp only[Region.wanted,hg,gX hdst h1,h2];rfl
 ·simp only[Region.wanted,hg,pH hdst h1,h2]
  cases b<;>cases want<;>rfl
theorem guard_true {F:Fz} {y:PV} {want:Bool} {v:Value} (hr:aC F y v) (hgo:guardOf y want=some true):v=.bool want:=by
 rcases xQ hr hgo with ⟨_,h2⟩ | ⟨b,h1,h2⟩
 ·cases h2
 ·rw[h1,beq_iff_eq.1 h2.symm]
theorem LJ {F:Fz} {T:List PV} {vs:List Value} {d:Nat} {y:PV} {want:Bool} (hT:aA F T vs) (hr:aC F y (vs.getD d undef)) (hgo:guardOf y want=some false):aA F (GL T d y want id) vs:=by
 unfold GL
 split
 ·rw[fu]
  simp only[guardOf,Option.some.injEq] at hgo;subst hgo;simp only[aC] at hr;exact hT.reset d (by simp only[aC];exact hr)
 ·rw[fu]
  simp only[guardOf,Option.some.injEq] at hgo;simp only[aC] at hr;exact hT.reset d (by simp only[aC];rw[hr];simpa using hgo)
 ·exact hT
theorem sG {o:Oper} {l:List Oper} (h:nu (o::l)=true):(∀ c,o.op≠.defer c)∧nu l=true:=by
 unfold nu at h
 split at h
 ·cases h
 ·rename_i hn
  exact ⟨fun c hc=>hn c hc,h⟩
theorem lQ (hk:TT.ok P tt) (rd:Option Nat) (nn:Nat) (ops:Array Oper) {w0:World} {M:List aj} {F0:Fz} {ds:List Deferred} {Q':Exit→Act→World→Prop} {K:List PV→List aj→Ds→Prop}
  (hQ: ∀ F' T' Γ' D' a' w',F0.le F'→aP w0 F' (Γ'++M) w'→aA F' T' a'.tmps.toList→jX F' D' ds a'.defers→K T' Γ' D'→Q' .normal a' w'):
  ∀ (l:List Oper) (_:rd=none∨nu l=true) (T:List PV) (Γ:List aj) (D:Ds) (F:Fz) (a:Act) (w:World),F0.le F→aP w0 F (Γ++M) w→aA F T a.tmps.toList→jX F D ds a.defers→
   bN P tt ops.toList l T Γ D K→wpListIn (cX rd) nn P ops Q' l a w
 | [],_,T,Γ,D,F,a,w,hle,hS,hT,hd,hW=>hQ F T Γ D a w hle hS hT hd hW
 | o::r,hq,T,Γ,D,F,a,w,hle,hS,hT,hd,hW=>by
  have ih:=lQ hk rd nn ops hQ r (hq.imp_right fun h=>(sG h).2);have hqo:rd=none∨ ∀ c,o.op≠.defer c:=hq.imp_right fun h=>(sG h).1
  have yes: ∀ T,aA F T a.tmps.toList→Region.wanted o (yielded ops a.tmps)=true→pQ P tt o.op o.dst T Γ D (fun T' Γ' D'=>bN P tt ops.toList r T' Γ' D' K)→wpListIn (cX rd) nn P ops Q' (o::r) a w:=by
   intro T hT hw hW;unfold wpListIn;rw[if_pos hw];refine CL hk hqo hS hT hd hW ?_;intro F' T' Γ' D' a' w' hle' hS' hT' hD' hK;exact ih T' Γ' D' F' a' w' (Fz.le_trans hle hle') hS' hT' hD' hK
  have no: ∀ T,aA F T a.tmps.toList→Region.wanted o (yielded ops a.tmps)=false→(nr T o.dst (.bp []) fun T'=>bN P tt ops.toList r T' Γ D K)→wpListIn (cX rd) nn P ops Q' (o::r) a w:=by
   intro T hT hw hW;unfold wpListIn;rw[if_neg (by rw[hw];exact Bool.false_ne_true)];refine ⟨fun _ _=>trivial,?_⟩;rw[dx] at hW;have hT':=eG hT (x:=.bp []) (v:=undef) (by simp only[aC];exact ⟨[],rfl,by simp[aA]⟩) o.dst;exact ih _ Γ D F _ w hle hS hT' (by rw[put_defers];exact hd) hW
  unfold bN at hW
  split at hW
  ·rename_i hg
   exact yes T hT (by simp[Region.wanted,hg]) hW
  ·rename_i j want hg
   split at hW
   ·exact hW.elim
   ·rename_i d hdst
    rw[eg] at hW;have hr:=hT.get d
    have hy: ∀ b,a.tmps.toList.getD d undef=.bool b→Region.wanted o (yielded ops a.tmps)=(b == want):=by
     intro b hb;simp only[Region.wanted,hg,pH hdst hb];cases b<;>cases want<;>rfl
    split at hW
    ·rename_i he;rw[he] at hr
     obtain ⟨T',hT',hW⟩:=dJ _ _ hT hW;exact yes T' hT' (by rw[hy _ (bK hr)];rfl) hW
    ·rename_i he;rw[he] at hr
     obtain ⟨T',hT',hW⟩:=dJ _ _ hT hW;exact yes T' hT' (by rw[hy _ (bw hr)];rfl) hW
    ·rename_i he;rw[he] at hr
     refine no T hT ?_ hW;obtain ⟨vs,hv,hvs⟩:=Ar hr
     obtain rfl:vs= []:=by cases vs with
      | nil=>rfl
      | cons v vs=>simp[aA] at hvs
     simp only[Region.wanted,hg,gX hdst hv];rfl
    ·rename_i he;rw[he] at hr
     exact no T hT (by rw[hy _ (bK hr)];rfl) hW
    ·rename_i he;rw[he] at hr
     exact no T hT (by rw[hy _ (bw hr)];rfl) hW
    ·rename_i q he;rw[he] at hr
     simp only[aC] at hr;refine no T hT ?_ hW;cases q
     ·simp only[Region.wanted,hg,gX hdst (hr.2 rfl)];rfl
     ·rw[hy true (by simpa using hr.1 rfl)];rfl
    ·rename_i q he;rw[he] at hr
     simp only[aC] at hr;refine no T hT ?_ hW;cases q
     ·simp only[Region.wanted,hg,gX hdst (hr.2 rfl)];rfl
     ·rw[hy false (by simpa using hr.1 rfl)];rfl
    ·unfold zl at hW
     split at hW
     ·exact hW.elim
     ·rename_i g hgo
      have hwant:Region.wanted o (yielded ops a.tmps)=g:=gN hr hg hdst hgo
      rcases hW.h with hW | ⟨x,h1,h2⟩
      ·cases g
       ·have h:=hW.f rfl
        rw[Aj] at h;exact no _ (LJ hT hr hgo) hwant h
       ·have h:=hW.t rfl
        have hb:=guard_true hr hgo;rw[DG] at h;obtain ⟨T',hT',h⟩:=dJ _ _ (NT hT hb) h;exact yes T' hT' hwant h
      ·rw[dx] at h2
       cases g
       ·unfold wpListIn
        rw[if_neg (by rw[hwant];exact Bool.false_ne_true)];refine ⟨fun _ _=>trivial,?_⟩;refine ih _ Γ D F _ w hle hS (eG hT (x:=.opt false x) (v:=undef) ?_ o.dst) (by rw[put_defers];exact hd) h2;simp only[aC];exact ⟨fun h=>(by cases h),fun _=>rfl⟩
       ·unfold wpListIn
        rw[if_pos hwant];obtain ⟨T',hT',h1⟩:=dJ _ _ hT (h1 rfl);refine gi hk hS hT' h1 ?_;intro F' z Γ' v' w' hle' hS' hx hK;obtain ⟨F2,hle2,hS2,hx2⟩:=hK.h w0 F' M w' v' hS' hx;have hle3:=Fz.le_trans hle' hle2;refine ih _ _ D F2 _ w' (Fz.le_trans hle hle3) hS2 (eG (aA.mono hle3 _ _ hT) (x:=.opt true x) ?_ o.dst) (by rw[put_defers];exact hd.mono hle3) h2;simp only[aC];exact ⟨fun _=>hx2,fun h=>by cases h⟩
theorem KT.mono {w0:World} {F0 F1:Fz} {M:List aj} {ds:List Deferred} {Q:QT} (h:F0.le F1) {e:Exit} {a:Act} {w:World} (q:KT w0 F1 M ds Q e a w):KT w0 F0 M ds Q e a w:=by
 obtain ⟨h1,F',T',Γ',D',h2,h3⟩:=q;exact ⟨h1,F',T',Γ',D',Fz.le_trans h h2,h3⟩
theorem Wk.refl (x:PV):Wk x x:=fun _ _ h=>h
theorem aX.rep {F:Fz}: ∀ {xs ys:List PV} {vs:List Value},aX xs ys→aA F xs vs→aA F ys vs
 | _,_, [],.nil,h=>h
 | _,_,_::_,.nil,h=>h
 | _,_, [],.cons _ _,h=>by simp only[aA] at h
 | _,_,v::vs,.cons h1 h2,h=>by
  simp only[aA] at h ⊢;exact ⟨h1 _ _ h.1,aX.rep h2 h.2⟩
theorem au.drop {Γ Γ' Γ1:List aj} (hp:Γ.Perm (Γ'++Γ1)):au Γ Γ':=fun w0 F M w hS=>by
 refine ⟨F,Fz.le_refl F,?_⟩;have:=hS.perm (hp.append_right M);refine this.sub ?_;rw[List.append_assoc];exact List.Sublist.append (List.Sublist.refl _) (List.sublist_append_right _ _)
theorem dh.of {T T':List PV} {Γ Γ':List aj} (hw:aX T T') (hg:au Γ Γ'):dh T Γ T' Γ':=fun w0 F M w vs hS hT=>by
 obtain ⟨F',h1,h2⟩:=hg w0 F M w hS;exact ⟨F',h1,h2,aA.mono h1 _ _ (hw.rep hT)⟩
theorem gW {F:Fence} {n:Nat} (hF: ∀ f,F.fn f) (ops:Array Oper) (Q:Exit→Act→World→Prop): ∀ (l:List Nat) (a:Act) (w:World),wpListIn F n P ops Q (l.filterMap (ops[·]?)) a w→wpOpsIn F n P ops Q l a w
 | [],a,w,h=>h
 | i::l,a,w,h=>by
  unfold wpOpsIn
  cases hi:ops[i]? with
  | none=>
   rw[List.filterMap_cons_none hi] at h;exact gW hF ops Q l a w h
  | some o=>
   rw[List.filterMap_cons_some hi] at h;unfold wpListIn at h;simp only
   split at h
   ·rename_i hw
    rw[if_pos hw];exact Oper.wpIn_mono (fun a w=>gW hF ops Q l a w) h
   ·rename_i hw
    rw[if_neg hw];exact ⟨h.1,gW hF ops Q l _ w h.2⟩
open Classical in
theorem Ed {F:Fence} {n:Nat} {c:Code} {Q':Exit→Act→World→Prop} {a:Act} {w:World} (J:Nat→Act→World→Prop) (h0: ∃ n,J n a w)
  (round: ∀ k a w,J k a w→c.wpIn F n P (Exit.then (fun a' w'=> ∃ m,m < k∧J m a' w') Q') a w):(Code.loop c).wpIn F n P Q' a w:=by
 have least: ∀ a w,(∃ n,J n a w)→ ∃ n,J n a w∧ ∀ m,m < n→ ¬ J m a w:=by
  intro a w ⟨n,hn⟩
  induction n using Nat.strongRecOn with
  | _ n ih=>
   by_cases hex: ∃ m,m < n∧J m a w
   ·obtain ⟨m,hm,hj⟩:=hex
    exact ih m hm hj
   ·exact ⟨n,hn,fun m hm hj=>hex ⟨m,hm,hj⟩⟩
 let μ:Act→World→Nat:=fun a w=>if h: ∃ n,J n a w then Classical.choose (least a w h) else 0
 refine wpIn_loop (fun a w=> ∃ n,J n a w) μ h0 ?_;intro a w hJ;have hμ:μ a w=Classical.choose (least a w hJ):=dif_pos hJ;obtain ⟨hn,hmin⟩:=Classical.choose_spec (least a w hJ);refine Code.wpIn_mono ?_ (round _ a w hn);intro e a' w' q
 cases e with
 | normal=>
  obtain ⟨m,hm,hj⟩:=q
  have hex: ∃ n,J n a' w':=⟨m,hj⟩
  refine ⟨hex,?_⟩;have hμ':μ a' w'=Classical.choose (least a' w' hex):=dif_pos hex;rw[hμ,hμ'];obtain ⟨hn',hmin'⟩:=Classical.choose_spec (least a' w' hex);rcases Nat.lt_or_ge m (Classical.choose (least a' w' hex)) with h | h
  ·exact absurd hj (hmin' m h)
  ·omega
 | exit id=>exact q
 | goto l=>exact q
 | ret=>exact q
 | panic c=>exact q
 | outgrown=>exact q
theorem ov {F:Fence} {n:Nat} {Q:Exit→Act→World→Prop} {a:Act} {w:World} {c:Code} (h:c.wpIn F n P (Exit.noGoto Q) a w):(Code.scope c).wpIn F n P Q a w:=by
 intro b k cs hro hb hr;have h0:(lone (b.atR a (.code (.scope c)::k)) cs w).fenced P F:=fenced_calm hb hr rfl;have s1:step P (lone (b.atR a (.code (.scope c)::k)) cs w)=.next (lone (b.atR a (.code c::.inScope c::k)) cs w):=step_lone_go (by simp[stepG,stepG.exec,Frame.atR]);obtain ⟨e,a₁,w₁,hq,harr⟩:=h b (.inScope c::k) cs hro hb hr;have s2:step P (lone (b.atR a₁ (.inScope c::k)) cs w₁)=.next (lone (b.atR a₁ k) cs w₁):=step_lone_go (by simp[stepG,stepG.exec,Frame.atR])
 cases e with
 | normal=>exact ⟨.normal,a₁,w₁,hq,.head h0 s1 (StepsIn.trans harr (.one (fenced_calm hb hr rfl) s2))⟩
 | exit id=>
  have hx:exitTo id (.inScope c::k)=exitTo id k:=by simp[exitTo]
  exact ⟨.exit id,a₁,w₁,hq,fun k' hk=>.head h0 s1 (harr.1 k' (by rw[hx];exact hk)),
   fun hr' hk=>let ⟨k₁,h1,h2⟩:=harr.2 hr' (by rw[hx];exact hk);⟨k₁,h1,.head h0 s1 h2⟩⟩
 | goto l=>exact hq.elim
 | ret=>exact ⟨_,a₁,w₁,hq,.of_steps (.one h0 s1) harr⟩
 | panic ch=>exact ⟨_,a₁,w₁,hq,.of_steps (.one h0 s1) harr⟩
 | outgrown=>exact ⟨_,a₁,w₁,hq,.of_steps (.one h0 s1) harr⟩
theorem rZ {F:Fence} {n:Nat} {Q:Exit→Act→World→Prop} {a:Act} {w:World} {c rest:Code} (l:Nat) (J:Nat→Act→World→Prop) (hf:findLabel c l=some rest) (first:c.wpIn F n P (Exit.jump l (fun a w=> ∃ m,J m a w) Q) a w)
  (pass: ∀ m a w,J m a w→rest.wpIn F n P (Exit.jump l (fun a' w'=> ∃ k,k < m∧J k a' w') Q) a w):(Code.scope c).wpIn F n P Q a w:=by
 intro b k cs hro hb hr;have hg:gotoIn l (.inScope c::k)=some (.code rest::.inScope c::k):=by simp[gotoIn,hf]
 have h0:(lone (b.atR a (.code (.scope c)::k)) cs w).fenced P F:=fenced_calm hb hr rfl;have s1:step P (lone (b.atR a (.code (.scope c)::k)) cs w)=.next (lone (b.atR a (.code c::.inScope c::k)) cs w):=step_lone_go (by simp[stepG,stepG.exec,Frame.atR]);have s2: ∀ a₁ w₁,step P (lone (b.atR a₁ (.inScope c::k)) cs w₁)=.next (lone (b.atR a₁ k) cs w₁):=fun a₁ w₁=>step_lone_go (by simp[stepG,stepG.exec,Frame.atR]);have hx: ∀ id,exitTo id (.inScope c::k)=exitTo id k:=fun id=>by simp[exitTo]
 have key: ∀ m a w,J m a w→ ∃ e a' w',Q e a' w'∧ArrivesIn (Machine.fenced P F) P (lone (b.atR a (.code rest::.inScope c::k)) cs w) b k cs e a' w':=by
  intro m
  induction m using Nat.strongRecOn with
  | _ m ih=>
   intro a w hJ;obtain ⟨e,a₁,w₁,hq,harr⟩:=pass m a w hJ b (.inScope c::k) cs hro hb hr
   cases e with
   | normal=>exact ⟨.normal,a₁,w₁,hq,StepsIn.trans harr (.one (fenced_calm hb hr rfl) (s2 a₁ w₁))⟩
   | exit id=>exact ⟨.exit id,a₁,w₁,hq,fun k' hk=>harr.1 k' (by rw[hx];exact hk),fun hr' hk=>harr.2 hr' (by rw[hx];exact hk)⟩
   | goto l'=>
    obtain ⟨rfl,i,hi,hJ'⟩:=hq;obtain ⟨e₂,a₂,w₂,hq₂,harr₂⟩:=ih i hi a₁ w₁ hJ';exact ⟨e₂,a₂,w₂,hq₂,.of_steps (harr.1 _ hg) harr₂⟩
   | ret=>exact ⟨_,a₁,w₁,hq,harr⟩
   | panic ch=>exact ⟨_,a₁,w₁,hq,harr⟩
   | outgrown=>exact ⟨_,a₁,w₁,hq,harr⟩
 obtain ⟨e,a₁,w₁,hq,harr⟩:=first b (.inScope c::k) cs hro hb hr
 cases e with
 | normal=>exact ⟨.normal,a₁,w₁,hq,.head h0 s1 (StepsIn.trans harr (.one (fenced_calm hb hr rfl) (s2 a₁ w₁)))⟩
 | exit id=>exact ⟨.exit id,a₁,w₁,hq,fun k' hk=>.head h0 s1 (harr.1 k' (by rw[hx];exact hk)),fun hr' hk=>let ⟨k₁,h1,h2⟩:=harr.2 hr' (by rw[hx];exact hk);⟨k₁,h1,.head h0 s1 h2⟩⟩
 | goto l'=>
  obtain ⟨rfl,m,hJ'⟩:=hq;obtain ⟨e₂,a₂,w₂,hq₂,harr₂⟩:=key m a₁ w₁ hJ';exact ⟨e₂,a₂,w₂,hq₂,.of_steps (.head h0 s1 (harr.1 _ hg)) harr₂⟩
 | ret=>exact ⟨_,a₁,w₁,hq,.of_steps (.one h0 s1) harr⟩
 | panic ch=>exact ⟨_,a₁,w₁,hq,.of_steps (.one h0 s1) harr⟩
 | outgrown=>exact ⟨_,a₁,w₁,hq,.of_steps (.one h0 s1) harr⟩
theorem Co {q:Sort _}: ∀ (T:List PV) (ds:List Nat) (xs:List PV) (k:List PV→q),qI T ds xs k=k (qI T ds xs id)
 | T,d::ds,x::xs,k=>by
  simp only[qI,fu];exact Co _ ds xs k
 | T, [],_,k=>by cases ‹List PV› <;>rfl
 | T,_::_, [],k=>rfl
theorem Cp {F:Fz}: ∀ (ds:List Nat) (T xs:List PV) (vs:List Value) (tm:Array Value),aA F T tm.toList→aA F xs vs→aA F (qI T ds xs id) ((ds.zip vs).foldl (fun t (p,v)=>t.setIfInBounds p v) tm).toList
 | [],T,xs,vs,tm,hT,hx=>by
  have:qI T [] xs id=T:=by cases xs<;>rfl
  rw[this];exact hT
 | d::ds,T, [], [],tm,hT,hx=>hT
 | d::ds,T, [],v::vs,tm,hT,hx=>by simp[aA] at hx
 | d::ds,T,x::xs, [],tm,hT,hx=>by simp[aA] at hx
 | d::ds,T,x::xs,v::vs,tm,hT,hx=>by
  simp only[aA] at hx;simp only[qI,fu,List.zip_cons_cons,List.foldl_cons];refine Cp ds _ xs vs _ ?_ hx.2;simpa using hT.set hx.1 d
def WS (P:Program) (tt:Nat→TI) (c:Code):Prop:= ∀ (T:List PV) (Γ:List aj) (D:Ds) (Q:QT),W P tt c T Γ D Q→ ∀ (w0:World) (F:Fz) (M:List aj) (w:World) (a:Act) (ds:List Deferred),
  aP w0 F (Γ++M) w→aA F T a.tmps.toList→jX F D ds a.defers→ ∀ (rd:Option Nat) (nn:Nat),(rd=none∨dn c=true)→c.wpIn (cX rd) nn P (KT w0 F M ds Q) a w
theorem o7 {a b:Code} (h:(match dn a with | true=>dn b | false=>false)=true):dn a=true∧dn b=true:=by
 cases ha:dn a<;>rw[ha] at h<;>simp at h;exact ⟨rfl,h⟩
def MG:Exit→Code
 | .exit j=>.exit j
 | _=>.ret
theorem B7 (hk:TT.ok P tt) {x y:Code} (ihx:WS P tt x) (ihy:WS P tt y) {g:Operand} {ps:Array Tmp} {T:List PV} {Γ:List aj} {D:Ds} {Q:QT} {w0:World} {F:Fz} {M:List aj} {w:World} {a:Act} {ds:List Deferred} {nn:Nat}
  (hS:aP w0 F (Γ++M) w) (hT:aA F T a.tmps.toList) (hD:jX F D ds a.defers) {f:FuncId} {cap:List PV} (he:ev T g=.fn (.func f) cap)
  (h:PRange P f cap ps.toList (W P tt x) (W P tt y) (match dn x with | true=>dn y | false=>false) T Γ D Q):(Code.rangeFunc g ps x y).wpIn (cX none) nn P (KT w0 F M ds Q) a w:=by
 obtain ⟨hnd,Γ0,Γi,xs,J,X,⟨T0,hwk⟩,hit,hJ0,hlen,hround,hdone,hexit⟩:=h.h;obtain ⟨hqx,hqy⟩:=o7 hnd;have hg:=aL hT g;rw[he] at hg;obtain ⟨vs,hv,hcap⟩:=rR hg;obtain ⟨F0,l1,l2,l3⟩:=hwk w0 F M w _ hS hT;refine wpIn_rangeFunc ?_;intro fn _
 obtain ⟨r0,hr0⟩: ∃ r0:Loop,r0={ state:=.ready,pending:=none,fn:=fn,tmps:=a.tmps,params:=ps,assign:=x,body:=y,defers:=w.heap.size }:=⟨_,rfl⟩
 have s1:aP w0 F0 (.ob w.heap.size kK [] []::((Γ0++Γi)++M)) (w.alloc kK):=l2.obj kK (T:= []) (vs:= []) (by simp[aA]);have s2:=s1.obj (.loop r0) (T:=T) (vs:=a.tmps.toList) (aA.mono l1 _ _ hT);have hsz:(w.alloc kK).heap.size=w.heap.size + 1:=by simp
 rw[hsz] at s2
 obtain ⟨W1,hW1⟩: ∃ W1,(w.alloc kK).alloc (.loop r0)=W1:=⟨_,rfl⟩
 rw[hW1] at s2
 obtain ⟨l,hl⟩: ∃ l,l=w.heap.size + 1:=⟨_,rfl⟩
 rw[←hl] at s2
 have hyield: ∀ k asx Γ,xs[k]?=some asx→(∃ Γ',Γ=.ob l (.loop r0) T a.tmps.toList::Γ'∧J k Γ')→eM P l asx Γ fun y Γ'=>
   (y=.aV∧ ∃ Γ2,Γ'=.ob l (.loop r0) T a.tmps.toList::Γ2∧J (k + 1) Γ2)∨
   (y=.bfalse∧ ∃ e Γ2,(e=.ret∨ ∃ j,e=.exit j)∧Γ'=.ob l (.loop { r0 with state:=.done,pending:=some (MG e)}) T a.tmps.toList::Γ2∧X e Γ2):=by
  rintro k asx _ hk' ⟨Γ',rfl,hJ⟩ w0' F' M' w' vas hS' hAs;obtain ⟨b1,b2,b3,b4⟩:=hS'.fe _ (List.mem_append_left M' (List.mem_cons_self ..))
  have hal:vas.length=ps.size:=by
   rw[←hAs.length,hlen asx (List.mem_of_getElem? hk')];simp
  have hy:=run_yield (P:=P) (args:=vas.toArray) b2 (by rw[hr0];simpa using hal);rw[hr0] at hy;refine ⟨fn,_,x,y,hy,?_⟩;have hr:=hround k asx Γ' hk' hJ;rw[Co] at hr;refine roundIn_of_wpIn (F:=Fence.wide) trivial ?_
  have hS2:aP w0' F' (Γ'++(.ob l (.loop r0) T a.tmps.toList::M')) w':=by
   have hp:((.ob l (.loop r0) T a.tmps.toList::Γ')++M').Perm (Γ'++(.ob l (.loop r0) T a.tmps.toList::M')):=by
    rw[List.cons_append];exact List.perm_middle.symm
   exact hS'.perm hp
  have hT2:=Cp ps.toList T asx vas a.tmps b4 hAs
  have e1:((ps.zip vas.toArray).foldl (fun tmps (t,a)=>tmps.setIfInBounds t a) a.tmps)=((ps.toList.zip vas).foldl (fun t (p,v)=>t.setIfInBounds p v) a.tmps):=by
   rw[←Array.foldl_toList];simp
  rw[e1];refine Code.wpIn_mono ?_ (ihx _ _ _ _ hr w0' F' (.ob l (.loop r0) T a.tmps.toList::M') w' { tmps:=_,defers:= []} [] hS2 hT2 (jX.nil F' []) (some l) 0 (.inr hqx));rintro e a1 w1 ⟨q1,F1,T1,Γ1,D1,q2,q3,q4,q5,q6⟩
  cases e with
  | normal=>
   obtain ⟨rfl,q6⟩:=q6;have c1:=q3.fe _ (List.mem_append_right Γ1 (List.mem_cons_self ..));obtain ⟨c1,c2,c3,c4⟩:=c1;have hbr:=run_beginRound (P:=P) c2 (by rw[hr0]);refine ⟨_,hbr,?_⟩;have hlt:=(Array.getElem?_eq_some_iff.1 c2).1;have q3':aP w0' F1 (.ob l (.loop r0) T a.tmps.toList::(Γ1++M')) w1:=q3.perm List.perm_middle;have q3b:=q3'.putObj (w':=w1.putObj l (.loop { r0 with state:=.busy })) (World.putObj_heap_same hlt) (by simp[World.putObj]) (fun k hk=>World.putObj_heap_other hk) rfl rfl rfl;have q3c:aP w0' F1 (Γ1++(.ob l (.loop { r0 with state:=.busy }) T a.tmps.toList::M')) (w1.putObj l (.loop { r0 with state:=.busy })):=q3b.perm List.perm_middle.symm;refine Code.wpIn_mono ?_ (ihy _ _ _ _ q6 w0' F1 (.ob l (.loop { r0 with state:=.busy }) T a.tmps.toList::M') _ a1 [] q3c q4 q5 (some l) 0 (.inr hqy));rintro e a2 w2 ⟨p1,F2,T2,Γ2,D2,p2,p3,p4,p5,p6⟩
   have fin: ∀ (jump:Option Code) (T3:List PV) (Γ3:List aj),dh T2 Γ2 T3 Γ3→ ∃ v w3 F3,(Instr.endRound l jump).run P w2=.ok v w3∧v=.bool jump.isNone∧F2.le F3∧
     aP w0' F3 ((.ob l (.loop { r0 with state:=if jump.isNone then .ready else .done,pending:=jump }) T a.tmps.toList::Γ3)++M') w3:=by
    intro jump T3 Γ3 hwk;obtain ⟨F3,m1,m2,m3⟩:=hwk w0' F2 _ w2 _ p3 p4;have d1:=m2.fe _ (List.mem_append_right Γ3 (List.mem_cons_self ..));obtain ⟨d1,d2,d3,d4⟩:=d1;have hend:=run_endRound (P:=P) jump d2;have hlt:=(Array.getElem?_eq_some_iff.1 d2).1;have m2':aP w0' F3 (.ob l (.loop { r0 with state:=.busy }) T a.tmps.toList::(Γ3++M')) w2:=m2.perm List.perm_middle;have m2b:=m2'.putObj (w':=w2.putObj l (.loop { r0 with state:=if jump.isNone then .ready else .done,pending:=jump })) (World.putObj_heap_same hlt) (by simp[World.putObj]) (fun k hk=>World.putObj_heap_other hk) rfl rfl rfl;exact ⟨_,_,F3,hend,rfl,m1,m2b⟩
   have q2':=Fz.le_trans q2 p2
   cases e with
   | normal=>
    obtain ⟨_,T3,Γ3,hwk,hJ3⟩:=p6;obtain ⟨v,w3,F3,k1,rfl,k2,k3⟩:=fin none T3 Γ3 hwk;have e0:({ r0 with state:=if (none:Option Code).isNone then .ready else .done,pending:=none }:Loop)=r0:=by rw[hr0];rfl
    rw[e0] at k3;exact ⟨_,_,k1,_,F3,.aV,_,rfl,Fz.le_trans q2' k2,k3,by simp[aC],.inl ⟨rfl,_,rfl,hJ3⟩⟩
   | ret=>
    obtain ⟨_,T3,Γ3,hwk,hX3⟩:=p6;obtain ⟨v,w3,F3,k1,rfl,k2,k3⟩:=fin (some .ret) T3 Γ3 hwk;exact ⟨_,_,k1,_,F3,.bfalse,_,rfl,Fz.le_trans q2' k2,k3,by simp[aC],.inr ⟨rfl,.ret,_,.inl rfl,rfl,hX3⟩⟩
   | exit j=>
    obtain ⟨_,T3,Γ3,hwk,hX3⟩:=p6;obtain ⟨v,w3,F3,k1,rfl,k2,k3⟩:=fin (some (.exit j)) T3 Γ3 hwk;exact ⟨_,_,k1,_,F3,.bfalse,_,rfl,Fz.le_trans q2' k2,k3,by simp[aC],.inr ⟨rfl,.exit j,_,.inr ⟨j,rfl⟩,rfl,hX3⟩⟩
   | goto l=>exact p6.elim
   | panic c=>exact p1.elim
   | outgrown=>exact p1.elim
  | exit id=>exact q6.elim
  | ret=>exact q6.elim
  | goto l=>exact q6.elim
  | panic c=>exact q1.elim
  | outgrown=>exact q1.elim
 have hA:=hit l _ _ hyield (.ob l (.loop r0) T a.tmps.toList::Γ0) ⟨Γ0,rfl,hJ0⟩;obtain ⟨⟨fn',hf,hb,hnm⟩,hA⟩:=hA
 have s3:aP w0 F0 (((.ob l (.loop r0) T a.tmps.toList::Γ0)++Γi)++(.ob w.heap.size kK [] []::M)) W1:=by
  have hp:(.ob l (.loop r0) T a.tmps.toList::.ob w.heap.size kK [] []::((Γ0++Γi)++M)).Perm (((.ob l (.loop r0) T a.tmps.toList::Γ0)++Γi)++(.ob w.heap.size kK [] []::M)):=by
   rw[List.cons_append,List.cons_append];exact List.Perm.cons _ List.perm_middle.symm
  exact s2.perm hp
 have hC:=hA w0 F0 _ W1 (.func (.yield l) #[] #[]::vs) s3 (by simp only[aA];exact ⟨by simp only[aC];exact ⟨[],rfl,by simp[aA]⟩,aA.mono l1 _ _ hcap⟩);refine ⟨l, [{ target:=.collected w.heap.size,args:= #[]}],W1,{ target:=.fn (.func f) vs.toArray,args:= #[.func (.yield l) #[] #[]]},W1,f,(.func (.yield l) #[] #[]::vs).toArray,W1,?_,?_,fun _ _=>trivial,?_,fun h=>by simp[cX,Fence.wide] at h,?_⟩
 ·rw[hl, ←hW1,hr0]
  exact run_enterLoop_outer _ _ _ _ _
 ·simp only[resolve,hv]
  simp[go_sem]
 ·simp only[invoke,Sem.run_bind,Sem.run_pure,Result.andThen_ok]
  have:(#[Value.func (.yield l) #[] #[]]++vs.toArray)=(.func (.yield l) #[] #[]::vs).toArray:=by apply Array.ext';simp
  simp[this,js hf hb hnm]
 ·have hC':CallsIn (cX none) (nn - 1) P f (.func (.yield l) #[] #[]::vs).toArray W1 _:=(callsIn_wide (n:=nn - 1)).2 hC
  refine hC'.mono ?_;rintro e w3 ⟨v,F2,y',Γ2,rfl,k1,k2,k3,k4⟩;have hTF:=aA.mono (Fz.le_trans l1 k1) _ _ hT
  have hDF:jX F2 (.mark w.heap.size::D) ds ({ target:=.collected w.heap.size,args:= #[]}::a.defers):=by
   obtain ⟨new,n1,n2⟩:=hD.mono (Fz.le_trans l1 k1);exact ⟨_::new,by rw[n1];rfl,rfl,n2⟩
  have endl: ∀ (r:Loop) (Γ3:List aj),r.state≠.busy→Γ2=.ob l (.loop r) T a.tmps.toList::Γ3→ ∃ w4,(Instr.endLoop l).run P w3=.ok r.pending w4∧aP w0 F2 ((.ob w.heap.size kK [] []::Γ3)++M) w4:=by
   rintro r Γ3 hb rfl;obtain ⟨d1,d2,d3,d4⟩:=k2.fe _ (List.mem_append_left _ (List.mem_cons_self ..));have hend:=run_endLoop (P:=P) d2 hb;have hlt:=(Array.getElem?_eq_some_iff.1 d2).1;have m2b:=aP.putObj (w':=w3.putObj l (.loop { r with state:=.exhausted })) (M:=Γ3++(.ob w.heap.size kK [] []::M)) (by simpa using k2) (World.putObj_heap_same hlt) (by simp[World.putObj]) (fun k hk=>World.putObj_heap_other hk) rfl rfl rfl;exact ⟨_,hend,m2b.tail.perm List.perm_middle⟩
  rcases k4 with ⟨Γ3,hΓ,hJ3⟩ | ⟨e,Γ3,he',hΓ,hX3⟩
  ·obtain ⟨w4,m1,m2⟩:=endl r0 Γ3 (by rw[hr0];simp) hΓ
   have hp0:r0.pending=none:=by rw[hr0]
   rw[hp0] at m1;exact ⟨none,w4,m1,trivial,F2,T,_,_,Fz.le_trans l1 k1,m2,hTF,hDF,hdone _ _ hJ3⟩
  ·obtain ⟨w4,m1,m2⟩:=endl _ Γ3 (by simp) hΓ
   refine ⟨some (MG e),w4,m1,?_⟩
   rcases he' with rfl | ⟨j,rfl⟩
   ·exact wpIn_ret ⟨trivial,F2,T,_,_,Fz.le_trans l1 k1,m2,hTF,hDF,hexit _ _ _ hX3⟩
   ·exact wpIn_exit ⟨trivial,F2,T,_,_,Fz.le_trans l1 k1,m2,hTF,hDF,hexit _ _ _ hX3⟩
theorem yO (hk:TT.ok P tt): ∀ (c:Code) (T:List PV) (Γ:List aj) (D:Ds) (Q:QT),W P tt c T Γ D Q→ ∀ (w0:World) (F:Fz) (M:List aj) (w:World) (a:Act) (ds:List Deferred),
  aP w0 F (Γ++M) w→aA F T a.tmps.toList→jX F D ds a.defers→ ∀ (rd:Option Nat) (nn:Nat),(rd=none∨dn c=true)→c.wpIn (cX rd) nn P (KT w0 F M ds Q) a w:=by
 intro c
 induction c with
 | skip=>intro T Γ D Q h w0 F M w a ds hS hT hD rd nn hq;exact wpIn_skip ⟨trivial,F,T,Γ,D,Fz.le_refl F,hS,hT,hD,h⟩
 | label l=>intro T Γ D Q h w0 F M w a ds hS hT hD rd nn hq;exact wpIn_label ⟨trivial,F,T,Γ,D,Fz.le_refl F,hS,hT,hD,h⟩
 | ret=>intro T Γ D Q h w0 F M w a ds hS hT hD rd nn hq;exact wpIn_ret ⟨trivial,F,T,Γ,D,Fz.le_refl F,hS,hT,hD,h⟩
 | exit id=>intro T Γ D Q h w0 F M w a ds hS hT hD rd nn hq;exact wpIn_exit ⟨trivial,F,T,Γ,D,Fz.le_refl F,hS,hT,hD,h⟩
 | seq x y ihx ihy=>
  intro T Γ D Q h w0 F M w a ds hS hT hD rd nn hq;have hq2:=hq.imp_right fun h=>o7 (a:=x) (b:=y) h;have hqx:=hq2.imp_right fun h=>h.1;have hqy:=hq2.imp_right fun h=>h.2
  have key: ∀ (J:List PV→List aj→Prop),(W P tt x T Γ D fun e T' Γ' D'=>match e with
   | .normal=>W P tt y T' Γ' D' Q∨(D'=D∧ ∃ T0 Γ0,dh T' Γ' T0 Γ0∧J T0 Γ0)
   | e=>Q e T' Γ' D')→(∀ T Γ,J T Γ→W P tt y T Γ D Q)→(Code.seq x y).wpIn (cX rd) nn P (KT w0 F M ds Q) a w:=by
   intro J h hJ;refine wpIn_seq (Code.wpIn_mono ?_ (ihx T Γ D _ h w0 F M w a ds hS hT hD rd nn hqx));rintro e a' w' ⟨h1,F',T',Γ',D',h2,h3,h4,h5,h6⟩
   cases e with
   | normal=>
    rcases h6 with h6 | ⟨rfl,T0,Γ0,hwk,h6⟩
    ·refine Code.wpIn_mono ?_ (ihy T' Γ' D' Q h6 w0 F' M w' a' ds h3 h4 h5 rd nn hqy)
     intro e a2 w2 q;exact q.mono h2
    ·obtain ⟨F2,k1,k2,k3⟩:=hwk w0 F' M w' _ h3 h4
     refine Code.wpIn_mono ?_ (ihy T0 Γ0 D' Q (hJ _ _ h6) w0 F2 M w' a' ds k2 k3 (h5.mono k1) rd nn hqy);intro e a2 w2 q;exact q.mono (Fz.le_trans h2 k1)
   | exit id=>exact ⟨h1,F',T',Γ',D',h2,h3,h4,h5,h6⟩
   | ret=>exact ⟨h1,F',T',Γ',D',h2,h3,h4,h5,h6⟩
   | goto l=>exact ⟨h1,F',T',Γ',D',h2,h3,h4,h5,h6⟩
   | panic c=>exact h1.elim
   | outgrown=>exact h1.elim
  simp only[W] at h
  split at h
  ·refine wpIn_seq (Code.wpIn_mono ?_ (ihx T Γ D _ h w0 F M w a ds hS hT hD rd nn hqx))
   rintro e a' w' ⟨h1,F',T',Γ',D',h2,h3,h4,h5,h6⟩
   cases e with
   | normal=>
    refine Code.wpIn_mono ?_ (ihy T' Γ' D' Q h6 w0 F' M w' a' ds h3 h4 h5 rd nn hqy);intro e a2 w2 q;exact q.mono h2
   | exit id=>exact ⟨h1,F',T',Γ',D',h2,h3,h4,h5,h6⟩
   | ret=>exact ⟨h1,F',T',Γ',D',h2,h3,h4,h5,h6⟩
   | goto l=>exact ⟨h1,F',T',Γ',D',h2,h3,h4,h5,h6⟩
   | panic c=>exact h1.elim
   | outgrown=>exact h1.elim
  ·obtain ⟨J,h1,h2⟩:=h.h
   exact key J h1 h2
 | cond c x y ihx ihy=>
  intro T Γ D Q h w0 F M w a ds hS hT hD rd nn hq;simp only[W,aI] at h;have hq2:=hq.imp_right fun h=>o7 (a:=x) (b:=y) h;have hc:=aL hT c
  split at h
  ·rename_i he;rw[he] at hc
   exact wpIn_cond (bK hc) (ihx T Γ D Q h w0 F M w a ds hS hT hD rd nn (hq2.imp_right fun h=>h.1))
  ·rename_i he;rw[he] at hc
   exact wpIn_cond (bw hc) (ihy T Γ D Q h w0 F M w a ds hS hT hD rd nn (hq2.imp_right fun h=>h.2))
  ·rename_i p he;rw[he] at hc
   refine wpIn_cond (cQ hc) ?_;cases p
   ·exact ihy T Γ D Q (h.f rfl) w0 F M w a ds hS hT hD rd nn (hq2.imp_right fun h=>h.2)
   ·exact ihx T Γ D Q (h.t rfl) w0 F M w a ds hS hT hD rd nn (hq2.imp_right fun h=>h.1)
  ·exact h.elim
 | block id c ih=>
  intro T Γ D Q h w0 F M w a ds hS hT hD rd nn hq;refine wpIn_block (Code.wpIn_mono ?_ (ih T Γ D _ h w0 F M w a ds hS hT hD rd nn hq));rintro e a' w' ⟨h1,F',T',Γ',D',h2,h3,h4,h5,h6⟩
  cases e with
  | normal=>exact ⟨h1,F',T',Γ',D',h2,h3,h4,h5,h6⟩
  | exit j=>
   simp only[CQ] at h6;simp only[Exit.inBlock]
   split at h6
   ·rename_i hb
    rw[if_pos (Nat.eq_of_beq_eq_true hb)];exact ⟨trivial,F',T',Γ',D',h2,h3,h4,h5,h6⟩
   ·rename_i hb
    rw[if_neg (fun e=>by subst e;simp at hb)];exact ⟨h1,F',T',Γ',D',h2,h3,h4,h5,h6⟩
  | ret=>exact ⟨h1,F',T',Γ',D',h2,h3,h4,h5,h6⟩
  | goto l=>exact ⟨h1,F',T',Γ',D',h2,h3,h4,h5,h6⟩
  | panic c=>exact h1.elim
  | outgrown=>exact h1.elim
 | scope c ih=>
  intro T Γ D Q h w0 F M w a ds hS hT hD rd nn hq;simp only[W] at h
  split at h
  ·refine ov (Code.wpIn_mono ?_ (ih T Γ D _ h w0 F M w a ds hS hT hD rd nn hq))
   rintro e a' w' ⟨h1,F',T',Γ',D',h2,h3,h4,h5,h6⟩
   cases e with
   | goto l=>exact h6.elim
   | panic c=>exact h1.elim
   | outgrown=>exact h1.elim
   | _=>exact ⟨h1,F',T',Γ',D',h2,h3,h4,h5,h6⟩
  ·obtain ⟨l,rest,J,hl,hqr,hW,hJ⟩:=h.h
   refine rZ l (fun m a' w'=> ∃ F' T' Γ',F.le F'∧aP w0 F' (Γ'++M) w'∧aA F' T' a'.tmps.toList∧jX F' D ds a'.defers∧J m T' Γ') hl (Code.wpIn_mono ?_ (ih T Γ D _ hW w0 F M w a ds hS hT hD rd nn hq)) ?_
   ·rintro e a' w' ⟨h1,F',T',Γ',D',h2,h3,h4,h5,h6⟩
    cases e with
    | goto j=>
     obtain ⟨e,rfl,m,T0,Γ0,hwk,hI⟩:=h6;obtain ⟨F3,l1,l2,l3⟩:=hwk w0 F' M w' _ h3 h4;exact ⟨e,m,F3,T0,Γ0,Fz.le_trans h2 l1,l2,l3,h5.mono l1,hI⟩
    | panic _=>exact h1.elim
    | outgrown=>exact h1.elim
    | _=>exact ⟨h1,F',T',Γ',D',h2,h3,h4,h5,h6⟩
   ·rintro m a1 w1 ⟨F1,T1,Γ1,g1,g2,g3,g4,g5⟩
    refine Code.wpIn_mono ?_ (hJ m T1 Γ1 g5 w0 F1 M w1 a1 ds g2 g3 g4 rd nn (.inr hqr));rintro e a' w' ⟨h1,F',T',Γ',D',h2,h3,h4,h5,h6⟩
    cases e with
    | goto j=>
     obtain ⟨e,rfl,k,T0,Γ0,hk,hwk,hI⟩:=h6;obtain ⟨F3,l1,l2,l3⟩:=hwk w0 F' M w' _ h3 h4;exact ⟨e,k,hk,F3,T0,Γ0,Fz.le_trans g1 (Fz.le_trans h2 l1),l2,l3,h5.mono l1,hI⟩
    | panic _=>exact h1.elim
    | outgrown=>exact h1.elim
    | _=>exact ⟨h1,F',T',Γ',D',Fz.le_trans g1 h2,h3,h4,h5,h6⟩
 | loop c ih=>
  intro T Γ D Q h w0 F M w a ds hS hT hD rd nn hq;obtain ⟨I,J,⟨n,T0,Γ0,hwk,hI⟩,hround,hexit⟩:=h.h;obtain ⟨F0,l1,l2,l3⟩:=hwk w0 F M w _ hS hT
  refine Ed (fun n a' w'=> ∃ F' T' Γ',F.le F'∧aP w0 F' (Γ'++M) w'∧aA F' T' a'.tmps.toList∧jX F' D ds a'.defers∧I n T' Γ')
   ⟨n,F0,T0,Γ0,l1,l2,l3,hD.mono l1,hI⟩ ?_
  rintro n a' w' ⟨F',T',Γ',h2,h3,h4,h5,h6⟩;refine Code.wpIn_mono ?_ (ih T' Γ' D _ (hround n T' Γ' h6) w0 F' M w' a' ds h3 h4 h5 rd nn hq);rintro e a2 w2 ⟨k1,F2,T2,Γ2,D2,k2,k3,k4,k5,k6⟩
  cases e with
  | normal=>
   obtain ⟨rfl,m,T0,Γ0,hm,hwk,hI⟩:=k6;obtain ⟨F3,l1,l2,l3⟩:=hwk w0 F2 M w2 _ k3 k4;exact ⟨m,hm,F3,T0,Γ0,Fz.le_trans (Fz.le_trans h2 k2) l1,l2,l3,k5.mono l1,hI⟩
  | exit j=>
   rcases k6 with k6 | ⟨rfl,T0,Γ0,hwk,hJ⟩
   ·exact ⟨k1,F2,T2,Γ2,D2,Fz.le_trans h2 k2,k3,k4,k5,k6⟩
   ·obtain ⟨F3,l1,l2,l3⟩:=hwk w0 F2 M w2 _ k3 k4
    exact ⟨k1,F3,T0,Γ0,D2,Fz.le_trans (Fz.le_trans h2 k2) l1,l2,l3,k5.mono l1,hexit j T0 Γ0 hJ⟩
  | ret=>exact ⟨k1,F2,T2,Γ2,D2,Fz.le_trans h2 k2,k3,k4,k5,k6⟩
  | goto l=>exact ⟨k1,F2,T2,Γ2,D2,Fz.le_trans h2 k2,k3,k4,k5,k6⟩
  | panic c=>exact k1.elim
  | outgrown=>exact k1.elim
 | region id ops draw=>
  intro T Γ D Q h w0 F M w a ds hS hT hD rd nn hq
  cases draw with
  | false=>
   refine wpIn_region_list (lQ hk rd nn ops (Q':=KT w0 F M ds Q) (K:=fun T' Γ' D'=>Q .normal T' Γ' D') ?_ ops.toList hq T Γ D F a w (Fz.le_refl F) hS hT hD h);intro F' T' Γ' D' a' w' h1 h2 h3 h4 h5;exact ⟨trivial,F',T',Γ',D',h1,h2,h3,h4,h5⟩
  | true=>
   refine h.h rd nn id w0 F M w a _ hS hT ?_;intro F' T' Γ' a' w' h1 h2 h3 h4 h5;exact ⟨trivial,F',T',Γ',D,h1,h2,h3,by rw[h4];exact hD.mono h1,h5⟩
 | rangeFunc g ps x y ihx ihy=>
  intro T Γ D Q h w0 F M w a ds hS hT hD rd nn hq;obtain rfl:rd=none:=hq.resolve_right (by simp[dn]);simp only[W,aI] at h
  split at h
  ·rename_i f cap he
   exact B7 hk ihx ihy hS hT hD he h
  ·exact h.elim
 | goto l=>intro T Γ D Q h w0 F M w a ds hS hT hD rd nn hq;exact wpIn_goto ⟨trivial,F,T,Γ,D,Fz.le_refl F,hS,hT,hD,h⟩
 | refuse s=>intro T Γ D Q h;exact h.elim
end
def GW (tt:Nat→TI) (T:List PV) (Γ:List aj):List ResultVar→(List PV→Prop)→Prop
 | [],k=>k []
 | .tmp t::r,k=>zi T t fun x=>GW tt T Γ r fun l=>k (x::l)
 | .cell a ty::r,k=>zi T a fun p=>match (tt ty).cq with
  | .other=>False
  | d=>match Nat.blt 0 (tt ty).size with
   | false=>False
   | true=>ek d.agg (tt ty).size p Γ fun x=>GW tt T Γ r fun l=>k (x::l)
structure ak (x:PV) (Γ:List aj) (Q:PV→List aj→Prop):Prop where
 h: ∃ y Γ',Shift x Γ y Γ'∧Q y Γ'
def As (tt:Nat→TI) (rs:List ResultVar) (T:List PV) (Γ:List aj) (Q:PV→List aj→Prop):Prop:=
 GW tt T Γ rs fun l=>match l with
  | [x]=>ak x Γ Q
  | l=>ak (.bp l) Γ Q
def mM (P:Program) (f:FuncId) (args:List PV) (Γ:List aj) (Q:PV→List aj→Prop):Prop:=
 (∃ fn,P.funcs[f]?=some fn∧fn.body.isNone=false∧(fn.name == "runtime.NumGoroutine")=false)∧
 ∀ w0 F M w vs,aP w0 F (Γ++M) w→aA F args vs→
  CallsDIn Fence.wide 0 P f vs.toArray .returning w fun e u w'=>u=.returning∧ ∃ v F' y Γ',e=.returned v∧F.le F'∧aP w0 F' (Γ'++M) w'∧aC F' y v∧Q y Γ'
structure kE (P:Program) (f:FuncId) (args:List PV) (Γ:List aj) (K:PV→List aj→Prop):Prop where
 h:mM P f args Γ K
structure AM (b:Nat) (Γ:List aj) (K:List aj→Prop):Prop where
 h: ∃ T vs Γ1 Γ2,Γ=Γ1++.ob b kK T vs::Γ2∧K (Γ1++Γ2)
def yh (P:Program):Ds→List aj→(List aj→Prop)→Prop
 | [],Γ,k=>k Γ
 | .call f asx::D,Γ,k=>kE P f asx Γ fun _ Γ'=>yh P D Γ' k
 | .mark b::D,Γ,k=>AM b Γ fun Γ'=>yh P D Γ' k
def Pz (P:Program) (tt:Nat→TI) (rs:List ResultVar) (Q:PV→List aj→Prop):QT:=fun e T Γ D=>match e with
 | .normal=>yh P D Γ fun Γ'=>As tt rs T Γ' Q
 | .ret=>yh P D Γ fun Γ'=>As tt rs T Γ' Q
 | _=>False
section
variable {P:Program} {tt:Nat→TI}
theorem Lr (hk:TT.ok P tt) {w0:World} {F:Fz} {Γ M:List aj} {w:World} (hS:aP w0 F (Γ++M) w) {t:TypeId} (hne:(tt t).cq≠.other) (h0:0 < (tt t).size)
  {p:PV} {v:Value} (hp:aC F p v) {K:PV→Prop} (h:ek (tt t).cq.agg (tt t).size p Γ K):
  ∃ ad u x,v=.pointer (some ad)∧(loadVar t ad).run P w=.ok u w∧aC F x u∧K x:=by
 obtain ⟨⟨i,z,hi,h1,h2,hz,hzc,h3⟩,hd⟩:=hk.get rfl hne;obtain ⟨desc,hu,hag⟩:=TD.n8 hd hne;obtain ⟨cs,hr,hK⟩:=h.h
 have key: ∃ ad vs,v=.pointer (some ad)∧aQ F cs vs∧vs.length=(tt t).size∧ ∀ j u,vs[j]?=some u→w.cell? (ad.add j)=some u:=by
  unfold Reads at hr
  split at hr
  ·rename_i b q
   obtain ⟨all,hb,hl,rfl⟩:=hr;obtain ⟨vs,el,hw,hv⟩:=hS.HX (List.mem_append_left M hb);have l:=hv.length;refine ⟨⟨b,q,none⟩,(vs.drop q).take (tt t).size,iL hp,cU _ (dg _ hv),by simp;omega,fun j v hj=>?_⟩;rw[List.getElem?_take] at hj
   split at hj
   ·exact qc hw q j v hj
   ·cases hj
  ·rename_i all
   obtain ⟨hl,rfl⟩:=hr;obtain ⟨b,q,hv,hcs⟩:=pe hp;rw[aZ] at hcs;obtain ⟨vs,hrl,hf⟩:=hcs;have l:=hrl.length;refine ⟨⟨b,q,none⟩,vs.take (tt t).size,hv,cU _ hrl,by simp;omega,fun j v hj=>?_⟩;rw[List.getElem?_take] at hj
   split at hj
   ·rw[Addr.add_lit];exact hS.fz _ _ _ (hf j v hj)
   ·cases hj
  ·rename_i t' k q
   obtain ⟨es,e,hrow,hi',hl,rfl⟩:=hr;obtain ⟨ad,vs,g1,g2,g3,g4⟩:=yg hS (List.mem_append_left M hrow) hi' hp;refine ⟨ad,vs.take (tt t).size,g1,cU _ g2,by simp;omega,fun j v hj=>?_⟩;rw[List.getElem?_take] at hj
   split at hj
   ·exact g4 j v hj
   ·cases hj
  ·exact hr.elim
 obtain ⟨ad,vs,he,hrl,hlen,hcell⟩:=key;have hrun:=nw hu hi hcell (by rw[hlen,h1]) (by omega);rw[←hag] at hK;have l:=hrl.length;refine ⟨ad,if sW desc then .agg vs.toArray else vs.headD undef,?_⟩
 cases hg:sW desc with
 | true=>
  rw[hg] at hK hrun;exact ⟨.agg cs,he,hrun,by simp only[aC,if_true];exact ⟨vs,rfl,hrl⟩,hK⟩
 | false=>
  rw[hg] at hK hrun
  match cs,vs,hrl with
  | [], [],_=>simp at hlen;omega
  | c::cs,v::vs,hrl=>
   have:=cg.1 hrl;exact ⟨c,he,hrun,by simpa using this.1.2,hK⟩
def sH (tmps:Array Value):ResultVar→Sem Value
 | .tmp t=>pure (tmps.getD t undef)
 | .cell a t=>do loadVar t (←asAddr (tmps.getD a undef))
theorem pg (hk:TT.ok P tt) {w0:World} {F:Fz} {Γ M:List aj} {w:World} (hS:aP w0 F (Γ++M) w) {T:List PV} {tmps:Array Value} (hT:aA F T tmps.toList):
  ∀ (l:List ResultVar) (k:List PV→Prop),GW tt T Γ l k→ ∃ xs vs,(l.mapM (sH tmps)).run P w=.ok vs w∧aA F xs vs∧k xs
 | [],k,h=>⟨[], [],by simp,by simp[aA],h⟩
 | .tmp t::r,k,h=>by
  simp only[GW,eg] at h;obtain ⟨xs,vs,h1,h2,h3⟩:=pg hk hS hT r _ h;refine ⟨_,tmps.getD t undef::vs,?_,?_,h3⟩
  ·simp only[List.mapM_cons,sH,Sem.run_bind,Sem.run_pure,Result.andThen_ok,h1]
  ·simp only[aA]
   refine ⟨?_,h2⟩;have:=hT.get t;rw[Array.getD_eq_getD_getElem?];simpa[List.getD] using this
 | .cell a ty::r,k,h=>by
  simp only[GW,eg] at h
  split at h
  ·exact h.elim
  ·rename_i hne
   split at h
   ·exact h.elim
   ·rename_i h0
    have hp:=hT.get a
    have hp':aC F (T.getD a .any) (tmps.getD a undef):=by
     rw[Array.getD_eq_getD_getElem?];simpa[List.getD] using hp
    obtain ⟨ad,u,x,e1,e2,e3,e4⟩:=Lr hk hS hne (by simpa using h0) hp' h;obtain ⟨xs,vs,h1,h2,h3⟩:=pg hk hS hT r _ e4;refine ⟨x::xs,u::vs,?_,by simp only[aA];exact ⟨e3,h2⟩,h3⟩;simp only[List.mapM_cons,sH,Sem.run_bind,Sem.run_pure,Result.andThen_ok,e1,asAddr,e2,h1]
def oneOf:List Value→Value
 | [v]=>v
 | vs=>.tuple vs.toArray
theorem DP (fn:Func) (tmps:Array Value) (w:World) {vs:List Value} (h:(fn.results.toList.mapM (sH tmps)).run P w=.ok vs w):
  (results fn tmps).run P w=.ok (oneOf vs) w:=by
 have e0:results fn tmps=(do let vs ←fn.results.mapM (sH tmps);pure (if h:vs.size=1 then vs[0] else .tuple vs)):=by
  have hf:(fun (x:ResultVar)=>match x with | .tmp t=>(pure (tmps.getD t undef):Sem Value) | .cell a t=>do loadVar t (←asAddr (tmps.getD a undef)))=sH tmps:=by
   funext x;cases x<;>rfl
  rw[←hf];rfl
 have e:fn.results.mapM (sH tmps)=List.toArray <$> fn.results.toList.mapM (sH tmps):=Array.mapM_eq_mapM_toList;rw[e0,Sem.run_bind,e,Sem.run_map,h];simp only[Result.andThen_ok]
 match vs with
 | []=>rfl
 | [v]=>rfl
 | _::_::_=>rfl
theorem v8 (hk:TT.ok P tt) {w0:World} {F:Fz} {Γ M:List aj} {w:World} (hS:aP w0 F (Γ++M) w) {T:List PV} {tmps:Array Value} (hT:aA F T tmps.toList) {fn:Func} {Q:PV→List aj→Prop}
  (h:As tt fn.results.toList T Γ Q): ∃ v y F' Γ',(results fn tmps).run P w=.ok v w∧F.le F'∧aP w0 F' (Γ'++M) w∧aC F' y v∧Q y Γ':=by
 obtain ⟨xs,vs,h1,h2,h3⟩:=pg hk hS hT _ _ h;have hr:=DP fn tmps w h1
 have fin: ∀ {x:PV} {v:Value},aC F x v→ak x Γ Q→ ∃ y F' Γ',F.le F'∧aP w0 F' (Γ'++M) w∧aC F' y v∧Q y Γ':=by
  intro x v hx hp;obtain ⟨y,Γ',k1,k2⟩:=hp.h;obtain ⟨F',k3,k4,k5⟩:=k1 w0 F M w v hS hx;exact ⟨y,F',Γ',k3,k4,k5,k2⟩
 have l:=h2.length
 match xs,vs,h2 with
 | [], [],h2=>
  obtain ⟨y,F',Γ',k⟩:=fin (x:=.bp []) (v:=.tuple #[]) (by simp only[aC];exact ⟨[],rfl,h2⟩) h3;exact ⟨_,y,F',Γ',hr,k⟩
 | [x], [v],h2=>
  simp only[aA] at h2;obtain ⟨y,F',Γ',k⟩:=fin h2.1 h3;exact ⟨_,y,F',Γ',hr,k⟩
 | x::x2::xs,v::v2::vs,h2=>
  obtain ⟨y,F',Γ',k⟩:=fin (x:=.bp (x::x2::xs)) (v:=.tuple (v::v2::vs).toArray) (by simp only[aC];exact ⟨_,rfl,h2⟩) h3;exact ⟨_,y,F',Γ',hr,k⟩
 | [],_::_,h2=>simp at l
 | _::_, [],h2=>simp at l
 | [x],_::_::_,h2=>simp at l
 | _::_::_, [v],h2=>simp at l
def kO (args:List PV):Nat→List PV
 | 0=>args
 | n + 1=>match args with
  | []=>.any::kO [] n
  | x::r=>x::kO r n
theorem wv: ∀ n,kO [] n=List.replicate n .any
 | 0=>rfl
 | n + 1=>by simp[kO,wv n,List.replicate_succ]
theorem ym: ∀ (args:List PV) (n:Nat),kO args n=args++List.replicate (n - args.length) .any
 | [],n=>by simp[wv]
 | x::r,0=>by simp[kO]
 | x::r,n + 1=>by simp[kO,ym r n]
theorem AO (F:Fz): ∀ n,aA F (List.replicate n .any) (List.replicate n undef)
 | 0=>by simp[aA]
 | n + 1=>by simp only[List.replicate_succ,aA,aC,true_and];exact AO F n
theorem nX (hk:TT.ok P tt) {w0:World} {M:List aj} {fn:Func} {Q:PV→List aj→Prop} {T:List PV} {tmps:Array Value}:
  ∀ (D:Ds) (l:List Deferred) (F:Fz) (Γ:List aj) (w:World),sU F D l→aP w0 F (Γ++M) w→aA F T tmps.toList→yh P D Γ (fun Γ'=>As tt fn.results.toList T Γ' Q)→
   LeavesInM (cX none) 0 P fn tmps (fun e w'=> ∃ v F' y Γ',e=.returned v∧F.le F'∧aP w0 F' (Γ'++M) w'∧aC F' y v∧Q y Γ') l .returning w
 | [], [],F,Γ,w,_,hS,hT,h=>by
  obtain ⟨v,y,F',Γ2,k1,k2,k3,k4,k5⟩:=v8 hk hS hT h;exact ⟨v,k1,v,F',y,Γ2,rfl,k2,k3,k4,k5⟩
 | [],_::_,F,Γ,w,r,_,_,_=>r.elim
 | _::_, [],F,Γ,w,r,_,_,_=>by simp[sU] at r
 | .call f asx::D,d::l,F,Γ,w,r,hS,hT,h=>by
  simp only[sU] at r;obtain ⟨⟨vs,cap,rfl,hr⟩,r⟩:=r;obtain ⟨⟨fn',hf,hb,hnm⟩,hA⟩:=h.h;refine ⟨by simp,.inr ⟨fun h=>by simp[cX,Fence.wide] at h,.func f,cap.toArray,f,(vs++cap).toArray,rfl,?_,fun _ _=>trivial,?_⟩⟩
  ·have e1:vs.toArray++cap.toArray=(vs++cap).toArray:=by simp
   simp only[invoke,e1,js hf hb hnm]
  ·have hC:CallsDIn (cX none) (0 - 1) P f (vs++cap).toArray .returning w _:=hA w0 F M w (vs++cap) hS hr
   refine hC.mono ?_;rintro e u w' ⟨rfl,v,F',y,Γ',rfl,k1,k2,k3,k4⟩;have:=nX hk (w0:=w0) (M:=M) (fn:=fn) (Q:=Q) (T:=T) (tmps:=tmps) D l F' Γ' w' (r.mono k1) k2 (aA.mono k1 _ _ hT) k4;have hst:settle .returning=.returning:=rfl;simp only[hst];refine leaves_mono (fun e w2 h=>?_) l _ _ this;obtain ⟨v,F2,y,Γ2,e1,e2,e3⟩:=h;exact ⟨v,F2,y,Γ2,e1,Fz.le_trans k1 e2,e3⟩
 | .mark b::D,d::l,F,Γ,w,r,hS,hT,h=>by
  simp only[sU] at r;obtain ⟨rfl,r⟩:=r;obtain ⟨T',vs',Γ1,Γ2,rfl,hK⟩:=h.h;obtain ⟨d1,d2,d3,d4⟩:=hS.fe _ (List.mem_append_left M (List.mem_append_right Γ1 (List.mem_cons_self ..)))
  have hp:((Γ1++.ob b kK T' vs'::Γ2)++M).Perm (.ob b kK T' vs'::((Γ1++Γ2)++M)):=by
   rw[List.append_assoc,List.append_assoc,List.cons_append];exact List.perm_middle
  have hlt:=(Array.getElem?_eq_some_iff.1 d2).1;have hS2:=(hS.perm hp).putObj (w':=w.putObj b (.deferred none)) (o':=.deferred none) (World.putObj_heap_same hlt) (by simp[World.putObj]) (fun k hk=>World.putObj_heap_other hk) rfl rfl rfl;have:=nX hk (w0:=w0) (M:=M) (fn:=fn) (Q:=Q) (T:=T) (tmps:=tmps) D l F (Γ1++Γ2) _ r hS2.tail hT hK;refine ⟨by simp,.inl ⟨b,_,rfl,run_takeDeferred d2,this⟩⟩
where
 leaves_mono {fn:Func} {tmps:Array Value} {R R':Ending→World→Prop} (h: ∀ e w,R e w→R' e w): ∀ (l:List Deferred) (u:FrameMode) (w:World),LeavesInM (cX none) 0 P fn tmps R l u w→LeavesInM (cX none) 0 P fn tmps R' l u w
  | [],.returning,w,hl=>by obtain ⟨v,h1,h2⟩:=hl;exact ⟨v,h1,h _ _ h2⟩
  | [],.panicking chain,w,hl=>h _ _ hl
  | [],.run,_,hl=>hl.elim
  | d::ds,u,w,hl=>by
   obtain ⟨h1,hl⟩:=hl;refine ⟨h1,?_⟩
   rcases hl with ⟨r,w',h2,h3,h4⟩ | ⟨h0,fv,cap,f,args,h2,h3,h4,h5⟩
   ·exact .inl ⟨r,w',h2,h3,leaves_mono h ds u w' h4⟩
   ·refine .inr ⟨h0,fv,cap,f,args,h2,h3,h4,h5.mono ?_⟩
    intro e u' w' he
    cases e with
    | returned v=>exact leaves_mono h ds _ w' he
    | panicked c=>exact leaves_mono h ds _ w' he
    | outgrown=>exact h _ _ he
theorem yo {F:Fz} {fn:Func} {args:List PV} {vs:List Value} (hT:aA F args vs):aA F (kO args fn.ntmps) (vs.toArray++Array.replicate (fn.ntmps - vs.toArray.size) undef).toList:=by
 rw[ym];have:=j6 hT (AO F (fn.ntmps - args.length));rw[hT.length] at this ⊢;simpa using this
theorem af.ah (hk:TT.ok P tt) {f:FuncId} {fn:Func} {c:Code} (hf:P.funcs[f]?=some fn) (hb:fn.body=some c) (hnm:(fn.name == "runtime.NumGoroutine")=false)
  {n:Nat} (hn:fn.ntmps=n) {rs:List ResultVar} (hrs:fn.results.toList=rs) {args:List PV} {Γ:List aj} {Q:PV→List aj→Prop}
  (hW:W P tt c (kO args n) Γ [] (Pz P tt rs Q)):af P f args Γ Q:=by
 refine ⟨⟨fn,hf,by rw[hb];rfl,hnm⟩,fun w0 F M w vs hS hT=>?_⟩;subst hn;subst hrs;refine (callsIn_wide (n:=0)).1 (callsIn_of_wp_marks (F:=Fence.wide) hf hb trivial ?_);refine Code.wpIn_mono ?_ (yO hk c _ _ _ _ hW w0 F M w { tmps:=vs.toArray++Array.replicate (fn.ntmps - vs.toArray.size) undef,defers:= []} [] hS (yo hT) (jX.nil F []) none 0 (.inl rfl));rintro e a' w' ⟨h1,F',T',Γ',D',h2,h3,h4,⟨new,h5,h5'⟩,h6⟩
 have fin:yh P D' Γ' (fun Γ'=>As tt fn.results.toList T' Γ' Q)→bodyPostM Fence.wide 0 P fn (fun e w'=> ∃ v F' y Γ',e=.returned v∧F.le F'∧aP w0 F' (Γ'++M) w'∧aC F' y v∧Q y Γ') .ret a' w':=by
  intro h;have:=nX hk (w0:=w0) (M:=M) (fn:=fn) (Q:=Q) D' new F' Γ' w' h5' h3 h4 h;rw[List.append_nil] at h5;show LeavesInM (cX none) 0 P fn a'.tmps _ a'.defers .returning w';rw[h5];refine nX.leaves_mono (fun e w2 h=>?_) new _ _ this;obtain ⟨v,F2,y,Γ2,e1,e2,e3⟩:=h;exact ⟨v,F2,y,Γ2,e1,Fz.le_trans h2 e2,e3⟩
 cases e with
 | normal=>exact fin h6
 | ret=>exact fin h6
 | exit id=>exact h6.elim
 | goto l=>exact h6.elim
 | panic c=>exact h1.elim
 | outgrown=>exact h1.elim
theorem mM.ah (hk:TT.ok P tt) {f:FuncId} {fn:Func} {c:Code} (hf:P.funcs[f]?=some fn) (hb:fn.body=some c) (hnm:(fn.name == "runtime.NumGoroutine")=false)
  {n:Nat} (hn:fn.ntmps=n) {rs:List ResultVar} (hrs:fn.results.toList=rs) {args:List PV} {Γ:List aj} {Q:PV→List aj→Prop}
  (hW:W P tt c (kO args n) Γ [] (fun e T Γ D=>D= []∧(match e with | .normal=>As tt rs T Γ Q | .ret=>As tt rs T Γ Q | _=>False))):mM P f args Γ Q:=by
 refine ⟨⟨fn,hf,by rw[hb];rfl,hnm⟩,fun w0 F M w vs hS hT=>?_⟩;subst hn;subst hrs;refine callsDIn_of_wp hf hb trivial ?_;refine Code.wpIn_mono ?_ (yO hk c _ _ _ _ hW w0 F M w { tmps:=vs.toArray++Array.replicate (fn.ntmps - vs.toArray.size) undef,defers:= []} [] hS (yo hT) (jX.nil F []) none 0 (.inl rfl));rintro e a' w' ⟨h1,F',T',Γ',D',h2,h3,h4,⟨new,h5,h5'⟩,rfl,h6⟩
 have hd:a'.defers= []:=by
  cases new with
  | nil=>simpa using h5
  | cons d l=>exact h5'.elim
 have fin:As tt fn.results.toList T' Γ' Q→bodyPost P fn (fun e w'=> ∃ v F' y Γ',e=.returned v∧F.le F'∧aP w0 F' (Γ'++M) w'∧aC F' y v∧Q y Γ') .ret a' w':=by
  intro h;obtain ⟨v,y,F2,Γ2,k1,k2,k3,k4,k5⟩:=v8 hk h3 h4 h;exact ⟨hd,v,k1,v,F2,y,Γ2,rfl,Fz.le_trans h2 k2,k3,k4,k5⟩
 cases e with
 | normal=>exact fin h6
 | ret=>exact fin h6
 | exit id=>exact h6.elim
 | goto l=>exact h6.elim
 | panic c=>exact h1.elim
 | outgrown=>exact h1.elim
end
theorem Wk.any (x:PV):Wk x .any:=fun _ _ _=>by simp only[aC]
theorem Wk.trans {x y z:PV} (h:Wk x y) (k:Wk y z):Wk x z:=fun F v r=>k F v (h F v r)
theorem Wk.tt {b:Bool} (h:b=true):Wk .aV (.bool b):=fun _ _ r=>by subst h;simpa only[aC] using r
theorem Wk.ff {b:Bool} (h:b=false):Wk .bfalse (.bool b):=fun _ _ r=>by subst h;simpa only[aC] using r
theorem Wk.int {k:IntKind} {a b:Int} (h:a=b):Wk (.int k a) (.int k b):=h▸Wk.refl _
theorem Wk.bool {a b:Bool} (h:a=b):Wk (.bool a) (.bool b):=h▸Wk.refl _
theorem Wk.str {a b:List UInt8} (h:a=b):Wk (.str a) (.str b):=h▸Wk.refl _
theorem Wk.eq {a b:PV} (h:a=b):Wk a b:=h▸Wk.refl _
theorem Wk.tok (s:Nat) (es:List PV) (tk:Option Tok):Wk (.sl s es tk) (.sl s es none):=fun F v r=>by
 simp only[aC] at r ⊢;refine ⟨fun t h=>absurd h (by simp),?_⟩
 rcases r.2 with h | ⟨b,o,cap,h1,h2,h3,h4,h5⟩ | ⟨h1,h2⟩
 ·exact .inl h
 ·exact .inr (.inl ⟨b,o,cap,h1,h2,h3,fun t h=>absurd h (by simp),h5⟩)
 ·exact .inr (.inr ⟨h1,h2⟩)
theorem Wk.sl {s:Nat} {es fs:List PV} {tk:Option Tok} (h:es=fs):Wk (.sl s es tk) (.sl s fs none):=h▸Wk.tok s es tk
theorem Wk.nil (s:Nat):Wk .nil (.sl s [] none):=fun F v r=>by
 simp only[aC] at r ⊢;exact ⟨fun t h=>absurd h (by simp),.inl ⟨r,trivial⟩⟩
theorem Wk.dM {s:Nat} {es:List PV} (h:es= []):Wk .nil (.sl s es none):=by subst h;exact Wk.nil s
inductive gx:List PV→List PV→Prop
 | nil:gx [] []
 | cons {x y:PV} {xs ys:List PV}:Wk x y→gx xs ys→gx (x::xs) (y::ys)
theorem gx.rep {F:Fz}: ∀ {xs ys:List PV} {vs:List Value},gx xs ys→aQ F xs vs→aQ F ys vs
 | _,_, [],.nil,h=>h
 | _,_,_::_,.nil,h=>h
 | _,_, [],.cons _ _,h=>by simp only[aQ] at h
 | _,_,v::vs,.cons h1 h2,h=>by
  simp only[aQ] at h ⊢;exact ⟨⟨h.1.1,h1 _ _ h.1.2⟩,gx.rep h2 h.2⟩
theorem gx.PC {F:Fz}: ∀ {xs ys:List PV} {vs:List Value},gx xs ys→aA F xs vs→aA F ys vs
 | _,_, [],.nil,h=>h
 | _,_,_::_,.nil,h=>h
 | _,_, [],.cons _ _,h=>by simp only[aA] at h
 | _,_,v::vs,.cons h1 h2,h=>by
  simp only[aA] at h ⊢;exact ⟨h1 _ _ h.1,gx.PC h2 h.2⟩
theorem gx.refl: ∀ xs:List PV,gx xs xs
 | []=>.nil
 | x::xs=>.cons (Wk.refl x) (gx.refl xs)
theorem gx.length {xs ys:List PV} (h:gx xs ys):xs.length=ys.length:=by
 induction h with
 | nil=>rfl
 | cons _ _ ih=>simp[ih]
theorem gx.append {xs ys us vs:List PV} (h:gx xs ys) (k:gx us vs):gx (xs++us) (ys++vs):=by
 induction h with
 | nil=>exact k
 | cons a _ ih=>exact .cons a ih
theorem aX.refl: ∀ xs:List PV,aX xs xs
 | []=>.nil
 | x::xs=>.cons (Wk.refl x) (aX.refl xs)
theorem Wk.agg {xs ys:List PV} (h:gx xs ys):Wk (.agg xs) (.agg ys):=fun F v r=>by
 simp only[aC] at r ⊢;obtain ⟨vs,h1,h2⟩:=r;exact ⟨vs,h1,h.rep h2⟩
theorem Wk.bp {xs ys:List PV} (h:gx xs ys):Wk (.bp xs) (.bp ys):=fun F v r=>by
 simp only[aC] at r ⊢;obtain ⟨vs,h1,h2⟩:=r;exact ⟨vs,h1,h.PC h2⟩
inductive pU:List PV→List PV→Prop
 | nil:pU [] []
 | cons {x y:PV} {xs ys:List PV}:gx x.cellsOf y.cellsOf→pU xs ys→pU (x::xs) (y::ys)
theorem pU.flat {xs ys:List PV} (h:pU xs ys):gx (flat xs) (flat ys):=by
 induction h with
 | nil=>exact .nil
 | cons a _ ih=>simp only[Go.Cb.flat,List.flatMap_cons];exact a.append ih
theorem pU.refl: ∀ xs:List PV,pU xs xs
 | []=>.nil
 | _::xs=>.cons (gx.refl _) (pU.refl xs)
theorem pU.length {xs ys:List PV} (h:pU xs ys):xs.length=ys.length:=by
 induction h with
 | nil=>rfl
 | cons _ _ ih=>simp[ih]
theorem pU.sizes {xs ys:List PV} {s:Nat} (h:pU xs ys) (k: ∀ e∈xs,e.cellsOf.length=s): ∀ e∈ys,e.cellsOf.length=s:=by
 induction h with
 | nil=>exact k
 | cons a _ ih=>
  intro e he;rcases List.mem_cons.1 he with rfl | he
  ·rw[←a.length];exact k _ (by simp)
  ·exact ih (fun e he=>k e (by simp[he])) e he
theorem Wk.row {s:Nat} {es fs:List PV} {tk:Option Tok} (h:pU es fs):Wk (.sl s es tk) (.sl s fs tk):=fun F v r=>by
 simp only[aC] at r ⊢;refine ⟨fun t ht=>by rw[←h.length];exact r.1 t ht,?_⟩
 rcases r.2 with ⟨h1,h2⟩ | ⟨b,o,cap,h1,h2,h3,h4,h5⟩ | ⟨h1,h3⟩
 ·left
  subst h2;cases h;exact ⟨h1,rfl⟩
 rotate_right
 ·subst h1
  cases h;exact .inr (.inr ⟨rfl,h3⟩)
 ·rw[eU,aZ] at h5
  obtain ⟨k1,vs,k2,k3⟩:=h5;exact .inr (.inl ⟨b,o,cap,by rw[←h.length];exact h1,by rw[←h.length];exact h2,h3,fun t ht=>(h4 t ht).imp_right fun e=>List.eq_nil_of_length_eq_zero (by rw[←h.length,e];rfl),(eU ..).2 ⟨h.sizes k1,(aZ ..).2 ⟨vs,h.flat.rep k2,k3⟩⟩⟩)
class fQ (Γ:List aj) (b:Nat) (cs:outParam (List PV)) (put:outParam (List PV→List aj)):Prop where
 at_: ∃ Γ1 Γ2,Γ=Γ1++.box b cs::Γ2∧ ∀ cs',put cs'=Γ1++.box b cs'::Γ2
instance (priority:=high) fQ.head (Γ:List aj) (b:Nat) (cs:List PV):fQ (.box b cs::Γ) b cs (fun cs'=>.box b cs'::Γ):=⟨[],Γ,rfl,fun _=>rfl⟩
instance fQ.tail (e:aj) (Γ:List aj) (b:Nat) (cs:List PV) (put:List PV→List aj) [h:fQ Γ b cs put]:fQ (e::Γ) b cs (fun cs'=>e::put cs'):=by
 obtain ⟨Γ1,Γ2,h1,h2⟩:=h.at_;exact ⟨e::Γ1,Γ2,by rw[h1];rfl,fun cs'=>by rw[h2];rfl⟩
class jk (Γ:List aj) (t:Tok) (put:outParam (Tok→List aj)):Prop where
 at_: ∃ Γ1 Γ2,Γ=Γ1++.tok t::Γ2∧ ∀ t',put t'=Γ1++.tok t'::Γ2
instance (priority:=high) jk.head (Γ:List aj) (t:Tok):jk (.tok t::Γ) t (fun t'=>.tok t'::Γ):=⟨[],Γ,rfl,fun _=>rfl⟩
instance jk.tail (e:aj) (Γ:List aj) (t:Tok) (put:Tok→List aj) [h:jk Γ t put]:jk (e::Γ) t (fun t'=>e::put t'):=by
 obtain ⟨Γ1,Γ2,h1,h2⟩:=h.at_;exact ⟨e::Γ1,Γ2,by rw[h1];rfl,fun cs'=>by rw[h2];rfl⟩
class iN (Γ:List aj) (e:aj) (rest:outParam (List aj)):Prop where
 p:Γ.Perm (e::rest)
instance (priority:=high) iN.head (Γ:List aj) (e:aj):iN (e::Γ) e Γ:=⟨List.Perm.refl _⟩
instance iN.tail (x:aj) (Γ:List aj) (e:aj) (r:List aj) [h:iN Γ e r]:iN (x::Γ) e (x::r):=⟨(h.p.cons x).trans (List.Perm.swap e x r)⟩
class bz (Γ:List aj) (es:List aj) (rest:outParam (List aj)):Prop where
 p:Γ.Perm (es++rest)
instance bz.nil (Γ:List aj):bz Γ [] Γ:=⟨List.Perm.refl _⟩
instance bz.cons (Γ:List aj) (e:aj) (es r r':List aj) [h:iN Γ e r] [k:bz r es r']:bz Γ (e::es) r':=⟨h.p.trans (k.p.cons e)⟩
section
variable {P:Program} {tt:Nat→TI}
theorem ek.box {Γ:List aj} {b:Nat} {all:List PV} {put:List PV→List aj} [hp:fQ Γ b all put] {agg:Bool} {o n:Nat} {K:PV→Prop} (hl:Nat.ble (o + n) all.length=true)
  (k:mE all o fun r=>nK r n fun cs=>mK agg cs K):ek agg n (.ptr b o) Γ K:=by
 obtain ⟨Γ1,Γ2,h1,_⟩:=hp.at_;simp only[dQ,fO] at k;exact ⟨_,⟨all,by rw[h1];simp,Nat.le_of_ble_eq_true hl,rfl⟩,k⟩
theorem ek.ep {Γ:List aj} {all:List PV} {agg:Bool} {n:Nat} {K:PV→Prop} (hl:Nat.ble n all.length=true)
  (k:nK all n fun cs=>mK agg cs K):ek agg n (.ep all) Γ K:=by
 rw[fO] at k;exact ⟨_,⟨Nat.le_of_ble_eq_true hl,rfl⟩,k⟩
def qy:PV→PV
 | .aV=>.bool true
 | .bfalse=>.bool false
 | x=>x
theorem Jg (x:PV):Wk x (qy x):=by
 unfold qy
 split
 ·exact Wk.tt rfl
 ·exact Wk.ff rfl
 ·exact Wk.refl _
def sD {q:Sort _}:List PV→(List PV→q)→q
 | [],k=>k []
 | .aV::l,k=>sD l fun r=>k (.bool true::r)
 | .bfalse::l,k=>sD l fun r=>k (.bool false::r)
 | x::l,k=>sD l fun r=>k (x::r)
theorem vP {q:Sort _}: ∀ (l:List PV) (k:List PV→q),sD l k=k (l.map qy)
 | [],_=>rfl
 | x::l,k=>by cases x<;>simp[sD,vP l,qy]
theorem x4: ∀ l:List PV,gx l (l.map qy)
 | []=>.nil
 | x::l=>.cons (Jg x) (x4 l)
theorem cr.box {Γ:List aj} {b:Nat} {all:List PV} {put:List PV→List aj} [hp:fQ Γ b all put] {o n:Nat} {x:PV} {K:List aj→Prop} (hl:Nat.ble (o + n) all.length=true)
  (hx:jL x.cellsOf n=true) (hc:x.cB=true)
  (k:nK all o fun a=>mE all (o + n) fun z=>sD x.cellsOf fun xs=>uK xs z fun y=>uK a y fun all'=>K (put all')):cr n (.ptr b o) x Γ K:=by
 obtain ⟨Γ1,Γ2,h1,h2⟩:=hp.at_;simp only[dQ,fO,fR,vP,h2] at k;exact ⟨eA hx,hc,x.cellsOf.map qy,fun F vs h=>(x4 _).rep h,by rw[List.length_map];exact eA hx,.inl ⟨b,o,all,Γ1,Γ2,rfl,h1,Nat.le_of_ble_eq_true hl,by simpa using k⟩⟩
theorem dr.at_ {sz:Nat} {es:List PV} {tk:Option Tok} {k:IntKind} {n:Int} {K:PV→Prop} (e:PV) (h0:0≤n) (hg:es[n.toNat]?=some e) (hk:K (.ep e.cellsOf)):dr sz (.sl sz es tk) (.int k n) K:=
 ⟨sz,es,tk,k,n,e,rfl,rfl,h0,hg,rfl,hk⟩
theorem j4.at_ {n sz b o:Nat} {k:IntKind} {m:Int} {K:PV→Prop} (h0:0≤m) (hm:m < n) (hk:K (.ptr b (o + m.toNat * sz))):j4 n sz (.ptr b o) (.int k m) K:=
 ⟨b,o,k,m,rfl,rfl,h0,hm,hk⟩
theorem j5.at_ {s:List UInt8} {k:IntKind} {n:Int} {K:PV→Prop} (b:UInt8) (h0:0≤n) (hg:s[n.toNat]?=some b) (hk:K (.int .u8 b.toNat)):j5 s (.int k n) K:=
 ⟨k,n,b,rfl,h0,hg,hk⟩
theorem aW.nil {s j7:Nat} {e:TypeId} {ys:List PV} {tk:Option Tok} {Γ:List aj} {K:PV→List aj→Prop} (h1:ys.length≤281474976710655) (h2:ys.length * j7≤140737488355328)
  (k: ∀ t:Tok,t.e=e→K (.sl s ys (some t)) (.tok t::Γ)):aW s j7 e .nil (.sl s ys tk) Γ K:=
 ⟨[],ys,.inl ⟨tk,Wk.refl _⟩,by simpa using h1,by simpa using h2,.inl ⟨rfl,rfl,.inl k⟩⟩
theorem kT.one {s:Nat} {x:PV} {e:TypeId} {K:PV→aj→Prop} (h1:jL x.cellsOf s=true) (h2:x.cB=true) (k: ∀ t:Tok,t.e=e→K (.sl s [x] (some t)) (.tok t)):kT s [x] e K:=
 ⟨by simpa using eA h1,by simpa using h2,.inl k⟩
theorem kT.none {s:Nat} {e:TypeId} {K:PV→aj→Prop} (k: ∀ t:Tok,t.e=e→K (.sl s [] (some t)) (.tok t)):kT s [] e K:=
 ⟨by simp,by simp,.inl k⟩
theorem af.mono {f:FuncId} {args:List PV} {Γ:List aj} {Q Q':PV→List aj→Prop} (h:af P f args Γ Q) (hq: ∀ y Γ',Q y Γ'→Q' y Γ'):af P f args Γ Q':=
 ⟨h.1,fun w0 F M w vs hS hT=>(h.2 w0 F M w vs hS hT).mono fun _ _ ⟨v,F',y,Γ',e1,e2,e3,e4,e5⟩=>⟨v,F',y,Γ',e1,e2,e3,e4,hq _ _ e5⟩⟩
theorem af.wk {f:FuncId} {args args':List PV} {Γ:List aj} {Q:PV→List aj→Prop} (h:af P f args' Γ Q) (hw:aX args args'):af P f args Γ Q:=
 ⟨h.1,fun w0 F M w vs hS hT=>h.2 w0 F M w vs hS (hw.rep hT)⟩
theorem af.frame {f:FuncId} {args:List PV} {Γ Γ1 Γ2:List aj} {Q:PV→List aj→Prop} (h:af P f args Γ1 Q) (hp:Γ.Perm (Γ1++Γ2)):
  af P f args Γ fun y Γ'=> ∃ Γ1',Γ'=Γ1'++Γ2∧Q y Γ1':=by
 refine ⟨h.1,fun w0 F M w vs hS hT=>?_⟩
 have hS':aP w0 F (Γ1++(Γ2++M)) w:=by
  have:=hS.perm (hp.append_right M);simpa using this
 refine (h.2 w0 F (Γ2++M) w vs hS' hT).mono ?_;rintro _ _ ⟨v,F',y,Γ',e1,e2,e3,e4,e5⟩;exact ⟨v,F',y,Γ'++Γ2,e1,e2,by simpa using e3,e4,Γ',rfl,e5⟩
def ay (P:Program) (f:FuncId) (args:List PV) (y:PV):Prop:=af P f args [] fun y' _=>y'=y
theorem ay.DE {f:FuncId} {args:List PV} {y:PV} (h:af P f args [] fun y' _=>y'=y):ay P f args y:=h
theorem aq.pure {f:FuncId} {args args':List PV} {y:PV} {Γ:List aj} {K:PV→List aj→Prop} (h:ay P f args' y) (hw:aX args args') (k:K y Γ):aq P f args Γ K:=by
 have h1:=(h.wk hw).frame (Γ:=Γ) (Γ2:=Γ) (List.Perm.refl _);refine ⟨.inl ⟨h1.1,fun w0 F M w vs hS hT=>(h1.2 w0 F M w vs hS hT).mono ?_⟩⟩;rintro e w' ⟨v,F',y',Γ',e1,e2,e3,e4,Γ1',rfl,rfl⟩;refine ⟨v,F',_,Γ,e1,e2,?_,e4,k⟩;refine e3.sub ?_;rw[List.append_assoc];exact List.sublist_append_right _ _
theorem aq.ext {f:FuncId} {args args':List PV} {y:PV} {Γ:List aj} {K:PV→List aj→Prop} (h:MZ P f args' y) (hw:aX args args') (k:K y Γ):aq P f args Γ K:=
 ⟨.inr ⟨y,fun F w vs hv=>h F w vs (hw.rep hv),k⟩⟩
theorem aq.gen {f:FuncId} {args args':List PV} {Γ Γ1 Γ2:List aj} {Q K:PV→List aj→Prop} (h:af P f args' Γ1 Q) (hw:aX args args') [hp:bz Γ Γ1 Γ2]
  (k: ∀ y Γ1',Q y Γ1'→K y (Γ1'++Γ2)):aq P f args Γ K:=by
 refine ⟨.inl (((h.wk hw).frame hp.p).mono ?_)⟩;rintro y Γ' ⟨Γ1',rfl,hq⟩;exact k y Γ1' hq
theorem Shift.wk {x y:PV} {Γ Γ' Γ1:List aj} (hw:Wk x y) (hp:Γ.Perm (Γ'++Γ1)):Shift x Γ y Γ':=fun w0 F M w v hS hx=>
 let ⟨F',h1,h2⟩:=au.drop hp w0 F M w hS
 ⟨F',h1,h2,aC.mono h1 _ _ (hw _ _ hx)⟩
theorem Shift.trans {x y z:PV} {Γ Γ' Γ2:List aj} (h:Shift x Γ y Γ') (k:Shift y Γ' z Γ2):Shift x Γ z Γ2:=fun w0 F M w v hS hx=>by
 obtain ⟨F1,a1,a2,a3⟩:=h w0 F M w v hS hx;obtain ⟨F2,b1,b2,b3⟩:=k w0 F1 M w v a2 a3;exact ⟨F2,Fz.le_trans a1 b1,b2,b3⟩
theorem Shift.freeze {b o:Nat} {cs:List PV} {Γ Γ1:List aj} [hp:iN Γ (.box b cs) Γ1]:Shift (.ptr b o) Γ (.ep (cs.drop o)) Γ1:=fun w0 F M w v hS hx=>by
 have hS':=hS.perm (hp.p.append_right M);obtain ⟨F',h1,h2,h3⟩:=aP.freeze (M:=Γ1++M) (by simpa using hS');refine ⟨F',h1,h2,?_⟩;simp only[aC] at hx ⊢;exact ⟨b,o,hx,h3 o⟩
theorem bB.lit {s:Nat} {ys:List PV} {t:Tok} {e:aj} {Γ:List aj}:bB (.sl s ys (some t)) (e::Γ) (.sl s ys none) Γ:=⟨Shift.wk (Wk.tok _ _ _) (Γ1:= [e]) (List.perm_append_singleton e Γ).symm⟩
theorem bB.ep {b:Nat} {cs:List PV} {Γ:List aj}:bB (.ptr b 0) (.box b cs::Γ) (.ep cs) Γ:=⟨Shift.freeze (hp:=⟨List.Perm.refl _⟩)⟩
theorem ak.pure {x y:PV} {Γ:List aj} (hw:Wk x y):ak x Γ (fun y' _=>y'=y):=⟨y, [],Shift.wk hw (Γ1:=Γ) (List.Perm.refl _),rfl⟩
theorem ak.gen {x y:PV} {Γ Γ' Γ1:List aj} {Q:PV→List aj→Prop} (hw:Wk x y) [hp:bz Γ Γ' Γ1] (q:Q y Γ'):ak x Γ Q:=⟨y,Γ',Shift.wk hw hp.p,q⟩
theorem ak.freeze {b:Nat} {cs cs':List PV} {Γ Γ1 Γ' Γ2:List aj} {Q:PV→List aj→Prop} [hp:iN Γ (.box b cs) Γ1] (hw:Wk (.ep cs) (.ep cs')) [hq:bz Γ1 Γ' Γ2] (q:Q (.ep cs') Γ'):ak (.ptr b 0) Γ Q:=
 ⟨.ep cs',Γ',Shift.trans (Shift.freeze (o:=0)) (Shift.wk hw hq.p),q⟩
def jQ:Nat→Nat→List (Nat×PV)→List PV
 | _,0,_=> []
 | i,n + 1, []=>.any::jQ (i + 1) n []
 | i,n + 1,(j,x)::r=>match Nat.beq i j with
  | true=>x::jQ (i + 1) n r
  | false=>.any::jQ (i + 1) n ((j,x)::r)
def fC:List PV→Nat→List (Nat×PV)→Prop
 | [],_, []=>True
 | [],_,_::_=>False
 | _::T,i, []=>fC T (i + 1) []
 | t::T,i,(j,x)::r=>match Nat.beq i j with
  | true=>Wk t x∧fC T (i + 1) r
  | false=>fC T (i + 1) ((j,x)::r)
theorem fC.wk: ∀ (T:List PV) (i:Nat) (ps:List (Nat×PV)),fC T i ps→aX T (jQ i T.length ps)
 | [],_, [],_=>.nil
 | [],_,_::_,h=>h.elim
 | t::T,i, [],h=>.cons (Wk.any t) (fC.wk T (i + 1) [] h)
 | t::T,i,(j,x)::r,h=>by
  simp only[fC] at h;simp only[List.length_cons,jQ]
  split
  ·rename_i hb;rw[hb] at h;exact .cons h.1 (fC.wk T (i + 1) r h.2)
  ·rename_i hb;rw[hb] at h;exact .cons (Wk.any t) (fC.wk T (i + 1) _ h)
theorem fC.len: ∀ (i n:Nat) (ps:List (Nat×PV)),(jQ i n ps).length=n
 | _,0,_=>rfl
 | i,n + 1, []=>by simp[jQ,fC.len (i + 1) n]
 | i,n + 1,(j,x)::r=>by
  simp only[jQ]
  split<;>simp[fC.len (i + 1) n]
theorem dh.mask {T:List PV} {Γ Γ0 Γ1:List aj} {len:Nat} (ps:List (Nat×PV)) (hl:jL T len=true) (hw:fC T 0 ps) [hp:bz Γ Γ0 Γ1]:dh T Γ (jQ 0 len ps) Γ0:=by
 refine dh.of ?_ (au.drop hp.p);have:=fC.wk T 0 ps hw;rwa [eA hl] at this
theorem kE.gen {f:FuncId} {args args':List PV} {Γ Γ1 Γ2:List aj} {Q K:PV→List aj→Prop} (h:mM P f args' Γ1 Q) (hw:aX args args') [hp:bz Γ Γ1 Γ2]
  (k: ∀ y Γ1',Q y Γ1'→K y (Γ1'++Γ2)):kE P f args Γ K:=by
 refine ⟨h.1,fun w0 F M w vs hS hT=>?_⟩
 have hS':aP w0 F (Γ1++(Γ2++M)) w:=by
  have:=hS.perm (hp.p.append_right M);simpa using this
 refine CallsDIn.mono (h.2 w0 F (Γ2++M) w vs hS' (hw.rep hT)) ?_;rintro _ _ _ ⟨rfl,v,F',y,Γ',e1,e2,e3,e4,e5⟩;exact ⟨rfl,v,F',y,Γ'++Γ2,e1,e2,by simpa using e3,e4,k _ _ e5⟩
end
structure oe (B:(PV→List aj→Prop)→Prop) (Γ:List aj) (k:PV→Prop):Prop where
 h: ∃ v,B (fun p Γ'=>bB p Γ' v Γ)∧k v
def D4 (P:Program) (tt:Nat→TI) (full:List Oper) (o:Oper) (T:List PV) (Γ:List aj) (k:PV→Prop):Prop:=
 match o.guard with
 | none=>oe (pI P tt o.op T Γ) Γ k
 | some (j,want)=>match jF full j with
  | none=>False
  | some d=>zi T d fun y=>match Bw y want with
   | .run=>oe (pI P tt o.op T Γ) Γ k
   | .skip=>k (.bp [])
   | .opt g=>eO g (fun x=>nL T (sC o.op) fun T'=>pI P tt o.op T' Γ fun z Γ'=>bB z Γ' x Γ) False False k
   | .bad=>False
def gw (P:Program) (tt:Nat→TI) (full:List Oper):List Oper→List PV→List aj→(List PV→Prop)→Prop
 | [],T,_,k=>k T
 | o::r,T,Γ,k=>D4 P tt full o T Γ fun v=>nr T o.dst v fun T'=>gw P tt full r T' Γ k
def bG (l:List Oper):List Nat→List Oper
 | []=> []
 | i::r=>match nthO l i with
  | some o=>o::bG l r
  | none=>bG l r
where
 nthO:List Oper→Nat→Option Oper
  | [],_=>none
  | x::_,0=>some x
  | _::l,n + 1=>nthO l n
theorem E3: ∀ (l:List Oper) (n:Nat),bG.nthO l n=l[n]?
 | [],n=>by simp[bG.nthO]
 | _::_,0=>by simp[bG.nthO]
 | _::l,n + 1=>by simp[bG.nthO,E3 l]
theorem iU (l:List Oper): ∀ is:List Nat,bG l is=is.filterMap (l[·]?)
 | []=>rfl
 | i::r=>by
  simp only[bG,E3,List.filterMap_cons]
  split<;>rename_i h<;>simp[h,iU l r]
def Dy (bE:List Nat) (es:List Edge):Nat:=
 es.foldl (fun m e=>if Region.binds .any e then m ||| 2 ^ e.on ||| bE.getD e.on 0 else m) 0
def yu:List Oper→List Nat→List Nat
 | [],t=>t
 | o::r,t=>yu r (t++ [Dy t o.after.toList])
def gb (ops:Array Oper) (bE:List Nat):Bool:=
 (List.range ops.size).all fun i=>match ops[i]? with
  | none=>true
  | some o=>Nat.beq (bE.getD i 0) (Dy bE o.after.toList) && o.after.all fun e=>!(Region.binds .any e) || Nat.blt e.on i
def iP (bE:List Nat) (i j:Nat):Bool:=(bE.getD i 0).testBit j
theorem Dz (bE:List Nat) (j:Nat): ∀ (es:List Edge),(Dy bE es).testBit j=true→ ∃ e∈es,Region.binds .any e=true∧(e.on=j∨iP bE e.on j=true):=by
 have key: ∀ (es:List Edge) (m:Nat),(es.foldl (fun m e=>if Region.binds .any e then m ||| 2 ^ e.on ||| bE.getD e.on 0 else m) m).testBit j=true→
   m.testBit j=true∨ ∃ e∈es,Region.binds .any e=true∧(e.on=j∨iP bE e.on j=true):=by
  intro es
  induction es with
  | nil=>intro m h;exact .inl h
  | cons e es ih=>
   intro m h;rw[List.foldl_cons] at h
   rcases ih _ h with h | ⟨e',h1,h2⟩
   ·split at h
    ·rename_i hb
     simp only[Nat.testBit_or,Bool.or_eq_true,Nat.testBit_two_pow,decide_eq_true_eq] at h;rcases h with (h | h) | h
     ·exact .inl h
     ·exact .inr ⟨e,by simp,hb,.inl h⟩
     ·exact .inr ⟨e,by simp,hb,.inr h⟩
    ·exact .inl h
   ·exact .inr ⟨e',by simp[h1],h2⟩
 intro es h;rcases key es 0 h with h | h
 ·simp at h
 ·exact h
theorem wE {ops:Array Oper} {bE:List Nat} (hc:gb ops bE=true) {i j:Nat} {o:Oper} (ho:ops[i]?=some o) (ha:iP bE i j=true):
  ∃ e∈o.after,Region.binds .any e=true∧e.on < i∧(e.on=j∨iP bE e.on j=true):=by
 have hlt:i < ops.size:=(Array.getElem?_eq_some_iff.1 ho).1;have h:=List.all_eq_true.1 hc i (List.mem_range.2 hlt);simp only[ho,Bool.and_eq_true] at h;unfold iP at ha;rw[Nat.eq_of_beq_eq_true h.1] at ha;obtain ⟨e,h1,h2,h3⟩:=Dz _ _ _ ha;have h1':e∈o.after:=by simpa using h1
 have:=Array.all_eq_true_iff_forall_mem.1 h.2 e h1';exact ⟨e,h1',h2,by simpa[Nat.blt,Nat.succ_le_iff,h2] using this,h3⟩
def Down (ops:Array Oper) (listed:Array Bool):Prop:=
 ∀ k o,listed.getD k true=true→ops[k]?=some o→ ∀ e∈o.after,Region.binds .any e=true→listed.getD e.on false=true
theorem blocked {ops:Array Oper} {bE:List Nat} (hc:gb ops bE=true) {listed:Array Bool} (hd:Down ops listed):
  ∀ (i:Nat) {j:Nat} {o:Oper},ops[i]?=some o→iP bE i j=true→listed.getD j true=false→i∉Region.ready .any ops listed:=by
 intro i
 induction i using Nat.strongRecOn with
 | _ i ih=>
  intro j o ho ha hj hr;obtain ⟨_,o',ho',hall⟩:=mem_ready.1 hr;rw[ho] at ho';cases ho';obtain ⟨e,h1,h2,h3,h4⟩:=wE hc ho ha;have hl:=hall e h1 h2;rcases h4 with h4 | h4
  ·rw[h4] at hl
   have:=getD_swap hj;rw[hl] at this;cases this
  ·have hlt:i < ops.size:=(Array.getElem?_eq_some_iff.1 ho).1
   have he:ops[e.on]?=some (ops[e.on]'(by omega)):=Array.getElem?_eq_getElem _;obtain ⟨e2,g1,g2,_,g4⟩:=wE hc he h4;have hl':listed.getD e.on true=true:=getD_up hl;clear ih hall hr g1 g2 g4
   have down: ∀ k:Nat, ∀ o,ops[k]?=some o→listed.getD k true=true→iP bE k j=true→False:=by
    intro k
    induction k using Nat.strongRecOn with
    | _ k ihk=>
     intro o ho hk hak;obtain ⟨e,h1,h2,h3,h4⟩:=wE hc ho hak;have hl:=hd k o hk ho e h1 h2;rcases h4 with h4 | h4
     ·rw[h4] at hl
      have:=getD_swap hj;rw[hl] at this;cases this
     ·have hlt:k < ops.size:=(Array.getElem?_eq_some_iff.1 ho).1
      exact ihk e.on h3 _ (Array.getElem?_eq_getElem (by omega)) (getD_up hl) h4
   exact down e.on _ he hl' h4
where
 getD_swap {l:Array Bool} {j:Nat} (h:l.getD j true=false):l.getD j false=false:=by
  rcases Nat.lt_or_ge j l.size with h' | h'
  ·simp[h'] at h ⊢; exact h
  ·simp[Array.getElem?_eq_none h'] at h
 getD_up {l:Array Bool} {j:Nat} (h:l.getD j false=true):l.getD j true=true:=by
  rcases Nat.lt_or_ge j l.size with h' | h'
  ·simp[h'] at h ⊢; exact h
  ·simp[Array.getElem?_eq_none h'] at h
theorem Down.set {ops:Array Oper} {listed:Array Bool} (hd:Down ops listed) {i:Nat} (hr:i∈Region.ready .any ops listed):Down ops (listed.setIfInBounds i true):=by
 intro k o hk ho e he hb;by_cases hki:i=k
 ·subst hki
  obtain ⟨_,o',ho',hall⟩:=mem_ready.1 hr;rw[ho] at ho';cases ho';exact getD_set_true (hall e he hb)
 ·rw[getD_set_ne true hki] at hk
  exact getD_set_true (hd k o hk ho e he hb)
def gu (ops:Array Oper) (listed:Array Bool) (l:List Nat):Prop:=l.Nodup∧(∀ i,listed.getD i true=false↔i∈l)∧ ∀ i∈l, ∃ o,ops[i]?=some o
theorem gu.set {ops:Array Oper} {listed:Array Bool} {l1 l2:List Nat} {i:Nat} (h:gu ops listed (l1++i::l2)):gu ops (listed.setIfInBounds i true) (l1++l2):=by
 obtain ⟨h1,h2,h3⟩:=h
 have hn:i∉l1++l2:=by
  have:=(List.perm_middle (a:=i) (l₁:=l1) (l₂:=l2)).nodup_iff.1 h1;exact (List.nodup_cons.1 this).1
 refine ⟨?_,fun k=>?_,fun k hk=>h3 k (by simp only[List.mem_append,List.mem_cons] at hk ⊢; rcases hk with h | h;exact .inl h;exact .inr (.inr h))⟩
 ·have:=(List.perm_middle (a:=i) (l₁:=l1) (l₂:=l2)).nodup_iff.1 h1
  exact (List.nodup_cons.1 this).2
 ·by_cases hk:i=k
  ·subst hk
   have hi:=(h2 i).2 (by simp)
   have hlt:i < listed.size:=by
    rcases Nat.lt_or_ge i listed.size with h' | h'
    ·exact h'
    ·simp[Array.getElem?_eq_none h'] at hi
   simp only[hn,iff_false];simp[hlt]
  ·rw[getD_set_ne true hk,h2]
   simp only[List.mem_append,List.mem_cons];constructor
   ·rintro (h | h | h)
    ·exact .inl h
    ·exact absurd h.symm hk
    ·exact .inr h
   ·rintro (h | h)
    ·exact .inl h
    ·exact .inr (.inr h)
theorem gu.ready {ops:Array Oper} {listed:Array Bool} {l:List Nat} (h:gu ops listed l) {i:Nat} (hr:i∈Region.ready .any ops listed):i∈l:=
 (h.2.1 i).1 (mem_ready.1 hr).1
theorem fo {ops:Array Oper} {bE:List Nat} (hc:gb ops bE=true) {listed:Array Bool} {i:Nat} {R:List Nat} (hp:gu ops listed (i::R)): ∃ k,k∈Region.ready .any ops listed:=by
 have key: ∀ k,listed.getD k true=false→ ∃ k,k∈Region.ready .any ops listed:=by
  intro k
  induction k using Nat.strongRecOn with
  | _ k ih=>
   intro hk;obtain ⟨o,ho⟩:=hp.2.2 k ((hp.2.1 k).1 hk);by_cases hall: ∀ e∈o.after,Region.binds .any e=true→listed.getD e.on false=true
   ·exact ⟨k,mem_ready.2 ⟨hk,o,ho,hall⟩⟩
   ·simp only[Classical.not_forall] at hall
    obtain ⟨e,he,hb,hl⟩:=hall;have hlt:k < ops.size:=(Array.getElem?_eq_some_iff.1 ho).1;have h:=List.all_eq_true.1 hc k (List.mem_range.2 hlt);simp only[ho,Bool.and_eq_true] at h;have:=Array.all_eq_true_iff_forall_mem.1 h.2 e he;have hek:e.on < k:=by simpa[Nat.blt,Nat.succ_le_iff,hb] using this
    refine ih e.on hek ?_;rcases Nat.lt_or_ge e.on listed.size with h' | h'
    ·simp[h'] at hl ⊢; exact hl
    ·exfalso
     have:listed.getD k true=true:=by
      rw[Array.getD_eq_getD_getElem?,Array.getElem?_eq_none (by omega)];rfl
     rw[this] at hk;cases hk
 exact key i ((hp.2.1 i).2 (by simp))
section
variable {P:Program} {tt:Nat→TI}
theorem nM {rd:Option Nat} {nn:Nat} {ops:Array Oper} {bE:List Nat} (hc:gb ops bE=true) {Q:Exit→Act→World→Prop}:
  ∀ (R:List Nat) (fuel:Nat) (listed:Array Bool) (a:Act) (w:World),R.length≤fuel→Down ops listed→gu ops listed R→R.Pairwise (fun j i=>iP bE i j=true)→
   wpOpsIn (cX rd) nn P ops Q R a w→wpAnyIn (cX rd) nn P .any ops Q fuel listed a w
 | [],fuel,listed,a,w,_,hd,hp,_,h=>by
  have hr:Region.ready .any ops listed= []:=List.eq_nil_iff_forall_not_mem.2 fun i hi=>by have:=hp.ready hi;simp at this
  cases fuel with
  | zero=>exact ⟨hr,h⟩
  | succ fuel=>exact ⟨fun _=>h,fun i hi=>by rw[hr] at hi;cases hi⟩
 | i::R,0,listed,a,w,hf,_,_,_,_=>by simp at hf
 | i::R,fuel + 1,listed,a,w,hf,hd,hp,hch,h=>by
  have hsub: ∀ k∈Region.ready .any ops listed,k=i:=by
   intro k hk;have hm:=hp.ready hk;rcases List.mem_cons.1 hm with h | h
   ·exact h
   ·exfalso
    obtain ⟨o,ho⟩:=hp.2.2 k hm;exact blocked hc hd k ho ((List.pairwise_cons.1 hch).1 k h) ((hp.2.1 i).2 (by simp)) hk
  refine ⟨fun hnil=>?_,fun k hk=>?_⟩
  ·exfalso
   have hi:listed.getD i true=false:=(hp.2.1 i).2 (by simp)
   have: ∃ k,k∈Region.ready .any ops listed:=by
    have hex: ∃ k,listed.getD k true=false:=⟨i,hi⟩
    have:=fo hc hp;exact this
   obtain ⟨k,hk⟩:=this;rw[hnil] at hk;cases hk
  ·have:=hsub k hk
   subst this;rw[wpOpsIn_cons] at h;refine wpOpIn_mono (fun a w h=>nM hc R fuel _ a w (by simpa using hf) (hd.set hk) (by simpa using (gu.set (l1:= []) hp)) (List.pairwise_cons.1 hch).2 h) h
end
def fG (T:List PV) (d:Option Tmp) (x:PV):List PV:=match d with | none=>T | some d=>T.set d x
theorem rP (T:List PV) {d e:Option Tmp} (h: ∀ k,d=some k→e≠some k) (x y:PV):fG (fG T d x) e y=fG (fG T e y) d x:=by
 cases d<;>cases e<;>simp only[fG];rename_i d e;exact List.set_comm _ _ (fun he=>h d rfl (by rw[he]))
theorem Lb {T:List PV} {d:Option Tmp} {x:PV} {o:Operand} (h: ∀ k,d=some k→o≠.tmp k):ev (fG T d x) o=ev T o:=by
 cases d with
 | none=>rfl
 | some d=>
  cases o with
  | tmp t=>
   have hne:d≠t:=fun e=>h d rfl (by rw[e]);simp only[ev,gB,eg,fG,id,List.getD,List.getElem?_set_ne hne]
  | const v=>rfl
  | global g=>rfl
  | func f=>rfl
theorem jM {ops:Array Oper} {o:Oper} {d:Option Tmp} (h: ∀ k,d=some k→k∉o.looksAt ops) {T:List PV} {x:PV}: ∀ y∈o.op.operands.toList,ev (fG T d x) y=ev T y:=
 fun y hy=>Lb fun k hk he=>h k hk (List.mem_append_left _ (List.mem_filterMap.2 ⟨y,hy,by rw[he]⟩))
theorem Aq {q:Sort _} (T:List PV) (d:Option Nat) (x:PV) (k:List PV→q):nr T d x k=k (fG T d x):=dx T d x k
section
variable {P:Program} {tt:Nat→TI}
def SVal (P:Program) (tt:Nat→TI) (full:List Oper) (o:Oper) (T:List PV) (Γ:List aj) (v:PV):Prop:=
 match o.guard with
 | none=>pI P tt o.op T Γ (fun p Γ'=>bB p Γ' v Γ)
 | some (j,want)=>match jF full j with
  | none=>False
  | some d=>match Bw (T.getD d .any) want with
   | .run=>pI P tt o.op T Γ (fun p Γ'=>bB p Γ' v Γ)
   | .skip=>v=.bp []
   | .opt g=> ∃ x,v=.opt g x∧(g=true→nL T (sC o.op) fun T'=>pI P tt o.op T' Γ fun z Γ'=>bB z Γ' x Γ)
   | .bad=>False
theorem D5 {full:List Oper} {o:Oper} {T:List PV} {Γ:List aj} {k:PV→Prop}:D4 P tt full o T Γ k↔ ∃ v,SVal P tt full o T Γ v∧k v:=by
 have one:oe (pI P tt o.op T Γ) Γ k↔ ∃ v,pI P tt o.op T Γ (fun p Γ'=>bB p Γ' v Γ)∧k v:=⟨fun h=>h.h,fun h=>⟨h⟩⟩
 unfold D4 SVal
 cases hgd:o.guard with
 | none=>exact one
 | some jw=>
  obtain ⟨j,want⟩:=jw;simp only
  cases hd:jF full j with
  | none=>simp
  | some d=>
   simp only[eg]
   cases hm:Bw (T.getD d .any) want with
   | run=>exact one
   | skip=>exact ⟨fun h=>⟨_,rfl,h⟩,fun ⟨v,h1,h2⟩=>by simp only at h1;subst h1;exact h2⟩
   | opt g=>
    constructor
    ·intro h
     rcases h.h with h | ⟨x,h1,h2⟩
     ·exfalso
      cases g
      ·exact h.f rfl
      ·exact h.t rfl
     ·exact ⟨_,⟨x,rfl,h1⟩,h2⟩
    ·rintro ⟨_,⟨x,rfl,h1⟩,h2⟩
     exact ⟨.inr ⟨x,h1,h2⟩⟩
   | bad=>simp
theorem iq {full:List Oper} {o:Oper} {r:List Oper} {T:List PV} {Γ:List aj} {k:List PV→Prop}:
  gw P tt full (o::r) T Γ k↔ ∃ v,SVal P tt full o T Γ v∧gw P tt full r (fG T o.dst v) Γ k:=by
 simp only[gw,D5,dx];exact Iff.rfl
theorem gd {op:Op} {Γ:List aj} {K:PV→List aj→Prop}: ∀ (l:List Operand) {T T':List PV},(∀ x∈l,x∈op.operands.toList)→(∀ x∈op.operands.toList,ev T x=ev T' x)→T.length=T'.length→
  nL T l (fun T1=>pI P tt op T1 Γ K)→nL T' l (fun T1=>pI P tt op T1 Γ K)
 | [],T,T',_,h,_,hw=>iu h hw
 | .tmp t::r,T,T',hl,h,hlen,hw=>by
  have e:T.getD t .any=T'.getD t .any:=by
   have:=h (.tmp t) (hl _ (by simp));simpa[ev,gB,eg] using this
  simp only[nL,eg, ←e] at hw⊢
  split at hw
  ·rename_i q x _
   obtain ⟨h1,h2⟩:=hw.h;refine ⟨h1,?_⟩;rw[fu] at h2 ⊢;refine gd r (fun y hy=>hl y (by simp[hy])) (fun y hy=>?_) (by simp[hlen]) h2;have hy':=h y hy
   cases y with
   | tmp u=>
    simp only[ev,gB,eg,id] at hy' ⊢;by_cases hu:t=u
    ·subst hu
     have key: ∀ (L:List PV),((L.set t x)[t]?).getD .any=if t < L.length then x else .any:=by
      intro L;by_cases h:t < L.length<;>simp[h]
     simp only[List.getD,key,hlen]
    ·simp only[List.getD,List.getElem?_set_ne hu] at hy'⊢
     exact hy'
   | const v=>rfl
   | global g=>rfl
   | func f=>rfl
  ·exact gd r (fun y hy=>hl y (by simp[hy])) h hlen hw
 | .const _::r,T,T',hl,h,hlen,hw=>gd r (fun y hy=>hl y (by simp[hy])) h hlen hw
 | .global _::r,T,T',hl,h,hlen,hw=>gd r (fun y hy=>hl y (by simp[hy])) h hlen hw
 | .func _::r,T,T',hl,h,hlen,hw=>gd r (fun y hy=>hl y (by simp[hy])) h hlen hw
theorem xZ (op:Op): ∀ x∈sC op,x∈op.operands.toList:=by
 unfold sC
 split
 ·simp[Op.operands]
 ·exact fun x hx=>hx
theorem BM {ops:Array Oper} {o:Oper} {j d:Nat} {want:Bool} (hg:o.guard=some (j,want)) (hd:jF ops.toList j=some d):d∈o.looksAt ops:=by
 rw[qj] at hd;refine List.mem_append_right _ ?_;rw[hg];simp only[Array.getElem?_toList] at hd;simp[hd]
theorem B6 (T:List PV) (d:Option Tmp) (x:PV):(fG T d x).length=T.length:=by cases d<;>simp[fG]
theorem pP {ops:Array Oper} {o:Oper} {T:List PV} {Γ:List aj} {v x:PV} {d:Option Tmp} (ha: ∀ k,d=some k→k∉o.looksAt ops):SVal P tt ops.toList o (fG T d x) Γ v↔SVal P tt ops.toList o T Γ v:=by
 have hl:=B6 T d x;have hop: ∀ y∈o.op.operands.toList,ev (fG T d x) y=ev T y:=jM ha;unfold SVal
 cases hg:o.guard with
 | none=>exact ⟨iu hop,iu fun y hy=>(hop y hy).symm⟩
 | some jw=>
  obtain ⟨j,want⟩:=jw;simp only
  cases hd:jF ops.toList j with
  | none=>exact Iff.rfl
  | some e=>
   simp only
   have hne:(fG T d x).getD e .any=T.getD e .any:=by
    cases d with
    | none=>rfl
    | some k=>
     have:k≠e:=fun h=>ha k rfl (h▸BM hg hd);simp[fG,List.getD,List.getElem?_set_ne this]
   rw[hne]
   cases Bw (T.getD e .any) want with
   | run=>exact ⟨iu hop,iu fun y hy=>(hop y hy).symm⟩
   | skip=>exact Iff.rfl
   | opt g=>
    constructor
    ·rintro ⟨x',h1,h2⟩
     exact ⟨x',h1,fun hg=>gd _ (xZ o.op) hop hl (h2 hg)⟩
    ·rintro ⟨x',h1,h2⟩
     exact ⟨x',h1,fun hg=>gd _ (xZ o.op) (fun y hy=>(hop y hy).symm) hl.symm (h2 hg)⟩
   | bad=>exact Iff.rfl
theorem kV {ops:Array Oper} {o:Oper} {Γ:List aj} {k:List PV→Prop} {r:List Oper}: ∀ (l:List Oper) (T:List PV),(∀ x∈l,x.apart ops o=true)→
  gw P tt ops.toList (l++o::r) T Γ k→ ∃ v,SVal P tt ops.toList o T Γ v∧gw P tt ops.toList (l++r) (fG T o.dst v) Γ k
 | [],T,_,h=>iq.1 h
 | x::l,T,ha,h=>by
  obtain ⟨vx,h1,h2⟩:=iq.1 (show gw P tt ops.toList (x::(l++o::r)) T Γ k from h);obtain ⟨v,h3,h4⟩:=kV l _ (fun y hy=>ha y (by simp[hy])) h2;obtain ⟨a1,a2,a3⟩:=Oper.apart_spec (ha x (by simp));refine ⟨v,(pP a1).1 h3,?_⟩;rw[List.cons_append];refine iq.2 ⟨vx,(pP a3).2 h1,?_⟩;rw[rP T (fun k hk he=>a2 k he hk)];exact h4
theorem mN {ops:Array Oper} {o:Oper} {Γ1 Γ2:List aj} {kk:List PV→List aj→Prop}: ∀ (l:List Oper) (T:List PV),(∀ x∈l,x.apart ops o=true)→
  gw P tt ops.toList l T Γ2 (fun T'=>pI P tt o.op T' Γ1 fun x Γ1'=>kk (fG T' o.dst x) Γ1')→
  pI P tt o.op T Γ1 fun x Γ1'=>gw P tt ops.toList l (fG T o.dst x) Γ2 fun T'=>kk T' Γ1'
 | [],T,_,h=>h
 | x::l,T,ha,h=>by
  obtain ⟨vx,h1,h2⟩:=iq.1 h;obtain ⟨a1,a2,a3⟩:=Oper.apart_spec (ha x (by simp));refine iu (jM a1) (uF ?_ (mN l _ (fun y hy=>ha y (by simp[hy])) h2));intro p Γ' h;refine iq.2 ⟨vx,(pP a3).2 h1,?_⟩;rw[rP T (fun k hk he=>a2 k he hk)];exact h
def GM.ok:GM→Bool→Prop
 | .run,w=>w=true
 | .skip,w=>w=false
 | .opt g,w=>w=g
 | .bad,_=>True
theorem lP (hk:TT.ok P tt) {rd:Option Nat} {nn:Nat} {ops:Array Oper} {o:Oper} {T:List PV} {Γ M:List aj} {v:PV} {w0 w:World} {F:Fz} {a:Act} {next:Act→World→Prop} {Q:Exit→Act→World→Prop} (hS:aP w0 F (Γ++M) w) (hT:aA F T a.tmps.toList)
  (h:SVal P tt ops.toList o T Γ v) (hn: ∀ F' u w',F.le F'→aP w0 F' (Γ++M) w'→aC F' v u→next (a.put o.dst u) w'):
  if Region.wanted o (yielded ops a.tmps) then o.wpIn (cX rd) nn P a w next Q else next (a.put o.dst undef) w:=by
 have run: ∀ {T v'},aA F T a.tmps.toList→pI P tt o.op T Γ (fun p Γ'=>bB p Γ' v' Γ)→(∀ {F' u},aC F' v' u→aC F' v u)→Region.wanted o (yielded ops a.tmps)=true→
   if Region.wanted o (yielded ops a.tmps) then o.wpIn (cX rd) nn P a w next Q else next (a.put o.dst undef) w:=by
  intro T v' hT h hv hw;rw[if_pos hw];refine gi hk hS hT h ?_;intro F' x Γ' v'' w' hle' hS' hx hsh;obtain ⟨F2,hle2,hS2,hx2⟩:=hsh.h w0 F' M w' v'' hS' hx;exact hn F2 v'' w' (Fz.le_trans hle' hle2) hS2 (hv hx2)
 have skip: ∀ {v'},v'=v→v'=PV.bp []→Region.wanted o (yielded ops a.tmps)=false→
   if Region.wanted o (yielded ops a.tmps) then o.wpIn (cX rd) nn P a w next Q else next (a.put o.dst undef) w:=by
  rintro v' rfl rfl hw;rw[if_neg (by rw[hw];exact Bool.false_ne_true)];exact hn F undef w (Fz.le_refl F) hS (by simp only[aC];exact ⟨[],rfl,by simp[aA]⟩)
 unfold SVal at h
 split at h
 ·rename_i hg
  exact run hT h (fun h=>h) (by simp[Region.wanted,hg])
 ·rename_i j want hg
  split at h
  ·exact h.elim
  ·rename_i d hdst
   have hr:=hT.get d;have hm:=gMode_wanted hr hg hdst
   split at h
   ·rename_i hgm;exact run hT h (fun h=>h) (by rw[hgm] at hm;exact hm)
   ·rename_i hgm;exact skip h.symm rfl (by rw[hgm] at hm;exact hm)
   ·rename_i g hgm
    rw[hgm] at hm;have hwant:Region.wanted o (yielded ops a.tmps)=g:=hm;obtain ⟨x,rfl,h1⟩:=h;cases g
    ·rw[if_neg (by rw[hwant];exact Bool.false_ne_true)]
     refine hn F undef w (Fz.le_refl F) hS ?_;simp only[aC];exact ⟨fun h=>(by cases h),fun _=>rfl⟩
    ·obtain ⟨T',hT',h1⟩:=dJ _ _ hT (h1 rfl)
     refine run (v':=x) hT' h1 (fun h=>?_) hwant;simp only[aC];exact ⟨fun _=>h,fun h=>(by cases h)⟩
   ·exact h.elim
where
 gMode_wanted {F:Fz} {ops:Array Oper} {o:Oper} {a:Act} {j d:Nat} {want:Bool} {y:PV} (hr:aC F y (a.tmps.toList.getD d undef)) (hg:o.guard=some (j,want)) (hdst:jF ops.toList j=some d):
   (Bw y want).ok (Region.wanted o (yielded ops a.tmps)):=by
  have hy: ∀ b,a.tmps.toList.getD d undef=.bool b→Region.wanted o (yielded ops a.tmps)=(b == want):=by
   intro b hb;simp only[Region.wanted,hg,pH hdst hb];cases b<;>cases want<;>rfl
  have hn:a.tmps.toList.getD d undef=.tuple #[]→Region.wanted o (yielded ops a.tmps)=false:=by
   intro h;have:=gX (vs:= []) hdst h;simp only[Region.wanted,hg,this];rfl
  cases y with
  | aV=>cases want<;>exact hy _ (bK hr)
  | bfalse=>cases want<;>exact hy _ (bw hr)
  | bool p=>cases want<;>exact gN hr hg hdst rfl
  | bp cs=>
   cases cs with
   | cons c cs=>cases want<;>trivial
   | nil=>
    obtain ⟨vs,hv,hvs⟩:=Ar hr
    obtain rfl:vs= []:=by cases vs with
     | nil=>rfl
     | cons v vs=>simp[aA] at hvs
    cases want<;>exact hn hv
  | opt q x=>
   cases x with
   | bool p=>cases want<;>exact gN hr hg hdst rfl
   | aV=>
    cases want
    ·simp only[aC] at hr
     cases q
     ·exact hn (hr.2 rfl)
     ·exact hy true (by simpa using hr.1 rfl)
    ·exact gN hr hg hdst rfl
   | bfalse=>
    cases want
    ·exact gN hr hg hdst rfl
    ·simp only[aC] at hr
     cases q
     ·exact hn (hr.2 rfl)
     ·exact hy false (by simpa using hr.1 rfl)
   | _=>cases want<;>trivial
  | _=>cases want<;>trivial
def bg (ops:Array Oper) (j i:Nat):Bool:=
 match ops[j]?,ops[i]? with
 | some x,some y=>x.apart ops y
 | _,_=>false
def lq:Op→Bool
 | .defer _=>false
 | _=>true
theorem jA {op:Op} (h:lq op=true) {dst:Option Nat} {T:List PV} {Γ:List aj} {D:Ds} {K:List PV→List aj→Ds→Prop}:
  pQ P tt op dst T Γ D K=pI P tt op T Γ fun x Γ'=>nr T dst x fun T'=>K T' Γ' D:=by
 unfold pQ
 split
 ·cases h
 ·rfl
theorem qO (full:List Oper) {K:List PV→List aj→Prop}: ∀ (l:List Oper) (T:List PV) (Γ:List aj) (D:Ds),(∀ o∈l,lq o.op=true)→bN P tt full l T Γ D (fun T' Γ' _=>K T' Γ')→
  bN P tt full l T Γ D fun T' Γ' D'=>D'=D∧K T' Γ'
 | [],T,Γ,D,_,h=>⟨rfl,h⟩
 | o::r,T,Γ,D,hn,h=>by
  have ih:=fun T Γ=>qO full (K:=K) r T Γ D (fun x hx=>hn x (by simp[hx]));have h0:=hn o (by simp)
  have yes: ∀ T,pQ P tt o.op o.dst T Γ D (fun T' Γ' D'=>bN P tt full r T' Γ' D' (fun T' Γ' _=>K T' Γ'))→pQ P tt o.op o.dst T Γ D fun T' Γ' D'=>bN P tt full r T' Γ' D' fun T' Γ' D'=>D'=D∧K T' Γ':=by
   intro T h;rw[jA h0] at h ⊢;exact uF (fun p Γ' h=>by rw[dx] at h ⊢; exact ih _ _ h) h
  have no: ∀ T,(nr T o.dst (.bp []) fun T'=>bN P tt full r T' Γ D (fun T' Γ' _=>K T' Γ'))→nr T o.dst (.bp []) fun T'=>bN P tt full r T' Γ D fun T' Γ' D'=>D'=D∧K T' Γ':=by
   intro T h;rw[dx] at h ⊢;exact ih _ _ h
  unfold bN at h⊢
  split at h
  ·exact yes T h
  ·split at h
   ·exact h.elim
   ·rename_i hd
    simp only[eg] at h⊢
    split at h
    ·exact dW _ _ (fun _ h=>yes _ h) h
    ·exact dW _ _ (fun _ h=>yes _ h) h
    ·exact no T h
    ·exact no T h
    ·exact no T h
    ·exact no T h
    ·exact no T h
    ·unfold zl at h⊢
     split at h
     ·exact h.elim
     ·rename_i g hgo
      refine h.mono (fun h=>?_) (fun h=>?_) fun z h=>?_
      ·rw[DG] at h ⊢; exact dW _ _ (fun _ h=>yes _ h) h
      ·rw[Aj] at h ⊢; exact no _ h
      ·rw[dx] at h ⊢; exact ih _ _ h
structure Split (ops:Array Oper) (bE:List Nat) (A R1 R2:List Nat):Prop where
 pa:A.Pairwise fun j i=>iP bE i j=true∨bg ops j i=true
 par: ∀ j∈A, ∀ i∈R1,iP bE i j=true∨bg ops j i=true
 r1:R1.Pairwise fun j i=>iP bE i j=true
 r2:R2.Pairwise fun j i=>iP bE i j=true
 tl: ∀ j∈A++R1, ∀ i∈R2,iP bE i j=true
 ug: ∀ i∈R1, ∀ o,ops[i]?=some o→o.guard=none
 nd: ∀ i∈R1++R2, ∀ o,ops[i]?=some o→lq o.op=true
theorem Split.Ew {ops:Array Oper} {bE A1 A2 R1 R2:List Nat} {i:Nat} (h:Split ops bE (A1++i::A2) R1 R2):Split ops bE (A1++A2) R1 R2:=by
 have hs:List.Sublist (A1++A2) (A1++i::A2):=List.Sublist.append (List.Sublist.refl _) (List.sublist_cons_self _ _);refine ⟨h.pa.sublist hs,fun j hj=>h.par j (hs.subset hj),h.r1,h.r2,fun j hj=>h.tl j ?_,h.ug,h.nd⟩
 ·exact (List.Sublist.append hs (List.Sublist.refl R1)).subset hj
theorem Split.Ex {ops:Array Oper} {bE A R1 R2:List Nat} {i:Nat} (h:Split ops bE A (i::R1) R2):Split ops bE A R1 R2:=by
 have hs:List.Sublist (A++R1) (A++i::R1):=List.Sublist.append (List.Sublist.refl _) (List.sublist_cons_self _ _);exact ⟨h.pa,fun j hj i hi=>h.par j hj i (by simp[hi]),(List.pairwise_cons.1 h.r1).2,h.r2,fun j hj=>h.tl j (hs.subset hj),fun j hj=>h.ug j (by simp[hj]),fun j hj=>h.nd j (by simp at hj ⊢; exact .inr hj)⟩
theorem fS {ops:Array Oper} {i:Nat} {o:Oper} (ho:ops[i]?=some o) (A1 A2:List Nat):
  (A1++i::A2).filterMap (ops[·]?)=A1.filterMap (ops[·]?)++o::A2.filterMap (ops[·]?):=by
 rw[List.filterMap_append,List.filterMap_cons,ho]
theorem quiet_of {l:List Oper} (h: ∀ o∈l,lq o.op=true):nu l=true:=by
 induction l with
 | nil=>rfl
 | cons o l ih=>
  have h1:=h o (by simp);have h2:=ih fun x hx=>h x (by simp[hx]);unfold nu
  split
  ·rename_i c hc;rw[hc] at h1;simp[lq] at h1
  ·exact h2
theorem Nv (hk:TT.ok P tt) (rd:Option Nat) (nn:Nat) {ops:Array Oper} {bE R2:List Nat} (hc:gb ops bE=true) {w0:World} {M Γ2:List aj} {F0:Fz} {ds:List Deferred} {Q':Exit→Act→World→Prop}
  {K:List PV→List aj→Prop} (hQ: ∀ F' T' Γ' a' w',F0.le F'→aP w0 F' (Γ'++M) w'→aA F' T' a'.tmps.toList→a'.defers=ds→K T' Γ'→Q' .normal a' w'):
  ∀ (n:Nat) (A R1:List Nat) (fuel:Nat) (listed:Array Bool) (T:List PV) (Γ1:List aj) (F:Fz) (a:Act) (w:World),A.length + R1.length=n→n + R2.length≤fuel→
   Down ops listed→gu ops listed (A++(R1++R2))→Split ops bE A R1 R2→F0.le F→aP w0 F (Γ1++(Γ2++M)) w→aA F T a.tmps.toList→a.defers=ds→
   (gw P tt ops.toList (A.filterMap (ops[·]?)) T Γ2 fun T'=>bN P tt ops.toList (R1.filterMap (ops[·]?)) T' Γ1 [] fun T2 Γ1' _=>bN P tt ops.toList (R2.filterMap (ops[·]?)) T2 (Γ1'++Γ2) [] fun T' Γ' _=>K T' Γ')→
   wpAnyIn (cX rd) nn P .any ops Q' fuel listed a w:=by
 intro n
 induction n with
 | zero=>
  intro A R1 fuel listed T Γ1 F a w hn hf hd hp hsp hle hS hT hds h;obtain rfl:A= []:=List.eq_nil_of_length_eq_zero (by omega);obtain rfl:R1= []:=List.eq_nil_of_length_eq_zero (by omega);refine nM hc R2 fuel listed a w (by omega) hd (by simpa using hp) hsp.r2 (gW (fun _=>trivial) ops _ _ a w ?_)
  refine lQ hk rd nn ops (ds:=ds) (K:=fun T' Γ' D'=>D'= []∧K T' Γ') ?_ _ (.inr (quiet_of fun o ho=>by
   obtain ⟨j,hj,ho⟩:=List.mem_filterMap.1 ho
   exact hsp.nd j (by simp[hj]) o ho)) T (Γ1++Γ2) [] F a w hle (by simpa using hS) hT (by rw[hds];exact jX.nil F ds) (qO _ _ _ _ _ ?_ h)
  ·rintro F' T' Γ' D' a' w' k1 k2 k3 ⟨new,k4,k5⟩ ⟨rfl,k6⟩
   have:new= []:=by cases new with
    | nil=>rfl
    | cons d l=>exact k5.elim
   subst this;exact hQ F' T' Γ' a' w' k1 k2 k3 k4 k6
  ·intro o ho
   obtain ⟨j,hj,ho⟩:=List.mem_filterMap.1 ho;exact hsp.nd j (by simp[hj]) o ho
 | succ n ih=>
  intro A R1 fuel listed T Γ1 F a w hn hf hd hp hsp hle hS hT hds h
  cases fuel with
  | zero=>omega
  | succ fuel=>
  refine ⟨fun hnil=>?_,fun i hi=>?_⟩
  ·exfalso
   cases hAR:A++(R1++R2) with
   | nil=>simp at hAR;rw[hAR.1,hAR.2.1] at hn;simp at hn
   | cons x xs=>
    rw[hAR] at hp;obtain ⟨k,hk'⟩:=fo hc hp;rw[hnil] at hk';cases hk'
  ·obtain ⟨o,ho⟩:=hp.2.2 i (hp.ready hi)
   have un: ∀ {j:Nat},j∈A++(R1++R2)→iP bE i j=true→False:=fun {j} hj ha=>blocked hc hd i ho ha ((hp.2.1 j).2 hj) hi
   have free: ∀ {j:Nat} {x:Oper},j∈A++(R1++R2)→ops[j]?=some x→(iP bE i j=true∨bg ops j i=true)→x.apart ops o=true:=by
    intro j x hj hx h;rcases h with h | h
    ·exact (un hj h).elim
    ·simpa[bg,hx,ho] using h
   have hmem:=hp.ready hi;rw[List.mem_append,List.mem_append] at hmem;rcases hmem with hm | hm | hm
   ·
    obtain ⟨A1,A2,rfl⟩:=List.append_of_mem hm;rw[fS ho] at h
    have hap: ∀ x∈A1.filterMap (ops[·]?),x.apart ops o=true:=by
     intro x hx;obtain ⟨j,hj,hx⟩:=List.mem_filterMap.1 hx;exact free (by simp[hj]) hx ((List.pairwise_append.1 hsp.pa).2.2 j hj i (by simp))
    obtain ⟨v,h1,h2⟩:=kV _ T hap h
    have hS2:aP w0 F (Γ2++(Γ1++M)) w:=hS.perm (by
     rw[←List.append_assoc, ←List.append_assoc]
     exact List.perm_append_comm.append_right M)
    unfold wpOpIn;simp only[ho];have key:=lP hk (rd:=rd) (nn:=nn) (Q:=Q') (next:=fun a w=>wpAnyIn (cX rd) nn P .any ops Q' fuel (listed.setIfInBounds i true) a w) hS2 hT h1 ?_
    ·split at key<;>rename_i hw
     ·rw[if_pos hw];exact key
     ·rw[if_neg hw];exact ⟨fun _ _=>trivial,key⟩
    intro F' u w' hle' hS' hx
    refine ih (A1++A2) R1 fuel _ (fG T o.dst v) Γ1 F' _ w' (by simp at hn ⊢; omega) (by omega) (hd.set hi) ?_ hsp.Ew (Fz.le_trans hle hle') ?_ (eG (aA.mono hle' _ _ hT) hx o.dst)
     ((put_defers a o.dst u).trans hds) ?_
    ·have:=gu.set (l1:=A1) (l2:=A2++(R1++R2)) (i:=i) (by simpa using hp)
     rwa [List.append_assoc]
    ·exact hS'.perm (by
      rw[←List.append_assoc, ←List.append_assoc]
      exact List.perm_append_comm.append_right M)
    ·rw[List.filterMap_append];exact h2
   ·
    cases R1 with
    | nil=>cases hm
    | cons r R1=>
     rcases List.mem_cons.1 hm with hir | hir
     ·subst hir
      have hg:o.guard=none:=hsp.ug i (by simp) o ho;have e1:(i::R1).filterMap (ops[·]?)=o::R1.filterMap (ops[·]?):=by rw[List.filterMap_cons,ho]
      rw[e1] at h
      have hap: ∀ x∈A.filterMap (ops[·]?),x.apart ops o=true:=by
       intro x hx;obtain ⟨j,hj,hx⟩:=List.mem_filterMap.1 hx;exact free (by simp[hj]) hx (hsp.par j hj i (by simp))
      have h2:=mN (kk:=fun T' Γ1'=>bN P tt ops.toList (R1.filterMap (ops[·]?)) T' Γ1' [] fun T2 Γ1' _=>bN P tt ops.toList (R2.filterMap (ops[·]?)) T2 (Γ1'++Γ2) [] fun T' Γ' _=>K T' Γ') _ T hap (by
       have hnd:=hsp.nd i (by simp) o ho
       simpa only[bN,hg,jA hnd,Aq] using h)
      unfold wpOpIn;simp only[ho];rw[if_pos (by simp[Region.wanted,hg])];refine gi hk (M:=Γ2++M) hS hT h2 ?_;rintro F' x Γ' v' w' hle' hS' hx hK
      refine ih A R1 fuel _ (fG T o.dst x) Γ' F' _ w' (by simp at hn ⊢; omega) (by omega) (hd.set hi) ?_ hsp.Ex (Fz.le_trans hle hle') hS' (eG (aA.mono hle' _ _ hT) hx o.dst)
       ((put_defers a o.dst v').trans hds) hK
      have:=gu.set (l1:=A) (l2:=R1++R2) (i:=i) (by simpa using hp);simpa using this
     ·exact (un (j:=r) (by simp) ((List.pairwise_cons.1 hsp.r1).1 i hir)).elim
   ·
    exfalso
    cases A with
    | cons j A=>exact un (j:=j) (by simp) (hsp.tl j (by simp) i hm)
    | nil=>
     cases R1 with
     | cons j R1=>exact un (j:=j) (by simp) (hsp.tl j (by simp) i hm)
     | nil=>simp at hn
def gp (p:Nat→Nat→Bool):List Nat→Bool
 | []=>true
 | j::r=>r.all (p j) && gp p r
theorem bS {p:Nat→Nat→Bool}: ∀ {l:List Nat},gp p l=true→l.Pairwise fun j i=>p j i=true
 | [],_=>List.Pairwise.nil
 | j::r,h=>by
  simp only[gp,Bool.and_eq_true,List.all_eq_true] at h;exact List.pairwise_cons.2 ⟨h.1,bS h.2⟩
def nH (ops:Array Oper) (bE A R1 R2:List Nat):Bool:=
 gb ops bE &&
 gp (fun j i=>iP bE i j || bg ops j i) A && A.all (fun j=>R1.all fun i=>iP bE i j || bg ops j i) &&
 gp (fun j i=>iP bE i j) R1 && gp (fun j i=>iP bE i j) R2 &&
 (A++R1).all (fun j=>R2.all fun i=>iP bE i j) &&
 R1.all (fun i=>match ops[i]? with | some o=>o.guard.isNone | none=>false) && (R1++R2).all (fun i=>match ops[i]? with | some o=>lq o.op | none=>false) &&
 gp (fun j i=>!(Nat.beq j i)) (A++(R1++R2)) && (List.range ops.size).all (fun i=>(A++(R1++R2)).contains i) && (A++(R1++R2)).all (fun i=>Nat.blt i ops.size)
theorem Split.of {ops:Array Oper} {bE A R1 R2:List Nat} (h:nH ops bE A R1 R2=true):
  gb ops bE=true∧Split ops bE A R1 R2∧gu ops (Array.replicate ops.size false) (A++(R1++R2)):=by
 simp only[nH,Bool.and_eq_true] at h;obtain ⟨⟨⟨⟨⟨⟨⟨⟨⟨⟨h0,h1⟩,h2⟩,h3⟩,h4⟩,h5⟩,h6⟩,h6'⟩,h7⟩,h8⟩,h9⟩:=h
 have hlt: ∀ i∈A++(R1++R2),i < ops.size:=fun i hi=>by
  have:=List.all_eq_true.1 h9 i hi;simpa[Nat.blt,Nat.succ_le_iff] using this
 refine ⟨h0,⟨?_,?_,bS h3,bS h4,?_,?_,?_⟩,?_,?_,?_⟩
 ·exact (bS h1).imp fun h=>by simpa using h
 ·intro j hj i hi
  have:=List.all_eq_true.1 (List.all_eq_true.1 h2 j hj) i hi;simpa using this
 ·intro j hj i hi
  exact List.all_eq_true.1 (List.all_eq_true.1 h5 j hj) i hi
 ·intro i hi o ho
  have:=List.all_eq_true.1 h6 i hi;rw[ho] at this;simpa using this
 ·intro i hi o ho
  have:=List.all_eq_true.1 h6' i hi;rw[ho] at this;exact this
 ·exact (bS h7).imp fun h=>by
   intro e;subst e;simp at h
 ·intro i
  constructor
  ·intro hi
   rcases Nat.lt_or_ge i ops.size with h' | h'
   ·have:=List.all_eq_true.1 h8 i (List.mem_range.2 h')
    simpa using this
   ·simp[Array.getElem?_eq_none,h'] at hi
  ·intro hi
   simp[hlt i hi]
 ·intro i hi
  exact ⟨_,Array.getElem?_eq_getElem (hlt i hi)⟩
def kI {q:Sort _}:List aj→List aj→(List aj→q)→q
 | [],m,k=>k m
 | x::l,m,k=>kI l m fun r=>k (x::r)
theorem e9 {q:Sort _}: ∀ (l m:List aj) (k:List aj→q),kI l m k=k (l++m)
 | [],_,_=>rfl
 | _::l,m,k=>by simp only[kI,e9 l,List.cons_append]
theorem aE.split (hk:TT.ok P tt) (hm:P.follows .mixedOrders=true) {ops:Array Oper} {T:List PV} {Γ Γ2:List aj} {K:List PV→List aj→Prop} (bE A R1 R2:List Nat) (Γ1:List aj)
  (hchk:nH ops bE A R1 R2=true) [hp:bz Γ Γ1 Γ2]
  (h:gw P tt ops.toList (bG ops.toList A) T Γ2 fun T'=>bN P tt ops.toList (bG ops.toList R1) T' Γ1 [] fun T2 Γ1' _=>kI Γ1' Γ2 fun Γ'=>bN P tt ops.toList (bG ops.toList R2) T2 Γ' [] fun T' Γ' _=>K T' Γ'):aE P ops T Γ K:=by
 refine ⟨fun rd nn id w0 F M w a Q' hS hT hQ=>wpIn_region_any hm ?_⟩;obtain ⟨hc,hsp,hpend⟩:=Split.of hchk
 have hlen:A.length + R1.length + R2.length≤ops.size:=by
  have hsub:(A++(R1++R2)) ⊆ List.range ops.size:=fun i hi=>by
   obtain ⟨o,ho⟩:=hpend.2.2 i hi;exact List.mem_range.2 (Array.getElem?_eq_some_iff.1 ho).1
  have:=hpend.1.length_le_of_subset hsub;simpa[Nat.add_assoc] using this
 have hS':aP w0 F (Γ1++(Γ2++M)) { w with drawn:=w.drawn + 1 }:=by
  have:=(hS.perm (hp.p.append_right M)).of_heap (w':={ w with drawn:=w.drawn + 1 }) rfl rfl rfl rfl;simpa using this
 refine Nv hk rd nn hc (R2:=R2) (F0:=F) (ds:=a.defers) hQ _ A R1 ops.size _ T Γ1 F a _ rfl hlen ?_ hpend hsp (Fz.le_refl F) hS' hT rfl ?_
 ·intro k o hk'
  rcases Nat.lt_or_ge k ops.size with h' | h'
  ·simp[h'] at hk'
  ·intro ho
   have:=(Array.getElem?_eq_some_iff.1 ho).1;omega
 ·simpa only[iU,Array.getElem?_toList,e9] using h
end
section
variable {P:Program} {tt:Nat→TI}
theorem nN {op:Op} {dst:Option Nat} {T:List PV} {Γ:List aj} {D:Ds} {K K':List PV→List aj→Ds→Prop} (hk: ∀ T Γ D,K T Γ D→K' T Γ D) (h:pQ P tt op dst T Γ D K):pQ P tt op dst T Γ D K':=by
 unfold pQ at h⊢
 split at h
 ·split at h
  ·simp only[aI,fh,fR,dx] at h⊢
   split at h
   ·exact hk _ _ _ h
   ·exact h.elim
  ·exact h.elim
 ·exact uF (fun p Γ' h=>by rw[dx] at h ⊢; exact hk _ _ _ h) h
theorem xd (full:List Oper) {K K':List PV→List aj→Ds→Prop} (hk: ∀ T Γ D,K T Γ D→K' T Γ D): ∀ (l:List Oper) (T:List PV) (Γ:List aj) (D:Ds),bN P tt full l T Γ D K→bN P tt full l T Γ D K'
 | [],T,Γ,D,h=>hk _ _ _ h
 | o::r,T,Γ,D,h=>by
  have ih:=fun T Γ D=>xd full hk r T Γ D;unfold bN at h⊢
  split at h
  ·exact nN ih h
  ·split at h
   ·exact h.elim
   ·simp only[eg] at h⊢
    split at h
    ·exact dW _ _ (fun _ h=>nN ih h) h
    ·exact dW _ _ (fun _ h=>nN ih h) h
    ·rw[dx] at h ⊢; exact ih _ _ _ h
    ·rw[dx] at h ⊢; exact ih _ _ _ h
    ·rw[dx] at h ⊢; exact ih _ _ _ h
    ·rw[dx] at h ⊢; exact ih _ _ _ h
    ·rw[dx] at h ⊢; exact ih _ _ _ h
    ·unfold zl at h⊢
     split at h
     ·exact h.elim
     ·rename_i g hgo
      refine h.mono (fun h=>?_) (fun h=>?_) fun z h=>?_
      ·rw[DG] at h ⊢; exact dW _ _ (fun _ h=>nN ih h) h
      ·rw[Aj,dx] at h ⊢; exact ih _ _ _ h
      ·rw[dx] at h ⊢; exact ih _ _ _ h
theorem oN: ∀ (c:Code) (T:List PV) (Γ:List aj) (D:Ds) (Q Q':QT),(∀ e T Γ D,Q e T Γ D→Q' e T Γ D)→W P tt c T Γ D Q→W P tt c T Γ D Q':=by
 intro c
 induction c with
 | skip=>intro T Γ D Q Q' hq h;exact hq _ _ _ _ h
 | label l=>intro T Γ D Q Q' hq h;exact hq _ _ _ _ h
 | ret=>intro T Γ D Q Q' hq h;exact hq _ _ _ _ h
 | exit id=>intro T Γ D Q Q' hq h;exact hq _ _ _ _ h
 | seq x y ihx ihy=>
  intro T Γ D Q Q' hq h;simp only[W] at h⊢
  split at h
  ·refine ihx T Γ D _ _ ?_ h
   intro e T' Γ' D' h;cases e<;>first | exact hq _ _ _ _ h | exact ihy _ _ _ _ _ hq h
  ·obtain ⟨J,h1,h2⟩:=h.h
   refine ⟨J,ihx T Γ D _ _ ?_ h1,fun T Γ hJ=>ihy _ _ _ _ _ hq (h2 T Γ hJ)⟩;intro e T' Γ' D' h;cases e<;>first | exact hq _ _ _ _ h | exact h.imp (ihy _ _ _ _ _ hq) id
 | cond c x y ihx ihy=>
  intro T Γ D Q Q' hq h;simp only[W,aI] at h⊢
  split at h
  ·exact ihx _ _ _ _ _ hq h
  ·exact ihy _ _ _ _ _ hq h
  ·exact h.mono (ihx _ _ _ _ _ hq) (ihy _ _ _ _ _ hq)
  ·exact h.elim
 | block id c ih=>
  intro T Γ D Q Q' hq h;refine ih T Γ D _ _ ?_ h;intro e T' Γ' D' h;cases e<;>first | exact hq _ _ _ _ h | skip
  simp only[CQ] at h⊢
  split at h<;>exact hq _ _ _ _ h
 | scope c ih=>
  intro T Γ D Q Q' hq h;simp only[W] at h⊢
  split at h
  ·refine ih T Γ D _ _ ?_ h
   intro e T' Γ' D' h;cases e<;>first | exact hq _ _ _ _ h | exact h.elim
  ·have hj: ∀ l X e T' Γ' D',sA l D X Q e T' Γ' D'→sA l D X Q' e T' Γ' D':=fun l X e T' Γ' D' h=>by
    cases e<;>first | exact hq _ _ _ _ h | exact h
   obtain ⟨l,rest,J,h1,h2,h3,h4⟩:=h.h;refine ⟨l,rest,J,h1,h2,ih T Γ D _ _ (hj l _) h3,fun m T Γ hJ w0 F M w a ds hS hT hD rd nn hr=>Code.wpIn_mono ?_ (h4 m T Γ hJ w0 F M w a ds hS hT hD rd nn hr)⟩;rintro e a' w' ⟨k1,F',T',Γ',D',k2,k3,k4,k5,k6⟩;exact ⟨k1,F',T',Γ',D',k2,k3,k4,k5,hj l _ e _ _ _ k6⟩
 | loop c ih=>
  intro T Γ D Q Q' hq h;obtain ⟨I,J,h0,h1,h2⟩:=h.h;refine ⟨I,J,h0,fun n T Γ hI=>ih T Γ D _ _ ?_ (h1 n T Γ hI),fun j T Γ hJ=>hq _ _ _ _ (h2 j T Γ hJ)⟩;intro e T' Γ' D' h;cases e<;>first | exact hq _ _ _ _ h | exact h | exact h.imp (hq _ _ _ _) id
 | region id ops draw=>
  intro T Γ D Q Q' hq h
  cases draw with
  | false=>exact xd _ (fun T Γ D=>hq _ T Γ D) _ _ _ _ h
  | true=>exact ⟨fun rd nn id w0 F M w a Q'' hS hT hQ=>h.h rd nn id w0 F M w a Q'' hS hT fun F' T' Γ' a' w' k1 k2 k3 k4 k5=>hQ F' T' Γ' a' w' k1 k2 k3 k4 (hq _ _ _ _ k5)⟩
 | rangeFunc f ps x y _ _=>
  intro T Γ D Q Q' hq h;simp only[W,aI] at h⊢
  split at h
  ·obtain ⟨h0,Γ0,Γi,xs,J,X,h1,h2,h3,h4,h5,h6,h7⟩:=h.h
   exact ⟨h0,Γ0,Γi,xs,J,X,h1,h2,h3,h4,h5,fun b Γ' hJ=>hq _ _ _ _ (h6 b Γ' hJ),fun b e Γ' hX=>hq _ _ _ _ (h7 b e Γ' hX)⟩
  ·exact h.elim
 | goto l=>intro T Γ D Q Q' hq h;exact hq _ _ _ _ h
 | refuse s=>intro T Γ D Q Q' hq h;exact h.elim
end
end Go.Cb


