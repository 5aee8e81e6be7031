/-
 The program's data, read at the seat's types; the bulk.
 A world that holds the listed tables: the statements' witness.
-/
import Derived.Deep.DeepHandedRow
import Derived.Deep.DeepWitnessRowRef
import Derived.KernelRfl
import Derived.Lib.LaidIn
import Derived.Test.YtkcbpdpiodgaiaaGreatDoorRows
import Derived.Test.YtkcbpdpiodgaiaaGreatDoorC8
set_option linter.unusedSimpArgs false
set_option linter.unusedVariables false
namespace Go.Cb
open Go.Proofs Go.Proofs.YtkcbpdpiodgaiaaGreatDoor
open Go.RowKit (Below)
theorem Ls {H:Type} (d:DataW H):1≤Rows.uptoBulk d:=by
 cases d with
 | lit l=>cases l<;>simp[Rows.uptoBulk]
 | nil=>simp[Rows.uptoBulk]
 | ptr d=>simp[Rows.uptoBulk]
 | slice elems spare=>simp[Rows.uptoBulk]
 | agg parts=>simp[Rows.uptoBulk]
 | iface t d=>simp[Rows.uptoBulk]
 | map entries=>simp[Rows.uptoBulk]
 | held h=>simp[Rows.uptoBulk]
theorem xh {H:Type}:AF (H:=H) Rows.uptoBulk Rows.uptoBulkAll where
 nil:=by simp[Rows.uptoBulkAll]
 cons x l:=by simp[Rows.uptoBulkAll]
 agg l:=by simp[Rows.uptoBulk];omega
 slice l m:=by simp[Rows.uptoBulk];omega
 str s:=by simp[Rows.uptoBulk]
 pos d:=Ls d
section
variable {H:Type} {enc:TypeId×Value→H} {w:World}
theorem NO:Tryz.prog.cellsOf 3=1:=by kernel_rfl
theorem O1:Tryz.prog.cellsOf 9=1:=by kernel_rfl
theorem NP:Tryz.prog.cellsOf 23=1:=by kernel_rfl
theorem PB:Tryz.prog.cellsOf 22=1:=by kernel_rfl
theorem P3:Tryz.prog.cellsOf 24=1:=by kernel_rfl
theorem cD:Tryz.prog.cellsOf 54=5:=by kernel_rfl
theorem cT:Tryz.prog.cellsOf 26=4:=by kernel_rfl
theorem cP:Tryz.prog.cellsOf 28=5:=by kernel_rfl
theorem Qd (n:Nat):Rd enc Tryz.prog w Rows.uptoBulk n 54 Datum.cells Datum.bp:=
 IL xh Tryz.underlying3 Tryz.underlying9 Tryz.underlying22 Tryz.underlying54 rfl NO O1 PB cD n
theorem Qf (n:Nat):Rd enc Tryz.prog w Rows.uptoBulk n 26 aa.cells aa.bp:=
 MW xh Tryz.underlying3 Tryz.underlying23 Tryz.underlying24 Tryz.underlying26 rfl NO NP P3 cT n
theorem Pm (n:Nat):Rd enc Tryz.prog w Rows.uptoBulk n 22 (fun l:List Datum=> [.sl 5 (l.map Datum.pv) none]) fun l=>1 + Datum.aD l:=by
 intro cs x h;obtain ⟨a,h1,h2⟩:=qp (pv:=Datum.pv) xh Tryz.underlying22 cD (by omega) (fun a=>rfl) (fun k hk=>Qd (w:=w) (enc:=enc) k) cs x h;have h3:1 + jT Datum.bp a≤Rows.uptoBulk x.1:=h2;rw[nq] at h3;exact ⟨a,h1,h3⟩
def Prog.bp (p:Prog):Nat:=Datum.aD p.consts + p.body.bp
theorem Qe (n:Nat):Rd enc Tryz.prog w Rows.uptoBulk n 28 Prog.cells Prog.bp:=by
 intro cs x h;obtain ⟨xs,m,rfl,rfl,hl,hlen,hf⟩:=DataW.trod_struct Tryz.underlying28 h;obtain ⟨a0,y0,e0,r0,b0⟩:=fI (Pm (w:=w) (enc:=enc) m) hlen hf 0 rfl PB;obtain ⟨a1,y1,e1,r1,b1⟩:=fI (Qf (w:=w) (enc:=enc) m) hlen hf 1 rfl cT;refine ⟨⟨a0,a1⟩,?_,?_⟩
 ·have:=fJ r0 (fJ r1 (vO (hl.trans cP)))
  rwa [List.append_nil] at this
 ·match xs,hlen with
  | [z0,z1],_=>
   simp at e0 e1;subst e0 e1;have:=(xh (H:=H)).agg ([z0,z1].map (·.1));simp only[List.map_cons,List.map_nil,(xh (H:=H)).cons,(xh (H:=H)).nil] at this;show Datum.aD a0 + a1.bp≤_;simp only[List.map_cons,List.map_nil];omega
theorem Qb:Tryz.prog.readableRec 3=true∧3 < Tryz.prog.types.size:=⟨by kernel_rfl,of_decide_eq_true (by kernel_rfl)⟩
theorem Qc:Tryz.prog.readableRec 28=true∧28 < Tryz.prog.types.size:=⟨by kernel_rfl,of_decide_eq_true (by kernel_rfl)⟩
theorem lC:Tryz.prog.readableRec 26=true∧26 < Tryz.prog.types.size:=⟨by kernel_rfl,of_decide_eq_true (by kernel_rfl)⟩
theorem CH {f:FuncId} {args:List PV} {vs:List Value} {W:World} (h:ay Tryz.prog f args (.bool true)) (hr:av (Fz.of W) args vs):Calls Tryz.prog f vs.toArray W fun e W'=>e=.returned (.bool true)∧Below W.heap.size W W':=by
 refine (h.2 W (Fz.of W) [] W vs (aN.start W) hr).mono ?_;rintro e W' ⟨v,F',y,Γ',rfl,_,hS,hR,rfl⟩;exact ⟨by rw[show v=.bool true by simpa only[ax] using hR],hS.below⟩
end
mutual
def CJ:DataW Unit→List Value
 | .lit (.int k n)=> [.int k n]
 | .lit (.bool b)=> [.bool b]
 | .lit (.string s)=> [.string ⟨s.toArray⟩]
 | .agg l=>D6 l
 | _=> []
def D6:List (DataW Unit)→List Value
 | []=> []
 | d::l=>CJ d++D6 l
end
def rT (e:TypeId):List (String×DataW Unit)→List Obj
 | []=> []
 | (_,.iface _ (.ptr d))::l=>.cells (CJ d).toArray e::rT e l
 | _::l=>rT e l
def LO (h:Array Obj) (g:Option Nat) (cs:Array Value):Array Obj:=match g with
 | some g=>h.modify g fun
  | .cells _ t frozen=>.cells cs t frozen
  | o=>o
 | none=>h
def C5 (P:Program) (p:TypeId):List (String×DataW Unit)→Nat→Array Obj→Array Obj
 | [],_,h=>h
 | (n,.iface _ _)::l,k,h=>C5 P p l (k + 1) (LO h (P.globalNamed n) #[.iface p (.pointer (some ⟨k,0,none⟩))])
 | (n,d)::l,k,h=>C5 P p l k (LO h (P.globalNamed n) (CJ d).toArray)
noncomputable def laidWorld (os:Os):World:=
 let w0:=World.holding Tryz.prog os ⟨(rT 293 Rows.inlineMeansRow.laid).toArray, #[], []⟩
 { w0 with heap:=C5 Tryz.prog 291 Rows.inlineMeansRow.laid (World.settled Tryz.prog os).heap.size w0.heap }
theorem H9 (os:Os) (args:Array Value):laidMet Tryz.prog Rows.inlineMeansRow.laid ((laidWorld os).forCall (fun _ _=>0) ⟨#[],args, []⟩).memory:=
 (LaidIn.of_run (l:=Rows.inlineMeansRow.laid) (List.range 1000) 16 (by kernel_rfl) (by kernel_rfl) (by kernel_rfl) (by kernel_rfl)).met
theorem Iu:ownKnob Tryz.prog.godebug=none:=by kernel_rfl
theorem laidOut:laidOutB Tryz.prog=true:=by kernel_rfl
end Go.Cb


