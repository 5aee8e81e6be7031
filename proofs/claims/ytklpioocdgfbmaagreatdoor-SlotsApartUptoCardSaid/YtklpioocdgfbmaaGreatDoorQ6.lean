/-
 Contracts: the document's comparisons, counts, bindings.
 Contracts: the document's bindings; all variables greater.
 Contracts: the reader of images: words, lists.
 Contracts: all variables greater by the same, of any term.
 Contracts: the reader of images: a procedure's code.
 Contracts: the reader of images: procedures.
 Contracts: package slices with functions, over instructions and procedures.
 Contracts: package slices: DeleteFunc, of numbers.
 Contracts: the check of a unit.
 Contracts: whether a unit is right.
 Contracts: the writer of images: words, lists, instructions; what a call takes.
 Contracts: may a procedure be emitted?
 Contracts: a procedure's code as words.
 Contracts: procedures as words; the image of a unit.
 Contracts: the image of a unit.
 Plain law: many moves at once, one by one.
 Contracts: the document's reader of images: lists.
-/
import Derived.Test.YtklpioocdgfbmaaGreatDoorQ5
set_option linter.unusedSimpArgs false
set_option linter.unusedVariables false
namespace Go.Cb
open Go.Proofs
set_option maxRecDepth 100000
set_option maxHeartbeats 4000000
mutual
def Trm.alk : Trm → Trm → Bool
 | .mk op n v t, .mk op' n' v' t' => op == op' && n == n' && v == v' && Trm.alks t t'
def Trm.alks : List Trm → List Trm → Bool
 | [], [] => true
 | x :: xs, y :: ys => Trm.alk x y && Trm.alks xs ys
 | _, _ => false
end
mutual
def Datum.alk : Datum → Datum → Bool
 | .mk k n d s l, .mk k' n' d' s' l' => k == k' && n == n' && d == d' && s == s' && Datum.alks l l'
def Datum.alks : List Datum → List Datum → Bool
 | [], [] => true
 | x :: xs, y :: ys => Datum.alk x y && Datum.alks xs ys
 | _, _ => false
end
def Prog.same (p q : Prog) : Bool := Datum.alks p.consts q.consts && p.body.alk q.body
end Go.Cb
namespace Go.Cb
open Go.Proofs
set_option maxRecDepth 100000
set_option maxHeartbeats 4000000
theorem slI_nil : Wk .nil (slI []) := Wk.nil' rfl
end Go.Cb
namespace Go.Cb
open Go.Proofs
set_option maxRecDepth 100000
set_option maxHeartbeats 4000000
theorem PSliceL.both {s : Nat} {α : Type} {f : α → PV} {es : List α} {k k' : IntKind} {n m : Int} (i j : Nat) (hi : n = i) (hj : m = j) {K : PV → Prop} (h1 : i ≤ j) (h : j ≤ es.length) (hk : K (.sl s (((es.take j).drop i).map f) none)) : PSliceL s (es.map f) (some (.int k n)) (some (.int k' m)) K :=
 ⟨i, j, hj, hi, h1, by simp; omega, by rw [← List.map_take, ← List.map_drop]; exact hk⟩
end Go.Cb
namespace Go.Cb
open Go.Proofs
set_option maxRecDepth 100000
set_option maxHeartbeats 4000000
section
variable {P : Program} {tt : Nat → TI}
theorem PLoop.ghost {B : List PV → List Ent → Ds → QT → Prop} {T : List PV} {Γ Γ' : List Ent} {D : Ds} {Q : QT} (hg : Ghost Γ Γ') (h : PLoop B T Γ' D Q) : PLoop B T Γ D Q := by
 obtain ⟨I, J, ⟨n, T0, Γ0, h1, h2⟩, h3, h4⟩ := h.h
 refine ⟨I, J, ⟨n, T0, Γ0, fun w0 F M w vs hS hT => ?_, h2⟩, h3, h4⟩
 obtain ⟨F1, e1, hS1⟩ := hg w0 F M w hS
 obtain ⟨F2, e2, hS2, hT2⟩ := h1 w0 F1 M w vs hS1 (RepT.mono e1 _ _ hT)
 exact ⟨F2, Fz.le_trans e1 e2, hS2, hT2⟩
theorem PInt.w {k : IntKind} {v : Int} {K : Int → Prop} (h : K (k.wrap v)) : PInt k v K := ⟨h⟩
end
mutual
def Trm.shw (k : Int) : Trm → Trm
 | .mk op n v t => .mk op (if namesB op = true then IntKind.i64.wrap (n + k) else n) (v.map fun x => IntKind.i64.wrap (x + k)) (Trm.shws k t)
def Trm.shws (k : Int) : List Trm → List Trm
 | [] => []
 | x :: xs => Trm.shw k x :: Trm.shws k xs
end
end Go.Cb
namespace Go.Cb
open Go.Proofs
set_option maxRecDepth 100000
set_option maxHeartbeats 4000000
instance ElOf.ins (a b c d : Int) (x : PV) (l : List Int) [h : SlOf (PV.int .i64) 1 x l] : ElOf Ins.pv (.agg [.int .i64 a, .int .i64 b, .int .i64 c, .int .i64 d, x]) ⟨a, b, c, d, l⟩ :=
 have e : WkL [.int .i64 a, .int .i64 b, .int .i64 c, .int .i64 d, x] (Ins.cells ⟨a, b, c, d, l⟩) := .cons (Wk.refl _) (.cons (Wk.refl _) (.cons (Wk.refl _) (.cons (Wk.refl _) (.cons h.wk .nil))))
 ⟨Wk.agg e, e⟩
instance ElOf.slIr (l : List Int) (tk : Option Tok) : ElOf slI (.sl 1 (l.map (PV.int .i64)) tk) l := ⟨Wk.tok _ _ _, .cons (Wk.tok _ _ _) .nil⟩
instance : Dfl Ins := ⟨⟨0, 0, 0, 0, []⟩⟩
instance : Dfl (List Int) := ⟨[]⟩
end Go.Cb
namespace Go.Cb
open Go.Proofs
set_option maxRecDepth 100000
set_option maxHeartbeats 4000000
instance ElOf.prc (a g : Int) (r : Bool) (x y : PV) (c : List Ins) (al : List (List Int)) [h : SlOf Ins.pv 5 x c] [k : SlOf slI 1 y al] : ElOf Prc.pv (.agg [.int .i64 a, .bool r, .int .i64 g, x, y]) ⟨a, r, g, c, al⟩ :=
 have e : WkL [.int .i64 a, .bool r, .int .i64 g, x, y] (Prc.cells ⟨a, r, g, c, al⟩) := .cons (Wk.refl _) (.cons (Wk.refl _) (.cons (Wk.refl _) (.cons h.wk (.cons k.wk .nil))))
 ⟨Wk.agg e, e⟩
end Go.Cb
namespace Go.Cb
open Go.Proofs
set_option maxRecDepth 100000
set_option maxHeartbeats 4000000
instance (priority := high) ElOf.isame (t : Ins) : ElOf Ins.pv (Ins.pv t) t := ⟨Wk.refl _, WkL.refl _⟩
theorem indexFuncIns_c (k : Nat) (cap : List PV) (Γ1 : List Ent) (p : Ins → Bool) (l : List Ins) (hf : ∀ x ∈ l, ACall Tryz.prog k (.agg (Ins.cells x) :: cap) Γ1 (fun y Γ' => y = .bool (p x) ∧ Γ' = Γ1)) :
  ACall Tryz.prog 128 [.sl 5 (l.map Ins.pv) none, .fn (.func k) cap] Γ1 (fun y Γ' => y = .int .i64 (findI p l) ∧ Γ' = Γ1) := by
 refine ACall.of_body tt_ok Tryz.func128 rfl rfl (n := 19) rfl rfl ?_
 conv => whnf
 repeat ((first|((first|(apply zY;intro hg)|apply zZ);first|exact stA)|(refine zW ?_ ?_;exact gA)|refine zH rfl ?_|refine zA ?_|refine zI bA ?_|refine zI rfl ?_|refine sB ?_|(refine zO ?_ ?_ ?_;omega;omega)|(refine zP ?_ ?_ ?_;omega;omega)|refine zM rfl ?_|(refine zQ ?_ ?_ ?_;omega;omega)|(refine zR ?_ ?_;omega)|(refine zI ?_ ?_;exact nA)|refine sS ?_|refine sD ?_|intro _);conv=>whnf)
 refine PLoop.keep [4, 5, 8, 9, 10, 11, 12, 13, 14, 15, 16, 17, 18] (fun i : Nat => [(8, .int .i64 i)]) (fun i => i ≤ l.length ∧ findI p l = if findI p (l.drop i) = -1 then -1 else i + findI p (l.drop i)) (fun i => l.length - i) 0 ⟨by omega, by simp only [List.drop_zero]; split <;> omega⟩ wA ?_
 rintro i ⟨h1, h2⟩
 conv => whnf
 repeat' (first|((first|((first|(apply zY;intro hg)|apply zZ);first|exact stA)|(refine zW ?_ ?_;exact gA)|refine zH rfl ?_|refine zA ?_|refine zI bA ?_|refine zI rfl ?_|refine sB ?_|(refine zO ?_ ?_ ?_;omega;omega)|(refine zP ?_ ?_ ?_;omega;omega)|refine zM rfl ?_|(refine zQ ?_ ?_ ?_;omega;omega)|(refine zR ?_ ?_;omega)|(refine zI ?_ ?_;exact nA)|refine sS ?_|refine sD ?_|intro _|refine zG ?_);conv=>whnf)|(refine zX (fun hc => ?_) (fun hc => ?_)<;>(try simp only [SY] at hc)<;>first|omega|(conv=>whnf)))
 ·refine PCall.same (hf _ (List.getElem_mem (show i < l.length by omega))) (WkT.refl _) ?_
  rintro _ _ ⟨rfl, rfl⟩
  rw [drop_at (show i < l.length by omega), findI] at h2
  conv => whnf
  repeat' (first|((first|((first|(apply zY;intro hg)|apply zZ);first|exact stA)|(refine zW ?_ ?_;exact gA)|refine zH rfl ?_|refine zA ?_|refine zI bA ?_|refine zI rfl ?_|refine sB ?_|(refine zO ?_ ?_ ?_;omega;omega)|(refine zP ?_ ?_ ?_;omega;omega)|refine zM rfl ?_|(refine zQ ?_ ?_ ?_;omega;omega)|(refine zR ?_ ?_;omega)|(refine zI ?_ ?_;exact nA)|refine sS ?_|refine sD ?_|intro _|refine zG ?_);conv=>whnf)|(refine zX (fun hc => ?_) (fun hc => ?_)<;>(try simp only [SY] at hc)<;>first|omega|(conv=>whnf)))
  ·rw [hc] at h2
   refine PRet.gen (Wk.int ?_) ⟨rfl, rfl⟩
   simpa using h2.symm
  ·rw [hc] at h2
   refine loopTo (i + 1) ⟨by omega, ?_⟩ (by show l.length - (i + 1) < l.length - i; omega) wA
   rw [h2]
   have hg := findI_ge p (l.drop (i + 1))
   simp only [Bool.false_eq_true, if_false]
   split
   ·simp
   ·rw [if_neg (by omega)]; omega
 ·rw [List.drop_of_length_le (by omega)] at h2
  exact PRet.gen (Wk.int (by rw [h2]; rfl)) ⟨rfl, rfl⟩
theorem containsFuncIns_c (k : Nat) (cap : List PV) (Γ1 : List Ent) (p : Ins → Bool) (l : List Ins) (hf : ∀ x ∈ l, ACall Tryz.prog k (.agg (Ins.cells x) :: cap) Γ1 (fun y Γ' => y = .bool (p x) ∧ Γ' = Γ1)) :
  ACall Tryz.prog 74 [.sl 5 (l.map Ins.pv) none, .fn (.func k) cap] Γ1 (fun y Γ' => y = .bool (l.any p) ∧ Γ' = Γ1) := by
 refine ACall.of_body tt_ok Tryz.func74 rfl rfl (n := 9) rfl rfl ?_
 conv => whnf
 repeat ((first|((first|(apply zY;intro hg)|apply zZ);first|exact stA)|(refine zW ?_ ?_;exact gA)|refine zH rfl ?_|refine zA ?_|refine zI bA ?_|refine zI rfl ?_|refine sB ?_|(refine zO ?_ ?_ ?_;omega;omega)|(refine zP ?_ ?_ ?_;omega;omega)|refine zM rfl ?_|(refine zQ ?_ ?_ ?_;omega;omega)|(refine zR ?_ ?_;omega)|(refine zI ?_ ?_;exact nA)|refine sS ?_|refine sD ?_|intro _);conv=>whnf)
 refine PCall.same (indexFuncIns_c k cap Γ1 p l hf) (WkT.refl _) ?_
 rintro _ _ ⟨rfl, rfl⟩
 conv => whnf
 repeat ((first|((first|(apply zY;intro hg)|apply zZ);first|exact stA)|(refine zW ?_ ?_;exact gA)|refine zH rfl ?_|refine zA ?_|refine zI bA ?_|refine zI rfl ?_|refine sB ?_|(refine zO ?_ ?_ ?_;omega;omega)|(refine zP ?_ ?_ ?_;omega;omega)|refine zM rfl ?_|(refine zQ ?_ ?_ ?_;omega;omega)|(refine zR ?_ ?_;omega)|(refine zI ?_ ?_;exact nA)|refine sS ?_|refine sD ?_|intro _);conv=>whnf)
 exact PRet.gen (Wk.bool (findI_any p l)) ⟨rfl, rfl⟩
end Go.Cb
namespace Go.Cb
open Go.Proofs
set_option maxRecDepth 100000
set_option maxHeartbeats 4000000
end Go.Cb
namespace Go.Cb
open Go.Proofs
set_option maxRecDepth 100000
set_option maxHeartbeats 4000000
structure Pts where
 d : Bool
 a : Bool
 b : Bool
 l : Bool
 n : Bool
 m : Bool
def Pts.cells (s : Pts) : List PV := [.bool s.d, .bool s.a, .bool s.b, .bool s.l, .bool s.n, .bool s.m]
def partsL (op : Int) : Pts × Bool :=
 if op = 0 ∨ op = 2 ∨ op = 5 ∨ op = 6 then (⟨true, false, false, false, true, false⟩, true) else
 if op = 3 ∨ op = 4 then (⟨true, false, false, false, false, false⟩, true) else
 if op = 1 ∨ op = 10 ∨ op = 11 ∨ op = 14 then (⟨true, true, false, false, false, false⟩, true) else
 if op = 7 ∨ op = 9 then (⟨true, false, false, true, true, false⟩, true) else
 if op = 8 ∨ op = 19 then (⟨false, true, false, true, false, false⟩, true) else
 if op = 12 ∨ op = 13 then (⟨false, true, true, false, false, false⟩, true) else
 if op = 15 then (⟨false, false, false, false, true, false⟩, true) else
 if op = 16 then (⟨false, true, false, false, false, true⟩, true) else
 if op = 17 then (⟨true, true, false, true, false, false⟩, true) else
 if op = 18 then (⟨true, false, true, true, true, false⟩, true) else
 if op = 20 then (⟨false, false, true, true, true, false⟩, true) else
 if op = 21 then (⟨false, false, false, true, true, false⟩, true) else
 if op = 22 then (⟨false, true, false, false, false, false⟩, true) else (⟨false, false, false, false, false, false⟩, false)
theorem partsOf_c (op : Int) : ACallP Tryz.prog 129 [.int .i64 op] (.tup [.agg (partsL op).1.cells, .bool (partsL op).2]) := by
 have hs : partsL op = partsL op := rfl
 conv at hs => rhs; unfold partsL
 refine ACall.of_body tt_ok Tryz.func129 rfl rfl (n := 56) rfl rfl ?_
 conv => whnf
 repeat' (first|((first|((first|(apply zY;intro hg)|apply zZ);first|exact stA|exact stB)|(refine zW ?_ ?_;exact gA)|refine zH rfl ?_|refine zA ?_|refine zI bA ?_|refine zI rfl ?_|refine sB ?_|(refine zO ?_ ?_ ?_;omega;omega)|(refine zP ?_ ?_ ?_;omega;omega)|refine zM rfl ?_|(refine zQ ?_ ?_ ?_;omega;omega)|(refine zR ?_ ?_;omega)|(refine zI ?_ ?_;exact nA)|refine sS ?_|refine sE ?_|refine n0 ?_|refine sD ?_|intro _|refine zG ?_);conv=>whnf)|(refine zX (fun hc => ?_) (fun hc => ?_)<;>(try simp only [SY] at hc)<;>first|omega|(conv=>whnf)))
 all_goals repeat (first|rw [if_neg (by omega)] at hs|rw [if_pos (by omega)] at hs)
 all_goals rw [hs]
 all_goals exact PRet.pure wA
def belB (n most : Int) : Bool := decide (n ≥ 0) && decide (n < most)
theorem below_c (n most : Int) : ACallP Tryz.prog 131 [.int .i64 n, .int .i64 most] (.bool (belB n most)) := by
 refine ACall.of_body tt_ok Tryz.func131 rfl rfl (n := 12) rfl rfl ?_
 conv => whnf
 repeat' (first|((first|((first|(apply zY;intro hg)|apply zZ);first|exact stA|exact stB)|(refine zW ?_ ?_;exact gA)|refine zH rfl ?_|refine zA ?_|refine zI bA ?_|refine zI rfl ?_|refine sB ?_|(refine zO ?_ ?_ ?_;omega;omega)|(refine zP ?_ ?_ ?_;omega;omega)|refine zM rfl ?_|(refine zQ ?_ ?_ ?_;omega;omega)|(refine zR ?_ ?_;omega)|(refine zI ?_ ?_;exact nA)|refine sS ?_|refine sE ?_|refine n0 ?_|refine sD ?_|intro _|refine zG ?_);conv=>whnf)|(refine zX (fun hc => ?_) (fun hc => ?_)<;>(try simp only [SY] at hc)<;>first|omega|(conv=>whnf)))
 exact PRet.pure (Wk.refl _)
def regB (has : Bool) (n regs : Int) : Bool := (!has && n == 0) || (has && belB n regs)
abbrev prX (p : Prc) : List PV := [.int .i64 p.args, .bool p.rest, .int .i64 p.regs, .sl 5 (p.code.map Ins.pv) none, .sl 1 (p.alive.map slI) none]
theorem fits1_c (b4 : Nat) (p : Prc) (has : Bool) (n : Int) : ACall Tryz.prog 130 [.bool has, .int .i64 n, .ptr b4 0] [.box b4 (prX p)] (fun y Γ' => y = .bool (regB has n p.regs) ∧ Γ' = [.box b4 (prX p)]) := by
 refine ACall.of_body tt_ok Tryz.func130 rfl rfl (n := 21) rfl rfl ?_
 conv => whnf
 repeat' (first|((first|((first|(apply zY;intro hg)|apply zZ);first|exact stA|exact stB|((conv=>whnf);(repeat ((first|(refine zW ?_ ?_;exact gA)|refine pC (below_c n p.regs) wR ?_|refine pC (below_c n p.regs) cA ?_|intro _);conv=>whnf));first|exact pS|exact pL|exact pE))|(refine zW ?_ ?_;exact gA)|refine zH rfl ?_|refine zA ?_|refine zI bA ?_|refine zI rfl ?_|refine sB ?_|(refine zO ?_ ?_ ?_;omega;omega)|(refine zP ?_ ?_ ?_;omega;omega)|refine zM rfl ?_|(refine zQ ?_ ?_ ?_;omega;omega)|(refine zR ?_ ?_;omega)|(refine zI ?_ ?_;exact nA)|refine sS ?_|refine pC (below_c n p.regs) wR ?_|refine pC (below_c n p.regs) cA ?_|refine sE ?_|refine n0 ?_|refine sD ?_|intro _|refine zG ?_);conv=>whnf)|(refine zX (fun hc => ?_) (fun hc => ?_)<;>(try simp only [SY] at hc)<;>first|omega|(conv=>whnf)))
 exact PRet.gen (y := .bool (regB has n p.regs)) (Γ' := [.box b4 (prX p)]) (Wk.refl _) ⟨rfl, rfl⟩
theorem fits2_c (b4 : Nat) (p : Prc) (n : Int) : ACall Tryz.prog 133 [.int .i64 n, .ptr b4 0] [.box b4 (prX p)] (fun y Γ' => y = .bool (!belB n p.regs) ∧ Γ' = [.box b4 (prX p)]) := by
 refine ACall.of_body tt_ok Tryz.func133 rfl rfl (n := 9) rfl rfl ?_
 conv => whnf
 repeat' (first|((first|((first|(apply zY;intro hg)|apply zZ);first|exact stA|exact stB|((conv=>whnf);(repeat ((first|(refine zW ?_ ?_;exact gA)|refine pC (below_c n p.regs) wR ?_|refine pC (below_c n p.regs) cA ?_|intro _);conv=>whnf));first|exact pS|exact pL|exact pE))|(refine zW ?_ ?_;exact gA)|refine zH rfl ?_|refine zA ?_|refine zI bA ?_|refine zI rfl ?_|refine sB ?_|(refine zO ?_ ?_ ?_;omega;omega)|(refine zP ?_ ?_ ?_;omega;omega)|refine zM rfl ?_|(refine zQ ?_ ?_ ?_;omega;omega)|(refine zR ?_ ?_;omega)|(refine zI ?_ ?_;exact nA)|refine sS ?_|refine pC (below_c n p.regs) wR ?_|refine pC (below_c n p.regs) cA ?_|refine sE ?_|refine n0 ?_|refine sD ?_|intro _|refine zG ?_);conv=>whnf)|(refine zX (fun hc => ?_) (fun hc => ?_)<;>(try simp only [SY] at hc)<;>first|omega|(conv=>whnf)))
 exact PRet.gen (y := .bool (!belB n p.regs)) (Γ' := [.box b4 (prX p)]) (Wk.refl _) ⟨rfl, rfl⟩
def fitA (x : Ins) (regs : Int) : Bool := (partsL x.op).2 && !((!regB (partsL x.op).1.d x.d regs || ((!(partsL x.op).1.n && !regB (partsL x.op).1.a x.a regs))) || (!(partsL x.op).1.m && !regB (partsL x.op).1.b x.b regs) || (!(partsL x.op).1.l && decide ((x.l.length : Int) > 0))) && !x.l.any (fun n => !belB n regs)
def fitN (x : Ins) (code consts procs : Nat) : Bool :=
 if x.op = 0 then belB x.a consts else if x.op = 2 ∨ x.op = 9 then decide (0 ≤ x.a ∧ x.a < 31) else
 if x.op = 5 ∨ x.op = 7 ∨ x.op = 18 ∨ x.op = 20 then belB x.a procs else if x.op = 6 then decide (x.a ≥ 0) else
 if x.op = 15 then belB x.a code else if x.op = 16 then belB x.b code else if x.op = 21 then x.a == 29 || x.a == 30 else true
def fitB (x : Ins) (p : Prc) (u : Unt) : Bool := fitA x p.regs && fitN x p.code.length u.consts.length u.procs.length
theorem fits14_c (x : Ins) (p : Prc) (u : Unt) : ACallP Tryz.prog 76 [.agg x.cells, .agg p.cells, .agg u.cells] (.bool (fitB x p u)) := by
 have hn : fitN x p.code.length u.consts.length u.procs.length = fitN x p.code.length u.consts.length u.procs.length := rfl
 conv at hn => rhs; unfold fitN
 have hA : fitA x p.regs = fitA x p.regs := rfl
 conv at hA => rhs; unfold fitA
 generalize hs : partsL x.op = s at *
 have hpt := partsOf_c x.op
 rw [hs] at hpt
 refine ACall.of_body tt_ok Tryz.func76 rfl rfl (n := 133) rfl rfl ?_
 conv => whnf
 repeat' (first|((first|((first|(apply zY;intro hg)|apply zZ);first|exact stA|exact stB|((conv=>whnf);(repeat ((first|(refine zW ?_ ?_;exact gA)|refine pC (hpt) wR ?_|refine PCall.read (fits1_c _ p _ _) wR ?_|refine pC (below_c _ _) wR ?_|refine pC (below_c _ _) cA ?_|refine pC (Facts_c _) wR ?_|refine pC (Facts_c _) cA ?_|intro _);conv=>whnf));first|exact pS|exact pL|exact pE))|(refine zW ?_ ?_;exact gA)|refine zH rfl ?_|refine zA ?_|refine zI bA ?_|refine zI rfl ?_|refine sB ?_|(refine zO ?_ ?_ ?_;omega;omega)|(refine zP ?_ ?_ ?_;omega;omega)|refine zM rfl ?_|(refine zQ ?_ ?_ ?_;omega;omega)|(refine zR ?_ ?_;omega)|(refine zI ?_ ?_;exact nA)|refine sS ?_|refine pC (hpt) wR ?_|refine PCall.read (fits1_c _ p _ _) wR ?_|refine pC (below_c _ _) wR ?_|refine pC (below_c _ _) cA ?_|refine pC (Facts_c _) wR ?_|refine pC (Facts_c _) cA ?_|refine sE ?_|refine n0 ?_|refine sD ?_|intro _|refine zG ?_);conv=>whnf)|(refine zX (fun hc => ?_) (fun hc => ?_)<;>(try simp only [SY] at hc)<;>first|omega|(conv=>whnf)))
 ·have e : fitB x p u = false := by unfold fitB; rw [hA, hc]; rfl
  rw [e]
  exact PRet.pure (Wk.ff rfl)
 ·have e : fitA x p.regs = false := by
   rw [hA]
   have h2 : ((!regB s.1.d x.d p.regs || (!s.1.n && !regB s.1.a x.a p.regs)) || (!s.1.m && !regB s.1.b x.b p.regs) || (!s.1.l && decide ((x.l.length : Int) > 0))) = true := by
    simp only [Bool.or_eq_true, Bool.and_eq_true, Bool.not_eq_true', decide_eq_true_eq]
    exact hc
   rw [h2]
   simp
  have e : fitB x p u = false := by unfold fitB; rw [e]; rfl
  rw [e]
  exact PRet.pure (Wk.ff rfl)
 have h2 : ((!regB s.1.d x.d p.regs || (!s.1.n && !regB s.1.a x.a p.regs)) || (!s.1.m && !regB s.1.b x.b p.regs) || (!s.1.l && decide ((x.l.length : Int) > 0))) = false := by
  simp only [Bool.or_eq_false_iff, Bool.and_eq_false_imp, Bool.not_eq_true', Bool.not_eq_false', decide_eq_false_iff_not]
  rcases hc with ⟨⟨⟨h3, h4⟩, h5⟩, h6⟩
  refine ⟨⟨⟨h3, fun h => ?_⟩, fun h => ?_⟩, fun h => ?_⟩
  ·rcases h4 with h4 | h4
   ·rw [h4] at h; cases h
   ·exact h4
  ·rcases h5 with h5 | h5
   ·rw [h5] at h; cases h
   ·exact h5
  ·rcases h6 with h6 | h6
   ·rw [h6] at h; cases h
   ·omega
 rw [h2] at hA
 have hs2 : s.2 = true := by assumption
 rw [hs2] at hA
 rename_i b5 b4 b3 b7 _
 refine PCall.go (containsFuncInt_c 133 [.ptr b4 0] [.box b4 (prX p)] (fun n => !belB n p.regs) x.l (fun n _ => fits2_c b4 p n)) (WkT.refl _) ?_
 rintro _ _ ⟨rfl, rfl⟩
 conv => whnf
 repeat' (first|((first|((first|(apply zY;intro hg)|apply zZ);first|exact stA|exact stB|((conv=>whnf);(repeat ((first|(refine zW ?_ ?_;exact gA)|refine pC (hpt) wR ?_|refine PCall.read (fits1_c _ p _ _) wR ?_|refine pC (below_c _ _) wR ?_|refine pC (below_c _ _) cA ?_|refine pC (Facts_c _) wR ?_|refine pC (Facts_c _) cA ?_|intro _);conv=>whnf));first|exact pS|exact pL|exact pE))|(refine zW ?_ ?_;exact gA)|refine zH rfl ?_|refine zA ?_|refine zI bA ?_|refine zI rfl ?_|refine sB ?_|(refine zO ?_ ?_ ?_;omega;omega)|(refine zP ?_ ?_ ?_;omega;omega)|refine zM rfl ?_|(refine zQ ?_ ?_ ?_;omega;omega)|(refine zR ?_ ?_;omega)|(refine zI ?_ ?_;exact nA)|refine sS ?_|refine pC (hpt) wR ?_|refine PCall.read (fits1_c _ p _ _) wR ?_|refine pC (below_c _ _) wR ?_|refine pC (below_c _ _) cA ?_|refine pC (Facts_c _) wR ?_|refine pC (Facts_c _) cA ?_|refine sE ?_|refine n0 ?_|refine sD ?_|intro _|refine zG ?_);conv=>whnf)|(refine zX (fun hc => ?_) (fun hc => ?_)<;>(try simp only [SY] at hc)<;>first|omega|(conv=>whnf)))
 ·have e : fitB x p u = false := by unfold fitB; rw [hA, hc]; rfl
  rw [e]
  exact PRet.pure (Wk.ff rfl)
 all_goals
  have hany : (x.l.any fun n => !belB n p.regs) = false := by assumption
  rw [hany] at hA
  have hB : fitB x p u = fitN x p.code.length u.consts.length u.procs.length := by unfold fitB; rw [hA]; rfl
  repeat (first|rw [if_neg (by omega)] at hn|rw [if_pos (by omega)] at hn)
  rw [hB, hn]
  exact PRet.pure (by first | exact Wk.refl _ | exact Wk.tt rfl)
end Go.Cb
namespace Go.Cb
open Go.Proofs
set_option maxRecDepth 100000
set_option maxHeartbeats 4000000
instance : Dfl Prc := ⟨⟨0, false, 0, [], []⟩⟩
abbrev unX (u : Unt) : List PV := [.sl 5 (u.consts.map Datum.pv) none, .sl 5 (u.procs.map Prc.pv) none]
theorem check1_c (d : Datum) : ACall Tryz.prog 72 [.agg d.cells] [] (fun y Γ' => y = .bool (!d.rightP 0) ∧ Γ' = []) := by
 refine ACall.of_body tt_ok Tryz.func72 rfl rfl (n := 6) rfl rfl ?_
 conv => whnf
 repeat' (first|((first|((first|(apply zY;intro hg)|apply zZ);first|exact stA|exact stB|((conv=>whnf);(repeat ((first|(refine zW ?_ ?_;exact gA)|refine pC (rightP_c d) wR ?_|refine pC (rightP_c d) cA ?_|intro _);conv=>whnf));first|exact pS|exact pL|exact pE))|(refine zW ?_ ?_;exact gA)|refine zH rfl ?_|refine zA ?_|refine zI bA ?_|refine zI rfl ?_|refine sB ?_|(refine zO ?_ ?_ ?_;omega;omega)|(refine zP ?_ ?_ ?_;omega;omega)|refine zM rfl ?_|(refine zQ ?_ ?_ ?_;omega;omega)|(refine zR ?_ ?_;omega)|(refine zI ?_ ?_;exact nA)|refine sS ?_|refine pC (rightP_c d) wR ?_|refine pC (rightP_c d) cA ?_|refine sE ?_|refine n0 ?_|refine sD ?_|intro _|refine zG ?_);conv=>whnf)|(refine zX (fun hc => ?_) (fun hc => ?_)<;>(try simp only [SY] at hc)<;>first|omega|(conv=>whnf)))
 exact PRet.gen (Wk.refl _) ⟨rfl, rfl⟩
theorem anyDat_c (l : List Datum) : ACallP Tryz.prog 71 [.sl 5 (l.map Datum.pv) none, .fn (.func 72) []] (.bool (l.any fun d => !d.rightP 0)) :=
 (containsFuncDat_c 72 [] [] (fun d => !d.rightP 0) l (fun d _ => check1_c d)).shift fun y Γ' hq => ⟨y, Γ', Shift.refl _ _, hq.1⟩
theorem check2u_c (b1 b5 : Nat) (p : Prc) (u : Unt) (x : Ins) : ACall Tryz.prog 75 [.agg x.cells, .ptr b5 0, .ptr b1 0] [.box b5 (prX p), .box b1 (unX u)] (fun y Γ' => y = .bool (!fitB x p u) ∧ Γ' = [.box b5 (prX p), .box b1 (unX u)]) := by
 refine ACall.of_body tt_ok Tryz.func75 rfl rfl (n := 10) rfl rfl ?_
 conv => whnf
 repeat' (first|((first|((first|(apply zY;intro hg)|apply zZ);first|exact stA|exact stB|((conv=>whnf);(repeat ((first|(refine zW ?_ ?_;exact gA)|refine pC (fits14_c x p u) wR ?_|intro _);conv=>whnf));first|exact pS|exact pL|exact pE))|(refine zW ?_ ?_;exact gA)|refine zH rfl ?_|refine zA ?_|refine zI bA ?_|refine zI rfl ?_|refine sB ?_|(refine zO ?_ ?_ ?_;omega;omega)|(refine zP ?_ ?_ ?_;omega;omega)|refine zM rfl ?_|(refine zQ ?_ ?_ ?_;omega;omega)|(refine zR ?_ ?_;omega)|(refine zI ?_ ?_;exact nA)|refine sS ?_|refine pC (fits14_c x p u) wR ?_|refine sE ?_|refine n0 ?_|refine sD ?_|intro _|refine zG ?_);conv=>whnf)|(refine zX (fun hc => ?_) (fun hc => ?_)<;>(try simp only [SY] at hc)<;>first|omega|(conv=>whnf)))
 exact PRet.gen (y := .bool (!fitB x p u)) (Γ' := [.box b5 (prX p), .box b1 (unX u)]) (Wk.refl _) ⟨rfl, rfl⟩
def headB (p : Prc) : Bool := ((((decide (p.args < 0) || decide (p.args > p.regs)) || decide (p.regs > 20000)) || (p.rest && p.args == 0)) || ((p.code.length : Int) == 0)) || decide ((p.code.length : Int) > 50000)
def lastOp (p : Prc) : Int := (p.code.getD (p.code.length - 1) Dfl.d).op
def endB (p : Prc) : Bool := lastOp p != 15 && (decide (lastOp p < 19) || decide (lastOp p > 22))
def chksU (u : Unt) : List Prc → Int → Bool
 | [], _ => true
 | p :: ps, all => if headB p = true then false else if (decide (all + p.code.length > 50000) || endB p) = true then false else if (p.code.any fun x => !fitB x p u) = true then false else chksU u ps (all + p.code.length)
def chkU (u : Unt) : Int := if ((decide ((u.procs.length : Int) < 1) || decide ((u.procs.length : Int) > 1000)) || u.consts.any fun d => !d.rightP 0) = true then 5 else if chksU u u.procs 0 = true then 0 else 5
theorem check_u (u : Unt) : ACallP Tryz.prog 36 [.agg u.cells] (.int .i64 (chkU u)) := by
 refine ACall.of_body tt_ok Tryz.func36 rfl rfl (n := 94) rfl rfl ?_
 conv => whnf
 repeat' (first|((first|((first|(apply zY;intro hg)|apply zZ);first|exact stA|exact stB|((conv=>whnf);(repeat ((first|(refine zW ?_ ?_;exact gA)|refine pC (anyDat_c u.consts) wR ?_|intro _);conv=>whnf));first|exact pS|exact pL|exact pE))|(refine zW ?_ ?_;exact gA)|refine zH rfl ?_|refine zA ?_|refine zI bA ?_|refine zI rfl ?_|refine sB ?_|(refine zO ?_ ?_ ?_;omega;omega)|(refine zP ?_ ?_ ?_;omega;omega)|refine zM rfl ?_|(refine zQ ?_ ?_ ?_;omega;omega)|(refine zR ?_ ?_;omega)|(refine zI ?_ ?_;exact nA)|refine sS ?_|refine pC (anyDat_c u.consts) wR ?_|refine sE ?_|refine n0 ?_|refine sD ?_|intro _|refine zG ?_);conv=>whnf)|(refine zX (fun hc => ?_) (fun hc => ?_)<;>(try simp only [SY] at hc)<;>first|omega|(conv=>whnf)))
 ·rw [show chkU u = 5 from if_pos (by simp only [Bool.or_eq_true, decide_eq_true_eq]; exact hc)]
  exact PRet.pure (Wk.refl _)
 have h0 : chkU u = if chksU u u.procs 0 = true then 0 else 5 := by
  unfold chkU
  rw [if_neg]
  simp only [Bool.or_eq_true, decide_eq_true_eq]
  rintro ((h | h) | h)
  ·omega
  ·omega
  ·rw [h] at hc; simp at hc
 rename_i b1 _ _
 refine PLoop.over [2, 3, 5, 6, 7, 26, 27, 28, 29, 30, 31, 32, 33, 34, 35, 36, 37, 38, 39, 40, 41, 42, 43, 44, 45, 46, 47, 48, 49, 50, 51, 52, 53, 54, 55, 56, 57, 58, 59, 60, 61, 62, 63, 64, 65, 66, 67, 68, 69, 70, 71, 72, 73, 74, 75, 76, 77, 78, 79, 80, 81, 82, 83, 84, 85, 86, 87, 88, 89, 90, 91, 92, 93] (fun x : Nat × Int => [(3, .int .i64 x.2), (26, .int .i64 x.1)]) (fun _ => [.box b1 (unX u)]) (fun x => x.1 ≤ u.procs.length ∧ 0 ≤ x.2 ∧ x.2 ≤ 50000 ∧ chksU u u.procs 0 = chksU u (u.procs.drop x.1) x.2) (fun x => u.procs.length - x.1) (0, 0) ⟨Nat.zero_le _, by omega, by omega, by simp⟩ wA ?_
 rintro ⟨i, all⟩ ⟨hi, ha0, ha1, he⟩
 dsimp only at hi ha0 ha1 he ⊢
 conv => whnf
 repeat' (first|((first|((first|(apply zY;intro hg)|apply zZ);first|exact stA|exact stB|((conv=>whnf);(repeat ((first|(refine zW ?_ ?_;exact gA)|refine pC (anyDat_c u.consts) wR ?_|intro _);conv=>whnf));first|exact pS|exact pL|exact pE))|(refine zW ?_ ?_;exact gA)|refine zH rfl ?_|refine zA ?_|refine zI bA ?_|refine zI rfl ?_|refine sB ?_|(refine zO ?_ ?_ ?_;omega;omega)|(refine zP ?_ ?_ ?_;omega;omega)|refine zM rfl ?_|(refine zQ ?_ ?_ ?_;omega;omega)|(refine zR ?_ ?_;omega)|(refine zI ?_ ?_;exact nA)|refine sS ?_|refine pC (anyDat_c u.consts) wR ?_|refine sE ?_|refine n0 ?_|refine sD ?_|intro _|refine zG ?_);conv=>whnf)|(refine zX (fun hc => ?_) (fun hc => ?_)<;>(try simp only [SY] at hc)<;>first|omega|(conv=>whnf)))
 ·have hip : i < u.procs.length := by omega
  have hh : headB u.procs[i] = true := by
   unfold headB
   simp only [Bool.or_eq_true, decide_eq_true_eq, Bool.and_eq_true, beq_iff_eq]
   exact hc
  rw [drop_at hip, chksU, if_pos hh] at he
  rw [h0, he]
  exact PRet.pure (Wk.refl _)
 ·have hip : i < u.procs.length := by omega
  have hh : ¬headB u.procs[i] = true := by
   rcases ‹_ ∧ ↑u.procs[i].code.length ≤ (50000 : Int)› with ⟨⟨⟨⟨⟨g1, g2⟩, g3⟩, g4⟩, g5⟩, g6⟩
   unfold headB
   simp only [Bool.or_eq_true, decide_eq_true_eq, Bool.and_eq_true, beq_iff_eq]
   rintro (((((h | h) | h) | ⟨h, k⟩) | h) | h)
   ·omega
   ·omega
   ·omega
   ·rcases g4 with g4 | g4
    ·rw [h] at g4; cases g4
    ·exact g4 k
   ·exact g5 h
   ·omega
  have hlo : lastOp u.procs[i] = (u.procs[i].code[u.procs[i].code.length - 1]'(by omega)).op := by unfold lastOp; rw [List.getD_eq_getElem?_getD, List.getElem?_eq_getElem (by omega)]; rfl
  rw [drop_at hip, chksU, if_neg hh, if_pos (by
   unfold endB
   rw [hlo]
   simp only [Bool.or_eq_true, decide_eq_true_eq, Bool.and_eq_true, bne_iff_ne]
   exact hc)] at he
  rw [h0, he]
  exact PRet.pure (Wk.refl _)
 ·have hip : i < u.procs.length := by omega
  have hh : ¬headB u.procs[i] = true := by
   rcases ‹_ ∧ ↑u.procs[i].code.length ≤ (50000 : Int)› with ⟨⟨⟨⟨⟨g1, g2⟩, g3⟩, g4⟩, g5⟩, g6⟩
   unfold headB
   simp only [Bool.or_eq_true, decide_eq_true_eq, Bool.and_eq_true, beq_iff_eq]
   rintro (((((h | h) | h) | ⟨h, k⟩) | h) | h)
   ·omega
   ·omega
   ·omega
   ·rcases g4 with g4 | g4
    ·rw [h] at g4; cases g4
    ·exact g4 k
   ·exact g5 h
   ·omega
  have hlo : lastOp u.procs[i] = (u.procs[i].code[u.procs[i].code.length - 1]'(by omega)).op := by unfold lastOp; rw [List.getD_eq_getElem?_getD, List.getElem?_eq_getElem (by omega)]; rfl
  rw [drop_at hip, chksU, if_neg hh, if_neg (by
   unfold endB
   rw [hlo]
   simp only [Bool.or_eq_true, decide_eq_true_eq, Bool.and_eq_true, bne_iff_ne]
   rintro (h | ⟨h, k⟩) <;> omega)] at he
  rename_i b5 _ _
  refine PCall.go (containsFuncIns_c 75 [.ptr b5 0, .ptr b1 0] [.box b5 (prX u.procs[i]), .box b1 (unX u)] (fun x => !fitB x u.procs[i] u) u.procs[i].code (fun x _ => check2u_c b1 b5 u.procs[i] u x)) (WkT.refl _) ?_
  rintro _ _ ⟨rfl, rfl⟩
  conv => whnf
  repeat' (first|((first|((first|(apply zY;intro hg)|apply zZ);first|exact stA|exact stB|((conv=>whnf);(repeat ((first|(refine zW ?_ ?_;exact gA)|refine pC (anyDat_c u.consts) wR ?_|intro _);conv=>whnf));first|exact pS|exact pL|exact pE))|(refine zW ?_ ?_;exact gA)|refine zH rfl ?_|refine zA ?_|refine zI bA ?_|refine zI rfl ?_|refine sB ?_|(refine zO ?_ ?_ ?_;omega;omega)|(refine zP ?_ ?_ ?_;omega;omega)|refine zM rfl ?_|(refine zQ ?_ ?_ ?_;omega;omega)|(refine zR ?_ ?_;omega)|(refine zI ?_ ?_;exact nA)|refine sS ?_|refine pC (anyDat_c u.consts) wR ?_|refine sE ?_|refine n0 ?_|refine sD ?_|intro _|refine zG ?_);conv=>whnf)|(refine zX (fun hc => ?_) (fun hc => ?_)<;>(try simp only [SY] at hc)<;>first|omega|(conv=>whnf)))
  ·rename_i hany
   rw [if_pos hc] at he
   rw [h0, he]
   exact PRet.pure (Wk.refl _)
  ·rw [if_neg (by rw [hc]; simp)] at he
   exact loopTo (i + 1, all + u.procs[i].code.length) ⟨by show i + 1 ≤ _; omega, by dsimp only; omega, by dsimp only; omega, he⟩ (by show u.procs.length - (i + 1) < u.procs.length - i; omega) wA
 ·rw [List.drop_of_length_le (by omega), chksU] at he
  rw [h0, he]
  exact PRet.pure (Wk.refl _)
end Go.Cb
namespace Go.Cb
open Go.Proofs
set_option maxRecDepth 100000
set_option maxHeartbeats 4000000
def lvsB (x : Ins) : Bool := decide (x.op ≥ 19) && decide (x.op ≤ 21)
theorem Shift.nilTok (s : Nat) (e : TypeId) (Γ : List Ent) : Shift .nil Γ (.sl s [] (some (nilTok s e))) (.tok (nilTok s e) :: Γ) := fun w0 F M w v hS hx =>
 let ⟨F', h1, h2⟩ := Ghost.nil s e Γ w0 F M w hS
 ⟨F', h1, h2, Wk.nilTok s e F' v (Rep.mono h1 _ _ hx)⟩
def takF (x : Ins) : List Int := if x.op = 19 then x.l ++ [x.a] else if x.op = 20 then x.l ++ [x.b] else x.l
abbrev wrE (b : Nat) (out : List Int) (t : Tok) : List Ent := [.box b [.sl 1 (out.map (PV.int .i64)) (some t)], .tok t]
def insW (x : Ins) (al : List Int) : List Int := [x.op, x.d, x.a, x.b] ++ (((x.l.length : Int) :: x.l) ++ ((al.length : Int) :: al))
end Go.Cb
namespace Go.Cb
open Go.Proofs
set_option maxRecDepth 100000
set_option maxHeartbeats 4000000
end Go.Cb
namespace Go.Cb
open Go.Proofs
set_option maxRecDepth 100000
set_option maxHeartbeats 4000000
def CwOk (spare : Int) (x : Ins) (al ws : List Int) : Prop := ∀ b out t, t.e = 3 → out.length + ws.length ≤ 2000000000 →
 ACall Tryz.prog 163 [.ptr b 0, .agg x.cells, slI al, .int .i64 spare] (wrE b out t) (fun y Γ' => ∃ t', t'.e = 3 ∧ y = .tup [] ∧ Γ' = wrE b (out ++ ws) t')
def oneW (cw : Ins → List Int → List Int) (x : Ins) (al : List Int) : List Int := if lvsB x = true then cw x al else insW x al
def allW (cw : Ins → List Int → List Int) (f : Ins → Ins) : List Ins → List (List Int) → List Int
 | x :: xs, a :: al => oneW cw (f x) a ++ allW cw f xs al
 | _, _ => []
def stsW (cw : Ins → List Int → List Int) (f : Ins → Ins) : List Ins → List (List Int) → Int → List Int
 | x :: xs, a :: al, n => n :: stsW cw f xs al (n + (oneW cw (f x) a).length)
 | _, _, _ => []
theorem PNil.ne {α : Type} {f : α → PV} {l : List α} {K : Bool → Prop} (hl : l ≠ []) (h : K false) : PNil (l.map f) K :=
 ⟨fun q hq => by
  cases q with
  | false => exact h
  | true => exact absurd (by simpa using hq rfl) hl⟩
def jmpT (pl : List Int) (x : Ins) : Ins := if x.op = 15 then ⟨x.op, x.d, pl.getD x.a.toNat 0, x.b, x.l⟩ else if x.op = 16 then ⟨x.op, x.d, x.a, pl.getD x.b.toNat 0, x.l⟩ else x
end Go.Cb
namespace Go.Cb
open Go.Proofs
set_option maxRecDepth 100000
set_option maxHeartbeats 4000000
def spareL : List Ins → Int → Int
 | [], s => s
 | x :: xs, s => spareL xs (if lvsB x = true then max s ((takF x).length : Int) else s)
abbrev CwF := Int → Ins → List Int → List Int
abbrev stsP (cw : CwF) (p : Prc) : List Int := stsW (cw (spareL p.code p.regs)) id p.code p.alive 0
abbrev wrdP (cw : CwF) (p : Prc) : List Int := allW (cw (spareL p.code p.regs)) (jmpT (stsP cw p)) p.code p.alive
def procW (cw : CwF) (p : Prc) : List Int := [p.args, if p.rest = true then 1 else 0, spareL p.code p.regs + 1] ++ (((wrdP cw p).length : Int) :: wrdP cw p)
theorem spareL_ge : ∀ (c : List Ins) (s : Int), s ≤ spareL c s
 | [], s => by rw [spareL]; omega
 | x :: c, s => by
  rw [spareL]
  have := spareL_ge c (if lvsB x = true then max s ((takF x).length : Int) else s)
  split at this
  ·rename_i h; rw [if_pos h]; omega
  ·rename_i h; rw [if_neg h]; omega
structure PrcOk (cw : CwF) (p : Prc) : Prop where
 al : p.alive.length = p.code.length
 ne : 0 < p.code.length
 le : p.code.length ≤ 50000
 jm : ∀ x ∈ p.code, (x.op = 15 → 0 ≤ x.a ∧ x.a < p.code.length) ∧ (x.op = 16 → 0 ≤ x.b ∧ x.b < p.code.length)
 ll : ∀ x ∈ p.code, x.l.length ≤ 1000000
 rg : 0 ≤ p.regs ∧ p.regs ≤ 20000
 ck : ∀ x ∈ p.code, lvsB x = true → ∀ al, CwOk (spareL p.code p.regs) x al (cw (spareL p.code p.regs) x al)
 z0 : (allW (cw (spareL p.code p.regs)) id p.code p.alive).length ≤ 1000000000
 z1 : (wrdP cw p).length ≤ 1000000000
end Go.Cb
namespace Go.Cb
open Go.Proofs
set_option maxRecDepth 100000
set_option maxHeartbeats 4000000
def bodyW (cw : CwF) (ps : List Prc) : List Int := ps.flatMap (procW cw)
def offW (cw : CwF) (n : Int) : List Prc → Int → List Int
 | [], _ => []
 | p :: ps, k => (2 + n + k) :: offW cw n ps (k + (procW cw p).length)
theorem offW_len (cw : CwF) (n : Int) : ∀ (ps : List Prc) (k : Int), (offW cw n ps k).length = ps.length
 | [], _ => rfl
 | p :: ps, k => by rw [offW, List.length_cons, offW_len cw n ps, List.length_cons]
def headW (cw : CwF) (ps : List Prc) : List Int := [6516594, (ps.length : Int)] ++ offW cw ps.length ps 0
end Go.Cb
namespace Go.Cb
open Go.Proofs
set_option maxRecDepth 100000
set_option maxHeartbeats 4000000
structure Mov where
 to : Int
 frm : Int
def Mov.cells (m : Mov) : List PV := [.int .i64 m.to, .int .i64 m.frm]
def Mov.pv (m : Mov) : PV := .agg m.cells
instance : CellsOf Mov.pv Mov.cells := ⟨fun _ => rfl⟩
abbrev Lft := List (Option Int)
def keyN (s : Lft) : List Nat := (List.range s.length).filter fun i => (s.getD i none).isSome
def usedB (s : Lft) (z : Int) : Bool := s.contains (some z)
def freeF (s : Lft) : Option Nat := (keyN s).find? fun i => !usedB s i
def hdN (s : Lft) : Nat := (keyN s).headD 0
def putL (sp : Int) (h : Int) (s : Lft) : Lft := s.map fun o => if o = some h then some sp else o
def stepM (sp : Int) (s : Lft) : Mov × Lft := match freeF s with
 | some i => (⟨i, (s.getD i none).getD 0⟩, s.set i none)
 | none => (⟨sp, hdN s⟩, putL sp (hdN s) s)
def movL : Nat → Int → Lft → List Mov
 | 0, _, _ => []
 | n + 1, sp, s => if keyN s = [] then [] else (stepM sp s).1 :: movL n sp (stepM sp s).2
def mvM (s : Lft) (z : Int) : Option Int := if 0 ≤ z then s.getD z.toNat none else none
def leftL (l : List Int) : Nat → Lft
 | k => match l with
  | [] => []
  | x :: l => (if x = k then none else some x) :: leftL l (k + 1)
def badM (l : List Int) (sp : Int) : Bool := l.any fun x => decide (x < 0) || decide (x > 1000000) || x == sp
def illM (l : List Int) (sp : Int) : Bool := decide (l.length > 1000) || decide (sp < l.length) || decide (sp > 1000000)
def ordF (l : List Int) (sp : Int) : List Mov × Int := if (illM l sp || badM l sp) = true then ([], 1) else (movL (2 * l.length + 1) sp (leftL l 0), 0)
end Go.Cb
namespace Go.Cb
open Go.Proofs
set_option maxRecDepth 100000
set_option maxHeartbeats 4000000
end Go.Cb

