/-
 Contracts: the document's comparisons, counts, bindings.
 Contracts: the document's bindings; all variables greater.
 Contracts: the reader of images: words, lists.
 Contracts: all variables greater by the same, of any term.
 Contracts: the reader of images: a procedure's code.
 Contracts: the reader of images: procedures.
 Contracts: package slices with functions, over instructions and procedures.
 Contracts: package slices: DeleteFunc, of numbers.
 Contracts: the check of a unit.
 Contracts: whether a unit is right.
 Contracts: the writer of images: words, lists, instructions; what a call takes.
 Contracts: may a procedure be emitted?
 Contracts: a procedure's code as words.
 Contracts: procedures as words; the image of a unit.
 Contracts: the image of a unit.
 Plain law: many moves at once, one by one.
 Contracts: the document's reader of images: lists.
-/
import Derived.Test.YtklpioocdgfbmaaGreatDoorE5
set_option linter.unusedSimpArgs false
set_option linter.unusedVariables false
namespace Go.Cb
open Go.Proofs
set_option maxRecDepth 100000
set_option maxHeartbeats 4000000
mutual
def Trm.alk : Trm → Trm → Bool
 | .mk op n v t, .mk op' n' v' t' => op == op' && n == n' && v == v' && Trm.alks t t'
def Trm.alks : List Trm → List Trm → Bool
 | [], [] => true
 | x :: xs, y :: ys => Trm.alk x y && Trm.alks xs ys
 | _, _ => false
end
mutual
def Datum.alk : Datum → Datum → Bool
 | .mk k n d s l, .mk k' n' d' s' l' => k == k' && n == n' && d == d' && s == s' && Datum.alks l l'
def Datum.alks : List Datum → List Datum → Bool
 | [], [] => true
 | x :: xs, y :: ys => Datum.alk x y && Datum.alks xs ys
 | _, _ => false
end
def Prog.same (p q : Prog) : Bool := Datum.alks p.consts q.consts && p.body.alk q.body
end Go.Cb
namespace Go.Cb
open Go.Proofs
set_option maxRecDepth 100000
set_option maxHeartbeats 4000000
theorem slI_nil : Wk .nil (slI []) := Wk.nil' rfl
end Go.Cb
namespace Go.Cb
open Go.Proofs
set_option maxRecDepth 100000
set_option maxHeartbeats 4000000
abbrev rdE (b : Nat) (l : List Int) (s : RdS) : Ent := .box b [slI l, .int .i64 s.1, .bool s.2]
theorem word_c (b : Nat) (l : List Int) (s : RdS) (hs : s.1 ≤ l.length) (hl : l.length ≤ 1000000000) :
  ACall Tryz.prog 49 [.ptr b 0] [rdE b l s] (fun y Γ' => y = .int .i64 (wordV l s) ∧ Γ' = [rdE b l (wordS l s)]) := by
 obtain ⟨k, w⟩ := s
 dsimp only at hs
 refine ACall.of_body tt_ok Tryz.func49 rfl rfl (n := 40) rfl rfl ?_
 conv => whnf
 repeat' (first|((first|((first|(apply zY;intro hg)|apply zZ);first|exact stA|exact stB|exact stC)|(refine zW ?_ ?_;exact gA)|refine zH rfl ?_|refine zA ?_|refine zI bA ?_|refine zI rfl ?_|refine sB ?_|(refine zO ?_ ?_ ?_;omega;omega)|(refine zP ?_ ?_ ?_;omega;omega)|refine zM rfl ?_|(refine zQ ?_ ?_ ?_;omega;omega)|(refine zR ?_ ?_;omega)|(refine zI ?_ ?_;exact nA)|refine sS ?_|refine sF ?_|refine n0 ?_|refine sD ?_|refine PDraw.sP (some 3) rfl [] [] tt_ok mixed ?_|refine PDraw.sP (some 29) rfl [] [] tt_ok mixed ?_|intro _|refine zG ?_);conv=>whnf)|(refine zX (fun hc => ?_) (fun hc => ?_)<;>(try simp only [SY] at hc)<;>first|omega|(conv=>whnf)))
 ·have hw : wordW l (k, w) = true := by
   simp only [wordW, Bool.or_eq_true, decide_eq_true_eq]
   rcases hc with hc | hc
   ·exact .inl hc
   ·right; omega
  exact PRet.gen (y := .int .i64 (wordV l (k, w))) (Γ' := [rdE b l (wordS l (k, w))]) (Wk.int (by simp [wordV, hw])) (hp := by simp only [wordS, hw, if_pos]; infer_instance) ⟨rfl, rfl⟩
 ·obtain ⟨rfl, hk⟩ : w = false ∧ k < l.length := ⟨by simpa using hc.1, by omega⟩
  refine PRet.gen (y := .int .i64 (wordV l (k, false))) (Γ' := [.box b [slI l, .int .i64 ((k : Int) + 1), .bool false]]) (Wk.int ?_) ⟨rfl, ?_⟩
  ·rw [wordV_f hk]; simp [List.getD, hk]
  ·rw [wordS_f hk]; simp
theorem PSliceL.both {s : Nat} {α : Type} {f : α → PV} {es : List α} {k k' : IntKind} {n m : Int} (i j : Nat) (hi : n = i) (hj : m = j) {K : PV → Prop} (h1 : i ≤ j) (h : j ≤ es.length) (hk : K (.sl s (((es.take j).drop i).map f) none)) : PSliceL s (es.map f) (some (.int k n)) (some (.int k' m)) K :=
 ⟨i, j, hj, hi, h1, by simp; omega, by rw [← List.map_take, ← List.map_drop]; exact hk⟩
theorem list_c (b : Nat) (l : List Int) (s : RdS) (hs : s.1 ≤ l.length) (hl : l.length ≤ 1000000000) :
  ACall Tryz.prog 50 [.ptr b 0] [rdE b l s] (fun y Γ' => y = slI (listV l s) ∧ Γ' = [rdE b l (listS l s)]) := by
 have hw := wordS_le l s hs
 have hL : listW l s = ((wordS l s).2 || decide (wordV l s < 0) || decide (wordV l s > (l.length : Int) - (wordS l s).1)) := rfl
 have hV : listV l s = if listW l s = true then [] else (l.drop (wordS l s).1).take (wordV l s).toNat := rfl
 have hS : listS l s = if listW l s = true then ((wordS l s).1, true) else ((wordS l s).1 + (wordV l s).toNat, false) := rfl
 refine ACall.of_body tt_ok Tryz.func50 rfl rfl (n := 55) rfl rfl ?_
 conv => whnf
 repeat' (first|((first|((first|(apply zY;intro hg)|apply zZ);first|exact stA|exact stB|exact stC)|(refine zW ?_ ?_;exact gA)|refine zH rfl ?_|refine zA ?_|refine zI bA ?_|refine zI rfl ?_|refine sB ?_|(refine zO ?_ ?_ ?_;omega;omega)|(refine zP ?_ ?_ ?_;omega;omega)|refine zM rfl ?_|(refine zQ ?_ ?_ ?_;omega;omega)|(refine zR ?_ ?_;omega)|(refine zI ?_ ?_;exact nA)|refine sS ?_|refine sF ?_|refine n0 ?_|refine sD ?_|refine PDraw.sP (some 6) rfl [] [] tt_ok mixed ?_|refine PDraw.sP (some 39) rfl [] [] tt_ok mixed ?_|intro _|refine zG ?_);conv=>whnf)|(refine zX (fun hc => ?_) (fun hc => ?_)<;>(try simp only [SY] at hc)<;>first|omega|(conv=>whnf)))
 refine PCall.go (word_c b l s hs hl) (WkT.refl _) ?_
 rintro _ _ ⟨rfl, rfl⟩
 rcases hws : wordS l s with ⟨k, w⟩
 rw [hws] at hw hL hV hS
 generalize wordV l s = n at *
 dsimp only [rdE] at hw hL hV hS ⊢
 have hlen : ((l.take (k + n.toNat)).drop k).length ≤ l.length := by rw [List.length_drop, List.length_take]; omega
 have hcl := cloneInt_c ((l.take (k + n.toNat)).drop k) (by omega)
 conv => whnf
 repeat' (first|((first|((first|(apply zY;intro hg)|apply zZ);first|exact stA|exact stB|((conv=>whnf);(repeat ((first|(refine zW ?_ ?_;exact gA)|refine pC (hcl) wR ?_|refine zA ?_|refine zH rfl ?_|refine zB ?_|refine sG ?_|intro _);conv=>whnf));first|exact pS|exact pL|exact pE))|(refine zW ?_ ?_;exact gA)|refine zH rfl ?_|refine zA ?_|refine zI bA ?_|refine zI rfl ?_|refine sB ?_|(refine zO ?_ ?_ ?_;omega;omega)|(refine zP ?_ ?_ ?_;omega;omega)|refine zM rfl ?_|(refine zQ ?_ ?_ ?_;omega;omega)|(refine zR ?_ ?_;omega)|(refine zI ?_ ?_;exact nA)|refine sS ?_|refine pC (hcl) wR ?_|refine sF ?_|refine n0 ?_|refine sD ?_|refine PDraw.sP (some 6) rfl [] [] tt_ok mixed ?_|refine PDraw.sP (some 39) rfl [] [] tt_ok mixed ?_|intro _|refine zG ?_);conv=>whnf)|(refine zX (fun hc => ?_) (fun hc => ?_)<;>(try simp only [SY] at hc)<;>first|omega|(conv=>whnf)))
 ·have e : listW l s = true := by
   rw [hL]
   simp only [Bool.or_eq_true, decide_eq_true_eq]
   exact hc
  rw [e] at hV hS
  rw [hV, hS]
  exact PRet.gen (y := slI []) (Γ' := [rdE b l (k, true)]) slI_nil ⟨rfl, rfl⟩
 ·have e : listW l s = false := by
   rw [hL]
   simp only [Bool.or_eq_false_iff, decide_eq_false_iff_not]
   exact ⟨⟨hc.1.1, by omega⟩, by omega⟩
  rw [e] at hV hS
  have hw0 : w = false := hc.1.1
  subst hw0
  apply PStb.of
  ·conv => whnf
   refine zI rfl ?_
   conv => whnf
   refine PSliceL.both k (k + n.toNat) (by omega) (by omega) (by omega) (by omega) ?_
   exact pS
  conv => whnf
  repeat' (first|((first|((first|(apply zY;intro hg)|apply zZ);first|exact stA|exact stB|((conv=>whnf);(repeat ((first|(refine zW ?_ ?_;exact gA)|refine pC (hcl) wR ?_|refine zA ?_|refine zH rfl ?_|refine zB ?_|refine sG ?_|intro _);conv=>whnf));first|exact pS|exact pL|exact pE))|(refine zW ?_ ?_;exact gA)|refine zH rfl ?_|refine zA ?_|refine zI bA ?_|refine zI rfl ?_|refine sB ?_|(refine zO ?_ ?_ ?_;omega;omega)|(refine zP ?_ ?_ ?_;omega;omega)|refine zM rfl ?_|(refine zQ ?_ ?_ ?_;omega;omega)|(refine zR ?_ ?_;omega)|(refine zI ?_ ?_;exact nA)|refine sS ?_|refine pC (hcl) wR ?_|refine sF ?_|refine n0 ?_|refine sD ?_|refine PDraw.sP (some 6) rfl [] [] tt_ok mixed ?_|refine PDraw.sP (some 39) rfl [] [] tt_ok mixed ?_|intro _|refine zG ?_);conv=>whnf)|(refine zX (fun hc => ?_) (fun hc => ?_)<;>(try simp only [SY] at hc)<;>first|omega|(conv=>whnf)))
  have hd : (l.take (k + n.toNat)).drop k = (l.drop k).take n.toNat := by rw [List.drop_take]; congr 1; omega
  rw [hd, ← show listV l s = (l.drop k).take n.toNat from hV]
  refine PRet.gen (y := slI (listV l s)) (Γ' := [.box b [slI l, .int .i64 ((k : Int) + n), .bool false]]) (Wk.refl _) ⟨rfl, ?_⟩
  rw [hS]
  simp
  omega
end Go.Cb
namespace Go.Cb
open Go.Proofs
set_option maxRecDepth 100000
set_option maxHeartbeats 4000000
section
variable {P : Program} {tt : Nat → TI}
theorem PLoop.ghost {B : List PV → List Ent → Ds → QT → Prop} {T : List PV} {Γ Γ' : List Ent} {D : Ds} {Q : QT} (hg : Ghost Γ Γ') (h : PLoop B T Γ' D Q) : PLoop B T Γ D Q := by
 obtain ⟨I, J, ⟨n, T0, Γ0, h1, h2⟩, h3, h4⟩ := h.h
 refine ⟨I, J, ⟨n, T0, Γ0, fun w0 F M w vs hS hT => ?_, h2⟩, h3, h4⟩
 obtain ⟨F1, e1, hS1⟩ := hg w0 F M w hS
 obtain ⟨F2, e2, hS2, hT2⟩ := h1 w0 F1 M w vs hS1 (RepT.mono e1 _ _ hT)
 exact ⟨F2, Fz.le_trans e1 e2, hS2, hT2⟩
theorem PInt.w {k : IntKind} {v : Int} {K : Int → Prop} (h : K (k.wrap v)) : PInt k v K := ⟨h⟩
end
mutual
def Trm.shw (k : Int) : Trm → Trm
 | .mk op n v t => .mk op (if namesB op = true then IntKind.i64.wrap (n + k) else n) (v.map fun x => IntKind.i64.wrap (x + k)) (Trm.shws k t)
def Trm.shws (k : Int) : List Trm → List Trm
 | [] => []
 | x :: xs => Trm.shw k x :: Trm.shws k xs
end
end Go.Cb
namespace Go.Cb
open Go.Proofs
set_option maxRecDepth 100000
set_option maxHeartbeats 4000000
instance ElOf.ins (a b c d : Int) (x : PV) (l : List Int) [h : SlOf (PV.int .i64) 1 x l] : ElOf Ins.pv (.agg [.int .i64 a, .int .i64 b, .int .i64 c, .int .i64 d, x]) ⟨a, b, c, d, l⟩ :=
 have e : WkL [.int .i64 a, .int .i64 b, .int .i64 c, .int .i64 d, x] (Ins.cells ⟨a, b, c, d, l⟩) := .cons (Wk.refl _) (.cons (Wk.refl _) (.cons (Wk.refl _) (.cons (Wk.refl _) (.cons h.wk .nil))))
 ⟨Wk.agg e, e⟩
instance ElOf.slIr (l : List Int) (tk : Option Tok) : ElOf slI (.sl 1 (l.map (PV.int .i64)) tk) l := ⟨Wk.tok _ _ _, .cons (Wk.tok _ _ _) .nil⟩
instance : Dfl Ins := ⟨⟨0, 0, 0, 0, []⟩⟩
instance : Dfl (List Int) := ⟨[]⟩
def posF (ps : List Int) : Int → Option Int := fun v => if idxL ps v 0 ≥ 0 then some (idxL ps v 0) else none
theorem idxL_app (k : Int) : ∀ (ps : List Int) (v : Int) (i : Nat), idxL (ps ++ [k]) v i = if idxL ps v i ≥ 0 then idxL ps v i else if v = k then ((i + ps.length : Nat) : Int) else -1
 | [], v, i => by simp [idxL]
 | p :: ps, v, i => by
  rw [List.cons_append, idxL, idxL]
  by_cases h : v = p
  ·rw [if_pos h, if_pos h, if_pos (by omega)]
  ·rw [if_neg h, if_neg h, idxL_app k ps v (i + 1)]
   simp only [List.length_cons]
   split
   ·rfl
   ·split
    ·congr 1; omega
    ·rfl
theorem posF_app (ps : List Int) (k : Int) (h : k ∉ ps) : upd (posF ps) k (ps.length : Int) = posF (ps ++ [k]) := by
 funext v
 have hm := idxL_mem ps v 0
 unfold upd posF
 rw [idxL_app]
 by_cases hv : v = k
 ·subst hv
  have h1 : ¬idxL ps v 0 ≥ 0 := by
   intro h2
   rw [decide_eq_true h2] at hm
   exact h (List.contains_iff_mem.1 hm.symm)
  rw [if_pos rfl, if_neg h1, if_pos rfl, if_pos (by omega)]
  simp
 ·rw [if_neg hv]
  by_cases h2 : idxL ps v 0 ≥ 0
  ·rw [if_pos h2, if_pos h2, if_pos h2]
  ·rw [if_neg h2, if_neg h2, if_neg hv, if_neg (by omega)]
def decPV (l : List Int) : PV := match decF l with
 | some (c, al) => .tup [.sl 5 (c.map Ins.pv) none, .sl 1 (al.map slI) none, .bool true]
 | none => .tup [.sl 5 [] none, .sl 1 [] none, .bool false]
theorem mapI_nil : (fun _ => none : Value → Option PV) = mapM (PV.int .i64) (posF (posL [])) := by
 funext v
 unfold mapM
 split <;> simp [posF, idxL]
theorem Ghost.nilRowI (Γ : List Ent) : Ghost Γ (.row (nilTok 5 59) ((insL []).map Ins.pv) :: Γ) := Ghost.nilRow _ _ _
theorem PRet.frzE {t : Tok} {es : List PV} {x y : PV} {Γ Γ1 Γ' Γ2 : List Ent} {Q : PV → List Ent → Prop} [hp : PickE Γ (.row t es) Γ1] (h : WkF t es x y) [hq : PickL (.tok t :: Γ1) Γ' Γ2] (q : Q y Γ') : PRet x Γ Q :=
 ⟨y, Γ', Shift.trans (Shift.freezeRow (hp := hp) h) (Shift.wk (Wk.refl _) hq.p), q⟩
abbrev decG (b6 r : Nat) (l : List Int) (s : RdS) (c : List Ins) (tc : Tok) (ta : Tok) (ps : List Int) : List Ent := [rdE b6 l s, .mp r (.int .i64) (mapM (PV.int .i64) (posF ps)) [], .row tc (c.map Ins.pv), .tok ta]
theorem decoded_c (l : List Int) (hl : l.length ≤ 1000000000) : ACallP Tryz.prog 51 [slI l] (decPV l) := by
 refine ACall.of_body tt_ok Tryz.func51 rfl rfl (n := 98) rfl rfl ?_
 conv => whnf
 repeat' (first|((first|((first|(apply zY;intro hg)|apply zZ);first|exact stA|exact stB|exact stC)|(refine zW ?_ ?_;exact gA)|refine zH rfl ?_|refine zA ?_|refine zI bA ?_|refine zI rfl ?_|refine sB ?_|(refine zO ?_ ?_ ?_;omega;omega)|(refine zP ?_ ?_ ?_;omega;omega)|refine zM rfl ?_|(refine zQ ?_ ?_ ?_;omega;omega)|(refine zR ?_ ?_;omega)|(refine zI ?_ ?_;exact nA)|refine sS ?_|refine sF ?_|refine n0 ?_|refine sD ?_|intro _|refine zG ?_);conv=>whnf)|(refine zX (fun hc => ?_) (fun hc => ?_)<;>(try simp only [SY] at hc)<;>first|omega|(conv=>whnf)))
 rename_i b6 r
 rw [mapI_nil]
 refine PLoop.ghost (Ghost.trans (Ghost.nil 1 23 _) (Ghost.trans (Ghost.nilRowI _) (Ghost.box (b := b6) (cs := [slI l, .int .i64 0, .bfalse]) (cs' := [slI l, .int .i64 ((0 : Nat) : Int), .bool false]) (.cons (Wk.refl _) (.cons (Wk.refl _) (.cons (Wk.ff rfl) .nil)))))) ?_
 refine PLoop.over [2, 3, 4, 7, 8, 9, 19, 20, 21, 22, 23, 24, 25, 26, 27, 28, 29, 30, 31, 32, 33, 34, 35, 36, 37, 38, 39, 40, 41, 42, 43, 44, 45, 46, 47, 48, 49, 50, 51, 52, 53, 54, 55, 56, 57, 58, 59, 60] (fun x : Nat × Nat × List InA × Tok × Tok => [(7, .ms x.2.2.2.1), (8, .sl 1 ((alvL x.2.2.1).map slI) (some x.2.2.2.2))]) (fun x => decG b6 r l (x.1, false) (insL x.2.2.1) x.2.2.2.1 x.2.2.2.2 (posL x.2.2.1))
  (fun x => x.1 ≤ l.length ∧ x.2.2.2.1.e = 59 ∧ x.2.2.2.1.s = 5 ∧ x.2.2.2.2.e = 23 ∧ (∀ p ∈ posL x.2.2.1, p < x.1) ∧ x.2.2.1.length ≤ x.1 ∧ l.length ≤ x.1 + x.2.1 ∧ codeAt l l.length 0 = (codeAt l x.2.1 x.1).map (x.2.2.1 ++ ·)) (fun x => l.length - x.1)
  (0, l.length, [], nilTok 5 59, nilTok 1 23) ⟨Nat.zero_le _, rfl, rfl, rfl, by simp, by simp, by simp, by simp⟩ (by repeat' (first|exact trivial|refine And.intro ?_ ?_|exact Wk.nilRow _ _|exact Wk.nilTok _ _|exact Wk.refl _)) ?_
 rintro ⟨k, n, pre, tc, ta⟩ ⟨hk, hc1, hc2, ha, hp, hpl, hn, he⟩
 dsimp only at hk hc1 hc2 ha hp hpl hn he ⊢
 conv => whnf
 repeat' (first|((first|((first|(apply zY;intro hg)|apply zZ);first|exact stA|exact stB|exact stC)|(refine zW ?_ ?_;exact gA)|refine zH rfl ?_|refine zA ?_|refine zI bA ?_|refine zI rfl ?_|refine sB ?_|(refine zO ?_ ?_ ?_;omega;omega)|(refine zP ?_ ?_ ?_;omega;omega)|refine zM rfl ?_|(refine zQ ?_ ?_ ?_;omega;omega)|(refine zR ?_ ?_;omega)|(refine zI ?_ ?_;exact nA)|refine sS ?_|refine sF ?_|refine n0 ?_|refine sD ?_|intro _|refine zG ?_);conv=>whnf)|(refine zX (fun hc => ?_) (fun hc => ?_)<;>(try simp only [SY] at hc)<;>first|omega|(conv=>whnf)))
 ·have hlt : k < l.length := by omega
  refine PLenM.map fun _ => ?_
  conv => whnf
  repeat' (first|((first|((first|(apply zY;intro hg)|apply zZ);first|exact stA|exact stB|exact stC)|(refine zW ?_ ?_;exact gA)|refine zH rfl ?_|refine zA ?_|refine zI bA ?_|refine zI rfl ?_|refine sB ?_|(refine zO ?_ ?_ ?_;omega;omega)|(refine zP ?_ ?_ ?_;omega;omega)|refine zM rfl ?_|(refine zQ ?_ ?_ ?_;omega;omega)|(refine zR ?_ ?_;omega)|(refine zI ?_ ?_;exact nA)|refine sS ?_|refine sF ?_|refine n0 ?_|refine sD ?_|intro _|refine zG ?_);conv=>whnf)|(refine zX (fun hc => ?_) (fun hc => ?_)<;>(try simp only [SY] at hc)<;>first|omega|(conv=>whnf)))
  have hpf : upd (posF (posL pre)) (k : Int) ((insL pre).length : Int) = posF (posL pre ++ [(k : Int)]) := by
   rw [show (insL pre).length = (posL pre).length by simp]
   exact posF_app _ _ fun h => by have := hp _ h; omega
  refine PMapPut.num ((insL pre).length : Int) rfl ?_
  rw [show upd (posF (posL pre)) (((k, false) : RdS).1 : Int) ((insL pre).length : Int) = posF (posL pre ++ [(k : Int)]) from hpf]
  have hk1 := wordS_le l (k, false) hk
  have hk2 := wordS_le l _ hk1
  have hk3 := wordS_le l _ hk2
  have hk4 := wordS_le l _ hk3
  have hk5 := listS_le l _ hk4
  have hk6 := listS_le l _ hk5
  conv => whnf
  repeat' (first|((first|((first|(apply zY;intro hg)|apply zZ);first|exact stA|exact stB|exact stC)|(refine zW ?_ ?_;exact gA)|refine zH rfl ?_|refine zA ?_|refine zI bA ?_|refine zI rfl ?_|refine sB ?_|(refine zO ?_ ?_ ?_;omega;omega)|(refine zP ?_ ?_ ?_;omega;omega)|refine zM rfl ?_|(refine zQ ?_ ?_ ?_;omega;omega)|(refine zR ?_ ?_;omega)|(refine zI ?_ ?_;exact nA)|refine sS ?_|refine sF ?_|refine n0 ?_|refine sD ?_|intro _|refine zG ?_);conv=>whnf)|(refine zX (fun hc => ?_) (fun hc => ?_)<;>(try simp only [SY] at hc)<;>first|omega|(conv=>whnf)))
  refine PCall.go (word_c b6 l (k, false) hk hl) (WkT.refl _) ?_
  rintro _ _ ⟨rfl, rfl⟩
  conv => whnf
  repeat' (first|((first|((first|(apply zY;intro hg)|apply zZ);first|exact stA|exact stB|exact stC)|(refine zW ?_ ?_;exact gA)|refine zH rfl ?_|refine zA ?_|refine zI bA ?_|refine zI rfl ?_|refine sB ?_|(refine zO ?_ ?_ ?_;omega;omega)|(refine zP ?_ ?_ ?_;omega;omega)|refine zM rfl ?_|(refine zQ ?_ ?_ ?_;omega;omega)|(refine zR ?_ ?_;omega)|(refine zI ?_ ?_;exact nA)|refine sS ?_|refine sF ?_|refine n0 ?_|refine sD ?_|intro _|refine zG ?_);conv=>whnf)|(refine zX (fun hc => ?_) (fun hc => ?_)<;>(try simp only [SY] at hc)<;>first|omega|(conv=>whnf)))
  refine PCall.go (word_c b6 l _ hk1 hl) (WkT.refl _) ?_
  rintro _ _ ⟨rfl, rfl⟩
  conv => whnf
  repeat' (first|((first|((first|(apply zY;intro hg)|apply zZ);first|exact stA|exact stB|exact stC)|(refine zW ?_ ?_;exact gA)|refine zH rfl ?_|refine zA ?_|refine zI bA ?_|refine zI rfl ?_|refine sB ?_|(refine zO ?_ ?_ ?_;omega;omega)|(refine zP ?_ ?_ ?_;omega;omega)|refine zM rfl ?_|(refine zQ ?_ ?_ ?_;omega;omega)|(refine zR ?_ ?_;omega)|(refine zI ?_ ?_;exact nA)|refine sS ?_|refine sF ?_|refine n0 ?_|refine sD ?_|intro _|refine zG ?_);conv=>whnf)|(refine zX (fun hc => ?_) (fun hc => ?_)<;>(try simp only [SY] at hc)<;>first|omega|(conv=>whnf)))
  refine PCall.go (word_c b6 l _ hk2 hl) (WkT.refl _) ?_
  rintro _ _ ⟨rfl, rfl⟩
  conv => whnf
  repeat' (first|((first|((first|(apply zY;intro hg)|apply zZ);first|exact stA|exact stB|exact stC)|(refine zW ?_ ?_;exact gA)|refine zH rfl ?_|refine zA ?_|refine zI bA ?_|refine zI rfl ?_|refine sB ?_|(refine zO ?_ ?_ ?_;omega;omega)|(refine zP ?_ ?_ ?_;omega;omega)|refine zM rfl ?_|(refine zQ ?_ ?_ ?_;omega;omega)|(refine zR ?_ ?_;omega)|(refine zI ?_ ?_;exact nA)|refine sS ?_|refine sF ?_|refine n0 ?_|refine sD ?_|intro _|refine zG ?_);conv=>whnf)|(refine zX (fun hc => ?_) (fun hc => ?_)<;>(try simp only [SY] at hc)<;>first|omega|(conv=>whnf)))
  refine PCall.go (word_c b6 l _ hk3 hl) (WkT.refl _) ?_
  rintro _ _ ⟨rfl, rfl⟩
  conv => whnf
  repeat' (first|((first|((first|(apply zY;intro hg)|apply zZ);first|exact stA|exact stB|exact stC)|(refine zW ?_ ?_;exact gA)|refine zH rfl ?_|refine zA ?_|refine zI bA ?_|refine zI rfl ?_|refine sB ?_|(refine zO ?_ ?_ ?_;omega;omega)|(refine zP ?_ ?_ ?_;omega;omega)|refine zM rfl ?_|(refine zQ ?_ ?_ ?_;omega;omega)|(refine zR ?_ ?_;omega)|(refine zI ?_ ?_;exact nA)|refine sS ?_|refine sF ?_|refine n0 ?_|refine sD ?_|intro _|refine zG ?_);conv=>whnf)|(refine zX (fun hc => ?_) (fun hc => ?_)<;>(try simp only [SY] at hc)<;>first|omega|(conv=>whnf)))
  refine PCall.go (list_c b6 l _ hk4 hl) (WkT.refl _) ?_
  rintro _ _ ⟨rfl, rfl⟩
  conv => whnf
  repeat' (first|((first|((first|(apply zY;intro hg)|apply zZ);first|exact stA|exact stB|exact stC)|(refine zW ?_ ?_;exact gA)|refine zH rfl ?_|refine zA ?_|refine zI bA ?_|refine zI rfl ?_|refine sB ?_|(refine zO ?_ ?_ ?_;omega;omega)|(refine zP ?_ ?_ ?_;omega;omega)|refine zM rfl ?_|(refine zQ ?_ ?_ ?_;omega;omega)|(refine zR ?_ ?_;omega)|(refine zI ?_ ?_;exact nA)|refine sS ?_|refine sF ?_|refine n0 ?_|refine sD ?_|intro _|refine zG ?_);conv=>whnf)|(refine zX (fun hc => ?_) (fun hc => ?_)<;>(try simp only [SY] at hc)<;>first|omega|(conv=>whnf)))
  refine PCall.go (list_c b6 l _ hk5 hl) (WkT.refl _) ?_
  rintro _ _ ⟨rfl, rfl⟩
  conv => whnf
  repeat' (first|((first|((first|(apply zY;intro hg)|apply zZ);first|exact stA|exact stB|exact stC)|(refine zW ?_ ?_;exact gA)|refine zH rfl ?_|refine zA ?_|refine zI bA ?_|refine zI rfl ?_|refine sB ?_|(refine zO ?_ ?_ ?_;omega;omega)|(refine zP ?_ ?_ ?_;omega;omega)|refine zM rfl ?_|(refine zQ ?_ ?_ ?_;omega;omega)|(refine zR ?_ ?_;omega)|(refine zI ?_ ?_;exact nA)|refine sS ?_|refine sF ?_|refine n0 ?_|refine sD ?_|intro _|refine zG ?_);conv=>whnf)|(refine zX (fun hc => ?_) (fun hc => ?_)<;>(try simp only [SY] at hc)<;>first|omega|(conv=>whnf)))
  ·have hdec : decF l = none := by
    obtain ⟨n', rfl⟩ : ∃ n', n = n' + 1 := ⟨n - 1, by omega⟩
    rw [codeAt, if_pos hlt, insAt_run, if_pos hc] at he
    unfold decF
    rw [he]
    rfl
   rw [decPV, hdec]
   exact PRet.pure (Wk.tup (.cons (Wk.nil' rfl) (.cons (Wk.nil' rfl) (.cons (Wk.ff rfl) .nil))))
  ·obtain ⟨n', rfl⟩ : ∃ n', n = n' + 1 := ⟨n - 1, by omega⟩
   have hrun := insAt_run l k
   rw [if_neg (by rw [hc]; simp)] at hrun
   rw [codeAt, if_pos hlt, hrun] at he
   have hgt := insAt_gt hrun
   rcases h6 : listS l (listS l (wordS l (wordS l (wordS l (wordS l (k, false)))))) with ⟨bh, w⟩
   have e6 : rd6 l k = (bh, w) := h6
   rw [e6] at hgt he
   rw [h6] at hc
   dsimp only at hc hgt he
   subst hc
   generalize hx : rdX l k = x at *
   generalize hal : listV l (listS l (rd4 l k)) = al at *
   have hins : (⟨wordV l (k, false), wordV l (wordS l (k, false)), wordV l (wordS l (wordS l (k, false))), wordV l (wordS l (wordS l (wordS l (k, false)))), listV l (wordS l (wordS l (wordS l (wordS l (k, false)))))⟩ : Ins) = x := hx
   have hals : listV l (listS l (wordS l (wordS l (wordS l (wordS l (k, false)))))) = al := hal
   rw [hins]
   try rw [hals]
   have hm : codeAt l l.length 0 = (codeAt l n' bh).map ((pre ++ [(k, x, al)]) ++ ·) := by
    rw [he]
    cases codeAt l n' bh <;> simp
   rw [show insL pre ++ [x] = insL (pre ++ [(k, x, al)]) by simp, show alvL pre ++ [al] = alvL (pre ++ [(k, x, al)]) by simp, show posL pre ++ [(k : Int)] = posL (pre ++ [(k, x, al)]) by simp]
   rename_i ta2 hta2 tX htX tc2 htc2 hts2
   exact loopTo (bh, n', pre ++ [(k, x, al)], tc2, ta2) ⟨hgt.2, htc2, hts2, hta2, by
    intro p hp2
    simp only [posL, List.map_append, List.mem_append, List.map_cons, List.map_nil, List.mem_singleton] at hp2
    rcases hp2 with hp2 | hp2
    ·have := hp p hp2; dsimp only; omega
    ·dsimp only; omega, by simp; omega, by dsimp only; omega, hm⟩ (by show l.length - bh < l.length - k; omega) wA
 ·have he2 : codeAt l l.length 0 = some pre := by
   rw [he]
   cases n with
   | zero => simp [codeAt]
   | succ n => rw [codeAt, if_neg (by omega)]; simp
  have hdf : decF l = (jmpsF (posL pre) (insL pre)).map fun x => (x, alvL pre) := by unfold decF; rw [he2]
  refine PLenM.map fun _ => ?_
  conv => whnf
  repeat' (first|((first|((first|(apply zY;intro hg)|apply zZ);first|exact stA|exact stB|exact stC)|(refine zW ?_ ?_;exact gA)|refine zH rfl ?_|refine zA ?_|refine zI bA ?_|refine zI rfl ?_|refine sB ?_|(refine zO ?_ ?_ ?_;omega;omega)|(refine zP ?_ ?_ ?_;omega;omega)|refine zM rfl ?_|(refine zQ ?_ ?_ ?_;omega;omega)|(refine zR ?_ ?_;omega)|(refine zI ?_ ?_;exact nA)|refine sS ?_|refine sF ?_|refine n0 ?_|refine sD ?_|intro _|refine zG ?_);conv=>whnf)|(refine zX (fun hc => ?_) (fun hc => ?_)<;>(try simp only [SY] at hc)<;>first|omega|(conv=>whnf)))
  refine PLoop.over [2, 3, 4, 10, 11, 12, 13, 14, 63, 64, 65, 66, 67, 68, 69, 70, 71, 72, 73, 74, 75, 76, 77, 78, 79, 80, 81, 82, 83, 84, 85, 86, 87, 88, 89, 90, 91, 92, 93, 94, 95] (fun x : Nat × List Ins => [(63, .int .i64 x.1)]) (fun x => decG b6 r l (k, false) x.2 tc ta (posL pre))
   (fun x => x.1 ≤ (insL pre).length ∧ ∃ ys, x.2 = ys ++ (insL pre).drop x.1 ∧ ys.length = x.1 ∧ jmpsF (posL pre) (insL pre) = (jmpsF (posL pre) ((insL pre).drop x.1)).map (ys ++ ·)) (fun x => (insL pre).length - x.1)
   (0, insL pre) ⟨Nat.zero_le _, [], by simp, rfl, by simp⟩ wA ?_
  rintro ⟨i, rw0⟩ ⟨hi, ys, hrw, hyl, hj⟩
  dsimp only at hi hrw hyl hj ⊢
  generalize insL pre = cs at *
  have hrl : rw0.length = cs.length := by rw [hrw, List.length_append, List.length_drop]; omega
  have hstep : ∀ h : i < rw0.length, jmpsF (posL pre) cs = (match jmpF (posL pre) rw0[i] with
    | none => none
    | some y => (jmpsF (posL pre) (cs.drop (i + 1))).map (y :: ·)).map (ys ++ ·) := fun h => by
   have hic : i < cs.length := by omega
   have hg : rw0[i] = cs[i] := by
    simp only [hrw]
    rw [List.getElem_append_right (by omega)]
    simp [hyl]
   rw [hj, drop_at hic, jmpsF, hg]
   cases jmpF (posL pre) cs[i] <;> rfl
  have hset : ∀ v : Ins, i < rw0.length → rw0.set i v = (ys ++ [v]) ++ cs.drop (i + 1) := fun v h => by
   have hic : i < cs.length := by omega
   rw [hrw, List.set_append_right _ _ (by omega), hyl, Nat.sub_self, drop_at hic, List.set_cons_zero, List.append_assoc]
   rfl
  conv => whnf
  repeat' (first|((first|((first|(apply zY;intro hg)|apply zZ);first|exact stA|exact stB|exact stC)|(refine zW ?_ ?_;exact gA)|refine zH rfl ?_|refine zA ?_|refine zI bA ?_|refine zI rfl ?_|refine sB ?_|(refine zO ?_ ?_ ?_;omega;omega)|(refine zP ?_ ?_ ?_;omega;omega)|refine zM rfl ?_|(refine zQ ?_ ?_ ?_;omega;omega)|(refine zR ?_ ?_;omega)|(refine zI ?_ ?_;exact nA)|refine sS ?_|refine sF ?_|refine n0 ?_|refine sD ?_|intro _|refine zG ?_);conv=>whnf)|(refine zX (fun hc => ?_) (fun hc => ?_)<;>(try simp only [SY] at hc)<;>first|omega|(conv=>whnf)))
  ·have hlt : i < rw0.length := by omega
   have hj := hstep hlt
   have hset := fun v => hset v hlt
   rcases Classical.em (idxL (posL pre) rw0[i].a 0 ≥ 0) with hq | hq
   ·have hjf : jmpF (posL pre) rw0[i] = some ⟨rw0[i].op, rw0[i].d, idxL (posL pre) rw0[i].a 0, rw0[i].b, rw0[i].l⟩ := by rw [jmpF, if_pos hc]; rw [if_pos hq]
    refine yH (show posF (posL pre) rw0[i].a = some (idxL (posL pre) rw0[i].a 0) from if_pos hq) ?_
    conv => whnf
    repeat' (first|((first|((first|(apply zY;intro hg)|apply zZ);first|exact stA|exact stB|exact stC)|(refine zW ?_ ?_;exact gA)|refine zH rfl ?_|refine zA ?_|refine zI bA ?_|refine zI rfl ?_|refine sB ?_|(refine zO ?_ ?_ ?_;omega;omega)|(refine zP ?_ ?_ ?_;omega;omega)|refine zM rfl ?_|(refine zQ ?_ ?_ ?_;omega;omega)|(refine zR ?_ ?_;omega)|(refine zI ?_ ?_;exact nA)|refine sS ?_|refine sF ?_|refine n0 ?_|refine sD ?_|intro _|refine zG ?_);conv=>whnf)|(refine zX (fun hc => ?_) (fun hc => ?_)<;>(try simp only [SY] at hc)<;>first|omega|(conv=>whnf)))
    refine PStore.row (f := Ins.pv) (l := rw0) (⟨rw0[i].op, rw0[i].d, idxL (posL pre) rw0[i].a 0, rw0[i].b, rw0[i].l⟩ : Ins) hlt rfl rfl rfl (xs := [.int .i64 (idxL (posL pre) rw0[i].a 0)]) (WkL.refl _) rfl ?_
    rw [hjf] at hj
    generalize (⟨rw0[i].op, rw0[i].d, idxL (posL pre) rw0[i].a 0, rw0[i].b, rw0[i].l⟩ : Ins) = v at *
    conv => whnf
    repeat' (first|((first|((first|(apply zY;intro hg)|apply zZ);first|exact stA|exact stB|exact stC)|(refine zW ?_ ?_;exact gA)|refine zH rfl ?_|refine zA ?_|refine zI bA ?_|refine zI rfl ?_|refine sB ?_|(refine zO ?_ ?_ ?_;omega;omega)|(refine zP ?_ ?_ ?_;omega;omega)|refine zM rfl ?_|(refine zQ ?_ ?_ ?_;omega;omega)|(refine zR ?_ ?_;omega)|(refine zI ?_ ?_;exact nA)|refine sS ?_|refine sF ?_|refine n0 ?_|refine sD ?_|intro _|refine zG ?_);conv=>whnf)|(refine zX (fun hc => ?_) (fun hc => ?_)<;>(try simp only [SY] at hc)<;>first|omega|(conv=>whnf)))
    exact loopTo (i + 1, rw0.set i v) ⟨by show i + 1 ≤ _; omega, ys ++ [v], hset v, by simp [hyl], by dsimp only; rw [hj]; cases jmpsF (posL pre) (cs.drop (i + 1)) <;> simp⟩ (by show cs.length - (i + 1) < cs.length - i; omega) wA
   ·have hjf : jmpF (posL pre) rw0[i] = none := by rw [jmpF, if_pos hc]; rw [if_neg hq]
    refine yI (show posF (posL pre) rw0[i].a = none from if_neg hq) ?_
    conv => whnf
    repeat' (first|((first|((first|(apply zY;intro hg)|apply zZ);first|exact stA|exact stB|exact stC)|(refine zW ?_ ?_;exact gA)|refine zH rfl ?_|refine zA ?_|refine zI bA ?_|refine zI rfl ?_|refine sB ?_|(refine zO ?_ ?_ ?_;omega;omega)|(refine zP ?_ ?_ ?_;omega;omega)|refine zM rfl ?_|(refine zQ ?_ ?_ ?_;omega;omega)|(refine zR ?_ ?_;omega)|(refine zI ?_ ?_;exact nA)|refine sS ?_|refine sF ?_|refine n0 ?_|refine sD ?_|intro _|refine zG ?_);conv=>whnf)|(refine zX (fun hc => ?_) (fun hc => ?_)<;>(try simp only [SY] at hc)<;>first|omega|(conv=>whnf)))
    rw [hjf] at hj
    rw [decPV, hdf, hj]
    exact PRet.pure (Wk.tup (.cons (Wk.nil' rfl) (.cons (Wk.nil' rfl) (.cons (Wk.ff rfl) .nil))))
  ·have hlt : i < rw0.length := by omega
   have hj := hstep hlt
   have hset := fun v => hset v hlt
   rcases Classical.em (idxL (posL pre) rw0[i].b 0 ≥ 0) with hq | hq
   ·have hjf : jmpF (posL pre) rw0[i] = some ⟨rw0[i].op, rw0[i].d, rw0[i].a, idxL (posL pre) rw0[i].b 0, rw0[i].l⟩ := by rw [jmpF, if_neg (by omega), if_pos hc]; rw [if_pos hq]
    refine yH (show posF (posL pre) rw0[i].b = some (idxL (posL pre) rw0[i].b 0) from if_pos hq) ?_
    conv => whnf
    repeat' (first|((first|((first|(apply zY;intro hg)|apply zZ);first|exact stA|exact stB|exact stC)|(refine zW ?_ ?_;exact gA)|refine zH rfl ?_|refine zA ?_|refine zI bA ?_|refine zI rfl ?_|refine sB ?_|(refine zO ?_ ?_ ?_;omega;omega)|(refine zP ?_ ?_ ?_;omega;omega)|refine zM rfl ?_|(refine zQ ?_ ?_ ?_;omega;omega)|(refine zR ?_ ?_;omega)|(refine zI ?_ ?_;exact nA)|refine sS ?_|refine sF ?_|refine n0 ?_|refine sD ?_|intro _|refine zG ?_);conv=>whnf)|(refine zX (fun hc => ?_) (fun hc => ?_)<;>(try simp only [SY] at hc)<;>first|omega|(conv=>whnf)))
    refine PStore.row (f := Ins.pv) (l := rw0) (⟨rw0[i].op, rw0[i].d, rw0[i].a, idxL (posL pre) rw0[i].b 0, rw0[i].l⟩ : Ins) hlt rfl rfl rfl (xs := [.int .i64 (idxL (posL pre) rw0[i].b 0)]) (WkL.refl _) rfl ?_
    rw [hjf] at hj
    generalize (⟨rw0[i].op, rw0[i].d, rw0[i].a, idxL (posL pre) rw0[i].b 0, rw0[i].l⟩ : Ins) = v at *
    conv => whnf
    repeat' (first|((first|((first|(apply zY;intro hg)|apply zZ);first|exact stA|exact stB|exact stC)|(refine zW ?_ ?_;exact gA)|refine zH rfl ?_|refine zA ?_|refine zI bA ?_|refine zI rfl ?_|refine sB ?_|(refine zO ?_ ?_ ?_;omega;omega)|(refine zP ?_ ?_ ?_;omega;omega)|refine zM rfl ?_|(refine zQ ?_ ?_ ?_;omega;omega)|(refine zR ?_ ?_;omega)|(refine zI ?_ ?_;exact nA)|refine sS ?_|refine sF ?_|refine n0 ?_|refine sD ?_|intro _|refine zG ?_);conv=>whnf)|(refine zX (fun hc => ?_) (fun hc => ?_)<;>(try simp only [SY] at hc)<;>first|omega|(conv=>whnf)))
    exact loopTo (i + 1, rw0.set i v) ⟨by show i + 1 ≤ _; omega, ys ++ [v], hset v, by simp [hyl], by dsimp only; rw [hj]; cases jmpsF (posL pre) (cs.drop (i + 1)) <;> simp⟩ (by show cs.length - (i + 1) < cs.length - i; omega) wA
   ·have hjf : jmpF (posL pre) rw0[i] = none := by rw [jmpF, if_neg (by omega), if_pos hc]; rw [if_neg hq]
    refine yI (show posF (posL pre) rw0[i].b = none from if_neg hq) ?_
    conv => whnf
    repeat' (first|((first|((first|(apply zY;intro hg)|apply zZ);first|exact stA|exact stB|exact stC)|(refine zW ?_ ?_;exact gA)|refine zH rfl ?_|refine zA ?_|refine zI bA ?_|refine zI rfl ?_|refine sB ?_|(refine zO ?_ ?_ ?_;omega;omega)|(refine zP ?_ ?_ ?_;omega;omega)|refine zM rfl ?_|(refine zQ ?_ ?_ ?_;omega;omega)|(refine zR ?_ ?_;omega)|(refine zI ?_ ?_;exact nA)|refine sS ?_|refine sF ?_|refine n0 ?_|refine sD ?_|intro _|refine zG ?_);conv=>whnf)|(refine zX (fun hc => ?_) (fun hc => ?_)<;>(try simp only [SY] at hc)<;>first|omega|(conv=>whnf)))
    rw [hjf] at hj
    rw [decPV, hdf, hj]
    exact PRet.pure (Wk.tup (.cons (Wk.nil' rfl) (.cons (Wk.nil' rfl) (.cons (Wk.ff rfl) .nil))))
  ·have hlt : i < rw0.length := by omega
   have hjf : jmpF (posL pre) rw0[i] = some rw0[i] := by rw [jmpF, if_neg (by omega), if_neg (by omega)]
   have hj2 := hstep hlt
   rw [hjf] at hj2
   have hs2 := hset rw0[i] hlt
   rw [List.set_getElem_self] at hs2
   exact loopTo (i + 1, rw0) ⟨by show i + 1 ≤ _; omega, ys ++ [rw0[i]], hs2, by simp [hyl], by dsimp only; rw [hj2]; cases jmpsF (posL pre) (cs.drop (i + 1)) <;> simp⟩ (by show cs.length - (i + 1) < cs.length - i; omega) wA
  ·obtain rfl : i = cs.length := by omega
   rw [List.drop_of_length_le (Nat.le_refl _)] at hj hrw
   rw [jmpsF, Option.map_some, List.append_nil] at hj
   rw [List.append_nil] at hrw
   rw [decPV, hdf, hj, hrw]
   exact PRet.frzE (t := tc) (es := ys.map Ins.pv) (Γ' := []) (WkF.tup (.cons (WkF.ms' hc2) (.cons (WkF.of (Wk.tok _ _ _)) (.cons (WkF.of (Wk.tt rfl)) .nil)))) rfl
end Go.Cb
namespace Go.Cb
open Go.Proofs
set_option maxRecDepth 100000
set_option maxHeartbeats 4000000
instance ElOf.prc (a g : Int) (r : Bool) (x y : PV) (c : List Ins) (al : List (List Int)) [h : SlOf Ins.pv 5 x c] [k : SlOf slI 1 y al] : ElOf Prc.pv (.agg [.int .i64 a, .bool r, .int .i64 g, x, y]) ⟨a, r, g, c, al⟩ :=
 have e : WkL [.int .i64 a, .bool r, .int .i64 g, x, y] (Prc.cells ⟨a, r, g, c, al⟩) := .cons (Wk.refl _) (.cons (Wk.refl _) (.cons (Wk.refl _) (.cons h.wk (.cons k.wk .nil))))
 ⟨Wk.agg e, e⟩
abbrev rp3 (l : List Int) (k : Nat) : RdS := wordS l (wordS l (wordS l (k, false)))
theorem procAt_run (l : List Int) (k : Nat) : procAt l k = if (listS l (rp3 l k)).2 = true ∨ ¬(wordV l (wordS l (k, false)) = 0 ∨ wordV l (wordS l (k, false)) = 1) then none else match decF (listV l (rp3 l k)) with
  | none => none
  | some (c, al) => some (⟨wordV l (k, false), wordV l (wordS l (k, false)) == 1, wordV l (wordS l (wordS l (k, false))), c, al⟩, (listS l (rp3 l k)).1) := by
 unfold procAt
 by_cases h : k + 3 ≤ l.length
 ·have e3 : rp3 l k = (k + 3, false) := by
   unfold rp3
   rw [wordS_f (by omega), wordS_f (by omega), wordS_f (by omega)]
  rw [e3, wordS_f (by omega), wordS_f (by omega), wordV_f (by omega), wordV_f (by omega), wordV_f (by omega)]
  have h1 := listAt_run l (k + 3)
  rcases hs : listS l (k + 3, false) with ⟨n1, w1⟩
  rw [hs] at h1
  cases w1 with
  | true =>
   rw [if_pos rfl] at h1
   have hx : ∀ (p : Prop) [Decidable p] (x : Option (Prc × Nat)), (if ((n1, true) : RdS).2 = true ∨ p then none else x) = none := fun p _ x => if_pos (.inl rfl)
   rw [h1, hx]
   split <;> rfl
  | false =>
   rw [if_neg (by simp)] at h1
   obtain ⟨g1, g2, g3, _⟩ := listAt_gt h1
   by_cases hr : l.getD (k + 1) 0 = 0 ∨ l.getD (k + 1) 0 = 1
   ·rw [if_pos ⟨by omega, hr⟩, if_neg (fun q => q.elim (fun h => by cases h) (fun h => h hr)), h1]
    dsimp only
    cases decF (listV l (k + 3, false)) <;> rfl
   ·rw [if_neg (fun q => hr q.2), if_pos (.inr hr)]
 ·rw [if_neg (fun q => by omega), if_pos]
  left
  have hw : ∀ s : RdS, s.2 = true → (wordS l s).2 = true := fun s hs => by
   obtain ⟨a, b⟩ := s
   simp only at hs
   subst hs
   rw [wordS_t]
  have hl : (rp3 l k).2 = true := by
   by_cases h0 : k < l.length
   ·rw [rp3, wordS_f h0]
    by_cases h1 : k + 1 < l.length
    ·rw [wordS_f h1, wordS_b (by omega)]
    ·rw [wordS_b h1]
     exact hw _ rfl
   ·rw [rp3, wordS_b h0]
    exact hw _ (hw _ rfl)
  rcases hs : rp3 l k with ⟨a, b⟩
  rw [hs] at hl
  simp only at hl
  subst hl
  rw [listS_t]
def readPV (l : List Int) : PV := .tup [.sl 5 ((readR l).1.map Prc.pv) none, .int .i64 (readR l).2]
theorem readPV_none {l : List Int} (h : readF l = none) : readPV l = .tup [.sl 5 (([] : List Prc).map Prc.pv) none, .int .i64 5] := by unfold readPV readR; rw [h]
theorem ill_wk : Wk (.tup [.nil, .int .i64 5]) (.tup [.sl 5 (([] : List Prc).map Prc.pv) none, .int .i64 5]) := Wk.tup (.cons (Wk.nil' rfl) (.cons (Wk.refl _) .nil))
theorem read_c (l : List Int) (hl : l.length ≤ 1000000000) : ACallP Tryz.prog 20 [slI l] (readPV l) := by
 have hk0 := wordS_le l (0, false) (Nat.zero_le _)
 have hk1 := listS_le l _ hk0
 refine ACall.of_body tt_ok Tryz.func20 rfl rfl (n := 95) rfl rfl ?_
 conv => whnf
 repeat ((first|((first|(apply zY;intro hg)|apply zZ);first|exact stA|exact stB|exact stC)|(refine zW ?_ ?_;exact gA)|refine zH rfl ?_|refine zA ?_|refine zI bA ?_|refine zI rfl ?_|refine sB ?_|(refine zO ?_ ?_ ?_;omega;omega)|(refine zP ?_ ?_ ?_;omega;omega)|refine zM rfl ?_|(refine zQ ?_ ?_ ?_;omega;omega)|(refine zR ?_ ?_;omega)|(refine zI ?_ ?_;exact nA)|refine sS ?_|refine sF ?_|refine n0 ?_|refine sD ?_|intro _);conv=>whnf)
 rename_i b4
 refine PCall.goG (Ghost.box (b := b4) (cs := [slI l, .int .i64 0, .bfalse]) (cs' := [slI l, .int .i64 ((0 : Nat) : Int), .bool false]) (.cons (Wk.refl _) (.cons (Wk.refl _) (.cons (Wk.ff rfl) .nil)))) (word_c b4 l (0, false) (Nat.zero_le _) hl) (WkT.refl _) ?_
 rintro _ _ ⟨rfl, rfl⟩
 conv => whnf
 repeat' (first|((first|((first|(apply zY;intro hg)|apply zZ);first|exact stA|exact stB|exact stC)|(refine zW ?_ ?_;exact gA)|refine zH rfl ?_|refine zA ?_|refine zI bA ?_|refine zI rfl ?_|refine sB ?_|(refine zO ?_ ?_ ?_;omega;omega)|(refine zP ?_ ?_ ?_;omega;omega)|refine zM rfl ?_|(refine zQ ?_ ?_ ?_;omega;omega)|(refine zR ?_ ?_;omega)|(refine zI ?_ ?_;exact nA)|refine sS ?_|refine sF ?_|refine n0 ?_|refine sD ?_|intro _|refine zG ?_);conv=>whnf)|(refine zX (fun hc => ?_) (fun hc => ?_)<;>(try simp only [SY] at hc)<;>first|omega|(conv=>whnf)))
 ·have hn : readF l = none := by
   unfold readF
   rw [if_neg]
   rintro ⟨h1, h2⟩
   rw [wordV_f (by omega)] at hc
   exact hc h2
  rw [readPV_none hn]
  exact PRet.pure ill_wk
 ·refine PCall.go (list_c b4 l _ hk0 hl) (WkT.refl _) ?_
  rintro _ _ ⟨rfl, rfl⟩
  have hrd : readF l = if (listS l (wordS l (0, false))).2 = true then none else match procsAt l (listV l (wordS l (0, false))) (listS l (wordS l (0, false))).1 with
    | none => none
    | some (q, e) => if e = l.length then some q else none := by
   have hl0 : 0 < l.length := by
    apply Classical.byContradiction
    intro h
    have : wordV l (0, false) = 0 := by rw [wordV, if_pos (by simp only [wordW, Bool.or_eq_true, decide_eq_true_eq]; exact .inr (by show l.length ≤ 0; omega))]
    omega
   rw [wordS_f hl0]
   rw [wordV_f hl0] at hc
   have h1 := listAt_run l 1
   unfold readF
   rcases hs : listS l (0 + 1, false) with ⟨n1, w1⟩
   have hs1 : listS l (1, false) = (n1, w1) := hs
   rw [hs1] at h1
   cases w1 with
   | true =>
    rw [if_pos rfl] at h1
    rw [h1, if_pos rfl]
    split <;> rfl
   | false =>
    rw [if_neg (by simp)] at h1
    have hg := listAt_gt h1
    rw [if_pos ⟨by omega, hc⟩, h1, if_neg (by simp)]
    rfl
  have hps : (listS l (wordS l (0, false))).2 = true → listV l (wordS l (0, false)) = [] := fun h => by
   unfold listS at h
   unfold listV
   split at h
   ·rename_i hq; rw [if_pos hq]
   ·cases h
  have hpsl : (listV l (wordS l (0, false))).length ≤ l.length := by
   unfold listV
   split
   ·simp
   ·rw [List.length_take, List.length_drop]; omega
  generalize listV l (wordS l (0, false)) = ps at *
  generalize listS l (wordS l (0, false)) = s0 at *
  conv => whnf
  repeat' (first|((first|((first|(apply zY;intro hg)|apply zZ);first|exact stA|exact stB|exact stC)|(refine zW ?_ ?_;exact gA)|refine zH rfl ?_|refine zA ?_|refine zI bA ?_|refine zI rfl ?_|refine sB ?_|(refine zO ?_ ?_ ?_;omega;omega)|(refine zP ?_ ?_ ?_;omega;omega)|refine zM rfl ?_|(refine zQ ?_ ?_ ?_;omega;omega)|(refine zR ?_ ?_;omega)|(refine zI ?_ ?_;exact nA)|refine sS ?_|refine sF ?_|refine n0 ?_|refine sD ?_|intro _|refine zG ?_);conv=>whnf)|(refine zX (fun hc => ?_) (fun hc => ?_)<;>(try simp only [SY] at hc)<;>first|omega|(conv=>whnf)))
  refine PLoop.ghost (Ghost.nil 5 57 _) ?_
  refine PLoop.over [2, 3, 6, 8, 9, 10, 11, 12, 23, 24, 25, 26, 27, 28, 29, 30, 31, 32, 33, 34, 35, 36, 37, 38, 39, 40, 41, 42, 43, 44, 45, 46, 47, 48, 49, 50, 51, 52, 53, 54, 55, 56, 57, 58, 59, 60, 61, 62, 63, 64, 65, 66, 67, 68, 69, 70, 71, 72, 73, 74, 75, 76, 77, 78, 79, 80] (fun x : Nat × RdS × List Prc × Tok => [(6, .sl 5 (x.2.2.1.map Prc.pv) (some x.2.2.2)), (23, .int .i64 x.1)]) (fun x => [.tok x.2.2.2, rdE b4 l x.2.1])
   (fun x => x.1 ≤ ps.length ∧ x.2.2.2.e = 57 ∧ x.2.2.1.length = x.1 ∧ x.2.1.1 ≤ l.length ∧ (x.2.1.2 = true → s0.2 = true ∧ ps = []) ∧ (x.2.1.2 = false → s0.2 = false ∧ procsAt l ps s0.1 = (procsAt l (ps.drop x.1) x.2.1.1).map fun q => (x.2.2.1 ++ q.1, q.2))) (fun x => ps.length - x.1)
   (0, s0, [], nilTok 5 57) ⟨Nat.zero_le _, rfl, rfl, hk1, fun h => ⟨h, hps h⟩, fun h => ⟨h, by simp⟩⟩ wA ?_
  rintro ⟨i, ⟨k, w⟩, out, to⟩ ⟨hi, hto, hol, hk, hw1, hw2⟩
  dsimp only at hi hto hol hk hw1 hw2 ⊢
  conv => whnf
  repeat' (first|((first|((first|(apply zY;intro hg)|apply zZ);first|exact stA|exact stB|exact stC)|(refine zW ?_ ?_;exact gA)|refine zH rfl ?_|refine zA ?_|refine zI bA ?_|refine zI rfl ?_|refine sB ?_|(refine zO ?_ ?_ ?_;omega;omega)|(refine zP ?_ ?_ ?_;omega;omega)|refine zM rfl ?_|(refine zQ ?_ ?_ ?_;omega;omega)|(refine zR ?_ ?_;omega)|(refine zI ?_ ?_;exact nA)|refine sS ?_|refine sF ?_|refine n0 ?_|refine sD ?_|intro _|refine zG ?_);conv=>whnf)|(refine zX (fun hc => ?_) (fun hc => ?_)<;>(try simp only [SY] at hc)<;>first|omega|(conv=>whnf)))
  ·have hip : i < ps.length := by omega
   have hwf : w = false := by
    cases w with
    | false => rfl
    | true => have := (hw1 rfl).2; rw [this] at hip; simp at hip
   subst hwf
   obtain ⟨h0, hpr⟩ := hw2 rfl
   have hne : ¬ps[i] = (k : Int) := by
    rcases hc with hc | hc
    ·cases hc
    ·exact hc
   rw [drop_at hip, procsAt, if_neg hne] at hpr
   rw [if_neg (by rw [h0]; simp), hpr] at hrd
   rw [readPV_none hrd]
   exact PRet.pure ill_wk
  ·obtain ⟨rfl, hpe⟩ := hc
   have hip : i < ps.length := by omega
   obtain ⟨h0, hpr⟩ := hw2 rfl
   rw [drop_at hip, procsAt, if_pos hpe, procAt_run] at hpr
   have hk1 := wordS_le l (k, false) hk
   have hk2 := wordS_le l _ hk1
   have hk3 := wordS_le l _ hk2
   have hk4 := listS_le l _ hk3
   refine PCall.go (word_c b4 l (k, false) hk hl) (WkT.refl _) ?_
   rintro _ _ ⟨rfl, rfl⟩
   conv => whnf
   repeat' (first|((first|((first|(apply zY;intro hg)|apply zZ);first|exact stA|exact stB|exact stC)|(refine zW ?_ ?_;exact gA)|refine zH rfl ?_|refine zA ?_|refine zI bA ?_|refine zI rfl ?_|refine sB ?_|(refine zO ?_ ?_ ?_;omega;omega)|(refine zP ?_ ?_ ?_;omega;omega)|refine zM rfl ?_|(refine zQ ?_ ?_ ?_;omega;omega)|(refine zR ?_ ?_;omega)|(refine zI ?_ ?_;exact nA)|refine sS ?_|refine sF ?_|refine n0 ?_|refine sD ?_|intro _|refine zG ?_);conv=>whnf)|(refine zX (fun hc => ?_) (fun hc => ?_)<;>(try simp only [SY] at hc)<;>first|omega|(conv=>whnf)))
   refine PCall.go (word_c b4 l _ hk1 hl) (WkT.refl _) ?_
   rintro _ _ ⟨rfl, rfl⟩
   conv => whnf
   repeat' (first|((first|((first|(apply zY;intro hg)|apply zZ);first|exact stA|exact stB|exact stC)|(refine zW ?_ ?_;exact gA)|refine zH rfl ?_|refine zA ?_|refine zI bA ?_|refine zI rfl ?_|refine sB ?_|(refine zO ?_ ?_ ?_;omega;omega)|(refine zP ?_ ?_ ?_;omega;omega)|refine zM rfl ?_|(refine zQ ?_ ?_ ?_;omega;omega)|(refine zR ?_ ?_;omega)|(refine zI ?_ ?_;exact nA)|refine sS ?_|refine sF ?_|refine n0 ?_|refine sD ?_|intro _|refine zG ?_);conv=>whnf)|(refine zX (fun hc => ?_) (fun hc => ?_)<;>(try simp only [SY] at hc)<;>first|omega|(conv=>whnf)))
   refine PCall.go (word_c b4 l _ hk2 hl) (WkT.refl _) ?_
   rintro _ _ ⟨rfl, rfl⟩
   conv => whnf
   repeat' (first|((first|((first|(apply zY;intro hg)|apply zZ);first|exact stA|exact stB|exact stC)|(refine zW ?_ ?_;exact gA)|refine zH rfl ?_|refine zA ?_|refine zI bA ?_|refine zI rfl ?_|refine sB ?_|(refine zO ?_ ?_ ?_;omega;omega)|(refine zP ?_ ?_ ?_;omega;omega)|refine zM rfl ?_|(refine zQ ?_ ?_ ?_;omega;omega)|(refine zR ?_ ?_;omega)|(refine zI ?_ ?_;exact nA)|refine sS ?_|refine sF ?_|refine n0 ?_|refine sD ?_|intro _|refine zG ?_);conv=>whnf)|(refine zX (fun hc => ?_) (fun hc => ?_)<;>(try simp only [SY] at hc)<;>first|omega|(conv=>whnf)))
   refine PCall.go (list_c b4 l _ hk3 hl) (WkT.refl _) ?_
   rintro _ _ ⟨rfl, rfl⟩
   have hlv : (listV l (wordS l (wordS l (wordS l (k, false))))).length ≤ l.length := by
    unfold listV
    split
    ·simp
    ·rw [List.length_take, List.length_drop]; omega
   generalize wordV l (k, false) = v1 at *
   generalize wordV l (wordS l (k, false)) = v2 at *
   generalize wordV l (wordS l (wordS l (k, false))) = v3 at *
   change procsAt l ps s0.1 = Option.map _ (match (if (listS l (wordS l (wordS l (wordS l (k, false))))).2 = true ∨ ¬(v2 = 0 ∨ v2 = 1) then none else match decF (listV l (wordS l (wordS l (wordS l (k, false))))) with
    | none => none
    | some (c, al) => some ((⟨v1, v2 == 1, v3, c, al⟩ : Prc), (listS l (wordS l (wordS l (wordS l (k, false))))).1)) with
    | none => none
    | some (x, bh) => (procsAt l (ps.drop (i + 1)) bh).map fun q => (x :: q.1, q.2)) at hpr
   generalize listV l (wordS l (wordS l (wordS l (k, false)))) = ws at *
   generalize listS l (wordS l (wordS l (wordS l (k, false)))) = s4 at *
   obtain ⟨k4, w4⟩ := s4
   dsimp only at hk4 hpr ⊢
   conv => whnf
   repeat' (first|((first|((first|(apply zY;intro hg)|apply zZ);first|exact stA|exact stB|exact stC)|(refine zW ?_ ?_;exact gA)|refine zH rfl ?_|refine zA ?_|refine zI bA ?_|refine zI rfl ?_|refine sB ?_|(refine zO ?_ ?_ ?_;omega;omega)|(refine zP ?_ ?_ ?_;omega;omega)|refine zM rfl ?_|(refine zQ ?_ ?_ ?_;omega;omega)|(refine zR ?_ ?_;omega)|(refine zI ?_ ?_;exact nA)|refine sS ?_|refine sF ?_|refine n0 ?_|refine sD ?_|intro _|refine zG ?_);conv=>whnf)|(refine zX (fun hc => ?_) (fun hc => ?_)<;>(try simp only [SY] at hc)<;>first|omega|(conv=>whnf)))
   refine PCall.pure (decoded_c ws (by omega)) (WkT.refl _) ?_
   unfold decPV
   rcases hd : decF ws with _ | ⟨c, al⟩
   ·rw [hd] at hpr
    have hn : procsAt l ps s0.1 = none := by rw [hpr]; by_cases hC : w4 = true ∨ ¬(v2 = 0 ∨ v2 = 1) <;> simp [hC]
    rw [if_neg (by rw [h0]; simp), hn] at hrd
    dsimp only
    conv => whnf
    repeat' (first|((first|((first|(apply zY;intro hg)|apply zZ);first|exact stA|exact stB|exact stC)|(refine zW ?_ ?_;exact gA)|refine zH rfl ?_|refine zA ?_|refine zI bA ?_|refine zI rfl ?_|refine sB ?_|(refine zO ?_ ?_ ?_;omega;omega)|(refine zP ?_ ?_ ?_;omega;omega)|refine zM rfl ?_|(refine zQ ?_ ?_ ?_;omega;omega)|(refine zR ?_ ?_;omega)|(refine zI ?_ ?_;exact nA)|refine sS ?_|refine sF ?_|refine n0 ?_|refine sD ?_|intro _|refine zG ?_);conv=>whnf)|(refine zX (fun hc => ?_) (fun hc => ?_)<;>(try simp only [SY] at hc)<;>first|omega|(conv=>whnf)))
    rw [readPV_none hrd]
    exact PRet.pure ill_wk
   ·rw [hd] at hpr
    dsimp only at hpr ⊢
    conv => whnf
    repeat' (first|((first|((first|(apply zY;intro hg)|apply zZ);first|exact stA|exact stB|exact stC)|(refine zW ?_ ?_;exact gA)|refine zH rfl ?_|refine zA ?_|refine zI bA ?_|refine zI rfl ?_|refine sB ?_|(refine zO ?_ ?_ ?_;omega;omega)|(refine zP ?_ ?_ ?_;omega;omega)|refine zM rfl ?_|(refine zQ ?_ ?_ ?_;omega;omega)|(refine zR ?_ ?_;omega)|(refine zI ?_ ?_;exact nA)|refine sS ?_|refine sF ?_|refine n0 ?_|refine sD ?_|intro _|refine zG ?_);conv=>whnf)|(refine zX (fun hc => ?_) (fun hc => ?_)<;>(try simp only [SY] at hc)<;>first|omega|(conv=>whnf)))
    ·have hC : w4 = true ∨ ¬(v2 = 0 ∨ v2 = 1) := by
      rcases hc with hc | hc
      ·exact .inl hc
      ·exact .inr (by omega)
     have hn : procsAt l ps s0.1 = none := by rw [hpr, if_pos hC]; rfl
     rw [if_neg (by rw [h0]; simp), hn] at hrd
     rw [readPV_none hrd]
     exact PRet.pure ill_wk
    ·have hw4 : w4 = false := by
      cases w4 with
      | false => rfl
      | true => exact absurd hc (by simp)
     subst hw4
     rw [if_neg (by rintro (h | h); cases h; omega)] at hpr
     dsimp only at hpr
     rename_i t5 ht5
     refine loopTo (i + 1, (k4, false), out ++ [⟨v1, v2 == 1, v3, c, al⟩], t5) ⟨by show i + 1 ≤ _; omega, ht5, by simp; omega, hk4, ⟨fun h => absurd h (by simp), fun _ => ⟨h0, ?_⟩⟩⟩ (by show ps.length - (i + 1) < ps.length - i; omega) wA
     dsimp only
     rw [hpr]
     cases procsAt l (ps.drop (i + 1)) k4 <;> simp
  ·have hn : readF l = none := by
    rw [hrd]
    cases w with
    | true => rw [if_pos (hw1 rfl).1]
    | false =>
     obtain ⟨h0, hpr⟩ := hw2 rfl
     rw [List.drop_of_length_le (by omega), procsAt] at hpr
     rw [if_neg (by rw [h0]; simp), hpr]
     dsimp only [Option.map_some]
     rw [if_neg]
     rcases hc with hc | hc
     ·cases hc
     ·omega
   rw [readPV_none hn]
   exact PRet.pure ill_wk
  ·obtain ⟨rfl, hkl⟩ := hc
   have hn : readF l = some out := by
    obtain ⟨h0, hpr⟩ := hw2 rfl
    rw [List.drop_of_length_le (by omega), procsAt] at hpr
    rw [hrd, if_neg (by rw [h0]; simp), hpr]
    dsimp only [Option.map_some]
    rw [if_pos (by omega), List.append_nil]
   have hp : readPV l = .tup [.sl 5 (out.map Prc.pv) none, .int .i64 0] := by unfold readPV readR; rw [hn]
   rw [hp]
   exact PRet.pure (Wk.tup (.cons (Wk.tok _ _ _) (.cons (Wk.refl _) .nil)))
end Go.Cb
namespace Go.Cb
open Go.Proofs
set_option maxRecDepth 100000
set_option maxHeartbeats 4000000
instance (priority := high) ElOf.isame (t : Ins) : ElOf Ins.pv (Ins.pv t) t := ⟨Wk.refl _, WkL.refl _⟩
theorem indexFuncIns_c (k : Nat) (cap : List PV) (Γ1 : List Ent) (p : Ins → Bool) (l : List Ins) (hf : ∀ x ∈ l, ACall Tryz.prog k (.agg (Ins.cells x) :: cap) Γ1 (fun y Γ' => y = .bool (p x) ∧ Γ' = Γ1)) :
  ACall Tryz.prog 128 [.sl 5 (l.map Ins.pv) none, .fn (.func k) cap] Γ1 (fun y Γ' => y = .int .i64 (findI p l) ∧ Γ' = Γ1) := by
 refine ACall.of_body tt_ok Tryz.func128 rfl rfl (n := 19) rfl rfl ?_
 conv => whnf
 repeat ((first|((first|(apply zY;intro hg)|apply zZ);first|exact stA)|(refine zW ?_ ?_;exact gA)|refine zH rfl ?_|refine zA ?_|refine zI bA ?_|refine zI rfl ?_|refine sB ?_|(refine zO ?_ ?_ ?_;omega;omega)|(refine zP ?_ ?_ ?_;omega;omega)|refine zM rfl ?_|(refine zQ ?_ ?_ ?_;omega;omega)|(refine zR ?_ ?_;omega)|(refine zI ?_ ?_;exact nA)|refine sS ?_|refine sD ?_|intro _);conv=>whnf)
 refine PLoop.keep [4, 5, 8, 9, 10, 11, 12, 13, 14, 15, 16, 17, 18] (fun i : Nat => [(8, .int .i64 i)]) (fun i => i ≤ l.length ∧ findI p l = if findI p (l.drop i) = -1 then -1 else i + findI p (l.drop i)) (fun i => l.length - i) 0 ⟨by omega, by simp only [List.drop_zero]; split <;> omega⟩ wA ?_
 rintro i ⟨h1, h2⟩
 conv => whnf
 repeat' (first|((first|((first|(apply zY;intro hg)|apply zZ);first|exact stA)|(refine zW ?_ ?_;exact gA)|refine zH rfl ?_|refine zA ?_|refine zI bA ?_|refine zI rfl ?_|refine sB ?_|(refine zO ?_ ?_ ?_;omega;omega)|(refine zP ?_ ?_ ?_;omega;omega)|refine zM rfl ?_|(refine zQ ?_ ?_ ?_;omega;omega)|(refine zR ?_ ?_;omega)|(refine zI ?_ ?_;exact nA)|refine sS ?_|refine sD ?_|intro _|refine zG ?_);conv=>whnf)|(refine zX (fun hc => ?_) (fun hc => ?_)<;>(try simp only [SY] at hc)<;>first|omega|(conv=>whnf)))
 ·refine PCall.same (hf _ (List.getElem_mem (show i < l.length by omega))) (WkT.refl _) ?_
  rintro _ _ ⟨rfl, rfl⟩
  rw [drop_at (show i < l.length by omega), findI] at h2
  conv => whnf
  repeat' (first|((first|((first|(apply zY;intro hg)|apply zZ);first|exact stA)|(refine zW ?_ ?_;exact gA)|refine zH rfl ?_|refine zA ?_|refine zI bA ?_|refine zI rfl ?_|refine sB ?_|(refine zO ?_ ?_ ?_;omega;omega)|(refine zP ?_ ?_ ?_;omega;omega)|refine zM rfl ?_|(refine zQ ?_ ?_ ?_;omega;omega)|(refine zR ?_ ?_;omega)|(refine zI ?_ ?_;exact nA)|refine sS ?_|refine sD ?_|intro _|refine zG ?_);conv=>whnf)|(refine zX (fun hc => ?_) (fun hc => ?_)<;>(try simp only [SY] at hc)<;>first|omega|(conv=>whnf)))
  ·rw [hc] at h2
   refine PRet.gen (Wk.int ?_) ⟨rfl, rfl⟩
   simpa using h2.symm
  ·rw [hc] at h2
   refine loopTo (i + 1) ⟨by omega, ?_⟩ (by show l.length - (i + 1) < l.length - i; omega) wA
   rw [h2]
   have hg := findI_ge p (l.drop (i + 1))
   simp only [Bool.false_eq_true, if_false]
   split
   ·simp
   ·rw [if_neg (by omega)]; omega
 ·rw [List.drop_of_length_le (by omega)] at h2
  exact PRet.gen (Wk.int (by rw [h2]; rfl)) ⟨rfl, rfl⟩
theorem containsFuncIns_c (k : Nat) (cap : List PV) (Γ1 : List Ent) (p : Ins → Bool) (l : List Ins) (hf : ∀ x ∈ l, ACall Tryz.prog k (.agg (Ins.cells x) :: cap) Γ1 (fun y Γ' => y = .bool (p x) ∧ Γ' = Γ1)) :
  ACall Tryz.prog 74 [.sl 5 (l.map Ins.pv) none, .fn (.func k) cap] Γ1 (fun y Γ' => y = .bool (l.any p) ∧ Γ' = Γ1) := by
 refine ACall.of_body tt_ok Tryz.func74 rfl rfl (n := 9) rfl rfl ?_
 conv => whnf
 repeat ((first|((first|(apply zY;intro hg)|apply zZ);first|exact stA)|(refine zW ?_ ?_;exact gA)|refine zH rfl ?_|refine zA ?_|refine zI bA ?_|refine zI rfl ?_|refine sB ?_|(refine zO ?_ ?_ ?_;omega;omega)|(refine zP ?_ ?_ ?_;omega;omega)|refine zM rfl ?_|(refine zQ ?_ ?_ ?_;omega;omega)|(refine zR ?_ ?_;omega)|(refine zI ?_ ?_;exact nA)|refine sS ?_|refine sD ?_|intro _);conv=>whnf)
 refine PCall.same (indexFuncIns_c k cap Γ1 p l hf) (WkT.refl _) ?_
 rintro _ _ ⟨rfl, rfl⟩
 conv => whnf
 repeat ((first|((first|(apply zY;intro hg)|apply zZ);first|exact stA)|(refine zW ?_ ?_;exact gA)|refine zH rfl ?_|refine zA ?_|refine zI bA ?_|refine zI rfl ?_|refine sB ?_|(refine zO ?_ ?_ ?_;omega;omega)|(refine zP ?_ ?_ ?_;omega;omega)|refine zM rfl ?_|(refine zQ ?_ ?_ ?_;omega;omega)|(refine zR ?_ ?_;omega)|(refine zI ?_ ?_;exact nA)|refine sS ?_|refine sD ?_|intro _);conv=>whnf)
 exact PRet.gen (Wk.bool (findI_any p l)) ⟨rfl, rfl⟩
theorem indexFuncPrc_c (k : Nat) (cap : List PV) (Γ1 : List Ent) (p : Prc → Bool) (l : List Prc) (hf : ∀ x ∈ l, ACall Tryz.prog k (.agg (Prc.cells x) :: cap) Γ1 (fun y Γ' => y = .bool (p x) ∧ Γ' = Γ1)) :
  ACall Tryz.prog 102 [.sl 5 (l.map Prc.pv) none, .fn (.func k) cap] Γ1 (fun y Γ' => y = .int .i64 (findI p l) ∧ Γ' = Γ1) := by
 refine ACall.of_body tt_ok Tryz.func102 rfl rfl (n := 19) rfl rfl ?_
 conv => whnf
 repeat ((first|((first|(apply zY;intro hg)|apply zZ);first|exact stA)|(refine zW ?_ ?_;exact gA)|refine zH rfl ?_|refine zA ?_|refine zI bA ?_|refine zI rfl ?_|refine sB ?_|(refine zO ?_ ?_ ?_;omega;omega)|(refine zP ?_ ?_ ?_;omega;omega)|refine zM rfl ?_|(refine zQ ?_ ?_ ?_;omega;omega)|(refine zR ?_ ?_;omega)|(refine zI ?_ ?_;exact nA)|refine sS ?_|refine sD ?_|intro _);conv=>whnf)
 refine PLoop.keep [4, 5, 8, 9, 10, 11, 12, 13, 14, 15, 16, 17, 18] (fun i : Nat => [(8, .int .i64 i)]) (fun i => i ≤ l.length ∧ findI p l = if findI p (l.drop i) = -1 then -1 else i + findI p (l.drop i)) (fun i => l.length - i) 0 ⟨by omega, by simp only [List.drop_zero]; split <;> omega⟩ wA ?_
 rintro i ⟨h1, h2⟩
 conv => whnf
 repeat' (first|((first|((first|(apply zY;intro hg)|apply zZ);first|exact stA)|(refine zW ?_ ?_;exact gA)|refine zH rfl ?_|refine zA ?_|refine zI bA ?_|refine zI rfl ?_|refine sB ?_|(refine zO ?_ ?_ ?_;omega;omega)|(refine zP ?_ ?_ ?_;omega;omega)|refine zM rfl ?_|(refine zQ ?_ ?_ ?_;omega;omega)|(refine zR ?_ ?_;omega)|(refine zI ?_ ?_;exact nA)|refine sS ?_|refine sD ?_|intro _|refine zG ?_);conv=>whnf)|(refine zX (fun hc => ?_) (fun hc => ?_)<;>(try simp only [SY] at hc)<;>first|omega|(conv=>whnf)))
 ·refine PCall.same (hf _ (List.getElem_mem (show i < l.length by omega))) (WkT.refl _) ?_
  rintro _ _ ⟨rfl, rfl⟩
  rw [drop_at (show i < l.length by omega), findI] at h2
  conv => whnf
  repeat' (first|((first|((first|(apply zY;intro hg)|apply zZ);first|exact stA)|(refine zW ?_ ?_;exact gA)|refine zH rfl ?_|refine zA ?_|refine zI bA ?_|refine zI rfl ?_|refine sB ?_|(refine zO ?_ ?_ ?_;omega;omega)|(refine zP ?_ ?_ ?_;omega;omega)|refine zM rfl ?_|(refine zQ ?_ ?_ ?_;omega;omega)|(refine zR ?_ ?_;omega)|(refine zI ?_ ?_;exact nA)|refine sS ?_|refine sD ?_|intro _|refine zG ?_);conv=>whnf)|(refine zX (fun hc => ?_) (fun hc => ?_)<;>(try simp only [SY] at hc)<;>first|omega|(conv=>whnf)))
  ·rw [hc] at h2
   refine PRet.gen (Wk.int ?_) ⟨rfl, rfl⟩
   simpa using h2.symm
  ·rw [hc] at h2
   refine loopTo (i + 1) ⟨by omega, ?_⟩ (by show l.length - (i + 1) < l.length - i; omega) wA
   rw [h2]
   have hg := findI_ge p (l.drop (i + 1))
   simp only [Bool.false_eq_true, if_false]
   split
   ·simp
   ·rw [if_neg (by omega)]; omega
 ·rw [List.drop_of_length_le (by omega)] at h2
  exact PRet.gen (Wk.int (by rw [h2]; rfl)) ⟨rfl, rfl⟩
theorem containsFuncPrc_c (k : Nat) (cap : List PV) (Γ1 : List Ent) (p : Prc → Bool) (l : List Prc) (hf : ∀ x ∈ l, ACall Tryz.prog k (.agg (Prc.cells x) :: cap) Γ1 (fun y Γ' => y = .bool (p x) ∧ Γ' = Γ1)) :
  ACall Tryz.prog 55 [.sl 5 (l.map Prc.pv) none, .fn (.func k) cap] Γ1 (fun y Γ' => y = .bool (l.any p) ∧ Γ' = Γ1) := by
 refine ACall.of_body tt_ok Tryz.func55 rfl rfl (n := 9) rfl rfl ?_
 conv => whnf
 repeat ((first|((first|(apply zY;intro hg)|apply zZ);first|exact stA)|(refine zW ?_ ?_;exact gA)|refine zH rfl ?_|refine zA ?_|refine zI bA ?_|refine zI rfl ?_|refine sB ?_|(refine zO ?_ ?_ ?_;omega;omega)|(refine zP ?_ ?_ ?_;omega;omega)|refine zM rfl ?_|(refine zQ ?_ ?_ ?_;omega;omega)|(refine zR ?_ ?_;omega)|(refine zI ?_ ?_;exact nA)|refine sS ?_|refine sD ?_|intro _);conv=>whnf)
 refine PCall.same (indexFuncPrc_c k cap Γ1 p l hf) (WkT.refl _) ?_
 rintro _ _ ⟨rfl, rfl⟩
 conv => whnf
 repeat ((first|((first|(apply zY;intro hg)|apply zZ);first|exact stA)|(refine zW ?_ ?_;exact gA)|refine zH rfl ?_|refine zA ?_|refine zI bA ?_|refine zI rfl ?_|refine sB ?_|(refine zO ?_ ?_ ?_;omega;omega)|(refine zP ?_ ?_ ?_;omega;omega)|refine zM rfl ?_|(refine zQ ?_ ?_ ?_;omega;omega)|(refine zR ?_ ?_;omega)|(refine zI ?_ ?_;exact nA)|refine sS ?_|refine sD ?_|intro _);conv=>whnf)
 exact PRet.gen (Wk.bool (findI_any p l)) ⟨rfl, rfl⟩
end Go.Cb
namespace Go.Cb
open Go.Proofs
set_option maxRecDepth 100000
set_option maxHeartbeats 4000000
end Go.Cb
namespace Go.Cb
open Go.Proofs
set_option maxRecDepth 100000
set_option maxHeartbeats 4000000
structure Pts where
 d : Bool
 a : Bool
 b : Bool
 l : Bool
 n : Bool
 m : Bool
def Pts.cells (s : Pts) : List PV := [.bool s.d, .bool s.a, .bool s.b, .bool s.l, .bool s.n, .bool s.m]
def partsL (op : Int) : Pts × Bool :=
 if op = 0 ∨ op = 2 ∨ op = 5 ∨ op = 6 then (⟨true, false, false, false, true, false⟩, true) else
 if op = 3 ∨ op = 4 then (⟨true, false, false, false, false, false⟩, true) else
 if op = 1 ∨ op = 10 ∨ op = 11 ∨ op = 14 then (⟨true, true, false, false, false, false⟩, true) else
 if op = 7 ∨ op = 9 then (⟨true, false, false, true, true, false⟩, true) else
 if op = 8 ∨ op = 19 then (⟨false, true, false, true, false, false⟩, true) else
 if op = 12 ∨ op = 13 then (⟨false, true, true, false, false, false⟩, true) else
 if op = 15 then (⟨false, false, false, false, true, false⟩, true) else
 if op = 16 then (⟨false, true, false, false, false, true⟩, true) else
 if op = 17 then (⟨true, true, false, true, false, false⟩, true) else
 if op = 18 then (⟨true, false, true, true, true, false⟩, true) else
 if op = 20 then (⟨false, false, true, true, true, false⟩, true) else
 if op = 21 then (⟨false, false, false, true, true, false⟩, true) else
 if op = 22 then (⟨false, true, false, false, false, false⟩, true) else (⟨false, false, false, false, false, false⟩, false)
theorem partsOf_c (op : Int) : ACallP Tryz.prog 129 [.int .i64 op] (.tup [.agg (partsL op).1.cells, .bool (partsL op).2]) := by
 have hs : partsL op = partsL op := rfl
 conv at hs => rhs; unfold partsL
 refine ACall.of_body tt_ok Tryz.func129 rfl rfl (n := 56) rfl rfl ?_
 conv => whnf
 repeat' (first|((first|((first|(apply zY;intro hg)|apply zZ);first|exact stA|exact stB)|(refine zW ?_ ?_;exact gA)|refine zH rfl ?_|refine zA ?_|refine zI bA ?_|refine zI rfl ?_|refine sB ?_|(refine zO ?_ ?_ ?_;omega;omega)|(refine zP ?_ ?_ ?_;omega;omega)|refine zM rfl ?_|(refine zQ ?_ ?_ ?_;omega;omega)|(refine zR ?_ ?_;omega)|(refine zI ?_ ?_;exact nA)|refine sS ?_|refine sE ?_|refine n0 ?_|refine sD ?_|intro _|refine zG ?_);conv=>whnf)|(refine zX (fun hc => ?_) (fun hc => ?_)<;>(try simp only [SY] at hc)<;>first|omega|(conv=>whnf)))
 all_goals repeat (first|rw [if_neg (by omega)] at hs|rw [if_pos (by omega)] at hs)
 all_goals rw [hs]
 all_goals exact PRet.pure wA
def belB (n most : Int) : Bool := decide (n ≥ 0) && decide (n < most)
theorem below_c (n most : Int) : ACallP Tryz.prog 131 [.int .i64 n, .int .i64 most] (.bool (belB n most)) := by
 refine ACall.of_body tt_ok Tryz.func131 rfl rfl (n := 12) rfl rfl ?_
 conv => whnf
 repeat' (first|((first|((first|(apply zY;intro hg)|apply zZ);first|exact stA|exact stB)|(refine zW ?_ ?_;exact gA)|refine zH rfl ?_|refine zA ?_|refine zI bA ?_|refine zI rfl ?_|refine sB ?_|(refine zO ?_ ?_ ?_;omega;omega)|(refine zP ?_ ?_ ?_;omega;omega)|refine zM rfl ?_|(refine zQ ?_ ?_ ?_;omega;omega)|(refine zR ?_ ?_;omega)|(refine zI ?_ ?_;exact nA)|refine sS ?_|refine sE ?_|refine n0 ?_|refine sD ?_|intro _|refine zG ?_);conv=>whnf)|(refine zX (fun hc => ?_) (fun hc => ?_)<;>(try simp only [SY] at hc)<;>first|omega|(conv=>whnf)))
 exact PRet.pure (Wk.refl _)
def regB (has : Bool) (n regs : Int) : Bool := (!has && n == 0) || (has && belB n regs)
abbrev prX (p : Prc) : List PV := [.int .i64 p.args, .bool p.rest, .int .i64 p.regs, .sl 5 (p.code.map Ins.pv) none, .sl 1 (p.alive.map slI) none]
theorem fits1_c (b4 : Nat) (p : Prc) (has : Bool) (n : Int) : ACall Tryz.prog 130 [.bool has, .int .i64 n, .ptr b4 0] [.box b4 (prX p)] (fun y Γ' => y = .bool (regB has n p.regs) ∧ Γ' = [.box b4 (prX p)]) := by
 refine ACall.of_body tt_ok Tryz.func130 rfl rfl (n := 21) rfl rfl ?_
 conv => whnf
 repeat' (first|((first|((first|(apply zY;intro hg)|apply zZ);first|exact stA|exact stB|((conv=>whnf);(repeat ((first|(refine zW ?_ ?_;exact gA)|refine pC (below_c n p.regs) wR ?_|refine pC (below_c n p.regs) cA ?_|intro _);conv=>whnf));first|exact pS|exact pL|exact pE))|(refine zW ?_ ?_;exact gA)|refine zH rfl ?_|refine zA ?_|refine zI bA ?_|refine zI rfl ?_|refine sB ?_|(refine zO ?_ ?_ ?_;omega;omega)|(refine zP ?_ ?_ ?_;omega;omega)|refine zM rfl ?_|(refine zQ ?_ ?_ ?_;omega;omega)|(refine zR ?_ ?_;omega)|(refine zI ?_ ?_;exact nA)|refine sS ?_|refine pC (below_c n p.regs) wR ?_|refine pC (below_c n p.regs) cA ?_|refine sE ?_|refine n0 ?_|refine sD ?_|intro _|refine zG ?_);conv=>whnf)|(refine zX (fun hc => ?_) (fun hc => ?_)<;>(try simp only [SY] at hc)<;>first|omega|(conv=>whnf)))
 exact PRet.gen (y := .bool (regB has n p.regs)) (Γ' := [.box b4 (prX p)]) (Wk.refl _) ⟨rfl, rfl⟩
theorem fits2_c (b4 : Nat) (p : Prc) (n : Int) : ACall Tryz.prog 133 [.int .i64 n, .ptr b4 0] [.box b4 (prX p)] (fun y Γ' => y = .bool (!belB n p.regs) ∧ Γ' = [.box b4 (prX p)]) := by
 refine ACall.of_body tt_ok Tryz.func133 rfl rfl (n := 9) rfl rfl ?_
 conv => whnf
 repeat' (first|((first|((first|(apply zY;intro hg)|apply zZ);first|exact stA|exact stB|((conv=>whnf);(repeat ((first|(refine zW ?_ ?_;exact gA)|refine pC (below_c n p.regs) wR ?_|refine pC (below_c n p.regs) cA ?_|intro _);conv=>whnf));first|exact pS|exact pL|exact pE))|(refine zW ?_ ?_;exact gA)|refine zH rfl ?_|refine zA ?_|refine zI bA ?_|refine zI rfl ?_|refine sB ?_|(refine zO ?_ ?_ ?_;omega;omega)|(refine zP ?_ ?_ ?_;omega;omega)|refine zM rfl ?_|(refine zQ ?_ ?_ ?_;omega;omega)|(refine zR ?_ ?_;omega)|(refine zI ?_ ?_;exact nA)|refine sS ?_|refine pC (below_c n p.regs) wR ?_|refine pC (below_c n p.regs) cA ?_|refine sE ?_|refine n0 ?_|refine sD ?_|intro _|refine zG ?_);conv=>whnf)|(refine zX (fun hc => ?_) (fun hc => ?_)<;>(try simp only [SY] at hc)<;>first|omega|(conv=>whnf)))
 exact PRet.gen (y := .bool (!belB n p.regs)) (Γ' := [.box b4 (prX p)]) (Wk.refl _) ⟨rfl, rfl⟩
def fitA (x : Ins) (regs : Int) : Bool := (partsL x.op).2 && !((!regB (partsL x.op).1.d x.d regs || ((!(partsL x.op).1.n && !regB (partsL x.op).1.a x.a regs))) || (!(partsL x.op).1.m && !regB (partsL x.op).1.b x.b regs) || (!(partsL x.op).1.l && decide ((x.l.length : Int) > 0))) && !x.l.any (fun n => !belB n regs)
def fitN (x : Ins) (code consts procs : Nat) : Bool :=
 if x.op = 0 then belB x.a consts else if x.op = 2 ∨ x.op = 9 then decide (0 ≤ x.a ∧ x.a < 31) else
 if x.op = 5 ∨ x.op = 7 ∨ x.op = 18 ∨ x.op = 20 then belB x.a procs else if x.op = 6 then decide (x.a ≥ 0) else
 if x.op = 15 then belB x.a code else if x.op = 16 then belB x.b code else if x.op = 21 then x.a == 29 || x.a == 30 else true
def fitB (x : Ins) (p : Prc) (u : Unt) : Bool := fitA x p.regs && fitN x p.code.length u.consts.length u.procs.length
theorem fits14_c (x : Ins) (p : Prc) (u : Unt) : ACallP Tryz.prog 76 [.agg x.cells, .agg p.cells, .agg u.cells] (.bool (fitB x p u)) := by
 have hn : fitN x p.code.length u.consts.length u.procs.length = fitN x p.code.length u.consts.length u.procs.length := rfl
 conv at hn => rhs; unfold fitN
 have hA : fitA x p.regs = fitA x p.regs := rfl
 conv at hA => rhs; unfold fitA
 generalize hs : partsL x.op = s at *
 have hpt := partsOf_c x.op
 rw [hs] at hpt
 refine ACall.of_body tt_ok Tryz.func76 rfl rfl (n := 133) rfl rfl ?_
 conv => whnf
 repeat' (first|((first|((first|(apply zY;intro hg)|apply zZ);first|exact stA|exact stB|((conv=>whnf);(repeat ((first|(refine zW ?_ ?_;exact gA)|refine pC (hpt) wR ?_|refine PCall.read (fits1_c _ p _ _) wR ?_|refine pC (below_c _ _) wR ?_|refine pC (below_c _ _) cA ?_|refine pC (Facts_c _) wR ?_|refine pC (Facts_c _) cA ?_|intro _);conv=>whnf));first|exact pS|exact pL|exact pE))|(refine zW ?_ ?_;exact gA)|refine zH rfl ?_|refine zA ?_|refine zI bA ?_|refine zI rfl ?_|refine sB ?_|(refine zO ?_ ?_ ?_;omega;omega)|(refine zP ?_ ?_ ?_;omega;omega)|refine zM rfl ?_|(refine zQ ?_ ?_ ?_;omega;omega)|(refine zR ?_ ?_;omega)|(refine zI ?_ ?_;exact nA)|refine sS ?_|refine pC (hpt) wR ?_|refine PCall.read (fits1_c _ p _ _) wR ?_|refine pC (below_c _ _) wR ?_|refine pC (below_c _ _) cA ?_|refine pC (Facts_c _) wR ?_|refine pC (Facts_c _) cA ?_|refine sE ?_|refine n0 ?_|refine sD ?_|intro _|refine zG ?_);conv=>whnf)|(refine zX (fun hc => ?_) (fun hc => ?_)<;>(try simp only [SY] at hc)<;>first|omega|(conv=>whnf)))
 ·have e : fitB x p u = false := by unfold fitB; rw [hA, hc]; rfl
  rw [e]
  exact PRet.pure (Wk.ff rfl)
 ·have e : fitA x p.regs = false := by
   rw [hA]
   have h2 : ((!regB s.1.d x.d p.regs || (!s.1.n && !regB s.1.a x.a p.regs)) || (!s.1.m && !regB s.1.b x.b p.regs) || (!s.1.l && decide ((x.l.length : Int) > 0))) = true := by
    simp only [Bool.or_eq_true, Bool.and_eq_true, Bool.not_eq_true', decide_eq_true_eq]
    exact hc
   rw [h2]
   simp
  have e : fitB x p u = false := by unfold fitB; rw [e]; rfl
  rw [e]
  exact PRet.pure (Wk.ff rfl)
 have h2 : ((!regB s.1.d x.d p.regs || (!s.1.n && !regB s.1.a x.a p.regs)) || (!s.1.m && !regB s.1.b x.b p.regs) || (!s.1.l && decide ((x.l.length : Int) > 0))) = false := by
  simp only [Bool.or_eq_false_iff, Bool.and_eq_false_imp, Bool.not_eq_true', Bool.not_eq_false', decide_eq_false_iff_not]
  rcases hc with ⟨⟨⟨h3, h4⟩, h5⟩, h6⟩
  refine ⟨⟨⟨h3, fun h => ?_⟩, fun h => ?_⟩, fun h => ?_⟩
  ·rcases h4 with h4 | h4
   ·rw [h4] at h; cases h
   ·exact h4
  ·rcases h5 with h5 | h5
   ·rw [h5] at h; cases h
   ·exact h5
  ·rcases h6 with h6 | h6
   ·rw [h6] at h; cases h
   ·omega
 rw [h2] at hA
 have hs2 : s.2 = true := by assumption
 rw [hs2] at hA
 rename_i b5 b4 b3 b7 _
 refine PCall.go (containsFuncInt_c 133 [.ptr b4 0] [.box b4 (prX p)] (fun n => !belB n p.regs) x.l (fun n _ => fits2_c b4 p n)) (WkT.refl _) ?_
 rintro _ _ ⟨rfl, rfl⟩
 conv => whnf
 repeat' (first|((first|((first|(apply zY;intro hg)|apply zZ);first|exact stA|exact stB|((conv=>whnf);(repeat ((first|(refine zW ?_ ?_;exact gA)|refine pC (hpt) wR ?_|refine PCall.read (fits1_c _ p _ _) wR ?_|refine pC (below_c _ _) wR ?_|refine pC (below_c _ _) cA ?_|refine pC (Facts_c _) wR ?_|refine pC (Facts_c _) cA ?_|intro _);conv=>whnf));first|exact pS|exact pL|exact pE))|(refine zW ?_ ?_;exact gA)|refine zH rfl ?_|refine zA ?_|refine zI bA ?_|refine zI rfl ?_|refine sB ?_|(refine zO ?_ ?_ ?_;omega;omega)|(refine zP ?_ ?_ ?_;omega;omega)|refine zM rfl ?_|(refine zQ ?_ ?_ ?_;omega;omega)|(refine zR ?_ ?_;omega)|(refine zI ?_ ?_;exact nA)|refine sS ?_|refine pC (hpt) wR ?_|refine PCall.read (fits1_c _ p _ _) wR ?_|refine pC (below_c _ _) wR ?_|refine pC (below_c _ _) cA ?_|refine pC (Facts_c _) wR ?_|refine pC (Facts_c _) cA ?_|refine sE ?_|refine n0 ?_|refine sD ?_|intro _|refine zG ?_);conv=>whnf)|(refine zX (fun hc => ?_) (fun hc => ?_)<;>(try simp only [SY] at hc)<;>first|omega|(conv=>whnf)))
 ·have e : fitB x p u = false := by unfold fitB; rw [hA, hc]; rfl
  rw [e]
  exact PRet.pure (Wk.ff rfl)
 all_goals
  have hany : (x.l.any fun n => !belB n p.regs) = false := by assumption
  rw [hany] at hA
  have hB : fitB x p u = fitN x p.code.length u.consts.length u.procs.length := by unfold fitB; rw [hA]; rfl
  repeat (first|rw [if_neg (by omega)] at hn|rw [if_pos (by omega)] at hn)
  rw [hB, hn]
  exact PRet.pure (by first | exact Wk.refl _ | exact Wk.tt rfl)
end Go.Cb
namespace Go.Cb
open Go.Proofs
set_option maxRecDepth 100000
set_option maxHeartbeats 4000000
instance : Dfl Prc := ⟨⟨0, false, 0, [], []⟩⟩
abbrev unX (u : Unt) : List PV := [.sl 5 (u.consts.map Datum.pv) none, .sl 5 (u.procs.map Prc.pv) none]
theorem check1_c (d : Datum) : ACall Tryz.prog 72 [.agg d.cells] [] (fun y Γ' => y = .bool (!d.rightP 0) ∧ Γ' = []) := by
 refine ACall.of_body tt_ok Tryz.func72 rfl rfl (n := 6) rfl rfl ?_
 conv => whnf
 repeat' (first|((first|((first|(apply zY;intro hg)|apply zZ);first|exact stA|exact stB|((conv=>whnf);(repeat ((first|(refine zW ?_ ?_;exact gA)|refine pC (rightP_c d) wR ?_|refine pC (rightP_c d) cA ?_|intro _);conv=>whnf));first|exact pS|exact pL|exact pE))|(refine zW ?_ ?_;exact gA)|refine zH rfl ?_|refine zA ?_|refine zI bA ?_|refine zI rfl ?_|refine sB ?_|(refine zO ?_ ?_ ?_;omega;omega)|(refine zP ?_ ?_ ?_;omega;omega)|refine zM rfl ?_|(refine zQ ?_ ?_ ?_;omega;omega)|(refine zR ?_ ?_;omega)|(refine zI ?_ ?_;exact nA)|refine sS ?_|refine pC (rightP_c d) wR ?_|refine pC (rightP_c d) cA ?_|refine sE ?_|refine n0 ?_|refine sD ?_|intro _|refine zG ?_);conv=>whnf)|(refine zX (fun hc => ?_) (fun hc => ?_)<;>(try simp only [SY] at hc)<;>first|omega|(conv=>whnf)))
 exact PRet.gen (Wk.refl _) ⟨rfl, rfl⟩
theorem anyDat_c (l : List Datum) : ACallP Tryz.prog 71 [.sl 5 (l.map Datum.pv) none, .fn (.func 72) []] (.bool (l.any fun d => !d.rightP 0)) :=
 (containsFuncDat_c 72 [] [] (fun d => !d.rightP 0) l (fun d _ => check1_c d)).shift fun y Γ' hq => ⟨y, Γ', Shift.refl _ _, hq.1⟩
theorem check2u_c (b1 b5 : Nat) (p : Prc) (u : Unt) (x : Ins) : ACall Tryz.prog 75 [.agg x.cells, .ptr b5 0, .ptr b1 0] [.box b5 (prX p), .box b1 (unX u)] (fun y Γ' => y = .bool (!fitB x p u) ∧ Γ' = [.box b5 (prX p), .box b1 (unX u)]) := by
 refine ACall.of_body tt_ok Tryz.func75 rfl rfl (n := 10) rfl rfl ?_
 conv => whnf
 repeat' (first|((first|((first|(apply zY;intro hg)|apply zZ);first|exact stA|exact stB|((conv=>whnf);(repeat ((first|(refine zW ?_ ?_;exact gA)|refine pC (fits14_c x p u) wR ?_|intro _);conv=>whnf));first|exact pS|exact pL|exact pE))|(refine zW ?_ ?_;exact gA)|refine zH rfl ?_|refine zA ?_|refine zI bA ?_|refine zI rfl ?_|refine sB ?_|(refine zO ?_ ?_ ?_;omega;omega)|(refine zP ?_ ?_ ?_;omega;omega)|refine zM rfl ?_|(refine zQ ?_ ?_ ?_;omega;omega)|(refine zR ?_ ?_;omega)|(refine zI ?_ ?_;exact nA)|refine sS ?_|refine pC (fits14_c x p u) wR ?_|refine sE ?_|refine n0 ?_|refine sD ?_|intro _|refine zG ?_);conv=>whnf)|(refine zX (fun hc => ?_) (fun hc => ?_)<;>(try simp only [SY] at hc)<;>first|omega|(conv=>whnf)))
 exact PRet.gen (y := .bool (!fitB x p u)) (Γ' := [.box b5 (prX p), .box b1 (unX u)]) (Wk.refl _) ⟨rfl, rfl⟩
def headB (p : Prc) : Bool := ((((decide (p.args < 0) || decide (p.args > p.regs)) || decide (p.regs > 20000)) || (p.rest && p.args == 0)) || ((p.code.length : Int) == 0)) || decide ((p.code.length : Int) > 50000)
def lastOp (p : Prc) : Int := (p.code.getD (p.code.length - 1) Dfl.d).op
def endB (p : Prc) : Bool := lastOp p != 15 && (decide (lastOp p < 19) || decide (lastOp p > 22))
def chksU (u : Unt) : List Prc → Int → Bool
 | [], _ => true
 | p :: ps, all => if headB p = true then false else if (decide (all + p.code.length > 50000) || endB p) = true then false else if (p.code.any fun x => !fitB x p u) = true then false else chksU u ps (all + p.code.length)
def chkU (u : Unt) : Int := if ((decide ((u.procs.length : Int) < 1) || decide ((u.procs.length : Int) > 1000)) || u.consts.any fun d => !d.rightP 0) = true then 5 else if chksU u u.procs 0 = true then 0 else 5
theorem check_u (u : Unt) : ACallP Tryz.prog 36 [.agg u.cells] (.int .i64 (chkU u)) := by
 refine ACall.of_body tt_ok Tryz.func36 rfl rfl (n := 94) rfl rfl ?_
 conv => whnf
 repeat' (first|((first|((first|(apply zY;intro hg)|apply zZ);first|exact stA|exact stB|((conv=>whnf);(repeat ((first|(refine zW ?_ ?_;exact gA)|refine pC (anyDat_c u.consts) wR ?_|intro _);conv=>whnf));first|exact pS|exact pL|exact pE))|(refine zW ?_ ?_;exact gA)|refine zH rfl ?_|refine zA ?_|refine zI bA ?_|refine zI rfl ?_|refine sB ?_|(refine zO ?_ ?_ ?_;omega;omega)|(refine zP ?_ ?_ ?_;omega;omega)|refine zM rfl ?_|(refine zQ ?_ ?_ ?_;omega;omega)|(refine zR ?_ ?_;omega)|(refine zI ?_ ?_;exact nA)|refine sS ?_|refine pC (anyDat_c u.consts) wR ?_|refine sE ?_|refine n0 ?_|refine sD ?_|intro _|refine zG ?_);conv=>whnf)|(refine zX (fun hc => ?_) (fun hc => ?_)<;>(try simp only [SY] at hc)<;>first|omega|(conv=>whnf)))
 ·rw [show chkU u = 5 from if_pos (by simp only [Bool.or_eq_true, decide_eq_true_eq]; exact hc)]
  exact PRet.pure (Wk.refl _)
 have h0 : chkU u = if chksU u u.procs 0 = true then 0 else 5 := by
  unfold chkU
  rw [if_neg]
  simp only [Bool.or_eq_true, decide_eq_true_eq]
  rintro ((h | h) | h)
  ·omega
  ·omega
  ·rw [h] at hc; simp at hc
 rename_i b1 _ _
 refine PLoop.over [2, 3, 5, 6, 7, 26, 27, 28, 29, 30, 31, 32, 33, 34, 35, 36, 37, 38, 39, 40, 41, 42, 43, 44, 45, 46, 47, 48, 49, 50, 51, 52, 53, 54, 55, 56, 57, 58, 59, 60, 61, 62, 63, 64, 65, 66, 67, 68, 69, 70, 71, 72, 73, 74, 75, 76, 77, 78, 79, 80, 81, 82, 83, 84, 85, 86, 87, 88, 89, 90, 91, 92, 93] (fun x : Nat × Int => [(3, .int .i64 x.2), (26, .int .i64 x.1)]) (fun _ => [.box b1 (unX u)]) (fun x => x.1 ≤ u.procs.length ∧ 0 ≤ x.2 ∧ x.2 ≤ 50000 ∧ chksU u u.procs 0 = chksU u (u.procs.drop x.1) x.2) (fun x => u.procs.length - x.1) (0, 0) ⟨Nat.zero_le _, by omega, by omega, by simp⟩ wA ?_
 rintro ⟨i, all⟩ ⟨hi, ha0, ha1, he⟩
 dsimp only at hi ha0 ha1 he ⊢
 conv => whnf
 repeat' (first|((first|((first|(apply zY;intro hg)|apply zZ);first|exact stA|exact stB|((conv=>whnf);(repeat ((first|(refine zW ?_ ?_;exact gA)|refine pC (anyDat_c u.consts) wR ?_|intro _);conv=>whnf));first|exact pS|exact pL|exact pE))|(refine zW ?_ ?_;exact gA)|refine zH rfl ?_|refine zA ?_|refine zI bA ?_|refine zI rfl ?_|refine sB ?_|(refine zO ?_ ?_ ?_;omega;omega)|(refine zP ?_ ?_ ?_;omega;omega)|refine zM rfl ?_|(refine zQ ?_ ?_ ?_;omega;omega)|(refine zR ?_ ?_;omega)|(refine zI ?_ ?_;exact nA)|refine sS ?_|refine pC (anyDat_c u.consts) wR ?_|refine sE ?_|refine n0 ?_|refine sD ?_|intro _|refine zG ?_);conv=>whnf)|(refine zX (fun hc => ?_) (fun hc => ?_)<;>(try simp only [SY] at hc)<;>first|omega|(conv=>whnf)))
 ·have hip : i < u.procs.length := by omega
  have hh : headB u.procs[i] = true := by
   unfold headB
   simp only [Bool.or_eq_true, decide_eq_true_eq, Bool.and_eq_true, beq_iff_eq]
   exact hc
  rw [drop_at hip, chksU, if_pos hh] at he
  rw [h0, he]
  exact PRet.pure (Wk.refl _)
 ·have hip : i < u.procs.length := by omega
  have hh : ¬headB u.procs[i] = true := by
   rcases ‹_ ∧ ↑u.procs[i].code.length ≤ (50000 : Int)› with ⟨⟨⟨⟨⟨g1, g2⟩, g3⟩, g4⟩, g5⟩, g6⟩
   unfold headB
   simp only [Bool.or_eq_true, decide_eq_true_eq, Bool.and_eq_true, beq_iff_eq]
   rintro (((((h | h) | h) | ⟨h, k⟩) | h) | h)
   ·omega
   ·omega
   ·omega
   ·rcases g4 with g4 | g4
    ·rw [h] at g4; cases g4
    ·exact g4 k
   ·exact g5 h
   ·omega
  have hlo : lastOp u.procs[i] = (u.procs[i].code[u.procs[i].code.length - 1]'(by omega)).op := by unfold lastOp; rw [List.getD_eq_getElem?_getD, List.getElem?_eq_getElem (by omega)]; rfl
  rw [drop_at hip, chksU, if_neg hh, if_pos (by
   unfold endB
   rw [hlo]
   simp only [Bool.or_eq_true, decide_eq_true_eq, Bool.and_eq_true, bne_iff_ne]
   exact hc)] at he
  rw [h0, he]
  exact PRet.pure (Wk.refl _)
 ·have hip : i < u.procs.length := by omega
  have hh : ¬headB u.procs[i] = true := by
   rcases ‹_ ∧ ↑u.procs[i].code.length ≤ (50000 : Int)› with ⟨⟨⟨⟨⟨g1, g2⟩, g3⟩, g4⟩, g5⟩, g6⟩
   unfold headB
   simp only [Bool.or_eq_true, decide_eq_true_eq, Bool.and_eq_true, beq_iff_eq]
   rintro (((((h | h) | h) | ⟨h, k⟩) | h) | h)
   ·omega
   ·omega
   ·omega
   ·rcases g4 with g4 | g4
    ·rw [h] at g4; cases g4
    ·exact g4 k
   ·exact g5 h
   ·omega
  have hlo : lastOp u.procs[i] = (u.procs[i].code[u.procs[i].code.length - 1]'(by omega)).op := by unfold lastOp; rw [List.getD_eq_getElem?_getD, List.getElem?_eq_getElem (by omega)]; rfl
  rw [drop_at hip, chksU, if_neg hh, if_neg (by
   unfold endB
   rw [hlo]
   simp only [Bool.or_eq_true, decide_eq_true_eq, Bool.and_eq_true, bne_iff_ne]
   rintro (h | ⟨h, k⟩) <;> omega)] at he
  rename_i b5 _ _
  refine PCall.go (containsFuncIns_c 75 [.ptr b5 0, .ptr b1 0] [.box b5 (prX u.procs[i]), .box b1 (unX u)] (fun x => !fitB x u.procs[i] u) u.procs[i].code (fun x _ => check2u_c b1 b5 u.procs[i] u x)) (WkT.refl _) ?_
  rintro _ _ ⟨rfl, rfl⟩
  conv => whnf
  repeat' (first|((first|((first|(apply zY;intro hg)|apply zZ);first|exact stA|exact stB|((conv=>whnf);(repeat ((first|(refine zW ?_ ?_;exact gA)|refine pC (anyDat_c u.consts) wR ?_|intro _);conv=>whnf));first|exact pS|exact pL|exact pE))|(refine zW ?_ ?_;exact gA)|refine zH rfl ?_|refine zA ?_|refine zI bA ?_|refine zI rfl ?_|refine sB ?_|(refine zO ?_ ?_ ?_;omega;omega)|(refine zP ?_ ?_ ?_;omega;omega)|refine zM rfl ?_|(refine zQ ?_ ?_ ?_;omega;omega)|(refine zR ?_ ?_;omega)|(refine zI ?_ ?_;exact nA)|refine sS ?_|refine pC (anyDat_c u.consts) wR ?_|refine sE ?_|refine n0 ?_|refine sD ?_|intro _|refine zG ?_);conv=>whnf)|(refine zX (fun hc => ?_) (fun hc => ?_)<;>(try simp only [SY] at hc)<;>first|omega|(conv=>whnf)))
  ·rename_i hany
   rw [if_pos hc] at he
   rw [h0, he]
   exact PRet.pure (Wk.refl _)
  ·rw [if_neg (by rw [hc]; simp)] at he
   exact loopTo (i + 1, all + u.procs[i].code.length) ⟨by show i + 1 ≤ _; omega, by dsimp only; omega, by dsimp only; omega, he⟩ (by show u.procs.length - (i + 1) < u.procs.length - i; omega) wA
 ·rw [List.drop_of_length_le (by omega), chksU] at he
  rw [h0, he]
  exact PRet.pure (Wk.refl _)
end Go.Cb
namespace Go.Cb
open Go.Proofs
set_option maxRecDepth 100000
set_option maxHeartbeats 4000000
def lvsB (x : Ins) : Bool := decide (x.op ≥ 19) && decide (x.op ≤ 21)
theorem leaves_c (x : Ins) : ACallP Tryz.prog 103 [.agg x.cells] (.bool (lvsB x)) := by
 refine ACall.of_body tt_ok Tryz.func103 rfl rfl (n := 11) rfl rfl ?_
 conv => whnf
 repeat' (first|((first|((first|(apply zY;intro hg)|apply zZ);first|exact stA|exact stB)|(refine zW ?_ ?_;exact gA)|refine zH rfl ?_|refine zA ?_|refine zI bA ?_|refine zI rfl ?_|refine sB ?_|(refine zO ?_ ?_ ?_;omega;omega)|(refine zP ?_ ?_ ?_;omega;omega)|refine zM rfl ?_|(refine zQ ?_ ?_ ?_;omega;omega)|(refine zR ?_ ?_;omega)|(refine zI ?_ ?_;exact nA)|refine sS ?_|refine sE ?_|refine n0 ?_|refine sD ?_|intro _|refine zG ?_);conv=>whnf)|(refine zX (fun hc => ?_) (fun hc => ?_)<;>(try simp only [SY] at hc)<;>first|omega|(conv=>whnf)))
 exact PRet.pure (Wk.refl _)
theorem Shift.nilTok (s : Nat) (e : TypeId) (Γ : List Ent) : Shift .nil Γ (.sl s [] (some (nilTok s e))) (.tok (nilTok s e) :: Γ) := fun w0 F M w v hS hx =>
 let ⟨F', h1, h2⟩ := Ghost.nil s e Γ w0 F M w hS
 ⟨F', h1, h2, Wk.nilTok s e F' v (Rep.mono h1 _ _ hx)⟩
theorem cloneInt0_c (l : List Int) (hl : l.length ≤ 1000000000) : ACall Tryz.prog 100 [slI l] [] (fun y Γ' => (l = [] ∧ y = .nil ∧ Γ' = []) ∨ ∃ t : Tok, t.e = 3 ∧ y = .sl 1 (l.map (PV.int .i64)) (some t) ∧ Γ' = [.tok t]) := by
 refine ACall.of_body tt_ok Tryz.func100 rfl rfl (n := 8) rfl rfl ?_
 conv => whnf
 repeat' (first|((first|((first|(apply zY;intro hg)|apply zZ);first|exact stA|exact stB)|(refine zW ?_ ?_;exact gA)|refine zH rfl ?_|refine zA ?_|refine zI bA ?_|refine zI rfl ?_|refine sB ?_|(refine zO ?_ ?_ ?_;omega;omega)|(refine zP ?_ ?_ ?_;omega;omega)|refine zM rfl ?_|(refine zQ ?_ ?_ ?_;omega;omega)|(refine zR ?_ ?_;omega)|(refine zI ?_ ?_;exact nA)|refine sS ?_|refine sE ?_|refine n0 ?_|refine sD ?_|intro _|refine zG ?_);conv=>whnf)|(refine zX (fun hc => ?_) (fun hc => ?_)<;>(try simp only [SY] at hc)<;>first|omega|(conv=>whnf)))
 ·rename_i q hq
  exact PRet.gen (y := .nil) (Γ' := []) (Wk.refl _) (.inl ⟨by simpa using hq hc, rfl, rfl⟩)
 ·rename_i t' ht'
  exact PRet.gen (y := .sl 1 (l.map (PV.int .i64)) (some t')) (Γ' := [.tok t']) (Wk.refl _) (.inr ⟨t', ht', rfl, rfl⟩)
theorem cloneIntT_c (l : List Int) (hl : l.length ≤ 1000000000) : ACall Tryz.prog 100 [slI l] [] (fun y Γ' => ∃ t : Tok, t.e = 3 ∧ y = .sl 1 (l.map (PV.int .i64)) (some t) ∧ Γ' = [.tok t]) :=
 (cloneInt0_c l hl).shift fun y Γ' h => by
  rcases h with ⟨rfl, rfl, rfl⟩ | ⟨t, h1, rfl, rfl⟩
  ·exact ⟨_, _, Shift.nilTok 1 3 _, _, rfl, rfl, rfl⟩
  ·exact ⟨_, _, Shift.refl _ _, t, h1, rfl, rfl⟩
def takF (x : Ins) : List Int := if x.op = 19 then x.l ++ [x.a] else if x.op = 20 then x.l ++ [x.b] else x.l
theorem takes_c (x : Ins) (hl : x.l.length ≤ 1000000000) : ACallP Tryz.prog 104 [.agg x.cells] (slI (takF x)) := by
 refine ACall.of_body tt_ok Tryz.func104 rfl rfl (n := 24) rfl rfl ?_
 conv => whnf
 repeat' (first|((first|((first|(apply zY;intro hg)|apply zZ);first|exact stA|exact stB)|(refine zW ?_ ?_;exact gA)|refine zH rfl ?_|refine zA ?_|refine zI bA ?_|refine zI rfl ?_|refine sB ?_|(refine zO ?_ ?_ ?_;omega;omega)|(refine zP ?_ ?_ ?_;omega;omega)|refine zM rfl ?_|(refine zQ ?_ ?_ ?_;omega;omega)|(refine zR ?_ ?_;omega)|(refine zI ?_ ?_;exact nA)|refine sS ?_|refine sE ?_|refine n0 ?_|refine sD ?_|intro _|refine zG ?_);conv=>whnf)|(refine zX (fun hc => ?_) (fun hc => ?_)<;>(try simp only [SY] at hc)<;>first|omega|(conv=>whnf)))
 refine PCall.go (cloneIntT_c x.l hl) (WkT.refl _) ?_
 rintro _ _ ⟨t, ht, rfl, rfl⟩
 conv => whnf
 repeat' (first|((first|((first|(apply zY;intro hg)|apply zZ);first|exact stA|exact stB)|(refine zW ?_ ?_;exact gA)|refine zH rfl ?_|refine zA ?_|refine zI bA ?_|refine zI rfl ?_|refine sB ?_|(refine zO ?_ ?_ ?_;omega;omega)|(refine zP ?_ ?_ ?_;omega;omega)|refine zM rfl ?_|(refine zQ ?_ ?_ ?_;omega;omega)|(refine zR ?_ ?_;omega)|(refine zI ?_ ?_;exact nA)|refine sS ?_|refine sE ?_|refine n0 ?_|refine sD ?_|intro _|refine zG ?_);conv=>whnf)|(refine zX (fun hc => ?_) (fun hc => ?_)<;>(try simp only [SY] at hc)<;>first|omega|(conv=>whnf)))
 ·rw [takF, if_pos hc]
  exact PRet.pure wA
 ·rw [takF, if_neg (by omega), if_pos hc]
  exact PRet.pure wA
 ·rw [takF, if_neg (by omega), if_neg (by omega)]
  exact PRet.pure wA
abbrev wrE (b : Nat) (out : List Int) (t : Tok) : List Ent := [.box b [.sl 1 (out.map (PV.int .i64)) (some t)], .tok t]
theorem putw_c (b : Nat) (out : List Int) (t : Tok) (l : List Int) (tk : Option Tok) (ht : t.e = 3) (hl : out.length + l.length ≤ 30000000000) :
  ACall Tryz.prog 58 [.ptr b 0, .sl 1 (l.map (PV.int .i64)) tk] (wrE b out t) (fun y Γ' => ∃ t', t'.e = 3 ∧ y = .tup [] ∧ Γ' = wrE b (out ++ l) t') := by
 refine ACall.of_body tt_ok Tryz.func58 rfl rfl (n := 13) rfl rfl ?_
 conv => whnf
 repeat' (first|((first|((first|(apply zY;intro hg)|apply zZ);first|exact stA|exact stB)|(refine zW ?_ ?_;exact gA)|refine zH rfl ?_|refine zA ?_|refine zI bA ?_|refine zI rfl ?_|refine sB ?_|(refine zO ?_ ?_ ?_;omega;omega)|(refine zP ?_ ?_ ?_;omega;omega)|refine zM rfl ?_|(refine zQ ?_ ?_ ?_;omega;omega)|(refine zR ?_ ?_;omega)|(refine zI ?_ ?_;exact nA)|refine sS ?_|refine sE ?_|refine n0 ?_|refine sD ?_|intro _|refine zG ?_);conv=>whnf)|(refine zX (fun hc => ?_) (fun hc => ?_)<;>(try simp only [SY] at hc)<;>first|omega|(conv=>whnf)))
 rename_i t2 ht2
 exact PRet.gen (y := .tup []) (Γ' := wrE b (out ++ l) t2) (Wk.refl _) ⟨t2, ht2, rfl, rfl⟩
theorem listw_c (b : Nat) (out : List Int) (t : Tok) (l : List Int) (ht : t.e = 3) (hl : out.length + l.length ≤ 20000000000) :
  ACall Tryz.prog 106 [.ptr b 0, slI l] (wrE b out t) (fun y Γ' => ∃ t', t'.e = 3 ∧ y = .tup [] ∧ Γ' = wrE b (out ++ ((l.length : Int) :: l)) t') := by
 refine ACall.of_body tt_ok Tryz.func106 rfl rfl (n := 12) rfl rfl ?_
 conv => whnf
 repeat' (first|((first|((first|(apply zY;intro hg)|apply zZ);first|exact stA|exact stB)|(refine zW ?_ ?_;exact gA)|refine zH rfl ?_|refine zA ?_|refine zI bA ?_|refine zI rfl ?_|refine sB ?_|(refine zO ?_ ?_ ?_;omega;omega)|(refine zP ?_ ?_ ?_;omega;omega)|refine zM rfl ?_|(refine zQ ?_ ?_ ?_;omega;omega)|(refine zR ?_ ?_;omega)|(refine zI ?_ ?_;exact nA)|refine sS ?_|refine sE ?_|refine n0 ?_|refine sD ?_|intro _|refine zG ?_);conv=>whnf)|(refine zX (fun hc => ?_) (fun hc => ?_)<;>(try simp only [SY] at hc)<;>first|omega|(conv=>whnf)))
 refine PCall.go (putw_c b out t [(l.length : Int)] _ ht (by simp; omega)) (WkT.refl _) ?_
 rintro _ _ ⟨t2, ht2, rfl, rfl⟩
 conv => whnf
 repeat' (first|((first|((first|(apply zY;intro hg)|apply zZ);first|exact stA|exact stB)|(refine zW ?_ ?_;exact gA)|refine zH rfl ?_|refine zA ?_|refine zI bA ?_|refine zI rfl ?_|refine sB ?_|(refine zO ?_ ?_ ?_;omega;omega)|(refine zP ?_ ?_ ?_;omega;omega)|refine zM rfl ?_|(refine zQ ?_ ?_ ?_;omega;omega)|(refine zR ?_ ?_;omega)|(refine zI ?_ ?_;exact nA)|refine sS ?_|refine sE ?_|refine n0 ?_|refine sD ?_|intro _|refine zG ?_);conv=>whnf)|(refine zX (fun hc => ?_) (fun hc => ?_)<;>(try simp only [SY] at hc)<;>first|omega|(conv=>whnf)))
 refine PCall.go (putw_c b (out ++ [(l.length : Int)]) t2 l _ ht2 (by simp; omega)) (WkT.refl _) ?_
 rintro _ _ ⟨t3, ht3, rfl, rfl⟩
 rw [List.append_assoc, List.singleton_append]
 conv => whnf
 repeat' (first|((first|((first|(apply zY;intro hg)|apply zZ);first|exact stA|exact stB)|(refine zW ?_ ?_;exact gA)|refine zH rfl ?_|refine zA ?_|refine zI bA ?_|refine zI rfl ?_|refine sB ?_|(refine zO ?_ ?_ ?_;omega;omega)|(refine zP ?_ ?_ ?_;omega;omega)|refine zM rfl ?_|(refine zQ ?_ ?_ ?_;omega;omega)|(refine zR ?_ ?_;omega)|(refine zI ?_ ?_;exact nA)|refine sS ?_|refine sE ?_|refine n0 ?_|refine sD ?_|intro _|refine zG ?_);conv=>whnf)|(refine zX (fun hc => ?_) (fun hc => ?_)<;>(try simp only [SY] at hc)<;>first|omega|(conv=>whnf)))
 exact PRet.gen (y := .tup []) (Γ' := wrE b (out ++ ((l.length : Int) :: l)) t3) (Wk.refl _) ⟨t3, ht3, rfl, rfl⟩
def insW (x : Ins) (al : List Int) : List Int := [x.op, x.d, x.a, x.b] ++ (((x.l.length : Int) :: x.l) ++ ((al.length : Int) :: al))
theorem insw_c (b : Nat) (out : List Int) (t : Tok) (x : Ins) (al : List Int) (ht : t.e = 3) (hl : out.length + x.l.length + al.length ≤ 10000000000) :
  ACall Tryz.prog 164 [.ptr b 0, .agg x.cells, slI al] (wrE b out t) (fun y Γ' => ∃ t', t'.e = 3 ∧ y = .tup [] ∧ Γ' = wrE b (out ++ insW x al) t') := by
 refine ACall.of_body tt_ok Tryz.func164 rfl rfl (n := 24) rfl rfl ?_
 conv => whnf
 repeat' (first|((first|((first|(apply zY;intro hg)|apply zZ);first|exact stA|exact stB)|(refine zW ?_ ?_;exact gA)|refine zH rfl ?_|refine zA ?_|refine zI bA ?_|refine zI rfl ?_|refine sB ?_|(refine zO ?_ ?_ ?_;omega;omega)|(refine zP ?_ ?_ ?_;omega;omega)|refine zM rfl ?_|(refine zQ ?_ ?_ ?_;omega;omega)|(refine zR ?_ ?_;omega)|(refine zI ?_ ?_;exact nA)|refine sS ?_|refine sE ?_|refine n0 ?_|refine sD ?_|intro _|refine zG ?_);conv=>whnf)|(refine zX (fun hc => ?_) (fun hc => ?_)<;>(try simp only [SY] at hc)<;>first|omega|(conv=>whnf)))
 refine PCall.go (putw_c b out t [x.op, x.d, x.a, x.b] _ ht (by simp; omega)) (WkT.refl _) ?_
 rintro _ _ ⟨t2, ht2, rfl, rfl⟩
 conv => whnf
 repeat' (first|((first|((first|(apply zY;intro hg)|apply zZ);first|exact stA|exact stB)|(refine zW ?_ ?_;exact gA)|refine zH rfl ?_|refine zA ?_|refine zI bA ?_|refine zI rfl ?_|refine sB ?_|(refine zO ?_ ?_ ?_;omega;omega)|(refine zP ?_ ?_ ?_;omega;omega)|refine zM rfl ?_|(refine zQ ?_ ?_ ?_;omega;omega)|(refine zR ?_ ?_;omega)|(refine zI ?_ ?_;exact nA)|refine sS ?_|refine sE ?_|refine n0 ?_|refine sD ?_|intro _|refine zG ?_);conv=>whnf)|(refine zX (fun hc => ?_) (fun hc => ?_)<;>(try simp only [SY] at hc)<;>first|omega|(conv=>whnf)))
 refine PCall.go (listw_c b (out ++ [x.op, x.d, x.a, x.b]) t2 x.l ht2 (by simp; omega)) (WkT.refl _) ?_
 rintro _ _ ⟨t3, ht3, rfl, rfl⟩
 conv => whnf
 repeat' (first|((first|((first|(apply zY;intro hg)|apply zZ);first|exact stA|exact stB)|(refine zW ?_ ?_;exact gA)|refine zH rfl ?_|refine zA ?_|refine zI bA ?_|refine zI rfl ?_|refine sB ?_|(refine zO ?_ ?_ ?_;omega;omega)|(refine zP ?_ ?_ ?_;omega;omega)|refine zM rfl ?_|(refine zQ ?_ ?_ ?_;omega;omega)|(refine zR ?_ ?_;omega)|(refine zI ?_ ?_;exact nA)|refine sS ?_|refine sE ?_|refine n0 ?_|refine sD ?_|intro _|refine zG ?_);conv=>whnf)|(refine zX (fun hc => ?_) (fun hc => ?_)<;>(try simp only [SY] at hc)<;>first|omega|(conv=>whnf)))
 refine PCall.go (listw_c b (out ++ [x.op, x.d, x.a, x.b] ++ ((x.l.length : Int) :: x.l)) t3 al ht3 (by simp; omega)) (WkT.refl _) ?_
 rintro _ _ ⟨t4, ht4, rfl, rfl⟩
 have e : out ++ [x.op, x.d, x.a, x.b] ++ ((x.l.length : Int) :: x.l) ++ ((al.length : Int) :: al) = out ++ insW x al := by simp [insW]
 rw [e]
 conv => whnf
 repeat' (first|((first|((first|(apply zY;intro hg)|apply zZ);first|exact stA|exact stB)|(refine zW ?_ ?_;exact gA)|refine zH rfl ?_|refine zA ?_|refine zI bA ?_|refine zI rfl ?_|refine sB ?_|(refine zO ?_ ?_ ?_;omega;omega)|(refine zP ?_ ?_ ?_;omega;omega)|refine zM rfl ?_|(refine zQ ?_ ?_ ?_;omega;omega)|(refine zR ?_ ?_;omega)|(refine zI ?_ ?_;exact nA)|refine sS ?_|refine sE ?_|refine n0 ?_|refine sD ?_|intro _|refine zG ?_);conv=>whnf)|(refine zX (fun hc => ?_) (fun hc => ?_)<;>(try simp only [SY] at hc)<;>first|omega|(conv=>whnf)))
 exact PRet.gen (y := .tup []) (Γ' := wrE b (out ++ insW x al) t4) (Wk.refl _) ⟨t4, ht4, rfl, rfl⟩
end Go.Cb
namespace Go.Cb
open Go.Proofs
set_option maxRecDepth 100000
set_option maxHeartbeats 4000000
def risB (regs : Int) : List Int → Int → Bool
 | [], _ => true
 | s :: l, last => if (decide (s ≤ last) || decide (s ≥ regs)) = true then false else risB regs l s
def alvB (regs : Int) : List Ins → List (List Int) → Bool
 | x :: xs, a :: al => if (lvsB x && decide ((x.l.length : Int) > 900)) = true then false else if risB regs a (-1) = true then alvB regs xs al else false
 | _, _ => true
def fitsE (p : Prc) : Bool := if p.alive.length = p.code.length then alvB p.regs p.code p.alive else false
theorem fitsE_c (p : Prc) : ACallP Tryz.prog 57 [.agg p.cells] (.bool (fitsE p)) := by
 refine ACall.of_body tt_ok Tryz.func57 rfl rfl (n := 57) rfl rfl ?_
 conv => whnf
 repeat' (first|((first|((first|(apply zY;intro hg)|apply zZ);first|exact stA|exact stB|((conv=>whnf);(repeat ((first|(refine zW ?_ ?_;exact gA)|refine pC (leaves_c _) wR ?_|refine pC (leaves_c _) cA ?_|intro _);conv=>whnf));first|exact pS|exact pL|exact pE))|(refine zW ?_ ?_;exact gA)|refine zH rfl ?_|refine zA ?_|refine zI bA ?_|refine zI rfl ?_|refine sB ?_|(refine zO ?_ ?_ ?_;omega;omega)|(refine zP ?_ ?_ ?_;omega;omega)|refine zM rfl ?_|(refine zQ ?_ ?_ ?_;omega;omega)|(refine zR ?_ ?_;omega)|(refine zI ?_ ?_;exact nA)|refine sS ?_|refine pC (leaves_c _) wR ?_|refine pC (leaves_c _) cA ?_|refine sE ?_|refine n0 ?_|refine sD ?_|intro _|refine zG ?_);conv=>whnf)|(refine zX (fun hc => ?_) (fun hc => ?_)<;>(try simp only [SY] at hc)<;>first|omega|(conv=>whnf)))
 ·rw [show fitsE p = false from if_neg (by omega)]
  exact PRet.pure (Wk.ff rfl)
 have hlen : p.alive.length = p.code.length := by omega
 rw [show fitsE p = alvB p.regs p.code p.alive from if_pos hlen]
 rename_i b1 _ _ _
 refine PLoop.over [2, 3, 4, 5, 7, 18, 19, 20, 21, 22, 23, 24, 25, 26, 27, 28, 29, 30, 31, 32, 33, 34, 35, 36, 37, 38, 39, 40, 41, 42, 43, 44, 45, 46, 47, 48, 49, 50, 51, 52, 53, 54, 55, 56] (fun i : Nat => [(18, .int .i64 i)]) (fun _ => [.box b1 (prX p)]) (fun i => i ≤ p.alive.length ∧ alvB p.regs p.code p.alive = alvB p.regs (p.code.drop i) (p.alive.drop i)) (fun i => p.alive.length - i) 0 ⟨Nat.zero_le _, rfl⟩ wA ?_
 rintro i ⟨hi, he⟩
 dsimp only at hi he ⊢
 conv => whnf
 repeat' (first|((first|((first|(apply zY;intro hg)|apply zZ);first|exact stA|exact stB|((conv=>whnf);(repeat ((first|(refine zW ?_ ?_;exact gA)|refine pC (leaves_c _) wR ?_|refine pC (leaves_c _) cA ?_|intro _);conv=>whnf));first|exact pS|exact pL|exact pE))|(refine zW ?_ ?_;exact gA)|refine zH rfl ?_|refine zA ?_|refine zI bA ?_|refine zI rfl ?_|refine sB ?_|(refine zO ?_ ?_ ?_;omega;omega)|(refine zP ?_ ?_ ?_;omega;omega)|refine zM rfl ?_|(refine zQ ?_ ?_ ?_;omega;omega)|(refine zR ?_ ?_;omega)|(refine zI ?_ ?_;exact nA)|refine sS ?_|refine pC (leaves_c _) wR ?_|refine pC (leaves_c _) cA ?_|refine sE ?_|refine n0 ?_|refine sD ?_|intro _|refine zG ?_);conv=>whnf)|(refine zX (fun hc => ?_) (fun hc => ?_)<;>(try simp only [SY] at hc)<;>first|omega|(conv=>whnf)))
 ·have hia : i < p.alive.length := by omega
  have hic : i < p.code.length := by omega
  rw [drop_at hia, drop_at hic, alvB, if_pos (by simp only [Bool.and_eq_true, decide_eq_true_eq]; exact hc)] at he
  rw [he]
  exact PRet.pure (Wk.ff rfl)
 ·have hia : i < p.alive.length := by omega
  have hic : i < p.code.length := by omega
  rw [drop_at hia, drop_at hic, alvB, if_neg (by
   simp only [Bool.and_eq_true, decide_eq_true_eq]
   rintro ⟨h, k⟩
   rcases hc with hc | hc
   ·rw [h] at hc; cases hc
   ·omega)] at he
  have hal : (p.alive[i]).length ≤ 9223372036854775807 ∨ True := .inr trivial
  generalize p.alive[i] = al at *
  refine PLoop.over [2, 5, 7, 41, 42, 43, 44, 45, 46, 47, 48, 49, 50, 51, 52, 53, 54, 55] (fun x : Nat × Int => [(5, .int .i64 x.2), (41, .int .i64 x.1)]) (fun _ => [.box b1 (prX p)]) (fun x => x.1 ≤ al.length ∧ risB p.regs al (-1) = risB p.regs (al.drop x.1) x.2) (fun x => al.length - x.1) (0, -1) ⟨Nat.zero_le _, rfl⟩ wA ?_
  rintro ⟨j, last⟩ ⟨hj, hr⟩
  dsimp only at hj hr ⊢
  conv => whnf
  repeat' (first|((first|((first|(apply zY;intro hg)|apply zZ);first|exact stA|exact stB|((conv=>whnf);(repeat ((first|(refine zW ?_ ?_;exact gA)|refine pC (leaves_c _) wR ?_|refine pC (leaves_c _) cA ?_|intro _);conv=>whnf));first|exact pS|exact pL|exact pE))|(refine zW ?_ ?_;exact gA)|refine zH rfl ?_|refine zA ?_|refine zI bA ?_|refine zI rfl ?_|refine sB ?_|(refine zO ?_ ?_ ?_;omega;omega)|(refine zP ?_ ?_ ?_;omega;omega)|refine zM rfl ?_|(refine zQ ?_ ?_ ?_;omega;omega)|(refine zR ?_ ?_;omega)|(refine zI ?_ ?_;exact nA)|refine sS ?_|refine pC (leaves_c _) wR ?_|refine pC (leaves_c _) cA ?_|refine sE ?_|refine n0 ?_|refine sD ?_|intro _|refine zG ?_);conv=>whnf)|(refine zX (fun hc => ?_) (fun hc => ?_)<;>(try simp only [SY] at hc)<;>first|omega|(conv=>whnf)))
  ·have hjl : j < al.length := by omega
   rw [drop_at hjl, risB, if_pos (by simp only [Bool.or_eq_true, decide_eq_true_eq]; exact hc)] at hr
   rw [if_neg (by rw [hr]; simp)] at he
   rw [he]
   exact PRet.pure (Wk.ff rfl)
  ·have hjl : j < al.length := by omega
   rw [drop_at hjl, risB, if_neg (by simp only [Bool.or_eq_true, decide_eq_true_eq]; omega)] at hr
   exact loopTo (j + 1, al[j]) ⟨by show j + 1 ≤ _; omega, hr⟩ (by show al.length - (j + 1) < al.length - j; omega) wA
  ·rw [List.drop_of_length_le (by omega), risB] at hr
   rw [if_pos hr] at he
   exact loopTo (i + 1) ⟨by show i + 1 ≤ _; omega, he⟩ (by show p.alive.length - (i + 1) < p.alive.length - i; omega) wA
 ·rw [List.drop_of_length_le (by omega), List.drop_of_length_le (by omega)] at he
  rw [he, show alvB p.regs [] [] = true by simp [alvB]]
  exact PRet.pure (Wk.tt rfl)
theorem emit1_c (p : Prc) : ACall Tryz.prog 56 [.agg p.cells] [] (fun y Γ' => y = .bool (!fitsE p) ∧ Γ' = []) := by
 refine ACall.of_body tt_ok Tryz.func56 rfl rfl (n := 6) rfl rfl ?_
 conv => whnf
 repeat' (first|((first|((first|(apply zY;intro hg)|apply zZ);first|exact stA|exact stB|((conv=>whnf);(repeat ((first|(refine zW ?_ ?_;exact gA)|refine pC (fitsE_c p) wR ?_|refine pC (fitsE_c p) cA ?_|intro _);conv=>whnf));first|exact pS|exact pL|exact pE))|(refine zW ?_ ?_;exact gA)|refine zH rfl ?_|refine zA ?_|refine zI bA ?_|refine zI rfl ?_|refine sB ?_|(refine zO ?_ ?_ ?_;omega;omega)|(refine zP ?_ ?_ ?_;omega;omega)|refine zM rfl ?_|(refine zQ ?_ ?_ ?_;omega;omega)|(refine zR ?_ ?_;omega)|(refine zI ?_ ?_;exact nA)|refine sS ?_|refine pC (fitsE_c p) wR ?_|refine pC (fitsE_c p) cA ?_|refine sE ?_|refine n0 ?_|refine sD ?_|intro _|refine zG ?_);conv=>whnf)|(refine zX (fun hc => ?_) (fun hc => ?_)<;>(try simp only [SY] at hc)<;>first|omega|(conv=>whnf)))
 exact PRet.gen (Wk.refl _) ⟨rfl, rfl⟩
theorem anyPrc_c (l : List Prc) : ACallP Tryz.prog 55 [.sl 5 (l.map Prc.pv) none, .fn (.func 56) []] (.bool (l.any fun p => !fitsE p)) :=
 (containsFuncPrc_c 56 [] [] (fun p => !fitsE p) l (fun p _ => emit1_c p)).shift fun y Γ' hq => ⟨y, Γ', Shift.refl _ _, hq.1⟩
end Go.Cb
namespace Go.Cb
open Go.Proofs
set_option maxRecDepth 100000
set_option maxHeartbeats 4000000
def CwOk (spare : Int) (x : Ins) (al ws : List Int) : Prop := ∀ b out t, t.e = 3 → out.length + ws.length ≤ 2000000000 →
 ACall Tryz.prog 163 [.ptr b 0, .agg x.cells, slI al, .int .i64 spare] (wrE b out t) (fun y Γ' => ∃ t', t'.e = 3 ∧ y = .tup [] ∧ Γ' = wrE b (out ++ ws) t')
def oneW (cw : Ins → List Int → List Int) (x : Ins) (al : List Int) : List Int := if lvsB x = true then cw x al else insW x al
def allW (cw : Ins → List Int → List Int) (f : Ins → Ins) : List Ins → List (List Int) → List Int
 | x :: xs, a :: al => oneW cw (f x) a ++ allW cw f xs al
 | _, _ => []
def stsW (cw : Ins → List Int → List Int) (f : Ins → Ins) : List Ins → List (List Int) → Int → List Int
 | x :: xs, a :: al, n => n :: stsW cw f xs al (n + (oneW cw (f x) a).length)
 | _, _, _ => []
theorem code0_c (p : Prc) (spare : Int) (cw : Ins → List Int → List Int) (hp : p.alive.length = p.code.length) (hc0 : p.code.length ≤ 50000) (hcw : ∀ x ∈ p.code, lvsB x = true → ∀ al, CwOk spare x al (cw x al)) (hl : (allW cw id p.code p.alive).length ≤ 1000000000) :
  ACallP Tryz.prog 105 [.agg p.cells, .int .i64 spare, .nil] (.tup [slI (allW cw id p.code p.alive), slI (stsW cw id p.code p.alive 0)]) := by
 refine ACall.of_body tt_ok Tryz.func105 rfl rfl (n := 84) rfl rfl ?_
 conv => whnf
 repeat' (first|((first|((first|(apply zY;intro hg)|apply zZ);first|exact stA|exact stB|((conv=>whnf);(repeat ((first|(refine zW ?_ ?_;exact gA)|refine pC (leaves_c _) wR ?_|intro _);conv=>whnf));first|exact pS|exact pL|exact pE))|(refine zW ?_ ?_;exact gA)|refine zH rfl ?_|refine zA ?_|refine zI bA ?_|refine zI rfl ?_|refine sB ?_|(refine zO ?_ ?_ ?_;omega;omega)|(refine zP ?_ ?_ ?_;omega;omega)|refine zM rfl ?_|(refine zQ ?_ ?_ ?_;omega;omega)|(refine zR ?_ ?_;omega)|(refine zI ?_ ?_;exact nA)|refine sS ?_|refine pC (leaves_c _) wR ?_|refine sE ?_|refine n0 ?_|refine sD ?_|intro _|refine zG ?_);conv=>whnf)|(refine zX (fun hc => ?_) (fun hc => ?_)<;>(try simp only [SY] at hc)<;>first|omega|(conv=>whnf)))
 rename_i b3 b8 _
 refine PLoop.ghost (Ghost.trans (Ghost.nil 1 3 _) (Ghost.trans (Ghost.nil 1 3 _) (Ghost.box (b := b8) (cs := [.nil]) (cs' := [.sl 1 (([] : List Int).map (PV.int .i64)) (some (nilTok 1 3))]) wA))) ?_
 refine PLoop.over [9, 10, 11, 17, 18, 19, 20, 21, 22, 23, 24, 25, 26, 27, 28, 29, 30, 31, 32, 33, 34, 35, 36, 37, 38, 39, 40, 41, 42, 43, 44, 45, 46, 47, 48, 49, 50, 51, 52, 53, 54, 55, 56, 57, 58, 59, 60, 61, 62, 63, 64, 65, 66, 67, 68, 69, 70, 71, 72, 73, 74, 75, 76, 77, 78] (fun x : Nat × (List Int × Tok) × (List Int × Tok) => [(9, .sl 1 (x.2.2.1.map (PV.int .i64)) (some x.2.2.2)), (17, .int .i64 x.1)]) (fun x => .tok x.2.2.2 :: .box b3 (prX p) :: wrE b8 x.2.1.1 x.2.1.2)
  (fun x => x.1 ≤ p.code.length ∧ x.2.1.2.e = 3 ∧ x.2.2.2.e = 3 ∧ x.2.2.1.length = x.1 ∧ x.2.1.1 ++ allW cw id (p.code.drop x.1) (p.alive.drop x.1) = allW cw id p.code p.alive ∧ x.2.2.1 ++ stsW cw id (p.code.drop x.1) (p.alive.drop x.1) x.2.1.1.length = stsW cw id p.code p.alive 0) (fun x => p.code.length - x.1)
  (0, ([], nilTok 1 3), ([], nilTok 1 3)) ⟨Nat.zero_le _, rfl, rfl, rfl, by simp, by simp⟩ wA ?_
 rintro ⟨i, ⟨out, tw⟩, ⟨sts, ts⟩⟩ ⟨hi, htw, hts, hsl, ho, hs⟩
 dsimp only at hi htw hts hsl ho hs ⊢
 conv => whnf
 repeat' (first|((first|((first|(apply zY;intro hg)|apply zZ);first|exact stA|exact stB|((conv=>whnf);(repeat ((first|(refine zW ?_ ?_;exact gA)|refine pC (leaves_c _) wR ?_|intro _);conv=>whnf));first|exact pS|exact pL|exact pE))|(refine zW ?_ ?_;exact gA)|refine zH rfl ?_|refine zA ?_|refine zI bA ?_|refine zI rfl ?_|refine sB ?_|(refine zO ?_ ?_ ?_;omega;omega)|(refine zP ?_ ?_ ?_;omega;omega)|refine zM rfl ?_|(refine zQ ?_ ?_ ?_;omega;omega)|(refine zR ?_ ?_;omega)|(refine zI ?_ ?_;exact nA)|refine sS ?_|refine pC (leaves_c _) wR ?_|refine sE ?_|refine n0 ?_|refine sD ?_|intro _|refine zG ?_);conv=>whnf)|(refine zX (fun hc => ?_) (fun hc => ?_)<;>(try simp only [SY] at hc)<;>first|omega|(conv=>whnf)))
 ·have hic : i < p.code.length := by omega
  have hia : i < p.alive.length := by omega
  have hx := hcw p.code[i] (List.getElem_mem hic) hc p.alive[i]
  rw [drop_at hic, drop_at hia, allW, oneW, id_eq, if_pos hc] at ho
  rw [drop_at hic, drop_at hia, stsW, oneW, id_eq, if_pos hc] at hs
  have hsz := congrArg List.length ho
  simp only [List.length_append] at hsz
  have hcall := hx b8 out tw htw (by omega)
  generalize cw p.code[i] p.alive[i] = ws at *
  refine PDraw.sE [.box b8 [.sl 1 (out.map (PV.int .i64)) (some tw)], .tok tw] [] [8] tt_ok mixed ?_
  conv=>whnf
  repeat ((first|((first|(apply zY;intro hg)|apply zZ);first|exact stA|exact stB|((conv=>whnf);(repeat ((first|(refine zW ?_ ?_;exact gA)|refine pC (leaves_c _) wR ?_|intro _);conv=>whnf));first|exact pS|exact pL|exact pE))|(refine zW ?_ ?_;exact gA)|refine zH rfl ?_|refine zA ?_|refine zI bA ?_|refine zI rfl ?_|refine sB ?_|(refine zO ?_ ?_ ?_;omega;omega)|(refine zP ?_ ?_ ?_;omega;omega)|refine zM rfl ?_|(refine zQ ?_ ?_ ?_;omega;omega)|(refine zR ?_ ?_;omega)|(refine zI ?_ ?_;exact nA)|refine sS ?_|refine pC (leaves_c _) wR ?_|refine sE ?_|refine n0 ?_|refine sD ?_|intro _);conv=>whnf)
  refine PCall.go hcall (WkT.refl _) ?_
  rintro _ _ ⟨tw2, htw2, rfl, rfl⟩
  conv => whnf
  repeat' (first|((first|((first|(apply zY;intro hg)|apply zZ);first|exact stA|exact stB|((conv=>whnf);(repeat ((first|(refine zW ?_ ?_;exact gA)|refine pC (leaves_c _) wR ?_|intro _);conv=>whnf));first|exact pS|exact pL|exact pE))|(refine zW ?_ ?_;exact gA)|refine zH rfl ?_|refine zA ?_|refine zI bA ?_|refine zI rfl ?_|refine sB ?_|(refine zO ?_ ?_ ?_;omega;omega)|(refine zP ?_ ?_ ?_;omega;omega)|refine zM rfl ?_|(refine zQ ?_ ?_ ?_;omega;omega)|(refine zR ?_ ?_;omega)|(refine zI ?_ ?_;exact nA)|refine sS ?_|refine pC (leaves_c _) wR ?_|refine sE ?_|refine n0 ?_|refine sD ?_|intro _|refine zG ?_);conv=>whnf)|(refine zX (fun hc => ?_) (fun hc => ?_)<;>(try simp only [SY] at hc)<;>first|omega|(conv=>whnf)))
  rename_i ts2 hts2
  exact loopTo (i + 1, (out ++ ws, tw2), (sts ++ [(out.length : Int)], ts2)) ⟨by show i + 1 ≤ _; omega, htw2, hts2, by simp; omega, by dsimp only; rw [List.append_assoc]; exact ho, by dsimp only; rw [List.append_assoc, List.singleton_append, List.length_append, Int.natCast_add]; exact hs⟩ (by show p.code.length - (i + 1) < p.code.length - i; omega) wA
 ·have hic : i < p.code.length := by omega
  have hia : i < p.alive.length := by omega
  rw [drop_at hic, drop_at hia, allW, oneW, id_eq, if_neg (by rw [hc]; simp)] at ho
  rw [drop_at hic, drop_at hia, stsW, oneW, id_eq, if_neg (by rw [hc]; simp)] at hs
  have hsz := congrArg List.length ho
  have hil : (insW p.code[i] p.alive[i]).length = 6 + p.code[i].l.length + p.alive[i].length := by simp [insW]; omega
  simp only [List.length_append] at hsz
  have hcall := insw_c b8 out tw p.code[i] p.alive[i] htw (by omega)
  generalize insW p.code[i] p.alive[i] = ws at *
  refine PDraw.sE [.box b8 [.sl 1 (out.map (PV.int .i64)) (some tw)], .tok tw] [] [7] tt_ok mixed ?_
  conv=>whnf
  repeat ((first|((first|(apply zY;intro hg)|apply zZ);first|exact stA|exact stB|((conv=>whnf);(repeat ((first|(refine zW ?_ ?_;exact gA)|refine pC (leaves_c _) wR ?_|intro _);conv=>whnf));first|exact pS|exact pL|exact pE))|(refine zW ?_ ?_;exact gA)|refine zH rfl ?_|refine zA ?_|refine zI bA ?_|refine zI rfl ?_|refine sB ?_|(refine zO ?_ ?_ ?_;omega;omega)|(refine zP ?_ ?_ ?_;omega;omega)|refine zM rfl ?_|(refine zQ ?_ ?_ ?_;omega;omega)|(refine zR ?_ ?_;omega)|(refine zI ?_ ?_;exact nA)|refine sS ?_|refine pC (leaves_c _) wR ?_|refine sE ?_|refine n0 ?_|refine sD ?_|intro _);conv=>whnf)
  refine PCall.go hcall (WkT.refl _) ?_
  rintro _ _ ⟨tw2, htw2, rfl, rfl⟩
  conv => whnf
  repeat' (first|((first|((first|(apply zY;intro hg)|apply zZ);first|exact stA|exact stB|((conv=>whnf);(repeat ((first|(refine zW ?_ ?_;exact gA)|refine pC (leaves_c _) wR ?_|intro _);conv=>whnf));first|exact pS|exact pL|exact pE))|(refine zW ?_ ?_;exact gA)|refine zH rfl ?_|refine zA ?_|refine zI bA ?_|refine zI rfl ?_|refine sB ?_|(refine zO ?_ ?_ ?_;omega;omega)|(refine zP ?_ ?_ ?_;omega;omega)|refine zM rfl ?_|(refine zQ ?_ ?_ ?_;omega;omega)|(refine zR ?_ ?_;omega)|(refine zI ?_ ?_;exact nA)|refine sS ?_|refine pC (leaves_c _) wR ?_|refine sE ?_|refine n0 ?_|refine sD ?_|intro _|refine zG ?_);conv=>whnf)|(refine zX (fun hc => ?_) (fun hc => ?_)<;>(try simp only [SY] at hc)<;>first|omega|(conv=>whnf)))
  rename_i ts2 hts2
  exact loopTo (i + 1, (out ++ ws, tw2), (sts ++ [(out.length : Int)], ts2)) ⟨by show i + 1 ≤ _; omega, htw2, hts2, by simp; omega, by dsimp only; rw [List.append_assoc]; exact ho, by dsimp only; rw [List.append_assoc, List.singleton_append, List.length_append, Int.natCast_add]; exact hs⟩ (by show p.code.length - (i + 1) < p.code.length - i; omega) wA
 ·rw [List.drop_of_length_le (by omega), List.drop_of_length_le (by omega)] at ho hs
  rw [show allW cw id [] [] = [] by simp [allW], List.append_nil] at ho
  rw [show stsW cw id [] [] out.length = [] by simp [stsW], List.append_nil] at hs
  rw [← ho, ← hs]
  exact PRet.pure wA
theorem PNil.ne {α : Type} {f : α → PV} {l : List α} {K : Bool → Prop} (hl : l ≠ []) (h : K false) : PNil (l.map f) K :=
 ⟨fun q hq => by
  cases q with
  | false => exact h
  | true => exact absurd (by simpa using hq rfl) hl⟩
def jmpT (pl : List Int) (x : Ins) : Ins := if x.op = 15 then ⟨x.op, x.d, pl.getD x.a.toNat 0, x.b, x.l⟩ else if x.op = 16 then ⟨x.op, x.d, x.a, pl.getD x.b.toNat 0, x.l⟩ else x
theorem code1_c (p : Prc) (spare : Int) (pl : List Int) (hpl : pl ≠ []) (hj : ∀ x ∈ p.code, (x.op = 15 → 0 ≤ x.a ∧ x.a < pl.length) ∧ (x.op = 16 → 0 ≤ x.b ∧ x.b < pl.length)) (cw : Ins → List Int → List Int) (hp : p.alive.length = p.code.length) (hc0 : p.code.length ≤ 50000) (hcw : ∀ x ∈ p.code, lvsB x = true → ∀ al, CwOk spare x al (cw x al)) (hl : (allW cw (jmpT pl) p.code p.alive).length ≤ 1000000000) :
  ACallP Tryz.prog 105 [.agg p.cells, .int .i64 spare, slI pl] (.tup [slI (allW cw (jmpT pl) p.code p.alive), slI (stsW cw (jmpT pl) p.code p.alive 0)]) := by
 refine ACall.of_body tt_ok Tryz.func105 rfl rfl (n := 84) rfl rfl ?_
 conv => whnf
 repeat' (first|((first|((first|(apply zY;intro hg)|apply zZ);first|exact stA|exact stB|((conv=>whnf);(repeat ((first|(refine zW ?_ ?_;exact gA)|refine pC (leaves_c _) wR ?_|intro _);conv=>whnf));first|exact pS|exact pL|exact pE))|(refine zW ?_ ?_;exact gA)|refine zH rfl ?_|refine zA ?_|refine zI bA ?_|refine zI rfl ?_|refine sB ?_|(refine zO ?_ ?_ ?_;omega;omega)|(refine zP ?_ ?_ ?_;omega;omega)|refine zM rfl ?_|(refine zQ ?_ ?_ ?_;omega;omega)|(refine zR ?_ ?_;omega)|(refine zI ?_ ?_;exact nA)|refine sS ?_|refine pC (leaves_c _) wR ?_|refine sE ?_|refine n0 ?_|refine sD ?_|intro _|refine zG ?_);conv=>whnf)|(refine zX (fun hc => ?_) (fun hc => ?_)<;>(try simp only [SY] at hc)<;>first|omega|(conv=>whnf)))
 rename_i b3 b8 _
 refine PLoop.ghost (Ghost.trans (Ghost.nil 1 3 _) (Ghost.trans (Ghost.nil 1 3 _) (Ghost.box (b := b8) (cs := [.nil]) (cs' := [.sl 1 (([] : List Int).map (PV.int .i64)) (some (nilTok 1 3))]) wA))) ?_
 refine PLoop.over [9, 10, 11, 17, 18, 19, 20, 21, 22, 23, 24, 25, 26, 27, 28, 29, 30, 31, 32, 33, 34, 35, 36, 37, 38, 39, 40, 41, 42, 43, 44, 45, 46, 47, 48, 49, 50, 51, 52, 53, 54, 55, 56, 57, 58, 59, 60, 61, 62, 63, 64, 65, 66, 67, 68, 69, 70, 71, 72, 73, 74, 75, 76, 77, 78] (fun x : Nat × (List Int × Tok) × (List Int × Tok) => [(9, .sl 1 (x.2.2.1.map (PV.int .i64)) (some x.2.2.2)), (17, .int .i64 x.1)]) (fun x => .tok x.2.2.2 :: .box b3 (prX p) :: wrE b8 x.2.1.1 x.2.1.2)
  (fun x => x.1 ≤ p.code.length ∧ x.2.1.2.e = 3 ∧ x.2.2.2.e = 3 ∧ x.2.2.1.length = x.1 ∧ x.2.1.1 ++ allW cw (jmpT pl) (p.code.drop x.1) (p.alive.drop x.1) = allW cw (jmpT pl) p.code p.alive ∧ x.2.2.1 ++ stsW cw (jmpT pl) (p.code.drop x.1) (p.alive.drop x.1) x.2.1.1.length = stsW cw (jmpT pl) p.code p.alive 0) (fun x => p.code.length - x.1)
  (0, ([], nilTok 1 3), ([], nilTok 1 3)) ⟨Nat.zero_le _, rfl, rfl, rfl, by simp, by simp⟩ wA ?_
 rintro ⟨i, ⟨out, tw⟩, ⟨sts, ts⟩⟩ ⟨hi, htw, hts, hsl, ho, hs⟩
 dsimp only at hi htw hts hsl ho hs ⊢
 conv => whnf
 repeat' (first|((first|((first|(apply zY;intro hg)|apply zZ);first|exact stA|exact stB|((conv=>whnf);(repeat ((first|(refine zW ?_ ?_;exact gA)|(refine PNil.ne hpl ?_)|refine pC (leaves_c _) wR ?_|intro _);conv=>whnf));first|exact pS|exact pL|exact pE))|(refine zW ?_ ?_;exact gA)|refine zH rfl ?_|refine zA ?_|refine zI bA ?_|refine zI rfl ?_|refine sB ?_|(refine zO ?_ ?_ ?_;omega;omega)|(refine zP ?_ ?_ ?_;omega;omega)|refine zM rfl ?_|(refine zQ ?_ ?_ ?_;omega;omega)|(refine zR ?_ ?_;omega)|(refine zI ?_ ?_;exact nA)|refine sS ?_|(refine PNil.ne hpl ?_)|refine pC (leaves_c _) wR ?_|refine sE ?_|refine n0 ?_|refine sD ?_|intro _|refine zG ?_);conv=>whnf)|(refine zX (fun hc => ?_) (fun hc => ?_)<;>(try simp only [SY] at hc)<;>first|omega|(conv=>whnf)))
 ·have hic : i < p.code.length := by omega
  have hia : i < p.alive.length := by omega
  have hjt : jmpT pl p.code[i] = p.code[i] := by
   have : p.code[i].op ≥ 19 := by simp only [lvsB, Bool.and_eq_true, decide_eq_true_eq] at hc; exact hc.1
   unfold jmpT
   rw [if_neg (by omega), if_neg (by omega)]
  have hx := hcw p.code[i] (List.getElem_mem hic) hc p.alive[i]
  rw [drop_at hic, drop_at hia, allW, oneW, hjt, if_pos hc] at ho
  rw [drop_at hic, drop_at hia, stsW, oneW, hjt, if_pos hc] at hs
  have hsz := congrArg List.length ho
  simp only [List.length_append] at hsz
  have hcall := hx b8 out tw htw (by omega)
  generalize cw p.code[i] p.alive[i] = ws at *
  refine PDraw.sE [.box b8 [.sl 1 (out.map (PV.int .i64)) (some tw)], .tok tw] [] [8] tt_ok mixed ?_
  conv=>whnf
  repeat ((first|((first|(apply zY;intro hg)|apply zZ);first|exact stA|exact stB|((conv=>whnf);(repeat ((first|(refine zW ?_ ?_;exact gA)|(refine PNil.ne hpl ?_)|refine pC (leaves_c _) wR ?_|intro _);conv=>whnf));first|exact pS|exact pL|exact pE))|(refine zW ?_ ?_;exact gA)|refine zH rfl ?_|refine zA ?_|refine zI bA ?_|refine zI rfl ?_|refine sB ?_|(refine zO ?_ ?_ ?_;omega;omega)|(refine zP ?_ ?_ ?_;omega;omega)|refine zM rfl ?_|(refine zQ ?_ ?_ ?_;omega;omega)|(refine zR ?_ ?_;omega)|(refine zI ?_ ?_;exact nA)|refine sS ?_|(refine PNil.ne hpl ?_)|refine pC (leaves_c _) wR ?_|refine sE ?_|refine n0 ?_|refine sD ?_|intro _);conv=>whnf)
  refine PCall.go hcall (WkT.refl _) ?_
  rintro _ _ ⟨tw2, htw2, rfl, rfl⟩
  conv => whnf
  repeat' (first|((first|((first|(apply zY;intro hg)|apply zZ);first|exact stA|exact stB|((conv=>whnf);(repeat ((first|(refine zW ?_ ?_;exact gA)|(refine PNil.ne hpl ?_)|refine pC (leaves_c _) wR ?_|intro _);conv=>whnf));first|exact pS|exact pL|exact pE))|(refine zW ?_ ?_;exact gA)|refine zH rfl ?_|refine zA ?_|refine zI bA ?_|refine zI rfl ?_|refine sB ?_|(refine zO ?_ ?_ ?_;omega;omega)|(refine zP ?_ ?_ ?_;omega;omega)|refine zM rfl ?_|(refine zQ ?_ ?_ ?_;omega;omega)|(refine zR ?_ ?_;omega)|(refine zI ?_ ?_;exact nA)|refine sS ?_|(refine PNil.ne hpl ?_)|refine pC (leaves_c _) wR ?_|refine sE ?_|refine n0 ?_|refine sD ?_|intro _|refine zG ?_);conv=>whnf)|(refine zX (fun hc => ?_) (fun hc => ?_)<;>(try simp only [SY] at hc)<;>first|omega|(conv=>whnf)))
  rename_i ts2 hts2
  exact loopTo (i + 1, (out ++ ws, tw2), (sts ++ [(out.length : Int)], ts2)) ⟨by show i + 1 ≤ _; omega, htw2, hts2, by simp; omega, by dsimp only; rw [List.append_assoc]; exact ho, by dsimp only; rw [List.append_assoc, List.singleton_append, List.length_append, Int.natCast_add]; exact hs⟩ (by show p.code.length - (i + 1) < p.code.length - i; omega) wA
 ·have hic : i < p.code.length := by omega
  have hia : i < p.alive.length := by omega
  have hjj := hj p.code[i] (List.getElem_mem hic)
  have hlv0 : lvsB p.code[i] = false := by assumption
  have hjt : jmpT pl p.code[i] = ⟨p.code[i].op, p.code[i].d, pl.getD p.code[i].a.toNat 0, p.code[i].b, p.code[i].l⟩ := by unfold jmpT; rw [if_pos hc.1]
  have hlv : lvsB (⟨p.code[i].op, p.code[i].d, pl.getD p.code[i].a.toNat 0, p.code[i].b, p.code[i].l⟩) = false := hlv0
  rw [drop_at hic, drop_at hia, allW, oneW, hjt, if_neg (by rw [hlv]; simp)] at ho
  rw [drop_at hic, drop_at hia, stsW, oneW, hjt, if_neg (by rw [hlv]; simp)] at hs
  have hsz := congrArg List.length ho
  have hil : (insW (⟨p.code[i].op, p.code[i].d, pl.getD p.code[i].a.toNat 0, p.code[i].b, p.code[i].l⟩) p.alive[i]).length = 6 + p.code[i].l.length + p.alive[i].length := by simp [insW]; omega
  simp only [List.length_append] at hsz
  refine PIndexA.ixE 0 (hjj.1 hc.1).1 (hjj.1 hc.1).2 ?_
  conv => whnf
  repeat' (first|((first|((first|(apply zY;intro hg)|apply zZ);first|exact stA|exact stB|((conv=>whnf);(repeat ((first|(refine zW ?_ ?_;exact gA)|(refine PNil.ne hpl ?_)|refine pC (leaves_c _) wR ?_|intro _);conv=>whnf));first|exact pS|exact pL|exact pE))|(refine zW ?_ ?_;exact gA)|refine zH rfl ?_|refine zA ?_|refine zI bA ?_|refine zI rfl ?_|refine sB ?_|(refine zO ?_ ?_ ?_;omega;omega)|(refine zP ?_ ?_ ?_;omega;omega)|refine zM rfl ?_|(refine zQ ?_ ?_ ?_;omega;omega)|(refine zR ?_ ?_;omega)|(refine zI ?_ ?_;exact nA)|refine sS ?_|(refine PNil.ne hpl ?_)|refine pC (leaves_c _) wR ?_|refine sE ?_|refine n0 ?_|refine sD ?_|intro _|refine zG ?_);conv=>whnf)|(refine zX (fun hc => ?_) (fun hc => ?_)<;>(try simp only [SY] at hc)<;>first|omega|(conv=>whnf)))
  have hcall := insw_c b8 out tw (⟨p.code[i].op, p.code[i].d, pl.getD p.code[i].a.toNat 0, p.code[i].b, p.code[i].l⟩) p.alive[i] htw (by show out.length + p.code[i].l.length + _ ≤ _; omega)
  generalize insW (⟨p.code[i].op, p.code[i].d, pl.getD p.code[i].a.toNat 0, p.code[i].b, p.code[i].l⟩) p.alive[i] = ws at *
  refine PDraw.sE [.box b8 [.sl 1 (out.map (PV.int .i64)) (some tw)], .tok tw] [] [7] tt_ok mixed ?_
  conv=>whnf
  repeat ((first|((first|(apply zY;intro hg)|apply zZ);first|exact stA|exact stB|((conv=>whnf);(repeat ((first|(refine zW ?_ ?_;exact gA)|(refine PNil.ne hpl ?_)|refine pC (leaves_c _) wR ?_|intro _);conv=>whnf));first|exact pS|exact pL|exact pE))|(refine zW ?_ ?_;exact gA)|refine zH rfl ?_|refine zA ?_|refine zI bA ?_|refine zI rfl ?_|refine sB ?_|(refine zO ?_ ?_ ?_;omega;omega)|(refine zP ?_ ?_ ?_;omega;omega)|refine zM rfl ?_|(refine zQ ?_ ?_ ?_;omega;omega)|(refine zR ?_ ?_;omega)|(refine zI ?_ ?_;exact nA)|refine sS ?_|(refine PNil.ne hpl ?_)|refine pC (leaves_c _) wR ?_|refine sE ?_|refine n0 ?_|refine sD ?_|intro _);conv=>whnf)
  refine PCall.go hcall (WkT.refl _) ?_
  rintro _ _ ⟨tw2, htw2, rfl, rfl⟩
  conv => whnf
  repeat' (first|((first|((first|(apply zY;intro hg)|apply zZ);first|exact stA|exact stB|((conv=>whnf);(repeat ((first|(refine zW ?_ ?_;exact gA)|(refine PNil.ne hpl ?_)|refine pC (leaves_c _) wR ?_|intro _);conv=>whnf));first|exact pS|exact pL|exact pE))|(refine zW ?_ ?_;exact gA)|refine zH rfl ?_|refine zA ?_|refine zI bA ?_|refine zI rfl ?_|refine sB ?_|(refine zO ?_ ?_ ?_;omega;omega)|(refine zP ?_ ?_ ?_;omega;omega)|refine zM rfl ?_|(refine zQ ?_ ?_ ?_;omega;omega)|(refine zR ?_ ?_;omega)|(refine zI ?_ ?_;exact nA)|refine sS ?_|(refine PNil.ne hpl ?_)|refine pC (leaves_c _) wR ?_|refine sE ?_|refine n0 ?_|refine sD ?_|intro _|refine zG ?_);conv=>whnf)|(refine zX (fun hc => ?_) (fun hc => ?_)<;>(try simp only [SY] at hc)<;>first|omega|(conv=>whnf)))
  rename_i ts2 hts2 _
  exact loopTo (i + 1, (out ++ ws, tw2), (sts ++ [(out.length : Int)], ts2)) ⟨by show i + 1 ≤ _; omega, htw2, hts2, by simp; omega, by dsimp only; rw [List.append_assoc]; exact ho, by dsimp only; rw [List.append_assoc, List.singleton_append, List.length_append, Int.natCast_add]; exact hs⟩ (by show p.code.length - (i + 1) < p.code.length - i; omega) wA
 ·have hic : i < p.code.length := by omega
  have hia : i < p.alive.length := by omega
  have hjj := hj p.code[i] (List.getElem_mem hic)
  have hlv0 : lvsB p.code[i] = false := by assumption
  have hjt : jmpT pl p.code[i] = ⟨p.code[i].op, p.code[i].d, p.code[i].a, pl.getD p.code[i].b.toNat 0, p.code[i].l⟩ := by unfold jmpT; rw [if_neg (by omega), if_pos hc.1]
  have hlv : lvsB (⟨p.code[i].op, p.code[i].d, p.code[i].a, pl.getD p.code[i].b.toNat 0, p.code[i].l⟩) = false := hlv0
  rw [drop_at hic, drop_at hia, allW, oneW, hjt, if_neg (by rw [hlv]; simp)] at ho
  rw [drop_at hic, drop_at hia, stsW, oneW, hjt, if_neg (by rw [hlv]; simp)] at hs
  have hsz := congrArg List.length ho
  have hil : (insW (⟨p.code[i].op, p.code[i].d, p.code[i].a, pl.getD p.code[i].b.toNat 0, p.code[i].l⟩) p.alive[i]).length = 6 + p.code[i].l.length + p.alive[i].length := by simp [insW]; omega
  simp only [List.length_append] at hsz
  refine PIndexA.ixE 0 (hjj.2 hc.1).1 (hjj.2 hc.1).2 ?_
  conv => whnf
  repeat' (first|((first|((first|(apply zY;intro hg)|apply zZ);first|exact stA|exact stB|((conv=>whnf);(repeat ((first|(refine zW ?_ ?_;exact gA)|(refine PNil.ne hpl ?_)|refine pC (leaves_c _) wR ?_|intro _);conv=>whnf));first|exact pS|exact pL|exact pE))|(refine zW ?_ ?_;exact gA)|refine zH rfl ?_|refine zA ?_|refine zI bA ?_|refine zI rfl ?_|refine sB ?_|(refine zO ?_ ?_ ?_;omega;omega)|(refine zP ?_ ?_ ?_;omega;omega)|refine zM rfl ?_|(refine zQ ?_ ?_ ?_;omega;omega)|(refine zR ?_ ?_;omega)|(refine zI ?_ ?_;exact nA)|refine sS ?_|(refine PNil.ne hpl ?_)|refine pC (leaves_c _) wR ?_|refine sE ?_|refine n0 ?_|refine sD ?_|intro _|refine zG ?_);conv=>whnf)|(refine zX (fun hc => ?_) (fun hc => ?_)<;>(try simp only [SY] at hc)<;>first|omega|(conv=>whnf)))
  have hcall := insw_c b8 out tw (⟨p.code[i].op, p.code[i].d, p.code[i].a, pl.getD p.code[i].b.toNat 0, p.code[i].l⟩) p.alive[i] htw (by show out.length + p.code[i].l.length + _ ≤ _; omega)
  generalize insW (⟨p.code[i].op, p.code[i].d, p.code[i].a, pl.getD p.code[i].b.toNat 0, p.code[i].l⟩) p.alive[i] = ws at *
  refine PDraw.sE [.box b8 [.sl 1 (out.map (PV.int .i64)) (some tw)], .tok tw] [] [7] tt_ok mixed ?_
  conv=>whnf
  repeat ((first|((first|(apply zY;intro hg)|apply zZ);first|exact stA|exact stB|((conv=>whnf);(repeat ((first|(refine zW ?_ ?_;exact gA)|(refine PNil.ne hpl ?_)|refine pC (leaves_c _) wR ?_|intro _);conv=>whnf));first|exact pS|exact pL|exact pE))|(refine zW ?_ ?_;exact gA)|refine zH rfl ?_|refine zA ?_|refine zI bA ?_|refine zI rfl ?_|refine sB ?_|(refine zO ?_ ?_ ?_;omega;omega)|(refine zP ?_ ?_ ?_;omega;omega)|refine zM rfl ?_|(refine zQ ?_ ?_ ?_;omega;omega)|(refine zR ?_ ?_;omega)|(refine zI ?_ ?_;exact nA)|refine sS ?_|(refine PNil.ne hpl ?_)|refine pC (leaves_c _) wR ?_|refine sE ?_|refine n0 ?_|refine sD ?_|intro _);conv=>whnf)
  refine PCall.go hcall (WkT.refl _) ?_
  rintro _ _ ⟨tw2, htw2, rfl, rfl⟩
  conv => whnf
  repeat' (first|((first|((first|(apply zY;intro hg)|apply zZ);first|exact stA|exact stB|((conv=>whnf);(repeat ((first|(refine zW ?_ ?_;exact gA)|(refine PNil.ne hpl ?_)|refine pC (leaves_c _) wR ?_|intro _);conv=>whnf));first|exact pS|exact pL|exact pE))|(refine zW ?_ ?_;exact gA)|refine zH rfl ?_|refine zA ?_|refine zI bA ?_|refine zI rfl ?_|refine sB ?_|(refine zO ?_ ?_ ?_;omega;omega)|(refine zP ?_ ?_ ?_;omega;omega)|refine zM rfl ?_|(refine zQ ?_ ?_ ?_;omega;omega)|(refine zR ?_ ?_;omega)|(refine zI ?_ ?_;exact nA)|refine sS ?_|(refine PNil.ne hpl ?_)|refine pC (leaves_c _) wR ?_|refine sE ?_|refine n0 ?_|refine sD ?_|intro _|refine zG ?_);conv=>whnf)|(refine zX (fun hc => ?_) (fun hc => ?_)<;>(try simp only [SY] at hc)<;>first|omega|(conv=>whnf)))
  rename_i ts2 hts2 _ _
  exact loopTo (i + 1, (out ++ ws, tw2), (sts ++ [(out.length : Int)], ts2)) ⟨by show i + 1 ≤ _; omega, htw2, hts2, by simp; omega, by dsimp only; rw [List.append_assoc]; exact ho, by dsimp only; rw [List.append_assoc, List.singleton_append, List.length_append, Int.natCast_add]; exact hs⟩ (by show p.code.length - (i + 1) < p.code.length - i; omega) wA
 ·have hic : i < p.code.length := by omega
  have hia : i < p.alive.length := by omega
  have hjj := hj p.code[i] (List.getElem_mem hic)
  have hlv0 : lvsB p.code[i] = false := by assumption
  have hjt : jmpT pl p.code[i] = p.code[i] := by
   unfold jmpT
   rw [if_neg, if_neg]
   ·rcases hc with hc | hc
    ·exact hc
    ·simp at hc
   ·rename_i hc15
    rcases hc15 with hc | hc
    ·exact hc
    ·simp at hc
  have hlv : lvsB (p.code[i]) = false := hlv0
  rw [drop_at hic, drop_at hia, allW, oneW, hjt, if_neg (by rw [hlv]; simp)] at ho
  rw [drop_at hic, drop_at hia, stsW, oneW, hjt, if_neg (by rw [hlv]; simp)] at hs
  have hsz := congrArg List.length ho
  have hil : (insW (p.code[i]) p.alive[i]).length = 6 + p.code[i].l.length + p.alive[i].length := by simp [insW]; omega
  simp only [List.length_append] at hsz
  have hcall := insw_c b8 out tw (p.code[i]) p.alive[i] htw (by show out.length + p.code[i].l.length + _ ≤ _; omega)
  generalize insW (p.code[i]) p.alive[i] = ws at *
  refine PDraw.sE [.box b8 [.sl 1 (out.map (PV.int .i64)) (some tw)], .tok tw] [] [7] tt_ok mixed ?_
  conv=>whnf
  repeat ((first|((first|(apply zY;intro hg)|apply zZ);first|exact stA|exact stB|((conv=>whnf);(repeat ((first|(refine zW ?_ ?_;exact gA)|(refine PNil.ne hpl ?_)|refine pC (leaves_c _) wR ?_|intro _);conv=>whnf));first|exact pS|exact pL|exact pE))|(refine zW ?_ ?_;exact gA)|refine zH rfl ?_|refine zA ?_|refine zI bA ?_|refine zI rfl ?_|refine sB ?_|(refine zO ?_ ?_ ?_;omega;omega)|(refine zP ?_ ?_ ?_;omega;omega)|refine zM rfl ?_|(refine zQ ?_ ?_ ?_;omega;omega)|(refine zR ?_ ?_;omega)|(refine zI ?_ ?_;exact nA)|refine sS ?_|(refine PNil.ne hpl ?_)|refine pC (leaves_c _) wR ?_|refine sE ?_|refine n0 ?_|refine sD ?_|intro _);conv=>whnf)
  refine PCall.go hcall (WkT.refl _) ?_
  rintro _ _ ⟨tw2, htw2, rfl, rfl⟩
  conv => whnf
  repeat' (first|((first|((first|(apply zY;intro hg)|apply zZ);first|exact stA|exact stB|((conv=>whnf);(repeat ((first|(refine zW ?_ ?_;exact gA)|(refine PNil.ne hpl ?_)|refine pC (leaves_c _) wR ?_|intro _);conv=>whnf));first|exact pS|exact pL|exact pE))|(refine zW ?_ ?_;exact gA)|refine zH rfl ?_|refine zA ?_|refine zI bA ?_|refine zI rfl ?_|refine sB ?_|(refine zO ?_ ?_ ?_;omega;omega)|(refine zP ?_ ?_ ?_;omega;omega)|refine zM rfl ?_|(refine zQ ?_ ?_ ?_;omega;omega)|(refine zR ?_ ?_;omega)|(refine zI ?_ ?_;exact nA)|refine sS ?_|(refine PNil.ne hpl ?_)|refine pC (leaves_c _) wR ?_|refine sE ?_|refine n0 ?_|refine sD ?_|intro _|refine zG ?_);conv=>whnf)|(refine zX (fun hc => ?_) (fun hc => ?_)<;>(try simp only [SY] at hc)<;>first|omega|(conv=>whnf)))
  rename_i ts2 hts2 _ _
  exact loopTo (i + 1, (out ++ ws, tw2), (sts ++ [(out.length : Int)], ts2)) ⟨by show i + 1 ≤ _; omega, htw2, hts2, by simp; omega, by dsimp only; rw [List.append_assoc]; exact ho, by dsimp only; rw [List.append_assoc, List.singleton_append, List.length_append, Int.natCast_add]; exact hs⟩ (by show p.code.length - (i + 1) < p.code.length - i; omega) wA
 ·rw [List.drop_of_length_le (by omega), List.drop_of_length_le (by omega)] at ho hs
  rw [show allW cw (jmpT pl) [] [] = [] by simp [allW], List.append_nil] at ho
  rw [show stsW cw (jmpT pl) [] [] out.length = [] by simp [stsW], List.append_nil] at hs
  rw [← ho, ← hs]
  exact PRet.pure wA
end Go.Cb
namespace Go.Cb
open Go.Proofs
set_option maxRecDepth 100000
set_option maxHeartbeats 4000000
def spareL : List Ins → Int → Int
 | [], s => s
 | x :: xs, s => spareL xs (if lvsB x = true then max s ((takF x).length : Int) else s)
abbrev CwF := Int → Ins → List Int → List Int
abbrev stsP (cw : CwF) (p : Prc) : List Int := stsW (cw (spareL p.code p.regs)) id p.code p.alive 0
abbrev wrdP (cw : CwF) (p : Prc) : List Int := allW (cw (spareL p.code p.regs)) (jmpT (stsP cw p)) p.code p.alive
def procW (cw : CwF) (p : Prc) : List Int := [p.args, if p.rest = true then 1 else 0, spareL p.code p.regs + 1] ++ (((wrdP cw p).length : Int) :: wrdP cw p)
theorem stsW_len (cw : Ins → List Int → List Int) (f : Ins → Ins) : ∀ (c : List Ins) (al : List (List Int)) (n : Int), al.length = c.length → (stsW cw f c al n).length = c.length
 | [], [], _, _ => by simp [stsW]
 | x :: c, a :: al, n, h => by
  rw [stsW, List.length_cons, stsW_len cw f c al _ (by simpa using h), List.length_cons]
 | [], _ :: _, _, h => by simp at h
 | _ :: _, [], _, h => by simp at h
theorem takF_len (x : Ins) : (takF x).length ≤ x.l.length + 1 := by unfold takF; split; simp; split <;> simp
theorem spareL_ge : ∀ (c : List Ins) (s : Int), s ≤ spareL c s
 | [], s => by rw [spareL]; omega
 | x :: c, s => by
  rw [spareL]
  have := spareL_ge c (if lvsB x = true then max s ((takF x).length : Int) else s)
  split at this
  ·rename_i h; rw [if_pos h]; omega
  ·rename_i h; rw [if_neg h]; omega
structure PrcOk (cw : CwF) (p : Prc) : Prop where
 al : p.alive.length = p.code.length
 ne : 0 < p.code.length
 le : p.code.length ≤ 50000
 jm : ∀ x ∈ p.code, (x.op = 15 → 0 ≤ x.a ∧ x.a < p.code.length) ∧ (x.op = 16 → 0 ≤ x.b ∧ x.b < p.code.length)
 ll : ∀ x ∈ p.code, x.l.length ≤ 1000000
 rg : 0 ≤ p.regs ∧ p.regs ≤ 20000
 ck : ∀ x ∈ p.code, lvsB x = true → ∀ al, CwOk (spareL p.code p.regs) x al (cw (spareL p.code p.regs) x al)
 z0 : (allW (cw (spareL p.code p.regs)) id p.code p.alive).length ≤ 1000000000
 z1 : (wrdP cw p).length ≤ 1000000000
theorem spareL_le : ∀ (c : List Ins) (s : Int), (∀ x ∈ c, x.l.length ≤ 1000000) → s ≤ 1000001 → spareL c s ≤ 1000001
 | [], s, _, h => by rw [spareL]; exact h
 | x :: c, s, hl, h => by
  rw [spareL]
  refine spareL_le c _ (fun y hy => hl y (by simp [hy])) ?_
  have h1 := takF_len x
  have h2 := hl x (by simp)
  split <;> omega
theorem proc_c (b : Nat) (out : List Int) (t : Tok) (cw : CwF) (p : Prc) (hp : PrcOk cw p) (ht : t.e = 3) (hl : out.length ≤ 1000000000) :
  ACall Tryz.prog 59 [.ptr b 0, .agg p.cells] (wrE b out t) (fun y Γ' => ∃ t', t'.e = 3 ∧ y = .tup [] ∧ Γ' = wrE b (out ++ procW cw p) t') := by
 have hle := spareL_le p.code p.regs hp.ll (by have := hp.rg; omega)
 have hge := spareL_ge p.code p.regs
 have hrg := hp.rg
 have hsl : (stsP cw p).length = p.code.length := stsW_len (cw (spareL p.code p.regs)) id p.code p.alive 0 hp.al
 have hne := hp.ne
 have hle0 := hp.le
 have hc0 := code0_c p (spareL p.code p.regs) (cw (spareL p.code p.regs)) hp.al hp.le hp.ck hp.z0
 have hc1 := code1_c p (spareL p.code p.regs) (stsP cw p) (by intro e; rw [e] at hsl; simp at hsl; omega) (fun x hx => by rw [hsl]; exact hp.jm x hx) (cw (spareL p.code p.regs)) hp.al hp.le hp.ck hp.z1
 have hz1 := hp.z1
 have hpw : procW cw p = [p.args, if p.rest = true then 1 else 0, spareL p.code p.regs + 1] ++ (((wrdP cw p).length : Int) :: wrdP cw p) := rfl
 refine ACall.of_body tt_ok Tryz.func59 rfl rfl (n := 55) rfl rfl ?_
 conv => whnf
 repeat' (first|((first|((first|(apply zY;intro hg)|apply zZ);first|exact stA|exact stB|((conv=>whnf);(repeat ((first|(refine zW ?_ ?_;exact gA)|refine pC (leaves_c _) wR ?_|intro _);conv=>whnf));first|exact pS|exact pL|exact pE))|(refine zW ?_ ?_;exact gA)|refine zH rfl ?_|refine zA ?_|refine zI bA ?_|refine zI rfl ?_|refine sB ?_|(refine zO ?_ ?_ ?_;omega;omega)|(refine zP ?_ ?_ ?_;omega;omega)|refine zM rfl ?_|(refine zQ ?_ ?_ ?_;omega;omega)|(refine zR ?_ ?_;omega)|(refine zI ?_ ?_;exact nA)|refine sS ?_|refine pC (leaves_c _) wR ?_|refine sE ?_|refine n0 ?_|refine sD ?_|intro _|refine zG ?_);conv=>whnf)|(refine zX (fun hc => ?_) (fun hc => ?_)<;>(try simp only [SY] at hc)<;>first|omega|(conv=>whnf)))
 rename_i b3 _
 refine PLoop.over [4, 6, 17, 18, 19, 20, 21, 22, 23, 24, 25, 26, 27, 28] (fun x : Nat × Int => [(4, .int .i64 x.2), (17, .int .i64 x.1)]) (fun _ => .box b3 (prX p) :: wrE b out t) (fun x => x.1 ≤ p.code.length ∧ spareL p.code p.regs = spareL (p.code.drop x.1) x.2) (fun x => p.code.length - x.1) (0, p.regs) ⟨Nat.zero_le _, rfl⟩ wA ?_
 rintro ⟨i, sp⟩ ⟨hi, hsp⟩
 dsimp only at hi hsp ⊢
 conv => whnf
 repeat' (first|((first|((first|(apply zY;intro hg)|apply zZ);first|exact stA|exact stB|((conv=>whnf);(repeat ((first|(refine zW ?_ ?_;exact gA)|refine pC (leaves_c _) wR ?_|intro _);conv=>whnf));first|exact pS|exact pL|exact pE))|(refine zW ?_ ?_;exact gA)|refine zH rfl ?_|refine zA ?_|refine zI bA ?_|refine zI rfl ?_|refine sB ?_|(refine zO ?_ ?_ ?_;omega;omega)|(refine zP ?_ ?_ ?_;omega;omega)|refine zM rfl ?_|(refine zQ ?_ ?_ ?_;omega;omega)|(refine zR ?_ ?_;omega)|(refine zI ?_ ?_;exact nA)|refine sS ?_|refine pC (leaves_c _) wR ?_|refine sE ?_|refine n0 ?_|refine sD ?_|intro _|refine zG ?_);conv=>whnf)|(refine zX (fun hc => ?_) (fun hc => ?_)<;>(try simp only [SY] at hc)<;>first|omega|(conv=>whnf)))
 ·have hic : i < p.code.length := by omega
  have hxl := hp.ll p.code[i] (List.getElem_mem hic)
  rw [drop_at hic, spareL, if_pos hc] at hsp
  have htl := takF_len p.code[i]
  refine PCall.pure (takes_c p.code[i] (by omega)) (WkT.refl _) ?_
  conv => whnf
  repeat' (first|((first|((first|(apply zY;intro hg)|apply zZ);first|exact stA|exact stB|((conv=>whnf);(repeat ((first|(refine zW ?_ ?_;exact gA)|refine pC (leaves_c _) wR ?_|intro _);conv=>whnf));first|exact pS|exact pL|exact pE))|(refine zW ?_ ?_;exact gA)|refine zH rfl ?_|refine zA ?_|refine zI bA ?_|refine zI rfl ?_|refine sB ?_|(refine zO ?_ ?_ ?_;omega;omega)|(refine zP ?_ ?_ ?_;omega;omega)|refine zM rfl ?_|(refine zQ ?_ ?_ ?_;omega;omega)|(refine zR ?_ ?_;omega)|(refine zI ?_ ?_;exact nA)|refine sS ?_|refine pC (leaves_c _) wR ?_|refine sE ?_|refine n0 ?_|refine sD ?_|intro _|refine zG ?_);conv=>whnf)|(refine zX (fun hc => ?_) (fun hc => ?_)<;>(try simp only [SY] at hc)<;>first|omega|(conv=>whnf)))
  exact loopTo (i + 1, max sp ((takF p.code[i]).length : Int)) ⟨by show i + 1 ≤ _; omega, hsp⟩ (by show p.code.length - (i + 1) < p.code.length - i; omega) wA
 ·have hic : i < p.code.length := by omega
  rw [drop_at hic, spareL, if_neg (by rw [hc]; simp)] at hsp
  exact loopTo (i + 1, sp) ⟨by show i + 1 ≤ _; omega, hsp⟩ (by show p.code.length - (i + 1) < p.code.length - i; omega) wA
 ·rw [List.drop_of_length_le (by omega), spareL] at hsp
  subst hsp
  refine PCall.pure hc0 (WkT.refl _) ?_
  conv => whnf
  repeat' (first|((first|((first|(apply zY;intro hg)|apply zZ);first|exact stA|exact stB|((conv=>whnf);(repeat ((first|(refine zW ?_ ?_;exact gA)|refine pC (leaves_c _) wR ?_|intro _);conv=>whnf));first|exact pS|exact pL|exact pE))|(refine zW ?_ ?_;exact gA)|refine zH rfl ?_|refine zA ?_|refine zI bA ?_|refine zI rfl ?_|refine sB ?_|(refine zO ?_ ?_ ?_;omega;omega)|(refine zP ?_ ?_ ?_;omega;omega)|refine zM rfl ?_|(refine zQ ?_ ?_ ?_;omega;omega)|(refine zR ?_ ?_;omega)|(refine zI ?_ ?_;exact nA)|refine sS ?_|refine pC (leaves_c _) wR ?_|refine sE ?_|refine n0 ?_|refine sD ?_|intro _|refine zG ?_);conv=>whnf)|(refine zX (fun hc => ?_) (fun hc => ?_)<;>(try simp only [SY] at hc)<;>first|omega|(conv=>whnf)))
  refine PCall.pure hc1 (WkT.refl _) ?_
  conv => whnf
  repeat' (first|((first|((first|(apply zY;intro hg)|apply zZ);first|exact stA|exact stB|((conv=>whnf);(repeat ((first|(refine zW ?_ ?_;exact gA)|refine pC (leaves_c _) wR ?_|intro _);conv=>whnf));first|exact pS|exact pL|exact pE))|(refine zW ?_ ?_;exact gA)|refine zH rfl ?_|refine zA ?_|refine zI bA ?_|refine zI rfl ?_|refine sB ?_|(refine zO ?_ ?_ ?_;omega;omega)|(refine zP ?_ ?_ ?_;omega;omega)|refine zM rfl ?_|(refine zQ ?_ ?_ ?_;omega;omega)|(refine zR ?_ ?_;omega)|(refine zI ?_ ?_;exact nA)|refine sS ?_|refine pC (leaves_c _) wR ?_|refine sE ?_|refine n0 ?_|refine sD ?_|intro _|refine zG ?_);conv=>whnf)|(refine zX (fun hc => ?_) (fun hc => ?_)<;>(try simp only [SY] at hc)<;>first|omega|(conv=>whnf)))
  ·rw [hc] at hpw
   refine PCall.go (putw_c b out t [p.args, 1, spareL p.code p.regs + 1] _ ht (by simp; omega)) (WkT.refl _) ?_
   rintro _ _ ⟨t2, ht2, rfl, rfl⟩
   conv => whnf
   repeat' (first|((first|((first|(apply zY;intro hg)|apply zZ);first|exact stA|exact stB|((conv=>whnf);(repeat ((first|(refine zW ?_ ?_;exact gA)|refine pC (leaves_c _) wR ?_|intro _);conv=>whnf));first|exact pS|exact pL|exact pE))|(refine zW ?_ ?_;exact gA)|refine zH rfl ?_|refine zA ?_|refine zI bA ?_|refine zI rfl ?_|refine sB ?_|(refine zO ?_ ?_ ?_;omega;omega)|(refine zP ?_ ?_ ?_;omega;omega)|refine zM rfl ?_|(refine zQ ?_ ?_ ?_;omega;omega)|(refine zR ?_ ?_;omega)|(refine zI ?_ ?_;exact nA)|refine sS ?_|refine pC (leaves_c _) wR ?_|refine sE ?_|refine n0 ?_|refine sD ?_|intro _|refine zG ?_);conv=>whnf)|(refine zX (fun hc => ?_) (fun hc => ?_)<;>(try simp only [SY] at hc)<;>first|omega|(conv=>whnf)))
   refine PCall.go (listw_c b (out ++ [p.args, 1, spareL p.code p.regs + 1]) t2 (wrdP cw p) ht2 (by simp; omega)) (WkT.refl _) ?_
   rintro _ _ ⟨t3, ht3, rfl, rfl⟩
   rw [List.append_assoc, ← show procW cw p = [p.args, 1, spareL p.code p.regs + 1] ++ (((wrdP cw p).length : Int) :: wrdP cw p) from by rw [hpw]; rfl]
   conv => whnf
   repeat' (first|((first|((first|(apply zY;intro hg)|apply zZ);first|exact stA|exact stB|((conv=>whnf);(repeat ((first|(refine zW ?_ ?_;exact gA)|refine pC (leaves_c _) wR ?_|intro _);conv=>whnf));first|exact pS|exact pL|exact pE))|(refine zW ?_ ?_;exact gA)|refine zH rfl ?_|refine zA ?_|refine zI bA ?_|refine zI rfl ?_|refine sB ?_|(refine zO ?_ ?_ ?_;omega;omega)|(refine zP ?_ ?_ ?_;omega;omega)|refine zM rfl ?_|(refine zQ ?_ ?_ ?_;omega;omega)|(refine zR ?_ ?_;omega)|(refine zI ?_ ?_;exact nA)|refine sS ?_|refine pC (leaves_c _) wR ?_|refine sE ?_|refine n0 ?_|refine sD ?_|intro _|refine zG ?_);conv=>whnf)|(refine zX (fun hc => ?_) (fun hc => ?_)<;>(try simp only [SY] at hc)<;>first|omega|(conv=>whnf)))
   exact PRet.gen (y := .tup []) (Γ' := wrE b (out ++ procW cw p) t3) (Wk.refl _) ⟨t3, ht3, rfl, rfl⟩
  ·rw [hc] at hpw
   refine PCall.go (putw_c b out t [p.args, 0, spareL p.code p.regs + 1] _ ht (by simp; omega)) (WkT.refl _) ?_
   rintro _ _ ⟨t2, ht2, rfl, rfl⟩
   conv => whnf
   repeat' (first|((first|((first|(apply zY;intro hg)|apply zZ);first|exact stA|exact stB|((conv=>whnf);(repeat ((first|(refine zW ?_ ?_;exact gA)|refine pC (leaves_c _) wR ?_|intro _);conv=>whnf));first|exact pS|exact pL|exact pE))|(refine zW ?_ ?_;exact gA)|refine zH rfl ?_|refine zA ?_|refine zI bA ?_|refine zI rfl ?_|refine sB ?_|(refine zO ?_ ?_ ?_;omega;omega)|(refine zP ?_ ?_ ?_;omega;omega)|refine zM rfl ?_|(refine zQ ?_ ?_ ?_;omega;omega)|(refine zR ?_ ?_;omega)|(refine zI ?_ ?_;exact nA)|refine sS ?_|refine pC (leaves_c _) wR ?_|refine sE ?_|refine n0 ?_|refine sD ?_|intro _|refine zG ?_);conv=>whnf)|(refine zX (fun hc => ?_) (fun hc => ?_)<;>(try simp only [SY] at hc)<;>first|omega|(conv=>whnf)))
   refine PCall.go (listw_c b (out ++ [p.args, 0, spareL p.code p.regs + 1]) t2 (wrdP cw p) ht2 (by simp; omega)) (WkT.refl _) ?_
   rintro _ _ ⟨t3, ht3, rfl, rfl⟩
   rw [List.append_assoc, ← show procW cw p = [p.args, 0, spareL p.code p.regs + 1] ++ (((wrdP cw p).length : Int) :: wrdP cw p) from by rw [hpw]; rfl]
   conv => whnf
   repeat' (first|((first|((first|(apply zY;intro hg)|apply zZ);first|exact stA|exact stB|((conv=>whnf);(repeat ((first|(refine zW ?_ ?_;exact gA)|refine pC (leaves_c _) wR ?_|intro _);conv=>whnf));first|exact pS|exact pL|exact pE))|(refine zW ?_ ?_;exact gA)|refine zH rfl ?_|refine zA ?_|refine zI bA ?_|refine zI rfl ?_|refine sB ?_|(refine zO ?_ ?_ ?_;omega;omega)|(refine zP ?_ ?_ ?_;omega;omega)|refine zM rfl ?_|(refine zQ ?_ ?_ ?_;omega;omega)|(refine zR ?_ ?_;omega)|(refine zI ?_ ?_;exact nA)|refine sS ?_|refine pC (leaves_c _) wR ?_|refine sE ?_|refine n0 ?_|refine sD ?_|intro _|refine zG ?_);conv=>whnf)|(refine zX (fun hc => ?_) (fun hc => ?_)<;>(try simp only [SY] at hc)<;>first|omega|(conv=>whnf)))
   exact PRet.gen (y := .tup []) (Γ' := wrE b (out ++ procW cw p) t3) (Wk.refl _) ⟨t3, ht3, rfl, rfl⟩
end Go.Cb
namespace Go.Cb
open Go.Proofs
set_option maxRecDepth 100000
set_option maxHeartbeats 4000000
def bodyW (cw : CwF) (ps : List Prc) : List Int := ps.flatMap (procW cw)
def offW (cw : CwF) (n : Int) : List Prc → Int → List Int
 | [], _ => []
 | p :: ps, k => (2 + n + k) :: offW cw n ps (k + (procW cw p).length)
theorem offW_len (cw : CwF) (n : Int) : ∀ (ps : List Prc) (k : Int), (offW cw n ps k).length = ps.length
 | [], _ => rfl
 | p :: ps, k => by rw [offW, List.length_cons, offW_len cw n ps, List.length_cons]
def headW (cw : CwF) (ps : List Prc) : List Int := [6516594, (ps.length : Int)] ++ offW cw ps.length ps 0
def illB (u : Unt) : Bool := chkU u != 0 || u.procs.any fun p => !fitsE p
def emitR (cw : CwF) (u : Unt) : List Int × Int := if illB u = true then ([], 5) else (headW cw u.procs ++ bodyW cw u.procs, 0)
def emitPV (cw : CwF) (u : Unt) : PV := .tup [slI (emitR cw u).1, .int .i64 (emitR cw u).2]
theorem chkU_len {u : Unt} (h : illB u = false) : u.procs.length ≤ 1000 := by
 unfold illB at h
 rw [Bool.or_eq_false_iff] at h
 have h0 : chkU u = 0 := by simpa using h.1
 unfold chkU at h0
 split at h0
 ·cases h0
 ·rename_i hc
  simp only [Bool.or_eq_true, decide_eq_true_eq, not_or] at hc
  omega
abbrev emG (b1 b4 b5 : Nat) (u : Unt) (h : List Int) (th : Tok) (bd : List Int) (tb : Tok) : List Ent := [.box b1 (unX u), .box b4 [.sl 1 (h.map (PV.int .i64)) (some th)], .tok th, .box b5 [.sl 1 (bd.map (PV.int .i64)) (some tb)], .tok tb]
theorem emit_c (u : Unt) (cw : CwF) (hok : illB u = false → ∀ p ∈ u.procs, PrcOk cw p) (hz : illB u = false → (bodyW cw u.procs).length ≤ 900000000) :
  ACallP Tryz.prog 24 [.agg u.cells] (emitPV cw u) := by
 refine ACall.of_body tt_ok Tryz.func24 rfl rfl (n := 59) rfl rfl ?_
 conv => whnf
 repeat' (first|((first|((first|(apply zY;intro hg)|apply zZ);first|exact stA|exact stB|((conv=>whnf);(repeat ((first|(refine zW ?_ ?_;exact gA)|refine pC (check_u u) wR ?_|refine pC (anyPrc_c u.procs) wR ?_|intro _);conv=>whnf));first|exact pS|exact pL|exact pE))|(refine zW ?_ ?_;exact gA)|refine zH rfl ?_|refine zA ?_|refine zI bA ?_|refine zI rfl ?_|refine sB ?_|(refine zO ?_ ?_ ?_;omega;omega)|(refine zP ?_ ?_ ?_;omega;omega)|refine zM rfl ?_|(refine zQ ?_ ?_ ?_;omega;omega)|(refine zR ?_ ?_;omega)|(refine zI ?_ ?_;exact nA)|refine sS ?_|refine pC (check_u u) wR ?_|refine pC (anyPrc_c u.procs) wR ?_|refine sE ?_|refine n0 ?_|refine sD ?_|intro _|refine zG ?_);conv=>whnf)|(refine zX (fun hc => ?_) (fun hc => ?_)<;>(try simp only [SY] at hc)<;>first|omega|(conv=>whnf)))
 ·have hi : illB u = true := by
   unfold illB
   simp only [Bool.or_eq_true, bne_iff_ne]
   exact hc
  rw [emitPV, emitR, if_pos hi]
  exact PRet.pure (Wk.tup (.cons slI_nil (.cons (Wk.refl _) .nil)))
 have hi : illB u = false := by
  unfold illB
  rw [hc.1, hc.2]
  rfl
 have hok2 := hok hi
 have hz2 := hz hi
 have hpl := chkU_len hi
 rw [emitPV, emitR, if_neg (by rw [hi]; simp)]
 rename_i b1 b4 b5 _ tX htX
 refine PCall.goG (Ghost.trans (Ghost.nil 1 3 _) (Ghost.trans (Ghost.box (b := b4) (cs := [.nil]) (cs' := [.sl 1 (([] : List Int).map (PV.int .i64)) (some (nilTok 1 3))]) (.cons (Wk.nilTok 1 3) .nil)) (Ghost.trans (Ghost.nil 1 3 _) (Ghost.box (b := b5) (cs := [.nil]) (cs' := [.sl 1 (([] : List Int).map (PV.int .i64)) (some (nilTok 1 3))]) (.cons (Wk.nilTok 1 3) .nil))))) (putw_c b4 [] (nilTok 1 3) [6516594, (u.procs.length : Int)] _ rfl (by simp)) (WkT.refl _) ?_
 rintro _ _ ⟨th0, hth0, rfl, rfl⟩
 rw [List.nil_append]
 conv => whnf
 repeat' (first|((first|((first|(apply zY;intro hg)|apply zZ);first|exact stA|exact stB|((conv=>whnf);(repeat ((first|(refine zW ?_ ?_;exact gA)|refine pC (check_u u) wR ?_|refine pC (anyPrc_c u.procs) wR ?_|intro _);conv=>whnf));first|exact pS|exact pL|exact pE))|(refine zW ?_ ?_;exact gA)|refine zH rfl ?_|refine zA ?_|refine zI bA ?_|refine zI rfl ?_|refine sB ?_|(refine zO ?_ ?_ ?_;omega;omega)|(refine zP ?_ ?_ ?_;omega;omega)|refine zM rfl ?_|(refine zQ ?_ ?_ ?_;omega;omega)|(refine zR ?_ ?_;omega)|(refine zI ?_ ?_;exact nA)|refine sS ?_|refine pC (check_u u) wR ?_|refine pC (anyPrc_c u.procs) wR ?_|refine sE ?_|refine n0 ?_|refine sD ?_|intro _|refine zG ?_);conv=>whnf)|(refine zX (fun hc => ?_) (fun hc => ?_)<;>(try simp only [SY] at hc)<;>first|omega|(conv=>whnf)))
 refine PLoop.over [7, 29, 30, 31, 32, 33, 34, 35, 36, 37, 38, 39, 40, 41, 42, 43, 44, 45, 46, 47, 48, 49] (fun x : Nat × (List Int × Tok) × (List Int × Tok) => [(29, .int .i64 x.1)]) (fun x => emG b1 b4 b5 u x.2.1.1 x.2.1.2 x.2.2.1 x.2.2.2)
  (fun x => x.1 ≤ u.procs.length ∧ x.2.1.2.e = 3 ∧ x.2.2.2.e = 3 ∧ x.2.1.1 ++ offW cw u.procs.length (u.procs.drop x.1) x.2.2.1.length = headW cw u.procs ∧ x.2.2.1 ++ bodyW cw (u.procs.drop x.1) = bodyW cw u.procs) (fun x => u.procs.length - x.1)
  (0, ([6516594, (u.procs.length : Int)], th0), ([], nilTok 1 3)) ⟨Nat.zero_le _, hth0, rfl, rfl, rfl⟩ wA ?_
 rintro ⟨i, ⟨h, th⟩, ⟨bd, tb⟩⟩ ⟨hi, hth, htb, hh, hb⟩
 dsimp only at hi hth htb hh hb ⊢
 conv => whnf
 repeat' (first|((first|((first|(apply zY;intro hg)|apply zZ);first|exact stA|exact stB|((conv=>whnf);(repeat ((first|(refine zW ?_ ?_;exact gA)|refine pC (check_u u) wR ?_|refine pC (anyPrc_c u.procs) wR ?_|intro _);conv=>whnf));first|exact pS|exact pL|exact pE))|(refine zW ?_ ?_;exact gA)|refine zH rfl ?_|refine zA ?_|refine zI bA ?_|refine zI rfl ?_|refine sB ?_|(refine zO ?_ ?_ ?_;omega;omega)|(refine zP ?_ ?_ ?_;omega;omega)|refine zM rfl ?_|(refine zQ ?_ ?_ ?_;omega;omega)|(refine zR ?_ ?_;omega)|(refine zI ?_ ?_;exact nA)|refine sS ?_|refine pC (check_u u) wR ?_|refine pC (anyPrc_c u.procs) wR ?_|refine sE ?_|refine n0 ?_|refine sD ?_|intro _|refine zG ?_);conv=>whnf)|(refine zX (fun hc => ?_) (fun hc => ?_)<;>(try simp only [SY] at hc)<;>first|omega|(conv=>whnf)))
 ·have hip : i < u.procs.length := by omega
  have hpo := hok2 u.procs[i] (List.getElem_mem hip)
  rw [drop_at hip, offW] at hh
  rw [drop_at hip, bodyW, List.flatMap_cons, ← bodyW] at hb
  have hbl := congrArg List.length hb
  have hhl := congrArg List.length hh
  simp only [List.length_append, List.length_cons, List.length_nil, offW_len, headW] at hbl hhl
  refine PDraw.sE [.box b4 [.sl 1 (h.map (PV.int .i64)) (some th)], .tok th] [] [12] tt_ok mixed ?_
  conv=>whnf
  repeat ((first|((first|(apply zY;intro hg)|apply zZ);first|exact stA|exact stB|((conv=>whnf);(repeat ((first|(refine zW ?_ ?_;exact gA)|refine pC (check_u u) wR ?_|refine pC (anyPrc_c u.procs) wR ?_|intro _);conv=>whnf));first|exact pS|exact pL|exact pE))|(refine zW ?_ ?_;exact gA)|refine zH rfl ?_|refine zA ?_|refine zI bA ?_|refine zI rfl ?_|refine sB ?_|(refine zO ?_ ?_ ?_;omega;omega)|(refine zP ?_ ?_ ?_;omega;omega)|refine zM rfl ?_|(refine zQ ?_ ?_ ?_;omega;omega)|(refine zR ?_ ?_;omega)|(refine zI ?_ ?_;exact nA)|refine sS ?_|refine pC (check_u u) wR ?_|refine pC (anyPrc_c u.procs) wR ?_|refine sE ?_|refine n0 ?_|refine sD ?_|intro _);conv=>whnf)
  refine PCall.go (putw_c b4 h th [2 + (u.procs.length : Int) + (bd.length : Int)] _ hth (by simp; omega)) (WkT.refl _) ?_
  rintro _ _ ⟨th2, hth2, rfl, rfl⟩
  conv => whnf
  repeat' (first|((first|((first|(apply zY;intro hg)|apply zZ);first|exact stA|exact stB|((conv=>whnf);(repeat ((first|(refine zW ?_ ?_;exact gA)|refine pC (check_u u) wR ?_|refine pC (anyPrc_c u.procs) wR ?_|intro _);conv=>whnf));first|exact pS|exact pL|exact pE))|(refine zW ?_ ?_;exact gA)|refine zH rfl ?_|refine zA ?_|refine zI bA ?_|refine zI rfl ?_|refine sB ?_|(refine zO ?_ ?_ ?_;omega;omega)|(refine zP ?_ ?_ ?_;omega;omega)|refine zM rfl ?_|(refine zQ ?_ ?_ ?_;omega;omega)|(refine zR ?_ ?_;omega)|(refine zI ?_ ?_;exact nA)|refine sS ?_|refine pC (check_u u) wR ?_|refine pC (anyPrc_c u.procs) wR ?_|refine sE ?_|refine n0 ?_|refine sD ?_|intro _|refine zG ?_);conv=>whnf)|(refine zX (fun hc => ?_) (fun hc => ?_)<;>(try simp only [SY] at hc)<;>first|omega|(conv=>whnf)))
  refine PCall.go (proc_c b5 bd tb cw u.procs[i] hpo htb (by omega)) (WkT.refl _) ?_
  rintro _ _ ⟨tb2, htb2, rfl, rfl⟩
  conv => whnf
  repeat' (first|((first|((first|(apply zY;intro hg)|apply zZ);first|exact stA|exact stB|((conv=>whnf);(repeat ((first|(refine zW ?_ ?_;exact gA)|refine pC (check_u u) wR ?_|refine pC (anyPrc_c u.procs) wR ?_|intro _);conv=>whnf));first|exact pS|exact pL|exact pE))|(refine zW ?_ ?_;exact gA)|refine zH rfl ?_|refine zA ?_|refine zI bA ?_|refine zI rfl ?_|refine sB ?_|(refine zO ?_ ?_ ?_;omega;omega)|(refine zP ?_ ?_ ?_;omega;omega)|refine zM rfl ?_|(refine zQ ?_ ?_ ?_;omega;omega)|(refine zR ?_ ?_;omega)|(refine zI ?_ ?_;exact nA)|refine sS ?_|refine pC (check_u u) wR ?_|refine pC (anyPrc_c u.procs) wR ?_|refine sE ?_|refine n0 ?_|refine sD ?_|intro _|refine zG ?_);conv=>whnf)|(refine zX (fun hc => ?_) (fun hc => ?_)<;>(try simp only [SY] at hc)<;>first|omega|(conv=>whnf)))
  exact loopTo (i + 1, (h ++ [2 + (u.procs.length : Int) + (bd.length : Int)], th2), (bd ++ procW cw u.procs[i], tb2)) ⟨by show i + 1 ≤ _; omega, hth2, htb2, by dsimp only; rw [List.append_assoc, List.singleton_append, List.length_append, Int.natCast_add]; exact hh, by dsimp only; rw [List.append_assoc]; exact hb⟩ (by show u.procs.length - (i + 1) < u.procs.length - i; omega) wA
 ·rw [List.drop_of_length_le (by omega)] at hh hb
  rw [offW, List.append_nil] at hh
  rw [bodyW, List.flatMap_nil, List.append_nil] at hb
  rw [← hh, ← hb]
  have hhl := congrArg List.length hh
  have hbl := congrArg List.length hb
  simp only [List.length_append, List.length_cons, List.length_nil, offW_len, headW] at hhl
  refine PDraw.sE [.tok th] [] [8,9,10] tt_ok mixed ?_
  conv=>whnf
  repeat ((first|((first|(apply zY;intro hg)|apply zZ);first|exact stA|exact stB|((conv=>whnf);(repeat ((first|(refine zW ?_ ?_;exact gA)|refine pC (check_u u) wR ?_|refine pC (anyPrc_c u.procs) wR ?_|intro _);conv=>whnf));first|exact pS|exact pL|exact pE))|(refine zW ?_ ?_;exact gA)|refine zH rfl ?_|refine zA ?_|refine zI bA ?_|refine zI rfl ?_|refine sB ?_|(refine zO ?_ ?_ ?_;omega;omega)|(refine zP ?_ ?_ ?_;omega;omega)|refine zM rfl ?_|(refine zQ ?_ ?_ ?_;omega;omega)|(refine zR ?_ ?_;omega)|(refine zI ?_ ?_;exact nA)|refine sS ?_|refine pC (check_u u) wR ?_|refine pC (anyPrc_c u.procs) wR ?_|refine sE ?_|refine n0 ?_|refine sD ?_|intro _);conv=>whnf)
  exact PRet.pure wA
end Go.Cb
namespace Go.Cb
open Go.Proofs
set_option maxRecDepth 100000
set_option maxHeartbeats 4000000
structure Mov where
 to : Int
 frm : Int
def Mov.cells (m : Mov) : List PV := [.int .i64 m.to, .int .i64 m.frm]
def Mov.pv (m : Mov) : PV := .agg m.cells
instance : CellsOf Mov.pv Mov.cells := ⟨fun _ => rfl⟩
abbrev Lft := List (Option Int)
def keyN (s : Lft) : List Nat := (List.range s.length).filter fun i => (s.getD i none).isSome
def keysL (s : Lft) : List Int := (keyN s).map Int.ofNat
def usedB (s : Lft) (z : Int) : Bool := s.contains (some z)
def freeF (s : Lft) : Option Nat := (keyN s).find? fun i => !usedB s i
def hdN (s : Lft) : Nat := (keyN s).headD 0
def putL (sp : Int) (h : Int) (s : Lft) : Lft := s.map fun o => if o = some h then some sp else o
def stepM (sp : Int) (s : Lft) : Mov × Lft := match freeF s with
 | some i => (⟨i, (s.getD i none).getD 0⟩, s.set i none)
 | none => (⟨sp, hdN s⟩, putL sp (hdN s) s)
def movL : Nat → Int → Lft → List Mov
 | 0, _, _ => []
 | n + 1, sp, s => if keyN s = [] then [] else (stepM sp s).1 :: movL n sp (stepM sp s).2
def measL (s : Lft) : Nat := 2 * (keyN s).length + if (freeF s).isSome = true then 0 else 1
def mvM (s : Lft) (z : Int) : Option Int := if 0 ≤ z then s.getD z.toNat none else none
theorem keyN_mem {s : Lft} {i : Nat} : i ∈ keyN s ↔ (s.getD i none).isSome = true := by
 unfold keyN
 rw [List.mem_filter, List.mem_range]
 constructor
 ·exact fun h => h.2
 ·intro h
  refine ⟨?_, h⟩
  apply Classical.byContradiction
  intro hn
  rw [List.getD_eq_getElem?_getD, List.getElem?_eq_none (by omega)] at h
  cases h
theorem keyN_lt {s : Lft} {i : Nat} (h : i ∈ keyN s) : i < s.length := by
 unfold keyN at h
 rw [List.mem_filter, List.mem_range] at h
 exact h.1
theorem keyN_sorted (s : Lft) : (keyN s).Pairwise (· < ·) := List.Pairwise.filter _ List.pairwise_lt_range
theorem mvM_none {s : Lft} : (∀ z, mvM s z = none) ↔ keyN s = [] := by
 constructor
 ·intro h
  rw [List.eq_nil_iff_forall_not_mem]
  intro i hi
  have h1 := h i
  have h2 := keyN_mem.1 hi
  rw [mvM, if_pos (Int.natCast_nonneg i), Int.toNat_natCast] at h1
  rw [h1] at h2
  cases h2
 ·intro h z
  unfold mvM
  split
  ·cases hz : s.getD z.toNat none with
   | none => rfl
   | some x =>
    have : z.toNat ∈ keyN s := keyN_mem.2 (by rw [hz]; rfl)
    rw [h] at this
    cases this
  ·rfl
theorem mvM_dom {s : Lft} {z : Int} : mvM s z ≠ none ↔ z ∈ keysL s := by
 unfold keysL mvM
 rw [List.mem_map]
 constructor
 ·intro h
  split at h
  ·refine ⟨z.toNat, keyN_mem.2 ?_, by show ((z.toNat : Nat) : Int) = z; omega⟩
   cases hz : s.getD z.toNat none with
   | none => exact absurd hz h
   | some x => rfl
  ·exact absurd rfl h
 ·rintro ⟨i, hi, rfl⟩
  have := keyN_mem.1 hi
  show (if 0 ≤ ((i : Nat) : Int) then s.getD ((i : Nat) : Int).toNat none else none) ≠ none
  rw [if_pos (by omega), Int.toNat_natCast]
  intro e
  rw [e] at this
  cases this
theorem used_iff {s : Lft} {z : Int} : usedB s z = true ↔ ∃ k, mvM s k = some z := by
 unfold usedB mvM
 rw [List.contains_iff_mem, List.mem_iff_getElem]
 constructor
 ·rintro ⟨i, hi, e⟩
  exact ⟨i, by rw [if_pos (by omega), Int.toNat_natCast, List.getD_eq_getElem?_getD, List.getElem?_eq_getElem hi, e]; rfl⟩
 ·rintro ⟨k, h⟩
  split at h
  ·have hl : k.toNat < s.length := by
    apply Classical.byContradiction
    intro hn
    rw [List.getD_eq_getElem?_getD, List.getElem?_eq_none (by omega)] at h
    cases h
   refine ⟨k.toNat, hl, ?_⟩
   rw [List.getD_eq_getElem?_getD, List.getElem?_eq_getElem hl] at h
   exact h
  ·cases h
theorem keyN_put (sp h : Int) (s : Lft) : keyN (putL sp h s) = keyN s := by
 unfold keyN putL
 rw [List.length_map]
 congr 1
 funext i
 rw [List.getD_eq_getElem?_getD, List.getD_eq_getElem?_getD, List.getElem?_map]
 cases s[i]? with
 | none => rfl
 | some o =>
  simp only [Option.map_some, Option.getD_some]
  split
  ·rename_i e; rw [e]; rfl
  ·rfl
theorem keyN_set {s : Lft} {i : Nat} (h : i ∈ keyN s) : (keyN (s.set i none)).length + 1 = (keyN s).length := by
 have h1 : keyN (s.set i none) = (keyN s).filter (· != i) := by
  unfold keyN
  rw [List.length_set, List.filter_filter]
  congr 1
  funext j
  rw [List.getD_eq_getElem?_getD, List.getElem?_set, List.getD_eq_getElem?_getD]
  by_cases e : i = j
  ·subst e
   rw [if_pos rfl, if_pos (keyN_lt h)]
   simp
  ·rw [if_neg e]
   have : (j != i) = true := by simp; exact fun x => e x.symm
   rw [this, Bool.true_and]
 rw [h1]
 have hn : (keyN s).Nodup := (keyN_sorted s).imp fun h => Nat.ne_of_lt h
 generalize keyN s = l at *
 clear h1
 induction l with
 | nil => cases h
 | cons a l ih =>
  rw [List.nodup_cons] at hn
  by_cases e : a = i
  ·subst e
   rw [List.filter_cons_of_neg (by simp), List.filter_eq_self.2 (fun x hx => by simp; rintro rfl; exact hn.1 hx)]
   rfl
  ·rw [List.filter_cons_of_pos (by simp [e]), List.length_cons, List.length_cons, ih _ hn.2]
   rcases List.mem_cons.1 h with h | h
   ·exact absurd h.symm e
   ·exact h
theorem hdN_mem {s : Lft} (h : keyN s ≠ []) : hdN s ∈ keyN s := by
 unfold hdN
 cases hk : keyN s with
 | nil => exact absurd hk h
 | cons a l => simp
theorem meas_step {sp : Int} {s : Lft} (hsp : (s.length : Int) ≤ sp) (hk : keyN s ≠ []) : measL (stepM sp s).2 < measL s := by
 unfold stepM
 cases hf : freeF s with
 | some i =>
  have hi : i ∈ keyN s := List.mem_of_find?_eq_some hf
  have := keyN_set hi
  unfold measL
  rw [hf]
  simp only [Option.isSome_some, if_true]
  split <;> omega
 | none =>
  have hh := hdN_mem hk
  have hlt := keyN_lt hh
  have hu : usedB (putL sp (hdN s) s) (hdN s) = false := by
   unfold usedB putL
   rw [Bool.eq_false_iff]
   intro hc
   rw [List.contains_iff_mem, List.mem_map] at hc
   obtain ⟨o, _, e⟩ := hc
   split at e
   ·cases e; omega
   ·rename_i hne; exact hne e
  have hs : (freeF (putL sp (hdN s) s)).isSome = true := by
   unfold freeF
   rw [List.find?_isSome]
   exact ⟨hdN s, by rw [keyN_put]; exact hh, by rw [hu]; rfl⟩
  unfold measL
  rw [hf, hs, keyN_put]
  simp only [Option.isSome_none, if_true]
  rw [if_neg (by simp)]
  omega
theorem movL_len : ∀ (n : Nat) (sp : Int) (s : Lft), (movL n sp s).length ≤ n
 | 0, _, _ => Nat.le_refl _
 | n + 1, sp, s => by
  rw [movL]
  split
  ·exact Nat.zero_le _
  ·rw [List.length_cons]; have := movL_len n sp (stepM sp s).2; omega
theorem keyN_len (s : Lft) : (keyN s).length ≤ s.length := by
 unfold keyN
 exact Nat.le_trans (List.length_filter_le _ _) (by simp)
theorem meas_le (s : Lft) : measL s ≤ 2 * s.length + 1 := by
 have := keyN_len s
 unfold measL
 split <;> omega
def leftL (l : List Int) : Nat → Lft
 | k => match l with
  | [] => []
  | x :: l => (if x = k then none else some x) :: leftL l (k + 1)
def badM (l : List Int) (sp : Int) : Bool := l.any fun x => decide (x < 0) || decide (x > 1000000) || x == sp
def illM (l : List Int) (sp : Int) : Bool := decide (l.length > 1000) || decide (sp < l.length) || decide (sp > 1000000)
def ordF (l : List Int) (sp : Int) : List Mov × Int := if (illM l sp || badM l sp) = true then ([], 1) else (movL (2 * l.length + 1) sp (leftL l 0), 0)
theorem leftL_len : ∀ (l : List Int) (k : Nat), (leftL l k).length = l.length
 | [], _ => by rw [leftL]; rfl
 | x :: l, k => by rw [leftL, List.length_cons, leftL_len l, List.length_cons]
theorem leftL_app : ∀ (l m : List Int) (k : Nat), leftL (l ++ m) k = leftL l k ++ leftL m (k + l.length)
 | [], m, k => by rw [List.nil_append, leftL.eq_1]; simp
 | x :: l, m, k => by rw [List.cons_append, leftL, leftL_app l m, leftL, List.cons_append, List.length_cons, show k + 1 + l.length = k + (l.length + 1) by omega]
end Go.Cb
namespace Go.Cb
open Go.Proofs
set_option maxRecDepth 100000
set_option maxHeartbeats 4000000
end Go.Cb

