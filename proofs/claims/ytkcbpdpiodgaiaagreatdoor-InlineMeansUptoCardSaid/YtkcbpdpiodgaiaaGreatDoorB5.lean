/-
 Contracts: the document's comparisons.
 Contracts: the document's primitives that fold, of values as primitives look at them.
 Contracts: the document's Fold.
 Contracts: the document's machine: values held against one another, lists' values, parts.
 Contracts: the document's machine: primitives that are not calls.
 Contracts: the document's machine: primitives that fold, of values.
 Contracts: the document's machine: constants, names, procedures, calls of these.
 Contracts: the document's machine: a procedure is called; a call; a program runs.
 Plain: what the document's machine does, as a relation; addresses as they come.
 Contracts: the program's check of terms: variables are bound.
 Contracts: package slices with functions that change what they hold.
 Contracts: the program's check of terms: what is done at the end.
 Contracts: the program's check of terms: whether a term is right.
 Plain law: the program's check of a term and the document's answer alike.
 Plain law: the program's data and the document's are right alike.
 Contracts: the program's check of programs.
 Plain law: the program's check of programs and the document's answer alike.
 Plain law: what a check says of a program, and how it leans on the number of constants.
 Plain: what the document's machine keeps: values, places, procedures.
 Plain: values that go together; primitives do not tell them apart.
 Plain: two machines side by side: worlds, results that go together; terms one behind the other, calls, primitives.
 Plain: two machines side by side: places, what ends a term, strict terms of one sort.
-/
import Derived.Test.YtkcbpdpiodgaiaaGreatDoorB4
set_option linter.unusedSimpArgs false
set_option linter.unusedVariables false
namespace Go.Cb
open Go.Proofs
set_option maxRecDepth 100000
set_option maxHeartbeats 4000000
mutual
def Trm.alk : Trm → Trm → Bool
 | .mk op n v t, .mk op' n' v' t' => op == op' && n == n' && v == v' && Trm.alks t t'
def Trm.alks : List Trm → List Trm → Bool
 | [], [] => true
 | x :: xs, y :: ys => Trm.alk x y && Trm.alks xs ys
 | _, _ => false
end
theorem Trm.alk_eq (a b : Trm) : a.alk b = (a.op == b.op && a.n == b.n && a.v == b.v && Trm.alks a.t b.t) := by cases a; cases b; rw [Trm.alk]; rfl
mutual
def Datum.alk : Datum → Datum → Bool
 | .mk k n d s l, .mk k' n' d' s' l' => k == k' && n == n' && d == d' && s == s' && Datum.alks l l'
def Datum.alks : List Datum → List Datum → Bool
 | [], [] => true
 | x :: xs, y :: ys => Datum.alk x y && Datum.alks xs ys
 | _, _ => false
end
theorem Datum.alk_eq (a b : Datum) : a.alk b = (a.kind == b.kind && a.n == b.n && a.d == b.d && a.s == b.s && Datum.alks a.l b.l) := by cases a; cases b; rw [Datum.alk]; rfl
theorem Datum.alks_len : ∀ {l m : List Datum}, Datum.alks l m = true → l.length = m.length
 | [], [], _ => rfl
 | x :: l, y :: m, h => by rw [Datum.alks, Bool.and_eq_true] at h; rw [List.length_cons, List.length_cons, Datum.alks_len h.2]
 | [], _ :: _, h => by simp [Datum.alks] at h
 | _ :: _, [], h => by simp [Datum.alks] at h
theorem drAlk06aa {p q : Prop} (k : q) (h : q → p := by intro hq; first | exact PDraw.sP (some 48) rfl [] [] tt_ok mixed hq) : p := h k
theorem dalike_c (a : Datum) : ∀ b : Datum, ACallP Tryz.prog 204 [.agg a.cells, .agg b.cells] (.bool (a.alk b)) := by
 induction a using Datum.ind with
 | h a ih =>
  intro b
  have he := a.alk_eq b
  refine ACall.of_body tt_ok Tryz.func204 rfl rfl (n := 60) rfl rfl ?_
  conv => whnf
  repeat' (first|refine aA1 ?_|((intro _);conv=>whnf)|(refine zX (fun hc=>?_) (fun hc=>?_)<;>(try simp only [SY] at hc)<;>(conv=>whnf)))
  ·exact PRet.pure (Wk.ff (by
    rw [he, Bool.eq_false_iff]
    intro h
    simp only [Bool.and_eq_true, beq_iff_eq] at h
    obtain ⟨⟨⟨⟨h1, h2⟩, h3⟩, h4⟩, h5⟩ := h
    have h6 := Datum.alks_len h5
    simp only [h1, h2, h3, h4, h6, not_true_eq_false, or_self] at hc))
  have h0 := hc
  have he2 : a.alk b = Datum.alks a.l b.l := by rw [he, h0.1.1.1.1, h0.1.1.1.2, h0.1.1.2, h0.1.2]; simp
  rw [he2]
  refine PLoop.keep [4, 5, 41, 42, 43, 44, 45, 46, 47, 48, 49, 50, 51, 52, 53, 54, 55, 56, 57, 58, 59] (fun i : Nat => [(5, .int .i64 i)]) (fun i => i ≤ a.l.length ∧ Datum.alks (a.l.drop i) (b.l.drop i) = Datum.alks a.l b.l) (fun i => a.l.length - i) 0 ⟨Nat.zero_le _, rfl⟩ wA ?_
  rintro j ⟨hj, hm⟩
  conv => whnf
  repeat' (first|refine aA1 ?_|((first|((apply zZ);(conv=>whnf);(repeat ((refine pC (ih _ (List.getElem_mem _) _) wR ?_);conv=>whnf));exact pZ)|refine drAlk06aa ?_|intro _);conv=>whnf)|(refine zX (fun hc=>?_) (fun hc=>?_)<;>(try simp only [SY] at hc)<;>(conv=>whnf)))
  ·rw [drop_at (show j < a.l.length by omega), drop_at (show j < b.l.length by omega), Datum.alks, hc, Bool.false_and] at hm
   exact PRet.pure (Wk.ff hm.symm)
  ·rw [drop_at (show j < a.l.length by omega), drop_at (show j < b.l.length by omega), Datum.alks, hc, Bool.true_and] at hm
   exact loopTo (j + 1) ⟨by omega, hm⟩ (by show a.l.length - (j + 1) < a.l.length - j; omega) wA
  ·rw [List.drop_of_length_le (by omega), List.drop_of_length_le (by omega), Datum.alks] at hm
   exact PRet.pure (Wk.tt hm.symm)
def Prog.same (p q : Prog) : Bool := Datum.alks p.consts q.consts && p.body.alk q.body
end Go.Cb
namespace Go.Cb
open Go.Proofs
set_option maxRecDepth 100000
set_option maxHeartbeats 8000000
instance : CastOf 4 4 := ⟨rfl⟩
instance : CastOf 5 5 := ⟨rfl⟩
instance : CastOf 6 6 := ⟨rfl⟩
def truB (b : Bool) : Datum := .mk 1 (if b = true then 1 else 0) 0 [] []
def knd5 (n : Int) : Int := [4, 6, 0, 2, 1, 3, 7].getD (n - 9).toNat (-1)
def doesF (n : Int) (l : List Datum) : Datum × Int :=
 if n < 4 then sumsF n l else
 if n = 4 ∨ n = 5 then (if ¬(l.getD 0 nulD).kind = 0 ∨ ¬(l.getD 1 nulD).kind = 0 then (numD (0, 0), 1) else if n = 4 then (truB ((l.getD 0 nulD).alk (l.getD 1 nulD)), 0) else (truB (lessN (l.getD 0 nulD).n (l.getD 0 nulD).d (l.getD 1 nulD).n (l.getD 1 nulD).d), 0)) else
 if n = 8 then (truB ((l.getD 0 nulD).kind == 1 && (l.getD 0 nulD).n == 0), 0) else
 if n = 25 then (.mk 5 0 0 [] [], 0) else (truB ((l.getD 0 nulD).kind == knd5 n), 0)
theorem truth05_c (b : Bool) : ACallP Tryz.prog 203 [.bool b] (.agg (truB b).cells) := by
 cases b
 all_goals
  refine ACall.of_body tt_ok Tryz.func203 rfl rfl (n := 6) rfl rfl ?_
  conv => whnf
  repeat' (first|refine aA2 ?_|((intro _);conv=>whnf)|(refine zX (fun hc=>?_) (fun hc=>?_)<;>(try simp only [SY] at hc)<;>(conv=>whnf)))
  exact PRet.pure DatOf.wk
theorem drMf05baa {p q : Prop} (k : q) (h : q → p := by intro hq; first | exact PDraw.sP (some 40) rfl [] [8,9] tt_ok mixed hq | exact PDraw.sP (some 48) rfl [] [18,19] tt_ok mixed hq | exact PDraw.sP (some 68) rfl [] [8,9] tt_ok mixed hq | exact PDraw.sP (some 78) rfl [] [] tt_ok mixed hq | exact PDraw.sP (some 115) rfl [] [11,12] tt_ok mixed hq | exact PDraw.sP (some 158) rfl [] [] tt_ok mixed hq | exact PDraw.sP (some 183) rfl [] [10,11] tt_ok mixed hq) : p := h k
theorem does05a_c (n : Int) (hn : n = 0 ∨ n = 1 ∨ n = 2 ∨ n = 3) (l : List Datum) (hl : l.length ≤ 1000000000) : ACallP Tryz.prog 193 [.int .i64 n, .sl 5 (l.map Datum.pv) none] (resD (doesF n l)) := by
 have hs := sums05_c n hn l hl
 unfold doesF
 rw [if_pos (by omega)]
 rcases hn with rfl | rfl | rfl | rfl
 all_goals
  refine ACall.of_body tt_ok Tryz.func193 rfl rfl (n := 223) rfl rfl ?_
  conv => whnf
  repeat' (first|refine aA2 ?_|((first|refine pC (hs) wR ?_|intro _);conv=>whnf)|(refine zX (fun hc=>?_) (fun hc=>?_)<;>(try simp only [SY] at hc)<;>first|omega|(conv=>whnf)))
  exact PRet.pure (Wk.refl _)
theorem does05b_c (n : Int) (hn : n = 4 ∨ n = 5) (l : List Datum) (hl : l.length = 2) : ACallP Tryz.prog 193 [.int .i64 n, .sl 5 (l.map Datum.pv) none] (resD (doesF n l)) := by
 unfold doesF
 rw [if_neg (by omega), if_pos hn, datD_get (show 0 < l.length by omega), datD_get (show 1 < l.length by omega)]
 rcases hn with rfl | rfl
 all_goals
  refine ACall.of_body tt_ok Tryz.func193 rfl rfl (n := 223) rfl rfl ?_
  conv => whnf
  repeat' (first|refine aA2 ?_|((first|((apply zZ);(conv=>whnf);(repeat ((first|refine pC (truth05_c _) wR ?_|refine pC (less1_c _ _ _ _) wR ?_|refine pC (dalike_c _ _) wR ?_);conv=>whnf));exact pZ)|refine drMf05baa ?_|intro _);conv=>whnf)|(refine zX (fun hc=>?_) (fun hc=>?_)<;>(try simp only [SY] at hc)<;>first|omega|(conv=>whnf)))
  ·rw [if_pos (by omega)]
   exact PRet.pure (Wk.tup (.cons DatOf.wk (.cons (Wk.refl _) .nil)))
  ·rw [if_neg (by omega)]
   first | rw [if_pos rfl] | rw [if_neg (by decide)]
   exact PRet.pure (Wk.refl _)
theorem does05c_c (n : Int) (hn : n = 8 ∨ n = 9 ∨ n = 10 ∨ n = 11 ∨ n = 12 ∨ n = 13 ∨ n = 14 ∨ n = 15) (l : List Datum) (hl : l.length = 1) : ACallP Tryz.prog 193 [.int .i64 n, .sl 5 (l.map Datum.pv) none] (resD (doesF n l)) := by
 unfold doesF
 rw [if_neg (by omega), if_neg (by omega), datD_get (show 0 < l.length by omega)]
 rcases hn with rfl | rfl | rfl | rfl | rfl | rfl | rfl | rfl
 all_goals
  refine ACall.of_body tt_ok Tryz.func193 rfl rfl (n := 223) rfl rfl ?_
  conv => whnf
  repeat' (first|refine aA2 ?_|((first|refine pC (truth05_c _) wR ?_|refine drMf05baa ?_|intro _);conv=>whnf)|(refine zX (fun hc=>?_) (fun hc=>?_)<;>(try simp only [SY] at hc)<;>first|omega|(conv=>whnf)))
  all_goals first
   | exact PRet.pure (Wk.refl _)
   | (first | rw [show (9 : Int) - 9 = 0 from rfl] | rw [show (10 : Int) - 9 = 1 from rfl] | rw [show (11 : Int) - 9 = 2 from rfl] | rw [show (12 : Int) - 9 = 3 from rfl] | rw [show (13 : Int) - 9 = 4 from rfl] | rw [show (14 : Int) - 9 = 5 from rfl] | rw [show (15 : Int) - 9 = 6 from rfl])
  all_goals
   conv => whnf
   repeat' (first|refine aA2 ?_|((((apply zZ);(conv=>whnf);(repeat ((refine pC (truth05_c _) wR ?_);conv=>whnf));exact pZ));conv=>whnf)|(refine zX (fun hc=>?_) (fun hc=>?_)<;>(try simp only [SY] at hc)<;>omega))
   exact PRet.pure (Wk.refl _)
theorem does05d_c : ACallP Tryz.prog 193 [.int .i64 25, .sl 5 (([] : List Datum).map Datum.pv) none] (resD (doesF 25 [])) := by
 refine ACall.of_body tt_ok Tryz.func193 rfl rfl (n := 223) rfl rfl ?_
 conv => whnf
 repeat' (first|refine aA2 ?_|((intro _);conv=>whnf)|(refine zX (fun hc=>?_) (fun hc=>?_)<;>(try simp only [SY] at hc)<;>first|omega|(conv=>whnf)))
 exact PRet.pure (Wk.tup (.cons DatOf.wk (.cons (Wk.refl _) .nil)))
def fldB (n : Int) : Prop := (0 ≤ n ∧ n ≤ 5) ∨ (8 ≤ n ∧ n ≤ 15) ∨ n = 25
def takB (n : Int) (k : Nat) : Bool := decide (0 ≤ n ∧ n < 31) && (decide ((factOf n).least ≤ k) && (decide ((factOf n).most < 0) || decide ((k : Int) ≤ (factOf n).most)))
def foldF (n : Int) (l : List Datum) : Datum × Int := if l.all (fun d => d.rightD 0) = false then (numD (0, 0), 0) else if takB n l.length = false then (numD (0, 0), 2) else doesF n l
theorem takes05_c (n : Int) (k : Nat) (hk : k ≤ 1000000000) : ACallP Tryz.prog 177 [.int .i64 n, .int .i64 k] (.bool (takB n k)) := by
 have hf := facts05_c n
 refine ACall.of_body tt_ok Tryz.func177 rfl rfl (n := 30) rfl rfl ?_
 conv => whnf
 repeat' (first|refine aA2 ?_|((first|refine pC (hf) wR ?_|intro _);conv=>whnf)|(refine zX (fun hc=>?_) (fun hc=>?_)<;>(try simp only [SY] at hc)<;>omega))
 refine PRet.pure (Wk.bool ?_)
 unfold takB
 rw [Bool.and_assoc]
end Go.Cb
namespace Go.Cb
open Go.Proofs
set_option maxRecDepth 100000
set_option maxHeartbeats 8000000
theorem takB_len {n : Int} {k : Nat} (h : takB n k = true) : (n = 4 ∨ n = 5 → k = 2) ∧ (8 ≤ n ∧ n ≤ 15 → k = 1) ∧ (n = 25 → k = 0) := by
 unfold takB at h
 simp only [Bool.and_eq_true, Bool.or_eq_true, decide_eq_true_eq] at h
 obtain ⟨h0, h1, h2⟩ := h
 have key : ∀ m : Nat, n = m → ∀ a b : Int, factOf m = factOf m → (factOf n).least = (factOf m).least ∧ (factOf n).most = (factOf m).most := fun m e _ _ _ => by rw [e]; exact ⟨rfl, rfl⟩
 have f4 : (factOf 4).least = 2 ∧ (factOf 4).most = 2 := by decide
 have f5 : (factOf 5).least = 2 ∧ (factOf 5).most = 2 := by decide
 have f8 : (factOf 8).least = 1 ∧ (factOf 8).most = 1 := by decide
 have f9 : (factOf 9).least = 1 ∧ (factOf 9).most = 1 := by decide
 have f10 : (factOf 10).least = 1 ∧ (factOf 10).most = 1 := by decide
 have f11 : (factOf 11).least = 1 ∧ (factOf 11).most = 1 := by decide
 have f12 : (factOf 12).least = 1 ∧ (factOf 12).most = 1 := by decide
 have f13 : (factOf 13).least = 1 ∧ (factOf 13).most = 1 := by decide
 have f14 : (factOf 14).least = 1 ∧ (factOf 14).most = 1 := by decide
 have f15 : (factOf 15).least = 1 ∧ (factOf 15).most = 1 := by decide
 have f25 : (factOf 25).least = 0 ∧ (factOf 25).most = 0 := by decide
 refine ⟨fun hn => ?_, fun hn => ?_, fun hn => ?_⟩
 ·rcases hn with rfl | rfl <;> omega
 ·rcases (by omega : n = 8 ∨ n = 9 ∨ n = 10 ∨ n = 11 ∨ n = 12 ∨ n = 13 ∨ n = 14 ∨ n = 15) with rfl | rfl | rfl | rfl | rfl | rfl | rfl | rfl <;> omega
 ·subst hn; omega
theorem does05_c (n : Int) (hn : fldB n) (l : List Datum) (hl : l.length ≤ 1000000000) (ht : takB n l.length = true) : ACallP Tryz.prog 193 [.int .i64 n, .sl 5 (l.map Datum.pv) none] (resD (doesF n l)) := by
 obtain ⟨h1, h2, h3⟩ := takB_len ht
 rcases (by unfold fldB at hn; omega : (n = 0 ∨ n = 1 ∨ n = 2 ∨ n = 3) ∨ (n = 4 ∨ n = 5) ∨ (8 ≤ n ∧ n ≤ 15) ∨ n = 25) with h | h | h | h
 ·exact does05a_c n h l hl
 ·exact does05b_c n h l (h1 h)
 ·exact does05c_c n (by omega) l (h2 h)
 ·subst h
  obtain rfl := List.eq_nil_of_length_eq_zero (h3 rfl)
  exact does05d_c
theorem fold_folds {n : Int} (hn : fldB n) : (factOf n).folds = true ∧ 0 ≤ n ∧ n < 31 := by
 unfold fldB at hn
 refine ⟨?_, by omega, by omega⟩
 rcases (by omega : n = 0 ∨ n = 1 ∨ n = 2 ∨ n = 3 ∨ n = 4 ∨ n = 5 ∨ n = 8 ∨ n = 9 ∨ n = 10 ∨ n = 11 ∨ n = 12 ∨ n = 13 ∨ n = 14 ∨ n = 15 ∨ n = 25) with rfl | rfl | rfl | rfl | rfl | rfl | rfl | rfl | rfl | rfl | rfl | rfl | rfl | rfl | rfl <;> decide
theorem Fold05_c (n : Int) (hn : fldB n) (l : List Datum) (hl : l.length ≤ 1000000000) : ACallP Tryz.prog 183 [.int .i64 n, .sl 5 (l.map Datum.pv) none] (.tup [.agg (foldF n l).1.cells, .int .i64 (foldF n l).2, .bool (l.all fun d => d.rightD 0)]) := by
 have hf := facts05_c n
 obtain ⟨hfo, hn0, hn1⟩ := fold_folds hn
 rw [show decide (0 ≤ n ∧ n < 31) = true from decide_eq_true ⟨hn0, hn1⟩] at hf
 have ht := takes05_c n l.length hl
 have hF : foldF n l = foldF n l := rfl
 conv at hF => rhs; unfold foldF
 generalize factOf n = f at *
 refine ACall.of_body tt_ok Tryz.func183 rfl rfl (n := 52) rfl rfl ?_
 conv => whnf
 repeat' (first|refine aA2 ?_|((first|refine pC (hf) wR ?_|intro _);conv=>whnf)|(refine zX (fun hc=>?_) (fun hc=>?_)<;>(try simp only [SY] at hc)<;>(conv=>whnf)))
 ·exact absurd hc (by rw [hfo]; simp)
 refine PLoop.keep [5, 6, 9, 25, 26, 27, 28, 29, 30, 31, 32, 33, 34, 35, 36, 37] (fun i : Nat => [(9, .int .i64 i)]) (fun i => i ≤ l.length ∧ (l.drop i).all (fun d => d.rightD 0) = l.all fun d => d.rightD 0) (fun i => l.length - i) 0 ⟨Nat.zero_le _, rfl⟩ wA ?_
 rintro i ⟨hi, hk⟩
 conv => whnf
 repeat' (first|refine aA2 ?_|((first|refine pC (right2D_c _) wR ?_|refine pC (ht) wR ?_|intro _);conv=>whnf)|(refine zX (fun hc=>?_) (fun hc=>?_)<;>(try simp only [SY] at hc)<;>(conv=>whnf)))
 ·rw [drop_at (show i < l.length by omega), List.all_cons, hc, Bool.false_and] at hk
  rw [hF, if_pos hk.symm, ← hk]
  exact PRet.pure (Wk.tup (.cons DatOf.wk (.cons (Wk.refl _) (.cons (Wk.ff rfl) .nil))))
 ·rw [drop_at (show i < l.length by omega), List.all_cons, hc, Bool.true_and] at hk
  exact loopTo (i + 1) ⟨by omega, hk⟩ (by show l.length - (i + 1) < l.length - i; omega) wA
 ·rw [List.drop_of_length_le (by omega), List.all_nil] at hk
  rw [hF, if_neg (by rw [← hk]; simp), if_pos hc, ← hk]
  exact PRet.pure (Wk.tup (.cons DatOf.wk (.cons (Wk.refl _) (.cons (Wk.tt rfl) .nil))))
 ·rw [List.drop_of_length_le (by omega), List.all_nil] at hk
  rw [hF, if_neg (by rw [← hk]; simp), if_neg (by rw [hc]; simp), ← hk]
  refine pC (does05_c n hn l hl hc) wR ?_
  conv => whnf
  repeat' (first|refine aA2 ?_|((intro _);conv=>whnf)|(refine zX (fun hc=>?_) (fun hc=>?_)<;>(try simp only [SY] at hc)<;>omega))
  exact PRet.pure (Wk.tup (.cons (Wk.refl _) (.cons (Wk.refl _) (.cons (Wk.tt rfl) .nil))))
end Go.Cb
namespace Go.Cb
open Go.Proofs
set_option maxRecDepth 100000
set_option maxHeartbeats 4000000
def eqV (a b : Vl) : Bool := a.k == b.k && decide (a.k ≤ 5) && a.k != 3 && a.n == b.n && a.d == b.d && a.s == b.s
theorem eq6_c (a b : Vl) : ACallP Tryz.prog 179 [.agg (valC a), .agg (valC b)] (.bool (eqV a b)) := by
 refine ACall.of_body tt_ok Tryz.func179 rfl rfl (n := 41) rfl rfl ?_
 conv => whnf
 repeat' (first|refine aA2 ?_|((intro _);conv=>whnf)|(refine zX (fun hc=>?_) (fun hc=>?_)<;>(try simp only [SY] at hc)<;>omega))
 exact PRet.pure (Wk.refl _)
def truV (b : Bool) : Vl := .mk 1 (if b = true then 1 else 0) 0 [] [] none none
theorem truth6_c (b : Bool) : ACallP Tryz.prog 178 [.bool b] (.agg (valC (truV b))) := by
 cases b
 all_goals
  refine ACall.of_body tt_ok Tryz.func178 rfl rfl (n := 6) rfl rfl ?_
  conv => whnf
  repeat' (first|refine aA2 ?_|((intro _);conv=>whnf)|(refine zX (fun hc=>?_) (fun hc=>?_)<;>(try simp only [SY] at hc)<;>(conv=>whnf)))
  exact PRet.pure ValOf.wk
mutual
def eqlV : Vl → Vl → Int → Bool × Int
 | .mk k n d s l _ _, b, left => if left - 1 < 0 ∨ ¬k = b.k ∨ 7 < k ∨ ¬n = b.n ∨ ¬d = b.d ∨ ¬s = b.s ∨ ¬l.length = b.l.length then (false, left - 1) else eqlsV l b.l (left - 1)
def eqlsV : List Vl → List Vl → Int → Bool × Int
 | x :: xs, y :: ys, left => if (eqlV x y left).1 = false then (false, (eqlV x y left).2) else eqlsV xs ys (eqlV x y left).2
 | _, _, left => (true, left)
end
theorem eqlV_eq (a b : Vl) (left : Int) : eqlV a b left = if left - 1 < 0 ∨ ¬a.k = b.k ∨ 7 < a.k ∨ ¬a.n = b.n ∨ ¬a.d = b.d ∨ ¬a.s = b.s ∨ ¬a.l.length = b.l.length then (false, left - 1) else eqlsV a.l b.l (left - 1) := by cases a; rw [eqlV]; rfl
theorem eqlV_bd (a : Vl) : ∀ (b : Vl) (left : Int), 0 ≤ left → -1 ≤ (eqlV a b left).2 ∧ (eqlV a b left).2 ≤ left ∧ ((eqlV a b left).1 = true → 0 ≤ (eqlV a b left).2) := by
 induction a using Vl.ind with
 | h a ih =>
  intro b left h0
  rw [eqlV_eq]
  have key : ∀ (l : List Vl), (∀ x ∈ l, ∀ (b : Vl) (left : Int), 0 ≤ left → -1 ≤ (eqlV x b left).2 ∧ (eqlV x b left).2 ≤ left ∧ ((eqlV x b left).1 = true → 0 ≤ (eqlV x b left).2)) →
    ∀ (m : List Vl) (left : Int), 0 ≤ left → -1 ≤ (eqlsV l m left).2 ∧ (eqlsV l m left).2 ≤ left ∧ ((eqlsV l m left).1 = true → 0 ≤ (eqlsV l m left).2) := by
   intro l
   induction l with
   | nil => intro _ m left h; rw [eqlsV]; exact ⟨by show -1 ≤ left; omega, Int.le_refl _, fun _ => h⟩; intro _ _ _ _ h; cases h
   | cons x xs ihl =>
    intro hx m left h
    cases m with
    | nil => rw [eqlsV]; exact ⟨by show -1 ≤ left; omega, Int.le_refl _, fun _ => h⟩; intro _ _ _ _ _ h; cases h
    | cons y ys =>
     have h1 := hx x (by simp) y left h
     rw [eqlsV]
     by_cases hb : (eqlV x y left).1 = false
     ·rw [if_pos hb]
      exact ⟨h1.1, h1.2.1, fun h => by cases h⟩
     ·rw [if_neg hb]
      have h2 := h1.2.2 (by simpa using hb)
      have h3 := ihl (fun z hz => hx z (List.mem_cons_of_mem _ hz)) ys _ h2
      exact ⟨h3.1, by omega, h3.2.2⟩
  split
  ·exact ⟨by show -1 ≤ left - 1; omega, by show left - 1 ≤ left; omega, fun h => by cases h⟩
  ·rename_i hn
   have := key a.l ih b.l (left - 1) (by omega)
   exact ⟨this.1, by omega, this.2.2⟩
theorem drMm06aa {p q : Prop} (k : q) (h : q → p := by intro hq; first | exact PDraw.sP (some 67) rfl [] [11,12] tt_ok mixed hq) : p := h k
theorem equal6_c (a : Vl) : ∀ (b : Vl) (p : Nat) (left : Int), 0 ≤ left → left ≤ 1000 → ACall Tryz.prog 180 [.agg (valC a), .agg (valC b), .ptr p 0] [.box p [.int .i64 left]] (fun y Γ' => y = .bool (eqlV a b left).1 ∧ Γ' = [.box p [.int .i64 (eqlV a b left).2]]) := by
 induction a using Vl.ind with
 | h a ih =>
  intro b p left h0 h1
  rw [eqlV_eq]
  refine ACall.of_body tt_ok Tryz.func180 rfl rfl (n := 80) rfl rfl ?_
  conv => whnf
  repeat' (first|refine aA2 ?_|((intro _);conv=>whnf)|(refine zX (fun hc=>?_) (fun hc=>?_)<;>(try simp only [SY] at hc)<;>(conv=>whnf)))
  ·rw [if_pos (by
    rcases hc with (((((h | h) | h) | h) | h) | h) | h
    ·exact .inl h
    ·exact .inr (.inl h)
    ·exact .inr (.inr (.inl h))
    ·exact .inr (.inr (.inr (.inl h)))
    ·exact .inr (.inr (.inr (.inr (.inl h))))
    ·exact .inr (.inr (.inr (.inr (.inr (.inl h)))))
    ·exact .inr (.inr (.inr (.inr (.inr (.inr (by omega)))))))]
   exact PRet.gen (y := .bool false) (Γ' := [.box p [.int .i64 (left - 1)]]) (Wk.ff rfl) ⟨rfl, rfl⟩
  ·rename_i b1 b2
   have hl : a.l.length = b.l.length := by omega
   rw [if_neg (by
    obtain ⟨⟨⟨⟨⟨⟨g1, g2⟩, g3⟩, g4⟩, g5⟩, g6⟩, g7⟩ := hc
    rintro (h | h | h | h | h | h | h)
    ·omega
    ·exact h g2
    ·omega
    ·exact h g4
    ·exact h g5
    ·exact h g6
    ·exact h hl)]
   obtain ⟨R, hR⟩ : ∃ R, R = eqlsV a.l b.l (left - 1) := ⟨_, rfl⟩
   rw [← hR]
   refine PLoop.over [6, 7, 60, 61, 62, 63, 64, 65, 66, 67, 68, 69, 70, 71, 72, 73, 74, 75, 76, 77, 78, 79] (fun x : Nat × Int => [(7, .int .i64 x.1)]) (fun x : Nat × Int => [.box p [.int .i64 x.2], .box b1 (valC a), .box b2 (valC b)]) (fun x => x.1 ≤ a.l.length ∧ 0 ≤ x.2 ∧ x.2 ≤ 1000 ∧ eqlsV (a.l.drop x.1) (b.l.drop x.1) x.2 = R) (fun x => a.l.length - x.1) (0, left - 1) ⟨Nat.zero_le _, by show 0 ≤ left - 1; omega, by show left - 1 ≤ 1000; omega, hR.symm⟩ wA ?_
   rintro ⟨i, L⟩ ⟨hi, hL0, hL1, hE⟩
   dsimp only at hi hL0 hL1 hE ⊢
   conv => whnf
   repeat' (first|refine aA2 ?_|((first|refine drMm06aa ?_|intro _);conv=>whnf)|(refine zX (fun hc=>?_) (fun hc=>?_)<;>(try simp only [SY] at hc)<;>(conv=>whnf)))
   ·have h1 : i < a.l.length := by omega
    have h2 : i < b.l.length := by omega
    have hbd := eqlV_bd a.l[i] b.l[i] L hL0
    rw [drop_at h1, drop_at h2, eqlsV] at hE
    refine PCall.go (ih a.l[i] (List.getElem_mem _) b.l[i] p L hL0 hL1) (WkT.refl _) ?_
    rintro _ _ ⟨rfl, rfl⟩
    conv => whnf
    repeat' (first|refine aA2 ?_|(refine zX (fun hc=>?_) (fun hc=>?_)<;>(try simp only [SY] at hc)<;>(conv=>whnf)))
    ·rw [if_pos hc] at hE
     rw [← hE]
     exact PRet.gen (y := .bool false) (Γ' := [.box p [.int .i64 (eqlV a.l[i] b.l[i] L).2]]) (Wk.ff rfl) ⟨rfl, rfl⟩
    ·rw [if_neg (by rw [hc]; simp)] at hE
     exact loopTo (i + 1, (eqlV a.l[i] b.l[i] L).2) ⟨by show i + 1 ≤ _; omega, hbd.2.2 hc, by show (eqlV a.l[i] b.l[i] L).2 ≤ 1000; omega, hE⟩ (by show a.l.length - (i + 1) < a.l.length - i; omega) wA
   ·rw [List.drop_of_length_le (by omega), eqlsV] at hE
    ·rw [← hE]
     exact PRet.gen (y := .bool true) (Γ' := [.box p [.int .i64 L]]) (Wk.tt rfl) ⟨rfl, rfl⟩
    ·intro _ _ _ _ h
     cases h
mutual
def Vl.its : Vl → List Vl × Vl
 | .mk k n d s l p c => if k = 6 then Vl.itsL l else ([], .mk k n d s l p c)
def Vl.itsL : List Vl → List Vl × Vl
 | [a, b] => (a :: b.its.1, b.its.2)
 | _ => ([], zerV)
end
theorem Vl.its_end (x : Vl) (h : ¬x.k = 6) : x.its = ([], x) := by
 cases x with
 | mk k n d s l p c =>
  have h' : ¬k = 6 := h
  rw [Vl.its, if_neg h']
theorem Vl.its_pair (x : Vl) (h : x.k = 6) (h2 : x.l.length = 2) : x.its = ((x.l[0]'(by omega)) :: (x.l[1]'(by omega)).its.1, (x.l[1]'(by omega)).its.2) := by
 cases x with
 | mk k n d s l p c =>
  have h' : k = 6 := h
  rw [Vl.its, if_pos h']
  match l, h2 with
  | [a, b], _ => rw [Vl.itsL]; rfl
theorem drMm06ab {p q : Prop} (k : q) (h : q → p := by intro hq; first | exact PDraw.sP (some 19) rfl [] [] tt_ok mixed hq) : p := h k
theorem items6_c (x : Vl) (ht : x.tx = true) (hl : x.its.1.length ≤ 1000000000) : ACallP Tryz.prog 160 [.agg (valC x)] (.tup [.sl 7 (x.its.1.map Vl.pv) none, .bool (x.its.2.k == 4)]) := by
 refine ACall.of_body tt_ok Tryz.func160 rfl rfl (n := 23) rfl rfl ?_
 conv => whnf
 repeat (((intro _);conv=>whnf))
 rename_i b1
 refine PLoop.gh (Ghost.nil 7 140 _) ?_
 refine PLoop.over [4, 5, 6, 7, 8, 9, 10, 11, 12, 13, 14, 15, 16, 17, 18] (fun z : Vl × List Vl × Tok => [(4, .sl 7 (z.2.1.map Vl.pv) (some z.2.2))]) (fun z : Vl × List Vl × Tok => [.box b1 (valC z.1), .tok z.2.2])
  (fun z => z.1.tx = true ∧ z.2.2.e = 140 ∧ z.2.1 ++ z.1.its.1 = x.its.1 ∧ z.1.its.2 = x.its.2) (fun z => z.1.sz) (x, [], nilTok 7 140) ⟨ht, rfl, rfl, rfl⟩ wA ?_
 rintro ⟨D, m, t1⟩ ⟨hD, ht1, h1, h2⟩
 dsimp only at hD ht1 h1 h2 ⊢
 have hD' := hD
 rw [Vl.tx_eq] at hD'
 have hlen := hD'.2.1
 have hml : m.length ≤ 1000000000 := by have := congrArg List.length h1; rw [List.length_append] at this; omega
 conv => whnf
 repeat' (first|refine aA2 ?_|((first|refine normN nC ?_|refine normN nD ?_|refine drMm06ab ?_|intro _);conv=>whnf)|(refine zX (fun hc=>?_) (fun hc=>?_)<;>(try simp only [SY] at hc)<;>(conv=>whnf)))
 ·rename_i t2 ht2
  have h3 := hlen hc
  have e := D.its_pair hc h3
  have hm1 : D.l[1]'(by omega) ∈ D.l := List.getElem_mem _
  rw [e] at h1 h2
  exact loopTo (D.l[1]'(by omega), m ++ [D.l[0]'(by omega)], t2) ⟨hD'.2.2.2 _ hm1, ht2, by dsimp only; rw [List.append_assoc]; exact h1, h2⟩ (Vl.sz_mem hm1) wA
 ·have e := D.its_end hc
  rw [e] at h1 h2
  rw [List.append_nil] at h1
  have h2' : D = x.its.2 := h2
  rw [← h2', ← h1]
  exact PRet.pure (Wk.tup (.cons (Wk.tok _ _ _) (.cons (Wk.refl _) .nil)))
abbrev resV (r : Vl × Int) : PV := .tup [.agg (valC r.1), .int .i64 r.2]
abbrev numV (n : Int) : Vl := .mk 0 n 1 [] [] none none
def prtV (n : Int) (l : List Vl) : Vl × Int :=
 let a := l.getD 0 zerV
 let b := l.getD 1 zerV
 if n = 18 ∨ n = 19 then (if ¬a.k = 6 then (zerV, 1) else (a.l.getD (n - 18).toNat zerV, 0)) else
 if n = 22 then (if ¬a.k = 7 ∨ ¬b.k = 0 then (zerV, 1) else if ¬b.d = 1 ∨ b.n < 0 ∨ (a.l.length : Int) ≤ b.n then (zerV, 3) else (a.l.getD b.n.toNat zerV, 0)) else
 if n = 23 then (if ¬a.k = 7 then (zerV, 1) else (numV a.l.length, 0)) else
 if a.its.2.k = 4 then (numV a.its.1.length, 0) else (zerV, 1)
theorem getV {l : List Vl} {i : Nat} (h : i < l.length) : l.getD i zerV = l[i] := by rw [List.getD_eq_getElem?_getD, List.getElem?_eq_getElem h]; rfl
theorem drMm06ac {p q : Prop} (k : q) (h : q → p := by intro hq; first | exact PDraw.sP (some 41) rfl [] [] tt_ok mixed hq | exact PDraw.sP (some 66) rfl [] [10,11] tt_ok mixed hq) : p := h k
theorem parts6_c (n : Int) (l : List Vl) (hn : (n = 18 ∧ l.length = 1) ∨ (n = 19 ∧ l.length = 1) ∨ (n = 22 ∧ l.length = 2) ∨ (n = 23 ∧ l.length = 1) ∨ (n = 24 ∧ l.length = 1)) (ht : ∀ x ∈ l, x.tx = true)
  (hi : ∀ x ∈ l, x.its.1.length ≤ 1000000000) : ACallP Tryz.prog 181 [.int .i64 n, .sl 7 (l.map Vl.pv) none] (resV (prtV n l)) := by
 have h0 : 0 < l.length := by omega
 have htx := ht l[0] (List.getElem_mem _)
 have hit := items6_c l[0] htx (hi _ (List.getElem_mem _))
 have htx' := htx
 rw [Vl.tx_eq] at htx'
 have h6 := htx'.2.1
 unfold prtV
 dsimp only
 rw [getV h0]
 rcases hn with ⟨rfl, hl⟩ | ⟨rfl, hl⟩ | ⟨rfl, hl⟩ | ⟨rfl, hl⟩ | ⟨rfl, hl⟩
 ·rw [if_pos (by omega)]
  refine ACall.of_body tt_ok Tryz.func181 rfl rfl (n := 103) rfl rfl ?_
  conv => whnf
  repeat' (first|refine aA2 ?_|((first|refine normN nC ?_|refine normN nD ?_|intro _);conv=>whnf)|(refine zX (fun hc=>?_) (fun hc=>?_)<;>(try simp only [SY] at hc)<;>(conv=>whnf)))
  ·rw [if_pos hc]
   exact PRet.pure (Wk.tup (.cons ValOf.wk (.cons (Wk.refl _) .nil)))
  ·rw [if_neg (fun h => h hc), getV (by rw [h6 hc]; decide)]
   exact PRet.pure (Wk.refl _)
 ·rw [if_pos (by omega)]
  refine ACall.of_body tt_ok Tryz.func181 rfl rfl (n := 103) rfl rfl ?_
  conv => whnf
  repeat' (first|refine aA2 ?_|((first|refine normN nC ?_|refine normN nD ?_|intro _);conv=>whnf)|(refine zX (fun hc=>?_) (fun hc=>?_)<;>(try simp only [SY] at hc)<;>first|omega|(conv=>whnf)))
  ·rw [if_pos hc]
   exact PRet.pure (Wk.tup (.cons ValOf.wk (.cons (Wk.refl _) .nil)))
  ·rw [if_neg (fun h => h hc), getV (by rw [h6 hc]; decide)]
   exact PRet.pure (Wk.refl _)
 ·rw [if_neg (by omega), if_pos rfl, getV (show 1 < l.length by omega)]
  refine ACall.of_body tt_ok Tryz.func181 rfl rfl (n := 103) rfl rfl ?_
  conv => whnf
  repeat' (first|refine aA2 ?_|((first|refine normN nC ?_|refine normN nD ?_|refine drMm06ac ?_|intro _);conv=>whnf)|(refine zX (fun hc=>?_) (fun hc=>?_)<;>(try simp only [SY] at hc)<;>first|omega|(conv=>whnf)))
  ·rw [if_pos hc]
   exact PRet.pure (Wk.tup (.cons ValOf.wk (.cons (Wk.refl _) .nil)))
  ·rename_i hd
   rw [if_neg (by omega), if_pos (by omega)]
   exact PRet.pure (Wk.tup (.cons ValOf.wk (.cons (Wk.refl _) .nil)))
  ·rename_i hd
   rw [if_neg (by omega), if_neg (by omega), getV (by omega)]
   exact PRet.pure (Wk.refl _)
 ·rw [if_neg (by omega), if_neg (by omega), if_pos rfl]
  refine ACall.of_body tt_ok Tryz.func181 rfl rfl (n := 103) rfl rfl ?_
  conv => whnf
  repeat' (first|refine aA2 ?_|((intro _);conv=>whnf)|(refine zX (fun hc=>?_) (fun hc=>?_)<;>(try simp only [SY] at hc)<;>first|omega|(conv=>whnf)))
  ·rw [if_pos hc]
   exact PRet.pure (Wk.tup (.cons ValOf.wk (.cons (Wk.refl _) .nil)))
  ·rw [if_neg (fun h => h hc)]
   exact PRet.pure (Wk.tup (.cons ValOf.wk (.cons (Wk.refl _) .nil)))
 ·rw [if_neg (by omega), if_neg (by omega), if_neg (by omega)]
  refine ACall.of_body tt_ok Tryz.func181 rfl rfl (n := 103) rfl rfl ?_
  conv => whnf
  repeat' (first|refine aA2 ?_|((first|refine pC (hit) wR ?_|intro _);conv=>whnf)|(refine zX (fun hc=>?_) (fun hc=>?_)<;>(try simp only [SY] at hc)<;>first|omega|(conv=>whnf)))
  ·rw [if_neg hc]
   exact PRet.pure (Wk.tup (.cons ValOf.wk (.cons (Wk.refl _) .nil)))
  ·rw [if_pos hc]
   exact PRet.pure (Wk.tup (.cons ValOf.wk (.cons (Wk.refl _) .nil)))
end Go.Cb
namespace Go.Cb
open Go.Proofs
set_option maxRecDepth 100000
set_option maxHeartbeats 8000000
def shaV (x : Vl) : Datum := if x.k ≤ 5 then .mk x.k x.n x.d x.s [] else if x.k = 6 then listD [nulD] else .mk 7 0 0 [] []
def simV (n : Int) (l : List Vl) : Vl × Int × List UInt8 :=
 let a := l.getD 0 zerV
 let b := l.getD 1 zerV
 if n = 6 then (truV (eqV a b), 0, []) else
 if n = 7 then (if (eqlV a b 1000).2 < 0 then (zerV, 3, []) else (truV (eqlV a b 1000).1, 0, [])) else
 if n = 16 then (truV (decide (8 ≤ a.k) && decide (a.k ≤ 10)), 0, []) else
 if n = 17 then (.mk 6 0 0 [] l none none, 0, []) else
 if n = 20 then (lstV l, 0, []) else
 if n = 21 then (.mk 7 0 0 [] l none none, 0, []) else
 if n = 26 then (kndV 5, 0, txtV a) else
 if n = 27 then (kndV 5, 0, [10]) else
 if n = 18 ∨ n = 19 ∨ n = 22 ∨ n = 23 ∨ n = 24 then ((prtV n l).1, (prtV n l).2, []) else
 if n = 15 ∧ l.any (fun x => decide (7 < x.k)) = true then (truV false, 0, []) else
 (valV (foldF n (l.map shaV)).1, (foldF n (l.map shaV)).2, [])
abbrev outM (s : MSt) (w : List UInt8) : MSt := ⟨s.fuel, s.out ++ w, s.alive, s.to, s.val, s.h⟩
def SimOk (n : Int) (l : List Vl) : Prop := ∀ (b : Nat) (K : List Vl) (tk : Tok) (s : MSt), s.out.length ≤ 1000000000 →
 ACall Tryz.prog 161 [.int .i64 n, .sl 7 (l.map Vl.pv) none, .ptr b 3] [.box b (mcB K tk s)] (fun y Γ' => y = resV ((simV n l).1, (simV n l).2.1) ∧ Γ' = [.box b (mcB K tk (outM s (simV n l).2.2))])
theorem outM_nil (K : List Vl) (tk : Tok) (s : MSt) : mcB K tk (outM s []) = mcB K tk s := by
 show [_, _, _, PV.str (s.out ++ []), _, _, _, _, _, _, _, _, _] = _
 rw [List.append_nil]
theorem PRet.sim {x : PV} {r : Vl × Int × List UInt8} {b : Nat} {K : List Vl} {tk : Tok} {s : MSt} {Γ Γ1 : List Ent} (hr : r.2.2 = []) (hw : Wk x (resV (r.1, r.2.1))) [hp : PickL Γ [.box b (mcB K tk s)] Γ1] :
  PRet x Γ (fun y Γ' => y = resV (r.1, r.2.1) ∧ Γ' = [.box b (mcB K tk (outM s r.2.2))]) :=
 PRet.gen (y := resV (r.1, r.2.1)) (Γ' := [.box b (mcB K tk s)]) hw ⟨rfl, by rw [hr, outM_nil]⟩
theorem WkR.res {x : PV} {v : Vl} {c : Int} [h : ElOf Vl.pv x v] : Wk (.tup [x, .int .i64 c]) (resV (v, c)) := Wk.tup (.cons ValOf.wk (.cons (Wk.refl _) .nil))
theorem drMm06baa {p q : Prop} (k : q) (h : q → p := by intro hq; first | exact PDraw.sP (some 21) rfl [] [8,9] tt_ok mixed hq | exact PDraw.sP (some 31) rfl [] [6,7] tt_ok mixed hq | exact PDraw.sP (some 72) rfl [] [10] tt_ok mixed hq | exact PDraw.sP (some 116) rfl [] [21] tt_ok mixed hq) : p := h k
theorem sim6_c (l : List Vl) (hl : l.length = 2) : SimOk 6 l := by
 intro b K tk s ho
 unfold simV
 dsimp only
 rw [if_pos rfl, getV (show 0 < l.length by omega), getV (show 1 < l.length by omega)]
 refine ACall.of_body tt_ok Tryz.func161 rfl rfl (n := 171) rfl rfl ?_
 conv => whnf
 repeat' (first|refine aA2 ?_|((first|((apply zZ);(conv=>whnf);(repeat ((first|refine pC (eq6_c _ _) wR ?_|refine pC (truth6_c _) wR ?_);conv=>whnf));exact pZ)|refine drMm06baa ?_|intro _);conv=>whnf)|(refine zX (fun hc=>?_) (fun hc=>?_)<;>(try simp only [SY] at hc)<;>(conv=>whnf)))
 exact PRet.sim rfl WkR.res
theorem sim7_c (l : List Vl) (hl : l.length = 2) : SimOk 7 l := by
 intro b K tk s ho
 unfold simV
 dsimp only
 rw [if_neg (by decide), if_pos rfl, getV (show 0 < l.length by omega), getV (show 1 < l.length by omega)]
 refine ACall.of_body tt_ok Tryz.func161 rfl rfl (n := 171) rfl rfl ?_
 conv => whnf
 repeat' (first|refine aA2 ?_|((first|refine drMm06baa ?_|intro _);conv=>whnf)|(refine zX (fun hc=>?_) (fun hc=>?_)<;>(try simp only [SY] at hc)<;>first|omega|(conv=>whnf)))
 rename_i b3
 refine PCall.go (equal6_c l[0] l[1] b3 1000 (by omega) (by omega)) (WkT.refl _) ?_
 rintro _ _ ⟨rfl, rfl⟩
 conv => whnf
 repeat' (first|refine aA2 ?_|((refine pC (truth6_c _) wR ?_);conv=>whnf)|(refine zX (fun hc=>?_) (fun hc=>?_)<;>(try simp only [SY] at hc)<;>(conv=>whnf)))
 ·rw [if_pos hc]
  exact PRet.sim rfl WkR.res
 ·rw [if_neg (by omega)]
  exact PRet.sim rfl WkR.res
theorem sim16_c (l : List Vl) (hl : l.length = 1) : SimOk 16 l := by
 intro b K tk s ho
 unfold simV
 dsimp only
 rw [if_neg (by decide), if_neg (by decide), if_pos rfl, getV (show 0 < l.length by omega)]
 refine ACall.of_body tt_ok Tryz.func161 rfl rfl (n := 171) rfl rfl ?_
 conv => whnf
 repeat' (first|refine aA2 ?_|((first|refine pC (truth6_c _) wR ?_|intro _);conv=>whnf)|(refine zX (fun hc=>?_) (fun hc=>?_)<;>(try simp only [SY] at hc)<;>first|omega|(conv=>whnf)))
 exact PRet.sim rfl WkR.res
theorem simL_c (n : Int) (hn : n = 17 ∨ n = 20 ∨ n = 21) (l : List Vl) : SimOk n l := by
 intro b K tk s ho
 unfold simV
 dsimp only
 have hl := list6_c l
 rcases hn with rfl | rfl | rfl
 ·rw [if_neg (by decide), if_neg (by decide), if_neg (by decide), if_pos rfl]
  refine ACall.of_body tt_ok Tryz.func161 rfl rfl (n := 171) rfl rfl ?_
  conv => whnf
  repeat' (first|refine aA2 ?_|((intro _);conv=>whnf)|(refine zX (fun hc=>?_) (fun hc=>?_)<;>(try simp only [SY] at hc)<;>first|omega|(conv=>whnf)))
  exact PRet.sim rfl WkR.res
 ·rw [if_neg (by decide), if_neg (by decide), if_neg (by decide), if_neg (by decide), if_pos rfl]
  refine ACall.of_body tt_ok Tryz.func161 rfl rfl (n := 171) rfl rfl ?_
  conv => whnf
  repeat' (first|refine aA2 ?_|((first|refine normN nC ?_|refine normN nD ?_|refine pC (hl) wR ?_|intro _);conv=>whnf)|(refine zX (fun hc=>?_) (fun hc=>?_)<;>(try simp only [SY] at hc)<;>first|omega|(conv=>whnf)))
  exact PRet.sim rfl WkR.res
 ·rw [if_neg (by decide), if_neg (by decide), if_neg (by decide), if_neg (by decide), if_neg (by decide), if_pos rfl]
  refine ACall.of_body tt_ok Tryz.func161 rfl rfl (n := 171) rfl rfl ?_
  conv => whnf
  repeat' (first|refine aA2 ?_|((intro _);conv=>whnf)|(refine zX (fun hc=>?_) (fun hc=>?_)<;>(try simp only [SY] at hc)<;>first|omega|(conv=>whnf)))
  exact PRet.sim rfl WkR.res
theorem txtV_len (x : Vl) : (txtV x).length ≤ 1000 := by unfold txtV; rw [List.length_take]; omega
theorem sim26_c (l : List Vl) (hl : l.length = 1) (ht : ∀ x ∈ l, x.tx = true) : SimOk 26 l := by
 intro b K tk s ho
 unfold simV
 dsimp only
 rw [if_neg (by decide), if_neg (by decide), if_neg (by decide), if_neg (by decide), if_neg (by decide), if_neg (by decide), if_pos rfl, getV (show 0 < l.length by omega)]
 have htx := text6_c l[0] (ht _ (List.getElem_mem _))
 have hln := txtV_len l[0]
 have hA : s.out.length + (txtV l[0]).length ≤ maxLen := by unfold maxLen; omega
 refine ACall.of_body tt_ok Tryz.func161 rfl rfl (n := 171) rfl rfl ?_
 conv => whnf
 repeat' (first|refine aA2 ?_|((first|((apply zZ);(conv=>whnf);(repeat ((refine pC (htx) wR ?_);conv=>whnf));exact pZ)|refine drMm06baa ?_|intro _);conv=>whnf)|(refine zX (fun hc=>?_) (fun hc=>?_)<;>(try simp only [SY] at hc)<;>first|omega|(conv=>whnf)))
 exact PRet.gen (y := resV (kndV 5, 0)) (Γ' := [.box b (mcB K tk (outM s (txtV l[0])))]) WkR.res ⟨rfl, rfl⟩
theorem sim27_c (l : List Vl) : SimOk 27 l := by
 intro b K tk s ho
 unfold simV
 dsimp only
 rw [if_neg (by decide), if_neg (by decide), if_neg (by decide), if_neg (by decide), if_neg (by decide), if_neg (by decide), if_neg (by decide), if_pos rfl]
 have hA : s.out.length + 1 ≤ maxLen := by unfold maxLen; omega
 refine ACall.of_body tt_ok Tryz.func161 rfl rfl (n := 171) rfl rfl ?_
 conv => whnf
 repeat' (first|refine aA2 ?_|((first|refine zIL ?_|intro _);conv=>whnf)|(refine zX (fun hc=>?_) (fun hc=>?_)<;>(try simp only [SY] at hc)<;>first|omega|(conv=>whnf)))
 exact PRet.gen (y := resV (kndV 5, 0)) (Γ' := [.box b (mcB K tk (outM s [10]))]) WkR.res ⟨rfl, rfl⟩
theorem simP_c (n : Int) (l : List Vl) (hn : (n = 18 ∧ l.length = 1) ∨ (n = 19 ∧ l.length = 1) ∨ (n = 22 ∧ l.length = 2) ∨ (n = 23 ∧ l.length = 1) ∨ (n = 24 ∧ l.length = 1)) (ht : ∀ x ∈ l, x.tx = true) (hi : ∀ x ∈ l, x.its.1.length ≤ 1000000000) : SimOk n l := by
 intro b K tk s ho
 have hp := parts6_c n l hn ht hi
 unfold simV
 dsimp only
 rw [if_neg (by omega), if_neg (by omega), if_neg (by omega), if_neg (by omega), if_neg (by omega), if_neg (by omega), if_neg (by omega), if_neg (by omega), if_pos (by omega)]
 generalize prtV n l = r at *
 rcases hn with ⟨rfl, hl⟩ | ⟨rfl, hl⟩ | ⟨rfl, hl⟩ | ⟨rfl, hl⟩ | ⟨rfl, hl⟩
 all_goals
  refine ACall.of_body tt_ok Tryz.func161 rfl rfl (n := 171) rfl rfl ?_
  conv => whnf
  repeat' (first|refine aA2 ?_|((first|refine normN nC ?_|refine normN nD ?_|refine pC (hp) wR ?_|intro _);conv=>whnf)|(refine zX (fun hc=>?_) (fun hc=>?_)<;>(try simp only [SY] at hc)<;>first|omega|(conv=>whnf)))
  exact PRet.sim rfl WkR.res
end Go.Cb
namespace Go.Cb
open Go.Proofs
set_option maxRecDepth 100000
set_option maxHeartbeats 8000000
theorem list02_v {x : PV} {l : List Datum} [h : SlOf Datum.pv 5 x l] : ACallP Tryz.prog 182 [x] (.agg (listD l).cells) :=
 ACall.wk (args' := [.sl 5 (l.map Datum.pv) none]) (list02_c l) (.cons h.wk .nil)
theorem sumsL_sz (n : Int) : ∀ (l : List Datum) (a : Int × Int), (sumsL n l a).1.sz = 1
 | [], _ => rfl
 | x :: l, a => by
  rw [sumsL]
  split
  ·rfl
  ·exact sumsL_sz n l _
theorem foldF_sz (n : Int) (l : List Datum) : (foldF n l).1.sz = 1 := by
 unfold foldF
 split
 ·rfl
 split
 ·rfl
 unfold doesF
 split
 ·unfold sumsF
  split
  ·rfl
  split <;> exact sumsL_sz ..
 split
 ·split
  ·rfl
  split <;> rfl
 split
 ·rfl
 split <;> rfl
theorem drMm06caa {p q : Prop} (k : q) (h : q → p := by intro hq; first | exact PDraw.sP (some 21) rfl [] [8,9] tt_ok mixed hq | exact PDraw.sP (some 31) rfl [] [] tt_ok mixed hq | exact PDraw.sP (some 72) rfl [] [10] tt_ok mixed hq | exact PDraw.sP (some 116) rfl [] [21] tt_ok mixed hq) : p := h k
theorem simF_c (n : Int) (hn : fldB n) (l : List Vl) (hl : l.length ≤ 1000000000) : SimOk n l := by
 intro b K tk s ho
 have hn' := hn
 unfold fldB at hn'
 have hS : simV n l = if n = 15 ∧ l.any (fun x => decide (7 < x.k)) = true then (truV false, 0, []) else (valV (foldF n (l.map shaV)).1, (foldF n (l.map shaV)).2, []) := by
  unfold simV
  dsimp only
  rw [if_neg (by omega), if_neg (by omega), if_neg (by omega), if_neg (by omega), if_neg (by omega), if_neg (by omega), if_neg (by omega), if_neg (by omega), if_neg (by omega)]
 have hF := Fold05_c n hn (l.map shaV) (by simpa using hl)
 refine ACall.of_body tt_ok Tryz.func161 rfl rfl (n := 171) rfl rfl ?_
 conv => whnf
 repeat' (first|refine aA2 ?_|((intro _);conv=>whnf)|(refine zX (fun hc=>?_) (fun hc=>?_)<;>(try simp only [SY] at hc)<;>first|omega|(conv=>whnf)))
 rename_i b6 b92 _ _ _ _ _ _ _ _ _ _ _ _
 refine PLoop.gh (Ghost.nil 5 54 _) ?_
 refine PLoop.over [7, 11, 12, 13, 103, 104, 105, 106, 107, 108, 109, 110, 111, 112, 113, 114, 115, 116, 117, 118, 119, 120, 121, 122, 123, 124, 125, 126, 127, 128, 129, 130, 131, 132, 133, 134, 135, 136, 137, 138, 139, 140, 141, 142, 143, 144, 145, 146, 147, 148, 149, 150, 151, 152, 153, 154, 155, 156, 157, 158, 159, 160] (fun z : Nat × List Datum × Tok => [(11, .sl 5 (z.2.1.map Datum.pv) (some z.2.2)), (12, .int .i64 z.1)]) (fun z : Nat × List Datum × Tok => [.tok z.2.2, .box b6 [.int .i64 0, .int .i64 0, .int .i64 0, .str [], .nil, .np, .np], .box b (mcB K tk s)])
  (fun z => z.1 ≤ l.length ∧ z.2.2.e = 54 ∧ z.2.1 = (l.take z.1).map shaV ∧ (n = 15 → (l.drop z.1).any (fun x => decide (7 < x.k)) = l.any fun x => decide (7 < x.k))) (fun z => l.length - z.1) (0, [], nilTok 5 54) ⟨Nat.zero_le _, rfl, rfl, fun _ => rfl⟩ wA ?_
 rintro ⟨i, m, t1⟩ ⟨hi, ht, hm, ha⟩
 dsimp only at hi ht hm ha ⊢
 have hml : m.length ≤ 1000000000 := by rw [hm, List.length_map, List.length_take]; omega
 have hnx : ∀ h : i < l.length, m ++ [shaV (l[i]'h)] = (l.take (i + 1)).map shaV := fun h => by rw [hm, List.take_succ_eq_append_getElem h, List.map_append]; rfl
 conv => whnf
 repeat' (first|refine aA2 ?_|((first|refine pC (list02_v) wR ?_|refine drMm06caa ?_|intro _);conv=>whnf)|(refine zX (fun hc=>?_) (fun hc=>?_)<;>(try simp only [SY] at hc)<;>(conv=>whnf)))
 ·have h1 : i < l.length := by omega
  rename_i t2 ht2
  have e : shaV l[i] = .mk l[i].k l[i].n l[i].d l[i].s [] := if_pos hc
  have := hnx h1
  rw [e] at this
  refine loopTo (i + 1, m ++ [.mk l[i].k l[i].n l[i].d l[i].s []], t2) ⟨by show i + 1 ≤ _; omega, ht2, this, fun h15 => ?_⟩ (by show l.length - (i + 1) < l.length - i; omega) wA
  have := ha h15
  rw [drop_at h1, List.any_cons, decide_eq_false (by omega), Bool.false_or] at this
  exact this
 ·have h1 : i < l.length := by omega
  rename_i t2 ht2
  have e : shaV l[i] = listD [.mk 4 0 0 [] []] := by unfold shaV; rw [if_neg (by omega), if_pos hc]
  have := hnx h1
  rw [e] at this
  refine loopTo (i + 1, m ++ [listD [.mk 4 0 0 [] []]], t2) ⟨by show i + 1 ≤ _; omega, ht2, this, fun h15 => ?_⟩ (by show l.length - (i + 1) < l.length - i; omega) wA
  have := ha h15
  rw [drop_at h1, List.any_cons, decide_eq_false (by omega), Bool.false_or] at this
  exact this
 ·have h1 : i < l.length := by omega
  have := ha hc.2
  rw [drop_at h1, List.any_cons, decide_eq_true hc.1, Bool.true_or] at this
  refine pC (truth6_c false) (.cons (Wk.ff rfl) .nil) ?_
  conv => whnf
  repeat' (first|refine aA2 ?_|(refine zX (fun hc=>?_) (fun hc=>?_)<;>(try simp only [SY] at hc)<;>omega))
  rw [hS, if_pos ⟨hc.2, this.symm⟩]
  exact PRet.sim (r := (truV false, 0, [])) rfl WkR.res
 ·have h1 : i < l.length := by omega
  have hk6 : ¬l[i].k = 6 := by assumption
  rename_i t2 ht2
  have e : shaV l[i] = .mk 7 0 0 [] [] := by unfold shaV; rw [if_neg (by omega), if_neg hk6]
  have := hnx h1
  rw [e] at this
  refine loopTo (i + 1, m ++ [.mk 7 0 0 [] []], t2) ⟨by show i + 1 ≤ _; omega, ht2, this, fun h15 => ?_⟩ (by show l.length - (i + 1) < l.length - i; omega) wA
  have := ha h15
  rw [drop_at h1, List.any_cons, decide_eq_false (by omega), Bool.false_or] at this
  exact this
 ·rw [List.take_of_length_le (by omega)] at hm
  subst hm
  have hV := value_c (foldF n (l.map shaV)).1 (by rw [foldF_sz]; decide)
  rw [hS, if_neg (by
   rintro ⟨h15, h⟩
   have := ha h15
   rw [List.drop_of_length_le (by omega), List.any_nil] at this
   rw [← this] at h
   cases h)]
  refine pC hF (.cons (Wk.refl _) (.cons (Wk.tok _ _ _) .nil)) ?_
  conv => whnf
  repeat' (first|refine aA2 ?_|((first|refine normN nC ?_|refine normN nD ?_|refine pC (hV) wR ?_|intro _);conv=>whnf)|(refine zX (fun hc=>?_) (fun hc=>?_)<;>(try simp only [SY] at hc)<;>omega))
  exact PRet.sim (r := (valV (foldF n (l.map shaV)).1, (foldF n (l.map shaV)).2, [])) rfl WkR.res
end Go.Cb
namespace Go.Cb
open Go.Proofs
set_option maxRecDepth 100000
set_option maxHeartbeats 4000000
instance (priority := low) PickL.skipM (e : Ent) (Γ D r : List Ent) [h : PickL Γ D r] : PickL (e :: Γ) D (e :: r) := ⟨(h.p.cons e).trans List.perm_middle.symm⟩
theorem PLoad.mem {agg : Bool} {n a o : Nat} {all : List PV} {Γ : List Ent} {K : PV → Prop} (h : Ent.box a all ∈ Γ) (h1 : Nat.ble (o + n) all.length = true) (k : mkvK agg ((all.drop o).take n) K) : PLoad agg n (.ptr a o) Γ K :=
 ⟨_, ⟨all, h, Nat.le_of_ble_eq_true h1, rfl⟩, k⟩
def WkB (b : Nat) (cs : List PV) (x y : PV) : Prop := ∀ F v, (∀ o u, Rep F (.ptr b o) u → Rep F (.ep (cs.drop o)) u) → Rep F x v → Rep F y v
inductive WkBT (b : Nat) (cs : List PV) : List PV → List PV → Prop
 | nil : WkBT b cs [] []
 | cons {x y : PV} {xs ys : List PV} : WkB b cs x y → WkBT b cs xs ys → WkBT b cs (x :: xs) (y :: ys)
theorem WkB.of {b : Nat} {cs : List PV} {x y : PV} (h : Wk x y) : WkB b cs x y := fun F v _ r => h F v r
theorem WkB.ep {b : Nat} {cs : List PV} : WkB b cs (.ptr b 0) (.ep cs) := fun _ v h r => h 0 v r
theorem WkBT.rep {b : Nat} {cs : List PV} {F : Fz} (hF : ∀ o u, Rep F (.ptr b o) u → Rep F (.ep (cs.drop o)) u) : ∀ {xs ys : List PV} {vs : List Value}, WkBT b cs xs ys → RepT F xs vs → RepT F ys vs
 | _, _, [], .nil, h => h
 | _, _, _ :: _, .nil, h => h
 | _, _, [], .cons _ _, h => by simp only [RepT] at h
 | _, _, v :: vs, .cons h1 h2, h => by
  simp only [RepT] at h ⊢
  exact ⟨h1 _ _ hF h.1, WkBT.rep hF h2 h.2⟩
theorem WkBT.repL {b : Nat} {cs : List PV} {F : Fz} (hF : ∀ o u, Rep F (.ptr b o) u → Rep F (.ep (cs.drop o)) u) : ∀ {xs ys : List PV} {vs : List Value}, WkBT b cs xs ys → RepL F xs vs → RepL F ys vs
 | _, _, [], .nil, h => h
 | _, _, _ :: _, .nil, h => h
 | _, _, [], .cons _ _, h => by simp only [RepL] at h
 | _, _, v :: vs, .cons h1 h2, h => by
  simp only [RepL] at h ⊢
  exact ⟨⟨h.1.1, h1 _ _ hF h.1.2⟩, WkBT.repL hF h2 h.2⟩
theorem WkB.agg {b : Nat} {cs xs ys : List PV} (h : WkBT b cs xs ys) : WkB b cs (.agg xs) (.agg ys) := fun F v hF r => by
 simp only [Rep] at r ⊢
 obtain ⟨vs, h1, h2⟩ := r
 exact ⟨vs, h1, h.repL hF h2⟩
theorem WkB.tup {b : Nat} {cs xs ys : List PV} (h : WkBT b cs xs ys) : WkB b cs (.tup xs) (.tup ys) := fun F v hF r => by
 simp only [Rep] at r ⊢
 obtain ⟨vs, h1, h2⟩ := r
 exact ⟨vs, h1, h.rep hF h2⟩
theorem PRet.frzW {b : Nat} {cs : List PV} {x y : PV} {Γ Γ1 Γ' Γ2 : List Ent} {Q : PV → List Ent → Prop} [hp : PickE Γ (.box b cs) Γ1] [hq : PickL Γ1 Γ' Γ2] (h : WkB b cs x y) (q : Q y Γ') : PRet x Γ Q :=
 ⟨y, Γ', Shift.trans (Γ' := Γ1) (y := y) (fun w0 F M w v hS hx => by
  have hS' := hS.perm (hp.p.append_right M)
  obtain ⟨F', h1, h2, h3⟩ := Sim.freeze (M := Γ1 ++ M) (by simpa using hS')
  refine ⟨F', h1, h2, h F' v (fun o u hu => ?_) (Rep.mono h1 _ _ hx)⟩
  simp only [Rep] at hu ⊢
  exact ⟨b, o, hu, h3 o⟩) (Shift.wk (Wk.refl _) hq.p), q⟩
theorem PCall.goT {P : Program} {f : FuncId} {args args' : List PV} {Γ Γ1 Γ2 : List Ent} {Q K : PV → List Ent → Prop} (h : ACall P f args' Γ1 Q) (hw : WkT args args') [hp : PickL Γ Γ1 Γ2]
  (k : ∀ y Γ1', Q y Γ1' → appE Γ2 Γ1' fun Γ' => K y Γ') : PCall P f args Γ K := by
 refine ⟨.inl (((h.wk hw).frame hp.p).shift ?_)⟩
 rintro y Γ' ⟨Γ1', rfl, hq⟩
 have := k y Γ1' hq
 rw [appE_eq] at this
 exact ⟨y, Γ2 ++ Γ1', Shift.wk (Wk.refl _) (Γ1 := []) (by rw [List.append_nil]; exact List.perm_append_comm), this⟩
theorem appN {Γ : List Ent} {K : List Ent → Prop} (h : K Γ) : appE Γ [] K := by rw [appE_eq, List.append_nil]; exact h
abbrev lessM (s : MSt) : MSt := ⟨s.fuel - 1, s.out, s.alive, s.to, s.val, s.h⟩
section
variable (b : Nat) (K : List Vl) (tk : Tok) (s : MSt) (t : Trm) (e : EnvM)
theorem drMc06caa {p q : Prop} (k : q) (h : q → p := by intro hq; first | exact PDraw.sP (some 32) rfl [] [8,9] tt_ok mixed hq | exact PDraw.sP (some 73) rfl [] [11,12,13,14] tt_ok mixed hq) : p := h k
theorem evConst_c (h0 : 0 < s.fuel ∧ s.fuel ≤ 1000000) (ho : t.op = 0) (hn : 0 ≤ t.n ∧ t.n < K.length) :
  ACall Tryz.prog 87 [.ptr b 0, .agg t.cells, envPV e, .nil] (mcE b K tk s) (fun y Γ' => y = .tup [.agg (valC (K[t.n.toNat]'(by omega))), .int .i64 0] ∧ Γ' = mcE b K tk (lessM s)) := by
 refine ACall.of_body tt_ok Tryz.func87 rfl rfl (n := 181) rfl rfl ?_
 conv => whnf
 repeat' (first|refine aA2 ?_|((first|refine normN nC ?_|refine normN nD ?_|refine drMc06caa ?_|intro _);conv=>whnf)|(refine zX (fun hc=>?_) (fun hc=>?_)<;>(try simp only [SY] at hc)<;>first|omega|(conv=>whnf)))
 exact PRet.gen (y := .tup [.agg (valC (K[t.n.toNat]'(by omega))), .int .i64 0]) (Γ' := mcE b K tk (lessM s)) (Wk.refl _) ⟨rfl, rfl⟩
theorem evLam_c (h0 : 0 < s.fuel ∧ s.fuel ≤ 1000000) (ho : t.op = 4) (hl : t.t.length = 1) :
  ACall Tryz.prog 87 [.ptr b 0, .agg t.cells, envPV e, .nil] (mcE b K tk s) (fun y Γ' => y = .tup [.agg (valC (.mk 8 0 0 [] [] (some ⟨t.v, t.n == 1, t.t[0], e⟩) none)), .int .i64 0] ∧ Γ' = mcE b K tk (lessM s)) := by
 rcases e with _ | ⟨⟨w, c⟩, e⟩
 all_goals
  refine ACall.of_body tt_ok Tryz.func87 rfl rfl (n := 181) rfl rfl ?_
  conv => whnf
  repeat' (first|refine aA2 ?_|((first|refine drMc06caa ?_|intro _);conv=>whnf)|(refine zX (fun hc=>?_) (fun hc=>?_)<;>(try simp only [SY] at hc)<;>first|omega|(conv=>whnf)))
  rename_i b3 b2 b1
  exact PRet.frzW (b := b1) (y := .tup [.agg (valC (.mk 8 0 0 [] [] (some ⟨t.v, t.n == 1, t.t[0], _⟩) none)), .int .i64 0]) (Γ' := mcE b K tk (lessM s)) (WkB.tup (.cons (WkB.agg (.cons (.of (Wk.refl _)) (.cons (.of (Wk.refl _)) (.cons (.of (Wk.refl _)) (.cons (.of (Wk.refl _)) (.cons (.of (Wk.nil' rfl)) (.cons WkB.ep (.cons (.of (Wk.refl _)) .nil)))))))) (.cons (.of (Wk.refl _)) .nil))) ⟨rfl, rfl⟩
end
end Go.Cb
namespace Go.Cb
open Go.Proofs
set_option maxRecDepth 100000
set_option maxHeartbeats 4000000
def extM : EnvM → List Int → List Nat → EnvM
 | e, v :: vs, a :: az => extM ((v, a) :: e) vs az
 | e, _, _ => e
def hpM : Hp → List Vl → List Nat → Hp
 | h, x :: xs, a :: az => hpM ((a, x, false) :: h) xs az
 | h, _, _ => h
theorem extM_snoc : ∀ (e : EnvM) (vs : List Int) (az : List Nat) (v : Int) (a : Nat), vs.length = az.length → extM e (vs ++ [v]) (az ++ [a]) = (v, a) :: extM e vs az
 | _, [], [], _, _, _ => rfl
 | e, w :: vs, c :: az, v, a, h => by
  rw [List.cons_append, List.cons_append, extM, extM_snoc _ vs az v a (by simpa using h), extM]
 | _, [], _ :: _, _, _, h => by simp at h
 | _, _ :: _, [], _, _, h => by simp at h
theorem hpM_snoc : ∀ (e : Hp) (vs : List Vl) (az : List Nat) (v : Vl) (a : Nat), vs.length = az.length → hpM e (vs ++ [v]) (az ++ [a]) = (a, v, false) :: hpM e vs az
 | _, [], [], _, _, _ => rfl
 | e, w :: vs, c :: az, v, a, h => by
  rw [List.cons_append, List.cons_append, hpM, hpM_snoc _ vs az v a (by simpa using h), hpM]
 | _, [], _ :: _, _, _, h => by simp at h
 | _, _ :: _, [], _, _, h => by simp at h
abbrev addM (s : MSt) (h : Hp) : MSt := ⟨s.fuel, s.out, s.alive, s.to, s.val, h⟩
section
variable (b : Nat) (K : List Vl) (tk : Tok) (s : MSt)
end
theorem PCall.goGT {P : Program} {f : FuncId} {args args' : List PV} {Γ Γ0 Γ1 Γ2 : List Ent} {Q K : PV → List Ent → Prop} (hg : Ghost Γ Γ0) (h : ACall P f args' Γ1 Q) (hw : WkT args args') [hp : PickL Γ0 Γ1 Γ2]
  (k : ∀ y Γ1', Q y Γ1' → appE Γ2 Γ1' fun Γ' => K y Γ') : PCall P f args Γ K :=
 PCall.ghost hg (((h.wk hw).frame hp.p).shift fun y Γ' ⟨Γ1', e, hq⟩ => by
  have := k y Γ1' hq
  rw [appE_eq] at this
  rw [e]
  exact ⟨y, Γ2 ++ Γ1', Shift.wk (Wk.refl _) (Γ1 := []) (by rw [List.append_nil]; exact List.perm_append_comm), this⟩)
theorem Ghost.nilRowV (Γ : List Ent) : Ghost Γ (.row (nilTok 7 140) (([] : List Vl).map Vl.pv) :: Γ) := Ghost.nilRow _ _ _
theorem Ghost.nilRowB (Γ : List Ent) : Ghost Γ (.row (nilTok 1 4) (([] : List Bool).map PV.bool) :: Γ) := Ghost.nilRow _ _ _
theorem set_lastV {α : Type} : ∀ (l : List α) (a c : α), (l ++ [a]).set l.length c = l ++ [c]
 | [], a, c => rfl
 | x :: l, a, c => by
  show x :: ((l ++ [a]).set l.length c) = _
  rw [set_lastV l a c]
  rfl
abbrev mc0 (fuel : Int) : MSt := ⟨fuel, [], [], 0, zerV, []⟩
end Go.Cb
namespace Go.Cb
open Go.Proofs
set_option maxRecDepth 100000
set_option maxHeartbeats 4000000
theorem sim6 (n : Int) (l : List Vl) (h0 : n < 28) (ht : takB n l.length = true) (hl : l.length ≤ 1000000000) (hx : ∀ x ∈ l, x.tx = true) (hi : ∀ x ∈ l, x.its.1.length ≤ 1000000000) : SimOk n l := by
 have hb := ht
 unfold takB at hb
 simp only [Bool.and_eq_true, Bool.or_eq_true, decide_eq_true_eq] at hb
 obtain ⟨⟨k0, k1⟩, k2, k3⟩ := hb
 have f6 : (factOf 6).least = 2 ∧ (factOf 6).most = 2 := by decide
 have f7 : (factOf 7).least = 2 ∧ (factOf 7).most = 2 := by decide
 have f16 : (factOf 16).least = 1 ∧ (factOf 16).most = 1 := by decide
 have f18 : (factOf 18).least = 1 ∧ (factOf 18).most = 1 := by decide
 have f19 : (factOf 19).least = 1 ∧ (factOf 19).most = 1 := by decide
 have f22 : (factOf 22).least = 2 ∧ (factOf 22).most = 2 := by decide
 have f23 : (factOf 23).least = 1 ∧ (factOf 23).most = 1 := by decide
 have f24 : (factOf 24).least = 1 ∧ (factOf 24).most = 1 := by decide
 have f26 : (factOf 26).least = 1 ∧ (factOf 26).most = 1 := by decide
 rcases (by omega : n = 6 ∨ n = 7 ∨ n = 16 ∨ n = 17 ∨ n = 18 ∨ n = 19 ∨ n = 20 ∨ n = 21 ∨ n = 22 ∨ n = 23 ∨ n = 24 ∨ n = 26 ∨ n = 27 ∨ ((0 ≤ n ∧ n ≤ 5) ∨ (8 ≤ n ∧ n ≤ 15) ∨ n = 25)) with h | h | h | h | h | h | h | h | h | h | h | h | h | h
 ·subst h; exact sim6_c l (by omega)
 ·subst h; exact sim7_c l (by omega)
 ·subst h; exact sim16_c l (by omega)
 ·exact simL_c n (by omega) l
 ·subst h; exact simP_c _ l (by omega) hx hi
 ·subst h; exact simP_c _ l (by omega) hx hi
 ·exact simL_c n (by omega) l
 ·exact simL_c n (by omega) l
 ·subst h; exact simP_c _ l (by omega) hx hi
 ·subst h; exact simP_c _ l (by omega) hx hi
 ·subst h; exact simP_c _ l (by omega) hx hi
 ·subst h; exact sim26_c l (by omega) hx
 ·subst h; exact sim27_c l
 ·exact simF_c n h l hl
def hget : Hp → Nat → Option (Vl × Bool)
 | [], _ => none
 | c :: h, a => if c.1 = a then some c.2 else hget h a
def hput : Hp → Nat → Vl → Hp
 | [], _, _ => []
 | c :: h, a, x => if c.1 = a then (c.1, x, c.2.2) :: h else c :: hput h a x
theorem hget_split : ∀ {h : Hp} {a : Nat} {x : Vl} {r : Bool}, hget h a = some (x, r) → ∃ h1 h2, h = h1 ++ (a, x, r) :: h2 ∧ ∀ y, hput h a y = h1 ++ (a, y, r) :: h2
 | (b, y, q) :: h, a, x, r, he => by
  rw [hget] at he
  by_cases hb : b = a
  ·rw [if_pos hb] at he
   subst hb
   obtain ⟨rfl, rfl⟩ := Prod.mk.inj (Option.some.inj he)
   exact ⟨[], h, rfl, fun z => by rw [hput, if_pos rfl]; rfl⟩
  ·rw [if_neg hb] at he
   obtain ⟨h1, h2, e1, e2⟩ := hget_split he
   exact ⟨(b, y, q) :: h1, h2, by rw [e1]; rfl, fun z => by rw [hput, if_neg hb, e2]; rfl⟩
def hpU : Hp → Bool → List Nat → Hp
 | h, _, [] => h
 | h, r, a :: az => hpU ((a, kndV 12, r) :: h) r az
def stoM (s : MSt) (e : EnvM) (v : Int) (x : Vl) : MSt := match fndM e v with
 | none => s
 | some a => addM s (hput s.h a x)
def stosM (s : MSt) (e : EnvM) : List Int → List Vl → MSt
 | v :: vs, x :: xs => stosM (stoM s e v x) e vs xs
 | _, _ => s
def sprV (l : List Vl) (k : Nat) (rest : Bool) : Option (List Vl) :=
 if rest = true ∧ k ≤ l.length + 1 then some (l.take (k - 1) ++ [lstV (l.drop (k - 1))]) else
 if rest = false ∧ l.length = k then some l else none
inductive Jd where
 | ev (t : Trm) (e : EnvM)
 | go (t : Trm) (e : EnvM)
 | all (l : List Trm) (e : EnvM)
 | rc (now : Bool) (v : List Int) (l : List Trm) (e : EnvM)
 | str (t : Trm) (l : List Vl) (e : EnvM)
 | call (f : Vl) (l : List Vl)
 | prim (n : Int) (l : List Vl)
def ndH (h : Hp) : Prop := (h.map fun c => c.1).Nodup
abbrev escV (id : Nat) : Vl := .mk 10 id 0 [] [] none none
inductive Ev (K : List Vl) : Jd → MSt → List Vl → Int → MSt → Prop
 | dry {t e s} : s.fuel ≤ 0 → Ev K (.ev t e) s [zerV] 8 s
 | ev {t e s v c s'} : 0 < s.fuel → ndH s.h → Ev K (.go t e) (lessM s) [v] c s' → Ev K (.ev t e) s [v] c s'
 | con {t e s x} : t.op = 0 → K[t.n.toNat]? = some x → Ev K (.go t e) s [x] 0 s
 | ref {t e s a x r} : t.op = 1 → fndM e t.n = some a → hget s.h a = some (x, r) → ¬(r = true ∧ x.k = 12) → Ev K (.go t e) s [x] 0 s
 | refE {t e s a x} : t.op = 1 → fndM e t.n = some a → hget s.h a = some (x, true) → x.k = 12 → Ev K (.go t e) s [zerV] 5 s
 | prf {t e s} : t.op = 11 → Ev K (.go t e) s [.mk 9 t.n 0 [] [] none none] 0 s
 | uns {t e s} : t.op = 13 → Ev K (.go t e) s [kndV 12] 0 s
 | lam {t e s b} : t.op = 4 → t.t = [b] → Ev K (.go t e) s [.mk 8 0 0 [] [] (some ⟨t.v, t.n == 1, b, e⟩) none] 0 s
 | ifE {t e s a b d v c s1} : t.op = 3 → t.t = [a, b, d] → Ev K (.ev a e) s [v] c s1 → c ≠ 0 → Ev K (.go t e) s [zerV] c s1
 | ifF {t e s a b d x s1 v c s'} : t.op = 3 → t.t = [a, b, d] → Ev K (.ev a e) s [x] 0 s1 → x.k = 1 ∧ x.n = 0 → Ev K (.ev d e) s1 [v] c s' → Ev K (.go t e) s [v] c s'
 | ifT {t e s a b d x s1 v c s'} : t.op = 3 → t.t = [a, b, d] → Ev K (.ev a e) s [x] 0 s1 → ¬(x.k = 1 ∧ x.n = 0) → Ev K (.ev b e) s1 [v] c s' → Ev K (.go t e) s [v] c s'
 | ltE {t e s l b vs c s1} : t.op = 8 → t.t = l ++ [b] → l.length = t.v.length → Ev K (.all l e) s vs c s1 → c ≠ 0 → Ev K (.go t e) s [zerV] c s1
 | ltC {t e s l b vs s1 az v c s'} : t.op = 8 → t.t = l ++ [b] → l.length = t.v.length → Ev K (.all l e) s vs 0 s1 → az.length = t.v.length → Ev K (.ev b (extM e t.v az)) (addM s1 (hpM s1.h vs az)) [v] c s' → Ev K (.go t e) s [v] c s'
 | fxE {t e s l b az vs c s1} : t.op = 7 ∨ t.op = 9 → t.t = l ++ [b] → l.length = t.v.length → az.length = t.v.length → Ev K (.rc (t.op == 9 || t.n == 1) t.v l (extM e t.v az)) (addM s (hpU s.h (t.op == 7) az)) vs c s1 → c ≠ 0 → Ev K (.go t e) s [zerV] c s1
 | fxC {t e s l b az vs s1 v c s'} : t.op = 7 ∨ t.op = 9 → t.t = l ++ [b] → l.length = t.v.length → az.length = t.v.length → Ev K (.rc (t.op == 9 || t.n == 1) t.v l (extM e t.v az)) (addM s (hpU s.h (t.op == 7) az)) vs 0 s1 →
   Ev K (.ev b (extM e t.v az)) (if t.op = 7 ∧ t.n = 0 then stosM s1 (extM e t.v az) t.v vs else s1) [v] c s' → Ev K (.go t e) s [v] c s'
 | stE {t e s vs c s1} : t.op = 2 ∨ t.op = 5 ∨ t.op = 6 ∨ t.op = 10 ∨ t.op = 12 ∨ (14 ≤ t.op ∧ t.op ≤ 18) → Ev K (.all t.t e) s vs c s1 → c ≠ 0 → Ev K (.go t e) s [zerV] c s1
 | st {t e s vs s1 v c s'} : t.op = 2 ∨ t.op = 5 ∨ t.op = 6 ∨ t.op = 10 ∨ t.op = 12 ∨ (14 ≤ t.op ∧ t.op ≤ 18) → Ev K (.all t.t e) s vs 0 s1 → Ev K (.str t vs e) s1 [v] c s' → Ev K (.go t e) s [v] c s'
 | allN {e s} : Ev K (.all [] e) s [] 0 s
 | allE {t l e s v c s1} : Ev K (.ev t e) s [v] c s1 → c ≠ 0 → Ev K (.all (t :: l) e) s [] c s1
 | allC {t l e s x s1 xs s2} : Ev K (.ev t e) s [x] 0 s1 → Ev K (.all l e) s1 xs 0 s2 → Ev K (.all (t :: l) e) s (x :: xs) 0 s2
 | allX {t l e s x s1 xs c s2} : Ev K (.ev t e) s [x] 0 s1 → Ev K (.all l e) s1 xs c s2 → c ≠ 0 → Ev K (.all (t :: l) e) s [] c s2
 | rcN {now e s} : Ev K (.rc now [] [] e) s [] 0 s
 | rcE {now v vs t l e s y c s1} : Ev K (.ev t e) s [y] c s1 → c ≠ 0 → Ev K (.rc now (v :: vs) (t :: l) e) s [] c s1
 | rcC {now v vs t l e s x s1 xs s2} : Ev K (.ev t e) s [x] 0 s1 → Ev K (.rc now vs l e) (if now = true then stoM s1 e v x else s1) xs 0 s2 → Ev K (.rc now (v :: vs) (t :: l) e) s (x :: xs) 0 s2
 | rcX {now v vs t l e s x s1 xs c s2} : Ev K (.ev t e) s [x] 0 s1 → Ev K (.rc now vs l e) (if now = true then stoM s1 e v x else s1) xs c s2 → c ≠ 0 → Ev K (.rc now (v :: vs) (t :: l) e) s [] c s2
 | seq {t e s l x} : t.op = 6 → Ev K (.str t (l ++ [x]) e) s [x] 0 s
 | stC {t e s x a y r} : t.op = 2 ∨ t.op = 14 → fndM e t.n = some a → hget s.h a = some (y, r) → ¬((r = true ∨ t.op = 14) ∧ y.k = 12) → Ev K (.str t [x] e) s [kndV 5] 0 (addM s (hput s.h a x))
 | stX {t e s x a y r} : t.op = 2 ∨ t.op = 14 → fndM e t.n = some a → hget s.h a = some (y, r) → (r = true ∨ t.op = 14) → y.k = 12 → Ev K (.str t [x] e) s [zerV] 5 s
 | chk {t e s x} : t.op = 12 → ¬x.k = 12 → Ev K (.str t [x] e) s [x] 0 s
 | chkE {t e s x} : t.op = 12 → x.k = 12 → Ev K (.str t [x] e) s [zerV] 5 s
 | box {t e s x a} : t.op = 15 → ndH ((a, x, false) :: s.h) → Ev K (.str t [x] e) s [.mk 11 0 0 [] [] none (some a)] 0 (addM s ((a, x, false) :: s.h))
 | bad {t e s x l} : 16 ≤ t.op ∧ t.op ≤ 18 → ¬x.k = 11 → Ev K (.str t (x :: l) e) s [zerV] 1 s
 | get {t e s x a y r} : t.op = 16 → x.k = 11 → x.c = some a → hget s.h a = some (y, r) → Ev K (.str t [x] e) s [y] 0 s
 | put {t e s x z a y r} : t.op = 17 ∨ t.op = 18 → x.k = 11 → x.c = some a → hget s.h a = some (y, r) → ¬(t.op = 18 ∧ y.k = 12) → Ev K (.str t [x, z] e) s [kndV 5] 0 (addM s (hput s.h a z))
 | putE {t e s x z a y r} : t.op = 18 → x.k = 11 → x.c = some a → hget s.h a = some (y, r) → y.k = 12 → Ev K (.str t [x, z] e) s [zerV] 5 s
 | app {t e s f l v c s'} : t.op = 5 → Ev K (.call f l) s [v] c s' → Ev K (.str t (f :: l) e) s [v] c s'
 | prm {t e s l v c s'} : t.op = 10 → Ev K (.prim t.n l) s [v] c s' → Ev K (.str t l e) s [v] c s'
 | calP {f l s v c s'} : f.k = 9 → Ev K (.prim f.n l) s [v] c s' → Ev K (.call f l) s [v] c s'
 | calN {f l s} : f.k = 10 → ¬l.length = 1 → Ev K (.call f l) s [zerV] 2 s
 | calD {f x s} : f.k = 10 → s.alive[f.n.toNat]? = some false → Ev K (.call f [x]) s [zerV] 6 s
 | calJ {f x s} : f.k = 10 → s.alive[f.n.toNat]? = some true → Ev K (.call f [x]) s [zerV] 100 ⟨s.fuel, s.out, s.alive, f.n, x, s.h⟩
 | calK {f l s cl} : f.k = 8 → f.p = some cl → sprV l cl.v.length cl.rest = none → Ev K (.call f l) s [zerV] 2 s
 | cal {f l s cl xs az v c s'} : f.k = 8 → f.p = some cl → sprV l cl.v.length cl.rest = some xs → az.length = cl.v.length → Ev K (.ev cl.body (extM cl.env cl.v az)) (addM s (hpM s.h xs az)) [v] c s' → Ev K (.call f l) s [v] c s'
 | calB {f l s} : ¬f.k = 8 → ¬f.k = 9 → ¬f.k = 10 → Ev K (.call f l) s [zerV] 1 s
 | pN {n l s} : takB n l.length = false → Ev K (.prim n l) s [zerV] 2 s
 | pR {x s} : Ev K (.prim 28 [x]) s [zerV] 7 ⟨s.fuel, s.out, s.alive, s.to, x, s.h⟩
 | pE {f s v c s'} : Ev K (.call f [escV s.alive.length]) ⟨s.fuel, s.out, s.alive ++ [true], s.to, s.val, s.h⟩ [v] c s' → ¬(c = 100 ∧ s'.to = s.alive.length) → Ev K (.prim 29 [f]) s [v] c ⟨s'.fuel, s'.out, s'.alive.set s.alive.length false, s'.to, s'.val, s'.h⟩
 | pJ {f s v s'} : Ev K (.call f [escV s.alive.length]) ⟨s.fuel, s.out, s.alive ++ [true], s.to, s.val, s.h⟩ [v] 100 s' → s'.to = s.alive.length → Ev K (.prim 29 [f]) s [s'.val] 0 ⟨s'.fuel, s'.out, s'.alive.set s.alive.length false, s'.to, s'.val, s'.h⟩
 | pL {f x s} : ¬x.its.2.k = 4 → Ev K (.prim 30 [f, x]) s [zerV] 1 s
 | pA {f x s v c s'} : x.its.2.k = 4 → Ev K (.call f x.its.1) s [v] c s' → Ev K (.prim 30 [f, x]) s [v] c s'
 | pS {n l s} : n < 28 → takB n l.length = true → Ev K (.prim n l) s [(simV n l).1] (simV n l).2.1 (outM s (simV n l).2.2)
end Go.Cb
namespace Go.Cb
open Go.Proofs
set_option maxRecDepth 100000
set_option maxHeartbeats 4000000
def numberP (consts codes : Int) (free : Bool) (t : Trm) (scope : List Int) : Bool :=
 if t.op = 0 then decide (t.n ≥ 0) && decide (t.n < consts) else
 if t.op = 1 ∨ t.op = 2 ∨ t.op = 14 then scope.contains t.n else
 if t.op = 11 ∨ t.op = 10 then decide (0 ≤ t.n ∧ t.n < 31) else
 if t.op = 4 then t.n == 0 || (t.n == 1 && decide ((t.v.length : Int) > 0)) else
 if t.op = 7 then t.n == 0 || t.n == 1 else
 if t.op = 19 ∨ t.op = 21 ∨ t.op = 22 then decide (t.n ≥ 0) && decide (t.n < codes) else
 if t.op = 20 then decide (t.n ≥ 0) && free else t.n == 0
theorem bindR_congr : ∀ (l b1 b2 : List Int), (∀ x, x ∈ b1 ↔ x ∈ b2) → (bindR l b1).1 = (bindR l b2).1
 | [], _, _, _ => rfl
 | v :: l, b1, b2, h => by
  have hv : vOk b1 v = vOk b2 v := by
   have : b1.contains v = b2.contains v := by rw [Bool.eq_iff_iff]; simp [h]
   unfold vOk; rw [this]
  rw [bindR, bindR, hv]
  split
  ·exact bindR_congr l _ _ (by intro x; simp [h])
  ·rfl
theorem bind2p_c (c rb rs : Nat) (level consts codes size : Int) (frees : Bool) (l bound scope : List Int) (pb ps : List (Int × Value)) :
  ACall Tryz.prog 63 [.ptr c 0, .sl 1 (l.map (PV.int .i64)) none, .mp rs] [.box c (cpC level consts codes size frees rb), .mp rb (.int .i64) (setM bound) pb, .mp rs (.int .i64) (setM scope) ps]
  (fun y Γ' => y = .bool (bindR l bound).1 ∧ ∃ pb' mb ms, Γ' = [.box c (cpC level consts codes size frees rb), .mp rb (.int .i64) mb pb', .mp rs (.int .i64) ms []] ∧ ((bindR l bound).1 = true → mb = setM (bound ++ l) ∧ ms = setM (scope ++ l))) := by
 refine ACall.ghost (Γ' := [.box c (cpC level consts codes size frees rb), .mp rb (.int .i64) (setM bound) [], .mp rs (.int .i64) (setM scope) []]) (Ghost.trans (Γ' := [.box c (cpC level consts codes size frees rb), .mp rb (.int .i64) (setM bound) [], .mp rs (.int .i64) (setM scope) ps]) (Ghost.pendE rb) (Ghost.pendE rs)) ?_
 refine ACall.of_body tt_ok Tryz.func63 rfl rfl (n := 39) rfl rfl ?_
 conv => whnf
 repeat (first|refine aR0 ?_|((intro _);conv=>whnf))
 refine PLoop.over [6, 8, 11, 12, 13, 14, 15, 16, 17, 18, 19, 20, 21, 22, 23, 24, 25, 26, 27, 28, 29, 30, 31, 32, 33, 34, 35, 36, 37, 38] (fun | ((i, bd, sc, pb) : Nat × List Int × List Int × List (Int × Value)) => [(11, .int .i64 i)])
  (fun x => [.box c (cpC level consts codes size frees rb), .mp rb (.int .i64) (setM x.2.1) x.2.2.2, .mp rs (.int .i64) (setM x.2.2.1) []])
  (fun | (i, bd, sc, pb) => i ≤ l.length ∧ (∀ x, x ∈ bd ↔ x ∈ bound ∨ x ∈ l.take i) ∧ (∀ x, x ∈ sc ↔ x ∈ scope ∨ x ∈ l.take i) ∧ (bindR (l.drop i) bd).1 = (bindR l bound).1 ∧ ∀ q ∈ pb, q.2 ≠ .tuple #[]) (fun | (i, _) => l.length - i) (0, bound, scope, [])
  ⟨by omega, by simp, by simp, rfl, by simp⟩ wA ?_
 rintro ⟨i, bd, sc, pb'⟩ ⟨hi, hbd, hsc, hr, hpb⟩
 conv => whnf
 repeat' (first|refine aA0 ?_|(refine zX (fun hc=>?_) (fun hc=>?_)<;>(try simp only [SY] at hc)<;>(conv=>whnf)))
 ·have hlt : i < l.length := by omega
  have hb : (bindR l bound).1 = false := by
   rw [← hr, drop_at hlt, bindR, if_neg (by simp only [vOk, SS]; rintro ⟨h, h'⟩; rw [h'] at hc; simp at hc; omega)]
  exact PRet.gen (Wk.ff hb) ⟨rfl, pb', setM bd, setM sc, rfl, fun h => by rw [hb] at h; cases h⟩
 ·have hlt : i < l.length := by omega
  refine PMapEntry.set hc.2 ?_ (.inr hpb)
  intro j
  conv => whnf
  refine PEntryStore.set ?_
  conv => whnf
  repeat (refine aR0 ?_)
  have htk : ∀ x, x ∈ l.take (i + 1) ↔ x = l[i] ∨ x ∈ l.take i := by
   intro x
   rw [List.take_succ_eq_append_getElem hlt, List.mem_append, List.mem_singleton, or_comm]
  refine loopTo (i + 1, l[i] :: bd, l[i] :: sc, (j, .int .i64 l[i]) :: pb') ⟨by omega, fun x => ?_, fun x => ?_, ?_, ?_⟩ (by show l.length - (i + 1) < l.length - i; omega) wA
  ·rw [htk, List.mem_cons, hbd]
   constructor
   ·rintro (h | h | h)
    ·exact .inr (.inl h)
    ·exact .inl h
    ·exact .inr (.inr h)
   ·rintro (h | h | h)
    ·exact .inr (.inl h)
    ·exact .inl h
    ·exact .inr (.inr h)
  ·rw [htk, List.mem_cons, hsc]
   constructor
   ·rintro (h | h | h)
    ·exact .inr (.inl h)
    ·exact .inl h
    ·exact .inr (.inr h)
   ·rintro (h | h | h)
    ·exact .inr (.inl h)
    ·exact .inl h
    ·exact .inr (.inr h)
  ·rw [← hr, drop_at hlt, bindR, if_pos (by simp only [vOk, SS]; exact hc)]
   exact bindR_congr _ _ _ (by intro x; simp [or_comm])
  ·intro q hq
   rcases List.mem_cons.1 hq with rfl | hq
   ·simp
   ·exact hpb q hq
 ·have hb : (bindR l bound).1 = true := by rw [← hr, List.drop_of_length_le (by omega), bindR]
  have ht : l.take i = l := List.take_of_length_le (by omega)
  rw [ht] at hbd hsc
  exact PRet.gen (Wk.tt hb) ⟨rfl, pb', setM bd, setM sc, rfl, fun _ => ⟨setM_congr (by simpa using hbd), setM_congr (by simpa using hsc)⟩⟩
theorem drChk06qaa {p q : Prop} (k : q) (h : q → p := by intro hq; first | exact PDraw.sP (some 13) rfl [] [] tt_ok mixed hq | exact PDraw.sP (some 73) rfl [] [] tt_ok mixed hq) : p := h k
theorem number2p_c (c rb rs : Nat) (level consts codes size : Int) (frees : Bool) (t : Trm) (scope : List Int) (ps : List (Int × Value)) :
  ACall Tryz.prog 70 [.ptr c 0, .agg t.cells, .mp rs] [.box c (cpC level consts codes size frees rb), .mp rs (.int .i64) (setM scope) ps]
  (fun y Γ' => y = .bool (numberP consts codes frees t scope) ∧ Γ' = [.box c (cpC level consts codes size frees rb), .mp rs (.int .i64) (setM scope) ps]) := by
 have hs : numberP consts codes frees t scope = numberP consts codes frees t scope := rfl
 conv at hs => rhs; unfold numberP
 refine ACall.of_body tt_ok Tryz.func70 rfl rfl (n := 99) rfl rfl ?_
 conv => whnf
 repeat' (first|refine aA0 ?_|((first|refine pC (Facts_c _) wR ?_|refine drChk06qaa ?_|intro _);conv=>whnf)|(refine zX (fun hc=>?_) (fun hc=>?_)<;>(try simp only [SY] at hc)<;>first|omega|(conv=>whnf)))
 all_goals repeat (first|rw [if_neg (by omega)] at hs|rw [if_pos (by omega)] at hs)
 all_goals rw [hs]
 all_goals exact PRet.gen (Wk.refl _) ⟨rfl, rfl⟩
end Go.Cb
namespace Go.Cb
open Go.Proofs
set_option maxRecDepth 100000
set_option maxHeartbeats 4000000
theorem indexFuncTrmS_c (k : Nat) (cap : List PV) (l : List Trm) (J : Nat → List Ent → Prop) (X : Nat → List Ent → Prop)
  (hf : ∀ i x Γ, l[i]? = some x → J i Γ → ACall Tryz.prog k (.agg (Trm.cells x) :: cap) Γ (fun y Γ' => (y = .bool false ∧ J (i + 1) Γ') ∨ (y = .bool true ∧ X i Γ'))) (Γ0 : List Ent) (h0 : J 0 Γ0) :
  ACall Tryz.prog 104 [.sl 4 (l.map Trm.pv) none, .fn (.func k) cap] Γ0 (fun y Γ' => (y = .int .i64 (-1) ∧ J l.length Γ') ∨ ∃ i : Nat, y = .int .i64 i ∧ i < l.length ∧ X i Γ') := by
 refine ACall.of_body tt_ok Tryz.func104 rfl rfl (n := 19) rfl rfl ?_
 conv => whnf
 repeat (first|refine aR0 ?_|((intro _);conv=>whnf))
 refine PLoop.over [4, 5, 8, 9, 10, 11, 12, 13, 14, 15, 16, 17, 18] (fun s : Nat × List Ent => [(8, .int .i64 s.1)]) (fun s => s.2) (fun s => s.1 ≤ l.length ∧ J s.1 s.2) (fun s => l.length - s.1) (0, Γ0) ⟨by omega, h0⟩ wA ?_
 rintro ⟨i, Γ⟩ ⟨h1, h2⟩
 conv => whnf
 repeat' (first|refine aA0 ?_|(refine zX (fun hc=>?_) (fun hc=>?_)<;>(try simp only [SY] at hc)<;>(conv=>whnf)))
 ·have hlt : i < l.length := by omega
  refine PCall.same (hf i _ Γ (List.getElem?_eq_getElem hlt) h2) (WkT.refl _) ?_
  rintro _ Γ' (⟨rfl, h⟩ | ⟨rfl, h⟩)
  ·conv => whnf
   repeat' (first|refine aA0 ?_|(refine zX (fun hc=>?_) (fun hc=>?_)<;>(try simp only [SY] at hc)<;>(conv=>whnf)))
   ·exact loopTo (i + 1, Γ') ⟨by omega, h⟩ (by show l.length - (i + 1) < l.length - i; omega) wA
  ·conv => whnf
   repeat' ((refine zX (fun hc=>?_) (fun hc=>?_)<;>(try simp only [SY] at hc)<;>(conv=>whnf)))
   ·exact PRet.gen (Wk.refl _) (.inr ⟨i, rfl, hlt, h⟩)
 ·obtain rfl : i = l.length := by omega
  exact PRet.gen (Wk.refl _) (.inl ⟨rfl, h2⟩)
theorem containsFuncTrmS_c (k : Nat) (cap : List PV) (l : List Trm) (J : Nat → List Ent → Prop) (X : Nat → List Ent → Prop)
  (hf : ∀ i x Γ, l[i]? = some x → J i Γ → ACall Tryz.prog k (.agg (Trm.cells x) :: cap) Γ (fun y Γ' => (y = .bool false ∧ J (i + 1) Γ') ∨ (y = .bool true ∧ X i Γ'))) (Γ0 : List Ent) (h0 : J 0 Γ0) :
  ACall Tryz.prog 73 [.sl 4 (l.map Trm.pv) none, .fn (.func k) cap] Γ0 (fun y Γ' => (y = .bool false ∧ J l.length Γ') ∨ ∃ i : Nat, y = .bool true ∧ i < l.length ∧ X i Γ') := by
 refine ACall.of_body tt_ok Tryz.func73 rfl rfl (n := 9) rfl rfl ?_
 conv => whnf
 skip
 refine PCall.same (indexFuncTrmS_c k cap l J X hf Γ0 h0) (WkT.refl _) ?_
 rintro _ Γ' (⟨rfl, h⟩ | ⟨i, rfl, hi, h⟩)
 ·conv => whnf
  skip
  exact PRet.gen (Wk.bool rfl) (.inl ⟨rfl, h⟩)
 ·conv => whnf
  skip
  exact PRet.gen (Wk.bool (by simp)) (.inr ⟨i, rfl, hi, h⟩)
end Go.Cb
namespace Go.Cb
open Go.Proofs
set_option maxRecDepth 100000
set_option maxHeartbeats 4000000
def delS (s : List Int) (m : Value → Option PV) (v : Value) : Option PV := match v with
 | .int .i64 k => if s.contains k then none else m v
 | v => m v
theorem delS_nil (m : Value → Option PV) : delS [] m = m := by
 funext v; unfold delS; split <;> simp
theorem PMapDel.dels {r : Nat} {s : List Int} {n : Int} {m : Value → Option PV} {Γ : List Ent} {pend : List (Int × Value)} {put : (Value → Option PV) → List (Int × Value) → List Ent} [hp : PickMp Γ r (.int .i64) (delS s m) pend put] {K : List Ent → Prop} (h : K (put (delS (s ++ [n]) m) [])) :
  PMapDel r (.int .i64) (some (.int .i64 n)) Γ K :=
 PMapDel.at_ (hp := hp) (delS (s ++ [n]) m) (by simp [IsK, MapKept.IsKey]) (by simp [delS]) (fun k hk => by
  unfold delS
  split
  ·rename_i m
   have hm : m ≠ n := fun e => hk (by rw [e])
   have : (s ++ [n]).contains m = s.contains m := by rw [Bool.eq_iff_iff]; simp [hm]
   rw [this]
  ·rfl) h
theorem delS_setM (v scope : List Int) (h : ∀ x ∈ scope, x ∉ v) : delS v (setM (scope ++ v)) = setM scope := by
 funext k
 unfold delS setM
 split
 ·rename_i n
  by_cases h1 : n ∈ v
  ·have : n ∉ scope := fun h2 => h n h2 h1
   simp [h1, this]
  ·simp [h1]
 ·rename_i hne
  split
  ·rename_i n; exact absurd rfl (hne n)
  ·rfl
theorem defer_c (b5 b6 rs : Nat) (op n : Int) (v : List Int) (ts : List PV) (m : Value → Option PV) (ps : List (Int × Value)) :
  ACallD Tryz.prog 72 [.ptr b5 0, .ptr b6 0] [.box b5 [.int .i64 op, .int .i64 n, .sl 1 (v.map (PV.int .i64)) none, .sl 4 ts none], .box b6 [.mp rs], .mp rs (.int .i64) m ps]
  (fun _ Γ' => ∃ ps', Γ' = [.box b5 [.int .i64 op, .int .i64 n, .sl 1 (v.map (PV.int .i64)) none, .sl 4 ts none], .box b6 [.mp rs], .mp rs (.int .i64) (delS v m) ps']) := by
 have key : ACallD Tryz.prog 72 [.ptr b5 0, .ptr b6 0] [.box b5 [.int .i64 op, .int .i64 n, .sl 1 (v.map (PV.int .i64)) none, .sl 4 ts none], .box b6 [.mp rs], .mp rs (.int .i64) (delS (v.take 0) m) ps]
   (fun _ Γ' => ∃ ps', Γ' = [.box b5 [.int .i64 op, .int .i64 n, .sl 1 (v.map (PV.int .i64)) none, .sl 4 ts none], .box b6 [.mp rs], .mp rs (.int .i64) (delS v m) ps']) := by
  refine ACallD.of_body tt_ok Tryz.func72 rfl rfl (n := 14) rfl rfl ?_
  conv => whnf
  repeat (first|refine aR0 ?_|((intro _);conv=>whnf))
  refine PLoop.over [3, 7, 8, 9, 10, 11, 12, 13] (fun (x : Nat × List (Int × Value)) => [(7, .int .i64 x.1)])
   (fun (x : Nat × List (Int × Value)) => [.box b5 [.int .i64 op, .int .i64 n, .sl 1 (v.map (PV.int .i64)) none, .sl 4 ts none], .box b6 [.mp rs], .mp rs (.int .i64) (delS (v.take x.1) m) x.2]) (fun x => x.1 ≤ v.length) (fun x => v.length - x.1) (0, ps) (by simp) wA ?_
  rintro ⟨i, ps'⟩ hi
  conv => whnf
  repeat' (first|refine aA0 ?_|(refine zX (fun hc=>?_) (fun hc=>?_)<;>(try simp only [SY] at hc)<;>(conv=>whnf)))
  ·have hlt : i < v.length := by omega
   refine PMapDel.dels ?_
   conv => whnf
   repeat (refine aR0 ?_)
   show LoopTo _ _ _ _ _ _ _ _ _ [_, _, .mp rs (.int .i64) (delS (v.take i ++ [v[i]]) m) []] _
   rw [← List.take_succ_eq_append_getElem hlt]
   exact loopTo (i + 1, []) (by show i + 1 ≤ v.length; omega) (by show v.length - (i + 1) < v.length - i; omega) wA
  ·refine ⟨rfl, ?_⟩
   have ht : v.take i = v := List.take_of_length_le (by omega)
   show retK _ _ _ [_, _, .mp rs (.int .i64) (delS (v.take i) m) ps'] _
   rw [ht]
   conv => whnf
   exact PRet.gen (Wk.refl _) ⟨ps', rfl⟩
 rw [List.take_zero, delS_nil] at key
 exact key
end Go.Cb
namespace Go.Cb
open Go.Proofs
set_option maxRecDepth 100000
set_option maxHeartbeats 4000000
def badP (level consts codes : Int) (free : Bool) (t : Trm) (scope : List Int) (deep size : Int) : Bool :=
 !(shapeL t.op).2 || decide (deep > 400) || decide (size > 20000) || decide (level < (shapeL t.op).1.fm) || decide (level > (shapeL t.op).1.to) || !fitsL (shapeL t.op).1 t || !numberP consts codes free t scope
mutual
def Trm.ckP (level consts codes : Int) (free : Bool) : Trm → List Int → Int → Int → List Int → Option (Int × List Int)
 | .mk op n v t, scope, deep, size, bound =>
  if badP level consts codes free (.mk op n v t) scope deep (size + 1) = true then none else
  if groupB op = true then
   if (op == 9 && !procsL level t.dropLast) = true then none else if (bindR v bound).1 = true then Trm.cksG level consts codes free (scope ++ v) t (deep + 1) (size + 1) (bound ++ v) else none
  else Trm.cksI level consts codes free scope v t (deep + 1) (size + 1) bound
def Trm.cksG (level consts codes : Int) (free : Bool) (scope : List Int) : List Trm → Int → Int → List Int → Option (Int × List Int)
 | [], _, size, bound => some (size, bound)
 | x :: xs, deep, size, bound =>
  match Trm.ckP level consts codes free x scope deep size bound with
  | none => none
  | some (s, b) => Trm.cksG level consts codes free scope xs deep s b
def Trm.cksI (level consts codes : Int) (free : Bool) (scope v : List Int) : List Trm → Int → Int → List Int → Option (Int × List Int)
 | [], _, size, bound => if (bindR v bound).1 = true then some (size, bound ++ v) else none
 | x :: xs, deep, size, bound =>
  if xs.isEmpty = true then (if (bindR v bound).1 = true then Trm.ckP level consts codes free x (scope ++ v) deep size (bound ++ v) else none) else
  match Trm.ckP level consts codes free x scope deep size bound with
  | none => none
  | some (s, b) => Trm.cksI level consts codes free scope v xs deep s b
end
theorem Trm.ckP_eq (level consts codes : Int) (free : Bool) (t : Trm) (scope : List Int) (deep size : Int) (bound : List Int) : t.ckP level consts codes free scope deep size bound =
  if badP level consts codes free t scope deep (size + 1) = true then none else
  if groupB t.op = true then
   if (t.op == 9 && !procsL level t.t.dropLast) = true then none else if (bindR t.v bound).1 = true then Trm.cksG level consts codes free (scope ++ t.v) t.t (deep + 1) (size + 1) (bound ++ t.v) else none
  else Trm.cksI level consts codes free scope t.v t.t (deep + 1) (size + 1) bound := by
 cases t; rw [Trm.ckP]; rfl
theorem Trm.ckP_bd (level consts codes : Int) (free : Bool) (x : Trm) : ∀ (scope : List Int) (deep size : Int) (bound : List Int) (s : Int) (b : List Int), x.ckP level consts codes free scope deep size bound = some (s, b) →
  size < s ∧ s ≤ 20000 ∧ ∀ v ∈ bound, v ∈ b := by
 induction x using Trm.ind with
 | h x ih =>
  intro scope deep size bound s b h
  rw [Trm.ckP_eq] at h
  split at h
  ·cases h
  rename_i hc
  have hsz : size + 1 ≤ 20000 := by simp [badP] at hc; omega
  split at h
  ·split at h
   ·cases h
   split at h
   ·have key : ∀ (l : List Trm), (∀ y ∈ l, ∀ (scope : List Int) (deep size : Int) (bound : List Int) (s : Int) (b : List Int), y.ckP level consts codes free scope deep size bound = some (s, b) → size < s ∧ s ≤ 20000 ∧ ∀ v ∈ bound, v ∈ b) →
      ∀ (sc : List Int) (deep size : Int) (bound : List Int) (s : Int) (b : List Int), size ≤ 20000 → Trm.cksG level consts codes free sc l deep size bound = some (s, b) → size ≤ s ∧ s ≤ 20000 ∧ ∀ v ∈ bound, v ∈ b := by
     intro l
     induction l with
     | nil => intro _ sc deep size bound s b h0 h; rw [Trm.cksG] at h; cases h; exact ⟨by omega, by omega, fun _ h => h⟩
     | cons y l ihl =>
      intro hy sc deep size bound s b h0 h
      rw [Trm.cksG] at h
      split at h
      ·cases h
      ·rename_i s1 b1 h1
       have e1 := hy y (by simp) _ _ _ _ _ _ h1
       have e2 := ihl (fun z hz => hy z (by simp [hz])) _ _ _ _ _ _ (by omega) h
       exact ⟨by omega, e2.2.1, fun v hv => e2.2.2 v (e1.2.2 v hv)⟩
    have := key x.t ih _ _ _ _ _ _ hsz h
    exact ⟨by omega, this.2.1, fun v hv => this.2.2 v (by simp [hv])⟩
   ·cases h
  ·have key : ∀ (l : List Trm), (∀ y ∈ l, ∀ (scope : List Int) (deep size : Int) (bound : List Int) (s : Int) (b : List Int), y.ckP level consts codes free scope deep size bound = some (s, b) → size < s ∧ s ≤ 20000 ∧ ∀ v ∈ bound, v ∈ b) →
     ∀ (sc : List Int) (deep size : Int) (bound : List Int) (s : Int) (b : List Int), size ≤ 20000 → Trm.cksI level consts codes free sc x.v l deep size bound = some (s, b) → size ≤ s ∧ s ≤ 20000 ∧ ∀ v ∈ bound, v ∈ b := by
    intro l
    induction l with
    | nil =>
     intro _ sc deep size bound s b h0 h
     rw [Trm.cksI] at h
     split at h
     ·cases h; exact ⟨by omega, by omega, fun _ h => by simp [h]⟩
     ·cases h
    | cons y l ihl =>
     intro hy sc deep size bound s b h0 h
     rw [Trm.cksI] at h
     split at h
     ·split at h
      ·have e1 := hy y (by simp) _ _ _ _ _ _ h
       exact ⟨by omega, e1.2.1, fun v hv => e1.2.2 v (by simp [hv])⟩
      ·cases h
     split at h
     ·cases h
     ·rename_i s1 b1 h1
      have e1 := hy y (by simp) _ _ _ _ _ _ h1
      have e2 := ihl (fun z hz => hy z (by simp [hz])) _ _ _ _ _ _ (by omega) h
      exact ⟨by omega, e2.2.1, fun v hv => e2.2.2 v (e1.2.2 v hv)⟩
   have := key x.t ih _ _ _ _ _ _ hsz h
   exact ⟨by omega, this.2⟩
def rPost (c rb rs : Nat) (level consts codes : Int) (free : Bool) (scope : List Int) (r : Option (Int × List Int)) (y : PV) (Γ' : List Ent) : Prop :=
 y = .bool r.isSome ∧ ∃ size' mb ms pb' ps', Γ' = [.box c (cpC level consts codes size' free rb), .mp rb (.int .i64) mb pb', .mp rs (.int .i64) ms ps'] ∧ ∀ s b, r = some (s, b) → size' = s ∧ mb = setM b ∧ ms = setM scope
theorem right2p_c (c rb rs b4 b6 b7 : Nat) (level consts codes : Int) (free : Bool) (x : Trm) (scope : List Int) (deep size : Int) (bound : List Int) (pb ps : List (Int × Value)) (hd0 : 0 ≤ deep) (hd1 : deep ≤ 400)
  (hx : ACall Tryz.prog 39 [.ptr c 0, .agg x.cells, .mp rs, .int .i64 (deep + 1)] [.box c (cpC level consts codes size free rb), .mp rb (.int .i64) (setM bound) pb, .mp rs (.int .i64) (setM scope) ps]
   (rPost c rb rs level consts codes free scope (x.ckP level consts codes free scope (deep + 1) size bound))) :
  ACall Tryz.prog 74 [.agg x.cells, .ptr b4 0, .ptr b6 0, .ptr b7 0] [.box c (cpC level consts codes size free rb), .mp rb (.int .i64) (setM bound) pb, .mp rs (.int .i64) (setM scope) ps, .box b4 [.ptr c 0], .box b6 [.mp rs], .box b7 [.int .i64 deep]]
   (fun y Γ' => ∃ size' mb ms pb' ps', y = .bool (!(x.ckP level consts codes free scope (deep + 1) size bound).isSome) ∧ Γ' = [.box c (cpC level consts codes size' free rb), .mp rb (.int .i64) mb pb', .mp rs (.int .i64) ms ps', .box b4 [.ptr c 0], .box b6 [.mp rs], .box b7 [.int .i64 deep]] ∧
    ∀ s b, x.ckP level consts codes free scope (deep + 1) size bound = some (s, b) → size' = s ∧ mb = setM b ∧ ms = setM scope) := by
 refine ACall.of_body tt_ok Tryz.func74 rfl rfl (n := 13) rfl rfl ?_
 conv => whnf
 repeat' (first|refine aA0 ?_|((intro _);conv=>whnf)|(refine zX (fun hc=>?_) (fun hc=>?_)<;>(try simp only [SY] at hc)<;>omega))
 refine PCall.go hx (WkT.refl _) ?_
 rintro _ _ ⟨rfl, sz2, mb, ms, pb2, ps2, rfl, hs⟩
 conv => whnf
 skip
 exact PRet.gen (Wk.refl _) ⟨sz2, mb, ms, pb2, ps2, rfl, rfl, hs⟩
theorem all2p_c (c rb rs b4 b6 b7 : Nat) (level consts codes : Int) (free : Bool) (l : List Trm) (scope : List Int) (deep : Int) (hd0 : 0 ≤ deep) (hd1 : deep ≤ 400)
  (ih : ∀ x ∈ l, ∀ (size : Int) (bound : List Int) (pb ps : List (Int × Value)), 0 ≤ size → size ≤ 20000 → (∀ x ∈ scope, x ∈ bound) → ACall Tryz.prog 39 [.ptr c 0, .agg x.cells, .mp rs, .int .i64 (deep + 1)] [.box c (cpC level consts codes size free rb), .mp rb (.int .i64) (setM bound) pb, .mp rs (.int .i64) (setM scope) ps]
   (rPost c rb rs level consts codes free scope (x.ckP level consts codes free scope (deep + 1) size bound)))
  (size : Int) (bound : List Int) (pb ps : List (Int × Value)) (hs0 : 0 ≤ size) (hs1 : size ≤ 20000) (hsub : ∀ x ∈ scope, x ∈ bound) :
  ACall Tryz.prog 73 [.sl 4 (l.map Trm.pv) none, .fn (.func 74) [.ptr b4 0, .ptr b6 0, .ptr b7 0]] [.box c (cpC level consts codes size free rb), .mp rb (.int .i64) (setM bound) pb, .mp rs (.int .i64) (setM scope) ps, .box b4 [.ptr c 0], .box b6 [.mp rs], .box b7 [.int .i64 deep]]
   (fun y Γ' => ∃ size' mb ms pb' ps', y = .bool (!(Trm.cksG level consts codes free scope l (deep + 1) size bound).isSome) ∧ Γ' = [.box c (cpC level consts codes size' free rb), .mp rb (.int .i64) mb pb', .mp rs (.int .i64) ms ps', .box b4 [.ptr c 0], .box b6 [.mp rs], .box b7 [.int .i64 deep]] ∧
    ∀ s b, Trm.cksG level consts codes free scope l (deep + 1) size bound = some (s, b) → size' = s ∧ mb = setM b ∧ ms = setM scope) := by
 refine (containsFuncTrmS_c 74 [.ptr b4 0, .ptr b6 0, .ptr b7 0] l
  (fun i Γ => ∃ sz bd pb ps, Γ = [.box c (cpC level consts codes sz free rb), .mp rb (.int .i64) (setM bd) pb, .mp rs (.int .i64) (setM scope) ps, .box b4 [.ptr c 0], .box b6 [.mp rs], .box b7 [.int .i64 deep]] ∧ 0 ≤ sz ∧ sz ≤ 20000 ∧ (∀ x ∈ scope, x ∈ bd) ∧ Trm.cksG level consts codes free scope l (deep + 1) size bound = Trm.cksG level consts codes free scope (l.drop i) (deep + 1) sz bd)
  (fun _ Γ => ∃ sz mb ms pb ps, Γ = [.box c (cpC level consts codes sz free rb), .mp rb (.int .i64) mb pb, .mp rs (.int .i64) ms ps, .box b4 [.ptr c 0], .box b6 [.mp rs], .box b7 [.int .i64 deep]] ∧ Trm.cksG level consts codes free scope l (deep + 1) size bound = none)
  ?_ _ ⟨size, bound, pb, ps, rfl, hs0, hs1, hsub, rfl⟩).mono ?_
 ·rintro i x _ hx ⟨sz, bd, pb, ps, rfl, h0, h1, h2, h3⟩
  obtain ⟨hi, rfl⟩ := List.getElem?_eq_some_iff.1 hx
  refine (right2p_c c rb rs b4 b6 b7 level consts codes free l[i] scope deep sz bd pb ps hd0 hd1 (ih _ (List.getElem_mem _) sz bd pb ps h0 h1 h2)).mono ?_
  rintro _ _ ⟨sz2, mb, ms, pb2, ps2, rfl, rfl, hs⟩
  rw [drop_at hi, Trm.cksG] at h3
  cases e : Trm.ckP level consts codes free l[i] scope (deep + 1) sz bd with
  | none => rw [e] at h3; exact .inr ⟨by simp [PV.bool], sz2, mb, ms, pb2, ps2, rfl, h3⟩
  | some q =>
   obtain ⟨s1, b1⟩ := q
   obtain ⟨rfl, rfl, rfl⟩ := hs s1 b1 e
   have hbd := Trm.ckP_bd _ _ _ _ _ _ _ _ _ _ _ e
   rw [e] at h3
   exact .inl ⟨by simp [PV.bool], sz2, b1, pb2, ps2, rfl, by omega, hbd.2.1, fun x h => hbd.2.2 x (h2 x h), h3⟩
 ·rintro _ _ (⟨rfl, sz, bd, pb, ps, rfl, h0, h1, h2, h3⟩ | ⟨i, rfl, hi, sz, mb, ms, pb, ps, rfl, h3⟩)
  ·rw [List.drop_length, Trm.cksG] at h3
   rw [h3]
   exact ⟨sz, setM bd, setM scope, pb, ps, rfl, rfl, fun s b h => by cases h; exact ⟨rfl, rfl, rfl⟩⟩
  ·rw [h3]
   exact ⟨sz, mb, ms, pb, ps, rfl, rfl, fun s b h => by cases h⟩
theorem cksI_end {level consts codes : Int} {free : Bool} {scope v : List Int} {l : List Trm} {deep size : Int} {bound : List Int} (h : l.length ≤ 1) :
  Trm.cksI level consts codes free scope v l deep size bound = if (bindR v bound).1 = true then Trm.cksG level consts codes free (scope ++ v) l deep size (bound ++ v) else none := by
 match l, h with
 | [], _ => rw [Trm.cksI, Trm.cksG]
 | [x], _ =>
  rw [Trm.cksI, if_pos (show ([] : List Trm).isEmpty = true from rfl), Trm.cksG]
  split
  ·cases hx : Trm.ckP level consts codes free x (scope ++ v) deep size (bound ++ v) with
   | none => rfl
   | some q => obtain ⟨s, b⟩ := q; simp only [Trm.cksG]
  ·rfl
 | _ :: _ :: _, h => simp at h
theorem bindR_apart : ∀ {l bound : List Int}, (bindR l bound).1 = true → ∀ x, x ∈ l → x ∈ bound → False
 | [], _, _, _, h, _ => by cases h
 | v :: l, bound, h, x, hx, hb => by
  rw [bindR] at h
  split at h
  ·rename_i hv
   rcases List.mem_cons.1 hx with rfl | hx
   ·simp [vOk, hb] at hv
   ·exact bindR_apart h x hx (by simp [hb])
  ·cases h
theorem right_end {r ck : Option (Int × List Int)} {a : Int} {b : Bool} (hck : ck = if (a == 9 && !b) = true then none else r) : (!!r.isSome && (a != 9 || b)) = ck.isSome := by
 subst hck
 cases h : a == 9 <;> cases b <;> cases r <;> simp_all [bne]
theorem fits9 {t : Trm} (h : fitsL (shapeL t.op).1 t = true) (h9 : t.op = 9) : 1 ≤ t.t.length := by
 have e : shapeL 9 = (⟨1, 3, 0, false, true⟩, true) := rfl
 rw [h9, e] at h
 simp [fitsL, h9] at h
 omega
theorem drChk06raa {p q : Prop} (k : q) (h : q → p := by intro hq; first | exact PDraw.sP (some 27) rfl [] [41,42,43] tt_ok mixed hq | exact PDraw.sP (some 83) rfl [] [9,10] tt_ok mixed hq | exact PDraw.sP (some 106) rfl [] [17,18,19,20] tt_ok mixed hq) : p := h k
theorem rightp_c (c rb rs : Nat) (level consts codes : Int) (free : Bool) (t : Trm) : ∀ (scope : List Int) (deep size : Int) (bound : List Int) (pb ps : List (Int × Value)), 0 ≤ deep → deep ≤ 401 → 0 ≤ size → size ≤ 20000 → (∀ x ∈ scope, x ∈ bound) → t.bulk ≤ 1000000000 →
  ACall Tryz.prog 39 [.ptr c 0, .agg t.cells, .mp rs, .int .i64 deep] [.box c (cpC level consts codes size free rb), .mp rb (.int .i64) (setM bound) pb, .mp rs (.int .i64) (setM scope) ps]
  (rPost c rb rs level consts codes free scope (t.ckP level consts codes free scope deep size bound)) := by
 induction t using Trm.ind with
 | h t ih =>
  intro scope deep size bound pb ps hd0 hd1 hs0 hs1 hsub hbk
  have hbe := t.bulk_eq
  have hlv := Trm.bulks_length t.t
  have hr := t.ckP_eq level consts codes free scope deep size bound
  refine ACall.of_body tt_ok Tryz.func39 rfl rfl (n := 126) rfl rfl ?_
  conv => whnf
  repeat' (first|refine aA0 ?_|((first|(((apply zY;intro hg));(conv=>whnf);(repeat ((first|refine pC (fits_c (shapeL t.op).1 t OA) wR ?_|refine PCall.read (number2p_c c rb rs level consts codes (size + 1) free t scope ps) wR ?_|refine aG ?_);conv=>whnf));exact pZ)|refine pC (shapeOf_c _) wR ?_|refine pC (group_c t) wR ?_|refine drChk06raa ?_|intro _);conv=>whnf)|(refine zX (fun hc=>?_) (fun hc=>?_)<;>(try simp only [SY] at hc)<;>(conv=>whnf)))
  ·rw [hr, if_pos (by simp only [badP, SS]; exact hc)]
   exact PRet.gen (y := .bool false) (Wk.ff rfl) ⟨rfl, size + 1, setM bound, setM scope, pb, ps, rfl, fun _ _ h => by cases h⟩
  all_goals
   rename_i b4 b5 b6 b7 b9 hgood hlen
   have hfx : t.op = 9 → 1 ≤ t.t.length := fits9 hgood.1.2
   rw [if_neg (by simp only [badP, SS]; intro h; obtain ⟨⟨⟨⟨⟨⟨g1, g2⟩, g3⟩, g4⟩, g5⟩, g6⟩, g7⟩ := hgood; simp only [g1, g6, g7, Bool.true_eq_false, or_false, false_or] at h; omega)] at hr
  ·have hgr := hc
   rw [if_neg (by rw [hc]; simp)] at hr
   refine PLoop.over [8, 12, 78, 79, 80, 81, 82, 83, 84, 85, 86, 87, 88, 89, 90, 91, 92, 93] (fun (x : Nat × Int × List Int × List (Int × Value) × List (Int × Value)) => [(12, .int .i64 x.1)])
    (fun (x : Nat × Int × List Int × List (Int × Value) × List (Int × Value)) => [.box b9 (shapeL t.op).1.cells, .box b7 [.int .i64 deep], .box b6 [.mp rs], .box b5 [.int .i64 t.op, .int .i64 t.n, .sl 1 (t.v.map (PV.int .i64)) none, .sl 4 (t.t.map Trm.pv) none], .box b4 [.ptr c 0],
     .box c (cpC level consts codes x.2.1 free rb), .mp rb (.int .i64) (setM x.2.2.1) x.2.2.2.1, .mp rs (.int .i64) (setM scope) x.2.2.2.2])
    (fun | (k, sz, bd, pb, ps) => (k = 0 ∨ k < t.t.length) ∧ 0 ≤ sz ∧ sz ≤ 20000 ∧ (∀ x ∈ bound, x ∈ bd) ∧ t.ckP level consts codes free scope deep size bound = Trm.cksI level consts codes free scope t.v (t.t.drop k) (deep + 1) sz bd) (fun | (k, _) => t.t.length - k) (0, size + 1, bound, pb, ps)
    ⟨.inl rfl, by omega, by omega, fun _ h => h, by rw [hr]; rfl⟩ wA ?_
   rintro ⟨k, sz, bd, pb', ps'⟩ ⟨hk, hz0, hz1, hsb, hck⟩
   dsimp only
   conv => whnf
   repeat' (first|refine aA0 ?_|((refine drChk06raa ?_);conv=>whnf)|(refine zX (fun hc=>?_) (fun hc=>?_)<;>(try simp only [SY] at hc)<;>(conv=>whnf)))
   ·have hlt : k < t.t.length := by omega
    have hbm := Trm.bulks_mem (List.getElem_mem hlt)
    rw [drop_at hlt, Trm.cksI, if_neg (by rw [List.isEmpty_iff, List.drop_eq_nil_iff]; omega)] at hck
    refine PCall.go (ih t.t[k] (List.getElem_mem _) scope (deep + 1) sz bd pb' ps' (by omega) (by omega) hz0 hz1 (fun x h => hsb x (hsub x h)) (by omega)) (WkT.refl _) ?_
    rintro _ _ ⟨rfl, sz2, mb, ms, pb2, ps2, rfl, hs⟩
    conv => whnf
    repeat' (first|refine aA0 ?_|(refine zX (fun hc=>?_) (fun hc=>?_)<;>(try simp only [SY] at hc)<;>(conv=>whnf)))
    ·have hn := hc
     rw [Option.isSome_eq_false_iff, Option.isNone_iff_eq_none] at hn
     rw [hn] at hck
     exact PRet.gen (y := .bool false) (Wk.ff rfl) ⟨by rw [hck]; rfl, sz2, mb, ms, pb2, ps2, rfl, fun _ _ h => by rw [hck] at h; cases h⟩
    ·obtain ⟨⟨s1, b1⟩, e⟩ := Option.isSome_iff_exists.mp hc
     obtain ⟨rfl, rfl, rfl⟩ := hs s1 b1 e
     have hbd := Trm.ckP_bd _ _ _ _ _ _ _ _ _ _ _ e
     rw [e] at hck
     exact loopTo (k + 1, sz2, b1, pb2, ps2) ⟨.inr (by omega), by show (0 : Int) ≤ sz2; omega, hbd.2.1, fun x h => hbd.2.2 x (hsb x h), hck⟩ (by show t.t.length - (k + 1) < t.t.length - k; omega) wA
   ·rw [cksI_end (by rw [List.length_drop]; omega)] at hck
    have hop : t.op ≠ 9 := fun h => by simp [groupB, h] at hgr
    have hdk : (if (t.t.length : Int) - 1 < 0 then 0 else (t.t.length : Int) - 1).toNat = k := by split <;> omega
    have hck : t.ckP level consts codes free scope deep size bound = if (t.op == 9 && !procsL level t.t.dropLast) = true then none else if (bindR t.v bd).1 = true then Trm.cksG level consts codes free (scope ++ t.v) (t.t.drop (if (t.t.length : Int) - 1 < 0 then 0 else (t.t.length : Int) - 1).toNat) (deep + 1) sz (bd ++ t.v) else none := by
     rw [if_neg (by simp [hop]), hdk]; exact hck
    have hgc : ACallP Tryz.prog 71 [.agg t.cells] (.bool false) := by
     have := group_c t
     rw [hgr] at this
     exact this
    refine PCall.go (bind2p_c c rb rs level consts codes sz free t.v bd scope pb' ps') (WkT.refl _) ?_
    rintro _ _ ⟨rfl, pb3, mb, ms, rfl, hb⟩
    conv => whnf
    repeat' (first|refine aA0 ?_|((refine pC (hgc) wR ?_);conv=>whnf)|(refine zX (fun hc=>?_) (fun hc=>?_)<;>(try simp only [SY] at hc)<;>(conv=>whnf)))
    ·refine PCallD.go (defer_c b5 b6 rs t.op t.n t.v (t.t.map Trm.pv) ms []) (WkT.refl _) ?_
     rintro _ _ ⟨ps4, rfl⟩
     conv => whnf
     have hno : t.ckP level consts codes free scope deep size bound = none := by rw [hck]; split; rfl; exact if_neg (by rw [hc]; simp)
     exact PRet.gen (y := .bool false) (Wk.ff rfl) ⟨by rw [hno]; rfl, sz, mb, delS t.v ms, pb3, ps4, rfl, fun _ _ h => by rw [hno] at h; cases h⟩
    ·have hbt := ‹(bindR t.v bd).1 = true›
     obtain ⟨rfl, rfl⟩ := hb hbt
     rw [if_pos hbt] at hck
     refine PDraw.split2 tt_ok mixed [0, 1, 0, 7, 0, 31, 63, 127, 255, 511, 1023, 2047, 4095, 4095, 12287, 4095, 61439, 131071, 262143, 524287, 1048575] [0, 1, 2, 3, 4] [5] [6, 7, 8, 9, 10, 11, 12, 13, 14, 15, 16, 17, 18, 19, 20] [] [.box c (cpC level consts codes sz free rb), .mp rb (.int .i64) (setM (bd ++ t.v)) pb3, .mp rs (.int .i64) (setM (scope ++ t.v)) [], .box b4 [.ptr c 0], .box b6 [.mp rs], .box b7 [.int .i64 deep]] (by kernel_rfl) ?_
     conv => whnf
     repeat (refine aR0 ?_)
     have hdj : ∀ x ∈ scope, x ∉ t.v := fun x h h' => bindR_apart hbt x h' (hsb x (hsub x h))
     refine PCall.go (all2p_c c rb rs b4 b6 b7 level consts codes free (t.t.drop (if (t.t.length : Int) - 1 < 0 then 0 else (t.t.length : Int) - 1).toNat) (scope ++ t.v) deep hd0 (by omega) (fun x hx sz bd pb ps h0 h1 h2 => ih x (List.mem_of_mem_drop hx) (scope ++ t.v) (deep + 1) sz bd pb ps (by omega) (by omega) h0 h1 h2 (by have := Trm.bulks_mem (List.mem_of_mem_drop hx); omega)) sz (bd ++ t.v) pb3 [] (by omega) (by omega) (by intro x h; rw [List.mem_append] at h ⊢; exact h.imp (fun h => hsb x (hsub x h)) id)) (WkT.refl _) ?_
     rintro _ _ ⟨sz5, mb5, ms5, pb5, ps5, rfl, rfl, hs5⟩
     conv => whnf
     repeat (first|refine aR0 ?_|(((((apply zY;intro hg));(conv=>whnf);(repeat ((first|refine PCall.read (procs_c c rb level consts codes sz5 free (t.t.take (t.t.length - 1))) wR ?_|refine aG ?_);conv=>whnf));exact pZ));conv=>whnf))
     refine PCallD.go (defer_c b5 b6 rs t.op t.n t.v (t.t.map Trm.pv) ms5 ps5) (WkT.refl _) ?_
     rintro _ _ ⟨ps4, rfl⟩
     conv => whnf
     refine PRet.gen (y := .bool (t.ckP level consts codes free scope deep size bound).isSome) (Wk.bool ?_) ⟨rfl, sz5, mb5, delS t.v ms5, pb5, ps4, rfl, fun s b h => ?_⟩
     ·exact right_end (by rw [← List.dropLast_eq_take]; exact hck)
     ·rw [hck] at h
      split at h
      ·cases h
      ·obtain ⟨h1, h2, h3⟩ := hs5 s b h
       exact ⟨h1, h2, by rw [h3, delS_setM _ _ hdj]⟩
  ·have hgr := hc
   rw [if_pos hc] at hr
   have hck := hr
   have hgc : ACallP Tryz.prog 71 [.agg t.cells] (.bool true) := by
    have := group_c t
    rw [hgr] at this
    exact this
   refine PCall.go (bind2p_c c rb rs level consts codes (size + 1) free t.v bound scope pb ps) (WkT.refl _) ?_
   rintro _ _ ⟨rfl, pb3, mb, ms, rfl, hb⟩
   conv => whnf
   repeat' (first|refine aA0 ?_|((refine pC (hgc) wR ?_);conv=>whnf)|(refine zX (fun hc=>?_) (fun hc=>?_)<;>(try simp only [SY] at hc)<;>(conv=>whnf)))
   ·refine PCallD.go (defer_c b5 b6 rs t.op t.n t.v (t.t.map Trm.pv) ms []) (WkT.refl _) ?_
    rintro _ _ ⟨ps4, rfl⟩
    conv => whnf
    have hno : t.ckP level consts codes free scope deep size bound = none := by rw [hck]; split; rfl; exact if_neg (by rw [hc]; simp)
    exact PRet.gen (y := .bool false) (Wk.ff rfl) ⟨by rw [hno]; rfl, (size + 1), mb, delS t.v ms, pb3, ps4, rfl, fun _ _ h => by rw [hno] at h; cases h⟩
   ·have hbt := ‹(bindR t.v bound).1 = true›
    obtain ⟨rfl, rfl⟩ := hb hbt
    rw [if_pos hbt] at hck
    refine PDraw.split2 tt_ok mixed [0, 1, 0, 7, 0, 31, 63, 127, 255, 511, 1023, 2047, 4095, 4095, 12287, 4095, 61439, 131071, 262143, 524287, 1048575] [0, 1, 2, 3, 4] [5] [6, 7, 8, 9, 10, 11, 12, 13, 14, 15, 16, 17, 18, 19, 20] [] [.box c (cpC level consts codes (size + 1) free rb), .mp rb (.int .i64) (setM (bound ++ t.v)) pb3, .mp rs (.int .i64) (setM (scope ++ t.v)) [], .box b4 [.ptr c 0], .box b6 [.mp rs], .box b7 [.int .i64 deep]] (by kernel_rfl) ?_
    conv => whnf
    repeat (refine aR0 ?_)
    have hdj : ∀ x ∈ scope, x ∉ t.v := fun x h h' => bindR_apart hbt x h' (hsub x h)
    refine PCall.go (all2p_c c rb rs b4 b6 b7 level consts codes free (t.t.drop 0) (scope ++ t.v) deep hd0 (by omega) (fun x hx sz bd pb ps h0 h1 h2 => ih x (List.mem_of_mem_drop hx) (scope ++ t.v) (deep + 1) sz bd pb ps (by omega) (by omega) h0 h1 h2 (by have := Trm.bulks_mem (List.mem_of_mem_drop hx); omega)) (size + 1) (bound ++ t.v) pb3 [] (by omega) (by omega) (by intro x h; rw [List.mem_append] at h ⊢; exact h.imp (fun h => hsub x h) id)) (WkT.refl _) ?_
    rintro _ _ ⟨sz5, mb5, ms5, pb5, ps5, rfl, rfl, hs5⟩
    conv => whnf
    repeat (first|refine aR0 ?_|(((((apply zY;intro hg));(conv=>whnf);(repeat ((first|refine PCall.read (procs_c c rb level consts codes sz5 free (t.t.take (t.t.length - 1))) wR ?_|refine aG ?_);conv=>whnf));exact pZ));conv=>whnf))
    refine PCallD.go (defer_c b5 b6 rs t.op t.n t.v (t.t.map Trm.pv) ms5 ps5) (WkT.refl _) ?_
    rintro _ _ ⟨ps4, rfl⟩
    conv => whnf
    refine PRet.gen (y := .bool (t.ckP level consts codes free scope deep size bound).isSome) (Wk.bool ?_) ⟨rfl, sz5, mb5, delS t.v ms5, pb5, ps4, rfl, fun s b h => ?_⟩
    ·exact right_end (by rw [← List.dropLast_eq_take]; exact hck)
    ·rw [hck] at h
     split at h
     ·cases h
     ·obtain ⟨h1, h2, h3⟩ := hs5 s b h
      exact ⟨h1, h2, by rw [h3, delS_setM _ _ hdj]⟩
end Go.Cb
namespace Go.Cb
open Go.Proofs
set_option maxRecDepth 100000
set_option maxHeartbeats 4000000
def Dist (l bound : List Int) : Prop := (∀ x ∈ l, 0 ≤ x ∧ x ≤ 1000000 ∧ x ∉ bound) ∧ l.Nodup
theorem Dist.perm {l m b : List Int} (h : l.Perm m) : Dist l b ↔ Dist m b := by
 unfold Dist
 rw [h.nodup_iff]
 simp only [h.mem_iff]
theorem Dist.append {l m b c : List Int} (h : ∀ x, x ∈ c ↔ x ∈ b ∨ x ∈ l) : Dist (l ++ m) b ↔ Dist l b ∧ Dist m c := by
 unfold Dist
 simp only [List.mem_append, List.nodup_append, h]
 constructor
 ·rintro ⟨h1, h2, h3, h4⟩
  exact ⟨⟨fun x hx => h1 x (.inl hx), h2⟩, fun x hx => ⟨(h1 x (.inr hx)).1, (h1 x (.inr hx)).2.1, by rintro (h | h); exact (h1 x (.inr hx)).2.2 h; exact h4 x h x hx rfl⟩, h3⟩
 ·rintro ⟨⟨h1, h2⟩, h3, h4⟩
  refine ⟨?_, h2, h4, ?_⟩
  ·rintro x (hx | hx)
   ·exact h1 x hx
   ·exact ⟨(h3 x hx).1, (h3 x hx).2.1, fun h => (h3 x hx).2.2 (.inl h)⟩
  ·rintro x hx y hy rfl
   exact (h3 x hy).2.2 (.inr hx)
def Sp (r : Option (Int × List Int)) (c : Prop) (n : Int) (V : List Int) (size : Int) (bound : List Int) : Prop :=
 (r = none ∧ ¬(c ∧ size + n ≤ 20000 ∧ Dist V bound)) ∨ (∃ b, r = some (size + n, b) ∧ (c ∧ size + n ≤ 20000 ∧ Dist V bound) ∧ ∀ x, x ∈ b ↔ x ∈ bound ∨ x ∈ V)
theorem Sp.some_iff {r c n V size bound} (h : Sp r c n V size bound) : r.isSome = true ↔ (c ∧ size + n ≤ 20000 ∧ Dist V bound) := by
 rcases h with ⟨rfl, h⟩ | ⟨b, rfl, h, _⟩
 ·simpa using h
 ·simpa using h
theorem Sp.iff {r c c' n V size bound} (h : Sp r c n V size bound) (hc : c ↔ c') : Sp r c' n V size bound := by
 unfold Sp at h ⊢; rwa [hc] at h
theorem Sp.perm {r c n V W size bound} (h : Sp r c n V size bound) (hp : V.Perm W) : Sp r c n W size bound := by
 unfold Sp at h ⊢; simpa only [Dist.perm hp, hp.mem_iff] using h
theorem Sp.nil {size : Int} {bound : List Int} (h : size ≤ 20000) : Sp (some (size, bound)) True 0 [] size bound :=
 .inr ⟨bound, by simp, ⟨trivial, by omega, by simp [Dist]⟩, by simp⟩
theorem Sp.test {r c n V size bound} {p : Prop} [Decidable p] (h : ¬p → Sp r c n V size bound) : Sp (if p then none else r) (¬p ∧ c) n V size bound := by
 by_cases hp : p
 ·rw [if_pos hp]; exact .inl ⟨rfl, fun h => h.1.1 hp⟩
 ·rw [if_neg hp]; exact (h hp).iff (by simp [hp])
theorem Sp.seq {r1 : Option (Int × List Int)} {f : Int → List Int → Option (Int × List Int)} {c1 c2 : Prop} {n1 n2 : Int} {V1 V2 : List Int} {size : Int} {bound : List Int} (h1 : Sp r1 c1 n1 V1 size bound) (hn : 0 ≤ n2)
  (h2 : ∀ b, size + n1 ≤ 20000 → Sp (f (size + n1) b) c2 n2 V2 (size + n1) b) : Sp (match (generalizing := false) r1 with | none => none | some (s, b) => f s b) (c1 ∧ c2) (n1 + n2) (V1 ++ V2) size bound := by
 rcases h1 with ⟨rfl, h⟩ | ⟨b, rfl, ⟨k1, k2, k3⟩, hb⟩
 ·exact .inl ⟨rfl, fun ⟨⟨g1, g2⟩, g3, g4⟩ => h ⟨g1, by omega, ((Dist.append (c := bound ++ V1) (by simp)).1 g4).1⟩⟩
 ·rcases h2 b k2 with ⟨e, h⟩ | ⟨b', e, ⟨g1, g2, g3⟩, hb'⟩
  ·exact .inl ⟨e, fun ⟨⟨g1, g2⟩, g3, g4⟩ => h ⟨g2, by omega, ((Dist.append hb).1 g4).2⟩⟩
  ·exact .inr ⟨b', by rw [← Int.add_assoc]; exact e, ⟨⟨k1, g1⟩, by omega, (Dist.append hb).2 ⟨k3, g3⟩⟩, fun x => by rw [hb', hb, List.mem_append, or_assoc]⟩
theorem bindR_dist : ∀ (l bound : List Int), (bindR l bound).1 = true ↔ Dist l bound
 | [], bound => by simp [bindR, Dist]
 | v :: l, bound => by
  rw [bindR]
  split
  ·rename_i hv
   rw [bindR_dist l, show v :: l = [v] ++ l from rfl, Dist.append (l := [v]) (c := bound ++ [v]) (by simp)]
   simp [vOk] at hv
   simp [Dist]
   intro _ _
   exact ⟨by omega, by omega, hv.2⟩
  ·rename_i hv
   simp only [Bool.false_eq_true, false_iff]
   rintro ⟨h, _⟩
   have := h v (by simp)
   apply hv
   simp [vOk]
   exact ⟨by omega, this.2.2⟩
theorem bindR_snd : ∀ (l bound : List Int), (bindR l bound).1 = true → (bindR l bound).2 = bound ++ l
 | [], bound, _ => by simp [bindR]
 | v :: l, bound, h => by
  rw [bindR] at h ⊢
  split at h
  ·rename_i hv
   rw [if_pos hv, bindR_snd l _ h]; simp
  ·cases h
theorem Sp.bind {v bound : List Int} {size : Int} {r : Option (Int × List Int)} {c : Prop} {n : Int} {V : List Int} (h : (bindR v bound).1 = true → Sp r c n V size (bound ++ v)) : Sp (if (bindR v bound).1 = true then r else none) c n (v ++ V) size bound := by
 have ha : Dist (v ++ V) bound ↔ Dist v bound ∧ Dist V (bound ++ v) := Dist.append (by simp)
 by_cases hb : (bindR v bound).1 = true
 ·have hd := (bindR_dist _ _).1 hb
  rw [if_pos hb]
  rcases h hb with ⟨rfl, hh⟩ | ⟨b, rfl, ⟨k1, k2, k3⟩, hm⟩
  ·exact .inl ⟨rfl, fun ⟨g1, g2, g3⟩ => hh ⟨g1, g2, (ha.1 g3).2⟩⟩
  ·exact .inr ⟨b, rfl, ⟨k1, k2, ha.2 ⟨hd, k3⟩⟩, fun x => by rw [hm, List.mem_append, List.mem_append, or_assoc]⟩
 ·rw [if_neg hb]
  exact .inl ⟨rfl, fun ⟨_, _, g3⟩ => hb ((bindR_dist _ _).2 (ha.1 g3).1)⟩
theorem Sp.tick {r c n V size bound} (hn : 0 ≤ n) (h : size + 1 ≤ 20000 → Sp r c n V (size + 1) bound) : Sp (if size + 1 > 20000 then none else r) c (1 + n) V size bound := by
 split
 ·exact .inl ⟨rfl, fun ⟨_, h, _⟩ => by omega⟩
 ·rcases h (by omega) with ⟨rfl, hh⟩ | ⟨b, rfl, k, hm⟩
  ·exact .inl ⟨rfl, fun ⟨g1, g2, g3⟩ => hh ⟨g1, by omega, g3⟩⟩
  ·exact .inr ⟨b, by rw [← Int.add_assoc], ⟨k.1, by omega, k.2.2⟩, hm⟩
mutual
def Trm.cnt : Trm → Int
 | .mk _ _ _ t => 1 + Trm.cnts t
def Trm.cnts : List Trm → Int
 | [] => 0
 | x :: xs => Trm.cnt x + Trm.cnts xs
end
mutual
def Trm.vars : Trm → List Int
 | .mk _ _ v t => v ++ Trm.varss t
def Trm.varss : List Trm → List Int
 | [] => []
 | x :: xs => Trm.vars x ++ Trm.varss xs
end
theorem Trm.cnt_eq (t : Trm) : t.cnt = 1 + Trm.cnts t.t := by cases t; rfl
theorem Trm.vars_eq (t : Trm) : t.vars = t.v ++ Trm.varss t.t := by cases t; rfl
theorem Trm.cnt_pos (t : Trm) : 1 ≤ t.cnt := by
 induction t using Trm.ind with
 | h t ih =>
  rw [Trm.cnt_eq]
  have : ∀ l : List Trm, (∀ x ∈ l, 1 ≤ x.cnt) → 0 ≤ Trm.cnts l := by
   intro l
   induction l with
   | nil => intro _; rw [Trm.cnts]; omega
   | cons y l ih => intro h; rw [Trm.cnts]; have := h y (by simp); have := ih fun x hx => h x (by simp [hx]); omega
  have := this t.t ih
  omega
theorem Trm.cnts_pos : ∀ l : List Trm, 0 ≤ Trm.cnts l
 | [] => by rw [Trm.cnts]; omega
 | x :: l => by rw [Trm.cnts]; have := x.cnt_pos; have := Trm.cnts_pos l; omega
mutual
def Trm.okT (level consts codes : Int) (free : Bool) : Trm → List Int → Int → Prop
 | .mk op n v t, scope, deep => (deep ≤ 400 ∧ sortsL op level = true ∧ countsL (.mk op n v t) = true ∧ numberL consts codes free (.mk op n v t) scope = true) ∧ Trm.okTs level consts codes free op scope (scope ++ v) t (deep + 1)
def Trm.okTs (level consts codes : Int) (free : Bool) (op : Int) (scope inner : List Int) : List Trm → Int → Prop
 | [], _ => True
 | x :: xs, deep => (¬(op = 9 ∧ xs ≠ [] ∧ x.op ≠ wantOp level)) ∧ Trm.okT level consts codes free x (if xs = [] ∨ op = 7 ∨ op = 9 then inner else scope) deep ∧ Trm.okTs level consts codes free op scope inner xs deep
end
theorem Trm.okT_eq (level consts codes : Int) (free : Bool) (t : Trm) (scope : List Int) (deep : Int) : t.okT level consts codes free scope deep ↔
  (deep ≤ 400 ∧ sortsL t.op level = true ∧ countsL t = true ∧ numberL consts codes free t scope = true) ∧ Trm.okTs level consts codes free t.op scope (scope ++ t.v) t.t (deep + 1) := by cases t; rw [Trm.okT]; rfl
theorem Trm.ckD_sp (level consts codes : Int) (free : Bool) (t : Trm) : ∀ (scope : List Int) (deep size : Int) (bound : List Int), Sp (t.ckD level consts codes free scope deep size bound) (t.okT level consts codes free scope deep) t.cnt t.vars size bound := by
 induction t using Trm.ind with
 | h t ih =>
  intro scope deep size bound
  have key : ∀ l : List Trm, (∀ y ∈ l, ∀ (scope : List Int) (deep size : Int) (bound : List Int), Sp (y.ckD level consts codes free scope deep size bound) (y.okT level consts codes free scope deep) y.cnt y.vars size bound) →
    ∀ (deep size : Int) (bound : List Int), size ≤ 20000 → Sp (Trm.cksD level consts codes free t.op scope (scope ++ t.v) l deep size bound) (Trm.okTs level consts codes free t.op scope (scope ++ t.v) l deep) (Trm.cnts l) (Trm.varss l) size bound := by
   intro l
   induction l with
   | nil => intro _ deep size bound h; rw [Trm.cksD, Trm.okTs, Trm.cnts, Trm.varss]; exact Sp.nil h
   | cons x l ihl =>
    intro hy deep size bound h
    rw [Trm.cksD, Trm.okTs, Trm.cnts, Trm.varss]
    exact Sp.test fun _ => Sp.seq (hy x (by simp) _ _ _ _) (Trm.cnts_pos l) fun b hb => ihl (fun y hh => hy y (by simp [hh])) _ _ _ hb
  rw [Trm.ckD_eq, Trm.cnt_eq, Trm.vars_eq, Trm.okT_eq]
  have h1 : (if (decide (deep > 400) || decide (size + 1 > 20000) || !sortsL t.op level || !countsL t || !numberL consts codes free t scope) = true then none else
    if (bindR t.v bound).1 = true then Trm.cksD level consts codes free t.op scope (scope ++ t.v) t.t (deep + 1) (size + 1) (bindR t.v bound).2 else none) =
    (if ¬(deep ≤ 400 ∧ sortsL t.op level = true ∧ countsL t = true ∧ numberL consts codes free t scope = true) then none else if size + 1 > 20000 then none else
    if (bindR t.v bound).1 = true then Trm.cksD level consts codes free t.op scope (scope ++ t.v) t.t (deep + 1) (size + 1) (bound ++ t.v) else none) := by
   by_cases a : deep ≤ 400 ∧ sortsL t.op level = true ∧ countsL t = true ∧ numberL consts codes free t scope = true
   ·rw [if_neg (c := ¬ _) (by simpa using a)]
    by_cases b : size + 1 > 20000
    ·rw [if_pos b, if_pos (by simp [b])]
    ·rw [if_neg b, if_neg (by simp [a]; omega)]
     split
     ·rename_i hb; rw [bindR_snd _ _ hb]
     ·rfl
   ·rw [if_pos (c := ¬ _) a, if_pos]
    simp only [Bool.or_eq_true, decide_eq_true_eq, Bool.not_eq_true']
    apply Classical.byContradiction
    intro h
    apply a
    simp only [not_or, Bool.not_eq_false] at h
    exact ⟨by omega, h.1.1.2, h.1.2, h.2⟩
  rw [h1]
  refine (Sp.test fun _ => Sp.tick (Trm.cnts_pos _) fun hs => Sp.bind fun _ => key t.t ih _ _ _ hs).iff ?_
  rw [Classical.not_not]
theorem numberP_eq (consts codes : Int) (free : Bool) (t : Trm) (scope : List Int) : numberP consts codes free t scope = numberL consts codes free t scope := by
 unfold numberP numberL
 split; rfl
 split; rfl
 split
 ·rw [Bool.eq_iff_iff]; simp; omega
 ·rfl
theorem shape_eq (level : Int) (h0 : 0 ≤ level) (h3 : level ≤ 3) (t : Trm) :
  ((shapeL t.op).2 = true ∧ (shapeL t.op).1.fm ≤ level ∧ level ≤ (shapeL t.op).1.to ∧ fitsL (shapeL t.op).1 t = true) ↔ (sortsL t.op level = true ∧ countsL t = true) := by
 have hc : t.op < 0 ∨ t.op > 22 ∨ t.op = 0 ∨ t.op = 1 ∨ t.op = 2 ∨ t.op = 3 ∨ t.op = 4 ∨ t.op = 5 ∨ t.op = 6 ∨ t.op = 7 ∨ t.op = 8 ∨ t.op = 9 ∨ t.op = 10 ∨ t.op = 11 ∨ t.op = 12 ∨ t.op = 13 ∨ t.op = 14 ∨ t.op = 15 ∨ t.op = 16 ∨ t.op = 17 ∨ t.op = 18 ∨ t.op = 19 ∨ t.op = 20 ∨ t.op = 21 ∨ t.op = 22 := by omega
 rcases hc with h | h | h | h | h | h | h | h | h | h | h | h | h | h | h | h | h | h | h | h | h | h | h | h | h
 ·have e : shapeL t.op = (⟨0, 0, 0, false, false⟩, false) := by unfold shapeL; repeat rw [if_neg (by omega)]
  have e2 : sortsL t.op level = false := by unfold sortsL; repeat rw [if_neg (by omega)]
  simp [e, e2]
 ·have e : shapeL t.op = (⟨0, 0, 0, false, false⟩, false) := by unfold shapeL; repeat rw [if_neg (by omega)]
  have e2 : sortsL t.op level = false := by unfold sortsL; repeat rw [if_neg (by omega)]
  simp [e, e2]
 all_goals
  simp [shapeL, sortsL, countsL, fitsL, bindsB, h]
  try (first | omega | (simp only [← List.length_eq_zero_iff]; omega))
def Trm.okG (level consts codes : Int) (free : Bool) (inner : List Int) : List Trm → Int → Prop
 | [], _ => True
 | x :: xs, deep => Trm.okT level consts codes free x inner deep ∧ Trm.okG level consts codes free inner xs deep
theorem Trm.okTs_G {level consts codes : Int} {free : Bool} {op : Int} (hop : op = 7 ∨ op = 9) (scope inner : List Int) (deep : Int) : ∀ l : List Trm, Trm.okTs level consts codes free op scope inner l deep ↔ (¬((op == 9 && !procsL level l.dropLast) = true) ∧ Trm.okG level consts codes free inner l deep)
 | [] => by simp [Trm.okTs, Trm.okG, procsL]
 | [x] => by
  rw [Trm.okTs, Trm.okG, if_pos (.inl rfl)]
  simp [Trm.okTs, Trm.okG, procsL]
 | x :: y :: l => by
  rw [Trm.okTs, Trm.okG, if_pos (.inr hop), Trm.okTs_G hop scope inner deep (y :: l)]
  have e : (op == 9 && !procsL level (x :: y :: l).dropLast) = true ↔ (op = 9 ∧ x.op ≠ wantOp level) ∨ (op == 9 && !procsL level (y :: l).dropLast) = true := by
   rw [show (x :: y :: l).dropLast = x :: (y :: l).dropLast from rfl]
   simp only [procsL, wantOp, Bool.and_eq_true, beq_iff_eq, List.any_cons, Bool.not_not, Bool.or_eq_true, bne_iff_ne]
   constructor
   ·rintro ⟨h1, h2 | h2⟩
    ·exact .inl ⟨h1, h2⟩
    ·exact .inr ⟨h1, h2⟩
   ·rintro (⟨h1, h2⟩ | ⟨h1, h2⟩)
    ·exact ⟨h1, .inl h2⟩
    ·exact ⟨h1, .inr h2⟩
  rw [e]
  constructor
  ·rintro ⟨h1, h2, h3, h4⟩
   exact ⟨fun h => h.elim (fun h => h1 ⟨h.1, by simp, h.2⟩) h3, h2, h4⟩
  ·rintro ⟨h1, h2, h4⟩
   exact ⟨fun h => h1 (.inl ⟨h.1, h.2.2⟩), h2, fun h => h1 (.inr h), h4⟩
theorem Trm.ckP_sp (level consts codes : Int) (free : Bool) (h0 : 0 ≤ level) (h3 : level ≤ 3) (t : Trm) : ∀ (scope : List Int) (deep size : Int) (bound : List Int), Sp (t.ckP level consts codes free scope deep size bound) (t.okT level consts codes free scope deep) t.cnt t.vars size bound := by
 induction t using Trm.ind with
 | h t ih =>
  intro scope deep size bound
  have keyG : ∀ l : List Trm, (∀ y ∈ l, ∀ (scope : List Int) (deep size : Int) (bound : List Int), Sp (y.ckP level consts codes free scope deep size bound) (y.okT level consts codes free scope deep) y.cnt y.vars size bound) →
    ∀ (inner : List Int) (deep size : Int) (bound : List Int), size ≤ 20000 → Sp (Trm.cksG level consts codes free inner l deep size bound) (Trm.okG level consts codes free inner l deep) (Trm.cnts l) (Trm.varss l) size bound := by
   intro l
   induction l with
   | nil => intro _ inner deep size bound h; rw [Trm.cksG, Trm.okG, Trm.cnts, Trm.varss]; exact Sp.nil h
   | cons x l ihl =>
    intro hy inner deep size bound h
    rw [Trm.cksG, Trm.okG, Trm.cnts, Trm.varss]
    exact Sp.seq (hy x (by simp) _ _ _ _) (Trm.cnts_pos l) fun b hb => ihl (fun y hh => hy y (by simp [hh])) _ _ _ _ hb
  have keyI : t.op ≠ 7 → t.op ≠ 9 → ∀ l : List Trm, (∀ y ∈ l, ∀ (scope : List Int) (deep size : Int) (bound : List Int), Sp (y.ckP level consts codes free scope deep size bound) (y.okT level consts codes free scope deep) y.cnt y.vars size bound) →
    ∀ (deep size : Int) (bound : List Int), size ≤ 20000 → Sp (Trm.cksI level consts codes free scope t.v l deep size bound) (Trm.okTs level consts codes free t.op scope (scope ++ t.v) l deep) (Trm.cnts l) (t.v ++ Trm.varss l) size bound := by
   intro h7 h9 l
   induction l with
   | nil => intro _ deep size bound h; rw [Trm.cksI, Trm.okTs, Trm.cnts, Trm.varss]; exact Sp.bind fun _ => Sp.nil h
   | cons x l ihl =>
    intro hy deep size bound h
    rw [Trm.cksI, Trm.okTs, Trm.cnts, Trm.varss]
    cases l with
    | nil =>
     rw [if_pos (show ([] : List Trm).isEmpty = true from rfl), if_pos (show ([] : List Trm) = [] ∨ t.op = 7 ∨ t.op = 9 from .inl rfl), Trm.cnts, Trm.varss, List.append_nil, Int.add_zero]
     exact (Sp.bind fun _ => hy x (by simp) _ _ _ _).iff (by simp [h9, Trm.okTs])
    | cons y l =>
     rw [if_neg (show ¬((y :: l).isEmpty = true) by simp), if_neg (show ¬((y :: l) = [] ∨ t.op = 7 ∨ t.op = 9) by simp [h7, h9])]
     refine ((Sp.seq (hy x (by simp) _ _ _ _) (Trm.cnts_pos (y :: l)) fun b hb => ihl (fun y hh => hy y (by simp [hh])) _ _ _ hb).iff (by simp [h9])).perm ?_
     rw [← List.append_assoc, ← List.append_assoc]
     exact List.perm_append_comm.append_right _
  rw [Trm.ckP_eq, Trm.cnt_eq, Trm.vars_eq, Trm.okT_eq]
  have hsh := shape_eq level h0 h3 t
  have hloc : (deep ≤ 400 ∧ sortsL t.op level = true ∧ countsL t = true ∧ numberL consts codes free t scope = true) ↔ (deep ≤ 400 ∧ ((shapeL t.op).2 = true ∧ (shapeL t.op).1.fm ≤ level ∧ level ≤ (shapeL t.op).1.to ∧ fitsL (shapeL t.op).1 t = true) ∧ numberP consts codes free t scope = true) := by
   rw [hsh, numberP_eq, and_assoc]
  have hb : ∀ r : Option (Int × List Int), (if badP level consts codes free t scope deep (size + 1) = true then none else r) =
    (if ¬(deep ≤ 400 ∧ sortsL t.op level = true ∧ countsL t = true ∧ numberL consts codes free t scope = true) then none else if size + 1 > 20000 then none else r) := by
   intro r
   by_cases a : deep ≤ 400 ∧ sortsL t.op level = true ∧ countsL t = true ∧ numberL consts codes free t scope = true
   ·rw [if_neg (c := ¬ _) (by simpa using a)]
    have a' := hloc.1 a
    by_cases b : size + 1 > 20000
    ·rw [if_pos b, if_pos (by simp [badP, b])]
    ·rw [if_neg b, if_neg (by simp [badP, a']; omega)]
   ·rw [if_pos (c := ¬ _) a, if_pos]
    simp only [badP, Bool.or_eq_true, decide_eq_true_eq, Bool.not_eq_true']
    apply Classical.byContradiction
    intro h
    apply a
    rw [hloc]
    simp only [not_or, Bool.not_eq_false] at h
    exact ⟨by omega, ⟨h.1.1.1.1.1.1, by omega, by omega, h.1.2⟩, h.2⟩
  rw [hb]
  by_cases hg : groupB t.op = true
  ·have hop : t.op = 7 ∨ t.op = 9 := by simpa [groupB] using hg
   rw [if_pos hg]
   refine (Sp.test fun _ => Sp.tick (Trm.cnts_pos _) fun hs => Sp.test fun _ => Sp.bind fun _ => keyG t.t ih _ _ _ _ hs).iff ?_
   rw [Classical.not_not, Trm.okTs_G hop]
  ·have hop : t.op ≠ 7 ∧ t.op ≠ 9 := by simpa [groupB] using hg
   rw [if_neg hg]
   refine (Sp.test fun _ => Sp.tick (Trm.cnts_pos _) fun hs => keyI hop.1 hop.2 t.t ih _ _ _ hs).iff ?_
   rw [Classical.not_not]
theorem ck_eq (level consts codes : Int) (free : Bool) (h0 : 0 ≤ level) (h3 : level ≤ 3) (t : Trm) (scope : List Int) (deep size : Int) (bound : List Int) :
  (t.ckP level consts codes free scope deep size bound).isSome = (t.ckD level consts codes free scope deep size bound).isSome := by
 rw [Bool.eq_iff_iff, (t.ckP_sp level consts codes free h0 h3 scope deep size bound).some_iff, (t.ckD_sp level consts codes free scope deep size bound).some_iff]
end Go.Cb
namespace Go.Cb
open Go.Proofs
set_option maxRecDepth 100000
set_option maxHeartbeats 4000000
theorem digN_all {a : List UInt8} (r : List UInt8) (h : a.all isDig = true) : digN (a ++ r) = a.length + digN r := by
 induction a with
 | nil => simp
 | cons c a ih =>
  simp only [List.all_cons, Bool.and_eq_true] at h
  rw [List.cons_append, digN, if_pos h.1, ih h.2, List.length_cons]; omega
theorem digN_not {a : List UInt8} (r : List UInt8) (h : a.all isDig = false) : ∃ c, a[digN (a ++ r)]? = some c ∧ isDig c = false ∧ digN (a ++ r) < a.length := by
 induction a with
 | nil => simp at h
 | cons c a ih =>
  rw [List.cons_append, digN]
  by_cases hc : isDig c = true
  ·rw [List.all_cons, hc, Bool.true_and] at h
   obtain ⟨x, h1, h2, h3⟩ := ih h
   rw [if_pos hc]
   exact ⟨x, by simpa using h1, h2, by simp; exact h3⟩
  ·rw [if_neg hc]
   exact ⟨c, by simp, by simpa using hc, by simp⟩
theorem natB_part (a : List UInt8) : natB a = true ↔ ((partN a).2 ≠ 0 ∧ (partN a).2 = a.length) := by
 unfold natB partN
 cases h : a.all isDig
 ·obtain ⟨c, h1, h2, h3⟩ := digN_not [] h
  rw [List.append_nil] at h3
  simp only [Bool.and_false, Bool.false_eq_true, false_iff]
  split
  ·simp
  ·rintro ⟨_, h⟩; simp only at h; omega
 ·have hd := digN_all [] h
  rw [List.append_nil] at hd
  simp only [digN] at hd
  simp only [Bool.and_true, Bool.and_eq_true, decide_eq_true_eq]
  split
  ·simp; omega
  ·simp; omega
theorem natV_part {a : List UInt8} (h : natB a = true) : natV a = (partN a).1 := by
 have h2 := (natB_part a).1 h
 unfold natV
 rw [if_pos h]
 unfold partN at h2 ⊢
 split at h2
 ·simp at h2
 ·rename_i hd
  rw [if_neg hd]
  simp only at h2
  rw [h2.2, List.take_length]
theorem cut_cases (u : List UInt8) : (Go.Lib.indexByte u 47 < 0 ∧ cutA u 47 = u ∧ (47 : UInt8) ∉ u) ∨ (∃ a b, u = a ++ 47 :: b ∧ 0 ≤ Go.Lib.indexByte u 47 ∧ cutA u 47 = a ∧ cutB u 47 = b ∧ (47 : UInt8) ∉ a) := by
 induction u with
 | nil => left; simp [Go.Lib.indexByte, cutA]
 | cons c u ih =>
  by_cases h : c = 47
  ·subst h
   right
   have e : Go.Lib.indexByte (47 :: u) 47 = 0 := by simp [Go.Lib.indexByte]
   exact ⟨[], u, rfl, by omega, by simp [cutA, e], by simp [cutB, e], by simp⟩
  ·have h1 : (c == 47) = false := by simp [h]
   rcases ih with ⟨h2, h3, h4⟩ | ⟨a, b, rfl, h2, h3, h4, h5⟩
   ·have e : Go.Lib.indexByte (c :: u) 47 = -1 := by have := Go.Lib.indexByte_ge u 47; rw [Go.Lib.indexByte, h1]; simp; omega
    exact .inl ⟨by omega, by simp [cutA, e], by simp; exact ⟨fun e => h e.symm, h4⟩⟩
   ·have e : Go.Lib.indexByte (c :: (a ++ 47 :: b)) 47 = Go.Lib.indexByte (a ++ 47 :: b) 47 + 1 := by rw [Go.Lib.indexByte, h1]; simp; omega
    refine .inr ⟨c :: a, b, rfl, by omega, ?_, ?_, by simp; exact ⟨fun e => h e.symm, h5⟩⟩
    ·unfold cutA at h3 ⊢
     rw [if_pos h2] at h3
     rw [if_pos (by omega), e, show (Go.Lib.indexByte (a ++ 47 :: b) 47 + 1).toNat = (Go.Lib.indexByte (a ++ 47 :: b) 47).toNat + 1 by omega, List.take_succ_cons, h3]
    ·unfold cutB at h4 ⊢
     rw [if_pos h2] at h4
     rw [if_pos (by omega), e, show (Go.Lib.indexByte (a ++ 47 :: b) 47 + 1).toNat = (Go.Lib.indexByte (a ++ 47 :: b) 47).toNat + 1 by omega, List.drop_succ_cons, h4]
theorem isDig47 : isDig 47 = false := by decide
theorem parse_eq (s : List UInt8) : parseP s = parseN s := by
 have hu : (if negB s = true then s.drop 1 else s) = unneg s := rfl
 unfold parseP
 simp only [hu]
 rw [parseN_eq]
 generalize unneg s = u
 rcases cut_cases u with ⟨hi, ha, hn⟩ | ⟨a, b, rfl, hi, ha, hb, hn⟩
 ·rw [ha, if_neg (show ¬(0 ≤ Go.Lib.indexByte u 47) by omega)]
  have h49 : natB [49] = true := by decide
  have h49v : natV [49] = 1 := by decide
  rw [h49, h49v, Bool.and_true]
  cases hall : u.all isDig
  ·obtain ⟨c, h1, h2, h3⟩ := digN_not [] hall
   rw [List.append_nil] at h1 h3
   have hnb : natB u = false := by unfold natB; rw [hall]; simp
   rw [hnb]
   simp only [Bool.false_eq_true, if_false]
   unfold partN
   split
   ·rfl
   ·rename_i h10
    simp only
    split
    ·rfl
    ·have : lowerN u (digN u) = none := by
      unfold lowerN
      rw [if_pos h3, if_neg]
      rintro ⟨h, _⟩
      rw [h1] at h
      cases h
      exact hn (List.mem_of_getElem? h1)
     rw [this]
  ·have hd := digN_all [] hall
   rw [List.append_nil] at hd
   simp only [digN, Nat.add_zero] at hd
   by_cases hnb : natB u = true
   ·have hp := (natB_part u).1 hnb
    rw [hnb, if_pos rfl, if_neg hp.1, natV_part hnb]
    have : lowerN u (partN u).2 = some 1 := by unfold lowerN; rw [if_neg (by omega)]
    rw [this]
   ·have : (partN u).2 = 0 := by
     have := mt (natB_part u).2 hnb
     unfold partN at this ⊢
     split at this
     ·rename_i h; rw [if_pos h]
     ·rename_i h; rw [if_neg h]; simp only at this ⊢; omega
    rw [if_neg hnb, if_pos this]
 ·rw [ha, hb, if_pos hi]
  have h47 : digN (47 :: b) = 0 := by rw [digN, isDig47]; rfl
  cases hall : a.all isDig
  ·obtain ⟨c, h1, h2, h3⟩ := digN_not (47 :: b) hall
   have hnb : natB a = false := by unfold natB; rw [hall]; simp
   rw [hnb]
   simp only [Bool.false_and, Bool.false_eq_true, if_false]
   unfold partN
   split
   ·rfl
   ·simp only
    split
    ·rfl
    ·have : lowerN (a ++ 47 :: b) (digN (a ++ 47 :: b)) = none := by
      unfold lowerN
      rw [if_pos (by simp; omega), if_neg]
      rintro ⟨h, _⟩
      rw [List.getElem?_append_left h3, h1] at h
      cases h
      exact hn (List.mem_of_getElem? h1)
     rw [this]
  ·have hd := digN_all (47 :: b) hall
   rw [h47, Nat.add_zero] at hd
   by_cases hnb : natB a = true
   ·have hp := (natB_part a).1 hnb
    have hl : 1 ≤ a.length ∧ a.length ≤ 10 := by
     unfold natB at hnb; simp only [Bool.and_eq_true, decide_eq_true_eq] at hnb; exact ⟨hnb.1, hnb.2.1⟩
    have hpu : partN (a ++ 47 :: b) = (natV a, a.length) := by
     unfold partN natV
     rw [hd, if_neg (by omega), if_pos hnb, List.take_left]
    rw [hpu]
    simp only
    rw [if_neg (show ¬(a.length = 0) by omega), hnb, Bool.true_and]
    have hlo : lowerN (a ++ 47 :: b) a.length = if natB b = true then some (natV b) else none := by
     unfold lowerN
     rw [if_pos (by simp)]
     have e1 : (a ++ 47 :: b)[a.length]? = some 47 := by simp
     have e2 : (a ++ 47 :: b).drop (a.length + 1) = b := by rw [List.drop_append]; simp
     rw [e1, e2]
     by_cases hb' : natB b = true
     ·have := (natB_part b).1 hb'
      rw [if_pos hb', natV_part hb', if_pos ⟨rfl, this.1, by simp; omega⟩]
     ·rw [if_neg hb', if_neg]
      rintro ⟨_, g1, g2⟩
      exact hb' ((natB_part b).2 ⟨g1, by simp at g2; omega⟩)
    rw [hlo]
    by_cases hb' : natB b = true
    ·rw [if_pos hb', if_pos hb']
    ·rw [if_neg hb', if_neg hb']
   ·have : (partN (a ++ 47 :: b)).2 = 0 := by
     unfold partN
     rw [hd]
     split
     ·rfl
     ·simp only
      unfold natB at hnb
      rw [hall] at hnb
      simp only [Bool.and_true, Bool.and_eq_true, decide_eq_true_eq] at hnb
      omega
    rw [if_pos this, show natB a = false by simpa using hnb]
    rfl
theorem marks_eq : marksPL.contains = markB := by
 funext c
 simp only [markB, baseB, marksL, marksPL, List.contains_cons, List.contains_nil, Bool.or_false]
 rw [Bool.eq_iff_iff]
 simp only [Bool.or_eq_true, beq_iff_eq, Bool.and_eq_true, decide_eq_true_eq, ← UInt8.toNat_inj]
 simp
 omega
theorem name_eq (s : List UInt8) : namePB s = nameB s := by
 unfold namePB nameB
 rw [parse_eq, marks_eq]
 have ht : ((trimR markB s).dropWhile markB == []) = s.all markB := by
  rw [Bool.eq_iff_iff, beq_iff_eq, trim_nil]
 rw [ht]
 by_cases hs : s = []
 ·subst hs; simp
 ·have hl := List.length_pos_iff.2 hs
  cases s.all markB <;> cases (parseN s).2.2 <;> rw [Bool.eq_iff_iff] <;> simp [hs] <;> omega
theorem name_str {s : List UInt8} (h : nameB s = true) : s.any strB = false := by
 simp only [nameB, Bool.and_eq_true] at h
 rw [List.any_eq_false]
 intro c hc
 have hm := List.all_eq_true.1 h.2.2.1 c hc
 rw [← marks_eq] at hm
 simp only [marksPL, List.contains_cons, List.contains_nil, Bool.or_false, Bool.or_eq_true, beq_iff_eq, ← UInt8.toNat_inj] at hm
 simp only [strB, Bool.or_eq_true, decide_eq_true_eq]
 simp at hm ⊢
 omega
theorem bare_eq (d : Datum) (deep : Int) : bareBadP d deep = bareBad d deep := by
 obtain ⟨k, n, e, s, l⟩ := d
 have hn := name_eq s
 have hs := @name_str s
 have hz : s = [] → s.any strB = false := fun h => by rw [h]; rfl
 unfold bareBadP bareBad
 simp only [Datum.kind, Datum.n, Datum.d, Datum.s, Datum.l, bareL]
 generalize s.any strB = B at *
 have hc : k < 0 ∨ k > 7 ∨ k = 0 ∨ k = 1 ∨ k = 2 ∨ k = 3 ∨ k = 4 ∨ k = 5 ∨ k = 6 ∨ k = 7 := by omega
 rcases hc with h | h | h | h | h | h | h | h | h | h
 ·simp [h, show ¬k = 0 by omega, show ¬k = 1 by omega, show ¬k = 2 by omega, show ¬k = 3 by omega, show ¬k = 4 by omega, show ¬k = 5 by omega, show ¬k = 6 by omega, show ¬k = 7 by omega]
 ·simp [h, show ¬k = 0 by omega, show ¬k = 1 by omega, show ¬k = 2 by omega, show ¬k = 3 by omega, show ¬k = 4 by omega, show ¬k = 5 by omega, show ¬k = 6 by omega, show ¬k = 7 by omega]
 all_goals
  subst h
  rw [Bool.eq_iff_iff]
  simp
  grind
theorem right_eq (d : Datum) : ∀ deep : Int, d.rightP deep = d.rightD deep := by
 induction d using Datum.ind with
 | h d ih =>
  intro deep
  rw [Datum.rightP_eq, Datum.rightD_eq, bare_eq]
  congr 1
  have : ∀ l : List Datum, (∀ y ∈ l, ∀ deep : Int, y.rightP deep = y.rightD deep) → ∀ deep, Datum.rightPs l deep = Datum.rightDs l deep := by
   intro l
   induction l with
   | nil => intro _ deep; rw [Datum.rightPs, Datum.rightDs]
   | cons x l ihl => intro hy deep; rw [Datum.rightPs, Datum.rightDs, hy x (by simp), ihl fun y h => hy y (by simp [h])]
  exact this d.l ih _
end Go.Cb
namespace Go.Cb
open Go.Proofs
set_option maxRecDepth 100000
set_option maxHeartbeats 4000000
theorem constants1p_c (d : Datum) : ACall Tryz.prog 66 [.agg d.cells] [] (fun y Γ' => y = .bool (!d.rightP 0) ∧ Γ' = []) := by
 refine ACall.of_body tt_ok Tryz.func66 rfl rfl (n := 6) rfl rfl ?_
 conv => whnf
 repeat' (first|refine aA0 ?_|((first|refine pC (rightP_c d) wR ?_|intro _);conv=>whnf)|(refine zX (fun hc=>?_) (fun hc=>?_)<;>(try simp only [SY] at hc)<;>omega))
 exact PRet.gen (Wk.refl _) ⟨rfl, rfl⟩
theorem constantsp_c (l : List Datum) : ACallP Tryz.prog 38 [.sl 5 (l.map Datum.pv) none] (.bool (l.all fun d => d.rightP 0)) := by
 refine ACall.of_body tt_ok Tryz.func38 rfl rfl (n := 6) rfl rfl ?_
 conv => whnf
 skip
 refine PCall.go (containsFuncDat_c 66 [] [] (fun d => !d.rightP 0) l (fun d _ => constants1p_c d)) (WkT.refl _) ?_
 rintro _ _ ⟨rfl, rfl⟩
 conv => whnf
 skip
 exact PRet.pure (Wk.bool (by rw [List.not_any_eq_all_not]; simp))
theorem setM_nil : (fun (_ : Value) => (none : Option PV)) = setM [] := by
 funext v; unfold setM; split <;> simp
def checkP (p : Prog) (level : Int) : Int :=
 if (decide (level < 0) || decide (level ≥ 3)) = true then 1 else
 if (p.consts.all (fun d => d.rightP 0) && (p.body.ckP level p.consts.length 0 false [] 0 0 []).isSome) = true then 0 else 5
theorem checkp_c (p : Prog) (level : Int) (hb : p.body.bulk ≤ 1000000000) (hl : p.consts.length ≤ 1000000000) : ACallP Tryz.prog 23 [.agg p.cells, .int .i64 level] (.int .i64 (checkP p level)) := by
 have hs : checkP p level = checkP p level := rfl
 conv at hs => rhs; unfold checkP
 refine ACall.of_body tt_ok Tryz.func23 rfl rfl (n := 31) rfl rfl ?_
 conv => whnf
 repeat' (first|refine aA0 ?_|((first|refine pC (constantsp_c _) wR ?_|intro _);conv=>whnf)|(refine zX (fun hc=>?_) (fun hc=>?_)<;>(try simp only [SY] at hc)<;>(conv=>whnf)))
 ·rw [hs, if_pos (by simp only [SS]; exact hc)]
  exact PRet.pure (Wk.refl _)
 ·refine PGuard.ways (fun hg => ?_) (fun hg => ?_)
  ·conv => whnf
   conv => whnf
   repeat (first|refine aR0 ?_|((intro _);conv=>whnf))
   rename_i b1 r1 b2 r2
   have hall : (p.consts.all fun d => d.rightP 0) = true := by simpa using hg
   have hcall := rightp_c b2 r1 r2 level p.consts.length 0 false p.body [] 0 0 [] [] [] (by omega) (by omega) (by omega) (by omega) (by simp) hb
   rw [← setM_nil] at hcall
   refine PCall.goG (Ghost.box (b := b2) (cs := [.int .i64 level, .int .i64 p.consts.length, .int .i64 0, .bfalse, .int .i64 0, .mp r1]) (cs' := cpC level p.consts.length 0 0 false r1) wA) hcall (WkT.refl _) ?_
   rintro _ _ ⟨rfl, sz, mb, ms, pb, ps, rfl, hs2⟩
   conv => whnf
   repeat' ((refine zX (fun hc=>?_) (fun hc=>?_)<;>(try simp only [SY] at hc)<;>(conv=>whnf)))
   ·rw [hs, if_neg (by simp only [SS]; omega), if_neg (by rw [hc, hall]; simp)]
    exact PRet.pure (Wk.refl _)
   ·rw [hs, if_neg (by simp only [SS]; omega), if_pos (by rw [hc, hall]; rfl)]
    exact PRet.pure (Wk.refl _)
  ·conv => whnf
   rw [hs, if_neg (by simp only [SS]; omega), if_neg (by simp only [Bool.not_not] at hg; rw [hg]; simp)]
   exact PRet.pure (Wk.refl _)
end Go.Cb
namespace Go.Cb
open Go.Proofs
set_option maxRecDepth 100000
set_option maxHeartbeats 4000000
theorem check_eq (p : Prog) (level : Int) : checkP p level = checkD p level := by
 unfold checkP checkD
 have hr : (fun d : Datum => d.rightP 0) = fun d => d.rightD 0 := by funext d; exact right_eq d 0
 by_cases h : (decide (level < 0) || decide (level > 2)) = true
 ·rw [if_pos h, if_pos (by simp at h ⊢; omega)]
 ·rw [if_neg h, if_neg (by simp at h ⊢; omega), hr, ck_eq _ _ _ _ (by simp at h; omega) (by simp at h; omega)]
end Go.Cb
namespace Go.Cb
open Go.Proofs
set_option maxRecDepth 100000
set_option maxHeartbeats 4000000
def RightP (p : Prog) (level : Int) : Prop :=
 (0 ≤ level ∧ level ≤ 2) ∧ (∀ d ∈ p.consts, d.rightD 0 = true) ∧ p.body.okT level p.consts.length 0 false [] 0 ∧ p.body.cnt ≤ 20000 ∧ Dist p.body.vars []
theorem checkD_right (p : Prog) (level : Int) : checkD p level = 0 ↔ RightP p level := by
 unfold checkD RightP
 have h := (p.body.ckD_sp level p.consts.length 0 false [] 0 0 []).some_iff
 by_cases hl : (decide (level < 0) || decide (level > 2)) = true
 ·rw [if_pos hl]
  simp at hl
  constructor
  ·intro h; cases h
  ·rintro ⟨h, _⟩; omega
 ·rw [if_neg hl]
  simp at hl
  split
  ·rename_i hr
   simp only [Bool.and_eq_true, List.all_eq_true, h] at hr
   exact ⟨fun _ => ⟨by omega, hr.1, hr.2.1, by omega, hr.2.2.2⟩, fun _ => rfl⟩
  ·rename_i hr
   simp only [Bool.and_eq_true, List.all_eq_true, h] at hr
   exact ⟨fun h => (by cases h), fun ⟨_, h1, h2, h3, h4⟩ => absurd ⟨h1, h2, by omega, h4⟩ hr⟩
mutual
def Trm.gre : Trm → Int
 | .mk op n _ t => Trm.gres t (if op = 0 then n else -1)
def Trm.gres : List Trm → Int → Int
 | [], m => m
 | x :: xs, m => Trm.gres xs (max m (Trm.gre x))
end
theorem Trm.gre_eq (t : Trm) : t.gre = Trm.gres t.t (if t.op = 0 then t.n else -1) := by cases t; rw [Trm.gre]; rfl
theorem Trm.gres_lt (c : Int) : ∀ (l : List Trm) (m : Int), Trm.gres l m < c ↔ m < c ∧ ∀ x ∈ l, x.gre < c
 | [], m => by simp [Trm.gres]
 | x :: l, m => by
  rw [Trm.gres, Trm.gres_lt c l]
  simp only [List.forall_mem_cons]
  constructor
  ·rintro ⟨h1, h2⟩; exact ⟨by omega, by omega, h2⟩
  ·rintro ⟨h1, h2, h3⟩; exact ⟨by omega, h3⟩
theorem numberL_other (c1 c2 codes : Int) (free : Bool) (t : Trm) (scope : List Int) (h : t.op ≠ 0) : numberL c1 codes free t scope = numberL c2 codes free t scope := by
 unfold numberL
 rw [if_neg h, if_neg h]
theorem Trm.okT_consts (level codes : Int) (free : Bool) (c1 c2 : Int) (h2 : 0 ≤ c2) (t : Trm) : ∀ (scope : List Int) (deep : Int), t.okT level c1 codes free scope deep → (t.okT level c2 codes free scope deep ↔ t.gre < c2) := by
 induction t using Trm.ind with
 | h t ih =>
  intro scope deep h
  have key : ∀ (op : Int) (sc inner : List Int) (deep : Int) (l : List Trm), (∀ y ∈ l, ∀ (scope : List Int) (deep : Int), y.okT level c1 codes free scope deep → (y.okT level c2 codes free scope deep ↔ y.gre < c2)) →
    Trm.okTs level c1 codes free op sc inner l deep → (Trm.okTs level c2 codes free op sc inner l deep ↔ ∀ x ∈ l, x.gre < c2) := by
   intro op sc inner deep l
   induction l with
   | nil => intro _ _; simp [Trm.okTs]
   | cons x l ihl =>
    intro hy hk
    rw [Trm.okTs] at hk
    rw [Trm.okTs, List.forall_mem_cons, hy x (by simp) _ _ hk.2.1, ihl (fun y hh => hy y (by simp [hh])) hk.2.2]
    simp only [hk.1, not_false_eq_true, true_and]
  rw [Trm.okT_eq] at h
  rw [Trm.okT_eq, Trm.gre_eq, Trm.gres_lt, key _ _ _ _ _ ih h.2]
  obtain ⟨⟨g1, g2, g3, g4⟩, _⟩ := h
  have hn : numberL c2 codes free t scope = true ↔ (if t.op = 0 then t.n else -1) < c2 := by
   by_cases h0 : t.op = 0
   ·rw [if_pos h0]
    unfold numberL at g4 ⊢
    rw [if_pos h0] at g4 ⊢
    simp at g4 ⊢
    omega
   ·rw [if_neg h0, numberL_other c2 c1 codes free t scope h0]
    simp only [g4, true_iff]
    omega
  rw [hn]
  simp only [g1, g2, g3, true_and]
theorem RightP.consts {p : Prog} {level : Int} (h : RightP p level) (cs : List Datum) (hc : ∀ d ∈ cs, d.rightD 0 = true) : RightP ⟨cs, p.body⟩ level ↔ p.body.gre < cs.length := by
 obtain ⟨h1, h2, h3, h4, h5⟩ := h
 unfold RightP
 simp only [h1, true_and, h4, h5, and_true]
 rw [Trm.okT_consts level 0 false p.consts.length cs.length (by omega) p.body [] 0 h3]
 simp [h1.1, h1.2]
 exact fun _ => hc
theorem RightP.gre {p : Prog} {level : Int} (h : RightP p level) : p.body.gre < p.consts.length := (h.consts p.consts h.2.1).1 h
end Go.Cb
namespace Go.Cb
open Go.Proofs
set_option maxRecDepth 100000
set_option maxHeartbeats 4000000
def Trm.fit (t : Trm) : Prop := t.cnt ≤ 20000 ∧ t.vars.length ≤ 100000000
theorem Trm.cnts_len : ∀ l : List Trm, (l.length : Int) ≤ Trm.cnts l
 | [] => by rw [Trm.cnts]; simp
 | x :: l => by rw [Trm.cnts, List.length_cons]; have := x.cnt_pos; have := Trm.cnts_len l; omega
theorem Trm.cnts_mem : ∀ {l : List Trm} {x : Trm}, x ∈ l → x.cnt ≤ Trm.cnts l
 | y :: l, x, h => by
  rw [Trm.cnts]
  have h1 := y.cnt_pos
  have h2 := Trm.cnts_pos l
  rcases List.mem_cons.1 h with rfl | h
  ·omega
  ·have := Trm.cnts_mem h
   omega
theorem Trm.varss_mem : ∀ {l : List Trm} {x : Trm}, x ∈ l → x.vars.length ≤ (Trm.varss l).length
 | y :: l, x, h => by
  rw [Trm.varss, List.length_append]
  rcases List.mem_cons.1 h with rfl | h
  ·omega
  ·have := Trm.varss_mem h
   omega
theorem Trm.fit.mem {t x : Trm} (h : t.fit) (hx : x ∈ t.t) : x.fit := by
 have h1 := h.1
 have h2 := h.2
 rw [Trm.cnt_eq] at h1
 rw [Trm.vars_eq, List.length_append] at h2
 have := Trm.cnts_mem hx
 have := Trm.varss_mem hx
 exact ⟨by omega, by omega⟩
theorem Trm.fit.len {t : Trm} (h : t.fit) : t.t.length ≤ 20000 ∧ t.v.length ≤ 100000000 := by
 have h1 := h.1
 have h2 := h.2
 rw [Trm.cnt_eq] at h1
 rw [Trm.vars_eq, List.length_append] at h2
 have := Trm.cnts_len t.t
 exact ⟨by omega, by omega⟩
def EnvOk (D : Nat → Prop) (e : EnvM) (scope : List Int) : Prop := ∀ v ∈ scope, ∃ a, fndM e v = some a ∧ D a
theorem EnvOk.mono {D D' : Nat → Prop} {e : EnvM} {scope : List Int} (hD : ∀ a, D a → D' a) (h : EnvOk D e scope) : EnvOk D' e scope := fun v hv => by
 obtain ⟨a, h1, h2⟩ := h v hv
 exact ⟨a, h1, hD a h2⟩
theorem EnvOk.cons {D : Nat → Prop} {e : EnvM} {scope : List Int} {v : Int} {a : Nat} (ha : D a) (h : EnvOk D e scope) : EnvOk D ((v, a) :: e) (scope ++ [v]) := fun w hw => by
 rw [fndM]
 by_cases hv : v = w
 ·rw [if_pos hv]
  exact ⟨a, rfl, ha⟩
 ·rw [if_neg hv]
  rcases List.mem_append.1 hw with hw | hw
  ·exact h w hw
  ·exact absurd (List.mem_singleton.1 hw).symm hv
theorem EnvOk.ext {D : Nat → Prop} : ∀ {vs : List Int} {az : List Nat} {e : EnvM} {scope : List Int}, az.length = vs.length → (∀ a ∈ az, D a) → EnvOk D e scope → EnvOk D (extM e vs az) (scope ++ vs)
 | [], az, e, scope, _, _, h => by
  rw [List.append_nil]
  cases az <;> exact h
 | v :: vs, [], _, _, hl, _, _ => by simp at hl
 | v :: vs, a :: az, e, scope, hl, ha, h => by
  rw [extM, show scope ++ v :: vs = (scope ++ [v]) ++ vs by simp]
  exact EnvOk.ext (by simpa using hl) (fun b hb => ha b (List.mem_cons_of_mem _ hb)) (h.cons (ha a (List.mem_cons_self ..)))
def TE (lv cs : Int) (D : Nat → Prop) (t : Trm) (e : EnvM) : Prop := ∃ scope deep, Trm.okT lv cs 0 false t scope deep ∧ EnvOk D e scope ∧ t.fit
theorem TE.mono {lv cs : Int} {D D' : Nat → Prop} {t : Trm} {e : EnvM} (hD : ∀ a, D a → D' a) (h : TE lv cs D t e) : TE lv cs D' t e := by
 obtain ⟨scope, deep, h1, h2, h3⟩ := h
 exact ⟨scope, deep, h1, h2.mono hD, h3⟩
theorem okTs_get {lv cs codes : Int} {free : Bool} {op : Int} {scope inner : List Int} : ∀ {l : List Trm} {deep : Int}, Trm.okTs lv cs codes free op scope inner l deep → ∀ i (h : i < l.length),
  Trm.okT lv cs codes free l[i] (if i + 1 = l.length ∨ op = 7 ∨ op = 9 then inner else scope) deep ∧ (op = 9 → i + 1 < l.length → l[i].op = wantOp lv)
 | x :: xs, deep, hk, i, h => by
  rw [Trm.okTs] at hk
  obtain ⟨h1, h2, h3⟩ := hk
  match i, h with
  | 0, _ =>
   refine ⟨?_, fun h9 hi => ?_⟩
   ·cases xs with
    | nil => simpa using h2
    | cons y ys => simpa using h2
   ·cases xs with
    | nil => simp at hi
    | cons y ys => exact Decidable.byContradiction fun hc => h1 ⟨h9, by simp, hc⟩
  | i + 1, h =>
   have := okTs_get h3 i (by simpa using h)
   refine ⟨?_, fun h9 hi => this.2 h9 (by simpa using hi)⟩
   have e : (i + 1 + 1 = (x :: xs).length) ↔ (i + 1 = xs.length) := by simp
   have h' := this.1
   rw [List.getElem_cons_succ]
   simp only [e]
   exact h'
section
variable {lv cs : Int} {D : Nat → Prop} {t : Trm} {e : EnvM} (h : TE lv cs D t e) (h2 : 0 ≤ lv ∧ lv ≤ 2)
include h
theorem TE.op : (t.op = 0 ∨ t.op = 1 ∨ t.op = 2 ∨ t.op = 3 ∨ t.op = 4 ∨ t.op = 5 ∨ t.op = 6 ∨ t.op = 7 ∨ t.op = 8 ∨ t.op = 9 ∨ t.op = 10 ∨ t.op = 11 ∨ t.op = 12 ∨ t.op = 13 ∨ t.op = 14 ∨ t.op = 15 ∨ t.op = 16 ∨ t.op = 17 ∨ t.op = 18) ∨ lv = 3 := by
 obtain ⟨scope, deep, h1, _⟩ := h
 rw [Trm.okT_eq] at h1
 have hs := h1.1.2.1
 unfold sortsL at hs
 repeat' split at hs
 all_goals simp_all
 all_goals omega
theorem TE.con (ho : t.op = 0) : 0 ≤ t.n ∧ t.n < cs := by
 obtain ⟨scope, deep, h1, _⟩ := h
 rw [Trm.okT_eq] at h1
 have hs := h1.1.2.2.2
 unfold numberL at hs
 rw [if_pos ho] at hs
 simpa using hs
theorem TE.ref (ho : t.op = 1 ∨ t.op = 2 ∨ t.op = 14) : ∃ a, fndM e t.n = some a ∧ D a := by
 obtain ⟨scope, deep, h1, h2, _⟩ := h
 rw [Trm.okT_eq] at h1
 have hs := h1.1.2.2.2
 unfold numberL at hs
 rw [if_neg (by omega), if_pos ho] at hs
 exact h2 t.n (by simpa using hs)
theorem TE.cnt : ((t.op = 2 ∨ t.op = 14 ∨ t.op = 4 ∨ t.op = 12 ∨ t.op = 15 ∨ t.op = 16) → t.t.length = 1) ∧ (t.op = 3 → t.t.length = 3) ∧ ((t.op = 17 ∨ t.op = 18) → t.t.length = 2) ∧ ((t.op = 5 ∨ t.op = 6) → 1 ≤ t.t.length) ∧ ((t.op = 7 ∨ t.op = 8 ∨ t.op = 9) → t.t.length = t.v.length + 1) ∧ (¬t.op = 4 → ¬t.op = 7 → ¬t.op = 8 → ¬t.op = 9 → t.v = []) := by
 obtain ⟨scope, deep, h1, h2, _⟩ := h
 rw [Trm.okT_eq] at h1
 have hs := h1.1.2.2.1
 unfold countsL at hs
 split at hs
 ·cases hs
 rename_i hb
 refine ⟨fun ho => ?_, fun ho => ?_, fun ho => ?_, fun ho => ?_, fun ho => ?_, fun h4 h7 h8 h9 => ?_⟩
 ·rw [if_neg (by omega), if_pos (by omega)] at hs
  simp at hs
  omega
 ·rw [if_neg (by omega), if_neg (by omega), if_pos ho] at hs
  simp at hs
  omega
 ·rw [if_neg (by omega), if_neg (by omega), if_neg (by omega), if_pos ho] at hs
  simp at hs
  omega
 ·rw [if_neg (by omega), if_neg (by omega), if_neg (by omega), if_neg (by omega), if_pos (by omega)] at hs
  simp at hs
  omega
 ·rw [if_neg (by omega), if_neg (by omega), if_neg (by omega), if_neg (by omega), if_neg (by omega), if_pos (by omega)] at hs
  simp at hs
  omega
 ·unfold bindsB at hb
  rw [Bool.and_eq_true] at hb
  apply List.eq_nil_of_length_eq_zero
  apply Decidable.byContradiction
  intro hn
  exact hb ⟨by simp [h4, h7, h8, h9], by simp; omega⟩
theorem TE.sub (ho : ¬t.op = 4 ∧ ¬t.op = 7 ∧ ¬t.op = 8 ∧ ¬t.op = 9) {x : Trm} (hx : x ∈ t.t) : TE lv cs D x e := by
 have hv := h.cnt.2.2.2.2.2 ho.1 ho.2.1 ho.2.2.1 ho.2.2.2
 obtain ⟨scope, deep, h1, h2, h3⟩ := h
 rw [Trm.okT_eq] at h1
 obtain ⟨i, hi, rfl⟩ := List.mem_iff_getElem.1 hx
 have := (okTs_get h1.2 i hi).1
 rw [hv, List.append_nil, ite_self] at this
 exact ⟨scope, _, this, h2, h3.mem hx⟩
theorem TE.outer (ho : t.op = 8) (i : Nat) (hi : i < t.v.length) (hl : i < t.t.length) : TE lv cs D t.t[i] e := by
 have hc := h.cnt.2.2.2.2.1 (by omega)
 obtain ⟨scope, deep, h1, h2, h3⟩ := h
 rw [Trm.okT_eq] at h1
 have := (okTs_get h1.2 i hl).1
 rw [if_neg (by omega)] at this
 exact ⟨scope, _, this, h2, h3.mem (List.getElem_mem _)⟩
theorem TE.inner {D' : Nat → Prop} (hD : ∀ a, D a → D' a) (ho : t.op = 7 ∨ t.op = 8 ∨ t.op = 9 ∨ t.op = 4) (i : Nat) (hl : i < t.t.length) (hi : t.op = 8 → i = t.v.length) (az : List Nat) (ha : az.length = t.v.length) (haz : ∀ a ∈ az, D' a) : TE lv cs D' t.t[i] (extM e t.v az) := by
 have hc := h.cnt.2.2.2.2.1
 have hc4 := h.cnt.1
 obtain ⟨scope, deep, h1, h2, h3⟩ := h
 rw [Trm.okT_eq] at h1
 have := (okTs_get h1.2 i hl).1
 rw [if_pos (by omega)] at this
 exact ⟨scope ++ t.v, _, this, (h2.mono hD).ext ha haz, h3.mem (List.getElem_mem _)⟩
end
def okC (lv cs : Int) (D : Nat → Prop) (c : Clo) : Prop :=
 (c.rest = true → 1 ≤ c.v.length) ∧ c.v.length ≤ 100000000 ∧ ∀ D' : Nat → Prop, (∀ a, D a → D' a) → ∀ az : List Nat, az.length = c.v.length → (∀ a ∈ az, D' a) → TE lv cs D' c.body (extM c.env c.v az)
theorem okC.mono {lv cs : Int} {D D' : Nat → Prop} (hD : ∀ a, D a → D' a) {c : Clo} (h : okC lv cs D c) : okC lv cs D' c :=
 ⟨h.1, h.2.1, fun D2 h2 => h.2.2 D2 fun a ha => h2 a (hD a ha)⟩
theorem TE.clo {lv cs : Int} {D : Nat → Prop} {t : Trm} {e : EnvM} (h : TE lv cs D t e) (ho : t.op = 4) {b : Trm} (hb : t.t = [b]) : okC lv cs D ⟨t.v, t.n == 1, b, e⟩ := by
 refine ⟨fun hr => ?_, ?_, fun D' hD az ha haz => ?_⟩
 ·have hr' : (t.n == 1) = true := hr
  obtain ⟨scope, deep, h1, _⟩ := h
  rw [Trm.okT_eq] at h1
  have hs := h1.1.2.2.2
  unfold numberL at hs
  rw [if_neg (by omega), if_neg (by omega), if_neg (by omega), if_pos ho] at hs
  simp at hr' hs
  show 1 ≤ t.v.length
  omega
 ·obtain ⟨_, _, _, _, h3⟩ := h
  exact h3.len.2
 ·have := h.inner hD (.inr (.inr (.inr ho))) 0 (by rw [hb]; simp) (by omega) az ha haz
  simpa only [hb, List.getElem_cons_zero] using this
mutual
def Vl.ok (lv cs N : Int) (A : Int) (D : Nat → Prop) : Vl → Prop
 | .mk k n d s l p c => ((Vl.mk k n d s l p c).tx = true ∧ ((Vl.mk k n d s l p c).its.1.length : Int) ≤ N ∧ (l.length : Int) ≤ N) ∧ (k = 8 → ∃ f, p = some f ∧ okC lv cs D f) ∧ (k = 11 → ∃ a, c = some a ∧ D a) ∧ (k = 10 → 0 ≤ n ∧ n < A) ∧ Vl.oks lv cs N A D l
def Vl.oks (lv cs N : Int) (A : Int) (D : Nat → Prop) : List Vl → Prop
 | [] => True
 | x :: xs => Vl.ok lv cs N A D x ∧ Vl.oks lv cs N A D xs
end
theorem Vl.oks_iff {lv cs N A : Int} {D : Nat → Prop} : ∀ {l : List Vl}, Vl.oks lv cs N A D l ↔ ∀ x ∈ l, x.ok lv cs N A D
 | [] => by simp [Vl.oks]
 | x :: xs => by rw [Vl.oks, Vl.oks_iff (l := xs), List.forall_mem_cons]
theorem Vl.ok_eq {lv cs N A : Int} {D : Nat → Prop} (x : Vl) : x.ok lv cs N A D ↔ (x.tx = true ∧ (x.its.1.length : Int) ≤ N ∧ (x.l.length : Int) ≤ N) ∧ (x.k = 8 → ∃ f, x.p = some f ∧ okC lv cs D f) ∧ (x.k = 11 → ∃ a, x.c = some a ∧ D a) ∧ (x.k = 10 → 0 ≤ x.n ∧ x.n < A) ∧ ∀ y ∈ x.l, y.ok lv cs N A D := by
 cases x
 rw [Vl.ok, Vl.oks_iff]
 rfl
theorem Vl.ok_mono {lv cs N N' A A' : Int} {D D' : Nat → Prop} (hN : N ≤ N') (hA : A ≤ A') (hD : ∀ a, D a → D' a) (x : Vl) : x.ok lv cs N A D → x.ok lv cs N' A' D' := by
 induction x using Vl.ind with
 | h x ih =>
  intro h
  rw [Vl.ok_eq] at h ⊢
  refine ⟨⟨h.1.1, by omega, by omega⟩, fun hk => ?_, fun hk => ?_, fun hk => ?_, fun y hy => ih y hy (h.2.2.2.2 y hy)⟩
  ·obtain ⟨f, h1, h2⟩ := h.2.1 hk
   exact ⟨f, h1, h2.mono hD⟩
  ·obtain ⟨a, h1, h2⟩ := h.2.2.1 hk
   exact ⟨a, h1, hD a h2⟩
  ·have := h.2.2.2.1 hk
   omega
section
variable {lv cs N A : Int} {D : Nat → Prop}
theorem Vl.ok.tx {x : Vl} (h : x.ok lv cs N A D) : x.tx = true := ((Vl.ok_eq x).1 h).1.1
theorem Vl.ok.mem {x y : Vl} (h : x.ok lv cs N A D) (hy : y ∈ x.l) : y.ok lv cs N A D := ((Vl.ok_eq x).1 h).2.2.2.2 y hy
theorem Vl.ok.len {x : Vl} (h : x.ok lv cs N A D) : (x.its.1.length : Int) ≤ N ∧ (x.l.length : Int) ≤ N := ((Vl.ok_eq x).1 h).1.2
theorem Vl.ok.its {x : Vl} : x.ok lv cs N A D → ∀ y ∈ x.its.1, y.ok lv cs N A D := by
 induction x using Vl.ind with
 | h x ih =>
  intro h y hy
  by_cases hk : x.k = 6
  ·have h2 := ((Vl.tx_eq x).1 h.tx).2.1 hk
   rw [Vl.its_pair x hk h2] at hy
   rcases List.mem_cons.1 hy with rfl | hy
   ·exact h.mem (List.getElem_mem _)
   ·exact ih _ (List.getElem_mem _) (h.mem (List.getElem_mem _)) y hy
  ·rw [Vl.its_end x hk] at hy
   cases hy
theorem Vl.ok.bare {x : Vl} (hN : 0 ≤ N) (hk : 0 ≤ x.k ∧ x.k ≤ 12 ∧ ¬x.k = 6 ∧ ¬x.k = 8 ∧ ¬x.k = 10 ∧ ¬x.k = 11) (hs : x.s.length ≤ 1000000000) (hl : x.l = []) : x.ok lv cs N A D := by
 rw [Vl.ok_eq]
 refine ⟨⟨?_, ?_, ?_⟩, fun h => ?_, fun h => ?_, fun h => ?_, ?_⟩
 ·rw [Vl.tx_eq]
  exact ⟨⟨hk.1, hk.2.1⟩, fun h => absurd h hk.2.2.1, hs, by rw [hl]; simp⟩
 ·rw [Vl.its_end x hk.2.2.1]
  exact hN
 ·rw [hl]
  exact hN
 ·omega
 ·omega
 ·omega
 ·rw [hl]
  simp
theorem lstV_its : ∀ l : List Vl, (lstV l).its = (l, kndV 4)
 | [] => Vl.its_end _ (by show ¬(4 : Int) = 6; decide)
 | x :: l => by
  have e : lstV (x :: l) = .mk 6 0 0 [] [x, lstV l] none none := rfl
  rw [e, Vl.its_pair _ rfl rfl]
  show (x :: (lstV l).its.1, (lstV l).its.2) = _
  rw [lstV_its l]
theorem Vl.ok.pair {x y : Vl} (hN : 2 ≤ N) (hx : x.ok lv cs N A D) (hy : y.ok lv cs N A D) (hi : (y.its.1.length : Int) + 1 ≤ N) : (Vl.mk 6 0 0 [] [x, y] none none).ok lv cs N A D := by
 rw [Vl.ok_eq]
 refine ⟨⟨?_, ?_, ?_⟩, fun h => ?_, fun h => ?_, fun h => ?_, ?_⟩
 ·rw [Vl.tx_eq]
  refine ⟨⟨by show (0 : Int) ≤ 6; decide, by show (6 : Int) ≤ 12; decide⟩, fun _ => rfl, Nat.zero_le _, fun z hz => ?_⟩
  rcases List.mem_cons.1 (show z ∈ [x, y] from hz) with rfl | hz
  ·exact hx.tx
  ·rw [List.mem_singleton.1 hz]; exact hy.tx
 ·rw [Vl.its_pair _ rfl rfl]
  show ((x :: y.its.1).length : Int) ≤ N
  rw [List.length_cons]
  omega
 ·exact hN
 ·exact absurd (show (6 : Int) = 8 from h) (by decide)
 ·exact absurd (show (6 : Int) = 11 from h) (by decide)
 ·exact absurd (show (6 : Int) = 10 from h) (by decide)
 ·intro z hz
  rcases List.mem_cons.1 (show z ∈ [x, y] from hz) with rfl | hz
  ·exact hx
  ·rw [List.mem_singleton.1 hz]; exact hy
theorem lstV_ok (hN : 2 ≤ N) : ∀ {l : List Vl}, (l.length : Int) ≤ N → (∀ x ∈ l, x.ok lv cs N A D) → (lstV l).ok lv cs N A D
 | [], _, _ => Vl.ok.bare (by omega) (by show (0 : Int) ≤ 4 ∧ (4 : Int) ≤ 12 ∧ ¬(4 : Int) = 6 ∧ ¬(4 : Int) = 8 ∧ ¬(4 : Int) = 10 ∧ ¬(4 : Int) = 11; decide) (Nat.zero_le _) rfl
 | x :: l, hl, h => by
  rw [List.length_cons] at hl
  refine Vl.ok.pair hN (h x (List.mem_cons_self ..)) (lstV_ok hN (by omega) fun y hy => h y (List.mem_cons_of_mem _ hy)) ?_
  have e : ((lstV l).its.1.length : Int) = l.length := by rw [lstV_its]
  have e' : (lstV l).its.1.length = l.length := by rw [lstV_its]
  show ((lstV l).its.1.length : Int) + 1 ≤ N
  omega
theorem Vl.ok.vec {l : List Vl} (hN : 0 ≤ N) (hl : (l.length : Int) ≤ N) (h : ∀ x ∈ l, x.ok lv cs N A D) : (Vl.mk 7 0 0 [] l none none).ok lv cs N A D := by
 rw [Vl.ok_eq]
 refine ⟨⟨?_, ?_, hl⟩, fun h => ?_, fun h => ?_, fun h => ?_, h⟩
 ·rw [Vl.tx_eq]
  exact ⟨⟨by show (0 : Int) ≤ 7; decide, by show (7 : Int) ≤ 12; decide⟩, fun h => absurd (show (7 : Int) = 6 from h) (by decide), Nat.zero_le _, fun z hz => (h z hz).tx⟩
 ·rw [Vl.its_end _ (by show ¬(7 : Int) = 6; decide)]
  exact hN
 ·exact absurd (show (7 : Int) = 8 from h) (by decide)
 ·exact absurd (show (7 : Int) = 11 from h) (by decide)
 ·exact absurd (show (7 : Int) = 10 from h) (by decide)
theorem kndV_ok {k : Int} (hN : 0 ≤ N) (hk : k = 0 ∨ k = 4 ∨ k = 5 ∨ k = 12) : (kndV k).ok lv cs N A D :=
 Vl.ok.bare hN (by show 0 ≤ k ∧ k ≤ 12 ∧ ¬k = 6 ∧ ¬k = 8 ∧ ¬k = 10 ∧ ¬k = 11; omega) (Nat.zero_le _) rfl
theorem truV_ok {b : Bool} (hN : 0 ≤ N) : (truV b).ok lv cs N A D :=
 Vl.ok.bare hN (by show (0 : Int) ≤ 1 ∧ (1 : Int) ≤ 12 ∧ ¬(1 : Int) = 6 ∧ ¬(1 : Int) = 8 ∧ ¬(1 : Int) = 10 ∧ ¬(1 : Int) = 11; decide) (Nat.zero_le _) rfl
theorem numV_ok {n d : Int} (hN : 0 ≤ N) : (Vl.mk 0 n d [] [] none none).ok lv cs N A D :=
 Vl.ok.bare hN (by show (0 : Int) ≤ 0 ∧ (0 : Int) ≤ 12 ∧ ¬(0 : Int) = 6 ∧ ¬(0 : Int) = 8 ∧ ¬(0 : Int) = 10 ∧ ¬(0 : Int) = 11; decide) (Nat.zero_le _) rfl
theorem prcV_ok {n : Int} (hN : 0 ≤ N) : (Vl.mk 9 n 0 [] [] none none).ok lv cs N A D :=
 Vl.ok.bare hN (by show (0 : Int) ≤ 9 ∧ (9 : Int) ≤ 12 ∧ ¬(9 : Int) = 6 ∧ ¬(9 : Int) = 8 ∧ ¬(9 : Int) = 10 ∧ ¬(9 : Int) = 11; decide) (Nat.zero_le _) rfl
theorem getD_ok {l : List Vl} (hN : 0 ≤ N) (h : ∀ x ∈ l, x.ok lv cs N A D) (i : Nat) : (l.getD i zerV).ok lv cs N A D := by
 rw [List.getD_eq_getElem?_getD]
 by_cases hi : i < l.length
 ·rw [List.getElem?_eq_getElem hi]
  exact h _ (List.getElem_mem _)
 ·rw [List.getElem?_eq_none (by omega)]
  exact kndV_ok hN (.inl rfl)
theorem foldF_bare (n : Int) (l : List Datum) : ∃ k a b, (k = 0 ∨ k = 1 ∨ k = 5) ∧ (foldF n l).1 = .mk k a b [] [] := by
 have hs : ∀ (n : Int) (l : List Datum) (a : Int × Int), ∃ x y, (sumsL n l a).1 = .mk 0 x y [] [] := by
  intro n l
  induction l with
  | nil => intro a; exact ⟨_, _, rfl⟩
  | cons x l ih =>
   intro a
   rw [sumsL]
   split
   ·exact ⟨_, _, rfl⟩
   ·exact ih _
 have h0 : ∀ (n : Int) (l : List Datum) (a : Int × Int), ∃ k x y, (k = 0 ∨ k = 1 ∨ k = 5) ∧ (sumsL n l a).1 = .mk k x y [] [] := fun n l a => by
  obtain ⟨x, y, h⟩ := hs n l a
  exact ⟨0, x, y, .inl rfl, h⟩
 have ht : ∀ b : Bool, ∃ k x y, (k = 0 ∨ k = 1 ∨ k = 5) ∧ truB b = .mk k x y [] [] := fun b => by
  cases b <;> exact ⟨1, _, _, .inr (.inl rfl), rfl⟩
 have hz : ∃ k x y, (k = 0 ∨ k = 1 ∨ k = 5) ∧ (numD (0, 0)) = .mk k x y [] [] := ⟨0, 0, 0, .inl rfl, rfl⟩
 unfold foldF
 split
 ·exact hz
 split
 ·exact hz
 unfold doesF
 split
 ·unfold sumsF
  split
  ·exact hz
  split <;> exact h0 _ _ _
 split
 ·split
  ·exact hz
  split <;> exact ht _
 split
 ·exact ht _
 split
 ·exact ⟨5, 0, 0, .inr (.inr rfl), rfl⟩
 ·exact ht _
theorem simV_ok (hN : 2 ≤ N) (n : Int) (l : List Vl) (ht : takB n l.length = true) (hl : (l.length : Int) ≤ N) (h : ∀ x ∈ l, x.ok lv cs N A D) : (simV n l).1.ok lv cs (N + 1) A D := by
 have up : ∀ {x : Vl}, x.ok lv cs N A D → x.ok lv cs (N + 1) A D := fun {x} hx => Vl.ok_mono (by omega) (Int.le_refl _) (fun _ h => h) x hx
 have h' : ∀ x ∈ l, x.ok lv cs (N + 1) A D := fun x hx => up (h x hx)
 have ha := getD_ok (by omega) h 0
 unfold simV
 dsimp only
 repeat' split
 all_goals first
  | exact truV_ok (by omega)
  | exact kndV_ok (by omega) (by decide)
  | exact lstV_ok (by omega) (by omega) h'
  | exact Vl.ok.vec (by omega) (by omega) h'
  | skip
 ·rename_i hn
  subst hn
  have hb := ht
  unfold takB at hb
  rw [show (factOf 17).least = 2 by decide, show (factOf 17).most = 2 by decide] at hb
  simp at hb
  match l, hb with
  | [x, y], _ =>
   have hx := h x (by simp)
   have hy := h y (by simp)
   have := hy.len
   exact Vl.ok.pair (by omega) (up hx) (up hy) (by omega)
 ·unfold prtV
  dsimp only
  repeat' split
  all_goals first
   | exact kndV_ok (by omega) (.inl rfl)
   | exact numV_ok (by omega)
   | exact up (getD_ok (by omega) (fun x hx => ha.mem hx) _)
 ·obtain ⟨k, a, b, hk, e⟩ := foldF_bare n (l.map shaV)
  rw [e, valV_eq]
  refine Vl.ok.bare (by omega) ?_ (Nat.zero_le _) rfl
  show 0 ≤ k ∧ k ≤ 12 ∧ ¬k = 6 ∧ ¬k = 8 ∧ ¬k = 10 ∧ ¬k = 11
  omega
theorem simV_out (n : Int) (l : List Vl) : (simV n l).2.2.length ≤ 1000 := by
 unfold simV
 dsimp only
 repeat' split
 all_goals first
  | exact txtV_len _
  | simp
end
def inH (h : Hp) (a : Nat) : Prop := ∃ x r, hget h a = some (x, r)
theorem inH_cons {h : Hp} {a b : Nat} {x : Vl} {r : Bool} (hi : inH h a) : inH ((b, x, r) :: h) a := by
 obtain ⟨y, q, hg⟩ := hi
 unfold inH
 rw [hget]
 by_cases hb : b = a
 ·rw [if_pos hb]
  exact ⟨x, r, rfl⟩
 ·rw [if_neg hb]
  exact ⟨y, q, hg⟩
theorem inH_head {h : Hp} {a : Nat} {x : Vl} {r : Bool} : inH ((a, x, r) :: h) a := ⟨x, r, by rw [hget, if_pos rfl]⟩
theorem inH_hpM : ∀ {xs : List Vl} {az : List Nat} {h : Hp} {a : Nat}, inH h a → inH (hpM h xs az) a
 | [], _, _, _, hi => by rw [hpM]; exact hi; intros; simp_all
 | _ :: _, [], _, _, hi => by rw [hpM]; exact hi; intros; simp_all
 | x :: xs, b :: az, h, a, hi => by rw [hpM]; exact inH_hpM (inH_cons hi)
theorem inH_hpU : ∀ {az : List Nat} {h : Hp} {r : Bool} {a : Nat}, inH h a → inH (hpU h r az) a
 | [], _, _, _, hi => hi
 | b :: az, h, r, a, hi => by rw [hpU]; exact inH_hpU (inH_cons hi)
theorem inH_hput {h : Hp} {a b : Nat} {x : Vl} (hi : inH h a) : inH (hput h b x) a := by
 obtain ⟨y, q, hg⟩ := hi
 revert hg
 induction h with
 | nil => intro hg; rw [hget] at hg; cases hg
 | cons c h ih =>
  obtain ⟨c, w, r⟩ := c
  intro hg
  rw [hget] at hg
  unfold inH
  rw [hput]
  by_cases hcb : c = b
  ·rw [if_pos hcb, hget]
   by_cases hca : c = a
   ·rw [if_pos hca]; exact ⟨_, _, rfl⟩
   ·rw [if_neg hca] at hg ⊢; exact ⟨_, _, hg⟩
  ·rw [if_neg hcb, hget]
   by_cases hca : c = a
   ·rw [if_pos hca]; exact ⟨_, _, rfl⟩
   ·rw [if_neg hca] at hg ⊢; exact ih hg
def Grow (s s' : MSt) : Prop := s.alive.length ≤ s'.alive.length ∧ (∀ a, inH s.h a → inH s'.h a) ∧ s'.fuel ≤ s.fuel
theorem Grow.refl (s : MSt) : Grow s s := ⟨Nat.le_refl _, fun _ h => h, Int.le_refl _⟩
theorem Grow.trans {s s1 s2 : MSt} (h : Grow s s1) (k : Grow s1 s2) : Grow s s2 := ⟨Nat.le_trans h.1 k.1, fun a ha => k.2.1 a (h.2.1 a ha), Int.le_trans k.2.2 h.2.2⟩
theorem Grow.less {s s' : MSt} (h : Grow (lessM s) s') : Grow s s' := ⟨h.1, h.2.1, Int.le_trans h.2.2 (show s.fuel - 1 ≤ s.fuel by omega)⟩
theorem Grow.hpM (s : MSt) (vs : List Vl) (az : List Nat) : Grow s (addM s (hpM s.h vs az)) := ⟨Nat.le_refl _, fun _ h => inH_hpM h, Int.le_refl _⟩
theorem Grow.hpU (s : MSt) (r : Bool) (az : List Nat) : Grow s (addM s (hpU s.h r az)) := ⟨Nat.le_refl _, fun _ h => inH_hpU h, Int.le_refl _⟩
theorem Grow.put (s : MSt) (a : Nat) (x : Vl) : Grow s (addM s (hput s.h a x)) := ⟨Nat.le_refl _, fun _ h => inH_hput h, Int.le_refl _⟩
theorem Grow.sto (s : MSt) (e : EnvM) (v : Int) (x : Vl) : Grow s (stoM s e v x) := by
 unfold stoM
 split
 ·exact Grow.refl s
 ·exact Grow.put s _ _
theorem Grow.stoI (s : MSt) (b : Prop) [Decidable b] (e : EnvM) (v : Int) (x : Vl) : Grow s (if b then stoM s e v x else s) := by
 split
 ·exact Grow.sto s e v x
 ·exact Grow.refl s
theorem Grow.stos (e : EnvM) : ∀ (vs : List Int) (xs : List Vl) (s : MSt), Grow s (stosM s e vs xs)
 | [], _, s => by unfold stosM; exact Grow.refl s
 | _ :: _, [], s => by unfold stosM; exact Grow.refl s
 | v :: vs, x :: xs, s => by rw [stosM]; exact (Grow.sto s e v x).trans (Grow.stos e vs xs _)
theorem Grow.stosI (s : MSt) (b : Prop) [Decidable b] (e : EnvM) (vs : List Int) (xs : List Vl) : Grow s (if b then stosM s e vs xs else s) := by
 split
 ·exact Grow.stos e vs xs s
 ·exact Grow.refl s
theorem Grow.box (s : MSt) (a : Nat) (x : Vl) : Grow s (addM s ((a, x, false) :: s.h)) := ⟨Nat.le_refl _, fun _ h => inH_cons h, Int.le_refl _⟩
theorem Grow.alive (s : MSt) : Grow s ⟨s.fuel, s.out, s.alive ++ [true], s.to, s.val, s.h⟩ := ⟨by simp, fun _ h => h, Int.le_refl _⟩
theorem Grow.dead (s : MSt) (i : Nat) (s0 : MSt) (hs : Grow s0 s) : Grow s0 ⟨s.fuel, s.out, s.alive.set i false, s.to, s.val, s.h⟩ := ⟨by rw [List.length_set]; exact hs.1, hs.2.1, hs.2.2⟩
theorem Ev.grow {K : List Vl} {j : Jd} {s : MSt} {vs : List Vl} {c : Int} {s' : MSt} (h : Ev K j s vs c s') : Grow s s' := by
 induction h with
 | ev _ _ _ i1 => exact i1.less
 | ltC _ _ _ _ _ _ i1 i2 => exact i1.trans ((Grow.hpM _ _ _).trans i2)
 | fxE _ _ _ _ _ _ i1 => exact (Grow.hpU _ _ _).trans i1
 | fxC _ _ _ _ _ _ i1 i2 => exact (Grow.hpU _ _ _).trans (i1.trans ((Grow.stosI _ _ _ _ _).trans i2))
 | rcC _ _ i1 i2 => exact i1.trans ((Grow.stoI _ _ _ _ _).trans i2)
 | rcX _ _ _ i1 i2 => exact i1.trans ((Grow.stoI _ _ _ _ _).trans i2)
 | cal _ _ _ _ _ i1 => exact (Grow.hpM _ _ _).trans i1
 | pE _ _ i1 => exact Grow.dead _ _ _ ((Grow.alive _).trans i1)
 | pJ _ _ i1 => exact Grow.dead _ _ _ ((Grow.alive _).trans i1)
 | stC => exact Grow.put _ _ _
 | put => exact Grow.put _ _ _
 | box => exact Grow.box _ _ _
 | _ => first | exact Grow.refl _ | assumption | (apply Grow.trans <;> assumption)
end Go.Cb
namespace Go.Cb
open Go.Proofs
set_option maxRecDepth 100000
set_option maxHeartbeats 4000000
mutual
def VR (C : Clo → Clo → Prop) (B : Nat → Nat → Prop) : Vl → Vl → Prop
 | .mk k n d s l p c, y => (y.k = k ∧ y.n = n ∧ y.d = d ∧ y.s = s) ∧ VRs C B l y.l ∧ (k = 8 → ∃ f g, p = some f ∧ y.p = some g ∧ C f g) ∧ (k = 11 → ∃ a b, c = some a ∧ y.c = some b ∧ B a b)
def VRs (C : Clo → Clo → Prop) (B : Nat → Nat → Prop) : List Vl → List Vl → Prop
 | [], ys => ys = []
 | x :: xs, ys => ∃ y zs, ys = y :: zs ∧ VR C B x y ∧ VRs C B xs zs
end
section
variable {C C' : Clo → Clo → Prop} {B B' : Nat → Nat → Prop}
theorem VR_eq (x y : Vl) : VR C B x y ↔ (y.k = x.k ∧ y.n = x.n ∧ y.d = x.d ∧ y.s = x.s) ∧ VRs C B x.l y.l ∧ (x.k = 8 → ∃ f g, x.p = some f ∧ y.p = some g ∧ C f g) ∧ (x.k = 11 → ∃ a b, x.c = some a ∧ y.c = some b ∧ B a b) := by
 cases x; rw [VR]; rfl
theorem VRs_nil {ys : List Vl} : VRs C B [] ys ↔ ys = [] := by rw [VRs]
theorem VRs_cons {x : Vl} {xs ys : List Vl} : VRs C B (x :: xs) ys ↔ ∃ y zs, ys = y :: zs ∧ VR C B x y ∧ VRs C B xs zs := by rw [VRs]
theorem VRs_mk {x y : Vl} {xs ys : List Vl} (h : VR C B x y) (hs : VRs C B xs ys) : VRs C B (x :: xs) (y :: ys) := VRs_cons.2 ⟨y, ys, rfl, h, hs⟩
theorem VRs_two {x y : Vl} {xs ys : List Vl} : VRs C B (x :: xs) (y :: ys) ↔ VR C B x y ∧ VRs C B xs ys := by
 rw [VRs_cons]
 constructor
 ·rintro ⟨_, _, e, h1, h2⟩
  injection e with e1 e2
  subst e1 e2
  exact ⟨h1, h2⟩
 ·rintro ⟨h1, h2⟩
  exact ⟨y, ys, rfl, h1, h2⟩
theorem VRs_one {x : Vl} {ys : List Vl} : VRs C B [x] ys ↔ ∃ y, ys = [y] ∧ VR C B x y := by
 rw [VRs_cons]
 constructor
 ·rintro ⟨y, zs, rfl, h, hs⟩
  rw [VRs_nil] at hs
  subst hs
  exact ⟨y, rfl, h⟩
 ·rintro ⟨y, rfl, h⟩
  exact ⟨y, [], rfl, h, VRs_nil.2 rfl⟩
theorem VRs_len : ∀ {xs ys : List Vl}, VRs C B xs ys → ys.length = xs.length
 | [], ys, h => by rw [VRs_nil.1 h]
 | x :: xs, ys, h => by
  obtain ⟨y, zs, rfl, _, h2⟩ := VRs_cons.1 h
  rw [List.length_cons, List.length_cons, VRs_len h2]
theorem VRs_get : ∀ {xs ys : List Vl}, VRs C B xs ys → ∀ i (h : i < xs.length) (h' : i < ys.length), VR C B xs[i] ys[i]
 | x :: xs, ys, h, i, hi, hi' => by
  obtain ⟨y, zs, rfl, h1, h2⟩ := VRs_cons.1 h
  match i, hi with
  | 0, _ => exact h1
  | i + 1, hi => exact VRs_get h2 i (by simpa using hi) (by simpa using hi')
theorem VRs_of : ∀ {xs ys : List Vl}, ys.length = xs.length → (∀ i (h : i < xs.length) (h' : i < ys.length), VR C B xs[i] ys[i]) → VRs C B xs ys
 | [], ys, hl, _ => VRs_nil.2 (List.eq_nil_of_length_eq_zero hl)
 | x :: xs, [], hl, _ => by simp at hl
 | x :: xs, y :: ys, hl, h => VRs_mk (h 0 (by simp) (by simp)) (VRs_of (by simpa using hl) fun i h1 h2 => h (i + 1) (by simpa using h1) (by simpa using h2))
theorem VRs_append {xs xs' ys ys' : List Vl} (h : VRs C B xs ys) (h' : VRs C B xs' ys') : VRs C B (xs ++ xs') (ys ++ ys') := by
 have h1 := VRs_len h
 have h2 := VRs_len h'
 refine VRs_of (by simp [h1, h2]) fun i hi hi' => ?_
 rw [List.length_append] at hi hi'
 by_cases hx : i < xs.length
 ·rw [List.getElem_append_left hx, List.getElem_append_left (by omega)]
  exact VRs_get h i hx (by omega)
 ·rw [List.getElem_append_right (by omega), List.getElem_append_right (by omega)]
  simp only [h1]
  exact VRs_get h' _ (by omega) (by omega)
theorem VRs_take {xs ys : List Vl} (k : Nat) (h : VRs C B xs ys) : VRs C B (xs.take k) (ys.take k) := by
 have h1 := VRs_len h
 refine VRs_of (by simp [h1]) fun i hi hi' => ?_
 rw [List.length_take] at hi hi'
 rw [List.getElem_take, List.getElem_take]
 exact VRs_get h i (by omega) (by omega)
theorem VRs_drop {xs ys : List Vl} (k : Nat) (h : VRs C B xs ys) : VRs C B (xs.drop k) (ys.drop k) := by
 have h1 := VRs_len h
 refine VRs_of (by simp [h1]) fun i hi hi' => ?_
 rw [List.length_drop] at hi hi'
 rw [List.getElem_drop, List.getElem_drop]
 exact VRs_get h _ (by omega) (by omega)
theorem VR_mono (hC : ∀ f g, C f g → C' f g) (hB : ∀ a b, B a b → B' a b) (x : Vl) : ∀ y, VR C B x y → VR C' B' x y := by
 induction x using Vl.ind with
 | h x ih =>
  intro y h
  rw [VR_eq] at h ⊢
  refine ⟨h.1, VRs_of (VRs_len h.2.1) fun i h1 h2 => ih _ (List.getElem_mem _) _ (VRs_get h.2.1 i h1 h2), fun hk => ?_, fun hk => ?_⟩
  ·obtain ⟨f, g, e1, e2, h1⟩ := h.2.2.1 hk
   exact ⟨f, g, e1, e2, hC f g h1⟩
  ·obtain ⟨a, b, e1, e2, h1⟩ := h.2.2.2 hk
   exact ⟨a, b, e1, e2, hB a b h1⟩
theorem VRs_mono (hC : ∀ f g, C f g → C' f g) (hB : ∀ a b, B a b → B' a b) {xs ys : List Vl} (h : VRs C B xs ys) : VRs C' B' xs ys :=
 VRs_of (VRs_len h) fun i h1 h2 => VR_mono hC hB _ _ (VRs_get h i h1 h2)
theorem VR_bare {x : Vl} (hl : x.l = []) (hk : ¬x.k = 8 ∧ ¬x.k = 11) : VR C B x x := by
 rw [VR_eq]
 exact ⟨⟨rfl, rfl, rfl, rfl⟩, by rw [hl]; exact VRs_nil.2 rfl, fun h => absurd h hk.1, fun h => absurd h hk.2⟩
theorem VR_knd (k : Int) (hk : ¬k = 8 ∧ ¬k = 11) : VR C B (kndV k) (kndV k) := VR_bare rfl hk
theorem VR_zer : VR C B zerV zerV := VR_bare rfl (by decide)
theorem VR_tru (b : Bool) : VR C B (truV b) (truV b) := VR_bare rfl (by show ¬(1 : Int) = 8 ∧ ¬(1 : Int) = 11; decide)
theorem VR_num (n d : Int) : VR C B (.mk 0 n d [] [] none none) (.mk 0 n d [] [] none none) := VR_bare rfl (by show ¬(0 : Int) = 8 ∧ ¬(0 : Int) = 11; decide)
theorem VR_pair {x y x' y' : Vl} (h : VR C B x x') (h' : VR C B y y') : VR C B (.mk 6 0 0 [] [x, y] none none) (.mk 6 0 0 [] [x', y'] none none) := by
 rw [VR_eq]
 exact ⟨⟨rfl, rfl, rfl, rfl⟩, VRs_mk h (VRs_mk h' (VRs_nil.2 rfl)), fun h => absurd (show (6 : Int) = 8 from h) (by decide), fun h => absurd (show (6 : Int) = 11 from h) (by decide)⟩
theorem VR_list {l m : List Vl} {k : Int} (hk : ¬k = 8 ∧ ¬k = 11) (h : VRs C B l m) : VR C B (.mk k 0 0 [] l none none) (.mk k 0 0 [] m none none) := by
 rw [VR_eq]
 exact ⟨⟨rfl, rfl, rfl, rfl⟩, h, fun h => absurd (show k = 8 from h) hk.1, fun h => absurd (show k = 11 from h) hk.2⟩
theorem VR_lst : ∀ {l m : List Vl}, VRs C B l m → VR C B (lstV l) (lstV m)
 | [], m, h => by rw [VRs_nil.1 h]; exact VR_knd 4 (by decide)
 | x :: l, m, h => by
  obtain ⟨y, zs, rfl, h1, h2⟩ := VRs_cons.1 h
  exact VR_pair h1 (VR_lst h2)
theorem VR_k {x y : Vl} (h : VR C B x y) : y.k = x.k ∧ y.n = x.n ∧ y.d = x.d ∧ y.s = x.s ∧ y.l.length = x.l.length := by
 rw [VR_eq] at h
 exact ⟨h.1.1, h.1.2.1, h.1.2.2.1, h.1.2.2.2, VRs_len h.2.1⟩
theorem VR_l {x y : Vl} (h : VR C B x y) : VRs C B x.l y.l := ((VR_eq x y).1 h).2.1
theorem VR_eqV {x y x' y' : Vl} (h : VR C B x x') (h' : VR C B y y') : eqV x' y' = eqV x y := by
 obtain ⟨h1, h2, h3, h4, _⟩ := VR_k h
 obtain ⟨g1, g2, g3, g4, _⟩ := VR_k h'
 unfold eqV
 rw [h1, h2, h3, h4, g1, g2, g3, g4]
theorem VR_eql (x : Vl) : ∀ {y x' y' : Vl} (left : Int), VR C B x x' → VR C B y y' → eqlV x' y' left = eqlV x y left := by
 induction x using Vl.ind with
 | h x ih =>
  intro y x' y' left h h'
  obtain ⟨h1, h2, h3, h4, h5⟩ := VR_k h
  obtain ⟨g1, g2, g3, g4, g5⟩ := VR_k h'
  have key : ∀ (l m l' m' : List Vl) (left : Int), (∀ x ∈ l, ∀ {y x' y' : Vl} (left : Int), VR C B x x' → VR C B y y' → eqlV x' y' left = eqlV x y left) → VRs C B l l' → VRs C B m m' → eqlsV l' m' left = eqlsV l m left := by
   intro l
   induction l with
   | nil =>
    intro m l' m' left _ hl hm
    rw [VRs_nil.1 hl]
    have := VRs_len hm
    cases m with
    | nil => rw [VRs_nil.1 hm]
    | cons y m => obtain ⟨_, _, rfl, _, _⟩ := VRs_cons.1 hm; rfl
   | cons x l ihl =>
    intro m l' m' left ihx hl hm
    obtain ⟨x', zl, rfl, k1, k2⟩ := VRs_cons.1 hl
    cases m with
    | nil => rw [VRs_nil.1 hm]; rfl
    | cons y m =>
     obtain ⟨y', zm, rfl, k3, k4⟩ := VRs_cons.1 hm
     rw [eqlsV, eqlsV, ihx x (List.mem_cons_self ..) left k1 k3]
     split
     ·rfl
     ·exact ihl m zl zm _ (fun z hz => ihx z (List.mem_cons_of_mem _ hz)) k2 k4
  rw [eqlV_eq, eqlV_eq, h1, h2, h3, h4, h5, g1, g2, g3, g4, g5]
  split
  ·rfl
  ·exact key _ _ _ _ _ ih (VR_l h) (VR_l h')
theorem VR_its (x : Vl) : ∀ {y : Vl}, VR C B x y → VRs C B x.its.1 y.its.1 ∧ VR C B x.its.2 y.its.2 := by
 induction x using Vl.ind with
 | h x ih =>
  intro y h
  cases x with
  | mk k n d s l p c =>
  cases y with
  | mk k' n' d' s' l' p' c' =>
  obtain ⟨h1, _, _, _, _⟩ := VR_k h
  have hl := VR_l h
  have h1' : k' = k := h1
  subst h1'
  by_cases hk : k' = 6
  ·rw [Vl.its, Vl.its, if_pos hk, if_pos hk]
   have hl' : VRs C B l l' := hl
   match l, l', hl', ih with
   | [], l', hl', _ => rw [VRs_nil.1 hl']; exact ⟨VRs_nil.2 rfl, VR_zer⟩
   | [a], l', hl', _ =>
    obtain ⟨b, rfl, _⟩ := VRs_one.1 hl'
    exact ⟨VRs_nil.2 rfl, VR_zer⟩
   | [a, b], l', hl', ih =>
    obtain ⟨a', m, rfl, k1, k2⟩ := VRs_cons.1 hl'
    obtain ⟨b', rfl, k3⟩ := VRs_one.1 k2
    rw [Vl.itsL, Vl.itsL]
    have := ih b (by show b ∈ [a, b]; simp) k3
    exact ⟨VRs_mk k1 this.1, this.2⟩
   | a :: b :: e :: l, l', hl', _ =>
    obtain ⟨a', m, rfl, _, k2⟩ := VRs_cons.1 hl'
    obtain ⟨b', m, rfl, _, k3⟩ := VRs_cons.1 k2
    obtain ⟨e', m, rfl, _, k4⟩ := VRs_cons.1 k3
    exact ⟨VRs_nil.2 rfl, VR_zer⟩
  ·rw [Vl.its, Vl.its, if_neg hk, if_neg hk]
   exact ⟨VRs_nil.2 rfl, h⟩
theorem VR_getD {l m : List Vl} (h : VRs C B l m) (i : Nat) : VR C B (l.getD i zerV) (m.getD i zerV) := by
 have hl := VRs_len h
 rw [List.getD_eq_getElem?_getD, List.getD_eq_getElem?_getD]
 by_cases hi : i < l.length
 ·rw [List.getElem?_eq_getElem hi, List.getElem?_eq_getElem (by omega)]
  exact VRs_get h i hi (by omega)
 ·rw [List.getElem?_eq_none (by omega), List.getElem?_eq_none (by omega)]
  exact VR_zer
theorem VR_sha {x y : Vl} (h : VR C B x y) : shaV y = shaV x := by
 obtain ⟨h1, h2, h3, h4, _⟩ := VR_k h
 unfold shaV
 rw [h1, h2, h3, h4]
theorem VRs_sha : ∀ {l m : List Vl}, VRs C B l m → m.map shaV = l.map shaV
 | [], m, h => by rw [VRs_nil.1 h]
 | x :: l, m, h => by
  obtain ⟨y, zs, rfl, h1, h2⟩ := VRs_cons.1 h
  rw [List.map_cons, List.map_cons, VR_sha h1, VRs_sha h2]
theorem VRs_any (p : Int → Bool) : ∀ {l m : List Vl}, VRs C B l m → (m.any fun x => p x.k) = l.any fun x => p x.k
 | [], m, h => by rw [VRs_nil.1 h]
 | x :: l, m, h => by
  obtain ⟨y, zs, rfl, h1, h2⟩ := VRs_cons.1 h
  rw [List.any_cons, List.any_cons, (VR_k h1).1, VRs_any p h2]
theorem VR_txt (x : Vl) : ∀ {y : Vl}, VR C B x y → ∀ out, wV false y out = wV false x out ∧ wV true y out = wV true x out := by
 induction x using Vl.ind with
 | h x ih =>
  intro y h
  have keyL : ∀ (l m : List Vl), (∀ x ∈ l, ∀ {y : Vl}, VR C B x y → ∀ out, wV false y out = wV false x out ∧ wV true y out = wV true x out) → VRs C B l m → ∀ first out, wL first m out = wL first l out := by
   intro l
   induction l with
   | nil => intro m _ hm first out; rw [VRs_nil.1 hm]
   | cons x l ihl =>
    intro m hx hm first out
    obtain ⟨y, zs, rfl, h1, h2⟩ := VRs_cons.1 hm
    rw [wL, wL, (hx x (List.mem_cons_self ..) h1 _).1, ihl zs (fun z hz => hx z (List.mem_cons_of_mem _ hz)) h2]
  have keyP : ∀ (l m : List Vl), (∀ x ∈ l, ∀ {y : Vl}, VR C B x y → ∀ out, wV false y out = wV false x out ∧ wV true y out = wV true x out) → VRs C B l m → ∀ out, wP m out = wP l out := by
   intro l m hx hm out
   match l, m, hm, hx with
   | [], m, hm, _ => rw [VRs_nil.1 hm]
   | [a], m, hm, _ => obtain ⟨b, rfl, _⟩ := VRs_one.1 hm; rfl
   | [a, b], m, hm, hx =>
    obtain ⟨a', m, rfl, k1, k2⟩ := VRs_cons.1 hm
    obtain ⟨b', rfl, k3⟩ := VRs_one.1 k2
    rw [wP, wP, (hx a (by simp) k1 _).1, (hx b (by simp) k3 _).2]
   | a :: b :: e :: l, m, hm, _ =>
    obtain ⟨a', m, rfl, _, k2⟩ := VRs_cons.1 hm
    obtain ⟨b', m, rfl, _, k3⟩ := VRs_cons.1 k2
    obtain ⟨e', m, rfl, _, k4⟩ := VRs_cons.1 k3
    rfl
  obtain ⟨h1, h2, h3, h4, h5⟩ := VR_k h
  have hL := keyL _ _ ih (VR_l h)
  have hP := keyP _ _ ih (VR_l h)
  have hc : ∀ out, coreT y out = coreT x out := fun out => by
   unfold coreT
   rw [h1, h2, h3, h4, hL, hP]
  intro out
  rw [wV_false, wV_false, wV_true, wV_true, hc, hc, hP, h1]
  exact ⟨rfl, rfl⟩
theorem VR_txtV {x y : Vl} (h : VR C B x y) : txtV y = txtV x := by unfold txtV; rw [(VR_txt x h []).1]
theorem VR_datum (d : Datum) : ∀ deep : Int, d.rightD deep = true → VR C B (valV d) (valV d) := by
 induction d using Datum.ind with
 | h d ih =>
  intro deep h
  rw [Datum.rightD_eq, Bool.and_eq_true] at h
  have h1 := h.1
  unfold bareBad at h1
  simp only [Bool.not_eq_true', Bool.or_eq_false_iff, decide_eq_false_iff_not] at h1
  have hk := h1.1.1.1.1.1
  have key : ∀ l : List Datum, (∀ y ∈ l, ∀ deep : Int, y.rightD deep = true → VR C B (valV y) (valV y)) → ∀ deep, Datum.rightDs l deep = true → VRs C B (l.map valV) (l.map valV) := by
   intro l
   induction l with
   | nil => intro _ _ _; exact VRs_nil.2 rfl
   | cons x l ihl =>
    intro hy deep h
    rw [Datum.rightDs, Bool.and_eq_true] at h
    exact VRs_mk (hy x (List.mem_cons_self ..) deep h.1) (ihl (fun y hm => hy y (List.mem_cons_of_mem _ hm)) deep h.2)
  rw [VR_eq, valV_eq]
  refine ⟨⟨rfl, rfl, rfl, rfl⟩, key d.l ih _ h.2, fun h => ?_, fun h => ?_⟩
  ·have h' : d.kind = 8 := h
   omega
  ·have h' : d.kind = 11 := h
   omega
theorem VR_fold (n : Int) (l : List Datum) : VR C B (valV (foldF n l).1) (valV (foldF n l).1) := by
 obtain ⟨k, a, b, hk, e⟩ := foldF_bare n l
 rw [e, valV_eq]
 exact VR_bare rfl (by show ¬k = 8 ∧ ¬k = 11; omega)
def AR (C : Clo → Clo → Prop) (B : Nat → Nat → Prop) (r r' : Vl × Int × List UInt8) : Prop := VR C B r.1 r'.1 ∧ r'.2.1 = r.2.1 ∧ r'.2.2 = r.2.2
theorem AR.ite {p : Prop} [Decidable p] {a b a' b' : Vl × Int × List UInt8} (h : AR C B a a') (k : AR C B b b') : AR C B (if p then a else b) (if p then a' else b') := by
 split
 ·exact h
 ·exact k
theorem AR.mk {x y : Vl} {c : Int} {o : List UInt8} (h : VR C B x y) : AR C B (x, c, o) (y, c, o) := ⟨h, rfl, rfl⟩
theorem AR.prt (n : Int) {l m : List Vl} (h : VRs C B l m) : AR C B ((prtV n l).1, (prtV n l).2, []) ((prtV n m).1, (prtV n m).2, []) := by
 have h0 := VR_getD h 0
 have h1 := VR_getD h 1
 obtain ⟨k1, k2, k3, k4, k5⟩ := VR_k h0
 obtain ⟨g1, g2, g3, g4, g5⟩ := VR_k h1
 obtain ⟨i1, i2⟩ := VR_its _ h0
 have i3 := VRs_len i1
 have i4 := (VR_k i2).1
 unfold prtV
 dsimp only
 rw [k1, k5, g1, g2, g3, i3, i4]
 by_cases c1 : n = 18 ∨ n = 19
 ·rw [if_pos c1, if_pos c1]
  by_cases c2 : ¬(l.getD 0 zerV).k = 6
  ·rw [if_pos c2, if_pos c2]; exact AR.mk VR_zer
  ·rw [if_neg c2, if_neg c2]; exact AR.mk (VR_getD (VR_l h0) _)
 rw [if_neg c1, if_neg c1]
 by_cases c1 : n = 22
 ·rw [if_pos c1, if_pos c1]
  by_cases c2 : ¬(l.getD 0 zerV).k = 7 ∨ ¬(l.getD 1 zerV).k = 0
  ·rw [if_pos c2, if_pos c2]; exact AR.mk VR_zer
  rw [if_neg c2, if_neg c2]
  by_cases c3 : ¬(l.getD 1 zerV).d = 1 ∨ (l.getD 1 zerV).n < 0 ∨ ((l.getD 0 zerV).l.length : Int) ≤ (l.getD 1 zerV).n
  ·rw [if_pos c3, if_pos c3]; exact AR.mk VR_zer
  ·rw [if_neg c3, if_neg c3]; exact AR.mk (VR_getD (VR_l h0) _)
 rw [if_neg c1, if_neg c1]
 by_cases c1 : n = 23
 ·rw [if_pos c1]
  by_cases c2 : ¬(l.getD 0 zerV).k = 7
  ·rw [if_pos c2]; exact AR.mk VR_zer
  ·rw [if_neg c2]; exact AR.mk (VR_num _ _)
 rw [if_neg c1]
 by_cases c2 : (l.getD 0 zerV).its.2.k = 4
 ·rw [if_pos c2]; exact AR.mk (VR_num _ _)
 ·rw [if_neg c2]; exact AR.mk VR_zer
theorem VR_sim (n : Int) {l m : List Vl} (h : VRs C B l m) : AR C B (simV n l) (simV n m) := by
 have h0 := VR_getD h 0
 have h1 := VR_getD h 1
 unfold simV
 dsimp only
 rw [VR_eqV h0 h1, VR_eql _ 1000 h0 h1, VRs_sha h, VR_txtV h0, VRs_any (fun k => decide (7 < k)) h, (VR_k h0).1]
 refine AR.ite (AR.mk (VR_tru _)) (AR.ite (AR.ite (AR.mk VR_zer) (AR.mk (VR_tru _))) (AR.ite (AR.mk (VR_tru _)) (AR.ite (AR.mk (VR_list (by decide) h)) (AR.ite (AR.mk (VR_lst h)) (AR.ite (AR.mk (VR_list (by decide) h)) (AR.ite (AR.mk (VR_knd 5 (by decide))) (AR.ite (AR.mk (VR_knd 5 (by decide))) (AR.ite (AR.prt n h) (AR.ite (AR.mk (VR_tru _)) (AR.mk (VR_fold _ _)))))))))))
end
end Go.Cb
namespace Go.Cb
open Go.Proofs
set_option maxRecDepth 100000
set_option maxHeartbeats 4000000
structure Wd where
 m : Nat → Nat → Prop
 f : Nat → Vl → Prop
 g : Nat → Vl → Prop
 e : Nat → Nat → Prop
def Wd.le (w w' : Wd) : Prop := (∀ a b, w.m a b → w'.m a b) ∧ (∀ b y, w.f b y → w'.f b y) ∧ (∀ a x, w.g a x → w'.g a x) ∧ ∀ a b, w.e a b → w'.e a b
theorem Wd.refl (w : Wd) : w.le w := ⟨fun _ _ h => h, fun _ _ h => h, fun _ _ h => h, fun _ _ h => h⟩
theorem Wd.trans {w w' w2 : Wd} (h : w.le w') (k : w'.le w2) : w.le w2 := ⟨fun a b x => k.1 a b (h.1 a b x), fun a b x => k.2.1 a b (h.2.1 a b x), fun a b x => k.2.2.1 a b (h.2.2.1 a b x), fun a b x => k.2.2.2 a b (h.2.2.2 a b x)⟩
abbrev CR := Wd → Clo → Clo → Prop
abbrev VW (C : CR) (w : Wd) : Vl → Vl → Prop := VR (C w) w.m
abbrev VWs (C : CR) (w : Wd) : List Vl → List Vl → Prop := VRs (C w) w.m
def CR.mono (C : CR) : Prop := ∀ w w', w.le w' → ∀ f g, C w f g → C w' f g
theorem VW.up {C : CR} (hC : C.mono) {w w' : Wd} (h : w.le w') {x y : Vl} (k : VW C w x y) : VW C w' x y := VR_mono (hC w w' h) h.1 x y k
theorem VWs.up {C : CR} (hC : C.mono) {w w' : Wd} (h : w.le w') {x y : List Vl} (k : VWs C w x y) : VWs C w' x y := VRs_mono (hC w w' h) h.1 k
structure Ep (C : CR) (w : Wd) (h g : Hp) : Prop where
 pe : ∀ a b, w.e a b → ∃ x y, hget h a = some (x, false) ∧ hget g b = some (y, false) ∧ VW C w x y
 em : ∀ a b b', w.e a b → ¬w.m a b'
 et : ∀ a b a', w.e a b → ¬w.m a' b
structure Va (C : CR) (w : Wd) (s t : MSt) : Prop where
 out : t.out = s.out
 alive : t.alive = s.alive
 to : t.to = s.to
 val : VW C w s.val t.val
 pm : ∀ a b, w.m a b → ∃ x y, hget s.h a = some (x, false) ∧ hget t.h b = some (y, false) ∧ VW C w x y
 pf : ∀ b y, w.f b y → hget t.h b = some (y, false)
 pg : ∀ a x, w.g a x → hget s.h a = some (x, false)
 ij : ∀ a b a' b', w.m a b → w.m a' b' → (a = a' ↔ b = b')
 mf : ∀ a b y, w.m a b → ¬w.f b y
 mg : ∀ a b x, w.m a b → ¬w.g a x
 ep : Ep C w s.h t.h
structure Fr (w w' : Wd) (h g h' g' : Hp) : Prop where
 hs : ∀ a x r, hget h a = some (x, r) → (∀ b, ¬w.m a b) → hget h' a = some (x, r)
 ht : ∀ b x r, hget g b = some (x, r) → (∀ a, ¬w.m a b) → hget g' b = some (x, r)
 ns : ∀ a b, w'.m a b → w.m a b ∨ (hget h a = none ∧ hget g b = none)
 nf : ∀ b y, w'.f b y → w.f b y ∨ hget g b = none
 ng : ∀ a x, w'.g a x → w.g a x ∨ hget h a = none
 ne : ∀ a b, w'.e a b → w.e a b ∨ (hget h a = none ∧ hget g b = none)
 ds : ∀ a, hget h' a = none → hget h a = none
 dt : ∀ b, hget g' b = none → hget g b = none
theorem Fr.refl (w : Wd) (h g : Hp) : Fr w w h g h g := ⟨fun _ _ _ e _ => e, fun _ _ _ e _ => e, fun _ _ h => .inl h, fun _ _ h => .inl h, fun _ _ h => .inl h, fun _ _ h => .inl h, fun _ e => e, fun _ e => e⟩
theorem Fr.trans {w w1 w2 : Wd} {h g h1 g1 h2 g2 : Hp} (p : Fr w w1 h g h1 g1) (q : Fr w1 w2 h1 g1 h2 g2) : Fr w w2 h g h2 g2 := by
 refine ⟨fun a x r e hn => q.hs a x r (p.hs a x r e hn) fun b hb => ?_, fun b x r e hn => q.ht b x r (p.ht b x r e hn) fun a ha => ?_, fun a b hm => ?_, fun b y hm => ?_, fun a x hm => ?_, fun a b hm => ?_, fun a e => p.ds a (q.ds a e), fun b e => p.dt b (q.dt b e)⟩
 ·rcases p.ns a b hb with h3 | ⟨h3, _⟩
  ·exact hn b h3
  ·rw [e] at h3; cases h3
 ·rcases p.ns a b ha with h3 | ⟨_, h3⟩
  ·exact hn a h3
  ·rw [e] at h3; cases h3
 ·rcases q.ns a b hm with h3 | ⟨h3, h4⟩
  ·exact p.ns a b h3
  ·exact .inr ⟨p.ds a h3, p.dt b h4⟩
 ·rcases q.nf b y hm with h3 | h3
  ·exact p.nf b y h3
  ·exact .inr (p.dt b h3)
 ·rcases q.ng a x hm with h3 | h3
  ·exact p.ng a x h3
  ·exact .inr (p.ds a h3)
 ·rcases q.ne a b hm with h3 | ⟨h3, h4⟩
  ·exact p.ne a b h3
  ·exact .inr ⟨p.ds a h3, p.dt b h4⟩
def Rs (C : CR) (w : Wd) (h g : Hp) (v : List Vl) (c : Int) (s' : MSt) (v' : List Vl) (c' : Int) (t' : MSt) : Prop :=
 c' = c ∧ ∃ w', w.le w' ∧ Va C w' s' t' ∧ Fr w w' h g s'.h t'.h ∧ (c = 0 → VWs C w' v v')
def Sm (C : CR) (K : List Vl) (n : Int) (w : Wd) (j j' : Jd) : Prop :=
 ∀ w1, w.le w1 → ∀ s t, Va C w1 s t → s.fuel ≤ n → ∀ v c s', Ev K j s v c s' → ∀ v' c' t', Ev K j' t v' c' t' → c ≠ 8 → c' ≠ 8 → Rs C w1 s.h t.h v c s' v' c' t'
def CallSm (C : CR) (K : List Vl) (n : Int) (w : Wd) (f g : Clo) : Prop :=
 g.rest = f.rest ∧ g.v.length = f.v.length ∧ (f.rest = true → 1 ≤ f.v.length) ∧ ∀ w1, w.le w1 → ∀ s t, Va C w1 s t → s.fuel ≤ n → ∀ xs ys, VWs C w1 xs ys → xs.length = f.v.length → ∀ az bz, az.length = f.v.length → bz.length = g.v.length →
  ∀ v c s', Ev K (.ev f.body (extM f.env f.v az)) (addM s (hpM s.h xs az)) v c s' → ∀ v' c' t', Ev K (.ev g.body (extM g.env g.v bz)) (addM t (hpM t.h ys bz)) v' c' t' → c ≠ 8 → c' ≠ 8 → Rs C w1 s.h t.h v c s' v' c' t'
section
variable {C : CR} {K : List Vl}
theorem Va.less {w : Wd} {s t : MSt} (h : Va C w s t) : Va C w (lessM s) (lessM t) := ⟨h.out, h.alive, h.to, h.val, h.pm, h.pf, h.pg, h.ij, h.mf, h.mg, h.ep⟩
theorem Sm.up {n : Int} {w w' : Wd} {j j' : Jd} (h : Sm C K n w j j') (hw : w.le w') : Sm C K n w' j j' := fun w1 h1 => h w1 (Wd.trans hw h1)
theorem Rs.err {w : Wd} {s t : MSt} (h : Va C w s t) (v v' : List Vl) {c : Int} (hc : c ≠ 0) : Rs C w s.h t.h v c s v' c t := ⟨rfl, w, w.refl, h, Fr.refl _ _ _, fun h0 => absurd h0 hc⟩
theorem Rs.done {w : Wd} {s t : MSt} (h : Va C w s t) {x y : Vl} (hv : VW C w x y) : Rs C w s.h t.h [x] 0 s [y] 0 t := ⟨rfl, w, w.refl, h, Fr.refl _ _ _, fun _ => VRs_one.2 ⟨y, rfl, hv⟩⟩
theorem Rs.back {w w' : Wd} {h g h1 g1 : Hp} {v v' : List Vl} {c c' : Int} {s t : MSt} (hw : w.le w') (hf : Fr w w' h g h1 g1) (k : Rs C w' h1 g1 v c s v' c' t) : Rs C w h g v c s v' c' t := by
 obtain ⟨h1, w2, h2, h3, h4, h5⟩ := k
 exact ⟨h1, w2, Wd.trans hw h2, h3, hf.trans h4, h5⟩
theorem Rs.fail {w : Wd} {h g : Hp} {v v' z z' : List Vl} {c c' : Int} {s t : MSt} (k : Rs C w h g v c s v' c' t) (hc : c ≠ 0) : Rs C w h g z c s z' c' t := by
 obtain ⟨rfl, w2, h2, h3, h4, _⟩ := k
 exact ⟨rfl, w2, h2, h3, h4, fun h0 => absurd h0 hc⟩
def SmL (C : CR) (K : List Vl) (n : Int) (w : Wd) (e e' : EnvM) : List Trm → List Trm → Prop
 | [], l' => l' = []
 | t :: l, l' => ∃ t' m, l' = t' :: m ∧ Sm C K n w (.ev t e) (.ev t' e') ∧ SmL C K n w e e' l m
theorem SmL.up {n : Int} {w w' : Wd} {e e' : EnvM} (hw : w.le w') : ∀ {l l' : List Trm}, SmL C K n w e e' l l' → SmL C K n w' e e' l l'
 | [], l', h => h
 | t :: l, l', h => by
  obtain ⟨t', m, rfl, h1, h2⟩ := h
  exact ⟨t', m, rfl, h1.up hw, h2.up hw⟩
theorem SmL.all (hC : C.mono) {n : Int} {e e' : EnvM} : ∀ {l l' : List Trm} {w : Wd}, SmL C K n w e e' l l' → Sm C K n w (.all l e) (.all l' e')
 | [], l', w, h => by
  intro w1 hw s t hV hn v c s' h1 v' c' t' h2 _ _
  rw [show l' = [] from h] at h2
  cases h1
  cases h2
  exact ⟨rfl, w1, w1.refl, hV, Fr.refl _ _ _, fun _ => VRs_nil.2 rfl⟩
 | x :: l, l', w, h => by
  obtain ⟨x', m, rfl, hx, hl⟩ := h
  intro w1 hw s t hV hn v c s' h1 v' c' t' h2 hc hc'
  cases h1 with
  | allE e1 n1 =>
   cases h2 with
   | allE e2 n2 => exact (hx w1 hw s t hV hn _ _ _ e1 _ _ _ e2 hc hc').fail n1
   | allC e2 _ => exact absurd (hx w1 hw s t hV hn _ _ _ e1 _ _ _ e2 hc (by decide)).1.symm n1
   | allX e2 _ _ => exact absurd (hx w1 hw s t hV hn _ _ _ e1 _ _ _ e2 hc (by decide)).1.symm n1
  | @allC _ _ _ _ x1 s1 xs1 _ e1 r1 =>
   cases h2 with
   | allE e2 n2 => exact absurd (hx w1 hw s t hV hn _ _ _ e1 _ _ _ e2 (by decide) hc').1 n2
   | allC e2 r2 =>
    obtain ⟨_, w2, k1, k2, f1, k3⟩ := hx w1 hw s t hV hn _ _ _ e1 _ _ _ e2 (by decide) (by decide)
    obtain ⟨_, w3, k4, k5, f2, k6⟩ := SmL.all hC hl w2 (Wd.trans hw k1) _ _ k2 (Int.le_trans e1.grow.2.2 hn) _ _ _ r1 _ _ _ r2 (by decide) (by decide)
    exact ⟨rfl, w3, Wd.trans k1 k4, k5, f1.trans f2, fun _ => VRs_mk (VW.up hC k4 ((VRs_two.1 (k3 rfl)).1)) (k6 rfl)⟩
   | allX e2 r2 n2 =>
    obtain ⟨_, w2, k1, k2, f1, k3⟩ := hx w1 hw s t hV hn _ _ _ e1 _ _ _ e2 (by decide) (by decide)
    exact absurd (SmL.all hC hl w2 (Wd.trans hw k1) _ _ k2 (Int.le_trans e1.grow.2.2 hn) _ _ _ r1 _ _ _ r2 (by decide) hc').1 n2
  | allX e1 r1 n1 =>
   cases h2 with
   | allE e2 n2 => exact absurd (hx w1 hw s t hV hn _ _ _ e1 _ _ _ e2 (by decide) hc').1 n2
   | allC e2 r2 =>
    obtain ⟨_, w2, k1, k2, f1, k3⟩ := hx w1 hw s t hV hn _ _ _ e1 _ _ _ e2 (by decide) (by decide)
    exact absurd (SmL.all hC hl w2 (Wd.trans hw k1) _ _ k2 (Int.le_trans e1.grow.2.2 hn) _ _ _ r1 _ _ _ r2 hc (by decide)).1.symm n1
   | allX e2 r2 n2 =>
    obtain ⟨_, w2, k1, k2, f1, k3⟩ := hx w1 hw s t hV hn _ _ _ e1 _ _ _ e2 (by decide) (by decide)
    exact Rs.back k1 f1 ((SmL.all hC hl w2 (Wd.trans hw k1) _ _ k2 (Int.le_trans e1.grow.2.2 hn) _ _ _ r1 _ _ _ r2 hc hc').fail n1)
theorem VRs_spr {C : Clo → Clo → Prop} {B : Nat → Nat → Prop} {l m : List Vl} (h : VRs C B l m) (k : Nat) (r : Bool) : (sprV l k r = none ∧ sprV m k r = none) ∨ ∃ xs ys, sprV l k r = some xs ∧ sprV m k r = some ys ∧ VRs C B xs ys := by
 have hl := VRs_len h
 unfold sprV
 rw [hl]
 split
 ·exact .inr ⟨_, _, rfl, rfl, VRs_append (VRs_take _ h) (VRs_mk (VR_lst (VRs_drop _ h)) (VRs_nil.2 rfl))⟩
 ·split
  ·exact .inr ⟨_, _, rfl, rfl, h⟩
  ·exact .inl ⟨rfl, rfl⟩
theorem sprLen {l xs : List Vl} {k : Nat} {r : Bool} (h1 : r = true → 1 ≤ k) (h : sprV l k r = some xs) : xs.length = k := by
 unfold sprV at h
 split at h
 ·rename_i hc
  have := h1 hc.1
  rw [← Option.some.inj h]
  simp
  omega
 ·split at h
  ·rename_i hc
   rw [← Option.some.inj h, hc.2]
  ·cases h
theorem VW.k {w : Wd} {x y : Vl} (h : VW C w x y) : y.k = x.k := (VR_k h).1
theorem Sm.calls {n : Int} (hc : ∀ w f g, C w f g → CallSm C K n w f g) {j : Jd} {s : MSt} {v : List Vl} {c : Int} {s' : MSt} (h : Ev K j s v c s') : match j with
  | .call f l => ∀ w t f' l', Va C w s t → s.fuel ≤ n → VW C w f f' → VWs C w l l' → ∀ v' c' t', Ev K (.call f' l') t v' c' t' → c ≠ 8 → c' ≠ 8 → Rs C w s.h t.h v c s' v' c' t'
  | .prim p l => ∀ w t l', Va C w s t → s.fuel ≤ n → VWs C w l l' → ∀ v' c' t', Ev K (.prim p l') t v' c' t' → c ≠ 8 → c' ≠ 8 → Rs C w s.h t.h v c s' v' c' t'
  | _ => True := by
 have hE : ∀ {w : Wd} (id : Nat), VW C w (escV id) (escV id) := fun id => VR_bare rfl (by show ¬(10 : Int) = 8 ∧ ¬(10 : Int) = 11; decide)
 have hnew : ∀ {w s t}, Va C w s t → Va C w ⟨s.fuel, s.out, s.alive ++ [true], s.to, s.val, s.h⟩ ⟨t.fuel, t.out, t.alive ++ [true], t.to, t.val, t.h⟩ := fun h =>
  ⟨h.out, by show _ ++ [true] = _ ++ [true]; rw [h.alive], h.to, h.val, h.pm, h.pf, h.pg, h.ij, h.mf, h.mg, h.ep⟩
 have hset : ∀ {w s t} (i : Nat), Va C w s t → Va C w ⟨s.fuel, s.out, s.alive.set i false, s.to, s.val, s.h⟩ ⟨t.fuel, t.out, t.alive.set i false, t.to, t.val, t.h⟩ := fun i h =>
  ⟨h.out, by show List.set _ _ _ = List.set _ _ _; rw [h.alive], h.to, h.val, h.pm, h.pf, h.pg, h.ij, h.mf, h.mg, h.ep⟩
 induction h with
 | @calP f l s v c s' hk h1 ih =>
  intro w t f' l' hV hn hf hl v' c' t' h2 n1 n2
  have hk' := hf.k
  cases h2 with
  | calP hk2 h2 =>
   rw [(VR_k hf).2.1] at h2
   exact ih w t l' hV hn hl _ _ _ h2 n1 n2
  | calN hk2 | calD hk2 | calJ hk2 | calK hk2 | cal hk2 => exfalso; omega
  | calB h8 h9 h10 => exfalso; omega
 | @calN f l s hk hl1 =>
  intro w t f' l' hV hn hf hl v' c' t' h2 n1 n2
  have hk' := hf.k
  have hlen := VRs_len hl
  cases h2 with
  | calP hk2 | calK hk2 | cal hk2 => exfalso; omega
  | calD hk2 | calJ hk2 => exact absurd (by rw [← hlen]; rfl) hl1
  | calN hk2 => exact Rs.err hV _ _ (by decide)
  | calB h8 h9 h10 => exfalso; omega
 | @calD f x s hk ha =>
  intro w t f' l' hV hn hf hl v' c' t' h2 n1 n2
  have hk' := hf.k
  have hn' := (VR_k hf).2.1
  have hlen := VRs_len hl
  cases h2 with
  | calP hk2 | calK hk2 | cal hk2 => exfalso; omega
  | calN hk2 hl2 => exact absurd hlen hl2
  | calD hk2 ha2 => exact Rs.err hV _ _ (by decide)
  | calJ hk2 ha2 =>
   rw [hn', hV.alive, ha] at ha2
   cases ha2
  | calB h8 h9 h10 => exfalso; omega
 | @calJ f x s hk ha =>
  intro w t f' l' hV hn hf hl v' c' t' h2 n1 n2
  have hk' := hf.k
  have hn' := (VR_k hf).2.1
  have hlen := VRs_len hl
  cases h2 with
  | calP hk2 | calK hk2 | cal hk2 => exfalso; omega
  | calN hk2 hl2 => exact absurd hlen hl2
  | calD hk2 ha2 =>
   rw [hn', hV.alive, ha] at ha2
   cases ha2
  | calJ hk2 ha2 => exact ⟨rfl, w, w.refl, ⟨hV.out, hV.alive, hn', (VRs_two.1 hl).1, hV.pm, hV.pf, hV.pg, hV.ij, hV.mf, hV.mg, hV.ep⟩, Fr.refl _ _ _, fun h => absurd h (by decide)⟩
  | calB h8 h9 h10 => exfalso; omega
 | @calK f l s cl hk hp hx =>
  intro w t f' l' hV hn hf hl v' c' t' h2 n1 n2
  have hk' := hf.k
  obtain ⟨f1, g1, e1, e2, hcl⟩ := ((VR_eq f f').1 hf).2.2.1 hk
  rw [hp] at e1
  obtain rfl := Option.some.inj e1
  obtain ⟨c1, c2, c3, _⟩ := hc w _ _ hcl
  cases h2 with
  | calP hk2 | calN hk2 | calD hk2 | calJ hk2 => exfalso; omega
  | calK hk2 => exact Rs.err hV _ _ (by decide)
  | cal hk2 hp2 hx2 _ _ =>
   rw [e2] at hp2
   obtain rfl := Option.some.inj hp2
   rw [c1, c2] at hx2
   rcases VRs_spr hl cl.v.length cl.rest with ⟨_, h4⟩ | ⟨xs, ys, h3, _⟩
   ·rw [h4] at hx2; cases hx2
   ·rw [h3] at hx; cases hx
  | calB h8 h9 h10 => exfalso; omega
 | @cal f l s cl xs az v c s' hk hp hx ha h1 ih =>
  intro w t f' l' hV hn hf hl v' c' t' h2 n1 n2
  have hk' := hf.k
  obtain ⟨f1, g1, e1, e2, hcl⟩ := ((VR_eq f f').1 hf).2.2.1 hk
  rw [hp] at e1
  obtain rfl := Option.some.inj e1
  obtain ⟨c1, c2, c3, c4⟩ := hc w _ _ hcl
  cases h2 with
  | calP hk2 | calN hk2 | calD hk2 | calJ hk2 => exfalso; omega
  | calK hk2 hp2 hx2 =>
   rw [e2] at hp2
   obtain rfl := Option.some.inj hp2
   rw [c1, c2] at hx2
   rcases VRs_spr hl cl.v.length cl.rest with ⟨h3, _⟩ | ⟨xs, ys, _, h4, _⟩
   ·rw [h3] at hx; cases hx
   ·rw [h4] at hx2; cases hx2
  | cal hk2 hp2 hx2 ha2 h2 =>
   rw [e2] at hp2
   obtain rfl := Option.some.inj hp2
   rw [c1, c2] at hx2
   rcases VRs_spr hl cl.v.length cl.rest with ⟨h3, _⟩ | ⟨xs', ys', h3, h4, h5⟩
   ·rw [h3] at hx; cases hx
   ·rw [h3] at hx
    obtain rfl := Option.some.inj hx
    rw [h4] at hx2
    obtain rfl := Option.some.inj hx2
    exact c4 w w.refl s t hV hn _ _ h5 (sprLen c3 h3) az _ ha ha2 _ _ _ h1 _ _ _ h2 n1 n2
  | calB h8 h9 h10 => exfalso; omega
 | @calB f l s h8 h9 h10 =>
  intro w t f' l' hV hn hf hl v' c' t' h2 n1 n2
  have hk' := hf.k
  cases h2 with
  | calP hk2 | calN hk2 | calD hk2 | calJ hk2 | calK hk2 | cal hk2 => exfalso; omega
  | calB _ _ _ => exact Rs.err hV _ _ (by decide)
 | @pN p l s ht =>
  intro w t l' hV hn hl v' c' t' h2 n1 n2
  have hlen := VRs_len hl
  cases h2 with
  | pN => exact Rs.err hV _ _ (by decide)
  | pR | pE | pJ | pL | pA =>
   simp only [List.length_cons, List.length_nil] at hlen
   rw [← hlen] at ht
   first
    | exact absurd (show takB 28 1 = false from ht) (by decide)
    | exact absurd (show takB 29 1 = false from ht) (by decide)
    | exact absurd (show takB 30 2 = false from ht) (by decide)
  | pS _ ht2 => rw [hlen, ht] at ht2; cases ht2
 | @pR x s =>
  intro w t l' hV hn hl v' c' t' h2 n1 n2
  have hlen := VRs_len hl
  cases h2 with
  | pN ht2 => rw [hlen] at ht2; exact absurd (show takB 28 1 = false from ht2) (by decide)
  | pR => exact ⟨rfl, w, w.refl, ⟨hV.out, hV.alive, hV.to, (VRs_two.1 hl).1, hV.pm, hV.pf, hV.pg, hV.ij, hV.mf, hV.mg, hV.ep⟩, Fr.refl _ _ _, fun h => absurd h (by decide)⟩
  | pS hn2 => exfalso; omega
 | @pE f s v c s' h1 hno ih =>
  intro w t l' hV hn hl v' c' t' h2 n1 n2
  have hlen := VRs_len hl
  cases h2 with
  | pN ht2 => rw [hlen] at ht2; exact absurd (show takB 29 1 = false from ht2) (by decide)
  | pE h2 hno2 =>
   rw [hV.alive] at h2
   obtain ⟨e, w2, k1, k2, f1, k3⟩ := ih w _ _ _ (hnew hV) hn (VRs_two.1 hl).1 (VRs_mk (hE _) (VRs_nil.2 rfl)) _ _ _ (by rw [hV.alive]; exact h2) n1 n2
   rw [hV.alive]
   exact ⟨e, w2, k1, hset _ k2, f1, k3⟩
  | pJ h2 hto2 =>
   rw [hV.alive] at h2 hto2
   obtain ⟨e, w2, k1, k2, f1, k3⟩ := ih w _ _ _ (hnew hV) hn (VRs_two.1 hl).1 (VRs_mk (hE _) (VRs_nil.2 rfl)) _ _ _ (by rw [hV.alive]; exact h2) n1 (by decide)
   exact absurd ⟨e.symm, by rw [← k2.to]; exact hto2⟩ hno
  | pS hn2 => exfalso; omega
 | @pJ f s v s' h1 hto ih =>
  intro w t l' hV hn hl v' c' t' h2 n1 n2
  have hlen := VRs_len hl
  cases h2 with
  | pN ht2 => rw [hlen] at ht2; exact absurd (show takB 29 1 = false from ht2) (by decide)
  | pE h2 hno2 =>
   rw [hV.alive] at h2 hno2
   obtain ⟨e, w2, k1, k2, f1, k3⟩ := ih w _ _ _ (hnew hV) hn (VRs_two.1 hl).1 (VRs_mk (hE _) (VRs_nil.2 rfl)) _ _ _ (by rw [hV.alive]; exact h2) (by decide) n2
   exact absurd ⟨e, by rw [k2.to]; exact hto⟩ hno2
  | pJ h2 hto2 =>
   rw [hV.alive] at h2
   obtain ⟨e, w2, k1, k2, f1, k3⟩ := ih w _ _ _ (hnew hV) hn (VRs_two.1 hl).1 (VRs_mk (hE _) (VRs_nil.2 rfl)) _ _ _ (by rw [hV.alive]; exact h2) (by decide) (by decide)
   rw [hV.alive]
   exact ⟨rfl, w2, k1, hset _ k2, f1, fun _ => VRs_mk k2.val (VRs_nil.2 rfl)⟩
  | pS hn2 => exfalso; omega
 | @pL f x s hk =>
  intro w t l' hV hn hl v' c' t' h2 n1 n2
  have hlen := VRs_len hl
  cases h2 with
  | pN ht2 => rw [hlen] at ht2; exact absurd (show takB 30 2 = false from ht2) (by decide)
  | pL _ => exact Rs.err hV _ _ (by decide)
  | pA hk2 _ =>
   have := (VR_its _ (VRs_two.1 (VRs_two.1 hl).2).1).2
   exact absurd (by rw [← (VR_k this).1]; exact hk2) hk
  | pS hn2 => exfalso; omega
 | @pA f x s v c s' hk h1 ih =>
  intro w t l' hV hn hl v' c' t' h2 n1 n2
  have hlen := VRs_len hl
  cases h2 with
  | pN ht2 => rw [hlen] at ht2; exact absurd (show takB 30 2 = false from ht2) (by decide)
  | pL hk2 =>
   have := (VR_its _ (VRs_two.1 (VRs_two.1 hl).2).1).2
   exact absurd (by rw [(VR_k this).1]; exact hk) hk2
  | pA hk2 h2 => exact ih w t _ _ hV hn (VRs_two.1 hl).1 (VR_its _ (VRs_two.1 (VRs_two.1 hl).2).1).1 _ _ _ h2 n1 n2
  | pS hn2 => exfalso; omega
 | @pS p l s hn1 ht =>
  intro w t l' hV hn hl v' c' t' h2 n1 n2
  have hlen := VRs_len hl
  cases h2 with
  | pN ht2 => rw [hlen, ht] at ht2; cases ht2
  | pR | pE | pJ | pL | pA => exfalso; omega
  | pS _ _ =>
   obtain ⟨k1, k2, k3⟩ := VR_sim (C := C w) (B := w.m) p hl
   refine ⟨k2, w, w.refl, ⟨?_, hV.alive, hV.to, hV.val, hV.pm, hV.pf, hV.pg, hV.ij, hV.mf, hV.mg, hV.ep⟩, Fr.refl _ _ _, fun _ => VRs_mk k1 (VRs_nil.2 rfl)⟩
   show t.out ++ _ = s.out ++ _
   rw [k3, hV.out]
 | _ => trivial
end
end Go.Cb
namespace Go.Cb
open Go.Proofs
set_option maxRecDepth 100000
set_option maxHeartbeats 4000000
theorem hget_none : ∀ {h : Hp} {a : Nat}, a ∉ h.map (fun c => c.1) → hget h a = none
 | [], _, _ => rfl
 | c :: h, a, hn => by
  rw [List.map_cons, List.mem_cons, not_or] at hn
  rw [hget, if_neg (Ne.symm hn.1), hget_none hn.2]
theorem hget_dom : ∀ {h : Hp} {a : Nat} {x : Vl} {r : Bool}, hget h a = some (x, r) → a ∈ h.map (fun c => c.1)
 | [], _, _, _, hg => by cases hg
 | c :: h, a, x, r, hg => by
  rw [hget] at hg
  by_cases hc : c.1 = a
  ·rw [← hc, List.map_cons]; exact List.mem_cons_self ..
  ·rw [if_neg hc] at hg
   exact List.mem_cons_of_mem _ (hget_dom hg)
theorem hget_put_same : ∀ {h : Hp} {a : Nat} {y x : Vl} {r : Bool}, hget h a = some (y, r) → hget (hput h a x) a = some (x, r)
 | c :: h, a, y, x, r, hg => by
  rw [hget] at hg
  rw [hput]
  by_cases hc : c.1 = a
  ·rw [if_pos hc] at hg ⊢
   rw [hget, if_pos hc]
   obtain ⟨c1, c2, c3⟩ := c
   cases hg
   rfl
  ·rw [if_neg hc] at hg ⊢
   rw [hget, if_neg hc]
   exact hget_put_same hg
theorem hget_put_other : ∀ {h : Hp} {a b : Nat} {x : Vl}, a ≠ b → hget (hput h b x) a = hget h a
 | [], _, _, _, _ => rfl
 | c :: h, a, b, x, hn => by
  rw [hput]
  by_cases hc : c.1 = b
  ·rw [if_pos hc, hget, hget]
   have h1 : ¬c.1 = a := fun e => hn (e.symm.trans hc)
   rw [if_neg h1, if_neg h1]
  ·rw [if_neg hc, hget, hget, hget_put_other hn]
theorem hput_dom : ∀ (h : Hp) (a : Nat) (x : Vl), (hput h a x).map (fun c => c.1) = h.map (fun c => c.1)
 | [], _, _ => rfl
 | c :: h, a, x => by
  rw [hput]
  by_cases hc : c.1 = a
  ·rw [if_pos hc]; rfl
  ·rw [if_neg hc, List.map_cons, List.map_cons, hput_dom h]
def HLe (h h' : Hp) : Prop := ∀ a x r, hget h a = some (x, r) → hget h' a = some (x, r)
theorem HLe.refl (h : Hp) : HLe h h := fun _ _ _ e => e
theorem HLe.trans {h h' h2 : Hp} (k : HLe h h') (k' : HLe h' h2) : HLe h h2 := fun a x r e => k' a x r (k a x r e)
theorem HLe.cons {h : Hp} {a : Nat} {x : Vl} {r : Bool} (hn : a ∉ h.map (fun c => c.1)) : HLe h ((a, x, r) :: h) := fun b y q e => by
 rw [hget]
 by_cases hb : a = b
 ·subst hb
  exact absurd (hget_dom e) hn
 ·exact (if_neg hb).trans e
section
variable {C : CR} {w : Wd} {s t : MSt}
def unS (w : Wd) (a : Nat) : Prop := (∀ b, ¬w.m a b) ∧ (∀ x, ¬w.g a x) ∧ ∀ b, ¬w.e a b
def unT (w : Wd) (b : Nat) : Prop := (∀ a, ¬w.m a b) ∧ (∀ y, ¬w.f b y) ∧ ∀ a, ¬w.e a b
theorem Va.noS (h : Va C w s t) {a : Nat} (ha : hget s.h a = none) : unS w a :=
 ⟨fun b hb => (by obtain ⟨x, y, h1, _⟩ := h.pm a b hb; rw [ha] at h1; cases h1), fun x hx => (by rw [h.pg a x hx] at ha; cases ha), fun b hb => (by obtain ⟨x, y, h1, _⟩ := h.ep.pe a b hb; rw [ha] at h1; cases h1)⟩
theorem Va.noT (h : Va C w s t) {b : Nat} (hb : hget t.h b = none) : unT w b :=
 ⟨fun a ha => (by obtain ⟨x, y, _, h1, _⟩ := h.pm a b ha; rw [hb] at h1; cases h1), fun x hx => (by rw [h.pf b x hx] at hb; cases hb), fun a ha => (by obtain ⟨x, y, _, h1, _⟩ := h.ep.pe a b ha; rw [hb] at h1; cases h1)⟩
def Sam (s s' : MSt) : Prop := s'.out = s.out ∧ s'.alive = s.alive ∧ s'.to = s.to ∧ s'.val = s.val
theorem Sam.refl (s : MSt) : Sam s s := ⟨rfl, rfl, rfl, rfl⟩
theorem Sam.trans {s s1 s2 : MSt} (h : Sam s s1) (k : Sam s1 s2) : Sam s s2 := ⟨k.1.trans h.1, k.2.1.trans h.2.1, k.2.2.1.trans h.2.2.1, k.2.2.2.trans h.2.2.2⟩
theorem Ep.grow {h g h' g' : Hp} (k : Ep C w h g) (h1 : HLe h h') (h2 : HLe g g') : Ep C w h' g' :=
 ⟨fun a b he => by obtain ⟨x, y, e1, e2, e3⟩ := k.pe a b he; exact ⟨x, y, h1 _ _ _ e1, h2 _ _ _ e2, e3⟩, k.em, k.et⟩
theorem Va.sam (h : Va C w s t) {s' t' : MSt} (p : Sam s s') (q : Sam t t') (h1 : HLe s.h s'.h) (h2 : HLe t.h t'.h) : Va C w s' t' :=
 ⟨by rw [q.1, p.1, h.out], by rw [q.2.1, p.2.1, h.alive], by rw [q.2.2.1, p.2.2.1, h.to], by rw [q.2.2.2, p.2.2.2]; exact h.val, fun a b hm => by obtain ⟨x, y, e1, e2, e3⟩ := h.pm a b hm; exact ⟨x, y, h1 _ _ _ e1, h2 _ _ _ e2, e3⟩, fun b y hf => h2 _ _ _ (h.pf b y hf), fun a x hg => h1 _ _ _ (h.pg a x hg), h.ij, h.mf, h.mg, h.ep.grow h1 h2⟩
def Wd.plus (w : Wd) (p : Nat → Nat → Prop) (q r : Nat → Vl → Prop) (u : Nat → Nat → Prop) : Wd := ⟨fun a b => w.m a b ∨ p a b, fun b y => w.f b y ∨ q b y, fun a x => w.g a x ∨ r a x, fun a b => w.e a b ∨ u a b⟩
theorem Wd.le_plus (w : Wd) (p : Nat → Nat → Prop) (q r : Nat → Vl → Prop) (u : Nat → Nat → Prop) : w.le (w.plus p q r u) := ⟨fun _ _ h => .inl h, fun _ _ h => .inl h, fun _ _ h => .inl h, fun _ _ h => .inl h⟩
theorem Va.link (hC : C.mono) (h : Va C w s t) {p : Nat → Nat → Prop} {q r : Nat → Vl → Prop} {u : Nat → Nat → Prop}
  (hp : ∀ a b, p a b → ∃ x y, hget s.h a = some (x, false) ∧ hget t.h b = some (y, false) ∧ VW C (w.plus p q r u) x y) (hij : ∀ a b a' b', p a b → p a' b' → (a = a' ↔ b = b'))
  (hna : ∀ a b, p a b → unS w a ∧ (∀ x, ¬r a x) ∧ ∀ b, ¬u a b) (hnb : ∀ a b, p a b → unT w b ∧ (∀ y, ¬q b y) ∧ ∀ a, ¬u a b)
  (hq : ∀ b y, q b y → hget t.h b = some (y, false) ∧ ∀ a, ¬w.m a b) (hr : ∀ a x, r a x → hget s.h a = some (x, false) ∧ ∀ b, ¬w.m a b)
  (hu : ∀ a b, u a b → (∃ x y, hget s.h a = some (x, false) ∧ hget t.h b = some (y, false) ∧ VW C (w.plus p q r u) x y) ∧ (∀ b, ¬w.m a b) ∧ ∀ a, ¬w.m a b) : Va C (w.plus p q r u) s t := by
 have hw := w.le_plus p q r u
 refine ⟨h.out, h.alive, h.to, VW.up hC hw h.val, ?_, ?_, ?_, ?_, ?_, ?_, ?_, ?_, ?_⟩
 ·rintro a b (h1 | h1)
  ·obtain ⟨x, y, e1, e2, e3⟩ := h.pm a b h1
   exact ⟨x, y, e1, e2, VW.up hC hw e3⟩
  ·exact hp a b h1
 ·rintro b y (h1 | h1)
  ·exact h.pf b y h1
  ·exact (hq b y h1).1
 ·rintro a x (h1 | h1)
  ·exact h.pg a x h1
  ·exact (hr a x h1).1
 ·rintro a b a' b' (h1 | h1) (h2 | h2)
  ·exact h.ij _ _ _ _ h1 h2
  ·exact ⟨fun e => absurd (e ▸ h1) ((hna _ _ h2).1.1 b), fun e => absurd (e ▸ h1) ((hnb _ _ h2).1.1 a)⟩
  ·exact ⟨fun e => absurd (e ▸ h2) ((hna _ _ h1).1.1 b'), fun e => absurd (e ▸ h2) ((hnb _ _ h1).1.1 a')⟩
  ·exact hij _ _ _ _ h1 h2
 ·rintro a b y (h1 | h1) (h2 | h2)
  ·exact h.mf _ _ _ h1 h2
  ·exact (hq b y h2).2 a h1
  ·exact (hnb _ _ h1).1.2.1 y h2
  ·exact (hnb _ _ h1).2.1 y h2
 ·rintro a b x (h1 | h1) (h2 | h2)
  ·exact h.mg _ _ _ h1 h2
  ·exact (hr a x h2).2 b h1
  ·exact (hna _ _ h1).1.2.1 x h2
  ·exact (hna _ _ h1).2.1 x h2
 ·rintro a b (h1 | h1)
  ·obtain ⟨x, y, e1, e2, e3⟩ := h.ep.pe a b h1
   exact ⟨x, y, e1, e2, VW.up hC hw e3⟩
  ·exact (hu a b h1).1
 ·rintro a b b' (h1 | h1) (h2 | h2)
  ·exact h.ep.em _ _ _ h1 h2
  ·exact (hna _ _ h2).1.2.2 b h1
  ·exact (hu a b h1).2.1 b' h2
  ·exact (hna _ _ h2).2.2 b h1
 ·rintro a b a' (h1 | h1) (h2 | h2)
  ·exact h.ep.et _ _ _ h1 h2
  ·exact (hnb _ _ h2).1.2.2 a h1
  ·exact (hu a b h1).2.2 a' h2
  ·exact (hnb _ _ h2).2.2 a h1
theorem Va.put (h : Va C w s t) {a b : Nat} {x y : Vl} (hm : w.m a b) (hv : VW C w x y) : Va C w (addM s (hput s.h a x)) (addM t (hput t.h b y)) := by
 refine ⟨h.out, h.alive, h.to, h.val, ?_, ?_, ?_, h.ij, h.mf, h.mg, ?_, h.ep.em, h.ep.et⟩
 ·intro a' b' hm'
  obtain ⟨x', y', e1, e2, e3⟩ := h.pm a' b' hm'
  by_cases ha : a' = a
  ·have hb := (h.ij _ _ _ _ hm' hm).1 ha
   subst ha hb
   exact ⟨x, y, hget_put_same e1, hget_put_same e2, hv⟩
  ·have hb : b' ≠ b := fun e => ha ((h.ij _ _ _ _ hm' hm).2 e)
   exact ⟨x', y', (hget_put_other ha).trans e1, (hget_put_other hb).trans e2, e3⟩
 ·intro b' y' hf
  exact (hget_put_other (fun e => h.mf _ _ _ hm (e ▸ hf))).trans (h.pf _ _ hf)
 ·intro a' x' hg
  exact (hget_put_other (fun e => h.mg _ _ _ hm (e ▸ hg))).trans (h.pg _ _ hg)
 ·intro a' b' he
  obtain ⟨x', y', e1, e2, e3⟩ := h.ep.pe a' b' he
  exact ⟨x', y', (hget_put_other (fun e => h.ep.em _ _ b he (by rw [e]; exact hm))).trans e1, (hget_put_other (fun e => h.ep.et _ _ a he (by rw [e]; exact hm))).trans e2, e3⟩
end
theorem HLe.dom {h h' : Hp} (k : HLe h h') {a : Nat} (hn : hget h' a = none) : hget h a = none := by
 cases hg : hget h a with
 | none => rfl
 | some q =>
  obtain ⟨x, r⟩ := q
  rw [k a x r hg] at hn
  cases hn
theorem Fr.plus {w : Wd} {h g h' g' : Hp} {p : Nat → Nat → Prop} {q r : Nat → Vl → Prop} {u : Nat → Nat → Prop} (hp : ∀ a b, p a b → hget h a = none ∧ hget g b = none) (hq : ∀ b y, q b y → hget g b = none) (hr : ∀ a x, r a x → hget h a = none) (hu : ∀ a b, u a b → hget h a = none ∧ hget g b = none) (h1 : HLe h h') (h2 : HLe g g') : Fr w (w.plus p q r u) h g h' g' :=
 ⟨fun _ _ _ e _ => h1 _ _ _ e, fun _ _ _ e _ => h2 _ _ _ e, fun a b hm => hm.imp id (hp a b), fun b y hm => hm.imp id (hq b y), fun a x hm => hm.imp id (hr a x), fun a b hm => hm.imp id (hu a b), fun _ e => h1.dom e, fun _ e => h2.dom e⟩
theorem hput_none {h : Hp} {a b : Nat} {x : Vl} (hn : hget (hput h b x) a = none) : hget h a = none := by
 by_cases hab : a = b
 ·subst hab
  cases hg : hget h a with
  | none => rfl
  | some q =>
   obtain ⟨y, r⟩ := q
   rw [hget_put_same hg] at hn
   cases hn
 ·rw [hget_put_other hab] at hn
  exact hn
theorem Fr.put {w : Wd} {h g : Hp} {a b : Nat} {x y : Vl} (hm : w.m a b) : Fr w w h g (hput h a x) (hput g b y) :=
 ⟨fun a' _ _ e hn => (hget_put_other (fun e' => hn b (by rw [e']; exact hm))).trans e, fun b' _ _ e hn => (hget_put_other (fun e' => hn a (by rw [e']; exact hm))).trans e, fun _ _ h => .inl h, fun _ _ h => .inl h, fun _ _ h => .inl h, fun _ _ h => .inl h, fun _ e => hput_none e, fun _ e => hput_none e⟩
section
variable {K : List Vl} {t : Trm} {e : EnvM} {s : MSt} {vs : List Vl} {c : Int} {s' : MSt}
theorem Ev.ev_inv (h : Ev K (.ev t e) s vs c s') (hc : c ≠ 8) : ∃ v, vs = [v] ∧ ndH s.h ∧ Ev K (.go t e) (lessM s) [v] c s' := by
 cases h with
 | dry => exact absurd rfl hc
 | ev h0 hnd hg => exact ⟨_, rfl, hnd, hg⟩
theorem Ev.st_inv (h : Ev K (.go t e) s vs c s') (ho : t.op = 2 ∨ t.op = 5 ∨ t.op = 6 ∨ t.op = 10 ∨ t.op = 12 ∨ (14 ≤ t.op ∧ t.op ≤ 18)) : (c ≠ 0 ∧ vs = [zerV] ∧ ∃ us, Ev K (.all t.t e) s us c s') ∨ ∃ v us s1, vs = [v] ∧ Ev K (.all t.t e) s us 0 s1 ∧ Ev K (.str t us e) s1 [v] c s' := by
 cases h with
 | stE _ ha hc => exact .inl ⟨hc, rfl, _, ha⟩
 | st _ ha hs => exact .inr ⟨_, _, _, rfl, ha, hs⟩
 | _ => exfalso; omega
theorem Ev.all_inv {l : List Trm} (h : Ev K (.all (t :: l) e) s vs c s') : (c ≠ 0 ∧ ∃ v, Ev K (.ev t e) s [v] c s') ∨ ∃ x s1 us, Ev K (.ev t e) s [x] 0 s1 ∧ Ev K (.all l e) s1 us c s' ∧ (c = 0 → vs = x :: us) := by
 cases h with
 | allE h1 hc => exact .inl ⟨hc, _, h1⟩
 | allC h1 h2 => exact .inr ⟨_, _, _, h1, h2, fun _ => rfl⟩
 | allX h1 h2 hc => exact .inr ⟨_, _, _, h1, h2, fun h => absurd h hc⟩
theorem Ev.ref_inv (h : Ev K (.go t e) s vs c s') (ho : t.op = 1) {a : Nat} {x : Vl} (hf : fndM e t.n = some a) (hg : hget s.h a = some (x, false)) : vs = [x] ∧ c = 0 ∧ s' = s := by
 cases h with
 | ref _ hf' hg' _ =>
  rw [hf] at hf'
  cases hf'
  rw [hg] at hg'
  cases hg'
  exact ⟨rfl, rfl, rfl⟩
 | refE _ hf' hg' _ =>
  rw [hf] at hf'
  cases hf'
  rw [hg] at hg'
  cases hg'
 | _ => exfalso; omega
theorem Ev.lam_inv (h : Ev K (.go t e) s vs c s') (ho : t.op = 4) {b : Trm} (hb : t.t = [b]) : vs = [.mk 8 0 0 [] [] (some ⟨t.v, t.n == 1, b, e⟩) none] ∧ c = 0 ∧ s' = s := by
 cases h with
 | lam _ hb' =>
  rw [hb] at hb'
  cases hb'
  exact ⟨rfl, rfl, rfl⟩
 | _ => exfalso; omega
theorem Ev.evRef_inv (h : Ev K (.ev t e) s vs c s') (hc : c ≠ 8) (ho : t.op = 1) {a : Nat} {x : Vl} (hf : fndM e t.n = some a) (hg : hget s.h a = some (x, false)) : vs = [x] ∧ c = 0 ∧ s' = lessM s := by
 obtain ⟨v, rfl, _, hg'⟩ := h.ev_inv hc
 exact hg'.ref_inv ho hf hg
theorem Ev.evLam_inv (h : Ev K (.ev t e) s vs c s') (hc : c ≠ 8) (ho : t.op = 4) {b : Trm} (hb : t.t = [b]) : vs = [.mk 8 0 0 [] [] (some ⟨t.v, t.n == 1, b, e⟩) none] ∧ c = 0 ∧ s' = lessM s := by
 obtain ⟨v, rfl, _, hg'⟩ := h.ev_inv hc
 exact hg'.lam_inv ho hb
end
theorem VRs_snoc {C : Clo → Clo → Prop} {B : Nat → Nat → Prop} : ∀ {l l' : List Vl} {x x' : Vl}, VRs C B (l ++ [x]) (l' ++ [x']) → VR C B x x' := fun {l l' x x'} h => by
 have hl := VRs_len h
 rw [List.length_append, List.length_append, List.length_singleton, List.length_singleton] at hl
 have := VRs_get h l.length (by simp) (by simp; omega)
 rw [List.getElem_append_right (Nat.le_refl _), List.getElem_append_right (by omega)] at this
 simpa using this
theorem Sm.str {C : CR} {K : List Vl} {n : Int} (hC : C.mono) (hc : ∀ w f g, C w f g → CallSm C K n w f g) {t t' : Trm} {e e' : EnvM} (ho : t'.op = t.op) (hn : t'.n = t.n) (hop : t.op = 5 ∨ t.op = 6 ∨ t.op = 10 ∨ t.op = 12 ∨ (15 ≤ t.op ∧ t.op ≤ 18))
  {w : Wd} {s r : MSt} {l l' : List Vl} (hV : Va C w s r) (hf : s.fuel ≤ n) (hl : VWs C w l l') {v v' : List Vl} {c c' : Int} {s' r' : MSt} (h : Ev K (.str t l e) s v c s') (h' : Ev K (.str t' l' e') r v' c' r') (n1 : c ≠ 8) (n2 : c' ≠ 8) : Rs C w s.h r.h v c s' v' c' r' := by
 have hlen := VRs_len hl
 cases h with
 | seq o =>
  cases h' with
  | seq o' => exact Rs.done hV (VRs_snoc hl)
  | _ => exfalso; omega
 | stC o => exfalso; omega
 | stX o => exfalso; omega
 | chk o hk =>
  cases h' with
  | chk o' hk' => exact Rs.done hV (VRs_two.1 hl).1
  | chkE o' hk' => exact absurd ((VW.k (VRs_two.1 hl).1) ▸ hk') hk
  | _ => exfalso; omega
 | chkE o hk =>
  cases h' with
  | chk o' hk' => exact absurd ((VW.k (VRs_two.1 hl).1).trans hk) hk'
  | chkE o' hk' => exact Rs.err hV _ _ (by decide)
  | _ => exfalso; omega
 | @box _ _ _ x a o hd =>
  cases h' with
  | @box _ _ _ y b o' hd' =>
   have hx := (VRs_two.1 hl).1
   have h1 := List.nodup_cons.1 hd
   have h2 := List.nodup_cons.1 hd'
   have k1 : HLe s.h (addM s ((a, x, false) :: s.h)).h := HLe.cons h1.1
   have k2 : HLe r.h (addM r ((b, y, false) :: r.h)).h := HLe.cons h2.1
   have hg := hV.sam (s' := addM s ((a, x, false) :: s.h)) (t' := addM r ((b, y, false) :: r.h)) ⟨rfl, rfl, rfl, rfl⟩ ⟨rfl, rfl, rfl, rfl⟩ k1 k2
   have hle := w.le_plus (fun a' b' => a' = a ∧ b' = b) (fun _ _ => False) (fun _ _ => False) fun _ _ => False
   have hp := hg.link hC (p := fun a' b' => a' = a ∧ b' = b) (q := fun _ _ => False) (r := fun _ _ => False) (u := fun _ _ => False) (fun a' b' e => ⟨x, y, by rw [e.1]; show hget ((a, x, false) :: s.h) a = _; rw [hget, if_pos rfl], by rw [e.2]; show hget ((b, y, false) :: r.h) b = _; rw [hget, if_pos rfl], VW.up hC hle hx⟩)
    (fun a1 b1 a2 b2 e1 e2 => by rw [e1.1, e1.2, e2.1, e2.2]; simp) (fun a' b' e => ⟨by rw [e.1]; exact hV.noS (hget_none h1.1), fun _ h => h, fun _ h => h⟩) (fun a' b' e => ⟨by rw [e.2]; exact hV.noT (hget_none h2.1), fun _ h => h, fun _ h => h⟩) (fun _ _ h => h.elim) (fun _ _ h => h.elim) (fun _ _ h => h.elim)
   refine ⟨rfl, _, hle, hp, Fr.plus (fun a' b' e => ⟨by rw [e.1]; exact hget_none h1.1, by rw [e.2]; exact hget_none h2.1⟩) (fun _ _ h => h.elim) (fun _ _ h => h.elim) (fun _ _ h => h.elim) k1 k2, fun _ => VRs_one.2 ⟨_, rfl, ?_⟩⟩
   rw [VR_eq]
   exact ⟨⟨rfl, rfl, rfl, rfl⟩, VRs_nil.2 rfl, fun h => absurd (show (11 : Int) = 8 from h) (by decide), fun _ => ⟨a, b, rfl, rfl, .inr ⟨rfl, rfl⟩⟩⟩
  | _ => exfalso; omega
 | bad o hk =>
  cases h' with
  | bad o' hk' => exact Rs.err hV _ _ (by decide)
  | get o' hk' | put o' hk' | putE o' hk' => exact absurd ((VW.k (VRs_two.1 hl).1) ▸ hk') hk
  | _ => exfalso; omega
 | @get _ _ _ x a y q o hk hxa hg =>
  cases h' with
  | bad o' hk' => exact absurd ((VW.k (VRs_two.1 hl).1).trans hk) hk'
  | get o' hk' hxb hg' =>
   obtain ⟨a1, b1, e1, e2, hm⟩ := ((VR_eq _ _).1 (VRs_two.1 hl).1).2.2.2 hk
   rw [hxa] at e1; cases e1
   rw [hxb] at e2; cases e2
   obtain ⟨x', y', k1, k2, k3⟩ := hV.pm _ _ hm
   rw [hg] at k1; cases k1
   rw [hg'] at k2; cases k2
   exact Rs.done hV k3
  | put o' | putE o' => exfalso; omega
  | _ => exfalso; omega
 | @put _ _ _ x z a y q o hk hxa hg hu =>
  cases h' with
  | bad o' hk' => exact absurd ((VW.k (VRs_two.1 hl).1).trans hk) hk'
  | put o' hk' hxb hg' hu' =>
   obtain ⟨a1, b1, e1, e2, hm⟩ := ((VR_eq _ _).1 (VRs_two.1 hl).1).2.2.2 hk
   rw [hxa] at e1; cases e1
   rw [hxb] at e2; cases e2
   exact ⟨rfl, w, w.refl, hV.put hm (VRs_two.1 (VRs_two.1 hl).2).1, Fr.put hm, fun _ => VRs_one.2 ⟨_, rfl, VR_knd 5 (by decide)⟩⟩
  | putE o' hk' hxb hg' hu' =>
   obtain ⟨a1, b1, e1, e2, hm⟩ := ((VR_eq _ _).1 (VRs_two.1 hl).1).2.2.2 hk
   rw [hxa] at e1; cases e1
   rw [hxb] at e2; cases e2
   obtain ⟨x', y', k1, k2, k3⟩ := hV.pm _ _ hm
   rw [hg] at k1; cases k1
   rw [hg'] at k2; cases k2
   exact absurd ⟨by omega, (VW.k k3).symm.trans hu'⟩ hu
  | _ => exfalso; omega
 | @putE _ _ _ x z a y q o hk hxa hg hu =>
  cases h' with
  | bad o' hk' => exact absurd ((VW.k (VRs_two.1 hl).1).trans hk) hk'
  | put o' hk' hxb hg' hu' =>
   obtain ⟨a1, b1, e1, e2, hm⟩ := ((VR_eq _ _).1 (VRs_two.1 hl).1).2.2.2 hk
   rw [hxa] at e1; cases e1
   rw [hxb] at e2; cases e2
   obtain ⟨x', y', k1, k2, k3⟩ := hV.pm _ _ hm
   rw [hg] at k1; cases k1
   rw [hg'] at k2; cases k2
   exact absurd ⟨by omega, (VW.k k3).trans hu⟩ hu'
  | putE o' hk' hxb hg' hu' => exact Rs.err hV _ _ (by decide)
  | _ => exfalso; omega
 | app o h1 =>
  cases h' with
  | app o' h1' => exact (Sm.calls hc h1) w r _ _ hV hf (VRs_two.1 hl).1 (VRs_two.1 hl).2 _ _ _ h1' n1 n2
  | _ => exfalso; omega
 | prm o h1 =>
  cases h' with
  | prm o' h1' =>
   rw [hn] at h1'
   exact (Sm.calls hc h1) w r _ hV hf hl _ _ _ h1' n1 n2
  | _ => exfalso; omega
end Go.Cb





