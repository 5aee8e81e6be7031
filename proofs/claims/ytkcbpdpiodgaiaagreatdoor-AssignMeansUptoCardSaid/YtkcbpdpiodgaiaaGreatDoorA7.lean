/-
 Contracts: the document's machine: primitives called, escapes.
 Contracts: the document's machine: terms one after the other, terms.
 Contracts: the document's machine: bindings.
 Contracts: the document's machine: Rec and Fix.
 Contracts: the document's machine: a program runs, to any end.
 Plain: what the document's machine keeps: its states, and that a run keeps them.
 Contracts: the document's machine: a run is a run of the relation: lists, calls, primitives, strict terms.
 Contracts: the document's machine: a run is a run of the relation: strict terms, bindings, terms; a program's run.
 Structs of numbers, bools and strings against one another.
 Contracts: a program that is right runs; two programs mean the same.
 Plain: assigned variables in boxes mean the same: terms, programs.
 Contracts: package slices: Clone, ContainsFunc, Backward, of numbers.
 Plain laws: chapter 10, what is right; the document's counts; programs.
 Contracts: variables that are assigned become boxes, the program.
 Contracts: the document's counts, bindings.
 Contracts: the document's bindings; all variables greater.
 Contracts: all variables greater by the same, of any term.
 Contracts: a procedure, converted.
 Contracts: a Fix with assigned variables, converted.
 Contracts: a term, converted.
 Contracts: the document's words for the check of terms.
 Contracts: what is right names what it binds.
 Contracts: a program, converted.
 Contracts: the document's words for assignment conversion.
 The law AssignMeans, as a contract.
-/
import Derived.Laws.StructEq
import Derived.Test.YtkcbpdpiodgaiaaGreatDoorA6
set_option linter.unusedSimpArgs false
set_option linter.unusedVariables false
namespace Go.Cb
open Go.Proofs
set_option maxRecDepth 100000
set_option maxHeartbeats 4000000
instance : ElOf PV.bool .btrue true := ⟨Wk.tt rfl, .cons (Wk.tt rfl) .nil⟩
instance : ElOf PV.bool .bfalse false := ⟨Wk.ff rfl, .cons (Wk.ff rfl) .nil⟩
abbrev setA (s : MSt) (i : Nat) : MSt := ⟨s.fuel, s.out, s.alive.set i false, s.to, s.val, s.h⟩
abbrev newA (s : MSt) : MSt := ⟨s.fuel, s.out, s.alive ++ [true], s.to, s.val, s.h⟩
theorem PCall.goF {P : Program} {f : FuncId} {args args' : List PV} {Γ Γ1 Γ2 : List Ent} {Q K : PV → List Ent → Prop} (h : ACall P f args' Γ1 Q) (hw : WkT args args') [hp : PickL Γ Γ1 Γ2]
  (k : ∀ y Γ1', Q y Γ1' → appE Γ1' Γ2 fun Γ' => K y Γ') : PCall P f args Γ K := by
 refine ⟨.inl (((h.wk hw).frame hp.p).shift ?_)⟩
 rintro y Γ' ⟨Γ1', rfl, hq⟩
 have := k y Γ1' hq
 rw [appE_eq] at this
 exact ⟨y, Γ1' ++ Γ2, Shift.wk (Wk.refl _) (Γ1 := []) (by rw [List.append_nil]), this⟩
section
variable (b : Nat) (K : List Vl) (tk : Tok) (s : MSt) (R : Vl → Int → MSt → Tok → Prop)
theorem escape_c (f : Vl) (he : tk.e = 4) (hs : tk.s = 1) (ha : s.alive.length ≤ 1000000000) (R1 : Vl → Int → MSt → Tok → Prop)
  (hR : ∀ x c s' tk', R1 x c s' tk' → s.alive.length < s'.alive.length ∧ tk'.s = 1 ∧ (c = 100 ∧ s'.to = s.alive.length → R s'.val 0 (setA s' s.alive.length) tk') ∧ (¬(c = 100 ∧ s'.to = s.alive.length) → R x c (setA s' s.alive.length) tk'))
  (hca : ∀ tk1 : Tok, tk1.e = 4 → tk1.s = 1 → ACall Tryz.prog 140 [.ptr b 0, .agg (valC f), .sl 7 ([escV s.alive.length].map Vl.pv) none] (mcE b K tk1 (newA s)) (RetR b K R1)) :
  ACall Tryz.prog 159 [.ptr b 0, .agg (valC f)] (mcE b K tk s) (RetR b K R) := by
 refine ACall.of_body tt_ok Tryz.func159 rfl rfl (n := 54) rfl rfl ?_
 conv => whnf
 repeat' (first|refine aA2 ?_|((first|refine PLenM.map fun _ => ?_|intro _);conv=>whnf)|(refine zX (fun hc=>?_) (fun hc=>?_)<;>(try simp only [SY] at hc)<;>omega))
 refine PCall.goT (hca _ (by assumption) (by assumption)) (.cons (Wk.refl _) (.cons (Wk.refl _) (.cons (SlOf.wk (f := Vl.pv) (l := [escV s.alive.length])) .nil))) ?_
 rintro _ _ ⟨x, c, s', tk', rfl, rfl, hq⟩
 obtain ⟨q1, q2, q3, q4⟩ := hR _ _ _ _ hq
 conv => whnf
 repeat' (first|refine aA2 ?_|((first|refine normN nC ?_|refine normN nD ?_|intro _);conv=>whnf)|(refine zX (fun hc=>?_) (fun hc=>?_)<;>(try simp only [SY] at hc)<;>(conv=>whnf)))
 ·have hc' : c = 100 ∧ s'.to = s.alive.length := by omega
  exact PRet.gen (y := .tup [.agg (valC s'.val), .int .i64 0]) (Γ' := mcE b K tk' (setA s' s.alive.length)) (Wk.refl _) ⟨_, _, _, _, rfl, rfl, q3 hc'⟩
 ·have hc' : ¬(c = 100 ∧ s'.to = s.alive.length) := by omega
  exact PRet.gen (y := .tup [.agg (valC x), .int .i64 c]) (Γ' := mcE b K tk' (setA s' s.alive.length)) (Wk.refl _) ⟨_, _, _, _, rfl, rfl, q4 hc'⟩
theorem takes06_c (n : Int) (k : Nat) (hk : k ≤ 1000000000) : ACallP Tryz.prog 158 [.int .i64 n, .int .i64 k] (.bool (takB n k)) := by
 have h := takes05_c n k hk
 refine ACall.of_body tt_ok Tryz.func158 rfl rfl (n := 8) rfl rfl ?_
 conv => whnf
 repeat' (first|((refine pC (h) wR ?_);conv=>whnf)|(refine zX (fun hc=>?_) (fun hc=>?_)<;>(try simp only [SY] at hc)<;>omega))
 exact PRet.pure (Wk.refl _)
theorem primN_c (n : Int) (l : List Vl) (hl : l.length ≤ 1000000000) (ht : takB n l.length = false) :
  ACall Tryz.prog 141 [.ptr b 0, .int .i64 n, .sl 7 (l.map Vl.pv) none] (mcE b K tk s) (fun y Γ' => y = .tup [.agg (valC zerV), .int .i64 2] ∧ Γ' = mcE b K tk s) := by
 have h := takes06_c n l.length hl
 rw [ht] at h
 refine ACall.of_body tt_ok Tryz.func141 rfl rfl (n := 63) rfl rfl ?_
 conv => whnf
 repeat' (first|refine aA2 ?_|((first|refine pC (h) wR ?_|intro _);conv=>whnf)|(refine zX (fun hc=>?_) (fun hc=>?_)<;>(try simp only [SY] at hc)<;>(conv=>whnf)))
 all_goals exact PRet.gen (y := .tup [.agg (valC zerV), .int .i64 2]) (Γ' := mcE b K tk s) WkR.res ⟨rfl, rfl⟩
theorem primR_c (l : List Vl) (hl : l.length = 1) :
  ACall Tryz.prog 141 [.ptr b 0, .int .i64 28, .sl 7 (l.map Vl.pv) none] (mcE b K tk s) (fun y Γ' => y = .tup [.agg (valC zerV), .int .i64 7] ∧ Γ' = mcE b K tk ⟨s.fuel, s.out, s.alive, s.to, l[0], s.h⟩) := by
 have h := takes06_c 28 l.length (by omega)
 rw [hl, show takB 28 1 = true by decide, ← hl] at h
 refine ACall.of_body tt_ok Tryz.func141 rfl rfl (n := 63) rfl rfl ?_
 conv => whnf
 repeat' (first|refine aA2 ?_|((first|refine normN nC ?_|refine normN nD ?_|refine pC (h) wR ?_|intro _);conv=>whnf)|(refine zX (fun hc=>?_) (fun hc=>?_)<;>(try simp only [SY] at hc)<;>(conv=>whnf)))
 all_goals exact PRet.gen (y := .tup [.agg (valC zerV), .int .i64 7]) (Γ' := mcE b K tk ⟨s.fuel, s.out, s.alive, s.to, l[0], s.h⟩) WkR.res ⟨rfl, rfl⟩
theorem primE_c (l : List Vl) (hl : l.length = 1)
  (hca : ACall Tryz.prog 159 [.ptr b 0, .agg (valC l[0])] (mcE b K tk s) (RetR b K R)) :
  ACall Tryz.prog 141 [.ptr b 0, .int .i64 29, .sl 7 (l.map Vl.pv) none] (mcE b K tk s) (RetR b K R) := by
 have h := takes06_c 29 l.length (by omega)
 rw [hl, show takB 29 1 = true by decide, ← hl] at h
 refine ACall.of_body tt_ok Tryz.func141 rfl rfl (n := 63) rfl rfl ?_
 conv => whnf
 repeat' (first|refine aA2 ?_|((first|refine pC (h) wR ?_|intro _);conv=>whnf)|(refine zX (fun hc=>?_) (fun hc=>?_)<;>(try simp only [SY] at hc)<;>first|omega|(conv=>whnf)))
 refine PCall.goT hca (WkT.refl _) ?_
 rintro _ _ ⟨x, c, s', tk', rfl, rfl, hq⟩
 conv => whnf
 repeat' (first|refine aA2 ?_|((first|refine normN nC ?_|refine normN nD ?_);conv=>whnf)|(refine zX (fun hc=>?_) (fun hc=>?_)<;>(try simp only [SY] at hc)<;>omega))
 all_goals exact PRet.gen (y := .tup [.agg (valC x), .int .i64 c]) (Γ' := mcE b K tk' s') (Wk.refl _) ⟨x, c, s', tk', rfl, rfl, hq⟩
theorem primL_c (l : List Vl) (hl : l.length = 2) (htx : l[1].tx = true) (hi : l[1].its.1.length ≤ 1000000000) (hk : ¬l[1].its.2.k = 4) :
  ACall Tryz.prog 141 [.ptr b 0, .int .i64 30, .sl 7 (l.map Vl.pv) none] (mcE b K tk s) (fun y Γ' => y = .tup [.agg (valC zerV), .int .i64 1] ∧ Γ' = mcE b K tk s) := by
 have h := takes06_c 30 l.length (by omega)
 rw [hl, show takB 30 2 = true by decide, ← hl] at h
 have hit := items6_c l[1] htx hi
 rw [show (l[1].its.2.k == 4) = false by simpa using hk] at hit
 refine ACall.of_body tt_ok Tryz.func141 rfl rfl (n := 63) rfl rfl ?_
 conv => whnf
 repeat' (first|refine aA2 ?_|((first|refine pC (h) wR ?_|refine pC (hit) wR ?_|intro _);conv=>whnf)|(refine zX (fun hc=>?_) (fun hc=>?_)<;>(try simp only [SY] at hc)<;>first|omega|(conv=>whnf)))
 all_goals exact PRet.gen (y := .tup [.agg (valC zerV), .int .i64 1]) (Γ' := mcE b K tk s) WkR.res ⟨rfl, rfl⟩
theorem primA_c (l : List Vl) (hl : l.length = 2) (htx : l[1].tx = true) (hi : l[1].its.1.length ≤ 1000000000) (hk : l[1].its.2.k = 4)
  (hca : ACall Tryz.prog 140 [.ptr b 0, .agg (valC l[0]), .sl 7 (l[1].its.1.map Vl.pv) none] (mcE b K tk s) (RetR b K R)) :
  ACall Tryz.prog 141 [.ptr b 0, .int .i64 30, .sl 7 (l.map Vl.pv) none] (mcE b K tk s) (RetR b K R) := by
 have h := takes06_c 30 l.length (by omega)
 rw [hl, show takB 30 2 = true by decide, ← hl] at h
 have hit := items6_c l[1] htx hi
 rw [show (l[1].its.2.k == 4) = true by simpa using hk] at hit
 refine ACall.of_body tt_ok Tryz.func141 rfl rfl (n := 63) rfl rfl ?_
 conv => whnf
 repeat' (first|refine aA2 ?_|((first|refine pC (h) wR ?_|refine pC (hit) wR ?_|intro _);conv=>whnf)|(refine zX (fun hc=>?_) (fun hc=>?_)<;>(try simp only [SY] at hc)<;>first|omega|(conv=>whnf)))
 refine PCall.goT hca (WkT.refl _) ?_
 rintro _ _ ⟨x, c, s', tk', rfl, rfl, hq⟩
 conv => whnf
 repeat' (first|refine aA2 ?_|((first|refine normN nC ?_|refine normN nD ?_);conv=>whnf)|(refine zX (fun hc=>?_) (fun hc=>?_)<;>(try simp only [SY] at hc)<;>omega))
 all_goals exact PRet.gen (y := .tup [.agg (valC x), .int .i64 c]) (Γ' := mcE b K tk' s') (Wk.refl _) ⟨x, c, s', tk', rfl, rfl, hq⟩
theorem primS_c (n : Int) (hn : n < 28) (l : List Vl) (hl : l.length ≤ 1000000000) (ht : takB n l.length = true) (ho : s.out.length ≤ 1000000000) (hS : SimOk n l) :
  ACall Tryz.prog 141 [.ptr b 0, .int .i64 n, .sl 7 (l.map Vl.pv) none] (mcE b K tk s) (fun y Γ' => y = .tup [.agg (valC (simV n l).1), .int .i64 (simV n l).2.1] ∧ Γ' = mcE b K tk (outM s (simV n l).2.2)) := by
 have h := takes06_c n l.length hl
 rw [ht] at h
 have hs := hS b K tk s ho
 refine ACall.of_body tt_ok Tryz.func141 rfl rfl (n := 63) rfl rfl ?_
 conv => whnf
 repeat' (first|refine aA2 ?_|((first|refine pC (h) wR ?_|intro _);conv=>whnf)|(refine zX (fun hc=>?_) (fun hc=>?_)<;>(try simp only [SY] at hc)<;>first|omega|(conv=>whnf)))
 refine PCall.goF hs (WkT.refl _) ?_
 rintro _ _ ⟨rfl, rfl⟩
 conv => whnf
 repeat' (first|refine aA2 ?_|((first|refine normN nC ?_|refine normN nD ?_);conv=>whnf)|(refine zX (fun hc=>?_) (fun hc=>?_)<;>(try simp only [SY] at hc)<;>omega))
 all_goals exact PRet.gen (y := .tup [.agg (valC (simV n l).1), .int .i64 (simV n l).2.1]) (Γ' := mcE b K tk (outM s (simV n l).2.2)) (Wk.refl _) ⟨rfl, rfl⟩
end
end Go.Cb
namespace Go.Cb
open Go.Proofs
set_option maxRecDepth 100000
set_option maxHeartbeats 4000000
def AllR (b : Nat) (K : List Vl) (R : List Vl → Int → MSt → Tok → Prop) (y : PV) (Γ' : List Ent) : Prop := ∃ x c s' tk', y = .tup [.sl 7 (x.map Vl.pv) none, .int .i64 c] ∧ Γ' = mcE b K tk' s' ∧ R x c s' tk'
section
variable (b : Nat) (K : List Vl)
theorem allR_c (e : EnvM) (l : List Trm) (hl : l.length ≤ 1000000000) (P : Nat → List Vl → MSt → Tok → Prop) (R : List Vl → Int → MSt → Tok → Prop) (s : MSt) (tk : Tok) (h0 : P 0 [] s tk)
  (H : ∀ i m s tk, P i m s tk → ∀ h : i < l.length, ACall Tryz.prog 87 [.ptr b 0, .agg l[i].cells, envPV e, .nil] (mcE b K tk s) (RetR b K fun x c s' tk' => (c = 0 → P (i + 1) (m ++ [x]) s' tk') ∧ (¬c = 0 → R [] c s' tk')))
  (hE : ∀ m s tk, P l.length m s tk → R m 0 s tk) :
  ACall Tryz.prog 114 [.ptr b 0, .sl 4 (l.map Trm.pv) none, envPV e, .nil] (mcE b K tk s) (AllR b K R) := by
 refine ACall.of_body tt_ok Tryz.func114 rfl rfl (n := 39) rfl rfl ?_
 conv => whnf
 skip
 refine PLoop.gh (Ghost.nil 7 140 _) ?_
 refine PLoop.over [8, 9, 10, 11, 12, 13, 14, 15, 16, 17, 18, 19, 20, 21, 22, 23, 24, 25, 26, 27, 28, 29, 30, 31, 32, 33, 34, 35, 36, 37] (fun x : Nat × List Vl × Tok × MSt × Tok => [(10, .sl 7 (x.2.1.map Vl.pv) (some x.2.2.1)), (11, .int .i64 x.1)]) (fun x : Nat × List Vl × Tok × MSt × Tok => .tok x.2.2.1 :: mcE b K x.2.2.2.2 x.2.2.2.1)
  (fun x => x.1 ≤ l.length ∧ x.2.2.1.e = 140 ∧ x.2.1.length = x.1 ∧ P x.1 x.2.1 x.2.2.2.1 x.2.2.2.2) (fun x => l.length - x.1) (0, [], nilTok 7 140, s, tk) ⟨Nat.zero_le _, rfl, rfl, h0⟩ wA ?_
 rintro ⟨i, m, t1, s1, tk1⟩ ⟨hi, ht, hm, hP⟩
 dsimp only at hi ht hm hP ⊢
 have hml : m.length ≤ 1000000000 := by omega
 conv => whnf
 repeat' (first|refine aA2 ?_|((intro _);conv=>whnf)|(refine zX (fun hc=>?_) (fun hc=>?_)<;>(try simp only [SY] at hc)<;>(conv=>whnf)))
 ·have h1 : i < l.length := by omega
  refine PCall.goT (H i m s1 tk1 hP h1) (WkT.refl _) ?_
  rintro _ _ ⟨x, c, s', tk', rfl, rfl, hq, hr⟩
  conv => whnf
  repeat' (first|refine aA2 ?_|((first|refine normN nC ?_|refine normN nD ?_|intro _);conv=>whnf)|(refine zX (fun hc=>?_) (fun hc=>?_)<;>(try simp only [SY] at hc)<;>(conv=>whnf)))
  ·exact PRet.gen (y := .tup [.sl 7 (([] : List Vl).map Vl.pv) none, .int .i64 c]) (Γ' := mcE b K tk' s') (Wk.tup (.cons (Wk.nil' rfl) (.cons (Wk.refl _) .nil))) ⟨[], c, s', tk', rfl, rfl, hr hc⟩
  ·rename_i t2 ht2
   exact loopTo (i + 1, m ++ [x], t2, s', tk') ⟨by show i + 1 ≤ _; omega, ht2, by show (m ++ [x]).length = i + 1; simp; omega, hq hc⟩ (by show l.length - (i + 1) < l.length - i; omega) wA
 ·obtain rfl : i = l.length := by omega
  exact PRet.gen (y := .tup [.sl 7 (m.map Vl.pv) none, .int .i64 0]) (Γ' := mcE b K tk1 s1) (Wk.tup (.cons (Wk.tok _ _ _) (.cons (Wk.refl _) .nil))) ⟨m, 0, s1, tk1, rfl, rfl, hE m s1 tk1 hP⟩
variable (tk : Tok) (s : MSt) (t : Trm) (e : EnvM) (R : Vl → Int → MSt → Tok → Prop)
theorem evD_c (h0 : s.fuel ≤ 0) :
  ACall Tryz.prog 87 [.ptr b 0, .agg t.cells, envPV e, .nil] (mcE b K tk s) (fun y Γ' => y = .tup [.agg (valC zerV), .int .i64 8] ∧ Γ' = mcE b K tk s) := by
 refine ACall.of_body tt_ok Tryz.func87 rfl rfl (n := 181) rfl rfl ?_
 conv => whnf
 repeat' (first|refine aA2 ?_|((intro _);conv=>whnf)|(refine zX (fun hc=>?_) (fun hc=>?_)<;>(try simp only [SY] at hc)<;>first|omega|(conv=>whnf)))
 all_goals exact PRet.gen (y := .tup [.agg (valC zerV), .int .i64 8]) (Γ' := mcE b K tk s) WkR.res ⟨rfl, rfl⟩
theorem evU_c (h0 : 0 < s.fuel ∧ s.fuel ≤ 1000000) (ho : t.op = 13) :
  ACall Tryz.prog 87 [.ptr b 0, .agg t.cells, envPV e, .nil] (mcE b K tk s) (fun y Γ' => y = .tup [.agg (valC (kndV 12)), .int .i64 0] ∧ Γ' = mcE b K tk (lessM s)) := by
 refine ACall.of_body tt_ok Tryz.func87 rfl rfl (n := 181) rfl rfl ?_
 conv => whnf
 repeat' (first|refine aA2 ?_|((intro _);conv=>whnf)|(refine zX (fun hc=>?_) (fun hc=>?_)<;>(try simp only [SY] at hc)<;>first|omega|(conv=>whnf)))
 all_goals exact PRet.gen (y := .tup [.agg (valC (kndV 12)), .int .i64 0]) (Γ' := mcE b K tk (lessM s)) WkR.res ⟨rfl, rfl⟩
theorem evP_c (h0 : 0 < s.fuel ∧ s.fuel ≤ 1000000) (ho : t.op = 11) :
  ACall Tryz.prog 87 [.ptr b 0, .agg t.cells, envPV e, .nil] (mcE b K tk s) (fun y Γ' => y = .tup [.agg (valC (.mk 9 t.n 0 [] [] none none)), .int .i64 0] ∧ Γ' = mcE b K tk (lessM s)) := by
 refine ACall.of_body tt_ok Tryz.func87 rfl rfl (n := 181) rfl rfl ?_
 conv => whnf
 repeat' (first|refine aA2 ?_|((intro _);conv=>whnf)|(refine zX (fun hc=>?_) (fun hc=>?_)<;>(try simp only [SY] at hc)<;>first|omega|(conv=>whnf)))
 all_goals exact PRet.gen (y := .tup [.agg (valC (.mk 9 t.n 0 [] [] none none)), .int .i64 0]) (Γ' := mcE b K tk (lessM s)) WkR.res ⟨rfl, rfl⟩
theorem evR_c (h0 : 0 < s.fuel ∧ s.fuel ≤ 1000000) (ho : t.op = 1) (a : Nat) (hf : fndM e t.n = some a) (x : Vl) (r : Bool) (hg : hget s.h a = some (x, r)) (hu : ¬(r = true ∧ x.k = 12)) :
  ACall Tryz.prog 87 [.ptr b 0, .agg t.cells, envPV e, .nil] (mcE b K tk s) (fun y Γ' => y = .tup [.agg (valC x), .int .i64 0] ∧ Γ' = mcE b K tk (lessM s)) := by
 have hp := place_c e t.n a hf
 obtain ⟨put, hpb, hpu⟩ := hpE_box hg
 refine ACall.of_body tt_ok Tryz.func87 rfl rfl (n := 181) rfl rfl ?_
 conv => whnf
 repeat' (first|refine aA2 ?_|((first|refine normN nC ?_|refine normN nD ?_|refine pC (hp) wR ?_|intro _);conv=>whnf)|(refine zX (fun hc=>?_) (fun hc=>?_)<;>(try simp only [SY] at hc)<;>first|omega|(conv=>whnf)))
 all_goals first
  | exact absurd hc hu
  | exact PRet.gen (y := .tup [.agg (valC x), .int .i64 0]) (Γ' := mcE b K tk (lessM s)) (Wk.refl _) ⟨rfl, rfl⟩
theorem evRE_c (h0 : 0 < s.fuel ∧ s.fuel ≤ 1000000) (ho : t.op = 1) (a : Nat) (hf : fndM e t.n = some a) (x : Vl) (hg : hget s.h a = some (x, true)) (hu : x.k = 12) :
  ACall Tryz.prog 87 [.ptr b 0, .agg t.cells, envPV e, .nil] (mcE b K tk s) (fun y Γ' => y = .tup [.agg (valC zerV), .int .i64 5] ∧ Γ' = mcE b K tk (lessM s)) := by
 have hp := place_c e t.n a hf
 obtain ⟨put, hpb, hpu⟩ := hpE_box hg
 refine ACall.of_body tt_ok Tryz.func87 rfl rfl (n := 181) rfl rfl ?_
 conv => whnf
 repeat' (first|refine aA2 ?_|((first|refine pC (hp) wR ?_|intro _);conv=>whnf)|(refine zX (fun hc=>?_) (fun hc=>?_)<;>(try simp only [SY] at hc)<;>first|omega|(conv=>whnf)))
 all_goals exact PRet.gen (y := .tup [.agg (valC zerV), .int .i64 5]) (Γ' := mcE b K tk (lessM s)) WkR.res ⟨rfl, rfl⟩
theorem evI_c (h0 : 0 < s.fuel ∧ s.fuel ≤ 1000000) (ho : t.op = 3) (hl : t.t.length = 3)
  (hE : ACall Tryz.prog 87 [.ptr b 0, .agg t.t[0].cells, envPV e, .nil] (mcE b K tk (lessM s)) (RetR b K fun x c s' tk' => (¬c = 0 → R zerV c s' tk') ∧
   (c = 0 → x.k = 1 ∧ x.n = 0 → ACall Tryz.prog 87 [.ptr b 0, .agg t.t[2].cells, envPV e, .nil] (mcE b K tk' s') (RetR b K R)) ∧
   (c = 0 → ¬(x.k = 1 ∧ x.n = 0) → ACall Tryz.prog 87 [.ptr b 0, .agg t.t[1].cells, envPV e, .nil] (mcE b K tk' s') (RetR b K R)))) :
  ACall Tryz.prog 87 [.ptr b 0, .agg t.cells, envPV e, .nil] (mcE b K tk s) (RetR b K R) := by
 refine ACall.of_body tt_ok Tryz.func87 rfl rfl (n := 181) rfl rfl ?_
 conv => whnf
 repeat' (first|refine aA2 ?_|((intro _);conv=>whnf)|(refine zX (fun hc=>?_) (fun hc=>?_)<;>(try simp only [SY] at hc)<;>first|omega|(conv=>whnf)))
 refine PCall.goT hE (WkT.refl _) ?_
 rintro _ _ ⟨x, c, s', tk', rfl, rfl, h1, h2, h3⟩
 conv => whnf
 repeat' (first|refine aA2 ?_|((first|refine normN nC ?_|refine normN nD ?_|intro _);conv=>whnf)|(refine zX (fun hc=>?_) (fun hc=>?_)<;>(try simp only [SY] at hc)<;>(conv=>whnf)))
 ·exact PRet.gen (y := .tup [.agg (valC zerV), .int .i64 c]) (Γ' := mcE b K tk' s') WkR.res ⟨zerV, c, s', tk', rfl, rfl, h1 hc⟩
 ·refine PCall.goT (h2 (by omega) (by omega)) (WkT.refl _) ?_
  rintro _ _ ⟨x', c', s'', tk'', rfl, rfl, hq⟩
  conv => whnf
  repeat' (first|refine aA2 ?_|((first|refine normN nC ?_|refine normN nD ?_);conv=>whnf)|(refine zX (fun hc=>?_) (fun hc=>?_)<;>(try simp only [SY] at hc)<;>omega))
  all_goals exact PRet.gen (y := .tup [.agg (valC x'), .int .i64 c']) (Γ' := mcE b K tk'' s'') (Wk.refl _) ⟨x', c', s'', tk'', rfl, rfl, hq⟩
 ·refine PCall.goT (h3 (by omega) (by omega)) (WkT.refl _) ?_
  rintro _ _ ⟨x', c', s'', tk'', rfl, rfl, hq⟩
  conv => whnf
  repeat' (first|refine aA2 ?_|((first|refine normN nC ?_|refine normN nD ?_);conv=>whnf)|(refine zX (fun hc=>?_) (fun hc=>?_)<;>(try simp only [SY] at hc)<;>omega))
  all_goals exact PRet.gen (y := .tup [.agg (valC x'), .int .i64 c']) (Γ' := mcE b K tk'' s'') (Wk.refl _) ⟨x', c', s'', tk'', rfl, rfl, hq⟩
theorem evS_c (h0 : 0 < s.fuel ∧ s.fuel ≤ 1000000) (ho : t.op = 2 ∨ t.op = 5 ∨ t.op = 6 ∨ t.op = 10 ∨ t.op = 12 ∨ (14 ≤ t.op ∧ t.op ≤ 18))
  (hE : ACall Tryz.prog 114 [.ptr b 0, .sl 4 (t.t.map Trm.pv) none, envPV e, .nil] (mcE b K tk (lessM s)) (AllR b K fun l c s' tk' => (¬c = 0 → R zerV c s' tk') ∧
   (c = 0 → ACall Tryz.prog 115 [.ptr b 0, .agg t.cells, .sl 7 (l.map Vl.pv) none, envPV e] (mcE b K tk' s') (RetR b K R)))) :
  ACall Tryz.prog 87 [.ptr b 0, .agg t.cells, envPV e, .nil] (mcE b K tk s) (RetR b K R) := by
 refine ACall.of_body tt_ok Tryz.func87 rfl rfl (n := 181) rfl rfl ?_
 conv => whnf
 repeat' (first|refine aA2 ?_|((intro _);conv=>whnf)|(refine zX (fun hc=>?_) (fun hc=>?_)<;>(try simp only [SY] at hc)<;>first|omega|(conv=>whnf)))
 refine PCall.goT hE (WkT.refl _) ?_
 rintro _ _ ⟨x, c, s', tk', rfl, rfl, h1, h2⟩
 conv => whnf
 repeat' (first|refine aA2 ?_|(refine zX (fun hc=>?_) (fun hc=>?_)<;>(try simp only [SY] at hc)<;>(conv=>whnf)))
 ·exact PRet.gen (y := .tup [.agg (valC zerV), .int .i64 c]) (Γ' := mcE b K tk' s') WkR.res ⟨zerV, c, s', tk', rfl, rfl, h1 hc⟩
 ·refine PCall.goT (h2 hc) (WkT.refl _) ?_
  rintro _ _ ⟨x', c', s'', tk'', rfl, rfl, hq⟩
  conv => whnf
  repeat' (first|refine aA2 ?_|((first|refine normN nC ?_|refine normN nD ?_);conv=>whnf)|(refine zX (fun hc=>?_) (fun hc=>?_)<;>(try simp only [SY] at hc)<;>omega))
  all_goals exact PRet.gen (y := .tup [.agg (valC x'), .int .i64 c']) (Γ' := mcE b K tk'' s'') (Wk.refl _) ⟨x', c', s'', tk'', rfl, rfl, hq⟩
theorem evB_c (h0 : 0 < s.fuel ∧ s.fuel ≤ 1000000) (ho : 7 ≤ t.op ∧ t.op ≤ 9)
  (hE : ACall Tryz.prog 113 [.ptr b 0, .agg t.cells, envPV e, .nil] (mcE b K tk (lessM s)) (RetR b K R)) :
  ACall Tryz.prog 87 [.ptr b 0, .agg t.cells, envPV e, .nil] (mcE b K tk s) (RetR b K R) := by
 refine ACall.of_body tt_ok Tryz.func87 rfl rfl (n := 181) rfl rfl ?_
 conv => whnf
 repeat' (first|refine aA2 ?_|((intro _);conv=>whnf)|(refine zX (fun hc=>?_) (fun hc=>?_)<;>(try simp only [SY] at hc)<;>first|omega|(conv=>whnf)))
 all_goals
  refine PCall.goT hE (WkT.refl _) ?_
  rintro _ _ ⟨x', c', s'', tk'', rfl, rfl, hq⟩
  conv => whnf
  repeat' (first|refine aA2 ?_|((first|refine normN nC ?_|refine normN nD ?_);conv=>whnf)|(refine zX (fun hc=>?_) (fun hc=>?_)<;>(try simp only [SY] at hc)<;>omega))
  all_goals exact PRet.gen (y := .tup [.agg (valC x'), .int .i64 c']) (Γ' := mcE b K tk'' s'') (Wk.refl _) ⟨x', c', s'', tk'', rfl, rfl, hq⟩
end
end Go.Cb
namespace Go.Cb
open Go.Proofs
set_option maxRecDepth 100000
set_option maxHeartbeats 4000000
section
variable (b : Nat) (K : List Vl) (tk : Tok) (s : MSt) (t : Trm) (e : EnvM) (R : Vl → Int → MSt → Tok → Prop)
theorem drMr07eaa {p q : Prop} (k : q) (h : q → p := by intro hq; first | exact PDraw.sP (some 48) rfl [] [10,11] tt_ok mixed hq | exact PDraw.sP (some 79) rfl [] [10,11] tt_ok mixed hq | exact PDraw.sP (some 192) rfl [] [10] tt_ok mixed hq | exact PDraw.sP (some 217) rfl [] [13] tt_ok mixed hq) : p := h k
theorem bindL_c (ho : t.op = 8) (hl : t.t.length = t.v.length + 1) (hz : t.v.length ≤ 1000000000)
  (hA : ACall Tryz.prog 114 [.ptr b 0, .sl 4 ((t.t.take t.v.length).map Trm.pv) none, envPV e, .nil] (mcE b K tk s) (AllR b K fun l c s' tk' => (¬c = 0 → R zerV c s' tk') ∧
   (c = 0 → l.length = t.v.length ∧ ∀ az : List Nat, az.length = t.v.length → ACall Tryz.prog 87 [.ptr b 0, .agg (t.t[t.v.length]'(by omega)).cells, envPV (extM e t.v az), .nil] (mcE b K tk' (addM s' (hpM s'.h l az))) (RetR b K R)))) :
  ACall Tryz.prog 113 [.ptr b 0, .agg t.cells, envPV e, .nil] (mcE b K tk s) (RetR b K R) := by
 refine ACall.of_body tt_ok Tryz.func113 rfl rfl (n := 241) rfl rfl ?_
 conv => whnf
 repeat' (first|refine aA2 ?_|((intro _);conv=>whnf)|(refine zX (fun hc=>?_) (fun hc=>?_)<;>(try simp only [SY] at hc)<;>first|omega|(conv=>whnf)))
 refine PCall.goT hA (WkT.refl _) ?_
 rintro _ _ ⟨l, c, s', tk', rfl, rfl, h1, h2⟩
 conv => whnf
 skip
 rename_i b1 b2 _
 by_cases hc0 : c = 0
 ·subst hc0
  obtain ⟨hlen, hev⟩ := h2 rfl
  have hL : ∀ i (az : List Nat) (a : Nat) (_ : az.length = i) (h : i < l.length), hpE (hpM s'.h (l.take (i + 1)) (az ++ [a])) = .box a (celC (l[i]'h) false) :: hpE (hpM s'.h (l.take i) az) := fun i az a h1 h => by
   rw [List.take_succ_eq_append_getElem h, hpM_snoc _ _ _ _ _ (by rw [List.length_take]; omega)]
   rfl
  have e0 : mcE b K tk' s' = mcE b K tk' (addM s' (hpM s'.h (l.take 0) [])) := rfl
  rw [e0]
  refine PLoop.over [2, 13, 39, 40, 41, 42, 43, 44, 45, 46, 47, 48, 49, 50, 51, 52, 53, 54, 55, 56, 57, 58] (fun x : Nat × List Nat => [(2, envPV (extM e (t.v.take x.1) x.2)), (13, .int .i64 x.1)]) (fun x : Nat × List Nat => .box b2 [.int .i64 0, .int .i64 0, .int .i64 0, .str [], .nil, .np, .np] :: .box b1 [.int .i64 t.op, .int .i64 t.n, .sl 1 (t.v.map (PV.int .i64)) none, .sl 4 (t.t.map Trm.pv) none] :: mcE b K tk' (addM s' (hpM s'.h (l.take x.1) x.2)))
   (fun x => x.1 ≤ l.length ∧ x.2.length = x.1) (fun x => l.length - x.1) (0, []) ⟨Nat.zero_le _, rfl⟩ wA ?_
  rintro ⟨i, az⟩ ⟨hi, ha⟩
  dsimp only at hi ha ⊢
  conv => whnf
  repeat' (first|refine aA2 ?_|((refine drMr07eaa ?_);conv=>whnf)|(refine zX (fun hc=>?_) (fun hc=>?_)<;>(try simp only [SY] at hc)<;>(conv=>whnf)))
  ·have h1 : i < l.length := by omega
   refine PCall.go (Γ1 := []) (bind_c _ _ l[i] false) (.cons (Wk.refl _) (.cons (Wk.refl _) (.cons (Wk.refl _) (.cons (Wk.ff rfl) .nil)))) ?_
   rintro _ _ ⟨a, rfl, rfl⟩
   conv => whnf
   repeat' (first|refine aA2 ?_|(refine zX (fun hc=>?_) (fun hc=>?_)<;>(try simp only [SY] at hc)<;>omega))
   have e1 := hL i az a ha h1
   have e2 : (t.v.take (i + 1)) = t.v.take i ++ [t.v[i]'(by omega)] := List.take_succ_eq_append_getElem (by omega)
   refine loopTo (i + 1, az ++ [a]) ⟨by show i + 1 ≤ _; omega, by show (az ++ [a]).length = i + 1; simp; omega⟩ (by show l.length - (i + 1) < l.length - i; omega) (by dsimp only; rw [e2, extM_snoc _ _ _ _ _ (by rw [List.length_take]; omega)]; exact wA) (hp := by dsimp only [mcE, addM]; rw [e1]; infer_instance)
  ·have hil : i = t.v.length := by omega
   subst hil
   have hev' := hev az ha
   rw [List.take_length, List.take_of_length_le (by omega : l.length ≤ t.v.length)]
   conv => whnf
   skip
   refine PCall.goT hev' (WkT.refl _) ?_
   rintro _ _ ⟨x', c', s'', tk'', rfl, rfl, hq⟩
   conv => whnf
   repeat' (first|refine aA2 ?_|((first|refine normN nC ?_|refine normN nD ?_);conv=>whnf)|(refine zX (fun hc=>?_) (fun hc=>?_)<;>(try simp only [SY] at hc)<;>omega))
   all_goals exact PRet.gen (y := .tup [.agg (valC x'), .int .i64 c']) (Γ' := mcE b K tk'' s'') (Wk.refl _) ⟨x', c', s'', tk'', rfl, rfl, hq⟩
 ·refine PLoop.over [2, 13, 39, 40, 41, 42, 43, 44, 45, 46, 47, 48, 49, 50, 51, 52, 53, 54, 55, 56, 57, 58] (fun _ : Unit => [(2, envPV e), (13, .int .i64 0)]) (fun _ : Unit => .box b2 [.int .i64 0, .int .i64 0, .int .i64 0, .str [], .nil, .np, .np] :: .box b1 [.int .i64 t.op, .int .i64 t.n, .sl 1 (t.v.map (PV.int .i64)) none, .sl 4 (t.t.map Trm.pv) none] :: mcE b K tk' s') (fun _ => True) (fun _ => 0) () trivial wA ?_
  rintro ⟨⟩ _
  dsimp only
  conv => whnf
  repeat' (first|refine aA2 ?_|(refine zX (fun hc=>?_) (fun hc=>?_)<;>(try simp only [SY] at hc)<;>first|omega|(conv=>whnf)))
  all_goals exact PRet.gen (y := .tup [.agg (valC zerV), .int .i64 c]) (Γ' := mcE b K tk' s') WkR.res ⟨zerV, c, s', tk', rfl, rfl, h1 hc0⟩
end
end Go.Cb
namespace Go.Cb
open Go.Proofs
set_option maxRecDepth 100000
set_option maxHeartbeats 4000000
theorem hpU_snoc : ∀ (h : Hp) (r : Bool) (az : List Nat) (a : Nat), hpU h r (az ++ [a]) = (a, kndV 12, r) :: hpU h r az
 | _, _, [], _ => rfl
 | h, r, b :: az, a => by rw [List.cons_append, hpU, hpU_snoc _ r az a, hpU]
def plcP (h : Hp) (e : EnvM) (vs : List Int) : Prop := ∀ v ∈ vs, ∃ a, fndM e v = some a ∧ ∃ y r, hget h a = some (y, r)
theorem hget_hput (b : Nat) (z : Vl) : ∀ {h : Hp} {a : Nat} {y : Vl} {r : Bool}, hget h a = some (y, r) → ∃ y', hget (hput h b z) a = some (y', r)
 | (c, w, q) :: h, a, y, r, hg => by
  rw [hget] at hg
  rw [hput]
  by_cases hcb : c = b
  ·rw [if_pos hcb, hget]
   by_cases hca : c = a
   ·rw [if_pos hca] at hg ⊢
    obtain ⟨rfl, rfl⟩ := Prod.mk.inj (Option.some.inj hg)
    exact ⟨z, rfl⟩
   ·rw [if_neg hca] at hg ⊢
    exact ⟨y, hg⟩
  ·rw [if_neg hcb, hget]
   by_cases hca : c = a
   ·rw [if_pos hca] at hg ⊢
    exact ⟨y, hg⟩
   ·rw [if_neg hca] at hg ⊢
    exact hget_hput b z hg
theorem plcP.put {h : Hp} {e : EnvM} {vs : List Int} (b : Nat) (z : Vl) (hk : plcP h e vs) : plcP (hput h b z) e vs := fun v hv => by
 obtain ⟨a, hf, y, r, hg⟩ := hk v hv
 obtain ⟨y', hg'⟩ := hget_hput b z hg
 exact ⟨a, hf, y', r, hg'⟩
section
variable (b : Nat) (K : List Vl) (tk : Tok) (s : MSt) (t : Trm) (e : EnvM) (R : Vl → Int → MSt → Tok → Prop)
theorem drMr07faa {p q : Prop} (k : q) (h : q → p := by intro hq; first | exact PDraw.sP (some 48) rfl [] [10,11] tt_ok mixed hq | exact PDraw.sP (some 79) rfl [] [10,11] tt_ok mixed hq | exact PDraw.sP (some 192) rfl [] [10] tt_ok mixed hq | exact PDraw.sP (some 217) rfl [] [13] tt_ok mixed hq) : p := h k
theorem bindR_c (ho : t.op = 7 ∨ t.op = 9) (hl : t.t.length = t.v.length + 1) (hz : t.v.length ≤ 1000000000) (h19 : ∀ x ∈ t.t, ¬x.op = 19)
  (P : List Nat → Nat → List Vl → MSt → Tok → Prop) (hP : ∀ az : List Nat, az.length = t.v.length → P az 0 [] (addM s (hpU s.h (t.op == 7) az)) tk)
  (H : ∀ az i m s tk, P az i m s tk → ∀ h : i < t.v.length, ACall Tryz.prog 87 [.ptr b 0, .agg (t.t[i]'(by omega)).cells, envPV (extM e t.v az), .nil] (mcE b K tk s) (RetR b K fun x c s' tk' => (¬c = 0 → R zerV c s' tk') ∧
   (c = 0 → (t.op = 9 ∨ t.n = 1 → ∃ a y r, fndM (extM e t.v az) (t.v[i]'h) = some a ∧ hget s'.h a = some (y, r)) ∧ P az (i + 1) (m ++ [x]) (if t.op = 9 ∨ t.n = 1 then stoM s' (extM e t.v az) (t.v[i]'h) x else s') tk')))
  (HE : ∀ az m s tk, P az t.v.length m s tk → m.length = t.v.length → (t.op = 7 ∧ t.n = 0 → plcP s.h (extM e t.v az) t.v) ∧
   ACall Tryz.prog 87 [.ptr b 0, .agg (t.t[t.v.length]'(by omega)).cells, envPV (extM e t.v az), .nil] (mcE b K tk (if t.op = 7 ∧ t.n = 0 then stosM s (extM e t.v az) t.v m else s)) (RetR b K R)) :
  ACall Tryz.prog 113 [.ptr b 0, .agg t.cells, envPV e, .nil] (mcE b K tk s) (RetR b K R) := by
 refine ACall.of_body tt_ok Tryz.func113 rfl rfl (n := 241) rfl rfl ?_
 conv => whnf
 repeat' (first|refine aA2 ?_|((intro _);conv=>whnf)|(refine zX (fun hc=>?_) (fun hc=>?_)<;>(try simp only [SY] at hc)<;>first|omega|(conv=>whnf)))
 rename_i b1 b2 _
 have hL : ∀ (az : List Nat) (a : Nat), hpE (hpU s.h (t.op == 7) (az ++ [a])) = .box a (celC (kndV 12) (t.op == 7)) :: hpE (hpU s.h (t.op == 7) az) := fun az a => by rw [hpU_snoc]; rfl
 have e0 : mcE b K tk s = mcE b K tk (addM s (hpU s.h (t.op == 7) [])) := rfl
 rw [e0]
 refine PLoop.over [2, 14, 74, 75, 76, 77, 78, 79, 80, 81, 82, 83, 84, 85, 86, 87, 88, 89, 90, 91, 92, 93, 94, 95, 96, 97, 98, 99, 100, 101, 102, 103, 104, 105, 106, 107, 108, 109, 110, 111, 112, 113, 114, 115] (fun x : Nat × List Nat => [(2, envPV (extM e (t.v.take x.1) x.2)), (14, .int .i64 x.1)]) (fun x : Nat × List Nat => .box b2 [.int .i64 0, .int .i64 0, .int .i64 0, .str [], .nil, .np, .np] :: .box b1 [.int .i64 t.op, .int .i64 t.n, .sl 1 (t.v.map (PV.int .i64)) none, .sl 4 (t.t.map Trm.pv) none] :: mcE b K tk (addM s (hpU s.h (t.op == 7) x.2)))
  (fun x => x.1 ≤ t.v.length ∧ x.2.length = x.1) (fun x => t.v.length - x.1) (0, []) ⟨Nat.zero_le _, rfl⟩ wA ?_
 rintro ⟨i, az⟩ ⟨hi, ha⟩
 dsimp only at hi ha ⊢
 conv => whnf
 repeat' (first|refine aA2 ?_|((refine drMr07faa ?_);conv=>whnf)|(refine zX (fun hc=>?_) (fun hc=>?_)<;>(try simp only [SY] at hc)<;>(conv=>whnf)))
 ·have h1 : i < t.v.length := by omega
  have h19i : ¬(t.t[i]'(by omega)).op = 19 := h19 _ (List.getElem_mem _)
  refine PCall.go (Γ1 := []) (bind_c _ _ (kndV 12) (t.op == 7)) (.cons (Wk.refl _) (.cons (Wk.refl _) (.cons (Wk.agg kndV_wk) (.cons (Wk.refl _) .nil)))) ?_
  rintro _ _ ⟨a, rfl, rfl⟩
  conv => whnf
  repeat' (first|refine aA2 ?_|(refine zX (fun hc=>?_) (fun hc=>?_)<;>(try simp only [SY] at hc)<;>first|omega|(conv=>whnf)))
  all_goals try (exfalso; omega)
  have e1 := hL az a
  have e2 : (t.v.take (i + 1)) = t.v.take i ++ [t.v[i]'(by omega)] := List.take_succ_eq_append_getElem (by omega)
  refine loopTo (i + 1, az ++ [a]) ⟨by show i + 1 ≤ _; omega, by show (az ++ [a]).length = i + 1; simp; omega⟩ (by show t.v.length - (i + 1) < t.v.length - i; omega) (by dsimp only; rw [e2, extM_snoc _ _ _ _ _ (by rw [List.length_take]; omega)]; exact wA) (hp := by dsimp only [mcE, addM]; rw [e1]; infer_instance)
 ·have hil : i = t.v.length := by omega
  subst hil
  have hP0 := hP az ha
  rw [List.take_length]
  conv => whnf
  skip
  refine PLoop.gh (Ghost.nil 7 140 _) ?_
  refine PLoop.over [9, 15, 16, 17, 18, 19, 20, 116, 117, 118, 119, 120, 121, 122, 123, 124, 125, 126, 127, 128, 129, 130, 131, 132, 133, 134, 135, 136, 137, 138, 139, 140, 141, 142, 143, 144, 145, 146, 147, 148, 149, 150, 151, 152, 153, 154, 155, 156, 157, 158, 159, 160, 161, 162, 163, 164, 165, 166, 167, 168, 169, 170, 171, 172, 173, 174, 175, 176, 177, 178, 179, 180, 181, 182, 183, 184, 185, 186, 187, 188, 189, 190, 191, 192, 193, 194, 195, 196, 197, 198, 199, 200, 201] (fun x : Nat × List Vl × Tok × MSt × Tok => [(15, .sl 7 (x.2.1.map Vl.pv) (some x.2.2.1)), (16, .int .i64 x.1)]) (fun x : Nat × List Vl × Tok × MSt × Tok => .tok x.2.2.1 :: .box b2 [.int .i64 0, .int .i64 0, .int .i64 0, .str [], .nil, .np, .np] :: .box b1 [.int .i64 t.op, .int .i64 t.n, .sl 1 (t.v.map (PV.int .i64)) none, .sl 4 (t.t.map Trm.pv) none] :: mcE b K x.2.2.2.2 x.2.2.2.1)
   (fun x => x.1 ≤ t.v.length ∧ x.2.2.1.e = 140 ∧ x.2.1.length = x.1 ∧ P az x.1 x.2.1 x.2.2.2.1 x.2.2.2.2) (fun x => t.v.length - x.1) (0, [], nilTok 7 140, addM s (hpU s.h (t.op == 7) az), tk) ⟨Nat.zero_le _, rfl, rfl, hP0⟩ wA ?_
  rintro ⟨i, m, t1, s1, tk1⟩ ⟨hi, ht, hm, hPi⟩
  dsimp only at hi ht hm hPi ⊢
  have hml : m.length ≤ 1000000000 := by omega
  conv => whnf
  repeat' (first|refine aA2 ?_|(refine zX (fun hc=>?_) (fun hc=>?_)<;>(try simp only [SY] at hc)<;>(conv=>whnf)))
  ·exact absurd hc.2 (h19 _ (List.getElem_mem _))
  ·have h1 : i < t.v.length := by omega
   refine PCall.goT (H az i m s1 tk1 hPi h1) (WkT.refl _) ?_
   rintro _ _ ⟨x, c, s', tk', rfl, rfl, hq, hr⟩
   by_cases hc0 : c = 0
   ·subst hc0
    obtain ⟨hn, hP'⟩ := hr rfl
    by_cases hnow : t.op = 9 ∨ t.n = 1
    ·obtain ⟨a, y, r, hf, hg⟩ := hn hnow
     rw [if_pos hnow] at hP'
     unfold stoM at hP'
     rw [hf] at hP'
     have hp := place_c _ _ _ hf
     obtain ⟨put, hpb, hpu⟩ := hpE_box hg
     conv => whnf
     repeat' (first|refine aA2 ?_|((first|((apply zZ);(conv=>whnf);(repeat ((refine pC (hp) wR ?_);conv=>whnf));exact pZ)|refine normN nC ?_|refine normN nD ?_|refine drMr07faa ?_|intro _);conv=>whnf)|(refine zX (fun hc=>?_) (fun hc=>?_)<;>(try simp only [SY] at hc)<;>first|omega|(conv=>whnf)))
     all_goals try (exfalso; omega)
     rw [hpu x]
     rename_i t2 ht2
     exact loopTo (i + 1, m ++ [x], t2, addM s' (hput s'.h a x), tk') ⟨by show i + 1 ≤ _; omega, ht2, by show (m ++ [x]).length = i + 1; simp; omega, hP'⟩ (by show t.v.length - (i + 1) < t.v.length - i; omega) wA
    ·rw [if_neg hnow] at hP'
     conv => whnf
     repeat' (first|refine aA2 ?_|((first|refine normN nC ?_|refine normN nD ?_|intro _);conv=>whnf)|(refine zX (fun hc=>?_) (fun hc=>?_)<;>(try simp only [SY] at hc)<;>first|omega|(conv=>whnf)))
     all_goals try (exfalso; omega)
     rename_i t2 ht2
     exact loopTo (i + 1, m ++ [x], t2, s', tk') ⟨by show i + 1 ≤ _; omega, ht2, by show (m ++ [x]).length = i + 1; simp; omega, hP'⟩ (by show t.v.length - (i + 1) < t.v.length - i; omega) wA
   ·conv => whnf
    repeat' (first|refine aA2 ?_|((first|refine normN nC ?_|refine normN nD ?_|intro _);conv=>whnf)|(refine zX (fun hc=>?_) (fun hc=>?_)<;>(try simp only [SY] at hc)<;>first|omega|(conv=>whnf)))
    exact PRet.gen (y := .tup [.agg (valC zerV), .int .i64 c]) (Γ' := mcE b K tk' s') WkR.res ⟨zerV, c, s', tk', rfl, rfl, hq hc0⟩
  ·have hi2 : i = t.v.length := by omega
   subst hi2
   obtain ⟨hpl, hev⟩ := HE az m s1 tk1 hPi hm
   by_cases hsto : t.op = 7 ∧ t.n = 0
   ·rw [if_pos hsto] at hev
    refine PLoop.over [21, 202, 203, 204, 205, 206, 207, 208, 209, 210, 211, 212, 213, 214, 215, 216, 217, 218, 219, 220, 221, 222, 223, 224, 225, 226, 227, 228, 229] (fun x : Nat × MSt => [(21, .int .i64 x.1)]) (fun x : Nat × MSt => .tok t1 :: .box b2 [.int .i64 0, .int .i64 0, .int .i64 0, .str [], .nil, .np, .np] :: .box b1 [.int .i64 t.op, .int .i64 t.n, .sl 1 (t.v.map (PV.int .i64)) none, .sl 4 (t.t.map Trm.pv) none] :: mcE b K tk1 x.2)
     (fun x => x.1 ≤ t.v.length ∧ stosM x.2 (extM e t.v az) (t.v.drop x.1) (m.drop x.1) = stosM s1 (extM e t.v az) t.v m ∧ plcP x.2.h (extM e t.v az) t.v) (fun x => t.v.length - x.1) (0, s1) ⟨Nat.zero_le _, rfl, hpl hsto⟩ wA ?_
    rintro ⟨j, s2⟩ ⟨hj, hst, hok⟩
    dsimp only at hj hst hok ⊢
    by_cases hjl : j < t.v.length
    ·obtain ⟨a, hf, y, r, hg⟩ := hok (t.v[j]'hjl) (List.getElem_mem _)
     have hp := place_c _ _ _ hf
     obtain ⟨put, hpb, hpu⟩ := hpE_box hg
     conv => whnf
     repeat' (first|refine aA2 ?_|((first|((apply zZ);(conv=>whnf);(repeat ((refine pC (hp) wR ?_);conv=>whnf));exact pZ)|refine normN nC ?_|refine normN nD ?_|refine drMr07faa ?_);conv=>whnf)|(refine zX (fun hc=>?_) (fun hc=>?_)<;>(try simp only [SY] at hc)<;>first|omega|(conv=>whnf)))
     all_goals try (exfalso; omega)
     have hjm : j < m.length := by omega
     rw [drop_at hjl, drop_at hjm, stosM] at hst
     unfold stoM at hst
     rw [hf] at hst
     rw [hpu m[j]]
     exact loopTo (j + 1, addM s2 (hput s2.h a m[j])) ⟨by show j + 1 ≤ _; omega, hst, hok.put a _⟩ (by show t.v.length - (j + 1) < t.v.length - j; omega) wA
    ·rw [List.drop_of_length_le (by omega), List.drop_of_length_le (by omega)] at hst
     rw [← show s2 = stosM s1 (extM e t.v az) t.v m from hst] at hev
     conv => whnf
     repeat' (first|refine aA2 ?_|(refine zX (fun hc=>?_) (fun hc=>?_)<;>(try simp only [SY] at hc)<;>first|omega|(conv=>whnf)))
     all_goals try (exfalso; omega)
     refine PCall.goT hev (WkT.refl _) ?_
     rintro _ _ ⟨x', c', s'', tk'', rfl, rfl, hq⟩
     conv => whnf
     repeat' (first|refine aA2 ?_|((first|refine normN nC ?_|refine normN nD ?_);conv=>whnf)|(refine zX (fun hc=>?_) (fun hc=>?_)<;>(try simp only [SY] at hc)<;>omega))
     all_goals exact PRet.gen (y := .tup [.agg (valC x'), .int .i64 c']) (Γ' := mcE b K tk'' s'') (Wk.refl _) ⟨x', c', s'', tk'', rfl, rfl, hq⟩
   ·rw [if_neg hsto] at hev
    refine PLoop.over [21, 202, 203, 204, 205, 206, 207, 208, 209, 210, 211, 212, 213, 214, 215, 216, 217, 218, 219, 220, 221, 222, 223, 224, 225, 226, 227, 228, 229] (fun _ : Unit => [(21, .int .i64 0)]) (fun _ : Unit => .tok t1 :: .box b2 [.int .i64 0, .int .i64 0, .int .i64 0, .str [], .nil, .np, .np] :: .box b1 [.int .i64 t.op, .int .i64 t.n, .sl 1 (t.v.map (PV.int .i64)) none, .sl 4 (t.t.map Trm.pv) none] :: mcE b K tk1 s1) (fun _ => True) (fun _ => 0) () trivial wA ?_
    rintro ⟨⟩ _
    conv => whnf
    repeat' (first|refine aA2 ?_|(refine zX (fun hc=>?_) (fun hc=>?_)<;>(try simp only [SY] at hc)<;>first|omega|(conv=>whnf)))
    all_goals try (exfalso; omega)
    refine PCall.goT hev (WkT.refl _) ?_
    rintro _ _ ⟨x', c', s'', tk'', rfl, rfl, hq⟩
    conv => whnf
    repeat' (first|refine aA2 ?_|((first|refine normN nC ?_|refine normN nD ?_);conv=>whnf)|(refine zX (fun hc=>?_) (fun hc=>?_)<;>(try simp only [SY] at hc)<;>omega))
    all_goals exact PRet.gen (y := .tup [.agg (valC x'), .int .i64 c']) (Γ' := mcE b K tk'' s'') (Wk.refl _) ⟨x', c', s'', tk'', rfl, rfl, hq⟩
end
end Go.Cb
namespace Go.Cb
open Go.Proofs
set_option maxRecDepth 100000
set_option maxHeartbeats 4000000
def endV (x : Vl) (c : Int) (s : MSt) : List UInt8 := if c = 0 then txtV x else if c = 7 then txtV s.val else []
theorem runR_c (cs : List Datum) (hcs : ∀ d ∈ cs, d.sz ≤ 1000000000) (hlc : cs.length ≤ 1000000) (t : Trm) (fuel : Int) (R : Vl → Int → MSt → Prop)
  (hev : ∀ (b : Nat) (tk : Tok), tk.e = 4 → tk.s = 1 → ACall Tryz.prog 87 [.ptr b 0, .agg t.cells, .np, .nil] (mcE b (cs.map valV) tk (mc0 fuel)) (RetR b (cs.map valV) fun x c s' _ => (c = 0 → x.tx = true) ∧ (c = 7 → s'.val.tx = true) ∧ R x c s')) :
  ACall Tryz.prog 51 [.sl 5 (cs.map Datum.pv) none, .nil, .agg t.cells, .int .i64 fuel] [] (fun y Γ' => ∃ x c s', R x c s' ∧ y = .agg [.str s'.out, .int .i64 c, .str (endV x c s')] ∧ Γ' = []) := by
 refine ACall.of_body tt_ok Tryz.func51 rfl rfl (n := 65) rfl rfl ?_
 conv => whnf
 repeat' (first|((intro _);conv=>whnf)|(refine zX (fun hc=>?_) (fun hc=>?_)<;>(try simp only [SY] at hc)<;>omega))
 rename_i b6 b8 b9
 refine PLoop.gh (Ghost.trans (Ghost.nilRowV _) (Ghost.box (b := b9) (cs := [.nil, .nil, .int .i64 fuel, .str [], .nil, .int .i64 0, .int .i64 0, .int .i64 0, .int .i64 0, .str [], .nil, .np, .np]) (cs' := [.ms (nilTok 7 140), .nil, .int .i64 fuel, .str [], .nil, .int .i64 0, .int .i64 0, .int .i64 0, .int .i64 0, .str [], .nil, .np, .np]) (.cons (Wk.nilRow _ _) (WkL.refl _)))) ?_
 refine PLoop.over [10, 18, 19, 20, 21, 22, 23, 24, 25, 26, 27, 28, 29, 30, 31, 32, 33, 34, 35, 36, 37, 38] (fun x : Nat × List Vl × Tok => [(10, .int .i64 x.1)]) (fun x : Nat × List Vl × Tok => [.box b9 [.ms x.2.2, .nil, .int .i64 fuel, .str [], .nil, .int .i64 0, .int .i64 0, .int .i64 0, .int .i64 0, .str [], .nil, .np, .np], .row x.2.2 (x.2.1.map Vl.pv), .box b8 [.str [], .int .i64 0, .str []], .box b6 [.int .i64 t.op, .int .i64 t.n, .sl 1 (t.v.map (PV.int .i64)) none, .sl 4 (t.t.map Trm.pv) none]])
  (fun x => x.1 ≤ cs.length ∧ x.2.2.e = 140 ∧ x.2.2.s = 7 ∧ x.2.1 = (cs.map valV).take x.1) (fun x => cs.length - x.1) (0, [], nilTok 7 140) ⟨Nat.zero_le _, rfl, rfl, rfl⟩ wA ?_
 rintro ⟨i, m, tk⟩ ⟨hi, he, hs, hm⟩
 dsimp only at hi he hs hm ⊢
 have hml : m.length = i := by rw [hm, List.length_take]; simp; omega
 conv => whnf
 repeat' (first|refine aA2 ?_|((intro _);conv=>whnf)|(refine zX (fun hc=>?_) (fun hc=>?_)<;>(try simp only [SY] at hc)<;>(conv=>whnf)))
 ·have hlt : i < cs.length := by omega
  have hv := value_c _ (hcs _ (List.getElem_mem hlt))
  have hsl := set_lastV m (Vl.mk 0 0 0 [] [] none none) (valV cs[i])
  have hcl2 : (m ++ [(Vl.mk 0 0 0 [] [] none none)]).length = m.length + 1 := by simp
  refine PDraw.tree tt_ok mixed [0, 1, 3, 7, 0, 0, 48, 112, 240, 15, 0, 2047, 4095, 8191, 4095, 20479, 53247] [0, 1, 2, 4, 5, 6, 7, 8, 10] [3, 9, 11, 12, 13, 14, 15, 16] [.box b9 [.ms tk, .nil, .int .i64 fuel, .str [], .nil, .int .i64 0, .int .i64 0, .int .i64 0, .int .i64 0, .str [], .nil, .np, .np], .row tk (m.map Vl.pv)] ?_
  conv => whnf
  conv => whnf
  repeat' (first|((first|((apply zZ);first|exact tB|((conv=>whnf);(repeat ((refine pC (hv) wR ?_);conv=>whnf));exact pZ))|refine aM ?_|(refine And.intro ?_ ?_)|(refine PLenM.map fun _ => ?_)|refine aF ?_|intro _);conv=>whnf)|(refine zX (fun hc=>?_) (fun hc=>?_)<;>(try simp only [SY] at hc)<;>omega))
  all_goals try exact trivial
  all_goals
   rw [hsl]
   have hmm : m ++ [valV cs[i]] = (cs.map valV).take (i + 1) := by rw [List.take_succ_eq_append_getElem (by simp; omega), ← hm]; simp
   rename_i tk2 e2 s2
   exact loopTo (i + 1, m ++ [valV cs[i]], tk2) ⟨by show i + 1 ≤ _; omega, e2, s2, hmm⟩ (by show cs.length - (i + 1) < cs.length - i; omega) wA
 ·obtain rfl : i = cs.length := by omega
  rw [List.take_of_length_le (by simp)] at hm
  subst hm
  refine PCall.goGT (Γ1 := [.box b9 (mcB (cs.map valV) (nilTok 1 4) (mc0 fuel)), .row (nilTok 1 4) (([] : List Bool).map PV.bool)]) (Ghost.trans (Ghost.freezeRow (t := tk) (es := (cs.map valV).map Vl.pv) (b := b9) (cs := [.ms tk, .nil, .int .i64 fuel, .str [], .nil, .int .i64 0, .int .i64 0, .int .i64 0, .int .i64 0, .str [], .nil, .np, .np]) (cs' := [.sl 7 ((cs.map valV).map Vl.pv) none, .nil, .int .i64 fuel, .str [], .nil, .int .i64 0, .int .i64 0, .int .i64 0, .int .i64 0, .str [], .nil, .np, .np])
    (.cons (WkF.ms' hs) (.cons (.of (Wk.refl _)) (.cons (.of (Wk.refl _)) (.cons (.of (Wk.refl _)) (.cons (.of (Wk.refl _)) (.cons (.of (Wk.refl _)) (.cons (.of (Wk.refl _)) (.cons (.of (Wk.refl _)) (.cons (.of (Wk.refl _)) (.cons (.of (Wk.refl _)) (.cons (.of (Wk.refl _)) (.cons (.of (Wk.refl _)) (.cons (.of (Wk.refl _)) .nil))))))))))))))
   (Ghost.trans (Ghost.nilRowB _) (Ghost.box (b := b9) (cs := [.sl 7 ((cs.map valV).map Vl.pv) none, .nil, .int .i64 fuel, .str [], .nil, .int .i64 0, .int .i64 0, .int .i64 0, .int .i64 0, .str [], .nil, .np, .np]) (cs' := mcB (cs.map valV) (nilTok 1 4) (mc0 fuel))
    (.cons (Wk.refl _) (.cons (Wk.refl _) (.cons (Wk.refl _) (.cons (Wk.refl _) (.cons (Wk.nilRow _ _) (.cons (Wk.refl _) (.cons (Wk.refl _) (.cons (Wk.refl _) (.cons (Wk.refl _) (.cons (Wk.refl _) (.cons (Wk.nil' rfl) (.cons (Wk.refl _) (.cons (Wk.refl _) .nil))))))))))))))))
   (hev b9 (nilTok 1 4) rfl rfl) (WkT.refl _) ?_
  rintro _ _ ⟨x, c, s', tk', rfl, rfl, hx0, hx7, hR⟩
  by_cases h0 : c = 0
  ·subst h0
   have htx6 := text6_c x (hx0 rfl)
   conv => whnf
   repeat' (first|refine aA2 ?_|((first|refine normN nC ?_|refine normN nD ?_|refine pC (htx6) wR ?_|intro _);conv=>whnf)|(refine zX (fun hc=>?_) (fun hc=>?_)<;>(try simp only [SY] at hc)<;>first|omega|(conv=>whnf)))
   exact PRet.gen (y := .agg [.str s'.out, .int .i64 0, .str (txtV x)]) (Γ' := []) (Wk.refl _) ⟨x, 0, s', hR, rfl, rfl⟩
  ·by_cases h7 : c = 7
   ·subst h7
    have htx6 := text6_c s'.val (hx7 rfl)
    conv => whnf
    repeat' (first|refine aA2 ?_|((first|refine normN nC ?_|refine normN nD ?_|refine pC (htx6) wR ?_|intro _);conv=>whnf)|(refine zX (fun hc=>?_) (fun hc=>?_)<;>(try simp only [SY] at hc)<;>first|omega|(conv=>whnf)))
    exact PRet.gen (y := .agg [.str s'.out, .int .i64 7, .str (txtV s'.val)]) (Γ' := []) (Wk.refl _) ⟨x, 7, s', hR, rfl, rfl⟩
   ·have htx6 := text6_c zerV rfl
    conv => whnf
    repeat' (first|refine aA2 ?_|((first|refine normN nC ?_|refine normN nD ?_|intro _);conv=>whnf)|(refine zX (fun hc=>?_) (fun hc=>?_)<;>(try simp only [SY] at hc)<;>first|omega|(conv=>whnf)))
    exact PRet.gen (y := .agg [.str s'.out, .int .i64 c, .str []]) (Γ' := []) (Wk.refl _) ⟨x, c, s', hR, by unfold endV; rw [if_neg h0, if_neg h7], rfl⟩
theorem RunR_c (p : Prog) (hcs : ∀ d ∈ p.consts, d.sz ≤ 1000000000) (hlc : p.consts.length ≤ 1000000) (fuel : Int) (R : Vl → Int → MSt → Prop)
  (hev : ∀ (b : Nat) (tk : Tok), tk.e = 4 → tk.s = 1 → ACall Tryz.prog 87 [.ptr b 0, .agg p.body.cells, .np, .nil] (mcE b (p.consts.map valV) tk (mc0 fuel)) (RetR b (p.consts.map valV) fun x c s' _ => (c = 0 → x.tx = true) ∧ (c = 7 → s'.val.tx = true) ∧ R x c s')) :
  ACall Tryz.prog 29 [.agg p.cells, .int .i64 fuel] [] (fun y Γ' => ∃ x c s', R x c s' ∧ y = .agg [.str s'.out, .int .i64 c, .str (endV x c s')] ∧ Γ' = []) := by
 have hr := runR_c p.consts hcs hlc p.body fuel R hev
 refine ACall.of_body tt_ok Tryz.func29 rfl rfl (n := 11) rfl rfl ?_
 conv => whnf
 repeat' (first|refine aA2 ?_|((intro _);conv=>whnf)|(refine zX (fun hc=>?_) (fun hc=>?_)<;>(try simp only [SY] at hc)<;>omega))
 refine PCall.go (Γ1 := []) hr (WkT.refl _) ?_
 rintro _ _ ⟨x, c, s', hR, rfl, rfl⟩
 conv => whnf
 repeat' (first|refine aA2 ?_|(refine zX (fun hc=>?_) (fun hc=>?_)<;>(try simp only [SY] at hc)<;>omega))
 exact PRet.gen (y := .agg [.str s'.out, .int .i64 c, .str (endV x c s')]) (Γ' := []) (Wk.refl _) ⟨x, c, s', hR, rfl, rfl⟩
end Go.Cb
namespace Go.Cb
open Go.Proofs
set_option maxRecDepth 100000
set_option maxHeartbeats 4000000
def VOk (lv cs C : Int) (s : MSt) (x : Vl) : Prop := x.ok lv cs (C - s.fuel) s.alive.length (inH s.h)
structure MOk (lv cs C : Int) (s : MSt) : Prop where
 fu : 0 ≤ s.fuel
 bd : s.fuel + 20002 ≤ C
 vl : VOk lv cs C s s.val
 hp : ∀ a x r, hget s.h a = some (x, r) → VOk lv cs C s x
 ou : (s.out.length : Int) ≤ 1001 * (C - s.fuel)
section
variable {lv cs C C' : Int} {s s' : MSt}
theorem VOk.up {x : Vl} (hg : Grow s s') (hC : C - s.fuel ≤ C' - s'.fuel) (h : VOk lv cs C s x) : VOk lv cs C' s' x :=
 Vl.ok_mono hC (by have := hg.1; omega) hg.2.1 x h
theorem VOk.grow {x : Vl} (hg : Grow s s') (hC : C ≤ C') (h : VOk lv cs C s x) : VOk lv cs C' s' x := h.up hg (by have := hg.2.2; omega)
theorem MOk.up (hC : C ≤ C') (h : MOk lv cs C s) : MOk lv cs C' s :=
 ⟨h.fu, by have := h.bd; omega, h.vl.grow (Grow.refl _) hC, fun a x r hx => (h.hp a x r hx).grow (Grow.refl _) hC, by have := h.ou; omega⟩
theorem MOk.less (h0 : 0 < s.fuel) (h : MOk lv cs C s) : MOk lv cs (C - 1) (lessM s) := by
 have e : (lessM s).fuel = s.fuel - 1 := rfl
 have up : ∀ {x : Vl}, VOk lv cs C s x → VOk lv cs (C - 1) (lessM s) x := fun {x} hx => VOk.up (C := C) (C' := C - 1) (s := s) (s' := lessM s) ⟨Nat.le_refl _, fun _ h => h, by rw [e]; omega⟩ (by rw [e]; omega) hx
 exact ⟨by rw [e]; omega, by have := h.bd; rw [e]; omega, up h.vl, fun a x r hx => up (h.hp a x r hx), by have := h.ou; rw [e]; show (s.out.length : Int) ≤ _; omega⟩
theorem MOk.set {h' : Hp} (h : MOk lv cs C s) (hg : Grow s (addM s h')) (hx : ∀ a x r, hget h' a = some (x, r) → (∃ r, hget s.h a = some (x, r)) ∨ VOk lv cs C s x) : MOk lv cs C (addM s h') :=
 ⟨h.fu, h.bd, h.vl.grow hg (Int.le_refl _), fun a x r hh => by
  rcases hx a x r hh with ⟨r', h1⟩ | h1
  ·exact (h.hp a x r' h1).grow hg (Int.le_refl _)
  ·exact h1.grow hg (Int.le_refl _), h.ou⟩
theorem hget_put {h : Hp} {b : Nat} {z : Vl} : ∀ {a : Nat} {x : Vl} {r : Bool}, hget (hput h b z) a = some (x, r) → x = z ∨ hget h a = some (x, r) := by
 induction h with
 | nil => intro a x r hx; rw [hput] at hx; exact .inr hx
 | cons c h ih =>
  obtain ⟨c, w, q⟩ := c
  intro a x r hx
  rw [hput] at hx
  by_cases hcb : c = b
  ·rw [if_pos hcb, hget] at hx
   rw [hget]
   by_cases hca : c = a
   ·rw [if_pos hca] at hx
    exact .inl (Prod.mk.inj (Option.some.inj hx)).1.symm
   ·rw [if_neg hca] at hx ⊢
    exact .inr hx
  ·rw [if_neg hcb, hget] at hx
   rw [hget]
   by_cases hca : c = a
   ·rw [if_pos hca] at hx ⊢
    exact .inr hx
   ·rw [if_neg hca] at hx ⊢
    exact ih hx
theorem hget_cons {h : Hp} {b : Nat} {z : Vl} {q : Bool} {a : Nat} {x : Vl} {r : Bool} (hx : hget ((b, z, q) :: h) a = some (x, r)) : x = z ∨ hget h a = some (x, r) := by
 rw [hget] at hx
 by_cases hb : b = a
 ·rw [if_pos hb] at hx
  exact .inl (Prod.mk.inj (Option.some.inj hx)).1.symm
 ·rw [if_neg hb] at hx
  exact .inr hx
theorem hget_hpM : ∀ {vs : List Vl} {az : List Nat} {h : Hp} {a : Nat} {x : Vl} {r : Bool}, hget (hpM h vs az) a = some (x, r) → x ∈ vs ∨ hget h a = some (x, r)
 | [], az, h, a, x, r, hx => .inr (by cases az <;> exact hx)
 | v :: vs, [], h, a, x, r, hx => .inr hx
 | v :: vs, b :: az, h, a, x, r, hx => by
  rw [hpM] at hx
  rcases hget_hpM hx with h1 | h1
  ·exact .inl (List.mem_cons_of_mem _ h1)
  ·rcases hget_cons h1 with rfl | h1
   ·exact .inl (List.mem_cons_self ..)
   ·exact .inr h1
theorem hget_hpU : ∀ {az : List Nat} {h : Hp} {q : Bool} {a : Nat} {x : Vl} {r : Bool}, hget (hpU h q az) a = some (x, r) → x = kndV 12 ∨ hget h a = some (x, r)
 | [], h, q, a, x, r, hx => .inr hx
 | b :: az, h, q, a, x, r, hx => by
  rw [hpU] at hx
  rcases hget_hpU hx with h1 | h1
  ·exact .inl h1
  ·exact hget_cons h1
theorem MOk.hpM {vs : List Vl} {az : List Nat} (h : MOk lv cs C s) (hv : ∀ x ∈ vs, VOk lv cs C s x) : MOk lv cs C (addM s (Go.Cb.hpM s.h vs az)) :=
 h.set (Grow.hpM _ _ _) fun a x r hx => (hget_hpM hx).elim (fun h1 => .inr (hv x h1)) fun h1 => .inl ⟨r, h1⟩
theorem MOk.nn (h : MOk lv cs C s) : 2 ≤ C - s.fuel := by have := h.bd; omega
theorem MOk.knd {k : Int} (h : MOk lv cs C s) (hk : k = 0 ∨ k = 4 ∨ k = 5 ∨ k = 12) : VOk lv cs C s (kndV k) := kndV_ok (by have := h.nn; omega) hk
theorem MOk.hpU {r : Bool} {az : List Nat} (h : MOk lv cs C s) : MOk lv cs C (addM s (Go.Cb.hpU s.h r az)) :=
 h.set (Grow.hpU _ _ _) fun a x r hx => (hget_hpU hx).elim (fun h1 => .inr (by rw [h1]; exact h.knd (by decide))) fun h1 => .inl ⟨r, h1⟩
theorem MOk.put {a : Nat} {z : Vl} (h : MOk lv cs C s) (hz : VOk lv cs C s z) : MOk lv cs C (addM s (hput s.h a z)) :=
 h.set (Grow.put _ _ _) fun a x r hx => (hget_put hx).elim (fun h1 => .inr (by rw [h1]; exact hz)) fun h1 => .inl ⟨r, h1⟩
theorem MOk.new {a : Nat} {z : Vl} (h : MOk lv cs C s) (hz : VOk lv cs C s z) : MOk lv cs C (addM s ((a, z, false) :: s.h)) :=
 h.set (Grow.box _ _ _) fun a x r hx => (hget_cons hx).elim (fun h1 => .inr (by rw [h1]; exact hz)) fun h1 => .inl ⟨r, h1⟩
theorem MOk.sto {e : EnvM} {v : Int} {z : Vl} (h : MOk lv cs C s) (hz : VOk lv cs C s z) : MOk lv cs C (stoM s e v z) := by
 unfold stoM
 split
 ·exact h
 ·exact h.put hz
theorem MOk.stoI {b : Prop} [Decidable b] {e : EnvM} {v : Int} {z : Vl} (h : MOk lv cs C s) (hz : VOk lv cs C s z) : MOk lv cs C (if b then stoM s e v z else s) := by
 split
 ·exact h.sto hz
 ·exact h
end
theorem MOk.stos {lv cs C : Int} {e : EnvM} : ∀ {vs : List Int} {xs : List Vl} {s : MSt}, MOk lv cs C s → (∀ x ∈ xs, VOk lv cs C s x) → MOk lv cs C (stosM s e vs xs)
 | [], _, s, h, _ => by unfold stosM; exact h
 | _ :: _, [], s, h, _ => by unfold stosM; exact h
 | v :: vs, x :: xs, s, h, hx => by
  rw [stosM]
  exact (h.sto (hx x (List.mem_cons_self ..))).stos fun y hy => (hx y (List.mem_cons_of_mem _ hy)).grow (Grow.sto _ _ _ _) (Int.le_refl _)
theorem MOk.stosI {lv cs C : Int} {s : MSt} {b : Prop} [Decidable b] {e : EnvM} {vs : List Int} {xs : List Vl} (h : MOk lv cs C s) (hz : ∀ x ∈ xs, VOk lv cs C s x) : MOk lv cs C (if b then stosM s e vs xs else s) := by
 split
 ·exact h.stos hz
 ·exact h
theorem stoM_al (s : MSt) (e : EnvM) (v : Int) (x : Vl) : (stoM s e v x).alive = s.alive ∧ (stoM s e v x).fuel = s.fuel := by
 unfold stoM
 split <;> exact ⟨rfl, rfl⟩
theorem stosM_al (e : EnvM) : ∀ (vs : List Int) (xs : List Vl) (s : MSt), (stosM s e vs xs).alive = s.alive ∧ (stosM s e vs xs).fuel = s.fuel
 | [], _, s => by unfold stosM; exact ⟨rfl, rfl⟩
 | _ :: _, [], s => by unfold stosM; exact ⟨rfl, rfl⟩
 | v :: vs, x :: xs, s => by
  rw [stosM]
  have h1 := stosM_al e vs xs (stoM s e v x)
  have h2 := stoM_al s e v x
  exact ⟨h1.1.trans h2.1, h1.2.trans h2.2⟩
def oneE : List Vl → Bool
 | [x] => x.k == 10
 | _ => false
def Al (C k : Int) (s : MSt) : Prop := (s.alive.length : Int) ≤ 2 * (C - s.fuel) + k
def JOk (lv cs C : Int) : Jd → MSt → Prop
 | .ev t e, s => TE lv cs (inH s.h) t e ∧ Al C 0 s
 | .go t e, s => TE lv cs (inH s.h) t e ∧ Al C 0 s
 | .all l e, s => (∀ t ∈ l, TE lv cs (inH s.h) t e) ∧ Al C 0 s
 | .rc _ _ l e, s => (∀ t ∈ l, TE lv cs (inH s.h) t e) ∧ Al C 0 s
 | .str t l e, s => TE lv cs (inH s.h) t e ∧ (∀ x ∈ l, VOk lv cs C s x) ∧ (l.length : Int) ≤ C - s.fuel ∧ Al C 0 s
 | .call f l, s => VOk lv cs C s f ∧ (∀ x ∈ l, VOk lv cs C s x) ∧ (l.length : Int) ≤ C - s.fuel ∧ Al C (if f.k = 10 then 2 else if oneE l = true then 1 else 0) s
 | .prim _ l, s => (∀ x ∈ l, VOk lv cs C s x) ∧ (l.length : Int) ≤ C - s.fuel ∧ Al C (if oneE l = true then 1 else 0) s
def Jd.up : Jd → Int
 | .ev _ _ => 0
 | .all _ _ => 0
 | .rc _ _ _ _ => 0
 | _ => 1
def POk (lv cs C : Int) (vs : List Vl) (s' : MSt) : Prop := MOk lv cs C s' ∧ Al C 0 s' ∧ ∀ x ∈ vs, VOk lv cs C s' x
theorem POk.one {lv cs C : Int} {x : Vl} {s' : MSt} (h1 : MOk lv cs C s') (h2 : Al C 0 s') (h3 : VOk lv cs C s' x) : POk lv cs C [x] s' := ⟨h1, h2, fun y hy => by rw [List.mem_singleton.1 hy]; exact h3⟩
theorem POk.zer {lv cs C : Int} {s' : MSt} (h1 : MOk lv cs C s') (h2 : Al C 0 s') : POk lv cs C [zerV] s' := POk.one h1 h2 (h1.knd (.inl rfl))
theorem Al.up {C C' k k' : Int} {s : MSt} (hC : C ≤ C') (hk : k + 2 * C ≤ k' + 2 * C') (h : Al C k s) : Al C' k' s := by
 unfold Al at *
 omega
theorem Ev.len {K : List Vl} {j : Jd} {s : MSt} {vs : List Vl} {c : Int} {s' : MSt} (h : Ev K j s vs c s') : c = 0 → match j with
  | .all l _ => vs.length = l.length
  | .rc _ ns l _ => vs.length = l.length ∧ vs.length = ns.length
  | _ => ∃ x, vs = [x] := by
 induction h with
 | allC _ _ _ i2 =>
  intro h0
  have := i2 h0
  dsimp only at this ⊢
  rw [List.length_cons, List.length_cons, this]
 | rcC _ _ _ i2 =>
  intro h0
  have := i2 h0
  dsimp only at this ⊢
  rw [List.length_cons, List.length_cons, List.length_cons]
  omega
 | _ => first | (intro _; exact ⟨_, rfl⟩) | (intro h0; first | rfl | exact ⟨rfl, rfl⟩ | (exfalso; omega))
theorem TE.fit {lv cs : Int} {D : Nat → Prop} {t : Trm} {e : EnvM} (h : TE lv cs D t e) : t.fit := by
 obtain ⟨_, _, _, _, h3⟩ := h
 exact h3
theorem TE.lets {lv cs : Int} {D : Nat → Prop} {t : Trm} {e : EnvM} (h : TE lv cs D t e) (ho : t.op = 8) {l : List Trm} {b : Trm} (ht : t.t = l ++ [b]) (hl : l.length = t.v.length) : ∀ x ∈ l, TE lv cs D x e := fun x hx => by
 obtain ⟨i, hi, rfl⟩ := List.mem_iff_getElem.1 hx
 have h2 : i < t.t.length := by rw [ht, List.length_append]; omega
 have := h.outer ho i (by omega) h2
 have e1 : t.t[i] = l[i] := by simp only [ht, List.getElem_append_left hi]
 rw [← e1]
 exact this
theorem TE.last {lv cs : Int} {D D' : Nat → Prop} {t : Trm} {e : EnvM} (h : TE lv cs D t e) (ho : t.op = 7 ∨ t.op = 8 ∨ t.op = 9) {l : List Trm} {b : Trm} (ht : t.t = l ++ [b]) (hl : l.length = t.v.length) (hD : ∀ a, D a → D' a) (az : List Nat) (ha : az.length = t.v.length) (haz : ∀ a ∈ az, D' a) : TE lv cs D' b (extM e t.v az) := by
 have h2 : l.length < t.t.length := by rw [ht, List.length_append, List.length_singleton]; omega
 have := h.inner hD (by omega) l.length h2 (fun _ => hl) az ha haz
 have e1 : t.t[l.length] = b := by simp only [ht, List.getElem_append_right (Nat.le_refl _), Nat.sub_self, List.getElem_cons_zero]
 rw [← e1]
 exact this
theorem TE.recs {lv cs : Int} {D D' : Nat → Prop} {t : Trm} {e : EnvM} (h : TE lv cs D t e) (ho : t.op = 7 ∨ t.op = 9) {l : List Trm} {b : Trm} (ht : t.t = l ++ [b]) (hl : l.length = t.v.length) (hD : ∀ a, D a → D' a) (az : List Nat) (ha : az.length = t.v.length) (haz : ∀ a ∈ az, D' a) : ∀ x ∈ l, TE lv cs D' x (extM e t.v az) := fun x hx => by
 obtain ⟨i, hi, rfl⟩ := List.mem_iff_getElem.1 hx
 have h2 : i < t.t.length := by rw [ht, List.length_append]; omega
 have := h.inner hD (by omega) i h2 (by omega) az ha haz
 have e1 : t.t[i] = l[i] := by simp only [ht, List.getElem_append_left hi]
 rw [← e1]
 exact this
theorem inH_new : ∀ {vs : List Vl} {az : List Nat} {h : Hp}, az.length = vs.length → ∀ a ∈ az, inH (hpM h vs az) a
 | [], az, h, hl => by rw [List.eq_nil_of_length_eq_zero hl]; simp
 | v :: vs, [], h, hl => by simp
 | v :: vs, b :: az, h, hl => fun a ha => by
  rw [hpM]
  rcases List.mem_cons.1 ha with rfl | ha
  ·exact inH_hpM inH_head
  ·exact inH_new (by simpa using hl) a ha
theorem inU_new : ∀ {az : List Nat} {h : Hp} {r : Bool}, ∀ a ∈ az, inH (hpU h r az) a
 | [], h, r => by simp
 | b :: az, h, r => fun a ha => by
  rw [hpU]
  rcases List.mem_cons.1 ha with rfl | ha
  ·exact inH_hpU inH_head
  ·exact inU_new a ha
theorem sprV_len' {l xs : List Vl} {k : Nat} {r : Bool} (h1 : r = true → 1 ≤ k) (h : sprV l k r = some xs) : xs.length = k := by
 unfold sprV at h
 split at h
 ·rename_i hc
  have := h1 hc.1
  rw [← Option.some.inj h]
  simp
  omega
 ·split at h
  ·rename_i hc
   rw [← Option.some.inj h, hc.2]
  ·cases h
theorem escV_ok {lv cs C : Int} {s : MSt} (hN : 0 ≤ C - s.fuel) {id : Nat} (h : id < s.alive.length) : VOk lv cs C s (escV id) := by
 unfold VOk
 rw [Vl.ok_eq]
 refine ⟨⟨by rw [Vl.tx_eq]; exact ⟨⟨by show (0 : Int) ≤ 10; decide, by show (10 : Int) ≤ 12; decide⟩, fun h => absurd (show (10 : Int) = 6 from h) (by decide), Nat.zero_le _, fun y hy => by cases hy⟩, ?_, hN⟩, fun h => absurd (show (10 : Int) = 8 from h) (by decide), fun h => absurd (show (10 : Int) = 11 from h) (by decide), fun _ => ?_, fun y hy => by cases hy⟩
 ·rw [Vl.its_end _ (by show ¬(10 : Int) = 6; decide)]
  exact hN
 ·show (0 : Int) ≤ (id : Int) ∧ (id : Int) < s.alive.length
  omega
theorem escIn {lv cs C : Int} {s : MSt} {f : Vl} (hM : MOk lv cs C s) (hl : ∀ x ∈ [f], VOk lv cs C s x) (hA : Al C (if oneE [f] = true then 1 else 0) s) : MOk lv cs C ⟨s.fuel, s.out, s.alive ++ [true], s.to, s.val, s.h⟩ ∧ JOk lv cs C (.call f [escV s.alive.length]) ⟨s.fuel, s.out, s.alive ++ [true], s.to, s.val, s.h⟩ := by
 have hg := Grow.alive s
 have hN := hM.nn
 refine ⟨⟨hM.fu, hM.bd, hM.vl.grow hg (Int.le_refl _), fun a x r hx => (hM.hp a x r hx).grow hg (Int.le_refl _), hM.ou⟩, (hl f (List.mem_cons_self ..)).grow hg (Int.le_refl _), fun x hx => ?_, ?_, ?_⟩
 ·rw [List.mem_singleton.1 hx]
  exact escV_ok (by show 0 ≤ C - s.fuel; omega) (by show s.alive.length < (s.alive ++ [true]).length; simp)
 ·show (1 : Int) ≤ C - s.fuel
  omega
 ·have e : oneE [escV s.alive.length] = true := rfl
  rw [e]
  unfold Al at *
  dsimp only
  rw [List.length_append, List.length_singleton]
  simp only [oneE, beq_iff_eq] at hA
  split at hA <;> split <;> simp_all <;> omega
theorem Ev.keeps {lv cs : Int} (h2 : 0 ≤ lv ∧ lv ≤ 2) {K : List Vl} (hK : ∀ x ∈ K, x.ok lv cs 20002 0 fun _ => False) {j : Jd} {s : MSt} {vs : List Vl} {c : Int} {s' : MSt} (h : Ev K j s vs c s') : ∀ C, MOk lv cs C s → JOk lv cs C j s → POk lv cs (C + j.up) vs s' := by
 have su : ∀ C : Int, C ≤ C + 1 := fun C => by omega
 have sz : ∀ C : Int, C + 0 = C := fun C => by omega
 induction h with
 | dry _ =>
  rintro C hM ⟨hT, hA⟩
  rw [show C + Jd.up (.ev _ _) = C from sz C]
  exact POk.zer hM hA
 | ev h0 hnd hgo ih =>
  rintro C hM ⟨hT, hA⟩
  rw [show C + Jd.up (.ev _ _) = C from sz C]
  have := ih (C - 1) (hM.less h0) ⟨hT, by unfold Al at *; show (_ : Int) ≤ 2 * (C - 1 - (_ - 1)) + 0; dsimp only at *; omega⟩
  rw [show C - 1 + Jd.up (.go _ _) = C from by show C - 1 + 1 = C; omega] at this
  exact this
 | con ho hk =>
  rintro C hM ⟨hT, hA⟩
  show POk lv cs (C + 1) _ _
  refine POk.one (hM.up (su C)) (hA.up (su C) (by omega)) ?_
  have := hK _ (List.mem_of_getElem? hk)
  exact Vl.ok_mono (by have := hM.bd; show 20002 ≤ C + 1 - _; omega) (by omega) (fun _ h => h.elim) _ this
 | ref ho hf hg _ =>
  rintro C hM ⟨hT, hA⟩
  show POk lv cs (C + 1) _ _
  exact POk.one (hM.up (su C)) (hA.up (su C) (by omega)) ((hM.hp _ _ _ hg).grow (Grow.refl _) (su C))
 | refE => rintro C hM ⟨hT, hA⟩; show POk lv cs (C + 1) _ _; exact POk.zer (hM.up (su C)) (hA.up (su C) (by omega))
 | prf => rintro C hM ⟨hT, hA⟩; show POk lv cs (C + 1) _ _; exact POk.one (hM.up (su C)) (hA.up (su C) (by omega)) (prcV_ok (by have := (hM.up (su C)).nn; show 0 ≤ C + 1 - _; omega))
 | uns => rintro C hM ⟨hT, hA⟩; show POk lv cs (C + 1) _ _; exact POk.one (hM.up (su C)) (hA.up (su C) (by omega)) ((hM.up (su C)).knd (by decide))
 | lam ho hb =>
  rintro C hM ⟨hT, hA⟩
  show POk lv cs (C + 1) _ _
  have hc := hT.clo ho hb
  refine POk.one (hM.up (su C)) (hA.up (su C) (by omega)) ?_
  unfold VOk
  rw [Vl.ok_eq]
  have := (hM.up (su C)).nn
  refine ⟨⟨by rw [Vl.tx_eq]; exact ⟨⟨by show (0 : Int) ≤ 8; decide, by show (8 : Int) ≤ 12; decide⟩, fun h => absurd (show (8 : Int) = 6 from h) (by decide), Nat.zero_le _, fun y hy => by cases hy⟩, ?_, ?_⟩, fun _ => ⟨_, rfl, hc⟩, fun h => absurd (show (8 : Int) = 11 from h) (by decide), fun h => absurd (show (8 : Int) = 10 from h) (by decide), fun y hy => by cases hy⟩
  ·rw [Vl.its_end _ (by show ¬(8 : Int) = 6; decide)]
   show (0 : Int) ≤ _
   omega
  ·show (0 : Int) ≤ _
   omega
 | ifE ho ht _ _ i1 =>
  rintro C hM ⟨hT, hA⟩
  show POk lv cs (C + 1) _ _
  have h1 := i1 C hM ⟨hT.sub (by omega) (by rw [ht]; simp), hA⟩
  rw [show C + Jd.up (.ev _ _) = C from sz C] at h1
  exact POk.zer (h1.1.up (su C)) (h1.2.1.up (su C) (by omega))
 | ifF ho ht e1 _ _ i1 i2 =>
  rintro C hM ⟨hT, hA⟩
  show POk lv cs (C + 1) _ _
  have h1 := i1 C hM ⟨hT.sub (by omega) (by rw [ht]; simp), hA⟩
  rw [show C + Jd.up (.ev _ _) = C from sz C] at h1
  have h2 := i2 C h1.1 ⟨(hT.sub (by omega) (by rw [ht]; simp)).mono e1.grow.2.1, h1.2.1⟩
  rw [show C + Jd.up (.ev _ _) = C from sz C] at h2
  exact ⟨h2.1.up (su C), h2.2.1.up (su C) (by omega), fun x hx => (h2.2.2 x hx).grow (Grow.refl _) (su C)⟩
 | ifT ho ht e1 _ _ i1 i2 =>
  rintro C hM ⟨hT, hA⟩
  show POk lv cs (C + 1) _ _
  have h1 := i1 C hM ⟨hT.sub (by omega) (by rw [ht]; simp), hA⟩
  rw [show C + Jd.up (.ev _ _) = C from sz C] at h1
  have h2 := i2 C h1.1 ⟨(hT.sub (by omega) (by rw [ht]; simp)).mono e1.grow.2.1, h1.2.1⟩
  rw [show C + Jd.up (.ev _ _) = C from sz C] at h2
  exact ⟨h2.1.up (su C), h2.2.1.up (su C) (by omega), fun x hx => (h2.2.2 x hx).grow (Grow.refl _) (su C)⟩
 | ltE ho ht hl _ _ i1 =>
  rintro C hM ⟨hT, hA⟩
  show POk lv cs (C + 1) _ _
  have hin : ∀ x ∈ _, TE lv cs _ x _ := hT.lets ho ht hl
  have h1 := i1 C hM ⟨hin, hA⟩
  rw [show C + Jd.up (.all _ _) = C from sz C] at h1
  exact POk.zer (h1.1.up (su C)) (h1.2.1.up (su C) (by omega))
 | ltC ho ht hl e1 ha _ i1 i2 =>
  rintro C hM ⟨hT, hA⟩
  show POk lv cs (C + 1) _ _
  have h1 := i1 C hM ⟨hT.lets ho ht hl, hA⟩
  rw [show C + Jd.up (.all _ _) = C from sz C] at h1
  have hvl := e1.len rfl
  dsimp only at hvl
  have h2 := i2 C (h1.1.hpM h1.2.2) ⟨hT.last (by omega) ht hl (fun a hi => (e1.grow.trans (Grow.hpM _ _ _)).2.1 a hi) _ ha (inH_new (by omega)), h1.2.1⟩
  rw [show C + Jd.up (.ev _ _) = C from sz C] at h2
  exact ⟨h2.1.up (su C), h2.2.1.up (su C) (by omega), fun x hx => (h2.2.2 x hx).grow (Grow.refl _) (su C)⟩
 | fxE ho ht hl ha _ _ i1 =>
  rintro C hM ⟨hT, hA⟩
  show POk lv cs (C + 1) _ _
  have h1 := i1 C hM.hpU ⟨hT.recs ho ht hl (fun a hi => inH_hpU hi) _ ha inU_new, hA⟩
  rw [show C + Jd.up (.rc _ _ _ _) = C from sz C] at h1
  exact POk.zer (h1.1.up (su C)) (h1.2.1.up (su C) (by omega))
 | @fxC t e s l b az vs s1 v c s' ho ht hl ha e1 _ i1 i2 =>
  rintro C hM ⟨hT, hA⟩
  show POk lv cs (C + 1) _ _
  have h1 := i1 C hM.hpU ⟨hT.recs ho ht hl (fun a hi => inH_hpU hi) _ ha inU_new, hA⟩
  rw [show C + Jd.up (.rc _ _ _ _) = C from sz C] at h1
  have hg1 := Grow.stosI s1 (t.op = 7 ∧ t.n = 0) (extM e t.v az) t.v vs
  have hal : Al C 0 (if t.op = 7 ∧ t.n = 0 then stosM s1 (extM e t.v az) t.v vs else s1) := by
   have := stosM_al (extM e t.v az) t.v vs s1
   have h3 := h1.2.1
   unfold Al at *
   split
   ·rw [this.1, this.2]; exact h3
   ·exact h3
  have h2 := i2 C (h1.1.stosI h1.2.2) ⟨hT.last (by omega) ht hl (fun a hi => hg1.2.1 a (e1.grow.2.1 a (inH_hpU hi))) _ ha (fun a hi => hg1.2.1 a (e1.grow.2.1 a (inU_new a hi))), hal⟩
  rw [show C + Jd.up (.ev _ _) = C from sz C] at h2
  exact ⟨h2.1.up (su C), h2.2.1.up (su C) (by omega), fun x hx => (h2.2.2 x hx).grow (Grow.refl _) (su C)⟩
 | stE ho _ _ i1 =>
  rintro C hM ⟨hT, hA⟩
  show POk lv cs (C + 1) _ _
  have h1 := i1 C hM ⟨fun x hx => hT.sub (by omega) hx, hA⟩
  rw [show C + Jd.up (.all _ _) = C from sz C] at h1
  exact POk.zer (h1.1.up (su C)) (h1.2.1.up (su C) (by omega))
 | st ho e1 _ i1 i2 =>
  rintro C hM ⟨hT, hA⟩
  show POk lv cs (C + 1) _ _
  have h1 := i1 C hM ⟨fun x hx => hT.sub (by omega) hx, hA⟩
  rw [show C + Jd.up (.all _ _) = C from sz C] at h1
  have hvl := e1.len rfl
  dsimp only at hvl
  have hlen := (TE.fit hT).len.1
  have hb := h1.1.bd
  exact i2 C h1.1 ⟨hT.mono e1.grow.2.1, h1.2.2, by rw [hvl]; omega, h1.2.1⟩
 | allN =>
  rintro C hM ⟨hT, hA⟩
  rw [show C + Jd.up (.all _ _) = C from sz C]
  exact ⟨hM, hA, fun x hx => by cases hx⟩
 | allE _ _ i1 =>
  rintro C hM ⟨hT, hA⟩
  rw [show C + Jd.up (.all _ _) = C from sz C]
  have h1 := i1 C hM ⟨hT _ (List.mem_cons_self ..), hA⟩
  rw [show C + Jd.up (.ev _ _) = C from sz C] at h1
  exact ⟨h1.1, h1.2.1, fun x hx => by cases hx⟩
 | allC e1 e2 i1 i2 =>
  rintro C hM ⟨hT, hA⟩
  rw [show C + Jd.up (.all _ _) = C from sz C]
  have h1 := i1 C hM ⟨hT _ (List.mem_cons_self ..), hA⟩
  rw [show C + Jd.up (.ev _ _) = C from sz C] at h1
  have h2 := i2 C h1.1 ⟨fun t ht => (hT t (List.mem_cons_of_mem _ ht)).mono e1.grow.2.1, h1.2.1⟩
  rw [show C + Jd.up (.all _ _) = C from sz C] at h2
  refine ⟨h2.1, h2.2.1, fun x hx => ?_⟩
  rcases List.mem_cons.1 hx with rfl | hx
  ·exact (h1.2.2 _ (List.mem_cons_self ..)).grow e2.grow (Int.le_refl _)
  ·exact h2.2.2 x hx
 | allX e1 _ _ i1 i2 =>
  rintro C hM ⟨hT, hA⟩
  rw [show C + Jd.up (.all _ _) = C from sz C]
  have h1 := i1 C hM ⟨hT _ (List.mem_cons_self ..), hA⟩
  rw [show C + Jd.up (.ev _ _) = C from sz C] at h1
  have h2 := i2 C h1.1 ⟨fun t ht => (hT t (List.mem_cons_of_mem _ ht)).mono e1.grow.2.1, h1.2.1⟩
  rw [show C + Jd.up (.all _ _) = C from sz C] at h2
  exact ⟨h2.1, h2.2.1, fun x hx => by cases hx⟩
 | rcN =>
  rintro C hM ⟨hT, hA⟩
  rw [show C + Jd.up (.rc _ _ _ _) = C from sz C]
  exact ⟨hM, hA, fun x hx => by cases hx⟩
 | rcE _ _ i1 =>
  rintro C hM ⟨hT, hA⟩
  rw [show C + Jd.up (.rc _ _ _ _) = C from sz C]
  have h1 := i1 C hM ⟨hT _ (List.mem_cons_self ..), hA⟩
  rw [show C + Jd.up (.ev _ _) = C from sz C] at h1
  exact ⟨h1.1, h1.2.1, fun x hx => by cases hx⟩
 | @rcC now v vs t l e s x s1 xs s2 e1 e2 i1 i2 =>
  rintro C hM ⟨hT, hA⟩
  rw [show C + Jd.up (.rc _ _ _ _) = C from sz C]
  have h1 := i1 C hM ⟨hT _ (List.mem_cons_self ..), hA⟩
  rw [show C + Jd.up (.ev _ _) = C from sz C] at h1
  have hx := h1.2.2 _ (List.mem_cons_self ..)
  have hg := Grow.stoI s1 (now = true) e v x
  have hal : Al C 0 (if now = true then stoM s1 e v x else s1) := by
   have h3 := stoM_al s1 e v x
   have h4 := h1.2.1
   unfold Al at *
   split
   ·rw [h3.1, h3.2]; exact h4
   ·exact h4
  have h2 := i2 C (h1.1.stoI hx) ⟨fun t ht => (hT t (List.mem_cons_of_mem _ ht)).mono fun a ha => hg.2.1 a (e1.grow.2.1 a ha), hal⟩
  rw [show C + Jd.up (.rc _ _ _ _) = C from sz C] at h2
  refine ⟨h2.1, h2.2.1, fun y hy => ?_⟩
  rcases List.mem_cons.1 hy with rfl | hy
  ·exact hx.grow (hg.trans e2.grow) (Int.le_refl _)
  ·exact h2.2.2 y hy
 | @rcX now v vs t l e s x s1 xs c s2 e1 e2 _ i1 i2 =>
  rintro C hM ⟨hT, hA⟩
  rw [show C + Jd.up (.rc _ _ _ _) = C from sz C]
  have h1 := i1 C hM ⟨hT _ (List.mem_cons_self ..), hA⟩
  rw [show C + Jd.up (.ev _ _) = C from sz C] at h1
  have hx := h1.2.2 _ (List.mem_cons_self ..)
  have hg := Grow.stoI s1 (now = true) e v x
  have hal : Al C 0 (if now = true then stoM s1 e v x else s1) := by
   have h3 := stoM_al s1 e v x
   have h4 := h1.2.1
   unfold Al at *
   split
   ·rw [h3.1, h3.2]; exact h4
   ·exact h4
  have h2 := i2 C (h1.1.stoI hx) ⟨fun t ht => (hT t (List.mem_cons_of_mem _ ht)).mono fun a ha => hg.2.1 a (e1.grow.2.1 a ha), hal⟩
  rw [show C + Jd.up (.rc _ _ _ _) = C from sz C] at h2
  exact ⟨h2.1, h2.2.1, fun x hx => by cases hx⟩
 | seq =>
  rintro C hM ⟨hT, hl, hn, hA⟩
  show POk lv cs (C + 1) _ _
  exact POk.one (hM.up (su C)) (hA.up (su C) (by omega)) ((hl _ (by simp)).grow (Grow.refl _) (su C))
 | @stC t e s x a y r =>
  rintro C hM ⟨hT, hl, hn, hA⟩
  show POk lv cs (C + 1) _ _
  have hM' := (hM.put (a := a) (hl _ (List.mem_cons_self ..))).up (su C)
  exact POk.one hM' (hA.up (su C) (by omega)) (hM'.knd (by decide))
 | stX => rintro C hM ⟨hT, hl, hn, hA⟩; show POk lv cs (C + 1) _ _; exact POk.zer (hM.up (su C)) (hA.up (su C) (by omega))
 | chk =>
  rintro C hM ⟨hT, hl, hn, hA⟩
  show POk lv cs (C + 1) _ _
  exact POk.one (hM.up (su C)) (hA.up (su C) (by omega)) ((hl _ (by simp)).grow (Grow.refl _) (su C))
 | chkE => rintro C hM ⟨hT, hl, hn, hA⟩; show POk lv cs (C + 1) _ _; exact POk.zer (hM.up (su C)) (hA.up (su C) (by omega))
 | @box t e s x a ho hnd =>
  rintro C hM ⟨hT, hl, hn, hA⟩
  show POk lv cs (C + 1) _ _
  have hM' := (hM.new (a := a) (hl _ (List.mem_cons_self ..))).up (su C)
  refine POk.one hM' (hA.up (su C) (by omega)) ?_
  unfold VOk
  rw [Vl.ok_eq]
  have := hM'.nn
  refine ⟨⟨by rw [Vl.tx_eq]; exact ⟨⟨by show (0 : Int) ≤ 11; decide, by show (11 : Int) ≤ 12; decide⟩, fun h => absurd (show (11 : Int) = 6 from h) (by decide), Nat.zero_le _, fun y hy => by cases hy⟩, ?_, ?_⟩, fun h => absurd (show (11 : Int) = 8 from h) (by decide), fun _ => ⟨a, rfl, inH_head⟩, fun h => absurd (show (11 : Int) = 10 from h) (by decide), fun y hy => by cases hy⟩
  ·rw [Vl.its_end _ (by show ¬(11 : Int) = 6; decide)]
   show (0 : Int) ≤ _
   omega
  ·show (0 : Int) ≤ _
   omega
 | bad => rintro C hM ⟨hT, hl, hn, hA⟩; show POk lv cs (C + 1) _ _; exact POk.zer (hM.up (su C)) (hA.up (su C) (by omega))
 | get _ _ _ hg =>
  rintro C hM ⟨hT, hl, hn, hA⟩
  show POk lv cs (C + 1) _ _
  exact POk.one (hM.up (su C)) (hA.up (su C) (by omega)) ((hM.hp _ _ _ hg).grow (Grow.refl _) (su C))
 | @put t e s x z a y r =>
  rintro C hM ⟨hT, hl, hn, hA⟩
  show POk lv cs (C + 1) _ _
  have hM' := (hM.put (a := a) (hl _ (List.mem_cons_of_mem _ (List.mem_cons_self ..)))).up (su C)
  exact POk.one hM' (hA.up (su C) (by omega)) (hM'.knd (by decide))
 | putE => rintro C hM ⟨hT, hl, hn, hA⟩; show POk lv cs (C + 1) _ _; exact POk.zer (hM.up (su C)) (hA.up (su C) (by omega))
 | app _ _ i1 =>
  rintro C hM ⟨hT, hl, hn, hA⟩
  show POk lv cs (C + 1) _ _
  rw [List.length_cons] at hn
  exact i1 C hM ⟨hl _ (List.mem_cons_self ..), fun x hx => hl x (List.mem_cons_of_mem _ hx), by omega, hA.up (Int.le_refl _) (by split <;> (try split) <;> omega)⟩
 | prm _ _ i1 =>
  rintro C hM ⟨hT, hl, hn, hA⟩
  show POk lv cs (C + 1) _ _
  exact i1 C hM ⟨hl, hn, hA.up (Int.le_refl _) (by split <;> omega)⟩
 | calP hk _ i1 =>
  rintro C hM ⟨hf, hl, hn, hA⟩
  show POk lv cs (C + 1) _ _
  rw [if_neg (by omega)] at hA
  exact i1 C hM ⟨hl, hn, hA⟩
 | calN | calD =>
  rintro C hM ⟨hf, hl, hn, hA⟩
  show POk lv cs (C + 1) _ _
  exact POk.zer (hM.up (su C)) (hA.up (su C) (by split <;> (try split) <;> omega))
 | calJ =>
  rintro C hM ⟨hf, hl, hn, hA⟩
  show POk lv cs (C + 1) _ _
  have hx := hl _ (List.mem_cons_self ..)
  refine POk.zer ?_ (hA.up (su C) (by split <;> (try split) <;> omega))
  have h1 := hM.up (su C)
  exact ⟨h1.fu, h1.bd, hx.grow (Grow.refl _) (su C), h1.hp, h1.ou⟩
 | calK | calB | pN | pL =>
  first
   | (rintro C hM ⟨hf, hl, hn, hA⟩; show POk lv cs (C + 1) _ _; exact POk.zer (hM.up (su C)) (hA.up (su C) (by split <;> (try split) <;> omega)))
   | (rintro C hM ⟨hl, hn, hA⟩; show POk lv cs (C + 1) _ _; exact POk.zer (hM.up (su C)) (hA.up (su C) (by split <;> omega)))
 | @cal f l s cl xs az v c s' hk hp hx ha _ i1 =>
  rintro C hM ⟨hf, hl, hn, hA⟩
  show POk lv cs (C + 1) _ _
  obtain ⟨f', e1, hc⟩ := ((Vl.ok_eq f).1 hf).2.1 hk
  rw [hp] at e1
  obtain rfl := Option.some.inj e1
  have hN := hM.nn
  have hxs : ∀ x ∈ xs, VOk lv cs C s x := by
   unfold sprV at hx
   split at hx
   ·rw [← Option.some.inj hx]
    intro x hx
    rcases List.mem_append.1 hx with hx | hx
    ·exact hl x (List.mem_of_mem_take hx)
    ·rw [List.mem_singleton.1 hx]
     exact lstV_ok hN (by rw [List.length_drop]; omega) fun y hy => hl y (List.mem_of_mem_drop hy)
   ·split at hx
    ·rw [← Option.some.inj hx]
     exact hl
    ·cases hx
  have hlen := sprV_len' hc.1 hx
  have hM' := (hM.hpM (az := az) hxs).up (su C)
  have := i1 (C + 1) hM' ⟨hc.2.2 _ (fun a hi => inH_hpM hi) az ha (inH_new (by omega)), hA.up (su C) (by split <;> (try split) <;> omega)⟩
  rw [show C + 1 + Jd.up (.ev _ _) = C + 1 from sz _] at this
  exact this
 | pR =>
  rintro C hM ⟨hl, hn, hA⟩
  show POk lv cs (C + 1) _ _
  have hx := hl _ (List.mem_cons_self ..)
  refine POk.zer ?_ (hA.up (su C) (by split <;> omega))
  have h1 := hM.up (su C)
  exact ⟨h1.fu, h1.bd, hx.grow (Grow.refl _) (su C), h1.hp, h1.ou⟩
 | @pE f s v c s' e1 _ i1 =>
  rintro C hM ⟨hl, hn, hA⟩
  show POk lv cs (C + 1) _ _
  have hg := Grow.alive s
  obtain ⟨k1, k2⟩ := escIn hM hl hA
  have h1 := i1 C k1 k2
  exact ⟨⟨h1.1.fu, h1.1.bd, h1.1.vl.grow (Grow.dead _ _ _ (Grow.refl _)) (Int.le_refl _), fun a x r hx => (h1.1.hp a x r hx).grow (Grow.dead _ _ _ (Grow.refl _)) (Int.le_refl _), h1.1.ou⟩, by have := h1.2.1; unfold Al at *; dsimp only; rw [List.length_set]; exact this, fun x hx => (h1.2.2 x hx).grow (Grow.dead _ _ _ (Grow.refl _)) (Int.le_refl _)⟩
 | @pJ f s v s' e1 _ i1 =>
  rintro C hM ⟨hl, hn, hA⟩
  show POk lv cs (C + 1) _ _
  obtain ⟨k1, k2⟩ := escIn hM hl hA
  have h1 := i1 C k1 k2
  exact ⟨⟨h1.1.fu, h1.1.bd, h1.1.vl.grow (Grow.dead _ _ _ (Grow.refl _)) (Int.le_refl _), fun a x r hx => (h1.1.hp a x r hx).grow (Grow.dead _ _ _ (Grow.refl _)) (Int.le_refl _), h1.1.ou⟩, by have := h1.2.1; unfold Al at *; dsimp only; rw [List.length_set]; exact this, fun x hx => by rw [List.mem_singleton.1 hx]; exact h1.1.vl.grow (Grow.dead _ _ _ (Grow.refl _)) (Int.le_refl _)⟩
 | @pA f x s v c s' hk _ i1 =>
  rintro C hM ⟨hl, hn, hA⟩
  show POk lv cs (C + 1) _ _
  have hx := hl x (by simp)
  exact i1 C hM ⟨hl f (by simp), hx.its, hx.len.1, hA.up (Int.le_refl _) (by rw [if_neg (by simp [oneE])]; split <;> (try split) <;> omega)⟩
 | @pS n l s hn ht =>
  rintro C hM ⟨hl, hn', hA⟩
  show POk lv cs (C + 1) _ _
  have hM' := hM.up (su C)
  have hv := simV_ok hM.nn n l ht hn' hl
  have ho := simV_out n l
  have hou := hM.ou
  refine POk.one ⟨hM'.fu, hM'.bd, hM'.vl, hM'.hp, ?_⟩ (hA.up (su C) (by split <;> omega)) (by unfold VOk; rw [show C + 1 - (outM s (simV n l).2.2).fuel = C - s.fuel + 1 from by show C + 1 - s.fuel = _; omega]; exact hv)
  show ((s.out ++ (simV n l).2.2).length : Int) ≤ 1001 * (C + 1 - s.fuel)
  rw [List.length_append]
  omega
end Go.Cb
namespace Go.Cb
open Go.Proofs
set_option maxRecDepth 100000
set_option maxHeartbeats 4000000
theorem ACall.apart {P : Program} {f : FuncId} {args : List PV} {Γ : List Ent} {Q : PV → List Ent → Prop} (h0 : ∃ fn, P.funcs[f]? = some fn ∧ fn.body.isNone = false ∧ (fn.name == "runtime.NumGoroutine") = false)
  (h : Γ.Pairwise Ent.apart → ACall P f args Γ Q) : ACall P f args Γ Q :=
 ⟨h0, fun w0 F M w vs hS hR => (h (List.pairwise_append.1 hS.sep).1).2 w0 F M w vs hS hR⟩
theorem ACall.apartQ {P : Program} {f : FuncId} {args : List PV} {Γ : List Ent} {Q : PV → List Ent → Prop} (h : ACall P f args Γ Q) : ACall P f args Γ fun y Γ' => Q y Γ' ∧ Γ'.Pairwise Ent.apart :=
 ⟨h.1, fun w0 F M w vs hS hT => (h.2 w0 F M w vs hS hT).mono fun _ _ ⟨v, F', y, Γ', e1, e2, e3, e4, e5⟩ => ⟨v, F', y, Γ', e1, e2, e3, e4, e5, (List.pairwise_append.1 e3.sep).1⟩⟩
theorem hpE_nd {h : Hp} (hp : (hpE h).Pairwise Ent.apart) : ndH h := by
 unfold ndH hpE at *
 rw [List.pairwise_map] at hp
 rw [List.Nodup, List.pairwise_map]
 refine hp.imp fun {a b} hab => ?_
 rcases hab with h1 | h1
 ·cases h1
 ·intro e
  exact h1 (congrArg some e)
theorem mcE_nd {b : Nat} {K : List Vl} {tk : Tok} {s : MSt} (hp : (mcE b K tk s).Pairwise Ent.apart) : ndH s.h := hpE_nd hp.tail.tail
theorem RetR.mono {b : Nat} {K : List Vl} {R R' : Vl → Int → MSt → Tok → Prop} (h : ∀ x c s' tk', R x c s' tk' → R' x c s' tk') {y : PV} {Γ' : List Ent} : RetR b K R y Γ' → RetR b K R' y Γ' := by
 rintro ⟨x, c, s', tk', e1, e2, hr⟩
 exact ⟨x, c, s', tk', e1, e2, h _ _ _ _ hr⟩
theorem AllR.mono {b : Nat} {K : List Vl} {R R' : List Vl → Int → MSt → Tok → Prop} (h : ∀ x c s' tk', R x c s' tk' → R' x c s' tk') {y : PV} {Γ' : List Ent} : AllR b K R y Γ' → AllR b K R' y Γ' := by
 rintro ⟨x, c, s', tk', e1, e2, hr⟩
 exact ⟨x, c, s', tk', e1, e2, h _ _ _ _ hr⟩
def tkB (tk : Tok) : Prop := tk.e = 4 ∧ tk.s = 1
def EvR (K : List Vl) (j : Jd) (s : MSt) (x : Vl) (c : Int) (s' : MSt) (tk' : Tok) : Prop := Ev K j s [x] c s' ∧ tkB tk'
theorem RetR.of {b : Nat} {K : List Vl} {R : Vl → Int → MSt → Tok → Prop} {y : PV} {Γ' : List Ent} {x : Vl} {c : Int} {s' : MSt} {tk' : Tok} (h : y = .tup [.agg (valC x), .int .i64 c] ∧ Γ' = mcE b K tk' s') (hr : R x c s' tk') : RetR b K R y Γ' :=
 ⟨x, c, s', tk', h.1, h.2, hr⟩
mutual
def Vl.wt : Vl → Nat
 | .mk k _ _ _ l _ _ => if k = 10 then 0 else 1 + Vl.wts l
def Vl.wts : List Vl → Nat
 | [] => 0
 | x :: xs => Vl.wt x + Vl.wts xs
end
theorem Vl.wt_eq (x : Vl) : x.wt = if x.k = 10 then 0 else 1 + Vl.wts x.l := by cases x; rw [Vl.wt]; rfl
theorem Vl.wts_two : ∀ {l : List Vl} (h : l.length = 2), Vl.wts l = (l[0]'(by omega)).wt + (l[1]'(by omega)).wt
 | [a, b], _ => by rw [Vl.wts, Vl.wts, Vl.wts]; rfl
theorem Vl.its_wt (x : Vl) : x.tx = true → x.its.2.k = 4 → Vl.wts x.its.1 + 1 ≤ x.wt := by
 induction x using Vl.ind with
 | h x ih =>
  intro ht hk
  by_cases h6 : x.k = 6
  ·have h2 := ((Vl.tx_eq x).1 ht).2.1 h6
   rw [Vl.its_pair x h6 h2] at hk ⊢
   have h1 := ih (x.l[1]'(by omega)) (List.getElem_mem _) (((Vl.tx_eq x).1 ht).2.2.2 _ (List.getElem_mem _)) hk
   rw [Vl.wt_eq x, if_neg (by omega)]
   show Vl.wts ((x.l[0]'(by omega)) :: (x.l[1]'(by omega)).its.1) + 1 ≤ _
   rw [Vl.wts, Vl.wts_two h2]
   omega
  ·rw [Vl.its_end x h6] at hk ⊢
   have hk' : x.k = 4 := hk
   rw [Vl.wt_eq, if_neg (by omega)]
   show Vl.wts [] + 1 ≤ _
   rw [Vl.wts]
   omega
def calW (f : Vl) (l : List Vl) : Nat := 2 * Vl.wts l + if f.k = 10 then 0 else 1
section
variable (b : Nat) (K : List Vl) (lv : Int)
def cK (K : List Vl) : Int := (K.length : Int)
def EvalOk (n : Int) : Prop := ∀ C t e s tk, C ≤ 900000 → s.fuel ≤ n → tkB tk → MOk lv (cK K) C s → JOk lv (cK K) C (.ev t e) s →
 ACall Tryz.prog 87 [.ptr b 0, .agg t.cells, envPV e, .nil] (mcE b K tk s) (RetR b K (EvR K (.ev t e) s))
variable {b K lv}
theorem MOk.lens {cs C : Int} {s : MSt} (h : MOk lv cs C s) (hC : C ≤ 900000) {l : List Vl} (hl : (l.length : Int) ≤ C - s.fuel) : l.length ≤ 1000000000 := by have := h.fu; omega
theorem VOk.lim {cs C : Int} {s : MSt} {x : Vl} (h : MOk lv cs C s) (hC : C ≤ 900000) (hx : VOk lv cs C s x) : x.its.1.length ≤ 1000000000 := by
 have h1 := (Vl.ok.len hx).1
 have := h.fu
 omega
theorem alLen {C k : Int} {s : MSt} (hC : C ≤ 900000) (hf : 0 ≤ s.fuel) (hk : k ≤ 2) (h : Al C k s) : s.alive.length ≤ 1000000000 := by
 unfold Al at h
 omega
theorem allOk {n : Int} (h2 : 0 ≤ lv ∧ lv ≤ 2) (hK : ∀ x ∈ K, x.ok lv (cK K) 20002 0 fun _ => False) (H : EvalOk b K lv n) (C : Int) (hC : C ≤ 900000) (l : List Trm) (hl : l.length ≤ 1000000000) (e : EnvM) (s : MSt) (tk : Tok) (hn : s.fuel ≤ n) (ht : tkB tk) (hM : MOk lv (cK K) C s) (hJ : JOk lv (cK K) C (.all l e) s) :
  ACall Tryz.prog 114 [.ptr b 0, .sl 4 (l.map Trm.pv) none, envPV e, .nil] (mcE b K tk s) (AllR b K fun vs c s' tk' => Ev K (.all l e) s vs c s' ∧ tkB tk') := by
 refine allR_c b K e l hl (fun i m s1 tk1 => tkB tk1 ∧ MOk lv (cK K) C s1 ∧ Al C 0 s1 ∧ Grow s s1 ∧ ∀ vs c s', Ev K (.all (l.drop i) e) s1 vs c s' → Ev K (.all l e) s (if c = 0 then m ++ vs else []) c s') _ s tk
  ⟨ht, hM, hJ.2, Grow.refl s, fun vs c s' h => ?_⟩ ?_ ?_
 ·have : vs = if c = 0 then [] ++ vs else [] := by
   by_cases hc : c = 0
   ·rw [if_pos hc]; rfl
   ·rw [if_neg hc]
    cases h with
    | allN | allC => exact absurd rfl hc
    | allE | allX => rfl
  rw [← this]
  exact h
 ·rintro i m s1 tk1 ⟨k1, k2, k3, k4, k5⟩ hi
  have hT := (hJ.1 _ (List.getElem_mem hi)).mono k4.2.1
  refine (H C l[i] e s1 tk1 hC (by have := k4.2.2; omega) k1 k2 ⟨hT, k3⟩).mono fun y Γ' => RetR.mono fun x c s' tk' ⟨hE, ht'⟩ => ⟨fun hc => ?_, fun hc => ?_⟩
  ·subst hc
   have hp := hE.keeps h2 hK C k2 ⟨hT, k3⟩
   rw [show C + Jd.up (.ev _ _) = C from by show C + 0 = C; omega] at hp
   refine ⟨ht', hp.1, hp.2.1, k4.trans hE.grow, fun vs c2 s2 h3 => ?_⟩
   rw [drop_at hi] at k5
   by_cases hc2 : c2 = 0
   ·subst hc2
    have := k5 _ _ _ (.allC hE h3)
    rw [if_pos rfl] at this ⊢
    rw [List.append_assoc]
    exact this
   ·have := k5 _ _ _ (.allX hE h3 hc2)
    rw [if_neg hc2] at this ⊢
    exact this
  ·rw [drop_at hi] at k5
   have := k5 _ _ _ (.allE hE hc)
   rw [if_neg hc] at this
   exact ⟨this, ht'⟩
 ·rintro m s1 tk1 ⟨k1, k2, k3, k4, k5⟩
  rw [List.drop_of_length_le (Nat.le_refl _)] at k5
  have := k5 _ _ _ .allN
  rw [if_pos rfl, List.append_nil] at this
  exact ⟨this, k1⟩
theorem primOk {n : Int} (m : Nat) (IH : ∀ C f l s tk, C ≤ 899999 → s.fuel ≤ n → tkB tk → MOk lv (cK K) C s → JOk lv (cK K) C (.call f l) s → calW f l < m →
  ACall Tryz.prog 140 [.ptr b 0, .agg (valC f), .sl 7 (l.map Vl.pv) none] (mcE b K tk s) (RetR b K (EvR K (.call f l) s))) :
 ∀ C p l s tk, C ≤ 899999 → s.fuel ≤ n → tkB tk → MOk lv (cK K) C s → JOk lv (cK K) C (.prim p l) s → 2 * Vl.wts l < m →
  ACall Tryz.prog 141 [.ptr b 0, .int .i64 p, .sl 7 (l.map Vl.pv) none] (mcE b K tk s) (RetR b K (EvR K (.prim p l) s)) := by
 rintro C p l s tk hC hn ht hM ⟨hl, hlen, hA⟩ hw
 have hll := hM.lens (by omega) hlen
 by_cases htk : takB p l.length = false
 ·exact (primN_c b K tk s p l hll htk).mono fun y Γ' h => RetR.of h ⟨.pN htk, ht⟩
 have htk' : takB p l.length = true := by simpa using htk
 have hb := htk'
 unfold takB at hb
 simp only [Bool.and_eq_true, Bool.or_eq_true, decide_eq_true_eq] at hb
 have f28 : (factOf 28).least = 1 ∧ (factOf 28).most = 1 := by decide
 have f29 : (factOf 29).least = 1 ∧ (factOf 29).most = 1 := by decide
 have f30 : (factOf 30).least = 2 ∧ (factOf 30).most = 2 := by decide
 rcases (by omega : p < 28 ∨ p = 28 ∨ p = 29 ∨ p = 30) with hp | rfl | rfl | rfl
 ·have hS := sim6 p l hp htk' hll (fun x hx => (hl x hx).tx) fun x hx => VOk.lim hM (by omega) (hl x hx)
  exact (primS_c b K tk s p hp l hll htk' (by have := hM.ou; have := hM.fu; omega) hS).mono fun y Γ' h => RetR.of h ⟨.pS hp htk', ht⟩
 ·have hl1 : l.length = 1 := by omega
  refine (primR_c b K tk s l hl1).mono fun y Γ' h => RetR.of h ⟨?_, ht⟩
  match l, hl1 with
  | [x], _ => exact .pR
 ·have hl1 : l.length = 1 := by omega
  refine primE_c b K tk s _ l hl1 (escape_c b K tk s _ l[0] ht.1 ht.2 (alLen (by omega) hM.fu (by split <;> omega) hA) (fun x c s' tk' => Ev K (.call l[0] [escV s.alive.length]) (newA s) [x] c s' ∧ tkB tk') ?_ fun tk1 h1 h2 => ?_)
  ·rintro x c s' tk' ⟨hE, ht'⟩
   have hg : (s.alive ++ [true]).length ≤ s'.alive.length := hE.grow.1
   rw [List.length_append, List.length_singleton] at hg
   match l, hl1, hE with
   | [f], _, hE =>
   refine ⟨by omega, ht'.2, ?_, fun hc => ⟨.pE hE hc, ht'⟩⟩
   rintro ⟨rfl, hto⟩
   exact ⟨.pJ hE hto, ht'⟩
  ·match l, hl1, hl, hA, hw with
   | [f], _, hl, hA, hw =>
   obtain ⟨k1, k2⟩ := escIn hM hl hA
   refine IH C f _ _ tk1 hC hn ⟨h1, h2⟩ k1 k2 ?_
   have e : Vl.wts [escV s.alive.length] = 0 := rfl
   have e2 : Vl.wts [f] = f.wt := by rw [Vl.wts, Vl.wts]; rfl
   unfold calW
   rw [e]
   rw [e2, Vl.wt_eq] at hw
   split
   ·omega
   ·rename_i hk
    rw [if_neg hk] at hw
    omega
 ·have hl1 : l.length = 2 := by omega
  have hx := hl l[1] (List.getElem_mem _)
  by_cases hk : l[1].its.2.k = 4
  ·refine primA_c b K tk s _ l hl1 hx.tx (VOk.lim hM (by omega) hx) hk ((IH C l[0] l[1].its.1 s tk hC hn ht hM ⟨hl _ (List.getElem_mem _), hx.its, hx.len.1, ?_⟩ ?_).mono fun y Γ' => RetR.mono fun x c s' tk' ⟨hE, ht'⟩ => ⟨?_, ht'⟩)
   ·refine hA.up (Int.le_refl _) ?_
    match l, hl1 with
    | [f, x], _ => rw [if_neg (by simp [oneE])]; split <;> (try split) <;> omega
   ·have h1 := Vl.its_wt _ hx.tx hk
    unfold calW
    rw [Vl.wts_two hl1] at hw
    split <;> omega
   ·match l, hl1, hE, hk with
    | [f, x1], _, hE, hk => exact .pA hk hE
  ·refine (primL_c b K tk s l hl1 hx.tx (VOk.lim hM (by omega) hx) hk).mono fun y Γ' h => RetR.of h ⟨?_, ht⟩
   match l, hl1, hk with
   | [f, x1], _, hk => exact .pL hk
theorem callOk {n : Int} (H : EvalOk b K lv n) : ∀ (m : Nat) C f l s tk, C ≤ 899999 → s.fuel ≤ n → tkB tk → MOk lv (cK K) C s → JOk lv (cK K) C (.call f l) s → calW f l < m →
  ACall Tryz.prog 140 [.ptr b 0, .agg (valC f), .sl 7 (l.map Vl.pv) none] (mcE b K tk s) (RetR b K (EvR K (.call f l) s)) := by
 intro m
 induction m with
 | zero => exact fun C f l s tk _ _ _ _ _ h => absurd h (Nat.not_lt_zero _)
 | succ m ih =>
  rintro C f l s tk hC hn ht hM ⟨hf, hl, hlen, hA⟩ hw
  have hll := hM.lens (by omega) hlen
  unfold calW at hw
  by_cases h9 : f.k = 9
  ·rw [if_neg (by omega)] at hA hw
   exact calP_c b K tk s _ f h9 l ((primOk m ih C f.n l s tk hC hn ht hM ⟨hl, hlen, hA⟩ (by omega)).mono fun y Γ' => RetR.mono fun x c s' tk' ⟨hE, ht'⟩ => ⟨.calP h9 hE, ht'⟩)
  by_cases h10 : f.k = 10
  ·by_cases hl1 : l.length = 1
   ·have hfn := ((Vl.ok_eq f).1 hf).2.2.2.1 h10
    refine (calE_c b K tk s f h10 l hl1 hfn ht.2).mono fun y Γ' h => ?_
    match l, hl1, h with
    | [x], _, h =>
    rcases h with ⟨h1, h⟩ | ⟨h1, h⟩
    ·exact RetR.of h ⟨.calD h10 (by rw [List.getElem?_eq_getElem (by omega), h1]), ht⟩
    ·exact RetR.of h ⟨.calJ h10 (by rw [List.getElem?_eq_getElem (by omega), h1]), ht⟩
   ·exact (calN_c b K tk s f h10 l hl1).mono fun y Γ' h => RetR.of h ⟨.calN h10 hl1, ht⟩
  by_cases h8 : f.k = 8
  ·obtain ⟨cl, hp, hc⟩ := ((Vl.ok_eq f).1 hf).2.1 h8
   cases hx : sprV l cl.v.length cl.rest with
   | none => exact (calK_c b K tk s f h8 cl hp l hll (by have := hc.2.1; omega) hc.1 hx).mono fun y Γ' h => RetR.of h ⟨.calK h8 hp hx, ht⟩
   | some xs =>
    refine cal_c b K tk s _ f h8 cl hp l xs hll (by have := hc.2.1; omega) hc.1 hx fun az ha => ?_
    have hN := hM.nn
    have hxs : ∀ x ∈ xs, VOk lv (cK K) C s x := by
     have hx' := hx
     unfold sprV at hx'
     split at hx'
     ·rw [← Option.some.inj hx']
      intro x hx
      rcases List.mem_append.1 hx with hx | hx
      ·exact hl x (List.mem_of_mem_take hx)
      ·rw [List.mem_singleton.1 hx]
       exact lstV_ok hN (by rw [List.length_drop]; omega) fun y hy => hl y (List.mem_of_mem_drop hy)
     ·split at hx'
      ·rw [← Option.some.inj hx']
       exact hl
      ·cases hx'
    have hlen := sprV_len' hc.1 hx
    refine (H (C + 1) cl.body (extM cl.env cl.v az) (addM s (hpM s.h xs az)) tk (by omega) hn ht ((hM.hpM (az := az) hxs).up (by omega)) ⟨hc.2.2 _ (fun a hi => inH_hpM hi) az ha (inH_new (by omega)), hA.up (by omega) (by split <;> (try split) <;> omega)⟩).mono fun y Γ' => RetR.mono fun x c s' tk' ⟨hE, ht'⟩ => ⟨.cal h8 hp hx ha hE, ht'⟩
  ·exact (calB_c b K tk s f ⟨h8, h9, h10⟩ l).mono fun y Γ' h => RetR.of h ⟨.calB h8 h9 h10, ht⟩
end
end Go.Cb
namespace Go.Cb
open Go.Proofs
set_option maxRecDepth 100000
set_option maxHeartbeats 4000000
section
variable (b : Nat) (K : List Vl) (tk : Tok) (s : MSt) (t : Trm) (e : EnvM)
theorem strPE_c (ho : t.op = 18) (l : List Vl) (hl : l.length = 2) (hk : l[0].k = 11) (y : Vl) (a : Nat) (r : Bool) (hf : l[0].c = some a) (hg : hget s.h a = some (y, r)) (hu : y.k = 12) :
  ACall Tryz.prog 115 [.ptr b 0, .agg t.cells, .sl 7 (l.map Vl.pv) none, envPV e] (mcE b K tk s) (fun y Γ' => y = .tup [.agg (valC zerV), .int .i64 5] ∧ Γ' = mcE b K tk s) := by
 obtain ⟨put, hpb, hpu⟩ := hpE_box hg
 refine ACall.of_body tt_ok Tryz.func115 rfl rfl (n := 173) rfl rfl ?_
 conv => whnf
 repeat' (first|refine aA2 ?_|((intro _);conv=>whnf)|(refine zX (fun hc=>?_) (fun hc=>?_)<;>(try simp only [SY] at hc)<;>first|omega|(conv=>whnf)))
 all_goals
  rw [hf]
  conv => whnf
  repeat' (first|refine aA2 ?_|(refine zX (fun hc=>?_) (fun hc=>?_)<;>(try simp only [SY] at hc)<;>first|omega|(conv=>whnf)))
 all_goals try
  rw [hf]
  conv => whnf
  skip
 all_goals exact PRet.gen (y := .tup [.agg (valC zerV), .int .i64 5]) (Γ' := mcE b K tk s) WkR.res ⟨rfl, rfl⟩
end
section
variable {b : Nat} {K : List Vl} {lv : Int}
theorem len1 {α : Type} : ∀ {l : List α}, l.length = 1 → ∃ x, l = [x]
 | [x], _ => ⟨x, rfl⟩
theorem len2 {α : Type} : ∀ {l : List α}, l.length = 2 → ∃ x y, l = [x, y]
 | [x, y], _ => ⟨x, y, rfl⟩
theorem list1 {α : Type} : ∀ {l : List α} (h : l.length = 1), l = [l[0]'(by omega)]
 | [x], _ => rfl
theorem list3 {α : Type} : ∀ {l : List α} (h : l.length = 3), l = [l[0]'(by omega), l[1]'(by omega), l[2]'(by omega)]
 | [x, y, z], _ => rfl
theorem Ev.none {K : List Vl} {j : Jd} {s : MSt} {vs : List Vl} {c : Int} {s' : MSt} (h : Ev K j s vs c s') : c ≠ 0 → match j with
  | .all _ _ => vs = []
  | .rc _ _ _ _ => vs = []
  | _ => True := by
 cases h <;> intro hc <;> first | trivial | rfl | exact absurd rfl hc
theorem strictOk {n : Int} (h2 : 0 ≤ lv ∧ lv ≤ 2) (H : EvalOk b K lv n) (C : Int) (hC : C ≤ 899999) (t : Trm) (e : EnvM) (ho : t.op = 2 ∨ t.op = 5 ∨ t.op = 6 ∨ t.op = 10 ∨ t.op = 12 ∨ (14 ≤ t.op ∧ t.op ≤ 18)) (l : List Vl) (hlt : l.length = t.t.length) (s : MSt) (tk : Tok) (hn : s.fuel ≤ n) (ht : tkB tk) (hM : MOk lv (cK K) C s) (hJ : JOk lv (cK K) C (.str t l e) s) :
  ACall Tryz.prog 115 [.ptr b 0, .agg t.cells, .sl 7 (l.map Vl.pv) none, envPV e] (mcE b K tk s) (RetR b K (EvR K (.str t l e) s)) := by
 obtain ⟨hT, hl, hlen, hA⟩ := hJ
 have hll := hM.lens (by omega) hlen
 have hc := hT.cnt
 rcases (by omega : (t.op = 2 ∨ t.op = 14) ∨ t.op = 5 ∨ t.op = 6 ∨ t.op = 10 ∨ t.op = 12 ∨ t.op = 15 ∨ t.op = 16 ∨ (t.op = 17 ∨ t.op = 18)) with h | h | h | h | h | h | h | h
 ·have hl1 : l.length = 1 := by have := hc.1 (by omega); omega
  obtain ⟨x, rfl⟩ := len1 hl1
  obtain ⟨a, hf, y, r, hg⟩ := hT.ref (by omega)
  by_cases hu : (r = true ∨ t.op = 14) ∧ y.k = 12
  ·refine (strSE_c b K tk s t e h _ hl1 y a r hf hg hu.1 hu.2).mono fun y Γ' hq => RetR.of hq ⟨?_, ht⟩
   exact .stX h hf hg hu.1 hu.2
  ·refine (strS_c b K tk s t e h _ hl1 y a r hf hg hu).mono fun y Γ' hq => RetR.of hq ⟨?_, ht⟩
   exact .stC h hf hg hu
 ·have hl1 : 0 < l.length := by have := hc.2.2.2.1 (by omega); omega
  refine strA_c b K tk s _ t h e l hl1 ((callOk H (calW l[0] (l.drop 1) + 1) C l[0] (l.drop 1) s tk hC hn ht hM ⟨hl _ (List.getElem_mem _), fun x hx => hl x (List.mem_of_mem_drop hx), by rw [List.length_drop]; omega, hA.up (Int.le_refl _) (by split <;> (try split) <;> omega)⟩ (Nat.lt_succ_self _)).mono fun y Γ' => RetR.mono fun x c s' tk' ⟨hE, ht'⟩ => ⟨?_, ht'⟩)
  match l, hl1, hE with
  | f :: l, _, hE => exact .app h hE
 ·have hl1 : 0 < l.length := by have := hc.2.2.2.1 (by omega); omega
  refine (str6_c b K tk s t e h l hl1 hll).mono fun y Γ' hq => RetR.of hq ⟨?_, ht⟩
  have hne : l ≠ [] := by intro h0; rw [h0] at hl1; exact absurd hl1 (Nat.lt_irrefl 0)
  have e1 : l[l.length - 1] = l.getLast hne := (List.getLast_eq_getElem hne).symm
  rw [e1]
  have := Ev.seq (K := K) (t := t) (e := e) (s := s) (l := l.dropLast) (x := l.getLast hne) h
  rw [List.dropLast_concat_getLast hne] at this
  exact this
 ·exact strM_c b K tk s _ t h e l ((primOk (2 * Vl.wts l + 1) (callOk H _) C t.n l s tk hC hn ht hM ⟨hl, hlen, hA.up (Int.le_refl _) (by split <;> omega)⟩ (Nat.lt_succ_self _)).mono fun y Γ' => RetR.mono fun x c s' tk' ⟨hE, ht'⟩ => ⟨.prm h hE, ht'⟩)
 ·have hl1 : l.length = 1 := by have := hc.1 (by omega); omega
  obtain ⟨x, rfl⟩ := len1 hl1
  by_cases hu : x.k = 12
  ·refine (str12E_c b K tk s t e h _ hl1 hu).mono fun y Γ' hq => RetR.of hq ⟨?_, ht⟩
   exact .chkE h hu
  ·refine (str12_c b K tk s t e h _ hl1 hu).mono fun y Γ' hq => RetR.of hq ⟨?_, ht⟩
   exact .chk h hu
 ·have hl1 : l.length = 1 := by have := hc.1 (by omega); omega
  obtain ⟨x, rfl⟩ := len1 hl1
  refine (strX_c b K tk s t e h _ hl1).apartQ.mono fun y Γ' ⟨⟨a, e1, e2⟩, hap⟩ => RetR.of ⟨e1, e2⟩ ⟨?_, ht⟩
  rw [e2] at hap
  have hnd := mcE_nd hap
  exact .box h hnd
 ·have hl1 : l.length = 1 := by have := hc.1 (by omega); omega
  obtain ⟨x, rfl⟩ := len1 hl1
  by_cases hk : x.k = 11
  ·obtain ⟨a, hf, y, r, hg⟩ := ((Vl.ok_eq _).1 (hl x (List.mem_cons_self ..))).2.2.1 hk
   refine (strG_c b K tk s t e h _ hl1 hk y a r hf hg).mono fun y Γ' hq => RetR.of hq ⟨?_, ht⟩
   exact .get h hk hf hg
  ·refine (strB_c b K tk s t e (by omega) [x] (Nat.zero_lt_succ _) hk).mono fun y Γ' hq => RetR.of hq ⟨?_, ht⟩
   exact .bad (by omega) hk
 ·have hl1 : l.length = 2 := by have := hc.2.2.1 (by omega); omega
  obtain ⟨x, z, rfl⟩ := len2 hl1
  by_cases hk : x.k = 11
  ·obtain ⟨a, hf, y, r, hg⟩ := ((Vl.ok_eq _).1 (hl x (List.mem_cons_self ..))).2.2.1 hk
   by_cases hu : t.op = 18 ∧ y.k = 12
   ·refine (strPE_c b K tk s t e hu.1 _ hl1 hk y a r hf hg hu.2).mono fun y Γ' hq => RetR.of hq ⟨?_, ht⟩
    exact .putE hu.1 hk hf hg hu.2
   ·refine (strP_c b K tk s t e h _ hl1 hk y a r hf hg hu).mono fun y Γ' hq => RetR.of hq ⟨?_, ht⟩
    exact .put h hk hf hg hu
  ·refine (strB_c b K tk s t e (by omega) [x, z] (Nat.zero_lt_succ _) hk).mono fun y Γ' hq => RetR.of hq ⟨?_, ht⟩
   exact .bad (by omega) hk
theorem split_last {l : List Trm} {k : Nat} (h : l.length = k + 1) : l = l.take k ++ [l[k]'(by omega)] := by
 have : l.take (k + 1) = l := List.take_of_length_le (by omega)
 rw [← List.take_succ_eq_append_getElem (by omega), this]
theorem letOk {n : Int} (h2 : 0 ≤ lv ∧ lv ≤ 2) (hK : ∀ x ∈ K, x.ok lv (cK K) 20002 0 fun _ => False) (H : EvalOk b K lv n) (C : Int) (hC : C ≤ 900000) (t : Trm) (e : EnvM) (ho : t.op = 8) (s : MSt) (tk : Tok) (hn : s.fuel ≤ n) (ht : tkB tk) (hM : MOk lv (cK K) C s) (hJ : JOk lv (cK K) C (.go t e) s) :
  ACall Tryz.prog 113 [.ptr b 0, .agg t.cells, envPV e, .nil] (mcE b K tk s) (RetR b K (EvR K (.go t e) s)) := by
 obtain ⟨hT, hA⟩ := hJ
 have hl := hT.cnt.2.2.2.2.1 (by omega)
 have hfit := hT.fit.len
 have hsp := split_last hl
 have htl : (t.t.take t.v.length).length = t.v.length := by rw [List.length_take]; omega
 have hJa : JOk lv (cK K) C (.all (t.t.take t.v.length) e) s := ⟨hT.lets ho hsp htl, hA⟩
 refine bindL_c b K tk s t e _ ho hl (by omega) ((allOk h2 hK H C hC (t.t.take t.v.length) (by omega) e s tk hn ht hM hJa).mono fun y Γ' => AllR.mono fun vs c s1 tk1 ⟨hE, ht1⟩ => ⟨fun hc => ⟨.ltE ho hsp htl hE hc, ht1⟩, fun hc => ?_⟩)
 subst hc
 have hvl := hE.len rfl
 dsimp only at hvl
 have hp := hE.keeps h2 hK C hM hJa
 rw [show C + Jd.up (.all _ _) = C from by show C + 0 = C; omega] at hp
 refine ⟨by omega, fun az ha => ?_⟩
 have hg := hE.grow
 have hT' := hT.last (by omega) hsp htl (fun a hi => (hg.trans (Grow.hpM s1 vs az)).2.1 a hi) az ha (inH_new (by omega))
 exact (H C _ (extM e t.v az) (addM s1 (hpM s1.h vs az)) tk1 hC (by have := hg.2.2; show s1.fuel ≤ n; omega) ht1 (hp.1.hpM hp.2.2) ⟨hT', hp.2.1⟩).mono fun y Γ' => RetR.mono fun x c s' tk' ⟨hE2, ht2⟩ => ⟨.ltC ho hsp htl hE ha hE2, ht2⟩
theorem extM_find : ∀ {vs : List Int} {az : List Nat} (e : EnvM), az.length = vs.length → ∀ v ∈ vs, ∃ a ∈ az, fndM (extM e vs az) v = some a
 | [], _, _, _, v, hv => by cases hv
 | v :: vs, [], _, hl, _, _ => by simp at hl
 | v :: vs, a :: az, e, hl, w, hw => by
  rw [extM]
  by_cases hm : w ∈ vs
  ·obtain ⟨c, h1, h2⟩ := extM_find ((v, a) :: e) (by simpa using hl) w hm
   exact ⟨c, List.mem_cons_of_mem _ h1, h2⟩
  ·have hwv : w = v := by
    rcases List.mem_cons.1 hw with h | h
    ·exact h
    ·exact absurd h hm
   subst hwv
   refine ⟨a, List.mem_cons_self .., ?_⟩
   have key : ∀ {us : List Int} {bz : List Nat} {e : EnvM}, w ∉ us → fndM (extM e us bz) w = fndM e w := by
    intro us
    induction us with
    | nil => intro bz e _; cases bz <;> rfl
    | cons u us ih =>
     intro bz e hn
     cases bz with
     | nil => rfl
     | cons c bz =>
      rw [extM, ih fun h => hn (List.mem_cons_of_mem _ h), fndM, if_neg fun h => hn (by rw [h]; exact List.mem_cons_self ..)]
   rw [key hm, fndM, if_pos rfl]
theorem recOk {n : Int} (h2 : 0 ≤ lv ∧ lv ≤ 2) (hK : ∀ x ∈ K, x.ok lv (cK K) 20002 0 fun _ => False) (H : EvalOk b K lv n) (C : Int) (hC : C ≤ 900000) (t : Trm) (e : EnvM) (ho : t.op = 7 ∨ t.op = 9) (s : MSt) (tk : Tok) (hn : s.fuel ≤ n) (ht : tkB tk) (hM : MOk lv (cK K) C s) (hJ : JOk lv (cK K) C (.go t e) s) :
  ACall Tryz.prog 113 [.ptr b 0, .agg t.cells, envPV e, .nil] (mcE b K tk s) (RetR b K (EvR K (.go t e) s)) := by
 obtain ⟨hT, hA⟩ := hJ
 have hl := hT.cnt.2.2.2.2.1 (by omega)
 have hfit := hT.fit.len
 have hsp := split_last hl
 have htl : (t.t.take t.v.length).length = t.v.length := by rw [List.length_take]; omega
 have h19 : ∀ x ∈ t.t, ¬x.op = 19 := fun x hx => by
  obtain ⟨i, hi, rfl⟩ := List.mem_iff_getElem.1 hx
  have := (hT.inner (D' := fun _ => True) (fun _ _ => trivial) (by omega) i hi (by omega) (List.replicate t.v.length 0) (by simp) fun _ _ => trivial).op
  omega
 have hnow : ∀ {p : Prop} [Decidable p], (t.op = 9 ∨ t.n = 1 ↔ p) → ((t.op == 9 || t.n == 1) = true ↔ p) := fun {p} _ h => by rw [← h]; simp
 have hN : (t.op == 9 || t.n == 1) = true ↔ (t.op = 9 ∨ t.n = 1) := by simp
 have hst : ∀ (s : MSt) (E : EnvM) (v : Int) (x : Vl), (if (t.op == 9 || t.n == 1) = true then stoM s E v x else s) = if t.op = 9 ∨ t.n = 1 then stoM s E v x else s := fun s E v x => by simp only [hN]
 refine bindR_c b K tk s t e _ ho hl (by omega) h19
  (fun az i m s1 tk1 => tkB tk1 ∧ az.length = t.v.length ∧ MOk lv (cK K) C s1 ∧ Al C 0 s1 ∧ Grow (addM s (hpU s.h (t.op == 7) az)) s1 ∧ (∀ x ∈ m, VOk lv (cK K) C s1 x) ∧
   ∀ vs c s', Ev K (.rc (t.op == 9 || t.n == 1) (t.v.drop i) ((t.t.take t.v.length).drop i) (extM e t.v az)) s1 vs c s' → Ev K (.rc (t.op == 9 || t.n == 1) t.v (t.t.take t.v.length) (extM e t.v az)) (addM s (hpU s.h (t.op == 7) az)) (if c = 0 then m ++ vs else []) c s')
  (fun az ha => ⟨ht, ha, hM.hpU, hA, Grow.refl _, by simp, fun vs c s' h => ?_⟩) ?_ ?_
 ·have : vs = if c = 0 then [] ++ vs else [] := by
   by_cases hc : c = 0
   ·rw [if_pos hc]; rfl
   ·rw [if_neg hc]
    exact h.none hc
  rw [← this]
  exact h
 ·rintro az i m s1 tk1 ⟨k1, k0, k2, k3, k4, k6, k5⟩ hi
  have hil : i < (t.t.take t.v.length).length := by omega
  have e1 : (t.t.take t.v.length)[i] = t.t[i]'(by omega) := List.getElem_take
  have hT1 := (hT.recs ho hsp htl (fun a ha => inH_hpU ha) az k0 (inU_new (h := s.h) (r := t.op == 7)) _ (List.getElem_mem hil)).mono k4.2.1
  rw [e1] at hT1
  refine (H C _ (extM e t.v az) s1 tk1 hC (by have := k4.2.2; have e : (addM s (hpU s.h (t.op == 7) az)).fuel = s.fuel := rfl; omega) k1 k2 ⟨hT1, k3⟩).mono fun y Γ' => RetR.mono fun x c s' tk' ⟨hE, ht'⟩ => ⟨fun hc => ?_, fun hc => ?_⟩
  ·rw [drop_at hi, drop_at hil, e1] at k5
   have := k5 _ _ _ (.rcE hE hc)
   rw [if_neg hc] at this
   exact ⟨.fxE ho hsp htl k0 this hc, ht'⟩
  ·subst hc
   have hp := hE.keeps h2 hK C k2 ⟨hT1, k3⟩
   rw [show C + Jd.up (.ev _ _) = C from by show C + 0 = C; omega] at hp
   have hx := hp.2.2 x (List.mem_cons_self ..)
   have hgs := Grow.stoI s' (t.op = 9 ∨ t.n = 1) (extM e t.v az) (t.v[i]'hi) x
   refine ⟨fun _ => ?_, ht', k0, hp.1.stoI hx, ?_, (k4.trans hE.grow).trans hgs, fun z hz => ?_, fun vs c2 s2 h3 => ?_⟩
   ·obtain ⟨a, haz, hf⟩ := extM_find e k0 (t.v[i]'hi) (List.getElem_mem _)
    obtain ⟨y, r, hg⟩ := hE.grow.2.1 a (k4.2.1 a (inU_new a haz))
    exact ⟨a, y, r, hf, hg⟩
   ·have h4 := hp.2.1
    have h3 := stoM_al s' (extM e t.v az) (t.v[i]'hi) x
    unfold Al at *
    split
    ·rw [h3.1, h3.2]; exact h4
    ·exact h4
   ·rcases List.mem_append.1 hz with hz | hz
    ·exact (k6 z hz).grow (hE.grow.trans hgs) (Int.le_refl _)
    ·rw [List.mem_singleton.1 hz]
     exact hx.grow hgs (Int.le_refl _)
   ·rw [drop_at hi, drop_at hil, e1] at k5
    rw [← hst] at h3
    by_cases hc2 : c2 = 0
    ·subst hc2
     have := k5 _ _ _ (.rcC hE h3)
     rw [if_pos rfl] at this ⊢
     rw [List.append_assoc]
     exact this
    ·have := k5 _ _ _ (.rcX hE h3 hc2)
     rw [if_neg hc2] at this ⊢
     exact this
 ·rintro az m s1 tk1 ⟨k1, k0, k2, k3, k4, k6, k5⟩ hml
  rw [List.drop_of_length_le (Nat.le_refl _), List.drop_of_length_le (by omega)] at k5
  have hrc := k5 _ _ _ .rcN
  rw [if_pos rfl, List.append_nil] at hrc
  refine ⟨fun _ => fun v hv => ?_, ?_⟩
  ·obtain ⟨a, haz, hf⟩ := extM_find e k0 v hv
   obtain ⟨y, r, hg⟩ := k4.2.1 a (inU_new a haz)
   exact ⟨a, hf, y, r, hg⟩
  have hgs := Grow.stosI s1 (t.op = 7 ∧ t.n = 0) (extM e t.v az) t.v m
  have hal : Al C 0 (if t.op = 7 ∧ t.n = 0 then stosM s1 (extM e t.v az) t.v m else s1) := by
   have h3 := stosM_al (extM e t.v az) t.v m s1
   unfold Al at *
   split
   ·rw [h3.1, h3.2]; exact k3
   ·exact k3
  have hT' := hT.last (by omega) hsp htl (fun a hi => hgs.2.1 a (k4.2.1 a (inH_hpU hi))) az k0 (fun a hi => hgs.2.1 a (k4.2.1 a (inU_new a hi)))
  exact (H C _ (extM e t.v az) (if t.op = 7 ∧ t.n = 0 then stosM s1 (extM e t.v az) t.v m else s1) tk1 hC (by have := (k4.trans hgs).2.2; have e : (addM s (hpU s.h (t.op == 7) az)).fuel = s.fuel := rfl; omega) k1 (k2.stosI k6) ⟨hT', hal⟩).mono fun y Γ' => RetR.mono fun x c s' tk' ⟨hE2, ht2⟩ => ⟨.fxC ho hsp htl k0 hrc hE2, ht2⟩
theorem evalOk (h2 : 0 ≤ lv ∧ lv ≤ 2) (hK : ∀ x ∈ K, x.ok lv (cK K) 20002 0 fun _ => False) : ∀ n : Nat, EvalOk b K lv n := by
 intro n
 induction n with
 | zero =>
  rintro C t e s tk hC hn ht hM hJ
  exact (evD_c b K tk s t e hn).mono fun y Γ' hq => RetR.of hq ⟨.dry hn, ht⟩
 | succ n IH =>
  rintro C t e s tk hC hn ht hM ⟨hT, hA⟩
  by_cases h0 : s.fuel ≤ 0
  ·exact (evD_c b K tk s t e h0).mono fun y Γ' hq => RetR.of hq ⟨.dry h0, ht⟩
  have hfn := (evD_c b K tk ⟨0, s.out, s.alive, s.to, s.val, s.h⟩ t e (Int.le_refl 0)).1
  refine ACall.apart hfn fun hap => ?_
  have hnd := mcE_nd hap
  have h0' : 0 < s.fuel := by omega
  have hbd := hM.bd
  have hf : 0 < s.fuel ∧ s.fuel ≤ 1000000 := by omega
  have hML := hM.less h0'
  have hAL : Al (C - 1) 0 (lessM s) := by unfold Al at *; show (s.alive.length : Int) ≤ 2 * (C - 1 - (s.fuel - 1)) + 0; omega
  have hJL : JOk lv (cK K) (C - 1) (.go t e) (lessM s) := ⟨hT, hAL⟩
  have hnL : (lessM s).fuel ≤ n := by show s.fuel - 1 ≤ n; omega
  have up : ∀ {R : Vl → Int → MSt → Tok → Prop}, (∀ x c s' tk', R x c s' tk' → EvR K (.go t e) (lessM s) x c s' tk') → ∀ y Γ', RetR b K R y Γ' → RetR b K (EvR K (.ev t e) s) y Γ' := fun h y Γ' => RetR.mono fun x c s' tk' hr => ⟨.ev h0' hnd (h _ _ _ _ hr).1, (h _ _ _ _ hr).2⟩
  have hc := hT.cnt
  rcases (by have := hT.op; omega : t.op = 0 ∨ t.op = 1 ∨ t.op = 3 ∨ t.op = 4 ∨ (t.op = 7 ∨ t.op = 9) ∨ t.op = 8 ∨ t.op = 11 ∨ t.op = 13 ∨ (t.op = 2 ∨ t.op = 5 ∨ t.op = 6 ∨ t.op = 10 ∨ t.op = 12 ∨ (14 ≤ t.op ∧ t.op ≤ 18))) with h | h | h | h | h | h | h | h | h
  ·have hcn := hT.con h
   refine (evConst_c b K tk s t e hf h hcn).mono fun y Γ' hq => RetR.of hq ⟨.ev h0' hnd (.con h ?_), ht⟩
   unfold cK at hcn
   exact List.getElem?_eq_getElem (by omega)
  ·obtain ⟨a, hfd, y, r, hg⟩ := hT.ref (by omega)
   by_cases hu : r = true ∧ y.k = 12
   ·obtain ⟨rfl, hu⟩ := hu
    exact (evRE_c b K tk s t e hf h a hfd y hg hu).mono fun y Γ' hq => RetR.of hq ⟨.ev h0' hnd (.refE h hfd hg hu), ht⟩
   ·exact (evR_c b K tk s t e hf h a hfd y r hg hu).mono fun y Γ' hq => RetR.of hq ⟨.ev h0' hnd (.ref h hfd hg hu), ht⟩
  ·have h3 := hc.2.1 h
   have hsp := list3 h3
   have hs : ∀ i (hi : i < t.t.length), TE lv (cK K) (inH s.h) t.t[i] e := fun i hi => hT.sub (by omega) (List.getElem_mem _)
   have hJ0 : JOk lv (cK K) (C - 1) (.ev (t.t[0]'(by omega)) e) (lessM s) := ⟨hs 0 (by omega), hAL⟩
   refine evI_c b K tk s t e _ hf h h3 ((IH (C - 1) _ e (lessM s) tk (by omega) hnL ht hML hJ0).mono fun y Γ' => RetR.mono fun x c s1 tk1 ⟨hE, ht1⟩ => ?_)
   refine ⟨fun hc0 => ⟨.ev h0' hnd (.ifE h hsp hE hc0), ht1⟩, fun hc0 hx => ?_, fun hc0 hx => ?_⟩
   all_goals
    subst hc0
    have hp := hE.keeps h2 hK (C - 1) hML hJ0
    rw [show C - 1 + Jd.up (.ev _ _) = C - 1 from by show C - 1 + 0 = C - 1; omega] at hp
    have hg := hE.grow
   ·exact (IH (C - 1) _ e s1 tk1 (by omega) (by have := hg.2.2; omega) ht1 hp.1 ⟨(hs 2 (by omega)).mono hg.2.1, hp.2.1⟩).mono fun y Γ' => RetR.mono fun x2 c2 s2 tk2 ⟨hE2, ht2⟩ => ⟨.ev h0' hnd (.ifF h hsp hE hx hE2), ht2⟩
   ·exact (IH (C - 1) _ e s1 tk1 (by omega) (by have := hg.2.2; omega) ht1 hp.1 ⟨(hs 1 (by omega)).mono hg.2.1, hp.2.1⟩).mono fun y Γ' => RetR.mono fun x2 c2 s2 tk2 ⟨hE2, ht2⟩ => ⟨.ev h0' hnd (.ifT h hsp hE hx hE2), ht2⟩
  ·have h1 := hc.1 (by omega)
   have hsp := list1 h1
   exact (evLam_c b K tk s t e hf h h1).mono fun y Γ' hq => RetR.of hq ⟨.ev h0' hnd (.lam h hsp), ht⟩
  ·exact (evB_c b K tk s t e _ hf (by omega) (recOk h2 hK IH (C - 1) (by omega) t e h (lessM s) tk hnL ht hML hJL)).mono (up fun _ _ _ _ h => h)
  ·exact (evB_c b K tk s t e _ hf (by omega) (letOk h2 hK IH (C - 1) (by omega) t e h (lessM s) tk hnL ht hML hJL)).mono (up fun _ _ _ _ h => h)
  ·exact (evP_c b K tk s t e hf h).mono fun y Γ' hq => RetR.of hq ⟨.ev h0' hnd (.prf h), ht⟩
  ·exact (evU_c b K tk s t e hf h).mono fun y Γ' hq => RetR.of hq ⟨.ev h0' hnd (.uns h), ht⟩
  ·have hJa : JOk lv (cK K) (C - 1) (.all t.t e) (lessM s) := ⟨fun x hx => hT.sub (by omega) hx, hAL⟩
   have hfit := hT.fit.len
   refine (evS_c b K tk s t e (EvR K (.go t e) (lessM s)) hf h ((allOk h2 hK IH (C - 1) (by omega) t.t (by omega) e (lessM s) tk hnL ht hML hJa).mono fun y Γ' => AllR.mono fun vs c s1 tk1 ⟨hE, ht1⟩ => ?_)).mono (up fun _ _ _ _ h => h)
   refine ⟨fun hc0 => ⟨.stE h hE hc0, ht1⟩, fun hc0 => ?_⟩
   subst hc0
   have hp := hE.keeps h2 hK (C - 1) hML hJa
   rw [show C - 1 + Jd.up (.all _ _) = C - 1 from by show C - 1 + 0 = C - 1; omega] at hp
   have hg := hE.grow
   have hvl := hE.len rfl
   dsimp only at hvl
   have hb := hp.1.bd
   exact (strictOk h2 IH (C - 1) (by omega) t e h vs hvl s1 tk1 (by have := hg.2.2; omega) ht1 hp.1 ⟨hT.mono hg.2.1, hp.2.2, by rw [hvl]; omega, hp.2.1⟩).mono fun y Γ' => RetR.mono fun x c s2 tk2 ⟨hE2, ht2⟩ => ⟨.st h hE hE2, ht2⟩
end
end Go.Cb
namespace Go.Cb
open Go.Proofs
def eqP : PV → PV → Option Bool
 | .int k a, .int k' b => match ikEq k k' with
  | true => some (a == b)
  | false => none
 | .bool a, .bool b => some (a == b)
 | .str a, .str b => some (a == b)
 | _, _ => none
def eqPs : List PV → List PV → Option Bool
 | [], [] => some true
 | x :: xs, y :: ys => match eqP x y, eqPs xs ys with
  | some a, some b => some (a && b)
  | _, _ => none
 | _, _ => none
def kindEq : Option TypeDesc → PV → Bool
 | some (.int _), .int _ _ => true
 | some .bool, .bool _ => true
 | some .string, .str _ => true
 | _, _ => false
def fieldEq (P : Program) : List Field → List PV → Nat → Bool
 | [], [], _ => true
 | f :: fs, x :: xs, i => (f.name != "_") && (f.offset == i) && kindEq (P.underlying f.type) x && fieldEq P fs xs (i + 1)
 | _, _, _ => false
section
variable {P : Program} {w : World} {F : Fz}
theorem eqP_run {x y : PV} {v u : Value} {q : Bool} {t : TypeId} (h : eqP x y = some q) (hv : Rep F x v) (hu : Rep F y u) (ht : kindEq (P.underlying t) x = true) (d : Nat) : (Op.equalIn (d + 1) t v u).run P w = .ok q w ∧ (isAgg t).run P w = .ok false w := by
 unfold eqP at h
 split at h
 ·rename_i k a k' b
  split at h
  ·rename_i hk
   have hk := ikEq_iff.1 hk
   subst hk
   cases h
   rw [rep_int hv, rep_int hu]
   cases hp : P.underlying t with
   | none => rw [hp] at ht; cases ht
   | some td =>
    rw [hp] at ht
    cases td <;> first | (cases ht; done) | skip
    exact ⟨run_equalIn_int w d _ _ _ _ _ hp, by simp [isAgg, run_underlying hp]⟩
  ·cases h
 ·rename_i a b
  cases h
  rw [rep_bool hv, rep_bool hu]
  cases hp : P.underlying t with
  | none => rw [hp] at ht; cases ht
  | some td =>
   rw [hp] at ht
   cases td <;> first | (cases ht; done) | skip
   exact ⟨run_equalIn_bool' w d _ _ _ hp, by simp [isAgg, run_underlying hp]⟩
 ·rename_i a b
  cases h
  rw [rep_str hv, rep_str hu]
  cases hp : P.underlying t with
  | none => rw [hp] at ht; cases ht
  | some td =>
   rw [hp] at ht
   cases td <;> first | (cases ht; done) | skip
   refine ⟨?_, by simp [isAgg, run_underlying hp]⟩
   rw [run_equalIn_string w d _ _ _ hp, toListBytes, toListBytes]
 ·cases h
theorem eqPs_run (d : Nat) : ∀ (fs : List Field) (xs ys : List PV) (vs us pv pu : List Value) (q : Bool), fieldEq P fs xs pv.length = true → pu.length = pv.length → RepL F xs vs → RepL F ys us → eqPs xs ys = some q →
  (Op.eqFields (d + 1) (pv ++ vs).toArray (pu ++ us).toArray fs).run P w = .ok q w
 | [], [], ys, vs, us, pv, pu, q, _, _, hv, hu, h => by
  cases ys with
  | nil => simp only [eqPs, Option.some.injEq] at h; subst h; simp [Op.eqFields]
  | cons y ys => simp [eqPs] at h
 | [], x :: xs, _, _, _, _, _, _, hf, _, _, _, _ => by simp [fieldEq] at hf
 | f :: fs, [], _, _, _, _, _, _, hf, _, _, _, _ => by simp [fieldEq] at hf
 | f :: fs, x :: xs, [], _, _, _, _, _, _, _, _, _, h => by simp [eqPs] at h
 | f :: fs, x :: xs, y :: ys, [], _, _, _, _, _, _, hv, _, _ => by simp only [RepL] at hv
 | f :: fs, x :: xs, y :: ys, v :: vs, [], _, _, _, _, _, _, hu, _ => by simp only [RepL] at hu
 | f :: fs, x :: xs, y :: ys, v :: vs, u :: us, pv, pu, q, hf, hl, hv, hu, h => by
  simp only [fieldEq, Bool.and_eq_true, bne_iff_ne, beq_iff_eq] at hf
  obtain ⟨⟨⟨hn, ho⟩, ht⟩, hf⟩ := hf
  simp only [RepL] at hv hu
  unfold eqPs at h
  split at h
  ·rename_i a b ha hb
   cases h
   obtain ⟨g1, g2⟩ := eqP_run (w := w) ha hv.1.2 hu.1.2 ht d
   have p1 : (part f.type (pv ++ v :: vs).toArray f.offset).run P w = .ok v w := by
    simp [part, g2, ho, Result.andThen]
   have p2 : (part f.type (pu ++ u :: us).toArray f.offset).run P w = .ok u w := by
    simp [part, g2, ho, ← hl, Result.andThen]
   have ih := eqPs_run d fs xs ys vs us (pv ++ [v]) (pu ++ [u]) b (by simpa using hf) (by simp [hl]) hv.2 hu.2 hb
   rw [List.append_assoc, List.append_assoc] at ih
   simp only [Op.eqFields, hn, ne_eq, not_false_eq_true, if_true, Sem.run_bind, p1, p2, g1, Result.andThen_ok]
   cases a
   ·simp
   ·simpa using ih
  ·cases h
end
theorem PAggEq.of {P : Program} {t : TypeId} {xs ys : List PV} {K : Bool → Prop} (q : Bool) (hq : eqPs xs ys = some q) (h : K q) (h1 : P.underlying t = some (.struct (P.fieldsOf t)) := by kernel_rfl) (h2 : P.stoodInHeld t = false := by kernel_rfl) (h3 : P.eqGuardType P.depth t = false := by kernel_rfl)
  (h4 : fieldEq P (P.fieldsOf t).toList xs 0 = true := by kernel_rfl) : PAggEq P t xs ys K := by
 refine ⟨q, fun F vs us w hv hu => ⟨fun x y => run_eqGuard_agg w .eql t x y _ _ h3, ?_⟩, h⟩
 rw [run_eql_struct, show (10000 : Nat) = 9998 + 1 + 1 from rfl, run_equalIn_agg w 9999 t _ _ h1 h2]
 have := eqPs_run (P := P) (w := w) 9998 (P.fieldsOf t).toList xs ys vs us [] [] q h4 rfl hv hu hq
 simp only [List.nil_append] at this
 rw [this]
 rfl
end Go.Cb
namespace Go.Cb
open Go.Proofs
set_option maxRecDepth 100000
set_option maxHeartbeats 4000000
mutual
theorem Datum.few_szN : ∀ (d : Datum) (n : Int), 0 ≤ d.few n → (d.sz : Int) + d.few n = n
 | .mk _ _ _ _ l, n, h => by
  rw [Datum.few] at h ⊢
  rw [Datum.sz]
  have := Datum.fews_szN l (n - 1) h
  omega
theorem Datum.fews_szN : ∀ (l : List Datum) (n : Int), 0 ≤ Datum.fews l n → (Datum.szs l : Int) + Datum.fews l n = n
 | [], n, h => by rw [Datum.szs, Datum.fews]; omega
 | x :: xs, n, h => by
  rw [Datum.fews] at h ⊢
  rw [Datum.szs]
  split at h
  ·rename_i hn
   rw [if_pos hn]
   have h1 := Datum.few_szN x n
   have h2 := Datum.fews_szN xs (x.few n) h
   have : 0 ≤ x.few n := by
    have h3 := Datum.szs_len xs
    omega
   have := h1 this
   omega
  ·omega
end
theorem valV_its (d : Datum) : (valV d).its.1.length ≤ d.sz := by
 induction d using Datum.ind with
 | h d ih =>
  have hz := d.sz_eq
  rw [valV_eq]
  by_cases hk : d.kind = 6
  ·by_cases h2 : d.l.length = 2
   ·rw [Vl.its_pair (.mk d.kind d.n d.d d.s (d.l.map valV) none none) hk (by show (d.l.map valV).length = 2; rw [List.length_map]; exact h2)]
    obtain ⟨a, c, e⟩ := len2 h2
    have h1 := ih c (by rw [e]; simp)
    have hs : Datum.szs d.l = a.sz + (c.sz + 0) := by rw [e]; rfl
    have e2 : (Vl.mk d.kind d.n d.d d.s (d.l.map valV) none none).l = [valV a, valV c] := by show d.l.map valV = _; rw [e]; rfl
    simp only [e2, List.length_cons, List.getElem_cons_succ, List.getElem_cons_zero]
    have := a.sz_eq
    omega
   ·have : (Vl.mk d.kind d.n d.d d.s (d.l.map valV) none none).its.1 = [] := by
     rw [Vl.its, if_pos hk]
     have hl : ¬(d.l.map valV).length = 2 := by rw [List.length_map]; exact h2
     match d.l.map valV, hl with
     | [], _ => rfl
     | [_], _ => rfl
     | [_, _], hl => exact absurd rfl hl
     | _ :: _ :: _ :: _, _ => rfl
    rw [this]
    exact Nat.zero_le _
  ·rw [Vl.its_end (.mk d.kind d.n d.d d.s (d.l.map valV) none none) hk]
   exact Nat.zero_le _
theorem valV_ok {lv cs N A : Int} {D : Nat → Prop} (d : Datum) : ∀ deep : Int, d.rightD deep = true → d.bulk ≤ 1000000000 → (d.sz : Int) ≤ N → (valV d).ok lv cs N A D := by
 induction d using Datum.ind with
 | h d ih =>
  intro deep h hb hN
  have hz := d.sz_eq
  have hbe := d.bulk_eq
  have hsl := Datum.szs_len d.l
  have hit := valV_its d
  have h' := h
  rw [Datum.rightD_eq, Bool.and_eq_true] at h
  have h1 := h.1
  unfold bareBad at h1
  simp only [Bool.not_eq_true', Bool.or_eq_false_iff, decide_eq_false_iff_not] at h1
  have hk := h1.1.1.1.1.1
  have key : ∀ l : List Datum, (∀ y ∈ l, ∀ deep : Int, y.rightD deep = true → y.bulk ≤ 1000000000 → (y.sz : Int) ≤ N → (valV y).ok lv cs N A D) → ∀ deep, Datum.rightDs l deep = true → Datum.bulks l ≤ 1000000000 → (Datum.szs l : Int) ≤ N → ∀ v ∈ l.map valV, v.ok lv cs N A D := by
   intro l
   induction l with
   | nil => intro _ _ _ _ _ v hv; cases hv
   | cons x l ihl =>
    intro hy deep h hb hs v hv
    rw [Datum.rightDs, Bool.and_eq_true] at h
    rw [Datum.bulks] at hb
    rw [Datum.szs] at hs
    rw [List.map_cons] at hv
    rcases List.mem_cons.1 hv with rfl | hv
    ·exact hy x (by simp) deep h.1 (by omega) (by omega)
    ·exact ihl (fun y hm => hy y (List.mem_cons_of_mem _ hm)) deep h.2 (by omega) (by omega) v hv
  have hparts := key d.l ih _ h.2 (by omega) (by omega)
  rw [Vl.ok_eq]
  rw [valV_eq] at hit ⊢
  refine ⟨⟨?_, by omega, ?_⟩, fun h => ?_, fun h => ?_, fun h => ?_, hparts⟩
  ·rw [Vl.tx_eq]
   refine ⟨?_, ?_, ?_, fun y hy => (hparts y hy).tx⟩
   ·show 0 ≤ d.kind ∧ d.kind ≤ 12
    omega
   ·intro h6
    have h6' : d.kind = 6 := h6
    have h7 := h1.2.1
    rw [h6'] at h7
    show (d.l.map valV).length = 2
    rw [List.length_map]
    simp at h7
    omega
   ·show d.s.length ≤ 1000000000
    omega
  ·show ((d.l.map valV).length : Int) ≤ N
   rw [List.length_map]
   omega
  ·have h' : d.kind = 8 := h
   omega
  ·have h' : d.kind = 11 := h
   omega
  ·have h' : d.kind = 10 := h
   omega
def Fit (p : Prog) (lv : Int) : Prop := RightP p lv ∧ Datum.bulks p.consts ≤ 1000000000 ∧ Datum.szs p.consts ≤ 2000 ∧ p.body.vars.length ≤ 100000000
theorem Fit.consts {p : Prog} {lv : Int} (h : Fit p lv) : ∀ x ∈ p.consts.map valV, x.ok lv (cK (p.consts.map valV)) 20002 0 fun _ => False := fun x hx => by
 obtain ⟨d, hd, rfl⟩ := List.mem_map.1 hx
 have h1 := Datum.szs_mem hd
 have h2 := Datum.bulks_mem hd
 have h3 := h.2.1
 have h4 := h.2.2.1
 exact valV_ok d 0 (h.1.2.1 d hd) (by omega) (by omega)
theorem runOk_c (p : Prog) (lv : Int) (h : Fit p lv) (fuel : Int) (hf : 0 ≤ fuel ∧ fuel ≤ 10000) :
  ACall Tryz.prog 29 [.agg p.cells, .int .i64 fuel] [] (fun y Γ' => ∃ x c s', Ev (p.consts.map valV) (.ev p.body []) (mc0 fuel) [x] c s' ∧ y = .agg [.str s'.out, .int .i64 c, .str (endV x c s')] ∧ Γ' = []) := by
 have hlc := Datum.szs_len p.consts
 have h3 := h.2.1
 have h4 := h.2.2.1
 refine RunR_c p (fun d hd => by have := Datum.szs_mem hd; omega) (by omega) fuel _ fun b tk h1 h2 => ?_
 have hM : MOk lv (cK (p.consts.map valV)) 50000 (mc0 fuel) := ⟨hf.1, by show fuel + 20002 ≤ 50000; omega, kndV_ok (by show 0 ≤ 50000 - fuel; omega) (.inl rfl), fun a x r hx => (by rw [show (mc0 fuel).h = [] from rfl, hget] at hx; cases hx), by show ((0 : Nat) : Int) ≤ 1001 * (50000 - fuel); omega⟩
 have hJ : JOk lv (cK (p.consts.map valV)) 50000 (.ev p.body []) (mc0 fuel) := ⟨⟨[], 0, by unfold cK; rw [List.length_map]; exact h.1.2.2.1, fun v hv => absurd hv (List.not_mem_nil), h.1.2.2.2.1, h.2.2.2⟩, by show ((0 : Nat) : Int) ≤ 2 * (50000 - fuel) + 0; omega⟩
 refine (evalOk h.1.1 h.consts 10000 50000 p.body [] (mc0 fuel) tk (by decide) (by show fuel ≤ ((10000 : Nat) : Int); omega) ⟨h1, h2⟩ hM hJ).mono fun y Γ' => RetR.mono fun x c s' tk' ⟨hE, _⟩ => ?_
 have hp := hE.keeps h.1.1 h.consts 50000 hM hJ
 exact ⟨fun _ => (hp.2.2 x (List.mem_cons_self ..)).tx, fun _ => hp.1.vl.tx, hE⟩
theorem resEq {a b c a' b' c' : _} {K : Bool → Prop} (h : K (a == a' && (b == b' && (c == c' && true)))) : PAggEq Tryz.prog 68 [.str a, .int .i64 b, .str c] [.str a', .int .i64 b', .str c'] K :=
 PAggEq.of _ rfl h
theorem means_c (p q : Prog) (lv lv' : Int) (h : Fit p lv) (h' : Fit q lv') (fuel : Int) (hf : 0 ≤ fuel ∧ fuel ≤ 1023)
  (hS : ∀ x c s' x' c' t', Ev (p.consts.map valV) (.ev p.body []) (mc0 fuel) [x] c s' → Ev (q.consts.map valV) (.ev q.body []) (mc0 (8 * fuel)) [x'] c' t' → c ≠ 8 → c' ≠ 8 → c' = c ∧ t'.out = s'.out ∧ endV x' c' t' = endV x c s') :
  ACall Tryz.prog 12 [.agg p.cells, .agg q.cells, .int .i64 fuel] [] (fun y Γ' => y = .bool true ∧ Γ' = []) := by
 have r1 := runOk_c p lv h fuel (by omega)
 have r2 := runOk_c q lv' h' (8 * fuel) (by omega)
 refine ACall.of_body tt_ok Tryz.func12 rfl rfl (n := 29) rfl rfl ?_
 conv => whnf
 repeat' (first|((first|refine aM ?_|intro _);conv=>whnf)|(refine zX (fun hc=>?_) (fun hc=>?_)<;>(try simp only [SY] at hc)<;>omega))
 refine PCall.go (Γ1 := []) r1 (WkT.refl _) ?_
 rintro _ _ ⟨x, c, s', hE, rfl, rfl⟩
 conv => whnf
 repeat' (first|((first|refine aM ?_|refine aF ?_|intro _);conv=>whnf)|(refine zX (fun hc=>?_) (fun hc=>?_)<;>(try simp only [SY] at hc)<;>omega))
 refine PCall.go (Γ1 := []) r2 (WkT.refl _) ?_
 rintro _ _ ⟨x', c', t', hE', rfl, rfl⟩
 conv => whnf
 repeat' (first|((first|(((apply zY;intro hg));first|exact tB|((conv=>whnf);(repeat ((first|refine resEq ?_|refine aH ?_);conv=>whnf));exact pZ))|refine aM ?_|refine aF ?_|intro _|refine zG ?_);conv=>whnf)|(refine zX (fun hc=>?_) (fun hc=>?_)<;>(try simp only [SY] at hc)<;>omega))
 refine PRet.gen (y := .bool true) (Γ' := []) (Wk.bool ?_) ⟨rfl, rfl⟩
 by_cases h8 : c = 8
 ·simp [h8]
 by_cases h8' : c' = 8
 ·simp [h8']
 obtain ⟨e1, e2, e3⟩ := hS x c s' x' c' t' hE hE' h8 h8'
 rw [e3, e2, e1]
 simp
end Go.Cb
namespace Go.Cb
open Go.Proofs
set_option maxRecDepth 100000
set_option maxHeartbeats 4000000
section
variable {A : Int → Bool} {cs : Int} {K : List Vl} {n : Int} {w : Wd} {t : Trm} {e e' : EnvM} {scope : List Int} {k : Int}
theorem TOa.op (hT : TOa A cs k t scope) : t.op = 0 ∨ t.op = 1 ∨ t.op = 2 ∨ t.op = 3 ∨ t.op = 4 ∨ t.op = 5 ∨ t.op = 6 ∨ t.op = 8 ∨ t.op = 9 ∨ t.op = 11 ∨ t.op = 12 ∨ t.op = 13 ∨ t.op = 14 := by
 obtain ⟨deep, h1⟩ := hT.ok
 rw [Trm.okT_eq] at h1
 have hs := h1.1.2.1
 unfold sortsL at hs
 repeat' split at hs
 all_goals simp_all
 all_goals omega
theorem TOa.cnt (hT : TOa A cs k t scope) : ((t.op = 0 ∨ t.op = 1 ∨ t.op = 11 ∨ t.op = 13) → t.t = []) ∧ ((t.op = 2 ∨ t.op = 14 ∨ t.op = 4 ∨ t.op = 12) → ∃ x, t.t = [x]) ∧ (t.op = 3 → t.t.length = 3) := by
 obtain ⟨deep, h1⟩ := hT.ok
 rw [Trm.okT_eq] at h1
 have hs := h1.1.2.2.1
 unfold countsL at hs
 split at hs
 ·cases hs
 refine ⟨fun ho => ?_, fun ho => ?_, fun ho => ?_⟩
 ·rw [if_pos (by omega)] at hs
  exact List.eq_nil_of_length_eq_zero (by simpa using hs)
 ·rw [if_neg (by omega), if_pos (by omega)] at hs
  simp at hs
  exact oneT (by omega)
 ·rw [if_neg (by omega), if_neg (by omega), if_pos ho] at hs
  simp at hs
  omega
theorem TOa.parts (hT : TOa A cs k t scope) (ho : ¬t.op = 4 ∧ ¬t.op = 7 ∧ ¬t.op = 8 ∧ ¬t.op = 9) : ∀ x ∈ t.t, TOa A cs k x scope := fun x hx => by
 obtain ⟨i, hi, rfl⟩ := List.mem_iff_getElem.1 hx
 have hv : t.v = [] := by
  obtain ⟨deep, h1⟩ := hT.ok
  rw [Trm.okT_eq] at h1
  have hs := h1.1.2.2.1
  unfold countsL at hs
  split at hs
  ·cases hs
  ·rename_i hb
   unfold bindsB at hb
   rw [Bool.and_eq_true] at hb
   apply List.eq_nil_of_length_eq_zero
   apply Decidable.byContradiction
   intro hn
   exact hb ⟨by simp [ho], by simp; omega⟩
 have := hT.sub hi
 rwa [hv, List.append_nil, ite_self] at this
theorem cv_same {A : Int → Bool} {t : Trm} {k : Int} (ho : (t.op = 1 ∧ A t.n = false) ∨ t.op = 0 ∨ t.op = 3 ∨ t.op = 5 ∨ t.op = 6 ∨ t.op = 11 ∨ t.op = 12 ∨ t.op = 13) : t.cv A k = .mk t.op t.n t.v (Trm.cvs A t.t k) := by
 rw [Trm.cv_eq, if_neg (by rintro ⟨h1, h2⟩; rcases ho with ⟨_, h⟩ | h; rw [h] at h2; cases h2; omega), if_neg (by omega), if_neg (by omega), if_neg (by omega), if_neg (by omega), if_neg (by omega)]
theorem setAs (HS : HSa A cs K n) (hT : TOa A cs k t scope) (hE : ERa A w e e' scope) (ho : t.op = 2 ∨ t.op = 14) : Sm (ACa A cs) K n w (.go t e) (.go (t.cv A k) e') := by
 intro w1 hw s r hV hn v c s' h1 v' c' r' h2 n1 n2
 obtain ⟨x, hx⟩ := hT.cnt.2.1 (by omega)
 have hTx := hT.parts (by omega) x (by rw [hx]; simp)
 have hAn : A t.n = true := hT.ag t.n (by rw [Trm.asg_eq, if_pos ho]; simp)
 obtain ⟨a, b, f1, f2, f3, _⟩ := hE t.n (by
  obtain ⟨deep, h1⟩ := hT.ok
  rw [Trm.okT_eq] at h1
  have hs := h1.1.2.2.2
  unfold numberL at hs
  rw [if_neg (by omega), if_pos (by omega)] at hs
  simpa using hs)
 obtain ⟨q, hfq, hmq⟩ := f3 hAn
 have hb := hV.pf b _ (hw.2.1 _ _ hfq)
 obtain ⟨o', ho', hcv⟩ : ∃ o', ((t.op = 2 → o' = 17) ∧ (t.op = 14 → o' = 18) ∧ (o' = 17 ∨ o' = 18)) ∧ t.cv A k = .mk o' 0 [] [refT t.n, x.cv A k] := by
  rcases ho with h | h
  ·exact ⟨17, ⟨fun _ => rfl, fun h' => by omega, .inl rfl⟩, by rw [Trm.cv_eq, if_neg (by omega), if_pos h, hx, Trm.cvs, Trm.cvs]⟩
  ·exact ⟨18, ⟨fun h' => by omega, fun _ => rfl, .inr rfl⟩, by rw [Trm.cv_eq, if_neg (by omega), if_neg (by omega), if_pos h, hx, Trm.cvs, Trm.cvs]⟩
 rw [hcv] at h2
 have hop : (Trm.mk o' 0 [] [refT t.n, x.cv A k]).op = o' := rfl
 have hSx := HS w1 x e _ e' ⟨scope, k, hTx, rfl, hE.up hw⟩
 have all2 : ∀ {us : List Vl} {c2 : Int} {r2 : MSt}, Ev K (.all [refT t.n, x.cv A k] e') r us c2 r2 → c2 ≠ 8 → ∃ y, Ev K (.ev (x.cv A k) e') (lessM r) [y] c2 r2 ∧ (c2 = 0 → us = [boxV q, y]) := fun {us c2 r2} g1 g2 => by
  rcases g1.all_inv with ⟨h0, _, g3⟩ | ⟨x1, s1, us1, g3, g4, g5⟩
  ·exact absurd (g3.evRef_inv g2 rfl f2 hb).2.1 h0
  ·obtain ⟨e1, _, rfl⟩ := g3.evRef_inv (by decide) rfl f2 hb
   injection e1 with e1 _
   subst e1
   rcases g4.all_inv with ⟨h0, y, g6⟩ | ⟨y, s2, us2, g6, g7, g8⟩
   ·exact ⟨y, g6, fun h => absurd h h0⟩
   ·obtain ⟨rfl, rfl, rfl⟩ := g7.nil_inv
    exact ⟨y, g6, fun _ => by rw [g5 rfl, g8 rfl]⟩
 have all1 : ∀ {us : List Vl} {c2 : Int} {s2 : MSt}, Ev K (.all t.t e) s us c2 s2 → ∃ y, Ev K (.ev x e) s [y] c2 s2 ∧ (c2 = 0 → us = [y]) := fun {us c2 s2} g1 => by
  rw [hx] at g1
  rcases g1.all_inv with ⟨h0, y, g3⟩ | ⟨x1, s1, us1, g3, g4, g5⟩
  ·exact ⟨y, g3, fun h => absurd h h0⟩
  ·obtain ⟨rfl, rfl, rfl⟩ := g4.nil_inv
   exact ⟨x1, g3, g5⟩
 have hV' : Va (ACa A cs) w1 s (lessM r) := hV.sam (Sam.refl _) (Sam.less r) (HLe.refl _) (HLe.refl _)
 rcases h1.st_inv (by omega) with ⟨h0, rfl, us, g1⟩ | ⟨v1, us, s1, rfl, g1, g2⟩
 ·obtain ⟨y, k1, _⟩ := all1 g1
  rcases h2.st_inv (by omega) with ⟨h0', rfl, us', g3⟩ | ⟨v2, us', r1, rfl, g3, g4⟩
  ·obtain ⟨y', k2, _⟩ := all2 g3 n2
   exact (hSx w1 w1.refl s (lessM r) hV' hn _ _ _ k1 _ _ _ k2 n1 n2).fail h0
  ·obtain ⟨y', k2, _⟩ := all2 g3 (by decide)
   exact absurd (hSx w1 w1.refl s (lessM r) hV' hn _ _ _ k1 _ _ _ k2 n1 (by decide)).1.symm h0
 ·obtain ⟨y, k1, hus⟩ := all1 g1
  rcases h2.st_inv (by omega) with ⟨h0', rfl, us', g3⟩ | ⟨v2, us', r1, rfl, g3, g4⟩
  ·obtain ⟨y', k2, _⟩ := all2 g3 n2
   exact absurd (hSx w1 w1.refl s (lessM r) hV' hn _ _ _ k1 _ _ _ k2 (by decide) n2).1 h0'
  ·obtain ⟨y', k2, hus'⟩ := all2 g3 (by decide)
   obtain ⟨_, w2, m1, m2, m3, m4⟩ := hSx w1 w1.refl s (lessM r) hV' hn _ _ _ k1 _ _ _ k2 (by decide) (by decide)
   have hyy := (VRs_two.1 (m4 rfl)).1
   obtain rfl := hus rfl
   obtain rfl := hus' rfl
   have hm := m1.1 _ _ (hw.1 _ _ hmq)
   obtain ⟨z, z', p1, p2, p3⟩ := m2.pm _ _ hm
   have hres : ∀ {c2 : Int} {u u' : List Vl} {s2 r2 : MSt}, Rs (ACa A cs) w2 s1.h r1.h u c2 s2 u' c2 r2 → Rs (ACa A cs) w1 s.h r.h u c2 s2 u' c2 r2 := fun h => Rs.back m1 m3 h
   generalize hL : [y] = L at g2
   generalize hL' : [boxV q, y'] = L' at g4
   cases g2 with
   | @stC _ _ _ x1 a1 y1 r1' o hf hg hu =>
    cases hL
    rw [f1] at hf; cases hf
    rw [p1] at hg; cases hg
    cases g4 with
    | put o2 _ hxc hg' hu' =>
     cases hL'
     cases hxc
     exact hres ⟨rfl, w2, w2.refl, m2.put hm hyy, Fr.put hm, fun _ => VRs_one.2 ⟨_, rfl, VR_knd 5 (by decide)⟩⟩
    | putE o2 _ hxc hg' hu' =>
     cases hL'
     cases hxc
     rw [p2] at hg'; cases hg'
     exact absurd ⟨.inr (by omega), (VW.k p3).symm.trans hu'⟩ hu
    | bad _ hk => cases hL'; exact absurd rfl hk
    | seq o2 => exact absurd (hop.symm.trans o2) (by omega)
    | box o2 => exact absurd (hop.symm.trans o2) (by omega)
    | prm o2 => exact absurd (hop.symm.trans o2) (by omega)
    | app o2 => exact absurd (hop.symm.trans o2) (by omega)
    | chk o2 => exact absurd (hop.symm.trans o2) (by omega)
    | chkE o2 => exact absurd (hop.symm.trans o2) (by omega)
    | get o2 => exact absurd (hop.symm.trans o2) (by omega)
    | stC o2 => rw [hop] at o2; omega
    | stX o2 => rw [hop] at o2; omega
   | @stX _ _ _ x1 a1 y1 r1' o hf hg hu hk1 =>
    cases hL
    rw [f1] at hf; cases hf
    rw [p1] at hg; cases hg
    have h14 : t.op = 14 := by
     rcases hu with h | h
     ·cases h
     ·exact h
    cases g4 with
    | put o2 _ hxc hg' hu' =>
     cases hL'
     cases hxc
     rw [p2] at hg'; cases hg'
     exact absurd ⟨by rw [hop]; exact ho'.2.1 h14, (VW.k p3).trans hk1⟩ hu'
    | putE o2 _ hxc hg' hu' => exact hres (Rs.err m2 _ _ (by decide))
    | bad _ hk => cases hL'; exact absurd rfl hk
    | seq o2 => exact absurd (hop.symm.trans o2) (by omega)
    | box o2 => exact absurd (hop.symm.trans o2) (by omega)
    | prm o2 => exact absurd (hop.symm.trans o2) (by omega)
    | app o2 => exact absurd (hop.symm.trans o2) (by omega)
    | chk o2 => exact absurd (hop.symm.trans o2) (by omega)
    | chkE o2 => exact absurd (hop.symm.trans o2) (by omega)
    | get o2 => exact absurd (hop.symm.trans o2) (by omega)
    | stC o2 => rw [hop] at o2; omega
    | stX o2 => rw [hop] at o2; omega
   | _ => exfalso; omega
theorem refA (hT : TOa A cs k t scope) (hE : ERa A w e e' scope) (ho : t.op = 1) : Sm (ACa A cs) K n w (.go t e) (.go (t.cv A k) e') := by
 intro w1 hw s r hV hn v c s' h1 v' c' r' h2 n1 n2
 obtain ⟨a, b, f1, f2, f3, f4⟩ := hE t.n (by
  obtain ⟨deep, h1⟩ := hT.ok
  rw [Trm.okT_eq] at h1
  have hs := h1.1.2.2.2
  unfold numberL at hs
  rw [if_neg (by omega), if_pos (by omega)] at hs
  simpa using hs)
 cases hA : A t.n with
 | true =>
  obtain ⟨q, hfq, hmq⟩ := f3 hA
  have hb := hV.pf b _ (hw.2.1 _ _ hfq)
  obtain ⟨x, y, p1, p2, p3⟩ := hV.pm _ _ (hw.1 _ _ hmq)
  obtain ⟨rfl, rfl, rfl⟩ := h1.ref_inv ho f1 p1
  have hcv : t.cv A k = .mk 16 0 [] [t] := by rw [Trm.cv_eq, if_pos ⟨ho, hA⟩]
  rw [hcv] at h2
  have hop : (Trm.mk 16 0 [] [t]).op = 16 := rfl
  have all2 : ∀ {us : List Vl} {c2 : Int} {r2 : MSt}, Ev K (.all [t] e') r us c2 r2 → c2 ≠ 8 → c2 = 0 ∧ us = [boxV q] ∧ r2 = lessM r := fun {us c2 r2} g1 g2 => by
   rcases g1.all_inv with ⟨h0, _, g3⟩ | ⟨x1, s1, us1, g3, g4, g5⟩
   ·exact absurd (g3.evRef_inv g2 ho f2 hb).2.1 h0
   ·obtain ⟨e1, _, rfl⟩ := g3.evRef_inv (by decide) ho f2 hb
    injection e1 with e1 _
    subst e1
    obtain ⟨rfl, rfl, rfl⟩ := g4.nil_inv
    exact ⟨rfl, g5 rfl, rfl⟩
  rcases h2.st_inv (by omega) with ⟨h0', rfl, us', g3⟩ | ⟨v2, us', r1, rfl, g3, g4⟩
  ·exact absurd (all2 g3 n2).1 h0'
  ·obtain ⟨_, rfl, rfl⟩ := all2 g3 (by decide)
   generalize hL' : [boxV q] = L' at g4
   cases g4 with
   | get _ _ hxc hg' =>
    cases hL'
    cases hxc
    rw [show (lessM r).h = r.h from rfl, p2] at hg'
    cases hg'
    exact ⟨rfl, w1, w1.refl, hV.sam (Sam.refl _) (Sam.less r) (HLe.refl _) (HLe.refl _), Fr.refl _ _ _, fun _ => VRs_one.2 ⟨_, rfl, p3⟩⟩
   | bad _ hk => cases hL'; exact absurd rfl hk
   | put o => rw [hop] at o; exact absurd o (by decide)
   | putE o => exact absurd (hop.symm.trans o) (by decide)
   | seq o => exact absurd (hop.symm.trans o) (by decide)
   | box o => exact absurd (hop.symm.trans o) (by decide)
   | prm o => exact absurd (hop.symm.trans o) (by decide)
   | app o => exact absurd (hop.symm.trans o) (by decide)
   | chk o => exact absurd (hop.symm.trans o) (by decide)
   | chkE o => exact absurd (hop.symm.trans o) (by decide)
   | stC o => rw [hop] at o; exact absurd o (by decide)
   | stX o => rw [hop] at o; exact absurd o (by decide)
 | false =>
  obtain ⟨x, y, p1, p2, p3⟩ := hV.pm _ _ (hw.1 _ _ (f4 hA))
  obtain ⟨rfl, rfl, rfl⟩ := h1.ref_inv ho f1 p1
  rw [cv_same (.inl ⟨ho, hA⟩)] at h2
  obtain ⟨rfl, rfl, rfl⟩ := h2.ref_inv ho f2 p2
  exact Rs.done hV p3
theorem goA (hK : ∀ x ∈ K, ∀ (C : Clo → Clo → Prop) (B : Nat → Nat → Prop), VR C B x x) (HS : HSa A cs K n) (hT : TOa A cs k t scope) (hE : ERa A w e e' scope) : Sm (ACa A cs) K n w (.go t e) (.go (t.cv A k) e') := by
 have hcnt := hT.cnt
 rcases hT.op with h | h | h | h | h | h | h | h | h | h | h | h | h
 ·intro w1 hw s r hV hn v c s' h1 v' c' r' h2 n1 n2
  rw [cv_same (by omega)] at h2
  have hop : (Trm.mk t.op t.n t.v (Trm.cvs A t.t k)).op = 0 := h
  cases h1 with
  | con _ hk =>
   cases h2 with
   | con _ hk' =>
    have : K[t.n.toNat]? = some _ := hk'
    rw [hk] at this
    cases this
    exact Rs.done hV (hK _ (List.mem_of_getElem? hk) _ _)
   | fxE o | fxC o | stE o | st o => rw [hop] at o; exact absurd o (by decide)
   | ref o | refE o | prf o | uns o | lam o | ifE o | ifF o | ifT o | ltE o | ltC o => exact absurd (hop.symm.trans o) (by decide)
  | _ => exfalso; omega
 ·exact refA hT hE h
 ·exact setAs HS hT hE (.inl h)
 ·intro w1 hw s r hV hn v c s' h1 v' c' r' h2 n1 n2
  rw [cv_same (by omega)] at h2
  have hop : (Trm.mk t.op t.n t.v (Trm.cvs A t.t k)).op = 3 := h
  obtain ⟨x1, x2, x3, hx⟩ : ∃ x1 x2 x3, t.t = [x1, x2, x3] := by
   match hl : t.t, hcnt.2.2 h with
   | [x1, x2, x3], _ => exact ⟨x1, x2, x3, rfl⟩
  have hp := hT.parts (by omega)
  have hl := HS.list (w := w1) (hE.up hw) t.t k hp
  rw [hx] at hl
  obtain ⟨y1, m1, e1, S1, y2, m2, e2, S2, y3, m3, e3, S3, e4⟩ := hl
  have e4' : m3 = [] := e4
  subst e4'
  have ht' : (Trm.mk t.op t.n t.v (Trm.cvs A t.t k)).t = [y1, y2, y3] := by
   show Trm.cvs A t.t k = _
   rw [hx, e1, e2, e3]
  cases h1 with
  | ifE _ hs1 q1 h0 =>
   rw [hx] at hs1; cases hs1
   cases h2 with
   | ifE _ hs2 q2 h0' =>
    rw [ht'] at hs2; cases hs2
    exact (S1 w1 w1.refl s r hV hn _ _ _ q1 _ _ _ q2 n1 n2).fail h0
   | ifF _ hs2 q2 _ _ | ifT _ hs2 q2 _ _ =>
    rw [ht'] at hs2; cases hs2
    exact absurd (S1 w1 w1.refl s r hV hn _ _ _ q1 _ _ _ q2 n1 (by decide)).1.symm h0
   | fxE o | fxC o | stE o | st o => rw [hop] at o; exact absurd o (by decide)
   | con o | ref o | refE o | prf o | uns o | lam o | ltE o | ltC o => exact absurd (hop.symm.trans o) (by decide)
  | ifF _ hs1 q1 hx1 r1 =>
   rw [hx] at hs1; cases hs1
   cases h2 with
   | ifE _ hs2 q2 h0' =>
    rw [ht'] at hs2; cases hs2
    exact absurd (S1 w1 w1.refl s r hV hn _ _ _ q1 _ _ _ q2 (by decide) n2).1 h0'
   | ifF _ hs2 q2 hx2 r2 =>
    rw [ht'] at hs2; cases hs2
    obtain ⟨_, w2, g1, g2, g3, g4⟩ := S1 w1 w1.refl s r hV hn _ _ _ q1 _ _ _ q2 (by decide) (by decide)
    exact Rs.back g1 g3 (S3 w2 g1 _ _ g2 (Int.le_trans q1.grow.2.2 hn) _ _ _ r1 _ _ _ r2 n1 n2)
   | ifT _ hs2 q2 hx2 r2 =>
    rw [ht'] at hs2; cases hs2
    obtain ⟨_, w2, g1, g2, g3, g4⟩ := S1 w1 w1.refl s r hV hn _ _ _ q1 _ _ _ q2 (by decide) (by decide)
    obtain ⟨j1, j2, _⟩ := VR_k (VRs_two.1 (g4 rfl)).1
    exact absurd ⟨j1.trans hx1.1, j2.trans hx1.2⟩ hx2
   | fxE o | fxC o | stE o | st o => rw [hop] at o; exact absurd o (by decide)
   | con o | ref o | refE o | prf o | uns o | lam o | ltE o | ltC o => exact absurd (hop.symm.trans o) (by decide)
  | ifT _ hs1 q1 hx1 r1 =>
   rw [hx] at hs1; cases hs1
   cases h2 with
   | ifE _ hs2 q2 h0' =>
    rw [ht'] at hs2; cases hs2
    exact absurd (S1 w1 w1.refl s r hV hn _ _ _ q1 _ _ _ q2 (by decide) n2).1 h0'
   | ifF _ hs2 q2 hx2 r2 =>
    rw [ht'] at hs2; cases hs2
    obtain ⟨_, w2, g1, g2, g3, g4⟩ := S1 w1 w1.refl s r hV hn _ _ _ q1 _ _ _ q2 (by decide) (by decide)
    obtain ⟨j1, j2, _⟩ := VR_k (VRs_two.1 (g4 rfl)).1
    exact absurd ⟨j1.symm.trans hx2.1, j2.symm.trans hx2.2⟩ hx1
   | ifT _ hs2 q2 hx2 r2 =>
    rw [ht'] at hs2; cases hs2
    obtain ⟨_, w2, g1, g2, g3, g4⟩ := S1 w1 w1.refl s r hV hn _ _ _ q1 _ _ _ q2 (by decide) (by decide)
    exact Rs.back g1 g3 (S2 w2 g1 _ _ g2 (Int.le_trans q1.grow.2.2 hn) _ _ _ r1 _ _ _ r2 n1 n2)
   | fxE o | fxC o | stE o | st o => rw [hop] at o; exact absurd o (by decide)
   | con o | ref o | refE o | prf o | uns o | lam o | ltE o | ltC o => exact absurd (hop.symm.trans o) (by decide)
  | _ => exfalso; omega
 ·intro w1 hw s r hV hn v c s' h1 v' c' r' h2 n1 n2
  obtain ⟨b, hb⟩ := hcnt.2.1 (by omega)
  obtain ⟨rfl, rfl, rfl⟩ := h1.lam_inv h hb
  rw [cv_lam h hb] at h2
  obtain ⟨rfl, rfl, rfl⟩ := h2.lam_inv rfl rfl
  refine Rs.done hV ((VR_eq _ _).2 ⟨⟨rfl, rfl, rfl, rfl⟩, VRs_nil.2 rfl, fun _ => ⟨_, _, rfl, rfl, ?_⟩, fun h => absurd (show (8 : Int) = 11 from h) (by decide)⟩)
  exact ⟨t, b, scope, k, h, hb, hT, rfl, rfl, rfl, rfl, rfl, rfl, hE.up hw⟩
 rotate_left 2
 ·exact letA HS hT hE h
 ·exact fixA HS hT hE h
 ·intro w1 hw s r hV hn v c s' h1 v' c' r' h2 n1 n2
  rw [cv_same (by omega)] at h2
  have hop : (Trm.mk t.op t.n t.v (Trm.cvs A t.t k)).op = 11 := h
  cases h1 with
  | prf _ =>
   cases h2 with
   | prf _ => exact Rs.done hV (VR_bare rfl (by show ¬(9 : Int) = 8 ∧ ¬(9 : Int) = 11; decide))
   | fxE o | fxC o | stE o | st o => rw [hop] at o; exact absurd o (by decide)
   | con o | ref o | refE o | uns o | lam o | ifE o | ifF o | ifT o | ltE o | ltC o => exact absurd (hop.symm.trans o) (by decide)
  | _ => exfalso; omega
 rotate_left 1
 ·intro w1 hw s r hV hn v c s' h1 v' c' r' h2 n1 n2
  rw [cv_same (by omega)] at h2
  have hop : (Trm.mk t.op t.n t.v (Trm.cvs A t.t k)).op = 13 := h
  cases h1 with
  | uns _ =>
   cases h2 with
   | uns _ => exact Rs.done hV (VR_knd 12 (by decide))
   | fxE o | fxC o | stE o | st o => rw [hop] at o; exact absurd o (by decide)
   | con o | ref o | refE o | prf o | lam o | ifE o | ifF o | ifT o | ltE o | ltC o => exact absurd (hop.symm.trans o) (by decide)
  | _ => exfalso; omega
 ·exact setAs HS hT hE (.inr h)
 all_goals
  intro w1 hw s r hV hn v c s' h1 v' c' r' h2 n1 n2
  rw [cv_same (by omega)] at h2
  have hp := hT.parts (by omega)
  have hl := (HS.list (w := w1) (hE.up hw) t.t k hp).all ACa.mono
  have hop : (Trm.mk t.op t.n t.v (Trm.cvs A t.t k)).op = t.op := rfl
  rcases h1.st_inv (by omega) with ⟨h0, rfl, us, g1⟩ | ⟨v1, us, s1, rfl, g1, g2⟩
  ·rcases h2.st_inv (by omega) with ⟨h0', rfl, us', g3⟩ | ⟨v2, us', r1, rfl, g3, g4⟩
   ·exact (hl w1 w1.refl s r hV hn _ _ _ g1 _ _ _ g3 n1 n2).fail h0
   ·exact absurd (hl w1 w1.refl s r hV hn _ _ _ g1 _ _ _ g3 n1 (by decide)).1.symm h0
  ·rcases h2.st_inv (by omega) with ⟨h0', rfl, us', g3⟩ | ⟨v2, us', r1, rfl, g3, g4⟩
   ·exact absurd (hl w1 w1.refl s r hV hn _ _ _ g1 _ _ _ g3 (by decide) n2).1 h0'
   ·obtain ⟨_, w2, m1, m2, m3, m4⟩ := hl w1 w1.refl s r hV hn _ _ _ g1 _ _ _ g3 (by decide) (by decide)
    exact Rs.back m1 m3 (Sm.str (t := t) (t' := .mk t.op t.n t.v (Trm.cvs A t.t k)) ACa.mono (callA HS) rfl rfl (by omega) m2 (Int.le_trans g1.grow.2.2 hn) (m4 rfl) g2 g4 n1 n2)
end
theorem HSa.all {A : Int → Bool} {cs : Int} {K : List Vl} (hK : ∀ x ∈ K, ∀ (C : Clo → Clo → Prop) (B : Nat → Nat → Prop), VR C B x x) : ∀ n : Nat, HSa A cs K n := by
 intro n
 induction n with
 | zero =>
  intro w t e t' e' _ w1 hw s r hV hn v c s' h1 v' c' r' h2 n1 n2
  cases h1 with
  | dry => exact absurd rfl n1
  | ev h0 => exact absurd hn (by show ¬s.fuel ≤ ((0 : Nat) : Int); omega)
 | succ n ih =>
  rintro w t e t' e' ⟨scope, k, hT, rfl, hE⟩ w1 hw s r hV hn v c s' h1 v' c' r' h2 n1 n2
  obtain ⟨x, rfl, _, g1⟩ := h1.ev_inv n1
  obtain ⟨y, rfl, _, g2⟩ := h2.ev_inv n2
  exact goA hK ih hT hE w1 hw (lessM s) (lessM r) hV.less (by show s.fuel - 1 ≤ n; omega) _ _ _ g1 _ _ _ g2 n1 n2
theorem assign_sim (p : Prog) (hR : RightP p 1) (k : Int) (hk : ∀ v ∈ p.body.vars, v < k) {f f' : Int} {x : Vl} {c : Int} {s' : MSt} {x' : Vl} {c' : Int} {t' : MSt}
  (h1 : Ev (p.consts.map valV) (.ev p.body []) (mc0 f) [x] c s') (h2 : Ev (p.consts.map valV) (.ev (p.body.cv (fun v => p.body.asg.contains v) k) []) (mc0 f') [x'] c' t') (n1 : c ≠ 8) (n2 : c' ≠ 8) : c' = c ∧ t'.out = s'.out ∧ endV x' c' t' = endV x c s' := by
 obtain ⟨A, hA⟩ : ∃ A : Int → Bool, A = fun v => p.body.asg.contains v := ⟨_, rfl⟩
 rw [← hA] at h2
 have hK : ∀ x ∈ p.consts.map valV, ∀ (C : Clo → Clo → Prop) (B : Nat → Nat → Prop), VR C B x x := fun x hx C B => by
  obtain ⟨d, hd, rfl⟩ := List.mem_map.1 hx
  exact VR_datum d 0 (hR.2.1 d hd)
 have hT : TOa A p.consts.length k p.body [] := ⟨⟨0, hR.2.2.1⟩, fun v hv => (by cases hv), hk, hR.2.2.2.2.2, fun v _ hv => (by cases hv), fun v hv => by rw [hA]; simpa using hv⟩
 obtain ⟨w0, hw0⟩ : ∃ w0 : Wd, w0 = ⟨fun _ _ => False, fun _ _ => False, fun _ _ => False⟩ := ⟨_, rfl⟩
 have hV : Va (ACa A p.consts.length) w0 (mc0 f) (mc0 f') := by
  rw [hw0]
  exact ⟨rfl, rfl, rfl, VR_zer, fun _ _ h => h.elim, fun _ _ h => h.elim, fun _ _ h => h.elim, fun _ _ _ _ h => h.elim, fun _ _ _ h => h.elim, fun _ _ _ h => h.elim⟩
 obtain ⟨e1, w', g1, g2, _, g4⟩ := HSa.all (A := A) (cs := p.consts.length) hK f.toNat w0 p.body [] _ [] ⟨[], k, hT, rfl, fun v hv => (by cases hv)⟩ w0 w0.refl (mc0 f) (mc0 f') hV (by show f ≤ (f.toNat : Int); omega) _ _ _ h1 _ _ _ h2 n1 n2
 refine ⟨e1, g2.out, ?_⟩
 subst e1
 unfold endV
 by_cases h0 : c' = 0
 ·rw [if_pos h0, if_pos h0]
  exact VR_txtV (VRs_two.1 (g4 h0)).1
 ·rw [if_neg h0, if_neg h0]
  by_cases h7 : c' = 7
  ·rw [if_pos h7, if_pos h7]
   exact VR_txtV g2.val
  ·rw [if_neg h7, if_neg h7]
end Go.Cb
namespace Go.Cb
open Go.Proofs
set_option maxRecDepth 100000
set_option maxHeartbeats 4000000
theorem cloneInt_c (l : List Int) (hl : l.length ≤ 1000000000) : ACallP Tryz.prog 44 [slI l] (slI l) := by
 refine ACall.of_body tt_ok Tryz.func44 rfl rfl (n := 8) rfl rfl ?_
 conv => whnf
 repeat' (first|refine aA1 ?_|((intro _);conv=>whnf)|(refine zX (fun hc=>?_) (fun hc=>?_)<;>(try simp only [SY] at hc)<;>(conv=>whnf)))
 ·rename_i q hq
  have : l = [] := by simpa using hq hc
  subst this
  exact PRet.pure (Wk.nil' rfl)
 ·exact PRet.pure wA
theorem cloneDat_c (l : List Datum) (hl : l.length ≤ 1000000000) : ACallP Tryz.prog 25 [.sl 5 (l.map Datum.pv) none] (.sl 5 (l.map Datum.pv) none) := by
 refine ACall.of_body tt_ok Tryz.func25 rfl rfl (n := 8) rfl rfl ?_
 conv => whnf
 repeat' (first|refine aA1 ?_|((intro _);conv=>whnf)|(refine zX (fun hc=>?_) (fun hc=>?_)<;>(try simp only [SY] at hc)<;>(conv=>whnf)))
 ·rename_i q hq
  have : l = [] := by simpa using hq hc
  subst this
  exact PRet.pure (Wk.nil' rfl)
 ·exact PRet.pure wA
theorem indexFuncInt_c (k : Nat) (cap : List PV) (Γ1 : List Ent) (p : Int → Bool) (l : List Int) (hf : ∀ x ∈ l, ACall Tryz.prog k (.int .i64 x :: cap) Γ1 (fun y Γ' => y = .bool (p x) ∧ Γ' = Γ1)) :
  ACall Tryz.prog 89 [slI l, .fn (.func k) cap] Γ1 (fun y Γ' => y = .int .i64 (findI p l) ∧ Γ' = Γ1) := by
 refine ACall.of_body tt_ok Tryz.func89 rfl rfl (n := 19) rfl rfl ?_
 conv => whnf
 repeat (first|refine aR1 ?_|((intro _);conv=>whnf))
 refine PLoop.keep [4, 5, 8, 9, 10, 11, 12, 13, 14, 15, 16, 17, 18] (fun i : Nat => [(8, .int .i64 i)]) (fun i => i ≤ l.length ∧ findI p l = if findI p (l.drop i) = -1 then -1 else i + findI p (l.drop i)) (fun i => l.length - i) 0 ⟨by omega, by simp only [List.drop_zero]; split <;> omega⟩ wA ?_
 rintro i ⟨h1, h2⟩
 conv => whnf
 repeat' (first|refine aA1 ?_|(refine zX (fun hc=>?_) (fun hc=>?_)<;>(try simp only [SY] at hc)<;>(conv=>whnf)))
 ·refine PCall.same (hf _ (List.getElem_mem (show i < l.length by omega))) (WkT.refl _) ?_
  rintro _ _ ⟨rfl, rfl⟩
  rw [drop_at (show i < l.length by omega), findI] at h2
  conv => whnf
  repeat' (first|refine aA1 ?_|(refine zX (fun hc=>?_) (fun hc=>?_)<;>(try simp only [SY] at hc)<;>(conv=>whnf)))
  ·rw [hc] at h2
   refine PRet.gen (Wk.int ?_) ⟨rfl, rfl⟩
   simpa using h2.symm
  ·rw [hc] at h2
   refine loopTo (i + 1) ⟨by omega, ?_⟩ (by show l.length - (i + 1) < l.length - i; omega) wA
   rw [h2]
   have hg := findI_ge p (l.drop (i + 1))
   simp only [Bool.false_eq_true, if_false]
   split
   ·simp
   ·rw [if_neg (by omega)]; omega
 ·rw [List.drop_of_length_le (by omega)] at h2
  exact PRet.gen (Wk.int (by rw [h2]; rfl)) ⟨rfl, rfl⟩
theorem containsFuncInt_c (k : Nat) (cap : List PV) (Γ1 : List Ent) (p : Int → Bool) (l : List Int) (hf : ∀ x ∈ l, ACall Tryz.prog k (.int .i64 x :: cap) Γ1 (fun y Γ' => y = .bool (p x) ∧ Γ' = Γ1)) :
  ACall Tryz.prog 55 [slI l, .fn (.func k) cap] Γ1 (fun y Γ' => y = .bool (l.any p) ∧ Γ' = Γ1) := by
 refine ACall.of_body tt_ok Tryz.func55 rfl rfl (n := 9) rfl rfl ?_
 conv => whnf
 skip
 refine PCall.same (indexFuncInt_c k cap Γ1 p l hf) (WkT.refl _) ?_
 rintro _ _ ⟨rfl, rfl⟩
 conv => whnf
 skip
 exact PRet.gen (Wk.bool (findI_any p l)) ⟨rfl, rfl⟩
def backL (l : List Int) : List (List PV) := (List.range l.length).map fun i => [.int .i64 ((l.length - 1 - i : Nat) : Int), .int .i64 (l.getD (l.length - 1 - i) 0)]
theorem backward1_c (b : Nat) (l : List Int) (hl : l.length ≤ 1000000000) : AIter Tryz.prog 117 [.ptr b 0] [.box b [slI l]] (backL l) := by
 intro lp J X hy Γ h0
 refine ACall.ghost (Ghost.drop (Γ' := .box b [slI l] :: Γ) (Γ1 := []) (by rw [List.append_nil]; exact List.perm_append_singleton _ _)) ?_
 refine ACall.of_body tt_ok Tryz.func117 rfl rfl (n := 19) rfl rfl ?_
 conv => whnf
 repeat (first|refine aR1 ?_|((intro _);conv=>whnf))
 have hlen : (backL l).length = l.length := by simp [backL]
 refine PLoop.over [3, 7, 8, 9, 10, 11, 12, 13, 14, 15, 16, 17, 18] (fun x : Nat × List Ent => [(3, .int .i64 ((l.length : Int) - 1 - x.1))]) (fun x : Nat × List Ent => .box b [slI l] :: x.2) (fun x => x.1 ≤ l.length ∧ J x.1 x.2) (fun x => l.length - x.1) (0, Γ) ⟨Nat.zero_le _, h0⟩ wA (hp := ⟨by rw [List.append_nil]⟩) (Γ1 := []) ?_
 rintro ⟨k, Γk⟩ ⟨hk, hJ⟩
 dsimp only at hk hJ ⊢
 conv => whnf
 repeat' (first|refine aA1 ?_|(refine zX (fun hc=>?_) (fun hc=>?_)<;>(try simp only [SY] at hc)<;>(conv=>whnf)))
 ·have hlt : k < l.length := by omega
  have e1 : ((l.length : Int) - 1 - k).toNat = l.length - 1 - k := by omega
  have hlt2 : l.length - 1 - k < l.length := by omega
  have hget : (backL l)[k]? = some [.int .i64 ((l.length : Int) - 1 - k), .int .i64 (l[((l.length : Int) - 1 - k).toNat]'(by omega))] := by
   unfold backL
   rw [List.getElem?_map, List.getElem?_range hlt]
   simp only [Option.map_some, Option.some.injEq, List.cons.injEq, and_true, PV.int.injEq, true_and]
   refine ⟨by omega, ?_⟩
   simp only [e1]
   simp [List.getD, hlt2]
  refine PYield.goR [.box b [slI l]] (hy k _ Γk hget hJ) (WkT.refl _) (List.Perm.refl _) ?_
  rintro _ Γ1 (⟨rfl, hJ1⟩ | ⟨rfl, hX⟩)
  ·conv => whnf
   repeat' (first|refine aA1 ?_|(refine zX (fun hc=>?_) (fun hc=>?_)<;>(try simp only [SY] at hc)<;>omega))
   exact loopTo (k + 1, Γ1) ⟨by show k + 1 ≤ _; omega, hJ1⟩ (by show l.length - (k + 1) < l.length - k; omega) wA (hp := ⟨by rw [List.append_nil]⟩)
  ·conv => whnf
   skip
   exact PRet.gen (Γ' := Γ1) (hp := ⟨(List.perm_append_singleton _ _).symm⟩) (Wk.refl _) (.inr hX)
 ·have : k = l.length := by omega
  subst this
  exact PRet.gen (Γ' := Γk) (hp := ⟨(List.perm_append_singleton _ _).symm⟩) (Wk.refl _) (.inl (by rw [hlen]; exact hJ))
theorem backward_c (l : List Int) : ACall Tryz.prog 90 [slI l] [] (fun y Γ' => ∃ b, y = .fn (.func 117) [.ptr b 0] ∧ Γ' = [.box b [slI l]]) := by
 refine ACall.of_body tt_ok Tryz.func90 rfl rfl (n := 4) rfl rfl ?_
 conv => whnf
 repeat' (first|((intro _);conv=>whnf)|(refine zX (fun hc=>?_) (fun hc=>?_)<;>(try simp only [SY] at hc)<;>omega))
 rename_i b
 exact PRet.gen (y := .fn (.func 117) [.ptr b 0]) (Γ' := [.box b [slI l]]) (hp := PickL.self _) (Wk.refl _) ⟨b, rfl, rfl⟩
end Go.Cb
namespace Go.Cb
open Go.Proofs
set_option maxRecDepth 100000
set_option maxHeartbeats 4000000
theorem Trm.okT_shp {level c codes : Int} {free : Bool} (t : Trm) : ∀ {scope : List Int} {deep : Int}, t.okT level c codes free scope deep → t.shp := by
 induction t using Trm.ind with
 | h t ih =>
  intro scope deep h
  rw [Trm.okT_eq] at h
  rw [Trm.shp_eq]
  have key : ∀ (op : Int) (sc inner : List Int) (deep : Int) (l : List Trm), (∀ y ∈ l, ∀ {scope : List Int} {deep : Int}, y.okT level c codes free scope deep → y.shp) → Trm.okTs level c codes free op sc inner l deep → Trm.shps l := by
   intro op sc inner deep l
   induction l with
   | nil => intro _ _; rw [Trm.shps]; trivial
   | cons x l ihl =>
    intro hy hk
    rw [Trm.okTs] at hk
    rw [Trm.shps]
    exact ⟨hy x (by simp) hk.2.1, ihl (fun z hz => hy z (by simp [hz])) hk.2.2⟩
  refine ⟨?_, key _ _ _ _ _ ih h.2⟩
  obtain ⟨⟨_, _, h3, h4⟩, _⟩ := h
  unfold countsL at h3
  refine ⟨fun e => ?_, fun e => ?_, fun e => ?_, fun e => ?_⟩
  ·rw [e] at h3
   simp [bindsB] at h3
   exact h3
  ·split at h3
   ·cases h3
   ·rw [if_neg (by omega), if_pos (by omega)] at h3
    have : (t.t.length : Int) = 1 := by simpa using h3
    omega
  ·split at h3
   ·cases h3
   ·rw [if_neg (by omega), if_neg (by omega), if_neg (by omega), if_neg (by omega), if_neg (by omega), if_pos (by omega)] at h3
    have : (t.t.length : Int) = (t.v.length : Int) + 1 := by simpa using h3
    omega
  ·unfold numberL at h4
   rw [if_neg (by omega), if_neg (by omega), if_neg (by omega), if_neg (by omega), if_neg (by omega), if_neg (by omega), if_neg (by omega)] at h4
   simpa using h4
mutual
def Trm.uC (P : Int → Int → Bool) : Trm → Int → Int
 | .mk op n _ t, deep => (if P op n = true then 1 else 0) + (if deep < 1000 then Trm.uCs P t (deep + 1) else 0)
def Trm.uCs (P : Int → Int → Bool) : List Trm → Int → Int
 | [], _ => 0
 | x :: xs, deep => Trm.uC P x deep + Trm.uCs P xs deep
end
def putI (l : List Int) (v : Int) : List Int := l.takeWhile (fun x => decide (x < v)) ++ (if (l.dropWhile fun x => decide (x < v)).head? = some v then l.dropWhile (fun x => decide (x < v)) else v :: l.dropWhile fun x => decide (x < v))
theorem putI_cons (x : Int) (l : List Int) (v : Int) : putI (x :: l) v = if x < v then x :: putI l v else if x = v then x :: l else v :: x :: l := by
 unfold putI
 by_cases h : x < v
 ·simp [List.takeWhile_cons, List.dropWhile_cons, h]
 ·simp [List.takeWhile_cons, List.dropWhile_cons, h]
theorem mem_putI (v x : Int) : ∀ l : List Int, x ∈ putI l v ↔ x = v ∨ x ∈ l
 | [] => by simp [putI]
 | y :: l => by
  rw [putI_cons]
  split
  ·rw [List.mem_cons, mem_putI v x l, List.mem_cons]
   constructor
   ·rintro (h | h | h)
    ·exact .inr (.inl h)
    ·exact .inl h
    ·exact .inr (.inr h)
   ·rintro (h | h | h)
    ·exact .inr (.inl h)
    ·exact .inl h
    ·exact .inr (.inr h)
  ·split
   ·rename_i e; rw [List.mem_cons, e]
    constructor
    ·rintro (h | h)
     ·exact .inl h
     ·exact .inr (.inr h)
    ·rintro (h | h | h)
     ·exact .inl h
     ·exact .inl h
     ·exact .inr h
   ·rw [List.mem_cons]
theorem putI_lt (v : Int) : ∀ {l : List Int}, l.Pairwise (· < ·) → (putI l v).Pairwise (· < ·)
 | [], _ => by simp [putI]
 | y :: l, h => by
  rw [List.pairwise_cons] at h
  rw [putI_cons]
  split
  ·rw [List.pairwise_cons]
   refine ⟨fun z hz => ?_, putI_lt v h.2⟩
   rcases (mem_putI v z l).1 hz with rfl | hz
   ·assumption
   ·exact h.1 z hz
  ·split
   ·exact List.pairwise_cons.2 h
   ·rw [List.pairwise_cons]
    refine ⟨fun z hz => ?_, List.pairwise_cons.2 h⟩
    rcases List.mem_cons.1 hz with rfl | hz
    ·omega
    ·have := h.1 z hz; omega
theorem putI_len (v : Int) : ∀ l : List Int, (putI l v).length ≤ l.length + 1
 | [] => by simp [putI]
 | y :: l => by
  rw [putI_cons]
  have := putI_len v l
  split
  ·simp; omega
  ·split <;> simp
mutual
def Trm.bD : Trm → Int → List Int → List Int
 | .mk _ _ v t, deep, out => if deep < 1000 then Trm.bDs t (deep + 1) (v.foldl putI out) else v.foldl putI out
def Trm.bDs : List Trm → Int → List Int → List Int
 | [], _, out => out
 | x :: xs, deep, out => Trm.bDs xs deep (Trm.bD x deep out)
end
theorem Trm.bD_eq (t : Trm) (deep : Int) (out : List Int) : t.bD deep out = if deep < 1000 then Trm.bDs t.t (deep + 1) (t.v.foldl putI out) else t.v.foldl putI out := by cases t; rw [Trm.bD]; rfl
theorem foldl_putI_lt : ∀ (v out : List Int), out.Pairwise (· < ·) → (v.foldl putI out).Pairwise (· < ·)
 | [], _, h => h
 | x :: v, out, h => foldl_putI_lt v _ (putI_lt x h)
theorem mem_foldl_putI (x : Int) : ∀ (v out : List Int), x ∈ v.foldl putI out ↔ x ∈ out ∨ x ∈ v
 | [], _ => by simp
 | y :: v, out => by
  rw [List.foldl_cons, mem_foldl_putI x v, mem_putI, List.mem_cons]
  constructor
  ·rintro ((h | h) | h)
   ·exact .inr (.inl h)
   ·exact .inl h
   ·exact .inr (.inr h)
  ·rintro (h | h | h)
   ·exact .inl (.inr h)
   ·exact .inl (.inl h)
   ·exact .inr h
theorem foldl_putI_len : ∀ (v out : List Int), (v.foldl putI out).length ≤ out.length + v.length
 | [], _ => by simp
 | x :: v, out => by
  rw [List.foldl_cons, List.length_cons]
  have := foldl_putI_len v (putI out x)
  have := putI_len x out
  omega
theorem Trm.bD_spec (t : Trm) : ∀ (deep : Int) (out : List Int), out.Pairwise (· < ·) → (t.bD deep out).Pairwise (· < ·) ∧ (t.bD deep out).length ≤ out.length + t.bulk ∧ (deep + t.dep < 1000 → ∀ x, x ∈ t.bD deep out ↔ x ∈ out ∨ x ∈ t.vars) := by
 induction t using Trm.ind with
 | h t ih =>
  intro deep out ho
  have hge := Trm.deps_ge t.t 0
  have hbe := t.bulk_eq
  have key : ∀ l : List Trm, (∀ y ∈ l, ∀ (deep : Int) (out : List Int), out.Pairwise (· < ·) → (y.bD deep out).Pairwise (· < ·) ∧ (y.bD deep out).length ≤ out.length + y.bulk ∧ (deep + y.dep < 1000 → ∀ x, x ∈ y.bD deep out ↔ x ∈ out ∨ x ∈ y.vars)) →
    ∀ (deep : Int) (out : List Int), out.Pairwise (· < ·) → (Trm.bDs l deep out).Pairwise (· < ·) ∧ (Trm.bDs l deep out).length ≤ out.length + Trm.bulks l ∧ ((∀ x ∈ l, deep + x.dep < 1000) → ∀ x, x ∈ Trm.bDs l deep out ↔ x ∈ out ∨ x ∈ Trm.varss l) := by
   intro l
   induction l with
   | nil => intro _ deep out ho; rw [Trm.bDs, Trm.varss]; exact ⟨ho, by omega, by simp⟩
   | cons x l ihl =>
    intro hy deep out ho
    obtain ⟨a1, a2, a3⟩ := hy x (by simp) deep out ho
    obtain ⟨b1, b2, b3⟩ := ihl (fun z hz => hy z (by simp [hz])) deep (x.bD deep out) a1
    rw [Trm.bDs, Trm.varss, Trm.bulks]
    refine ⟨b1, by omega, fun hd z => ?_⟩
    rw [b3 (fun y hz => hd y (by simp [hz])), a3 (hd x (by simp)), List.mem_append, or_assoc]
  have hf := foldl_putI_lt t.v out ho
  have hl := foldl_putI_len t.v out
  obtain ⟨b1, b2, b3⟩ := key t.t ih (deep + 1) _ hf
  rw [Trm.bD_eq]
  split
  ·refine ⟨b1, by omega, fun hd z => ?_⟩
   rw [Trm.dep_eq] at hd
   have hd2 := (Trm.deps_le (999 - deep) t.t 0).1 (by omega)
   rw [b3 fun x hx => by have := hd2.2 x hx; omega]
   rw [mem_foldl_putI, Trm.vars_eq, List.mem_append, or_assoc]
  ·exact ⟨hf, by omega, fun hd => by rw [Trm.dep_eq] at hd; omega⟩
def bndL (t : Trm) : List Int := riseL t.vars
theorem Trm.bD_rise (t : Trm) (h : t.dep < 1000) : t.bD 0 [] = bndL t := by
 obtain ⟨h1, _, h3⟩ := t.bD_spec 0 [] List.Pairwise.nil
 exact lt_ext h1 (rise_lt _) fun x => by rw [h3 (by omega), bndL, mem_rise]; simp
theorem Trm.binds_rise (t : Trm) (h : t.dep < 1000) : riseL (bindsOf t.all) = bndL t := by
 have := (t.met_all [] 0 (by omega)).2
 unfold bndL bindsOf
 exact congrArg riseL this
def nextT (t : Trm) : Int := if bndL t = [] then 0 else (bndL t).getD ((bndL t).length - 1) 0 + 1
def noP : Prog := ⟨[], .mk 0 0 [] []⟩
def asgB (t : Trm) (v : Int) : Bool := t.asg.contains v
def cvP (p : Prog) : Prog := ⟨p.consts, p.body.cv (asgB p.body) (nextT p.body)⟩
def conv10 (p : Prog) : Prog × Int := if checkP p 1 = 0 then (if checkP (cvP p) 2 = 0 then (cvP p, 0) else (noP, 5)) else (noP, 5)
end Go.Cb
namespace Go.Cb
open Go.Proofs
set_option maxRecDepth 100000
set_option maxHeartbeats 4000000
theorem made_c {x : PV} {l : List Trm} [h : SlOf Trm.pv 4 x l] (op : Int) : ACallP Tryz.prog 52 [.int .i64 op, x] (.agg (Trm.mk op 0 [] l).cells) := by
 refine ACall.wk (args' := [.int .i64 op, .sl 4 (l.map Trm.pv) none]) ?_ (.cons (Wk.refl _) (.cons h.wk .nil))
 refine ACall.of_body tt_ok Tryz.func52 rfl rfl (n := 8) rfl rfl ?_
 conv => whnf
 repeat (first|refine aR1 ?_|((intro _);conv=>whnf))
 exact PRet.pure wA
theorem ref_c (v : Int) : ACallP Tryz.prog 53 [.int .i64 v] (.agg (refT v).cells) := by
 refine ACall.of_body tt_ok Tryz.func53 rfl rfl (n := 5) rfl rfl ?_
 conv => whnf
 repeat (first|refine aR1 ?_|((intro _);conv=>whnf))
 exact PRet.pure wA
abbrev cvG (b r : Nat) (L : List Int) (k : Int) : List Ent := [.box b [.mp r, .int .i64 k], .mp r (.int .i64) (setM L) []]
theorem drAsg10aa {p q : Prop} (k : q) (h : q → p := by intro hq; first | exact PDraw.sP (some 14) rfl [] [6] tt_ok mixed hq) : p := h k
theorem note_c (b r : Nat) (k : Int) (t : Trm) : ∀ (L : List Int), t.bulk ≤ 1000000000 → ACall Tryz.prog 31 [.ptr b 0, .agg t.cells] (cvG b r L k) (fun y Γ' => y = .tup [] ∧ ∃ L', (∀ x, x ∈ L' ↔ x ∈ L ∨ x ∈ t.asg) ∧ Γ' = cvG b r L' k) := by
 induction t using Trm.ind with
 | h t ih =>
  intro L hb
  have hbe := t.bulk_eq
  have hbs := Trm.bulks_length t.t
  have he := t.asg_eq
  refine ACall.of_body tt_ok Tryz.func31 rfl rfl (n := 31) rfl rfl ?_
  conv => whnf
  repeat (((intro _);conv=>whnf))
  rename_i b1
  refine PSeq.join (fun _ => []) (fun L' => .box b1 [.int .i64 t.op, .int .i64 t.n, .sl 1 (t.v.map (PV.int .i64)) none, .sl 4 (t.t.map Trm.pv) none] :: cvG b r L' k) (fun L' => ∀ x, x ∈ L' ↔ x ∈ L ∨ x ∈ (if t.op = 2 ∨ t.op = 14 then [t.n] else [])) ?_ ?_
  ·conv => whnf
   repeat' (first|refine aA1 ?_|((refine drAsg10aa ?_);conv=>whnf)|(refine zX (fun hc=>?_) (fun hc=>?_)<;>(try simp only [SY] at hc)<;>(conv=>whnf)))
   ·exact joinEnd (t.n :: L) (by intro x; rw [if_pos hc]; simp [or_comm]) wA
   ·exact joinEnd L (by intro x; rw [if_neg (by omega)]; simp) wA
  ·intro L1 hL1
   conv => whnf
   repeat (first|refine aR1 ?_|((intro _);conv=>whnf))
   refine PLoop.over [5, 23, 24, 25, 26, 27, 28, 29, 30] (fun x : Nat × List Int => [(23, .int .i64 x.1)]) (fun x : Nat × List Int => .box b1 [.int .i64 t.op, .int .i64 t.n, .sl 1 (t.v.map (PV.int .i64)) none, .sl 4 (t.t.map Trm.pv) none] :: cvG b r x.2 k)
    (fun x => x.1 ≤ t.t.length ∧ ∀ y, y ∈ x.2 ↔ y ∈ L1 ∨ y ∈ Trm.asgs (t.t.take x.1)) (fun x => t.t.length - x.1) (0, L1) ⟨Nat.zero_le _, by simp [Trm.asgs]⟩ wA ?_
   rintro ⟨i, L2⟩ ⟨hi, hL2⟩
   dsimp only at hi hL2 ⊢
   conv => whnf
   repeat' (first|refine aA1 ?_|((intro _);conv=>whnf)|(refine zX (fun hc=>?_) (fun hc=>?_)<;>(try simp only [SY] at hc)<;>(conv=>whnf)))
   ·have hlt : i < t.t.length := by omega
    refine PCall.go (ih _ (List.getElem_mem hlt) L2 (by have := Trm.bulks_mem (List.getElem_mem hlt); omega)) (WkT.refl _) ?_
    rintro _ _ ⟨rfl, L3, hL3, rfl⟩
    conv => whnf
    repeat' (first|refine aA1 ?_|(refine zX (fun hc=>?_) (fun hc=>?_)<;>(try simp only [SY] at hc)<;>omega))
    refine loopTo (i + 1, L3) ⟨by show i + 1 ≤ _; omega, fun y => ?_⟩ (by show t.t.length - (i + 1) < t.t.length - i; omega) wA
    rw [hL3, hL2, List.take_succ_eq_append_getElem hlt, Trm.asgs_flat, Trm.asgs_flat, List.flatMap_append, List.mem_append, or_assoc]
    simp
   ·rw [List.take_of_length_le (by omega)] at hL2
    refine PRet.gen (Γ' := cvG b r L2 k) (Wk.refl _) ⟨rfl, L2, fun y => ?_, rfl⟩
    rw [hL2, hL1, he, List.mem_append, or_assoc]
def CvOk (b r : Nat) (L : List Int) (x : Trm) : Prop := ∀ k : Int, 0 ≤ k → k + x.bulk ≤ 1000000000000000 →
 ACall Tryz.prog 32 [.ptr b 0, .agg x.cells] (cvG b r L k) (fun y Γ' => y = .agg (x.cv L.contains k).cells ∧ Γ' = cvG b r L (k + x.fr L.contains))
theorem asgAll_c (b r : Nat) (L : List Int) (l : List Trm) (k : Int) (hf : ∀ x ∈ l, CvOk b r L x) (h0 : 0 ≤ k) (hk : k + Trm.bulks l ≤ 1000000000000000) (hl : l.length ≤ 1000000000) :
  ACall Tryz.prog 58 [.sl 4 (l.map Trm.pv) none, .fm 32 (.ptr b 0)] (cvG b r L k)
   (fun y Γ' => ∃ tk : Tok, tk.e = 26 ∧ tk.s = 4 ∧ y = .ms tk ∧ Γ' = .row tk ((Trm.cvs L.contains l k).map Trm.pv) :: cvG b r L (k + Trm.frs L.contains l)) := by
 refine ACall.of_body tt_ok Tryz.func58 rfl rfl (n := 22) rfl rfl ?_
 conv => whnf
 repeat (first|refine aR1 ?_|((intro _);conv=>whnf))
 refine PLoop.enter [5, 7, 10, 11, 12, 13, 14, 15, 16, 17, 18, 19, 20] (fun x : Nat × List Trm × Tok => [(5, .ms x.2.2), (10, .int .i64 x.1)]) (fun x : Nat × List Trm × Tok => .row x.2.2 (x.2.1.map Trm.pv) :: cvG b r L (k + Trm.frs L.contains (l.take x.1)))
  (fun x => x.1 ≤ l.length ∧ (x.2.2.e = 26 ∧ x.2.2.s = 4) ∧ x.2.1 = (Trm.cvs L.contains l k).take x.1) (fun x => l.length - x.1) (0, [], nilTok 4 26) ⟨Nat.zero_le _, ⟨rfl, rfl⟩, rfl⟩
  (by (repeat' (first|exact trivial|exact Wk.refl _|(refine And.intro ?_ ?_)|exact Wk.nilRow _ _|exact Wk.any _))) (by simpa [Trm.frs] using Ghost.nilRow 4 26 _) ?_
 rintro ⟨i, m, tk⟩ ⟨hi, ⟨hte, hts⟩, hm⟩
 dsimp only at hi hte hts hm ⊢
 have hlen := Trm.cvs_length L.contains l k
 have hfb := Trm.frs_bd L.contains (l.take i)
 have hml : m.length ≤ 1000000000 := by rw [hm, List.length_take]; omega
 conv => whnf
 repeat' (first|refine aA1 ?_|((intro _);conv=>whnf)|(refine zX (fun hc=>?_) (fun hc=>?_)<;>(try simp only [SY] at hc)<;>(conv=>whnf)))
 ·have hlt : i < l.length := by omega
  have hbt : Trm.bulks (l.take i) + (l[i]).bulk ≤ Trm.bulks l := by
   have h1 : l.take (i + 1) ++ l.drop (i + 1) = l := List.take_append_drop _ _
   have h2 := congrArg Trm.bulks h1
   rw [List.take_succ_eq_append_getElem hlt, Trm.bulks_append, Trm.bulks_append, Trm.bulks, Trm.bulks] at h2
   omega
  refine PCall.go (hf _ (List.getElem_mem hlt) (k + Trm.frs L.contains (l.take i)) (by omega) (by omega)) (WkT.refl _) ?_
  rintro _ _ ⟨rfl, rfl⟩
  conv => whnf
  repeat' (first|refine aA1 ?_|((intro _);conv=>whnf)|(refine zX (fun hc=>?_) (fun hc=>?_)<;>(try simp only [SY] at hc)<;>omega))
  refine yD hte hts rfl (by simp; omega) ?_
  intro t2 ht2 hs2
  conv => whnf
  repeat' (first|refine aA1 ?_|(refine zX (fun hc=>?_) (fun hc=>?_)<;>(try simp only [SY] at hc)<;>omega))
  have e : k + Trm.frs L.contains (l.take i) + (l[i]).fr L.contains = k + Trm.frs L.contains (l.take (i + 1)) := by rw [Trm.frs_take _ hlt]; omega
  rw [e]
  refine loopTo (i + 1, m ++ [(l[i]).cv L.contains (k + Trm.frs L.contains (l.take i))], t2) ⟨by show i + 1 ≤ _; omega, ⟨ht2, hs2⟩, ?_⟩ (by show l.length - (i + 1) < l.length - i; omega) wA
  show m ++ [_] = (Trm.cvs L.contains l k).take (i + 1)
  rw [List.take_succ_eq_append_getElem (by omega), ← hm, Trm.cvs_get _ _ _ _ hlt]
 ·have e : m = Trm.cvs L.contains l k := by rw [hm, List.take_of_length_le (by omega)]
  subst e
  rw [List.take_of_length_le (by omega)]
  exact PRet.gen (Γ' := .row tk ((Trm.cvs L.contains l k).map Trm.pv) :: cvG b r L (k + Trm.frs L.contains l)) (Wk.refl _) ⟨tk, hte, hts, rfl, rfl⟩
theorem assignedF_c (b r b2 : Nat) (L : List Int) (k v : Int) : ACall Tryz.prog 56 [.int .i64 v, .ptr b2 0] (.box b2 [.ptr b 0] :: cvG b r L k) (fun y Γ' => y = .bool (L.contains v) ∧ Γ' = .box b2 [.ptr b 0] :: cvG b r L k) := by
 refine ACall.of_body tt_ok Tryz.func56 rfl rfl (n := 10) rfl rfl ?_
 conv => whnf
 repeat (refine aR1 ?_)
 exact PRet.gen (Wk.refl _) ⟨rfl, rfl⟩
theorem asgAllF_c (b r : Nat) (L : List Int) (l : List Trm) (k : Int) (hf : ∀ x ∈ l, CvOk b r L x) (h0 : 0 ≤ k) (hk : k + Trm.bulks l ≤ 1000000000000000) (hl : l.length ≤ 1000000000) :
  ACall Tryz.prog 58 [.sl 4 (l.map Trm.pv) none, .fm 32 (.ptr b 0)] (cvG b r L k)
   (fun y Γ' => y = .sl 4 ((Trm.cvs L.contains l k).map Trm.pv) none ∧ Γ' = cvG b r L (k + Trm.frs L.contains l)) :=
 (asgAll_c b r L l k hf h0 hk hl).shift fun y Γ' h => by
  obtain ⟨tk, _, hs, rfl, rfl⟩ := h
  exact ⟨_, _, Shift.trans (Shift.freezeRow (hp := ⟨List.Perm.refl _⟩) (WkF.ms' hs)) (Shift.wk (Wk.refl _) (Γ1 := [.tok tk]) (List.perm_append_singleton _ _).symm), rfl, rfl⟩
end Go.Cb
namespace Go.Cb
open Go.Proofs
set_option maxRecDepth 100000
set_option maxHeartbeats 4000000
end Go.Cb
namespace Go.Cb
open Go.Proofs
set_option maxRecDepth 100000
set_option maxHeartbeats 4000000
end Go.Cb
namespace Go.Cb
open Go.Proofs
set_option maxRecDepth 100000
set_option maxHeartbeats 4000000
section
variable {P : Program} {tt : Nat → TI}
theorem PLoop.ghost {B : List PV → List Ent → Ds → QT → Prop} {T : List PV} {Γ Γ' : List Ent} {D : Ds} {Q : QT} (hg : Ghost Γ Γ') (h : PLoop B T Γ' D Q) : PLoop B T Γ D Q := by
 obtain ⟨I, J, ⟨n, T0, Γ0, h1, h2⟩, h3, h4⟩ := h.h
 refine ⟨I, J, ⟨n, T0, Γ0, fun w0 F M w vs hS hT => ?_, h2⟩, h3, h4⟩
 obtain ⟨F1, e1, hS1⟩ := hg w0 F M w hS
 obtain ⟨F2, e2, hS2, hT2⟩ := h1 w0 F1 M w vs hS1 (RepT.mono e1 _ _ hT)
 exact ⟨F2, Fz.le_trans e1 e2, hS2, hT2⟩
theorem PInt.w {k : IntKind} {v : Int} {K : Int → Prop} (h : K (k.wrap v)) : PInt k v K := ⟨h⟩
end
mutual
def Trm.shw (k : Int) : Trm → Trm
 | .mk op n v t => .mk op (if namesB op = true then IntKind.i64.wrap (n + k) else n) (v.map fun x => IntKind.i64.wrap (x + k)) (Trm.shws k t)
def Trm.shws (k : Int) : List Trm → List Trm
 | [] => []
 | x :: xs => Trm.shw k x :: Trm.shws k xs
end
end Go.Cb
namespace Go.Cb
open Go.Proofs
set_option maxRecDepth 100000
set_option maxHeartbeats 4000000
theorem lamN_cons (A : Int → Bool) (v : Int) (l : List Int) : lamN A (v :: l) = (if A v = true then 1 else 0) + lamN A l := by
 unfold lamN
 rw [List.filter_cons]
 split
 ·rw [List.length_cons]; omega
 ·omega
theorem drLam10aa {p q : Prop} (k : q) (h : q → p := by intro hq; first | exact PDraw.sT (some 27) rfl [4,11,12,13,14,15] [17,18,19] tt_ok mixed hq) : p := h k
theorem lam_c (b r : Nat) (L : List Int) (t : Trm) (hop : t.op = 4) (hlen : t.t.length = 1) (hf : ∀ x ∈ t.t, CvOk b r L x) (hb : t.bulk ≤ 1000000000) (k : Int) (h0 : 0 ≤ k) (hk : k + t.bulk ≤ 1000000000000000) :
  ACall Tryz.prog 54 [.ptr b 0, .agg t.cells] (cvG b r L k) (fun y Γ' => y = .agg (t.cv L.contains k).cells ∧ Γ' = cvG b r L (k + t.fr L.contains)) := by
 have hbe := t.bulk_eq
 have hle0 := lamN_bd L.contains t.v
 refine ACall.of_body tt_ok Tryz.func54 rfl rfl (n := 84) rfl rfl ?_
 conv => whnf
 repeat (first|refine aR1 ?_|((intro _);conv=>whnf))
 rename_i b1 b2 b3 b4 hvl
 refine PLoop.ghost (Ghost.trans (Ghost.nil 1 3 _) (Ghost.trans (Ghost.nil 1 3 _) (Ghost.trans (Ghost.nil 4 26 _)
  (Ghost.trans (Ghost.box (b := b3) (cs := [.int .i64 4, .int .i64 t.n, .nil, .nil]) (cs' := [.int .i64 4, .int .i64 t.n, .sl 1 (([] : List Int).map (PV.int .i64)) (some (nilTok 1 3)), .nil]) wA)
   (Ghost.box (b := b4) (cs := [.int .i64 8, .int .i64 0, .nil, .nil]) (cs' := [.int .i64 8, .int .i64 0, .sl 1 (([] : List Int).map (PV.int .i64)) (some (nilTok 1 3)), .sl 4 (([] : List Trm).map Trm.pv) (some (nilTok 4 26))]) wA))))) ?_
 refine PLoop.over [8, 17, 18, 19, 20, 21, 22, 23, 24, 25, 26, 27, 28, 29, 30, 31, 32, 33, 34, 35, 36, 37, 38, 39, 40, 41, 42, 43, 44, 45, 46, 47, 48, 49, 50, 51, 52, 53, 54, 55, 56, 57, 58, 59, 60, 61, 62] (fun x : Nat × (List Int × Tok) × (List Int × Tok) × (List Trm × Tok) × Int => [(17, .int .i64 x.1)])
  (fun x : Nat × (List Int × Tok) × (List Int × Tok) × (List Trm × Tok) × Int => [.box b3 [.int .i64 4, .int .i64 t.n, .sl 1 (x.2.1.1.map (PV.int .i64)) (some x.2.1.2), .nil], .tok x.2.1.2, .box b4 [.int .i64 8, .int .i64 0, .sl 1 (x.2.2.1.1.map (PV.int .i64)) (some x.2.2.1.2), .sl 4 (x.2.2.2.1.1.map Trm.pv) (some x.2.2.2.1.2)], .tok x.2.2.1.2, .tok x.2.2.2.1.2, .box b2 [.int .i64 0, .int .i64 0, .nil, .nil], .box b1 [.int .i64 t.op, .int .i64 t.n, .sl 1 (t.v.map (PV.int .i64)) none, .sl 4 (t.t.map Trm.pv) none], .box b [.mp r, .int .i64 x.2.2.2.2], .mp r (.int .i64) (setM L) []])
  (fun x => x.1 ≤ t.v.length ∧ (x.2.1.2.e = 3 ∧ x.2.2.1.2.e = 3 ∧ x.2.2.2.1.2.e = 26) ∧ (x.2.1.1.length ≤ x.1 ∧ x.2.2.1.1.length ≤ x.1 ∧ x.2.2.2.1.1.length ≤ x.1) ∧ x.2.1.1 ++ lamV L.contains (t.v.drop x.1) x.2.2.2.2 = lamV L.contains t.v k ∧ x.2.2.1.1 ++ (t.v.drop x.1).filter L.contains = t.v.filter L.contains ∧ x.2.2.2.1.1 ++ lamT L.contains (t.v.drop x.1) x.2.2.2.2 = lamT L.contains t.v k ∧ x.2.2.2.2 + lamN L.contains (t.v.drop x.1) = k + lamN L.contains t.v)
  (fun x => t.v.length - x.1) (0, ([], nilTok 1 3), ([], nilTok 1 3), ([], nilTok 4 26), k) ⟨Nat.zero_le _, ⟨rfl, rfl, rfl⟩, ⟨by simp, by simp, by simp⟩, rfl, rfl, rfl, rfl⟩ wA ?_
 rintro ⟨i, ⟨ov, t1⟩, ⟨lv, t2⟩, ⟨lt, t3⟩, nx⟩ ⟨hi, ⟨ht1, ht2, ht3⟩, ⟨hl1, hl2, hl3⟩, ho, hv, hT, hn⟩
 dsimp only at hi ht1 ht2 ht3 hl1 hl2 hl3 ho hv hT hn ⊢
 have hnb := lamN_bd L.contains (t.v.drop i)
 have hdl : (t.v.drop i).length = t.v.length - i := List.length_drop
 conv => whnf
 repeat' (first|refine aA1 ?_|((first|refine pC (ref_c _) wR ?_|refine pC (made_c 15) wR ?_|refine drLam10aa ?_|intro _);conv=>whnf)|(refine zX (fun hc=>?_) (fun hc=>?_)<;>(try simp only [SY] at hc)<;>(conv=>whnf)))
 ·rename_i ta hta tb htb tc htc td htd te hte tf htf
  have hlt : i < t.v.length := by omega
  rw [drop_at hlt] at ho hv hT hn
  rw [lamV, if_pos hc] at ho
  rw [List.filter_cons, if_pos hc] at hv
  rw [lamT, if_pos hc] at hT
  rw [lamN_cons, if_pos hc] at hn
  exact loopTo (i + 1, (ov ++ [nx], tf), (lv ++ [t.v[i]], ta), (lt ++ [Trm.mk 15 0 [] [refT nx]], td), nx + 1) ⟨by show i + 1 ≤ _; omega, ⟨htf, hta, htd⟩, ⟨by simp; omega, by simp; omega, by simp; omega⟩, by dsimp only; rw [List.append_assoc]; exact ho, by dsimp only; rw [List.append_assoc]; exact hv, by dsimp only; rw [List.append_assoc]; exact hT, by dsimp only; omega⟩ (by show t.v.length - (i + 1) < t.v.length - i; omega) wA
 ·rename_i te hte tf htf
  have hlt : i < t.v.length := by omega
  have hc' : ¬ L.contains t.v[i] = true := by rw [hc]; simp
  rw [drop_at hlt] at ho hv hT hn
  rw [lamV, if_neg hc'] at ho
  rw [List.filter_cons, if_neg hc'] at hv
  rw [lamT, if_neg hc'] at hT
  rw [lamN_cons, if_neg hc'] at hn
  exact loopTo (i + 1, (ov ++ [t.v[i]], tf), (lv, t2), (lt, t3), nx) ⟨by show i + 1 ≤ _; omega, ⟨htf, ht2, ht3⟩, ⟨by simp; omega, by dsimp only; omega, by dsimp only; omega⟩, by dsimp only; rw [List.append_assoc]; exact ho, hv, hT, by dsimp only; omega⟩ (by show t.v.length - (i + 1) < t.v.length - i; omega) wA
 ·rw [List.drop_of_length_le (by omega)] at ho hv hT hn
  rw [lamV, List.append_nil] at ho
  rw [List.filter_nil, List.append_nil] at hv
  rw [lamT, List.append_nil] at hT
  have hn' : nx = k + lamN L.contains t.v := by rw [← hn]; simp [lamN]
  have hm0 : t.t[0]'(by omega) ∈ t.t := List.getElem_mem _
  have hb0 := Trm.bulks_mem hm0
  refine PCall.go (hf _ hm0 nx (by omega) (by omega)) (WkT.refl _) ?_
  rintro _ _ ⟨rfl, rfl⟩
  generalize hX : (t.t[0]'(by omega)).cv L.contains nx = X
  have hcvs : Trm.cvs L.contains t.t nx = [X] := by
   rw [← hX]
   obtain ⟨x, hx⟩ : ∃ x, t.t = [x] := List.length_eq_one_iff.1 hlen
   simp only [hx, Trm.cvs, List.getElem_cons_zero]
  have hfr : Trm.frs L.contains t.t = (t.t[0]'(by omega)).fr L.contains := by
   obtain ⟨x, hx⟩ : ∃ x, t.t = [x] := List.length_eq_one_iff.1 hlen
   simp only [hx, Trm.frs, List.getElem_cons_zero]; omega
  have hcv := t.cv_eq L.contains k
  rw [if_neg (by omega), if_neg (by omega), if_neg (by omega), if_pos hop, ← hn', hcvs, ← ho, ← hv, ← hT] at hcv
  have hfe := t.fr_eq L.contains
  rw [if_pos hop] at hfe
  have hkf : nx + (t.t[0]'(by omega)).fr L.contains = k + t.fr L.contains := by omega
  rw [← hkf]
  conv => whnf
  repeat' (first|refine aA1 ?_|((intro _);conv=>whnf)|(refine zX (fun hc=>?_) (fun hc=>?_)<;>(try simp only [SY] at hc)<;>(conv=>whnf)))
  ·rw [if_neg (by intro h; rw [h] at hc; simp at hc)] at hcv
   rw [hcv]
   exact PRet.gen (y := .agg (Trm.mk 4 t.n ov [Trm.mk 8 0 lv (lt ++ [X])]).cells) (Γ' := cvG b r L (nx + (t.t[0]'(by omega)).fr L.contains)) TrmOf.wk ⟨rfl, rfl⟩
  ·rw [if_pos (List.eq_nil_of_length_eq_zero (by omega))] at hcv
   rw [hcv]
   exact PRet.gen (y := .agg (Trm.mk 4 t.n ov [X]).cells) (Γ' := cvG b r L (nx + (t.t[0]'(by omega)).fr L.contains)) TrmOf.wk ⟨rfl, rfl⟩
end Go.Cb
namespace Go.Cb
open Go.Proofs
set_option maxRecDepth 100000
set_option maxHeartbeats 4000000
theorem backL_get {l : List Int} {k : Nat} {ys : List PV} (h : (backL l)[k]? = some ys) : ∃ m, ∃ hm : m < l.length, k + 1 + m = l.length ∧ ys = [.int .i64 (m : Int), .int .i64 l[m]] := by
 unfold backL at h
 rw [List.getElem?_map] at h
 rcases Nat.lt_or_ge k l.length with hk | hk
 ·rw [List.getElem?_range hk] at h
  simp only [Option.map_some, Option.some.injEq] at h
  refine ⟨l.length - 1 - k, by omega, by omega, ?_⟩
  have hlt : l.length - 1 - k < l.length := by omega
  rw [← h]
  simp [List.getD, hlt]
 ·rw [List.getElem?_eq_none (by simpa using hk)] at h; cases h
theorem drFix10aa {p q : Prop} (k : q) (h : q → p := by intro hq; first | exact PDraw.sT (some 38) rfl [4,9,10,11] [13,14,15] tt_ok mixed hq | exact PDraw.sT (some 52) rfl [4,12] [14,15,16] tt_ok mixed hq | exact PDraw.sP (some 83) rfl [] [11] tt_ok mixed hq) : p := h k
theorem fix_c (b r : Nat) (L : List Int) (t : Trm) (hop : t.op = 9) (ha : t.v.any L.contains = true) (hlen : t.t.length = t.v.length + 1) (hf : ∀ x ∈ t.t, CvOk b r L x) (hb : t.bulk ≤ 1000000000) (k : Int) (h0 : 0 ≤ k) (hk : k + t.bulk ≤ 1000000000000000) :
  ACall Tryz.prog 57 [.ptr b 0, .agg t.cells] (cvG b r L k) (fun y Γ' => y = .agg (t.cv L.contains k).cells ∧ Γ' = cvG b r L (k + t.fr L.contains)) := by
 have hbe := t.bulk_eq
 refine ACall.of_body tt_ok Tryz.func57 rfl rfl (n := 112) rfl rfl ?_
 conv => whnf
 repeat (first|refine aR1 ?_|((intro _);conv=>whnf))
 refine PCall.go (asgAllF_c b r L t.t k hf h0 (by omega) (by omega)) (WkT.refl _) ?_
 rintro _ _ ⟨rfl, rfl⟩
 have hcl := Trm.cvs_length L.contains t.t k
 have hfr : k + t.fr L.contains = k + Trm.frs L.contains t.t := by rw [t.fr_eq, if_neg (by omega)]; omega
 have hcv := t.cv_eq L.contains k
 rw [if_neg (by omega), if_neg (by omega), if_neg (by omega), if_neg (by omega), if_pos ⟨hop, ha⟩] at hcv
 rw [hfr, hcv]
 generalize Trm.cvs L.contains t.t k = l at *
 generalize k + Trm.frs L.contains t.t = k' at *
 conv => whnf
 repeat' (first|refine aA1 ?_|((intro _);conv=>whnf)|(refine zX (fun hc=>?_) (fun hc=>?_)<;>(try simp only [SY] at hc)<;>omega))
 rename_i b1 b2 b3 hv1 bl bt bf hv2
 refine PLoop.ghost (Ghost.trans (Ghost.nil 1 3 _) (Ghost.trans (Ghost.nil 1 3 _) (Ghost.trans (Ghost.nil 4 26 _) (Ghost.trans (Ghost.nil 4 26 _)
  (Ghost.trans (Ghost.box (b := bt) (cs := [.int .i64 8, .int .i64 0, .nil, .nil]) (cs' := [.int .i64 8, .int .i64 0, .sl 1 (([] : List Int).map (PV.int .i64)) (some (nilTok 1 3)), .sl 4 (([] : List Trm).map Trm.pv) (some (nilTok 4 26))]) wA)
   (Ghost.box (b := bf) (cs := [.int .i64 9, .int .i64 0, .nil, .nil]) (cs' := [.int .i64 9, .int .i64 0, .sl 1 (([] : List Int).map (PV.int .i64)) (some (nilTok 1 3)), .sl 4 (([] : List Trm).map Trm.pv) (some (nilTok 4 26))]) wA)))))) ?_
 refine PLoop.over [9, 10, 27, 28, 29, 30, 31, 32, 33, 34, 35, 36, 37, 38, 39, 40, 41, 42, 43, 44, 45, 46, 47, 48, 49, 50, 51, 52, 53, 54, 55, 56, 57, 58, 59, 60, 61, 62, 63, 64, 65, 66, 67] (fun x : Nat × (List Int × Tok) × (List Trm × Tok) × (List Int × Tok) × (List Trm × Tok) => [(27, .int .i64 x.1)])
  (fun x : Nat × (List Int × Tok) × (List Trm × Tok) × (List Int × Tok) × (List Trm × Tok) => [.box bt [.int .i64 8, .int .i64 0, .sl 1 (x.2.1.1.map (PV.int .i64)) (some x.2.1.2), .sl 4 (x.2.2.1.1.map Trm.pv) (some x.2.2.1.2)], .tok x.2.1.2, .tok x.2.2.1.2, .box bf [.int .i64 9, .int .i64 0, .sl 1 (x.2.2.2.1.1.map (PV.int .i64)) (some x.2.2.2.1.2), .sl 4 (x.2.2.2.2.1.map Trm.pv) (some x.2.2.2.2.2)], .tok x.2.2.2.1.2, .tok x.2.2.2.2.2, .box bl [.sl 4 (l.map Trm.pv) none], .box b [.mp r, .int .i64 k'], .mp r (.int .i64) (setM L) [], .box b3 [.int .i64 0, .int .i64 0, .nil, .nil], .box b2 [.int .i64 t.op, .int .i64 t.n, .sl 1 (t.v.map (PV.int .i64)) none, .sl 4 (t.t.map Trm.pv) none], .box b1 [.ptr b 0]])
  (fun x => x.1 ≤ t.v.length ∧ (x.2.1.2.e = 3 ∧ x.2.2.1.2.e = 26 ∧ x.2.2.2.1.2.e = 3 ∧ x.2.2.2.2.2.e = 26) ∧ (x.2.1.1.length ≤ x.1 ∧ x.2.2.1.1.length ≤ x.1 ∧ x.2.2.2.1.1.length ≤ x.1 ∧ x.2.2.2.2.1.length ≤ x.1) ∧ x.2.1.1 ++ (t.v.drop x.1).filter L.contains = t.v.filter L.contains ∧ x.2.2.1.1 = x.2.1.1.map (fun _ => boxT (.mk 13 0 [] [])) ∧ x.2.2.2.1.1 ++ (t.v.drop x.1).filter (fun v => !L.contains v) = t.v.filter (fun v => !L.contains v) ∧ x.2.2.2.2.1 ++ fixT L.contains (t.v.drop x.1) (l.drop x.1) = fixT L.contains t.v l)
  (fun x => t.v.length - x.1) (0, ([], nilTok 1 3), ([], nilTok 4 26), ([], nilTok 1 3), ([], nilTok 4 26)) ⟨Nat.zero_le _, ⟨rfl, rfl, rfl, rfl⟩, ⟨by simp, by simp, by simp, by simp⟩, rfl, rfl, rfl, rfl⟩ wA ?_
 rintro ⟨i, ⟨lv, t1⟩, ⟨lt, t2⟩, ⟨fv, t3⟩, ⟨ft, t4⟩⟩ ⟨hi, ⟨ht1, ht2, ht3, ht4⟩, ⟨hl1, hl2, hl3, hl4⟩, hlv, hlt, hfv, hft⟩
 dsimp only at hi ht1 ht2 ht3 ht4 hl1 hl2 hl3 hl4 hlv hlt hfv hft ⊢
 conv => whnf
 repeat' (first|refine aA1 ?_|((first|refine pC (made_c 15) wR ?_|refine drFix10aa ?_|intro _);conv=>whnf)|(refine zX (fun hc=>?_) (fun hc=>?_)<;>(try simp only [SY] at hc)<;>(conv=>whnf)))
 ·rename_i ta hta tb htb tc htc
  have h1 : i < t.v.length := by omega
  have h2 : i < l.length := by omega
  rw [drop_at h1] at hlv hfv hft
  rw [List.filter_cons, if_pos hc] at hlv
  rw [List.filter_cons, if_neg (by rw [hc]; decide)] at hfv
  rw [drop_at h2, fixT, if_pos hc] at hft
  exact loopTo (i + 1, (lv ++ [t.v[i]], ta), (lt ++ [Trm.mk 15 0 [] [Trm.mk 13 0 [] []]], tc), (fv, t3), (ft, t4)) ⟨by show i + 1 ≤ _; omega, ⟨hta, htc, ht3, ht4⟩, ⟨by simp; omega, by simp; omega, by dsimp only; omega, by dsimp only; omega⟩, by dsimp only; rw [List.append_assoc]; exact hlv, by dsimp only; rw [List.map_append, ← hlt]; rfl, hfv, hft⟩ (by show t.v.length - (i + 1) < t.v.length - i; omega) wA
 ·rename_i ta hta tb htb
  have h1 : i < t.v.length := by omega
  have h2 : i < l.length := by omega
  have hc' : ¬ L.contains t.v[i] = true := by rw [hc]; simp
  rw [drop_at h1] at hlv hfv hft
  rw [List.filter_cons, if_neg hc'] at hlv
  rw [List.filter_cons, if_pos (by rw [hc]; rfl)] at hfv
  rw [drop_at h2, fixT, if_neg hc'] at hft
  exact loopTo (i + 1, (lv, t1), (lt, t2), (fv ++ [t.v[i]], ta), (ft ++ [l[i]], tb)) ⟨by show i + 1 ≤ _; omega, ⟨ht1, ht2, hta, htb⟩, ⟨by dsimp only; omega, by dsimp only; omega, by simp; omega, by simp; omega⟩, hlv, hlt, by dsimp only; rw [List.append_assoc]; exact hfv, by dsimp only; rw [List.append_assoc]; exact hft⟩ (by show t.v.length - (i + 1) < t.v.length - i; omega) wA
 rename_i bo
 rw [List.drop_of_length_le (by omega)] at hlv hfv hft
 rw [List.filter_nil, List.append_nil] at hlv hfv
 have e0 : fixT L.contains [] (l.drop i) = [] := by simp [fixT]
 rw [e0, List.append_nil] at hft
 have hnl : t.v.length < l.length := by omega
 generalize hO : l[t.v.length] = o0
 refine PCall.go (backward_c t.v) (WkT.refl _) ?_
 rintro _ _ ⟨bb, rfl, rfl⟩
 conv => whnf
 skip
 refine PRange.go (backL t.v) (fun o : Trm => [.box bo [.int .i64 o.op, .int .i64 o.n, .sl 1 (o.v.map (PV.int .i64)) none, .sl 4 (o.t.map Trm.pv) none], .box bt [.int .i64 8, .int .i64 0, .sl 1 (lv.map (PV.int .i64)) (some t1), .sl 4 (lt.map Trm.pv) (some t2)], .tok t1, .tok t2, .box bf [.int .i64 9, .int .i64 0, .sl 1 (fv.map (PV.int .i64)) (some t3), .sl 4 (ft.map Trm.pv) (some t4)], .tok t3, .tok t4, .box bl [.sl 4 (l.map Trm.pv) none], .box b [.mp r, .int .i64 k'], .mp r (.int .i64) (setM L) [], .box b3 [.int .i64 0, .int .i64 0, .nil, .nil], .box b2 [.int .i64 t.op, .int .i64 t.n, .sl 1 (t.v.map (PV.int .i64)) none, .sl 4 (t.t.map Trm.pv) none], .box b1 [.ptr b 0]])
  (fun k o => k ≤ t.v.length ∧ o = fixO L.contains (t.v.drop (t.v.length - k)) (l.drop (t.v.length - k)) o0) (fun _ _ => False) o0 (backward1_c bb t.v (by omega)) ⟨Nat.zero_le _, by rw [Nat.sub_zero, List.drop_length]; simp [fixO]⟩ (hp := ⟨by rw [List.append_nil]; exact (List.perm_append_singleton _ _).symm⟩) (Γ1 := []) (by intro ys hy; obtain ⟨m, _, rfl⟩ := List.mem_map.1 hy; rfl) ?_ ?_ (fun _ _ _ h => h.elim)
 ·rintro j ys o hk ⟨hj, ho⟩
  obtain ⟨m, hm, hjm, rfl⟩ := backL_get hk
  have hml : m < l.length := by omega
  have hd1 : t.v.length - j = m + 1 := by omega
  have hd2 : t.v.length - (j + 1) = m := by omega
  rw [hd1] at ho
  conv => whnf
  skip
  refine ⟨rfl, ?_⟩
  conv => whnf
  repeat' (first|refine aA1 ?_|((first|((apply zZ);(conv=>whnf);(repeat ((first|refine pC (ref_c _) wR ?_|refine pC (made_c 17) wR ?_|refine pC (made_c 6) wR ?_);conv=>whnf));exact pZ)|refine drFix10aa ?_);conv=>whnf)|(refine zX (fun hc=>?_) (fun hc=>?_)<;>(try simp only [SY] at hc)<;>(conv=>whnf)))
  ·refine ⟨rfl, _, _, Weak.of (WkT.refl _) (Ghost.refl _), Trm.mk 6 0 [] [Trm.mk 17 0 [] [refT t.v[m], l[m]], o], ⟨by omega, ?_⟩, rfl⟩
   rw [hd2, drop_at hm, drop_at hml, fixO, if_pos hc, ← ho]
  ·refine ⟨rfl, _, _, Weak.of (WkT.refl _) (Ghost.refl _), o, ⟨by omega, ?_⟩, rfl⟩
   rw [hd2, drop_at hm, drop_at hml, fixO, if_neg (by rw [hc]; simp), ← ho]
 ·rintro bd o ⟨hle, ho⟩
  have hbl : (backL t.v).length = t.v.length := by simp [backL]
  rw [hbl, Nat.sub_self, List.drop_zero, List.drop_zero] at ho
  have hgd : l.getD t.v.length (refT 0) = o0 := by rw [← hO]; simp [List.getD, hnl]
  have hR : fixR L.contains t.v l = Trm.mk 8 0 lv (lt ++ [if fv = [] then o else Trm.mk 9 0 fv (ft ++ [o])]) := by
   unfold fixR fixE
   simp only [hgd]
   rw [← ho, ← hlv, ← hfv, ← hft, hlt]
  rw [hR]
  conv => whnf
  repeat' (first|refine aA1 ?_|((intro _);conv=>whnf)|(refine zX (fun hc=>?_) (fun hc=>?_)<;>(try simp only [SY] at hc)<;>(conv=>whnf)))
  ·refine ⟨⟨[], [], [_, _], _, rfl, ?_⟩⟩
   simp only [List.cons_append, List.nil_append]
   conv => whnf
   repeat (refine aR1 ?_)
   rw [if_neg (by intro h; rw [h] at hc; simp at hc)]
   exact PRet.gen (y := .agg (Trm.mk 8 0 lv (lt ++ [Trm.mk 9 0 fv (ft ++ [o])])).cells) (Γ' := cvG b r L k') TrmOf.wk (And.intro rfl rfl)
  ·refine ⟨⟨[], [], [_], _, rfl, ?_⟩⟩
   simp only [List.cons_append, List.nil_append]
   conv => whnf
   repeat (refine aR1 ?_)
   rw [if_pos (List.eq_nil_of_length_eq_zero (by omega))]
   exact PRet.gen (y := .agg (Trm.mk 8 0 lv (lt ++ [o])).cells) (Γ' := cvG b r L k') TrmOf.wk (And.intro rfl rfl)
end Go.Cb
namespace Go.Cb
open Go.Proofs
set_option maxRecDepth 100000
set_option maxHeartbeats 4000000
theorem PRet.frz {t : Tok} {es : List PV} {x y : PV} {Γ Γ1 Γ' Γ2 : List Ent} {Q : PV → List Ent → Prop} [hp : PickE Γ (.row t es) Γ1] (h : WkF t es x y) [hq : PickL (.tok t :: Γ1) Γ' Γ2] (q : Q y Γ') : PRet x Γ Q :=
 ⟨y, Γ', Shift.trans (Shift.freezeRow (hp := hp) h) (Shift.wk (Wk.refl _) hq.p), q⟩
theorem boxAll_len (A : Int → Bool) : ∀ (vs : List Int) (l : List Trm), (boxAll A vs l).length = l.length
 | [], l => by simp [boxAll]
 | _ :: _, [] => by simp [boxAll]
 | v :: vs, x :: l => by rw [boxAll, List.length_cons, List.length_cons, boxAll_len A vs l]
theorem boxAll_get (A : Int → Bool) : ∀ (vs : List Int) (l : List Trm) (i : Nat) (h : i < vs.length) (h2 : i < l.length), (boxAll A vs l)[i]'(by rw [boxAll_len]; exact h2) = if A vs[i] = true then boxT l[i] else l[i]
 | v :: vs, x :: l, 0, _, _ => by simp [boxAll]
 | v :: vs, x :: l, i + 1, h, h2 => by
  simp only [boxAll, List.getElem_cons_succ]
  exact boxAll_get A vs l i (by simpa using h) (by simpa using h2)
theorem boxAll_drop (A : Int → Bool) : ∀ (vs : List Int) (l : List Trm), (boxAll A vs l).drop vs.length = l.drop vs.length
 | [], l => by simp [boxAll]
 | _ :: _, [] => by simp [boxAll]
 | v :: vs, x :: l => by rw [boxAll, List.length_cons, List.drop_succ_cons, List.drop_succ_cons, boxAll_drop A vs l]
theorem mixed_set {l m : List Trm} {i : Nat} (h : m.length = l.length) (hi : i < l.length) (y : Trm) (hy : y = m[i]'(by omega)) : (m.take i ++ l.drop i).set i y = m.take (i + 1) ++ l.drop (i + 1) := by
 have hl : (m.take i).length = i := by rw [List.length_take]; omega
 rw [List.set_append_right _ _ (by omega), hl, Nat.sub_self, drop_at hi, List.set_cons_zero, List.take_succ_eq_append_getElem (by omega), hy, List.append_assoc]
 rfl
theorem drTerm10aa {p q : Prop} (k : q) (h : q → p := by intro hq; first | exact PDraw.sP (some 12) rfl [] [] tt_ok mixed hq | exact PDraw.sP (some 31) rfl [] [8,9,10,11] tt_ok mixed hq | exact PDraw.sP (some 46) rfl [] [8,9,10,11] tt_ok mixed hq | exact PDraw.sP (some 106) rfl [] [11] tt_ok mixed hq) : p := h k
theorem cvOk (b r : Nat) (L : List Int) (t : Trm) : t.shp → t.bulk ≤ 1000000000 → CvOk b r L t := by
 induction t using Trm.ind with
 | h t ih =>
  intro hsp hb k h0 hk
  have hbe := t.bulk_eq
  have hbs := Trm.bulks_length t.t
  rw [Trm.shp_eq] at hsp
  obtain ⟨⟨s1, s2, s3, s4⟩, hps⟩ := hsp
  have hf : ∀ x ∈ t.t, CvOk b r L x := fun x hx => ih x hx (Trm.shps_mem hps x hx) (by have := Trm.bulks_mem hx; omega)
  have hfr := t.fr_eq L.contains
  have one : t.t.length = 1 → ∀ hl : 0 < t.t.length, Trm.cvs L.contains t.t k = [(t.t[0]).cv L.contains k] ∧ Trm.frs L.contains t.t = (t.t[0]).fr L.contains := by
   intro h1 hl
   obtain ⟨x, hx⟩ : ∃ x, t.t = [x] := List.length_eq_one_iff.1 h1
   simp only [hx, Trm.cvs, Trm.frs, List.getElem_cons_zero]
   exact ⟨trivial, by omega⟩
  refine ACall.of_body tt_ok Tryz.func32 rfl rfl (n := 119) rfl rfl ?_
  conv => whnf
  repeat (first|refine aR2 ?_|((intro _);conv=>whnf))
  rename_i b1 b2 b3
  have hcf := containsFuncInt_c 56 [.ptr b1 0] (.box b1 [.ptr b 0] :: cvG b r L k) L.contains t.v (fun x _ => assignedF_c b r b1 L k x)
  conv => whnf
  repeat' (first|refine aA2 ?_|((first|((first|(apply zY;intro hg)|apply zZ);(conv=>whnf);(repeat ((first|refine pC (ref_c _) wR ?_|refine PCall.read (hcf) wR ?_|refine aH ?_);conv=>whnf));exact pZ)|refine pC (made_c 16) wR ?_|refine drTerm10aa ?_|intro _);conv=>whnf)|(refine zX (fun hc=>?_) (fun hc=>?_)<;>(try simp only [SY] at hc)<;>(conv=>whnf)))
  ·have e1 : t.cv L.contains k = Trm.mk 16 0 [] [t] := by rw [t.cv_eq, if_pos hc]
   have e2 : t.fr L.contains = 0 := by rw [hfr, if_neg (by omega), (s1 hc.1).2, Trm.frs]; rfl
   rw [e1, e2, Int.add_zero]
   exact PRet.gen (y := .agg (Trm.mk 16 0 [] [t]).cells) (Γ' := cvG b r L k) (Wk.refl _) (And.intro rfl rfl)
  ·have h1 := s2 (.inl hc)
   have hm : t.t[0]'(by omega) ∈ t.t := List.getElem_mem _
   obtain ⟨o1, o2⟩ := one h1 (by omega)
   refine PCall.go (hf _ hm k h0 (by have := Trm.bulks_mem hm; omega)) (WkT.refl _) ?_
   rintro _ _ ⟨rfl, rfl⟩
   have e1 : t.cv L.contains k = Trm.mk 17 0 [] [refT t.n, (t.t[0]'(by omega)).cv L.contains k] := by rw [t.cv_eq, if_neg (by omega), if_pos hc, o1]
   have e2 : t.fr L.contains = (t.t[0]'(by omega)).fr L.contains := by rw [hfr, if_neg (by omega), o2]; omega
   rw [e1, e2]
   conv => whnf
   repeat' (first|refine aA2 ?_|((first|refine pC (made_c 17) wR ?_|intro _);conv=>whnf)|(refine zX (fun hc=>?_) (fun hc=>?_)<;>(try simp only [SY] at hc)<;>omega))
   exact PRet.gen (y := .agg (Trm.mk 17 0 [] [refT t.n, (t.t[0]'(by omega)).cv L.contains k]).cells) (Γ' := cvG b r L _) (Wk.refl _) (And.intro rfl rfl)
  ·have h1 := s2 (.inr (.inl hc))
   have hm : t.t[0]'(by omega) ∈ t.t := List.getElem_mem _
   obtain ⟨o1, o2⟩ := one h1 (by omega)
   refine PCall.go (hf _ hm k h0 (by have := Trm.bulks_mem hm; omega)) (WkT.refl _) ?_
   rintro _ _ ⟨rfl, rfl⟩
   have e1 : t.cv L.contains k = Trm.mk 18 0 [] [refT t.n, (t.t[0]'(by omega)).cv L.contains k] := by rw [t.cv_eq, if_neg (by omega), if_neg (by omega), if_pos hc, o1]
   have e2 : t.fr L.contains = (t.t[0]'(by omega)).fr L.contains := by rw [hfr, if_neg (by omega), o2]; omega
   rw [e1, e2]
   conv => whnf
   repeat' (first|refine aA2 ?_|((first|refine pC (made_c 18) wR ?_|intro _);conv=>whnf)|(refine zX (fun hc=>?_) (fun hc=>?_)<;>(try simp only [SY] at hc)<;>omega))
   exact PRet.gen (y := .agg (Trm.mk 18 0 [] [refT t.n, (t.t[0]'(by omega)).cv L.contains k]).cells) (Γ' := cvG b r L _) (Wk.refl _) (And.intro rfl rfl)
  ·refine PCall.go (lam_c b r L t hc (s2 (.inr (.inr hc))) hf hb k h0 hk) (WkT.refl _) ?_
   rintro _ _ ⟨rfl, rfl⟩
   conv => whnf
   repeat' (first|refine aA2 ?_|(refine zX (fun hc=>?_) (fun hc=>?_)<;>(try simp only [SY] at hc)<;>omega))
   exact PRet.gen (y := .agg (t.cv L.contains k).cells) (Γ' := cvG b r L _) (Wk.refl _) (And.intro rfl rfl)
  ·refine PCall.go (fix_c b r L t hc.1 hc.2 (s3 (.inr hc.1)) hf hb k h0 hk) (WkT.refl _) ?_
   rintro _ _ ⟨rfl, rfl⟩
   conv => whnf
   repeat' (first|refine aA2 ?_|(refine zX (fun hc=>?_) (fun hc=>?_)<;>(try simp only [SY] at hc)<;>omega))
   exact PRet.gen (y := .agg (t.cv L.contains k).cells) (Γ' := cvG b r L _) (Wk.refl _) (And.intro rfl rfl)
  refine PDraw.sF (some 77) rfl [.box b [.mp r, .int .i64 k], .mp r (.int .i64) (setM L) []] [10,11] [] [12] [13] tt_ok mixed ?_
  conv=>whnf
  repeat (first|refine aR2 ?_|((((apply zZ);(conv=>whnf);(repeat ((refine pC (cloneInt_c t.v (by omega)) wR ?_);conv=>whnf));exact pZ));conv=>whnf))
  have e1 : t.cv L.contains k = Trm.mk t.op t.n t.v (if t.op = 8 then boxAll L.contains t.v (Trm.cvs L.contains t.t k) else Trm.cvs L.contains t.t k) := by
   rw [t.cv_eq, if_neg (by rintro ⟨h1, h2⟩; rcases ‹¬t.op = 1 ∨ L.contains t.n = false› with h | h; exact h h1; rw [h] at h2; cases h2), if_neg (by omega), if_neg (by omega), if_neg (by omega), if_neg (by rintro ⟨h1, h2⟩; rcases hc with h | h; exact h h1; rw [h] at h2; cases h2)]
  have e2 : k + t.fr L.contains = k + Trm.frs L.contains t.t := by rw [hfr, if_neg (by omega)]; omega
  have hcl := Trm.cvs_length L.contains t.t k
  rw [e1, e2]
  refine PCall.go (asgAll_c b r L t.t k hf h0 (by omega) (by omega)) (WkT.refl _) ?_
  rintro _ _ ⟨tk, hte, hts, rfl, rfl⟩
  clear e1 hcf one hfr
  generalize Trm.cvs L.contains t.t k = l at *
  generalize k + Trm.frs L.contains t.t = k' at *
  conv => whnf
  repeat' (first|refine aA2 ?_|((intro _);conv=>whnf)|(refine zX (fun hc=>?_) (fun hc=>?_)<;>(try simp only [SY] at hc)<;>(conv=>whnf)))
  ·have hl8 := s3 (.inl hc)
   rename_i b6 hvl
   rw [if_pos hc]
   generalize hM : boxAll L.contains t.v l = M
   have hMl : M.length = l.length := by rw [← hM, boxAll_len]
   rw [show l.map Trm.pv = (M.take 0 ++ l.drop 0).map Trm.pv by rw [List.take_zero, List.nil_append, List.drop_zero]]
   refine PLoop.over [7, 8, 95, 96, 97, 98, 99, 100, 101, 102, 103, 104, 105, 106, 107, 108, 109, 110, 111, 112, 113, 114, 115, 116, 117] (fun i : Nat => [(95, .int .i64 i)])
    (fun i : Nat => [.box b6 [.int .i64 t.op, .int .i64 t.n, slI t.v, .ms tk], .row tk ((M.take i ++ l.drop i).map Trm.pv), .box b [.mp r, .int .i64 k'], .mp r (.int .i64) (setM L) [], .box b3 [.int .i64 0, .int .i64 0, .nil, .nil], .box b2 [.int .i64 t.op, .int .i64 t.n, .sl 1 (t.v.map (PV.int .i64)) none, .sl 4 (t.t.map Trm.pv) none], .box b1 [.ptr b 0]])
    (fun i => i ≤ t.v.length) (fun i => t.v.length - i) 0 (Nat.zero_le _) wA ?_
   intro i hi
   have hmix : (M.take i ++ l.drop i).length = l.length := by rw [List.length_append, List.length_take, List.length_drop]; omega
   conv => whnf
   repeat' (first|refine aA2 ?_|((first|((apply zZ);(conv=>whnf);(repeat ((refine pC (made_c 15) wR ?_);conv=>whnf));exact pZ)|refine drTerm10aa ?_);conv=>whnf)|(refine zX (fun hc=>?_) (fun hc=>?_)<;>(try simp only [SY] at hc)<;>(conv=>whnf)))
   ·have hiv : i < t.v.length := by omega
    have hil : i < l.length := by omega
    have e3 : (M.take i ++ l.drop i)[i]'(by omega) = l[i] := by
     rw [List.getElem_append_right (by rw [List.length_take]; omega)]
     simp [List.getElem_drop, List.length_take, Nat.min_eq_left (show i ≤ M.length by omega)]
    have e4 : M[i]'(by omega) = Trm.mk 15 0 [] [l[i]] := by
     have := boxAll_get L.contains t.v l i hiv hil
     rw [if_pos hc] at this
     subst hM
     exact this
    rw [e3, mixed_set hMl hil _ e4.symm]
    exact loopTo (i + 1) (by show i + 1 ≤ _; omega) (by show t.v.length - (i + 1) < t.v.length - i; omega) wA
   ·have hiv : i < t.v.length := by omega
    have hil : i < l.length := by omega
    have e4 : M[i]'(by omega) = l[i] := by
     have := boxAll_get L.contains t.v l i hiv hil
     rw [if_neg (by rw [hc]; decide)] at this
     subst hM
     exact this
    have e5 : M.take i ++ l.drop i = M.take (i + 1) ++ l.drop (i + 1) := by
     rw [← mixed_set hMl hil _ e4.symm]
     apply List.ext_getElem (by simp)
     intro j h1 h2
     rw [List.getElem_set]
     split
     ·rename_i hj
      subst hj
      rw [List.getElem_append_right (by rw [List.length_take]; omega)]
      simp [List.getElem_drop, List.length_take, Nat.min_eq_left (show i ≤ M.length by omega)]
     ·rfl
    rw [e5]
    exact loopTo (i + 1) (by show i + 1 ≤ _; omega) (by show t.v.length - (i + 1) < t.v.length - i; omega) wA
   ·have e5 : M.take i ++ l.drop i = M := by
     have : i = t.v.length := by omega
     rw [this, ← boxAll_drop L.contains t.v l, hM, List.take_append_drop]
    rw [e5]
    exact PRet.frz (es := M.map Trm.pv) (y := .agg (Trm.mk t.op t.n t.v M).cells) (Γ' := cvG b r L k') (WkF.agg (.cons (WkF.of (Wk.refl _)) (.cons (WkF.of (Wk.refl _)) (.cons (WkF.of (Wk.refl _)) (.cons (WkF.ms' hts) .nil))))) (And.intro rfl rfl)
  ·rw [if_neg hc]
   exact PRet.frz (es := l.map Trm.pv) (y := .agg (Trm.mk t.op t.n t.v l).cells) (Γ' := cvG b r L k') (WkF.agg (.cons (WkF.of (Wk.refl _)) (.cons (WkF.of (Wk.refl _)) (.cons (WkF.of (Wk.refl _)) (.cons (WkF.ms' hts) .nil))))) (And.intro rfl rfl)
end Go.Cb
namespace Go.Cb
open Go.Proofs
set_option maxRecDepth 100000
set_option maxHeartbeats 4000000
theorem Wk.rowTok {s : Nat} {es fs : List PV} {tk : Option Tok} (h : WkR es fs) : Wk (.sl s es tk) (.sl s fs none) := Wk.trans (Wk.tok _ _ _) (Wk.row h)
end Go.Cb
namespace Go.Cb
open Go.Proofs
set_option maxRecDepth 100000
set_option maxHeartbeats 4000000
theorem RightP.binds {p : Prog} {level : Int} (h : RightP p level) : (riseL (bindsOf p.body.all)).length = p.body.vars.length := by
 have h1 := p.body.met_all [] 0 (by have := p.body.okT_deep h.2.2.1; omega)
 have h2 : bindsOf p.body.all = p.body.vars := h1.2
 rw [h2]
 exact rise_len h.2.2.2.2.2
end Go.Cb
namespace Go.Cb
open Go.Proofs
set_option maxRecDepth 100000
set_option maxHeartbeats 4000000
theorem bndL_mem (t : Trm) (x : Int) : x ∈ bndL t ↔ x ∈ t.vars := by unfold bndL; exact mem_rise _ _
theorem RightP.fits {p : Prog} {level : Int} (h : RightP p level) : p.body.shp ∧ p.body.dep ≤ 400 ∧ (∀ x ∈ p.body.vars, 0 ≤ x ∧ x ≤ 1000000) := by
 have h1 := p.body.okT_deep h.2.2.1
 exact ⟨p.body.okT_shp h.2.2.1, by omega, fun x hx => ⟨(h.2.2.2.2.1 x hx).1, (h.2.2.2.2.1 x hx).2.1⟩⟩
theorem bndL_len' (t : Trm) (h : t.dep < 1000) : (bndL t).length ≤ t.bulk := by
 have := (t.bD_spec 0 [] List.Pairwise.nil).2.1
 rw [t.bD_rise h] at this
 simpa using this
theorem noP_wk : Wk (.agg [.nil, .int .i64 0, .int .i64 0, .nil, .nil]) (.agg noP.cells) := Wk.agg (.cons (Wk.nil' rfl) (.cons (Wk.refl _) (.cons (Wk.refl _) (.cons (Wk.nil' rfl) (.cons (Wk.nil' rfl) .nil)))))
theorem conv_c (p : Prog) (hb : p.body.bulk ≤ 100000000) (hl : p.consts.length ≤ 1000000000) :
  ACallP Tryz.prog 16 [.agg p.cells] (.tup [.agg (conv10 p).1.cells, .int .i64 (conv10 p).2]) := by
 have he := check_eq p 1
 have hR : checkP p 1 = 0 → RightP p 1 := fun h => (checkD_right p 1).1 (by rw [← he]; exact h)
 refine ACall.of_body tt_ok Tryz.func16 rfl rfl (n := 47) rfl rfl ?_
 conv => whnf
 repeat' (first|refine aA2 ?_|((first|refine pC (checkp_c p 1 (by omega) (by omega)) wR ?_|intro _);conv=>whnf)|(refine zX (fun hc=>?_) (fun hc=>?_)<;>(try simp only [SY] at hc)<;>(conv=>whnf)))
 ·rename_i hc
  exact PRet.pure (Wk.tup (.cons (by rw [conv10, if_neg hc]; exact noP_wk) (.cons (by rw [conv10, if_neg hc]; exact Wk.refl _) .nil)))
 ·rename_i b1 b2 r bc
  obtain ⟨hshp, hdep, hvr⟩ := (hR hc).fits
  have hrise := p.body.binds_rise (by omega)
  have hbl := bndL_len' p.body (by omega)
  have hcn : conv10 p = if checkP ⟨p.consts, p.body.cv (asgB p.body) (nextT p.body)⟩ 2 = 0 then (⟨p.consts, p.body.cv (asgB p.body) (nextT p.body)⟩, 0) else (noP, 5) := by rw [conv10, if_pos hc]; rfl
  have hcb : (p.body.cv (asgB p.body) (nextT p.body)).bulk ≤ 1000000000 := by have := p.body.cv_bulk (asgB p.body) (nextT p.body); omega
  rw [setM_nil]
  refine PCall.go (note_c bc r 0 p.body [] (by omega)) (WkT.refl _) ?_
  rintro _ _ ⟨rfl, L', hL', rfl⟩
  have hcv : p.body.cv L'.contains (nextT p.body) = p.body.cv (asgB p.body) (nextT p.body) := Trm.cv_congr _ _ fun v _ => by
   rw [Bool.eq_iff_iff]; simp [asgB, hL']
  have hn0 : 0 ≤ nextT p.body ∧ nextT p.body ≤ 1000001 := by
   unfold nextT
   split
   ·omega
   ·rename_i h0
    have hlt : (bndL p.body).length - 1 < (bndL p.body).length := by have := List.length_pos_iff.2 h0; omega
    have e : (bndL p.body).getD ((bndL p.body).length - 1) 0 = (bndL p.body)[(bndL p.body).length - 1] := by simp [List.getD, hlt]
    have := hvr _ ((bndL_mem _ _).1 (List.getElem_mem hlt))
    rw [e]
    omega
  obtain ⟨hn0, hn1⟩ := hn0
  have hbc := binds_c p.body (by omega)
  rw [hrise] at hbc
  have hcl := cloneDat_c p.consts hl
  conv => whnf
  repeat' (first|refine aA2 ?_|((first|refine pC (hbc) wR ?_|intro _);conv=>whnf)|(refine zX (fun hc=>?_) (fun hc=>?_)<;>(try simp only [SY] at hc)<;>(conv=>whnf)))
  ·have hlt : (bndL p.body).length - 1 < (bndL p.body).length := by omega
   have e : (bndL p.body).getD ((bndL p.body).length - 1) 0 = (bndL p.body)[(bndL p.body).length - 1] := by simp [List.getD, hlt]
   have h1 := hvr _ ((bndL_mem _ _).1 (List.getElem_mem hlt))
   have hn : nextT p.body = (bndL p.body)[(bndL p.body).length - 1] + 1 := by
    unfold nextT
    rw [if_neg (by intro h; rw [h] at hlt; simp at hlt), e]
   refine PInt.ok (by omega) (by omega) ?_
   rw [← hn]
   conv => whnf
   repeat' (first|refine aA2 ?_|(refine zX (fun hc=>?_) (fun hc=>?_)<;>(try simp only [SY] at hc)<;>omega))
   refine PDraw.sF (some 34) rfl [.box bc [.mp r, .int .i64 (nextT p.body)], .mp r (.int .i64) (setM L') []] [6,7] [] [8] [9] tt_ok mixed ?_
   conv=>whnf
   repeat (first|refine aR2 ?_|((((apply zZ);(conv=>whnf);(repeat ((refine pC (hcl) wR ?_);conv=>whnf));exact pZ));conv=>whnf))
   refine PCall.go (cvOk bc r L' p.body hshp (by omega) (nextT p.body) hn0 (by omega)) (WkT.refl _) ?_
   rintro _ _ ⟨rfl, rfl⟩
   rw [hcv]
   have hck := checkp_c ⟨p.consts, p.body.cv (asgB p.body) (nextT p.body)⟩ 2 hcb hl
   conv => whnf
   repeat' (first|refine aA2 ?_|((first|refine pC (hck) wR ?_|intro _);conv=>whnf)|(refine zX (fun hc=>?_) (fun hc=>?_)<;>(try simp only [SY] at hc)<;>(conv=>whnf)))
   ·exact PRet.pure (Wk.tup (.cons (by rw [hcn, if_neg hc]; exact noP_wk) (.cons (by rw [hcn, if_neg hc]; exact Wk.refl _) .nil)))
   ·exact PRet.pure (Wk.tup (.cons (by rw [hcn, if_pos hc]; exact Wk.refl _) (.cons (by rw [hcn, if_pos hc]; exact Wk.refl _) .nil)))
  ·have hn : nextT p.body = 0 := by
    unfold nextT
    rw [if_pos (List.eq_nil_of_length_eq_zero (by omega))]
   rw [show PV.int .i64 0 = PV.int .i64 (nextT p.body) by rw [hn]]
   refine PDraw.sF (some 34) rfl [.box bc [.mp r, .int .i64 (nextT p.body)], .mp r (.int .i64) (setM L') []] [6,7] [] [8] [9] tt_ok mixed ?_
   conv=>whnf
   repeat (first|refine aR2 ?_|((((apply zZ);(conv=>whnf);(repeat ((refine pC (hcl) wR ?_);conv=>whnf));exact pZ));conv=>whnf))
   refine PCall.go (cvOk bc r L' p.body hshp (by omega) (nextT p.body) hn0 (by omega)) (WkT.refl _) ?_
   rintro _ _ ⟨rfl, rfl⟩
   rw [hcv]
   have hck := checkp_c ⟨p.consts, p.body.cv (asgB p.body) (nextT p.body)⟩ 2 hcb hl
   conv => whnf
   repeat' (first|refine aA2 ?_|((first|refine pC (hck) wR ?_|intro _);conv=>whnf)|(refine zX (fun hc=>?_) (fun hc=>?_)<;>(try simp only [SY] at hc)<;>(conv=>whnf)))
   ·exact PRet.pure (Wk.tup (.cons (by rw [hcn, if_neg hc]; exact noP_wk) (.cons (by rw [hcn, if_neg hc]; exact Wk.refl _) .nil)))
   ·exact PRet.pure (Wk.tup (.cons (by rw [hcn, if_pos hc]; exact Wk.refl _) (.cons (by rw [hcn, if_pos hc]; exact Wk.refl _) .nil)))
end Go.Cb
namespace Go.Cb
open Go.Proofs
set_option maxRecDepth 100000
set_option maxHeartbeats 4000000
def tenP : Prog := ⟨[.mk 0 1 1 [] []], .mk 4 0 [0] [.mk 2 0 [] [.mk 0 0 [] []]]⟩
def tenQ : Prog := ⟨[.mk 0 1 1 [] []], .mk 4 0 [1] [.mk 8 0 [0] [.mk 15 0 [] [.mk 1 1 [] []], .mk 17 0 [] [.mk 1 0 [] [], .mk 0 0 [] []]]]⟩
theorem ten_next : nextT tenP.body = 1 := by
 unfold nextT
 rw [← Trm.bD_rise _ (by decide)]
 rfl
theorem ten_cv : cvP tenP = tenQ := by
 unfold cvP
 rw [ten_next]
 rfl
theorem ten_conv : conv10 tenP = (tenQ, 0) := by
 rw [conv10, if_pos (by decide), ten_cv, if_pos (by decide)]
theorem conv10_ok {p : Prog} (h : (conv10 p).2 = 0) : RightP p 1 ∧ RightP (cvP p) 2 ∧ conv10 p = (cvP p, 0) := by
 unfold conv10 at h ⊢
 split at h
 ·rename_i h1
  split at h
  ·rename_i h2
   rw [if_pos h1, if_pos h2]
   exact ⟨(checkD_right p 1).1 (by rw [← check_eq]; exact h1), (checkD_right (cvP p) 2).1 (by rw [← check_eq]; exact h2), rfl⟩
  ·cases h
 ·cases h
theorem ten_c (t1 t2 t3 t4 : Tok) : ACallP Tryz.prog 16 [.agg [.sl 5 [.agg [.int .i64 0, .int .i64 1, .int .i64 1, .str [], .nil]] (some t1), .int .i64 4, .int .i64 0, .sl 1 [.int .i64 0] (some t2), .sl 4 [.agg [.int .i64 2, .int .i64 0, .nil, .sl 4 [.agg [.int .i64 0, .int .i64 0, .nil, .nil]] (some t3)]] (some t4)]] (.tup [.agg tenQ.cells, .int .i64 0]) := by
 have h := conv_c tenP (by decide) (by decide)
 rw [ten_conv] at h
 refine ACall.wk h (.cons (Wk.agg (.cons (Wk.rowTok ?_) (.cons (Wk.refl _) (.cons (Wk.refl _) (.cons (Wk.tok _ _ _) (.cons (Wk.rowTok ?_) .nil)))))) .nil)
 ·exact .cons (.cons (Wk.refl _) (.cons (Wk.refl _) (.cons (Wk.refl _) (.cons (Wk.refl _) (.cons (Wk.nil' rfl) .nil))))) .nil
 ·refine .cons (.cons (Wk.refl _) (.cons (Wk.refl _) (.cons (Wk.nil' rfl) (.cons (Wk.rowTok ?_) .nil)))) .nil
  exact .cons (.cons (Wk.refl _) (.cons (Wk.refl _) (.cons (Wk.nil' rfl) (.cons (Wk.nil' rfl) .nil)))) .nil
theorem awake10_c : ACallP Tryz.prog 13 [] (.bool true) := by
 refine ACall.of_body tt_ok Tryz.func13 rfl rfl (n := 57) rfl rfl ?_
 conv => whnf
 repeat' (first|refine aA1 ?_|((first|refine pC (ten_c _ _ _ _) wR ?_|intro _);conv=>whnf)|(refine zX (fun hc=>?_) (fun hc=>?_)<;>(try simp only [SY] at hc)<;>omega))
 exact PRet.pure (Wk.bool rfl)
theorem few10_c (t : Trm) (n : Int) (h0 : 0 ≤ n) (h1 : n ≤ 1000000000) : ACallP Tryz.prog 14 [.agg t.cells, .int .i64 n] (.bool (decide (0 ≤ t.few n))) := by
 refine ACall.of_body tt_ok Tryz.func14 rfl rfl (n := 8) rfl rfl ?_
 conv => whnf
 repeat' (first|refine aA1 ?_|((first|refine pC (FewTrm_c t n h0 h1) wR ?_|intro _);conv=>whnf)|(refine zX (fun hc=>?_) (fun hc=>?_)<;>(try simp only [SY] at hc)<;>omega))
 exact PRet.pure (Wk.refl _)
end Go.Cb
namespace Go.Cb
open Go.Proofs
set_option maxRecDepth 100000
set_option maxHeartbeats 4000000
theorem Trm.vars_len (t : Trm) : t.vars.length ≤ t.bulk := by
 induction t using Trm.ind with
 | h t ih =>
  have key : ∀ l : List Trm, (∀ x ∈ l, x.vars.length ≤ x.bulk) → (Trm.varss l).length ≤ Trm.bulks l := by
   intro l
   induction l with
   | nil => intro _; rw [Trm.varss]; exact Nat.zero_le _
   | cons x l ihl =>
    intro h
    rw [Trm.varss, Trm.bulks, List.length_append]
    have := h x (List.mem_cons_self ..)
    have := ihl fun y hy => h y (List.mem_cons_of_mem _ hy)
    omega
  have := key t.t ih
  rw [Trm.vars_eq, Trm.bulk_eq, List.length_append]
  omega
theorem nextT_lt (t : Trm) : ∀ v ∈ t.vars, v < nextT t := fun v hv => by
 have hs : (bndL t).Pairwise (· < ·) := rise_lt _
 have hm := (bndL_mem t v).2 hv
 unfold nextT
 by_cases h0 : bndL t = []
 ·rw [h0] at hm; cases hm
 ·rw [if_neg h0]
  obtain ⟨i, hi, rfl⟩ := List.mem_iff_getElem.1 hm
  have hlt : (bndL t).length - 1 < (bndL t).length := by omega
  rw [getD_at hlt]
  by_cases hie : i = (bndL t).length - 1
  ·subst hie; omega
  ·have := List.pairwise_iff_getElem.1 hs i ((bndL t).length - 1) hi hlt (by omega)
   omega
theorem bitsN (a : Int) : 0 ≤ bitsOf .and .i64 a 1023 ∧ bitsOf .and .i64 a 1023 ≤ 1023 := by
 have e : ∀ v : Nat, v ≤ 1023 → IntKind.wrap .i64 (v : Int) = v := fun v hv => by
  simp [IntKind.wrap, IntKind.bits, IntKind.signed]; omega
 have h : (BitVec.ofInt IntKind.i64.bits a &&& BitVec.ofInt IntKind.i64.bits 1023).toNat ≤ 1023 := by
  rw [BitVec.toNat_and]
  exact Nat.le_trans Nat.and_le_right (by decide)
 unfold bitsOf
 simp only
 rw [e _ h]
 omega
theorem conv10_err (p : Prog) (h : ¬(conv10 p).2 = 0) : (conv10 p).2 = 5 := by
 unfold conv10 at h ⊢
 split
 ·split
  ·rename_i h1 h2
   rw [if_pos h1, if_pos h2] at h
   exact absurd rfl h
  ·rfl
 ·rfl
theorem assignMeans_c (p : Prog) (z : Int) (hbb : Datum.bulks p.consts + p.body.bulk ≤ 1048576) : ACallP Tryz.prog 4 [.agg p.cells, .int .i64 z] (.bool true) := by
 have hlen := Datum.bulks_length p.consts
 refine ACall.of_body tt_ok Tryz.func4 rfl rfl (n := 45) rfl rfl ?_
 conv => whnf
 repeat' (first|refine aA2 ?_|((first|(((apply zY;intro hg));(conv=>whnf);(repeat ((first|refine pC (FewAll_c p.consts 2000 (by omega) (by omega)) wR ?_|refine aH ?_);conv=>whnf));exact pZ)|refine pC (awake10_c) wR ?_|refine pC (few10_c p.body 300 (by omega) (by omega)) wR ?_|refine pC (conv_c p (by omega) (by omega)) wR ?_|intro _);conv=>whnf)|(refine zX (fun hc=>?_) (fun hc=>?_)<;>(try simp only [SY] at hc)<;>(conv=>whnf)))
 ·exact PRet.pure (Wk.refl _)
 ·rename_i hc
  exact PRet.pure (Wk.bool (by rw [conv10_err p hc]; rfl))
 ·rename_i hf b2
  obtain ⟨hR1, hR2, hcv⟩ := conv10_ok hc
  have hsz := Datum.fews_szN p.consts 2000 hf.2
  have hvl := p.body.vars_len
  have hcb := p.body.cv_bulk (asgB p.body) (nextT p.body)
  have hvl2 := (p.body.cv (asgB p.body) (nextT p.body)).vars_len
  have hb := bitsN z
  have hF1 : Fit p 1 := ⟨hR1, by omega, by omega, by omega⟩
  have hF2 : Fit (cvP p) 2 := ⟨hR2, by show Datum.bulks p.consts ≤ _; omega, by show Datum.szs p.consts ≤ _; omega, by show (p.body.cv (asgB p.body) (nextT p.body)).vars.length ≤ _; omega⟩
  have hck := check2_c (conv10 p).1 2 (by rw [hcv]; show (p.body.cv (asgB p.body) (nextT p.body)).bulk ≤ _; omega) (by rw [hcv]; show p.consts.length ≤ _; omega)
  rw [show checkD (conv10 p).1 2 = 0 by rw [hcv]; exact (checkD_right _ _).2 hR2] at hck
  have hmn : ACallP Tryz.prog 12 [.agg p.cells, .agg (conv10 p).1.cells, .int .i64 (bitsOf .and .i64 z 1023)] (.bool true) := by
   rw [hcv]
   exact (means_c p (cvP p) 1 2 hF1 hF2 _ hb (fun x c s' x' c' t' h1 h2 n1 n2 => assign_sim p hR1 (nextT p.body) (nextT_lt p.body) h1 h2 n1 n2)).mono fun y Γ' h => h.1
  conv => whnf
  repeat' (first|refine aA2 ?_|(((((apply zY;intro hg));(conv=>whnf);(repeat ((first|refine pC (hck) wR ?_|refine pC (hmn) wR ?_|refine aH ?_);conv=>whnf));exact pZ));conv=>whnf)|(refine zX (fun hc=>?_) (fun hc=>?_)<;>(try simp only [SY] at hc)<;>omega))
  all_goals exact PRet.pure (Wk.bool rfl)
end Go.Cb

