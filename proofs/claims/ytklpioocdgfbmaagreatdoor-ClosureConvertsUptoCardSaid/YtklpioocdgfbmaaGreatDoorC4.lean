/-
 Contracts: the document's check of terms.
 Contracts: the program's check of terms, the small functions.
 Contracts: the program's check of terms: variables are bound.
 Contracts: package slices with functions that change what they hold.
 Contracts: the program's check of terms: what is done at the end.
 Drawn regions in two stages: stable operations, a chain, stable operations, a chain.
 Contracts: the program's check of terms: whether a term is right.
 Contracts: the document's check of terms, the rest of it.
 Contracts: the document's check of terms, within a scope.
 Contracts: the document's check of programs.
 Plain law: the program's check of a term and the document's answer alike.
 Plain law: the program's data and the document's are right alike.
 Contracts: the program's check of programs.
 Plain law: the program's check of programs and the document's answer alike.
 Modules: the check of their codes, and that both answers are alike.
 Plain law: what a check says of a program, and how it leans on the number of constants.
 Contracts: package slices: Grow, Concat, Index, Contains, of numbers.
 Calls among entries that end in entries unknown.
 Contracts: all terms of a term, one by one.
 Contracts: how many terms.
-/
import Derived.Test.YtklpioocdgfbmaaGreatDoorC3
set_option linter.unusedSimpArgs false
set_option linter.unusedVariables false
namespace Go.Cb
open Go.Proofs
set_option maxRecDepth 100000
set_option maxHeartbeats 4000000
def sortsL (op level : Int) : Bool :=
 if op = 0 ∨ op = 1 ∨ op = 3 ∨ op = 5 ∨ op = 6 ∨ op = 11 then true else
 if op = 2 then decide (level ≤ 1) else
 if op = 4 then decide (level ≤ 2) else
 if op = 7 then level == 0 else
 if op = 8 ∨ op = 9 ∨ op = 12 ∨ op = 13 then decide (level ≥ 1) else
 if op = 14 then level == 1 else
 if op = 10 ∨ op = 15 ∨ op = 16 ∨ op = 17 ∨ op = 18 then decide (level ≥ 2) else
 if op = 19 ∨ op = 20 ∨ op = 21 ∨ op = 22 then level == 3 else false
theorem sorts_c (op level : Int) : ACallP Tryz.prog 157 [.int .i64 op, .int .i64 level] (.bool (sortsL op level)) := by
 have hs : sortsL op level = sortsL op level := rfl
 conv at hs => rhs; unfold sortsL
 refine ACall.of_body tt_ok Tryz.func157 rfl rfl (n := 51) rfl rfl ?_
 conv => whnf
 repeat' (first|((first|((first|(apply zY;intro hg)|apply zZ);first|exact stA)|(refine zW ?_ ?_;exact gA)|refine zH rfl ?_|refine zA ?_|refine zI bA ?_|refine zI rfl ?_|refine sB ?_|(refine zO ?_ ?_ ?_;omega;omega)|(refine zP ?_ ?_ ?_;omega;omega)|refine zM rfl ?_|(refine zQ ?_ ?_ ?_;omega;omega)|(refine zR ?_ ?_;omega)|(refine zI ?_ ?_;exact nA)|refine sS ?_|refine sD ?_|intro _|refine zG ?_);conv=>whnf)|(refine zX (fun hc => ?_) (fun hc => ?_)<;>(try simp only [SY] at hc)<;>first|omega|(conv=>whnf)))
 all_goals repeat (first|rw [if_neg (by omega)] at hs|rw [if_pos (by omega)] at hs)
 all_goals rw [hs]
 all_goals first | exact PRet.pure (Wk.refl _) | exact PRet.pure (Wk.tt rfl) | exact PRet.pure (Wk.ff rfl)
def bindsB (op : Int) : Bool := op == 4 || op == 7 || op == 8 || op == 9
def countsL (t : Trm) : Bool :=
 if (!bindsB t.op && decide ((t.v.length : Int) > 0)) = true then false else
 if t.op = 0 ∨ t.op = 1 ∨ t.op = 11 ∨ t.op = 13 ∨ t.op = 20 ∨ t.op = 21 then (t.t.length : Int) == 0 else
 if t.op = 2 ∨ t.op = 14 ∨ t.op = 4 ∨ t.op = 12 ∨ t.op = 15 ∨ t.op = 16 then (t.t.length : Int) == 1 else
 if t.op = 3 then (t.t.length : Int) == 3 else
 if t.op = 17 ∨ t.op = 18 then (t.t.length : Int) == 2 else
 if t.op = 5 ∨ t.op = 6 ∨ t.op = 22 then decide ((t.t.length : Int) ≥ 1) else
 if t.op = 7 ∨ t.op = 8 ∨ t.op = 9 then (t.t.length : Int) == (t.v.length : Int) + 1 else true
theorem counts_c (t : Trm) (hv : t.v.length ≤ 1000000000) : ACallP Tryz.prog 158 [.agg t.cells] (.bool (countsL t)) := by
 have hs : countsL t = countsL t := rfl
 conv at hs => rhs; unfold countsL; simp only [bindsB, SS]
 refine ACall.of_body tt_ok Tryz.func158 rfl rfl (n := 79) rfl rfl ?_
 conv => whnf
 repeat' (first|((first|((first|(apply zY;intro hg)|apply zZ);first|exact stA)|(refine zW ?_ ?_;exact gA)|refine zH rfl ?_|refine zA ?_|refine zI bA ?_|refine zI rfl ?_|refine sB ?_|(refine zO ?_ ?_ ?_;omega;omega)|(refine zP ?_ ?_ ?_;omega;omega)|refine zM rfl ?_|(refine zQ ?_ ?_ ?_;omega;omega)|(refine zR ?_ ?_;omega)|(refine zI ?_ ?_;exact nA)|refine sS ?_|refine sD ?_|intro _|refine zG ?_);conv=>whnf)|(refine zX (fun hc => ?_) (fun hc => ?_)<;>(try simp only [SY] at hc)<;>first|omega|(conv=>whnf)))
 all_goals repeat (first|rw [if_neg (by omega)] at hs|rw [if_pos (by omega)] at hs)
 all_goals rw [hs]
 all_goals first | exact PRet.pure (Wk.refl _) | exact PRet.pure (Wk.tt rfl) | exact PRet.pure (Wk.ff rfl)
theorem has_c (l : List Int) (v : Int) : ACallP Tryz.prog 162 [.sl 1 (l.map (PV.int .i64)) none, .int .i64 v] (.bool (l.contains v)) := by
 refine ACall.of_body tt_ok Tryz.func162 rfl rfl (n := 18) rfl rfl ?_
 conv => whnf
 repeat ((first|((first|(apply zY;intro hg)|apply zZ);first|exact stA)|(refine zW ?_ ?_;exact gA)|refine zH rfl ?_|refine zA ?_|refine zI bA ?_|refine zI rfl ?_|refine sB ?_|(refine zO ?_ ?_ ?_;omega;omega)|(refine zP ?_ ?_ ?_;omega;omega)|refine zM rfl ?_|(refine zQ ?_ ?_ ?_;omega;omega)|(refine zR ?_ ?_;omega)|(refine zI ?_ ?_;exact nA)|refine sS ?_|refine sD ?_|intro _);conv=>whnf)
 refine PLoop.keep [4, 5, 6, 7, 8, 9, 10, 11, 12, 13, 14, 15, 16, 17] (fun i : Nat => [(5, .int .i64 i)]) (fun i => i ≤ l.length ∧ (l.drop i).contains v = l.contains v) (fun i => l.length - i) 0 ⟨by omega, rfl⟩ wA ?_
 rintro i ⟨h1, h2⟩
 conv => whnf
 repeat' (first|((first|((first|(apply zY;intro hg)|apply zZ);first|exact stA)|(refine zW ?_ ?_;exact gA)|refine zH rfl ?_|refine zA ?_|refine zI bA ?_|refine zI rfl ?_|refine sB ?_|(refine zO ?_ ?_ ?_;omega;omega)|(refine zP ?_ ?_ ?_;omega;omega)|refine zM rfl ?_|(refine zQ ?_ ?_ ?_;omega;omega)|(refine zR ?_ ?_;omega)|(refine zI ?_ ?_;exact nA)|refine sS ?_|refine sD ?_|intro _|refine zG ?_);conv=>whnf)|(refine zX (fun hc => ?_) (fun hc => ?_)<;>(try simp only [SY] at hc)<;>first|omega|(conv=>whnf)))
 ·rw [drop_at (show i < l.length by omega), List.contains_cons, show (v == l[i]) = true by simp [hc]] at h2
  exact PRet.pure (Wk.tt (by rw [← h2]; rfl))
 ·rw [drop_at (show i < l.length by omega), List.contains_cons, show (v == l[i]) = false by simp; exact fun e => hc e.symm] at h2
  exact loopTo (i + 1) ⟨by omega, by simpa using h2⟩ (by show l.length - (i + 1) < l.length - i; omega) wA
 ·rw [List.drop_of_length_le (by omega)] at h2
  exact PRet.pure (Wk.ff (by rw [← h2]; rfl))
theorem right2D_c (d : Datum) : ACallP Tryz.prog 121 [.agg d.cells] (.bool (d.rightD 0)) := by
 refine ACall.of_body tt_ok Tryz.func121 rfl rfl (n := 5) rfl rfl ?_
 conv => whnf
 repeat ((first|((first|(apply zY;intro hg)|apply zZ);first|exact stA|((conv=>whnf);(repeat ((first|(refine zW ?_ ?_;exact gA)|refine pC (right2_c d 0 (by omega) (by omega)) wR ?_|refine pC (right2_c d 0 (by omega) (by omega)) cA ?_|intro _);conv=>whnf));first|exact pS|exact pL|exact pE))|(refine zW ?_ ?_;exact gA)|refine zH rfl ?_|refine zA ?_|refine zI bA ?_|refine zI rfl ?_|refine sB ?_|(refine zO ?_ ?_ ?_;omega;omega)|(refine zP ?_ ?_ ?_;omega;omega)|refine zM rfl ?_|(refine zQ ?_ ?_ ?_;omega;omega)|(refine zR ?_ ?_;omega)|(refine zI ?_ ?_;exact nA)|refine sS ?_|refine pC (right2_c d 0 (by omega) (by omega)) wR ?_|refine pC (right2_c d 0 (by omega) (by omega)) cA ?_|refine sD ?_|intro _);conv=>whnf)
 exact PRet.pure (Wk.refl _)
theorem constants2_c (l : List Datum) : ACallP Tryz.prog 89 [.sl 5 (l.map Datum.pv) none] (.bool (l.all fun d => d.rightD 0)) := by
 refine ACall.of_body tt_ok Tryz.func89 rfl rfl (n := 16) rfl rfl ?_
 conv => whnf
 repeat ((first|((first|(apply zY;intro hg)|apply zZ);first|exact stA|((conv=>whnf);(repeat ((first|(refine zW ?_ ?_;exact gA)|refine pC (right2D_c _) wR ?_|refine pC (right2D_c _) cA ?_|intro _);conv=>whnf));first|exact pS|exact pL|exact pE))|(refine zW ?_ ?_;exact gA)|refine zH rfl ?_|refine zA ?_|refine zI bA ?_|refine zI rfl ?_|refine sB ?_|(refine zO ?_ ?_ ?_;omega;omega)|(refine zP ?_ ?_ ?_;omega;omega)|refine zM rfl ?_|(refine zQ ?_ ?_ ?_;omega;omega)|(refine zR ?_ ?_;omega)|(refine zI ?_ ?_;exact nA)|refine sS ?_|refine pC (right2D_c _) wR ?_|refine pC (right2D_c _) cA ?_|refine sD ?_|intro _);conv=>whnf)
 refine PLoop.keep [2, 3, 4, 5, 6, 7, 8, 9, 10, 11, 12, 13, 14, 15] (fun i : Nat => [(3, .int .i64 i)]) (fun i => i ≤ l.length ∧ (l.drop i).all (fun d => d.rightD 0) = l.all fun d => d.rightD 0) (fun i => l.length - i) 0 ⟨by omega, rfl⟩ wA ?_
 rintro i ⟨h1, h2⟩
 conv => whnf
 repeat' (first|((first|((first|(apply zY;intro hg)|apply zZ);first|exact stA|((conv=>whnf);(repeat ((first|(refine zW ?_ ?_;exact gA)|refine pC (right2D_c _) wR ?_|refine pC (right2D_c _) cA ?_|intro _);conv=>whnf));first|exact pS|exact pL|exact pE))|(refine zW ?_ ?_;exact gA)|refine zH rfl ?_|refine zA ?_|refine zI bA ?_|refine zI rfl ?_|refine sB ?_|(refine zO ?_ ?_ ?_;omega;omega)|(refine zP ?_ ?_ ?_;omega;omega)|refine zM rfl ?_|(refine zQ ?_ ?_ ?_;omega;omega)|(refine zR ?_ ?_;omega)|(refine zI ?_ ?_;exact nA)|refine sS ?_|refine pC (right2D_c _) wR ?_|refine pC (right2D_c _) cA ?_|refine sD ?_|intro _|refine zG ?_);conv=>whnf)|(refine zX (fun hc => ?_) (fun hc => ?_)<;>(try simp only [SY] at hc)<;>first|omega|(conv=>whnf)))
 ·rw [drop_at (show i < l.length by omega), List.all_cons, hc] at h2
  exact PRet.pure (Wk.ff (by rw [← h2]; rfl))
 ·rw [drop_at (show i < l.length by omega), List.all_cons, hc] at h2
  exact loopTo (i + 1) ⟨by omega, by simpa using h2⟩ (by show l.length - (i + 1) < l.length - i; omega) wA
 ·rw [List.drop_of_length_le (by omega)] at h2
  exact PRet.pure (Wk.tt (by rw [← h2]; rfl))
def vOk (bound : List Int) (v : Int) : Bool := !(decide (v < 0) || decide (v > 1000000) || bound.contains v)
def bindR : List Int → List Int → Bool × List Int
 | [], bound => (true, bound)
 | v :: l, bound => if vOk bound v then bindR l (bound ++ [v]) else (false, bound ++ [v])
theorem bind2_c (b : Nat) (level consts codes size : Int) (free : Bool) (l bound : List Int) (t : Tok) (ht : t.e = 3) (hl : l.length + bound.length ≤ 1000000000) :
  ACall Tryz.prog 98 [.ptr b 0, .sl 1 (l.map (PV.int .i64)) none] [.box b [.int .i64 level, .int .i64 consts, .int .i64 codes, .bool free, .int .i64 size, .sl 1 (bound.map (PV.int .i64)) (some t), .bool true], .tok t]
  (fun y Γ' => y = .tup [] ∧ ∃ t' : Tok, t'.e = 3 ∧ Γ' = [.box b [.int .i64 level, .int .i64 consts, .int .i64 codes, .bool free, .int .i64 size, .sl 1 ((bindR l bound).2.map (PV.int .i64)) (some t'), .bool (bindR l bound).1], .tok t']) := by
 refine ACall.of_body tt_ok Tryz.func98 rfl rfl (n := 56) rfl rfl ?_
 conv => whnf
 repeat ((first|((first|(apply zY;intro hg)|apply zZ);first|exact stA|((conv=>whnf);(repeat ((first|(refine zW ?_ ?_;exact gA)|refine pC (right2D_c _) wR ?_|refine pC (right2D_c _) cA ?_|intro _);conv=>whnf));first|exact pS|exact pL|exact pE))|(refine zW ?_ ?_;exact gA)|refine zH rfl ?_|refine zA ?_|refine zI bA ?_|refine zI rfl ?_|refine sB ?_|(refine zO ?_ ?_ ?_;omega;omega)|(refine zP ?_ ?_ ?_;omega;omega)|refine zM rfl ?_|(refine zQ ?_ ?_ ?_;omega;omega)|(refine zR ?_ ?_;omega)|(refine zI ?_ ?_;exact nA)|refine sS ?_|refine pC (right2D_c _) wR ?_|refine pC (right2D_c _) cA ?_|refine sD ?_|refine PDraw.sP (some 17) rfl [] [] tt_ok mixed ?_|intro _);conv=>whnf)
 refine PLoop.over [4, 5, 6, 7, 8, 9, 10, 11, 12, 13, 14, 15, 16, 17, 18, 19, 20, 21, 22, 23, 24, 25, 26, 27, 28, 29, 30, 31, 32, 33, 34, 35, 36, 37, 38, 39, 40, 41, 42, 43, 44, 45, 46, 47, 48, 49, 50, 51, 52, 53, 54, 55] (fun | ((i, bd, ok, t1) : Nat × List Int × Bool × Tok) => [(4, .int .i64 i)]) (fun x => [.box b [.int .i64 level, .int .i64 consts, .int .i64 codes, .bool free, .int .i64 size, .sl 1 (x.2.1.map (PV.int .i64)) (some x.2.2.2), .bool x.2.2.1], .tok x.2.2.2])
  (fun | (i, bd, ok, t1) => i ≤ l.length ∧ bd.length = bound.length + i ∧ t1.e = 3 ∧ (ok = true → bindR (l.drop i) bd = bindR l bound) ∧ (ok = false → bindR l bound = (false, bd))) (fun | (i, _) => l.length - i) (0, bound, true, t) ⟨by simp, by simp, ht, fun _ => rfl, fun h => by cases h⟩ wA ?_
 rintro ⟨i, bd, ok, t1⟩ ⟨hi, hb, ht1, h1, h2⟩
 have e1 : List.length (i, bd, ok, t1).2.1 = bd.length := rfl
 conv => whnf
 repeat' (first|((first|((first|(apply zY;intro hg)|apply zZ);first|exact stA|((conv=>whnf);(repeat ((first|(refine zW ?_ ?_;exact gA)|refine pC (has_c _ _) wR ?_|refine pC (has_c _ _) cA ?_|intro _);conv=>whnf));first|exact pS|exact pL|exact pE))|(refine zW ?_ ?_;exact gA)|refine zH rfl ?_|refine zA ?_|refine zI bA ?_|refine zI rfl ?_|refine sB ?_|(refine zO ?_ ?_ ?_;omega;omega)|(refine zP ?_ ?_ ?_;omega;omega)|refine zM rfl ?_|(refine zQ ?_ ?_ ?_;omega;omega)|(refine zR ?_ ?_;omega)|(refine zI ?_ ?_;exact nA)|refine sS ?_|refine pC (has_c _ _) wR ?_|refine pC (has_c _ _) cA ?_|refine sD ?_|refine PDraw.sP (some 17) rfl [] [] tt_ok mixed ?_|intro _|refine zG ?_);conv=>whnf)|(refine zX (fun hc => ?_) (fun hc => ?_)<;>(try simp only [SY] at hc)<;>first|omega|(conv=>whnf)))
 ·have hlt : i < l.length := by omega
  refine PDraw.sE [.tok t1] [10] [11,12,13] tt_ok mixed ?_
  conv=>whnf
  repeat ((first|((first|(apply zY;intro hg)|apply zZ);first|exact stA|((conv=>whnf);(repeat ((first|(refine zW ?_ ?_;exact gA)|refine pC (has_c _ _) wR ?_|refine pC (has_c _ _) cA ?_|intro _);conv=>whnf));first|exact pS|exact pL|exact pE))|(refine zW ?_ ?_;exact gA)|refine zH rfl ?_|refine zA ?_|refine zI bA ?_|refine zI rfl ?_|refine sB ?_|(refine zO ?_ ?_ ?_;omega;omega)|(refine zP ?_ ?_ ?_;omega;omega)|refine zM rfl ?_|(refine zQ ?_ ?_ ?_;omega;omega)|(refine zR ?_ ?_;omega)|(refine zI ?_ ?_;exact nA)|refine sS ?_|refine pC (has_c _ _) wR ?_|refine pC (has_c _ _) cA ?_|refine sD ?_|refine PDraw.sP (some 17) rfl [] [] tt_ok mixed ?_|intro _);conv=>whnf)
  refine PAppend.one l[i] ht1 (Wk.tok _ _ _) (by omega) (by show _ * 8 ≤ _; omega) ?_
  intro t2 ht2
  conv => whnf
  repeat ((first|((first|(apply zY;intro hg)|apply zZ);first|exact stA|((conv=>whnf);(repeat ((first|(refine zW ?_ ?_;exact gA)|refine pC (has_c _ _) wR ?_|refine pC (has_c _ _) cA ?_|intro _);conv=>whnf));first|exact pS|exact pL|exact pE))|(refine zW ?_ ?_;exact gA)|refine zH rfl ?_|refine zA ?_|refine zI bA ?_|refine zI rfl ?_|refine sB ?_|(refine zO ?_ ?_ ?_;omega;omega)|(refine zP ?_ ?_ ?_;omega;omega)|refine zM rfl ?_|(refine zQ ?_ ?_ ?_;omega;omega)|(refine zR ?_ ?_;omega)|(refine zI ?_ ?_;exact nA)|refine sS ?_|refine pC (has_c _ _) wR ?_|refine pC (has_c _ _) cA ?_|refine sD ?_|refine PDraw.sP (some 17) rfl [] [] tt_ok mixed ?_|intro _);conv=>whnf)
  rw [drop_at hlt, bindR, if_neg (by simp only [vOk, SS]; rintro ⟨h, h'⟩; rw [h'] at hc; simp at hc; omega)] at h1
  have h1' := h1 (‹_ ∧ ok = true›).2
  refine loopTo (i + 1, bd ++ [l[i]], false, t2) ⟨by omega, by simp; omega, ht2, fun h => (by cases h), fun _ => h1'.symm⟩ (by show l.length - (i + 1) < l.length - i; omega) wA
 ·have hlt : i < l.length := by omega
  refine PDraw.sE [.tok t1] [10] [11,12,13] tt_ok mixed ?_
  conv=>whnf
  repeat ((first|((first|(apply zY;intro hg)|apply zZ);first|exact stA|((conv=>whnf);(repeat ((first|(refine zW ?_ ?_;exact gA)|refine pC (has_c _ _) wR ?_|refine pC (has_c _ _) cA ?_|intro _);conv=>whnf));first|exact pS|exact pL|exact pE))|(refine zW ?_ ?_;exact gA)|refine zH rfl ?_|refine zA ?_|refine zI bA ?_|refine zI rfl ?_|refine sB ?_|(refine zO ?_ ?_ ?_;omega;omega)|(refine zP ?_ ?_ ?_;omega;omega)|refine zM rfl ?_|(refine zQ ?_ ?_ ?_;omega;omega)|(refine zR ?_ ?_;omega)|(refine zI ?_ ?_;exact nA)|refine sS ?_|refine pC (has_c _ _) wR ?_|refine pC (has_c _ _) cA ?_|refine sD ?_|refine PDraw.sP (some 17) rfl [] [] tt_ok mixed ?_|intro _);conv=>whnf)
  refine PAppend.one l[i] ht1 (Wk.tok _ _ _) (by omega) (by show _ * 8 ≤ _; omega) ?_
  intro t2 ht2
  conv => whnf
  repeat ((first|((first|(apply zY;intro hg)|apply zZ);first|exact stA|((conv=>whnf);(repeat ((first|(refine zW ?_ ?_;exact gA)|refine pC (has_c _ _) wR ?_|refine pC (has_c _ _) cA ?_|intro _);conv=>whnf));first|exact pS|exact pL|exact pE))|(refine zW ?_ ?_;exact gA)|refine zH rfl ?_|refine zA ?_|refine zI bA ?_|refine zI rfl ?_|refine sB ?_|(refine zO ?_ ?_ ?_;omega;omega)|(refine zP ?_ ?_ ?_;omega;omega)|refine zM rfl ?_|(refine zQ ?_ ?_ ?_;omega;omega)|(refine zR ?_ ?_;omega)|(refine zI ?_ ?_;exact nA)|refine sS ?_|refine pC (has_c _ _) wR ?_|refine pC (has_c _ _) cA ?_|refine sD ?_|refine PDraw.sP (some 17) rfl [] [] tt_ok mixed ?_|intro _);conv=>whnf)
  rw [drop_at hlt, bindR, if_pos (by simp only [vOk, SS]; exact hc)] at h1
  obtain ⟨_, rfl⟩ := ‹_ ∧ ok = true›
  refine loopTo (i + 1, bd ++ [l[i]], true, t2) ⟨by omega, by simp; omega, ht2, fun _ => h1 rfl, fun h => (by cases h)⟩ (by show l.length - (i + 1) < l.length - i; omega) wA
 ·have e : bindR l bound = (ok, bd) := by
   cases ok with
   | false => exact h2 rfl
   | true =>
    have := h1 rfl
    rw [List.drop_of_length_le (by rcases hc with hc | hc; omega; cases hc), bindR] at this
    exact this.symm
  exact PRet.gen (Wk.refl _) ⟨rfl, t1, ht1, by rw [e]⟩
end Go.Cb
namespace Go.Cb
open Go.Proofs
set_option maxRecDepth 100000
set_option maxHeartbeats 4000000
structure Shp where
 fm : Int
 to : Int
 least : Int
 any : Bool
 binds : Bool
abbrev Shp.cells (s : Shp) : List PV := [.int .i64 s.fm, .int .i64 s.to, .int .i64 s.least, .bool s.any, .bool s.binds]
def shapeL (op : Int) : Shp × Bool :=
 if op = 0 ∨ op = 1 ∨ op = 11 then (⟨0, 3, 0, false, false⟩, true) else
 if op = 3 then (⟨0, 3, 3, false, false⟩, true) else
 if op = 5 ∨ op = 6 then (⟨0, 3, 1, true, false⟩, true) else
 if op = 2 then (⟨0, 1, 1, false, false⟩, true) else
 if op = 4 then (⟨0, 2, 1, false, true⟩, true) else
 if op = 7 then (⟨0, 0, 0, false, true⟩, true) else
 if op = 8 ∨ op = 9 then (⟨1, 3, 0, false, true⟩, true) else
 if op = 12 then (⟨1, 3, 1, false, false⟩, true) else
 if op = 13 then (⟨1, 3, 0, false, false⟩, true) else
 if op = 14 then (⟨1, 1, 1, false, false⟩, true) else
 if op = 10 then (⟨2, 3, 0, true, false⟩, true) else
 if op = 15 ∨ op = 16 then (⟨2, 3, 1, false, false⟩, true) else
 if op = 17 ∨ op = 18 then (⟨2, 3, 2, false, false⟩, true) else
 if op = 19 then (⟨3, 3, 0, true, false⟩, true) else
 if op = 20 ∨ op = 21 then (⟨3, 3, 0, false, false⟩, true) else
 if op = 22 then (⟨3, 3, 1, true, false⟩, true) else (⟨0, 0, 0, false, false⟩, false)
theorem shapeOf_c (op : Int) : ACallP Tryz.prog 141 [.int .i64 op] (.tup [.agg (shapeL op).1.cells, .bool (shapeL op).2]) := by
 have hs : shapeL op = shapeL op := rfl
 conv at hs => rhs; unfold shapeL
 refine ACall.of_body tt_ok Tryz.func141 rfl rfl (n := 61) rfl rfl ?_
 conv => whnf
 repeat' (first|((first|((first|(apply zY;intro hg)|apply zZ);first|exact stA)|(refine zW ?_ ?_;exact gA)|refine zH rfl ?_|refine zA ?_|refine zI bA ?_|refine zI rfl ?_|refine sB ?_|(refine zO ?_ ?_ ?_;omega;omega)|(refine zP ?_ ?_ ?_;omega;omega)|refine zM rfl ?_|(refine zQ ?_ ?_ ?_;omega;omega)|(refine zR ?_ ?_;omega)|(refine zI ?_ ?_;exact nA)|refine sS ?_|refine sD ?_|intro _|refine zG ?_);conv=>whnf)|(refine zX (fun hc => ?_) (fun hc => ?_)<;>(try simp only [SY] at hc)<;>first|omega|(conv=>whnf)))
 all_goals repeat (first|rw [if_neg (by omega)] at hs|rw [if_pos (by omega)] at hs)
 all_goals rw [hs]
 all_goals exact PRet.pure wA
def groupB (op : Int) : Bool := op == 7 || op == 9
theorem group_c (t : Trm) : ACallP Tryz.prog 144 [.agg t.cells] (.bool (groupB t.op)) := by
 refine ACall.of_body tt_ok Tryz.func144 rfl rfl (n := 11) rfl rfl ?_
 conv => whnf
 repeat' (first|((first|((first|(apply zY;intro hg)|apply zZ);first|exact stA)|(refine zW ?_ ?_;exact gA)|refine zH rfl ?_|refine zA ?_|refine zI bA ?_|refine zI rfl ?_|refine sB ?_|(refine zO ?_ ?_ ?_;omega;omega)|(refine zP ?_ ?_ ?_;omega;omega)|refine zM rfl ?_|(refine zQ ?_ ?_ ?_;omega;omega)|(refine zR ?_ ?_;omega)|(refine zI ?_ ?_;exact nA)|refine sS ?_|refine sD ?_|intro _|refine zG ?_);conv=>whnf)|(refine zX (fun hc => ?_) (fun hc => ?_)<;>(try simp only [SY] at hc)<;>first|omega|(conv=>whnf)))
 exact PRet.pure (Wk.refl _)
def fitsL (s : Shp) (t : Trm) : Bool :=
 let want : Int := if s.binds = true ∧ t.op ≠ 4 then (t.v.length : Int) + 1 else s.least
 ((t.t.length : Int) == want || (s.any && decide ((t.t.length : Int) ≥ want))) && (s.binds || (t.v.length : Int) == 0)
theorem fits_c (s : Shp) (t : Trm) (hv : t.v.length ≤ 1000000000) : ACallP Tryz.prog 142 [.agg s.cells, .agg t.cells] (.bool (fitsL s t)) := by
 refine ACall.of_body tt_ok Tryz.func142 rfl rfl (n := 45) rfl rfl ?_
 conv => whnf
 repeat' (first|((first|((first|(apply zY;intro hg)|apply zZ);first|exact stA)|(refine zW ?_ ?_;exact gA)|refine zH rfl ?_|refine zA ?_|refine zI bA ?_|refine zI rfl ?_|refine sB ?_|(refine zO ?_ ?_ ?_;omega;omega)|(refine zP ?_ ?_ ?_;omega;omega)|refine zM rfl ?_|(refine zQ ?_ ?_ ?_;omega;omega)|(refine zR ?_ ?_;omega)|(refine zI ?_ ?_;exact nA)|refine sS ?_|refine sD ?_|intro _|refine zG ?_);conv=>whnf)|(refine zX (fun hc => ?_) (fun hc => ?_)<;>(try simp only [SY] at hc)<;>first|omega|(conv=>whnf)))
 ·rw [show fitsL s t = (((t.t.length : Int) == (t.v.length : Int) + 1 || (s.any && decide ((t.t.length : Int) ≥ (t.v.length : Int) + 1))) && (s.binds || (t.v.length : Int) == 0)) by unfold fitsL; rw [if_pos hc]]
  exact PRet.pure (Wk.refl _)
 ·rw [show fitsL s t = (((t.t.length : Int) == s.least || (s.any && decide ((t.t.length : Int) ≥ s.least))) && (s.binds || (t.v.length : Int) == 0)) by
   unfold fitsL; rw [if_neg (by rcases hc with hc | hc <;> simp [hc])]]
  exact PRet.pure (Wk.refl _)
theorem procs1_c (b : Nat) (t : Trm) (w : Int) : ACall Tryz.prog 180 [.agg t.cells, .ptr b 0] [.box b [.int .i64 w]] (fun y Γ' => y = .bool (t.op != w) ∧ Γ' = [.box b [.int .i64 w]]) := by
 refine ACall.of_body tt_ok Tryz.func180 rfl rfl (n := 8) rfl rfl ?_
 conv => whnf
 repeat' (first|((first|((first|(apply zY;intro hg)|apply zZ);first|exact stA)|(refine zW ?_ ?_;exact gA)|refine zH rfl ?_|refine zA ?_|refine zI bA ?_|refine zI rfl ?_|refine sB ?_|(refine zO ?_ ?_ ?_;omega;omega)|(refine zP ?_ ?_ ?_;omega;omega)|refine zM rfl ?_|(refine zQ ?_ ?_ ?_;omega;omega)|(refine zR ?_ ?_;omega)|(refine zI ?_ ?_;exact nA)|refine sS ?_|refine sD ?_|intro _|refine zG ?_);conv=>whnf)|(refine zX (fun hc => ?_) (fun hc => ?_)<;>(try simp only [SY] at hc)<;>first|omega|(conv=>whnf)))
 exact PRet.gen (Wk.refl _) ⟨rfl, rfl⟩
def procsL (level : Int) (l : List Trm) : Bool := !l.any (fun t => t.op != if level = 3 then 19 else 4)
abbrev cpC (level consts codes size : Int) (frees : Bool) (rb : Nat) : List PV := [.int .i64 level, .int .i64 consts, .int .i64 codes, .bool frees, .int .i64 size, .mp rb]
theorem procs_c (c rb : Nat) (level consts codes size : Int) (frees : Bool) (l : List Trm) : ACall Tryz.prog 148 [.ptr c 0, .sl 4 (l.map Trm.pv) none] [.box c (cpC level consts codes size frees rb)] (fun y Γ' => y = .bool (procsL level l) ∧ Γ' = [.box c (cpC level consts codes size frees rb)]) := by
 refine ACall.of_body tt_ok Tryz.func148 rfl rfl (n := 15) rfl rfl ?_
 conv => whnf
 repeat' (first|((first|((first|(apply zY;intro hg)|apply zZ);first|exact stA)|(refine zW ?_ ?_;exact gA)|refine zH rfl ?_|refine zA ?_|refine zI bA ?_|refine zI rfl ?_|refine sB ?_|(refine zO ?_ ?_ ?_;omega;omega)|(refine zP ?_ ?_ ?_;omega;omega)|refine zM rfl ?_|(refine zQ ?_ ?_ ?_;omega;omega)|(refine zR ?_ ?_;omega)|(refine zI ?_ ?_;exact nA)|refine sS ?_|refine sD ?_|intro _|refine zG ?_);conv=>whnf)|(refine zX (fun hc => ?_) (fun hc => ?_)<;>(try simp only [SY] at hc)<;>first|omega|(conv=>whnf)))
 all_goals rename_i b2
 ·refine PCall.go (containsFuncTrm_c 180 [.ptr b2 0] [.box b2 [.int .i64 19]] (fun t => t.op != 19) l (fun x _ => procs1_c b2 x 19)) (WkT.refl _) ?_
  rintro _ _ ⟨rfl, rfl⟩
  conv => whnf
  repeat ((first|((first|(apply zY;intro hg)|apply zZ);first|exact stA)|(refine zW ?_ ?_;exact gA)|refine zH rfl ?_|refine zA ?_|refine zI bA ?_|refine zI rfl ?_|refine sB ?_|(refine zO ?_ ?_ ?_;omega;omega)|(refine zP ?_ ?_ ?_;omega;omega)|refine zM rfl ?_|(refine zQ ?_ ?_ ?_;omega;omega)|(refine zR ?_ ?_;omega)|(refine zI ?_ ?_;exact nA)|refine sS ?_|refine sD ?_|intro _);conv=>whnf)
  exact PRet.gen (Wk.bool (by simp [procsL, hc])) ⟨rfl, rfl⟩
 ·refine PCall.go (containsFuncTrm_c 180 [.ptr b2 0] [.box b2 [.int .i64 4]] (fun t => t.op != 4) l (fun x _ => procs1_c b2 x 4)) (WkT.refl _) ?_
  rintro _ _ ⟨rfl, rfl⟩
  conv => whnf
  repeat ((first|((first|(apply zY;intro hg)|apply zZ);first|exact stA)|(refine zW ?_ ?_;exact gA)|refine zH rfl ?_|refine zA ?_|refine zI bA ?_|refine zI rfl ?_|refine sB ?_|(refine zO ?_ ?_ ?_;omega;omega)|(refine zP ?_ ?_ ?_;omega;omega)|refine zM rfl ?_|(refine zQ ?_ ?_ ?_;omega;omega)|(refine zR ?_ ?_;omega)|(refine zI ?_ ?_;exact nA)|refine sS ?_|refine sD ?_|intro _);conv=>whnf)
  exact PRet.gen (Wk.bool (by simp [procsL, hc])) ⟨rfl, rfl⟩
structure Fct where
 name : List UInt8
 least : Int
 most : Int
 pure : Bool
 folds : Bool
abbrev Fct.cells (f : Fct) : List PV := [.str f.name, .int .i64 f.least, .int .i64 f.most, .bool f.pure, .bool f.folds]
def Fct.none : Fct := ⟨[], 0, 0, false, false⟩
def facts : List Fct := [⟨[43], 0, -1, true, true⟩, ⟨[45], 1, -1, true, true⟩, ⟨[42], 0, -1, true, true⟩, ⟨[47], 1, -1, true, true⟩, ⟨[61], 2, 2, true, true⟩, ⟨[60], 2, 2, true, true⟩,
 ⟨[101, 113, 63], 2, 2, true, true⟩, ⟨[101, 113, 117, 97, 108, 63], 2, 2, true, true⟩, ⟨[110, 111, 116], 1, 1, true, true⟩, ⟨[110, 117, 108, 108, 63], 1, 1, true, true⟩, ⟨[112, 97, 105, 114, 63], 1, 1, true, true⟩,
 ⟨[110, 117, 109, 98, 101, 114, 63], 1, 1, true, true⟩, ⟨[115, 121, 109, 98, 111, 108, 63], 1, 1, true, true⟩, ⟨[98, 111, 111, 108, 101, 97, 110, 63], 1, 1, true, true⟩, ⟨[115, 116, 114, 105, 110, 103, 63], 1, 1, true, true⟩,
 ⟨[118, 101, 99, 116, 111, 114, 63], 1, 1, true, true⟩, ⟨[112, 114, 111, 99, 101, 100, 117, 114, 101, 63], 1, 1, true, true⟩, ⟨[99, 111, 110, 115], 2, 2, true, false⟩, ⟨[99, 97, 114], 1, 1, true, true⟩, ⟨[99, 100, 114], 1, 1, true, true⟩,
 ⟨[108, 105, 115, 116], 0, -1, true, false⟩, ⟨[118, 101, 99, 116, 111, 114], 0, -1, true, false⟩, ⟨[118, 101, 99, 116, 111, 114, 45, 114, 101, 102], 2, 2, true, true⟩, ⟨[118, 101, 99, 116, 111, 114, 45, 108, 101, 110, 103, 116, 104], 1, 1, true, true⟩,
 ⟨[108, 101, 110, 103, 116, 104], 1, 1, true, true⟩, ⟨[118, 111, 105, 100], 0, 0, true, true⟩, ⟨[100, 105, 115, 112, 108, 97, 121], 1, 1, false, false⟩, ⟨[110, 101, 119, 108, 105, 110, 101], 0, 0, false, false⟩,
 ⟨[114, 97, 105, 115, 101], 1, 1, false, false⟩, ⟨[99, 97, 108, 108, 47, 99, 99], 1, 1, false, false⟩, ⟨[97, 112, 112, 108, 121], 2, 2, false, false⟩]
theorem table_c : ACallP Tryz.prog 178 [] (.agg (facts.flatMap Fct.cells)) := by
 refine ACall.of_body tt_ok Tryz.func178 rfl rfl (n := 33) rfl rfl ?_
 conv => whnf
 repeat ((first|((first|(apply zY;intro hg)|apply zZ);first|exact stA)|(refine zW ?_ ?_;exact gA)|refine zH rfl ?_|refine zA ?_|refine zI bA ?_|refine zI rfl ?_|refine sB ?_|(refine zO ?_ ?_ ?_;omega;omega)|(refine zP ?_ ?_ ?_;omega;omega)|refine zM rfl ?_|(refine zQ ?_ ?_ ?_;omega;omega)|(refine zR ?_ ?_;omega)|(refine zI ?_ ?_;exact nA)|refine sS ?_|refine sD ?_|intro _);conv=>whnf)
 refine PArrB.lit rfl ?_
 conv => whnf
 repeat ((first|((first|(apply zY;intro hg)|apply zZ);first|exact stA)|(refine zW ?_ ?_;exact gA)|refine zH rfl ?_|refine zA ?_|refine zI bA ?_|refine zI rfl ?_|refine sB ?_|(refine zO ?_ ?_ ?_;omega;omega)|(refine zP ?_ ?_ ?_;omega;omega)|refine zM rfl ?_|(refine zQ ?_ ?_ ?_;omega;omega)|(refine zR ?_ ?_;omega)|(refine zI ?_ ?_;exact nA)|refine sS ?_|refine sD ?_|intro _);conv=>whnf)
 exact PRet.pure (Wk.refl _)
def factOf (n : Int) : Fct := if 0 ≤ n ∧ n < 31 then facts.getD n.toNat Fct.none else Fct.none
theorem flat_drop {α : Type} {c : α → List PV} {s : Nat} (hc : ∀ x, (c x).length = s) : ∀ (l : List α) (m : Nat) (h : m < l.length), ((l.flatMap c).drop (m * s)).take s = c l[m]
 | x :: l, 0, _ => by
  simp only [Nat.zero_mul, List.drop_zero, List.flatMap_cons, List.getElem_cons_zero]
  rw [← hc x, List.take_left]
 | x :: l, m + 1, h => by
  have := flat_drop hc l m (by simpa using h)
  rw [Nat.succ_mul, Nat.add_comm, List.flatMap_cons]
  conv => lhs; rw [← hc x]
  rw [List.drop_length_add_append, hc x]
  simpa using this
theorem flat_len {α : Type} {c : α → List PV} {s : Nat} (hc : ∀ x, (c x).length = s) : ∀ (l : List α), (l.flatMap c).length = l.length * s
 | [] => by simp
 | x :: l => by rw [List.flatMap_cons, List.length_append, hc, flat_len hc l, List.length_cons, Nat.succ_mul, Nat.add_comm]
theorem PIndexG.flat {α : Type} {c : α → List PV} {l : List α} {n sz : Nat} {k : IntKind} {m : Int} {K : PV → Prop} (hc : ∀ x, (c x).length = sz) (hn : l.length = n) (h0 : 0 ≤ m) (h1 : m < n) (h : K (.agg (c (l[m.toNat]'(by omega))))) : PIndexG n sz true (l.flatMap c) (.int k m) K :=
 ⟨k, m, rfl, h0, h1, by rw [flat_len hc, hn], .inl ⟨rfl, by rw [flat_drop hc l m.toNat (by omega)]; exact h⟩⟩
theorem Facts_c (n : Int) : ACallP Tryz.prog 134 [.int .i64 n] (.tup [.agg (factOf n).cells, .bool (decide (0 ≤ n ∧ n < 31))]) := by
 refine ACall.of_body tt_ok Tryz.func134 rfl rfl (n := 14) rfl rfl ?_
 conv => whnf
 repeat' (first|((first|((first|(apply zY;intro hg)|apply zZ);first|exact stA|((conv=>whnf);(repeat ((first|(refine zW ?_ ?_;exact gA)|refine pC (table_c) wR ?_|refine pC (table_c) cA ?_|intro _);conv=>whnf));first|exact pS|exact pL|exact pE))|(refine zW ?_ ?_;exact gA)|refine zH rfl ?_|refine zA ?_|refine zI bA ?_|refine zI rfl ?_|refine sB ?_|(refine zO ?_ ?_ ?_;omega;omega)|(refine zP ?_ ?_ ?_;omega;omega)|refine zM rfl ?_|(refine zQ ?_ ?_ ?_;omega;omega)|(refine zR ?_ ?_;omega)|(refine zI ?_ ?_;exact nA)|refine sS ?_|refine pC (table_c) wR ?_|refine pC (table_c) cA ?_|refine sD ?_|intro _|refine zG ?_);conv=>whnf)|(refine zX (fun hc => ?_) (fun hc => ?_)<;>(try simp only [SY] at hc)<;>first|omega|(conv=>whnf)))
 ·rw [show factOf n = Fct.none by unfold factOf; rw [if_neg (by omega)], show decide (0 ≤ n ∧ n < 31) = false by simp; omega]
  exact PRet.pure wA
 ·have hl : n.toNat < facts.length := by show n.toNat < 31; omega
  refine PIndexG.flat (fun _ => rfl) rfl (by omega) (by omega) ?_
  conv => whnf
  repeat ((first|((first|(apply zY;intro hg)|apply zZ);first|exact stA|((conv=>whnf);(repeat ((first|(refine zW ?_ ?_;exact gA)|refine pC (table_c) wR ?_|refine pC (table_c) cA ?_|intro _);conv=>whnf));first|exact pS|exact pL|exact pE))|(refine zW ?_ ?_;exact gA)|refine zH rfl ?_|refine zA ?_|refine zI bA ?_|refine zI rfl ?_|refine sB ?_|(refine zO ?_ ?_ ?_;omega;omega)|(refine zP ?_ ?_ ?_;omega;omega)|refine zM rfl ?_|(refine zQ ?_ ?_ ?_;omega;omega)|(refine zR ?_ ?_;omega)|(refine zI ?_ ?_;exact nA)|refine sS ?_|refine pC (table_c) wR ?_|refine pC (table_c) cA ?_|refine sD ?_|intro _);conv=>whnf)
  rw [show decide (0 ≤ n ∧ n < 31) = true by simp; omega]
  rw [show factOf n = facts[n.toNat] by unfold factOf; rw [if_pos (by omega)]; simp [List.getD, hl]]
  exact PRet.pure wA
end Go.Cb
namespace Go.Cb
open Go.Proofs
set_option maxRecDepth 100000
set_option maxHeartbeats 4000000
def numberP (consts codes : Int) (free : Bool) (t : Trm) (scope : List Int) : Bool :=
 if t.op = 0 then decide (t.n ≥ 0) && decide (t.n < consts) else
 if t.op = 1 ∨ t.op = 2 ∨ t.op = 14 then scope.contains t.n else
 if t.op = 11 ∨ t.op = 10 then decide (0 ≤ t.n ∧ t.n < 31) else
 if t.op = 4 then t.n == 0 || (t.n == 1 && decide ((t.v.length : Int) > 0)) else
 if t.op = 7 then t.n == 0 || t.n == 1 else
 if t.op = 19 ∨ t.op = 21 ∨ t.op = 22 then decide (t.n ≥ 0) && decide (t.n < codes) else
 if t.op = 20 then decide (t.n ≥ 0) && free else t.n == 0
theorem bindR_congr : ∀ (l b1 b2 : List Int), (∀ x, x ∈ b1 ↔ x ∈ b2) → (bindR l b1).1 = (bindR l b2).1
 | [], _, _, _ => rfl
 | v :: l, b1, b2, h => by
  have hv : vOk b1 v = vOk b2 v := by
   have : b1.contains v = b2.contains v := by rw [Bool.eq_iff_iff]; simp [h]
   unfold vOk; rw [this]
  rw [bindR, bindR, hv]
  split
  ·exact bindR_congr l _ _ (by intro x; simp [h])
  ·rfl
theorem bind2p_c (c rb rs : Nat) (level consts codes size : Int) (frees : Bool) (l bound scope : List Int) (pb ps : List (Int × Value)) :
  ACall Tryz.prog 88 [.ptr c 0, .sl 1 (l.map (PV.int .i64)) none, .mp rs] [.box c (cpC level consts codes size frees rb), .mp rb (.int .i64) (setM bound) pb, .mp rs (.int .i64) (setM scope) ps]
  (fun y Γ' => y = .bool (bindR l bound).1 ∧ ∃ pb' mb ms, Γ' = [.box c (cpC level consts codes size frees rb), .mp rb (.int .i64) mb pb', .mp rs (.int .i64) ms []] ∧ ((bindR l bound).1 = true → mb = setM (bound ++ l) ∧ ms = setM (scope ++ l))) := by
 refine ACall.ghost (Γ' := [.box c (cpC level consts codes size frees rb), .mp rb (.int .i64) (setM bound) [], .mp rs (.int .i64) (setM scope) []]) (Ghost.trans (Γ' := [.box c (cpC level consts codes size frees rb), .mp rb (.int .i64) (setM bound) [], .mp rs (.int .i64) (setM scope) ps]) (Ghost.pendE rb) (Ghost.pendE rs)) ?_
 refine ACall.of_body tt_ok Tryz.func88 rfl rfl (n := 39) rfl rfl ?_
 conv => whnf
 repeat ((first|((first|(apply zY;intro hg)|apply zZ);first|exact stA)|(refine zW ?_ ?_;exact gA)|refine zH rfl ?_|refine zA ?_|refine zI bA ?_|refine zI rfl ?_|refine sB ?_|(refine zO ?_ ?_ ?_;omega;omega)|(refine zP ?_ ?_ ?_;omega;omega)|refine zM rfl ?_|(refine zQ ?_ ?_ ?_;omega;omega)|(refine zR ?_ ?_;omega)|(refine zI ?_ ?_;exact nA)|refine sS ?_|refine sD ?_|intro _);conv=>whnf)
 refine PLoop.over [6, 8, 11, 12, 13, 14, 15, 16, 17, 18, 19, 20, 21, 22, 23, 24, 25, 26, 27, 28, 29, 30, 31, 32, 33, 34, 35, 36, 37, 38] (fun | ((i, bd, sc, pb) : Nat × List Int × List Int × List (Int × Value)) => [(11, .int .i64 i)])
  (fun x => [.box c (cpC level consts codes size frees rb), .mp rb (.int .i64) (setM x.2.1) x.2.2.2, .mp rs (.int .i64) (setM x.2.2.1) []])
  (fun | (i, bd, sc, pb) => i ≤ l.length ∧ (∀ x, x ∈ bd ↔ x ∈ bound ∨ x ∈ l.take i) ∧ (∀ x, x ∈ sc ↔ x ∈ scope ∨ x ∈ l.take i) ∧ (bindR (l.drop i) bd).1 = (bindR l bound).1 ∧ ∀ q ∈ pb, q.2 ≠ .tuple #[]) (fun | (i, _) => l.length - i) (0, bound, scope, [])
  ⟨by omega, by simp, by simp, rfl, by simp⟩ wA ?_
 rintro ⟨i, bd, sc, pb'⟩ ⟨hi, hbd, hsc, hr, hpb⟩
 conv => whnf
 repeat' (first|((first|((first|(apply zY;intro hg)|apply zZ);first|exact stA)|(refine zW ?_ ?_;exact gA)|refine zH rfl ?_|refine zA ?_|refine zI bA ?_|refine zI rfl ?_|refine sB ?_|(refine zO ?_ ?_ ?_;omega;omega)|(refine zP ?_ ?_ ?_;omega;omega)|refine zM rfl ?_|(refine zQ ?_ ?_ ?_;omega;omega)|(refine zR ?_ ?_;omega)|(refine zI ?_ ?_;exact nA)|refine sS ?_|refine sD ?_|intro _|refine zG ?_);conv=>whnf)|(refine zX (fun hc => ?_) (fun hc => ?_)<;>(try simp only [SY] at hc)<;>first|omega|(conv=>whnf)))
 ·have hlt : i < l.length := by omega
  have hb : (bindR l bound).1 = false := by
   rw [← hr, drop_at hlt, bindR, if_neg (by simp only [vOk, SS]; rintro ⟨h, h'⟩; rw [h'] at hc; simp at hc; omega)]
  exact PRet.gen (Wk.ff hb) ⟨rfl, pb', setM bd, setM sc, rfl, fun h => by rw [hb] at h; cases h⟩
 ·have hlt : i < l.length := by omega
  refine PMapEntry.set hc.2 ?_ (.inr hpb)
  intro j
  conv => whnf
  refine PEntryStore.set ?_
  conv => whnf
  repeat ((first|((first|(apply zY;intro hg)|apply zZ);first|exact stA)|(refine zW ?_ ?_;exact gA)|refine zH rfl ?_|refine zA ?_|refine zI bA ?_|refine zI rfl ?_|refine sB ?_|(refine zO ?_ ?_ ?_;omega;omega)|(refine zP ?_ ?_ ?_;omega;omega)|refine zM rfl ?_|(refine zQ ?_ ?_ ?_;omega;omega)|(refine zR ?_ ?_;omega)|(refine zI ?_ ?_;exact nA)|refine sS ?_|refine sD ?_|intro _);conv=>whnf)
  have htk : ∀ x, x ∈ l.take (i + 1) ↔ x = l[i] ∨ x ∈ l.take i := by
   intro x
   rw [List.take_succ_eq_append_getElem hlt, List.mem_append, List.mem_singleton, or_comm]
  refine loopTo (i + 1, l[i] :: bd, l[i] :: sc, (j, .int .i64 l[i]) :: pb') ⟨by omega, fun x => ?_, fun x => ?_, ?_, ?_⟩ (by show l.length - (i + 1) < l.length - i; omega) wA
  ·rw [htk, List.mem_cons, hbd]
   constructor
   ·rintro (h | h | h)
    ·exact .inr (.inl h)
    ·exact .inl h
    ·exact .inr (.inr h)
   ·rintro (h | h | h)
    ·exact .inr (.inl h)
    ·exact .inl h
    ·exact .inr (.inr h)
  ·rw [htk, List.mem_cons, hsc]
   constructor
   ·rintro (h | h | h)
    ·exact .inr (.inl h)
    ·exact .inl h
    ·exact .inr (.inr h)
   ·rintro (h | h | h)
    ·exact .inr (.inl h)
    ·exact .inl h
    ·exact .inr (.inr h)
  ·rw [← hr, drop_at hlt, bindR, if_pos (by simp only [vOk, SS]; exact hc)]
   exact bindR_congr _ _ _ (by intro x; simp [or_comm])
  ·intro q hq
   rcases List.mem_cons.1 hq with rfl | hq
   ·simp
   ·exact hpb q hq
 ·have hb : (bindR l bound).1 = true := by rw [← hr, List.drop_of_length_le (by omega), bindR]
  have ht : l.take i = l := List.take_of_length_le (by omega)
  rw [ht] at hbd hsc
  exact PRet.gen (Wk.tt hb) ⟨rfl, pb', setM bd, setM sc, rfl, fun _ => ⟨setM_congr (by simpa using hbd), setM_congr (by simpa using hsc)⟩⟩
theorem number2p_c (c rb rs : Nat) (level consts codes size : Int) (frees : Bool) (t : Trm) (scope : List Int) (ps : List (Int × Value)) :
  ACall Tryz.prog 143 [.ptr c 0, .agg t.cells, .mp rs] [.box c (cpC level consts codes size frees rb), .mp rs (.int .i64) (setM scope) ps]
  (fun y Γ' => y = .bool (numberP consts codes frees t scope) ∧ Γ' = [.box c (cpC level consts codes size frees rb), .mp rs (.int .i64) (setM scope) ps]) := by
 have hs : numberP consts codes frees t scope = numberP consts codes frees t scope := rfl
 conv at hs => rhs; unfold numberP
 refine ACall.of_body tt_ok Tryz.func143 rfl rfl (n := 99) rfl rfl ?_
 conv => whnf
 repeat' (first|((first|((first|(apply zY;intro hg)|apply zZ);first|exact stA|((conv=>whnf);(repeat ((first|(refine zW ?_ ?_;exact gA)|refine pC (Facts_c _) wR ?_|refine pC (Facts_c _) cA ?_|intro _);conv=>whnf));first|exact pS|exact pL|exact pE))|(refine zW ?_ ?_;exact gA)|refine zH rfl ?_|refine zA ?_|refine zI bA ?_|refine zI rfl ?_|refine sB ?_|(refine zO ?_ ?_ ?_;omega;omega)|(refine zP ?_ ?_ ?_;omega;omega)|refine zM rfl ?_|(refine zQ ?_ ?_ ?_;omega;omega)|(refine zR ?_ ?_;omega)|(refine zI ?_ ?_;exact nA)|refine sS ?_|refine pC (Facts_c _) wR ?_|refine pC (Facts_c _) cA ?_|refine sD ?_|refine PDraw.sP (some 13) rfl [] [] tt_ok mixed ?_|refine PDraw.sP (some 73) rfl [] [] tt_ok mixed ?_|intro _|refine zG ?_);conv=>whnf)|(refine zX (fun hc => ?_) (fun hc => ?_)<;>(try simp only [SY] at hc)<;>first|omega|(conv=>whnf)))
 all_goals repeat (first|rw [if_neg (by omega)] at hs|rw [if_pos (by omega)] at hs)
 all_goals rw [hs]
 all_goals exact PRet.gen (Wk.refl _) ⟨rfl, rfl⟩
end Go.Cb
namespace Go.Cb
open Go.Proofs
set_option maxRecDepth 100000
set_option maxHeartbeats 4000000
theorem indexFuncTrmS_c (k : Nat) (cap : List PV) (l : List Trm) (J : Nat → List Ent → Prop) (X : Nat → List Ent → Prop)
  (hf : ∀ i x Γ, l[i]? = some x → J i Γ → ACall Tryz.prog k (.agg (Trm.cells x) :: cap) Γ (fun y Γ' => (y = .bool false ∧ J (i + 1) Γ') ∨ (y = .bool true ∧ X i Γ'))) (Γ0 : List Ent) (h0 : J 0 Γ0) :
  ACall Tryz.prog 179 [.sl 4 (l.map Trm.pv) none, .fn (.func k) cap] Γ0 (fun y Γ' => (y = .int .i64 (-1) ∧ J l.length Γ') ∨ ∃ i : Nat, y = .int .i64 i ∧ i < l.length ∧ X i Γ') := by
 refine ACall.of_body tt_ok Tryz.func179 rfl rfl (n := 19) rfl rfl ?_
 conv => whnf
 repeat ((first|((first|(apply zY;intro hg)|apply zZ);first|exact stA)|(refine zW ?_ ?_;exact gA)|refine zH rfl ?_|refine zA ?_|refine zI bA ?_|refine zI rfl ?_|refine sB ?_|(refine zO ?_ ?_ ?_;omega;omega)|(refine zP ?_ ?_ ?_;omega;omega)|refine zM rfl ?_|(refine zQ ?_ ?_ ?_;omega;omega)|(refine zR ?_ ?_;omega)|(refine zI ?_ ?_;exact nA)|refine sS ?_|refine sD ?_|intro _);conv=>whnf)
 refine PLoop.over [4, 5, 8, 9, 10, 11, 12, 13, 14, 15, 16, 17, 18] (fun s : Nat × List Ent => [(8, .int .i64 s.1)]) (fun s => s.2) (fun s => s.1 ≤ l.length ∧ J s.1 s.2) (fun s => l.length - s.1) (0, Γ0) ⟨by omega, h0⟩ wA ?_
 rintro ⟨i, Γ⟩ ⟨h1, h2⟩
 conv => whnf
 repeat' (first|((first|((first|(apply zY;intro hg)|apply zZ);first|exact stA)|(refine zW ?_ ?_;exact gA)|refine zH rfl ?_|refine zA ?_|refine zI bA ?_|refine zI rfl ?_|refine sB ?_|(refine zO ?_ ?_ ?_;omega;omega)|(refine zP ?_ ?_ ?_;omega;omega)|refine zM rfl ?_|(refine zQ ?_ ?_ ?_;omega;omega)|(refine zR ?_ ?_;omega)|(refine zI ?_ ?_;exact nA)|refine sS ?_|refine sD ?_|intro _|refine zG ?_);conv=>whnf)|(refine zX (fun hc => ?_) (fun hc => ?_)<;>(try simp only [SY] at hc)<;>first|omega|(conv=>whnf)))
 ·have hlt : i < l.length := by omega
  refine PCall.same (hf i _ Γ (List.getElem?_eq_getElem hlt) h2) (WkT.refl _) ?_
  rintro _ Γ' (⟨rfl, h⟩ | ⟨rfl, h⟩)
  ·conv => whnf
   repeat' (first|((first|((first|(apply zY;intro hg)|apply zZ);first|exact stA)|(refine zW ?_ ?_;exact gA)|refine zH rfl ?_|refine zA ?_|refine zI bA ?_|refine zI rfl ?_|refine sB ?_|(refine zO ?_ ?_ ?_;omega;omega)|(refine zP ?_ ?_ ?_;omega;omega)|refine zM rfl ?_|(refine zQ ?_ ?_ ?_;omega;omega)|(refine zR ?_ ?_;omega)|(refine zI ?_ ?_;exact nA)|refine sS ?_|refine sD ?_|intro _|refine zG ?_);conv=>whnf)|(refine zX (fun hc => ?_) (fun hc => ?_)<;>(try simp only [SY] at hc)<;>first|omega|(conv=>whnf)))
   ·exact loopTo (i + 1, Γ') ⟨by omega, h⟩ (by show l.length - (i + 1) < l.length - i; omega) wA
  ·conv => whnf
   repeat' (first|((first|((first|(apply zY;intro hg)|apply zZ);first|exact stA)|(refine zW ?_ ?_;exact gA)|refine zH rfl ?_|refine zA ?_|refine zI bA ?_|refine zI rfl ?_|refine sB ?_|(refine zO ?_ ?_ ?_;omega;omega)|(refine zP ?_ ?_ ?_;omega;omega)|refine zM rfl ?_|(refine zQ ?_ ?_ ?_;omega;omega)|(refine zR ?_ ?_;omega)|(refine zI ?_ ?_;exact nA)|refine sS ?_|refine sD ?_|intro _|refine zG ?_);conv=>whnf)|(refine zX (fun hc => ?_) (fun hc => ?_)<;>(try simp only [SY] at hc)<;>first|omega|(conv=>whnf)))
   ·exact PRet.gen (Wk.refl _) (.inr ⟨i, rfl, hlt, h⟩)
 ·obtain rfl : i = l.length := by omega
  exact PRet.gen (Wk.refl _) (.inl ⟨rfl, h2⟩)
theorem containsFuncTrmS_c (k : Nat) (cap : List PV) (l : List Trm) (J : Nat → List Ent → Prop) (X : Nat → List Ent → Prop)
  (hf : ∀ i x Γ, l[i]? = some x → J i Γ → ACall Tryz.prog k (.agg (Trm.cells x) :: cap) Γ (fun y Γ' => (y = .bool false ∧ J (i + 1) Γ') ∨ (y = .bool true ∧ X i Γ'))) (Γ0 : List Ent) (h0 : J 0 Γ0) :
  ACall Tryz.prog 146 [.sl 4 (l.map Trm.pv) none, .fn (.func k) cap] Γ0 (fun y Γ' => (y = .bool false ∧ J l.length Γ') ∨ ∃ i : Nat, y = .bool true ∧ i < l.length ∧ X i Γ') := by
 refine ACall.of_body tt_ok Tryz.func146 rfl rfl (n := 9) rfl rfl ?_
 conv => whnf
 repeat ((first|((first|(apply zY;intro hg)|apply zZ);first|exact stA)|(refine zW ?_ ?_;exact gA)|refine zH rfl ?_|refine zA ?_|refine zI bA ?_|refine zI rfl ?_|refine sB ?_|(refine zO ?_ ?_ ?_;omega;omega)|(refine zP ?_ ?_ ?_;omega;omega)|refine zM rfl ?_|(refine zQ ?_ ?_ ?_;omega;omega)|(refine zR ?_ ?_;omega)|(refine zI ?_ ?_;exact nA)|refine sS ?_|refine sD ?_|intro _);conv=>whnf)
 refine PCall.same (indexFuncTrmS_c k cap l J X hf Γ0 h0) (WkT.refl _) ?_
 rintro _ Γ' (⟨rfl, h⟩ | ⟨i, rfl, hi, h⟩)
 ·conv => whnf
  repeat ((first|((first|(apply zY;intro hg)|apply zZ);first|exact stA)|(refine zW ?_ ?_;exact gA)|refine zH rfl ?_|refine zA ?_|refine zI bA ?_|refine zI rfl ?_|refine sB ?_|(refine zO ?_ ?_ ?_;omega;omega)|(refine zP ?_ ?_ ?_;omega;omega)|refine zM rfl ?_|(refine zQ ?_ ?_ ?_;omega;omega)|(refine zR ?_ ?_;omega)|(refine zI ?_ ?_;exact nA)|refine sS ?_|refine sD ?_|intro _);conv=>whnf)
  exact PRet.gen (Wk.bool rfl) (.inl ⟨rfl, h⟩)
 ·conv => whnf
  repeat ((first|((first|(apply zY;intro hg)|apply zZ);first|exact stA)|(refine zW ?_ ?_;exact gA)|refine zH rfl ?_|refine zA ?_|refine zI bA ?_|refine zI rfl ?_|refine sB ?_|(refine zO ?_ ?_ ?_;omega;omega)|(refine zP ?_ ?_ ?_;omega;omega)|refine zM rfl ?_|(refine zQ ?_ ?_ ?_;omega;omega)|(refine zR ?_ ?_;omega)|(refine zI ?_ ?_;exact nA)|refine sS ?_|refine sD ?_|intro _);conv=>whnf)
  exact PRet.gen (Wk.bool (by simp)) (.inr ⟨i, rfl, hi, h⟩)
end Go.Cb
namespace Go.Cb
open Go.Proofs
set_option maxRecDepth 100000
set_option maxHeartbeats 4000000
def delS (s : List Int) (m : Value → Option PV) (v : Value) : Option PV := match v with
 | .int .i64 k => if s.contains k then none else m v
 | v => m v
theorem delS_nil (m : Value → Option PV) : delS [] m = m := by
 funext v; unfold delS; split <;> simp
theorem PMapDel.dels {r : Nat} {s : List Int} {n : Int} {m : Value → Option PV} {Γ : List Ent} {pend : List (Int × Value)} {put : (Value → Option PV) → List (Int × Value) → List Ent} [hp : PickMp Γ r (.int .i64) (delS s m) pend put] {K : List Ent → Prop} (h : K (put (delS (s ++ [n]) m) [])) :
  PMapDel r (.int .i64) (some (.int .i64 n)) Γ K :=
 PMapDel.at_ (hp := hp) (delS (s ++ [n]) m) (by simp [MapKept.IsKey]) (by simp [delS]) (fun k hk => by
  unfold delS
  split
  ·rename_i m
   have hm : m ≠ n := fun e => hk (by rw [e])
   have : (s ++ [n]).contains m = s.contains m := by rw [Bool.eq_iff_iff]; simp [hm]
   rw [this]
  ·rfl) h
theorem delS_setM (v scope : List Int) (h : ∀ x ∈ scope, x ∉ v) : delS v (setM (scope ++ v)) = setM scope := by
 funext k
 unfold delS setM
 split
 ·rename_i n
  by_cases h1 : n ∈ v
  ·have : n ∉ scope := fun h2 => h n h2 h1
   simp [h1, this]
  ·simp [h1]
 ·rename_i hne
  split
  ·rename_i n; exact absurd rfl (hne n)
  ·rfl
theorem defer_c (b5 b6 rs : Nat) (op n : Int) (v : List Int) (ts : List PV) (m : Value → Option PV) (ps : List (Int × Value)) :
  ACallD Tryz.prog 145 [.ptr b5 0, .ptr b6 0] [.box b5 [.int .i64 op, .int .i64 n, .sl 1 (v.map (PV.int .i64)) none, .sl 4 ts none], .box b6 [.mp rs], .mp rs (.int .i64) m ps]
  (fun _ Γ' => ∃ ps', Γ' = [.box b5 [.int .i64 op, .int .i64 n, .sl 1 (v.map (PV.int .i64)) none, .sl 4 ts none], .box b6 [.mp rs], .mp rs (.int .i64) (delS v m) ps']) := by
 have key : ACallD Tryz.prog 145 [.ptr b5 0, .ptr b6 0] [.box b5 [.int .i64 op, .int .i64 n, .sl 1 (v.map (PV.int .i64)) none, .sl 4 ts none], .box b6 [.mp rs], .mp rs (.int .i64) (delS (v.take 0) m) ps]
   (fun _ Γ' => ∃ ps', Γ' = [.box b5 [.int .i64 op, .int .i64 n, .sl 1 (v.map (PV.int .i64)) none, .sl 4 ts none], .box b6 [.mp rs], .mp rs (.int .i64) (delS v m) ps']) := by
  refine ACallD.of_body tt_ok Tryz.func145 rfl rfl (n := 14) rfl rfl ?_
  conv => whnf
  repeat ((first|((first|(apply zY;intro hg)|apply zZ);first|exact stA)|(refine zW ?_ ?_;exact gA)|refine zH rfl ?_|refine zA ?_|refine zI bA ?_|refine zI rfl ?_|refine sB ?_|(refine zO ?_ ?_ ?_;omega;omega)|(refine zP ?_ ?_ ?_;omega;omega)|refine zM rfl ?_|(refine zQ ?_ ?_ ?_;omega;omega)|(refine zR ?_ ?_;omega)|(refine zI ?_ ?_;exact nA)|refine sS ?_|refine sD ?_|intro _);conv=>whnf)
  refine PLoop.over [3, 7, 8, 9, 10, 11, 12, 13] (fun (x : Nat × List (Int × Value)) => [(7, .int .i64 x.1)])
   (fun (x : Nat × List (Int × Value)) => [.box b5 [.int .i64 op, .int .i64 n, .sl 1 (v.map (PV.int .i64)) none, .sl 4 ts none], .box b6 [.mp rs], .mp rs (.int .i64) (delS (v.take x.1) m) x.2]) (fun x => x.1 ≤ v.length) (fun x => v.length - x.1) (0, ps) (by simp) wA ?_
  rintro ⟨i, ps'⟩ hi
  conv => whnf
  repeat' (first|((first|((first|(apply zY;intro hg)|apply zZ);first|exact stA)|(refine zW ?_ ?_;exact gA)|refine zH rfl ?_|refine zA ?_|refine zI bA ?_|refine zI rfl ?_|refine sB ?_|(refine zO ?_ ?_ ?_;omega;omega)|(refine zP ?_ ?_ ?_;omega;omega)|refine zM rfl ?_|(refine zQ ?_ ?_ ?_;omega;omega)|(refine zR ?_ ?_;omega)|(refine zI ?_ ?_;exact nA)|refine sS ?_|refine sD ?_|intro _|refine zG ?_);conv=>whnf)|(refine zX (fun hc => ?_) (fun hc => ?_)<;>(try simp only [SY] at hc)<;>first|omega|(conv=>whnf)))
  ·have hlt : i < v.length := by omega
   refine PMapDel.dels ?_
   conv => whnf
   repeat ((first|((first|(apply zY;intro hg)|apply zZ);first|exact stA)|(refine zW ?_ ?_;exact gA)|refine zH rfl ?_|refine zA ?_|refine zI bA ?_|refine zI rfl ?_|refine sB ?_|(refine zO ?_ ?_ ?_;omega;omega)|(refine zP ?_ ?_ ?_;omega;omega)|refine zM rfl ?_|(refine zQ ?_ ?_ ?_;omega;omega)|(refine zR ?_ ?_;omega)|(refine zI ?_ ?_;exact nA)|refine sS ?_|refine sD ?_|intro _);conv=>whnf)
   show LoopTo _ _ _ _ _ _ _ _ _ [_, _, .mp rs (.int .i64) (delS (v.take i ++ [v[i]]) m) []] _
   rw [← List.take_succ_eq_append_getElem hlt]
   exact loopTo (i + 1, []) (by show i + 1 ≤ v.length; omega) (by show v.length - (i + 1) < v.length - i; omega) wA
  ·refine ⟨rfl, ?_⟩
   have ht : v.take i = v := List.take_of_length_le (by omega)
   show retK _ _ _ [_, _, .mp rs (.int .i64) (delS (v.take i) m) ps'] _
   rw [ht]
   conv => whnf
   exact PRet.gen (Wk.refl _) ⟨ps', rfl⟩
 rw [List.take_zero, delS_nil] at key
 exact key
end Go.Cb
namespace Go.Cb
open Go.RowKit (Below)
set_option maxRecDepth 100000
set_option maxHeartbeats 4000000
section
variable {P : Program} {tt : Nat → TI}
structure Split0 (ops : Array Oper) (tab : List Nat) (A R1 R2 : List Nat) : Prop where
 pa : A.Pairwise fun j i => anc tab i j = true ∨ apartAt ops j i = true
 par : ∀ j ∈ A, ∀ i ∈ R1, anc tab i j = true ∨ apartAt ops j i = true
 r1 : R1.Pairwise fun j i => anc tab i j = true
 tl : ∀ j ∈ A ++ R1, ∀ i ∈ R2, anc tab i j = true
 ug : ∀ i ∈ R1, ∀ o, ops[i]? = some o → o.guard = none
 nd : ∀ i ∈ R1, ∀ o, ops[i]? = some o → noDef o.op = true
theorem Split0.dropA {ops : Array Oper} {tab A1 A2 R1 R2 : List Nat} {i : Nat} (h : Split0 ops tab (A1 ++ i :: A2) R1 R2) : Split0 ops tab (A1 ++ A2) R1 R2 := by
 have hs : List.Sublist (A1 ++ A2) (A1 ++ i :: A2) := List.Sublist.append (List.Sublist.refl _) (List.sublist_cons_self _ _)
 refine ⟨h.pa.sublist hs, fun j hj => h.par j (hs.subset hj), h.r1, fun j hj => h.tl j ?_, h.ug, h.nd⟩
 ·exact (List.Sublist.append hs (List.Sublist.refl R1)).subset hj
theorem Split0.dropR {ops : Array Oper} {tab A R1 R2 : List Nat} {i : Nat} (h : Split0 ops tab A (i :: R1) R2) : Split0 ops tab A R1 R2 := by
 have hs : List.Sublist (A ++ R1) (A ++ i :: R1) := List.Sublist.append (List.Sublist.refl _) (List.sublist_cons_self _ _)
 exact ⟨h.pa, fun j hj i hi => h.par j hj i (by simp [hi]), (List.pairwise_cons.1 h.r1).2, fun j hj => h.tl j (hs.subset hj), fun j hj => h.ug j (by simp [hj]), fun j hj => h.nd j (by simp [hj])⟩
theorem game0 (hk : TT.ok P tt) (rd : Option Nat) (nn : Nat) {ops : Array Oper} {tab R2 : List Nat} (hc : tabChk ops tab = true) {w0 : World} {M Γ2 : List Ent} {F0 : Fz} {ds : List Deferred} {Q' : Exit → Act → World → Prop}
  {Tl : List PV → List Ent → Prop} (hTl : ∀ (fuel : Nat) (listed : Array Bool) (T : List PV) (Γ : List Ent) (F : Fz) (a : Act) (w : World), R2.length ≤ fuel → Down ops listed → Pend ops listed R2 → F0.le F → Sim w0 F (Γ ++ M) w → RepT F T a.tmps.toList → a.defers = ds →
   Tl T Γ → wpAnyIn (Fen rd) nn P .any ops Q' fuel listed a w) :
  ∀ (n : Nat) (A R1 : List Nat) (fuel : Nat) (listed : Array Bool) (T : List PV) (Γ1 : List Ent) (F : Fz) (a : Act) (w : World), A.length + R1.length = n → n + R2.length ≤ fuel →
   Down ops listed → Pend ops listed (A ++ (R1 ++ R2)) → Split0 ops tab A R1 R2 → F0.le F → Sim w0 F (Γ1 ++ (Γ2 ++ M)) w → RepT F T a.tmps.toList → a.defers = ds →
   (SSeq P tt ops.toList (A.filterMap (ops[·]?)) T Γ2 fun T' => WOps P tt ops.toList (R1.filterMap (ops[·]?)) T' Γ1 [] fun T2 Γ1' _ => Tl T2 (Γ1' ++ Γ2)) →
   wpAnyIn (Fen rd) nn P .any ops Q' fuel listed a w := by
 intro n
 induction n with
 | zero =>
  intro A R1 fuel listed T Γ1 F a w hn hf hd hp hsp hle hS hT hds h
  obtain rfl : A = [] := List.eq_nil_of_length_eq_zero (by omega)
  obtain rfl : R1 = [] := List.eq_nil_of_length_eq_zero (by omega)
  exact hTl fuel listed T (Γ1 ++ Γ2) F a w (by simp at hn; omega) hd (by simpa using hp) hle (by simpa using hS) hT hds h
 | succ n ih =>
  intro A R1 fuel listed T Γ1 F a w hn hf hd hp hsp hle hS hT hds h
  cases fuel with
  | zero => omega
  | succ fuel =>
  refine ⟨fun hnil => ?_, fun i hi => ?_⟩
  ·exfalso
   cases hAR : A ++ (R1 ++ R2) with
   | nil => simp at hAR; rw [hAR.1, hAR.2.1] at hn; simp at hn
   | cons x xs =>
    rw [hAR] at hp
    obtain ⟨k, hk'⟩ := ready_exists hc hp
    rw [hnil] at hk'
    cases hk'
  ·obtain ⟨o, ho⟩ := hp.2.2 i (hp.ready hi)
   have un : ∀ {j : Nat}, j ∈ A ++ (R1 ++ R2) → anc tab i j = true → False := fun {j} hj ha => blocked hc hd i ho ha ((hp.2.1 j).2 hj) hi
   have free : ∀ {j : Nat} {x : Oper}, j ∈ A ++ (R1 ++ R2) → ops[j]? = some x → (anc tab i j = true ∨ apartAt ops j i = true) → x.apart ops o = true := by
    intro j x hj hx h
    rcases h with h | h
    ·exact (un hj h).elim
    ·simpa [apartAt, hx, ho] using h
   have hmem := hp.ready hi
   rw [List.mem_append, List.mem_append] at hmem
   rcases hmem with hm | hm | hm
   ·
    obtain ⟨A1, A2, rfl⟩ := List.append_of_mem hm
    rw [filterMap_split ho] at h
    have hap : ∀ x ∈ A1.filterMap (ops[·]?), x.apart ops o = true := by
     intro x hx
     obtain ⟨j, hj, hx⟩ := List.mem_filterMap.1 hx
     exact free (by simp [hj]) hx ((List.pairwise_append.1 hsp.pa).2.2 j hj i (by simp))
    obtain ⟨v, h1, h2⟩ := SSeq_move _ T hap h
    have hS2 : Sim w0 F (Γ2 ++ (Γ1 ++ M)) w := hS.perm (by
     rw [← List.append_assoc, ← List.append_assoc]
     exact List.perm_append_comm.append_right M)
    unfold wpOpIn
    simp only [ho]
    have key := SVal_sound hk (rd := rd) (nn := nn) (Q := Q') (next := fun a w => wpAnyIn (Fen rd) nn P .any ops Q' fuel (listed.setIfInBounds i true) a w) hS2 hT h1 ?_
    ·split at key <;> rename_i hw
     ·rw [if_pos hw]; exact key
     ·rw [if_neg hw]; exact ⟨fun _ _ => trivial, key⟩
    intro F' u w' hle' hS' hx
    refine ih (A1 ++ A2) R1 fuel _ (putT T o.dst v) Γ1 F' _ w' (by simp at hn ⊢; omega) (by omega) (hd.set hi) ?_ hsp.dropA (Fz.le_trans hle hle') ?_ (put_rep (RepT.mono hle' _ _ hT) hx o.dst)
     ((put_defers a o.dst u).trans hds) ?_
    ·have := Pend.set (l1 := A1) (l2 := A2 ++ (R1 ++ R2)) (i := i) (by simpa using hp)
     rwa [List.append_assoc]
    ·exact hS'.perm (by
      rw [← List.append_assoc, ← List.append_assoc]
      exact List.perm_append_comm.append_right M)
    ·rw [List.filterMap_append]; exact h2
   ·
    cases R1 with
    | nil => cases hm
    | cons r R1 =>
     rcases List.mem_cons.1 hm with hir | hir
     ·subst hir
      have hg : o.guard = none := hsp.ug i (by simp) o ho
      have e1 : (i :: R1).filterMap (ops[·]?) = o :: R1.filterMap (ops[·]?) := by rw [List.filterMap_cons, ho]
      rw [e1] at h
      have hap : ∀ x ∈ A.filterMap (ops[·]?), x.apart ops o = true := by
       intro x hx
       obtain ⟨j, hj, hx⟩ := List.mem_filterMap.1 hx
       exact free (by simp [hj]) hx (hsp.par j hj i (by simp))
      have h2 := SSeq_eff (kk := fun T' Γ1' => WOps P tt ops.toList (R1.filterMap (ops[·]?)) T' Γ1' [] fun T2 Γ1' _ => Tl T2 (Γ1' ++ Γ2)) _ T hap (by
       have hnd := hsp.nd i (by simp) o ho
       simpa only [WOps, hg, WOpD_noDef hnd, putK_T] using h)
      unfold wpOpIn
      simp only [ho]
      rw [if_pos (by simp [Region.wanted, hg])]
      refine WOp_sound hk (M := Γ2 ++ M) hS hT h2 ?_
      rintro F' x Γ' v' w' hle' hS' hx hK
      refine ih A R1 fuel _ (putT T o.dst x) Γ' F' _ w' (by simp at hn ⊢; omega) (by omega) (hd.set hi) ?_ hsp.dropR (Fz.le_trans hle hle') hS' (put_rep (RepT.mono hle' _ _ hT) hx o.dst)
       ((put_defers a o.dst v').trans hds) hK
      have := Pend.set (l1 := A) (l2 := R1 ++ R2) (i := i) (by simpa using hp)
      simpa using this
     ·exact (un (j := r) (by simp) ((List.pairwise_cons.1 hsp.r1).1 i hir)).elim
   ·
    exfalso
    cases A with
    | cons j A => exact un (j := j) (by simp) (hsp.tl j (by simp) i hm)
    | nil =>
     cases R1 with
     | cons j R1 => exact un (j := j) (by simp) (hsp.tl j (by simp) i hm)
     | nil => simp at hn
def split2B (ops : Array Oper) (tab A R1 B R2 : List Nat) : Bool :=
 tabChk ops tab &&
 pairB (fun j i => anc tab i j || apartAt ops j i) A && A.all (fun j => R1.all fun i => anc tab i j || apartAt ops j i) &&
 pairB (fun j i => anc tab i j) R1 && (A ++ R1).all (fun j => (B ++ R2).all fun i => anc tab i j) &&
 R1.all (fun i => match ops[i]? with | some o => o.guard.isNone | none => false) && (R1 ++ R2).all (fun i => match ops[i]? with | some o => noDef o.op | none => false) &&
 pairB (fun j i => anc tab i j || apartAt ops j i) B && pairB (fun j i => anc tab i j) R2 && B.all (fun j => R2.all fun i => anc tab i j) &&
 pairB (fun j i => !(Nat.beq j i)) (A ++ (R1 ++ (B ++ R2))) && (List.range ops.size).all (fun i => (A ++ (R1 ++ (B ++ R2))).contains i) && (A ++ (R1 ++ (B ++ R2))).all (fun i => Nat.blt i ops.size)
theorem Split0.of {ops : Array Oper} {tab A R1 B R2 : List Nat} (h : split2B ops tab A R1 B R2 = true) :
  tabChk ops tab = true ∧ Split0 ops tab A R1 (B ++ R2) ∧ Split ops tab B [] R2 ∧ Pend ops (Array.replicate ops.size false) (A ++ (R1 ++ (B ++ R2))) := by
 simp only [split2B, Bool.and_eq_true] at h
 obtain ⟨⟨⟨⟨⟨⟨⟨⟨⟨⟨⟨⟨h0, h1⟩, h2⟩, h3⟩, h5⟩, h6⟩, h6'⟩, b1⟩, b2⟩, b3⟩, h7⟩, h8⟩, h9⟩ := h
 have hlt : ∀ i ∈ A ++ (R1 ++ (B ++ R2)), i < ops.size := fun i hi => by
  have := List.all_eq_true.1 h9 i hi
  simpa [Nat.blt, Nat.succ_le_iff] using this
 have hnd : ∀ i ∈ R1 ++ R2, ∀ o, ops[i]? = some o → noDef o.op = true := by
  intro i hi o ho
  have := List.all_eq_true.1 h6' i hi
  rw [ho] at this
  exact this
 refine ⟨h0, ⟨?_, ?_, pairB_iff h3, ?_, ?_, fun i hi => hnd i (by simp [hi])⟩, ⟨?_, fun _ _ _ h => (by cases h), List.Pairwise.nil, pairB_iff b2, ?_, fun _ h => (by cases h), fun i hi => hnd i (by simpa using .inr (by simpa using hi))⟩, ?_, ?_, ?_⟩
 ·exact (pairB_iff h1).imp fun h => by simpa using h
 ·intro j hj i hi
  have := List.all_eq_true.1 (List.all_eq_true.1 h2 j hj) i hi
  simpa using this
 ·intro j hj i hi
  exact List.all_eq_true.1 (List.all_eq_true.1 h5 j hj) i hi
 ·intro i hi o ho
  have := List.all_eq_true.1 h6 i hi
  rw [ho] at this
  simpa using this
 ·exact (pairB_iff b1).imp fun h => by simpa using h
 ·intro j hj i hi
  exact List.all_eq_true.1 (List.all_eq_true.1 b3 j (by simpa using hj)) i hi
 ·exact (pairB_iff h7).imp fun h => by
   intro e
   subst e
   simp at h
 ·intro i
  constructor
  ·intro hi
   rcases Nat.lt_or_ge i ops.size with h' | h'
   ·have := List.all_eq_true.1 h8 i (List.mem_range.2 h')
    simpa only [List.contains_iff_mem] using this
   ·simp [Array.getElem?_eq_none, h'] at hi
  ·intro hi
   simp [hlt i hi]
 ·intro i hi
  exact ⟨_, Array.getElem?_eq_getElem (hlt i hi)⟩
theorem PDraw.split2 (hk : TT.ok P tt) (hm : P.follows .mixedOrders = true) {ops : Array Oper} {T : List PV} {Γ Γ2 : List Ent} {K : List PV → List Ent → Prop} (tab A R1 B R2 : List Nat) (Γ1 : List Ent)
  (hchk : split2B ops tab A R1 B R2 = true) [hp : PickL Γ Γ1 Γ2]
  (h : SSeq P tt ops.toList (pickO ops.toList A) T Γ2 fun T' => WOps P tt ops.toList (pickO ops.toList R1) T' Γ1 [] fun T2 Γ1' _ => appE Γ1' Γ2 fun Γ' =>
   SSeq P tt ops.toList (pickO ops.toList B) T2 Γ' fun T3 => WOps P tt ops.toList (pickO ops.toList R2) T3 Γ' [] fun T' Γ' _ => K T' Γ') : PDraw P ops T Γ K := by
 refine ⟨fun rd nn id w0 F M w a Q' hS hT hQ => wpIn_region_any hm ?_⟩
 obtain ⟨hc, hsp, hsp2, hpend⟩ := Split0.of hchk
 have hlen : A.length + R1.length + (B ++ R2).length ≤ ops.size := by
  have hsub : (A ++ (R1 ++ (B ++ R2))) ⊆ List.range ops.size := fun i hi => by
   obtain ⟨o, ho⟩ := hpend.2.2 i hi
   exact List.mem_range.2 (Array.getElem?_eq_some_iff.1 ho).1
  have := hpend.1.length_le_of_subset hsub
  simpa [Nat.add_assoc] using this
 have hS' : Sim w0 F (Γ1 ++ (Γ2 ++ M)) { w with drawn := w.drawn + 1 } := by
  have := (hS.perm (hp.p.append_right M)).of_heap (w' := { w with drawn := w.drawn + 1 }) rfl rfl rfl rfl
  simpa using this
 refine game0 hk rd nn hc (R2 := B ++ R2) (F0 := F) (ds := a.defers) (Tl := fun T2 Γ' => SSeq P tt ops.toList (pickO ops.toList B) T2 Γ' fun T3 => WOps P tt ops.toList (pickO ops.toList R2) T3 Γ' [] fun T' Γ' _ => K T' Γ') ?_ _ A R1 ops.size _ T Γ1 F a _ rfl hlen ?_ hpend hsp (Fz.le_refl F) hS' hT rfl ?_
 ·intro fuel listed T2 Γ' F' a' w' hf hd hpd hle hS2 hT2 hds ht
  refine game hk rd nn hc (R2 := R2) (F0 := F) (ds := a.defers) hQ _ B [] fuel listed T2 [] F' a' w' rfl (by simpa using hf) hd (by simpa using hpd) hsp2 hle (Γ2 := Γ') (by simpa using hS2) hT2 hds ?_
  simpa only [pickO_eq, Array.getElem?_toList, List.filterMap_nil, WOps, List.nil_append] using ht
 ·intro k o hk'
  rcases Nat.lt_or_ge k ops.size with h' | h'
  ·simp [h'] at hk'
  ·intro ho
   have := (Array.getElem?_eq_some_iff.1 ho).1
   omega
 ·simpa only [pickO_eq, Array.getElem?_toList, appE_eq] using h
theorem PCallD.go {f : FuncId} {args args' : List PV} {Γ Γ1 Γ2 : List Ent} {Q K : PV → List Ent → Prop} (h : ACallD P f args' Γ1 Q) (hw : WkT args args') [hp : PickL Γ Γ1 Γ2]
  (k : ∀ y Γ1', Q y Γ1' → appE Γ1' Γ2 fun Γ' => K y Γ') : PCallD P f args Γ K := PCallD.gen h hw (hp := hp) fun y Γ1' hq => by have := k y Γ1' hq; rwa [appE_eq] at this
theorem Wk.opt {q : Bool} (h : q = true) (x : PV) : Wk (.opt q x) x := fun F v r => by
 simp only [Rep] at r
 exact r.1 h
theorem PSliceM.hi {sz : Nat} {Γ : List Ent} {t : Tok} {es : List PV} {put : Tok → List PV → List Ent} [hp : PickRow Γ t es put] {k : IntKind} {n : Int} {i : Nat} [x : IdxOf n i] {K : PV → List Ent → Prop} (hs : t.s = sz) (h0 : 0 ≤ n) (hl : n ≤ es.length)
  (hk : ∀ t' : Tok, t'.e = t.e → t'.s = t.s → K (.ms t') (put t' (es.take i))) : PSliceT sz t none (some (.int k n)) Γ K := by
 obtain ⟨Γ1, Γ2, h1, h2⟩ := hp.at_
 have e := x.eq h0
 exact ⟨.inl ⟨es, Γ1, Γ2, i, h1, hs, rfl, e, by omega, fun t' a b => by rw [← h2]; exact hk t' a b⟩⟩
theorem PSliceT.tail {sz : Nat} {Γ : List Ent} {t : Tok} {es : List PV} {put : Tok → List PV → List Ent} [hp : PickRow Γ t es put] {k : IntKind} {n : Int} {i : Nat} [x : IdxOf n i] {K : PV → List Ent → Prop} (hs : t.s = sz) (h0 : 0 ≤ n) (hl : n ≤ es.length)
  (hk : ∀ v, tailOf t i v → K (.sc v) Γ) : PSliceT sz t (some (.int k n)) none Γ K := by
 obtain ⟨Γ1, Γ2, h1, h2⟩ := hp.at_
 have e := x.eq h0
 exact ⟨.inr ⟨rfl, es, i, by rw [h1]; simp, hs, e, by omega, hk⟩⟩
theorem PClear.at_ {Γ : List Ent} {t : Tok} {es : List PV} {put : Tok → List PV → List Ent} [hp : PickRow Γ t es put] {k : IntKind} {n : Int} {l : Nat} {v : Value} {K : List Ent → Prop} (hv : tailOf t l v) (hs : t.s = 1) (hl : l ≤ es.length)
  (hk : K (put t (es.take l ++ List.replicate (es.length - l) (.int k n)))) : PClear (.int k n) v Γ K := by
 obtain ⟨Γ1, Γ2, h1, h2⟩ := hp.at_
 rw [h2] at hk
 exact ⟨k, n, rfl, t, es, l, Γ1, Γ2, hv, h1, hs, hl, hk⟩
end
end Go.Cb
namespace Go.Cb
open Go.Proofs
set_option maxRecDepth 100000
set_option maxHeartbeats 4000000
def badP (level consts codes : Int) (free : Bool) (t : Trm) (scope : List Int) (deep size : Int) : Bool :=
 !(shapeL t.op).2 || decide (deep > 400) || decide (size > 20000) || decide (level < (shapeL t.op).1.fm) || decide (level > (shapeL t.op).1.to) || !fitsL (shapeL t.op).1 t || !numberP consts codes free t scope
mutual
def Trm.ckP (level consts codes : Int) (free : Bool) : Trm → List Int → Int → Int → List Int → Option (Int × List Int)
 | .mk op n v t, scope, deep, size, bound =>
  if badP level consts codes free (.mk op n v t) scope deep (size + 1) = true then none else
  if groupB op = true then
   if (op == 9 && !procsL level t.dropLast) = true then none else if (bindR v bound).1 = true then Trm.cksG level consts codes free (scope ++ v) t (deep + 1) (size + 1) (bound ++ v) else none
  else Trm.cksI level consts codes free scope v t (deep + 1) (size + 1) bound
def Trm.cksG (level consts codes : Int) (free : Bool) (scope : List Int) : List Trm → Int → Int → List Int → Option (Int × List Int)
 | [], _, size, bound => some (size, bound)
 | x :: xs, deep, size, bound =>
  match Trm.ckP level consts codes free x scope deep size bound with
  | none => none
  | some (s, b) => Trm.cksG level consts codes free scope xs deep s b
def Trm.cksI (level consts codes : Int) (free : Bool) (scope v : List Int) : List Trm → Int → Int → List Int → Option (Int × List Int)
 | [], _, size, bound => if (bindR v bound).1 = true then some (size, bound ++ v) else none
 | x :: xs, deep, size, bound =>
  if xs.isEmpty = true then (if (bindR v bound).1 = true then Trm.ckP level consts codes free x (scope ++ v) deep size (bound ++ v) else none) else
  match Trm.ckP level consts codes free x scope deep size bound with
  | none => none
  | some (s, b) => Trm.cksI level consts codes free scope v xs deep s b
end
theorem Trm.ckP_eq (level consts codes : Int) (free : Bool) (t : Trm) (scope : List Int) (deep size : Int) (bound : List Int) : t.ckP level consts codes free scope deep size bound =
  if badP level consts codes free t scope deep (size + 1) = true then none else
  if groupB t.op = true then
   if (t.op == 9 && !procsL level t.t.dropLast) = true then none else if (bindR t.v bound).1 = true then Trm.cksG level consts codes free (scope ++ t.v) t.t (deep + 1) (size + 1) (bound ++ t.v) else none
  else Trm.cksI level consts codes free scope t.v t.t (deep + 1) (size + 1) bound := by
 cases t; rw [Trm.ckP]; rfl
theorem Trm.ckP_bd (level consts codes : Int) (free : Bool) (x : Trm) : ∀ (scope : List Int) (deep size : Int) (bound : List Int) (s : Int) (b : List Int), x.ckP level consts codes free scope deep size bound = some (s, b) →
  size < s ∧ s ≤ 20000 ∧ ∀ v ∈ bound, v ∈ b := by
 induction x using Trm.ind with
 | h x ih =>
  intro scope deep size bound s b h
  rw [Trm.ckP_eq] at h
  split at h
  ·cases h
  rename_i hc
  have hsz : size + 1 ≤ 20000 := by simp [badP] at hc; omega
  split at h
  ·split at h
   ·cases h
   split at h
   ·have key : ∀ (l : List Trm), (∀ y ∈ l, ∀ (scope : List Int) (deep size : Int) (bound : List Int) (s : Int) (b : List Int), y.ckP level consts codes free scope deep size bound = some (s, b) → size < s ∧ s ≤ 20000 ∧ ∀ v ∈ bound, v ∈ b) →
      ∀ (sc : List Int) (deep size : Int) (bound : List Int) (s : Int) (b : List Int), size ≤ 20000 → Trm.cksG level consts codes free sc l deep size bound = some (s, b) → size ≤ s ∧ s ≤ 20000 ∧ ∀ v ∈ bound, v ∈ b := by
     intro l
     induction l with
     | nil => intro _ sc deep size bound s b h0 h; rw [Trm.cksG] at h; cases h; exact ⟨by omega, by omega, fun _ h => h⟩
     | cons y l ihl =>
      intro hy sc deep size bound s b h0 h
      rw [Trm.cksG] at h
      split at h
      ·cases h
      ·rename_i s1 b1 h1
       have e1 := hy y (by simp) _ _ _ _ _ _ h1
       have e2 := ihl (fun z hz => hy z (by simp [hz])) _ _ _ _ _ _ (by omega) h
       exact ⟨by omega, e2.2.1, fun v hv => e2.2.2 v (e1.2.2 v hv)⟩
    have := key x.t ih _ _ _ _ _ _ hsz h
    exact ⟨by omega, this.2.1, fun v hv => this.2.2 v (by simp [hv])⟩
   ·cases h
  ·have key : ∀ (l : List Trm), (∀ y ∈ l, ∀ (scope : List Int) (deep size : Int) (bound : List Int) (s : Int) (b : List Int), y.ckP level consts codes free scope deep size bound = some (s, b) → size < s ∧ s ≤ 20000 ∧ ∀ v ∈ bound, v ∈ b) →
     ∀ (sc : List Int) (deep size : Int) (bound : List Int) (s : Int) (b : List Int), size ≤ 20000 → Trm.cksI level consts codes free sc x.v l deep size bound = some (s, b) → size ≤ s ∧ s ≤ 20000 ∧ ∀ v ∈ bound, v ∈ b := by
    intro l
    induction l with
    | nil =>
     intro _ sc deep size bound s b h0 h
     rw [Trm.cksI] at h
     split at h
     ·cases h; exact ⟨by omega, by omega, fun _ h => by simp [h]⟩
     ·cases h
    | cons y l ihl =>
     intro hy sc deep size bound s b h0 h
     rw [Trm.cksI] at h
     split at h
     ·split at h
      ·have e1 := hy y (by simp) _ _ _ _ _ _ h
       exact ⟨by omega, e1.2.1, fun v hv => e1.2.2 v (by simp [hv])⟩
      ·cases h
     split at h
     ·cases h
     ·rename_i s1 b1 h1
      have e1 := hy y (by simp) _ _ _ _ _ _ h1
      have e2 := ihl (fun z hz => hy z (by simp [hz])) _ _ _ _ _ _ (by omega) h
      exact ⟨by omega, e2.2.1, fun v hv => e2.2.2 v (e1.2.2 v hv)⟩
   have := key x.t ih _ _ _ _ _ _ hsz h
   exact ⟨by omega, this.2⟩
def rPost (c rb rs : Nat) (level consts codes : Int) (free : Bool) (scope : List Int) (r : Option (Int × List Int)) (y : PV) (Γ' : List Ent) : Prop :=
 y = .bool r.isSome ∧ ∃ size' mb ms pb' ps', Γ' = [.box c (cpC level consts codes size' free rb), .mp rb (.int .i64) mb pb', .mp rs (.int .i64) ms ps'] ∧ ∀ s b, r = some (s, b) → size' = s ∧ mb = setM b ∧ ms = setM scope
theorem right2p_c (c rb rs b4 b6 b7 : Nat) (level consts codes : Int) (free : Bool) (x : Trm) (scope : List Int) (deep size : Int) (bound : List Int) (pb ps : List (Int × Value)) (hd0 : 0 ≤ deep) (hd1 : deep ≤ 400)
  (hx : ACall Tryz.prog 83 [.ptr c 0, .agg x.cells, .mp rs, .int .i64 (deep + 1)] [.box c (cpC level consts codes size free rb), .mp rb (.int .i64) (setM bound) pb, .mp rs (.int .i64) (setM scope) ps]
   (rPost c rb rs level consts codes free scope (x.ckP level consts codes free scope (deep + 1) size bound))) :
  ACall Tryz.prog 147 [.agg x.cells, .ptr b4 0, .ptr b6 0, .ptr b7 0] [.box c (cpC level consts codes size free rb), .mp rb (.int .i64) (setM bound) pb, .mp rs (.int .i64) (setM scope) ps, .box b4 [.ptr c 0], .box b6 [.mp rs], .box b7 [.int .i64 deep]]
   (fun y Γ' => ∃ size' mb ms pb' ps', y = .bool (!(x.ckP level consts codes free scope (deep + 1) size bound).isSome) ∧ Γ' = [.box c (cpC level consts codes size' free rb), .mp rb (.int .i64) mb pb', .mp rs (.int .i64) ms ps', .box b4 [.ptr c 0], .box b6 [.mp rs], .box b7 [.int .i64 deep]] ∧
    ∀ s b, x.ckP level consts codes free scope (deep + 1) size bound = some (s, b) → size' = s ∧ mb = setM b ∧ ms = setM scope) := by
 refine ACall.of_body tt_ok Tryz.func147 rfl rfl (n := 13) rfl rfl ?_
 conv => whnf
 repeat' (first|((first|((first|(apply zY;intro hg)|apply zZ);first|exact stA)|(refine zW ?_ ?_;exact gA)|refine zH rfl ?_|refine zA ?_|refine zI bA ?_|refine zI rfl ?_|refine sB ?_|(refine zO ?_ ?_ ?_;omega;omega)|(refine zP ?_ ?_ ?_;omega;omega)|refine zM rfl ?_|(refine zQ ?_ ?_ ?_;omega;omega)|(refine zR ?_ ?_;omega)|(refine zI ?_ ?_;exact nA)|refine sS ?_|refine sD ?_|intro _|refine zG ?_);conv=>whnf)|(refine zX (fun hc => ?_) (fun hc => ?_)<;>(try simp only [SY] at hc)<;>first|omega|(conv=>whnf)))
 refine PCall.go hx (WkT.refl _) ?_
 rintro _ _ ⟨rfl, sz2, mb, ms, pb2, ps2, rfl, hs⟩
 conv => whnf
 repeat' (first|((first|((first|(apply zY;intro hg)|apply zZ);first|exact stA)|(refine zW ?_ ?_;exact gA)|refine zH rfl ?_|refine zA ?_|refine zI bA ?_|refine zI rfl ?_|refine sB ?_|(refine zO ?_ ?_ ?_;omega;omega)|(refine zP ?_ ?_ ?_;omega;omega)|refine zM rfl ?_|(refine zQ ?_ ?_ ?_;omega;omega)|(refine zR ?_ ?_;omega)|(refine zI ?_ ?_;exact nA)|refine sS ?_|refine sD ?_|intro _|refine zG ?_);conv=>whnf)|(refine zX (fun hc => ?_) (fun hc => ?_)<;>(try simp only [SY] at hc)<;>first|omega|(conv=>whnf)))
 exact PRet.gen (Wk.refl _) ⟨sz2, mb, ms, pb2, ps2, rfl, rfl, hs⟩
theorem all2p_c (c rb rs b4 b6 b7 : Nat) (level consts codes : Int) (free : Bool) (l : List Trm) (scope : List Int) (deep : Int) (hd0 : 0 ≤ deep) (hd1 : deep ≤ 400)
  (ih : ∀ x ∈ l, ∀ (size : Int) (bound : List Int) (pb ps : List (Int × Value)), 0 ≤ size → size ≤ 20000 → (∀ x ∈ scope, x ∈ bound) → ACall Tryz.prog 83 [.ptr c 0, .agg x.cells, .mp rs, .int .i64 (deep + 1)] [.box c (cpC level consts codes size free rb), .mp rb (.int .i64) (setM bound) pb, .mp rs (.int .i64) (setM scope) ps]
   (rPost c rb rs level consts codes free scope (x.ckP level consts codes free scope (deep + 1) size bound)))
  (size : Int) (bound : List Int) (pb ps : List (Int × Value)) (hs0 : 0 ≤ size) (hs1 : size ≤ 20000) (hsub : ∀ x ∈ scope, x ∈ bound) :
  ACall Tryz.prog 146 [.sl 4 (l.map Trm.pv) none, .fn (.func 147) [.ptr b4 0, .ptr b6 0, .ptr b7 0]] [.box c (cpC level consts codes size free rb), .mp rb (.int .i64) (setM bound) pb, .mp rs (.int .i64) (setM scope) ps, .box b4 [.ptr c 0], .box b6 [.mp rs], .box b7 [.int .i64 deep]]
   (fun y Γ' => ∃ size' mb ms pb' ps', y = .bool (!(Trm.cksG level consts codes free scope l (deep + 1) size bound).isSome) ∧ Γ' = [.box c (cpC level consts codes size' free rb), .mp rb (.int .i64) mb pb', .mp rs (.int .i64) ms ps', .box b4 [.ptr c 0], .box b6 [.mp rs], .box b7 [.int .i64 deep]] ∧
    ∀ s b, Trm.cksG level consts codes free scope l (deep + 1) size bound = some (s, b) → size' = s ∧ mb = setM b ∧ ms = setM scope) := by
 refine (containsFuncTrmS_c 147 [.ptr b4 0, .ptr b6 0, .ptr b7 0] l
  (fun i Γ => ∃ sz bd pb ps, Γ = [.box c (cpC level consts codes sz free rb), .mp rb (.int .i64) (setM bd) pb, .mp rs (.int .i64) (setM scope) ps, .box b4 [.ptr c 0], .box b6 [.mp rs], .box b7 [.int .i64 deep]] ∧ 0 ≤ sz ∧ sz ≤ 20000 ∧ (∀ x ∈ scope, x ∈ bd) ∧ Trm.cksG level consts codes free scope l (deep + 1) size bound = Trm.cksG level consts codes free scope (l.drop i) (deep + 1) sz bd)
  (fun _ Γ => ∃ sz mb ms pb ps, Γ = [.box c (cpC level consts codes sz free rb), .mp rb (.int .i64) mb pb, .mp rs (.int .i64) ms ps, .box b4 [.ptr c 0], .box b6 [.mp rs], .box b7 [.int .i64 deep]] ∧ Trm.cksG level consts codes free scope l (deep + 1) size bound = none)
  ?_ _ ⟨size, bound, pb, ps, rfl, hs0, hs1, hsub, rfl⟩).mono ?_
 ·rintro i x _ hx ⟨sz, bd, pb, ps, rfl, h0, h1, h2, h3⟩
  obtain ⟨hi, rfl⟩ := List.getElem?_eq_some_iff.1 hx
  refine (right2p_c c rb rs b4 b6 b7 level consts codes free l[i] scope deep sz bd pb ps hd0 hd1 (ih _ (List.getElem_mem _) sz bd pb ps h0 h1 h2)).mono ?_
  rintro _ _ ⟨sz2, mb, ms, pb2, ps2, rfl, rfl, hs⟩
  rw [drop_at hi, Trm.cksG] at h3
  cases e : Trm.ckP level consts codes free l[i] scope (deep + 1) sz bd with
  | none => rw [e] at h3; exact .inr ⟨by simp [PV.bool], sz2, mb, ms, pb2, ps2, rfl, h3⟩
  | some q =>
   obtain ⟨s1, b1⟩ := q
   obtain ⟨rfl, rfl, rfl⟩ := hs s1 b1 e
   have hbd := Trm.ckP_bd _ _ _ _ _ _ _ _ _ _ _ e
   rw [e] at h3
   exact .inl ⟨by simp [PV.bool], sz2, b1, pb2, ps2, rfl, by omega, hbd.2.1, fun x h => hbd.2.2 x (h2 x h), h3⟩
 ·rintro _ _ (⟨rfl, sz, bd, pb, ps, rfl, h0, h1, h2, h3⟩ | ⟨i, rfl, hi, sz, mb, ms, pb, ps, rfl, h3⟩)
  ·rw [List.drop_length, Trm.cksG] at h3
   rw [h3]
   exact ⟨sz, setM bd, setM scope, pb, ps, rfl, rfl, fun s b h => by cases h; exact ⟨rfl, rfl, rfl⟩⟩
  ·rw [h3]
   exact ⟨sz, mb, ms, pb, ps, rfl, rfl, fun s b h => by cases h⟩
theorem cksI_end {level consts codes : Int} {free : Bool} {scope v : List Int} {l : List Trm} {deep size : Int} {bound : List Int} (h : l.length ≤ 1) :
  Trm.cksI level consts codes free scope v l deep size bound = if (bindR v bound).1 = true then Trm.cksG level consts codes free (scope ++ v) l deep size (bound ++ v) else none := by
 match l, h with
 | [], _ => rw [Trm.cksI, Trm.cksG]
 | [x], _ =>
  rw [Trm.cksI, if_pos (show ([] : List Trm).isEmpty = true from rfl), Trm.cksG]
  split
  ·cases hx : Trm.ckP level consts codes free x (scope ++ v) deep size (bound ++ v) with
   | none => rfl
   | some q => obtain ⟨s, b⟩ := q; simp only [Trm.cksG]
  ·rfl
 | _ :: _ :: _, h => simp at h
theorem bindR_apart : ∀ {l bound : List Int}, (bindR l bound).1 = true → ∀ x, x ∈ l → x ∈ bound → False
 | [], _, _, _, h, _ => by cases h
 | v :: l, bound, h, x, hx, hb => by
  rw [bindR] at h
  split at h
  ·rename_i hv
   rcases List.mem_cons.1 hx with rfl | hx
   ·simp [vOk, hb] at hv
   ·exact bindR_apart h x hx (by simp [hb])
  ·cases h
theorem right_end {r ck : Option (Int × List Int)} {a : Int} {b : Bool} (hck : ck = if (a == 9 && !b) = true then none else r) : (!!r.isSome && (a != 9 || b)) = ck.isSome := by
 subst hck
 cases h : a == 9 <;> cases b <;> cases r <;> simp_all [bne]
theorem fits9 {t : Trm} (h : fitsL (shapeL t.op).1 t = true) (h9 : t.op = 9) : 1 ≤ t.t.length := by
 have e : shapeL 9 = (⟨1, 3, 0, false, true⟩, true) := rfl
 rw [h9, e] at h
 simp [fitsL, h9] at h
 omega
theorem rightp_c (c rb rs : Nat) (level consts codes : Int) (free : Bool) (t : Trm) : ∀ (scope : List Int) (deep size : Int) (bound : List Int) (pb ps : List (Int × Value)), 0 ≤ deep → deep ≤ 401 → 0 ≤ size → size ≤ 20000 → (∀ x ∈ scope, x ∈ bound) → t.bulk ≤ 1000000000 →
  ACall Tryz.prog 83 [.ptr c 0, .agg t.cells, .mp rs, .int .i64 deep] [.box c (cpC level consts codes size free rb), .mp rb (.int .i64) (setM bound) pb, .mp rs (.int .i64) (setM scope) ps]
  (rPost c rb rs level consts codes free scope (t.ckP level consts codes free scope deep size bound)) := by
 induction t using Trm.ind with
 | h t ih =>
  intro scope deep size bound pb ps hd0 hd1 hs0 hs1 hsub hbk
  have hbe := t.bulk_eq
  have hlv := Trm.bulks_length t.t
  have hr := t.ckP_eq level consts codes free scope deep size bound
  refine ACall.of_body tt_ok Tryz.func83 rfl rfl (n := 126) rfl rfl ?_
  conv => whnf
  repeat' (first|((first|((first|(apply zY;intro hg)|apply zZ);first|exact stA|((conv=>whnf);(repeat ((first|(refine zW ?_ ?_;exact gA)|refine pC (shapeOf_c _) wR ?_|refine pC (shapeOf_c _) cA ?_|refine pC (fits_c (shapeL t.op).1 t OA) wR ?_|refine pC (fits_c (shapeL t.op).1 t OA) cA ?_|refine PCall.read (number2p_c c rb rs level consts codes (size + 1) free t scope ps) wR ?_|refine pC (group_c t) wR ?_|refine pC (group_c t) cA ?_|intro _);conv=>whnf));first|exact pS|exact pL|exact pE))|(refine zW ?_ ?_;exact gA)|refine zH rfl ?_|refine zA ?_|refine zI bA ?_|refine zI rfl ?_|refine sB ?_|(refine zO ?_ ?_ ?_;omega;omega)|(refine zP ?_ ?_ ?_;omega;omega)|refine zM rfl ?_|(refine zQ ?_ ?_ ?_;omega;omega)|(refine zR ?_ ?_;omega)|(refine zI ?_ ?_;exact nA)|refine sS ?_|refine pC (shapeOf_c _) wR ?_|refine pC (shapeOf_c _) cA ?_|refine pC (fits_c (shapeL t.op).1 t OA) wR ?_|refine pC (fits_c (shapeL t.op).1 t OA) cA ?_|refine PCall.read (number2p_c c rb rs level consts codes (size + 1) free t scope ps) wR ?_|refine pC (group_c t) wR ?_|refine pC (group_c t) cA ?_|refine sD ?_|refine PDraw.sP (some 27) rfl [] [41,42,43] tt_ok mixed ?_|refine PDraw.sP (some 83) rfl [] [9,10] tt_ok mixed ?_|refine PDraw.sP (some 106) rfl [] [17,18,19,20] tt_ok mixed ?_|intro _|refine zG ?_);conv=>whnf)|(refine zX (fun hc => ?_) (fun hc => ?_)<;>(try simp only [SY] at hc)<;>first|omega|(conv=>whnf)))
  ·rw [hr, if_pos (by simp only [badP, SS]; exact hc)]
   exact PRet.gen (y := .bool false) (Wk.ff rfl) ⟨rfl, size + 1, setM bound, setM scope, pb, ps, rfl, fun _ _ h => by cases h⟩
  all_goals
   rename_i b4 b5 b6 b7 b9 hgood hlen
   have hfx : t.op = 9 → 1 ≤ t.t.length := fits9 hgood.1.2
   rw [if_neg (by simp only [badP, SS]; intro h; obtain ⟨⟨⟨⟨⟨⟨g1, g2⟩, g3⟩, g4⟩, g5⟩, g6⟩, g7⟩ := hgood; simp only [g1, g6, g7, Bool.true_eq_false, or_false, false_or] at h; omega)] at hr
  ·have hgr := hc
   rw [if_neg (by rw [hc]; simp)] at hr
   refine PLoop.over [8, 12, 78, 79, 80, 81, 82, 83, 84, 85, 86, 87, 88, 89, 90, 91, 92, 93] (fun (x : Nat × Int × List Int × List (Int × Value) × List (Int × Value)) => [(12, .int .i64 x.1)])
    (fun (x : Nat × Int × List Int × List (Int × Value) × List (Int × Value)) => [.box b9 (shapeL t.op).1.cells, .box b7 [.int .i64 deep], .box b6 [.mp rs], .box b5 [.int .i64 t.op, .int .i64 t.n, .sl 1 (t.v.map (PV.int .i64)) none, .sl 4 (t.t.map Trm.pv) none], .box b4 [.ptr c 0],
     .box c (cpC level consts codes x.2.1 free rb), .mp rb (.int .i64) (setM x.2.2.1) x.2.2.2.1, .mp rs (.int .i64) (setM scope) x.2.2.2.2])
    (fun | (k, sz, bd, pb, ps) => (k = 0 ∨ k < t.t.length) ∧ 0 ≤ sz ∧ sz ≤ 20000 ∧ (∀ x ∈ bound, x ∈ bd) ∧ t.ckP level consts codes free scope deep size bound = Trm.cksI level consts codes free scope t.v (t.t.drop k) (deep + 1) sz bd) (fun | (k, _) => t.t.length - k) (0, size + 1, bound, pb, ps)
    ⟨.inl rfl, by omega, by omega, fun _ h => h, by rw [hr]; rfl⟩ wA ?_
   rintro ⟨k, sz, bd, pb', ps'⟩ ⟨hk, hz0, hz1, hsb, hck⟩
   dsimp only
   conv => whnf
   repeat' (first|((first|((first|(apply zY;intro hg)|apply zZ);first|exact stA|((conv=>whnf);(repeat ((first|(refine zW ?_ ?_;exact gA)|refine pC (shapeOf_c _) wR ?_|refine pC (shapeOf_c _) cA ?_|refine pC (fits_c (shapeL t.op).1 t OA) wR ?_|refine pC (fits_c (shapeL t.op).1 t OA) cA ?_|refine PCall.read (number2p_c c rb rs level consts codes (size + 1) free t scope ps) wR ?_|refine pC (group_c t) wR ?_|refine pC (group_c t) cA ?_|intro _);conv=>whnf));first|exact pS|exact pL|exact pE))|(refine zW ?_ ?_;exact gA)|refine zH rfl ?_|refine zA ?_|refine zI bA ?_|refine zI rfl ?_|refine sB ?_|(refine zO ?_ ?_ ?_;omega;omega)|(refine zP ?_ ?_ ?_;omega;omega)|refine zM rfl ?_|(refine zQ ?_ ?_ ?_;omega;omega)|(refine zR ?_ ?_;omega)|(refine zI ?_ ?_;exact nA)|refine sS ?_|refine pC (shapeOf_c _) wR ?_|refine pC (shapeOf_c _) cA ?_|refine pC (fits_c (shapeL t.op).1 t OA) wR ?_|refine pC (fits_c (shapeL t.op).1 t OA) cA ?_|refine PCall.read (number2p_c c rb rs level consts codes (size + 1) free t scope ps) wR ?_|refine pC (group_c t) wR ?_|refine pC (group_c t) cA ?_|refine sD ?_|refine PDraw.sP (some 27) rfl [] [41,42,43] tt_ok mixed ?_|refine PDraw.sP (some 83) rfl [] [9,10] tt_ok mixed ?_|refine PDraw.sP (some 106) rfl [] [17,18,19,20] tt_ok mixed ?_|intro _|refine zG ?_);conv=>whnf)|(refine zX (fun hc => ?_) (fun hc => ?_)<;>(try simp only [SY] at hc)<;>first|omega|(conv=>whnf)))
   ·have hlt : k < t.t.length := by omega
    have hbm := Trm.bulks_mem (List.getElem_mem hlt)
    rw [drop_at hlt, Trm.cksI, if_neg (by rw [List.isEmpty_iff, List.drop_eq_nil_iff]; omega)] at hck
    refine PCall.go (ih t.t[k] (List.getElem_mem _) scope (deep + 1) sz bd pb' ps' (by omega) (by omega) hz0 hz1 (fun x h => hsb x (hsub x h)) (by omega)) (WkT.refl _) ?_
    rintro _ _ ⟨rfl, sz2, mb, ms, pb2, ps2, rfl, hs⟩
    conv => whnf
    repeat' (first|((first|((first|(apply zY;intro hg)|apply zZ);first|exact stA|((conv=>whnf);(repeat ((first|(refine zW ?_ ?_;exact gA)|refine pC (shapeOf_c _) wR ?_|refine pC (shapeOf_c _) cA ?_|refine pC (fits_c (shapeL t.op).1 t OA) wR ?_|refine pC (fits_c (shapeL t.op).1 t OA) cA ?_|refine PCall.read (number2p_c c rb rs level consts codes (size + 1) free t scope ps) wR ?_|refine pC (group_c t) wR ?_|refine pC (group_c t) cA ?_|intro _);conv=>whnf));first|exact pS|exact pL|exact pE))|(refine zW ?_ ?_;exact gA)|refine zH rfl ?_|refine zA ?_|refine zI bA ?_|refine zI rfl ?_|refine sB ?_|(refine zO ?_ ?_ ?_;omega;omega)|(refine zP ?_ ?_ ?_;omega;omega)|refine zM rfl ?_|(refine zQ ?_ ?_ ?_;omega;omega)|(refine zR ?_ ?_;omega)|(refine zI ?_ ?_;exact nA)|refine sS ?_|refine pC (shapeOf_c _) wR ?_|refine pC (shapeOf_c _) cA ?_|refine pC (fits_c (shapeL t.op).1 t OA) wR ?_|refine pC (fits_c (shapeL t.op).1 t OA) cA ?_|refine PCall.read (number2p_c c rb rs level consts codes (size + 1) free t scope ps) wR ?_|refine pC (group_c t) wR ?_|refine pC (group_c t) cA ?_|refine sD ?_|refine PDraw.sP (some 27) rfl [] [41,42,43] tt_ok mixed ?_|refine PDraw.sP (some 83) rfl [] [9,10] tt_ok mixed ?_|refine PDraw.sP (some 106) rfl [] [17,18,19,20] tt_ok mixed ?_|intro _|refine zG ?_);conv=>whnf)|(refine zX (fun hc => ?_) (fun hc => ?_)<;>(try simp only [SY] at hc)<;>first|omega|(conv=>whnf)))
    ·have hn := hc
     rw [Option.isSome_eq_false_iff, Option.isNone_iff_eq_none] at hn
     rw [hn] at hck
     exact PRet.gen (y := .bool false) (Wk.ff rfl) ⟨by rw [hck]; rfl, sz2, mb, ms, pb2, ps2, rfl, fun _ _ h => by rw [hck] at h; cases h⟩
    ·obtain ⟨⟨s1, b1⟩, e⟩ := Option.isSome_iff_exists.mp hc
     obtain ⟨rfl, rfl, rfl⟩ := hs s1 b1 e
     have hbd := Trm.ckP_bd _ _ _ _ _ _ _ _ _ _ _ e
     rw [e] at hck
     exact loopTo (k + 1, sz2, b1, pb2, ps2) ⟨.inr (by omega), by show (0 : Int) ≤ sz2; omega, hbd.2.1, fun x h => hbd.2.2 x (hsb x h), hck⟩ (by show t.t.length - (k + 1) < t.t.length - k; omega) wA
   ·rw [cksI_end (by rw [List.length_drop]; omega)] at hck
    have hop : t.op ≠ 9 := fun h => by simp [groupB, h] at hgr
    have hdk : (if (t.t.length : Int) - 1 < 0 then 0 else (t.t.length : Int) - 1).toNat = k := by split <;> omega
    have hck : t.ckP level consts codes free scope deep size bound = if (t.op == 9 && !procsL level t.t.dropLast) = true then none else if (bindR t.v bd).1 = true then Trm.cksG level consts codes free (scope ++ t.v) (t.t.drop (if (t.t.length : Int) - 1 < 0 then 0 else (t.t.length : Int) - 1).toNat) (deep + 1) sz (bd ++ t.v) else none := by
     rw [if_neg (by simp [hop]), hdk]; exact hck
    have hgc : ACallP Tryz.prog 144 [.agg t.cells] (.bool false) := by
     have := group_c t
     rw [hgr] at this
     exact this
    refine PCall.go (bind2p_c c rb rs level consts codes sz free t.v bd scope pb' ps') (WkT.refl _) ?_
    rintro _ _ ⟨rfl, pb3, mb, ms, rfl, hb⟩
    conv => whnf
    repeat' (first|((first|((first|(apply zY;intro hg)|apply zZ);first|exact stA|((conv=>whnf);(repeat ((first|(refine zW ?_ ?_;exact gA)|refine pC (hgc) wR ?_|refine pC (hgc) cA ?_|intro _);conv=>whnf));first|exact pS|exact pL|exact pE))|(refine zW ?_ ?_;exact gA)|refine zH rfl ?_|refine zA ?_|refine zI bA ?_|refine zI rfl ?_|refine sB ?_|(refine zO ?_ ?_ ?_;omega;omega)|(refine zP ?_ ?_ ?_;omega;omega)|refine zM rfl ?_|(refine zQ ?_ ?_ ?_;omega;omega)|(refine zR ?_ ?_;omega)|(refine zI ?_ ?_;exact nA)|refine sS ?_|refine pC (hgc) wR ?_|refine pC (hgc) cA ?_|refine sD ?_|refine PDraw.sP (some 27) rfl [] [41,42,43] tt_ok mixed ?_|refine PDraw.sP (some 83) rfl [] [9,10] tt_ok mixed ?_|intro _|refine zG ?_);conv=>whnf)|(refine zX (fun hc => ?_) (fun hc => ?_)<;>(try simp only [SY] at hc)<;>first|omega|(conv=>whnf)))
    ·refine PCallD.go (defer_c b5 b6 rs t.op t.n t.v (t.t.map Trm.pv) ms []) (WkT.refl _) ?_
     rintro _ _ ⟨ps4, rfl⟩
     conv => whnf
     have hno : t.ckP level consts codes free scope deep size bound = none := by rw [hck]; split; rfl; exact if_neg (by rw [hc]; simp)
     exact PRet.gen (y := .bool false) (Wk.ff rfl) ⟨by rw [hno]; rfl, sz, mb, delS t.v ms, pb3, ps4, rfl, fun _ _ h => by rw [hno] at h; cases h⟩
    ·have hbt := ‹(bindR t.v bd).1 = true›
     obtain ⟨rfl, rfl⟩ := hb hbt
     rw [if_pos hbt] at hck
     refine PDraw.split2 tt_ok mixed [0, 1, 0, 7, 0, 31, 63, 127, 255, 511, 1023, 2047, 4095, 4095, 12287, 4095, 61439, 131071, 262143, 524287, 1048575] [0, 1, 2, 3, 4] [5] [6, 7, 8, 9, 10, 11, 12, 13, 14, 15, 16, 17, 18, 19, 20] [] [.box c (cpC level consts codes sz free rb), .mp rb (.int .i64) (setM (bd ++ t.v)) pb3, .mp rs (.int .i64) (setM (scope ++ t.v)) [], .box b4 [.ptr c 0], .box b6 [.mp rs], .box b7 [.int .i64 deep]] (by kernel_rfl) ?_
     conv => whnf
     repeat ((first|((first|(apply zY;intro hg)|apply zZ);first|exact stA|((conv=>whnf);(repeat ((first|(refine zW ?_ ?_;exact gA)|refine pC (hgc) wR ?_|refine pC (hgc) cA ?_|intro _);conv=>whnf));first|exact pS|exact pL|exact pE))|(refine zW ?_ ?_;exact gA)|refine zH rfl ?_|refine zA ?_|refine zI bA ?_|refine zI rfl ?_|refine sB ?_|(refine zO ?_ ?_ ?_;omega;omega)|(refine zP ?_ ?_ ?_;omega;omega)|refine zM rfl ?_|(refine zQ ?_ ?_ ?_;omega;omega)|(refine zR ?_ ?_;omega)|(refine zI ?_ ?_;exact nA)|refine sS ?_|refine pC (hgc) wR ?_|refine pC (hgc) cA ?_|refine sD ?_|refine PDraw.sP (some 27) rfl [] [41,42,43] tt_ok mixed ?_|refine PDraw.sP (some 83) rfl [] [9,10] tt_ok mixed ?_|intro _);conv=>whnf)
     have hdj : ∀ x ∈ scope, x ∉ t.v := fun x h h' => bindR_apart hbt x h' (hsb x (hsub x h))
     refine PCall.go (all2p_c c rb rs b4 b6 b7 level consts codes free (t.t.drop (if (t.t.length : Int) - 1 < 0 then 0 else (t.t.length : Int) - 1).toNat) (scope ++ t.v) deep hd0 (by omega) (fun x hx sz bd pb ps h0 h1 h2 => ih x (List.mem_of_mem_drop hx) (scope ++ t.v) (deep + 1) sz bd pb ps (by omega) (by omega) h0 h1 h2 (by have := Trm.bulks_mem (List.mem_of_mem_drop hx); omega)) sz (bd ++ t.v) pb3 [] (by omega) (by omega) (by intro x h; rw [List.mem_append] at h ⊢; exact h.imp (fun h => hsb x (hsub x h)) id)) (WkT.refl _) ?_
     rintro _ _ ⟨sz5, mb5, ms5, pb5, ps5, rfl, rfl, hs5⟩
     conv => whnf
     repeat ((first|((first|(apply zY;intro hg)|apply zZ);first|exact stA|((conv=>whnf);(repeat ((first|(refine zW ?_ ?_;exact gA)|refine PCall.read (procs_c c rb level consts codes sz5 free (t.t.take (t.t.length - 1))) wR ?_|intro _);conv=>whnf));first|exact pS|exact pL|exact pE))|(refine zW ?_ ?_;exact gA)|refine zH rfl ?_|refine zA ?_|refine zI bA ?_|refine zI rfl ?_|refine sB ?_|(refine zO ?_ ?_ ?_;omega;omega)|(refine zP ?_ ?_ ?_;omega;omega)|refine zM rfl ?_|(refine zQ ?_ ?_ ?_;omega;omega)|(refine zR ?_ ?_;omega)|(refine zI ?_ ?_;exact nA)|refine sS ?_|refine PCall.read (procs_c c rb level consts codes sz5 free (t.t.take (t.t.length - 1))) wR ?_|refine sD ?_|refine PDraw.sP (some 27) rfl [] [41,42,43] tt_ok mixed ?_|refine PDraw.sP (some 83) rfl [] [9,10] tt_ok mixed ?_|intro _);conv=>whnf)
     refine PCallD.go (defer_c b5 b6 rs t.op t.n t.v (t.t.map Trm.pv) ms5 ps5) (WkT.refl _) ?_
     rintro _ _ ⟨ps4, rfl⟩
     conv => whnf
     refine PRet.gen (y := .bool (t.ckP level consts codes free scope deep size bound).isSome) (Wk.bool ?_) ⟨rfl, sz5, mb5, delS t.v ms5, pb5, ps4, rfl, fun s b h => ?_⟩
     ·exact right_end (by rw [← List.dropLast_eq_take]; exact hck)
     ·rw [hck] at h
      split at h
      ·cases h
      ·obtain ⟨h1, h2, h3⟩ := hs5 s b h
       exact ⟨h1, h2, by rw [h3, delS_setM _ _ hdj]⟩
  ·have hgr := hc
   rw [if_pos hc] at hr
   have hck := hr
   have hgc : ACallP Tryz.prog 144 [.agg t.cells] (.bool true) := by
    have := group_c t
    rw [hgr] at this
    exact this
   refine PCall.go (bind2p_c c rb rs level consts codes (size + 1) free t.v bound scope pb ps) (WkT.refl _) ?_
   rintro _ _ ⟨rfl, pb3, mb, ms, rfl, hb⟩
   conv => whnf
   repeat' (first|((first|((first|(apply zY;intro hg)|apply zZ);first|exact stA|((conv=>whnf);(repeat ((first|(refine zW ?_ ?_;exact gA)|refine pC (hgc) wR ?_|refine pC (hgc) cA ?_|intro _);conv=>whnf));first|exact pS|exact pL|exact pE))|(refine zW ?_ ?_;exact gA)|refine zH rfl ?_|refine zA ?_|refine zI bA ?_|refine zI rfl ?_|refine sB ?_|(refine zO ?_ ?_ ?_;omega;omega)|(refine zP ?_ ?_ ?_;omega;omega)|refine zM rfl ?_|(refine zQ ?_ ?_ ?_;omega;omega)|(refine zR ?_ ?_;omega)|(refine zI ?_ ?_;exact nA)|refine sS ?_|refine pC (hgc) wR ?_|refine pC (hgc) cA ?_|refine sD ?_|refine PDraw.sP (some 27) rfl [] [41,42,43] tt_ok mixed ?_|refine PDraw.sP (some 83) rfl [] [9,10] tt_ok mixed ?_|intro _|refine zG ?_);conv=>whnf)|(refine zX (fun hc => ?_) (fun hc => ?_)<;>(try simp only [SY] at hc)<;>first|omega|(conv=>whnf)))
   ·refine PCallD.go (defer_c b5 b6 rs t.op t.n t.v (t.t.map Trm.pv) ms []) (WkT.refl _) ?_
    rintro _ _ ⟨ps4, rfl⟩
    conv => whnf
    have hno : t.ckP level consts codes free scope deep size bound = none := by rw [hck]; split; rfl; exact if_neg (by rw [hc]; simp)
    exact PRet.gen (y := .bool false) (Wk.ff rfl) ⟨by rw [hno]; rfl, (size + 1), mb, delS t.v ms, pb3, ps4, rfl, fun _ _ h => by rw [hno] at h; cases h⟩
   ·have hbt := ‹(bindR t.v bound).1 = true›
    obtain ⟨rfl, rfl⟩ := hb hbt
    rw [if_pos hbt] at hck
    refine PDraw.split2 tt_ok mixed [0, 1, 0, 7, 0, 31, 63, 127, 255, 511, 1023, 2047, 4095, 4095, 12287, 4095, 61439, 131071, 262143, 524287, 1048575] [0, 1, 2, 3, 4] [5] [6, 7, 8, 9, 10, 11, 12, 13, 14, 15, 16, 17, 18, 19, 20] [] [.box c (cpC level consts codes (size + 1) free rb), .mp rb (.int .i64) (setM (bound ++ t.v)) pb3, .mp rs (.int .i64) (setM (scope ++ t.v)) [], .box b4 [.ptr c 0], .box b6 [.mp rs], .box b7 [.int .i64 deep]] (by kernel_rfl) ?_
    conv => whnf
    repeat ((first|((first|(apply zY;intro hg)|apply zZ);first|exact stA|((conv=>whnf);(repeat ((first|(refine zW ?_ ?_;exact gA)|refine pC (hgc) wR ?_|refine pC (hgc) cA ?_|intro _);conv=>whnf));first|exact pS|exact pL|exact pE))|(refine zW ?_ ?_;exact gA)|refine zH rfl ?_|refine zA ?_|refine zI bA ?_|refine zI rfl ?_|refine sB ?_|(refine zO ?_ ?_ ?_;omega;omega)|(refine zP ?_ ?_ ?_;omega;omega)|refine zM rfl ?_|(refine zQ ?_ ?_ ?_;omega;omega)|(refine zR ?_ ?_;omega)|(refine zI ?_ ?_;exact nA)|refine sS ?_|refine pC (hgc) wR ?_|refine pC (hgc) cA ?_|refine sD ?_|refine PDraw.sP (some 27) rfl [] [41,42,43] tt_ok mixed ?_|refine PDraw.sP (some 83) rfl [] [9,10] tt_ok mixed ?_|intro _);conv=>whnf)
    have hdj : ∀ x ∈ scope, x ∉ t.v := fun x h h' => bindR_apart hbt x h' (hsub x h)
    refine PCall.go (all2p_c c rb rs b4 b6 b7 level consts codes free (t.t.drop 0) (scope ++ t.v) deep hd0 (by omega) (fun x hx sz bd pb ps h0 h1 h2 => ih x (List.mem_of_mem_drop hx) (scope ++ t.v) (deep + 1) sz bd pb ps (by omega) (by omega) h0 h1 h2 (by have := Trm.bulks_mem (List.mem_of_mem_drop hx); omega)) (size + 1) (bound ++ t.v) pb3 [] (by omega) (by omega) (by intro x h; rw [List.mem_append] at h ⊢; exact h.imp (fun h => hsub x h) id)) (WkT.refl _) ?_
    rintro _ _ ⟨sz5, mb5, ms5, pb5, ps5, rfl, rfl, hs5⟩
    conv => whnf
    repeat ((first|((first|(apply zY;intro hg)|apply zZ);first|exact stA|((conv=>whnf);(repeat ((first|(refine zW ?_ ?_;exact gA)|refine PCall.read (procs_c c rb level consts codes sz5 free (t.t.take (t.t.length - 1))) wR ?_|intro _);conv=>whnf));first|exact pS|exact pL|exact pE))|(refine zW ?_ ?_;exact gA)|refine zH rfl ?_|refine zA ?_|refine zI bA ?_|refine zI rfl ?_|refine sB ?_|(refine zO ?_ ?_ ?_;omega;omega)|(refine zP ?_ ?_ ?_;omega;omega)|refine zM rfl ?_|(refine zQ ?_ ?_ ?_;omega;omega)|(refine zR ?_ ?_;omega)|(refine zI ?_ ?_;exact nA)|refine sS ?_|refine PCall.read (procs_c c rb level consts codes sz5 free (t.t.take (t.t.length - 1))) wR ?_|refine sD ?_|refine PDraw.sP (some 27) rfl [] [41,42,43] tt_ok mixed ?_|refine PDraw.sP (some 83) rfl [] [9,10] tt_ok mixed ?_|intro _);conv=>whnf)
    refine PCallD.go (defer_c b5 b6 rs t.op t.n t.v (t.t.map Trm.pv) ms5 ps5) (WkT.refl _) ?_
    rintro _ _ ⟨ps4, rfl⟩
    conv => whnf
    refine PRet.gen (y := .bool (t.ckP level consts codes free scope deep size bound).isSome) (Wk.bool ?_) ⟨rfl, sz5, mb5, delS t.v ms5, pb5, ps4, rfl, fun s b h => ?_⟩
    ·exact right_end (by rw [← List.dropLast_eq_take]; exact hck)
    ·rw [hck] at h
     split at h
     ·cases h
     ·obtain ⟨h1, h2, h3⟩ := hs5 s b h
      exact ⟨h1, h2, by rw [h3, delS_setM _ _ hdj]⟩
end Go.Cb
namespace Go.Cb
open Go.Proofs
set_option maxRecDepth 100000
set_option maxHeartbeats 4000000
abbrev ckC (level consts codes size : Int) (free : Bool) (bound : List Int) (t : Tok) (ok : Bool) : List PV :=
 [.int .i64 level, .int .i64 consts, .int .i64 codes, .bool free, .int .i64 size, .sl 1 (bound.map (PV.int .i64)) (some t), .bool ok]
def numberL (consts codes : Int) (free : Bool) (t : Trm) (scope : List Int) : Bool :=
 if t.op = 0 then decide (t.n ≥ 0) && decide (t.n < consts) else
 if t.op = 1 ∨ t.op = 2 ∨ t.op = 14 then scope.contains t.n else
 if t.op = 11 ∨ t.op = 10 then decide (t.n ≥ 0) && decide (t.n ≤ 30) else
 if t.op = 4 then t.n == 0 || (t.n == 1 && decide ((t.v.length : Int) > 0)) else
 if t.op = 7 then t.n == 0 || t.n == 1 else
 if t.op = 19 ∨ t.op = 21 ∨ t.op = 22 then decide (t.n ≥ 0) && decide (t.n < codes) else
 if t.op = 20 then decide (t.n ≥ 0) && free else t.n == 0
theorem number2_c (b : Nat) (level consts codes size : Int) (free ok : Bool) (bound : List Int) (tk : Tok) (t : Trm) (scope : List Int) :
  ACall Tryz.prog 159 [.ptr b 0, .agg t.cells, .sl 1 (scope.map (PV.int .i64)) none] [.box b (ckC level consts codes size free bound tk ok)]
  (fun y Γ' => y = .bool (numberL consts codes free t scope) ∧ Γ' = [.box b (ckC level consts codes size free bound tk ok)]) := by
 have hs : numberL consts codes free t scope = numberL consts codes free t scope := rfl
 conv at hs => rhs; unfold numberL
 refine ACall.of_body tt_ok Tryz.func159 rfl rfl (n := 98) rfl rfl ?_
 conv => whnf
 repeat' (first|((first|((first|(apply zY;intro hg)|apply zZ);first|exact stA|((conv=>whnf);(repeat ((first|(refine zW ?_ ?_;exact gA)|refine pC (has_c _ _) wR ?_|refine pC (has_c _ _) cA ?_|intro _);conv=>whnf));first|exact pS|exact pL|exact pE))|(refine zW ?_ ?_;exact gA)|refine zH rfl ?_|refine zA ?_|refine zI bA ?_|refine zI rfl ?_|refine sB ?_|(refine zO ?_ ?_ ?_;omega;omega)|(refine zP ?_ ?_ ?_;omega;omega)|refine zM rfl ?_|(refine zQ ?_ ?_ ?_;omega;omega)|(refine zR ?_ ?_;omega)|(refine zI ?_ ?_;exact nA)|refine sS ?_|refine pC (has_c _ _) wR ?_|refine pC (has_c _ _) cA ?_|refine sD ?_|refine PDraw.sP (some 11) rfl [] [] tt_ok mixed ?_|refine PDraw.sP (some 72) rfl [] [] tt_ok mixed ?_|intro _|refine zG ?_);conv=>whnf)|(refine zX (fun hc => ?_) (fun hc => ?_)<;>(try simp only [SY] at hc)<;>first|omega|(conv=>whnf)))
 all_goals repeat (first|rw [if_neg (by omega)] at hs|rw [if_pos (by omega)] at hs)
 all_goals rw [hs]
 all_goals exact PRet.gen (Wk.refl _) ⟨rfl, rfl⟩
end Go.Cb
namespace Go.Cb
open Go.Proofs
set_option maxRecDepth 100000
set_option maxHeartbeats 4000000
def wantOp (level : Int) : Int := if level = 3 then 19 else 4
mutual
def Trm.ckD (level consts codes : Int) (free : Bool) : Trm → List Int → Int → Int → List Int → Option (Int × List Int)
 | .mk op n v t, scope, deep, size, bound =>
  if (decide (deep > 400) || decide (size + 1 > 20000) || !sortsL op level || !countsL (.mk op n v t) || !numberL consts codes free (.mk op n v t) scope) = true then none else
  if (bindR v bound).1 = true then Trm.cksD level consts codes free op scope (scope ++ v) t (deep + 1) (size + 1) (bindR v bound).2 else none
def Trm.cksD (level consts codes : Int) (free : Bool) (op : Int) (scope inner : List Int) : List Trm → Int → Int → List Int → Option (Int × List Int)
 | [], _, size, bound => some (size, bound)
 | x :: xs, deep, size, bound =>
  if op = 9 ∧ xs ≠ [] ∧ x.op ≠ wantOp level then none else
  match Trm.ckD level consts codes free x (if xs = [] ∨ op = 7 ∨ op = 9 then inner else scope) deep size bound with
  | none => none
  | some (s, b) => Trm.cksD level consts codes free op scope inner xs deep s b
end
theorem Trm.ckD_eq (level consts codes : Int) (free : Bool) (x : Trm) (scope : List Int) (deep size : Int) (bound : List Int) : x.ckD level consts codes free scope deep size bound =
  if (decide (deep > 400) || decide (size + 1 > 20000) || !sortsL x.op level || !countsL x || !numberL consts codes free x scope) = true then none else
  if (bindR x.v bound).1 = true then Trm.cksD level consts codes free x.op scope (scope ++ x.v) x.t (deep + 1) (size + 1) (bindR x.v bound).2 else none := by
 cases x; rw [Trm.ckD]; rfl
theorem bindR_len : ∀ (l bound : List Int), (bindR l bound).2.length ≤ bound.length + l.length
 | [], bound => by simp [bindR]
 | v :: l, bound => by
  rw [bindR]
  split
  ·have := bindR_len l (bound ++ [v]); simp at this ⊢; omega
  ·simp
theorem Trm.ckD_bd (level consts codes : Int) (free : Bool) (x : Trm) : ∀ (scope : List Int) (deep size : Int) (bound : List Int) (s : Int) (b : List Int), x.ckD level consts codes free scope deep size bound = some (s, b) →
  size < s ∧ s ≤ 20000 ∧ b.length ≤ bound.length + x.bulk := by
 induction x using Trm.ind with
 | h x ih =>
  intro scope deep size bound s b h
  rw [Trm.ckD_eq] at h
  split at h
  ·cases h
  rename_i hc
  split at h
  ·have key : ∀ (l : List Trm), (∀ y ∈ l, ∀ (scope : List Int) (deep size : Int) (bound : List Int) (s : Int) (b : List Int), y.ckD level consts codes free scope deep size bound = some (s, b) → size < s ∧ s ≤ 20000 ∧ b.length ≤ bound.length + y.bulk) →
     ∀ (deep size : Int) (bound : List Int) (s : Int) (b : List Int), size ≤ 20000 → Trm.cksD level consts codes free x.op scope (scope ++ x.v) l deep size bound = some (s, b) → size ≤ s ∧ s ≤ 20000 ∧ b.length ≤ bound.length + Trm.bulks l := by
    intro l
    induction l with
    | nil => intro _ deep size bound s b h0 h; rw [Trm.cksD] at h; cases h; rw [Trm.bulks]; omega
    | cons y l ihl =>
     intro hy deep size bound s b h0 h
     rw [Trm.cksD] at h
     split at h
     ·cases h
     split at h
     ·cases h
     ·rename_i s1 b1 h1
      have e1 := hy y (by simp) _ _ _ _ _ _ h1
      have e2 := ihl (fun z hz => hy z (by simp [hz])) _ _ _ _ _ (by omega) h
      rw [Trm.bulks]; omega
   have hb := bindR_len x.v bound
   have h2 : size + 1 ≤ 20000 := by simp at hc; omega
   have := key x.t ih _ _ _ _ _ h2 h
   rw [Trm.bulk_eq]; omega
  ·cases h
def ckPost (b : Nat) (level consts codes : Int) (free : Bool) (r : Option (Int × List Int)) (y : PV) (Γ' : List Ent) : Prop :=
 y = .tup [] ∧ ∃ size' bound' tk' ok', tk'.e = 3 ∧ Γ' = [.box b (ckC level consts codes size' free bound' tk' ok'), .tok tk'] ∧ (ok' = true → r = some (size', bound')) ∧ (ok' = false → r = none)
theorem cks_step {level consts codes : Int} {free : Bool} {op : Int} {scope inner : List Int} {l : List Trm} {i : Nat} (hlt : i < l.length) {deep sz : Int} {bd : List Int} {total : Option (Int × List Int)}
  (h : total = Trm.cksD level consts codes free op scope inner (l.drop i) deep sz bd) (okv : Bool) (sc : List Int) (h1 : okv = true ↔ (op = 9 ∧ i + 1 ≠ l.length → l[i].op = wantOp level)) (h2 : sc = if i + 1 = l.length ∨ op = 7 ∨ op = 9 then inner else scope) :
  (∀ s b, (if okv = true then l[i].ckD level consts codes free sc deep sz bd else none) = some (s, b) → total = Trm.cksD level consts codes free op scope inner (l.drop (i + 1)) deep s b) ∧
  ((if okv = true then l[i].ckD level consts codes free sc deep sz bd else none) = none → total = none) := by
 have e : l.drop (i + 1) = [] ↔ i + 1 = l.length := by rw [List.drop_eq_nil_iff]; omega
 rw [drop_at hlt, Trm.cksD] at h
 simp only [ne_eq, e] at h
 rw [← h2] at h
 by_cases ho : okv = true
 ·rw [if_pos ho]
  have := h1.1 ho
  rw [if_neg (fun hh => hh.2.2 (this ⟨hh.1, hh.2.1⟩))] at h
  refine ⟨fun s b hr => ?_, fun hr => ?_⟩
  ·rw [hr] at h; exact h
  ·rw [hr] at h; exact h
 ·rw [if_neg ho]
  refine ⟨fun s b hr => (by cases hr), fun _ => ?_⟩
  rw [if_pos] at h
  ·exact h
  ·refine ⟨?_, ?_, ?_⟩
   ·apply Classical.byContradiction; intro hh; exact ho (h1.2 fun x => absurd x.1 hh)
   ·intro hh; exact ho (h1.2 fun x => absurd hh x.2)
   ·intro hh; exact ho (h1.2 fun _ => hh)
theorem ck_next {level consts codes : Int} {free : Bool} {x : Trm} {sc : List Int} {deep sz : Int} {bd : List Int} {R : Int → List Int → Prop} {n : Nat} (okv : Bool) {s : Int} {b : List Int}
  (h : (if okv = true then x.ckD level consts codes free sc deep sz bd else none) = some (s, b)) (k : ∀ s b, (if okv = true then x.ckD level consts codes free sc deep sz bd else none) = some (s, b) → R s b) (h0 : 0 ≤ sz) (hn : bd.length + (x.bulk + n) ≤ 1000000000) :
  0 ≤ s ∧ s ≤ 20000 ∧ b.length + n ≤ 1000000000 ∧ R s b := by
 have hk := k s b h
 split at h
 ·have := x.ckD_bd level consts codes free sc deep sz bd s b h
  exact ⟨by omega, by omega, by omega, hk⟩
 ·cases h
theorem term2_c (b : Nat) (level consts codes : Int) (free : Bool) (t : Trm) : ∀ (size deep : Int) (bound scope : List Int) (ok0 : Bool) (tk : Tok), tk.e = 3 → 0 ≤ size → size ≤ 20000 → 0 ≤ deep → deep ≤ 401 → bound.length + t.bulk ≤ 1000000000 → scope.length + t.bulk ≤ 1000000000 →
  ACall Tryz.prog 90 [.ptr b 0, .agg t.cells, .sl 1 (scope.map (PV.int .i64)) none, .int .i64 deep] [.box b (ckC level consts codes size free bound tk ok0), .tok tk]
  (ckPost b level consts codes free (if ok0 = true then t.ckD level consts codes free scope deep size bound else none)) := by
 induction t using Trm.ind with
 | h t ih =>
  intro size deep bound scope ok0 tk htk hs0 hs1 hd0 hd1 hb1 hb2
  have hbk := t.bulk_eq
  have hr := t.ckD_eq level consts codes free scope deep size bound
  refine ACall.of_body tt_ok Tryz.func90 rfl rfl (n := 141) rfl rfl ?_
  conv => whnf
  repeat' (first|((first|((first|(apply zY;intro hg)|apply zZ);first|exact stA|((conv=>whnf);(repeat ((first|(refine zW ?_ ?_;exact gA)|refine pC (sorts_c _ _) wR ?_|refine pC (sorts_c _ _) cA ?_|refine pC (counts_c t OA) wR ?_|refine pC (counts_c t OA) cA ?_|refine PCall.read (number2_c b level consts codes (size + 1) free ok0 bound tk t scope) wR ?_|intro _);conv=>whnf));first|exact pS|exact pL|exact pE))|(refine zW ?_ ?_;exact gA)|refine zH rfl ?_|refine zA ?_|refine zI bA ?_|refine zI rfl ?_|refine sB ?_|(refine zO ?_ ?_ ?_;omega;omega)|(refine zP ?_ ?_ ?_;omega;omega)|refine zM rfl ?_|(refine zQ ?_ ?_ ?_;omega;omega)|(refine zR ?_ ?_;omega)|(refine zI ?_ ?_;exact nA)|refine sS ?_|refine pC (sorts_c _ _) wR ?_|refine pC (sorts_c _ _) cA ?_|refine pC (counts_c t OA) wR ?_|refine pC (counts_c t OA) cA ?_|refine PCall.read (number2_c b level consts codes (size + 1) free ok0 bound tk t scope) wR ?_|refine sD ?_|refine PDraw.sP (some 19) rfl [] [28,29,30] tt_ok mixed ?_|intro _|refine zG ?_);conv=>whnf)|(refine zX (fun hc => ?_) (fun hc => ?_)<;>(try simp only [SY] at hc)<;>first|omega|(conv=>whnf)))
  ·exact PRet.gen (Wk.refl _) ⟨rfl, size + 1, bound, tk, false, htk, rfl, fun h => (by cases h), fun _ => (by split; rw [hr, if_pos (by simp only [SS]; exact ‹_ ∨ _›)]; rfl)⟩
  ·exact PRet.gen (Wk.refl _) ⟨rfl, size + 1, bound, tk, ok0, htk, rfl, fun h => (by rw [h] at hc; simp at hc), fun h => by rw [if_neg (by simp [h])]⟩
  rename_i b2 hgood
  obtain ⟨⟨⟨⟨g1, g2⟩, g3⟩, g4⟩, g5⟩ := hgood
  obtain rfl : ok0 = true := by simpa using hc
  rw [if_pos rfl]
  rw [if_neg (by simp [g3, g4, g5]; omega)] at hr
  refine PCall.go (bind2_c b level consts codes (size + 1) free t.v bound tk htk (by omega)) (WkT.refl _) ?_
  rintro _ _ ⟨rfl, tk2, htk2, rfl⟩
  conv => whnf
  repeat ((first|((first|(apply zY;intro hg)|apply zZ);first|exact stA|((conv=>whnf);(repeat ((first|(refine zW ?_ ?_;exact gA)|refine pC (sorts_c _ _) wR ?_|refine pC (sorts_c _ _) cA ?_|refine pC (counts_c t OA) wR ?_|refine pC (counts_c t OA) cA ?_|refine PCall.read (number2_c b level consts codes (size + 1) free ok0 bound tk t scope) wR ?_|intro _);conv=>whnf));first|exact pS|exact pL|exact pE))|(refine zW ?_ ?_;exact gA)|refine zH rfl ?_|refine zA ?_|refine zI bA ?_|refine zI rfl ?_|refine sB ?_|(refine zO ?_ ?_ ?_;omega;omega)|(refine zP ?_ ?_ ?_;omega;omega)|refine zM rfl ?_|(refine zQ ?_ ?_ ?_;omega;omega)|(refine zR ?_ ?_;omega)|(refine zI ?_ ?_;exact nA)|refine sS ?_|refine pC (sorts_c _ _) wR ?_|refine pC (sorts_c _ _) cA ?_|refine pC (counts_c t OA) wR ?_|refine pC (counts_c t OA) cA ?_|refine PCall.read (number2_c b level consts codes (size + 1) free ok0 bound tk t scope) wR ?_|refine sD ?_|refine PDraw.sP (some 19) rfl [] [28,29,30] tt_ok mixed ?_|intro _);conv=>whnf)
  refine PDraw.sE [] [0,2] [5,6] tt_ok mixed ?_
  conv=>whnf
  repeat ((first|((first|(apply zY;intro hg)|apply zZ);first|exact stA|((conv=>whnf);(repeat ((first|(refine zW ?_ ?_;exact gA)|refine pC (sorts_c _ _) wR ?_|refine pC (sorts_c _ _) cA ?_|refine pC (counts_c t OA) wR ?_|refine pC (counts_c t OA) cA ?_|refine PCall.read (number2_c b level consts codes (size + 1) free ok0 bound tk t scope) wR ?_|intro _);conv=>whnf));first|exact pS|exact pL|exact pE))|(refine zW ?_ ?_;exact gA)|refine zH rfl ?_|refine zA ?_|refine zI bA ?_|refine zI rfl ?_|refine sB ?_|(refine zO ?_ ?_ ?_;omega;omega)|(refine zP ?_ ?_ ?_;omega;omega)|refine zM rfl ?_|(refine zQ ?_ ?_ ?_;omega;omega)|(refine zR ?_ ?_;omega)|(refine zI ?_ ?_;exact nA)|refine sS ?_|refine pC (sorts_c _ _) wR ?_|refine pC (sorts_c _ _) cA ?_|refine pC (counts_c t OA) wR ?_|refine pC (counts_c t OA) cA ?_|refine PCall.read (number2_c b level consts codes (size + 1) free ok0 bound tk t scope) wR ?_|refine sD ?_|refine PDraw.sP (some 19) rfl [] [28,29,30] tt_ok mixed ?_|intro _);conv=>whnf)
  rename_i t3 ht3
  refine PAppend.list (l := ([] : List Int)) (f := PV.int .i64) ht3 (by simp; omega) (by show _ * 8 ≤ _; simp; omega) ?_
  intro t4 ht4
  conv => whnf
  repeat ((first|((first|(apply zY;intro hg)|apply zZ);first|exact stA|((conv=>whnf);(repeat ((first|(refine zW ?_ ?_;exact gA)|refine pC (sorts_c _ _) wR ?_|refine pC (sorts_c _ _) cA ?_|refine pC (counts_c t OA) wR ?_|refine pC (counts_c t OA) cA ?_|refine PCall.read (number2_c b level consts codes (size + 1) free ok0 bound tk t scope) wR ?_|intro _);conv=>whnf));first|exact pS|exact pL|exact pE))|(refine zW ?_ ?_;exact gA)|refine zH rfl ?_|refine zA ?_|refine zI bA ?_|refine zI rfl ?_|refine sB ?_|(refine zO ?_ ?_ ?_;omega;omega)|(refine zP ?_ ?_ ?_;omega;omega)|refine zM rfl ?_|(refine zQ ?_ ?_ ?_;omega;omega)|(refine zR ?_ ?_;omega)|(refine zI ?_ ?_;exact nA)|refine sS ?_|refine pC (sorts_c _ _) wR ?_|refine pC (sorts_c _ _) cA ?_|refine pC (counts_c t OA) wR ?_|refine pC (counts_c t OA) cA ?_|refine PCall.read (number2_c b level consts codes (size + 1) free ok0 bound tk t scope) wR ?_|refine sD ?_|refine PDraw.sP (some 19) rfl [] [28,29,30] tt_ok mixed ?_|intro _);conv=>whnf)
  refine PAppend.list (l := [] ++ scope) (f := PV.int .i64) ht4 (by simp; omega) (by show _ * 8 ≤ _; simp; omega) ?_
  intro t5 ht5
  conv => whnf
  repeat ((first|((first|(apply zY;intro hg)|apply zZ);first|exact stA|((conv=>whnf);(repeat ((first|(refine zW ?_ ?_;exact gA)|refine pC (sorts_c _ _) wR ?_|refine pC (sorts_c _ _) cA ?_|refine pC (counts_c t OA) wR ?_|refine pC (counts_c t OA) cA ?_|refine PCall.read (number2_c b level consts codes (size + 1) free ok0 bound tk t scope) wR ?_|intro _);conv=>whnf));first|exact pS|exact pL|exact pE))|(refine zW ?_ ?_;exact gA)|refine zH rfl ?_|refine zA ?_|refine zI bA ?_|refine zI rfl ?_|refine sB ?_|(refine zO ?_ ?_ ?_;omega;omega)|(refine zP ?_ ?_ ?_;omega;omega)|refine zM rfl ?_|(refine zQ ?_ ?_ ?_;omega;omega)|(refine zR ?_ ?_;omega)|(refine zI ?_ ?_;exact nA)|refine sS ?_|refine pC (sorts_c _ _) wR ?_|refine pC (sorts_c _ _) cA ?_|refine pC (counts_c t OA) wR ?_|refine pC (counts_c t OA) cA ?_|refine PCall.read (number2_c b level consts codes (size + 1) free ok0 bound tk t scope) wR ?_|refine sD ?_|refine PDraw.sP (some 19) rfl [] [28,29,30] tt_ok mixed ?_|intro _);conv=>whnf)
  rw [List.nil_append]
  have hbl := bindR_len t.v bound
  refine PLoop.over [9, 10, 11, 68, 69, 70, 71, 72, 73, 74, 75, 76, 77, 78, 79, 80, 81, 82, 83, 84, 85, 86, 87, 88, 89, 90, 91, 92, 93, 94, 95, 96, 97, 98, 99, 100, 101, 102, 103, 104, 105, 106, 107, 108, 109, 110, 111, 112, 113, 114, 115, 116, 117, 118, 119, 120, 121, 122, 123, 124, 125, 126, 127, 128, 129, 130, 131, 132, 133, 134, 135, 136, 137, 138, 139, 140] (fun | ((i, sz, bd, ok, tk') : Nat × Int × List Int × Bool × Tok) => [(9, .int .i64 i)])
   (fun x => [.box b (ckC level consts codes x.2.1 free x.2.2.1 x.2.2.2.2 x.2.2.2.1), .tok x.2.2.2.2, .box b2 [.int .i64 t.op, .int .i64 t.n, .sl 1 (t.v.map (PV.int .i64)) none, .sl 4 (t.t.map Trm.pv) none]])
   (fun | (i, sz, bd, ok, tk') => i ≤ t.t.length ∧ tk'.e = 3 ∧ (ok = true → 0 ≤ sz ∧ sz ≤ 20000 ∧ bd.length + Trm.bulks (t.t.drop i) ≤ 1000000000 ∧ t.ckD level consts codes free scope deep size bound = Trm.cksD level consts codes free t.op scope (scope ++ t.v) (t.t.drop i) (deep + 1) sz bd) ∧
    (ok = false → t.ckD level consts codes free scope deep size bound = none)) (fun | (i, _) => t.t.length - i) (0, size + 1, (bindR t.v bound).2, (bindR t.v bound).1, tk2)
   ⟨by simp, htk2, fun h => ⟨by omega, by omega, by rw [List.drop_zero]; omega, by rw [hr, if_pos h]; rfl⟩, fun h => by rw [hr, if_neg (by simp [h])]⟩ wA ?_
  rintro ⟨i, sz, bd, ok, tk'⟩ ⟨hi, htk', hok, hno⟩
  conv => whnf
  repeat' (first|((first|((first|(apply zY;intro hg)|apply zZ);first|exact stA|((conv=>whnf);(repeat ((first|(refine zW ?_ ?_;exact gA)|refine pC (sorts_c _ _) wR ?_|refine pC (sorts_c _ _) cA ?_|refine pC (counts_c t OA) wR ?_|refine pC (counts_c t OA) cA ?_|refine PCall.read (number2_c b level consts codes (size + 1) free ok0 bound tk t scope) wR ?_|intro _);conv=>whnf));first|exact pS|exact pL|exact pE))|(refine zW ?_ ?_;exact gA)|refine zH rfl ?_|refine zA ?_|refine zI bA ?_|refine zI rfl ?_|refine sB ?_|(refine zO ?_ ?_ ?_;omega;omega)|(refine zP ?_ ?_ ?_;omega;omega)|refine zM rfl ?_|(refine zQ ?_ ?_ ?_;omega;omega)|(refine zR ?_ ?_;omega)|(refine zI ?_ ?_;exact nA)|refine sS ?_|refine pC (sorts_c _ _) wR ?_|refine pC (sorts_c _ _) cA ?_|refine pC (counts_c t OA) wR ?_|refine pC (counts_c t OA) cA ?_|refine PCall.read (number2_c b level consts codes (size + 1) free ok0 bound tk t scope) wR ?_|refine sD ?_|refine PDraw.sP (some 19) rfl [] [28,29,30] tt_ok mixed ?_|intro _|refine zG ?_);conv=>whnf)|(refine zX (fun hc => ?_) (fun hc => ?_)<;>(try simp only [SY] at hc)<;>first|omega|(conv=>whnf)))
  rotate_right
  ·refine PRet.gen (Wk.refl _) ⟨rfl, sz, bd, tk', ok, htk', rfl, fun h => ?_, hno⟩
   obtain ⟨_, _, _, h3⟩ := hok h
   rw [h3, List.drop_of_length_le (by rcases hc with hc | hc; omega; rw [h] at hc; cases hc), Trm.cksD]
  all_goals
   have hlt : i < t.t.length := by omega
   obtain rfl : ok = true := (‹_ ∧ ok = true›).2
   obtain ⟨hz, q1, q2, q3⟩ := hok rfl
   have hbm := Trm.bulks_mem (List.getElem_mem hlt)
   rw [drop_at hlt, Trm.bulks] at q2
  ·obtain ⟨k1, k2⟩ := cks_step hlt q3 (t.t[i].op == 19) (scope ++ t.v) (by simp [wantOp, *]; omega) (by rw [if_pos (by omega)])
   refine PCall.go (ih t.t[i] (List.getElem_mem _) sz (deep + 1) bd (scope ++ t.v) (t.t[i].op == 19) tk' htk' hz q1 (by omega) (by omega) (by omega) (by first | omega | (simp; omega))) wA ?_
   rintro _ _ ⟨rfl, s', b', tk2', ok2, h1, rfl, h3, h4⟩
   conv => whnf
   repeat ((first|((first|(apply zY;intro hg)|apply zZ);first|exact stA|((conv=>whnf);(repeat ((first|(refine zW ?_ ?_;exact gA)|refine pC (sorts_c _ _) wR ?_|refine pC (sorts_c _ _) cA ?_|refine pC (counts_c t OA) wR ?_|refine pC (counts_c t OA) cA ?_|refine PCall.read (number2_c b level consts codes (size + 1) free ok0 bound tk t scope) wR ?_|intro _);conv=>whnf));first|exact pS|exact pL|exact pE))|(refine zW ?_ ?_;exact gA)|refine zH rfl ?_|refine zA ?_|refine zI bA ?_|refine zI rfl ?_|refine sB ?_|(refine zO ?_ ?_ ?_;omega;omega)|(refine zP ?_ ?_ ?_;omega;omega)|refine zM rfl ?_|(refine zQ ?_ ?_ ?_;omega;omega)|(refine zR ?_ ?_;omega)|(refine zI ?_ ?_;exact nA)|refine sS ?_|refine pC (sorts_c _ _) wR ?_|refine pC (sorts_c _ _) cA ?_|refine pC (counts_c t OA) wR ?_|refine pC (counts_c t OA) cA ?_|refine PCall.read (number2_c b level consts codes (size + 1) free ok0 bound tk t scope) wR ?_|refine sD ?_|refine PDraw.sP (some 19) rfl [] [28,29,30] tt_ok mixed ?_|intro _);conv=>whnf)
   exact loopTo (i + 1, s', b', ok2, tk2') ⟨by omega, h1, fun h => ck_next _ (h3 h) k1 hz (by omega), fun h => k2 (h4 h)⟩ (by show t.t.length - (i + 1) < t.t.length - i; omega) wA
  ·obtain ⟨k1, k2⟩ := cks_step hlt q3 (t.t[i].op == 4) (scope ++ t.v) (by simp [wantOp, *]; omega) (by rw [if_pos (by omega)])
   refine PCall.go (ih t.t[i] (List.getElem_mem _) sz (deep + 1) bd (scope ++ t.v) (t.t[i].op == 4) tk' htk' hz q1 (by omega) (by omega) (by omega) (by first | omega | (simp; omega))) wA ?_
   rintro _ _ ⟨rfl, s', b', tk2', ok2, h1, rfl, h3, h4⟩
   conv => whnf
   repeat ((first|((first|(apply zY;intro hg)|apply zZ);first|exact stA|((conv=>whnf);(repeat ((first|(refine zW ?_ ?_;exact gA)|refine pC (sorts_c _ _) wR ?_|refine pC (sorts_c _ _) cA ?_|refine pC (counts_c t OA) wR ?_|refine pC (counts_c t OA) cA ?_|refine PCall.read (number2_c b level consts codes (size + 1) free ok0 bound tk t scope) wR ?_|intro _);conv=>whnf));first|exact pS|exact pL|exact pE))|(refine zW ?_ ?_;exact gA)|refine zH rfl ?_|refine zA ?_|refine zI bA ?_|refine zI rfl ?_|refine sB ?_|(refine zO ?_ ?_ ?_;omega;omega)|(refine zP ?_ ?_ ?_;omega;omega)|refine zM rfl ?_|(refine zQ ?_ ?_ ?_;omega;omega)|(refine zR ?_ ?_;omega)|(refine zI ?_ ?_;exact nA)|refine sS ?_|refine pC (sorts_c _ _) wR ?_|refine pC (sorts_c _ _) cA ?_|refine pC (counts_c t OA) wR ?_|refine pC (counts_c t OA) cA ?_|refine PCall.read (number2_c b level consts codes (size + 1) free ok0 bound tk t scope) wR ?_|refine sD ?_|refine PDraw.sP (some 19) rfl [] [28,29,30] tt_ok mixed ?_|intro _);conv=>whnf)
   exact loopTo (i + 1, s', b', ok2, tk2') ⟨by omega, h1, fun h => ck_next _ (h3 h) k1 hz (by omega), fun h => k2 (h4 h)⟩ (by show t.t.length - (i + 1) < t.t.length - i; omega) wA
  ·obtain ⟨k1, k2⟩ := cks_step hlt q3 true (scope ++ t.v) ⟨fun _ hh => (by omega), fun _ => rfl⟩ (by rw [if_pos (by omega)])
   refine PCall.go (ih t.t[i] (List.getElem_mem _) sz (deep + 1) bd (scope ++ t.v) (true) tk' htk' hz q1 (by omega) (by omega) (by omega) (by first | omega | (simp; omega))) wA ?_
   rintro _ _ ⟨rfl, s', b', tk2', ok2, h1, rfl, h3, h4⟩
   conv => whnf
   repeat ((first|((first|(apply zY;intro hg)|apply zZ);first|exact stA|((conv=>whnf);(repeat ((first|(refine zW ?_ ?_;exact gA)|refine pC (sorts_c _ _) wR ?_|refine pC (sorts_c _ _) cA ?_|refine pC (counts_c t OA) wR ?_|refine pC (counts_c t OA) cA ?_|refine PCall.read (number2_c b level consts codes (size + 1) free ok0 bound tk t scope) wR ?_|intro _);conv=>whnf));first|exact pS|exact pL|exact pE))|(refine zW ?_ ?_;exact gA)|refine zH rfl ?_|refine zA ?_|refine zI bA ?_|refine zI rfl ?_|refine sB ?_|(refine zO ?_ ?_ ?_;omega;omega)|(refine zP ?_ ?_ ?_;omega;omega)|refine zM rfl ?_|(refine zQ ?_ ?_ ?_;omega;omega)|(refine zR ?_ ?_;omega)|(refine zI ?_ ?_;exact nA)|refine sS ?_|refine pC (sorts_c _ _) wR ?_|refine pC (sorts_c _ _) cA ?_|refine pC (counts_c t OA) wR ?_|refine pC (counts_c t OA) cA ?_|refine PCall.read (number2_c b level consts codes (size + 1) free ok0 bound tk t scope) wR ?_|refine sD ?_|refine PDraw.sP (some 19) rfl [] [28,29,30] tt_ok mixed ?_|intro _);conv=>whnf)
   exact loopTo (i + 1, s', b', ok2, tk2') ⟨by omega, h1, fun h => ck_next _ (h3 h) k1 hz (by omega), fun h => k2 (h4 h)⟩ (by show t.t.length - (i + 1) < t.t.length - i; omega) wA
  ·obtain ⟨k1, k2⟩ := cks_step hlt q3 true scope ⟨fun _ hh => (by omega), fun _ => rfl⟩ (by rw [if_neg (by omega)])
   refine PCall.go (ih t.t[i] (List.getElem_mem _) sz (deep + 1) bd (scope) (true) tk' htk' hz q1 (by omega) (by omega) (by omega) (by first | omega | (simp; omega))) wA ?_
   rintro _ _ ⟨rfl, s', b', tk2', ok2, h1, rfl, h3, h4⟩
   conv => whnf
   repeat ((first|((first|(apply zY;intro hg)|apply zZ);first|exact stA|((conv=>whnf);(repeat ((first|(refine zW ?_ ?_;exact gA)|refine pC (sorts_c _ _) wR ?_|refine pC (sorts_c _ _) cA ?_|refine pC (counts_c t OA) wR ?_|refine pC (counts_c t OA) cA ?_|refine PCall.read (number2_c b level consts codes (size + 1) free ok0 bound tk t scope) wR ?_|intro _);conv=>whnf));first|exact pS|exact pL|exact pE))|(refine zW ?_ ?_;exact gA)|refine zH rfl ?_|refine zA ?_|refine zI bA ?_|refine zI rfl ?_|refine sB ?_|(refine zO ?_ ?_ ?_;omega;omega)|(refine zP ?_ ?_ ?_;omega;omega)|refine zM rfl ?_|(refine zQ ?_ ?_ ?_;omega;omega)|(refine zR ?_ ?_;omega)|(refine zI ?_ ?_;exact nA)|refine sS ?_|refine pC (sorts_c _ _) wR ?_|refine pC (sorts_c _ _) cA ?_|refine pC (counts_c t OA) wR ?_|refine pC (counts_c t OA) cA ?_|refine PCall.read (number2_c b level consts codes (size + 1) free ok0 bound tk t scope) wR ?_|refine sD ?_|refine PDraw.sP (some 19) rfl [] [28,29,30] tt_ok mixed ?_|intro _);conv=>whnf)
   exact loopTo (i + 1, s', b', ok2, tk2') ⟨by omega, h1, fun h => ck_next _ (h3 h) k1 hz (by omega), fun h => k2 (h4 h)⟩ (by show t.t.length - (i + 1) < t.t.length - i; omega) wA
end Go.Cb
namespace Go.Cb
open Go.Proofs
set_option maxRecDepth 100000
set_option maxHeartbeats 4000000
structure Prog where
 consts : List Datum
 body : Trm
def Prog.cells (p : Prog) : List PV := .sl 5 (p.consts.map Datum.pv) none :: p.body.cells
def checkD (p : Prog) (level : Int) : Int :=
 if (decide (level < 0) || decide (level > 2)) = true then 1 else
 if (p.consts.all (fun d => d.rightD 0) && (p.body.ckD level p.consts.length 0 false [] 0 0 []).isSome) = true then 0 else 5
theorem check2_c (p : Prog) (level : Int) (hb : p.body.bulk ≤ 1000000000) (hl : p.consts.length ≤ 1000000000) : ACallP Tryz.prog 44 [.agg p.cells, .int .i64 level] (.int .i64 (checkD p level)) := by
 have hs : checkD p level = checkD p level := rfl
 conv at hs => rhs; unfold checkD
 refine ACall.of_body tt_ok Tryz.func44 rfl rfl (n := 34) rfl rfl ?_
 conv => whnf
 repeat' (first|((first|((first|(apply zY;intro hg)|apply zZ);first|exact stA|((conv=>whnf);(repeat ((first|(refine zW ?_ ?_;exact gA)|refine pC (constants2_c _) wR ?_|refine pC (constants2_c _) cA ?_|intro _);conv=>whnf));first|exact pS|exact pL|exact pE))|(refine zW ?_ ?_;exact gA)|refine zH rfl ?_|refine zA ?_|refine zI bA ?_|refine zI rfl ?_|refine sB ?_|(refine zO ?_ ?_ ?_;omega;omega)|(refine zP ?_ ?_ ?_;omega;omega)|refine zM rfl ?_|(refine zQ ?_ ?_ ?_;omega;omega)|(refine zR ?_ ?_;omega)|(refine zI ?_ ?_;exact nA)|refine sS ?_|refine pC (constants2_c _) wR ?_|refine pC (constants2_c _) cA ?_|refine sD ?_|refine PDraw.sP (some 12) rfl [] [8,9] tt_ok mixed ?_|intro _|refine zG ?_);conv=>whnf)|(refine zX (fun hc => ?_) (fun hc => ?_)<;>(try simp only [SY] at hc)<;>first|omega|(conv=>whnf)))
 ·rw [hs, if_pos (by simp only [SS]; exact hc)]
  exact PRet.pure (Wk.refl _)
 ·rename_i b1 b2
  refine PCall.goG (Ghost.trans (Ghost.nil 1 3 _) (Ghost.box (b := b2) (cs := [.int .i64 level, .int .i64 p.consts.length, .int .i64 0, .bfalse, .int .i64 0, .nil, .bool (p.consts.all fun d => d.rightD 0)]) (cs' := ckC level p.consts.length 0 0 false [] (nilTok 1 3) (p.consts.all fun d => d.rightD 0)) wA))
   (term2_c b2 level p.consts.length 0 false p.body 0 0 [] [] (p.consts.all fun d => d.rightD 0) (nilTok 1 3) rfl (by omega) (by omega) (by omega) (by omega) (by simp; omega) (by simp; omega)) wA ?_
  rintro _ _ ⟨rfl, s', b', tk, ok, h1, rfl, h3, h4⟩
  rw [hc] at h3 h4
  simp only [if_true] at h3 h4
  conv => whnf
  repeat' (first|((first|((first|(apply zY;intro hg)|apply zZ);first|exact stA|((conv=>whnf);(repeat ((first|(refine zW ?_ ?_;exact gA)|refine pC (constants2_c _) wR ?_|refine pC (constants2_c _) cA ?_|intro _);conv=>whnf));first|exact pS|exact pL|exact pE))|(refine zW ?_ ?_;exact gA)|refine zH rfl ?_|refine zA ?_|refine zI bA ?_|refine zI rfl ?_|refine sB ?_|(refine zO ?_ ?_ ?_;omega;omega)|(refine zP ?_ ?_ ?_;omega;omega)|refine zM rfl ?_|(refine zQ ?_ ?_ ?_;omega;omega)|(refine zR ?_ ?_;omega)|(refine zI ?_ ?_;exact nA)|refine sS ?_|refine pC (constants2_c _) wR ?_|refine pC (constants2_c _) cA ?_|refine sD ?_|refine PDraw.sP (some 12) rfl [] [8,9] tt_ok mixed ?_|intro _|refine zG ?_);conv=>whnf)|(refine zX (fun hc => ?_) (fun hc => ?_)<;>(try simp only [SY] at hc)<;>first|omega|(conv=>whnf)))
  ·rw [hs, if_neg (by simp only [SS]; omega), if_neg (by rw [h4 hc]; simp)]
   exact PRet.pure (Wk.refl _)
  ·rw [hs, if_neg (by simp only [SS]; omega), if_pos (by rw [h3 hc]; simp [*])]
   exact PRet.pure (Wk.refl _)
 ·rw [hs, if_neg (by simp only [SS]; omega), if_neg (by simp [*])]
  exact PRet.pure (Wk.refl _)
 ·rename_i hx; rw [hc] at hx; cases hx
end Go.Cb
namespace Go.Cb
open Go.Proofs
set_option maxRecDepth 100000
set_option maxHeartbeats 4000000
def Dist (l bound : List Int) : Prop := (∀ x ∈ l, 0 ≤ x ∧ x ≤ 1000000 ∧ x ∉ bound) ∧ l.Nodup
theorem Dist.congr {l b c : List Int} (h : ∀ x, x ∈ b ↔ x ∈ c) : Dist l b ↔ Dist l c := by
 unfold Dist
 simp only [h]
theorem Dist.perm {l m b : List Int} (h : l.Perm m) : Dist l b ↔ Dist m b := by
 unfold Dist
 rw [h.nodup_iff]
 simp only [h.mem_iff]
theorem Dist.append {l m b c : List Int} (h : ∀ x, x ∈ c ↔ x ∈ b ∨ x ∈ l) : Dist (l ++ m) b ↔ Dist l b ∧ Dist m c := by
 unfold Dist
 simp only [List.mem_append, List.nodup_append, h]
 constructor
 ·rintro ⟨h1, h2, h3, h4⟩
  exact ⟨⟨fun x hx => h1 x (.inl hx), h2⟩, fun x hx => ⟨(h1 x (.inr hx)).1, (h1 x (.inr hx)).2.1, by rintro (h | h); exact (h1 x (.inr hx)).2.2 h; exact h4 x h x hx rfl⟩, h3⟩
 ·rintro ⟨⟨h1, h2⟩, h3, h4⟩
  refine ⟨?_, h2, h4, ?_⟩
  ·rintro x (hx | hx)
   ·exact h1 x hx
   ·exact ⟨(h3 x hx).1, (h3 x hx).2.1, fun h => (h3 x hx).2.2 (.inl h)⟩
  ·rintro x hx y hy rfl
   exact (h3 x hy).2.2 (.inr hx)
def Sp (r : Option (Int × List Int)) (c : Prop) (n : Int) (V : List Int) (size : Int) (bound : List Int) : Prop :=
 (r = none ∧ ¬(c ∧ size + n ≤ 20000 ∧ Dist V bound)) ∨ (∃ b, r = some (size + n, b) ∧ (c ∧ size + n ≤ 20000 ∧ Dist V bound) ∧ ∀ x, x ∈ b ↔ x ∈ bound ∨ x ∈ V)
theorem Sp.some_iff {r c n V size bound} (h : Sp r c n V size bound) : r.isSome = true ↔ (c ∧ size + n ≤ 20000 ∧ Dist V bound) := by
 rcases h with ⟨rfl, h⟩ | ⟨b, rfl, h, _⟩
 ·simpa using h
 ·simpa using h
theorem Sp.iff {r c c' n V size bound} (h : Sp r c n V size bound) (hc : c ↔ c') : Sp r c' n V size bound := by
 unfold Sp at h ⊢; rwa [hc] at h
theorem Sp.perm {r c n V W size bound} (h : Sp r c n V size bound) (hp : V.Perm W) : Sp r c n W size bound := by
 unfold Sp at h ⊢; simpa only [Dist.perm hp, hp.mem_iff] using h
theorem Sp.nil {size : Int} {bound : List Int} (h : size ≤ 20000) : Sp (some (size, bound)) True 0 [] size bound :=
 .inr ⟨bound, by simp, ⟨trivial, by omega, by simp [Dist]⟩, by simp⟩
theorem Sp.test {r c n V size bound} {p : Prop} [Decidable p] (h : ¬p → Sp r c n V size bound) : Sp (if p then none else r) (¬p ∧ c) n V size bound := by
 by_cases hp : p
 ·rw [if_pos hp]; exact .inl ⟨rfl, fun h => h.1.1 hp⟩
 ·rw [if_neg hp]; exact (h hp).iff (by simp [hp])
theorem Sp.seq {r1 : Option (Int × List Int)} {f : Int → List Int → Option (Int × List Int)} {c1 c2 : Prop} {n1 n2 : Int} {V1 V2 : List Int} {size : Int} {bound : List Int} (h1 : Sp r1 c1 n1 V1 size bound) (hn : 0 ≤ n2)
  (h2 : ∀ b, size + n1 ≤ 20000 → Sp (f (size + n1) b) c2 n2 V2 (size + n1) b) : Sp (match (generalizing := false) r1 with | none => none | some (s, b) => f s b) (c1 ∧ c2) (n1 + n2) (V1 ++ V2) size bound := by
 rcases h1 with ⟨rfl, h⟩ | ⟨b, rfl, ⟨k1, k2, k3⟩, hb⟩
 ·exact .inl ⟨rfl, fun ⟨⟨g1, g2⟩, g3, g4⟩ => h ⟨g1, by omega, ((Dist.append (c := bound ++ V1) (by simp)).1 g4).1⟩⟩
 ·rcases h2 b k2 with ⟨e, h⟩ | ⟨b', e, ⟨g1, g2, g3⟩, hb'⟩
  ·exact .inl ⟨e, fun ⟨⟨g1, g2⟩, g3, g4⟩ => h ⟨g2, by omega, ((Dist.append hb).1 g4).2⟩⟩
  ·exact .inr ⟨b', by rw [← Int.add_assoc]; exact e, ⟨⟨k1, g1⟩, by omega, (Dist.append hb).2 ⟨k3, g3⟩⟩, fun x => by rw [hb', hb, List.mem_append, or_assoc]⟩
theorem bindR_dist : ∀ (l bound : List Int), (bindR l bound).1 = true ↔ Dist l bound
 | [], bound => by simp [bindR, Dist]
 | v :: l, bound => by
  rw [bindR]
  split
  ·rename_i hv
   rw [bindR_dist l, show v :: l = [v] ++ l from rfl, Dist.append (l := [v]) (c := bound ++ [v]) (by simp)]
   simp [vOk] at hv
   simp [Dist]
   intro _ _
   exact ⟨by omega, by omega, hv.2⟩
  ·rename_i hv
   simp only [Bool.false_eq_true, false_iff]
   rintro ⟨h, _⟩
   have := h v (by simp)
   apply hv
   simp [vOk]
   exact ⟨by omega, this.2.2⟩
theorem bindR_snd : ∀ (l bound : List Int), (bindR l bound).1 = true → (bindR l bound).2 = bound ++ l
 | [], bound, _ => by simp [bindR]
 | v :: l, bound, h => by
  rw [bindR] at h ⊢
  split at h
  ·rename_i hv
   rw [if_pos hv, bindR_snd l _ h]; simp
  ·cases h
theorem Sp.bind {v bound : List Int} {size : Int} {r : Option (Int × List Int)} {c : Prop} {n : Int} {V : List Int} (h : (bindR v bound).1 = true → Sp r c n V size (bound ++ v)) : Sp (if (bindR v bound).1 = true then r else none) c n (v ++ V) size bound := by
 have ha : Dist (v ++ V) bound ↔ Dist v bound ∧ Dist V (bound ++ v) := Dist.append (by simp)
 by_cases hb : (bindR v bound).1 = true
 ·have hd := (bindR_dist _ _).1 hb
  rw [if_pos hb]
  rcases h hb with ⟨rfl, hh⟩ | ⟨b, rfl, ⟨k1, k2, k3⟩, hm⟩
  ·exact .inl ⟨rfl, fun ⟨g1, g2, g3⟩ => hh ⟨g1, g2, (ha.1 g3).2⟩⟩
  ·exact .inr ⟨b, rfl, ⟨k1, k2, ha.2 ⟨hd, k3⟩⟩, fun x => by rw [hm, List.mem_append, List.mem_append, or_assoc]⟩
 ·rw [if_neg hb]
  exact .inl ⟨rfl, fun ⟨_, _, g3⟩ => hb ((bindR_dist _ _).2 (ha.1 g3).1)⟩
theorem Sp.tick {r c n V size bound} (hn : 0 ≤ n) (h : size + 1 ≤ 20000 → Sp r c n V (size + 1) bound) : Sp (if size + 1 > 20000 then none else r) c (1 + n) V size bound := by
 split
 ·exact .inl ⟨rfl, fun ⟨_, h, _⟩ => by omega⟩
 ·rcases h (by omega) with ⟨rfl, hh⟩ | ⟨b, rfl, k, hm⟩
  ·exact .inl ⟨rfl, fun ⟨g1, g2, g3⟩ => hh ⟨g1, by omega, g3⟩⟩
  ·exact .inr ⟨b, by rw [← Int.add_assoc], ⟨k.1, by omega, k.2.2⟩, hm⟩
mutual
def Trm.cnt : Trm → Int
 | .mk _ _ _ t => 1 + Trm.cnts t
def Trm.cnts : List Trm → Int
 | [] => 0
 | x :: xs => Trm.cnt x + Trm.cnts xs
end
mutual
def Trm.vars : Trm → List Int
 | .mk _ _ v t => v ++ Trm.varss t
def Trm.varss : List Trm → List Int
 | [] => []
 | x :: xs => Trm.vars x ++ Trm.varss xs
end
theorem Trm.cnt_eq (t : Trm) : t.cnt = 1 + Trm.cnts t.t := by cases t; rfl
theorem Trm.vars_eq (t : Trm) : t.vars = t.v ++ Trm.varss t.t := by cases t; rfl
theorem Trm.cnt_pos (t : Trm) : 1 ≤ t.cnt := by
 induction t using Trm.ind with
 | h t ih =>
  rw [Trm.cnt_eq]
  have : ∀ l : List Trm, (∀ x ∈ l, 1 ≤ x.cnt) → 0 ≤ Trm.cnts l := by
   intro l
   induction l with
   | nil => intro _; rw [Trm.cnts]; omega
   | cons y l ih => intro h; rw [Trm.cnts]; have := h y (by simp); have := ih fun x hx => h x (by simp [hx]); omega
  have := this t.t ih
  omega
theorem Trm.cnts_pos : ∀ l : List Trm, 0 ≤ Trm.cnts l
 | [] => by rw [Trm.cnts]; omega
 | x :: l => by rw [Trm.cnts]; have := x.cnt_pos; have := Trm.cnts_pos l; omega
mutual
def Trm.okT (level consts codes : Int) (free : Bool) : Trm → List Int → Int → Prop
 | .mk op n v t, scope, deep => (deep ≤ 400 ∧ sortsL op level = true ∧ countsL (.mk op n v t) = true ∧ numberL consts codes free (.mk op n v t) scope = true) ∧ Trm.okTs level consts codes free op scope (scope ++ v) t (deep + 1)
def Trm.okTs (level consts codes : Int) (free : Bool) (op : Int) (scope inner : List Int) : List Trm → Int → Prop
 | [], _ => True
 | x :: xs, deep => (¬(op = 9 ∧ xs ≠ [] ∧ x.op ≠ wantOp level)) ∧ Trm.okT level consts codes free x (if xs = [] ∨ op = 7 ∨ op = 9 then inner else scope) deep ∧ Trm.okTs level consts codes free op scope inner xs deep
end
theorem Trm.okT_eq (level consts codes : Int) (free : Bool) (t : Trm) (scope : List Int) (deep : Int) : t.okT level consts codes free scope deep ↔
  (deep ≤ 400 ∧ sortsL t.op level = true ∧ countsL t = true ∧ numberL consts codes free t scope = true) ∧ Trm.okTs level consts codes free t.op scope (scope ++ t.v) t.t (deep + 1) := by cases t; rw [Trm.okT]; rfl
theorem Trm.ckD_sp (level consts codes : Int) (free : Bool) (t : Trm) : ∀ (scope : List Int) (deep size : Int) (bound : List Int), Sp (t.ckD level consts codes free scope deep size bound) (t.okT level consts codes free scope deep) t.cnt t.vars size bound := by
 induction t using Trm.ind with
 | h t ih =>
  intro scope deep size bound
  have key : ∀ l : List Trm, (∀ y ∈ l, ∀ (scope : List Int) (deep size : Int) (bound : List Int), Sp (y.ckD level consts codes free scope deep size bound) (y.okT level consts codes free scope deep) y.cnt y.vars size bound) →
    ∀ (deep size : Int) (bound : List Int), size ≤ 20000 → Sp (Trm.cksD level consts codes free t.op scope (scope ++ t.v) l deep size bound) (Trm.okTs level consts codes free t.op scope (scope ++ t.v) l deep) (Trm.cnts l) (Trm.varss l) size bound := by
   intro l
   induction l with
   | nil => intro _ deep size bound h; rw [Trm.cksD, Trm.okTs, Trm.cnts, Trm.varss]; exact Sp.nil h
   | cons x l ihl =>
    intro hy deep size bound h
    rw [Trm.cksD, Trm.okTs, Trm.cnts, Trm.varss]
    exact Sp.test fun _ => Sp.seq (hy x (by simp) _ _ _ _) (Trm.cnts_pos l) fun b hb => ihl (fun y hh => hy y (by simp [hh])) _ _ _ hb
  rw [Trm.ckD_eq, Trm.cnt_eq, Trm.vars_eq, Trm.okT_eq]
  have h1 : (if (decide (deep > 400) || decide (size + 1 > 20000) || !sortsL t.op level || !countsL t || !numberL consts codes free t scope) = true then none else
    if (bindR t.v bound).1 = true then Trm.cksD level consts codes free t.op scope (scope ++ t.v) t.t (deep + 1) (size + 1) (bindR t.v bound).2 else none) =
    (if ¬(deep ≤ 400 ∧ sortsL t.op level = true ∧ countsL t = true ∧ numberL consts codes free t scope = true) then none else if size + 1 > 20000 then none else
    if (bindR t.v bound).1 = true then Trm.cksD level consts codes free t.op scope (scope ++ t.v) t.t (deep + 1) (size + 1) (bound ++ t.v) else none) := by
   by_cases a : deep ≤ 400 ∧ sortsL t.op level = true ∧ countsL t = true ∧ numberL consts codes free t scope = true
   ·rw [if_neg (c := ¬ _) (by simpa using a)]
    by_cases b : size + 1 > 20000
    ·rw [if_pos b, if_pos (by simp [b])]
    ·rw [if_neg b, if_neg (by simp [a]; omega)]
     split
     ·rename_i hb; rw [bindR_snd _ _ hb]
     ·rfl
   ·rw [if_pos (c := ¬ _) a, if_pos]
    simp only [Bool.or_eq_true, decide_eq_true_eq, Bool.not_eq_true']
    apply Classical.byContradiction
    intro h
    apply a
    simp only [not_or, Bool.not_eq_false] at h
    exact ⟨by omega, h.1.1.2, h.1.2, h.2⟩
  rw [h1]
  refine (Sp.test fun _ => Sp.tick (Trm.cnts_pos _) fun hs => Sp.bind fun _ => key t.t ih _ _ _ hs).iff ?_
  rw [Classical.not_not]
theorem numberP_eq (consts codes : Int) (free : Bool) (t : Trm) (scope : List Int) : numberP consts codes free t scope = numberL consts codes free t scope := by
 unfold numberP numberL
 split; rfl
 split; rfl
 split
 ·rw [Bool.eq_iff_iff]; simp; omega
 ·rfl
theorem shape_eq (level : Int) (h0 : 0 ≤ level) (h3 : level ≤ 3) (t : Trm) :
  ((shapeL t.op).2 = true ∧ (shapeL t.op).1.fm ≤ level ∧ level ≤ (shapeL t.op).1.to ∧ fitsL (shapeL t.op).1 t = true) ↔ (sortsL t.op level = true ∧ countsL t = true) := by
 have hc : t.op < 0 ∨ t.op > 22 ∨ t.op = 0 ∨ t.op = 1 ∨ t.op = 2 ∨ t.op = 3 ∨ t.op = 4 ∨ t.op = 5 ∨ t.op = 6 ∨ t.op = 7 ∨ t.op = 8 ∨ t.op = 9 ∨ t.op = 10 ∨ t.op = 11 ∨ t.op = 12 ∨ t.op = 13 ∨ t.op = 14 ∨ t.op = 15 ∨ t.op = 16 ∨ t.op = 17 ∨ t.op = 18 ∨ t.op = 19 ∨ t.op = 20 ∨ t.op = 21 ∨ t.op = 22 := by omega
 rcases hc with h | h | h | h | h | h | h | h | h | h | h | h | h | h | h | h | h | h | h | h | h | h | h | h | h
 ·have e : shapeL t.op = (⟨0, 0, 0, false, false⟩, false) := by unfold shapeL; repeat rw [if_neg (by omega)]
  have e2 : sortsL t.op level = false := by unfold sortsL; repeat rw [if_neg (by omega)]
  simp [e, e2]
 ·have e : shapeL t.op = (⟨0, 0, 0, false, false⟩, false) := by unfold shapeL; repeat rw [if_neg (by omega)]
  have e2 : sortsL t.op level = false := by unfold sortsL; repeat rw [if_neg (by omega)]
  simp [e, e2]
 all_goals
  simp [shapeL, sortsL, countsL, fitsL, bindsB, h]
  try (first | omega | (simp only [← List.length_eq_zero_iff]; omega))
def Trm.okG (level consts codes : Int) (free : Bool) (inner : List Int) : List Trm → Int → Prop
 | [], _ => True
 | x :: xs, deep => Trm.okT level consts codes free x inner deep ∧ Trm.okG level consts codes free inner xs deep
theorem Trm.okTs_G {level consts codes : Int} {free : Bool} {op : Int} (hop : op = 7 ∨ op = 9) (scope inner : List Int) (deep : Int) : ∀ l : List Trm, Trm.okTs level consts codes free op scope inner l deep ↔ (¬((op == 9 && !procsL level l.dropLast) = true) ∧ Trm.okG level consts codes free inner l deep)
 | [] => by simp [Trm.okTs, Trm.okG, procsL]
 | [x] => by
  rw [Trm.okTs, Trm.okG, if_pos (.inl rfl)]
  simp [Trm.okTs, Trm.okG, procsL]
 | x :: y :: l => by
  rw [Trm.okTs, Trm.okG, if_pos (.inr hop), Trm.okTs_G hop scope inner deep (y :: l)]
  have e : (op == 9 && !procsL level (x :: y :: l).dropLast) = true ↔ (op = 9 ∧ x.op ≠ wantOp level) ∨ (op == 9 && !procsL level (y :: l).dropLast) = true := by
   rw [show (x :: y :: l).dropLast = x :: (y :: l).dropLast from rfl]
   simp only [procsL, wantOp, Bool.and_eq_true, beq_iff_eq, List.any_cons, Bool.not_not, Bool.or_eq_true, bne_iff_ne]
   constructor
   ·rintro ⟨h1, h2 | h2⟩
    ·exact .inl ⟨h1, h2⟩
    ·exact .inr ⟨h1, h2⟩
   ·rintro (⟨h1, h2⟩ | ⟨h1, h2⟩)
    ·exact ⟨h1, .inl h2⟩
    ·exact ⟨h1, .inr h2⟩
  rw [e]
  constructor
  ·rintro ⟨h1, h2, h3, h4⟩
   exact ⟨fun h => h.elim (fun h => h1 ⟨h.1, by simp, h.2⟩) h3, h2, h4⟩
  ·rintro ⟨h1, h2, h4⟩
   exact ⟨fun h => h1 (.inl ⟨h.1, h.2.2⟩), h2, fun h => h1 (.inr h), h4⟩
theorem Trm.ckP_sp (level consts codes : Int) (free : Bool) (h0 : 0 ≤ level) (h3 : level ≤ 3) (t : Trm) : ∀ (scope : List Int) (deep size : Int) (bound : List Int), Sp (t.ckP level consts codes free scope deep size bound) (t.okT level consts codes free scope deep) t.cnt t.vars size bound := by
 induction t using Trm.ind with
 | h t ih =>
  intro scope deep size bound
  have keyG : ∀ l : List Trm, (∀ y ∈ l, ∀ (scope : List Int) (deep size : Int) (bound : List Int), Sp (y.ckP level consts codes free scope deep size bound) (y.okT level consts codes free scope deep) y.cnt y.vars size bound) →
    ∀ (inner : List Int) (deep size : Int) (bound : List Int), size ≤ 20000 → Sp (Trm.cksG level consts codes free inner l deep size bound) (Trm.okG level consts codes free inner l deep) (Trm.cnts l) (Trm.varss l) size bound := by
   intro l
   induction l with
   | nil => intro _ inner deep size bound h; rw [Trm.cksG, Trm.okG, Trm.cnts, Trm.varss]; exact Sp.nil h
   | cons x l ihl =>
    intro hy inner deep size bound h
    rw [Trm.cksG, Trm.okG, Trm.cnts, Trm.varss]
    exact Sp.seq (hy x (by simp) _ _ _ _) (Trm.cnts_pos l) fun b hb => ihl (fun y hh => hy y (by simp [hh])) _ _ _ _ hb
  have keyI : t.op ≠ 7 → t.op ≠ 9 → ∀ l : List Trm, (∀ y ∈ l, ∀ (scope : List Int) (deep size : Int) (bound : List Int), Sp (y.ckP level consts codes free scope deep size bound) (y.okT level consts codes free scope deep) y.cnt y.vars size bound) →
    ∀ (deep size : Int) (bound : List Int), size ≤ 20000 → Sp (Trm.cksI level consts codes free scope t.v l deep size bound) (Trm.okTs level consts codes free t.op scope (scope ++ t.v) l deep) (Trm.cnts l) (t.v ++ Trm.varss l) size bound := by
   intro h7 h9 l
   induction l with
   | nil => intro _ deep size bound h; rw [Trm.cksI, Trm.okTs, Trm.cnts, Trm.varss]; exact Sp.bind fun _ => Sp.nil h
   | cons x l ihl =>
    intro hy deep size bound h
    rw [Trm.cksI, Trm.okTs, Trm.cnts, Trm.varss]
    cases l with
    | nil =>
     rw [if_pos (show ([] : List Trm).isEmpty = true from rfl), if_pos (show ([] : List Trm) = [] ∨ t.op = 7 ∨ t.op = 9 from .inl rfl), Trm.cnts, Trm.varss, List.append_nil, Int.add_zero]
     exact (Sp.bind fun _ => hy x (by simp) _ _ _ _).iff (by simp [h9, Trm.okTs])
    | cons y l =>
     rw [if_neg (show ¬((y :: l).isEmpty = true) by simp), if_neg (show ¬((y :: l) = [] ∨ t.op = 7 ∨ t.op = 9) by simp [h7, h9])]
     refine ((Sp.seq (hy x (by simp) _ _ _ _) (Trm.cnts_pos (y :: l)) fun b hb => ihl (fun y hh => hy y (by simp [hh])) _ _ _ hb).iff (by simp [h9])).perm ?_
     rw [← List.append_assoc, ← List.append_assoc]
     exact List.perm_append_comm.append_right _
  rw [Trm.ckP_eq, Trm.cnt_eq, Trm.vars_eq, Trm.okT_eq]
  have hsh := shape_eq level h0 h3 t
  have hloc : (deep ≤ 400 ∧ sortsL t.op level = true ∧ countsL t = true ∧ numberL consts codes free t scope = true) ↔ (deep ≤ 400 ∧ ((shapeL t.op).2 = true ∧ (shapeL t.op).1.fm ≤ level ∧ level ≤ (shapeL t.op).1.to ∧ fitsL (shapeL t.op).1 t = true) ∧ numberP consts codes free t scope = true) := by
   rw [hsh, numberP_eq, and_assoc]
  have hb : ∀ r : Option (Int × List Int), (if badP level consts codes free t scope deep (size + 1) = true then none else r) =
    (if ¬(deep ≤ 400 ∧ sortsL t.op level = true ∧ countsL t = true ∧ numberL consts codes free t scope = true) then none else if size + 1 > 20000 then none else r) := by
   intro r
   by_cases a : deep ≤ 400 ∧ sortsL t.op level = true ∧ countsL t = true ∧ numberL consts codes free t scope = true
   ·rw [if_neg (c := ¬ _) (by simpa using a)]
    have a' := hloc.1 a
    by_cases b : size + 1 > 20000
    ·rw [if_pos b, if_pos (by simp [badP, b])]
    ·rw [if_neg b, if_neg (by simp [badP, a']; omega)]
   ·rw [if_pos (c := ¬ _) a, if_pos]
    simp only [badP, Bool.or_eq_true, decide_eq_true_eq, Bool.not_eq_true']
    apply Classical.byContradiction
    intro h
    apply a
    rw [hloc]
    simp only [not_or, Bool.not_eq_false] at h
    exact ⟨by omega, ⟨h.1.1.1.1.1.1, by omega, by omega, h.1.2⟩, h.2⟩
  rw [hb]
  by_cases hg : groupB t.op = true
  ·have hop : t.op = 7 ∨ t.op = 9 := by simpa [groupB] using hg
   rw [if_pos hg]
   refine (Sp.test fun _ => Sp.tick (Trm.cnts_pos _) fun hs => Sp.test fun _ => Sp.bind fun _ => keyG t.t ih _ _ _ _ hs).iff ?_
   rw [Classical.not_not, Trm.okTs_G hop]
  ·have hop : t.op ≠ 7 ∧ t.op ≠ 9 := by simpa [groupB] using hg
   rw [if_neg hg]
   refine (Sp.test fun _ => Sp.tick (Trm.cnts_pos _) fun hs => keyI hop.1 hop.2 t.t ih _ _ _ hs).iff ?_
   rw [Classical.not_not]
theorem ck_eq (level consts codes : Int) (free : Bool) (h0 : 0 ≤ level) (h3 : level ≤ 3) (t : Trm) (scope : List Int) (deep size : Int) (bound : List Int) :
  (t.ckP level consts codes free scope deep size bound).isSome = (t.ckD level consts codes free scope deep size bound).isSome := by
 rw [Bool.eq_iff_iff, (t.ckP_sp level consts codes free h0 h3 scope deep size bound).some_iff, (t.ckD_sp level consts codes free scope deep size bound).some_iff]
end Go.Cb
namespace Go.Cb
open Go.Proofs
set_option maxRecDepth 100000
set_option maxHeartbeats 4000000
theorem digN_all {a : List UInt8} (r : List UInt8) (h : a.all isDig = true) : digN (a ++ r) = a.length + digN r := by
 induction a with
 | nil => simp
 | cons c a ih =>
  simp only [List.all_cons, Bool.and_eq_true] at h
  rw [List.cons_append, digN, if_pos h.1, ih h.2, List.length_cons]; omega
theorem digN_not {a : List UInt8} (r : List UInt8) (h : a.all isDig = false) : ∃ c, a[digN (a ++ r)]? = some c ∧ isDig c = false ∧ digN (a ++ r) < a.length := by
 induction a with
 | nil => simp at h
 | cons c a ih =>
  rw [List.cons_append, digN]
  by_cases hc : isDig c = true
  ·rw [List.all_cons, hc, Bool.true_and] at h
   obtain ⟨x, h1, h2, h3⟩ := ih h
   rw [if_pos hc]
   exact ⟨x, by simpa using h1, h2, by simp; exact h3⟩
  ·rw [if_neg hc]
   exact ⟨c, by simp, by simpa using hc, by simp⟩
theorem natB_part (a : List UInt8) : natB a = true ↔ ((partN a).2 ≠ 0 ∧ (partN a).2 = a.length) := by
 unfold natB partN
 cases h : a.all isDig
 ·obtain ⟨c, h1, h2, h3⟩ := digN_not [] h
  rw [List.append_nil] at h3
  simp only [Bool.and_false, Bool.false_eq_true, false_iff]
  split
  ·simp
  ·rintro ⟨_, h⟩; simp only at h; omega
 ·have hd := digN_all [] h
  rw [List.append_nil] at hd
  simp only [digN] at hd
  simp only [Bool.and_true, Bool.and_eq_true, decide_eq_true_eq]
  split
  ·simp; omega
  ·simp; omega
theorem natV_part {a : List UInt8} (h : natB a = true) : natV a = (partN a).1 := by
 have h2 := (natB_part a).1 h
 unfold natV
 rw [if_pos h]
 unfold partN at h2 ⊢
 split at h2
 ·simp at h2
 ·rename_i hd
  rw [if_neg hd]
  simp only at h2
  rw [h2.2, List.take_length]
theorem cut_cases (u : List UInt8) : (Go.Lib.indexByte u 47 < 0 ∧ cutA u 47 = u ∧ (47 : UInt8) ∉ u) ∨ (∃ a b, u = a ++ 47 :: b ∧ 0 ≤ Go.Lib.indexByte u 47 ∧ cutA u 47 = a ∧ cutB u 47 = b ∧ (47 : UInt8) ∉ a) := by
 induction u with
 | nil => left; simp [Go.Lib.indexByte, cutA]
 | cons c u ih =>
  by_cases h : c = 47
  ·subst h
   right
   have e : Go.Lib.indexByte (47 :: u) 47 = 0 := by simp [Go.Lib.indexByte]
   exact ⟨[], u, rfl, by omega, by simp [cutA, e], by simp [cutB, e], by simp⟩
  ·have h1 : (c == 47) = false := by simp [h]
   rcases ih with ⟨h2, h3, h4⟩ | ⟨a, b, rfl, h2, h3, h4, h5⟩
   ·have e : Go.Lib.indexByte (c :: u) 47 = -1 := by have := Go.Lib.indexByte_ge u 47; rw [Go.Lib.indexByte, h1]; simp; omega
    exact .inl ⟨by omega, by simp [cutA, e], by simp; exact ⟨fun e => h e.symm, h4⟩⟩
   ·have e : Go.Lib.indexByte (c :: (a ++ 47 :: b)) 47 = Go.Lib.indexByte (a ++ 47 :: b) 47 + 1 := by rw [Go.Lib.indexByte, h1]; simp; omega
    refine .inr ⟨c :: a, b, rfl, by omega, ?_, ?_, by simp; exact ⟨fun e => h e.symm, h5⟩⟩
    ·unfold cutA at h3 ⊢
     rw [if_pos h2] at h3
     rw [if_pos (by omega), e, show (Go.Lib.indexByte (a ++ 47 :: b) 47 + 1).toNat = (Go.Lib.indexByte (a ++ 47 :: b) 47).toNat + 1 by omega, List.take_succ_cons, h3]
    ·unfold cutB at h4 ⊢
     rw [if_pos h2] at h4
     rw [if_pos (by omega), e, show (Go.Lib.indexByte (a ++ 47 :: b) 47 + 1).toNat = (Go.Lib.indexByte (a ++ 47 :: b) 47).toNat + 1 by omega, List.drop_succ_cons, h4]
theorem isDig47 : isDig 47 = false := by decide
theorem parse_eq (s : List UInt8) : parseP s = parseN s := by
 have hu : (if negB s = true then s.drop 1 else s) = unneg s := rfl
 unfold parseP
 simp only [hu]
 rw [parseN_eq]
 generalize unneg s = u
 rcases cut_cases u with ⟨hi, ha, hn⟩ | ⟨a, b, rfl, hi, ha, hb, hn⟩
 ·rw [ha, if_neg (show ¬(0 ≤ Go.Lib.indexByte u 47) by omega)]
  have h49 : natB [49] = true := by decide
  have h49v : natV [49] = 1 := by decide
  rw [h49, h49v, Bool.and_true]
  cases hall : u.all isDig
  ·obtain ⟨c, h1, h2, h3⟩ := digN_not [] hall
   rw [List.append_nil] at h1 h3
   have hnb : natB u = false := by unfold natB; rw [hall]; simp
   rw [hnb]
   simp only [Bool.false_eq_true, if_false]
   unfold partN
   split
   ·rfl
   ·rename_i h10
    simp only
    split
    ·rfl
    ·have : lowerN u (digN u) = none := by
      unfold lowerN
      rw [if_pos h3, if_neg]
      rintro ⟨h, _⟩
      rw [h1] at h
      cases h
      exact hn (List.mem_of_getElem? h1)
     rw [this]
  ·have hd := digN_all [] hall
   rw [List.append_nil] at hd
   simp only [digN, Nat.add_zero] at hd
   by_cases hnb : natB u = true
   ·have hp := (natB_part u).1 hnb
    rw [hnb, if_pos rfl, if_neg hp.1, natV_part hnb]
    have : lowerN u (partN u).2 = some 1 := by unfold lowerN; rw [if_neg (by omega)]
    rw [this]
   ·have : (partN u).2 = 0 := by
     have := mt (natB_part u).2 hnb
     unfold partN at this ⊢
     split at this
     ·rename_i h; rw [if_pos h]
     ·rename_i h; rw [if_neg h]; simp only at this ⊢; omega
    rw [if_neg hnb, if_pos this]
 ·rw [ha, hb, if_pos hi]
  have h47 : digN (47 :: b) = 0 := by rw [digN, isDig47]; rfl
  cases hall : a.all isDig
  ·obtain ⟨c, h1, h2, h3⟩ := digN_not (47 :: b) hall
   have hnb : natB a = false := by unfold natB; rw [hall]; simp
   rw [hnb]
   simp only [Bool.false_and, Bool.false_eq_true, if_false]
   unfold partN
   split
   ·rfl
   ·simp only
    split
    ·rfl
    ·have : lowerN (a ++ 47 :: b) (digN (a ++ 47 :: b)) = none := by
      unfold lowerN
      rw [if_pos (by simp; omega), if_neg]
      rintro ⟨h, _⟩
      rw [List.getElem?_append_left h3, h1] at h
      cases h
      exact hn (List.mem_of_getElem? h1)
     rw [this]
  ·have hd := digN_all (47 :: b) hall
   rw [h47, Nat.add_zero] at hd
   by_cases hnb : natB a = true
   ·have hp := (natB_part a).1 hnb
    have hl : 1 ≤ a.length ∧ a.length ≤ 10 := by
     unfold natB at hnb; simp only [Bool.and_eq_true, decide_eq_true_eq] at hnb; exact ⟨hnb.1, hnb.2.1⟩
    have hpu : partN (a ++ 47 :: b) = (natV a, a.length) := by
     unfold partN natV
     rw [hd, if_neg (by omega), if_pos hnb, List.take_left]
    rw [hpu]
    simp only
    rw [if_neg (show ¬(a.length = 0) by omega), hnb, Bool.true_and]
    have hlo : lowerN (a ++ 47 :: b) a.length = if natB b = true then some (natV b) else none := by
     unfold lowerN
     rw [if_pos (by simp)]
     have e1 : (a ++ 47 :: b)[a.length]? = some 47 := by simp
     have e2 : (a ++ 47 :: b).drop (a.length + 1) = b := by rw [List.drop_append]; simp
     rw [e1, e2]
     by_cases hb' : natB b = true
     ·have := (natB_part b).1 hb'
      rw [if_pos hb', natV_part hb', if_pos ⟨rfl, this.1, by simp; omega⟩]
     ·rw [if_neg hb', if_neg]
      rintro ⟨_, g1, g2⟩
      exact hb' ((natB_part b).2 ⟨g1, by simp at g2; omega⟩)
    rw [hlo]
    by_cases hb' : natB b = true
    ·rw [if_pos hb', if_pos hb']
    ·rw [if_neg hb', if_neg hb']
   ·have : (partN (a ++ 47 :: b)).2 = 0 := by
     unfold partN
     rw [hd]
     split
     ·rfl
     ·simp only
      unfold natB at hnb
      rw [hall] at hnb
      simp only [Bool.and_true, Bool.and_eq_true, decide_eq_true_eq] at hnb
      omega
    rw [if_pos this, show natB a = false by simpa using hnb]
    rfl
theorem marks_eq : marksPL.contains = markB := by
 funext c
 simp only [markB, baseB, marksL, marksPL, List.contains_cons, List.contains_nil, Bool.or_false]
 rw [Bool.eq_iff_iff]
 simp only [Bool.or_eq_true, beq_iff_eq, Bool.and_eq_true, decide_eq_true_eq, ← UInt8.toNat_inj]
 simp
 omega
theorem name_eq (s : List UInt8) : namePB s = nameB s := by
 unfold namePB nameB
 rw [parse_eq, marks_eq]
 have ht : ((trimR markB s).dropWhile markB == []) = s.all markB := by
  rw [Bool.eq_iff_iff, beq_iff_eq, trim_nil]
 rw [ht]
 by_cases hs : s = []
 ·subst hs; simp
 ·have hl := List.length_pos_iff.2 hs
  cases s.all markB <;> cases (parseN s).2.2 <;> rw [Bool.eq_iff_iff] <;> simp [hs] <;> omega
theorem name_str {s : List UInt8} (h : nameB s = true) : s.any strB = false := by
 simp only [nameB, Bool.and_eq_true] at h
 rw [List.any_eq_false]
 intro c hc
 have hm := List.all_eq_true.1 h.2.2.1 c hc
 rw [← marks_eq] at hm
 simp only [marksPL, List.contains_cons, List.contains_nil, Bool.or_false, Bool.or_eq_true, beq_iff_eq, ← UInt8.toNat_inj] at hm
 simp only [strB, Bool.or_eq_true, decide_eq_true_eq]
 simp at hm ⊢
 omega
theorem bare_eq (d : Datum) (deep : Int) : bareBadP d deep = bareBad d deep := by
 obtain ⟨k, n, e, s, l⟩ := d
 have hn := name_eq s
 have hs := @name_str s
 have hz : s = [] → s.any strB = false := fun h => by rw [h]; rfl
 unfold bareBadP bareBad
 simp only [Datum.kind, Datum.n, Datum.d, Datum.s, Datum.l, bareL]
 generalize s.any strB = B at *
 have hc : k < 0 ∨ k > 7 ∨ k = 0 ∨ k = 1 ∨ k = 2 ∨ k = 3 ∨ k = 4 ∨ k = 5 ∨ k = 6 ∨ k = 7 := by omega
 rcases hc with h | h | h | h | h | h | h | h | h | h
 ·simp [h, show ¬k = 0 by omega, show ¬k = 1 by omega, show ¬k = 2 by omega, show ¬k = 3 by omega, show ¬k = 4 by omega, show ¬k = 5 by omega, show ¬k = 6 by omega, show ¬k = 7 by omega]
 ·simp [h, show ¬k = 0 by omega, show ¬k = 1 by omega, show ¬k = 2 by omega, show ¬k = 3 by omega, show ¬k = 4 by omega, show ¬k = 5 by omega, show ¬k = 6 by omega, show ¬k = 7 by omega]
 all_goals
  subst h
  rw [Bool.eq_iff_iff]
  simp
  grind
theorem right_eq (d : Datum) : ∀ deep : Int, d.rightP deep = d.rightD deep := by
 induction d using Datum.ind with
 | h d ih =>
  intro deep
  rw [Datum.rightP_eq, Datum.rightD_eq, bare_eq]
  congr 1
  have : ∀ l : List Datum, (∀ y ∈ l, ∀ deep : Int, y.rightP deep = y.rightD deep) → ∀ deep, Datum.rightPs l deep = Datum.rightDs l deep := by
   intro l
   induction l with
   | nil => intro _ deep; rw [Datum.rightPs, Datum.rightDs]
   | cons x l ihl => intro hy deep; rw [Datum.rightPs, Datum.rightDs, hy x (by simp), ihl fun y h => hy y (by simp [h])]
  exact this d.l ih _
end Go.Cb
namespace Go.Cb
open Go.Proofs
set_option maxRecDepth 100000
set_option maxHeartbeats 4000000
theorem constants1p_c (d : Datum) : ACall Tryz.prog 140 [.agg d.cells] [] (fun y Γ' => y = .bool (!d.rightP 0) ∧ Γ' = []) := by
 refine ACall.of_body tt_ok Tryz.func140 rfl rfl (n := 6) rfl rfl ?_
 conv => whnf
 repeat' (first|((first|((first|(apply zY;intro hg)|apply zZ);first|exact stA|((conv=>whnf);(repeat ((first|(refine zW ?_ ?_;exact gA)|refine pC (rightP_c d) wR ?_|refine pC (rightP_c d) cA ?_|intro _);conv=>whnf));first|exact pS|exact pL|exact pE))|(refine zW ?_ ?_;exact gA)|refine zH rfl ?_|refine zA ?_|refine zI bA ?_|refine zI rfl ?_|refine sB ?_|(refine zO ?_ ?_ ?_;omega;omega)|(refine zP ?_ ?_ ?_;omega;omega)|refine zM rfl ?_|(refine zQ ?_ ?_ ?_;omega;omega)|(refine zR ?_ ?_;omega)|(refine zI ?_ ?_;exact nA)|refine sS ?_|refine pC (rightP_c d) wR ?_|refine pC (rightP_c d) cA ?_|refine sD ?_|intro _|refine zG ?_);conv=>whnf)|(refine zX (fun hc => ?_) (fun hc => ?_)<;>(try simp only [SY] at hc)<;>first|omega|(conv=>whnf)))
 exact PRet.gen (Wk.refl _) ⟨rfl, rfl⟩
theorem constantsp_c (l : List Datum) : ACallP Tryz.prog 82 [.sl 5 (l.map Datum.pv) none] (.bool (l.all fun d => d.rightP 0)) := by
 refine ACall.of_body tt_ok Tryz.func82 rfl rfl (n := 6) rfl rfl ?_
 conv => whnf
 repeat' (first|((first|((first|(apply zY;intro hg)|apply zZ);first|exact stA|((conv=>whnf);(repeat ((first|(refine zW ?_ ?_;exact gA)|refine pC (rightP_c d) wR ?_|refine pC (rightP_c d) cA ?_|intro _);conv=>whnf));first|exact pS|exact pL|exact pE))|(refine zW ?_ ?_;exact gA)|refine zH rfl ?_|refine zA ?_|refine zI bA ?_|refine zI rfl ?_|refine sB ?_|(refine zO ?_ ?_ ?_;omega;omega)|(refine zP ?_ ?_ ?_;omega;omega)|refine zM rfl ?_|(refine zQ ?_ ?_ ?_;omega;omega)|(refine zR ?_ ?_;omega)|(refine zI ?_ ?_;exact nA)|refine sS ?_|refine pC (rightP_c d) wR ?_|refine pC (rightP_c d) cA ?_|refine sD ?_|intro _|refine zG ?_);conv=>whnf)|(refine zX (fun hc => ?_) (fun hc => ?_)<;>(try simp only [SY] at hc)<;>first|omega|(conv=>whnf)))
 refine PCall.go (containsFuncDat_c 140 [] [] (fun d => !d.rightP 0) l (fun d _ => constants1p_c d)) (WkT.refl _) ?_
 rintro _ _ ⟨rfl, rfl⟩
 conv => whnf
 repeat' (first|((first|((first|(apply zY;intro hg)|apply zZ);first|exact stA|((conv=>whnf);(repeat ((first|(refine zW ?_ ?_;exact gA)|refine pC (rightP_c d) wR ?_|refine pC (rightP_c d) cA ?_|intro _);conv=>whnf));first|exact pS|exact pL|exact pE))|(refine zW ?_ ?_;exact gA)|refine zH rfl ?_|refine zA ?_|refine zI bA ?_|refine zI rfl ?_|refine sB ?_|(refine zO ?_ ?_ ?_;omega;omega)|(refine zP ?_ ?_ ?_;omega;omega)|refine zM rfl ?_|(refine zQ ?_ ?_ ?_;omega;omega)|(refine zR ?_ ?_;omega)|(refine zI ?_ ?_;exact nA)|refine sS ?_|refine pC (rightP_c d) wR ?_|refine pC (rightP_c d) cA ?_|refine sD ?_|intro _|refine zG ?_);conv=>whnf)|(refine zX (fun hc => ?_) (fun hc => ?_)<;>(try simp only [SY] at hc)<;>first|omega|(conv=>whnf)))
 exact PRet.pure (Wk.bool (by rw [List.not_any_eq_all_not]; simp))
theorem setM_nil : (fun (_ : Value) => (none : Option PV)) = setM [] := by
 funext v; unfold setM; split <;> simp
def checkP (p : Prog) (level : Int) : Int :=
 if (decide (level < 0) || decide (level ≥ 3)) = true then 1 else
 if (p.consts.all (fun d => d.rightP 0) && (p.body.ckP level p.consts.length 0 false [] 0 0 []).isSome) = true then 0 else 5
theorem checkp_c (p : Prog) (level : Int) (hb : p.body.bulk ≤ 1000000000) (hl : p.consts.length ≤ 1000000000) : ACallP Tryz.prog 40 [.agg p.cells, .int .i64 level] (.int .i64 (checkP p level)) := by
 have hs : checkP p level = checkP p level := rfl
 conv at hs => rhs; unfold checkP
 refine ACall.of_body tt_ok Tryz.func40 rfl rfl (n := 31) rfl rfl ?_
 conv => whnf
 repeat' (first|((first|((first|(apply zY;intro hg)|apply zZ);first|exact stA|((conv=>whnf);(repeat ((first|(refine zW ?_ ?_;exact gA)|refine pC (constantsp_c _) wR ?_|refine pC (constantsp_c _) cA ?_|intro _);conv=>whnf));first|exact pS|exact pL|exact pE))|(refine zW ?_ ?_;exact gA)|refine zH rfl ?_|refine zA ?_|refine zI bA ?_|refine zI rfl ?_|refine sB ?_|(refine zO ?_ ?_ ?_;omega;omega)|(refine zP ?_ ?_ ?_;omega;omega)|refine zM rfl ?_|(refine zQ ?_ ?_ ?_;omega;omega)|(refine zR ?_ ?_;omega)|(refine zI ?_ ?_;exact nA)|refine sS ?_|refine pC (constantsp_c _) wR ?_|refine pC (constantsp_c _) cA ?_|refine sD ?_|intro _|refine zG ?_);conv=>whnf)|(refine zX (fun hc => ?_) (fun hc => ?_)<;>(try simp only [SY] at hc)<;>first|omega|(conv=>whnf)))
 ·rw [hs, if_pos (by simp only [SS]; exact hc)]
  exact PRet.pure (Wk.refl _)
 ·refine PGuard.ways (fun hg => ?_) (fun hg => ?_)
  ·conv => whnf
   conv => whnf
   repeat ((first|((first|(apply zY;intro hg)|apply zZ);first|exact stA|((conv=>whnf);(repeat ((first|(refine zW ?_ ?_;exact gA)|refine pC (constantsp_c _) wR ?_|refine pC (constantsp_c _) cA ?_|intro _);conv=>whnf));first|exact pS|exact pL|exact pE))|(refine zW ?_ ?_;exact gA)|refine zH rfl ?_|refine zA ?_|refine zI bA ?_|refine zI rfl ?_|refine sB ?_|(refine zO ?_ ?_ ?_;omega;omega)|(refine zP ?_ ?_ ?_;omega;omega)|refine zM rfl ?_|(refine zQ ?_ ?_ ?_;omega;omega)|(refine zR ?_ ?_;omega)|(refine zI ?_ ?_;exact nA)|refine sS ?_|refine pC (constantsp_c _) wR ?_|refine pC (constantsp_c _) cA ?_|refine sD ?_|intro _);conv=>whnf)
   rename_i b1 r1 b2 r2
   have hall : (p.consts.all fun d => d.rightP 0) = true := by simpa using hg
   have hcall := rightp_c b2 r1 r2 level p.consts.length 0 false p.body [] 0 0 [] [] [] (by omega) (by omega) (by omega) (by omega) (by simp) hb
   rw [← setM_nil] at hcall
   refine PCall.goG (Ghost.box (b := b2) (cs := [.int .i64 level, .int .i64 p.consts.length, .int .i64 0, .bfalse, .int .i64 0, .mp r1]) (cs' := cpC level p.consts.length 0 0 false r1) wA) hcall (WkT.refl _) ?_
   rintro _ _ ⟨rfl, sz, mb, ms, pb, ps, rfl, hs2⟩
   conv => whnf
   repeat' (first|((first|((first|(apply zY;intro hg)|apply zZ);first|exact stA|((conv=>whnf);(repeat ((first|(refine zW ?_ ?_;exact gA)|refine pC (constantsp_c _) wR ?_|refine pC (constantsp_c _) cA ?_|intro _);conv=>whnf));first|exact pS|exact pL|exact pE))|(refine zW ?_ ?_;exact gA)|refine zH rfl ?_|refine zA ?_|refine zI bA ?_|refine zI rfl ?_|refine sB ?_|(refine zO ?_ ?_ ?_;omega;omega)|(refine zP ?_ ?_ ?_;omega;omega)|refine zM rfl ?_|(refine zQ ?_ ?_ ?_;omega;omega)|(refine zR ?_ ?_;omega)|(refine zI ?_ ?_;exact nA)|refine sS ?_|refine pC (constantsp_c _) wR ?_|refine pC (constantsp_c _) cA ?_|refine sD ?_|intro _|refine zG ?_);conv=>whnf)|(refine zX (fun hc => ?_) (fun hc => ?_)<;>(try simp only [SY] at hc)<;>first|omega|(conv=>whnf)))
   ·rw [hs, if_neg (by simp only [SS]; omega), if_neg (by rw [hc, hall]; simp)]
    exact PRet.pure (Wk.refl _)
   ·rw [hs, if_neg (by simp only [SS]; omega), if_pos (by rw [hc, hall]; rfl)]
    exact PRet.pure (Wk.refl _)
  ·conv => whnf
   rw [hs, if_neg (by simp only [SS]; omega), if_neg (by simp only [Bool.not_not] at hg; rw [hg]; simp)]
   exact PRet.pure (Wk.refl _)
end Go.Cb
namespace Go.Cb
open Go.Proofs
set_option maxRecDepth 100000
set_option maxHeartbeats 4000000
theorem check_eq (p : Prog) (level : Int) : checkP p level = checkD p level := by
 unfold checkP checkD
 have hr : (fun d : Datum => d.rightP 0) = fun d => d.rightD 0 := by funext d; exact right_eq d 0
 by_cases h : (decide (level < 0) || decide (level > 2)) = true
 ·rw [if_pos h, if_pos (by simp at h ⊢; omega)]
 ·rw [if_neg h, if_neg (by simp at h ⊢; omega), hr, ck_eq _ _ _ _ (by simp at h; omega) (by simp at h; omega)]
end Go.Cb
namespace Go.Cb
open Go.Proofs
set_option maxRecDepth 100000
set_option maxHeartbeats 4000000
structure Cod where
 v : List Int
 rest : Bool
 body : Trm
def Cod.cells (c : Cod) : List PV := .sl 1 (c.v.map (PV.int .i64)) none :: .bool c.rest :: c.body.cells
def Cod.pv (c : Cod) : PV := .agg c.cells
instance : CellsOf Cod.pv Cod.cells := ⟨fun _ => rfl⟩
structure Mdl where
 consts : List Datum
 codes : List Cod
 body : Trm
def Mdl.cells (m : Mdl) : List PV := .sl 5 (m.consts.map Datum.pv) none :: .sl 6 (m.codes.map Cod.pv) none :: m.body.cells
def Cod.bulk (c : Cod) : Nat := c.v.length + c.body.bulk
def codsBulk : List Cod → Nat
 | [] => 0
 | x :: l => x.bulk + codsBulk l
theorem codsBulk_mem {x : Cod} : ∀ {l : List Cod}, x ∈ l → x.bulk ≤ codsBulk l
 | [], h => by cases h
 | y :: l, h => by
  rw [codsBulk]
  rcases List.mem_cons.1 h with rfl | h
  ·omega
  ·have := codsBulk_mem h; omega
def modD (consts codes : Int) : List Cod → Int → List Int → Option (Int × List Int)
 | [], size, bound => some (size, bound)
 | x :: xs, size, bound => if (bindR x.v bound).1 = true then if x.rest = true ∧ x.v = [] then none else match x.body.ckD 3 consts codes true x.v 0 size (bindR x.v bound).2 with
  | none => none
  | some (s, b) => modD consts codes xs s b
  else none
def modP (consts codes : Int) : List Cod → Int → List Int → Option (Int × List Int)
 | [], size, bound => some (size, bound)
 | x :: xs, size, bound => if x.rest = true ∧ x.v = [] then none else if (bindR x.v bound).1 = true then match x.body.ckP 3 consts codes true x.v 0 size (bound ++ x.v) with
  | none => none
  | some (s, b) => modP consts codes xs s b
  else none
def modOk (consts codes : Int) : List Cod → Prop
 | [] => True
 | x :: xs => ¬(x.rest = true ∧ x.v = []) ∧ x.body.okT 3 consts codes true x.v 0 ∧ modOk consts codes xs
def modCnt : List Cod → Int
 | [] => 0
 | x :: xs => x.body.cnt + modCnt xs
def modVars : List Cod → List Int
 | [] => []
 | x :: xs => x.v ++ (x.body.vars ++ modVars xs)
theorem modCnt_pos : ∀ l : List Cod, 0 ≤ modCnt l
 | [] => by simp [modCnt]
 | x :: l => by rw [modCnt]; have := x.body.cnt_pos; have := modCnt_pos l; omega
theorem modP_sp (consts codes : Int) : ∀ (l : List Cod) (size : Int) (bound : List Int), size ≤ 20000 → Sp (modP consts codes l size bound) (modOk consts codes l) (modCnt l) (modVars l) size bound
 | [], size, bound, h => by rw [modP, modOk, modCnt, modVars]; exact Sp.nil h
 | x :: l, size, bound, h => by
  rw [modP, modOk, modCnt, modVars]
  exact Sp.test fun _ => Sp.bind fun _ => Sp.seq (x.body.ckP_sp 3 consts codes true (by omega) (by omega) _ _ _ _) (modCnt_pos l) fun b hb => modP_sp consts codes l _ _ hb
theorem modD_sp (consts codes : Int) : ∀ (l : List Cod) (size : Int) (bound : List Int), size ≤ 20000 → Sp (modD consts codes l size bound) (modOk consts codes l) (modCnt l) (modVars l) size bound
 | [], size, bound, h => by rw [modD, modOk, modCnt, modVars]; exact Sp.nil h
 | x :: l, size, bound, h => by
  rw [modD, modOk, modCnt, modVars]
  refine Sp.bind fun hb => ?_
  rw [bindR_snd _ _ hb]
  exact Sp.test fun _ => Sp.seq (x.body.ckD_sp 3 consts codes true _ _ _ _) (modCnt_pos l) fun b hb => modD_sp consts codes l _ _ hb
def okO (r : Option (Int × List Int)) (f : Int → List Int → Option (Int × List Int)) : Option (Int × List Int) := match (generalizing := false) r with
 | none => none
 | some (s, b) => f s b
def mckD (m : Mdl) : Int := if (m.consts.all (fun d => d.rightD 0) && (okO (m.body.ckD 3 m.consts.length m.codes.length false [] 0 0 []) (modD m.consts.length m.codes.length m.codes)).isSome) = true then 0 else 5
def mckP (m : Mdl) : Int := if (m.consts.all (fun d => d.rightP 0) && (okO (m.body.ckP 3 m.consts.length m.codes.length false [] 0 0 []) (modP m.consts.length m.codes.length m.codes)).isSome) = true then 0 else 5
theorem mck_eq (m : Mdl) : mckP m = mckD m := by
 unfold mckP mckD
 have hr : (fun d : Datum => d.rightP 0) = fun d => d.rightD 0 := by funext d; exact right_eq d 0
 have h1 := (Sp.seq (m.body.ckP_sp 3 m.consts.length m.codes.length false (by omega) (by omega) [] 0 0 []) (modCnt_pos m.codes) fun b hb => modP_sp m.consts.length m.codes.length m.codes _ b hb).some_iff
 have h2 := (Sp.seq (m.body.ckD_sp 3 m.consts.length m.codes.length false [] 0 0 []) (modCnt_pos m.codes) fun b hb => modD_sp m.consts.length m.codes.length m.codes _ b hb).some_iff
 have : (okO (m.body.ckP 3 m.consts.length m.codes.length false [] 0 0 []) (modP m.consts.length m.codes.length m.codes)).isSome = (okO (m.body.ckD 3 m.consts.length m.codes.length false [] 0 0 []) (modD m.consts.length m.codes.length m.codes)).isSome := by
  rw [Bool.eq_iff_iff]
  exact Iff.trans h1 h2.symm
 rw [hr, this]
end Go.Cb
namespace Go.Cb
open Go.Proofs
set_option maxRecDepth 100000
set_option maxHeartbeats 4000000
def RightP (p : Prog) (level : Int) : Prop :=
 (0 ≤ level ∧ level ≤ 2) ∧ (∀ d ∈ p.consts, d.rightD 0 = true) ∧ p.body.okT level p.consts.length 0 false [] 0 ∧ p.body.cnt ≤ 20000 ∧ Dist p.body.vars []
theorem checkD_right (p : Prog) (level : Int) : checkD p level = 0 ↔ RightP p level := by
 unfold checkD RightP
 have h := (p.body.ckD_sp level p.consts.length 0 false [] 0 0 []).some_iff
 by_cases hl : (decide (level < 0) || decide (level > 2)) = true
 ·rw [if_pos hl]
  simp at hl
  constructor
  ·intro h; cases h
  ·rintro ⟨h, _⟩; omega
 ·rw [if_neg hl]
  simp at hl
  split
  ·rename_i hr
   simp only [Bool.and_eq_true, List.all_eq_true, h] at hr
   exact ⟨fun _ => ⟨by omega, hr.1, hr.2.1, by omega, hr.2.2.2⟩, fun _ => rfl⟩
  ·rename_i hr
   simp only [Bool.and_eq_true, List.all_eq_true, h] at hr
   exact ⟨fun h => (by cases h), fun ⟨_, h1, h2, h3, h4⟩ => absurd ⟨h1, h2, by omega, h4⟩ hr⟩
mutual
def Trm.gre : Trm → Int
 | .mk op n _ t => Trm.gres t (if op = 0 then n else -1)
def Trm.gres : List Trm → Int → Int
 | [], m => m
 | x :: xs, m => Trm.gres xs (max m (Trm.gre x))
end
theorem Trm.gre_eq (t : Trm) : t.gre = Trm.gres t.t (if t.op = 0 then t.n else -1) := by cases t; rw [Trm.gre]; rfl
theorem Trm.gres_lt (c : Int) : ∀ (l : List Trm) (m : Int), Trm.gres l m < c ↔ m < c ∧ ∀ x ∈ l, x.gre < c
 | [], m => by simp [Trm.gres]
 | x :: l, m => by
  rw [Trm.gres, Trm.gres_lt c l]
  simp only [List.forall_mem_cons]
  constructor
  ·rintro ⟨h1, h2⟩; exact ⟨by omega, by omega, h2⟩
  ·rintro ⟨h1, h2, h3⟩; exact ⟨by omega, h3⟩
theorem numberL_other (c1 c2 codes : Int) (free : Bool) (t : Trm) (scope : List Int) (h : t.op ≠ 0) : numberL c1 codes free t scope = numberL c2 codes free t scope := by
 unfold numberL
 rw [if_neg h, if_neg h]
theorem Trm.okT_consts (level codes : Int) (free : Bool) (c1 c2 : Int) (h2 : 0 ≤ c2) (t : Trm) : ∀ (scope : List Int) (deep : Int), t.okT level c1 codes free scope deep → (t.okT level c2 codes free scope deep ↔ t.gre < c2) := by
 induction t using Trm.ind with
 | h t ih =>
  intro scope deep h
  have key : ∀ (op : Int) (sc inner : List Int) (deep : Int) (l : List Trm), (∀ y ∈ l, ∀ (scope : List Int) (deep : Int), y.okT level c1 codes free scope deep → (y.okT level c2 codes free scope deep ↔ y.gre < c2)) →
    Trm.okTs level c1 codes free op sc inner l deep → (Trm.okTs level c2 codes free op sc inner l deep ↔ ∀ x ∈ l, x.gre < c2) := by
   intro op sc inner deep l
   induction l with
   | nil => intro _ _; simp [Trm.okTs]
   | cons x l ihl =>
    intro hy hk
    rw [Trm.okTs] at hk
    rw [Trm.okTs, List.forall_mem_cons, hy x (by simp) _ _ hk.2.1, ihl (fun y hh => hy y (by simp [hh])) hk.2.2]
    simp only [hk.1, not_false_eq_true, true_and]
  rw [Trm.okT_eq] at h
  rw [Trm.okT_eq, Trm.gre_eq, Trm.gres_lt, key _ _ _ _ _ ih h.2]
  obtain ⟨⟨g1, g2, g3, g4⟩, _⟩ := h
  have hn : numberL c2 codes free t scope = true ↔ (if t.op = 0 then t.n else -1) < c2 := by
   by_cases h0 : t.op = 0
   ·rw [if_pos h0]
    unfold numberL at g4 ⊢
    rw [if_pos h0] at g4 ⊢
    simp at g4 ⊢
    omega
   ·rw [if_neg h0, numberL_other c2 c1 codes free t scope h0]
    simp only [g4, true_iff]
    omega
  rw [hn]
  simp only [g1, g2, g3, true_and]
theorem RightP.consts {p : Prog} {level : Int} (h : RightP p level) (cs : List Datum) (hc : ∀ d ∈ cs, d.rightD 0 = true) : RightP ⟨cs, p.body⟩ level ↔ p.body.gre < cs.length := by
 obtain ⟨h1, h2, h3, h4, h5⟩ := h
 unfold RightP
 simp only [h1, true_and, h4, h5, and_true]
 rw [Trm.okT_consts level 0 false p.consts.length cs.length (by omega) p.body [] 0 h3]
 simp [h1.1, h1.2]
 exact fun _ => hc
theorem RightP.gre {p : Prog} {level : Int} (h : RightP p level) : p.body.gre < p.consts.length := (h.consts p.consts h.2.1).1 h
end Go.Cb
namespace Go.Cb
open Go.Proofs
set_option maxRecDepth 100000
set_option maxHeartbeats 4000000
theorem growNil0_c (n : Int) (h0 : 0 ≤ n) (h1 : n ≤ 1000000000) : ACall Tryz.prog 247 [.nil, .int .i64 n] [] (fun y Γ' => (∃ t : Tok, t.e = 3 ∧ t.s = 1 ∧ y = .ms t ∧ Γ' = [.row t []]) ∨ (y = .nil ∧ Γ' = [])) := by
 refine ACall.of_body tt_ok Tryz.func247 rfl rfl (n := 27) rfl rfl ?_
 conv => whnf
 repeat' (first|((first|((first|(apply zY;intro hg)|apply zZ);first|exact stA)|(refine zW ?_ ?_;exact gA)|refine zH rfl ?_|refine zA ?_|refine zI bA ?_|refine zI rfl ?_|refine sB ?_|(refine zO ?_ ?_ ?_;omega;omega)|(refine zP ?_ ?_ ?_;omega;omega)|refine zM rfl ?_|(refine zQ ?_ ?_ ?_;omega;omega)|(refine zR ?_ ?_;omega)|(refine zI ?_ ?_;exact nA)|refine sS ?_|refine sD ?_|intro _|refine zG ?_);conv=>whnf)|(refine zX (fun hc => ?_) (fun hc => ?_)<;>(try simp only [SY] at hc)<;>first|omega|(conv=>whnf)))
 ·refine PSide.of ⟨by simp [boundIs], by simp [boundIs]⟩ ?_
  conv => whnf
  repeat ((first|((first|(apply zY;intro hg)|apply zZ);first|exact stA)|(refine zW ?_ ?_;exact gA)|refine zH rfl ?_|refine zA ?_|refine zI bA ?_|refine zI rfl ?_|refine sB ?_|(refine zO ?_ ?_ ?_;omega;omega)|(refine zP ?_ ?_ ?_;omega;omega)|refine zM rfl ?_|(refine zQ ?_ ?_ ?_;omega;omega)|(refine zR ?_ ?_;omega)|(refine zI ?_ ?_;exact nA)|refine sS ?_|refine sD ?_|intro _);conv=>whnf)
  refine PZeros.mk ⟨by omega, by omega, by show _ * 8 ≤ _; omega, rfl, fun t he hs => ?_⟩
  conv => whnf
  repeat ((first|((first|(apply zY;intro hg)|apply zZ);first|exact stA)|(refine zW ?_ ?_;exact gA)|refine zH rfl ?_|refine zA ?_|refine zI bA ?_|refine zI rfl ?_|refine sB ?_|(refine zO ?_ ?_ ?_;omega;omega)|(refine zP ?_ ?_ ?_;omega;omega)|refine zM rfl ?_|(refine zQ ?_ ?_ ?_;omega;omega)|(refine zR ?_ ?_;omega)|(refine zI ?_ ?_;exact nA)|refine sS ?_|refine sD ?_|intro _);conv=>whnf)
  refine PSliceM.hi hs (by omega) (by simp; omega) (fun t2 he2 hs2 => ?_)
  conv => whnf
  repeat ((first|((first|(apply zY;intro hg)|apply zZ);first|exact stA)|(refine zW ?_ ?_;exact gA)|refine zH rfl ?_|refine zA ?_|refine zI bA ?_|refine zI rfl ?_|refine sB ?_|(refine zO ?_ ?_ ?_;omega;omega)|(refine zP ?_ ?_ ?_;omega;omega)|refine zM rfl ?_|(refine zQ ?_ ?_ ?_;omega;omega)|(refine zR ?_ ?_;omega)|(refine zI ?_ ?_;exact nA)|refine sS ?_|refine sD ?_|intro _);conv=>whnf)
  show PRet _ [.row t2 []] _
  exact PRet.gen (Wk.refl _) (.inl ⟨t2, he2.trans he, hs2.trans hs, rfl, rfl⟩)
 ·exact PRet.gen (Wk.refl _) (.inr ⟨rfl, rfl⟩)
theorem Shift.nilRow (s : Nat) (e : TypeId) (Γ : List Ent) : Shift .nil Γ (.ms (nilTok s e)) (.row (nilTok s e) [] :: Γ) := fun w0 F M w v hS hx =>
 let ⟨F', h1, h2⟩ := Ghost.nilRow s e Γ w0 F M w hS
 ⟨F', h1, h2, Wk.nilRow s e F' v (Rep.mono h1 _ _ hx)⟩
theorem Shift.refl (x : PV) (Γ : List Ent) : Shift x Γ x Γ := fun _ F _ _ _ hS hx => ⟨F, Fz.le_refl F, hS, hx⟩
theorem growNil_c (n : Int) (h0 : 0 ≤ n) (h1 : n ≤ 1000000000) : ACall Tryz.prog 247 [.nil, .int .i64 n] [] (fun y Γ' => ∃ t : Tok, t.e = 3 ∧ t.s = 1 ∧ y = .ms t ∧ Γ' = [.row t (([] : List Int).map (PV.int .i64))]) :=
 (growNil0_c n h0 h1).shift fun y Γ' h => by
  rcases h with ⟨t, h1, h2, rfl, rfl⟩ | ⟨rfl, rfl⟩
  ·exact ⟨_, _, Shift.refl _ _, t, h1, h2, rfl, rfl⟩
  ·exact ⟨_, _, Shift.nilRow 1 3 _, _, rfl, rfl, rfl, rfl⟩
def idxL : List Int → Int → Nat → Int
 | [], _, _ => -1
 | x :: l, v, i => if v = x then (i : Int) else idxL l v (i + 1)
theorem idxL_mem : ∀ (l : List Int) (v : Int) (i : Nat), decide (idxL l v i ≥ 0) = l.contains v
 | [], _, _ => by simp [idxL]
 | x :: l, v, i => by
  rw [idxL, List.contains_cons]
  by_cases h : v = x
  ·rw [if_pos h]; simp [h]
  ·rw [if_neg h, idxL_mem l v (i + 1)]; simp [h]
theorem indexInt_c (l : List Int) (v : Int) : ACallP Tryz.prog 149 [.sl 1 (l.map (PV.int .i64)) none, .int .i64 v] (.int .i64 (idxL l v 0)) := by
 refine ACall.of_body tt_ok Tryz.func149 rfl rfl (n := 19) rfl rfl ?_
 conv => whnf
 repeat ((first|((first|(apply zY;intro hg)|apply zZ);first|exact stA)|(refine zW ?_ ?_;exact gA)|refine zH rfl ?_|refine zA ?_|refine zI bA ?_|refine zI rfl ?_|refine sB ?_|(refine zO ?_ ?_ ?_;omega;omega)|(refine zP ?_ ?_ ?_;omega;omega)|refine zM rfl ?_|(refine zQ ?_ ?_ ?_;omega;omega)|(refine zR ?_ ?_;omega)|(refine zI ?_ ?_;exact nA)|refine sS ?_|refine sD ?_|intro _);conv=>whnf)
 refine PLoop.keep [4, 5, 8, 9, 10, 11, 12, 13, 14, 15, 16, 17, 18] (fun i : Nat => [(8, .int .i64 i)]) (fun i => i ≤ l.length ∧ idxL (l.drop i) v i = idxL l v 0) (fun i => l.length - i) 0 ⟨by omega, rfl⟩ wA ?_
 rintro i ⟨h1, h2⟩
 conv => whnf
 repeat' (first|((first|((first|(apply zY;intro hg)|apply zZ);first|exact stA)|(refine zW ?_ ?_;exact gA)|refine zH rfl ?_|refine zA ?_|refine zI bA ?_|refine zI rfl ?_|refine sB ?_|(refine zO ?_ ?_ ?_;omega;omega)|(refine zP ?_ ?_ ?_;omega;omega)|refine zM rfl ?_|(refine zQ ?_ ?_ ?_;omega;omega)|(refine zR ?_ ?_;omega)|(refine zI ?_ ?_;exact nA)|refine sS ?_|refine sD ?_|intro _|refine zG ?_);conv=>whnf)|(refine zX (fun hc => ?_) (fun hc => ?_)<;>(try simp only [SY] at hc)<;>first|omega|(conv=>whnf)))
 ·rw [drop_at (show i < l.length by omega), idxL, if_pos hc] at h2
  exact PRet.pure (Wk.int h2)
 ·rw [drop_at (show i < l.length by omega), idxL, if_neg hc] at h2
  exact loopTo (i + 1) ⟨by omega, h2⟩ (by show l.length - (i + 1) < l.length - i; omega) wA
 ·rw [List.drop_of_length_le (by omega), idxL] at h2
  exact PRet.pure (Wk.int h2)
theorem containsInt_c (l : List Int) (v : Int) : ACallP Tryz.prog 153 [.sl 1 (l.map (PV.int .i64)) none, .int .i64 v] (.bool (l.contains v)) := by
 refine ACall.of_body tt_ok Tryz.func153 rfl rfl (n := 9) rfl rfl ?_
 conv => whnf
 repeat' (first|((first|((first|(apply zY;intro hg)|apply zZ);first|exact stA|((conv=>whnf);(repeat ((first|(refine zW ?_ ?_;exact gA)|refine pC (indexInt_c l v) wR ?_|refine pC (indexInt_c l v) cA ?_|intro _);conv=>whnf));first|exact pS|exact pL|exact pE))|(refine zW ?_ ?_;exact gA)|refine zH rfl ?_|refine zA ?_|refine zI bA ?_|refine zI rfl ?_|refine sB ?_|(refine zO ?_ ?_ ?_;omega;omega)|(refine zP ?_ ?_ ?_;omega;omega)|refine zM rfl ?_|(refine zQ ?_ ?_ ?_;omega;omega)|(refine zR ?_ ?_;omega)|(refine zI ?_ ?_;exact nA)|refine sS ?_|refine pC (indexInt_c l v) wR ?_|refine pC (indexInt_c l v) cA ?_|refine sD ?_|intro _|refine zG ?_);conv=>whnf)|(refine zX (fun hc => ?_) (fun hc => ?_)<;>(try simp only [SY] at hc)<;>first|omega|(conv=>whnf)))
 exact PRet.pure (Wk.bool (idxL_mem l v 0))
abbrev slI (l : List Int) : PV := .sl 1 (l.map (PV.int .i64)) none
instance : CellsOf slI (fun l => [slI l]) := ⟨fun _ => rfl⟩
def sumL (ls : List (List Int)) : Nat := (ls.map List.length).sum
theorem sumL_append (a b : List (List Int)) : sumL (a ++ b) = sumL a + sumL b := by simp [sumL]
theorem sumL_le (ls : List (List Int)) (k : Nat) : sumL (ls.take k) ≤ sumL ls := by
 have := sumL_append (ls.take k) (ls.drop k)
 rw [List.take_append_drop] at this
 omega
theorem sumL_step (ls : List (List Int)) {k : Nat} (hk : k < ls.length) : sumL (ls.take (k + 1)) = sumL (ls.take k) + (ls[k]).length := by
 rw [List.take_succ_eq_append_getElem hk, sumL_append]; simp [sumL]
theorem sumL_flatten (ls : List (List Int)) : ls.flatten.length = sumL ls := by simp [sumL, List.length_flatten]
theorem concatInt0_c (ls : List (List Int)) (h : sumL ls ≤ 1000000000) (hl : ls.length ≤ 1000000000) : ACall Tryz.prog 232 [.sl 1 (ls.map slI) none] [] (fun y Γ' => ∃ t : Tok, t.e = 3 ∧ t.s = 1 ∧ y = .ms t ∧ Γ' = [.row t (ls.flatten.map (PV.int .i64))]) := by
 refine ACall.of_body tt_ok Tryz.func232 rfl rfl (n := 36) rfl rfl ?_
 conv => whnf
 repeat ((first|((first|(apply zY;intro hg)|apply zZ);first|exact stA|((conv=>whnf);(repeat ((first|(refine zW ?_ ?_;exact gA)|refine pC (indexInt_c l v) wR ?_|refine pC (indexInt_c l v) cA ?_|intro _);conv=>whnf));first|exact pS|exact pL|exact pE))|(refine zW ?_ ?_;exact gA)|refine zH rfl ?_|refine zA ?_|refine zI bA ?_|refine zI rfl ?_|refine sB ?_|(refine zO ?_ ?_ ?_;omega;omega)|(refine zP ?_ ?_ ?_;omega;omega)|refine zM rfl ?_|(refine zQ ?_ ?_ ?_;omega;omega)|(refine zR ?_ ?_;omega)|(refine zI ?_ ?_;exact nA)|refine sS ?_|refine pC (indexInt_c l v) wR ?_|refine pC (indexInt_c l v) cA ?_|refine sD ?_|intro _);conv=>whnf)
 refine PLoop.keep [3, 5, 11, 12, 13, 14, 15, 16, 17, 18, 19, 20, 21, 22] (fun x : Nat × Int => [(11, .int .i64 x.1), (3, .int .i64 x.2)]) (fun x => x.1 ≤ ls.length ∧ x.2 = sumL (ls.take x.1)) (fun x => ls.length - x.1) (0, 0) ⟨by omega, rfl⟩ wA ?_
 rintro ⟨i, n⟩ ⟨h1, h2⟩
 dsimp only at h1 h2 ⊢
 have hle := sumL_le ls
 conv => whnf
 repeat' (first|((first|((first|(apply zY;intro hg)|apply zZ);first|exact stA|((conv=>whnf);(repeat ((first|(refine zW ?_ ?_;exact gA)|refine pC (indexInt_c l v) wR ?_|refine pC (indexInt_c l v) cA ?_|intro _);conv=>whnf));first|exact pS|exact pL|exact pE))|(refine zW ?_ ?_;exact gA)|refine zH rfl ?_|refine zA ?_|refine zI bA ?_|refine zI rfl ?_|refine sB ?_|(refine zO ?_ ?_ ?_;omega;omega)|(refine zP ?_ ?_ ?_;omega;omega)|refine zM rfl ?_|(refine zQ ?_ ?_ ?_;omega;omega)|(refine zR ?_ ?_;omega)|(refine zI ?_ ?_;exact nA)|refine sS ?_|refine pC (indexInt_c l v) wR ?_|refine pC (indexInt_c l v) cA ?_|refine sD ?_|intro _|refine zG ?_);conv=>whnf)|(refine zX (fun hc => ?_) (fun hc => ?_)<;>(try simp only [SY] at hc)<;>first|omega|(conv=>whnf)))
 ·have hlt : i < ls.length := by omega
  have g1 := hle (i + 1)
  have g2 := sumL_step ls hlt
  conv => whnf
  repeat' (first|((first|((first|(apply zY;intro hg)|apply zZ);first|exact stA|((conv=>whnf);(repeat ((first|(refine zW ?_ ?_;exact gA)|refine pC (indexInt_c l v) wR ?_|refine pC (indexInt_c l v) cA ?_|intro _);conv=>whnf));first|exact pS|exact pL|exact pE))|(refine zW ?_ ?_;exact gA)|refine zH rfl ?_|refine zA ?_|refine zI bA ?_|refine zI rfl ?_|refine sB ?_|(refine zO ?_ ?_ ?_;omega;omega)|(refine zP ?_ ?_ ?_;omega;omega)|refine zM rfl ?_|(refine zQ ?_ ?_ ?_;omega;omega)|(refine zR ?_ ?_;omega)|(refine zI ?_ ?_;exact nA)|refine sS ?_|refine pC (indexInt_c l v) wR ?_|refine pC (indexInt_c l v) cA ?_|refine sD ?_|intro _|refine zG ?_);conv=>whnf)|(refine zX (fun hc => ?_) (fun hc => ?_)<;>(try simp only [SY] at hc)<;>first|omega|(conv=>whnf)))
  exact loopTo (i + 1, n + ls[i].length) ⟨by omega, by show n + _ = ((sumL (ls.take (i + 1)) : Nat) : Int); omega⟩ (by show ls.length - (i + 1) < ls.length - i; omega) wA
 ·refine PCall.go (growNil_c n (by omega) (by have := hle i; omega)) (WkT.refl _) ?_
  rintro _ _ ⟨t, ht, hs, rfl, rfl⟩
  conv => whnf
  repeat' (first|((first|((first|(apply zY;intro hg)|apply zZ);first|exact stA|((conv=>whnf);(repeat ((first|(refine zW ?_ ?_;exact gA)|refine pC (indexInt_c l v) wR ?_|refine pC (indexInt_c l v) cA ?_|intro _);conv=>whnf));first|exact pS|exact pL|exact pE))|(refine zW ?_ ?_;exact gA)|refine zH rfl ?_|refine zA ?_|refine zI bA ?_|refine zI rfl ?_|refine sB ?_|(refine zO ?_ ?_ ?_;omega;omega)|(refine zP ?_ ?_ ?_;omega;omega)|refine zM rfl ?_|(refine zQ ?_ ?_ ?_;omega;omega)|(refine zR ?_ ?_;omega)|(refine zI ?_ ?_;exact nA)|refine sS ?_|refine pC (indexInt_c l v) wR ?_|refine pC (indexInt_c l v) cA ?_|refine sD ?_|intro _|refine zG ?_);conv=>whnf)|(refine zX (fun hc => ?_) (fun hc => ?_)<;>(try simp only [SY] at hc)<;>first|omega|(conv=>whnf)))
  refine PLoop.over [6, 8, 27, 28, 29, 30, 31, 32, 33, 34] (fun x : Nat × Tok × List Int => [(27, .int .i64 x.1), (6, .ms x.2.1)]) (fun x : Nat × Tok × List Int => [.row x.2.1 (x.2.2.map (PV.int .i64))]) (fun x => x.1 ≤ ls.length ∧ x.2.1.e = 3 ∧ x.2.1.s = 1 ∧ x.2.2 = (ls.take x.1).flatten) (fun x => ls.length - x.1) (0, t, []) ⟨by omega, ht, hs, rfl⟩ wA ?_
  rintro ⟨k, t2, l⟩ ⟨k1, k2, k3, k4⟩
  dsimp only at k1 k2 k3 k4 ⊢
  conv => whnf
  repeat' (first|((first|((first|(apply zY;intro hg)|apply zZ);first|exact stA|((conv=>whnf);(repeat ((first|(refine zW ?_ ?_;exact gA)|refine pC (indexInt_c l v) wR ?_|refine pC (indexInt_c l v) cA ?_|intro _);conv=>whnf));first|exact pS|exact pL|exact pE))|(refine zW ?_ ?_;exact gA)|refine zH rfl ?_|refine zA ?_|refine zI bA ?_|refine zI rfl ?_|refine sB ?_|(refine zO ?_ ?_ ?_;omega;omega)|(refine zP ?_ ?_ ?_;omega;omega)|refine zM rfl ?_|(refine zQ ?_ ?_ ?_;omega;omega)|(refine zR ?_ ?_;omega)|(refine zI ?_ ?_;exact nA)|refine sS ?_|refine pC (indexInt_c l v) wR ?_|refine pC (indexInt_c l v) cA ?_|refine sD ?_|intro _|refine zG ?_);conv=>whnf)|(refine zX (fun hc => ?_) (fun hc => ?_)<;>(try simp only [SY] at hc)<;>first|omega|(conv=>whnf)))
  ·have hlt : k < ls.length := by omega
   have g1 := hle (k + 1)
   have g2 := sumL_step ls hlt
   have g3 := sumL_flatten (ls.take k)
   rw [← k4] at g3
   refine PAppend.rowList (f := PV.int .i64) (l := l) (m := ls[k]) k2 k3 (Wk.refl _) (by omega) (by show _ * 8 ≤ _; omega) (fun t3 e3 s3 => ?_)
   conv => whnf
   repeat ((first|((first|(apply zY;intro hg)|apply zZ);first|exact stA|((conv=>whnf);(repeat ((first|(refine zW ?_ ?_;exact gA)|refine pC (indexInt_c l v) wR ?_|refine pC (indexInt_c l v) cA ?_|intro _);conv=>whnf));first|exact pS|exact pL|exact pE))|(refine zW ?_ ?_;exact gA)|refine zH rfl ?_|refine zA ?_|refine zI bA ?_|refine zI rfl ?_|refine sB ?_|(refine zO ?_ ?_ ?_;omega;omega)|(refine zP ?_ ?_ ?_;omega;omega)|refine zM rfl ?_|(refine zQ ?_ ?_ ?_;omega;omega)|(refine zR ?_ ?_;omega)|(refine zI ?_ ?_;exact nA)|refine sS ?_|refine pC (indexInt_c l v) wR ?_|refine pC (indexInt_c l v) cA ?_|refine sD ?_|intro _);conv=>whnf)
   exact loopTo (k + 1, t3, l ++ ls[k]) ⟨by omega, e3, s3, by show l ++ ls[k] = (ls.take (k + 1)).flatten; rw [k4, List.take_succ_eq_append_getElem hlt, List.flatten_append, List.flatten_singleton]⟩ (by show ls.length - (k + 1) < ls.length - k; omega) wA
  ·have hk : ls.take k = ls := List.take_of_length_le (by omega)
   rw [hk] at k4
   rw [k4]
   exact PRet.gen (Wk.refl _) ⟨t2, k2, k3, rfl, rfl⟩
theorem concatInt_c (ls : List (List Int)) (h : sumL ls ≤ 1000000000) (hl : ls.length ≤ 1000000000) : ACallP Tryz.prog 232 [.sl 1 (ls.map slI) none] (slI ls.flatten) :=
 ACallP.of_any ((concatInt0_c ls h hl).shift fun y Γ' hq => by
  obtain ⟨t, h1, h2, rfl, rfl⟩ := hq
  exact ⟨slI ls.flatten, _, Shift.freezeRow (WkF.ms' h2), rfl⟩)
end Go.Cb
namespace Go.Cb
open Go.RowKit (Below)
set_option maxRecDepth 100000
section
variable {P : Program} {tt : Nat → TI}
theorem AYield.frameR {l : Nat} {args : List PV} {Γ Γ1 Γ2 : List Ent} {Q : PV → List Ent → Prop} (h : AYield P l args Γ1 Q) (hp : Γ.Perm (Γ2 ++ Γ1)) : AYield P l args Γ fun y Γ' => ∃ Γ1', Γ' = Γ2 ++ Γ1' ∧ Q y Γ1' := fun w0 F M w vs hS hT => by
 have hS' : Sim w0 F (Γ1 ++ (Γ2 ++ M)) w := hS.perm (by
  rw [← List.append_assoc]
  exact (hp.trans List.perm_append_comm).append_right M)
 obtain ⟨fn, tmps, assign, body, h1, h2⟩ := h w0 F (Γ2 ++ M) w vs hS' hT
 refine ⟨fn, tmps, assign, body, h1, h2.mono ?_⟩
 rintro _ _ ⟨v, F', y, Γ', e1, e2, e3, e4, e5⟩
 exact ⟨v, F', y, Γ2 ++ Γ', e1, e2, e3.perm (by
  rw [← List.append_assoc]
  exact List.perm_append_comm.append_right M), e4, Γ', rfl, e5⟩
theorem ACall.frameR {f : FuncId} {args : List PV} {Γ Γ1 Γ2 : List Ent} {Q : PV → List Ent → Prop} (h : ACall P f args Γ1 Q) (hp : Γ.Perm (Γ2 ++ Γ1)) : ACall P f args Γ fun y Γ' => ∃ Γ1', Γ' = Γ2 ++ Γ1' ∧ Q y Γ1' :=
 ⟨h.1, fun w0 F M w vs hS hT => by
  have hS' : Sim w0 F (Γ1 ++ (Γ2 ++ M)) w := hS.perm (by
   rw [← List.append_assoc]
   exact (hp.trans List.perm_append_comm).append_right M)
  refine (h.2 w0 F (Γ2 ++ M) w vs hS' hT).mono ?_
  rintro _ _ ⟨v, F', y, Γ', e1, e2, e3, e4, e5⟩
  exact ⟨v, F', y, Γ2 ++ Γ', e1, e2, e3.perm (by
   rw [← List.append_assoc]
   exact List.perm_append_comm.append_right M), e4, Γ', rfl, e5⟩⟩
theorem PYield.goR {l : Nat} {args args' : List PV} {Γ Γ1 : List Ent} (Γ2 : List Ent) {Q K : PV → List Ent → Prop} (h : AYield P l args' Γ1 Q) (hw : WkT args args') (hp : Γ.Perm (Γ2 ++ Γ1)) (k : ∀ y Γ1', Q y Γ1' → appE Γ2 Γ1' fun Γ' => K y Γ') : PYield P l args Γ K :=
 ⟨((h.wk hw).frameR hp).mono fun y Γ' ⟨Γ1', e, hq⟩ => by have := k y Γ1' hq; rw [appE_eq] at this; rw [e]; exact this⟩
theorem PCall.goR {f : FuncId} {args args' : List PV} {Γ Γ1 : List Ent} (Γ2 : List Ent) {Q K : PV → List Ent → Prop} (h : ACall P f args' Γ1 Q) (hw : WkT args args') (hp : Γ.Perm (Γ2 ++ Γ1)) (k : ∀ y Γ1', Q y Γ1' → appE Γ2 Γ1' fun Γ' => K y Γ') : PCall P f args Γ K :=
 PCall.same ((h.wk hw).frameR hp) (WkT.refl _) fun y Γ' ⟨Γ1', e, hq⟩ => by have := k y Γ1' hq; rw [appE_eq] at this; rw [e]; exact this
end
end Go.Cb
namespace Go.Cb
open Go.Proofs
set_option maxRecDepth 100000
set_option maxHeartbeats 4000000
mutual
def Trm.met : Trm → List Int → Int → List (Trm × List Int)
 | .mk op n v t, sc, deep => (.mk op n v t, sc) :: if deep ≥ 1000 then [] else Trm.mets op sc (sc ++ v) t (deep + 1)
def Trm.mets (op : Int) (sc inner : List Int) : List Trm → Int → List (Trm × List Int)
 | [], _ => []
 | x :: xs, deep => Trm.met x (if groupB op = true ∨ xs = [] then inner else sc) deep ++ Trm.mets op sc inner xs deep
end
theorem Trm.met_eq (t : Trm) (sc : List Int) (deep : Int) : t.met sc deep = (t, sc) :: if deep ≥ 1000 then [] else Trm.mets t.op sc (sc ++ t.v) t.t (deep + 1) := by
 cases t; rw [Trm.met]; rfl
abbrev metP (x : Trm × List Int) : PV := .agg [.int .i64 x.1.op, .int .i64 x.1.n, .sl 1 (x.1.v.map (PV.int .i64)) none, .sl 4 (x.1.t.map Trm.pv) none, slI x.2]
def From (xs : List (List PV)) (i : Nat) (l : List (Trm × List Int)) : Prop := ∀ j (h : j < l.length), xs[i + j]? = some [metP l[j]]
theorem From.left {xs : List (List PV)} {i : Nat} {l m : List (Trm × List Int)} (h : From xs i (l ++ m)) : From xs i l := fun j hj => by
 have := h j (by rw [List.length_append]; omega)
 rwa [List.getElem_append_left hj] at this
theorem From.right {xs : List (List PV)} {i : Nat} {l m : List (Trm × List Int)} (h : From xs i (l ++ m)) : From xs (i + l.length) m := fun j hj => by
 have := h (l.length + j) (by rw [List.length_append]; omega)
 rw [List.getElem_append_right (by omega)] at this
 simpa [Nat.add_assoc] using this
theorem From.head {xs : List (List PV)} {i : Nat} {x : Trm × List Int} {m : List (Trm × List Int)} (h : From xs i (x :: m)) : From xs (i + 1) m := From.right (l := [x]) h
theorem walk_c (l yb wb : Nat) (xs : List (List PV)) (J : Nat → List Ent → Prop) (X : List Ent → Prop)
  (hy : ∀ k ys Γ, xs[k]? = some ys → J k Γ → AYield Tryz.prog l ys Γ fun y Γ' => (y = .btrue ∧ J (k + 1) Γ') ∨ (y = .bfalse ∧ X Γ')) (t : Trm) :
  ∀ (sc : List Int) (deep : Int) (i : Nat) (Γ : List Ent), 0 ≤ deep → deep ≤ 1000 → sc.length + t.bulk ≤ 1000000000 → From xs i (t.met sc deep) → J i Γ →
   ACall Tryz.prog 231 [.agg t.cells, slI sc, .int .i64 deep, .ptr yb 0, .ptr wb 0] (.box yb [.fn (.yield l) []] :: .box wb [.fn (.func 231) [.ptr yb 0, .ptr wb 0]] :: Γ)
    (fun y Γ' => ∃ Γ1, Γ' = .box yb [.fn (.yield l) []] :: .box wb [.fn (.func 231) [.ptr yb 0, .ptr wb 0]] :: Γ1 ∧ ((y = .btrue ∧ J (i + (t.met sc deep).length) Γ1) ∨ (y = .bfalse ∧ X Γ1))) := by
 induction t using Trm.ind with
 | h t ih =>
  intro sc deep i Γ hd0 hd1 hsc hfr hJ
  have hbe := t.bulk_eq
  have hlv := Trm.bulks_length t.t
  rw [Trm.met_eq] at hfr ⊢
  have hsum : sumL [sc, t.v] ≤ 1000000000 := by simp [sumL]; omega
  have h0 := hfr 0 (by simp)
  refine ACall.of_body tt_ok Tryz.func231 rfl rfl (n := 54) rfl rfl ?_
  conv => whnf
  repeat' (first|((first|((first|(apply zY;intro hg)|apply zZ);first|exact stA|((conv=>whnf);(repeat ((first|(refine zW ?_ ?_;exact gA)|refine pC (group_c t) wR ?_|refine pC (group_c t) cA ?_|intro _);conv=>whnf));first|exact pS|exact pL|exact pE))|(refine zW ?_ ?_;exact gA)|refine zH rfl ?_|refine zA ?_|refine zI bA ?_|refine zI rfl ?_|refine sB ?_|(refine zO ?_ ?_ ?_;omega;omega)|(refine zP ?_ ?_ ?_;omega;omega)|refine zM rfl ?_|(refine zQ ?_ ?_ ?_;omega;omega)|(refine zR ?_ ?_;omega)|(refine zI ?_ ?_;exact nA)|refine sS ?_|refine pC (group_c t) wR ?_|refine pC (group_c t) cA ?_|refine sD ?_|intro _|refine zG ?_);conv=>whnf)|(refine zX (fun hc => ?_) (fun hc => ?_)<;>(try simp only [SY] at hc)<;>first|omega|(conv=>whnf)))
  rename_i b5
  refine PYield.goR [.box b5 [.int .i64 t.op, .int .i64 t.n, .sl 1 (t.v.map (PV.int .i64)) none, .sl 4 (t.t.map Trm.pv) none], .box yb [.fn (.yield l) []], .box wb [.fn (.func 231) [.ptr yb 0, .ptr wb 0]]] (hy (i + 0) _ Γ h0 hJ) (WkT.refl _) (List.Perm.refl _) ?_
  rintro _ Γ1 (⟨rfl, hJ1⟩ | ⟨rfl, hX⟩)
  ·conv => whnf
   repeat' (first|((first|((first|(apply zY;intro hg)|apply zZ);first|exact stA|((conv=>whnf);(repeat ((first|(refine zW ?_ ?_;exact gA)|refine pC (group_c t) wR ?_|refine pC (group_c t) cA ?_|intro _);conv=>whnf));first|exact pS|exact pL|exact pE))|(refine zW ?_ ?_;exact gA)|refine zH rfl ?_|refine zA ?_|refine zI bA ?_|refine zI rfl ?_|refine sB ?_|(refine zO ?_ ?_ ?_;omega;omega)|(refine zP ?_ ?_ ?_;omega;omega)|refine zM rfl ?_|(refine zQ ?_ ?_ ?_;omega;omega)|(refine zR ?_ ?_;omega)|(refine zI ?_ ?_;exact nA)|refine sS ?_|refine pC (group_c t) wR ?_|refine pC (group_c t) cA ?_|refine sD ?_|intro _|refine zG ?_);conv=>whnf)|(refine zX (fun hc => ?_) (fun hc => ?_)<;>(try simp only [SY] at hc)<;>first|omega|(conv=>whnf)))
   ·exact PRet.gen (y := .btrue) (Γ' := .box yb [.fn (.yield l) []] :: .box wb [.fn (.func 231) [.ptr yb 0, .ptr wb 0]] :: Γ1) (hp := ⟨(List.perm_append_singleton _ _).symm⟩) (Wk.refl _) ⟨Γ1, rfl, .inl ⟨rfl, by rw [if_pos hc]; exact hJ1⟩⟩
   ·rw [if_neg (by omega)] at hfr ⊢
    rename_i tk htk
    refine PCall.pure (concatInt_c [sc, t.v] hsum (by simp)) (WkT.cons (Wk.tok _ _ _) WkT.nil) ?_
    rw [show [sc, t.v].flatten = sc ++ t.v by simp]
    conv => whnf
    repeat' (first|((first|((first|(apply zY;intro hg)|apply zZ);first|exact stA|((conv=>whnf);(repeat ((first|(refine zW ?_ ?_;exact gA)|refine pC (group_c t) wR ?_|refine pC (group_c t) cA ?_|intro _);conv=>whnf));first|exact pS|exact pL|exact pE))|(refine zW ?_ ?_;exact gA)|refine zH rfl ?_|refine zA ?_|refine zI bA ?_|refine zI rfl ?_|refine sB ?_|(refine zO ?_ ?_ ?_;omega;omega)|(refine zP ?_ ?_ ?_;omega;omega)|refine zM rfl ?_|(refine zQ ?_ ?_ ?_;omega;omega)|(refine zR ?_ ?_;omega)|(refine zI ?_ ?_;exact nA)|refine sS ?_|refine pC (group_c t) wR ?_|refine pC (group_c t) cA ?_|refine sD ?_|intro _|refine zG ?_);conv=>whnf)|(refine zX (fun hc => ?_) (fun hc => ?_)<;>(try simp only [SY] at hc)<;>first|omega|(conv=>whnf)))
    have hfr1 := hfr.head
    refine PLoop.over [8, 10, 11, 12, 29, 30, 31, 32, 33, 34, 35, 36, 37, 38, 39, 40, 41, 42, 43, 44, 45, 46, 47, 48, 49, 50, 51, 52, 53] (fun x : Nat × Nat × List Ent => [(29, .int .i64 x.1)])
     (fun x : Nat × Nat × List Ent => .tok tk :: .box b5 [.int .i64 t.op, .int .i64 t.n, .sl 1 (t.v.map (PV.int .i64)) none, .sl 4 (t.t.map Trm.pv) none] :: .box yb [.fn (.yield l) []] :: .box wb [.fn (.func 231) [.ptr yb 0, .ptr wb 0]] :: x.2.2)
     (fun x => x.1 ≤ t.t.length ∧ J x.2.1 x.2.2 ∧ From xs x.2.1 (Trm.mets t.op sc (sc ++ t.v) (t.t.drop x.1) (deep + 1)) ∧ x.2.1 + (Trm.mets t.op sc (sc ++ t.v) (t.t.drop x.1) (deep + 1)).length = i + 1 + (Trm.mets t.op sc (sc ++ t.v) t.t (deep + 1)).length)
     (fun x => t.t.length - x.1) (0, i + 1, Γ1) ⟨by omega, hJ1, hfr1, rfl⟩ wA ?_
    rintro ⟨k, p, Γ2⟩ ⟨k1, k2, k3, k4⟩
    dsimp only at k1 k2 k3 k4 ⊢
    conv => whnf
    repeat' (first|((first|((first|(apply zY;intro hg)|apply zZ);first|exact stA|((conv=>whnf);(repeat ((first|(refine zW ?_ ?_;exact gA)|refine pC (group_c t) wR ?_|refine pC (group_c t) cA ?_|intro _);conv=>whnf));first|exact pS|exact pL|exact pE))|(refine zW ?_ ?_;exact gA)|refine zH rfl ?_|refine zA ?_|refine zI bA ?_|refine zI rfl ?_|refine sB ?_|(refine zO ?_ ?_ ?_;omega;omega)|(refine zP ?_ ?_ ?_;omega;omega)|refine zM rfl ?_|(refine zQ ?_ ?_ ?_;omega;omega)|(refine zR ?_ ?_;omega)|(refine zI ?_ ?_;exact nA)|refine sS ?_|refine pC (group_c t) wR ?_|refine pC (group_c t) cA ?_|refine sD ?_|intro _|refine zG ?_);conv=>whnf)|(refine zX (fun hc => ?_) (fun hc => ?_)<;>(try simp only [SY] at hc)<;>first|omega|(conv=>whnf)))
    rotate_right
    ·rw [List.drop_of_length_le (by omega), Trm.mets] at k4
     exact PRet.gen (y := .btrue) (Γ' := .box yb [.fn (.yield l) []] :: .box wb [.fn (.func 231) [.ptr yb 0, .ptr wb 0]] :: Γ2) (hp := ⟨List.perm_append_comm (l₁ := [_, _])⟩) (Wk.refl _) ⟨Γ2, rfl, .inl ⟨rfl, by
      rw [List.length_cons, show i + ((Trm.mets t.op sc (sc ++ t.v) t.t (deep + 1)).length + 1) = p by simp only [List.length_nil] at k4; omega]; exact k2⟩⟩
    all_goals
     rename_i b11
     have hlt : k < t.t.length := by omega
     have hbm := Trm.bulks_mem (List.getElem_mem hlt)
     have hdr : t.t.drop (k + 1) = [] ↔ k + 1 = t.t.length := by rw [List.drop_eq_nil_iff]; omega
     rw [drop_at hlt, Trm.mets] at k3 k4
    ·rw [if_pos (show groupB t.op = true ∨ t.t.drop (k + 1) = [] by rw [hdr]; exact hc.imp id fun h => by omega)] at k3 k4
     have k3l := k3.left
     have k3r := k3.right
     rw [List.length_append] at k4
     refine PCall.goR [.box b11 [.int .i64 t.t[k].op, .int .i64 t.t[k].n, .sl 1 (t.t[k].v.map (PV.int .i64)) none, .sl 4 (t.t[k].t.map Trm.pv) none], .tok tk, .box b5 [.int .i64 t.op, .int .i64 t.n, .sl 1 (t.v.map (PV.int .i64)) none, .sl 4 (t.t.map Trm.pv) none]]
      (ih t.t[k] (List.getElem_mem _) (sc ++ t.v) (deep + 1) p Γ2 (by omega) (by omega) (by first | omega | (simp; omega)) k3l k2) (WkT.refl _) (List.Perm.refl _) ?_
     rintro _ _ ⟨Γ3, rfl, ⟨rfl, g1⟩ | ⟨rfl, g1⟩⟩
     ·conv => whnf
      repeat' (first|((first|((first|(apply zY;intro hg)|apply zZ);first|exact stA|((conv=>whnf);(repeat ((first|(refine zW ?_ ?_;exact gA)|refine pC (group_c t) wR ?_|refine pC (group_c t) cA ?_|intro _);conv=>whnf));first|exact pS|exact pL|exact pE))|(refine zW ?_ ?_;exact gA)|refine zH rfl ?_|refine zA ?_|refine zI bA ?_|refine zI rfl ?_|refine sB ?_|(refine zO ?_ ?_ ?_;omega;omega)|(refine zP ?_ ?_ ?_;omega;omega)|refine zM rfl ?_|(refine zQ ?_ ?_ ?_;omega;omega)|(refine zR ?_ ?_;omega)|(refine zI ?_ ?_;exact nA)|refine sS ?_|refine pC (group_c t) wR ?_|refine pC (group_c t) cA ?_|refine sD ?_|intro _|refine zG ?_);conv=>whnf)|(refine zX (fun hc => ?_) (fun hc => ?_)<;>(try simp only [SY] at hc)<;>first|omega|(conv=>whnf)))
      exact loopTo (k + 1, p + (t.t[k].met (sc ++ t.v) (deep + 1)).length, Γ3) (hp := ⟨(List.perm_append_singleton _ _).symm⟩) ⟨by omega, g1, k3r, by dsimp only; omega⟩ (by show t.t.length - (k + 1) < t.t.length - k; omega) wA
     ·conv => whnf
      repeat' (first|((first|((first|(apply zY;intro hg)|apply zZ);first|exact stA|((conv=>whnf);(repeat ((first|(refine zW ?_ ?_;exact gA)|refine pC (group_c t) wR ?_|refine pC (group_c t) cA ?_|intro _);conv=>whnf));first|exact pS|exact pL|exact pE))|(refine zW ?_ ?_;exact gA)|refine zH rfl ?_|refine zA ?_|refine zI bA ?_|refine zI rfl ?_|refine sB ?_|(refine zO ?_ ?_ ?_;omega;omega)|(refine zP ?_ ?_ ?_;omega;omega)|refine zM rfl ?_|(refine zQ ?_ ?_ ?_;omega;omega)|(refine zR ?_ ?_;omega)|(refine zI ?_ ?_;exact nA)|refine sS ?_|refine pC (group_c t) wR ?_|refine pC (group_c t) cA ?_|refine sD ?_|intro _|refine zG ?_);conv=>whnf)|(refine zX (fun hc => ?_) (fun hc => ?_)<;>(try simp only [SY] at hc)<;>first|omega|(conv=>whnf)))
      exact PRet.gen (y := .bfalse) (Γ' := .box yb [.fn (.yield l) []] :: .box wb [.fn (.func 231) [.ptr yb 0, .ptr wb 0]] :: Γ3) (hp := ⟨List.perm_append_comm (l₁ := [_, _, _])⟩) (Wk.refl _) ⟨Γ3, rfl, .inr ⟨rfl, g1⟩⟩
    ·rw [if_neg (show ¬(groupB t.op = true ∨ t.t.drop (k + 1) = []) by rw [hdr]; rintro (h | h); rw [hc.1] at h; cases h; exact hc.2 (by omega))] at k3 k4
     have k3l := k3.left
     have k3r := k3.right
     rw [List.length_append] at k4
     refine PCall.goR [.box b11 [.int .i64 t.t[k].op, .int .i64 t.t[k].n, .sl 1 (t.t[k].v.map (PV.int .i64)) none, .sl 4 (t.t[k].t.map Trm.pv) none], .tok tk, .box b5 [.int .i64 t.op, .int .i64 t.n, .sl 1 (t.v.map (PV.int .i64)) none, .sl 4 (t.t.map Trm.pv) none]]
      (ih t.t[k] (List.getElem_mem _) (sc) (deep + 1) p Γ2 (by omega) (by omega) (by first | omega | (simp; omega)) k3l k2) (WkT.refl _) (List.Perm.refl _) ?_
     rintro _ _ ⟨Γ3, rfl, ⟨rfl, g1⟩ | ⟨rfl, g1⟩⟩
     ·conv => whnf
      repeat' (first|((first|((first|(apply zY;intro hg)|apply zZ);first|exact stA|((conv=>whnf);(repeat ((first|(refine zW ?_ ?_;exact gA)|refine pC (group_c t) wR ?_|refine pC (group_c t) cA ?_|intro _);conv=>whnf));first|exact pS|exact pL|exact pE))|(refine zW ?_ ?_;exact gA)|refine zH rfl ?_|refine zA ?_|refine zI bA ?_|refine zI rfl ?_|refine sB ?_|(refine zO ?_ ?_ ?_;omega;omega)|(refine zP ?_ ?_ ?_;omega;omega)|refine zM rfl ?_|(refine zQ ?_ ?_ ?_;omega;omega)|(refine zR ?_ ?_;omega)|(refine zI ?_ ?_;exact nA)|refine sS ?_|refine pC (group_c t) wR ?_|refine pC (group_c t) cA ?_|refine sD ?_|intro _|refine zG ?_);conv=>whnf)|(refine zX (fun hc => ?_) (fun hc => ?_)<;>(try simp only [SY] at hc)<;>first|omega|(conv=>whnf)))
      exact loopTo (k + 1, p + (t.t[k].met (sc) (deep + 1)).length, Γ3) (hp := ⟨(List.perm_append_singleton _ _).symm⟩) ⟨by omega, g1, k3r, by dsimp only; omega⟩ (by show t.t.length - (k + 1) < t.t.length - k; omega) wA
     ·conv => whnf
      repeat' (first|((first|((first|(apply zY;intro hg)|apply zZ);first|exact stA|((conv=>whnf);(repeat ((first|(refine zW ?_ ?_;exact gA)|refine pC (group_c t) wR ?_|refine pC (group_c t) cA ?_|intro _);conv=>whnf));first|exact pS|exact pL|exact pE))|(refine zW ?_ ?_;exact gA)|refine zH rfl ?_|refine zA ?_|refine zI bA ?_|refine zI rfl ?_|refine sB ?_|(refine zO ?_ ?_ ?_;omega;omega)|(refine zP ?_ ?_ ?_;omega;omega)|refine zM rfl ?_|(refine zQ ?_ ?_ ?_;omega;omega)|(refine zR ?_ ?_;omega)|(refine zI ?_ ?_;exact nA)|refine sS ?_|refine pC (group_c t) wR ?_|refine pC (group_c t) cA ?_|refine sD ?_|intro _|refine zG ?_);conv=>whnf)|(refine zX (fun hc => ?_) (fun hc => ?_)<;>(try simp only [SY] at hc)<;>first|omega|(conv=>whnf)))
      exact PRet.gen (y := .bfalse) (Γ' := .box yb [.fn (.yield l) []] :: .box wb [.fn (.func 231) [.ptr yb 0, .ptr wb 0]] :: Γ3) (hp := ⟨List.perm_append_comm (l₁ := [_, _, _])⟩) (Wk.refl _) ⟨Γ3, rfl, .inr ⟨rfl, g1⟩⟩
  ·conv => whnf
   repeat' (first|((first|((first|(apply zY;intro hg)|apply zZ);first|exact stA|((conv=>whnf);(repeat ((first|(refine zW ?_ ?_;exact gA)|refine pC (group_c t) wR ?_|refine pC (group_c t) cA ?_|intro _);conv=>whnf));first|exact pS|exact pL|exact pE))|(refine zW ?_ ?_;exact gA)|refine zH rfl ?_|refine zA ?_|refine zI bA ?_|refine zI rfl ?_|refine sB ?_|(refine zO ?_ ?_ ?_;omega;omega)|(refine zP ?_ ?_ ?_;omega;omega)|refine zM rfl ?_|(refine zQ ?_ ?_ ?_;omega;omega)|(refine zR ?_ ?_;omega)|(refine zI ?_ ?_;exact nA)|refine sS ?_|refine pC (group_c t) wR ?_|refine pC (group_c t) cA ?_|refine sD ?_|intro _|refine zG ?_);conv=>whnf)|(refine zX (fun hc => ?_) (fun hc => ?_)<;>(try simp only [SY] at hc)<;>first|omega|(conv=>whnf)))
   exact PRet.gen (y := .bfalse) (Γ' := .box yb [.fn (.yield l) []] :: .box wb [.fn (.func 231) [.ptr yb 0, .ptr wb 0]] :: Γ1) (hp := ⟨(List.perm_append_singleton _ _).symm⟩) (Wk.refl _) ⟨Γ1, rfl, .inr ⟨rfl, hX⟩⟩
def Trm.all (t : Trm) : List (Trm × List Int) := t.met [] 0
theorem all1_c (b : Nat) (t : Trm) (hb : t.bulk ≤ 1000000000) : AIter Tryz.prog 230 [.ptr b 0] [.box b t.cells] (t.all.map fun m => [metP m]) := by
 intro l J X hy Γ hJ
 refine ACall.ghost (Ghost.drop (Γ' := .box b t.cells :: Γ) (Γ1 := []) (by rw [List.append_nil]; exact List.perm_append_singleton _ _)) ?_
 refine ACall.of_body tt_ok Tryz.func230 rfl rfl (n := 8) rfl rfl ?_
 conv => whnf
 repeat' (first|((first|((first|(apply zY;intro hg)|apply zZ);first|exact stA|((conv=>whnf);(repeat ((first|(refine zW ?_ ?_;exact gA)|refine pC (group_c t) wR ?_|refine pC (group_c t) cA ?_|intro _);conv=>whnf));first|exact pS|exact pL|exact pE))|(refine zW ?_ ?_;exact gA)|refine zH rfl ?_|refine zA ?_|refine zI bA ?_|refine zI rfl ?_|refine sB ?_|(refine zO ?_ ?_ ?_;omega;omega)|(refine zP ?_ ?_ ?_;omega;omega)|refine zM rfl ?_|(refine zQ ?_ ?_ ?_;omega;omega)|(refine zR ?_ ?_;omega)|(refine zI ?_ ?_;exact nA)|refine sS ?_|refine pC (group_c t) wR ?_|refine pC (group_c t) cA ?_|refine sD ?_|intro _|refine zG ?_);conv=>whnf)|(refine zX (fun hc => ?_) (fun hc => ?_)<;>(try simp only [SY] at hc)<;>first|omega|(conv=>whnf)))
 rename_i yb wb
 refine PCall.goR [.box b t.cells] (walk_c l yb wb _ J X hy t [] 0 0 Γ (by omega) (by omega) (by simp; omega) (fun j hj => by rw [Nat.zero_add, List.getElem?_map]; show Option.map _ (t.met [] 0)[j]? = _; rw [List.getElem?_eq_getElem hj]; rfl) hJ) (WkT.cons (Wk.refl _) (WkT.cons (Wk.nil' rfl) (WkT.refl _))) ((List.Perm.swap _ _ _).trans (((List.Perm.swap _ _ _).cons _).trans (List.Perm.swap _ _ _))) ?_
 rintro _ _ ⟨Γ1, rfl, h1⟩
 conv => whnf
 repeat ((first|((first|(apply zY;intro hg)|apply zZ);first|exact stA|((conv=>whnf);(repeat ((first|(refine zW ?_ ?_;exact gA)|refine pC (group_c t) wR ?_|refine pC (group_c t) cA ?_|intro _);conv=>whnf));first|exact pS|exact pL|exact pE))|(refine zW ?_ ?_;exact gA)|refine zH rfl ?_|refine zA ?_|refine zI bA ?_|refine zI rfl ?_|refine sB ?_|(refine zO ?_ ?_ ?_;omega;omega)|(refine zP ?_ ?_ ?_;omega;omega)|refine zM rfl ?_|(refine zQ ?_ ?_ ?_;omega;omega)|(refine zR ?_ ?_;omega)|(refine zI ?_ ?_;exact nA)|refine sS ?_|refine pC (group_c t) wR ?_|refine pC (group_c t) cA ?_|refine sD ?_|intro _);conv=>whnf)
 refine PRet.gen (Γ' := Γ1) (hp := ⟨List.perm_append_comm (l₁ := [_, _, _])⟩) (Wk.refl _) ?_
 rw [List.length_map]
 rcases h1 with ⟨_, h⟩ | ⟨_, h⟩
 ·exact .inl (by rw [Nat.zero_add] at h; exact h)
 ·exact .inr h
theorem all_c (t : Trm) : ACall Tryz.prog 204 [.agg t.cells] [] (fun y Γ' => ∃ b, y = .fn (.func 230) [.ptr b 0] ∧ Γ' = [.box b t.cells]) := by
 refine ACall.of_body tt_ok Tryz.func204 rfl rfl (n := 4) rfl rfl ?_
 conv => whnf
 repeat' (first|((first|((first|(apply zY;intro hg)|apply zZ);first|exact stA|((conv=>whnf);(repeat ((first|(refine zW ?_ ?_;exact gA)|refine pC (group_c t) wR ?_|refine pC (group_c t) cA ?_|intro _);conv=>whnf));first|exact pS|exact pL|exact pE))|(refine zW ?_ ?_;exact gA)|refine zH rfl ?_|refine zA ?_|refine zI bA ?_|refine zI rfl ?_|refine sB ?_|(refine zO ?_ ?_ ?_;omega;omega)|(refine zP ?_ ?_ ?_;omega;omega)|refine zM rfl ?_|(refine zQ ?_ ?_ ?_;omega;omega)|(refine zR ?_ ?_;omega)|(refine zI ?_ ?_;exact nA)|refine sS ?_|refine pC (group_c t) wR ?_|refine pC (group_c t) cA ?_|refine sD ?_|intro _|refine zG ?_);conv=>whnf)|(refine zX (fun hc => ?_) (fun hc => ?_)<;>(try simp only [SY] at hc)<;>first|omega|(conv=>whnf)))
 rename_i b
 exact PRet.gen (y := .fn (.func 230) [.ptr b 0]) (Γ' := [.box b t.cells]) (hp := PickL.self _) (Wk.refl _) ⟨b, rfl, rfl⟩
end Go.Cb
namespace Go.Cb
open Go.Proofs
set_option maxRecDepth 100000
set_option maxHeartbeats 4000000
theorem Trm.met_len (t : Trm) : ∀ (sc : List Int) (deep : Int), (t.met sc deep).length ≤ t.bulk := by
 induction t using Trm.ind with
 | h t ih =>
  intro sc deep
  rw [Trm.met_eq, t.bulk_eq, List.length_cons]
  split
  ·simp; omega
  ·have : ∀ (l : List Trm), (∀ y ∈ l, ∀ (sc : List Int) (deep : Int), (y.met sc deep).length ≤ y.bulk) → ∀ sc inner deep, (Trm.mets t.op sc inner l deep).length ≤ Trm.bulks l := by
    intro l
    induction l with
    | nil => intro _ _ _ _; simp [Trm.mets]
    | cons x l ihl =>
     intro hy sc inner deep
     rw [Trm.mets, Trm.bulks, List.length_append]
     have := hy x (by simp) (if groupB t.op = true ∨ l = [] then inner else sc) deep
     have := ihl (fun y h => hy y (by simp [h])) sc inner deep
     omega
   have := this t.t ih sc (sc ++ t.v) (deep + 1)
   omega
end Go.Cb
