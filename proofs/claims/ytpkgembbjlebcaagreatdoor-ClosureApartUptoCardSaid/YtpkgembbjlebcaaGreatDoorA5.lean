/-
  Contracts: package slices: Grow, Concat, Index, Contains, of numbers.
  Calls among entries that end in entries unknown.
  Contracts: all terms of a term, one by one.
  Contracts: how many terms.
  Contracts: what is sorted already: one number.
  Contracts: what is named and not bound: one variable.
  Plain laws: what a term names, binds; how deep it lies.
  Plain laws: numbers in order, each once.
  Plain laws: a term and its parts.
  Layings of the library's contracts at this seat (written by the kit's tools).
  Contracts: numbers sorted by the library, equal neighbours struck.
  Contracts: what a term names and does not bind, what it binds, how often a variable is named and assigned.
  Plain laws: all variables greater by the same.
  Plain laws: assigned variables become boxes.
  Plain laws: chapter 10, what is right; the document's counts; programs.
  Plain law: procedures' bodies in the place of their calls, as a function.
  Plain law: names say nothing to the inliner.
  Plain laws: chapter 10, sizes of what is converted.
-/
import Derived.Lib.SlicesCompact
import Derived.Shelf.Slices.CompactI
import Derived.Shelf.Slices.In.SortNone
import Derived.Shelf.Sort.Plain
import Derived.Sort.OwnSortedInts
import Derived.Test.YtpkgembbjlebcaaGreatDoorProg
import Derived.Test.YtpkgembbjlebcaaGreatDoorA4
set_option linter.unusedSimpArgs false
set_option linter.unusedVariables false
namespace Go.Cb
open Go.Proofs
set_option maxRecDepth 100000
set_option maxHeartbeats 4000000
theorem growNil0_c (n : Int) (h0 : 0 ≤ n) (h1 : n ≤ 1000000000) : ACall Tryz.prog 130 [.nil, .int .i64 n] [] (fun y Γ' => (∃ t : Tok, t.e = 3 ∧ t.s = 1 ∧ y = .ms t ∧ Γ' = [.row t []]) ∨ (y = .nil ∧ Γ' = [])) := by
  refine ACall.of_body tt_ok Tryz.func130 rfl rfl (n := 27) rfl rfl ?_
  conv => whnf
  repeat' (first|((first|((first|(apply zY;intro hg)|apply zZ);first|exact stA)|(refine zW ?_ ?_;exact gA)|refine zH rfl ?_|refine zA ?_|refine zI bA ?_|refine zI rfl ?_|refine zJ rfl rfl ?_|refine zB ?_|refine zK rfl ?_|refine zL rfl ?_|refine zC ?_|(refine zO ?_ ?_ ?_;omega;omega)|(refine zP ?_ ?_ ?_;omega;omega)|refine zM rfl ?_|(refine zQ ?_ ?_ ?_;omega;omega)|(refine zR ?_ ?_;omega)|(refine zI ?_ ?_;exact nA)|(refine zS ?_ ?_ ?_;omega;omega)|(refine zT ?_ ?_ ?_;omega;omega)|(refine zU ?_ ?_ ?_;omega;omega)|(refine zV ?_ ?_ ?_;omega;omega)|refine zN rfl rfl rfl ?_|refine zD ?_|refine zE ?_|refine zF ?_|intro _|refine zG ?_);conv=>whnf)|(refine zX (fun hc => ?_) (fun hc => ?_)<;>(try simp only [SY] at hc)<;>first|omega|(conv=>whnf)))
  · refine PSide.of ⟨by simp [boundIs], by simp [boundIs]⟩ ?_
    conv => whnf
    repeat ((first|((first|(apply zY;intro hg)|apply zZ);first|exact stA)|(refine zW ?_ ?_;exact gA)|refine zH rfl ?_|refine zA ?_|refine zI bA ?_|refine zI rfl ?_|refine zJ rfl rfl ?_|refine zB ?_|refine zK rfl ?_|refine zL rfl ?_|refine zC ?_|(refine zO ?_ ?_ ?_;omega;omega)|(refine zP ?_ ?_ ?_;omega;omega)|refine zM rfl ?_|(refine zQ ?_ ?_ ?_;omega;omega)|(refine zR ?_ ?_;omega)|(refine zI ?_ ?_;exact nA)|(refine zS ?_ ?_ ?_;omega;omega)|(refine zT ?_ ?_ ?_;omega;omega)|(refine zU ?_ ?_ ?_;omega;omega)|(refine zV ?_ ?_ ?_;omega;omega)|refine zN rfl rfl rfl ?_|refine zD ?_|refine zE ?_|refine zF ?_|intro _);conv=>whnf)
    refine PZeros.mk ⟨by omega, by omega, by show _ * 8 ≤ _; omega, rfl, fun t he hs => ?_⟩
    conv => whnf
    repeat ((first|((first|(apply zY;intro hg)|apply zZ);first|exact stA)|(refine zW ?_ ?_;exact gA)|refine zH rfl ?_|refine zA ?_|refine zI bA ?_|refine zI rfl ?_|refine zJ rfl rfl ?_|refine zB ?_|refine zK rfl ?_|refine zL rfl ?_|refine zC ?_|(refine zO ?_ ?_ ?_;omega;omega)|(refine zP ?_ ?_ ?_;omega;omega)|refine zM rfl ?_|(refine zQ ?_ ?_ ?_;omega;omega)|(refine zR ?_ ?_;omega)|(refine zI ?_ ?_;exact nA)|(refine zS ?_ ?_ ?_;omega;omega)|(refine zT ?_ ?_ ?_;omega;omega)|(refine zU ?_ ?_ ?_;omega;omega)|(refine zV ?_ ?_ ?_;omega;omega)|refine zN rfl rfl rfl ?_|refine zD ?_|refine zE ?_|refine zF ?_|intro _);conv=>whnf)
    refine PSliceM.hi hs (by omega) (by simp; omega) (fun t2 he2 hs2 => ?_)
    conv => whnf
    repeat ((first|((first|(apply zY;intro hg)|apply zZ);first|exact stA)|(refine zW ?_ ?_;exact gA)|refine zH rfl ?_|refine zA ?_|refine zI bA ?_|refine zI rfl ?_|refine zJ rfl rfl ?_|refine zB ?_|refine zK rfl ?_|refine zL rfl ?_|refine zC ?_|(refine zO ?_ ?_ ?_;omega;omega)|(refine zP ?_ ?_ ?_;omega;omega)|refine zM rfl ?_|(refine zQ ?_ ?_ ?_;omega;omega)|(refine zR ?_ ?_;omega)|(refine zI ?_ ?_;exact nA)|(refine zS ?_ ?_ ?_;omega;omega)|(refine zT ?_ ?_ ?_;omega;omega)|(refine zU ?_ ?_ ?_;omega;omega)|(refine zV ?_ ?_ ?_;omega;omega)|refine zN rfl rfl rfl ?_|refine zD ?_|refine zE ?_|refine zF ?_|intro _);conv=>whnf)
    show PRet _ [.row t2 []] _
    exact PRet.gen (Wk.refl _) (.inl ⟨t2, he2.trans he, hs2.trans hs, rfl, rfl⟩)
  · exact PRet.gen (Wk.refl _) (.inr ⟨rfl, rfl⟩)
theorem Shift.nilRow (s : Nat) (e : TypeId) (Γ : List Ent) : Shift .nil Γ (.ms (nilTok s e)) (.row (nilTok s e) [] :: Γ) := fun w0 F M w v hS hx =>
  let ⟨F', h1, h2⟩ := Ghost.nilRow s e Γ w0 F M w hS
  ⟨F', h1, h2, Wk.nilRow s e F' v (Rep.mono h1 _ _ hx)⟩
theorem Shift.refl (x : PV) (Γ : List Ent) : Shift x Γ x Γ := fun _ F _ _ _ hS hx => ⟨F, Fz.le_refl F, hS, hx⟩
theorem growNil_c (n : Int) (h0 : 0 ≤ n) (h1 : n ≤ 1000000000) : ACall Tryz.prog 130 [.nil, .int .i64 n] [] (fun y Γ' => ∃ t : Tok, t.e = 3 ∧ t.s = 1 ∧ y = .ms t ∧ Γ' = [.row t (([] : List Int).map (PV.int .i64))]) :=
  (growNil0_c n h0 h1).shift fun y Γ' h => by
    rcases h with ⟨t, h1, h2, rfl, rfl⟩ | ⟨rfl, rfl⟩
    · exact ⟨_, _, Shift.refl _ _, t, h1, h2, rfl, rfl⟩
    · exact ⟨_, _, Shift.nilRow 1 3 _, _, rfl, rfl, rfl, rfl⟩
def idxL : List Int → Int → Nat → Int
  | [], _, _ => -1
  | x :: l, v, i => if v = x then (i : Int) else idxL l v (i + 1)
theorem idxL_mem : ∀ (l : List Int) (v : Int) (i : Nat), decide (idxL l v i ≥ 0) = l.contains v
  | [], _, _ => by simp [idxL]
  | x :: l, v, i => by
    rw [idxL, List.contains_cons]
    by_cases h : v = x
    · rw [if_pos h]; simp [h]
    · rw [if_neg h, idxL_mem l v (i + 1)]; simp [h]
theorem indexInt_c (l : List Int) (v : Int) : ACallP Tryz.prog 88 [.sl 1 (l.map (PV.int .i64)) none, .int .i64 v] (.int .i64 (idxL l v 0)) := by
  refine ACall.of_body tt_ok Tryz.func88 rfl rfl (n := 19) rfl rfl ?_
  conv => whnf
  repeat ((first|((first|(apply zY;intro hg)|apply zZ);first|exact stA)|(refine zW ?_ ?_;exact gA)|refine zH rfl ?_|refine zA ?_|refine zI bA ?_|refine zI rfl ?_|refine zJ rfl rfl ?_|refine zB ?_|refine zK rfl ?_|refine zL rfl ?_|refine zC ?_|(refine zO ?_ ?_ ?_;omega;omega)|(refine zP ?_ ?_ ?_;omega;omega)|refine zM rfl ?_|(refine zQ ?_ ?_ ?_;omega;omega)|(refine zR ?_ ?_;omega)|(refine zI ?_ ?_;exact nA)|(refine zS ?_ ?_ ?_;omega;omega)|(refine zT ?_ ?_ ?_;omega;omega)|(refine zU ?_ ?_ ?_;omega;omega)|(refine zV ?_ ?_ ?_;omega;omega)|refine zN rfl rfl rfl ?_|refine zD ?_|refine zE ?_|refine zF ?_|intro _);conv=>whnf)
  refine PLoop.keep [4, 5, 8, 9, 10, 11, 12, 13, 14, 15, 16, 17, 18] (fun i : Nat => [(8, .int .i64 i)]) (fun i => i ≤ l.length ∧ idxL (l.drop i) v i = idxL l v 0) (fun i => l.length - i) 0 ⟨by omega, rfl⟩ wA ?_
  rintro i ⟨h1, h2⟩
  conv => whnf
  repeat' (first|((first|((first|(apply zY;intro hg)|apply zZ);first|exact stA)|(refine zW ?_ ?_;exact gA)|refine zH rfl ?_|refine zA ?_|refine zI bA ?_|refine zI rfl ?_|refine zJ rfl rfl ?_|refine zB ?_|refine zK rfl ?_|refine zL rfl ?_|refine zC ?_|(refine zO ?_ ?_ ?_;omega;omega)|(refine zP ?_ ?_ ?_;omega;omega)|refine zM rfl ?_|(refine zQ ?_ ?_ ?_;omega;omega)|(refine zR ?_ ?_;omega)|(refine zI ?_ ?_;exact nA)|(refine zS ?_ ?_ ?_;omega;omega)|(refine zT ?_ ?_ ?_;omega;omega)|(refine zU ?_ ?_ ?_;omega;omega)|(refine zV ?_ ?_ ?_;omega;omega)|refine zN rfl rfl rfl ?_|refine zD ?_|refine zE ?_|refine zF ?_|intro _|refine zG ?_);conv=>whnf)|(refine zX (fun hc => ?_) (fun hc => ?_)<;>(try simp only [SY] at hc)<;>first|omega|(conv=>whnf)))
  · rw [drop_at (show i < l.length by omega), idxL, if_pos hc] at h2
    exact PRet.pure (Wk.int h2)
  · rw [drop_at (show i < l.length by omega), idxL, if_neg hc] at h2
    exact loopTo (i + 1) ⟨by omega, h2⟩ (by show l.length - (i + 1) < l.length - i; omega) wA
  · rw [List.drop_of_length_le (by omega), idxL] at h2
    exact PRet.pure (Wk.int h2)
theorem containsInt_c (l : List Int) (v : Int) : ACallP Tryz.prog 53 [.sl 1 (l.map (PV.int .i64)) none, .int .i64 v] (.bool (l.contains v)) := by
  refine ACall.of_body tt_ok Tryz.func53 rfl rfl (n := 9) rfl rfl ?_
  conv => whnf
  repeat' (first|((first|((first|(apply zY;intro hg)|apply zZ);first|exact stA|((conv=>whnf);(repeat ((first|(refine zW ?_ ?_;exact gA)|refine pC (indexInt_c l v) wR ?_|refine pC (indexInt_c l v) cA ?_|intro _);conv=>whnf));first|exact pS|exact pL|exact pE))|(refine zW ?_ ?_;exact gA)|refine zH rfl ?_|refine zA ?_|refine zI bA ?_|refine zI rfl ?_|refine zJ rfl rfl ?_|refine zB ?_|refine zK rfl ?_|refine zL rfl ?_|refine zC ?_|(refine zO ?_ ?_ ?_;omega;omega)|(refine zP ?_ ?_ ?_;omega;omega)|refine zM rfl ?_|(refine zQ ?_ ?_ ?_;omega;omega)|(refine zR ?_ ?_;omega)|(refine zI ?_ ?_;exact nA)|(refine zS ?_ ?_ ?_;omega;omega)|(refine zT ?_ ?_ ?_;omega;omega)|(refine zU ?_ ?_ ?_;omega;omega)|(refine zV ?_ ?_ ?_;omega;omega)|refine pC (indexInt_c l v) wR ?_|refine pC (indexInt_c l v) cA ?_|refine zN rfl rfl rfl ?_|refine zD ?_|refine zE ?_|refine zF ?_|intro _|refine zG ?_);conv=>whnf)|(refine zX (fun hc => ?_) (fun hc => ?_)<;>(try simp only [SY] at hc)<;>first|omega|(conv=>whnf)))
  exact PRet.pure (Wk.bool (idxL_mem l v 0))
abbrev slI (l : List Int) : PV := .sl 1 (l.map (PV.int .i64)) none
instance : CellsOf slI (fun l => [slI l]) := ⟨fun _ => rfl⟩
def sumL (ls : List (List Int)) : Nat := (ls.map List.length).sum
theorem sumL_append (a b : List (List Int)) : sumL (a ++ b) = sumL a + sumL b := by simp [sumL]
theorem sumL_le (ls : List (List Int)) (k : Nat) : sumL (ls.take k) ≤ sumL ls := by
  have := sumL_append (ls.take k) (ls.drop k)
  rw [List.take_append_drop] at this
  omega
theorem sumL_step (ls : List (List Int)) {k : Nat} (hk : k < ls.length) : sumL (ls.take (k + 1)) = sumL (ls.take k) + (ls[k]).length := by
  rw [List.take_succ_eq_append_getElem hk, sumL_append]; simp [sumL]
theorem sumL_flatten (ls : List (List Int)) : ls.flatten.length = sumL ls := by simp [sumL, List.length_flatten]
theorem concatInt0_c (ls : List (List Int)) (h : sumL ls ≤ 1000000000) (hl : ls.length ≤ 1000000000) : ACall Tryz.prog 85 [.sl 1 (ls.map slI) none] [] (fun y Γ' => ∃ t : Tok, t.e = 3 ∧ t.s = 1 ∧ y = .ms t ∧ Γ' = [.row t (ls.flatten.map (PV.int .i64))]) := by
  refine ACall.of_body tt_ok Tryz.func85 rfl rfl (n := 36) rfl rfl ?_
  conv => whnf
  repeat ((first|((first|(apply zY;intro hg)|apply zZ);first|exact stA|((conv=>whnf);(repeat ((first|(refine zW ?_ ?_;exact gA)|refine pC (indexInt_c l v) wR ?_|refine pC (indexInt_c l v) cA ?_|intro _);conv=>whnf));first|exact pS|exact pL|exact pE))|(refine zW ?_ ?_;exact gA)|refine zH rfl ?_|refine zA ?_|refine zI bA ?_|refine zI rfl ?_|refine zJ rfl rfl ?_|refine zB ?_|refine zK rfl ?_|refine zL rfl ?_|refine zC ?_|(refine zO ?_ ?_ ?_;omega;omega)|(refine zP ?_ ?_ ?_;omega;omega)|refine zM rfl ?_|(refine zQ ?_ ?_ ?_;omega;omega)|(refine zR ?_ ?_;omega)|(refine zI ?_ ?_;exact nA)|(refine zS ?_ ?_ ?_;omega;omega)|(refine zT ?_ ?_ ?_;omega;omega)|(refine zU ?_ ?_ ?_;omega;omega)|(refine zV ?_ ?_ ?_;omega;omega)|refine pC (indexInt_c l v) wR ?_|refine pC (indexInt_c l v) cA ?_|refine zN rfl rfl rfl ?_|refine zD ?_|refine zE ?_|refine zF ?_|intro _);conv=>whnf)
  refine PLoop.keep [3, 5, 11, 12, 13, 14, 15, 16, 17, 18, 19, 20, 21, 22] (fun x : Nat × Int => [(11, .int .i64 x.1), (3, .int .i64 x.2)]) (fun x => x.1 ≤ ls.length ∧ x.2 = sumL (ls.take x.1)) (fun x => ls.length - x.1) (0, 0) ⟨by omega, rfl⟩ wA ?_
  rintro ⟨i, n⟩ ⟨h1, h2⟩
  dsimp only at h1 h2 ⊢
  have hle := sumL_le ls
  conv => whnf
  repeat' (first|((first|((first|(apply zY;intro hg)|apply zZ);first|exact stA|((conv=>whnf);(repeat ((first|(refine zW ?_ ?_;exact gA)|refine pC (indexInt_c l v) wR ?_|refine pC (indexInt_c l v) cA ?_|intro _);conv=>whnf));first|exact pS|exact pL|exact pE))|(refine zW ?_ ?_;exact gA)|refine zH rfl ?_|refine zA ?_|refine zI bA ?_|refine zI rfl ?_|refine zJ rfl rfl ?_|refine zB ?_|refine zK rfl ?_|refine zL rfl ?_|refine zC ?_|(refine zO ?_ ?_ ?_;omega;omega)|(refine zP ?_ ?_ ?_;omega;omega)|refine zM rfl ?_|(refine zQ ?_ ?_ ?_;omega;omega)|(refine zR ?_ ?_;omega)|(refine zI ?_ ?_;exact nA)|(refine zS ?_ ?_ ?_;omega;omega)|(refine zT ?_ ?_ ?_;omega;omega)|(refine zU ?_ ?_ ?_;omega;omega)|(refine zV ?_ ?_ ?_;omega;omega)|refine pC (indexInt_c l v) wR ?_|refine pC (indexInt_c l v) cA ?_|refine zN rfl rfl rfl ?_|refine zD ?_|refine zE ?_|refine zF ?_|intro _|refine zG ?_);conv=>whnf)|(refine zX (fun hc => ?_) (fun hc => ?_)<;>(try simp only [SY] at hc)<;>first|omega|(conv=>whnf)))
  · have hlt : i < ls.length := by omega
    have g1 := hle (i + 1)
    have g2 := sumL_step ls hlt
    conv => whnf
    repeat' (first|((first|((first|(apply zY;intro hg)|apply zZ);first|exact stA|((conv=>whnf);(repeat ((first|(refine zW ?_ ?_;exact gA)|refine pC (indexInt_c l v) wR ?_|refine pC (indexInt_c l v) cA ?_|intro _);conv=>whnf));first|exact pS|exact pL|exact pE))|(refine zW ?_ ?_;exact gA)|refine zH rfl ?_|refine zA ?_|refine zI bA ?_|refine zI rfl ?_|refine zJ rfl rfl ?_|refine zB ?_|refine zK rfl ?_|refine zL rfl ?_|refine zC ?_|(refine zO ?_ ?_ ?_;omega;omega)|(refine zP ?_ ?_ ?_;omega;omega)|refine zM rfl ?_|(refine zQ ?_ ?_ ?_;omega;omega)|(refine zR ?_ ?_;omega)|(refine zI ?_ ?_;exact nA)|(refine zS ?_ ?_ ?_;omega;omega)|(refine zT ?_ ?_ ?_;omega;omega)|(refine zU ?_ ?_ ?_;omega;omega)|(refine zV ?_ ?_ ?_;omega;omega)|refine pC (indexInt_c l v) wR ?_|refine pC (indexInt_c l v) cA ?_|refine zN rfl rfl rfl ?_|refine zD ?_|refine zE ?_|refine zF ?_|intro _|refine zG ?_);conv=>whnf)|(refine zX (fun hc => ?_) (fun hc => ?_)<;>(try simp only [SY] at hc)<;>first|omega|(conv=>whnf)))
    exact loopTo (i + 1, n + ls[i].length) ⟨by omega, by show n + _ = ((sumL (ls.take (i + 1)) : Nat) : Int); omega⟩ (by show ls.length - (i + 1) < ls.length - i; omega) wA
  · refine PCall.go (growNil_c n (by omega) (by have := hle i; omega)) (WkT.refl _) ?_
    rintro _ _ ⟨t, ht, hs, rfl, rfl⟩
    conv => whnf
    repeat' (first|((first|((first|(apply zY;intro hg)|apply zZ);first|exact stA|((conv=>whnf);(repeat ((first|(refine zW ?_ ?_;exact gA)|refine pC (indexInt_c l v) wR ?_|refine pC (indexInt_c l v) cA ?_|intro _);conv=>whnf));first|exact pS|exact pL|exact pE))|(refine zW ?_ ?_;exact gA)|refine zH rfl ?_|refine zA ?_|refine zI bA ?_|refine zI rfl ?_|refine zJ rfl rfl ?_|refine zB ?_|refine zK rfl ?_|refine zL rfl ?_|refine zC ?_|(refine zO ?_ ?_ ?_;omega;omega)|(refine zP ?_ ?_ ?_;omega;omega)|refine zM rfl ?_|(refine zQ ?_ ?_ ?_;omega;omega)|(refine zR ?_ ?_;omega)|(refine zI ?_ ?_;exact nA)|(refine zS ?_ ?_ ?_;omega;omega)|(refine zT ?_ ?_ ?_;omega;omega)|(refine zU ?_ ?_ ?_;omega;omega)|(refine zV ?_ ?_ ?_;omega;omega)|refine pC (indexInt_c l v) wR ?_|refine pC (indexInt_c l v) cA ?_|refine zN rfl rfl rfl ?_|refine zD ?_|refine zE ?_|refine zF ?_|intro _|refine zG ?_);conv=>whnf)|(refine zX (fun hc => ?_) (fun hc => ?_)<;>(try simp only [SY] at hc)<;>first|omega|(conv=>whnf)))
    refine PLoop.over [6, 8, 27, 28, 29, 30, 31, 32, 33, 34] (fun x : Nat × Tok × List Int => [(27, .int .i64 x.1), (6, .ms x.2.1)]) (fun x : Nat × Tok × List Int => [.row x.2.1 (x.2.2.map (PV.int .i64))]) (fun x => x.1 ≤ ls.length ∧ x.2.1.e = 3 ∧ x.2.1.s = 1 ∧ x.2.2 = (ls.take x.1).flatten) (fun x => ls.length - x.1) (0, t, []) ⟨by omega, ht, hs, rfl⟩ wA ?_
    rintro ⟨k, t2, l⟩ ⟨k1, k2, k3, k4⟩
    dsimp only at k1 k2 k3 k4 ⊢
    conv => whnf
    repeat' (first|((first|((first|(apply zY;intro hg)|apply zZ);first|exact stA|((conv=>whnf);(repeat ((first|(refine zW ?_ ?_;exact gA)|refine pC (indexInt_c l v) wR ?_|refine pC (indexInt_c l v) cA ?_|intro _);conv=>whnf));first|exact pS|exact pL|exact pE))|(refine zW ?_ ?_;exact gA)|refine zH rfl ?_|refine zA ?_|refine zI bA ?_|refine zI rfl ?_|refine zJ rfl rfl ?_|refine zB ?_|refine zK rfl ?_|refine zL rfl ?_|refine zC ?_|(refine zO ?_ ?_ ?_;omega;omega)|(refine zP ?_ ?_ ?_;omega;omega)|refine zM rfl ?_|(refine zQ ?_ ?_ ?_;omega;omega)|(refine zR ?_ ?_;omega)|(refine zI ?_ ?_;exact nA)|(refine zS ?_ ?_ ?_;omega;omega)|(refine zT ?_ ?_ ?_;omega;omega)|(refine zU ?_ ?_ ?_;omega;omega)|(refine zV ?_ ?_ ?_;omega;omega)|refine pC (indexInt_c l v) wR ?_|refine pC (indexInt_c l v) cA ?_|refine zN rfl rfl rfl ?_|refine zD ?_|refine zE ?_|refine zF ?_|intro _|refine zG ?_);conv=>whnf)|(refine zX (fun hc => ?_) (fun hc => ?_)<;>(try simp only [SY] at hc)<;>first|omega|(conv=>whnf)))
    · have hlt : k < ls.length := by omega
      have g1 := hle (k + 1)
      have g2 := sumL_step ls hlt
      have g3 := sumL_flatten (ls.take k)
      rw [← k4] at g3
      refine PAppend.rowList (f := PV.int .i64) (l := l) (m := ls[k]) k2 k3 (Wk.refl _) (by omega) (by show _ * 8 ≤ _; omega) (fun t3 e3 s3 => ?_)
      conv => whnf
      repeat ((first|((first|(apply zY;intro hg)|apply zZ);first|exact stA|((conv=>whnf);(repeat ((first|(refine zW ?_ ?_;exact gA)|refine pC (indexInt_c l v) wR ?_|refine pC (indexInt_c l v) cA ?_|intro _);conv=>whnf));first|exact pS|exact pL|exact pE))|(refine zW ?_ ?_;exact gA)|refine zH rfl ?_|refine zA ?_|refine zI bA ?_|refine zI rfl ?_|refine zJ rfl rfl ?_|refine zB ?_|refine zK rfl ?_|refine zL rfl ?_|refine zC ?_|(refine zO ?_ ?_ ?_;omega;omega)|(refine zP ?_ ?_ ?_;omega;omega)|refine zM rfl ?_|(refine zQ ?_ ?_ ?_;omega;omega)|(refine zR ?_ ?_;omega)|(refine zI ?_ ?_;exact nA)|(refine zS ?_ ?_ ?_;omega;omega)|(refine zT ?_ ?_ ?_;omega;omega)|(refine zU ?_ ?_ ?_;omega;omega)|(refine zV ?_ ?_ ?_;omega;omega)|refine pC (indexInt_c l v) wR ?_|refine pC (indexInt_c l v) cA ?_|refine zN rfl rfl rfl ?_|refine zD ?_|refine zE ?_|refine zF ?_|intro _);conv=>whnf)
      exact loopTo (k + 1, t3, l ++ ls[k]) ⟨by omega, e3, s3, by show l ++ ls[k] = (ls.take (k + 1)).flatten; rw [k4, List.take_succ_eq_append_getElem hlt, List.flatten_append, List.flatten_singleton]⟩ (by show ls.length - (k + 1) < ls.length - k; omega) wA
    · have hk : ls.take k = ls := List.take_of_length_le (by omega)
      rw [hk] at k4
      rw [k4]
      exact PRet.gen (Wk.refl _) ⟨t2, k2, k3, rfl, rfl⟩
theorem concatInt_c (ls : List (List Int)) (h : sumL ls ≤ 1000000000) (hl : ls.length ≤ 1000000000) : ACallP Tryz.prog 85 [.sl 1 (ls.map slI) none] (slI ls.flatten) :=
  ACallP.of_any ((concatInt0_c ls h hl).shift fun y Γ' hq => by
    obtain ⟨t, h1, h2, rfl, rfl⟩ := hq
    exact ⟨slI ls.flatten, _, Shift.freezeRow (WkF.ms' h2), rfl⟩)
end Go.Cb
namespace Go.Cb
open Go.RowKit (Below)
set_option maxRecDepth 100000
section
variable {P : Program} {tt : Nat → TI}
theorem AYield.frameR {l : Nat} {args : List PV} {Γ Γ1 Γ2 : List Ent} {Q : PV → List Ent → Prop} (h : AYield P l args Γ1 Q) (hp : Γ.Perm (Γ2 ++ Γ1)) : AYield P l args Γ fun y Γ' => ∃ Γ1', Γ' = Γ2 ++ Γ1' ∧ Q y Γ1' := fun w0 F M w vs hS hT => by
  have hS' : Sim w0 F (Γ1 ++ (Γ2 ++ M)) w := hS.perm (by
    rw [← List.append_assoc]
    exact (hp.trans List.perm_append_comm).append_right M)
  obtain ⟨fn, tmps, assign, body, h1, h2⟩ := h w0 F (Γ2 ++ M) w vs hS' hT
  refine ⟨fn, tmps, assign, body, h1, h2.mono ?_⟩
  rintro _ _ ⟨v, F', y, Γ', e1, e2, e3, e4, e5⟩
  exact ⟨v, F', y, Γ2 ++ Γ', e1, e2, e3.perm (by
    rw [← List.append_assoc]
    exact List.perm_append_comm.append_right M), e4, Γ', rfl, e5⟩
theorem ACall.frameR {f : FuncId} {args : List PV} {Γ Γ1 Γ2 : List Ent} {Q : PV → List Ent → Prop} (h : ACall P f args Γ1 Q) (hp : Γ.Perm (Γ2 ++ Γ1)) : ACall P f args Γ fun y Γ' => ∃ Γ1', Γ' = Γ2 ++ Γ1' ∧ Q y Γ1' :=
  ⟨h.1, fun w0 F M w vs hS hT => by
    have hS' : Sim w0 F (Γ1 ++ (Γ2 ++ M)) w := hS.perm (by
      rw [← List.append_assoc]
      exact (hp.trans List.perm_append_comm).append_right M)
    refine (h.2 w0 F (Γ2 ++ M) w vs hS' hT).mono ?_
    rintro _ _ ⟨v, F', y, Γ', e1, e2, e3, e4, e5⟩
    exact ⟨v, F', y, Γ2 ++ Γ', e1, e2, e3.perm (by
      rw [← List.append_assoc]
      exact List.perm_append_comm.append_right M), e4, Γ', rfl, e5⟩⟩
theorem PYield.goR {l : Nat} {args args' : List PV} {Γ Γ1 : List Ent} (Γ2 : List Ent) {Q K : PV → List Ent → Prop} (h : AYield P l args' Γ1 Q) (hw : WkT args args') (hp : Γ.Perm (Γ2 ++ Γ1)) (k : ∀ y Γ1', Q y Γ1' → appE Γ2 Γ1' fun Γ' => K y Γ') : PYield P l args Γ K :=
  ⟨((h.wk hw).frameR hp).mono fun y Γ' ⟨Γ1', e, hq⟩ => by have := k y Γ1' hq; rw [appE_eq] at this; rw [e]; exact this⟩
theorem PCall.goR {f : FuncId} {args args' : List PV} {Γ Γ1 : List Ent} (Γ2 : List Ent) {Q K : PV → List Ent → Prop} (h : ACall P f args' Γ1 Q) (hw : WkT args args') (hp : Γ.Perm (Γ2 ++ Γ1)) (k : ∀ y Γ1', Q y Γ1' → appE Γ2 Γ1' fun Γ' => K y Γ') : PCall P f args Γ K :=
  PCall.same ((h.wk hw).frameR hp) (WkT.refl _) fun y Γ' ⟨Γ1', e, hq⟩ => by have := k y Γ1' hq; rw [appE_eq] at this; rw [e]; exact this
end
end Go.Cb
namespace Go.Cb
open Go.Proofs
set_option maxRecDepth 100000
set_option maxHeartbeats 4000000
mutual
def Trm.met : Trm → List Int → Int → List (Trm × List Int)
  | .mk op n v t, sc, deep => (.mk op n v t, sc) :: if deep ≥ 1000 then [] else Trm.mets op sc (sc ++ v) t (deep + 1)
def Trm.mets (op : Int) (sc inner : List Int) : List Trm → Int → List (Trm × List Int)
  | [], _ => []
  | x :: xs, deep => Trm.met x (if groupB op = true ∨ xs = [] then inner else sc) deep ++ Trm.mets op sc inner xs deep
end
theorem Trm.met_eq (t : Trm) (sc : List Int) (deep : Int) : t.met sc deep = (t, sc) :: if deep ≥ 1000 then [] else Trm.mets t.op sc (sc ++ t.v) t.t (deep + 1) := by
  cases t; rw [Trm.met]; rfl
abbrev metP (x : Trm × List Int) : PV := .agg [.int .i64 x.1.op, .int .i64 x.1.n, .sl 1 (x.1.v.map (PV.int .i64)) none, .sl 4 (x.1.t.map Trm.pv) none, slI x.2]
def From (xs : List (List PV)) (i : Nat) (l : List (Trm × List Int)) : Prop := ∀ j (h : j < l.length), xs[i + j]? = some [metP l[j]]
theorem From.left {xs : List (List PV)} {i : Nat} {l m : List (Trm × List Int)} (h : From xs i (l ++ m)) : From xs i l := fun j hj => by
  have := h j (by rw [List.length_append]; omega)
  rwa [List.getElem_append_left hj] at this
theorem From.right {xs : List (List PV)} {i : Nat} {l m : List (Trm × List Int)} (h : From xs i (l ++ m)) : From xs (i + l.length) m := fun j hj => by
  have := h (l.length + j) (by rw [List.length_append]; omega)
  rw [List.getElem_append_right (by omega)] at this
  simpa [Nat.add_assoc] using this
theorem From.head {xs : List (List PV)} {i : Nat} {x : Trm × List Int} {m : List (Trm × List Int)} (h : From xs i (x :: m)) : From xs (i + 1) m := From.right (l := [x]) h
theorem walk_c (l yb wb : Nat) (xs : List (List PV)) (J : Nat → List Ent → Prop) (X : List Ent → Prop)
    (hy : ∀ k ys Γ, xs[k]? = some ys → J k Γ → AYield Tryz.prog l ys Γ fun y Γ' => (y = .btrue ∧ J (k + 1) Γ') ∨ (y = .bfalse ∧ X Γ')) (t : Trm) :
    ∀ (sc : List Int) (deep : Int) (i : Nat) (Γ : List Ent), 0 ≤ deep → deep ≤ 1000 → sc.length + t.bulk ≤ 1000000000 → From xs i (t.met sc deep) → J i Γ →
      ACall Tryz.prog 84 [.agg t.cells, slI sc, .int .i64 deep, .ptr yb 0, .ptr wb 0] (.box yb [.fn (.yield l) []] :: .box wb [.fn (.func 84) [.ptr yb 0, .ptr wb 0]] :: Γ)
        (fun y Γ' => ∃ Γ1, Γ' = .box yb [.fn (.yield l) []] :: .box wb [.fn (.func 84) [.ptr yb 0, .ptr wb 0]] :: Γ1 ∧ ((y = .btrue ∧ J (i + (t.met sc deep).length) Γ1) ∨ (y = .bfalse ∧ X Γ1))) := by
  induction t using Trm.ind with
  | h t ih =>
    intro sc deep i Γ hd0 hd1 hsc hfr hJ
    have hbe := t.bulk_eq
    have hlv := Trm.bulks_length t.t
    rw [Trm.met_eq] at hfr ⊢
    have hsum : sumL [sc, t.v] ≤ 1000000000 := by simp [sumL]; omega
    have h0 := hfr 0 (by simp)
    refine ACall.of_body tt_ok Tryz.func84 rfl rfl (n := 54) rfl rfl ?_
    conv => whnf
    repeat' (first|((first|((first|(apply zY;intro hg)|apply zZ);first|exact stA|((conv=>whnf);(repeat ((first|(refine zW ?_ ?_;exact gA)|refine pC (group_c t) wR ?_|refine pC (group_c t) cA ?_|intro _);conv=>whnf));first|exact pS|exact pL|exact pE))|(refine zW ?_ ?_;exact gA)|refine zH rfl ?_|refine zA ?_|refine zI bA ?_|refine zI rfl ?_|refine zJ rfl rfl ?_|refine zB ?_|refine zK rfl ?_|refine zL rfl ?_|refine zC ?_|(refine zO ?_ ?_ ?_;omega;omega)|(refine zP ?_ ?_ ?_;omega;omega)|refine zM rfl ?_|(refine zQ ?_ ?_ ?_;omega;omega)|(refine zR ?_ ?_;omega)|(refine zI ?_ ?_;exact nA)|(refine zS ?_ ?_ ?_;omega;omega)|(refine zT ?_ ?_ ?_;omega;omega)|(refine zU ?_ ?_ ?_;omega;omega)|(refine zV ?_ ?_ ?_;omega;omega)|refine pC (group_c t) wR ?_|refine pC (group_c t) cA ?_|refine zN rfl rfl rfl ?_|refine zD ?_|refine zE ?_|refine zF ?_|intro _|refine zG ?_);conv=>whnf)|(refine zX (fun hc => ?_) (fun hc => ?_)<;>(try simp only [SY] at hc)<;>first|omega|(conv=>whnf)))
    rename_i b5
    refine PYield.goR [.box b5 [.int .i64 t.op, .int .i64 t.n, .sl 1 (t.v.map (PV.int .i64)) none, .sl 4 (t.t.map Trm.pv) none], .box yb [.fn (.yield l) []], .box wb [.fn (.func 84) [.ptr yb 0, .ptr wb 0]]] (hy (i + 0) _ Γ h0 hJ) (WkT.refl _) (List.Perm.refl _) ?_
    rintro _ Γ1 (⟨rfl, hJ1⟩ | ⟨rfl, hX⟩)
    · conv => whnf
      repeat' (first|((first|((first|(apply zY;intro hg)|apply zZ);first|exact stA|((conv=>whnf);(repeat ((first|(refine zW ?_ ?_;exact gA)|refine pC (group_c t) wR ?_|refine pC (group_c t) cA ?_|intro _);conv=>whnf));first|exact pS|exact pL|exact pE))|(refine zW ?_ ?_;exact gA)|refine zH rfl ?_|refine zA ?_|refine zI bA ?_|refine zI rfl ?_|refine zJ rfl rfl ?_|refine zB ?_|refine zK rfl ?_|refine zL rfl ?_|refine zC ?_|(refine zO ?_ ?_ ?_;omega;omega)|(refine zP ?_ ?_ ?_;omega;omega)|refine zM rfl ?_|(refine zQ ?_ ?_ ?_;omega;omega)|(refine zR ?_ ?_;omega)|(refine zI ?_ ?_;exact nA)|(refine zS ?_ ?_ ?_;omega;omega)|(refine zT ?_ ?_ ?_;omega;omega)|(refine zU ?_ ?_ ?_;omega;omega)|(refine zV ?_ ?_ ?_;omega;omega)|refine pC (group_c t) wR ?_|refine pC (group_c t) cA ?_|refine zN rfl rfl rfl ?_|refine zD ?_|refine zE ?_|refine zF ?_|intro _|refine zG ?_);conv=>whnf)|(refine zX (fun hc => ?_) (fun hc => ?_)<;>(try simp only [SY] at hc)<;>first|omega|(conv=>whnf)))
      · exact PRet.gen (y := .btrue) (Γ' := .box yb [.fn (.yield l) []] :: .box wb [.fn (.func 84) [.ptr yb 0, .ptr wb 0]] :: Γ1) (hp := ⟨(List.perm_append_singleton _ _).symm⟩) (Wk.refl _) ⟨Γ1, rfl, .inl ⟨rfl, by rw [if_pos hc]; exact hJ1⟩⟩
      · rw [if_neg (by omega)] at hfr ⊢
        rename_i tk htk
        refine PCall.pure (concatInt_c [sc, t.v] hsum (by simp)) (WkT.cons (Wk.tok _ _ _) WkT.nil) ?_
        rw [show [sc, t.v].flatten = sc ++ t.v by simp]
        conv => whnf
        repeat' (first|((first|((first|(apply zY;intro hg)|apply zZ);first|exact stA|((conv=>whnf);(repeat ((first|(refine zW ?_ ?_;exact gA)|refine pC (group_c t) wR ?_|refine pC (group_c t) cA ?_|intro _);conv=>whnf));first|exact pS|exact pL|exact pE))|(refine zW ?_ ?_;exact gA)|refine zH rfl ?_|refine zA ?_|refine zI bA ?_|refine zI rfl ?_|refine zJ rfl rfl ?_|refine zB ?_|refine zK rfl ?_|refine zL rfl ?_|refine zC ?_|(refine zO ?_ ?_ ?_;omega;omega)|(refine zP ?_ ?_ ?_;omega;omega)|refine zM rfl ?_|(refine zQ ?_ ?_ ?_;omega;omega)|(refine zR ?_ ?_;omega)|(refine zI ?_ ?_;exact nA)|(refine zS ?_ ?_ ?_;omega;omega)|(refine zT ?_ ?_ ?_;omega;omega)|(refine zU ?_ ?_ ?_;omega;omega)|(refine zV ?_ ?_ ?_;omega;omega)|refine pC (group_c t) wR ?_|refine pC (group_c t) cA ?_|refine zN rfl rfl rfl ?_|refine zD ?_|refine zE ?_|refine zF ?_|intro _|refine zG ?_);conv=>whnf)|(refine zX (fun hc => ?_) (fun hc => ?_)<;>(try simp only [SY] at hc)<;>first|omega|(conv=>whnf)))
        have hfr1 := hfr.head
        refine PLoop.over [8, 10, 11, 12, 29, 30, 31, 32, 33, 34, 35, 36, 37, 38, 39, 40, 41, 42, 43, 44, 45, 46, 47, 48, 49, 50, 51, 52, 53] (fun x : Nat × Nat × List Ent => [(29, .int .i64 x.1)])
          (fun x : Nat × Nat × List Ent => .tok tk :: .box b5 [.int .i64 t.op, .int .i64 t.n, .sl 1 (t.v.map (PV.int .i64)) none, .sl 4 (t.t.map Trm.pv) none] :: .box yb [.fn (.yield l) []] :: .box wb [.fn (.func 84) [.ptr yb 0, .ptr wb 0]] :: x.2.2)
          (fun x => x.1 ≤ t.t.length ∧ J x.2.1 x.2.2 ∧ From xs x.2.1 (Trm.mets t.op sc (sc ++ t.v) (t.t.drop x.1) (deep + 1)) ∧ x.2.1 + (Trm.mets t.op sc (sc ++ t.v) (t.t.drop x.1) (deep + 1)).length = i + 1 + (Trm.mets t.op sc (sc ++ t.v) t.t (deep + 1)).length)
          (fun x => t.t.length - x.1) (0, i + 1, Γ1) ⟨by omega, hJ1, hfr1, rfl⟩ wA ?_
        rintro ⟨k, p, Γ2⟩ ⟨k1, k2, k3, k4⟩
        dsimp only at k1 k2 k3 k4 ⊢
        conv => whnf
        repeat' (first|((first|((first|(apply zY;intro hg)|apply zZ);first|exact stA|((conv=>whnf);(repeat ((first|(refine zW ?_ ?_;exact gA)|refine pC (group_c t) wR ?_|refine pC (group_c t) cA ?_|intro _);conv=>whnf));first|exact pS|exact pL|exact pE))|(refine zW ?_ ?_;exact gA)|refine zH rfl ?_|refine zA ?_|refine zI bA ?_|refine zI rfl ?_|refine zJ rfl rfl ?_|refine zB ?_|refine zK rfl ?_|refine zL rfl ?_|refine zC ?_|(refine zO ?_ ?_ ?_;omega;omega)|(refine zP ?_ ?_ ?_;omega;omega)|refine zM rfl ?_|(refine zQ ?_ ?_ ?_;omega;omega)|(refine zR ?_ ?_;omega)|(refine zI ?_ ?_;exact nA)|(refine zS ?_ ?_ ?_;omega;omega)|(refine zT ?_ ?_ ?_;omega;omega)|(refine zU ?_ ?_ ?_;omega;omega)|(refine zV ?_ ?_ ?_;omega;omega)|refine pC (group_c t) wR ?_|refine pC (group_c t) cA ?_|refine zN rfl rfl rfl ?_|refine zD ?_|refine zE ?_|refine zF ?_|intro _|refine zG ?_);conv=>whnf)|(refine zX (fun hc => ?_) (fun hc => ?_)<;>(try simp only [SY] at hc)<;>first|omega|(conv=>whnf)))
        rotate_right
        · rw [List.drop_of_length_le (by omega), Trm.mets] at k4
          exact PRet.gen (y := .btrue) (Γ' := .box yb [.fn (.yield l) []] :: .box wb [.fn (.func 84) [.ptr yb 0, .ptr wb 0]] :: Γ2) (hp := ⟨List.perm_append_comm (l₁ := [_, _])⟩) (Wk.refl _) ⟨Γ2, rfl, .inl ⟨rfl, by
            rw [List.length_cons, show i + ((Trm.mets t.op sc (sc ++ t.v) t.t (deep + 1)).length + 1) = p by simp only [List.length_nil] at k4; omega]; exact k2⟩⟩
        all_goals
          rename_i b11
          have hlt : k < t.t.length := by omega
          have hbm := Trm.bulks_mem (List.getElem_mem hlt)
          have hdr : t.t.drop (k + 1) = [] ↔ k + 1 = t.t.length := by rw [List.drop_eq_nil_iff]; omega
          rw [drop_at hlt, Trm.mets] at k3 k4
        · rw [if_pos (show groupB t.op = true ∨ t.t.drop (k + 1) = [] by rw [hdr]; exact hc.imp id fun h => by omega)] at k3 k4
          have k3l := k3.left
          have k3r := k3.right
          rw [List.length_append] at k4
          refine PCall.goR [.box b11 [.int .i64 t.t[k].op, .int .i64 t.t[k].n, .sl 1 (t.t[k].v.map (PV.int .i64)) none, .sl 4 (t.t[k].t.map Trm.pv) none], .tok tk, .box b5 [.int .i64 t.op, .int .i64 t.n, .sl 1 (t.v.map (PV.int .i64)) none, .sl 4 (t.t.map Trm.pv) none]]
            (ih t.t[k] (List.getElem_mem _) (sc ++ t.v) (deep + 1) p Γ2 (by omega) (by omega) (by first | omega | (simp; omega)) k3l k2) (WkT.refl _) (List.Perm.refl _) ?_
          rintro _ _ ⟨Γ3, rfl, ⟨rfl, g1⟩ | ⟨rfl, g1⟩⟩
          · conv => whnf
            repeat' (first|((first|((first|(apply zY;intro hg)|apply zZ);first|exact stA|((conv=>whnf);(repeat ((first|(refine zW ?_ ?_;exact gA)|refine pC (group_c t) wR ?_|refine pC (group_c t) cA ?_|intro _);conv=>whnf));first|exact pS|exact pL|exact pE))|(refine zW ?_ ?_;exact gA)|refine zH rfl ?_|refine zA ?_|refine zI bA ?_|refine zI rfl ?_|refine zJ rfl rfl ?_|refine zB ?_|refine zK rfl ?_|refine zL rfl ?_|refine zC ?_|(refine zO ?_ ?_ ?_;omega;omega)|(refine zP ?_ ?_ ?_;omega;omega)|refine zM rfl ?_|(refine zQ ?_ ?_ ?_;omega;omega)|(refine zR ?_ ?_;omega)|(refine zI ?_ ?_;exact nA)|(refine zS ?_ ?_ ?_;omega;omega)|(refine zT ?_ ?_ ?_;omega;omega)|(refine zU ?_ ?_ ?_;omega;omega)|(refine zV ?_ ?_ ?_;omega;omega)|refine pC (group_c t) wR ?_|refine pC (group_c t) cA ?_|refine zN rfl rfl rfl ?_|refine zD ?_|refine zE ?_|refine zF ?_|intro _|refine zG ?_);conv=>whnf)|(refine zX (fun hc => ?_) (fun hc => ?_)<;>(try simp only [SY] at hc)<;>first|omega|(conv=>whnf)))
            exact loopTo (k + 1, p + (t.t[k].met (sc ++ t.v) (deep + 1)).length, Γ3) (hp := ⟨(List.perm_append_singleton _ _).symm⟩) ⟨by omega, g1, k3r, by dsimp only; omega⟩ (by show t.t.length - (k + 1) < t.t.length - k; omega) wA
          · conv => whnf
            repeat' (first|((first|((first|(apply zY;intro hg)|apply zZ);first|exact stA|((conv=>whnf);(repeat ((first|(refine zW ?_ ?_;exact gA)|refine pC (group_c t) wR ?_|refine pC (group_c t) cA ?_|intro _);conv=>whnf));first|exact pS|exact pL|exact pE))|(refine zW ?_ ?_;exact gA)|refine zH rfl ?_|refine zA ?_|refine zI bA ?_|refine zI rfl ?_|refine zJ rfl rfl ?_|refine zB ?_|refine zK rfl ?_|refine zL rfl ?_|refine zC ?_|(refine zO ?_ ?_ ?_;omega;omega)|(refine zP ?_ ?_ ?_;omega;omega)|refine zM rfl ?_|(refine zQ ?_ ?_ ?_;omega;omega)|(refine zR ?_ ?_;omega)|(refine zI ?_ ?_;exact nA)|(refine zS ?_ ?_ ?_;omega;omega)|(refine zT ?_ ?_ ?_;omega;omega)|(refine zU ?_ ?_ ?_;omega;omega)|(refine zV ?_ ?_ ?_;omega;omega)|refine pC (group_c t) wR ?_|refine pC (group_c t) cA ?_|refine zN rfl rfl rfl ?_|refine zD ?_|refine zE ?_|refine zF ?_|intro _|refine zG ?_);conv=>whnf)|(refine zX (fun hc => ?_) (fun hc => ?_)<;>(try simp only [SY] at hc)<;>first|omega|(conv=>whnf)))
            exact PRet.gen (y := .bfalse) (Γ' := .box yb [.fn (.yield l) []] :: .box wb [.fn (.func 84) [.ptr yb 0, .ptr wb 0]] :: Γ3) (hp := ⟨List.perm_append_comm (l₁ := [_, _, _])⟩) (Wk.refl _) ⟨Γ3, rfl, .inr ⟨rfl, g1⟩⟩
        · rw [if_neg (show ¬(groupB t.op = true ∨ t.t.drop (k + 1) = []) by rw [hdr]; rintro (h | h); rw [hc.1] at h; cases h; exact hc.2 (by omega))] at k3 k4
          have k3l := k3.left
          have k3r := k3.right
          rw [List.length_append] at k4
          refine PCall.goR [.box b11 [.int .i64 t.t[k].op, .int .i64 t.t[k].n, .sl 1 (t.t[k].v.map (PV.int .i64)) none, .sl 4 (t.t[k].t.map Trm.pv) none], .tok tk, .box b5 [.int .i64 t.op, .int .i64 t.n, .sl 1 (t.v.map (PV.int .i64)) none, .sl 4 (t.t.map Trm.pv) none]]
            (ih t.t[k] (List.getElem_mem _) (sc) (deep + 1) p Γ2 (by omega) (by omega) (by first | omega | (simp; omega)) k3l k2) (WkT.refl _) (List.Perm.refl _) ?_
          rintro _ _ ⟨Γ3, rfl, ⟨rfl, g1⟩ | ⟨rfl, g1⟩⟩
          · conv => whnf
            repeat' (first|((first|((first|(apply zY;intro hg)|apply zZ);first|exact stA|((conv=>whnf);(repeat ((first|(refine zW ?_ ?_;exact gA)|refine pC (group_c t) wR ?_|refine pC (group_c t) cA ?_|intro _);conv=>whnf));first|exact pS|exact pL|exact pE))|(refine zW ?_ ?_;exact gA)|refine zH rfl ?_|refine zA ?_|refine zI bA ?_|refine zI rfl ?_|refine zJ rfl rfl ?_|refine zB ?_|refine zK rfl ?_|refine zL rfl ?_|refine zC ?_|(refine zO ?_ ?_ ?_;omega;omega)|(refine zP ?_ ?_ ?_;omega;omega)|refine zM rfl ?_|(refine zQ ?_ ?_ ?_;omega;omega)|(refine zR ?_ ?_;omega)|(refine zI ?_ ?_;exact nA)|(refine zS ?_ ?_ ?_;omega;omega)|(refine zT ?_ ?_ ?_;omega;omega)|(refine zU ?_ ?_ ?_;omega;omega)|(refine zV ?_ ?_ ?_;omega;omega)|refine pC (group_c t) wR ?_|refine pC (group_c t) cA ?_|refine zN rfl rfl rfl ?_|refine zD ?_|refine zE ?_|refine zF ?_|intro _|refine zG ?_);conv=>whnf)|(refine zX (fun hc => ?_) (fun hc => ?_)<;>(try simp only [SY] at hc)<;>first|omega|(conv=>whnf)))
            exact loopTo (k + 1, p + (t.t[k].met (sc) (deep + 1)).length, Γ3) (hp := ⟨(List.perm_append_singleton _ _).symm⟩) ⟨by omega, g1, k3r, by dsimp only; omega⟩ (by show t.t.length - (k + 1) < t.t.length - k; omega) wA
          · conv => whnf
            repeat' (first|((first|((first|(apply zY;intro hg)|apply zZ);first|exact stA|((conv=>whnf);(repeat ((first|(refine zW ?_ ?_;exact gA)|refine pC (group_c t) wR ?_|refine pC (group_c t) cA ?_|intro _);conv=>whnf));first|exact pS|exact pL|exact pE))|(refine zW ?_ ?_;exact gA)|refine zH rfl ?_|refine zA ?_|refine zI bA ?_|refine zI rfl ?_|refine zJ rfl rfl ?_|refine zB ?_|refine zK rfl ?_|refine zL rfl ?_|refine zC ?_|(refine zO ?_ ?_ ?_;omega;omega)|(refine zP ?_ ?_ ?_;omega;omega)|refine zM rfl ?_|(refine zQ ?_ ?_ ?_;omega;omega)|(refine zR ?_ ?_;omega)|(refine zI ?_ ?_;exact nA)|(refine zS ?_ ?_ ?_;omega;omega)|(refine zT ?_ ?_ ?_;omega;omega)|(refine zU ?_ ?_ ?_;omega;omega)|(refine zV ?_ ?_ ?_;omega;omega)|refine pC (group_c t) wR ?_|refine pC (group_c t) cA ?_|refine zN rfl rfl rfl ?_|refine zD ?_|refine zE ?_|refine zF ?_|intro _|refine zG ?_);conv=>whnf)|(refine zX (fun hc => ?_) (fun hc => ?_)<;>(try simp only [SY] at hc)<;>first|omega|(conv=>whnf)))
            exact PRet.gen (y := .bfalse) (Γ' := .box yb [.fn (.yield l) []] :: .box wb [.fn (.func 84) [.ptr yb 0, .ptr wb 0]] :: Γ3) (hp := ⟨List.perm_append_comm (l₁ := [_, _, _])⟩) (Wk.refl _) ⟨Γ3, rfl, .inr ⟨rfl, g1⟩⟩
    · conv => whnf
      repeat' (first|((first|((first|(apply zY;intro hg)|apply zZ);first|exact stA|((conv=>whnf);(repeat ((first|(refine zW ?_ ?_;exact gA)|refine pC (group_c t) wR ?_|refine pC (group_c t) cA ?_|intro _);conv=>whnf));first|exact pS|exact pL|exact pE))|(refine zW ?_ ?_;exact gA)|refine zH rfl ?_|refine zA ?_|refine zI bA ?_|refine zI rfl ?_|refine zJ rfl rfl ?_|refine zB ?_|refine zK rfl ?_|refine zL rfl ?_|refine zC ?_|(refine zO ?_ ?_ ?_;omega;omega)|(refine zP ?_ ?_ ?_;omega;omega)|refine zM rfl ?_|(refine zQ ?_ ?_ ?_;omega;omega)|(refine zR ?_ ?_;omega)|(refine zI ?_ ?_;exact nA)|(refine zS ?_ ?_ ?_;omega;omega)|(refine zT ?_ ?_ ?_;omega;omega)|(refine zU ?_ ?_ ?_;omega;omega)|(refine zV ?_ ?_ ?_;omega;omega)|refine pC (group_c t) wR ?_|refine pC (group_c t) cA ?_|refine zN rfl rfl rfl ?_|refine zD ?_|refine zE ?_|refine zF ?_|intro _|refine zG ?_);conv=>whnf)|(refine zX (fun hc => ?_) (fun hc => ?_)<;>(try simp only [SY] at hc)<;>first|omega|(conv=>whnf)))
      exact PRet.gen (y := .bfalse) (Γ' := .box yb [.fn (.yield l) []] :: .box wb [.fn (.func 84) [.ptr yb 0, .ptr wb 0]] :: Γ1) (hp := ⟨(List.perm_append_singleton _ _).symm⟩) (Wk.refl _) ⟨Γ1, rfl, .inr ⟨rfl, hX⟩⟩
def Trm.all (t : Trm) : List (Trm × List Int) := t.met [] 0
theorem all1_c (b : Nat) (t : Trm) (hb : t.bulk ≤ 1000000000) : AIter Tryz.prog 83 [.ptr b 0] [.box b t.cells] (t.all.map fun m => [metP m]) := by
  intro l J X hy Γ hJ
  refine ACall.ghost (Ghost.drop (Γ' := .box b t.cells :: Γ) (Γ1 := []) (by rw [List.append_nil]; exact List.perm_append_singleton _ _)) ?_
  refine ACall.of_body tt_ok Tryz.func83 rfl rfl (n := 8) rfl rfl ?_
  conv => whnf
  repeat' (first|((first|((first|(apply zY;intro hg)|apply zZ);first|exact stA|((conv=>whnf);(repeat ((first|(refine zW ?_ ?_;exact gA)|refine pC (group_c t) wR ?_|refine pC (group_c t) cA ?_|intro _);conv=>whnf));first|exact pS|exact pL|exact pE))|(refine zW ?_ ?_;exact gA)|refine zH rfl ?_|refine zA ?_|refine zI bA ?_|refine zI rfl ?_|refine zJ rfl rfl ?_|refine zB ?_|refine zK rfl ?_|refine zL rfl ?_|refine zC ?_|(refine zO ?_ ?_ ?_;omega;omega)|(refine zP ?_ ?_ ?_;omega;omega)|refine zM rfl ?_|(refine zQ ?_ ?_ ?_;omega;omega)|(refine zR ?_ ?_;omega)|(refine zI ?_ ?_;exact nA)|(refine zS ?_ ?_ ?_;omega;omega)|(refine zT ?_ ?_ ?_;omega;omega)|(refine zU ?_ ?_ ?_;omega;omega)|(refine zV ?_ ?_ ?_;omega;omega)|refine pC (group_c t) wR ?_|refine pC (group_c t) cA ?_|refine zN rfl rfl rfl ?_|refine zD ?_|refine zE ?_|refine zF ?_|intro _|refine zG ?_);conv=>whnf)|(refine zX (fun hc => ?_) (fun hc => ?_)<;>(try simp only [SY] at hc)<;>first|omega|(conv=>whnf)))
  rename_i yb wb
  refine PCall.goR [.box b t.cells] (walk_c l yb wb _ J X hy t [] 0 0 Γ (by omega) (by omega) (by simp; omega) (fun j hj => by rw [Nat.zero_add, List.getElem?_map]; show Option.map _ (t.met [] 0)[j]? = _; rw [List.getElem?_eq_getElem hj]; rfl) hJ) (WkT.cons (Wk.refl _) (WkT.cons (Wk.nil' rfl) (WkT.refl _))) ((List.Perm.swap _ _ _).trans (((List.Perm.swap _ _ _).cons _).trans (List.Perm.swap _ _ _))) ?_
  rintro _ _ ⟨Γ1, rfl, h1⟩
  conv => whnf
  repeat ((first|((first|(apply zY;intro hg)|apply zZ);first|exact stA|((conv=>whnf);(repeat ((first|(refine zW ?_ ?_;exact gA)|refine pC (group_c t) wR ?_|refine pC (group_c t) cA ?_|intro _);conv=>whnf));first|exact pS|exact pL|exact pE))|(refine zW ?_ ?_;exact gA)|refine zH rfl ?_|refine zA ?_|refine zI bA ?_|refine zI rfl ?_|refine zJ rfl rfl ?_|refine zB ?_|refine zK rfl ?_|refine zL rfl ?_|refine zC ?_|(refine zO ?_ ?_ ?_;omega;omega)|(refine zP ?_ ?_ ?_;omega;omega)|refine zM rfl ?_|(refine zQ ?_ ?_ ?_;omega;omega)|(refine zR ?_ ?_;omega)|(refine zI ?_ ?_;exact nA)|(refine zS ?_ ?_ ?_;omega;omega)|(refine zT ?_ ?_ ?_;omega;omega)|(refine zU ?_ ?_ ?_;omega;omega)|(refine zV ?_ ?_ ?_;omega;omega)|refine pC (group_c t) wR ?_|refine pC (group_c t) cA ?_|refine zN rfl rfl rfl ?_|refine zD ?_|refine zE ?_|refine zF ?_|intro _);conv=>whnf)
  refine PRet.gen (Γ' := Γ1) (hp := ⟨List.perm_append_comm (l₁ := [_, _, _])⟩) (Wk.refl _) ?_
  rw [List.length_map]
  rcases h1 with ⟨_, h⟩ | ⟨_, h⟩
  · exact .inl (by rw [Nat.zero_add] at h; exact h)
  · exact .inr h
theorem all_c (t : Trm) : ACall Tryz.prog 50 [.agg t.cells] [] (fun y Γ' => ∃ b, y = .fn (.func 83) [.ptr b 0] ∧ Γ' = [.box b t.cells]) := by
  refine ACall.of_body tt_ok Tryz.func50 rfl rfl (n := 4) rfl rfl ?_
  conv => whnf
  repeat' (first|((first|((first|(apply zY;intro hg)|apply zZ);first|exact stA|((conv=>whnf);(repeat ((first|(refine zW ?_ ?_;exact gA)|refine pC (group_c t) wR ?_|refine pC (group_c t) cA ?_|intro _);conv=>whnf));first|exact pS|exact pL|exact pE))|(refine zW ?_ ?_;exact gA)|refine zH rfl ?_|refine zA ?_|refine zI bA ?_|refine zI rfl ?_|refine zJ rfl rfl ?_|refine zB ?_|refine zK rfl ?_|refine zL rfl ?_|refine zC ?_|(refine zO ?_ ?_ ?_;omega;omega)|(refine zP ?_ ?_ ?_;omega;omega)|refine zM rfl ?_|(refine zQ ?_ ?_ ?_;omega;omega)|(refine zR ?_ ?_;omega)|(refine zI ?_ ?_;exact nA)|(refine zS ?_ ?_ ?_;omega;omega)|(refine zT ?_ ?_ ?_;omega;omega)|(refine zU ?_ ?_ ?_;omega;omega)|(refine zV ?_ ?_ ?_;omega;omega)|refine pC (group_c t) wR ?_|refine pC (group_c t) cA ?_|refine zN rfl rfl rfl ?_|refine zD ?_|refine zE ?_|refine zF ?_|intro _|refine zG ?_);conv=>whnf)|(refine zX (fun hc => ?_) (fun hc => ?_)<;>(try simp only [SY] at hc)<;>first|omega|(conv=>whnf)))
  rename_i b
  exact PRet.gen (y := .fn (.func 83) [.ptr b 0]) (Γ' := [.box b t.cells]) (hp := PickL.self _) (Wk.refl _) ⟨b, rfl, rfl⟩
end Go.Cb
namespace Go.Cb
open Go.Proofs
set_option maxRecDepth 100000
set_option maxHeartbeats 4000000
theorem Trm.met_len (t : Trm) : ∀ (sc : List Int) (deep : Int), (t.met sc deep).length ≤ t.bulk := by
  induction t using Trm.ind with
  | h t ih =>
    intro sc deep
    rw [Trm.met_eq, t.bulk_eq, List.length_cons]
    split
    · simp; omega
    · have : ∀ (l : List Trm), (∀ y ∈ l, ∀ (sc : List Int) (deep : Int), (y.met sc deep).length ≤ y.bulk) → ∀ sc inner deep, (Trm.mets t.op sc inner l deep).length ≤ Trm.bulks l := by
        intro l
        induction l with
        | nil => intro _ _ _ _; simp [Trm.mets]
        | cons x l ihl =>
          intro hy sc inner deep
          rw [Trm.mets, Trm.bulks, List.length_append]
          have := hy x (by simp) (if groupB t.op = true ∨ l = [] then inner else sc) deep
          have := ihl (fun y h => hy y (by simp [h])) sc inner deep
          omega
      have := this t.t ih sc (sc ++ t.v) (deep + 1)
      omega
end Go.Cb
namespace Go.Cb
open Go.Proofs
set_option maxRecDepth 100000
set_option maxHeartbeats 4000000
theorem PLenM.one {x : PV} {Γ : List Ent} {t : Tok} {put : Tok → List PV → List Ent} [hp : PickRow Γ t [x] put] {K : Nat → Prop} (k : K 1) : PLenM t Γ K := PLenM.at_ (hp := hp) (fun _ => k)
end Go.Cb
namespace Go.Cb
open Go.Proofs
set_option maxRecDepth 100000
set_option maxHeartbeats 4000000
def namesB (op : Int) : Bool := op == 1 || op == 2 || op == 14
theorem names_c (t : Trm) : ACallP Tryz.prog 52 [.agg t.cells] (.bool (namesB t.op)) := by
  refine ACall.of_body tt_ok Tryz.func52 rfl rfl (n := 16) rfl rfl ?_
  conv => whnf
  repeat' (first|((first|((first|(apply zY;intro hg)|apply zZ);first|exact stA)|(refine zW ?_ ?_;exact gA)|refine zH rfl ?_|refine zA ?_|refine zI bA ?_|refine zI rfl ?_|refine zJ rfl rfl ?_|refine zB ?_|refine zK rfl ?_|refine zL rfl ?_|refine zC ?_|(refine zO ?_ ?_ ?_;omega;omega)|(refine zP ?_ ?_ ?_;omega;omega)|refine zM rfl ?_|(refine zQ ?_ ?_ ?_;omega;omega)|(refine zR ?_ ?_;omega)|(refine zI ?_ ?_;exact nA)|(refine zS ?_ ?_ ?_;omega;omega)|(refine zT ?_ ?_ ?_;omega;omega)|(refine zU ?_ ?_ ?_;omega;omega)|(refine zV ?_ ?_ ?_;omega;omega)|refine zN rfl rfl rfl ?_|refine zD ?_|refine zE ?_|refine zF ?_|intro _|refine zG ?_);conv=>whnf)|(refine zX (fun hc => ?_) (fun hc => ?_)<;>(try simp only [SY] at hc)<;>first|omega|(conv=>whnf)))
  exact PRet.pure (Wk.refl _)
def freeOf (l : List (Trm × List Int)) : List Int := (l.filter fun m => namesB m.1.op && !m.2.contains m.1.n).map fun m => m.1.n
end Go.Cb
namespace Go.Cb
open Go.Proofs
set_option maxRecDepth 100000
set_option maxHeartbeats 4000000
mutual
def Trm.dep : Trm → Int
  | .mk _ _ _ t => Trm.deps t 0
def Trm.deps : List Trm → Int → Int
  | [], d => d
  | x :: xs, d => Trm.deps xs (max d (1 + Trm.dep x))
end
theorem Trm.dep_eq (t : Trm) : t.dep = Trm.deps t.t 0 := by cases t; rfl
theorem Trm.deps_le (c : Int) : ∀ (l : List Trm) (d : Int), Trm.deps l d ≤ c ↔ d ≤ c ∧ ∀ x ∈ l, 1 + x.dep ≤ c
  | [], d => by simp [Trm.deps]
  | x :: l, d => by
    rw [Trm.deps, Trm.deps_le c l]
    simp only [List.forall_mem_cons]
    constructor
    · rintro ⟨h1, h2⟩; exact ⟨by omega, by omega, h2⟩
    · rintro ⟨h1, h2, h3⟩; exact ⟨by omega, h3⟩
theorem Trm.deps_ge : ∀ (l : List Trm) (d : Int), d ≤ Trm.deps l d
  | [], d => by simp [Trm.deps]
  | x :: l, d => by rw [Trm.deps]; have := Trm.deps_ge l (max d (1 + x.dep)); omega
theorem Trm.met_all (t : Trm) : ∀ (sc : List Int) (deep : Int), deep + t.dep < 1000 → (t.met sc deep).length = t.cnt ∧ (t.met sc deep).flatMap (fun m => m.1.v) = t.vars := by
  induction t using Trm.ind with
  | h t ih =>
    intro sc deep h
    rw [Trm.dep_eq] at h
    have hd := (Trm.deps_le (999 - deep) t.t 0).1 (by omega)
    have key : ∀ (op : Int) (l : List Trm), (∀ y ∈ l, ∀ (sc : List Int) (deep : Int), deep + y.dep < 1000 → (y.met sc deep).length = y.cnt ∧ (y.met sc deep).flatMap (fun m => m.1.v) = y.vars) →
        ∀ (sc inner : List Int) (deep : Int), (∀ x ∈ l, deep + x.dep < 1000) → (Trm.mets op sc inner l deep).length = Trm.cnts l ∧ (Trm.mets op sc inner l deep).flatMap (fun m => m.1.v) = Trm.varss l := by
      intro op l
      induction l with
      | nil => intro _ _ _ _ _; simp [Trm.mets, Trm.cnts, Trm.varss]
      | cons x l ihl =>
        intro hy sc inner deep hx
        have h1 := hy x (by simp) (if groupB op = true ∨ l = [] then inner else sc) deep (hx x (by simp))
        have h2 := ihl (fun y hh => hy y (by simp [hh])) sc inner deep fun y hh => hx y (by simp [hh])
        rw [Trm.mets, Trm.cnts, Trm.varss, List.flatMap_append, h1.2, h2.2, List.length_append]
        exact ⟨by have := h1.1; have := h2.1; omega, rfl⟩
    have h1 := key t.op t.t ih sc (sc ++ t.v) (deep + 1) fun x hx => by have := hd.2 x hx; omega
    have hlt : ¬ deep ≥ 1000 := by have := Trm.deps_ge t.t 0; omega
    rw [Trm.met_eq, if_neg hlt, Trm.cnt_eq, Trm.vars_eq, List.flatMap_cons, List.length_cons, h1.2]
    exact ⟨by have := h1.1; omega, rfl⟩
theorem Trm.okT_deep {level c codes : Int} {free : Bool} (t : Trm) : ∀ {scope : List Int} {deep : Int}, t.okT level c codes free scope deep → deep + t.dep ≤ 400 := by
  induction t using Trm.ind with
  | h t ih =>
    intro scope deep h
    rw [Trm.okT_eq] at h
    have key : ∀ (op : Int) (sc inner : List Int) (deep : Int) (l : List Trm), (∀ y ∈ l, ∀ {scope : List Int} {deep : Int}, y.okT level c codes free scope deep → deep + y.dep ≤ 400) → Trm.okTs level c codes free op sc inner l deep → ∀ x ∈ l, deep + x.dep ≤ 400 := by
      intro op sc inner deep l
      induction l with
      | nil => intro _ _; simp
      | cons x l ihl =>
        intro hy hk y hm
        rw [Trm.okTs] at hk
        rcases List.mem_cons.1 hm with rfl | hm
        · exact hy y (by simp) hk.2.1
        · exact ihl (fun z hz => hy z (by simp [hz])) hk.2.2 y hm
    have h1 := key _ _ _ _ _ ih h.2
    have := (Trm.deps_le (400 - deep) t.t 0).2 ⟨by have := h.1.1; omega, fun x hx => by have := h1 x hx; omega⟩
    rw [Trm.dep_eq]; omega
theorem Trm.okT_move {level c codes : Int} {free : Bool} (t : Trm) : ∀ {scope : List Int} {deep deep2 : Int}, t.okT level c codes free scope deep → deep2 + t.dep ≤ 400 → t.okT level c codes free scope deep2 := by
  induction t using Trm.ind with
  | h t ih =>
    intro scope deep deep2 h hd
    rw [Trm.okT_eq] at h ⊢
    rw [Trm.dep_eq] at hd
    have hd2 := (Trm.deps_le (400 - deep2) t.t 0).1 (by omega)
    have key : ∀ (op : Int) (sc inner : List Int) (deep deep2 : Int) (l : List Trm), (∀ y ∈ l, ∀ {scope : List Int} {deep deep2 : Int}, y.okT level c codes free scope deep → deep2 + y.dep ≤ 400 → y.okT level c codes free scope deep2) → (∀ x ∈ l, deep2 + x.dep ≤ 400) →
        Trm.okTs level c codes free op sc inner l deep → Trm.okTs level c codes free op sc inner l deep2 := by
      intro op sc inner deep deep2 l
      induction l with
      | nil => intro _ _ _; simp [Trm.okTs]
      | cons x l ihl =>
        intro hy hx hk
        rw [Trm.okTs] at hk ⊢
        exact ⟨hk.1, hy x (by simp) hk.2.1 (hx x (by simp)), ihl (fun z hz => hy z (by simp [hz])) (fun z hz => hx z (by simp [hz])) hk.2.2⟩
    exact ⟨⟨by have := Trm.deps_ge t.t 0; omega, h.1.2⟩, key _ _ _ _ _ _ ih (fun x hx => by have := hd2.2 x hx; omega) h.2⟩
theorem Trm.okT_names {level c codes : Int} {free : Bool} (t : Trm) : ∀ {scope : List Int} {deep : Int} (deep2 : Int), t.okT level c codes free scope deep → ∀ m ∈ t.met scope deep2, namesB m.1.op = true → m.2.contains m.1.n = true := by
  induction t using Trm.ind with
  | h t ih =>
    intro scope deep deep2 h
    rw [Trm.okT_eq] at h
    have key : ∀ (op : Int) (sc inner : List Int) (deep deep2 : Int) (l : List Trm), (∀ y ∈ l, ∀ {scope : List Int} {deep : Int} (deep2 : Int), y.okT level c codes free scope deep → ∀ m ∈ y.met scope deep2, namesB m.1.op = true → m.2.contains m.1.n = true) →
        Trm.okTs level c codes free op sc inner l deep → ∀ m ∈ Trm.mets op sc inner l deep2, namesB m.1.op = true → m.2.contains m.1.n = true := by
      intro op sc inner deep deep2 l
      induction l with
      | nil => intro _ _; simp [Trm.mets]
      | cons x l ihl =>
        intro hy hk m hm
        rw [Trm.okTs] at hk
        rw [Trm.mets, List.mem_append] at hm
        rcases hm with hm | hm
        · have e : (if groupB op = true ∨ l = [] then inner else sc) = (if l = [] ∨ op = 7 ∨ op = 9 then inner else sc) := by
            by_cases h1 : l = [] <;> by_cases h2 : op = 7 <;> by_cases h3 : op = 9 <;> simp [groupB, h1, h2, h3]
          rw [e] at hm
          exact hy x (by simp) deep2 hk.2.1 m hm
        · exact ihl (fun z hz => hy z (by simp [hz])) hk.2.2 m hm
    intro m hm
    rw [Trm.met_eq] at hm
    rcases List.mem_cons.1 hm with rfl | hm
    · intro hn
      have h4 := h.1.2.2.2
      have ho : t.op = 1 ∨ t.op = 2 ∨ t.op = 14 := by simp [namesB] at hn; omega
      unfold numberL at h4
      rw [if_neg (by omega), if_pos ho] at h4
      exact h4
    · split at hm
      · cases hm
      · exact key _ _ _ _ _ _ ih h.2 m hm
theorem RightP.free {p : Prog} {level : Int} (h : RightP p level) : freeOf p.body.all = [] := by
  unfold freeOf
  rw [List.map_eq_nil_iff, List.filter_eq_nil_iff]
  intro m hm
  have := p.body.okT_names 0 h.2.2.1 m hm
  simp
  simpa using this
theorem RightP.seq {p : Prog} {level : Int} (h : RightP p level) (hd : p.body.dep < 400) (hc : p.body.cnt ≤ 300) : RightP ⟨p.consts, .mk 6 0 [] [p.body]⟩ level := by
  obtain ⟨h1, h2, h3, h4, h5⟩ := h
  refine ⟨h1, h2, ?_, ?_, ?_⟩
  · rw [Trm.okT, Trm.okTs, Trm.okTs]
    refine ⟨⟨by omega, ?_, ?_, ?_⟩, ⟨by simp, ?_, trivial⟩⟩
    · simp [sortsL]
    · simp [countsL, Trm.op, Trm.t, Trm.v]
    · simp [numberL, Trm.op, Trm.n]
    · rw [if_pos (.inl rfl)]
      exact Trm.okT_move _ h3 (by omega)
  · show Trm.cnt (.mk 6 0 [] [p.body]) ≤ 20000
    rw [Trm.cnt_eq]
    show 1 + Trm.cnts [p.body] ≤ 20000
    rw [Trm.cnts, Trm.cnts]; omega
  · show Dist (Trm.vars (.mk 6 0 [] [p.body])) []
    rw [Trm.vars_eq]
    show Dist ([] ++ Trm.varss [p.body]) []
    rw [Trm.varss, Trm.varss]
    simpa using h5
end Go.Cb
namespace Go.Cb
open Go.Lib
def riseL (l : List Int) : List Int := compact (l.mergeSort fun x y => decide (x ≤ y))
theorem arr_get! {α : Type} [Inhabited α] {l : List α} {j : Nat} (h : j < l.length) : l.toArray[j]! = l[j] := by
  rw [getElem!_pos _ j (by simpa using h)]; simp
theorem mem_compact (l : List Int) (x : Int) : x ∈ compact l ↔ x ∈ l := by
  unfold compact compactUpTo
  simp only [List.mem_map, List.mem_filter, List.mem_range]
  constructor
  · rintro ⟨j, ⟨hj, _⟩, rfl⟩
    rw [arr_get! hj]
    exact List.getElem_mem hj
  · intro hx
    have key : ∀ n (j : Nat) (hj : j < l.length), j ≤ n → l[j] = x → ∃ i, (i < l.length ∧ keeps l.toArray i = true) ∧ l.toArray[i]! = x := by
      intro n
      induction n with
      | zero =>
        intro j hj hn e
        obtain rfl : j = 0 := by omega
        exact ⟨0, ⟨hj, keeps_lt_one _ 0 (by omega)⟩, by rw [arr_get! hj, e]⟩
      | succ n ih =>
        intro j hj hn e
        by_cases h0 : j = 0
        · subst h0
          exact ⟨0, ⟨hj, keeps_lt_one _ 0 (by omega)⟩, by rw [arr_get! hj, e]⟩
        by_cases hp : l[j - 1] = x
        · exact ih (j - 1) (by omega) (by omega) hp
        · refine ⟨j, ⟨hj, keeps_pos ?_⟩, by rw [arr_get! hj, e]⟩
          rw [arr_get! hj, arr_get! (show j - 1 < l.length by omega), e]
          exact fun h => hp h.symm
    obtain ⟨j, hj, e⟩ := List.getElem_of_mem hx
    exact key j j hj (Nat.le_refl _) e
theorem keeps_ne {l : List Int} {j : Nat} (h0 : 0 < j) (hj : j < l.length) (h : keeps l.toArray j = true) : l[j] ≠ l[j - 1] := by
  intro e
  have := keeps_neg (d := l.toArray) h0 (by rw [arr_get! hj, arr_get! (show j - 1 < l.length by omega)]; exact e)
  rw [this] at h; cases h
theorem compact_lt {l : List Int} (h : l.Pairwise (· ≤ ·)) : (compact l).Pairwise (· < ·) := by
  unfold compact compactUpTo
  rw [List.pairwise_map]
  refine List.Pairwise.imp_of_mem ?_ (List.Pairwise.filter _ List.pairwise_lt_range)
  intro i j hi hj hij
  simp only [List.mem_filter, List.mem_range] at hi hj
  rw [arr_get! hi.1, arr_get! hj.1]
  have h1 := keeps_ne (by omega) hj.1 hj.2
  have hp := List.pairwise_iff_getElem.1 h
  have h2 : l[j - 1] ≤ l[j] := hp (j - 1) j (by omega) hj.1 (by omega)
  have h3 : l[i] ≤ l[j - 1] := by
    by_cases e : i = j - 1
    · subst e; omega
    · exact hp i (j - 1) hi.1 (by omega) (by omega)
  omega
theorem mem_rise (l : List Int) (x : Int) : x ∈ riseL l ↔ x ∈ l := by
  unfold riseL
  rw [mem_compact, List.mem_mergeSort]
theorem sorted_le (l : List Int) : (l.mergeSort fun x y => decide (x ≤ y)).Pairwise (· ≤ ·) := by
  have := List.pairwise_mergeSort (le := fun x y : Int => decide (x ≤ y)) (by intro a b c; simp; omega) (by intro a b; simp; omega) l
  simpa using this
theorem rise_lt (l : List Int) : (riseL l).Pairwise (· < ·) := compact_lt (sorted_le l)
theorem lt_ext : ∀ {l m : List Int}, l.Pairwise (· < ·) → m.Pairwise (· < ·) → (∀ x, x ∈ l ↔ x ∈ m) → l = m
  | [], [], _, _, _ => rfl
  | [], y :: m, _, _, h => by have := (h y).2 (by simp); cases this
  | x :: l, [], _, _, h => by have := (h x).1 (by simp); cases this
  | x :: l, y :: m, hl, hm, h => by
    rw [List.pairwise_cons] at hl hm
    have hxy : x = y := by
      have h1 := (h x).1 (by simp)
      have h2 := (h y).2 (by simp)
      rw [List.mem_cons] at h1 h2
      rcases h1 with h1 | h1
      · exact h1
      · rcases h2 with h2 | h2
        · exact h2.symm
        · have := hl.1 _ h2; have := hm.1 _ h1; omega
    subst hxy
    rw [lt_ext hl.2 hm.2 fun z => ?_]
    have := h z
    simp only [List.mem_cons] at this
    constructor
    · intro hz
      have hlt := hl.1 z hz
      exact (this.1 (.inr hz)).resolve_left (by omega)
    · intro hz
      have hlt := hm.1 z hz
      exact (this.2 (.inr hz)).resolve_left (by omega)
theorem rise_len {l : List Int} (h : l.Nodup) : (riseL l).length = l.length := by
  have h1 : (riseL l).Nodup := (rise_lt l).imp fun h => by omega
  have : (riseL l).Perm l := (List.perm_ext_iff_of_nodup h1 h).2 (mem_rise l)
  exact this.length_eq
theorem rise_one (x : Int) : riseL [x] = [x] := lt_ext (rise_lt _) (by simp) fun y => mem_rise [x] y
end Go.Cb
namespace Go.Cb
open Go.Proofs
set_option maxRecDepth 100000
set_option maxHeartbeats 4000000
end Go.Cb
namespace Go.Proofs
open Go.Shelf
def Tryz.lays189_ren : Go.Shelf.Ren := ⟨fun | 189 => 86 | 125 => 132 | 257 => 131 | 128 => 165 | 129 => 166 | 294 => 156 | 295 => 157 | 296 => 158 | 297 => 159 | 298 => 160 | 299 => 161 | 216 => 162 | 300 => 163 | 301 => 164 | 328 => 178 | 329 => 179 | 330 => 180 | 331 => 181 | 332 => 182 | 215 => 183 | 343 => 199 | n => n, fun | 28 => 23 | 3 => 3 | 46 => 158 | 0 => 0 | 51 => 183 | 53 => 185 | 4 => 4 | 183 => 177 | 182 => 176 | 131 => 169 | 5 => 5 | 9 => 9 | 218 => 194 | 222 => 198 | 228 => 216 | 229 => 165 | n => n, fun | n => n⟩
theorem Tryz.lays189 : Go.Proofs.Lays.n189 Tryz.prog Tryz.lays189_ren := {
  mixed := by kernel_rfl
  f125 := Tryz.func132.trans (congrArg some (by kernel_rfl))
  f128 := Tryz.func165.trans (congrArg some (by kernel_rfl))
  f129 := Tryz.func166.trans (congrArg some (by kernel_rfl))
  f189 := Tryz.func86.trans (congrArg some (by kernel_rfl))
  f215 := Tryz.func183.trans (congrArg some (by kernel_rfl))
  f216 := Tryz.func162.trans (congrArg some (by kernel_rfl))
  f257 := Tryz.func131.trans (congrArg some (by kernel_rfl))
  f294 := Tryz.func156.trans (congrArg some (by kernel_rfl))
  f295 := Tryz.func157.trans (congrArg some (by kernel_rfl))
  f296 := Tryz.func158.trans (congrArg some (by kernel_rfl))
  f297 := Tryz.func159.trans (congrArg some (by kernel_rfl))
  f298 := Tryz.func160.trans (congrArg some (by kernel_rfl))
  f299 := Tryz.func161.trans (congrArg some (by kernel_rfl))
  f300 := Tryz.func163.trans (congrArg some (by kernel_rfl))
  f301 := Tryz.func164.trans (congrArg some (by kernel_rfl))
  f328 := Tryz.func178.trans (congrArg some (by kernel_rfl))
  f329 := Tryz.func179.trans (congrArg some (by kernel_rfl))
  f330 := Tryz.func180.trans (congrArg some (by kernel_rfl))
  f331 := Tryz.func181.trans (congrArg some (by kernel_rfl))
  f332 := Tryz.func182.trans (congrArg some (by kernel_rfl))
  f343 := Tryz.func199.trans (congrArg some (by kernel_rfl))
  t0 := Tryz.underlying0
  a0 := Tryz.isAgg0
  z0 := Tryz.sizeOf0
  v0 := Tryz.zeroValue0
  t3 := Tryz.underlying3
  a3 := Tryz.isAgg3
  z3 := Tryz.sizeOf3
  v3 := Tryz.zeroValue3
  t4 := Tryz.underlying4
  a4 := Tryz.isAgg4
  z4 := Tryz.sizeOf4
  v4 := Tryz.zeroValue4
  t5 := Tryz.underlying5
  a5 := Tryz.isAgg5
  z5 := Tryz.sizeOf5
  v5 := Tryz.zeroValue5
  t9 := Tryz.underlying9
  a9 := Tryz.isAgg9
  z9 := Tryz.sizeOf9
  v9 := Tryz.zeroValue9
  t28 := Tryz.underlying23
  a28 := Tryz.isAgg23
  z28 := Tryz.sizeOf23
  v28 := Tryz.zeroValue23
  t46 := Tryz.underlying158
  a46 := Tryz.isAgg158
  z46 := Tryz.sizeOf158
  v46 := Tryz.zeroValue158
  t51 := Tryz.underlying183
  a51 := Tryz.isAgg183
  z51 := Tryz.sizeOf183
  v51 := Tryz.zeroValue183
  t53 := Tryz.underlying185
  a53 := Tryz.isAgg185
  z53 := Tryz.sizeOf185
  v53 := Tryz.zeroValue185
  t131 := Tryz.underlying169
  a131 := Tryz.isAgg169
  z131 := Tryz.sizeOf169
  v131 := Tryz.zeroValue169
  t182 := Tryz.underlying176
  a182 := Tryz.isAgg176
  z182 := Tryz.sizeOf176
  v182 := Tryz.zeroValue176
  t183 := Tryz.underlying177
  a183 := Tryz.isAgg177
  z183 := Tryz.sizeOf177
  v183 := Tryz.zeroValue177
  t218 := Tryz.underlying194
  a218 := Tryz.isAgg194
  z218 := Tryz.sizeOf194
  v218 := Tryz.zeroValue194
  t222 := Tryz.underlying198
  a222 := Tryz.isAgg198
  z222 := Tryz.sizeOf198
  v222 := Tryz.zeroValue198
  t228 := Tryz.underlying216
  a228 := Tryz.isAgg216
  z228 := Tryz.sizeOf216
  v228 := Tryz.zeroValue216
  t229 := Tryz.underlying165
  a229 := Tryz.isAgg165
  z229 := Tryz.sizeOf165
  v229 := Tryz.zeroValue165 }
def Tryz.laysNm220_ren : Go.Shelf.Ren := ⟨fun | 20 => 87 | n => n, fun | 22 => 23 | 3 => 3 | 4 => 4 | 0 => 0 | n => n, fun | n => n⟩
theorem Tryz.laysNm220 : Go.Proofs.Lays2.n20 Tryz.prog Tryz.laysNm220_ren := {
  mixed := by kernel_rfl
  f20 := Tryz.func87.trans (congrArg some (by kernel_rfl))
  t0 := Tryz.underlying0
  a0 := Tryz.isAgg0
  z0 := Tryz.sizeOf0
  v0 := Tryz.zeroValue0
  t3 := Tryz.underlying3
  a3 := Tryz.isAgg3
  z3 := Tryz.sizeOf3
  v3 := Tryz.zeroValue3
  t4 := Tryz.underlying4
  a4 := Tryz.isAgg4
  z4 := Tryz.sizeOf4
  v4 := Tryz.zeroValue4
  t22 := Tryz.underlying23
  a22 := Tryz.isAgg23
  z22 := Tryz.sizeOf23
  v22 := Tryz.zeroValue23
  i3 := by kernel_rfl }
end Go.Proofs
namespace Go.Cb
open Go.Proofs Go.Sort
open Go.RowKit (Below)
set_option maxRecDepth 100000
set_option maxHeartbeats 4000000
theorem flat_ints : ∀ l : List Int, flat (l.map (PV.int .i64)) = l.map (PV.int .i64)
  | [] => rfl
  | x :: l => by
    have := flat_ints l
    simp only [flat, List.map_cons, List.flatMap_cons, PV.cellsOf] at this ⊢
    rw [this]; rfl
theorem repL_ints (F : Fz) : ∀ l : List Int, RepL F (l.map (PV.int .i64)) (l.map (Value.int .i64))
  | [] => RepL_nil F
  | x :: l => RepL_cons.2 ⟨⟨rfl, by simp only [Rep]⟩, repL_ints F l⟩
theorem repL_ints_eq {F : Fz} : ∀ {l : List Int} {xs : List Value}, RepL F (l.map (PV.int .i64)) xs → xs = l.map (Value.int .i64)
  | [], [], _ => rfl
  | [], _ :: _, h => by simp only [List.map_nil, RepL] at h
  | _ :: _, [], h => by simp only [List.map_cons, RepL] at h
  | x :: l, v :: xs, h => by
    have h := RepL_cons.1 h
    have h1 : v = .int .i64 x := by simpa only [Rep] using h.1.2
    rw [h1, repL_ints_eq h.2]; rfl
theorem Sim.putInts {w0 : World} {F : Fz} {M : List Ent} {w : World} {t : Tok} {l ts : List Int} (h : Sim w0 F (.row t (l.map (PV.int .i64)) :: M) w) (hs : t.s = 1) (hlen : ts.length = l.length) {g : Nat} (hg : t.b = some g) (q : Nat) (os : Array Obj) :
    Sim w0 F (.row t (ts.map (PV.int .i64)) :: M) (grow (putRow (Value.int .i64) (Sort.ahead w q) g 0 ts.toArray) os) := by
  obtain ⟨⟨xs, hown, hr⟩, hes, e2, hfree⟩ := h.ent _ (List.mem_cons_self ..)
  rcases hown.2 with ⟨h1, _⟩ | ⟨g', cap, cur, hb, hv, hB, hh, hnc, hcm, hsz, htake⟩
  · rw [h1] at hg; cases hg
  obtain rfl : g' = g := by rw [hb] at hg; simpa using hg
  have hsep := List.pairwise_cons.1 h.sep
  have hgr : w.grownBy (grow (putRow (Value.int .i64) (Sort.ahead w q) g' 0 ts.toArray) os) (some g') := grownBy_sortedI ts.toArray
  have hn : l.length = t.n := by simpa using e2
  have hfl : flat (ts.map (PV.int .i64)) = ts.map (PV.int .i64) := flat_ints ts
  refine Sim.rowE (t := t) (ys := ts.map (PV.int .i64)) (xs := ts.map (Value.int .i64)) h.tail ((Below.refl _ w).grown hgr h.below.size fun k hk => by simp at hk; omega) ?_ (by simp [hs, PV.cellsOf]) (by simp; omega) (by rw [hfl]; exact repL_ints F ts) ?_ ?_ hfree
  · refine ⟨by simp [hs]; omega, .inr ⟨g', cap, _, hb, hv, hB, heap_sortedI ts.toArray hh, hnc, hcm, by simp [putCells, hsz], ?_⟩⟩
    have : t.n * t.s = ts.length := by rw [hs]; omega
    rw [this]
    exact take_putCellsI cur ts (by rw [hsz, hs]; omega)
  · intro b o u x
    have hne : b ≠ g' := fun e => by rw [e, hfree g' hb o] at x; cases x
    have hlt := World.block_lt_of_cell? w _ (h.fz b o u x)
    rw [World.cell?_of_block (w := w) (hgr.block b hlt (by simp; omega))]
    exact h.fz b o u x
  · intro e he k hk
    have hne : t.b ≠ some k := by
      rcases hsep.1 e he with hh | hh
      · simp only [Ent.blk] at hh; rw [hh]; simp
      · intro hx; exact hh (by rw [hk]; exact hx)
    have hlt := (Ent.blk_lt (h.ent e (List.mem_cons_of_mem _ he)) hk).2
    exact ⟨hgr.block k hlt (by rw [hb] at hne; exact fun e => hne e.symm), hne⟩
theorem compact_len (l : List Int) : (Lib.compact l).length ≤ l.length := by
  unfold Lib.compact Lib.compactUpTo
  rw [List.length_map]
  exact Nat.le_trans (List.length_filter_le _ _) (by simp)
theorem row_ints {w0 : World} {F : Fz} {M : List Ent} {w : World} {t : Tok} {l : List Int} (h : Sim w0 F (.row t (l.map (PV.int .i64)) :: M) w) (hs : t.s = 1) :
    (l = [] ∧ ∃ p, t.v = .slice p 0 0) ∨ ∃ g cap, t.b = some g ∧ t.v = .slice (some ⟨g, 0, none⟩) l.length cap ∧ Holds (Value.int .i64) w g 0 l.toArray ∧ g < w.heap.size ∧ l.length ≤ cap ∧ t.n = l.length := by
  obtain ⟨⟨xs, hown, hr⟩, hes, e2, hfree⟩ := h.ent _ (List.mem_cons_self ..)
  have hn : l.length = t.n := by simpa using e2
  rcases hown.2 with ⟨h1, h2, h3⟩ | ⟨g, cap, cur, hb, hv, hB, hh, hnc, hcm, hsz, htake⟩
  · refine .inl ⟨List.eq_nil_of_length_eq_zero (by omega), ?_⟩
    rcases h3 with h3 | ⟨a, h3⟩
    · exact ⟨none, h3⟩
    · exact ⟨some a, h3⟩
  · rw [flat_ints] at hr
    have hx := repL_ints_eq hr
    refine .inr ⟨g, cap, hb, by rw [hn]; exact hv, holds_of_blockI (e := t.e) (cur := cur) hh (by rw [← hx, ← htake, hs, hn, Nat.mul_one]), (Array.getElem?_eq_some_iff.1 hh).1, by omega, hn.symm⟩
theorem sort_c (t : Tok) (l : List Int) (hs : t.s = 1) (hl : l.length ≤ 1000000000) :
    ACall Tryz.prog 86 [.ms t] [.row t (l.map (PV.int .i64))] (fun y Γ' => y = .tup [] ∧ Γ' = [.row t ((l.mergeSort fun x y => decide (x ≤ y)).map (PV.int .i64))]) := by
  refine ⟨⟨_, Tryz.func86, rfl, rfl⟩, fun w0 F M w vs hS hT => ?_⟩
  obtain rfl : vs = [t.v] := by
    match vs, hT with
    | [v], hT => simp only [RepT, Rep, and_true] at hT; rw [hT.1]
  rcases row_ints hS hs with ⟨rfl, p, hv⟩ | ⟨g, cap, hb, hv, hH, hg, hc, hn⟩
  · rw [hv]
    refine (Any.slices_Sort_int_none Tryz.lays189 p 0 w).mono ?_
    rintro e w' ⟨rfl, rfl⟩
    exact ⟨_, F, .tup [], _, rfl, Fz.le_refl F, hS, by simp only [Rep]; exact ⟨[], rfl, by simp [RepT]⟩, rfl, by simp⟩
  · rw [hv]
    refine (Any.slices_Sort_int Tryz.lays189 g 0 cap l w hH hg (by omega)).mono ?_
    rintro e w' ⟨rfl, q, os, rfl⟩
    exact ⟨_, F, .tup [], _, rfl, Fz.le_refl F, hS.putInts hs (by simp) hb q os, by simp only [Rep]; exact ⟨[], rfl, by simp [RepT]⟩, rfl, rfl⟩
theorem compact_c (t : Tok) (l : List Int) (hs : t.s = 1) (hl : l.length ≤ 1000000000) :
    ACall Tryz.prog 87 [.ms t] [.row t (l.map (PV.int .i64))] (fun y Γ' => ∃ t' : Tok, t'.e = t.e ∧ t'.s = 1 ∧ y = .ms t' ∧ Γ' = [.row t' ((Lib.compact l).map (PV.int .i64))]) := by
  refine ⟨⟨_, Tryz.func87, rfl, rfl⟩, fun w0 F M w vs hS hT => ?_⟩
  obtain ⟨rfl, h1⟩ : vs = [t.v] ∧ t.v.oneCell' = true := by
    match vs, hT with
    | [v], hT => simp only [RepT, Rep, and_true] at hT; rw [hT.1]; exact ⟨rfl, hT.2⟩
  rcases row_ints hS hs with ⟨rfl, p, hv⟩ | ⟨g, cap, hb, hv, hH, hg, hc, hn⟩
  · rw [hv]
    refine (Any.slices_Compact_int_empty Tryz.laysNm220 p 0 w).mono ?_
    rintro e w' ⟨rfl, rfl⟩
    exact ⟨_, F, .ms t, _, rfl, Fz.le_refl F, hS, by simp only [Rep]; exact ⟨hv.symm, h1⟩, t, rfl, hs, rfl, by simp [Lib.compact, Lib.compactUpTo]⟩
  · rw [hv]
    refine (Any.slices_Compact_int Tryz.laysNm220 g 0 cap l w hH (by omega) hc).mono ?_
    rintro e w' ⟨rfl, q, rfl⟩
    have hle := compact_len l
    have h2 := hS.putInts (ts := Lib.compact l ++ List.replicate (l.length - (Lib.compact l).length) 0) hs (by simp; omega) hb q #[]
    rw [grow_empty] at h2
    have h3 := Sim.take_row (M1 := []) h2 hb (by rw [hn]; exact hv) (Lib.compact l).length (by simp)
    have fin : ∀ T : Tok, T = ⟨.slice (some ⟨g, 0, none⟩) (Lib.compact l).length cap, (Lib.compact l).length, t.s, t.e, some g⟩ → ∃ v F' y Γ', (Ending.returned (.slice (some ⟨g, 0, none⟩) (Lib.compact l).length cap)) = .returned v ∧ F.le F' ∧ Sim w0 F' (Γ' ++ M) (putRow (Value.int .i64) (Sort.ahead w q) g 0 (Lib.compact l ++ List.replicate (l.length - (Lib.compact l).length) 0).toArray) ∧ Rep F' y v ∧ ∃ t' : Tok, t'.e = t.e ∧ t'.s = 1 ∧ y = .ms t' ∧ Γ' = [.row t' ((Lib.compact l).map (PV.int .i64))] := by
      intro T hT
      subst hT
      refine ⟨_, F, .ms ⟨.slice (some ⟨g, 0, none⟩) (Lib.compact l).length cap, (Lib.compact l).length, t.s, t.e, some g⟩, [.row ⟨.slice (some ⟨g, 0, none⟩) (Lib.compact l).length cap, (Lib.compact l).length, t.s, t.e, some g⟩ ((Lib.compact l).map (PV.int .i64))], rfl, Fz.le_refl F, ?_, by unfold Rep; exact ⟨rfl, rfl⟩, ⟨.slice (some ⟨g, 0, none⟩) (Lib.compact l).length cap, (Lib.compact l).length, t.s, t.e, some g⟩, rfl, hs, rfl, rfl⟩
      simpa using h3
    exact fin _ rfl
end Go.Cb
namespace Go.Cb
open Go.Proofs
set_option maxRecDepth 100000
set_option maxHeartbeats 4000000
theorem rising_c (t : Tok) (l : List Int) (hs : t.s = 1) (hl : l.length ≤ 1000000000) :
    ACall Tryz.prog 51 [.ms t] [.row t (l.map (PV.int .i64))] (fun y Γ' => ∃ t' : Tok, t'.e = t.e ∧ t'.s = 1 ∧ y = .ms t' ∧ Γ' = [.row t' ((riseL l).map (PV.int .i64))]) := by
  refine ACall.of_body tt_ok Tryz.func51 rfl rfl (n := 7) rfl rfl ?_
  conv => whnf
  repeat' (first|((first|((first|(apply zY;intro hg)|apply zZ);first|exact stA)|(refine zW ?_ ?_;exact gA)|refine zH rfl ?_|refine zA ?_|refine zI bA ?_|refine zI rfl ?_|refine zJ rfl rfl ?_|refine zB ?_|refine zK rfl ?_|refine zL rfl ?_|refine zC ?_|(refine zO ?_ ?_ ?_;omega;omega)|(refine zP ?_ ?_ ?_;omega;omega)|refine zM rfl ?_|(refine zQ ?_ ?_ ?_;omega;omega)|(refine zR ?_ ?_;omega)|(refine zI ?_ ?_;exact nA)|(refine zS ?_ ?_ ?_;omega;omega)|(refine zT ?_ ?_ ?_;omega;omega)|(refine zU ?_ ?_ ?_;omega;omega)|(refine zV ?_ ?_ ?_;omega;omega)|refine zN rfl rfl rfl ?_|refine zD ?_|refine zE ?_|refine zF ?_|intro _|refine zG ?_);conv=>whnf)|(refine zX (fun hc => ?_) (fun hc => ?_)<;>(try simp only [SY] at hc)<;>first|omega|(conv=>whnf)))
  refine PCall.go (sort_c t l hs hl) (WkT.refl _) ?_
  rintro _ _ ⟨rfl, rfl⟩
  conv => whnf
  repeat' (first|((first|((first|(apply zY;intro hg)|apply zZ);first|exact stA)|(refine zW ?_ ?_;exact gA)|refine zH rfl ?_|refine zA ?_|refine zI bA ?_|refine zI rfl ?_|refine zJ rfl rfl ?_|refine zB ?_|refine zK rfl ?_|refine zL rfl ?_|refine zC ?_|(refine zO ?_ ?_ ?_;omega;omega)|(refine zP ?_ ?_ ?_;omega;omega)|refine zM rfl ?_|(refine zQ ?_ ?_ ?_;omega;omega)|(refine zR ?_ ?_;omega)|(refine zI ?_ ?_;exact nA)|(refine zS ?_ ?_ ?_;omega;omega)|(refine zT ?_ ?_ ?_;omega;omega)|(refine zU ?_ ?_ ?_;omega;omega)|(refine zV ?_ ?_ ?_;omega;omega)|refine zN rfl rfl rfl ?_|refine zD ?_|refine zE ?_|refine zF ?_|intro _|refine zG ?_);conv=>whnf)|(refine zX (fun hc => ?_) (fun hc => ?_)<;>(try simp only [SY] at hc)<;>first|omega|(conv=>whnf)))
  refine PCall.go (compact_c t (l.mergeSort fun x y => decide (x ≤ y)) hs (by simp; omega)) (WkT.refl _) ?_
  rintro _ _ ⟨t2, e2, s2, rfl, rfl⟩
  conv => whnf
  repeat' (first|((first|((first|(apply zY;intro hg)|apply zZ);first|exact stA)|(refine zW ?_ ?_;exact gA)|refine zH rfl ?_|refine zA ?_|refine zI bA ?_|refine zI rfl ?_|refine zJ rfl rfl ?_|refine zB ?_|refine zK rfl ?_|refine zL rfl ?_|refine zC ?_|(refine zO ?_ ?_ ?_;omega;omega)|(refine zP ?_ ?_ ?_;omega;omega)|refine zM rfl ?_|(refine zQ ?_ ?_ ?_;omega;omega)|(refine zR ?_ ?_;omega)|(refine zI ?_ ?_;exact nA)|(refine zS ?_ ?_ ?_;omega;omega)|(refine zT ?_ ?_ ?_;omega;omega)|(refine zU ?_ ?_ ?_;omega;omega)|(refine zV ?_ ?_ ?_;omega;omega)|refine zN rfl rfl rfl ?_|refine zD ?_|refine zE ?_|refine zF ?_|intro _|refine zG ?_);conv=>whnf)|(refine zX (fun hc => ?_) (fun hc => ?_)<;>(try simp only [SY] at hc)<;>first|omega|(conv=>whnf)))
  have e : Lib.compact (l.mergeSort fun x y => decide (x ≤ y)) = riseL l := rfl
  rw [e]
  exact PRet.gen (Wk.refl _) ⟨t2, e2, s2, rfl, rfl⟩
def bindsOf (l : List (Trm × List Int)) : List Int := l.flatMap fun m => m.1.v
theorem free_c0 (t : Trm) (hb : t.bulk ≤ 1000000000) : ACall Tryz.prog 21 [.agg t.cells] [] (fun y Γ' => ∃ tk : Tok, tk.e = 3 ∧ tk.s = 1 ∧ y = .ms tk ∧ Γ' = [.row tk ((riseL (freeOf t.all)).map (PV.int .i64))]) := by
  have hlen : t.all.length ≤ t.bulk := t.met_len [] 0
  refine ACall.of_body tt_ok Tryz.func21 rfl rfl (n := 28) rfl rfl ?_
  conv => whnf
  repeat' (first|((first|((first|(apply zY;intro hg)|apply zZ);first|exact stA)|(refine zW ?_ ?_;exact gA)|refine zH rfl ?_|refine zA ?_|refine zI bA ?_|refine zI rfl ?_|refine zJ rfl rfl ?_|refine zB ?_|refine zK rfl ?_|refine zL rfl ?_|refine zC ?_|(refine zO ?_ ?_ ?_;omega;omega)|(refine zP ?_ ?_ ?_;omega;omega)|refine zM rfl ?_|(refine zQ ?_ ?_ ?_;omega;omega)|(refine zR ?_ ?_;omega)|(refine zI ?_ ?_;exact nA)|(refine zS ?_ ?_ ?_;omega;omega)|(refine zT ?_ ?_ ?_;omega;omega)|(refine zU ?_ ?_ ?_;omega;omega)|(refine zV ?_ ?_ ?_;omega;omega)|refine zN rfl rfl rfl ?_|refine zD ?_|refine zE ?_|refine zF ?_|intro _|refine zG ?_);conv=>whnf)|(refine zX (fun hc => ?_) (fun hc => ?_)<;>(try simp only [SY] at hc)<;>first|omega|(conv=>whnf)))
  rename_i bt bo
  refine PCall.goG (Ghost.trans (Ghost.nilRow 1 3 _) (Ghost.box (b := bo) (cs := [.nil]) (cs' := [.ms (nilTok 1 3)]) (.cons (Wk.nilRow 1 3) .nil))) (all_c t) (WkT.refl _) ?_
  rintro _ _ ⟨b, rfl, rfl⟩
  conv => whnf
  repeat ((first|((first|(apply zY;intro hg)|apply zZ);first|exact stA)|(refine zW ?_ ?_;exact gA)|refine zH rfl ?_|refine zA ?_|refine zI bA ?_|refine zI rfl ?_|refine zJ rfl rfl ?_|refine zB ?_|refine zK rfl ?_|refine zL rfl ?_|refine zC ?_|(refine zO ?_ ?_ ?_;omega;omega)|(refine zP ?_ ?_ ?_;omega;omega)|refine zM rfl ?_|(refine zQ ?_ ?_ ?_;omega;omega)|(refine zR ?_ ?_;omega)|(refine zI ?_ ?_;exact nA)|(refine zS ?_ ?_ ?_;omega;omega)|(refine zT ?_ ?_ ?_;omega;omega)|(refine zU ?_ ?_ ?_;omega;omega)|(refine zV ?_ ?_ ?_;omega;omega)|refine zN rfl rfl rfl ?_|refine zD ?_|refine zE ?_|refine zF ?_|intro _);conv=>whnf)
  refine PRange.go (t.all.map fun m => [metP m]) (fun s : Tok × List Int => [.box bo [.ms s.1], .row s.1 (s.2.map (PV.int .i64))]) (fun k s => s.1.e = 3 ∧ s.1.s = 1 ∧ s.2 = freeOf (t.all.take k)) (fun _ _ => False) (nilTok 1 3, []) (all1_c b t hb) ⟨rfl, rfl, rfl⟩
    (hp := (inferInstance : PickL _ [.box bo [.ms (nilTok 1 3)], .row (nilTok 1 3) [], .box b t.cells] _)) (by intro ys hy; obtain ⟨m, _, rfl⟩ := List.mem_map.1 hy; rfl) ?_ ?_ (fun _ _ _ h => h.elim)
  · rintro k ys ⟨tk, l⟩ hk ⟨k1, k2, k3⟩
    dsimp only at k1 k2 k3 ⊢
    obtain ⟨m, hm, rfl⟩ : ∃ m, t.all[k]? = some m ∧ ys = [metP m] := by
      rw [List.getElem?_map] at hk
      cases h : t.all[k]? with
      | none => rw [h] at hk; cases hk
      | some m => rw [h] at hk; cases hk; exact ⟨m, rfl, rfl⟩
    obtain ⟨hlt, hmg⟩ := List.getElem?_eq_some_iff.1 hm
    have hst : freeOf (t.all.take (k + 1)) = freeOf (t.all.take k) ++ (if (namesB m.1.op && !m.2.contains m.1.n) = true then [m.1.n] else []) := by
      rw [List.take_succ_eq_append_getElem hlt, freeOf, List.filter_append, List.map_append, hmg]
      congr 1
      by_cases h : (namesB m.1.op && !m.2.contains m.1.n) = true
      · rw [if_pos h]; simp only [List.filter, h]; rfl
      · rw [if_neg h]; rw [Bool.not_eq_true] at h; simp only [List.filter, h]; rfl
    have hll : l.length ≤ k := by
      rw [k3, freeOf, List.length_map]
      exact Nat.le_trans (List.length_filter_le _ _) (by rw [List.length_take]; omega)
    conv => whnf
    repeat' (first|((first|((first|(apply zY;intro hg)|apply zZ);first|exact stA|((conv=>whnf);(repeat ((first|(refine zW ?_ ?_;exact gA)|refine pC (names_c m.1) wR ?_|refine pC (names_c m.1) cA ?_|refine pC (containsInt_c m.2 m.1.n) wR ?_|refine pC (containsInt_c m.2 m.1.n) cA ?_|intro _);conv=>whnf));first|exact pS|exact pL|exact pE))|(refine zW ?_ ?_;exact gA)|refine zH rfl ?_|refine zA ?_|refine zI bA ?_|refine zI rfl ?_|refine zJ rfl rfl ?_|refine zB ?_|refine zK rfl ?_|refine zL rfl ?_|refine zC ?_|(refine zO ?_ ?_ ?_;omega;omega)|(refine zP ?_ ?_ ?_;omega;omega)|refine zM rfl ?_|(refine zQ ?_ ?_ ?_;omega;omega)|(refine zR ?_ ?_;omega)|(refine zI ?_ ?_;exact nA)|(refine zS ?_ ?_ ?_;omega;omega)|(refine zT ?_ ?_ ?_;omega;omega)|(refine zU ?_ ?_ ?_;omega;omega)|(refine zV ?_ ?_ ?_;omega;omega)|refine pC (names_c m.1) wR ?_|refine pC (names_c m.1) cA ?_|refine pC (containsInt_c m.2 m.1.n) wR ?_|refine pC (containsInt_c m.2 m.1.n) cA ?_|refine zN rfl rfl rfl ?_|refine zD ?_|refine zE ?_|refine zF ?_|intro _|refine zG ?_);conv=>whnf)|(refine zX (fun hc => ?_) (fun hc => ?_)<;>(try simp only [SY] at hc)<;>first|omega|(conv=>whnf)))
    refine ⟨rfl, ?_⟩
    conv => whnf
    repeat' (first|((first|((first|(apply zY;intro hg)|apply zZ);first|exact stA|((conv=>whnf);(repeat ((first|(refine zW ?_ ?_;exact gA)|refine pC (names_c m.1) wR ?_|refine pC (names_c m.1) cA ?_|refine pC (containsInt_c m.2 m.1.n) wR ?_|refine pC (containsInt_c m.2 m.1.n) cA ?_|intro _);conv=>whnf));first|exact pS|exact pL|exact pE))|(refine zW ?_ ?_;exact gA)|refine zH rfl ?_|refine zA ?_|refine zI bA ?_|refine zI rfl ?_|refine zJ rfl rfl ?_|refine zB ?_|refine zK rfl ?_|refine zL rfl ?_|refine zC ?_|(refine zO ?_ ?_ ?_;omega;omega)|(refine zP ?_ ?_ ?_;omega;omega)|refine zM rfl ?_|(refine zQ ?_ ?_ ?_;omega;omega)|(refine zR ?_ ?_;omega)|(refine zI ?_ ?_;exact nA)|(refine zS ?_ ?_ ?_;omega;omega)|(refine zT ?_ ?_ ?_;omega;omega)|(refine zU ?_ ?_ ?_;omega;omega)|(refine zV ?_ ?_ ?_;omega;omega)|refine pC (names_c m.1) wR ?_|refine pC (names_c m.1) cA ?_|refine pC (containsInt_c m.2 m.1.n) wR ?_|refine pC (containsInt_c m.2 m.1.n) cA ?_|refine zN rfl rfl rfl ?_|refine zD ?_|refine zE ?_|refine zF ?_|intro _|refine zG ?_);conv=>whnf)|(refine zX (fun hc => ?_) (fun hc => ?_)<;>(try simp only [SY] at hc)<;>first|omega|(conv=>whnf)))
    · refine PAppend.rowOne (f := PV.int .i64) (l := l) m.1.n k1 k2 (Wk.tok _ _ _) (by omega) (by show _ * 8 ≤ _; omega) (fun t3 e3 s3 => ?_)
      conv => whnf
      repeat ((first|((first|(apply zY;intro hg)|apply zZ);first|exact stA|((conv=>whnf);(repeat ((first|(refine zW ?_ ?_;exact gA)|refine pC (names_c m.1) wR ?_|refine pC (names_c m.1) cA ?_|refine pC (containsInt_c m.2 m.1.n) wR ?_|refine pC (containsInt_c m.2 m.1.n) cA ?_|intro _);conv=>whnf));first|exact pS|exact pL|exact pE))|(refine zW ?_ ?_;exact gA)|refine zH rfl ?_|refine zA ?_|refine zI bA ?_|refine zI rfl ?_|refine zJ rfl rfl ?_|refine zB ?_|refine zK rfl ?_|refine zL rfl ?_|refine zC ?_|(refine zO ?_ ?_ ?_;omega;omega)|(refine zP ?_ ?_ ?_;omega;omega)|refine zM rfl ?_|(refine zQ ?_ ?_ ?_;omega;omega)|(refine zR ?_ ?_;omega)|(refine zI ?_ ?_;exact nA)|(refine zS ?_ ?_ ?_;omega;omega)|(refine zT ?_ ?_ ?_;omega;omega)|(refine zU ?_ ?_ ?_;omega;omega)|(refine zV ?_ ?_ ?_;omega;omega)|refine pC (names_c m.1) wR ?_|refine pC (names_c m.1) cA ?_|refine pC (containsInt_c m.2 m.1.n) wR ?_|refine pC (containsInt_c m.2 m.1.n) cA ?_|refine zN rfl rfl rfl ?_|refine zD ?_|refine zE ?_|refine zF ?_|intro _);conv=>whnf)
      exact roundEnd (k := k) (G := fun s : Tok × List Int => [.box bo [.ms s.1], .row s.1 (s.2.map (PV.int .i64))]) (I := fun k s => s.1.e = 3 ∧ s.1.s = 1 ∧ s.2 = freeOf (t.all.take k)) (X := fun _ _ => False) (t3, l ++ [m.1.n]) ⟨e3, s3, by show l ++ [m.1.n] = freeOf (t.all.take (k + 1)); rw [hst, if_pos (by rw [Bool.and_eq_true, hc.1, hc.2]; exact ⟨rfl, rfl⟩), k3]⟩ (hp := (inferInstance : PickL _ [.box bo [.ms t3], .row t3 ((l ++ [m.1.n]).map (PV.int .i64))] _))
    · exact roundEnd (k := k) (G := fun s : Tok × List Int => [.box bo [.ms s.1], .row s.1 (s.2.map (PV.int .i64))]) (I := fun k s => s.1.e = 3 ∧ s.1.s = 1 ∧ s.2 = freeOf (t.all.take k)) (X := fun _ _ => False) (tk, l) ⟨k1, k2, by show l = freeOf (t.all.take (k + 1)); rw [hst, if_neg (by rw [Bool.and_eq_true, Bool.not_eq_true']; rintro ⟨a, b⟩; rcases hc with h | h; rw [a] at h; cases h; rw [b] at h; cases h), List.append_nil, k3]⟩ (hp := (inferInstance : PickL _ [.box bo [.ms tk], .row tk (l.map (PV.int .i64))] _))
  · rintro bd ⟨tk, l⟩ ⟨k1, k2, k3⟩
    dsimp only at k1 k2 k3 ⊢
    rw [List.length_map, List.take_length] at k3
    subst k3
    have hfl : (freeOf t.all).length ≤ 1000000000 := by
      rw [freeOf, List.length_map]
      exact Nat.le_trans (List.length_filter_le _ _) (by omega)
    conv => whnf
    repeat' (first|((first|((first|(apply zY;intro hg)|apply zZ);first|exact stA|((conv=>whnf);(repeat ((first|(refine zW ?_ ?_;exact gA)|refine pC (names_c m.1) wR ?_|refine pC (names_c m.1) cA ?_|refine pC (containsInt_c m.2 m.1.n) wR ?_|refine pC (containsInt_c m.2 m.1.n) cA ?_|intro _);conv=>whnf));first|exact pS|exact pL|exact pE))|(refine zW ?_ ?_;exact gA)|refine zH rfl ?_|refine zA ?_|refine zI bA ?_|refine zI rfl ?_|refine zJ rfl rfl ?_|refine zB ?_|refine zK rfl ?_|refine zL rfl ?_|refine zC ?_|(refine zO ?_ ?_ ?_;omega;omega)|(refine zP ?_ ?_ ?_;omega;omega)|refine zM rfl ?_|(refine zQ ?_ ?_ ?_;omega;omega)|(refine zR ?_ ?_;omega)|(refine zI ?_ ?_;exact nA)|(refine zS ?_ ?_ ?_;omega;omega)|(refine zT ?_ ?_ ?_;omega;omega)|(refine zU ?_ ?_ ?_;omega;omega)|(refine zV ?_ ?_ ?_;omega;omega)|refine pC (names_c m.1) wR ?_|refine pC (names_c m.1) cA ?_|refine pC (containsInt_c m.2 m.1.n) wR ?_|refine pC (containsInt_c m.2 m.1.n) cA ?_|refine zN rfl rfl rfl ?_|refine zD ?_|refine zE ?_|refine zF ?_|intro _|refine zG ?_);conv=>whnf)|(refine zX (fun hc => ?_) (fun hc => ?_)<;>(try simp only [SY] at hc)<;>first|omega|(conv=>whnf)))
    refine PCall.goR [.ob bd dfrO [] [], .box bo [.ms tk]] (rising_c tk (freeOf t.all) k2 hfl) (WkT.refl _) (List.Perm.refl _) ?_
    rintro _ _ ⟨t4, e4, s4, rfl, rfl⟩
    conv => whnf
    repeat ((first|((first|(apply zY;intro hg)|apply zZ);first|exact stA|((conv=>whnf);(repeat ((first|(refine zW ?_ ?_;exact gA)|refine pC (names_c m.1) wR ?_|refine pC (names_c m.1) cA ?_|refine pC (containsInt_c m.2 m.1.n) wR ?_|refine pC (containsInt_c m.2 m.1.n) cA ?_|intro _);conv=>whnf));first|exact pS|exact pL|exact pE))|(refine zW ?_ ?_;exact gA)|refine zH rfl ?_|refine zA ?_|refine zI bA ?_|refine zI rfl ?_|refine zJ rfl rfl ?_|refine zB ?_|refine zK rfl ?_|refine zL rfl ?_|refine zC ?_|(refine zO ?_ ?_ ?_;omega;omega)|(refine zP ?_ ?_ ?_;omega;omega)|refine zM rfl ?_|(refine zQ ?_ ?_ ?_;omega;omega)|(refine zR ?_ ?_;omega)|(refine zI ?_ ?_;exact nA)|(refine zS ?_ ?_ ?_;omega;omega)|(refine zT ?_ ?_ ?_;omega;omega)|(refine zU ?_ ?_ ?_;omega;omega)|(refine zV ?_ ?_ ?_;omega;omega)|refine pC (names_c m.1) wR ?_|refine pC (names_c m.1) cA ?_|refine pC (containsInt_c m.2 m.1.n) wR ?_|refine pC (containsInt_c m.2 m.1.n) cA ?_|refine zN rfl rfl rfl ?_|refine zD ?_|refine zE ?_|refine zF ?_|intro _);conv=>whnf)
    refine PMark.at_ rfl ?_
    conv => whnf
    exact PRet.gen (y := .ms t4) (Wk.refl _) ⟨t4, e4.trans k1, s4, rfl, rfl⟩
theorem free_c (t : Trm) (hb : t.bulk ≤ 1000000000) : ACallP Tryz.prog 21 [.agg t.cells] (slI (riseL (freeOf t.all))) :=
  ACallP.of_any ((free_c0 t hb).shift fun y Γ' hq => by
    obtain ⟨tk, h1, h2, rfl, rfl⟩ := hq
    exact ⟨_, _, Shift.freezeRow (es := (riseL (freeOf t.all)).map (PV.int .i64)) (WkF.ms' h2), rfl⟩)
end Go.Cb
namespace Go.Cb
open Go.Proofs
set_option maxRecDepth 100000
set_option maxHeartbeats 4000000
mutual
def Trm.sh (k : Int) : Trm → Trm
  | .mk op n v t => .mk op (if namesB op = true then n + k else n) (v.map (· + k)) (Trm.shs k t)
def Trm.shs (k : Int) : List Trm → List Trm
  | [] => []
  | x :: xs => Trm.sh k x :: Trm.shs k xs
end
theorem Trm.shs_eq (k : Int) : ∀ l : List Trm, Trm.shs k l = l.map (Trm.sh k)
  | [] => rfl
  | x :: l => by rw [Trm.shs, List.map_cons, Trm.shs_eq k l]
theorem Trm.sh_op (k : Int) (t : Trm) : (t.sh k).op = t.op := by cases t; rw [Trm.sh]; rfl
theorem Trm.sh_n (k : Int) (t : Trm) : (t.sh k).n = if namesB t.op = true then t.n + k else t.n := by cases t; rw [Trm.sh]; rfl
theorem Trm.sh_v (k : Int) (t : Trm) : (t.sh k).v = t.v.map (· + k) := by cases t; rw [Trm.sh]; rfl
theorem Trm.sh_t (k : Int) (t : Trm) : (t.sh k).t = t.t.map (Trm.sh k) := by cases t; rw [Trm.sh, ← Trm.shs_eq]; rfl
theorem Trm.sh_cnt (k : Int) (t : Trm) : (t.sh k).cnt = t.cnt := by
  induction t using Trm.ind with
  | h t ih =>
    have : ∀ l : List Trm, (∀ x ∈ l, (x.sh k).cnt = x.cnt) → Trm.cnts (l.map (Trm.sh k)) = Trm.cnts l := by
      intro l
      induction l with
      | nil => intro _; rfl
      | cons y l ihl => intro h; rw [List.map_cons, Trm.cnts, Trm.cnts, h y (by simp), ihl fun x hx => h x (by simp [hx])]
    rw [Trm.cnt_eq, Trm.cnt_eq, Trm.sh_t, this t.t ih]
theorem Trm.sh_vars (k : Int) (t : Trm) : (t.sh k).vars = t.vars.map (· + k) := by
  induction t using Trm.ind with
  | h t ih =>
    have : ∀ l : List Trm, (∀ x ∈ l, (x.sh k).vars = x.vars.map (· + k)) → Trm.varss (l.map (Trm.sh k)) = (Trm.varss l).map (· + k) := by
      intro l
      induction l with
      | nil => intro _; rfl
      | cons y l ihl => intro h; rw [List.map_cons, Trm.varss, Trm.varss, h y (by simp), ihl fun x hx => h x (by simp [hx]), List.map_append]
    rw [Trm.vars_eq, Trm.vars_eq, Trm.sh_t, Trm.sh_v, this t.t ih, List.map_append]
theorem sh_number (k c codes : Int) (free : Bool) (t : Trm) (scope : List Int) (h : numberL c codes free t scope = true) : numberL c codes free (t.sh k) (scope.map (· + k)) = true := by
  unfold numberL at h ⊢
  rw [Trm.sh_op, Trm.sh_n, Trm.sh_v, List.length_map]
  by_cases hn : t.op = 1 ∨ t.op = 2 ∨ t.op = 14
  · rw [if_neg (by omega), if_pos hn] at h ⊢
    have : namesB t.op = true := by simp [namesB]; omega
    rw [if_pos this]
    simp at h ⊢
    exact h
  · have : ¬ namesB t.op = true := by simp [namesB]; omega
    rw [if_neg this, if_neg hn]
    rw [if_neg hn] at h
    exact h
theorem Trm.sh_ok {level c codes : Int} {free : Bool} (k : Int) (t : Trm) : ∀ {scope : List Int} {deep : Int}, t.okT level c codes free scope deep → (t.sh k).okT level c codes free (scope.map (· + k)) deep := by
  induction t using Trm.ind with
  | h t ih =>
    intro scope deep h
    rw [Trm.okT_eq] at h ⊢
    have key : ∀ (op : Int) (sc inner : List Int) (deep : Int) (l : List Trm), (∀ y ∈ l, ∀ {scope : List Int} {deep : Int}, y.okT level c codes free scope deep → (y.sh k).okT level c codes free (scope.map (· + k)) deep) →
        Trm.okTs level c codes free op sc inner l deep → Trm.okTs level c codes free op (sc.map (· + k)) (inner.map (· + k)) (l.map (Trm.sh k)) deep := by
      intro op sc inner deep l
      induction l with
      | nil => intro _ _; simp [Trm.okTs]
      | cons x l ihl =>
        intro hy hk
        rw [Trm.okTs] at hk
        rw [List.map_cons, Trm.okTs, Trm.sh_op]
        have e : l.map (Trm.sh k) = [] ↔ l = [] := by simp
        refine ⟨fun hh => hk.1 ⟨hh.1, fun h2 => hh.2.1 (e.2 h2), hh.2.2⟩, ?_, ihl (fun z hz => hy z (by simp [hz])) hk.2.2⟩
        have h2 := hy x (by simp) hk.2.1
        by_cases h3 : l = [] ∨ op = 7 ∨ op = 9
        · rw [if_pos h3] at h2
          rw [if_pos (h3.imp_left e.2)]
          exact h2
        · rw [if_neg h3] at h2
          rw [if_neg (fun h4 => h3 (h4.imp_left e.1))]
          exact h2
    rw [Trm.sh_op, Trm.sh_v, Trm.sh_t, ← List.map_append]
    refine ⟨⟨h.1.1, h.1.2.1, ?_, sh_number k _ _ _ _ _ h.1.2.2.2⟩, key _ _ _ _ _ ih h.2⟩
    have := h.1.2.2.1
    unfold countsL at this ⊢
    simp only [Trm.sh_op, Trm.sh_v, Trm.sh_t, List.length_map]
    exact this
theorem RightP.sh {p : Prog} {level : Int} (h : RightP p level) (k : Int) (h0 : 0 ≤ k) (hk : ∀ x ∈ p.body.vars, x + k ≤ 1000000) : RightP ⟨p.consts, p.body.sh k⟩ level := by
  obtain ⟨h1, h2, h3, h4, h5⟩ := h
  refine ⟨h1, h2, p.body.sh_ok k h3, by rw [show (⟨p.consts, p.body.sh k⟩ : Prog).body = p.body.sh k from rfl, Trm.sh_cnt]; exact h4, ?_⟩
  show Dist (p.body.sh k).vars []
  rw [Trm.sh_vars]
  refine ⟨fun x hx => ?_, ?_⟩
  · obtain ⟨y, hy, rfl⟩ := List.mem_map.1 hx
    have := h5.1 y hy
    have := hk y hy
    exact ⟨by omega, by omega, by simp⟩
  · exact List.Pairwise.map _ (fun a b hab => by omega) h5.2
end Go.Cb
namespace Go.Cb
open Go.Proofs
set_option maxRecDepth 100000
set_option maxHeartbeats 4000000
mutual
def Trm.asg : Trm → List Int
  | .mk op n _ t => (if op = 2 ∨ op = 14 then [n] else []) ++ Trm.asgs t
def Trm.asgs : List Trm → List Int
  | [] => []
  | x :: xs => Trm.asg x ++ Trm.asgs xs
end
def refT (v : Int) : Trm := .mk 1 v [] []
def boxT (t : Trm) : Trm := .mk 15 0 [] [t]
def lamV (A : Int → Bool) : List Int → Int → List Int
  | [], _ => []
  | x :: xs, k => if A x = true then k :: lamV A xs (k + 1) else x :: lamV A xs k
def lamT (A : Int → Bool) : List Int → Int → List Trm
  | [], _ => []
  | x :: xs, k => if A x = true then boxT (refT k) :: lamT A xs (k + 1) else lamT A xs k
def lamN (A : Int → Bool) (l : List Int) : Int := ((l.filter A).length : Int)
def boxAll (A : Int → Bool) : List Int → List Trm → List Trm
  | v :: vs, x :: xs => (if A v = true then boxT x else x) :: boxAll A vs xs
  | _, l => l
def fixT (A : Int → Bool) : List Int → List Trm → List Trm
  | v :: vs, x :: xs => if A v = true then fixT A vs xs else x :: fixT A vs xs
  | _, _ => []
def fixO (A : Int → Bool) : List Int → List Trm → Trm → Trm
  | v :: vs, x :: xs, o => if A v = true then .mk 6 0 [] [.mk 17 0 [] [refT v, x], fixO A vs xs o] else fixO A vs xs o
  | _, _, o => o
def fixE (A : Int → Bool) (vs : List Int) (l : List Trm) : Trm :=
  let o := fixO A vs l (l.getD vs.length (refT 0))
  if vs.filter (fun v => !A v) = [] then o else .mk 9 0 (vs.filter fun v => !A v) (fixT A vs l ++ [o])
def fixR (A : Int → Bool) (vs : List Int) (l : List Trm) : Trm :=
  .mk 8 0 (vs.filter A) ((vs.filter A).map (fun _ => boxT (.mk 13 0 [] [])) ++ [fixE A vs l])
mutual
def Trm.fr (A : Int → Bool) : Trm → Int
  | .mk op _ v t => (if op = 4 then lamN A v else 0) + Trm.frs A t
def Trm.frs (A : Int → Bool) : List Trm → Int
  | [] => 0
  | x :: xs => Trm.fr A x + Trm.frs A xs
end
mutual
def Trm.cv (A : Int → Bool) : Trm → Int → Trm
  | .mk op n v t, k =>
    if op = 1 ∧ A n = true then .mk 16 0 [] [.mk op n v t]
    else if op = 2 then .mk 17 0 [] (refT n :: Trm.cvs A t k)
    else if op = 14 then .mk 18 0 [] (refT n :: Trm.cvs A t k)
    else if op = 4 then .mk 4 n (lamV A v k) (if v.filter A = [] then Trm.cvs A t (k + lamN A v) else [.mk 8 0 (v.filter A) (lamT A v k ++ Trm.cvs A t (k + lamN A v))])
    else if op = 9 ∧ v.any A = true then fixR A v (Trm.cvs A t k)
    else .mk op n v (if op = 8 then boxAll A v (Trm.cvs A t k) else Trm.cvs A t k)
def Trm.cvs (A : Int → Bool) : List Trm → Int → List Trm
  | [], _ => []
  | x :: xs, k => Trm.cv A x k :: Trm.cvs A xs (k + Trm.fr A x)
end
mutual
def Trm.shp : Trm → Prop
  | .mk op n v t => ((op = 1 → v = [] ∧ t = []) ∧ (op = 2 ∨ op = 14 ∨ op = 4 → t.length = 1) ∧ (op = 8 ∨ op = 9 → t.length = v.length + 1) ∧ (op = 9 → n = 0)) ∧ Trm.shps t
def Trm.shps : List Trm → Prop
  | [] => True
  | x :: xs => Trm.shp x ∧ Trm.shps xs
end
mutual
def Trm.nam : Trm → List Int
  | .mk op n v t => (if op = 1 then [n] else []) ++ v ++ Trm.nams t
def Trm.nams : List Trm → List Int
  | [] => []
  | x :: xs => Trm.nam x ++ Trm.nams xs
end
def Trm.sz (l : List Trm) : Int := Trm.cnts l
theorem Trm.cnts_append : ∀ l m : List Trm, Trm.cnts (l ++ m) = Trm.cnts l + Trm.cnts m
  | [], m => by simp [Trm.cnts]
  | x :: l, m => by rw [List.cons_append, Trm.cnts, Trm.cnts, Trm.cnts_append l m]; omega
theorem boxT_cnt (t : Trm) : (boxT t).cnt = 1 + t.cnt := by rw [boxT, Trm.cnt, Trm.cnts, Trm.cnts]; omega
def Szs : List Trm → List Trm → Prop
  | [], [] => True
  | x :: l, y :: m => x.cnt = y.cnt ∧ Szs l m
  | _, _ => False
theorem Szs.cnts : ∀ {l m : List Trm}, Szs l m → Trm.cnts l = Trm.cnts m
  | [], [], _ => rfl
  | x :: l, y :: m, h => by rw [Trm.cnts, Trm.cnts, h.1, h.2.cnts]
  | [], _ :: _, h => h.elim
  | _ :: _, [], h => h.elim
theorem Szs.getD : ∀ {l m : List Trm} (i : Nat) (d : Trm), Szs l m → (l.getD i d).cnt = (m.getD i d).cnt
  | [], [], _, _, _ => rfl
  | x :: l, y :: m, 0, d, h => by simpa using h.1
  | x :: l, y :: m, i + 1, d, h => by simpa using h.2.getD i d
  | [], _ :: _, _, _, h => h.elim
  | _ :: _, [], _, _, h => h.elim
theorem Szs.boxAll (A : Int → Bool) : ∀ (vs : List Int) {l m : List Trm}, Szs l m → Szs (boxAll A vs l) (boxAll A vs m)
  | [], l, m, h => by simpa [Go.Cb.boxAll] using h
  | _ :: _, [], [], h => by simp [Go.Cb.boxAll, Szs]
  | v :: vs, x :: l, y :: m, h => by
    rw [Go.Cb.boxAll, Go.Cb.boxAll]
    refine ⟨?_, h.2.boxAll A vs⟩
    split
    · rw [boxT_cnt, boxT_cnt, h.1]
    · exact h.1
  | _ :: _, [], _ :: _, h => h.elim
  | _ :: _, _ :: _, [], h => h.elim
theorem Szs.fixT (A : Int → Bool) : ∀ (vs : List Int) {l m : List Trm}, Szs l m → Szs (fixT A vs l) (fixT A vs m)
  | [], l, m, h => by simp [Go.Cb.fixT, Szs]
  | _ :: _, [], [], h => by simp [Go.Cb.fixT, Szs]
  | v :: vs, x :: l, y :: m, h => by
    rw [Go.Cb.fixT, Go.Cb.fixT]
    split
    · exact h.2.fixT A vs
    · exact ⟨h.1, h.2.fixT A vs⟩
  | _ :: _, [], _ :: _, h => h.elim
  | _ :: _, _ :: _, [], h => h.elim
theorem Szs.fixO (A : Int → Bool) : ∀ (vs : List Int) {l m : List Trm} {o u : Trm}, Szs l m → o.cnt = u.cnt → (fixO A vs l o).cnt = (fixO A vs m u).cnt
  | [], l, m, o, u, h, ho => by simpa [Go.Cb.fixO] using ho
  | _ :: _, [], [], o, u, h, ho => by simpa [Go.Cb.fixO] using ho
  | v :: vs, x :: l, y :: m, o, u, h, ho => by
    rw [Go.Cb.fixO, Go.Cb.fixO]
    have ih := h.2.fixO A vs ho
    split
    · simp only [Trm.cnt, Trm.cnts, h.1, ih]
    · exact ih
  | _ :: _, [], _ :: _, _, _, h, _ => h.elim
  | _ :: _, _ :: _, [], _, _, h, _ => h.elim
theorem Szs.fixR (A : Int → Bool) (vs : List Int) {l m : List Trm} (h : Szs l m) : (fixR A vs l).cnt = (fixR A vs m).cnt := by
  have ho := h.fixO A vs (h.getD vs.length (refT 0))
  have ht := (h.fixT A vs).cnts
  unfold Go.Cb.fixR fixE
  simp only
  split
  · simp only [Trm.cnt, Trm.cnts_append, Trm.cnts, ho]
  · simp only [Trm.cnt, Trm.cnts_append, Trm.cnts, ho, ht]
section
variable {A B : Int → Bool} {s : Int} (hAB : ∀ v, B (v + s) = A v)
include hAB
end
end Go.Cb
namespace Go.Cb
open Go.Proofs
set_option maxRecDepth 100000
set_option maxHeartbeats 4000000
mutual
def Trm.uC (P : Int → Int → Bool) : Trm → Int → Int
  | .mk op n _ t, deep => (if P op n = true then 1 else 0) + (if deep < 1000 then Trm.uCs P t (deep + 1) else 0)
def Trm.uCs (P : Int → Int → Bool) : List Trm → Int → Int
  | [], _ => 0
  | x :: xs, deep => Trm.uC P x deep + Trm.uCs P xs deep
end
def putI (l : List Int) (v : Int) : List Int := l.takeWhile (fun x => decide (x < v)) ++ (if (l.dropWhile fun x => decide (x < v)).head? = some v then l.dropWhile (fun x => decide (x < v)) else v :: l.dropWhile fun x => decide (x < v))
mutual
def Trm.bD : Trm → Int → List Int → List Int
  | .mk _ _ v t, deep, out => if deep < 1000 then Trm.bDs t (deep + 1) (v.foldl putI out) else v.foldl putI out
def Trm.bDs : List Trm → Int → List Int → List Int
  | [], _, out => out
  | x :: xs, deep, out => Trm.bDs xs deep (Trm.bD x deep out)
end
end Go.Cb
namespace Go.Cb
open Go.Proofs
set_option maxRecDepth 100000
set_option maxHeartbeats 4000000
structure Nm where
  map : Int → Option Int
  next : Int
def renewN : List Int → Nm → List Int × Nm
  | [], s => ([], s)
  | v :: vs, s =>
    let r := renewN vs ⟨fun k => if k = v then some s.next else s.map k, s.next + 1⟩
    (s.next :: r.1, r.2)
mutual
def Trm.cpy : Trm → Nm → Trm × Nm
  | .mk op n v t, s =>
    let a := renewN v s
    let b := Trm.cpys t a.2
    (.mk op (if op = 1 then (a.2.map n).getD n else n) a.1 b.1, b.2)
def Trm.cpys : List Trm → Nm → List Trm × Nm
  | [], s => ([], s)
  | x :: xs, s =>
    let a := Trm.cpy x s
    let b := Trm.cpys xs a.2
    (a.1 :: b.1, b.2)
end
structure InS where
  next : Int
  budget : Int
  effort : Int
  known : Int → Option Trm
def szI (t : Trm) : Int := (t.all.length : Int)
def firstT (t : Trm) : Trm := t.t.headD (.mk 0 0 [] [])
def calledI (small : Int) (t : Trm) (s : InS) : Option Trm :=
  if t.op = 5 ∧ (firstT t).op = 1 then
    match s.known (firstT t).n with
    | some lam => if lam.op = 4 ∧ lam.n = 0 ∧ lam.v.length + 1 = t.t.length ∧ szI (firstT lam) ≤ small ∧ szI (firstT lam) ≤ s.budget then some lam else none
    | none => none
  else none
def learnI : Int → List Int → List Trm → InS → InS
  | op, v :: vs, x :: xs, s => learnI op vs xs (if op = 9 ∨ op = 8 ∧ x.op = 4 then { s with known := fun k => if k = v then some x else s.known k } else s)
  | _, _, _, s => s
mutual
def Trm.thr (small : Int) : Trm → InS → Trm × InS
  | .mk op n v t, s =>
    if s.effort = 0 then (.mk op n v t, s) else
    match calledI small (.mk op n v t) { s with effort := s.effort - 1 } with
    | some lam =>
      match t with
      | [] => (.mk op n v t, s)
      | _ :: xs =>
        let a := Trm.thrs small xs { s with effort := s.effort - 1, budget := s.budget - szI (firstT lam) }
        let b := renewN lam.v ⟨fun _ => none, a.2.next⟩
        let c := (firstT lam).cpy b.2
        (.mk 8 0 b.1 (a.1 ++ [c.1]), { a.2 with next := c.2.next })
    | none =>
      if op = 9 then
        let a := Trm.thrs small t (learnI op v t { s with effort := s.effort - 1 })
        (.mk op n v a.1, a.2)
      else
        let a := Trm.thrL small (learnI op v t) t { s with effort := s.effort - 1 }
        (.mk op n v a.1, a.2)
def Trm.thrs (small : Int) : List Trm → InS → List Trm × InS
  | [], s => ([], s)
  | x :: xs, s =>
    let a := Trm.thr small x s
    let b := Trm.thrs small xs a.2
    (a.1 :: b.1, b.2)
def Trm.thrL (small : Int) (lrn : InS → InS) : List Trm → InS → List Trm × InS
  | [], s => ([], lrn s)
  | x :: xs, s =>
    if xs = [] then
      let a := Trm.thr small x (lrn s)
      ([a.1], a.2)
    else
      let a := Trm.thr small x s
      let b := Trm.thrL small lrn xs a.2
      (a.1 :: b.1, b.2)
end
end Go.Cb
namespace Go.Cb
open Go.Proofs
set_option maxRecDepth 100000
set_option maxHeartbeats 4000000
def Nm.sh (k : Int) (s : Nm) : Nm := ⟨fun w => (s.map (w - k)).map (· + k), s.next + k⟩
def InS.sh (k : Int) (s : InS) : InS := ⟨s.next + k, s.budget, s.effort, fun w => (s.known (w - k)).map (Trm.sh k)⟩
end Go.Cb
namespace Go.Cb
open Go.Proofs
set_option maxRecDepth 100000
set_option maxHeartbeats 4000000
theorem Trm.bulks_append : ∀ l m : List Trm, Trm.bulks (l ++ m) = Trm.bulks l + Trm.bulks m
  | [], m => by simp [Trm.bulks]
  | x :: l, m => by rw [List.cons_append, Trm.bulks, Trm.bulks, Trm.bulks_append l m]; omega
end Go.Cb

