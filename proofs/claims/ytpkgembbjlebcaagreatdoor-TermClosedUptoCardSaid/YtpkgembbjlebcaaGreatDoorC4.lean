/-
  Contracts: how many.
  Contracts: data, the document's.
  Contracts: the document's check of terms.
  Contracts: the program's check of terms, the small functions.
  Drawn regions in two stages: stable operations, a chain, stable operations, a chain.
  Contracts: package slices: Grow, Concat, Index, Contains, of numbers.
  Calls among entries that end in entries unknown.
  Contracts: all terms of a term, one by one.
  Contracts: how many terms.
  Contracts: what is sorted already: one number.
  Contracts: what is named and not bound: one variable.
  Contracts: the program's check of terms: variables are bound.
  Contracts: package slices with functions that change what they hold.
  Contracts: the program's check of terms: what is done at the end.
-/
import Derived.Test.YtpkgembbjlebcaaGreatDoorC3
set_option linter.unusedSimpArgs false
set_option linter.unusedVariables false
namespace Go.Cb
open Go.Proofs
set_option maxRecDepth 100000
set_option maxHeartbeats 4000000
theorem fewDatum_c (d : Datum) : ∀ left : Int, 0 ≤ left → left ≤ 1000000000 → ACallP Tryz.prog 47 [.agg d.cells, .int .i64 left] (.int .i64 (d.few left)) := by
  induction d using Datum.ind with
  | h d ih =>
    intro left h0 h1
    refine ACall.of_body tt_ok Tryz.func47 rfl rfl (n := 27) rfl rfl ?_
    conv => whnf
    repeat ((first | ((first | (apply zY;intro hg) | apply zZ);exact stA) | (refine zW ?_ ?_;exact gA) | refine zH rfl ?_ | refine zA ?_ | refine zI bA ?_ | refine zI rfl ?_ | refine zJ rfl rfl ?_ | refine zB ?_ | refine zK rfl ?_ | refine zL rfl ?_ | refine zC ?_ | (refine zO ?_ ?_ ?_;omega;omega) | (refine zP ?_ ?_ ?_;omega;omega) | refine zM rfl ?_ | (refine zQ ?_ ?_ ?_;omega;omega) | (refine zR ?_ ?_;omega) | (refine zI ?_ ?_;exact nA) | (refine zS ?_ ?_ ?_;omega;omega) | (refine zT ?_ ?_ ?_;omega;omega) | (refine zU ?_ ?_ ?_;omega;omega) | (refine zV ?_ ?_ ?_;omega;omega) | refine zN rfl rfl rfl ?_ | refine zD ?_ | refine zE ?_ | refine zF ?_ | intro _);conv=>whnf)
    refine PLoop.keep [1, 5, 8, 9, 10, 11, 12, 13, 14, 15, 16, 17, 18, 19, 20, 21, 22, 23, 24, 25] (fun (x : Nat × Int) => [(1, .int .i64 x.2), (5, .int .i64 x.1)]) (fun x => x.1 ≤ d.l.length ∧ -1 ≤ x.2 ∧ x.2 < left ∧ Datum.fews (d.l.drop x.1) x.2 = Datum.fews d.l (left - 1)) (fun x => d.l.length - x.1) (0, left - 1) ⟨by simp, by simp only; omega, by simp only; omega, rfl⟩ wA ?_
    rintro ⟨i, n⟩ ⟨hi, h2, h3, hf⟩
    simp only at hi h2 h3 hf
    have hbd := fun (x : Datum) (h : 0 ≤ n) => x.few_bd n h
    conv => whnf
    repeat' (first | ((first | ((first | (apply zY;intro hg) | apply zZ);focus ((conv=>whnf);(repeat ((first | (refine zW ?_ ?_;exact gA) | refine zH rfl ?_ | refine zA ?_ | refine zI bA ?_ | refine zI rfl ?_ | refine zJ rfl rfl ?_ | refine zB ?_ | refine zK rfl ?_ | refine zL rfl ?_ | refine zC ?_ | (refine zO ?_ ?_ ?_;exact OA;exact OA) | (refine zP ?_ ?_ ?_;exact OA;exact OA) | refine zM rfl ?_ | (refine zQ ?_ ?_ ?_;exact OA;exact OA) | (refine zR ?_ ?_;exact OA) | (refine zI ?_ ?_;exact NA) | (refine zS ?_ ?_ ?_;exact OA;exact OA) | (refine zT ?_ ?_ ?_;exact OA;exact OA) | (refine zU ?_ ?_ ?_;exact OA;exact OA) | (refine zV ?_ ?_ ?_;exact OA;exact OA) | refine PCall.pure (ih _ (List.getElem_mem _) _ OA OA) (WkT.refl _) ?_ | refine PCall.pure (ih _ (List.getElem_mem _) _ OA OA) cA ?_ | intro _);conv=>whnf));first | exact PShift.same | exact PShift.lit | exact PShift.ep)) | (refine zW ?_ ?_;exact gA) | refine zH rfl ?_ | refine zA ?_ | refine zI bA ?_ | refine zI rfl ?_ | refine zJ rfl rfl ?_ | refine zB ?_ | refine zK rfl ?_ | refine zL rfl ?_ | refine zC ?_ | (refine zO ?_ ?_ ?_;omega;omega) | (refine zP ?_ ?_ ?_;omega;omega) | refine zM rfl ?_ | (refine zQ ?_ ?_ ?_;omega;omega) | (refine zR ?_ ?_;omega) | (refine zI ?_ ?_;exact nA) | (refine zS ?_ ?_ ?_;omega;omega) | (refine zT ?_ ?_ ?_;omega;omega) | (refine zU ?_ ?_ ?_;omega;omega) | (refine zV ?_ ?_ ?_;omega;omega) | refine PCall.pure (ih _ (List.getElem_mem _) _ OA OA) (WkT.refl _) ?_ | refine PCall.pure (ih _ (List.getElem_mem _) _ OA OA) cA ?_ | refine zN rfl rfl rfl ?_ | refine zD ?_ | refine zE ?_ | refine zF ?_ | intro _ | refine zG ?_);conv=>whnf) | (refine zX (fun hc => ?_) (fun hc => ?_)<;>(try simp only [SY] at hc)<;>first | omega | (conv=>whnf)))
    · rw [drop_at (show i < d.l.length by omega), Datum.fews, if_pos (by omega)] at hf
      have hx := hbd d.l[i] (by omega)
      exact loopTo (i + 1, d.l[i].few n) ⟨by simp only; omega, by simp only; omega, by simp only; omega, hf⟩ (by show d.l.length - (i + 1) < d.l.length - i; omega) wA
    · refine PRet.pure (Wk.int ?_)
      rw [Datum.few_eq, ← hf]
      rcases Nat.lt_or_ge i d.l.length with h | h
      · rw [drop_at h, Datum.fews, if_neg (by omega)]
      · rw [List.drop_of_length_le h, Datum.fews]
theorem fewTrm_c (d : Trm) : ∀ left : Int, 0 ≤ left → left ≤ 1000000000 → ACallP Tryz.prog 62 [.agg d.cells, .int .i64 left] (.int .i64 (d.few left)) := by
  induction d using Trm.ind with
  | h d ih =>
    intro left h0 h1
    refine ACall.of_body tt_ok Tryz.func62 rfl rfl (n := 27) rfl rfl ?_
    conv => whnf
    repeat ((first | ((first | (apply zY;intro hg) | apply zZ);focus ((conv=>whnf);(repeat ((first | (refine zW ?_ ?_;exact gA) | refine zH rfl ?_ | refine zA ?_ | refine zI bA ?_ | refine zI rfl ?_ | refine zJ rfl rfl ?_ | refine zB ?_ | refine zK rfl ?_ | refine zL rfl ?_ | refine zC ?_ | (refine zO ?_ ?_ ?_;exact OA;exact OA) | (refine zP ?_ ?_ ?_;exact OA;exact OA) | refine zM rfl ?_ | (refine zQ ?_ ?_ ?_;exact OA;exact OA) | (refine zR ?_ ?_;exact OA) | (refine zI ?_ ?_;exact NA) | (refine zS ?_ ?_ ?_;exact OA;exact OA) | (refine zT ?_ ?_ ?_;exact OA;exact OA) | (refine zU ?_ ?_ ?_;exact OA;exact OA) | (refine zV ?_ ?_ ?_;exact OA;exact OA) | refine PCall.pure (ih _ (List.getElem_mem _) _ OA OA) (WkT.refl _) ?_ | refine PCall.pure (ih _ (List.getElem_mem _) _ OA OA) cA ?_ | intro _);conv=>whnf));first | exact PShift.same | exact PShift.lit | exact PShift.ep)) | (refine zW ?_ ?_;exact gA) | refine zH rfl ?_ | refine zA ?_ | refine zI bA ?_ | refine zI rfl ?_ | refine zJ rfl rfl ?_ | refine zB ?_ | refine zK rfl ?_ | refine zL rfl ?_ | refine zC ?_ | (refine zO ?_ ?_ ?_;omega;omega) | (refine zP ?_ ?_ ?_;omega;omega) | refine zM rfl ?_ | (refine zQ ?_ ?_ ?_;omega;omega) | (refine zR ?_ ?_;omega) | (refine zI ?_ ?_;exact nA) | (refine zS ?_ ?_ ?_;omega;omega) | (refine zT ?_ ?_ ?_;omega;omega) | (refine zU ?_ ?_ ?_;omega;omega) | (refine zV ?_ ?_ ?_;omega;omega) | refine PCall.pure (ih _ (List.getElem_mem _) _ OA OA) (WkT.refl _) ?_ | refine PCall.pure (ih _ (List.getElem_mem _) _ OA OA) cA ?_ | refine zN rfl rfl rfl ?_ | refine zD ?_ | refine zE ?_ | refine zF ?_ | intro _);conv=>whnf)
    refine PLoop.keep [1, 5, 8, 9, 10, 11, 12, 13, 14, 15, 16, 17, 18, 19, 20, 21, 22, 23, 24, 25] (fun (x : Nat × Int) => [(1, .int .i64 x.2), (5, .int .i64 x.1)]) (fun x => x.1 ≤ d.t.length ∧ -1 ≤ x.2 ∧ x.2 < left ∧ Trm.fews (d.t.drop x.1) x.2 = Trm.fews d.t (left - 1)) (fun x => d.t.length - x.1) (0, left - 1) ⟨by simp, by simp only; omega, by simp only; omega, rfl⟩ wA ?_
    rintro ⟨i, n⟩ ⟨hi, h2, h3, hf⟩
    simp only at hi h2 h3 hf
    have hbd := fun (x : Trm) (h : 0 ≤ n) => x.few_bd n h
    conv => whnf
    repeat' (first | ((first | ((first | (apply zY;intro hg) | apply zZ);focus ((conv=>whnf);(repeat ((first | (refine zW ?_ ?_;exact gA) | refine zH rfl ?_ | refine zA ?_ | refine zI bA ?_ | refine zI rfl ?_ | refine zJ rfl rfl ?_ | refine zB ?_ | refine zK rfl ?_ | refine zL rfl ?_ | refine zC ?_ | (refine zO ?_ ?_ ?_;exact OA;exact OA) | (refine zP ?_ ?_ ?_;exact OA;exact OA) | refine zM rfl ?_ | (refine zQ ?_ ?_ ?_;exact OA;exact OA) | (refine zR ?_ ?_;exact OA) | (refine zI ?_ ?_;exact NA) | (refine zS ?_ ?_ ?_;exact OA;exact OA) | (refine zT ?_ ?_ ?_;exact OA;exact OA) | (refine zU ?_ ?_ ?_;exact OA;exact OA) | (refine zV ?_ ?_ ?_;exact OA;exact OA) | refine PCall.pure (ih _ (List.getElem_mem _) _ OA OA) (WkT.refl _) ?_ | refine PCall.pure (ih _ (List.getElem_mem _) _ OA OA) cA ?_ | intro _);conv=>whnf));first | exact PShift.same | exact PShift.lit | exact PShift.ep)) | (refine zW ?_ ?_;exact gA) | refine zH rfl ?_ | refine zA ?_ | refine zI bA ?_ | refine zI rfl ?_ | refine zJ rfl rfl ?_ | refine zB ?_ | refine zK rfl ?_ | refine zL rfl ?_ | refine zC ?_ | (refine zO ?_ ?_ ?_;omega;omega) | (refine zP ?_ ?_ ?_;omega;omega) | refine zM rfl ?_ | (refine zQ ?_ ?_ ?_;omega;omega) | (refine zR ?_ ?_;omega) | (refine zI ?_ ?_;exact nA) | (refine zS ?_ ?_ ?_;omega;omega) | (refine zT ?_ ?_ ?_;omega;omega) | (refine zU ?_ ?_ ?_;omega;omega) | (refine zV ?_ ?_ ?_;omega;omega) | refine PCall.pure (ih _ (List.getElem_mem _) _ OA OA) (WkT.refl _) ?_ | refine PCall.pure (ih _ (List.getElem_mem _) _ OA OA) cA ?_ | refine zN rfl rfl rfl ?_ | refine zD ?_ | refine zE ?_ | refine zF ?_ | intro _ | refine zG ?_);conv=>whnf) | (refine zX (fun hc => ?_) (fun hc => ?_)<;>(try simp only [SY] at hc)<;>first | omega | (conv=>whnf)))
    · rw [drop_at (show i < d.t.length by omega), Trm.fews, if_pos (by omega)] at hf
      have hx := hbd d.t[i] (by omega)
      exact loopTo (i + 1, d.t[i].few n) ⟨by simp only; omega, by simp only; omega, by simp only; omega, hf⟩ (by show d.t.length - (i + 1) < d.t.length - i; omega) wA
    · refine PRet.pure (Wk.int ?_)
      rw [Trm.few_eq, ← hf]
      rcases Nat.lt_or_ge i d.t.length with h | h
      · rw [drop_at h, Trm.fews, if_neg (by omega)]
      · rw [List.drop_of_length_le h, Trm.fews]
theorem FewTrm_c (d : Trm) (n : Int) (h0 : 0 ≤ n) (h1 : n ≤ 1000000000) : ACallP Tryz.prog 30 [.agg d.cells, .int .i64 n] (.bool (decide (0 ≤ d.few n))) := by
  refine ACall.of_body tt_ok Tryz.func30 rfl rfl (n := 9) rfl rfl ?_
  conv => whnf
  repeat ((first | ((first | (apply zY;intro hg) | apply zZ);focus ((conv=>whnf);(repeat ((first | (refine zW ?_ ?_;exact gA) | refine zH rfl ?_ | refine zA ?_ | refine zI bA ?_ | refine zI rfl ?_ | refine zJ rfl rfl ?_ | refine zB ?_ | refine zK rfl ?_ | refine zL rfl ?_ | refine zC ?_ | (refine zO ?_ ?_ ?_;exact OA;exact OA) | (refine zP ?_ ?_ ?_;exact OA;exact OA) | refine zM rfl ?_ | (refine zQ ?_ ?_ ?_;exact OA;exact OA) | (refine zR ?_ ?_;exact OA) | (refine zI ?_ ?_;exact NA) | (refine zS ?_ ?_ ?_;exact OA;exact OA) | (refine zT ?_ ?_ ?_;exact OA;exact OA) | (refine zU ?_ ?_ ?_;exact OA;exact OA) | (refine zV ?_ ?_ ?_;exact OA;exact OA) | refine PCall.pure (fewTrm_c d n h0 h1) (WkT.refl _) ?_ | refine PCall.pure (fewTrm_c d n h0 h1) cA ?_ | intro _);conv=>whnf));first | exact PShift.same | exact PShift.lit | exact PShift.ep)) | (refine zW ?_ ?_;exact gA) | refine zH rfl ?_ | refine zA ?_ | refine zI bA ?_ | refine zI rfl ?_ | refine zJ rfl rfl ?_ | refine zB ?_ | refine zK rfl ?_ | refine zL rfl ?_ | refine zC ?_ | (refine zO ?_ ?_ ?_;omega;omega) | (refine zP ?_ ?_ ?_;omega;omega) | refine zM rfl ?_ | (refine zQ ?_ ?_ ?_;omega;omega) | (refine zR ?_ ?_;omega) | (refine zI ?_ ?_;exact nA) | (refine zS ?_ ?_ ?_;omega;omega) | (refine zT ?_ ?_ ?_;omega;omega) | (refine zU ?_ ?_ ?_;omega;omega) | (refine zV ?_ ?_ ?_;omega;omega) | refine PCall.pure (fewTrm_c d n h0 h1) (WkT.refl _) ?_ | refine PCall.pure (fewTrm_c d n h0 h1) cA ?_ | refine zN rfl rfl rfl ?_ | refine zD ?_ | refine zE ?_ | refine zF ?_ | intro _);conv=>whnf)
  exact PRet.pure (Wk.refl _)
theorem FewAll_c (l : List Datum) (n : Int) (h0 : 0 ≤ n) (h1 : n ≤ 1000000000) : ACallP Tryz.prog 17 [.sl 5 (l.map Datum.pv) none, .int .i64 n] (.bool (decide (0 ≤ Datum.fews l n))) := by
  refine ACall.of_body tt_ok Tryz.func17 rfl rfl (n := 24) rfl rfl ?_
  conv => whnf
  repeat ((first | ((first | (apply zY;intro hg) | apply zZ);focus ((conv=>whnf);(repeat ((first | (refine zW ?_ ?_;exact gA) | refine zH rfl ?_ | refine zA ?_ | refine zI bA ?_ | refine zI rfl ?_ | refine zJ rfl rfl ?_ | refine zB ?_ | refine zK rfl ?_ | refine zL rfl ?_ | refine zC ?_ | (refine zO ?_ ?_ ?_;exact OA;exact OA) | (refine zP ?_ ?_ ?_;exact OA;exact OA) | refine zM rfl ?_ | (refine zQ ?_ ?_ ?_;exact OA;exact OA) | (refine zR ?_ ?_;exact OA) | (refine zI ?_ ?_;exact NA) | (refine zS ?_ ?_ ?_;exact OA;exact OA) | (refine zT ?_ ?_ ?_;exact OA;exact OA) | (refine zU ?_ ?_ ?_;exact OA;exact OA) | (refine zV ?_ ?_ ?_;exact OA;exact OA) | refine PCall.pure (fewTrm_c d n h0 h1) (WkT.refl _) ?_ | refine PCall.pure (fewTrm_c d n h0 h1) cA ?_ | intro _);conv=>whnf));first | exact PShift.same | exact PShift.lit | exact PShift.ep)) | (refine zW ?_ ?_;exact gA) | refine zH rfl ?_ | refine zA ?_ | refine zI bA ?_ | refine zI rfl ?_ | refine zJ rfl rfl ?_ | refine zB ?_ | refine zK rfl ?_ | refine zL rfl ?_ | refine zC ?_ | (refine zO ?_ ?_ ?_;omega;omega) | (refine zP ?_ ?_ ?_;omega;omega) | refine zM rfl ?_ | (refine zQ ?_ ?_ ?_;omega;omega) | (refine zR ?_ ?_;omega) | (refine zI ?_ ?_;exact nA) | (refine zS ?_ ?_ ?_;omega;omega) | (refine zT ?_ ?_ ?_;omega;omega) | (refine zU ?_ ?_ ?_;omega;omega) | (refine zV ?_ ?_ ?_;omega;omega) | refine PCall.pure (fewTrm_c d n h0 h1) (WkT.refl _) ?_ | refine PCall.pure (fewTrm_c d n h0 h1) cA ?_ | refine zN rfl rfl rfl ?_ | refine zD ?_ | refine zE ?_ | refine zF ?_ | intro _);conv=>whnf)
  refine PLoop.keep [1, 5, 6, 7, 8, 9, 10, 11, 12, 13, 14, 15, 16, 17, 18, 19, 20, 21] (fun (x : Nat × Int) => [(1, .int .i64 x.2), (5, .int .i64 x.1)]) (fun x => x.1 ≤ l.length ∧ -1 ≤ x.2 ∧ x.2 ≤ n ∧ Datum.fews (l.drop x.1) x.2 = Datum.fews l n) (fun x => l.length - x.1) (0, n) ⟨by simp, by simp only; omega, by simp only; omega, rfl⟩ wA ?_
  rintro ⟨i, m⟩ ⟨hi, h2, h3, hf⟩
  simp only at hi h2 h3 hf
  have hbd := fun (x : Datum) (h : 0 ≤ m) => x.few_bd m h
  conv => whnf
  repeat' (first | ((first | ((first | (apply zY;intro hg) | apply zZ);focus ((conv=>whnf);(repeat ((first | (refine zW ?_ ?_;exact gA) | refine zH rfl ?_ | refine zA ?_ | refine zI bA ?_ | refine zI rfl ?_ | refine zJ rfl rfl ?_ | refine zB ?_ | refine zK rfl ?_ | refine zL rfl ?_ | refine zC ?_ | (refine zO ?_ ?_ ?_;exact OA;exact OA) | (refine zP ?_ ?_ ?_;exact OA;exact OA) | refine zM rfl ?_ | (refine zQ ?_ ?_ ?_;exact OA;exact OA) | (refine zR ?_ ?_;exact OA) | (refine zI ?_ ?_;exact NA) | (refine zS ?_ ?_ ?_;exact OA;exact OA) | (refine zT ?_ ?_ ?_;exact OA;exact OA) | (refine zU ?_ ?_ ?_;exact OA;exact OA) | (refine zV ?_ ?_ ?_;exact OA;exact OA) | refine PCall.pure (fewDatum_c _ _ OA OA) (WkT.refl _) ?_ | refine PCall.pure (fewDatum_c _ _ OA OA) cA ?_ | intro _);conv=>whnf));first | exact PShift.same | exact PShift.lit | exact PShift.ep)) | (refine zW ?_ ?_;exact gA) | refine zH rfl ?_ | refine zA ?_ | refine zI bA ?_ | refine zI rfl ?_ | refine zJ rfl rfl ?_ | refine zB ?_ | refine zK rfl ?_ | refine zL rfl ?_ | refine zC ?_ | (refine zO ?_ ?_ ?_;omega;omega) | (refine zP ?_ ?_ ?_;omega;omega) | refine zM rfl ?_ | (refine zQ ?_ ?_ ?_;omega;omega) | (refine zR ?_ ?_;omega) | (refine zI ?_ ?_;exact nA) | (refine zS ?_ ?_ ?_;omega;omega) | (refine zT ?_ ?_ ?_;omega;omega) | (refine zU ?_ ?_ ?_;omega;omega) | (refine zV ?_ ?_ ?_;omega;omega) | refine PCall.pure (fewDatum_c _ _ OA OA) (WkT.refl _) ?_ | refine PCall.pure (fewDatum_c _ _ OA OA) cA ?_ | refine zN rfl rfl rfl ?_ | refine zD ?_ | refine zE ?_ | refine zF ?_ | intro _ | refine zG ?_);conv=>whnf) | (refine zX (fun hc => ?_) (fun hc => ?_)<;>(try simp only [SY] at hc)<;>first | omega | (conv=>whnf)))
  · rw [drop_at (show i < l.length by omega), Datum.fews, if_pos (by omega)] at hf
    have hx := hbd l[i] (by omega)
    exact loopTo (i + 1, l[i].few m) ⟨by simp only; omega, by simp only; omega, by simp only; omega, hf⟩ (by show l.length - (i + 1) < l.length - i; omega) wA
  · refine PRet.pure (Wk.bool ?_)
    rw [← hf]
    rcases Nat.lt_or_ge i l.length with h | h
    · rw [drop_at h, Datum.fews, if_neg (by omega)]
    · rw [List.drop_of_length_le h, Datum.fews]
end Go.Cb
namespace Go.Cb
open Go.Proofs
set_option maxRecDepth 100000
set_option maxHeartbeats 4000000
def marksL : List UInt8 := [45, 43, 42, 47, 60, 62, 61, 33, 63, 95, 37]
def baseB (c : UInt8) : Bool := decide ((c.toNat : Int) ≥ 97) && decide ((c.toNat : Int) ≤ 122) || decide ((c.toNat : Int) ≥ 48) && decide ((c.toNat : Int) ≤ 57)
def markB (c : UInt8) : Bool := baseB c || marksL.contains c
def nameB (s : List UInt8) : Bool := decide (1 ≤ s.length) && (decide (s.length ≤ 40) && (s.all markB && !(parseN s).2.2))
theorem name1_c (s : List UInt8) : ACallP Tryz.prog 185 [.str s] (.bool (nameB s)) := by
  refine ACall.of_body tt_ok Tryz.func185 rfl rfl (n := 72) rfl rfl ?_
  conv => whnf
  repeat ((first | ((first | (apply zY;intro hg) | apply zZ);focus ((conv=>whnf);(repeat ((first | (refine zW ?_ ?_;exact gA) | refine zH rfl ?_ | refine zA ?_ | refine zI bA ?_ | refine zI rfl ?_ | refine zJ rfl rfl ?_ | refine zB ?_ | refine zK rfl ?_ | refine zL rfl ?_ | refine zC ?_ | (refine zO ?_ ?_ ?_;exact OA;exact OA) | (refine zP ?_ ?_ ?_;exact OA;exact OA) | refine zM rfl ?_ | (refine zQ ?_ ?_ ?_;exact OA;exact OA) | (refine zR ?_ ?_;exact OA) | (refine zI ?_ ?_;exact NA) | (refine zS ?_ ?_ ?_;exact OA;exact OA) | (refine zT ?_ ?_ ?_;exact OA;exact OA) | (refine zU ?_ ?_ ?_;exact OA;exact OA) | (refine zV ?_ ?_ ?_;exact OA;exact OA) | refine PCall.pure (parse1_c s) (WkT.refl _) ?_ | refine PCall.pure (parse1_c s) cA ?_ | intro _);conv=>whnf));first | exact PShift.same | exact PShift.lit | exact PShift.ep)) | (refine zW ?_ ?_;exact gA) | refine zH rfl ?_ | refine zA ?_ | refine zI bA ?_ | refine zI rfl ?_ | refine zJ rfl rfl ?_ | refine zB ?_ | refine zK rfl ?_ | refine zL rfl ?_ | refine zC ?_ | (refine zO ?_ ?_ ?_;omega;omega) | (refine zP ?_ ?_ ?_;omega;omega) | refine zM rfl ?_ | (refine zQ ?_ ?_ ?_;omega;omega) | (refine zR ?_ ?_;omega) | (refine zI ?_ ?_;exact nA) | (refine zS ?_ ?_ ?_;omega;omega) | (refine zT ?_ ?_ ?_;omega;omega) | (refine zU ?_ ?_ ?_;omega;omega) | (refine zV ?_ ?_ ?_;omega;omega) | refine PCall.pure (parse1_c s) (WkT.refl _) ?_ | refine PCall.pure (parse1_c s) cA ?_ | refine zN rfl rfl rfl ?_ | refine zD ?_ | refine zE ?_ | refine zF ?_ | refine PDraw.sP (some 52) rfl [] [] tt_ok mixed ?_ | intro _);conv=>whnf)
  conv => whnf
  repeat' (first | ((first | ((first | (apply zY;intro hg) | apply zZ);focus ((conv=>whnf);(repeat ((first | (refine zW ?_ ?_;exact gA) | refine zH rfl ?_ | refine zA ?_ | refine zI bA ?_ | refine zI rfl ?_ | refine zJ rfl rfl ?_ | refine zB ?_ | refine zK rfl ?_ | refine zL rfl ?_ | refine zC ?_ | (refine zO ?_ ?_ ?_;exact OA;exact OA) | (refine zP ?_ ?_ ?_;exact OA;exact OA) | refine zM rfl ?_ | (refine zQ ?_ ?_ ?_;exact OA;exact OA) | (refine zR ?_ ?_;exact OA) | (refine zI ?_ ?_;exact NA) | (refine zS ?_ ?_ ?_;exact OA;exact OA) | (refine zT ?_ ?_ ?_;exact OA;exact OA) | (refine zU ?_ ?_ ?_;exact OA;exact OA) | (refine zV ?_ ?_ ?_;exact OA;exact OA) | refine PCall.pure (parse1_c s) (WkT.refl _) ?_ | refine PCall.pure (parse1_c s) cA ?_ | intro _);conv=>whnf));first | exact PShift.same | exact PShift.lit | exact PShift.ep)) | (refine zW ?_ ?_;exact gA) | refine zH rfl ?_ | refine zA ?_ | refine zI bA ?_ | refine zI rfl ?_ | refine zJ rfl rfl ?_ | refine zB ?_ | refine zK rfl ?_ | refine zL rfl ?_ | refine zC ?_ | (refine zO ?_ ?_ ?_;omega;omega) | (refine zP ?_ ?_ ?_;omega;omega) | refine zM rfl ?_ | (refine zQ ?_ ?_ ?_;omega;omega) | (refine zR ?_ ?_;omega) | (refine zI ?_ ?_;exact nA) | (refine zS ?_ ?_ ?_;omega;omega) | (refine zT ?_ ?_ ?_;omega;omega) | (refine zU ?_ ?_ ?_;omega;omega) | (refine zV ?_ ?_ ?_;omega;omega) | refine PCall.pure (parse1_c s) (WkT.refl _) ?_ | refine PCall.pure (parse1_c s) cA ?_ | refine zN rfl rfl rfl ?_ | refine zD ?_ | refine zE ?_ | refine zF ?_ | refine PDraw.sP (some 52) rfl [] [] tt_ok mixed ?_ | intro _ | refine zG ?_);conv=>whnf) | (refine zX (fun hc => ?_) (fun hc => ?_)<;>(try simp only [SY] at hc)<;>first | omega | (conv=>whnf)))
  · exact PRet.pure (Wk.ff (by simp [nameB]; omega))
  rename_i hlen
  have e : [45, 43, 42, 47, 60, 62, 61, 33, 63, 95, 37] = marksL := rfl
  have em : marksL.length = 11 := rfl
  have hmm : ∀ c, (baseB c || marksL.contains c) = markB c := fun _ => rfl
  rw [e]
  generalize marksL = m at *
  refine PLoop.keep [2, 4, 5, 6, 18, 19, 20, 21, 22, 23, 24, 25, 26, 27, 28, 29, 30, 31, 32, 33, 34, 35, 36, 37, 38, 39, 40, 41, 42, 43, 44, 45, 46, 47, 48, 49, 50, 51, 52, 53, 54, 55, 56, 57, 58, 59, 60, 61, 62, 63] (fun i : Nat => [(4, .int .i64 i)]) (fun i => i ≤ s.length ∧ (s.drop i).all markB = s.all markB) (fun i => s.length - i) 0 ⟨by omega, rfl⟩ wA ?_
  rintro i ⟨hi, hm⟩
  conv => whnf
  repeat' (first | ((first | ((first | (apply zY;intro hg) | apply zZ);focus ((conv=>whnf);(repeat ((first | (refine zW ?_ ?_;exact gA) | refine zH rfl ?_ | refine zA ?_ | refine zI bA ?_ | refine zI rfl ?_ | refine zJ rfl rfl ?_ | refine zB ?_ | refine zK rfl ?_ | refine zL rfl ?_ | refine zC ?_ | (refine zO ?_ ?_ ?_;exact OA;exact OA) | (refine zP ?_ ?_ ?_;exact OA;exact OA) | refine zM rfl ?_ | (refine zQ ?_ ?_ ?_;exact OA;exact OA) | (refine zR ?_ ?_;exact OA) | (refine zI ?_ ?_;exact NA) | (refine zS ?_ ?_ ?_;exact OA;exact OA) | (refine zT ?_ ?_ ?_;exact OA;exact OA) | (refine zU ?_ ?_ ?_;exact OA;exact OA) | (refine zV ?_ ?_ ?_;exact OA;exact OA) | refine PCall.pure (parse1_c s) (WkT.refl _) ?_ | refine PCall.pure (parse1_c s) cA ?_ | intro _);conv=>whnf));first | exact PShift.same | exact PShift.lit | exact PShift.ep)) | (refine zW ?_ ?_;exact gA) | refine zH rfl ?_ | refine zA ?_ | refine zI bA ?_ | refine zI rfl ?_ | refine zJ rfl rfl ?_ | refine zB ?_ | refine zK rfl ?_ | refine zL rfl ?_ | refine zC ?_ | (refine zO ?_ ?_ ?_;omega;omega) | (refine zP ?_ ?_ ?_;omega;omega) | refine zM rfl ?_ | (refine zQ ?_ ?_ ?_;omega;omega) | (refine zR ?_ ?_;omega) | (refine zI ?_ ?_;exact nA) | (refine zS ?_ ?_ ?_;omega;omega) | (refine zT ?_ ?_ ?_;omega;omega) | (refine zU ?_ ?_ ?_;omega;omega) | (refine zV ?_ ?_ ?_;omega;omega) | refine PCall.pure (parse1_c s) (WkT.refl _) ?_ | refine PCall.pure (parse1_c s) cA ?_ | refine zN rfl rfl rfl ?_ | refine zD ?_ | refine zE ?_ | refine zF ?_ | refine PDraw.sP (some 52) rfl [] [] tt_ok mixed ?_ | intro _ | refine zG ?_);conv=>whnf) | (refine zX (fun hc => ?_) (fun hc => ?_)<;>(try simp only [SY] at hc)<;>first | omega | (conv=>whnf)))
  · refine PLoop.keep [5, 6, 46, 47, 48, 49, 50, 51, 52, 53, 54, 55, 56, 57, 58, 59, 60, 61] (fun (x : Nat × Bool) => [(5, .bool x.2), (6, .int .i64 x.1)]) (fun x => x.1 ≤ 11 ∧ (x.2 || (m.drop x.1).contains (s.getD i 0)) = markB (s.getD i 0)) (fun x => 11 - x.1) (0, baseB (s.getD i 0)) ⟨by omega, hmm _⟩ wA ?_
    rintro ⟨k, b⟩ ⟨hk, hb⟩
    conv => whnf
    repeat' (first | ((first | ((first | (apply zY;intro hg) | apply zZ);focus ((conv=>whnf);(repeat ((first | (refine zW ?_ ?_;exact gA) | refine zH rfl ?_ | refine zA ?_ | refine zI bA ?_ | refine zI rfl ?_ | refine zJ rfl rfl ?_ | refine zB ?_ | refine zK rfl ?_ | refine zL rfl ?_ | refine zC ?_ | (refine zO ?_ ?_ ?_;exact OA;exact OA) | (refine zP ?_ ?_ ?_;exact OA;exact OA) | refine zM rfl ?_ | (refine zQ ?_ ?_ ?_;exact OA;exact OA) | (refine zR ?_ ?_;exact OA) | (refine zI ?_ ?_;exact NA) | (refine zS ?_ ?_ ?_;exact OA;exact OA) | (refine zT ?_ ?_ ?_;exact OA;exact OA) | (refine zU ?_ ?_ ?_;exact OA;exact OA) | (refine zV ?_ ?_ ?_;exact OA;exact OA) | refine PCall.pure (parse1_c s) (WkT.refl _) ?_ | refine PCall.pure (parse1_c s) cA ?_ | intro _);conv=>whnf));first | exact PShift.same | exact PShift.lit | exact PShift.ep)) | (refine zW ?_ ?_;exact gA) | refine zH rfl ?_ | refine zA ?_ | refine zI bA ?_ | refine zI rfl ?_ | refine zJ rfl rfl ?_ | refine zB ?_ | refine zK rfl ?_ | refine zL rfl ?_ | refine zC ?_ | (refine zO ?_ ?_ ?_;omega;omega) | (refine zP ?_ ?_ ?_;omega;omega) | refine zM rfl ?_ | (refine zQ ?_ ?_ ?_;omega;omega) | (refine zR ?_ ?_;omega) | (refine zI ?_ ?_;exact nA) | (refine zS ?_ ?_ ?_;omega;omega) | (refine zT ?_ ?_ ?_;omega;omega) | (refine zU ?_ ?_ ?_;omega;omega) | (refine zV ?_ ?_ ?_;omega;omega) | refine PCall.pure (parse1_c s) (WkT.refl _) ?_ | refine PCall.pure (parse1_c s) cA ?_ | refine zN rfl rfl rfl ?_ | refine zD ?_ | refine zE ?_ | refine zF ?_ | refine PDraw.sP (some 52) rfl [] [] tt_ok mixed ?_ | intro _ | refine zG ?_);conv=>whnf) | (refine zX (fun hc => ?_) (fun hc => ?_)<;>(try simp only [SY] at hc)<;>first | omega | (conv=>whnf)))
    · refine loopTo (k + 1, b || ((s.getD i 0).toNat : Int) == (m.getD k 0).toNat) ⟨by simp only at hk ⊢; omega, ?_⟩ (by show 11 - (k + 1) < 11 - k; simp only at hk; omega) wA
      rw [← hb, drop_getD (show k < m.length by omega), List.contains_cons, byte_eq, Bool.or_assoc]
    all_goals
      simp only at hk hb
      rw [hc, List.drop_of_length_le (by omega)] at hb
      rw [drop_getD (show i < s.length by omega), List.all_cons, ← hb] at hm
    · refine PRet.pure (Wk.ff ?_)
      simp only [List.contains_nil, Bool.or_false, Bool.false_and] at hm
      simp [nameB, ← hm]
    · exact loopTo (i + 1) ⟨by omega, by rw [← hm]; simp⟩ (by show s.length - (i + 1) < s.length - i; omega) wA
  · rw [List.drop_of_length_le (by omega)] at hm
    refine PRet.pure (Wk.bool ?_)
    have h1 : 1 ≤ s.length := by omega
    have h2 : s.length ≤ 40 := by omega
    simp [nameB, ← hm, h1, h2]
def bareBad (d : Datum) (deep : Int) : Bool :=
  (decide (deep > 200) || decide (d.kind < 0) || decide (d.kind > 7)) || ((d.kind == 0 && !numRight d.n d.d) || (d.kind != 0 && d.d != 0)) ||
  ((d.kind == 1 && d.n != 0 && d.n != 1) || (d.kind != 0 && d.kind != 1 && d.n != 0)) || ((d.kind == 2 && !nameB d.s) || (d.kind != 2 && d.kind != 3 && !(d.s == []))) || d.s.any strB ||
  ((d.kind == 6 && (d.l.length : Int) != 2) || (d.kind != 6 && d.kind != 7 && decide ((d.l.length : Int) > 0)))
mutual
def Datum.rightD : Datum → Int → Bool
  | .mk k n d s l, deep => !bareBad (.mk k n d s l) deep && Datum.rightDs l (deep + 1)
def Datum.rightDs : List Datum → Int → Bool
  | [], _ => true
  | x :: xs, deep => Datum.rightD x deep && Datum.rightDs xs deep
end
theorem Datum.rightD_eq (x : Datum) (deep : Int) : x.rightD deep = (!bareBad x deep && Datum.rightDs x.l (deep + 1)) := by cases x; rfl
theorem right2_c (d : Datum) : ∀ deep : Int, 0 ≤ deep → deep ≤ 1000 → ACallP Tryz.prog 168 [.agg d.cells, .int .i64 deep] (.bool (d.rightD deep)) := by
  induction d using Datum.ind with
  | h d ih =>
    intro deep h0 h1
    refine ACall.of_body tt_ok Tryz.func168 rfl rfl (n := 166) rfl rfl ?_
    conv => whnf
    repeat ((first | ((first | (apply zY;intro hg) | apply zZ);focus ((conv=>whnf);(repeat ((first | (refine zW ?_ ?_;exact gA) | refine zH rfl ?_ | refine zA ?_ | refine zI bA ?_ | refine zI rfl ?_ | refine zJ rfl rfl ?_ | refine zB ?_ | refine zK rfl ?_ | refine zL rfl ?_ | refine zC ?_ | (refine zO ?_ ?_ ?_;exact OA;exact OA) | (refine zP ?_ ?_ ?_;exact OA;exact OA) | refine zM rfl ?_ | (refine zQ ?_ ?_ ?_;exact OA;exact OA) | (refine zR ?_ ?_;exact OA) | (refine zI ?_ ?_;exact NA) | (refine zS ?_ ?_ ?_;exact OA;exact OA) | (refine zT ?_ ?_ ?_;exact OA;exact OA) | (refine zU ?_ ?_ ?_;exact OA;exact OA) | (refine zV ?_ ?_ ?_;exact OA;exact OA) | refine PCall.pure (right1_c _ _) (WkT.refl _) ?_ | refine PCall.pure (right1_c _ _) cA ?_ | refine PCall.pure (name1_c _) (WkT.refl _) ?_ | refine PCall.pure (name1_c _) cA ?_ | intro _);conv=>whnf));first | exact PShift.same | exact PShift.lit | exact PShift.ep)) | (refine zW ?_ ?_;exact gA) | refine zH rfl ?_ | refine zA ?_ | refine zI bA ?_ | refine zI rfl ?_ | refine zJ rfl rfl ?_ | refine zB ?_ | refine zK rfl ?_ | refine zL rfl ?_ | refine zC ?_ | (refine zO ?_ ?_ ?_;omega;omega) | (refine zP ?_ ?_ ?_;omega;omega) | refine zM rfl ?_ | (refine zQ ?_ ?_ ?_;omega;omega) | (refine zR ?_ ?_;omega) | (refine zI ?_ ?_;exact nA) | (refine zS ?_ ?_ ?_;omega;omega) | (refine zT ?_ ?_ ?_;omega;omega) | (refine zU ?_ ?_ ?_;omega;omega) | (refine zV ?_ ?_ ?_;omega;omega) | refine PCall.pure (right1_c _ _) (WkT.refl _) ?_ | refine PCall.pure (right1_c _ _) cA ?_ | refine PCall.pure (name1_c _) (WkT.refl _) ?_ | refine PCall.pure (name1_c _) cA ?_ | refine zN rfl rfl rfl ?_ | refine zD ?_ | refine zE ?_ | refine zF ?_ | intro _);conv=>whnf)
    conv => whnf
    repeat' (first | ((first | ((first | (apply zY;intro hg) | apply zZ);focus ((conv=>whnf);(repeat ((first | (refine zW ?_ ?_;exact gA) | refine zH rfl ?_ | refine zA ?_ | refine zI bA ?_ | refine zI rfl ?_ | refine zJ rfl rfl ?_ | refine zB ?_ | refine zK rfl ?_ | refine zL rfl ?_ | refine zC ?_ | (refine zO ?_ ?_ ?_;exact OA;exact OA) | (refine zP ?_ ?_ ?_;exact OA;exact OA) | refine zM rfl ?_ | (refine zQ ?_ ?_ ?_;exact OA;exact OA) | (refine zR ?_ ?_;exact OA) | (refine zI ?_ ?_;exact NA) | (refine zS ?_ ?_ ?_;exact OA;exact OA) | (refine zT ?_ ?_ ?_;exact OA;exact OA) | (refine zU ?_ ?_ ?_;exact OA;exact OA) | (refine zV ?_ ?_ ?_;exact OA;exact OA) | refine PCall.pure (right1_c _ _) (WkT.refl _) ?_ | refine PCall.pure (right1_c _ _) cA ?_ | refine PCall.pure (name1_c _) (WkT.refl _) ?_ | refine PCall.pure (name1_c _) cA ?_ | intro _);conv=>whnf));first | exact PShift.same | exact PShift.lit | exact PShift.ep)) | (refine zW ?_ ?_;exact gA) | refine zH rfl ?_ | refine zA ?_ | refine zI bA ?_ | refine zI rfl ?_ | refine zJ rfl rfl ?_ | refine zB ?_ | refine zK rfl ?_ | refine zL rfl ?_ | refine zC ?_ | (refine zO ?_ ?_ ?_;omega;omega) | (refine zP ?_ ?_ ?_;omega;omega) | refine zM rfl ?_ | (refine zQ ?_ ?_ ?_;omega;omega) | (refine zR ?_ ?_;omega) | (refine zI ?_ ?_;exact nA) | (refine zS ?_ ?_ ?_;omega;omega) | (refine zT ?_ ?_ ?_;omega;omega) | (refine zU ?_ ?_ ?_;omega;omega) | (refine zV ?_ ?_ ?_;omega;omega) | refine PCall.pure (right1_c _ _) (WkT.refl _) ?_ | refine PCall.pure (right1_c _ _) cA ?_ | refine PCall.pure (name1_c _) (WkT.refl _) ?_ | refine PCall.pure (name1_c _) cA ?_ | refine zN rfl rfl rfl ?_ | refine zD ?_ | refine zE ?_ | refine zF ?_ | intro _ | refine zG ?_);conv=>whnf) | (refine zX (fun hc => ?_) (fun hc => ?_)<;>(try simp only [SY] at hc)<;>first | omega | (conv=>whnf)))
    all_goals rw [Datum.rightD_eq]
    iterate 4 exact PRet.pure (Wk.ff (by simp only [bareBad, SS, *, true_or, or_true, Bool.not_true, Bool.false_and]))
    rename_i k1 k2 k3 k4
    refine PLoop.keep [4, 5, 92, 93, 94, 95, 96, 97, 98, 99, 100, 101, 102, 103, 104, 105, 106, 107, 108, 109, 110, 111, 112, 113, 114, 115, 116, 117, 118, 119, 120, 121, 122, 123, 124] (fun i : Nat => [(5, .int .i64 i)]) (fun i => i ≤ d.s.length ∧ (d.s.drop i).any strB = d.s.any strB) (fun i => d.s.length - i) 0 ⟨by omega, rfl⟩ wA ?_
    rintro i ⟨hi, hm⟩
    conv => whnf
    repeat' (first | ((first | ((first | (apply zY;intro hg) | apply zZ);focus ((conv=>whnf);(repeat ((first | (refine zW ?_ ?_;exact gA) | refine zH rfl ?_ | refine zA ?_ | refine zI bA ?_ | refine zI rfl ?_ | refine zJ rfl rfl ?_ | refine zB ?_ | refine zK rfl ?_ | refine zL rfl ?_ | refine zC ?_ | (refine zO ?_ ?_ ?_;exact OA;exact OA) | (refine zP ?_ ?_ ?_;exact OA;exact OA) | refine zM rfl ?_ | (refine zQ ?_ ?_ ?_;exact OA;exact OA) | (refine zR ?_ ?_;exact OA) | (refine zI ?_ ?_;exact NA) | (refine zS ?_ ?_ ?_;exact OA;exact OA) | (refine zT ?_ ?_ ?_;exact OA;exact OA) | (refine zU ?_ ?_ ?_;exact OA;exact OA) | (refine zV ?_ ?_ ?_;exact OA;exact OA) | refine PCall.pure (right1_c _ _) (WkT.refl _) ?_ | refine PCall.pure (right1_c _ _) cA ?_ | refine PCall.pure (name1_c _) (WkT.refl _) ?_ | refine PCall.pure (name1_c _) cA ?_ | intro _);conv=>whnf));first | exact PShift.same | exact PShift.lit | exact PShift.ep)) | (refine zW ?_ ?_;exact gA) | refine zH rfl ?_ | refine zA ?_ | refine zI bA ?_ | refine zI rfl ?_ | refine zJ rfl rfl ?_ | refine zB ?_ | refine zK rfl ?_ | refine zL rfl ?_ | refine zC ?_ | (refine zO ?_ ?_ ?_;omega;omega) | (refine zP ?_ ?_ ?_;omega;omega) | refine zM rfl ?_ | (refine zQ ?_ ?_ ?_;omega;omega) | (refine zR ?_ ?_;omega) | (refine zI ?_ ?_;exact nA) | (refine zS ?_ ?_ ?_;omega;omega) | (refine zT ?_ ?_ ?_;omega;omega) | (refine zU ?_ ?_ ?_;omega;omega) | (refine zV ?_ ?_ ?_;omega;omega) | refine PCall.pure (right1_c _ _) (WkT.refl _) ?_ | refine PCall.pure (right1_c _ _) cA ?_ | refine PCall.pure (name1_c _) (WkT.refl _) ?_ | refine PCall.pure (name1_c _) cA ?_ | refine zN rfl rfl rfl ?_ | refine zD ?_ | refine zE ?_ | refine zF ?_ | intro _ | refine zG ?_);conv=>whnf) | (refine zX (fun hc => ?_) (fun hc => ?_)<;>(try simp only [SY] at hc)<;>first | omega | (conv=>whnf)))
    · rename_i k5
      rw [drop_getD (show i < d.s.length by omega), List.any_cons, show strB (d.s.getD i 0) = true by simp only [strB, SS, hc]] at hm
      exact PRet.pure (Wk.ff (by simp only [bareBad, ← hm, Bool.true_or, Bool.or_true, Bool.not_true, Bool.false_and]))
    · rename_i k5
      rw [drop_getD (show i < d.s.length by omega), List.any_cons, show strB (d.s.getD i 0) = false by simp only [strB, SS, hc, not_false_eq_true, and_self]] at hm
      exact loopTo (i + 1) ⟨by omega, hm⟩ (by show d.s.length - (i + 1) < d.s.length - i; omega) wA
    · exact PRet.pure (Wk.ff (by simp only [bareBad, SS, *, true_or, or_true, Bool.not_true, Bool.false_and]))
    · rename_i k5
      rw [List.drop_of_length_le (by omega), List.any_nil] at hm
      replace hm := hm.symm
      have hbad : bareBad d deep = false := by
        simp only [bareBad, SS, *, and_self]
      simp only [hbad, Bool.not_false, Bool.true_and]
      refine PLoop.keep [4, 6, 150, 151, 152, 153, 154, 155, 156, 157, 158, 159, 160, 161, 162, 163, 164, 165] (fun i : Nat => [(6, .int .i64 i)]) (fun i => i ≤ d.l.length ∧ Datum.rightDs (d.l.drop i) (deep + 1) = Datum.rightDs d.l (deep + 1)) (fun i => d.l.length - i) 0 ⟨by omega, rfl⟩ wA ?_
      rintro j ⟨hj, hr⟩
      conv => whnf
      repeat' (first | ((first | ((first | (apply zY;intro hg) | apply zZ);focus ((conv=>whnf);(repeat ((first | (refine zW ?_ ?_;exact gA) | refine zH rfl ?_ | refine zA ?_ | refine zI bA ?_ | refine zI rfl ?_ | refine zJ rfl rfl ?_ | refine zB ?_ | refine zK rfl ?_ | refine zL rfl ?_ | refine zC ?_ | (refine zO ?_ ?_ ?_;exact OA;exact OA) | (refine zP ?_ ?_ ?_;exact OA;exact OA) | refine zM rfl ?_ | (refine zQ ?_ ?_ ?_;exact OA;exact OA) | (refine zR ?_ ?_;exact OA) | (refine zI ?_ ?_;exact NA) | (refine zS ?_ ?_ ?_;exact OA;exact OA) | (refine zT ?_ ?_ ?_;exact OA;exact OA) | (refine zU ?_ ?_ ?_;exact OA;exact OA) | (refine zV ?_ ?_ ?_;exact OA;exact OA) | refine PCall.pure (ih _ (List.getElem_mem _) _ OA OA) (WkT.refl _) ?_ | refine PCall.pure (ih _ (List.getElem_mem _) _ OA OA) cA ?_ | intro _);conv=>whnf));first | exact PShift.same | exact PShift.lit | exact PShift.ep)) | (refine zW ?_ ?_;exact gA) | refine zH rfl ?_ | refine zA ?_ | refine zI bA ?_ | refine zI rfl ?_ | refine zJ rfl rfl ?_ | refine zB ?_ | refine zK rfl ?_ | refine zL rfl ?_ | refine zC ?_ | (refine zO ?_ ?_ ?_;omega;omega) | (refine zP ?_ ?_ ?_;omega;omega) | refine zM rfl ?_ | (refine zQ ?_ ?_ ?_;omega;omega) | (refine zR ?_ ?_;omega) | (refine zI ?_ ?_;exact nA) | (refine zS ?_ ?_ ?_;omega;omega) | (refine zT ?_ ?_ ?_;omega;omega) | (refine zU ?_ ?_ ?_;omega;omega) | (refine zV ?_ ?_ ?_;omega;omega) | refine PCall.pure (ih _ (List.getElem_mem _) _ OA OA) (WkT.refl _) ?_ | refine PCall.pure (ih _ (List.getElem_mem _) _ OA OA) cA ?_ | refine zN rfl rfl rfl ?_ | refine zD ?_ | refine zE ?_ | refine zF ?_ | intro _ | refine zG ?_);conv=>whnf) | (refine zX (fun hc => ?_) (fun hc => ?_)<;>(try simp only [SY] at hc)<;>first | omega | (conv=>whnf)))
      · rw [drop_at (show j < d.l.length by omega), Datum.rightDs, hc, Bool.false_and] at hr
        exact PRet.pure (Wk.ff hr.symm)
      · rw [drop_at (show j < d.l.length by omega), Datum.rightDs, hc, Bool.true_and] at hr
        exact loopTo (j + 1) ⟨by omega, hr⟩ (by show d.l.length - (j + 1) < d.l.length - j; omega) wA
      · rw [List.drop_of_length_le (by omega), Datum.rightDs] at hr
        exact PRet.pure (Wk.tt hr.symm)
end Go.Cb
namespace Go.Cb
open Go.Proofs
set_option maxRecDepth 100000
set_option maxHeartbeats 4000000
def sortsL (op level : Int) : Bool :=
  if op = 0 ∨ op = 1 ∨ op = 3 ∨ op = 5 ∨ op = 6 ∨ op = 11 then true else
  if op = 2 then decide (level ≤ 1) else
  if op = 4 then decide (level ≤ 2) else
  if op = 7 then level == 0 else
  if op = 8 ∨ op = 9 ∨ op = 12 ∨ op = 13 then decide (level ≥ 1) else
  if op = 14 then level == 1 else
  if op = 10 ∨ op = 15 ∨ op = 16 ∨ op = 17 ∨ op = 18 then decide (level ≥ 2) else
  if op = 19 ∨ op = 20 ∨ op = 21 ∨ op = 22 then level == 3 else false
theorem sorts_c (op level : Int) : ACallP Tryz.prog 136 [.int .i64 op, .int .i64 level] (.bool (sortsL op level)) := by
  have hs : sortsL op level = sortsL op level := rfl
  conv at hs => rhs; unfold sortsL
  refine ACall.of_body tt_ok Tryz.func136 rfl rfl (n := 51) rfl rfl ?_
  conv => whnf
  repeat ((first | ((first | (apply zY;intro hg) | apply zZ);exact stA) | (refine zW ?_ ?_;exact gA) | refine zH rfl ?_ | refine zA ?_ | refine zI bA ?_ | refine zI rfl ?_ | refine zJ rfl rfl ?_ | refine zB ?_ | refine zK rfl ?_ | refine zL rfl ?_ | refine zC ?_ | (refine zO ?_ ?_ ?_;omega;omega) | (refine zP ?_ ?_ ?_;omega;omega) | refine zM rfl ?_ | (refine zQ ?_ ?_ ?_;omega;omega) | (refine zR ?_ ?_;omega) | (refine zI ?_ ?_;exact nA) | (refine zS ?_ ?_ ?_;omega;omega) | (refine zT ?_ ?_ ?_;omega;omega) | (refine zU ?_ ?_ ?_;omega;omega) | (refine zV ?_ ?_ ?_;omega;omega) | refine zN rfl rfl rfl ?_ | refine zD ?_ | refine zE ?_ | refine zF ?_ | intro _);conv=>whnf)
  conv => whnf
  repeat' (first | ((first | ((first | (apply zY;intro hg) | apply zZ);exact stA) | (refine zW ?_ ?_;exact gA) | refine zH rfl ?_ | refine zA ?_ | refine zI bA ?_ | refine zI rfl ?_ | refine zJ rfl rfl ?_ | refine zB ?_ | refine zK rfl ?_ | refine zL rfl ?_ | refine zC ?_ | (refine zO ?_ ?_ ?_;omega;omega) | (refine zP ?_ ?_ ?_;omega;omega) | refine zM rfl ?_ | (refine zQ ?_ ?_ ?_;omega;omega) | (refine zR ?_ ?_;omega) | (refine zI ?_ ?_;exact nA) | (refine zS ?_ ?_ ?_;omega;omega) | (refine zT ?_ ?_ ?_;omega;omega) | (refine zU ?_ ?_ ?_;omega;omega) | (refine zV ?_ ?_ ?_;omega;omega) | refine zN rfl rfl rfl ?_ | refine zD ?_ | refine zE ?_ | refine zF ?_ | intro _ | refine zG ?_);conv=>whnf) | (refine zX (fun hc => ?_) (fun hc => ?_)<;>(try simp only [SY] at hc)<;>first | omega | (conv=>whnf)))
  all_goals repeat (first | rw [if_neg (by omega)] at hs | rw [if_pos (by omega)] at hs)
  all_goals rw [hs]
  all_goals first | exact PRet.pure (Wk.refl _) | exact PRet.pure (Wk.tt rfl) | exact PRet.pure (Wk.ff rfl)
def bindsB (op : Int) : Bool := op == 4 || op == 7 || op == 8 || op == 9
def countsL (t : Trm) : Bool :=
  if (!bindsB t.op && decide ((t.v.length : Int) > 0)) = true then false else
  if t.op = 0 ∨ t.op = 1 ∨ t.op = 11 ∨ t.op = 13 ∨ t.op = 20 ∨ t.op = 21 then (t.t.length : Int) == 0 else
  if t.op = 2 ∨ t.op = 14 ∨ t.op = 4 ∨ t.op = 12 ∨ t.op = 15 ∨ t.op = 16 then (t.t.length : Int) == 1 else
  if t.op = 3 then (t.t.length : Int) == 3 else
  if t.op = 17 ∨ t.op = 18 then (t.t.length : Int) == 2 else
  if t.op = 5 ∨ t.op = 6 ∨ t.op = 22 then decide ((t.t.length : Int) ≥ 1) else
  if t.op = 7 ∨ t.op = 8 ∨ t.op = 9 then (t.t.length : Int) == (t.v.length : Int) + 1 else true
theorem counts_c (t : Trm) (hv : t.v.length ≤ 1000000000) : ACallP Tryz.prog 137 [.agg t.cells] (.bool (countsL t)) := by
  have hs : countsL t = countsL t := rfl
  conv at hs => rhs; unfold countsL; simp only [bindsB, SS]
  refine ACall.of_body tt_ok Tryz.func137 rfl rfl (n := 79) rfl rfl ?_
  conv => whnf
  repeat ((first | ((first | (apply zY;intro hg) | apply zZ);exact stA) | (refine zW ?_ ?_;exact gA) | refine zH rfl ?_ | refine zA ?_ | refine zI bA ?_ | refine zI rfl ?_ | refine zJ rfl rfl ?_ | refine zB ?_ | refine zK rfl ?_ | refine zL rfl ?_ | refine zC ?_ | (refine zO ?_ ?_ ?_;omega;omega) | (refine zP ?_ ?_ ?_;omega;omega) | refine zM rfl ?_ | (refine zQ ?_ ?_ ?_;omega;omega) | (refine zR ?_ ?_;omega) | (refine zI ?_ ?_;exact nA) | (refine zS ?_ ?_ ?_;omega;omega) | (refine zT ?_ ?_ ?_;omega;omega) | (refine zU ?_ ?_ ?_;omega;omega) | (refine zV ?_ ?_ ?_;omega;omega) | refine zN rfl rfl rfl ?_ | refine zD ?_ | refine zE ?_ | refine zF ?_ | intro _);conv=>whnf)
  conv => whnf
  repeat' (first | ((first | ((first | (apply zY;intro hg) | apply zZ);exact stA) | (refine zW ?_ ?_;exact gA) | refine zH rfl ?_ | refine zA ?_ | refine zI bA ?_ | refine zI rfl ?_ | refine zJ rfl rfl ?_ | refine zB ?_ | refine zK rfl ?_ | refine zL rfl ?_ | refine zC ?_ | (refine zO ?_ ?_ ?_;omega;omega) | (refine zP ?_ ?_ ?_;omega;omega) | refine zM rfl ?_ | (refine zQ ?_ ?_ ?_;omega;omega) | (refine zR ?_ ?_;omega) | (refine zI ?_ ?_;exact nA) | (refine zS ?_ ?_ ?_;omega;omega) | (refine zT ?_ ?_ ?_;omega;omega) | (refine zU ?_ ?_ ?_;omega;omega) | (refine zV ?_ ?_ ?_;omega;omega) | refine zN rfl rfl rfl ?_ | refine zD ?_ | refine zE ?_ | refine zF ?_ | intro _ | refine zG ?_);conv=>whnf) | (refine zX (fun hc => ?_) (fun hc => ?_)<;>(try simp only [SY] at hc)<;>first | omega | (conv=>whnf)))
  all_goals repeat (first | rw [if_neg (by omega)] at hs | rw [if_pos (by omega)] at hs)
  all_goals rw [hs]
  all_goals first | exact PRet.pure (Wk.refl _) | exact PRet.pure (Wk.tt rfl) | exact PRet.pure (Wk.ff rfl)
theorem has_c (l : List Int) (v : Int) : ACallP Tryz.prog 151 [.sl 1 (l.map (PV.int .i64)) none, .int .i64 v] (.bool (l.contains v)) := by
  refine ACall.of_body tt_ok Tryz.func151 rfl rfl (n := 18) rfl rfl ?_
  conv => whnf
  repeat ((first | ((first | (apply zY;intro hg) | apply zZ);exact stA) | (refine zW ?_ ?_;exact gA) | refine zH rfl ?_ | refine zA ?_ | refine zI bA ?_ | refine zI rfl ?_ | refine zJ rfl rfl ?_ | refine zB ?_ | refine zK rfl ?_ | refine zL rfl ?_ | refine zC ?_ | (refine zO ?_ ?_ ?_;omega;omega) | (refine zP ?_ ?_ ?_;omega;omega) | refine zM rfl ?_ | (refine zQ ?_ ?_ ?_;omega;omega) | (refine zR ?_ ?_;omega) | (refine zI ?_ ?_;exact nA) | (refine zS ?_ ?_ ?_;omega;omega) | (refine zT ?_ ?_ ?_;omega;omega) | (refine zU ?_ ?_ ?_;omega;omega) | (refine zV ?_ ?_ ?_;omega;omega) | refine zN rfl rfl rfl ?_ | refine zD ?_ | refine zE ?_ | refine zF ?_ | intro _);conv=>whnf)
  refine PLoop.keep [4, 5, 6, 7, 8, 9, 10, 11, 12, 13, 14, 15, 16, 17] (fun i : Nat => [(5, .int .i64 i)]) (fun i => i ≤ l.length ∧ (l.drop i).contains v = l.contains v) (fun i => l.length - i) 0 ⟨by omega, rfl⟩ wA ?_
  rintro i ⟨h1, h2⟩
  conv => whnf
  repeat' (first | ((first | ((first | (apply zY;intro hg) | apply zZ);exact stA) | (refine zW ?_ ?_;exact gA) | refine zH rfl ?_ | refine zA ?_ | refine zI bA ?_ | refine zI rfl ?_ | refine zJ rfl rfl ?_ | refine zB ?_ | refine zK rfl ?_ | refine zL rfl ?_ | refine zC ?_ | (refine zO ?_ ?_ ?_;omega;omega) | (refine zP ?_ ?_ ?_;omega;omega) | refine zM rfl ?_ | (refine zQ ?_ ?_ ?_;omega;omega) | (refine zR ?_ ?_;omega) | (refine zI ?_ ?_;exact nA) | (refine zS ?_ ?_ ?_;omega;omega) | (refine zT ?_ ?_ ?_;omega;omega) | (refine zU ?_ ?_ ?_;omega;omega) | (refine zV ?_ ?_ ?_;omega;omega) | refine zN rfl rfl rfl ?_ | refine zD ?_ | refine zE ?_ | refine zF ?_ | intro _ | refine zG ?_);conv=>whnf) | (refine zX (fun hc => ?_) (fun hc => ?_)<;>(try simp only [SY] at hc)<;>first | omega | (conv=>whnf)))
  · rw [drop_at (show i < l.length by omega), List.contains_cons, show (v == l[i]) = true by simp [hc]] at h2
    exact PRet.pure (Wk.tt (by rw [← h2]; rfl))
  · rw [drop_at (show i < l.length by omega), List.contains_cons, show (v == l[i]) = false by simp; exact fun e => hc e.symm] at h2
    exact loopTo (i + 1) ⟨by omega, by simpa using h2⟩ (by show l.length - (i + 1) < l.length - i; omega) wA
  · rw [List.drop_of_length_le (by omega)] at h2
    exact PRet.pure (Wk.ff (by rw [← h2]; rfl))
theorem right2D_c (d : Datum) : ACallP Tryz.prog 135 [.agg d.cells] (.bool (d.rightD 0)) := by
  refine ACall.of_body tt_ok Tryz.func135 rfl rfl (n := 5) rfl rfl ?_
  conv => whnf
  repeat ((first | ((first | (apply zY;intro hg) | apply zZ);focus ((conv=>whnf);(repeat ((first | (refine zW ?_ ?_;exact gA) | refine zH rfl ?_ | refine zA ?_ | refine zI bA ?_ | refine zI rfl ?_ | refine zJ rfl rfl ?_ | refine zB ?_ | refine zK rfl ?_ | refine zL rfl ?_ | refine zC ?_ | (refine zO ?_ ?_ ?_;exact OA;exact OA) | (refine zP ?_ ?_ ?_;exact OA;exact OA) | refine zM rfl ?_ | (refine zQ ?_ ?_ ?_;exact OA;exact OA) | (refine zR ?_ ?_;exact OA) | (refine zI ?_ ?_;exact NA) | (refine zS ?_ ?_ ?_;exact OA;exact OA) | (refine zT ?_ ?_ ?_;exact OA;exact OA) | (refine zU ?_ ?_ ?_;exact OA;exact OA) | (refine zV ?_ ?_ ?_;exact OA;exact OA) | refine PCall.pure (right2_c d 0 (by omega) (by omega)) (WkT.refl _) ?_ | refine PCall.pure (right2_c d 0 (by omega) (by omega)) cA ?_ | intro _);conv=>whnf));first | exact PShift.same | exact PShift.lit | exact PShift.ep)) | (refine zW ?_ ?_;exact gA) | refine zH rfl ?_ | refine zA ?_ | refine zI bA ?_ | refine zI rfl ?_ | refine zJ rfl rfl ?_ | refine zB ?_ | refine zK rfl ?_ | refine zL rfl ?_ | refine zC ?_ | (refine zO ?_ ?_ ?_;omega;omega) | (refine zP ?_ ?_ ?_;omega;omega) | refine zM rfl ?_ | (refine zQ ?_ ?_ ?_;omega;omega) | (refine zR ?_ ?_;omega) | (refine zI ?_ ?_;exact nA) | (refine zS ?_ ?_ ?_;omega;omega) | (refine zT ?_ ?_ ?_;omega;omega) | (refine zU ?_ ?_ ?_;omega;omega) | (refine zV ?_ ?_ ?_;omega;omega) | refine PCall.pure (right2_c d 0 (by omega) (by omega)) (WkT.refl _) ?_ | refine PCall.pure (right2_c d 0 (by omega) (by omega)) cA ?_ | refine zN rfl rfl rfl ?_ | refine zD ?_ | refine zE ?_ | refine zF ?_ | intro _);conv=>whnf)
  exact PRet.pure (Wk.refl _)
theorem constants2_c (l : List Datum) : ACallP Tryz.prog 97 [.sl 5 (l.map Datum.pv) none] (.bool (l.all fun d => d.rightD 0)) := by
  refine ACall.of_body tt_ok Tryz.func97 rfl rfl (n := 16) rfl rfl ?_
  conv => whnf
  repeat ((first | ((first | (apply zY;intro hg) | apply zZ);focus ((conv=>whnf);(repeat ((first | (refine zW ?_ ?_;exact gA) | refine zH rfl ?_ | refine zA ?_ | refine zI bA ?_ | refine zI rfl ?_ | refine zJ rfl rfl ?_ | refine zB ?_ | refine zK rfl ?_ | refine zL rfl ?_ | refine zC ?_ | (refine zO ?_ ?_ ?_;exact OA;exact OA) | (refine zP ?_ ?_ ?_;exact OA;exact OA) | refine zM rfl ?_ | (refine zQ ?_ ?_ ?_;exact OA;exact OA) | (refine zR ?_ ?_;exact OA) | (refine zI ?_ ?_;exact NA) | (refine zS ?_ ?_ ?_;exact OA;exact OA) | (refine zT ?_ ?_ ?_;exact OA;exact OA) | (refine zU ?_ ?_ ?_;exact OA;exact OA) | (refine zV ?_ ?_ ?_;exact OA;exact OA) | refine PCall.pure (right2D_c _) (WkT.refl _) ?_ | refine PCall.pure (right2D_c _) cA ?_ | intro _);conv=>whnf));first | exact PShift.same | exact PShift.lit | exact PShift.ep)) | (refine zW ?_ ?_;exact gA) | refine zH rfl ?_ | refine zA ?_ | refine zI bA ?_ | refine zI rfl ?_ | refine zJ rfl rfl ?_ | refine zB ?_ | refine zK rfl ?_ | refine zL rfl ?_ | refine zC ?_ | (refine zO ?_ ?_ ?_;omega;omega) | (refine zP ?_ ?_ ?_;omega;omega) | refine zM rfl ?_ | (refine zQ ?_ ?_ ?_;omega;omega) | (refine zR ?_ ?_;omega) | (refine zI ?_ ?_;exact nA) | (refine zS ?_ ?_ ?_;omega;omega) | (refine zT ?_ ?_ ?_;omega;omega) | (refine zU ?_ ?_ ?_;omega;omega) | (refine zV ?_ ?_ ?_;omega;omega) | refine PCall.pure (right2D_c _) (WkT.refl _) ?_ | refine PCall.pure (right2D_c _) cA ?_ | refine zN rfl rfl rfl ?_ | refine zD ?_ | refine zE ?_ | refine zF ?_ | intro _);conv=>whnf)
  refine PLoop.keep [2, 3, 4, 5, 6, 7, 8, 9, 10, 11, 12, 13, 14, 15] (fun i : Nat => [(3, .int .i64 i)]) (fun i => i ≤ l.length ∧ (l.drop i).all (fun d => d.rightD 0) = l.all fun d => d.rightD 0) (fun i => l.length - i) 0 ⟨by omega, rfl⟩ wA ?_
  rintro i ⟨h1, h2⟩
  conv => whnf
  repeat' (first | ((first | ((first | (apply zY;intro hg) | apply zZ);focus ((conv=>whnf);(repeat ((first | (refine zW ?_ ?_;exact gA) | refine zH rfl ?_ | refine zA ?_ | refine zI bA ?_ | refine zI rfl ?_ | refine zJ rfl rfl ?_ | refine zB ?_ | refine zK rfl ?_ | refine zL rfl ?_ | refine zC ?_ | (refine zO ?_ ?_ ?_;exact OA;exact OA) | (refine zP ?_ ?_ ?_;exact OA;exact OA) | refine zM rfl ?_ | (refine zQ ?_ ?_ ?_;exact OA;exact OA) | (refine zR ?_ ?_;exact OA) | (refine zI ?_ ?_;exact NA) | (refine zS ?_ ?_ ?_;exact OA;exact OA) | (refine zT ?_ ?_ ?_;exact OA;exact OA) | (refine zU ?_ ?_ ?_;exact OA;exact OA) | (refine zV ?_ ?_ ?_;exact OA;exact OA) | refine PCall.pure (right2D_c _) (WkT.refl _) ?_ | refine PCall.pure (right2D_c _) cA ?_ | intro _);conv=>whnf));first | exact PShift.same | exact PShift.lit | exact PShift.ep)) | (refine zW ?_ ?_;exact gA) | refine zH rfl ?_ | refine zA ?_ | refine zI bA ?_ | refine zI rfl ?_ | refine zJ rfl rfl ?_ | refine zB ?_ | refine zK rfl ?_ | refine zL rfl ?_ | refine zC ?_ | (refine zO ?_ ?_ ?_;omega;omega) | (refine zP ?_ ?_ ?_;omega;omega) | refine zM rfl ?_ | (refine zQ ?_ ?_ ?_;omega;omega) | (refine zR ?_ ?_;omega) | (refine zI ?_ ?_;exact nA) | (refine zS ?_ ?_ ?_;omega;omega) | (refine zT ?_ ?_ ?_;omega;omega) | (refine zU ?_ ?_ ?_;omega;omega) | (refine zV ?_ ?_ ?_;omega;omega) | refine PCall.pure (right2D_c _) (WkT.refl _) ?_ | refine PCall.pure (right2D_c _) cA ?_ | refine zN rfl rfl rfl ?_ | refine zD ?_ | refine zE ?_ | refine zF ?_ | intro _ | refine zG ?_);conv=>whnf) | (refine zX (fun hc => ?_) (fun hc => ?_)<;>(try simp only [SY] at hc)<;>first | omega | (conv=>whnf)))
  · rw [drop_at (show i < l.length by omega), List.all_cons, hc] at h2
    exact PRet.pure (Wk.ff (by rw [← h2]; rfl))
  · rw [drop_at (show i < l.length by omega), List.all_cons, hc] at h2
    exact loopTo (i + 1) ⟨by omega, by simpa using h2⟩ (by show l.length - (i + 1) < l.length - i; omega) wA
  · rw [List.drop_of_length_le (by omega)] at h2
    exact PRet.pure (Wk.tt (by rw [← h2]; rfl))
def vOk (bound : List Int) (v : Int) : Bool := !(decide (v < 0) || decide (v > 1000000) || bound.contains v)
def bindR : List Int → List Int → Bool × List Int
  | [], bound => (true, bound)
  | v :: l, bound => if vOk bound v then bindR l (bound ++ [v]) else (false, bound ++ [v])
theorem bind2_c (b : Nat) (level consts codes size : Int) (free : Bool) (l bound : List Int) (t : Tok) (ht : t.e = 3) (hl : l.length + bound.length ≤ 1000000000) :
    ACall Tryz.prog 122 [.ptr b 0, .sl 1 (l.map (PV.int .i64)) none] [.box b [.int .i64 level, .int .i64 consts, .int .i64 codes, .bool free, .int .i64 size, .sl 1 (bound.map (PV.int .i64)) (some t), .bool true], .tok t]
    (fun y Γ' => y = .tup [] ∧ ∃ t' : Tok, t'.e = 3 ∧ Γ' = [.box b [.int .i64 level, .int .i64 consts, .int .i64 codes, .bool free, .int .i64 size, .sl 1 ((bindR l bound).2.map (PV.int .i64)) (some t'), .bool (bindR l bound).1], .tok t']) := by
  refine ACall.of_body tt_ok Tryz.func122 rfl rfl (n := 56) rfl rfl ?_
  conv => whnf
  repeat ((first | ((first | (apply zY;intro hg) | apply zZ);focus ((conv=>whnf);(repeat ((first | (refine zW ?_ ?_;exact gA) | refine zH rfl ?_ | refine zA ?_ | refine zI bA ?_ | refine zI rfl ?_ | refine zJ rfl rfl ?_ | refine zB ?_ | refine zK rfl ?_ | refine zL rfl ?_ | refine zC ?_ | (refine zO ?_ ?_ ?_;exact OA;exact OA) | (refine zP ?_ ?_ ?_;exact OA;exact OA) | refine zM rfl ?_ | (refine zQ ?_ ?_ ?_;exact OA;exact OA) | (refine zR ?_ ?_;exact OA) | (refine zI ?_ ?_;exact NA) | (refine zS ?_ ?_ ?_;exact OA;exact OA) | (refine zT ?_ ?_ ?_;exact OA;exact OA) | (refine zU ?_ ?_ ?_;exact OA;exact OA) | (refine zV ?_ ?_ ?_;exact OA;exact OA) | refine PCall.pure (right2D_c _) (WkT.refl _) ?_ | refine PCall.pure (right2D_c _) cA ?_ | intro _);conv=>whnf));first | exact PShift.same | exact PShift.lit | exact PShift.ep)) | (refine zW ?_ ?_;exact gA) | refine zH rfl ?_ | refine zA ?_ | refine zI bA ?_ | refine zI rfl ?_ | refine zJ rfl rfl ?_ | refine zB ?_ | refine zK rfl ?_ | refine zL rfl ?_ | refine zC ?_ | (refine zO ?_ ?_ ?_;omega;omega) | (refine zP ?_ ?_ ?_;omega;omega) | refine zM rfl ?_ | (refine zQ ?_ ?_ ?_;omega;omega) | (refine zR ?_ ?_;omega) | (refine zI ?_ ?_;exact nA) | (refine zS ?_ ?_ ?_;omega;omega) | (refine zT ?_ ?_ ?_;omega;omega) | (refine zU ?_ ?_ ?_;omega;omega) | (refine zV ?_ ?_ ?_;omega;omega) | refine PCall.pure (right2D_c _) (WkT.refl _) ?_ | refine PCall.pure (right2D_c _) cA ?_ | refine zN rfl rfl rfl ?_ | refine zD ?_ | refine zE ?_ | refine zF ?_ | refine PDraw.sP (some 17) rfl [] [] tt_ok mixed ?_ | intro _);conv=>whnf)
  refine PLoop.over [4, 5, 6, 7, 8, 9, 10, 11, 12, 13, 14, 15, 16, 17, 18, 19, 20, 21, 22, 23, 24, 25, 26, 27, 28, 29, 30, 31, 32, 33, 34, 35, 36, 37, 38, 39, 40, 41, 42, 43, 44, 45, 46, 47, 48, 49, 50, 51, 52, 53, 54, 55] (fun | ((i, bd, ok, t1) : Nat × List Int × Bool × Tok) => [(4, .int .i64 i)]) (fun x => [.box b [.int .i64 level, .int .i64 consts, .int .i64 codes, .bool free, .int .i64 size, .sl 1 (x.2.1.map (PV.int .i64)) (some x.2.2.2), .bool x.2.2.1], .tok x.2.2.2])
    (fun | (i, bd, ok, t1) => i ≤ l.length ∧ bd.length = bound.length + i ∧ t1.e = 3 ∧ (ok = true → bindR (l.drop i) bd = bindR l bound) ∧ (ok = false → bindR l bound = (false, bd))) (fun | (i, _) => l.length - i) (0, bound, true, t) ⟨by simp, by simp, ht, fun _ => rfl, fun h => by cases h⟩ wA ?_
  rintro ⟨i, bd, ok, t1⟩ ⟨hi, hb, ht1, h1, h2⟩
  have e1 : List.length (i, bd, ok, t1).2.1 = bd.length := rfl
  conv => whnf
  repeat' (first | ((first | ((first | (apply zY;intro hg) | apply zZ);focus ((conv=>whnf);(repeat ((first | (refine zW ?_ ?_;exact gA) | refine zH rfl ?_ | refine zA ?_ | refine zI bA ?_ | refine zI rfl ?_ | refine zJ rfl rfl ?_ | refine zB ?_ | refine zK rfl ?_ | refine zL rfl ?_ | refine zC ?_ | (refine zO ?_ ?_ ?_;exact OA;exact OA) | (refine zP ?_ ?_ ?_;exact OA;exact OA) | refine zM rfl ?_ | (refine zQ ?_ ?_ ?_;exact OA;exact OA) | (refine zR ?_ ?_;exact OA) | (refine zI ?_ ?_;exact NA) | (refine zS ?_ ?_ ?_;exact OA;exact OA) | (refine zT ?_ ?_ ?_;exact OA;exact OA) | (refine zU ?_ ?_ ?_;exact OA;exact OA) | (refine zV ?_ ?_ ?_;exact OA;exact OA) | refine PCall.pure (has_c _ _) (WkT.refl _) ?_ | refine PCall.pure (has_c _ _) cA ?_ | intro _);conv=>whnf));first | exact PShift.same | exact PShift.lit | exact PShift.ep)) | (refine zW ?_ ?_;exact gA) | refine zH rfl ?_ | refine zA ?_ | refine zI bA ?_ | refine zI rfl ?_ | refine zJ rfl rfl ?_ | refine zB ?_ | refine zK rfl ?_ | refine zL rfl ?_ | refine zC ?_ | (refine zO ?_ ?_ ?_;omega;omega) | (refine zP ?_ ?_ ?_;omega;omega) | refine zM rfl ?_ | (refine zQ ?_ ?_ ?_;omega;omega) | (refine zR ?_ ?_;omega) | (refine zI ?_ ?_;exact nA) | (refine zS ?_ ?_ ?_;omega;omega) | (refine zT ?_ ?_ ?_;omega;omega) | (refine zU ?_ ?_ ?_;omega;omega) | (refine zV ?_ ?_ ?_;omega;omega) | refine PCall.pure (has_c _ _) (WkT.refl _) ?_ | refine PCall.pure (has_c _ _) cA ?_ | refine zN rfl rfl rfl ?_ | refine zD ?_ | refine zE ?_ | refine zF ?_ | refine PDraw.sP (some 17) rfl [] [] tt_ok mixed ?_ | intro _ | refine zG ?_);conv=>whnf) | (refine zX (fun hc => ?_) (fun hc => ?_)<;>(try simp only [SY] at hc)<;>first | omega | (conv=>whnf)))
  · have hlt : i < l.length := by omega
    refine PDraw.sE [.tok t1] [10] [11,12,13] tt_ok mixed ?_
    conv=>whnf
    repeat ((first | ((first | (apply zY;intro hg) | apply zZ);focus ((conv=>whnf);(repeat ((first | (refine zW ?_ ?_;exact gA) | refine zH rfl ?_ | refine zA ?_ | refine zI bA ?_ | refine zI rfl ?_ | refine zJ rfl rfl ?_ | refine zB ?_ | refine zK rfl ?_ | refine zL rfl ?_ | refine zC ?_ | (refine zO ?_ ?_ ?_;exact OA;exact OA) | (refine zP ?_ ?_ ?_;exact OA;exact OA) | refine zM rfl ?_ | (refine zQ ?_ ?_ ?_;exact OA;exact OA) | (refine zR ?_ ?_;exact OA) | (refine zI ?_ ?_;exact NA) | (refine zS ?_ ?_ ?_;exact OA;exact OA) | (refine zT ?_ ?_ ?_;exact OA;exact OA) | (refine zU ?_ ?_ ?_;exact OA;exact OA) | (refine zV ?_ ?_ ?_;exact OA;exact OA) | refine PCall.pure (has_c _ _) (WkT.refl _) ?_ | refine PCall.pure (has_c _ _) cA ?_ | intro _);conv=>whnf));first | exact PShift.same | exact PShift.lit | exact PShift.ep)) | (refine zW ?_ ?_;exact gA) | refine zH rfl ?_ | refine zA ?_ | refine zI bA ?_ | refine zI rfl ?_ | refine zJ rfl rfl ?_ | refine zB ?_ | refine zK rfl ?_ | refine zL rfl ?_ | refine zC ?_ | (refine zO ?_ ?_ ?_;omega;omega) | (refine zP ?_ ?_ ?_;omega;omega) | refine zM rfl ?_ | (refine zQ ?_ ?_ ?_;omega;omega) | (refine zR ?_ ?_;omega) | (refine zI ?_ ?_;exact nA) | (refine zS ?_ ?_ ?_;omega;omega) | (refine zT ?_ ?_ ?_;omega;omega) | (refine zU ?_ ?_ ?_;omega;omega) | (refine zV ?_ ?_ ?_;omega;omega) | refine PCall.pure (has_c _ _) (WkT.refl _) ?_ | refine PCall.pure (has_c _ _) cA ?_ | refine zN rfl rfl rfl ?_ | refine zD ?_ | refine zE ?_ | refine zF ?_ | refine PDraw.sP (some 17) rfl [] [] tt_ok mixed ?_ | intro _);conv=>whnf)
    refine PAppend.one l[i] ht1 (Wk.tok _ _ _) (by omega) (by show _ * 8 ≤ _; omega) ?_
    intro t2 ht2
    conv => whnf
    repeat ((first | ((first | (apply zY;intro hg) | apply zZ);focus ((conv=>whnf);(repeat ((first | (refine zW ?_ ?_;exact gA) | refine zH rfl ?_ | refine zA ?_ | refine zI bA ?_ | refine zI rfl ?_ | refine zJ rfl rfl ?_ | refine zB ?_ | refine zK rfl ?_ | refine zL rfl ?_ | refine zC ?_ | (refine zO ?_ ?_ ?_;exact OA;exact OA) | (refine zP ?_ ?_ ?_;exact OA;exact OA) | refine zM rfl ?_ | (refine zQ ?_ ?_ ?_;exact OA;exact OA) | (refine zR ?_ ?_;exact OA) | (refine zI ?_ ?_;exact NA) | (refine zS ?_ ?_ ?_;exact OA;exact OA) | (refine zT ?_ ?_ ?_;exact OA;exact OA) | (refine zU ?_ ?_ ?_;exact OA;exact OA) | (refine zV ?_ ?_ ?_;exact OA;exact OA) | refine PCall.pure (has_c _ _) (WkT.refl _) ?_ | refine PCall.pure (has_c _ _) cA ?_ | intro _);conv=>whnf));first | exact PShift.same | exact PShift.lit | exact PShift.ep)) | (refine zW ?_ ?_;exact gA) | refine zH rfl ?_ | refine zA ?_ | refine zI bA ?_ | refine zI rfl ?_ | refine zJ rfl rfl ?_ | refine zB ?_ | refine zK rfl ?_ | refine zL rfl ?_ | refine zC ?_ | (refine zO ?_ ?_ ?_;omega;omega) | (refine zP ?_ ?_ ?_;omega;omega) | refine zM rfl ?_ | (refine zQ ?_ ?_ ?_;omega;omega) | (refine zR ?_ ?_;omega) | (refine zI ?_ ?_;exact nA) | (refine zS ?_ ?_ ?_;omega;omega) | (refine zT ?_ ?_ ?_;omega;omega) | (refine zU ?_ ?_ ?_;omega;omega) | (refine zV ?_ ?_ ?_;omega;omega) | refine PCall.pure (has_c _ _) (WkT.refl _) ?_ | refine PCall.pure (has_c _ _) cA ?_ | refine zN rfl rfl rfl ?_ | refine zD ?_ | refine zE ?_ | refine zF ?_ | refine PDraw.sP (some 17) rfl [] [] tt_ok mixed ?_ | intro _);conv=>whnf)
    rw [drop_at hlt, bindR, if_neg (by simp only [vOk, SS]; rintro ⟨h, h'⟩; rw [h'] at hc; simp at hc; omega)] at h1
    have h1' := h1 (‹_ ∧ ok = true›).2
    refine loopTo (i + 1, bd ++ [l[i]], false, t2) ⟨by omega, by simp; omega, ht2, fun h => (by cases h), fun _ => h1'.symm⟩ (by show l.length - (i + 1) < l.length - i; omega) wA
  · have hlt : i < l.length := by omega
    refine PDraw.sE [.tok t1] [10] [11,12,13] tt_ok mixed ?_
    conv=>whnf
    repeat ((first | ((first | (apply zY;intro hg) | apply zZ);focus ((conv=>whnf);(repeat ((first | (refine zW ?_ ?_;exact gA) | refine zH rfl ?_ | refine zA ?_ | refine zI bA ?_ | refine zI rfl ?_ | refine zJ rfl rfl ?_ | refine zB ?_ | refine zK rfl ?_ | refine zL rfl ?_ | refine zC ?_ | (refine zO ?_ ?_ ?_;exact OA;exact OA) | (refine zP ?_ ?_ ?_;exact OA;exact OA) | refine zM rfl ?_ | (refine zQ ?_ ?_ ?_;exact OA;exact OA) | (refine zR ?_ ?_;exact OA) | (refine zI ?_ ?_;exact NA) | (refine zS ?_ ?_ ?_;exact OA;exact OA) | (refine zT ?_ ?_ ?_;exact OA;exact OA) | (refine zU ?_ ?_ ?_;exact OA;exact OA) | (refine zV ?_ ?_ ?_;exact OA;exact OA) | refine PCall.pure (has_c _ _) (WkT.refl _) ?_ | refine PCall.pure (has_c _ _) cA ?_ | intro _);conv=>whnf));first | exact PShift.same | exact PShift.lit | exact PShift.ep)) | (refine zW ?_ ?_;exact gA) | refine zH rfl ?_ | refine zA ?_ | refine zI bA ?_ | refine zI rfl ?_ | refine zJ rfl rfl ?_ | refine zB ?_ | refine zK rfl ?_ | refine zL rfl ?_ | refine zC ?_ | (refine zO ?_ ?_ ?_;omega;omega) | (refine zP ?_ ?_ ?_;omega;omega) | refine zM rfl ?_ | (refine zQ ?_ ?_ ?_;omega;omega) | (refine zR ?_ ?_;omega) | (refine zI ?_ ?_;exact nA) | (refine zS ?_ ?_ ?_;omega;omega) | (refine zT ?_ ?_ ?_;omega;omega) | (refine zU ?_ ?_ ?_;omega;omega) | (refine zV ?_ ?_ ?_;omega;omega) | refine PCall.pure (has_c _ _) (WkT.refl _) ?_ | refine PCall.pure (has_c _ _) cA ?_ | refine zN rfl rfl rfl ?_ | refine zD ?_ | refine zE ?_ | refine zF ?_ | refine PDraw.sP (some 17) rfl [] [] tt_ok mixed ?_ | intro _);conv=>whnf)
    refine PAppend.one l[i] ht1 (Wk.tok _ _ _) (by omega) (by show _ * 8 ≤ _; omega) ?_
    intro t2 ht2
    conv => whnf
    repeat ((first | ((first | (apply zY;intro hg) | apply zZ);focus ((conv=>whnf);(repeat ((first | (refine zW ?_ ?_;exact gA) | refine zH rfl ?_ | refine zA ?_ | refine zI bA ?_ | refine zI rfl ?_ | refine zJ rfl rfl ?_ | refine zB ?_ | refine zK rfl ?_ | refine zL rfl ?_ | refine zC ?_ | (refine zO ?_ ?_ ?_;exact OA;exact OA) | (refine zP ?_ ?_ ?_;exact OA;exact OA) | refine zM rfl ?_ | (refine zQ ?_ ?_ ?_;exact OA;exact OA) | (refine zR ?_ ?_;exact OA) | (refine zI ?_ ?_;exact NA) | (refine zS ?_ ?_ ?_;exact OA;exact OA) | (refine zT ?_ ?_ ?_;exact OA;exact OA) | (refine zU ?_ ?_ ?_;exact OA;exact OA) | (refine zV ?_ ?_ ?_;exact OA;exact OA) | refine PCall.pure (has_c _ _) (WkT.refl _) ?_ | refine PCall.pure (has_c _ _) cA ?_ | intro _);conv=>whnf));first | exact PShift.same | exact PShift.lit | exact PShift.ep)) | (refine zW ?_ ?_;exact gA) | refine zH rfl ?_ | refine zA ?_ | refine zI bA ?_ | refine zI rfl ?_ | refine zJ rfl rfl ?_ | refine zB ?_ | refine zK rfl ?_ | refine zL rfl ?_ | refine zC ?_ | (refine zO ?_ ?_ ?_;omega;omega) | (refine zP ?_ ?_ ?_;omega;omega) | refine zM rfl ?_ | (refine zQ ?_ ?_ ?_;omega;omega) | (refine zR ?_ ?_;omega) | (refine zI ?_ ?_;exact nA) | (refine zS ?_ ?_ ?_;omega;omega) | (refine zT ?_ ?_ ?_;omega;omega) | (refine zU ?_ ?_ ?_;omega;omega) | (refine zV ?_ ?_ ?_;omega;omega) | refine PCall.pure (has_c _ _) (WkT.refl _) ?_ | refine PCall.pure (has_c _ _) cA ?_ | refine zN rfl rfl rfl ?_ | refine zD ?_ | refine zE ?_ | refine zF ?_ | refine PDraw.sP (some 17) rfl [] [] tt_ok mixed ?_ | intro _);conv=>whnf)
    rw [drop_at hlt, bindR, if_pos (by simp only [vOk, SS]; exact hc)] at h1
    obtain ⟨_, rfl⟩ := ‹_ ∧ ok = true›
    refine loopTo (i + 1, bd ++ [l[i]], true, t2) ⟨by omega, by simp; omega, ht2, fun _ => h1 rfl, fun h => (by cases h)⟩ (by show l.length - (i + 1) < l.length - i; omega) wA
  · have e : bindR l bound = (ok, bd) := by
      cases ok with
      | false => exact h2 rfl
      | true =>
        have := h1 rfl
        rw [List.drop_of_length_le (by rcases hc with hc | hc; omega; cases hc), bindR] at this
        exact this.symm
    exact PRet.gen (Wk.refl _) ⟨rfl, t1, ht1, by rw [e]⟩
end Go.Cb
namespace Go.Cb
open Go.Proofs
set_option maxRecDepth 100000
set_option maxHeartbeats 4000000
structure Shp where
  fm : Int
  to : Int
  least : Int
  any : Bool
  binds : Bool
abbrev Shp.cells (s : Shp) : List PV := [.int .i64 s.fm, .int .i64 s.to, .int .i64 s.least, .bool s.any, .bool s.binds]
def shapeL (op : Int) : Shp × Bool :=
  if op = 0 ∨ op = 1 ∨ op = 11 then (⟨0, 3, 0, false, false⟩, true) else
  if op = 3 then (⟨0, 3, 3, false, false⟩, true) else
  if op = 5 ∨ op = 6 then (⟨0, 3, 1, true, false⟩, true) else
  if op = 2 then (⟨0, 1, 1, false, false⟩, true) else
  if op = 4 then (⟨0, 2, 1, false, true⟩, true) else
  if op = 7 then (⟨0, 0, 0, false, true⟩, true) else
  if op = 8 ∨ op = 9 then (⟨1, 3, 0, false, true⟩, true) else
  if op = 12 then (⟨1, 3, 1, false, false⟩, true) else
  if op = 13 then (⟨1, 3, 0, false, false⟩, true) else
  if op = 14 then (⟨1, 1, 1, false, false⟩, true) else
  if op = 10 then (⟨2, 3, 0, true, false⟩, true) else
  if op = 15 ∨ op = 16 then (⟨2, 3, 1, false, false⟩, true) else
  if op = 17 ∨ op = 18 then (⟨2, 3, 2, false, false⟩, true) else
  if op = 19 then (⟨3, 3, 0, true, false⟩, true) else
  if op = 20 ∨ op = 21 then (⟨3, 3, 0, false, false⟩, true) else
  if op = 22 then (⟨3, 3, 1, true, false⟩, true) else (⟨0, 0, 0, false, false⟩, false)
theorem shapeOf_c (op : Int) : ACallP Tryz.prog 74 [.int .i64 op] (.tup [.agg (shapeL op).1.cells, .bool (shapeL op).2]) := by
  have hs : shapeL op = shapeL op := rfl
  conv at hs => rhs; unfold shapeL
  refine ACall.of_body tt_ok Tryz.func74 rfl rfl (n := 61) rfl rfl ?_
  conv => whnf
  repeat ((first | ((first | (apply zY;intro hg) | apply zZ);exact stA) | (refine zW ?_ ?_;exact gA) | refine zH rfl ?_ | refine zA ?_ | refine zI bA ?_ | refine zI rfl ?_ | refine zJ rfl rfl ?_ | refine zB ?_ | refine zK rfl ?_ | refine zL rfl ?_ | refine zC ?_ | (refine zO ?_ ?_ ?_;omega;omega) | (refine zP ?_ ?_ ?_;omega;omega) | refine zM rfl ?_ | (refine zQ ?_ ?_ ?_;omega;omega) | (refine zR ?_ ?_;omega) | (refine zI ?_ ?_;exact nA) | (refine zS ?_ ?_ ?_;omega;omega) | (refine zT ?_ ?_ ?_;omega;omega) | (refine zU ?_ ?_ ?_;omega;omega) | (refine zV ?_ ?_ ?_;omega;omega) | refine zN rfl rfl rfl ?_ | refine zD ?_ | refine zE ?_ | refine zF ?_ | intro _);conv=>whnf)
  conv => whnf
  repeat' (first | ((first | ((first | (apply zY;intro hg) | apply zZ);exact stA) | (refine zW ?_ ?_;exact gA) | refine zH rfl ?_ | refine zA ?_ | refine zI bA ?_ | refine zI rfl ?_ | refine zJ rfl rfl ?_ | refine zB ?_ | refine zK rfl ?_ | refine zL rfl ?_ | refine zC ?_ | (refine zO ?_ ?_ ?_;omega;omega) | (refine zP ?_ ?_ ?_;omega;omega) | refine zM rfl ?_ | (refine zQ ?_ ?_ ?_;omega;omega) | (refine zR ?_ ?_;omega) | (refine zI ?_ ?_;exact nA) | (refine zS ?_ ?_ ?_;omega;omega) | (refine zT ?_ ?_ ?_;omega;omega) | (refine zU ?_ ?_ ?_;omega;omega) | (refine zV ?_ ?_ ?_;omega;omega) | refine zN rfl rfl rfl ?_ | refine zD ?_ | refine zE ?_ | refine zF ?_ | intro _ | refine zG ?_);conv=>whnf) | (refine zX (fun hc => ?_) (fun hc => ?_)<;>(try simp only [SY] at hc)<;>first | omega | (conv=>whnf)))
  all_goals repeat (first | rw [if_neg (by omega)] at hs | rw [if_pos (by omega)] at hs)
  all_goals rw [hs]
  all_goals exact PRet.pure wA
def groupB (op : Int) : Bool := op == 7 || op == 9
theorem group_c (t : Trm) : ACallP Tryz.prog 77 [.agg t.cells] (.bool (groupB t.op)) := by
  refine ACall.of_body tt_ok Tryz.func77 rfl rfl (n := 11) rfl rfl ?_
  conv => whnf
  repeat ((first | ((first | (apply zY;intro hg) | apply zZ);exact stA) | (refine zW ?_ ?_;exact gA) | refine zH rfl ?_ | refine zA ?_ | refine zI bA ?_ | refine zI rfl ?_ | refine zJ rfl rfl ?_ | refine zB ?_ | refine zK rfl ?_ | refine zL rfl ?_ | refine zC ?_ | (refine zO ?_ ?_ ?_;omega;omega) | (refine zP ?_ ?_ ?_;omega;omega) | refine zM rfl ?_ | (refine zQ ?_ ?_ ?_;omega;omega) | (refine zR ?_ ?_;omega) | (refine zI ?_ ?_;exact nA) | (refine zS ?_ ?_ ?_;omega;omega) | (refine zT ?_ ?_ ?_;omega;omega) | (refine zU ?_ ?_ ?_;omega;omega) | (refine zV ?_ ?_ ?_;omega;omega) | refine zN rfl rfl rfl ?_ | refine zD ?_ | refine zE ?_ | refine zF ?_ | intro _);conv=>whnf)
  conv => whnf
  repeat' (first | ((first | ((first | (apply zY;intro hg) | apply zZ);exact stA) | (refine zW ?_ ?_;exact gA) | refine zH rfl ?_ | refine zA ?_ | refine zI bA ?_ | refine zI rfl ?_ | refine zJ rfl rfl ?_ | refine zB ?_ | refine zK rfl ?_ | refine zL rfl ?_ | refine zC ?_ | (refine zO ?_ ?_ ?_;omega;omega) | (refine zP ?_ ?_ ?_;omega;omega) | refine zM rfl ?_ | (refine zQ ?_ ?_ ?_;omega;omega) | (refine zR ?_ ?_;omega) | (refine zI ?_ ?_;exact nA) | (refine zS ?_ ?_ ?_;omega;omega) | (refine zT ?_ ?_ ?_;omega;omega) | (refine zU ?_ ?_ ?_;omega;omega) | (refine zV ?_ ?_ ?_;omega;omega) | refine zN rfl rfl rfl ?_ | refine zD ?_ | refine zE ?_ | refine zF ?_ | intro _ | refine zG ?_);conv=>whnf) | (refine zX (fun hc => ?_) (fun hc => ?_)<;>(try simp only [SY] at hc)<;>first | omega | (conv=>whnf)))
  exact PRet.pure (Wk.refl _)
def fitsL (s : Shp) (t : Trm) : Bool :=
  let want : Int := if s.binds = true ∧ t.op ≠ 4 then (t.v.length : Int) + 1 else s.least
  ((t.t.length : Int) == want || (s.any && decide ((t.t.length : Int) ≥ want))) && (s.binds || (t.v.length : Int) == 0)
theorem fits_c (s : Shp) (t : Trm) (hv : t.v.length ≤ 1000000000) : ACallP Tryz.prog 75 [.agg s.cells, .agg t.cells] (.bool (fitsL s t)) := by
  refine ACall.of_body tt_ok Tryz.func75 rfl rfl (n := 45) rfl rfl ?_
  conv => whnf
  repeat ((first | ((first | (apply zY;intro hg) | apply zZ);exact stA) | (refine zW ?_ ?_;exact gA) | refine zH rfl ?_ | refine zA ?_ | refine zI bA ?_ | refine zI rfl ?_ | refine zJ rfl rfl ?_ | refine zB ?_ | refine zK rfl ?_ | refine zL rfl ?_ | refine zC ?_ | (refine zO ?_ ?_ ?_;omega;omega) | (refine zP ?_ ?_ ?_;omega;omega) | refine zM rfl ?_ | (refine zQ ?_ ?_ ?_;omega;omega) | (refine zR ?_ ?_;omega) | (refine zI ?_ ?_;exact nA) | (refine zS ?_ ?_ ?_;omega;omega) | (refine zT ?_ ?_ ?_;omega;omega) | (refine zU ?_ ?_ ?_;omega;omega) | (refine zV ?_ ?_ ?_;omega;omega) | refine zN rfl rfl rfl ?_ | refine zD ?_ | refine zE ?_ | refine zF ?_ | intro _);conv=>whnf)
  conv => whnf
  repeat' (first | ((first | ((first | (apply zY;intro hg) | apply zZ);exact stA) | (refine zW ?_ ?_;exact gA) | refine zH rfl ?_ | refine zA ?_ | refine zI bA ?_ | refine zI rfl ?_ | refine zJ rfl rfl ?_ | refine zB ?_ | refine zK rfl ?_ | refine zL rfl ?_ | refine zC ?_ | (refine zO ?_ ?_ ?_;omega;omega) | (refine zP ?_ ?_ ?_;omega;omega) | refine zM rfl ?_ | (refine zQ ?_ ?_ ?_;omega;omega) | (refine zR ?_ ?_;omega) | (refine zI ?_ ?_;exact nA) | (refine zS ?_ ?_ ?_;omega;omega) | (refine zT ?_ ?_ ?_;omega;omega) | (refine zU ?_ ?_ ?_;omega;omega) | (refine zV ?_ ?_ ?_;omega;omega) | refine zN rfl rfl rfl ?_ | refine zD ?_ | refine zE ?_ | refine zF ?_ | intro _ | refine zG ?_);conv=>whnf) | (refine zX (fun hc => ?_) (fun hc => ?_)<;>(try simp only [SY] at hc)<;>first | omega | (conv=>whnf)))
  · rw [show fitsL s t = (((t.t.length : Int) == (t.v.length : Int) + 1 || (s.any && decide ((t.t.length : Int) ≥ (t.v.length : Int) + 1))) && (s.binds || (t.v.length : Int) == 0)) by unfold fitsL; rw [if_pos hc]]
    exact PRet.pure (Wk.refl _)
  · rw [show fitsL s t = (((t.t.length : Int) == s.least || (s.any && decide ((t.t.length : Int) ≥ s.least))) && (s.binds || (t.v.length : Int) == 0)) by
      unfold fitsL; rw [if_neg (by rcases hc with hc | hc <;> simp [hc])]]
    exact PRet.pure (Wk.refl _)
theorem procs1_c (b : Nat) (t : Trm) (w : Int) : ACall Tryz.prog 129 [.agg t.cells, .ptr b 0] [.box b [.int .i64 w]] (fun y Γ' => y = .bool (t.op != w) ∧ Γ' = [.box b [.int .i64 w]]) := by
  refine ACall.of_body tt_ok Tryz.func129 rfl rfl (n := 8) rfl rfl ?_
  conv => whnf
  repeat ((first | ((first | (apply zY;intro hg) | apply zZ);exact stA) | (refine zW ?_ ?_;exact gA) | refine zH rfl ?_ | refine zA ?_ | refine zI bA ?_ | refine zI rfl ?_ | refine zJ rfl rfl ?_ | refine zB ?_ | refine zK rfl ?_ | refine zL rfl ?_ | refine zC ?_ | (refine zO ?_ ?_ ?_;omega;omega) | (refine zP ?_ ?_ ?_;omega;omega) | refine zM rfl ?_ | (refine zQ ?_ ?_ ?_;omega;omega) | (refine zR ?_ ?_;omega) | (refine zI ?_ ?_;exact nA) | (refine zS ?_ ?_ ?_;omega;omega) | (refine zT ?_ ?_ ?_;omega;omega) | (refine zU ?_ ?_ ?_;omega;omega) | (refine zV ?_ ?_ ?_;omega;omega) | refine zN rfl rfl rfl ?_ | refine zD ?_ | refine zE ?_ | refine zF ?_ | intro _);conv=>whnf)
  conv => whnf
  repeat' (first | ((first | ((first | (apply zY;intro hg) | apply zZ);exact stA) | (refine zW ?_ ?_;exact gA) | refine zH rfl ?_ | refine zA ?_ | refine zI bA ?_ | refine zI rfl ?_ | refine zJ rfl rfl ?_ | refine zB ?_ | refine zK rfl ?_ | refine zL rfl ?_ | refine zC ?_ | (refine zO ?_ ?_ ?_;omega;omega) | (refine zP ?_ ?_ ?_;omega;omega) | refine zM rfl ?_ | (refine zQ ?_ ?_ ?_;omega;omega) | (refine zR ?_ ?_;omega) | (refine zI ?_ ?_;exact nA) | (refine zS ?_ ?_ ?_;omega;omega) | (refine zT ?_ ?_ ?_;omega;omega) | (refine zU ?_ ?_ ?_;omega;omega) | (refine zV ?_ ?_ ?_;omega;omega) | refine zN rfl rfl rfl ?_ | refine zD ?_ | refine zE ?_ | refine zF ?_ | intro _ | refine zG ?_);conv=>whnf) | (refine zX (fun hc => ?_) (fun hc => ?_)<;>(try simp only [SY] at hc)<;>first | omega | (conv=>whnf)))
  exact PRet.gen (Wk.refl _) ⟨rfl, rfl⟩
def procsL (level : Int) (l : List Trm) : Bool := !l.any (fun t => t.op != if level = 3 then 19 else 4)
abbrev cpC (level consts codes size : Int) (frees : Bool) (rb : Nat) : List PV := [.int .i64 level, .int .i64 consts, .int .i64 codes, .bool frees, .int .i64 size, .mp rb]
theorem procs_c (c rb : Nat) (level consts codes size : Int) (frees : Bool) (l : List Trm) : ACall Tryz.prog 82 [.ptr c 0, .sl 4 (l.map Trm.pv) none] [.box c (cpC level consts codes size frees rb)] (fun y Γ' => y = .bool (procsL level l) ∧ Γ' = [.box c (cpC level consts codes size frees rb)]) := by
  refine ACall.of_body tt_ok Tryz.func82 rfl rfl (n := 15) rfl rfl ?_
  conv => whnf
  repeat ((first | ((first | (apply zY;intro hg) | apply zZ);exact stA) | (refine zW ?_ ?_;exact gA) | refine zH rfl ?_ | refine zA ?_ | refine zI bA ?_ | refine zI rfl ?_ | refine zJ rfl rfl ?_ | refine zB ?_ | refine zK rfl ?_ | refine zL rfl ?_ | refine zC ?_ | (refine zO ?_ ?_ ?_;omega;omega) | (refine zP ?_ ?_ ?_;omega;omega) | refine zM rfl ?_ | (refine zQ ?_ ?_ ?_;omega;omega) | (refine zR ?_ ?_;omega) | (refine zI ?_ ?_;exact nA) | (refine zS ?_ ?_ ?_;omega;omega) | (refine zT ?_ ?_ ?_;omega;omega) | (refine zU ?_ ?_ ?_;omega;omega) | (refine zV ?_ ?_ ?_;omega;omega) | refine zN rfl rfl rfl ?_ | refine zD ?_ | refine zE ?_ | refine zF ?_ | intro _);conv=>whnf)
  conv => whnf
  repeat' (first | ((first | ((first | (apply zY;intro hg) | apply zZ);exact stA) | (refine zW ?_ ?_;exact gA) | refine zH rfl ?_ | refine zA ?_ | refine zI bA ?_ | refine zI rfl ?_ | refine zJ rfl rfl ?_ | refine zB ?_ | refine zK rfl ?_ | refine zL rfl ?_ | refine zC ?_ | (refine zO ?_ ?_ ?_;omega;omega) | (refine zP ?_ ?_ ?_;omega;omega) | refine zM rfl ?_ | (refine zQ ?_ ?_ ?_;omega;omega) | (refine zR ?_ ?_;omega) | (refine zI ?_ ?_;exact nA) | (refine zS ?_ ?_ ?_;omega;omega) | (refine zT ?_ ?_ ?_;omega;omega) | (refine zU ?_ ?_ ?_;omega;omega) | (refine zV ?_ ?_ ?_;omega;omega) | refine zN rfl rfl rfl ?_ | refine zD ?_ | refine zE ?_ | refine zF ?_ | intro _ | refine zG ?_);conv=>whnf) | (refine zX (fun hc => ?_) (fun hc => ?_)<;>(try simp only [SY] at hc)<;>first | omega | (conv=>whnf)))
  all_goals rename_i b2
  · refine PCall.go (containsFuncTrm_c 129 [.ptr b2 0] [.box b2 [.int .i64 19]] (fun t => t.op != 19) l (fun x _ => procs1_c b2 x 19)) (WkT.refl _) ?_
    rintro _ _ ⟨rfl, rfl⟩
    conv => whnf
    repeat ((first | ((first | (apply zY;intro hg) | apply zZ);exact stA) | (refine zW ?_ ?_;exact gA) | refine zH rfl ?_ | refine zA ?_ | refine zI bA ?_ | refine zI rfl ?_ | refine zJ rfl rfl ?_ | refine zB ?_ | refine zK rfl ?_ | refine zL rfl ?_ | refine zC ?_ | (refine zO ?_ ?_ ?_;omega;omega) | (refine zP ?_ ?_ ?_;omega;omega) | refine zM rfl ?_ | (refine zQ ?_ ?_ ?_;omega;omega) | (refine zR ?_ ?_;omega) | (refine zI ?_ ?_;exact nA) | (refine zS ?_ ?_ ?_;omega;omega) | (refine zT ?_ ?_ ?_;omega;omega) | (refine zU ?_ ?_ ?_;omega;omega) | (refine zV ?_ ?_ ?_;omega;omega) | refine zN rfl rfl rfl ?_ | refine zD ?_ | refine zE ?_ | refine zF ?_ | intro _);conv=>whnf)
    exact PRet.gen (Wk.bool (by simp [procsL, hc])) ⟨rfl, rfl⟩
  · refine PCall.go (containsFuncTrm_c 129 [.ptr b2 0] [.box b2 [.int .i64 4]] (fun t => t.op != 4) l (fun x _ => procs1_c b2 x 4)) (WkT.refl _) ?_
    rintro _ _ ⟨rfl, rfl⟩
    conv => whnf
    repeat ((first | ((first | (apply zY;intro hg) | apply zZ);exact stA) | (refine zW ?_ ?_;exact gA) | refine zH rfl ?_ | refine zA ?_ | refine zI bA ?_ | refine zI rfl ?_ | refine zJ rfl rfl ?_ | refine zB ?_ | refine zK rfl ?_ | refine zL rfl ?_ | refine zC ?_ | (refine zO ?_ ?_ ?_;omega;omega) | (refine zP ?_ ?_ ?_;omega;omega) | refine zM rfl ?_ | (refine zQ ?_ ?_ ?_;omega;omega) | (refine zR ?_ ?_;omega) | (refine zI ?_ ?_;exact nA) | (refine zS ?_ ?_ ?_;omega;omega) | (refine zT ?_ ?_ ?_;omega;omega) | (refine zU ?_ ?_ ?_;omega;omega) | (refine zV ?_ ?_ ?_;omega;omega) | refine zN rfl rfl rfl ?_ | refine zD ?_ | refine zE ?_ | refine zF ?_ | intro _);conv=>whnf)
    exact PRet.gen (Wk.bool (by simp [procsL, hc])) ⟨rfl, rfl⟩
structure Fct where
  name : List UInt8
  least : Int
  most : Int
  pure : Bool
  folds : Bool
abbrev Fct.cells (f : Fct) : List PV := [.str f.name, .int .i64 f.least, .int .i64 f.most, .bool f.pure, .bool f.folds]
def Fct.none : Fct := ⟨[], 0, 0, false, false⟩
def facts : List Fct := [⟨[43], 0, -1, true, true⟩, ⟨[45], 1, -1, true, true⟩, ⟨[42], 0, -1, true, true⟩, ⟨[47], 1, -1, true, true⟩, ⟨[61], 2, 2, true, true⟩, ⟨[60], 2, 2, true, true⟩,
  ⟨[101, 113, 63], 2, 2, true, true⟩, ⟨[101, 113, 117, 97, 108, 63], 2, 2, true, true⟩, ⟨[110, 111, 116], 1, 1, true, true⟩, ⟨[110, 117, 108, 108, 63], 1, 1, true, true⟩, ⟨[112, 97, 105, 114, 63], 1, 1, true, true⟩,
  ⟨[110, 117, 109, 98, 101, 114, 63], 1, 1, true, true⟩, ⟨[115, 121, 109, 98, 111, 108, 63], 1, 1, true, true⟩, ⟨[98, 111, 111, 108, 101, 97, 110, 63], 1, 1, true, true⟩, ⟨[115, 116, 114, 105, 110, 103, 63], 1, 1, true, true⟩,
  ⟨[118, 101, 99, 116, 111, 114, 63], 1, 1, true, true⟩, ⟨[112, 114, 111, 99, 101, 100, 117, 114, 101, 63], 1, 1, true, true⟩, ⟨[99, 111, 110, 115], 2, 2, true, false⟩, ⟨[99, 97, 114], 1, 1, true, true⟩, ⟨[99, 100, 114], 1, 1, true, true⟩,
  ⟨[108, 105, 115, 116], 0, -1, true, false⟩, ⟨[118, 101, 99, 116, 111, 114], 0, -1, true, false⟩, ⟨[118, 101, 99, 116, 111, 114, 45, 114, 101, 102], 2, 2, true, true⟩, ⟨[118, 101, 99, 116, 111, 114, 45, 108, 101, 110, 103, 116, 104], 1, 1, true, true⟩,
  ⟨[108, 101, 110, 103, 116, 104], 1, 1, true, true⟩, ⟨[118, 111, 105, 100], 0, 0, true, true⟩, ⟨[100, 105, 115, 112, 108, 97, 121], 1, 1, false, false⟩, ⟨[110, 101, 119, 108, 105, 110, 101], 0, 0, false, false⟩,
  ⟨[114, 97, 105, 115, 101], 1, 1, false, false⟩, ⟨[99, 97, 108, 108, 47, 99, 99], 1, 1, false, false⟩, ⟨[97, 112, 112, 108, 121], 2, 2, false, false⟩]
theorem table_c : ACallP Tryz.prog 155 [] (.agg (facts.flatMap Fct.cells)) := by
  refine ACall.of_body tt_ok Tryz.func155 rfl rfl (n := 33) rfl rfl ?_
  conv => whnf
  repeat ((first | ((first | (apply zY;intro hg) | apply zZ);exact stA) | (refine zW ?_ ?_;exact gA) | refine zH rfl ?_ | refine zA ?_ | refine zI bA ?_ | refine zI rfl ?_ | refine zJ rfl rfl ?_ | refine zB ?_ | refine zK rfl ?_ | refine zL rfl ?_ | refine zC ?_ | (refine zO ?_ ?_ ?_;omega;omega) | (refine zP ?_ ?_ ?_;omega;omega) | refine zM rfl ?_ | (refine zQ ?_ ?_ ?_;omega;omega) | (refine zR ?_ ?_;omega) | (refine zI ?_ ?_;exact nA) | (refine zS ?_ ?_ ?_;omega;omega) | (refine zT ?_ ?_ ?_;omega;omega) | (refine zU ?_ ?_ ?_;omega;omega) | (refine zV ?_ ?_ ?_;omega;omega) | refine zN rfl rfl rfl ?_ | refine zD ?_ | refine zE ?_ | refine zF ?_ | intro _);conv=>whnf)
  refine PArrB.lit rfl ?_
  conv => whnf
  repeat ((first | ((first | (apply zY;intro hg) | apply zZ);exact stA) | (refine zW ?_ ?_;exact gA) | refine zH rfl ?_ | refine zA ?_ | refine zI bA ?_ | refine zI rfl ?_ | refine zJ rfl rfl ?_ | refine zB ?_ | refine zK rfl ?_ | refine zL rfl ?_ | refine zC ?_ | (refine zO ?_ ?_ ?_;omega;omega) | (refine zP ?_ ?_ ?_;omega;omega) | refine zM rfl ?_ | (refine zQ ?_ ?_ ?_;omega;omega) | (refine zR ?_ ?_;omega) | (refine zI ?_ ?_;exact nA) | (refine zS ?_ ?_ ?_;omega;omega) | (refine zT ?_ ?_ ?_;omega;omega) | (refine zU ?_ ?_ ?_;omega;omega) | (refine zV ?_ ?_ ?_;omega;omega) | refine zN rfl rfl rfl ?_ | refine zD ?_ | refine zE ?_ | refine zF ?_ | intro _);conv=>whnf)
  exact PRet.pure (Wk.refl _)
def factOf (n : Int) : Fct := if 0 ≤ n ∧ n < 31 then facts.getD n.toNat Fct.none else Fct.none
theorem flat_drop {α : Type} {c : α → List PV} {s : Nat} (hc : ∀ x, (c x).length = s) : ∀ (l : List α) (m : Nat) (h : m < l.length), ((l.flatMap c).drop (m * s)).take s = c l[m]
  | x :: l, 0, _ => by
    simp only [Nat.zero_mul, List.drop_zero, List.flatMap_cons, List.getElem_cons_zero]
    rw [← hc x, List.take_left]
  | x :: l, m + 1, h => by
    have := flat_drop hc l m (by simpa using h)
    rw [Nat.succ_mul, Nat.add_comm, List.flatMap_cons]
    conv => lhs; rw [← hc x]
    rw [List.drop_length_add_append, hc x]
    simpa using this
theorem flat_len {α : Type} {c : α → List PV} {s : Nat} (hc : ∀ x, (c x).length = s) : ∀ (l : List α), (l.flatMap c).length = l.length * s
  | [] => by simp
  | x :: l => by rw [List.flatMap_cons, List.length_append, hc, flat_len hc l, List.length_cons, Nat.succ_mul, Nat.add_comm]
theorem PIndexG.flat {α : Type} {c : α → List PV} {l : List α} {n sz : Nat} {k : IntKind} {m : Int} {K : PV → Prop} (hc : ∀ x, (c x).length = sz) (hn : l.length = n) (h0 : 0 ≤ m) (h1 : m < n) (h : K (.agg (c (l[m.toNat]'(by omega))))) : PIndexG n sz true (l.flatMap c) (.int k m) K :=
  ⟨k, m, rfl, h0, h1, by rw [flat_len hc, hn], .inl ⟨rfl, by rw [flat_drop hc l m.toNat (by omega)]; exact h⟩⟩
theorem Facts_c (n : Int) : ACallP Tryz.prog 127 [.int .i64 n] (.tup [.agg (factOf n).cells, .bool (decide (0 ≤ n ∧ n < 31))]) := by
  refine ACall.of_body tt_ok Tryz.func127 rfl rfl (n := 14) rfl rfl ?_
  conv => whnf
  repeat ((first | ((first | (apply zY;intro hg) | apply zZ);focus ((conv=>whnf);(repeat ((first | (refine zW ?_ ?_;exact gA) | refine zH rfl ?_ | refine zA ?_ | refine zI bA ?_ | refine zI rfl ?_ | refine zJ rfl rfl ?_ | refine zB ?_ | refine zK rfl ?_ | refine zL rfl ?_ | refine zC ?_ | (refine zO ?_ ?_ ?_;exact OA;exact OA) | (refine zP ?_ ?_ ?_;exact OA;exact OA) | refine zM rfl ?_ | (refine zQ ?_ ?_ ?_;exact OA;exact OA) | (refine zR ?_ ?_;exact OA) | (refine zI ?_ ?_;exact NA) | (refine zS ?_ ?_ ?_;exact OA;exact OA) | (refine zT ?_ ?_ ?_;exact OA;exact OA) | (refine zU ?_ ?_ ?_;exact OA;exact OA) | (refine zV ?_ ?_ ?_;exact OA;exact OA) | refine PCall.pure (table_c) (WkT.refl _) ?_ | refine PCall.pure (table_c) cA ?_ | intro _);conv=>whnf));first | exact PShift.same | exact PShift.lit | exact PShift.ep)) | (refine zW ?_ ?_;exact gA) | refine zH rfl ?_ | refine zA ?_ | refine zI bA ?_ | refine zI rfl ?_ | refine zJ rfl rfl ?_ | refine zB ?_ | refine zK rfl ?_ | refine zL rfl ?_ | refine zC ?_ | (refine zO ?_ ?_ ?_;omega;omega) | (refine zP ?_ ?_ ?_;omega;omega) | refine zM rfl ?_ | (refine zQ ?_ ?_ ?_;omega;omega) | (refine zR ?_ ?_;omega) | (refine zI ?_ ?_;exact nA) | (refine zS ?_ ?_ ?_;omega;omega) | (refine zT ?_ ?_ ?_;omega;omega) | (refine zU ?_ ?_ ?_;omega;omega) | (refine zV ?_ ?_ ?_;omega;omega) | refine PCall.pure (table_c) (WkT.refl _) ?_ | refine PCall.pure (table_c) cA ?_ | refine zN rfl rfl rfl ?_ | refine zD ?_ | refine zE ?_ | refine zF ?_ | intro _);conv=>whnf)
  conv => whnf
  repeat' (first | ((first | ((first | (apply zY;intro hg) | apply zZ);focus ((conv=>whnf);(repeat ((first | (refine zW ?_ ?_;exact gA) | refine zH rfl ?_ | refine zA ?_ | refine zI bA ?_ | refine zI rfl ?_ | refine zJ rfl rfl ?_ | refine zB ?_ | refine zK rfl ?_ | refine zL rfl ?_ | refine zC ?_ | (refine zO ?_ ?_ ?_;exact OA;exact OA) | (refine zP ?_ ?_ ?_;exact OA;exact OA) | refine zM rfl ?_ | (refine zQ ?_ ?_ ?_;exact OA;exact OA) | (refine zR ?_ ?_;exact OA) | (refine zI ?_ ?_;exact NA) | (refine zS ?_ ?_ ?_;exact OA;exact OA) | (refine zT ?_ ?_ ?_;exact OA;exact OA) | (refine zU ?_ ?_ ?_;exact OA;exact OA) | (refine zV ?_ ?_ ?_;exact OA;exact OA) | refine PCall.pure (table_c) (WkT.refl _) ?_ | refine PCall.pure (table_c) cA ?_ | intro _);conv=>whnf));first | exact PShift.same | exact PShift.lit | exact PShift.ep)) | (refine zW ?_ ?_;exact gA) | refine zH rfl ?_ | refine zA ?_ | refine zI bA ?_ | refine zI rfl ?_ | refine zJ rfl rfl ?_ | refine zB ?_ | refine zK rfl ?_ | refine zL rfl ?_ | refine zC ?_ | (refine zO ?_ ?_ ?_;omega;omega) | (refine zP ?_ ?_ ?_;omega;omega) | refine zM rfl ?_ | (refine zQ ?_ ?_ ?_;omega;omega) | (refine zR ?_ ?_;omega) | (refine zI ?_ ?_;exact nA) | (refine zS ?_ ?_ ?_;omega;omega) | (refine zT ?_ ?_ ?_;omega;omega) | (refine zU ?_ ?_ ?_;omega;omega) | (refine zV ?_ ?_ ?_;omega;omega) | refine PCall.pure (table_c) (WkT.refl _) ?_ | refine PCall.pure (table_c) cA ?_ | refine zN rfl rfl rfl ?_ | refine zD ?_ | refine zE ?_ | refine zF ?_ | intro _ | refine zG ?_);conv=>whnf) | (refine zX (fun hc => ?_) (fun hc => ?_)<;>(try simp only [SY] at hc)<;>first | omega | (conv=>whnf)))
  · rw [show factOf n = Fct.none by unfold factOf; rw [if_neg (by omega)], show decide (0 ≤ n ∧ n < 31) = false by simp; omega]
    exact PRet.pure wA
  · have hl : n.toNat < facts.length := by show n.toNat < 31; omega
    refine PIndexG.flat (fun _ => rfl) rfl (by omega) (by omega) ?_
    conv => whnf
    repeat ((first | ((first | (apply zY;intro hg) | apply zZ);focus ((conv=>whnf);(repeat ((first | (refine zW ?_ ?_;exact gA) | refine zH rfl ?_ | refine zA ?_ | refine zI bA ?_ | refine zI rfl ?_ | refine zJ rfl rfl ?_ | refine zB ?_ | refine zK rfl ?_ | refine zL rfl ?_ | refine zC ?_ | (refine zO ?_ ?_ ?_;exact OA;exact OA) | (refine zP ?_ ?_ ?_;exact OA;exact OA) | refine zM rfl ?_ | (refine zQ ?_ ?_ ?_;exact OA;exact OA) | (refine zR ?_ ?_;exact OA) | (refine zI ?_ ?_;exact NA) | (refine zS ?_ ?_ ?_;exact OA;exact OA) | (refine zT ?_ ?_ ?_;exact OA;exact OA) | (refine zU ?_ ?_ ?_;exact OA;exact OA) | (refine zV ?_ ?_ ?_;exact OA;exact OA) | refine PCall.pure (table_c) (WkT.refl _) ?_ | refine PCall.pure (table_c) cA ?_ | intro _);conv=>whnf));first | exact PShift.same | exact PShift.lit | exact PShift.ep)) | (refine zW ?_ ?_;exact gA) | refine zH rfl ?_ | refine zA ?_ | refine zI bA ?_ | refine zI rfl ?_ | refine zJ rfl rfl ?_ | refine zB ?_ | refine zK rfl ?_ | refine zL rfl ?_ | refine zC ?_ | (refine zO ?_ ?_ ?_;omega;omega) | (refine zP ?_ ?_ ?_;omega;omega) | refine zM rfl ?_ | (refine zQ ?_ ?_ ?_;omega;omega) | (refine zR ?_ ?_;omega) | (refine zI ?_ ?_;exact nA) | (refine zS ?_ ?_ ?_;omega;omega) | (refine zT ?_ ?_ ?_;omega;omega) | (refine zU ?_ ?_ ?_;omega;omega) | (refine zV ?_ ?_ ?_;omega;omega) | refine PCall.pure (table_c) (WkT.refl _) ?_ | refine PCall.pure (table_c) cA ?_ | refine zN rfl rfl rfl ?_ | refine zD ?_ | refine zE ?_ | refine zF ?_ | intro _);conv=>whnf)
    rw [show decide (0 ≤ n ∧ n < 31) = true by simp; omega]
    rw [show factOf n = facts[n.toNat] by unfold factOf; rw [if_pos (by omega)]; simp [List.getD, hl]]
    exact PRet.pure wA
end Go.Cb
namespace Go.Cb
open Go.RowKit (Below)
set_option maxRecDepth 100000
set_option maxHeartbeats 4000000
section
variable {P : Program} {tt : Nat → TI}
structure Split0 (ops : Array Oper) (tab : List Nat) (A R1 R2 : List Nat) : Prop where
  pa : A.Pairwise fun j i => anc tab i j = true ∨ apartAt ops j i = true
  par : ∀ j ∈ A, ∀ i ∈ R1, anc tab i j = true ∨ apartAt ops j i = true
  r1 : R1.Pairwise fun j i => anc tab i j = true
  tl : ∀ j ∈ A ++ R1, ∀ i ∈ R2, anc tab i j = true
  ug : ∀ i ∈ R1, ∀ o, ops[i]? = some o → o.guard = none
  nd : ∀ i ∈ R1, ∀ o, ops[i]? = some o → noDef o.op = true
theorem Split0.dropA {ops : Array Oper} {tab A1 A2 R1 R2 : List Nat} {i : Nat} (h : Split0 ops tab (A1 ++ i :: A2) R1 R2) : Split0 ops tab (A1 ++ A2) R1 R2 := by
  have hs : List.Sublist (A1 ++ A2) (A1 ++ i :: A2) := List.Sublist.append (List.Sublist.refl _) (List.sublist_cons_self _ _)
  refine ⟨h.pa.sublist hs, fun j hj => h.par j (hs.subset hj), h.r1, fun j hj => h.tl j ?_, h.ug, h.nd⟩
  · exact (List.Sublist.append hs (List.Sublist.refl R1)).subset hj
theorem Split0.dropR {ops : Array Oper} {tab A R1 R2 : List Nat} {i : Nat} (h : Split0 ops tab A (i :: R1) R2) : Split0 ops tab A R1 R2 := by
  have hs : List.Sublist (A ++ R1) (A ++ i :: R1) := List.Sublist.append (List.Sublist.refl _) (List.sublist_cons_self _ _)
  exact ⟨h.pa, fun j hj i hi => h.par j hj i (by simp [hi]), (List.pairwise_cons.1 h.r1).2, fun j hj => h.tl j (hs.subset hj), fun j hj => h.ug j (by simp [hj]), fun j hj => h.nd j (by simp [hj])⟩
theorem game0 (hk : TT.ok P tt) (rd : Option Nat) (nn : Nat) {ops : Array Oper} {tab R2 : List Nat} (hc : tabChk ops tab = true) {w0 : World} {M Γ2 : List Ent} {F0 : Fz} {ds : List Deferred} {Q' : Exit → Act → World → Prop}
    {Tl : List PV → List Ent → Prop} (hTl : ∀ (fuel : Nat) (listed : Array Bool) (T : List PV) (Γ : List Ent) (F : Fz) (a : Act) (w : World), R2.length ≤ fuel → Down ops listed → Pend ops listed R2 → F0.le F → Sim w0 F (Γ ++ M) w → RepT F T a.tmps.toList → a.defers = ds →
      Tl T Γ → wpAnyIn (Fen rd) nn P .any ops Q' fuel listed a w) :
    ∀ (n : Nat) (A R1 : List Nat) (fuel : Nat) (listed : Array Bool) (T : List PV) (Γ1 : List Ent) (F : Fz) (a : Act) (w : World), A.length + R1.length = n → n + R2.length ≤ fuel →
      Down ops listed → Pend ops listed (A ++ (R1 ++ R2)) → Split0 ops tab A R1 R2 → F0.le F → Sim w0 F (Γ1 ++ (Γ2 ++ M)) w → RepT F T a.tmps.toList → a.defers = ds →
      (SSeq P tt ops.toList (A.filterMap (ops[·]?)) T Γ2 fun T' => WOps P tt ops.toList (R1.filterMap (ops[·]?)) T' Γ1 [] fun T2 Γ1' _ => Tl T2 (Γ1' ++ Γ2)) →
      wpAnyIn (Fen rd) nn P .any ops Q' fuel listed a w := by
  intro n
  induction n with
  | zero =>
    intro A R1 fuel listed T Γ1 F a w hn hf hd hp hsp hle hS hT hds h
    obtain rfl : A = [] := List.eq_nil_of_length_eq_zero (by omega)
    obtain rfl : R1 = [] := List.eq_nil_of_length_eq_zero (by omega)
    exact hTl fuel listed T (Γ1 ++ Γ2) F a w (by simp at hn; omega) hd (by simpa using hp) hle (by simpa using hS) hT hds h
  | succ n ih =>
    intro A R1 fuel listed T Γ1 F a w hn hf hd hp hsp hle hS hT hds h
    cases fuel with
    | zero => omega
    | succ fuel =>
    refine ⟨fun hnil => ?_, fun i hi => ?_⟩
    · exfalso
      cases hAR : A ++ (R1 ++ R2) with
      | nil => simp at hAR; rw [hAR.1, hAR.2.1] at hn; simp at hn
      | cons x xs =>
        rw [hAR] at hp
        obtain ⟨k, hk'⟩ := ready_exists hc hp
        rw [hnil] at hk'
        cases hk'
    · obtain ⟨o, ho⟩ := hp.2.2 i (hp.ready hi)
      have un : ∀ {j : Nat}, j ∈ A ++ (R1 ++ R2) → anc tab i j = true → False := fun {j} hj ha => blocked hc hd i ho ha ((hp.2.1 j).2 hj) hi
      have free : ∀ {j : Nat} {x : Oper}, j ∈ A ++ (R1 ++ R2) → ops[j]? = some x → (anc tab i j = true ∨ apartAt ops j i = true) → x.apart ops o = true := by
        intro j x hj hx h
        rcases h with h | h
        · exact (un hj h).elim
        · simpa [apartAt, hx, ho] using h
      have hmem := hp.ready hi
      rw [List.mem_append, List.mem_append] at hmem
      rcases hmem with hm | hm | hm
      ·
        obtain ⟨A1, A2, rfl⟩ := List.append_of_mem hm
        rw [filterMap_split ho] at h
        have hap : ∀ x ∈ A1.filterMap (ops[·]?), x.apart ops o = true := by
          intro x hx
          obtain ⟨j, hj, hx⟩ := List.mem_filterMap.1 hx
          exact free (by simp [hj]) hx ((List.pairwise_append.1 hsp.pa).2.2 j hj i (by simp))
        obtain ⟨v, h1, h2⟩ := SSeq_move _ T hap h
        have hS2 : Sim w0 F (Γ2 ++ (Γ1 ++ M)) w := hS.perm (by
          rw [← List.append_assoc, ← List.append_assoc]
          exact List.perm_append_comm.append_right M)
        unfold wpOpIn
        simp only [ho]
        have key := SVal_sound hk (rd := rd) (nn := nn) (Q := Q') (next := fun a w => wpAnyIn (Fen rd) nn P .any ops Q' fuel (listed.setIfInBounds i true) a w) hS2 hT h1 ?_
        · split at key <;> rename_i hw
          · rw [if_pos hw]; exact key
          · rw [if_neg hw]; exact ⟨fun _ _ => trivial, key⟩
        intro F' u w' hle' hS' hx
        refine ih (A1 ++ A2) R1 fuel _ (putT T o.dst v) Γ1 F' _ w' (by simp at hn ⊢; omega) (by omega) (hd.set hi) ?_ hsp.dropA (Fz.le_trans hle hle') ?_ (put_rep (RepT.mono hle' _ _ hT) hx o.dst)
          ((put_defers a o.dst u).trans hds) ?_
        · have := Pend.set (l1 := A1) (l2 := A2 ++ (R1 ++ R2)) (i := i) (by simpa using hp)
          rwa [List.append_assoc]
        · exact hS'.perm (by
            rw [← List.append_assoc, ← List.append_assoc]
            exact List.perm_append_comm.append_right M)
        · rw [List.filterMap_append]; exact h2
      ·
        cases R1 with
        | nil => cases hm
        | cons r R1 =>
          rcases List.mem_cons.1 hm with hir | hir
          · subst hir
            have hg : o.guard = none := hsp.ug i (by simp) o ho
            have e1 : (i :: R1).filterMap (ops[·]?) = o :: R1.filterMap (ops[·]?) := by rw [List.filterMap_cons, ho]
            rw [e1] at h
            have hap : ∀ x ∈ A.filterMap (ops[·]?), x.apart ops o = true := by
              intro x hx
              obtain ⟨j, hj, hx⟩ := List.mem_filterMap.1 hx
              exact free (by simp [hj]) hx (hsp.par j hj i (by simp))
            have h2 := SSeq_eff (kk := fun T' Γ1' => WOps P tt ops.toList (R1.filterMap (ops[·]?)) T' Γ1' [] fun T2 Γ1' _ => Tl T2 (Γ1' ++ Γ2)) _ T hap (by
              have hnd := hsp.nd i (by simp) o ho
              simpa only [WOps, hg, WOpD_noDef hnd, putK_T] using h)
            unfold wpOpIn
            simp only [ho]
            rw [if_pos (by simp [Region.wanted, hg])]
            refine WOp_sound hk (M := Γ2 ++ M) hS hT h2 ?_
            rintro F' x Γ' v' w' hle' hS' hx hK
            refine ih A R1 fuel _ (putT T o.dst x) Γ' F' _ w' (by simp at hn ⊢; omega) (by omega) (hd.set hi) ?_ hsp.dropR (Fz.le_trans hle hle') hS' (put_rep (RepT.mono hle' _ _ hT) hx o.dst)
              ((put_defers a o.dst v').trans hds) hK
            have := Pend.set (l1 := A) (l2 := R1 ++ R2) (i := i) (by simpa using hp)
            simpa using this
          · exact (un (j := r) (by simp) ((List.pairwise_cons.1 hsp.r1).1 i hir)).elim
      ·
        exfalso
        cases A with
        | cons j A => exact un (j := j) (by simp) (hsp.tl j (by simp) i hm)
        | nil =>
          cases R1 with
          | cons j R1 => exact un (j := j) (by simp) (hsp.tl j (by simp) i hm)
          | nil => simp at hn
def split2B (ops : Array Oper) (tab A R1 B R2 : List Nat) : Bool :=
  tabChk ops tab &&
  pairB (fun j i => anc tab i j || apartAt ops j i) A && A.all (fun j => R1.all fun i => anc tab i j || apartAt ops j i) &&
  pairB (fun j i => anc tab i j) R1 && (A ++ R1).all (fun j => (B ++ R2).all fun i => anc tab i j) &&
  R1.all (fun i => match ops[i]? with | some o => o.guard.isNone | none => false) && (R1 ++ R2).all (fun i => match ops[i]? with | some o => noDef o.op | none => false) &&
  pairB (fun j i => anc tab i j || apartAt ops j i) B && pairB (fun j i => anc tab i j) R2 && B.all (fun j => R2.all fun i => anc tab i j) &&
  pairB (fun j i => !(Nat.beq j i)) (A ++ (R1 ++ (B ++ R2))) && (List.range ops.size).all (fun i => (A ++ (R1 ++ (B ++ R2))).contains i) && (A ++ (R1 ++ (B ++ R2))).all (fun i => Nat.blt i ops.size)
theorem Split0.of {ops : Array Oper} {tab A R1 B R2 : List Nat} (h : split2B ops tab A R1 B R2 = true) :
    tabChk ops tab = true ∧ Split0 ops tab A R1 (B ++ R2) ∧ Split ops tab B [] R2 ∧ Pend ops (Array.replicate ops.size false) (A ++ (R1 ++ (B ++ R2))) := by
  simp only [split2B, Bool.and_eq_true] at h
  obtain ⟨⟨⟨⟨⟨⟨⟨⟨⟨⟨⟨⟨h0, h1⟩, h2⟩, h3⟩, h5⟩, h6⟩, h6'⟩, b1⟩, b2⟩, b3⟩, h7⟩, h8⟩, h9⟩ := h
  have hlt : ∀ i ∈ A ++ (R1 ++ (B ++ R2)), i < ops.size := fun i hi => by
    have := List.all_eq_true.1 h9 i hi
    simpa [Nat.blt, Nat.succ_le_iff] using this
  have hnd : ∀ i ∈ R1 ++ R2, ∀ o, ops[i]? = some o → noDef o.op = true := by
    intro i hi o ho
    have := List.all_eq_true.1 h6' i hi
    rw [ho] at this
    exact this
  refine ⟨h0, ⟨?_, ?_, pairB_iff h3, ?_, ?_, fun i hi => hnd i (by simp [hi])⟩, ⟨?_, fun _ _ _ h => (by cases h), List.Pairwise.nil, pairB_iff b2, ?_, fun _ h => (by cases h), fun i hi => hnd i (by simpa using .inr (by simpa using hi))⟩, ?_, ?_, ?_⟩
  · exact (pairB_iff h1).imp fun h => by simpa using h
  · intro j hj i hi
    have := List.all_eq_true.1 (List.all_eq_true.1 h2 j hj) i hi
    simpa using this
  · intro j hj i hi
    exact List.all_eq_true.1 (List.all_eq_true.1 h5 j hj) i hi
  · intro i hi o ho
    have := List.all_eq_true.1 h6 i hi
    rw [ho] at this
    simpa using this
  · exact (pairB_iff b1).imp fun h => by simpa using h
  · intro j hj i hi
    exact List.all_eq_true.1 (List.all_eq_true.1 b3 j (by simpa using hj)) i hi
  · exact (pairB_iff h7).imp fun h => by
      intro e
      subst e
      simp at h
  · intro i
    constructor
    · intro hi
      rcases Nat.lt_or_ge i ops.size with h' | h'
      · have := List.all_eq_true.1 h8 i (List.mem_range.2 h')
        simpa only [List.contains_iff_mem] using this
      · simp [Array.getElem?_eq_none, h'] at hi
    · intro hi
      simp [hlt i hi]
  · intro i hi
    exact ⟨_, Array.getElem?_eq_getElem (hlt i hi)⟩
theorem PDraw.split2 (hk : TT.ok P tt) (hm : P.follows .mixedOrders = true) {ops : Array Oper} {T : List PV} {Γ Γ2 : List Ent} {K : List PV → List Ent → Prop} (tab A R1 B R2 : List Nat) (Γ1 : List Ent)
    (hchk : split2B ops tab A R1 B R2 = true) [hp : PickL Γ Γ1 Γ2]
    (h : SSeq P tt ops.toList (pickO ops.toList A) T Γ2 fun T' => WOps P tt ops.toList (pickO ops.toList R1) T' Γ1 [] fun T2 Γ1' _ => appE Γ1' Γ2 fun Γ' =>
      SSeq P tt ops.toList (pickO ops.toList B) T2 Γ' fun T3 => WOps P tt ops.toList (pickO ops.toList R2) T3 Γ' [] fun T' Γ' _ => K T' Γ') : PDraw P ops T Γ K := by
  refine ⟨fun rd nn id w0 F M w a Q' hS hT hQ => wpIn_region_any hm ?_⟩
  obtain ⟨hc, hsp, hsp2, hpend⟩ := Split0.of hchk
  have hlen : A.length + R1.length + (B ++ R2).length ≤ ops.size := by
    have hsub : (A ++ (R1 ++ (B ++ R2))) ⊆ List.range ops.size := fun i hi => by
      obtain ⟨o, ho⟩ := hpend.2.2 i hi
      exact List.mem_range.2 (Array.getElem?_eq_some_iff.1 ho).1
    have := hpend.1.length_le_of_subset hsub
    simpa [Nat.add_assoc] using this
  have hS' : Sim w0 F (Γ1 ++ (Γ2 ++ M)) { w with drawn := w.drawn + 1 } := by
    have := (hS.perm (hp.p.append_right M)).of_heap (w' := { w with drawn := w.drawn + 1 }) rfl rfl rfl rfl
    simpa using this
  refine game0 hk rd nn hc (R2 := B ++ R2) (F0 := F) (ds := a.defers) (Tl := fun T2 Γ' => SSeq P tt ops.toList (pickO ops.toList B) T2 Γ' fun T3 => WOps P tt ops.toList (pickO ops.toList R2) T3 Γ' [] fun T' Γ' _ => K T' Γ') ?_ _ A R1 ops.size _ T Γ1 F a _ rfl hlen ?_ hpend hsp (Fz.le_refl F) hS' hT rfl ?_
  · intro fuel listed T2 Γ' F' a' w' hf hd hpd hle hS2 hT2 hds ht
    refine game hk rd nn hc (R2 := R2) (F0 := F) (ds := a.defers) hQ _ B [] fuel listed T2 [] F' a' w' rfl (by simpa using hf) hd (by simpa using hpd) hsp2 hle (Γ2 := Γ') (by simpa using hS2) hT2 hds ?_
    simpa only [pickO_eq, Array.getElem?_toList, List.filterMap_nil, WOps, List.nil_append] using ht
  · intro k o hk'
    rcases Nat.lt_or_ge k ops.size with h' | h'
    · simp [h'] at hk'
    · intro ho
      have := (Array.getElem?_eq_some_iff.1 ho).1
      omega
  · simpa only [pickO_eq, Array.getElem?_toList, appE_eq] using h
theorem PCallD.go {f : FuncId} {args args' : List PV} {Γ Γ1 Γ2 : List Ent} {Q K : PV → List Ent → Prop} (h : ACallD P f args' Γ1 Q) (hw : WkT args args') [hp : PickL Γ Γ1 Γ2]
    (k : ∀ y Γ1', Q y Γ1' → appE Γ1' Γ2 fun Γ' => K y Γ') : PCallD P f args Γ K := PCallD.gen h hw (hp := hp) fun y Γ1' hq => by have := k y Γ1' hq; rwa [appE_eq] at this
theorem Wk.opt {q : Bool} (h : q = true) (x : PV) : Wk (.opt q x) x := fun F v r => by
  simp only [Rep] at r
  exact r.1 h
theorem PSliceM.hi {sz : Nat} {Γ : List Ent} {t : Tok} {es : List PV} {put : Tok → List PV → List Ent} [hp : PickRow Γ t es put] {k : IntKind} {n : Int} {i : Nat} [x : IdxOf n i] {K : PV → List Ent → Prop} (hs : t.s = sz) (h0 : 0 ≤ n) (hl : n ≤ es.length)
    (hk : ∀ t' : Tok, t'.e = t.e → t'.s = t.s → K (.ms t') (put t' (es.take i))) : PSliceM sz t none (some (.int k n)) Γ K := by
  obtain ⟨Γ1, Γ2, h1, h2⟩ := hp.at_
  have e := x.eq h0
  exact ⟨es, Γ1, Γ2, i, h1, hs, rfl, e, by omega, fun t' a b => by rw [← h2]; exact hk t' a b⟩
end
end Go.Cb
namespace Go.Cb
open Go.Proofs
set_option maxRecDepth 100000
set_option maxHeartbeats 4000000
theorem growNil0_c (n : Int) (h0 : 0 ≤ n) (h1 : n ≤ 1000000000) : ACall Tryz.prog 130 [.nil, .int .i64 n] [] (fun y Γ' => (∃ t : Tok, t.e = 3 ∧ t.s = 1 ∧ y = .ms t ∧ Γ' = [.row t []]) ∨ (y = .nil ∧ Γ' = [])) := by
  refine ACall.of_body tt_ok Tryz.func130 rfl rfl (n := 27) rfl rfl ?_
  conv => whnf
  repeat ((first | ((first | (apply zY;intro hg) | apply zZ);exact stA) | (refine zW ?_ ?_;exact gA) | refine zH rfl ?_ | refine zA ?_ | refine zI bA ?_ | refine zI rfl ?_ | refine zJ rfl rfl ?_ | refine zB ?_ | refine zK rfl ?_ | refine zL rfl ?_ | refine zC ?_ | (refine zO ?_ ?_ ?_;omega;omega) | (refine zP ?_ ?_ ?_;omega;omega) | refine zM rfl ?_ | (refine zQ ?_ ?_ ?_;omega;omega) | (refine zR ?_ ?_;omega) | (refine zI ?_ ?_;exact nA) | (refine zS ?_ ?_ ?_;omega;omega) | (refine zT ?_ ?_ ?_;omega;omega) | (refine zU ?_ ?_ ?_;omega;omega) | (refine zV ?_ ?_ ?_;omega;omega) | refine zN rfl rfl rfl ?_ | refine zD ?_ | refine zE ?_ | refine zF ?_ | intro _);conv=>whnf)
  conv => whnf
  repeat' (first | ((first | ((first | (apply zY;intro hg) | apply zZ);exact stA) | (refine zW ?_ ?_;exact gA) | refine zH rfl ?_ | refine zA ?_ | refine zI bA ?_ | refine zI rfl ?_ | refine zJ rfl rfl ?_ | refine zB ?_ | refine zK rfl ?_ | refine zL rfl ?_ | refine zC ?_ | (refine zO ?_ ?_ ?_;omega;omega) | (refine zP ?_ ?_ ?_;omega;omega) | refine zM rfl ?_ | (refine zQ ?_ ?_ ?_;omega;omega) | (refine zR ?_ ?_;omega) | (refine zI ?_ ?_;exact nA) | (refine zS ?_ ?_ ?_;omega;omega) | (refine zT ?_ ?_ ?_;omega;omega) | (refine zU ?_ ?_ ?_;omega;omega) | (refine zV ?_ ?_ ?_;omega;omega) | refine zN rfl rfl rfl ?_ | refine zD ?_ | refine zE ?_ | refine zF ?_ | intro _ | refine zG ?_);conv=>whnf) | (refine zX (fun hc => ?_) (fun hc => ?_)<;>(try simp only [SY] at hc)<;>first | omega | (conv=>whnf)))
  · refine PSide.of ⟨by simp [boundIs], by simp [boundIs]⟩ ?_
    conv => whnf
    repeat ((first | ((first | (apply zY;intro hg) | apply zZ);exact stA) | (refine zW ?_ ?_;exact gA) | refine zH rfl ?_ | refine zA ?_ | refine zI bA ?_ | refine zI rfl ?_ | refine zJ rfl rfl ?_ | refine zB ?_ | refine zK rfl ?_ | refine zL rfl ?_ | refine zC ?_ | (refine zO ?_ ?_ ?_;omega;omega) | (refine zP ?_ ?_ ?_;omega;omega) | refine zM rfl ?_ | (refine zQ ?_ ?_ ?_;omega;omega) | (refine zR ?_ ?_;omega) | (refine zI ?_ ?_;exact nA) | (refine zS ?_ ?_ ?_;omega;omega) | (refine zT ?_ ?_ ?_;omega;omega) | (refine zU ?_ ?_ ?_;omega;omega) | (refine zV ?_ ?_ ?_;omega;omega) | refine zN rfl rfl rfl ?_ | refine zD ?_ | refine zE ?_ | refine zF ?_ | intro _);conv=>whnf)
    refine PZeros.mk ⟨by omega, by omega, by show _ * 8 ≤ _; omega, rfl, fun t he hs => ?_⟩
    conv => whnf
    repeat ((first | ((first | (apply zY;intro hg) | apply zZ);exact stA) | (refine zW ?_ ?_;exact gA) | refine zH rfl ?_ | refine zA ?_ | refine zI bA ?_ | refine zI rfl ?_ | refine zJ rfl rfl ?_ | refine zB ?_ | refine zK rfl ?_ | refine zL rfl ?_ | refine zC ?_ | (refine zO ?_ ?_ ?_;omega;omega) | (refine zP ?_ ?_ ?_;omega;omega) | refine zM rfl ?_ | (refine zQ ?_ ?_ ?_;omega;omega) | (refine zR ?_ ?_;omega) | (refine zI ?_ ?_;exact nA) | (refine zS ?_ ?_ ?_;omega;omega) | (refine zT ?_ ?_ ?_;omega;omega) | (refine zU ?_ ?_ ?_;omega;omega) | (refine zV ?_ ?_ ?_;omega;omega) | refine zN rfl rfl rfl ?_ | refine zD ?_ | refine zE ?_ | refine zF ?_ | intro _);conv=>whnf)
    refine PSliceM.hi hs (by omega) (by simp; omega) (fun t2 he2 hs2 => ?_)
    conv => whnf
    repeat ((first | ((first | (apply zY;intro hg) | apply zZ);exact stA) | (refine zW ?_ ?_;exact gA) | refine zH rfl ?_ | refine zA ?_ | refine zI bA ?_ | refine zI rfl ?_ | refine zJ rfl rfl ?_ | refine zB ?_ | refine zK rfl ?_ | refine zL rfl ?_ | refine zC ?_ | (refine zO ?_ ?_ ?_;omega;omega) | (refine zP ?_ ?_ ?_;omega;omega) | refine zM rfl ?_ | (refine zQ ?_ ?_ ?_;omega;omega) | (refine zR ?_ ?_;omega) | (refine zI ?_ ?_;exact nA) | (refine zS ?_ ?_ ?_;omega;omega) | (refine zT ?_ ?_ ?_;omega;omega) | (refine zU ?_ ?_ ?_;omega;omega) | (refine zV ?_ ?_ ?_;omega;omega) | refine zN rfl rfl rfl ?_ | refine zD ?_ | refine zE ?_ | refine zF ?_ | intro _);conv=>whnf)
    show PRet _ [.row t2 []] _
    exact PRet.gen (Wk.refl _) (.inl ⟨t2, he2.trans he, hs2.trans hs, rfl, rfl⟩)
  · exact PRet.gen (Wk.refl _) (.inr ⟨rfl, rfl⟩)
theorem Shift.nilRow (s : Nat) (e : TypeId) (Γ : List Ent) : Shift .nil Γ (.ms (nilTok s e)) (.row (nilTok s e) [] :: Γ) := fun w0 F M w v hS hx =>
  let ⟨F', h1, h2⟩ := Ghost.nilRow s e Γ w0 F M w hS
  ⟨F', h1, h2, Wk.nilRow s e F' v (Rep.mono h1 _ _ hx)⟩
theorem Shift.refl (x : PV) (Γ : List Ent) : Shift x Γ x Γ := fun _ F _ _ _ hS hx => ⟨F, Fz.le_refl F, hS, hx⟩
theorem growNil_c (n : Int) (h0 : 0 ≤ n) (h1 : n ≤ 1000000000) : ACall Tryz.prog 130 [.nil, .int .i64 n] [] (fun y Γ' => ∃ t : Tok, t.e = 3 ∧ t.s = 1 ∧ y = .ms t ∧ Γ' = [.row t (([] : List Int).map (PV.int .i64))]) :=
  (growNil0_c n h0 h1).shift fun y Γ' h => by
    rcases h with ⟨t, h1, h2, rfl, rfl⟩ | ⟨rfl, rfl⟩
    · exact ⟨_, _, Shift.refl _ _, t, h1, h2, rfl, rfl⟩
    · exact ⟨_, _, Shift.nilRow 1 3 _, _, rfl, rfl, rfl, rfl⟩
def idxL : List Int → Int → Nat → Int
  | [], _, _ => -1
  | x :: l, v, i => if v = x then (i : Int) else idxL l v (i + 1)
theorem idxL_mem : ∀ (l : List Int) (v : Int) (i : Nat), decide (idxL l v i ≥ 0) = l.contains v
  | [], _, _ => by simp [idxL]
  | x :: l, v, i => by
    rw [idxL, List.contains_cons]
    by_cases h : v = x
    · rw [if_pos h]; simp [h]
    · rw [if_neg h, idxL_mem l v (i + 1)]; simp [h]
theorem indexInt_c (l : List Int) (v : Int) : ACallP Tryz.prog 88 [.sl 1 (l.map (PV.int .i64)) none, .int .i64 v] (.int .i64 (idxL l v 0)) := by
  refine ACall.of_body tt_ok Tryz.func88 rfl rfl (n := 19) rfl rfl ?_
  conv => whnf
  repeat ((first | ((first | (apply zY;intro hg) | apply zZ);exact stA) | (refine zW ?_ ?_;exact gA) | refine zH rfl ?_ | refine zA ?_ | refine zI bA ?_ | refine zI rfl ?_ | refine zJ rfl rfl ?_ | refine zB ?_ | refine zK rfl ?_ | refine zL rfl ?_ | refine zC ?_ | (refine zO ?_ ?_ ?_;omega;omega) | (refine zP ?_ ?_ ?_;omega;omega) | refine zM rfl ?_ | (refine zQ ?_ ?_ ?_;omega;omega) | (refine zR ?_ ?_;omega) | (refine zI ?_ ?_;exact nA) | (refine zS ?_ ?_ ?_;omega;omega) | (refine zT ?_ ?_ ?_;omega;omega) | (refine zU ?_ ?_ ?_;omega;omega) | (refine zV ?_ ?_ ?_;omega;omega) | refine zN rfl rfl rfl ?_ | refine zD ?_ | refine zE ?_ | refine zF ?_ | intro _);conv=>whnf)
  refine PLoop.keep [4, 5, 8, 9, 10, 11, 12, 13, 14, 15, 16, 17, 18] (fun i : Nat => [(8, .int .i64 i)]) (fun i => i ≤ l.length ∧ idxL (l.drop i) v i = idxL l v 0) (fun i => l.length - i) 0 ⟨by omega, rfl⟩ wA ?_
  rintro i ⟨h1, h2⟩
  conv => whnf
  repeat' (first | ((first | ((first | (apply zY;intro hg) | apply zZ);exact stA) | (refine zW ?_ ?_;exact gA) | refine zH rfl ?_ | refine zA ?_ | refine zI bA ?_ | refine zI rfl ?_ | refine zJ rfl rfl ?_ | refine zB ?_ | refine zK rfl ?_ | refine zL rfl ?_ | refine zC ?_ | (refine zO ?_ ?_ ?_;omega;omega) | (refine zP ?_ ?_ ?_;omega;omega) | refine zM rfl ?_ | (refine zQ ?_ ?_ ?_;omega;omega) | (refine zR ?_ ?_;omega) | (refine zI ?_ ?_;exact nA) | (refine zS ?_ ?_ ?_;omega;omega) | (refine zT ?_ ?_ ?_;omega;omega) | (refine zU ?_ ?_ ?_;omega;omega) | (refine zV ?_ ?_ ?_;omega;omega) | refine zN rfl rfl rfl ?_ | refine zD ?_ | refine zE ?_ | refine zF ?_ | intro _ | refine zG ?_);conv=>whnf) | (refine zX (fun hc => ?_) (fun hc => ?_)<;>(try simp only [SY] at hc)<;>first | omega | (conv=>whnf)))
  · rw [drop_at (show i < l.length by omega), idxL, if_pos hc] at h2
    exact PRet.pure (Wk.int h2)
  · rw [drop_at (show i < l.length by omega), idxL, if_neg hc] at h2
    exact loopTo (i + 1) ⟨by omega, h2⟩ (by show l.length - (i + 1) < l.length - i; omega) wA
  · rw [List.drop_of_length_le (by omega), idxL] at h2
    exact PRet.pure (Wk.int h2)
theorem containsInt_c (l : List Int) (v : Int) : ACallP Tryz.prog 53 [.sl 1 (l.map (PV.int .i64)) none, .int .i64 v] (.bool (l.contains v)) := by
  refine ACall.of_body tt_ok Tryz.func53 rfl rfl (n := 9) rfl rfl ?_
  conv => whnf
  repeat ((first | ((first | (apply zY;intro hg) | apply zZ);focus ((conv=>whnf);(repeat ((first | (refine zW ?_ ?_;exact gA) | refine zH rfl ?_ | refine zA ?_ | refine zI bA ?_ | refine zI rfl ?_ | refine zJ rfl rfl ?_ | refine zB ?_ | refine zK rfl ?_ | refine zL rfl ?_ | refine zC ?_ | (refine zO ?_ ?_ ?_;exact OA;exact OA) | (refine zP ?_ ?_ ?_;exact OA;exact OA) | refine zM rfl ?_ | (refine zQ ?_ ?_ ?_;exact OA;exact OA) | (refine zR ?_ ?_;exact OA) | (refine zI ?_ ?_;exact NA) | (refine zS ?_ ?_ ?_;exact OA;exact OA) | (refine zT ?_ ?_ ?_;exact OA;exact OA) | (refine zU ?_ ?_ ?_;exact OA;exact OA) | (refine zV ?_ ?_ ?_;exact OA;exact OA) | refine PCall.pure (indexInt_c l v) (WkT.refl _) ?_ | refine PCall.pure (indexInt_c l v) cA ?_ | intro _);conv=>whnf));first | exact PShift.same | exact PShift.lit | exact PShift.ep)) | (refine zW ?_ ?_;exact gA) | refine zH rfl ?_ | refine zA ?_ | refine zI bA ?_ | refine zI rfl ?_ | refine zJ rfl rfl ?_ | refine zB ?_ | refine zK rfl ?_ | refine zL rfl ?_ | refine zC ?_ | (refine zO ?_ ?_ ?_;omega;omega) | (refine zP ?_ ?_ ?_;omega;omega) | refine zM rfl ?_ | (refine zQ ?_ ?_ ?_;omega;omega) | (refine zR ?_ ?_;omega) | (refine zI ?_ ?_;exact nA) | (refine zS ?_ ?_ ?_;omega;omega) | (refine zT ?_ ?_ ?_;omega;omega) | (refine zU ?_ ?_ ?_;omega;omega) | (refine zV ?_ ?_ ?_;omega;omega) | refine PCall.pure (indexInt_c l v) (WkT.refl _) ?_ | refine PCall.pure (indexInt_c l v) cA ?_ | refine zN rfl rfl rfl ?_ | refine zD ?_ | refine zE ?_ | refine zF ?_ | intro _);conv=>whnf)
  conv => whnf
  repeat' (first | ((first | ((first | (apply zY;intro hg) | apply zZ);focus ((conv=>whnf);(repeat ((first | (refine zW ?_ ?_;exact gA) | refine zH rfl ?_ | refine zA ?_ | refine zI bA ?_ | refine zI rfl ?_ | refine zJ rfl rfl ?_ | refine zB ?_ | refine zK rfl ?_ | refine zL rfl ?_ | refine zC ?_ | (refine zO ?_ ?_ ?_;exact OA;exact OA) | (refine zP ?_ ?_ ?_;exact OA;exact OA) | refine zM rfl ?_ | (refine zQ ?_ ?_ ?_;exact OA;exact OA) | (refine zR ?_ ?_;exact OA) | (refine zI ?_ ?_;exact NA) | (refine zS ?_ ?_ ?_;exact OA;exact OA) | (refine zT ?_ ?_ ?_;exact OA;exact OA) | (refine zU ?_ ?_ ?_;exact OA;exact OA) | (refine zV ?_ ?_ ?_;exact OA;exact OA) | refine PCall.pure (indexInt_c l v) (WkT.refl _) ?_ | refine PCall.pure (indexInt_c l v) cA ?_ | intro _);conv=>whnf));first | exact PShift.same | exact PShift.lit | exact PShift.ep)) | (refine zW ?_ ?_;exact gA) | refine zH rfl ?_ | refine zA ?_ | refine zI bA ?_ | refine zI rfl ?_ | refine zJ rfl rfl ?_ | refine zB ?_ | refine zK rfl ?_ | refine zL rfl ?_ | refine zC ?_ | (refine zO ?_ ?_ ?_;omega;omega) | (refine zP ?_ ?_ ?_;omega;omega) | refine zM rfl ?_ | (refine zQ ?_ ?_ ?_;omega;omega) | (refine zR ?_ ?_;omega) | (refine zI ?_ ?_;exact nA) | (refine zS ?_ ?_ ?_;omega;omega) | (refine zT ?_ ?_ ?_;omega;omega) | (refine zU ?_ ?_ ?_;omega;omega) | (refine zV ?_ ?_ ?_;omega;omega) | refine PCall.pure (indexInt_c l v) (WkT.refl _) ?_ | refine PCall.pure (indexInt_c l v) cA ?_ | refine zN rfl rfl rfl ?_ | refine zD ?_ | refine zE ?_ | refine zF ?_ | intro _ | refine zG ?_);conv=>whnf) | (refine zX (fun hc => ?_) (fun hc => ?_)<;>(try simp only [SY] at hc)<;>first | omega | (conv=>whnf)))
  exact PRet.pure (Wk.bool (idxL_mem l v 0))
abbrev slI (l : List Int) : PV := .sl 1 (l.map (PV.int .i64)) none
instance : CellsOf slI (fun l => [slI l]) := ⟨fun _ => rfl⟩
def sumL (ls : List (List Int)) : Nat := (ls.map List.length).sum
theorem sumL_append (a b : List (List Int)) : sumL (a ++ b) = sumL a + sumL b := by simp [sumL]
theorem sumL_le (ls : List (List Int)) (k : Nat) : sumL (ls.take k) ≤ sumL ls := by
  have := sumL_append (ls.take k) (ls.drop k)
  rw [List.take_append_drop] at this
  omega
theorem sumL_step (ls : List (List Int)) {k : Nat} (hk : k < ls.length) : sumL (ls.take (k + 1)) = sumL (ls.take k) + (ls[k]).length := by
  rw [List.take_succ_eq_append_getElem hk, sumL_append]; simp [sumL]
theorem sumL_flatten (ls : List (List Int)) : ls.flatten.length = sumL ls := by simp [sumL, List.length_flatten]
theorem concatInt0_c (ls : List (List Int)) (h : sumL ls ≤ 1000000000) (hl : ls.length ≤ 1000000000) : ACall Tryz.prog 85 [.sl 1 (ls.map slI) none] [] (fun y Γ' => ∃ t : Tok, t.e = 3 ∧ t.s = 1 ∧ y = .ms t ∧ Γ' = [.row t (ls.flatten.map (PV.int .i64))]) := by
  refine ACall.of_body tt_ok Tryz.func85 rfl rfl (n := 36) rfl rfl ?_
  conv => whnf
  repeat ((first | ((first | (apply zY;intro hg) | apply zZ);focus ((conv=>whnf);(repeat ((first | (refine zW ?_ ?_;exact gA) | refine zH rfl ?_ | refine zA ?_ | refine zI bA ?_ | refine zI rfl ?_ | refine zJ rfl rfl ?_ | refine zB ?_ | refine zK rfl ?_ | refine zL rfl ?_ | refine zC ?_ | (refine zO ?_ ?_ ?_;exact OA;exact OA) | (refine zP ?_ ?_ ?_;exact OA;exact OA) | refine zM rfl ?_ | (refine zQ ?_ ?_ ?_;exact OA;exact OA) | (refine zR ?_ ?_;exact OA) | (refine zI ?_ ?_;exact NA) | (refine zS ?_ ?_ ?_;exact OA;exact OA) | (refine zT ?_ ?_ ?_;exact OA;exact OA) | (refine zU ?_ ?_ ?_;exact OA;exact OA) | (refine zV ?_ ?_ ?_;exact OA;exact OA) | refine PCall.pure (indexInt_c l v) (WkT.refl _) ?_ | refine PCall.pure (indexInt_c l v) cA ?_ | intro _);conv=>whnf));first | exact PShift.same | exact PShift.lit | exact PShift.ep)) | (refine zW ?_ ?_;exact gA) | refine zH rfl ?_ | refine zA ?_ | refine zI bA ?_ | refine zI rfl ?_ | refine zJ rfl rfl ?_ | refine zB ?_ | refine zK rfl ?_ | refine zL rfl ?_ | refine zC ?_ | (refine zO ?_ ?_ ?_;omega;omega) | (refine zP ?_ ?_ ?_;omega;omega) | refine zM rfl ?_ | (refine zQ ?_ ?_ ?_;omega;omega) | (refine zR ?_ ?_;omega) | (refine zI ?_ ?_;exact nA) | (refine zS ?_ ?_ ?_;omega;omega) | (refine zT ?_ ?_ ?_;omega;omega) | (refine zU ?_ ?_ ?_;omega;omega) | (refine zV ?_ ?_ ?_;omega;omega) | refine PCall.pure (indexInt_c l v) (WkT.refl _) ?_ | refine PCall.pure (indexInt_c l v) cA ?_ | refine zN rfl rfl rfl ?_ | refine zD ?_ | refine zE ?_ | refine zF ?_ | intro _);conv=>whnf)
  refine PLoop.keep [3, 5, 11, 12, 13, 14, 15, 16, 17, 18, 19, 20, 21, 22] (fun x : Nat × Int => [(11, .int .i64 x.1), (3, .int .i64 x.2)]) (fun x => x.1 ≤ ls.length ∧ x.2 = sumL (ls.take x.1)) (fun x => ls.length - x.1) (0, 0) ⟨by omega, rfl⟩ wA ?_
  rintro ⟨i, n⟩ ⟨h1, h2⟩
  dsimp only at h1 h2 ⊢
  have hle := sumL_le ls
  conv => whnf
  repeat' (first | ((first | ((first | (apply zY;intro hg) | apply zZ);focus ((conv=>whnf);(repeat ((first | (refine zW ?_ ?_;exact gA) | refine zH rfl ?_ | refine zA ?_ | refine zI bA ?_ | refine zI rfl ?_ | refine zJ rfl rfl ?_ | refine zB ?_ | refine zK rfl ?_ | refine zL rfl ?_ | refine zC ?_ | (refine zO ?_ ?_ ?_;exact OA;exact OA) | (refine zP ?_ ?_ ?_;exact OA;exact OA) | refine zM rfl ?_ | (refine zQ ?_ ?_ ?_;exact OA;exact OA) | (refine zR ?_ ?_;exact OA) | (refine zI ?_ ?_;exact NA) | (refine zS ?_ ?_ ?_;exact OA;exact OA) | (refine zT ?_ ?_ ?_;exact OA;exact OA) | (refine zU ?_ ?_ ?_;exact OA;exact OA) | (refine zV ?_ ?_ ?_;exact OA;exact OA) | refine PCall.pure (indexInt_c l v) (WkT.refl _) ?_ | refine PCall.pure (indexInt_c l v) cA ?_ | intro _);conv=>whnf));first | exact PShift.same | exact PShift.lit | exact PShift.ep)) | (refine zW ?_ ?_;exact gA) | refine zH rfl ?_ | refine zA ?_ | refine zI bA ?_ | refine zI rfl ?_ | refine zJ rfl rfl ?_ | refine zB ?_ | refine zK rfl ?_ | refine zL rfl ?_ | refine zC ?_ | (refine zO ?_ ?_ ?_;omega;omega) | (refine zP ?_ ?_ ?_;omega;omega) | refine zM rfl ?_ | (refine zQ ?_ ?_ ?_;omega;omega) | (refine zR ?_ ?_;omega) | (refine zI ?_ ?_;exact nA) | (refine zS ?_ ?_ ?_;omega;omega) | (refine zT ?_ ?_ ?_;omega;omega) | (refine zU ?_ ?_ ?_;omega;omega) | (refine zV ?_ ?_ ?_;omega;omega) | refine PCall.pure (indexInt_c l v) (WkT.refl _) ?_ | refine PCall.pure (indexInt_c l v) cA ?_ | refine zN rfl rfl rfl ?_ | refine zD ?_ | refine zE ?_ | refine zF ?_ | intro _ | refine zG ?_);conv=>whnf) | (refine zX (fun hc => ?_) (fun hc => ?_)<;>(try simp only [SY] at hc)<;>first | omega | (conv=>whnf)))
  · have hlt : i < ls.length := by omega
    have g1 := hle (i + 1)
    have g2 := sumL_step ls hlt
    conv => whnf
    repeat' (first | ((first | ((first | (apply zY;intro hg) | apply zZ);focus ((conv=>whnf);(repeat ((first | (refine zW ?_ ?_;exact gA) | refine zH rfl ?_ | refine zA ?_ | refine zI bA ?_ | refine zI rfl ?_ | refine zJ rfl rfl ?_ | refine zB ?_ | refine zK rfl ?_ | refine zL rfl ?_ | refine zC ?_ | (refine zO ?_ ?_ ?_;exact OA;exact OA) | (refine zP ?_ ?_ ?_;exact OA;exact OA) | refine zM rfl ?_ | (refine zQ ?_ ?_ ?_;exact OA;exact OA) | (refine zR ?_ ?_;exact OA) | (refine zI ?_ ?_;exact NA) | (refine zS ?_ ?_ ?_;exact OA;exact OA) | (refine zT ?_ ?_ ?_;exact OA;exact OA) | (refine zU ?_ ?_ ?_;exact OA;exact OA) | (refine zV ?_ ?_ ?_;exact OA;exact OA) | refine PCall.pure (indexInt_c l v) (WkT.refl _) ?_ | refine PCall.pure (indexInt_c l v) cA ?_ | intro _);conv=>whnf));first | exact PShift.same | exact PShift.lit | exact PShift.ep)) | (refine zW ?_ ?_;exact gA) | refine zH rfl ?_ | refine zA ?_ | refine zI bA ?_ | refine zI rfl ?_ | refine zJ rfl rfl ?_ | refine zB ?_ | refine zK rfl ?_ | refine zL rfl ?_ | refine zC ?_ | (refine zO ?_ ?_ ?_;omega;omega) | (refine zP ?_ ?_ ?_;omega;omega) | refine zM rfl ?_ | (refine zQ ?_ ?_ ?_;omega;omega) | (refine zR ?_ ?_;omega) | (refine zI ?_ ?_;exact nA) | (refine zS ?_ ?_ ?_;omega;omega) | (refine zT ?_ ?_ ?_;omega;omega) | (refine zU ?_ ?_ ?_;omega;omega) | (refine zV ?_ ?_ ?_;omega;omega) | refine PCall.pure (indexInt_c l v) (WkT.refl _) ?_ | refine PCall.pure (indexInt_c l v) cA ?_ | refine zN rfl rfl rfl ?_ | refine zD ?_ | refine zE ?_ | refine zF ?_ | intro _ | refine zG ?_);conv=>whnf) | (refine zX (fun hc => ?_) (fun hc => ?_)<;>(try simp only [SY] at hc)<;>first | omega | (conv=>whnf)))
    exact loopTo (i + 1, n + ls[i].length) ⟨by omega, by show n + _ = ((sumL (ls.take (i + 1)) : Nat) : Int); omega⟩ (by show ls.length - (i + 1) < ls.length - i; omega) wA
  · refine PCall.go (growNil_c n (by omega) (by have := hle i; omega)) (WkT.refl _) ?_
    rintro _ _ ⟨t, ht, hs, rfl, rfl⟩
    conv => whnf
    repeat' (first | ((first | ((first | (apply zY;intro hg) | apply zZ);focus ((conv=>whnf);(repeat ((first | (refine zW ?_ ?_;exact gA) | refine zH rfl ?_ | refine zA ?_ | refine zI bA ?_ | refine zI rfl ?_ | refine zJ rfl rfl ?_ | refine zB ?_ | refine zK rfl ?_ | refine zL rfl ?_ | refine zC ?_ | (refine zO ?_ ?_ ?_;exact OA;exact OA) | (refine zP ?_ ?_ ?_;exact OA;exact OA) | refine zM rfl ?_ | (refine zQ ?_ ?_ ?_;exact OA;exact OA) | (refine zR ?_ ?_;exact OA) | (refine zI ?_ ?_;exact NA) | (refine zS ?_ ?_ ?_;exact OA;exact OA) | (refine zT ?_ ?_ ?_;exact OA;exact OA) | (refine zU ?_ ?_ ?_;exact OA;exact OA) | (refine zV ?_ ?_ ?_;exact OA;exact OA) | refine PCall.pure (indexInt_c l v) (WkT.refl _) ?_ | refine PCall.pure (indexInt_c l v) cA ?_ | intro _);conv=>whnf));first | exact PShift.same | exact PShift.lit | exact PShift.ep)) | (refine zW ?_ ?_;exact gA) | refine zH rfl ?_ | refine zA ?_ | refine zI bA ?_ | refine zI rfl ?_ | refine zJ rfl rfl ?_ | refine zB ?_ | refine zK rfl ?_ | refine zL rfl ?_ | refine zC ?_ | (refine zO ?_ ?_ ?_;omega;omega) | (refine zP ?_ ?_ ?_;omega;omega) | refine zM rfl ?_ | (refine zQ ?_ ?_ ?_;omega;omega) | (refine zR ?_ ?_;omega) | (refine zI ?_ ?_;exact nA) | (refine zS ?_ ?_ ?_;omega;omega) | (refine zT ?_ ?_ ?_;omega;omega) | (refine zU ?_ ?_ ?_;omega;omega) | (refine zV ?_ ?_ ?_;omega;omega) | refine PCall.pure (indexInt_c l v) (WkT.refl _) ?_ | refine PCall.pure (indexInt_c l v) cA ?_ | refine zN rfl rfl rfl ?_ | refine zD ?_ | refine zE ?_ | refine zF ?_ | intro _ | refine zG ?_);conv=>whnf) | (refine zX (fun hc => ?_) (fun hc => ?_)<;>(try simp only [SY] at hc)<;>first | omega | (conv=>whnf)))
    refine PLoop.over [6, 8, 27, 28, 29, 30, 31, 32, 33, 34] (fun x : Nat × Tok × List Int => [(27, .int .i64 x.1), (6, .ms x.2.1)]) (fun x : Nat × Tok × List Int => [.row x.2.1 (x.2.2.map (PV.int .i64))]) (fun x => x.1 ≤ ls.length ∧ x.2.1.e = 3 ∧ x.2.1.s = 1 ∧ x.2.2 = (ls.take x.1).flatten) (fun x => ls.length - x.1) (0, t, []) ⟨by omega, ht, hs, rfl⟩ wA ?_
    rintro ⟨k, t2, l⟩ ⟨k1, k2, k3, k4⟩
    dsimp only at k1 k2 k3 k4 ⊢
    conv => whnf
    repeat' (first | ((first | ((first | (apply zY;intro hg) | apply zZ);focus ((conv=>whnf);(repeat ((first | (refine zW ?_ ?_;exact gA) | refine zH rfl ?_ | refine zA ?_ | refine zI bA ?_ | refine zI rfl ?_ | refine zJ rfl rfl ?_ | refine zB ?_ | refine zK rfl ?_ | refine zL rfl ?_ | refine zC ?_ | (refine zO ?_ ?_ ?_;exact OA;exact OA) | (refine zP ?_ ?_ ?_;exact OA;exact OA) | refine zM rfl ?_ | (refine zQ ?_ ?_ ?_;exact OA;exact OA) | (refine zR ?_ ?_;exact OA) | (refine zI ?_ ?_;exact NA) | (refine zS ?_ ?_ ?_;exact OA;exact OA) | (refine zT ?_ ?_ ?_;exact OA;exact OA) | (refine zU ?_ ?_ ?_;exact OA;exact OA) | (refine zV ?_ ?_ ?_;exact OA;exact OA) | refine PCall.pure (indexInt_c l v) (WkT.refl _) ?_ | refine PCall.pure (indexInt_c l v) cA ?_ | intro _);conv=>whnf));first | exact PShift.same | exact PShift.lit | exact PShift.ep)) | (refine zW ?_ ?_;exact gA) | refine zH rfl ?_ | refine zA ?_ | refine zI bA ?_ | refine zI rfl ?_ | refine zJ rfl rfl ?_ | refine zB ?_ | refine zK rfl ?_ | refine zL rfl ?_ | refine zC ?_ | (refine zO ?_ ?_ ?_;omega;omega) | (refine zP ?_ ?_ ?_;omega;omega) | refine zM rfl ?_ | (refine zQ ?_ ?_ ?_;omega;omega) | (refine zR ?_ ?_;omega) | (refine zI ?_ ?_;exact nA) | (refine zS ?_ ?_ ?_;omega;omega) | (refine zT ?_ ?_ ?_;omega;omega) | (refine zU ?_ ?_ ?_;omega;omega) | (refine zV ?_ ?_ ?_;omega;omega) | refine PCall.pure (indexInt_c l v) (WkT.refl _) ?_ | refine PCall.pure (indexInt_c l v) cA ?_ | refine zN rfl rfl rfl ?_ | refine zD ?_ | refine zE ?_ | refine zF ?_ | intro _ | refine zG ?_);conv=>whnf) | (refine zX (fun hc => ?_) (fun hc => ?_)<;>(try simp only [SY] at hc)<;>first | omega | (conv=>whnf)))
    · have hlt : k < ls.length := by omega
      have g1 := hle (k + 1)
      have g2 := sumL_step ls hlt
      have g3 := sumL_flatten (ls.take k)
      rw [← k4] at g3
      refine PAppend.rowList (f := PV.int .i64) (l := l) (m := ls[k]) k2 k3 (Wk.refl _) (by omega) (by show _ * 8 ≤ _; omega) (fun t3 e3 s3 => ?_)
      conv => whnf
      repeat ((first | ((first | (apply zY;intro hg) | apply zZ);focus ((conv=>whnf);(repeat ((first | (refine zW ?_ ?_;exact gA) | refine zH rfl ?_ | refine zA ?_ | refine zI bA ?_ | refine zI rfl ?_ | refine zJ rfl rfl ?_ | refine zB ?_ | refine zK rfl ?_ | refine zL rfl ?_ | refine zC ?_ | (refine zO ?_ ?_ ?_;exact OA;exact OA) | (refine zP ?_ ?_ ?_;exact OA;exact OA) | refine zM rfl ?_ | (refine zQ ?_ ?_ ?_;exact OA;exact OA) | (refine zR ?_ ?_;exact OA) | (refine zI ?_ ?_;exact NA) | (refine zS ?_ ?_ ?_;exact OA;exact OA) | (refine zT ?_ ?_ ?_;exact OA;exact OA) | (refine zU ?_ ?_ ?_;exact OA;exact OA) | (refine zV ?_ ?_ ?_;exact OA;exact OA) | refine PCall.pure (indexInt_c l v) (WkT.refl _) ?_ | refine PCall.pure (indexInt_c l v) cA ?_ | intro _);conv=>whnf));first | exact PShift.same | exact PShift.lit | exact PShift.ep)) | (refine zW ?_ ?_;exact gA) | refine zH rfl ?_ | refine zA ?_ | refine zI bA ?_ | refine zI rfl ?_ | refine zJ rfl rfl ?_ | refine zB ?_ | refine zK rfl ?_ | refine zL rfl ?_ | refine zC ?_ | (refine zO ?_ ?_ ?_;omega;omega) | (refine zP ?_ ?_ ?_;omega;omega) | refine zM rfl ?_ | (refine zQ ?_ ?_ ?_;omega;omega) | (refine zR ?_ ?_;omega) | (refine zI ?_ ?_;exact nA) | (refine zS ?_ ?_ ?_;omega;omega) | (refine zT ?_ ?_ ?_;omega;omega) | (refine zU ?_ ?_ ?_;omega;omega) | (refine zV ?_ ?_ ?_;omega;omega) | refine PCall.pure (indexInt_c l v) (WkT.refl _) ?_ | refine PCall.pure (indexInt_c l v) cA ?_ | refine zN rfl rfl rfl ?_ | refine zD ?_ | refine zE ?_ | refine zF ?_ | intro _);conv=>whnf)
      exact loopTo (k + 1, t3, l ++ ls[k]) ⟨by omega, e3, s3, by show l ++ ls[k] = (ls.take (k + 1)).flatten; rw [k4, List.take_succ_eq_append_getElem hlt, List.flatten_append, List.flatten_singleton]⟩ (by show ls.length - (k + 1) < ls.length - k; omega) wA
    · have hk : ls.take k = ls := List.take_of_length_le (by omega)
      rw [hk] at k4
      rw [k4]
      exact PRet.gen (Wk.refl _) ⟨t2, k2, k3, rfl, rfl⟩
theorem concatInt_c (ls : List (List Int)) (h : sumL ls ≤ 1000000000) (hl : ls.length ≤ 1000000000) : ACallP Tryz.prog 85 [.sl 1 (ls.map slI) none] (slI ls.flatten) :=
  ACallP.of_any ((concatInt0_c ls h hl).shift fun y Γ' hq => by
    obtain ⟨t, h1, h2, rfl, rfl⟩ := hq
    exact ⟨slI ls.flatten, _, Shift.freezeRow (WkF.ms' h2), rfl⟩)
end Go.Cb
namespace Go.Cb
open Go.RowKit (Below)
set_option maxRecDepth 100000
section
variable {P : Program} {tt : Nat → TI}
theorem AYield.frameR {l : Nat} {args : List PV} {Γ Γ1 Γ2 : List Ent} {Q : PV → List Ent → Prop} (h : AYield P l args Γ1 Q) (hp : Γ.Perm (Γ2 ++ Γ1)) : AYield P l args Γ fun y Γ' => ∃ Γ1', Γ' = Γ2 ++ Γ1' ∧ Q y Γ1' := fun w0 F M w vs hS hT => by
  have hS' : Sim w0 F (Γ1 ++ (Γ2 ++ M)) w := hS.perm (by
    rw [← List.append_assoc]
    exact (hp.trans List.perm_append_comm).append_right M)
  obtain ⟨fn, tmps, assign, body, h1, h2⟩ := h w0 F (Γ2 ++ M) w vs hS' hT
  refine ⟨fn, tmps, assign, body, h1, h2.mono ?_⟩
  rintro _ _ ⟨v, F', y, Γ', e1, e2, e3, e4, e5⟩
  exact ⟨v, F', y, Γ2 ++ Γ', e1, e2, e3.perm (by
    rw [← List.append_assoc]
    exact List.perm_append_comm.append_right M), e4, Γ', rfl, e5⟩
theorem ACall.frameR {f : FuncId} {args : List PV} {Γ Γ1 Γ2 : List Ent} {Q : PV → List Ent → Prop} (h : ACall P f args Γ1 Q) (hp : Γ.Perm (Γ2 ++ Γ1)) : ACall P f args Γ fun y Γ' => ∃ Γ1', Γ' = Γ2 ++ Γ1' ∧ Q y Γ1' :=
  ⟨h.1, fun w0 F M w vs hS hT => by
    have hS' : Sim w0 F (Γ1 ++ (Γ2 ++ M)) w := hS.perm (by
      rw [← List.append_assoc]
      exact (hp.trans List.perm_append_comm).append_right M)
    refine (h.2 w0 F (Γ2 ++ M) w vs hS' hT).mono ?_
    rintro _ _ ⟨v, F', y, Γ', e1, e2, e3, e4, e5⟩
    exact ⟨v, F', y, Γ2 ++ Γ', e1, e2, e3.perm (by
      rw [← List.append_assoc]
      exact List.perm_append_comm.append_right M), e4, Γ', rfl, e5⟩⟩
theorem PYield.goR {l : Nat} {args args' : List PV} {Γ Γ1 : List Ent} (Γ2 : List Ent) {Q K : PV → List Ent → Prop} (h : AYield P l args' Γ1 Q) (hw : WkT args args') (hp : Γ.Perm (Γ2 ++ Γ1)) (k : ∀ y Γ1', Q y Γ1' → appE Γ2 Γ1' fun Γ' => K y Γ') : PYield P l args Γ K :=
  ⟨((h.wk hw).frameR hp).mono fun y Γ' ⟨Γ1', e, hq⟩ => by have := k y Γ1' hq; rw [appE_eq] at this; rw [e]; exact this⟩
theorem PCall.goR {f : FuncId} {args args' : List PV} {Γ Γ1 : List Ent} (Γ2 : List Ent) {Q K : PV → List Ent → Prop} (h : ACall P f args' Γ1 Q) (hw : WkT args args') (hp : Γ.Perm (Γ2 ++ Γ1)) (k : ∀ y Γ1', Q y Γ1' → appE Γ2 Γ1' fun Γ' => K y Γ') : PCall P f args Γ K :=
  PCall.same ((h.wk hw).frameR hp) (WkT.refl _) fun y Γ' ⟨Γ1', e, hq⟩ => by have := k y Γ1' hq; rw [appE_eq] at this; rw [e]; exact this
end
end Go.Cb
namespace Go.Cb
open Go.Proofs
set_option maxRecDepth 100000
set_option maxHeartbeats 4000000
mutual
def Trm.met : Trm → List Int → Int → List (Trm × List Int)
  | .mk op n v t, sc, deep => (.mk op n v t, sc) :: if deep ≥ 1000 then [] else Trm.mets op sc (sc ++ v) t (deep + 1)
def Trm.mets (op : Int) (sc inner : List Int) : List Trm → Int → List (Trm × List Int)
  | [], _ => []
  | x :: xs, deep => Trm.met x (if groupB op = true ∨ xs = [] then inner else sc) deep ++ Trm.mets op sc inner xs deep
end
theorem Trm.met_eq (t : Trm) (sc : List Int) (deep : Int) : t.met sc deep = (t, sc) :: if deep ≥ 1000 then [] else Trm.mets t.op sc (sc ++ t.v) t.t (deep + 1) := by
  cases t; rw [Trm.met]; rfl
abbrev metP (x : Trm × List Int) : PV := .agg [.int .i64 x.1.op, .int .i64 x.1.n, .sl 1 (x.1.v.map (PV.int .i64)) none, .sl 4 (x.1.t.map Trm.pv) none, slI x.2]
abbrev metE (l yb wb : Nat) : List Ent := [.box yb [.fn (.yield l) []], .box wb [.fn (.func 84) [.ptr yb 0, .ptr wb 0]]]
def From (xs : List (List PV)) (i : Nat) (l : List (Trm × List Int)) : Prop := ∀ j (h : j < l.length), xs[i + j]? = some [metP l[j]]
theorem From.left {xs : List (List PV)} {i : Nat} {l m : List (Trm × List Int)} (h : From xs i (l ++ m)) : From xs i l := fun j hj => by
  have := h j (by rw [List.length_append]; omega)
  rwa [List.getElem_append_left hj] at this
theorem From.right {xs : List (List PV)} {i : Nat} {l m : List (Trm × List Int)} (h : From xs i (l ++ m)) : From xs (i + l.length) m := fun j hj => by
  have := h (l.length + j) (by rw [List.length_append]; omega)
  rw [List.getElem_append_right (by omega)] at this
  simpa [Nat.add_assoc] using this
theorem From.head {xs : List (List PV)} {i : Nat} {x : Trm × List Int} {m : List (Trm × List Int)} (h : From xs i (x :: m)) : From xs (i + 1) m := From.right (l := [x]) h
theorem walk_c (l yb wb : Nat) (xs : List (List PV)) (J : Nat → List Ent → Prop) (X : List Ent → Prop)
    (hy : ∀ k ys Γ, xs[k]? = some ys → J k Γ → AYield Tryz.prog l ys Γ fun y Γ' => (y = .btrue ∧ J (k + 1) Γ') ∨ (y = .bfalse ∧ X Γ')) (t : Trm) :
    ∀ (sc : List Int) (deep : Int) (i : Nat) (Γ : List Ent), 0 ≤ deep → deep ≤ 1000 → sc.length + t.bulk ≤ 1000000000 → From xs i (t.met sc deep) → J i Γ →
      ACall Tryz.prog 84 [.agg t.cells, slI sc, .int .i64 deep, .ptr yb 0, .ptr wb 0] (.box yb [.fn (.yield l) []] :: .box wb [.fn (.func 84) [.ptr yb 0, .ptr wb 0]] :: Γ)
        (fun y Γ' => ∃ Γ1, Γ' = .box yb [.fn (.yield l) []] :: .box wb [.fn (.func 84) [.ptr yb 0, .ptr wb 0]] :: Γ1 ∧ ((y = .btrue ∧ J (i + (t.met sc deep).length) Γ1) ∨ (y = .bfalse ∧ X Γ1))) := by
  induction t using Trm.ind with
  | h t ih =>
    intro sc deep i Γ hd0 hd1 hsc hfr hJ
    have hbe := t.bulk_eq
    have hlv := Trm.bulks_length t.t
    rw [Trm.met_eq] at hfr ⊢
    have hsum : sumL [sc, t.v] ≤ 1000000000 := by simp [sumL]; omega
    have h0 := hfr 0 (by simp)
    refine ACall.of_body tt_ok Tryz.func84 rfl rfl (n := 54) rfl rfl ?_
    conv => whnf
    repeat ((first | ((first | (apply zY;intro hg) | apply zZ);focus ((conv=>whnf);(repeat ((first | (refine zW ?_ ?_;exact gA) | refine zH rfl ?_ | refine zA ?_ | refine zI bA ?_ | refine zI rfl ?_ | refine zJ rfl rfl ?_ | refine zB ?_ | refine zK rfl ?_ | refine zL rfl ?_ | refine zC ?_ | (refine zO ?_ ?_ ?_;exact OA;exact OA) | (refine zP ?_ ?_ ?_;exact OA;exact OA) | refine zM rfl ?_ | (refine zQ ?_ ?_ ?_;exact OA;exact OA) | (refine zR ?_ ?_;exact OA) | (refine zI ?_ ?_;exact NA) | (refine zS ?_ ?_ ?_;exact OA;exact OA) | (refine zT ?_ ?_ ?_;exact OA;exact OA) | (refine zU ?_ ?_ ?_;exact OA;exact OA) | (refine zV ?_ ?_ ?_;exact OA;exact OA) | refine PCall.pure (group_c t) (WkT.refl _) ?_ | refine PCall.pure (group_c t) cA ?_ | intro _);conv=>whnf));first | exact PShift.same | exact PShift.lit | exact PShift.ep)) | (refine zW ?_ ?_;exact gA) | refine zH rfl ?_ | refine zA ?_ | refine zI bA ?_ | refine zI rfl ?_ | refine zJ rfl rfl ?_ | refine zB ?_ | refine zK rfl ?_ | refine zL rfl ?_ | refine zC ?_ | (refine zO ?_ ?_ ?_;omega;omega) | (refine zP ?_ ?_ ?_;omega;omega) | refine zM rfl ?_ | (refine zQ ?_ ?_ ?_;omega;omega) | (refine zR ?_ ?_;omega) | (refine zI ?_ ?_;exact nA) | (refine zS ?_ ?_ ?_;omega;omega) | (refine zT ?_ ?_ ?_;omega;omega) | (refine zU ?_ ?_ ?_;omega;omega) | (refine zV ?_ ?_ ?_;omega;omega) | refine PCall.pure (group_c t) (WkT.refl _) ?_ | refine PCall.pure (group_c t) cA ?_ | refine zN rfl rfl rfl ?_ | refine zD ?_ | refine zE ?_ | refine zF ?_ | intro _);conv=>whnf)
    conv => whnf
    repeat' (first | ((first | ((first | (apply zY;intro hg) | apply zZ);focus ((conv=>whnf);(repeat ((first | (refine zW ?_ ?_;exact gA) | refine zH rfl ?_ | refine zA ?_ | refine zI bA ?_ | refine zI rfl ?_ | refine zJ rfl rfl ?_ | refine zB ?_ | refine zK rfl ?_ | refine zL rfl ?_ | refine zC ?_ | (refine zO ?_ ?_ ?_;exact OA;exact OA) | (refine zP ?_ ?_ ?_;exact OA;exact OA) | refine zM rfl ?_ | (refine zQ ?_ ?_ ?_;exact OA;exact OA) | (refine zR ?_ ?_;exact OA) | (refine zI ?_ ?_;exact NA) | (refine zS ?_ ?_ ?_;exact OA;exact OA) | (refine zT ?_ ?_ ?_;exact OA;exact OA) | (refine zU ?_ ?_ ?_;exact OA;exact OA) | (refine zV ?_ ?_ ?_;exact OA;exact OA) | refine PCall.pure (group_c t) (WkT.refl _) ?_ | refine PCall.pure (group_c t) cA ?_ | intro _);conv=>whnf));first | exact PShift.same | exact PShift.lit | exact PShift.ep)) | (refine zW ?_ ?_;exact gA) | refine zH rfl ?_ | refine zA ?_ | refine zI bA ?_ | refine zI rfl ?_ | refine zJ rfl rfl ?_ | refine zB ?_ | refine zK rfl ?_ | refine zL rfl ?_ | refine zC ?_ | (refine zO ?_ ?_ ?_;omega;omega) | (refine zP ?_ ?_ ?_;omega;omega) | refine zM rfl ?_ | (refine zQ ?_ ?_ ?_;omega;omega) | (refine zR ?_ ?_;omega) | (refine zI ?_ ?_;exact nA) | (refine zS ?_ ?_ ?_;omega;omega) | (refine zT ?_ ?_ ?_;omega;omega) | (refine zU ?_ ?_ ?_;omega;omega) | (refine zV ?_ ?_ ?_;omega;omega) | refine PCall.pure (group_c t) (WkT.refl _) ?_ | refine PCall.pure (group_c t) cA ?_ | refine zN rfl rfl rfl ?_ | refine zD ?_ | refine zE ?_ | refine zF ?_ | intro _ | refine zG ?_);conv=>whnf) | (refine zX (fun hc => ?_) (fun hc => ?_)<;>(try simp only [SY] at hc)<;>first | omega | (conv=>whnf)))
    rename_i b5
    refine PYield.goR [.box b5 [.int .i64 t.op, .int .i64 t.n, .sl 1 (t.v.map (PV.int .i64)) none, .sl 4 (t.t.map Trm.pv) none], .box yb [.fn (.yield l) []], .box wb [.fn (.func 84) [.ptr yb 0, .ptr wb 0]]] (hy (i + 0) _ Γ h0 hJ) (WkT.refl _) (List.Perm.refl _) ?_
    rintro _ Γ1 (⟨rfl, hJ1⟩ | ⟨rfl, hX⟩)
    · conv => whnf
      repeat' (first | ((first | ((first | (apply zY;intro hg) | apply zZ);focus ((conv=>whnf);(repeat ((first | (refine zW ?_ ?_;exact gA) | refine zH rfl ?_ | refine zA ?_ | refine zI bA ?_ | refine zI rfl ?_ | refine zJ rfl rfl ?_ | refine zB ?_ | refine zK rfl ?_ | refine zL rfl ?_ | refine zC ?_ | (refine zO ?_ ?_ ?_;exact OA;exact OA) | (refine zP ?_ ?_ ?_;exact OA;exact OA) | refine zM rfl ?_ | (refine zQ ?_ ?_ ?_;exact OA;exact OA) | (refine zR ?_ ?_;exact OA) | (refine zI ?_ ?_;exact NA) | (refine zS ?_ ?_ ?_;exact OA;exact OA) | (refine zT ?_ ?_ ?_;exact OA;exact OA) | (refine zU ?_ ?_ ?_;exact OA;exact OA) | (refine zV ?_ ?_ ?_;exact OA;exact OA) | refine PCall.pure (group_c t) (WkT.refl _) ?_ | refine PCall.pure (group_c t) cA ?_ | intro _);conv=>whnf));first | exact PShift.same | exact PShift.lit | exact PShift.ep)) | (refine zW ?_ ?_;exact gA) | refine zH rfl ?_ | refine zA ?_ | refine zI bA ?_ | refine zI rfl ?_ | refine zJ rfl rfl ?_ | refine zB ?_ | refine zK rfl ?_ | refine zL rfl ?_ | refine zC ?_ | (refine zO ?_ ?_ ?_;omega;omega) | (refine zP ?_ ?_ ?_;omega;omega) | refine zM rfl ?_ | (refine zQ ?_ ?_ ?_;omega;omega) | (refine zR ?_ ?_;omega) | (refine zI ?_ ?_;exact nA) | (refine zS ?_ ?_ ?_;omega;omega) | (refine zT ?_ ?_ ?_;omega;omega) | (refine zU ?_ ?_ ?_;omega;omega) | (refine zV ?_ ?_ ?_;omega;omega) | refine PCall.pure (group_c t) (WkT.refl _) ?_ | refine PCall.pure (group_c t) cA ?_ | refine zN rfl rfl rfl ?_ | refine zD ?_ | refine zE ?_ | refine zF ?_ | intro _ | refine zG ?_);conv=>whnf) | (refine zX (fun hc => ?_) (fun hc => ?_)<;>(try simp only [SY] at hc)<;>first | omega | (conv=>whnf)))
      · exact PRet.gen (y := .btrue) (Γ' := .box yb [.fn (.yield l) []] :: .box wb [.fn (.func 84) [.ptr yb 0, .ptr wb 0]] :: Γ1) (hp := ⟨(List.perm_append_singleton _ _).symm⟩) (Wk.refl _) ⟨Γ1, rfl, .inl ⟨rfl, by rw [if_pos hc]; exact hJ1⟩⟩
      · rw [if_neg (by omega)] at hfr ⊢
        rename_i tk htk
        refine PCall.pure (concatInt_c [sc, t.v] hsum (by simp)) (WkT.cons (Wk.tok _ _ _) WkT.nil) ?_
        rw [show [sc, t.v].flatten = sc ++ t.v by simp]
        conv => whnf
        repeat' (first | ((first | ((first | (apply zY;intro hg) | apply zZ);focus ((conv=>whnf);(repeat ((first | (refine zW ?_ ?_;exact gA) | refine zH rfl ?_ | refine zA ?_ | refine zI bA ?_ | refine zI rfl ?_ | refine zJ rfl rfl ?_ | refine zB ?_ | refine zK rfl ?_ | refine zL rfl ?_ | refine zC ?_ | (refine zO ?_ ?_ ?_;exact OA;exact OA) | (refine zP ?_ ?_ ?_;exact OA;exact OA) | refine zM rfl ?_ | (refine zQ ?_ ?_ ?_;exact OA;exact OA) | (refine zR ?_ ?_;exact OA) | (refine zI ?_ ?_;exact NA) | (refine zS ?_ ?_ ?_;exact OA;exact OA) | (refine zT ?_ ?_ ?_;exact OA;exact OA) | (refine zU ?_ ?_ ?_;exact OA;exact OA) | (refine zV ?_ ?_ ?_;exact OA;exact OA) | refine PCall.pure (group_c t) (WkT.refl _) ?_ | refine PCall.pure (group_c t) cA ?_ | intro _);conv=>whnf));first | exact PShift.same | exact PShift.lit | exact PShift.ep)) | (refine zW ?_ ?_;exact gA) | refine zH rfl ?_ | refine zA ?_ | refine zI bA ?_ | refine zI rfl ?_ | refine zJ rfl rfl ?_ | refine zB ?_ | refine zK rfl ?_ | refine zL rfl ?_ | refine zC ?_ | (refine zO ?_ ?_ ?_;omega;omega) | (refine zP ?_ ?_ ?_;omega;omega) | refine zM rfl ?_ | (refine zQ ?_ ?_ ?_;omega;omega) | (refine zR ?_ ?_;omega) | (refine zI ?_ ?_;exact nA) | (refine zS ?_ ?_ ?_;omega;omega) | (refine zT ?_ ?_ ?_;omega;omega) | (refine zU ?_ ?_ ?_;omega;omega) | (refine zV ?_ ?_ ?_;omega;omega) | refine PCall.pure (group_c t) (WkT.refl _) ?_ | refine PCall.pure (group_c t) cA ?_ | refine zN rfl rfl rfl ?_ | refine zD ?_ | refine zE ?_ | refine zF ?_ | intro _ | refine zG ?_);conv=>whnf) | (refine zX (fun hc => ?_) (fun hc => ?_)<;>(try simp only [SY] at hc)<;>first | omega | (conv=>whnf)))
        have hfr1 := hfr.head
        refine PLoop.over [8, 10, 11, 12, 29, 30, 31, 32, 33, 34, 35, 36, 37, 38, 39, 40, 41, 42, 43, 44, 45, 46, 47, 48, 49, 50, 51, 52, 53] (fun x : Nat × Nat × List Ent => [(29, .int .i64 x.1)])
          (fun x : Nat × Nat × List Ent => .tok tk :: .box b5 [.int .i64 t.op, .int .i64 t.n, .sl 1 (t.v.map (PV.int .i64)) none, .sl 4 (t.t.map Trm.pv) none] :: .box yb [.fn (.yield l) []] :: .box wb [.fn (.func 84) [.ptr yb 0, .ptr wb 0]] :: x.2.2)
          (fun x => x.1 ≤ t.t.length ∧ J x.2.1 x.2.2 ∧ From xs x.2.1 (Trm.mets t.op sc (sc ++ t.v) (t.t.drop x.1) (deep + 1)) ∧ x.2.1 + (Trm.mets t.op sc (sc ++ t.v) (t.t.drop x.1) (deep + 1)).length = i + 1 + (Trm.mets t.op sc (sc ++ t.v) t.t (deep + 1)).length)
          (fun x => t.t.length - x.1) (0, i + 1, Γ1) ⟨by omega, hJ1, hfr1, rfl⟩ wA ?_
        rintro ⟨k, p, Γ2⟩ ⟨k1, k2, k3, k4⟩
        dsimp only at k1 k2 k3 k4 ⊢
        conv => whnf
        repeat' (first | ((first | ((first | (apply zY;intro hg) | apply zZ);focus ((conv=>whnf);(repeat ((first | (refine zW ?_ ?_;exact gA) | refine zH rfl ?_ | refine zA ?_ | refine zI bA ?_ | refine zI rfl ?_ | refine zJ rfl rfl ?_ | refine zB ?_ | refine zK rfl ?_ | refine zL rfl ?_ | refine zC ?_ | (refine zO ?_ ?_ ?_;exact OA;exact OA) | (refine zP ?_ ?_ ?_;exact OA;exact OA) | refine zM rfl ?_ | (refine zQ ?_ ?_ ?_;exact OA;exact OA) | (refine zR ?_ ?_;exact OA) | (refine zI ?_ ?_;exact NA) | (refine zS ?_ ?_ ?_;exact OA;exact OA) | (refine zT ?_ ?_ ?_;exact OA;exact OA) | (refine zU ?_ ?_ ?_;exact OA;exact OA) | (refine zV ?_ ?_ ?_;exact OA;exact OA) | refine PCall.pure (group_c t) (WkT.refl _) ?_ | refine PCall.pure (group_c t) cA ?_ | intro _);conv=>whnf));first | exact PShift.same | exact PShift.lit | exact PShift.ep)) | (refine zW ?_ ?_;exact gA) | refine zH rfl ?_ | refine zA ?_ | refine zI bA ?_ | refine zI rfl ?_ | refine zJ rfl rfl ?_ | refine zB ?_ | refine zK rfl ?_ | refine zL rfl ?_ | refine zC ?_ | (refine zO ?_ ?_ ?_;omega;omega) | (refine zP ?_ ?_ ?_;omega;omega) | refine zM rfl ?_ | (refine zQ ?_ ?_ ?_;omega;omega) | (refine zR ?_ ?_;omega) | (refine zI ?_ ?_;exact nA) | (refine zS ?_ ?_ ?_;omega;omega) | (refine zT ?_ ?_ ?_;omega;omega) | (refine zU ?_ ?_ ?_;omega;omega) | (refine zV ?_ ?_ ?_;omega;omega) | refine PCall.pure (group_c t) (WkT.refl _) ?_ | refine PCall.pure (group_c t) cA ?_ | refine zN rfl rfl rfl ?_ | refine zD ?_ | refine zE ?_ | refine zF ?_ | intro _ | refine zG ?_);conv=>whnf) | (refine zX (fun hc => ?_) (fun hc => ?_)<;>(try simp only [SY] at hc)<;>first | omega | (conv=>whnf)))
        rotate_right
        · rw [List.drop_of_length_le (by omega), Trm.mets] at k4
          exact PRet.gen (y := .btrue) (Γ' := .box yb [.fn (.yield l) []] :: .box wb [.fn (.func 84) [.ptr yb 0, .ptr wb 0]] :: Γ2) (hp := ⟨List.perm_append_comm (l₁ := [_, _])⟩) (Wk.refl _) ⟨Γ2, rfl, .inl ⟨rfl, by
            rw [List.length_cons, show i + ((Trm.mets t.op sc (sc ++ t.v) t.t (deep + 1)).length + 1) = p by simp only [List.length_nil] at k4; omega]; exact k2⟩⟩
        all_goals
          rename_i b11
          have hlt : k < t.t.length := by omega
          have hbm := Trm.bulks_mem (List.getElem_mem hlt)
          have hdr : t.t.drop (k + 1) = [] ↔ k + 1 = t.t.length := by rw [List.drop_eq_nil_iff]; omega
          rw [drop_at hlt, Trm.mets] at k3 k4
        · rw [if_pos (show groupB t.op = true ∨ t.t.drop (k + 1) = [] by rw [hdr]; exact hc.imp id fun h => by omega)] at k3 k4
          have k3l := k3.left
          have k3r := k3.right
          rw [List.length_append] at k4
          refine PCall.goR [.box b11 [.int .i64 t.t[k].op, .int .i64 t.t[k].n, .sl 1 (t.t[k].v.map (PV.int .i64)) none, .sl 4 (t.t[k].t.map Trm.pv) none], .tok tk, .box b5 [.int .i64 t.op, .int .i64 t.n, .sl 1 (t.v.map (PV.int .i64)) none, .sl 4 (t.t.map Trm.pv) none]]
            (ih t.t[k] (List.getElem_mem _) (sc ++ t.v) (deep + 1) p Γ2 (by omega) (by omega) (by first | omega | (simp; omega)) k3l k2) (WkT.refl _) (List.Perm.refl _) ?_
          rintro _ _ ⟨Γ3, rfl, ⟨rfl, g1⟩ | ⟨rfl, g1⟩⟩
          · conv => whnf
            repeat' (first | ((first | ((first | (apply zY;intro hg) | apply zZ);focus ((conv=>whnf);(repeat ((first | (refine zW ?_ ?_;exact gA) | refine zH rfl ?_ | refine zA ?_ | refine zI bA ?_ | refine zI rfl ?_ | refine zJ rfl rfl ?_ | refine zB ?_ | refine zK rfl ?_ | refine zL rfl ?_ | refine zC ?_ | (refine zO ?_ ?_ ?_;exact OA;exact OA) | (refine zP ?_ ?_ ?_;exact OA;exact OA) | refine zM rfl ?_ | (refine zQ ?_ ?_ ?_;exact OA;exact OA) | (refine zR ?_ ?_;exact OA) | (refine zI ?_ ?_;exact NA) | (refine zS ?_ ?_ ?_;exact OA;exact OA) | (refine zT ?_ ?_ ?_;exact OA;exact OA) | (refine zU ?_ ?_ ?_;exact OA;exact OA) | (refine zV ?_ ?_ ?_;exact OA;exact OA) | refine PCall.pure (group_c t) (WkT.refl _) ?_ | refine PCall.pure (group_c t) cA ?_ | intro _);conv=>whnf));first | exact PShift.same | exact PShift.lit | exact PShift.ep)) | (refine zW ?_ ?_;exact gA) | refine zH rfl ?_ | refine zA ?_ | refine zI bA ?_ | refine zI rfl ?_ | refine zJ rfl rfl ?_ | refine zB ?_ | refine zK rfl ?_ | refine zL rfl ?_ | refine zC ?_ | (refine zO ?_ ?_ ?_;omega;omega) | (refine zP ?_ ?_ ?_;omega;omega) | refine zM rfl ?_ | (refine zQ ?_ ?_ ?_;omega;omega) | (refine zR ?_ ?_;omega) | (refine zI ?_ ?_;exact nA) | (refine zS ?_ ?_ ?_;omega;omega) | (refine zT ?_ ?_ ?_;omega;omega) | (refine zU ?_ ?_ ?_;omega;omega) | (refine zV ?_ ?_ ?_;omega;omega) | refine PCall.pure (group_c t) (WkT.refl _) ?_ | refine PCall.pure (group_c t) cA ?_ | refine zN rfl rfl rfl ?_ | refine zD ?_ | refine zE ?_ | refine zF ?_ | intro _ | refine zG ?_);conv=>whnf) | (refine zX (fun hc => ?_) (fun hc => ?_)<;>(try simp only [SY] at hc)<;>first | omega | (conv=>whnf)))
            exact loopTo (k + 1, p + (t.t[k].met (sc ++ t.v) (deep + 1)).length, Γ3) (hp := ⟨(List.perm_append_singleton _ _).symm⟩) ⟨by omega, g1, k3r, by dsimp only; omega⟩ (by show t.t.length - (k + 1) < t.t.length - k; omega) wA
          · conv => whnf
            repeat' (first | ((first | ((first | (apply zY;intro hg) | apply zZ);focus ((conv=>whnf);(repeat ((first | (refine zW ?_ ?_;exact gA) | refine zH rfl ?_ | refine zA ?_ | refine zI bA ?_ | refine zI rfl ?_ | refine zJ rfl rfl ?_ | refine zB ?_ | refine zK rfl ?_ | refine zL rfl ?_ | refine zC ?_ | (refine zO ?_ ?_ ?_;exact OA;exact OA) | (refine zP ?_ ?_ ?_;exact OA;exact OA) | refine zM rfl ?_ | (refine zQ ?_ ?_ ?_;exact OA;exact OA) | (refine zR ?_ ?_;exact OA) | (refine zI ?_ ?_;exact NA) | (refine zS ?_ ?_ ?_;exact OA;exact OA) | (refine zT ?_ ?_ ?_;exact OA;exact OA) | (refine zU ?_ ?_ ?_;exact OA;exact OA) | (refine zV ?_ ?_ ?_;exact OA;exact OA) | refine PCall.pure (group_c t) (WkT.refl _) ?_ | refine PCall.pure (group_c t) cA ?_ | intro _);conv=>whnf));first | exact PShift.same | exact PShift.lit | exact PShift.ep)) | (refine zW ?_ ?_;exact gA) | refine zH rfl ?_ | refine zA ?_ | refine zI bA ?_ | refine zI rfl ?_ | refine zJ rfl rfl ?_ | refine zB ?_ | refine zK rfl ?_ | refine zL rfl ?_ | refine zC ?_ | (refine zO ?_ ?_ ?_;omega;omega) | (refine zP ?_ ?_ ?_;omega;omega) | refine zM rfl ?_ | (refine zQ ?_ ?_ ?_;omega;omega) | (refine zR ?_ ?_;omega) | (refine zI ?_ ?_;exact nA) | (refine zS ?_ ?_ ?_;omega;omega) | (refine zT ?_ ?_ ?_;omega;omega) | (refine zU ?_ ?_ ?_;omega;omega) | (refine zV ?_ ?_ ?_;omega;omega) | refine PCall.pure (group_c t) (WkT.refl _) ?_ | refine PCall.pure (group_c t) cA ?_ | refine zN rfl rfl rfl ?_ | refine zD ?_ | refine zE ?_ | refine zF ?_ | intro _ | refine zG ?_);conv=>whnf) | (refine zX (fun hc => ?_) (fun hc => ?_)<;>(try simp only [SY] at hc)<;>first | omega | (conv=>whnf)))
            exact PRet.gen (y := .bfalse) (Γ' := .box yb [.fn (.yield l) []] :: .box wb [.fn (.func 84) [.ptr yb 0, .ptr wb 0]] :: Γ3) (hp := ⟨List.perm_append_comm (l₁ := [_, _, _])⟩) (Wk.refl _) ⟨Γ3, rfl, .inr ⟨rfl, g1⟩⟩
        · rw [if_neg (show ¬(groupB t.op = true ∨ t.t.drop (k + 1) = []) by rw [hdr]; rintro (h | h); rw [hc.1] at h; cases h; exact hc.2 (by omega))] at k3 k4
          have k3l := k3.left
          have k3r := k3.right
          rw [List.length_append] at k4
          refine PCall.goR [.box b11 [.int .i64 t.t[k].op, .int .i64 t.t[k].n, .sl 1 (t.t[k].v.map (PV.int .i64)) none, .sl 4 (t.t[k].t.map Trm.pv) none], .tok tk, .box b5 [.int .i64 t.op, .int .i64 t.n, .sl 1 (t.v.map (PV.int .i64)) none, .sl 4 (t.t.map Trm.pv) none]]
            (ih t.t[k] (List.getElem_mem _) (sc) (deep + 1) p Γ2 (by omega) (by omega) (by first | omega | (simp; omega)) k3l k2) (WkT.refl _) (List.Perm.refl _) ?_
          rintro _ _ ⟨Γ3, rfl, ⟨rfl, g1⟩ | ⟨rfl, g1⟩⟩
          · conv => whnf
            repeat' (first | ((first | ((first | (apply zY;intro hg) | apply zZ);focus ((conv=>whnf);(repeat ((first | (refine zW ?_ ?_;exact gA) | refine zH rfl ?_ | refine zA ?_ | refine zI bA ?_ | refine zI rfl ?_ | refine zJ rfl rfl ?_ | refine zB ?_ | refine zK rfl ?_ | refine zL rfl ?_ | refine zC ?_ | (refine zO ?_ ?_ ?_;exact OA;exact OA) | (refine zP ?_ ?_ ?_;exact OA;exact OA) | refine zM rfl ?_ | (refine zQ ?_ ?_ ?_;exact OA;exact OA) | (refine zR ?_ ?_;exact OA) | (refine zI ?_ ?_;exact NA) | (refine zS ?_ ?_ ?_;exact OA;exact OA) | (refine zT ?_ ?_ ?_;exact OA;exact OA) | (refine zU ?_ ?_ ?_;exact OA;exact OA) | (refine zV ?_ ?_ ?_;exact OA;exact OA) | refine PCall.pure (group_c t) (WkT.refl _) ?_ | refine PCall.pure (group_c t) cA ?_ | intro _);conv=>whnf));first | exact PShift.same | exact PShift.lit | exact PShift.ep)) | (refine zW ?_ ?_;exact gA) | refine zH rfl ?_ | refine zA ?_ | refine zI bA ?_ | refine zI rfl ?_ | refine zJ rfl rfl ?_ | refine zB ?_ | refine zK rfl ?_ | refine zL rfl ?_ | refine zC ?_ | (refine zO ?_ ?_ ?_;omega;omega) | (refine zP ?_ ?_ ?_;omega;omega) | refine zM rfl ?_ | (refine zQ ?_ ?_ ?_;omega;omega) | (refine zR ?_ ?_;omega) | (refine zI ?_ ?_;exact nA) | (refine zS ?_ ?_ ?_;omega;omega) | (refine zT ?_ ?_ ?_;omega;omega) | (refine zU ?_ ?_ ?_;omega;omega) | (refine zV ?_ ?_ ?_;omega;omega) | refine PCall.pure (group_c t) (WkT.refl _) ?_ | refine PCall.pure (group_c t) cA ?_ | refine zN rfl rfl rfl ?_ | refine zD ?_ | refine zE ?_ | refine zF ?_ | intro _ | refine zG ?_);conv=>whnf) | (refine zX (fun hc => ?_) (fun hc => ?_)<;>(try simp only [SY] at hc)<;>first | omega | (conv=>whnf)))
            exact loopTo (k + 1, p + (t.t[k].met (sc) (deep + 1)).length, Γ3) (hp := ⟨(List.perm_append_singleton _ _).symm⟩) ⟨by omega, g1, k3r, by dsimp only; omega⟩ (by show t.t.length - (k + 1) < t.t.length - k; omega) wA
          · conv => whnf
            repeat' (first | ((first | ((first | (apply zY;intro hg) | apply zZ);focus ((conv=>whnf);(repeat ((first | (refine zW ?_ ?_;exact gA) | refine zH rfl ?_ | refine zA ?_ | refine zI bA ?_ | refine zI rfl ?_ | refine zJ rfl rfl ?_ | refine zB ?_ | refine zK rfl ?_ | refine zL rfl ?_ | refine zC ?_ | (refine zO ?_ ?_ ?_;exact OA;exact OA) | (refine zP ?_ ?_ ?_;exact OA;exact OA) | refine zM rfl ?_ | (refine zQ ?_ ?_ ?_;exact OA;exact OA) | (refine zR ?_ ?_;exact OA) | (refine zI ?_ ?_;exact NA) | (refine zS ?_ ?_ ?_;exact OA;exact OA) | (refine zT ?_ ?_ ?_;exact OA;exact OA) | (refine zU ?_ ?_ ?_;exact OA;exact OA) | (refine zV ?_ ?_ ?_;exact OA;exact OA) | refine PCall.pure (group_c t) (WkT.refl _) ?_ | refine PCall.pure (group_c t) cA ?_ | intro _);conv=>whnf));first | exact PShift.same | exact PShift.lit | exact PShift.ep)) | (refine zW ?_ ?_;exact gA) | refine zH rfl ?_ | refine zA ?_ | refine zI bA ?_ | refine zI rfl ?_ | refine zJ rfl rfl ?_ | refine zB ?_ | refine zK rfl ?_ | refine zL rfl ?_ | refine zC ?_ | (refine zO ?_ ?_ ?_;omega;omega) | (refine zP ?_ ?_ ?_;omega;omega) | refine zM rfl ?_ | (refine zQ ?_ ?_ ?_;omega;omega) | (refine zR ?_ ?_;omega) | (refine zI ?_ ?_;exact nA) | (refine zS ?_ ?_ ?_;omega;omega) | (refine zT ?_ ?_ ?_;omega;omega) | (refine zU ?_ ?_ ?_;omega;omega) | (refine zV ?_ ?_ ?_;omega;omega) | refine PCall.pure (group_c t) (WkT.refl _) ?_ | refine PCall.pure (group_c t) cA ?_ | refine zN rfl rfl rfl ?_ | refine zD ?_ | refine zE ?_ | refine zF ?_ | intro _ | refine zG ?_);conv=>whnf) | (refine zX (fun hc => ?_) (fun hc => ?_)<;>(try simp only [SY] at hc)<;>first | omega | (conv=>whnf)))
            exact PRet.gen (y := .bfalse) (Γ' := .box yb [.fn (.yield l) []] :: .box wb [.fn (.func 84) [.ptr yb 0, .ptr wb 0]] :: Γ3) (hp := ⟨List.perm_append_comm (l₁ := [_, _, _])⟩) (Wk.refl _) ⟨Γ3, rfl, .inr ⟨rfl, g1⟩⟩
    · conv => whnf
      repeat' (first | ((first | ((first | (apply zY;intro hg) | apply zZ);focus ((conv=>whnf);(repeat ((first | (refine zW ?_ ?_;exact gA) | refine zH rfl ?_ | refine zA ?_ | refine zI bA ?_ | refine zI rfl ?_ | refine zJ rfl rfl ?_ | refine zB ?_ | refine zK rfl ?_ | refine zL rfl ?_ | refine zC ?_ | (refine zO ?_ ?_ ?_;exact OA;exact OA) | (refine zP ?_ ?_ ?_;exact OA;exact OA) | refine zM rfl ?_ | (refine zQ ?_ ?_ ?_;exact OA;exact OA) | (refine zR ?_ ?_;exact OA) | (refine zI ?_ ?_;exact NA) | (refine zS ?_ ?_ ?_;exact OA;exact OA) | (refine zT ?_ ?_ ?_;exact OA;exact OA) | (refine zU ?_ ?_ ?_;exact OA;exact OA) | (refine zV ?_ ?_ ?_;exact OA;exact OA) | refine PCall.pure (group_c t) (WkT.refl _) ?_ | refine PCall.pure (group_c t) cA ?_ | intro _);conv=>whnf));first | exact PShift.same | exact PShift.lit | exact PShift.ep)) | (refine zW ?_ ?_;exact gA) | refine zH rfl ?_ | refine zA ?_ | refine zI bA ?_ | refine zI rfl ?_ | refine zJ rfl rfl ?_ | refine zB ?_ | refine zK rfl ?_ | refine zL rfl ?_ | refine zC ?_ | (refine zO ?_ ?_ ?_;omega;omega) | (refine zP ?_ ?_ ?_;omega;omega) | refine zM rfl ?_ | (refine zQ ?_ ?_ ?_;omega;omega) | (refine zR ?_ ?_;omega) | (refine zI ?_ ?_;exact nA) | (refine zS ?_ ?_ ?_;omega;omega) | (refine zT ?_ ?_ ?_;omega;omega) | (refine zU ?_ ?_ ?_;omega;omega) | (refine zV ?_ ?_ ?_;omega;omega) | refine PCall.pure (group_c t) (WkT.refl _) ?_ | refine PCall.pure (group_c t) cA ?_ | refine zN rfl rfl rfl ?_ | refine zD ?_ | refine zE ?_ | refine zF ?_ | intro _ | refine zG ?_);conv=>whnf) | (refine zX (fun hc => ?_) (fun hc => ?_)<;>(try simp only [SY] at hc)<;>first | omega | (conv=>whnf)))
      exact PRet.gen (y := .bfalse) (Γ' := .box yb [.fn (.yield l) []] :: .box wb [.fn (.func 84) [.ptr yb 0, .ptr wb 0]] :: Γ1) (hp := ⟨(List.perm_append_singleton _ _).symm⟩) (Wk.refl _) ⟨Γ1, rfl, .inr ⟨rfl, hX⟩⟩
def Trm.all (t : Trm) : List (Trm × List Int) := t.met [] 0
theorem all1_c (b : Nat) (t : Trm) (hb : t.bulk ≤ 1000000000) : AIter Tryz.prog 83 [.ptr b 0] [.box b t.cells] (t.all.map fun m => [metP m]) := by
  intro l J X hy Γ hJ
  refine ACall.ghost (Ghost.drop (Γ' := .box b t.cells :: Γ) (Γ1 := []) (by rw [List.append_nil]; exact List.perm_append_singleton _ _)) ?_
  refine ACall.of_body tt_ok Tryz.func83 rfl rfl (n := 8) rfl rfl ?_
  conv => whnf
  repeat ((first | ((first | (apply zY;intro hg) | apply zZ);focus ((conv=>whnf);(repeat ((first | (refine zW ?_ ?_;exact gA) | refine zH rfl ?_ | refine zA ?_ | refine zI bA ?_ | refine zI rfl ?_ | refine zJ rfl rfl ?_ | refine zB ?_ | refine zK rfl ?_ | refine zL rfl ?_ | refine zC ?_ | (refine zO ?_ ?_ ?_;exact OA;exact OA) | (refine zP ?_ ?_ ?_;exact OA;exact OA) | refine zM rfl ?_ | (refine zQ ?_ ?_ ?_;exact OA;exact OA) | (refine zR ?_ ?_;exact OA) | (refine zI ?_ ?_;exact NA) | (refine zS ?_ ?_ ?_;exact OA;exact OA) | (refine zT ?_ ?_ ?_;exact OA;exact OA) | (refine zU ?_ ?_ ?_;exact OA;exact OA) | (refine zV ?_ ?_ ?_;exact OA;exact OA) | refine PCall.pure (group_c t) (WkT.refl _) ?_ | refine PCall.pure (group_c t) cA ?_ | intro _);conv=>whnf));first | exact PShift.same | exact PShift.lit | exact PShift.ep)) | (refine zW ?_ ?_;exact gA) | refine zH rfl ?_ | refine zA ?_ | refine zI bA ?_ | refine zI rfl ?_ | refine zJ rfl rfl ?_ | refine zB ?_ | refine zK rfl ?_ | refine zL rfl ?_ | refine zC ?_ | (refine zO ?_ ?_ ?_;omega;omega) | (refine zP ?_ ?_ ?_;omega;omega) | refine zM rfl ?_ | (refine zQ ?_ ?_ ?_;omega;omega) | (refine zR ?_ ?_;omega) | (refine zI ?_ ?_;exact nA) | (refine zS ?_ ?_ ?_;omega;omega) | (refine zT ?_ ?_ ?_;omega;omega) | (refine zU ?_ ?_ ?_;omega;omega) | (refine zV ?_ ?_ ?_;omega;omega) | refine PCall.pure (group_c t) (WkT.refl _) ?_ | refine PCall.pure (group_c t) cA ?_ | refine zN rfl rfl rfl ?_ | refine zD ?_ | refine zE ?_ | refine zF ?_ | intro _);conv=>whnf)
  conv => whnf
  repeat' (first | ((first | ((first | (apply zY;intro hg) | apply zZ);focus ((conv=>whnf);(repeat ((first | (refine zW ?_ ?_;exact gA) | refine zH rfl ?_ | refine zA ?_ | refine zI bA ?_ | refine zI rfl ?_ | refine zJ rfl rfl ?_ | refine zB ?_ | refine zK rfl ?_ | refine zL rfl ?_ | refine zC ?_ | (refine zO ?_ ?_ ?_;exact OA;exact OA) | (refine zP ?_ ?_ ?_;exact OA;exact OA) | refine zM rfl ?_ | (refine zQ ?_ ?_ ?_;exact OA;exact OA) | (refine zR ?_ ?_;exact OA) | (refine zI ?_ ?_;exact NA) | (refine zS ?_ ?_ ?_;exact OA;exact OA) | (refine zT ?_ ?_ ?_;exact OA;exact OA) | (refine zU ?_ ?_ ?_;exact OA;exact OA) | (refine zV ?_ ?_ ?_;exact OA;exact OA) | refine PCall.pure (group_c t) (WkT.refl _) ?_ | refine PCall.pure (group_c t) cA ?_ | intro _);conv=>whnf));first | exact PShift.same | exact PShift.lit | exact PShift.ep)) | (refine zW ?_ ?_;exact gA) | refine zH rfl ?_ | refine zA ?_ | refine zI bA ?_ | refine zI rfl ?_ | refine zJ rfl rfl ?_ | refine zB ?_ | refine zK rfl ?_ | refine zL rfl ?_ | refine zC ?_ | (refine zO ?_ ?_ ?_;omega;omega) | (refine zP ?_ ?_ ?_;omega;omega) | refine zM rfl ?_ | (refine zQ ?_ ?_ ?_;omega;omega) | (refine zR ?_ ?_;omega) | (refine zI ?_ ?_;exact nA) | (refine zS ?_ ?_ ?_;omega;omega) | (refine zT ?_ ?_ ?_;omega;omega) | (refine zU ?_ ?_ ?_;omega;omega) | (refine zV ?_ ?_ ?_;omega;omega) | refine PCall.pure (group_c t) (WkT.refl _) ?_ | refine PCall.pure (group_c t) cA ?_ | refine zN rfl rfl rfl ?_ | refine zD ?_ | refine zE ?_ | refine zF ?_ | intro _ | refine zG ?_);conv=>whnf) | (refine zX (fun hc => ?_) (fun hc => ?_)<;>(try simp only [SY] at hc)<;>first | omega | (conv=>whnf)))
  rename_i yb wb
  refine PCall.goR [.box b t.cells] (walk_c l yb wb _ J X hy t [] 0 0 Γ (by omega) (by omega) (by simp; omega) (fun j hj => by rw [Nat.zero_add, List.getElem?_map]; show Option.map _ (t.met [] 0)[j]? = _; rw [List.getElem?_eq_getElem hj]; rfl) hJ) (WkT.cons (Wk.refl _) (WkT.cons (Wk.nil' rfl) (WkT.refl _))) ((List.Perm.swap _ _ _).trans (((List.Perm.swap _ _ _).cons _).trans (List.Perm.swap _ _ _))) ?_
  rintro _ _ ⟨Γ1, rfl, h1⟩
  conv => whnf
  repeat ((first | ((first | (apply zY;intro hg) | apply zZ);focus ((conv=>whnf);(repeat ((first | (refine zW ?_ ?_;exact gA) | refine zH rfl ?_ | refine zA ?_ | refine zI bA ?_ | refine zI rfl ?_ | refine zJ rfl rfl ?_ | refine zB ?_ | refine zK rfl ?_ | refine zL rfl ?_ | refine zC ?_ | (refine zO ?_ ?_ ?_;exact OA;exact OA) | (refine zP ?_ ?_ ?_;exact OA;exact OA) | refine zM rfl ?_ | (refine zQ ?_ ?_ ?_;exact OA;exact OA) | (refine zR ?_ ?_;exact OA) | (refine zI ?_ ?_;exact NA) | (refine zS ?_ ?_ ?_;exact OA;exact OA) | (refine zT ?_ ?_ ?_;exact OA;exact OA) | (refine zU ?_ ?_ ?_;exact OA;exact OA) | (refine zV ?_ ?_ ?_;exact OA;exact OA) | refine PCall.pure (group_c t) (WkT.refl _) ?_ | refine PCall.pure (group_c t) cA ?_ | intro _);conv=>whnf));first | exact PShift.same | exact PShift.lit | exact PShift.ep)) | (refine zW ?_ ?_;exact gA) | refine zH rfl ?_ | refine zA ?_ | refine zI bA ?_ | refine zI rfl ?_ | refine zJ rfl rfl ?_ | refine zB ?_ | refine zK rfl ?_ | refine zL rfl ?_ | refine zC ?_ | (refine zO ?_ ?_ ?_;omega;omega) | (refine zP ?_ ?_ ?_;omega;omega) | refine zM rfl ?_ | (refine zQ ?_ ?_ ?_;omega;omega) | (refine zR ?_ ?_;omega) | (refine zI ?_ ?_;exact nA) | (refine zS ?_ ?_ ?_;omega;omega) | (refine zT ?_ ?_ ?_;omega;omega) | (refine zU ?_ ?_ ?_;omega;omega) | (refine zV ?_ ?_ ?_;omega;omega) | refine PCall.pure (group_c t) (WkT.refl _) ?_ | refine PCall.pure (group_c t) cA ?_ | refine zN rfl rfl rfl ?_ | refine zD ?_ | refine zE ?_ | refine zF ?_ | intro _);conv=>whnf)
  refine PRet.gen (Γ' := Γ1) (hp := ⟨List.perm_append_comm (l₁ := [_, _, _])⟩) (Wk.refl _) ?_
  rw [List.length_map]
  rcases h1 with ⟨_, h⟩ | ⟨_, h⟩
  · exact .inl (by rw [Nat.zero_add] at h; exact h)
  · exact .inr h
theorem all_c (t : Trm) : ACall Tryz.prog 50 [.agg t.cells] [] (fun y Γ' => ∃ b, y = .fn (.func 83) [.ptr b 0] ∧ Γ' = [.box b t.cells]) := by
  refine ACall.of_body tt_ok Tryz.func50 rfl rfl (n := 4) rfl rfl ?_
  conv => whnf
  repeat ((first | ((first | (apply zY;intro hg) | apply zZ);focus ((conv=>whnf);(repeat ((first | (refine zW ?_ ?_;exact gA) | refine zH rfl ?_ | refine zA ?_ | refine zI bA ?_ | refine zI rfl ?_ | refine zJ rfl rfl ?_ | refine zB ?_ | refine zK rfl ?_ | refine zL rfl ?_ | refine zC ?_ | (refine zO ?_ ?_ ?_;exact OA;exact OA) | (refine zP ?_ ?_ ?_;exact OA;exact OA) | refine zM rfl ?_ | (refine zQ ?_ ?_ ?_;exact OA;exact OA) | (refine zR ?_ ?_;exact OA) | (refine zI ?_ ?_;exact NA) | (refine zS ?_ ?_ ?_;exact OA;exact OA) | (refine zT ?_ ?_ ?_;exact OA;exact OA) | (refine zU ?_ ?_ ?_;exact OA;exact OA) | (refine zV ?_ ?_ ?_;exact OA;exact OA) | refine PCall.pure (group_c t) (WkT.refl _) ?_ | refine PCall.pure (group_c t) cA ?_ | intro _);conv=>whnf));first | exact PShift.same | exact PShift.lit | exact PShift.ep)) | (refine zW ?_ ?_;exact gA) | refine zH rfl ?_ | refine zA ?_ | refine zI bA ?_ | refine zI rfl ?_ | refine zJ rfl rfl ?_ | refine zB ?_ | refine zK rfl ?_ | refine zL rfl ?_ | refine zC ?_ | (refine zO ?_ ?_ ?_;omega;omega) | (refine zP ?_ ?_ ?_;omega;omega) | refine zM rfl ?_ | (refine zQ ?_ ?_ ?_;omega;omega) | (refine zR ?_ ?_;omega) | (refine zI ?_ ?_;exact nA) | (refine zS ?_ ?_ ?_;omega;omega) | (refine zT ?_ ?_ ?_;omega;omega) | (refine zU ?_ ?_ ?_;omega;omega) | (refine zV ?_ ?_ ?_;omega;omega) | refine PCall.pure (group_c t) (WkT.refl _) ?_ | refine PCall.pure (group_c t) cA ?_ | refine zN rfl rfl rfl ?_ | refine zD ?_ | refine zE ?_ | refine zF ?_ | intro _);conv=>whnf)
  conv => whnf
  repeat' (first | ((first | ((first | (apply zY;intro hg) | apply zZ);focus ((conv=>whnf);(repeat ((first | (refine zW ?_ ?_;exact gA) | refine zH rfl ?_ | refine zA ?_ | refine zI bA ?_ | refine zI rfl ?_ | refine zJ rfl rfl ?_ | refine zB ?_ | refine zK rfl ?_ | refine zL rfl ?_ | refine zC ?_ | (refine zO ?_ ?_ ?_;exact OA;exact OA) | (refine zP ?_ ?_ ?_;exact OA;exact OA) | refine zM rfl ?_ | (refine zQ ?_ ?_ ?_;exact OA;exact OA) | (refine zR ?_ ?_;exact OA) | (refine zI ?_ ?_;exact NA) | (refine zS ?_ ?_ ?_;exact OA;exact OA) | (refine zT ?_ ?_ ?_;exact OA;exact OA) | (refine zU ?_ ?_ ?_;exact OA;exact OA) | (refine zV ?_ ?_ ?_;exact OA;exact OA) | refine PCall.pure (group_c t) (WkT.refl _) ?_ | refine PCall.pure (group_c t) cA ?_ | intro _);conv=>whnf));first | exact PShift.same | exact PShift.lit | exact PShift.ep)) | (refine zW ?_ ?_;exact gA) | refine zH rfl ?_ | refine zA ?_ | refine zI bA ?_ | refine zI rfl ?_ | refine zJ rfl rfl ?_ | refine zB ?_ | refine zK rfl ?_ | refine zL rfl ?_ | refine zC ?_ | (refine zO ?_ ?_ ?_;omega;omega) | (refine zP ?_ ?_ ?_;omega;omega) | refine zM rfl ?_ | (refine zQ ?_ ?_ ?_;omega;omega) | (refine zR ?_ ?_;omega) | (refine zI ?_ ?_;exact nA) | (refine zS ?_ ?_ ?_;omega;omega) | (refine zT ?_ ?_ ?_;omega;omega) | (refine zU ?_ ?_ ?_;omega;omega) | (refine zV ?_ ?_ ?_;omega;omega) | refine PCall.pure (group_c t) (WkT.refl _) ?_ | refine PCall.pure (group_c t) cA ?_ | refine zN rfl rfl rfl ?_ | refine zD ?_ | refine zE ?_ | refine zF ?_ | intro _ | refine zG ?_);conv=>whnf) | (refine zX (fun hc => ?_) (fun hc => ?_)<;>(try simp only [SY] at hc)<;>first | omega | (conv=>whnf)))
  rename_i b
  exact PRet.gen (y := .fn (.func 83) [.ptr b 0]) (Γ' := [.box b t.cells]) (hp := PickL.self _) (Wk.refl _) ⟨b, rfl, rfl⟩
end Go.Cb
namespace Go.Cb
open Go.Proofs
set_option maxRecDepth 100000
set_option maxHeartbeats 4000000
theorem Trm.met_len (t : Trm) : ∀ (sc : List Int) (deep : Int), (t.met sc deep).length ≤ t.bulk := by
  induction t using Trm.ind with
  | h t ih =>
    intro sc deep
    rw [Trm.met_eq, t.bulk_eq, List.length_cons]
    split
    · simp; omega
    · have : ∀ (l : List Trm), (∀ y ∈ l, ∀ (sc : List Int) (deep : Int), (y.met sc deep).length ≤ y.bulk) → ∀ sc inner deep, (Trm.mets t.op sc inner l deep).length ≤ Trm.bulks l := by
        intro l
        induction l with
        | nil => intro _ _ _ _; simp [Trm.mets]
        | cons x l ihl =>
          intro hy sc inner deep
          rw [Trm.mets, Trm.bulks, List.length_append]
          have := hy x (by simp) (if groupB t.op = true ∨ l = [] then inner else sc) deep
          have := ihl (fun y h => hy y (by simp [h])) sc inner deep
          omega
      have := this t.t ih sc (sc ++ t.v) (deep + 1)
      omega
theorem size_c2 (t : Trm) (hb : t.bulk ≤ 1000000000) : ACallP Tryz.prog 46 [.agg t.cells] (.int .i64 t.all.length) := by
  have hlen : t.all.length ≤ t.bulk := t.met_len [] 0
  refine ACall.of_body tt_ok Tryz.func46 rfl rfl (n := 10) rfl rfl ?_
  conv => whnf
  repeat ((first | ((first | (apply zY;intro hg) | apply zZ);exact stA) | (refine zW ?_ ?_;exact gA) | refine zH rfl ?_ | refine zA ?_ | refine zI bA ?_ | refine zI rfl ?_ | refine zJ rfl rfl ?_ | refine zB ?_ | refine zK rfl ?_ | refine zL rfl ?_ | refine zC ?_ | (refine zO ?_ ?_ ?_;omega;omega) | (refine zP ?_ ?_ ?_;omega;omega) | refine zM rfl ?_ | (refine zQ ?_ ?_ ?_;omega;omega) | (refine zR ?_ ?_;omega) | (refine zI ?_ ?_;exact nA) | (refine zS ?_ ?_ ?_;omega;omega) | (refine zT ?_ ?_ ?_;omega;omega) | (refine zU ?_ ?_ ?_;omega;omega) | (refine zV ?_ ?_ ?_;omega;omega) | refine zN rfl rfl rfl ?_ | refine zD ?_ | refine zE ?_ | refine zF ?_ | intro _);conv=>whnf)
  conv => whnf
  repeat' (first | ((first | ((first | (apply zY;intro hg) | apply zZ);exact stA) | (refine zW ?_ ?_;exact gA) | refine zH rfl ?_ | refine zA ?_ | refine zI bA ?_ | refine zI rfl ?_ | refine zJ rfl rfl ?_ | refine zB ?_ | refine zK rfl ?_ | refine zL rfl ?_ | refine zC ?_ | (refine zO ?_ ?_ ?_;omega;omega) | (refine zP ?_ ?_ ?_;omega;omega) | refine zM rfl ?_ | (refine zQ ?_ ?_ ?_;omega;omega) | (refine zR ?_ ?_;omega) | (refine zI ?_ ?_;exact nA) | (refine zS ?_ ?_ ?_;omega;omega) | (refine zT ?_ ?_ ?_;omega;omega) | (refine zU ?_ ?_ ?_;omega;omega) | (refine zV ?_ ?_ ?_;omega;omega) | refine zN rfl rfl rfl ?_ | refine zD ?_ | refine zE ?_ | refine zF ?_ | intro _ | refine zG ?_);conv=>whnf) | (refine zX (fun hc => ?_) (fun hc => ?_)<;>(try simp only [SY] at hc)<;>first | omega | (conv=>whnf)))
  rename_i bt bn
  refine PCall.go (all_c t) (WkT.refl _) ?_
  rintro _ _ ⟨b, rfl, rfl⟩
  conv => whnf
  repeat ((first | ((first | (apply zY;intro hg) | apply zZ);exact stA) | (refine zW ?_ ?_;exact gA) | refine zH rfl ?_ | refine zA ?_ | refine zI bA ?_ | refine zI rfl ?_ | refine zJ rfl rfl ?_ | refine zB ?_ | refine zK rfl ?_ | refine zL rfl ?_ | refine zC ?_ | (refine zO ?_ ?_ ?_;omega;omega) | (refine zP ?_ ?_ ?_;omega;omega) | refine zM rfl ?_ | (refine zQ ?_ ?_ ?_;omega;omega) | (refine zR ?_ ?_;omega) | (refine zI ?_ ?_;exact nA) | (refine zS ?_ ?_ ?_;omega;omega) | (refine zT ?_ ?_ ?_;omega;omega) | (refine zU ?_ ?_ ?_;omega;omega) | (refine zV ?_ ?_ ?_;omega;omega) | refine zN rfl rfl rfl ?_ | refine zD ?_ | refine zE ?_ | refine zF ?_ | intro _);conv=>whnf)
  refine PRange.go (t.all.map fun m => [metP m]) (fun n : Int => [.box bn [.int .i64 n]]) (fun k n => n = k) (fun _ _ => False) 0 (all1_c b t hb) rfl (hp := (inferInstance : PickL _ [.box bn [.int .i64 0], .box b t.cells] _)) (by intro ys hy; obtain ⟨m, _, rfl⟩ := List.mem_map.1 hy; rfl) ?_ ?_ (fun _ _ _ h => h.elim)
  · rintro k ys _ hk rfl
    obtain ⟨m, hm, rfl⟩ : ∃ m, t.all[k]? = some m ∧ ys = [metP m] := by
      rw [List.getElem?_map] at hk
      cases h : t.all[k]? with
      | none => rw [h] at hk; cases hk
      | some m => rw [h] at hk; cases hk; exact ⟨m, rfl, rfl⟩
    have hlt := (List.getElem?_eq_some_iff.1 hm).1
    conv => whnf
    repeat' (first | ((first | ((first | (apply zY;intro hg) | apply zZ);exact stA) | (refine zW ?_ ?_;exact gA) | refine zH rfl ?_ | refine zA ?_ | refine zI bA ?_ | refine zI rfl ?_ | refine zJ rfl rfl ?_ | refine zB ?_ | refine zK rfl ?_ | refine zL rfl ?_ | refine zC ?_ | (refine zO ?_ ?_ ?_;omega;omega) | (refine zP ?_ ?_ ?_;omega;omega) | refine zM rfl ?_ | (refine zQ ?_ ?_ ?_;omega;omega) | (refine zR ?_ ?_;omega) | (refine zI ?_ ?_;exact nA) | (refine zS ?_ ?_ ?_;omega;omega) | (refine zT ?_ ?_ ?_;omega;omega) | (refine zU ?_ ?_ ?_;omega;omega) | (refine zV ?_ ?_ ?_;omega;omega) | refine zN rfl rfl rfl ?_ | refine zD ?_ | refine zE ?_ | refine zF ?_ | intro _ | refine zG ?_);conv=>whnf) | (refine zX (fun hc => ?_) (fun hc => ?_)<;>(try simp only [SY] at hc)<;>first | omega | (conv=>whnf)))
    refine ⟨rfl, ?_⟩
    conv => whnf
    repeat' (first | ((first | ((first | (apply zY;intro hg) | apply zZ);exact stA) | (refine zW ?_ ?_;exact gA) | refine zH rfl ?_ | refine zA ?_ | refine zI bA ?_ | refine zI rfl ?_ | refine zJ rfl rfl ?_ | refine zB ?_ | refine zK rfl ?_ | refine zL rfl ?_ | refine zC ?_ | (refine zO ?_ ?_ ?_;omega;omega) | (refine zP ?_ ?_ ?_;omega;omega) | refine zM rfl ?_ | (refine zQ ?_ ?_ ?_;omega;omega) | (refine zR ?_ ?_;omega) | (refine zI ?_ ?_;exact nA) | (refine zS ?_ ?_ ?_;omega;omega) | (refine zT ?_ ?_ ?_;omega;omega) | (refine zU ?_ ?_ ?_;omega;omega) | (refine zV ?_ ?_ ?_;omega;omega) | refine zN rfl rfl rfl ?_ | refine zD ?_ | refine zE ?_ | refine zF ?_ | intro _ | refine zG ?_);conv=>whnf) | (refine zX (fun hc => ?_) (fun hc => ?_)<;>(try simp only [SY] at hc)<;>first | omega | (conv=>whnf)))
    exact roundEnd (k := k) (G := fun n : Int => [.box bn [.int .i64 n]]) (I := fun k n => n = ((k : Nat) : Int)) (X := fun _ _ => False) ((k : Int) + 1) (by show (k : Int) + 1 = ((k + 1 : Nat) : Int); omega) (hp := PickL.self _)
  · rintro bd _ rfl
    conv => whnf
    repeat' (first | ((first | ((first | (apply zY;intro hg) | apply zZ);exact stA) | (refine zW ?_ ?_;exact gA) | refine zH rfl ?_ | refine zA ?_ | refine zI bA ?_ | refine zI rfl ?_ | refine zJ rfl rfl ?_ | refine zB ?_ | refine zK rfl ?_ | refine zL rfl ?_ | refine zC ?_ | (refine zO ?_ ?_ ?_;omega;omega) | (refine zP ?_ ?_ ?_;omega;omega) | refine zM rfl ?_ | (refine zQ ?_ ?_ ?_;omega;omega) | (refine zR ?_ ?_;omega) | (refine zI ?_ ?_;exact nA) | (refine zS ?_ ?_ ?_;omega;omega) | (refine zT ?_ ?_ ?_;omega;omega) | (refine zU ?_ ?_ ?_;omega;omega) | (refine zV ?_ ?_ ?_;omega;omega) | refine zN rfl rfl rfl ?_ | refine zD ?_ | refine zE ?_ | refine zF ?_ | intro _ | refine zG ?_);conv=>whnf) | (refine zX (fun hc => ?_) (fun hc => ?_)<;>(try simp only [SY] at hc)<;>first | omega | (conv=>whnf)))
    refine PMark.at_ rfl ?_
    conv => whnf
    exact PRet.pure (Wk.int (by rw [List.length_map]))
end Go.Cb
namespace Go.Cb
open Go.Proofs
set_option maxRecDepth 100000
set_option maxHeartbeats 4000000
theorem PLenM.one {x : PV} {Γ : List Ent} {t : Tok} {put : Tok → List PV → List Ent} [hp : PickRow Γ t [x] put] {K : Nat → Prop} (k : K 1) : PLenM t Γ K := PLenM.at_ (hp := hp) (fun _ => k)
theorem len64_c : ACall Tryz.prog 166 [.int .u64 1] [] (fun y Γ' => ∃ k, y = .int .i64 k ∧ Γ' = []) := by
  refine ACall.of_body tt_ok Tryz.func166 rfl rfl (n := 25) rfl rfl ?_
  conv => whnf
  repeat ((first | ((first | (apply zY;intro hg) | apply zZ);exact stA) | (refine zW ?_ ?_;exact gA) | refine zH rfl ?_ | refine zA ?_ | refine zI bA ?_ | refine zI rfl ?_ | refine zJ rfl rfl ?_ | refine zB ?_ | refine zK rfl ?_ | refine zL rfl ?_ | refine zC ?_ | (refine zO ?_ ?_ ?_;omega;omega) | (refine zP ?_ ?_ ?_;omega;omega) | refine zM rfl ?_ | (refine zQ ?_ ?_ ?_;omega;omega) | (refine zR ?_ ?_;omega) | (refine zI ?_ ?_;exact nA) | (refine zS ?_ ?_ ?_;omega;omega) | (refine zT ?_ ?_ ?_;omega;omega) | (refine zU ?_ ?_ ?_;omega;omega) | (refine zV ?_ ?_ ?_;omega;omega) | refine zN rfl rfl rfl ?_ | refine zD ?_ | refine zE ?_ | refine zF ?_ | intro _);conv=>whnf)
  conv => whnf
  repeat' (first | ((first | ((first | (apply zY;intro hg) | apply zZ);exact stA) | (refine zW ?_ ?_;exact gA) | refine zH rfl ?_ | refine zA ?_ | refine zI bA ?_ | refine zI rfl ?_ | refine zJ rfl rfl ?_ | refine zB ?_ | refine zK rfl ?_ | refine zL rfl ?_ | refine zC ?_ | (refine zO ?_ ?_ ?_;omega;omega) | (refine zP ?_ ?_ ?_;omega;omega) | refine zM rfl ?_ | (refine zQ ?_ ?_ ?_;omega;omega) | (refine zR ?_ ?_;omega) | (refine zI ?_ ?_;exact nA) | (refine zS ?_ ?_ ?_;omega;omega) | (refine zT ?_ ?_ ?_;omega;omega) | (refine zU ?_ ?_ ?_;omega;omega) | (refine zV ?_ ?_ ?_;omega;omega) | refine zN rfl rfl rfl ?_ | refine zD ?_ | refine zE ?_ | refine zF ?_ | intro _ | refine zG ?_);conv=>whnf) | (refine zX (fun hc => ?_) (fun hc => ?_)<;>(try simp only [SY] at hc)<;>first | omega | (conv=>whnf)))
  refine PInt.ok (by decide) (by decide) ?_
  conv => whnf
  repeat' (first | ((first | ((first | (apply zY;intro hg) | apply zZ);exact stA) | (refine zW ?_ ?_;exact gA) | refine zH rfl ?_ | refine zA ?_ | refine zI bA ?_ | refine zI rfl ?_ | refine zJ rfl rfl ?_ | refine zB ?_ | refine zK rfl ?_ | refine zL rfl ?_ | refine zC ?_ | (refine zO ?_ ?_ ?_;omega;omega) | (refine zP ?_ ?_ ?_;omega;omega) | refine zM rfl ?_ | (refine zQ ?_ ?_ ?_;omega;omega) | (refine zR ?_ ?_;omega) | (refine zI ?_ ?_;exact nA) | (refine zS ?_ ?_ ?_;omega;omega) | (refine zT ?_ ?_ ?_;omega;omega) | (refine zU ?_ ?_ ?_;omega;omega) | (refine zV ?_ ?_ ?_;omega;omega) | refine zN rfl rfl rfl ?_ | refine zD ?_ | refine zE ?_ | refine zF ?_ | intro _ | refine zG ?_);conv=>whnf) | (refine zX (fun hc => ?_) (fun hc => ?_)<;>(try simp only [SY] at hc)<;>first | omega | (conv=>whnf)))
  refine PInt.ok (by decide) (by decide) ?_
  conv => whnf
  repeat' (first | ((first | ((first | (apply zY;intro hg) | apply zZ);exact stA) | (refine zW ?_ ?_;exact gA) | refine zH rfl ?_ | refine zA ?_ | refine zI bA ?_ | refine zI rfl ?_ | refine zJ rfl rfl ?_ | refine zB ?_ | refine zK rfl ?_ | refine zL rfl ?_ | refine zC ?_ | (refine zO ?_ ?_ ?_;omega;omega) | (refine zP ?_ ?_ ?_;omega;omega) | refine zM rfl ?_ | (refine zQ ?_ ?_ ?_;omega;omega) | (refine zR ?_ ?_;omega) | (refine zI ?_ ?_;exact nA) | (refine zS ?_ ?_ ?_;omega;omega) | (refine zT ?_ ?_ ?_;omega;omega) | (refine zU ?_ ?_ ?_;omega;omega) | (refine zV ?_ ?_ ?_;omega;omega) | refine zN rfl rfl rfl ?_ | refine zD ?_ | refine zE ?_ | refine zF ?_ | intro _ | refine zG ?_);conv=>whnf) | (refine zX (fun hc => ?_) (fun hc => ?_)<;>(try simp only [SY] at hc)<;>first | omega | (conv=>whnf)))
  exact PRet.gen (Wk.refl _) ⟨_, rfl, rfl⟩
theorem len_c : ACall Tryz.prog 132 [.int .u64 1] [] (fun y Γ' => ∃ k, y = .int .i64 k ∧ Γ' = []) := by
  refine ACall.of_body tt_ok Tryz.func132 rfl rfl (n := 8) rfl rfl ?_
  conv => whnf
  repeat ((first | ((first | (apply zY;intro hg) | apply zZ);exact stA) | (refine zW ?_ ?_;exact gA) | refine zH rfl ?_ | refine zA ?_ | refine zI bA ?_ | refine zI rfl ?_ | refine zJ rfl rfl ?_ | refine zB ?_ | refine zK rfl ?_ | refine zL rfl ?_ | refine zC ?_ | (refine zO ?_ ?_ ?_;omega;omega) | (refine zP ?_ ?_ ?_;omega;omega) | refine zM rfl ?_ | (refine zQ ?_ ?_ ?_;omega;omega) | (refine zR ?_ ?_;omega) | (refine zI ?_ ?_;exact nA) | (refine zS ?_ ?_ ?_;omega;omega) | (refine zT ?_ ?_ ?_;omega;omega) | (refine zU ?_ ?_ ?_;omega;omega) | (refine zV ?_ ?_ ?_;omega;omega) | refine zN rfl rfl rfl ?_ | refine zD ?_ | refine zE ?_ | refine zF ?_ | intro _);conv=>whnf)
  conv => whnf
  repeat' (first | ((first | ((first | (apply zY;intro hg) | apply zZ);exact stA) | (refine zW ?_ ?_;exact gA) | refine zH rfl ?_ | refine zA ?_ | refine zI bA ?_ | refine zI rfl ?_ | refine zJ rfl rfl ?_ | refine zB ?_ | refine zK rfl ?_ | refine zL rfl ?_ | refine zC ?_ | (refine zO ?_ ?_ ?_;omega;omega) | (refine zP ?_ ?_ ?_;omega;omega) | refine zM rfl ?_ | (refine zQ ?_ ?_ ?_;omega;omega) | (refine zR ?_ ?_;omega) | (refine zI ?_ ?_;exact nA) | (refine zS ?_ ?_ ?_;omega;omega) | (refine zT ?_ ?_ ?_;omega;omega) | (refine zU ?_ ?_ ?_;omega;omega) | (refine zV ?_ ?_ ?_;omega;omega) | refine zN rfl rfl rfl ?_ | refine zD ?_ | refine zE ?_ | refine zF ?_ | intro _ | refine zG ?_);conv=>whnf) | (refine zX (fun hc => ?_) (fun hc => ?_)<;>(try simp only [SY] at hc)<;>first | omega | (conv=>whnf)))
  refine PCall.go len64_c (WkT.refl _) ?_
  rintro _ _ ⟨k, rfl, rfl⟩
  conv => whnf
  repeat' (first | ((first | ((first | (apply zY;intro hg) | apply zZ);exact stA) | (refine zW ?_ ?_;exact gA) | refine zH rfl ?_ | refine zA ?_ | refine zI bA ?_ | refine zI rfl ?_ | refine zJ rfl rfl ?_ | refine zB ?_ | refine zK rfl ?_ | refine zL rfl ?_ | refine zC ?_ | (refine zO ?_ ?_ ?_;omega;omega) | (refine zP ?_ ?_ ?_;omega;omega) | refine zM rfl ?_ | (refine zQ ?_ ?_ ?_;omega;omega) | (refine zR ?_ ?_;omega) | (refine zI ?_ ?_;exact nA) | (refine zS ?_ ?_ ?_;omega;omega) | (refine zT ?_ ?_ ?_;omega;omega) | (refine zU ?_ ?_ ?_;omega;omega) | (refine zV ?_ ?_ ?_;omega;omega) | refine zN rfl rfl rfl ?_ | refine zD ?_ | refine zE ?_ | refine zF ?_ | intro _ | refine zG ?_);conv=>whnf) | (refine zX (fun hc => ?_) (fun hc => ?_)<;>(try simp only [SY] at hc)<;>first | omega | (conv=>whnf)))
  exact PRet.gen (Wk.refl _) ⟨k, rfl, rfl⟩
theorem insertion1_c (t : Tok) (x : Int) (ht : t.e = 3) (hs : t.s = 1) : ACall Tryz.prog 156 [.ms t, .int .i64 0, .int .i64 1] [.row t [.int .i64 x]] (fun _ Γ' => Γ' = [.row t [.int .i64 x]]) := by
  refine ACall.of_body tt_ok Tryz.func156 rfl rfl (n := 49) rfl rfl ?_
  conv => whnf
  repeat ((first | ((first | (apply zY;intro hg) | apply zZ);exact stA) | (refine zW ?_ ?_;exact gA) | refine zH rfl ?_ | refine zA ?_ | refine zI bA ?_ | refine zI rfl ?_ | refine zJ rfl rfl ?_ | refine zB ?_ | refine zK rfl ?_ | refine zL rfl ?_ | refine zC ?_ | (refine zO ?_ ?_ ?_;omega;omega) | (refine zP ?_ ?_ ?_;omega;omega) | refine zM rfl ?_ | (refine zQ ?_ ?_ ?_;omega;omega) | (refine zR ?_ ?_;omega) | (refine zI ?_ ?_;exact nA) | (refine zS ?_ ?_ ?_;omega;omega) | (refine zT ?_ ?_ ?_;omega;omega) | (refine zU ?_ ?_ ?_;omega;omega) | (refine zV ?_ ?_ ?_;omega;omega) | refine zN rfl rfl rfl ?_ | refine zD ?_ | refine zE ?_ | refine zF ?_ | refine PDraw.sP (some 16) rfl [] [] tt_ok mixed ?_ | refine PDraw.sQ (some 33) rfl [15] [16,17] tt_ok mixed ?_ | intro _);conv=>whnf)
  refine PLoop.keep [6, 7, 10, 11, 12, 13, 14, 15, 16, 17, 18, 19, 20, 21, 22, 23, 24, 25, 26, 27, 28, 29, 30, 31, 32, 33, 34, 35, 36, 37, 38, 39, 40, 41, 42, 43, 44, 45, 46, 47, 48] (fun _ : Unit => [(6, .int .i64 1)]) (fun _ => True) (fun _ => 0) () trivial wA ?_
  rintro _ _
  conv => whnf
  repeat' (first | ((first | ((first | (apply zY;intro hg) | apply zZ);exact stA) | (refine zW ?_ ?_;exact gA) | refine zH rfl ?_ | refine zA ?_ | refine zI bA ?_ | refine zI rfl ?_ | refine zJ rfl rfl ?_ | refine zB ?_ | refine zK rfl ?_ | refine zL rfl ?_ | refine zC ?_ | (refine zO ?_ ?_ ?_;omega;omega) | (refine zP ?_ ?_ ?_;omega;omega) | refine zM rfl ?_ | (refine zQ ?_ ?_ ?_;omega;omega) | (refine zR ?_ ?_;omega) | (refine zI ?_ ?_;exact nA) | (refine zS ?_ ?_ ?_;omega;omega) | (refine zT ?_ ?_ ?_;omega;omega) | (refine zU ?_ ?_ ?_;omega;omega) | (refine zV ?_ ?_ ?_;omega;omega) | refine zN rfl rfl rfl ?_ | refine zD ?_ | refine zE ?_ | refine zF ?_ | refine PDraw.sP (some 16) rfl [] [] tt_ok mixed ?_ | refine PDraw.sQ (some 33) rfl [15] [16,17] tt_ok mixed ?_ | intro _ | refine zG ?_);conv=>whnf) | (refine zX (fun hc => ?_) (fun hc => ?_)<;>(try simp only [SY] at hc)<;>first | omega | (conv=>whnf)))
  exact PRet.gen (Wk.refl _) rfl
theorem pdq1_c (t : Tok) (x k : Int) (ht : t.e = 3) (hs : t.s = 1) : ACall Tryz.prog 131 [.ms t, .int .i64 0, .int .i64 1, .int .i64 k] [.row t [.int .i64 x]] (fun _ Γ' => Γ' = [.row t [.int .i64 x]]) := by
  refine ACall.of_body tt_ok Tryz.func131 rfl rfl (n := 134) rfl rfl ?_
  conv => whnf
  repeat ((first | ((first | (apply zY;intro hg) | apply zZ);exact stA) | (refine zW ?_ ?_;exact gA) | refine zH rfl ?_ | refine zA ?_ | refine zI bA ?_ | refine zI rfl ?_ | refine zJ rfl rfl ?_ | refine zB ?_ | refine zK rfl ?_ | refine zL rfl ?_ | refine zC ?_ | (refine zO ?_ ?_ ?_;omega;omega) | (refine zP ?_ ?_ ?_;omega;omega) | refine zM rfl ?_ | (refine zQ ?_ ?_ ?_;omega;omega) | (refine zR ?_ ?_;omega) | (refine zI ?_ ?_;exact nA) | (refine zS ?_ ?_ ?_;omega;omega) | (refine zT ?_ ?_ ?_;omega;omega) | (refine zU ?_ ?_ ?_;omega;omega) | (refine zV ?_ ?_ ?_;omega;omega) | refine zN rfl rfl rfl ?_ | refine zD ?_ | refine zE ?_ | refine zF ?_ | refine PDraw.sP (some 73) rfl [] [] tt_ok mixed ?_ | intro _);conv=>whnf)
  refine PLoop.keep [1, 2, 3, 8, 9, 10, 11, 12, 13, 14, 15, 16, 17, 18, 19, 20, 21, 22, 23, 24, 25, 26, 27, 28, 29, 30, 31, 32, 33, 34, 35, 36, 37, 38, 39, 40, 41, 42, 43, 44, 45, 46, 47, 48, 49, 50, 51, 52, 53, 54, 55, 56, 57, 58, 59, 60, 61, 62, 63, 64, 65, 66, 67, 68, 69, 70, 71, 72, 73, 74, 75, 76, 77, 78, 79, 80, 81, 82, 83, 84, 85, 86, 87, 88, 89, 90, 91, 92, 93, 94, 95, 96, 97, 98, 99, 100, 101, 102, 103, 104, 105, 106, 107, 108, 109, 110, 111, 112, 113, 114, 115, 116, 117, 118, 119, 120, 121, 122, 123, 124, 125, 126, 127, 128, 129, 130, 131, 132, 133] (fun _ : Unit => [(1, .int .i64 0), (2, .int .i64 1)]) (fun _ => True) (fun _ => 0) () trivial wA ?_
  rintro _ _
  conv => whnf
  repeat' (first | ((first | ((first | (apply zY;intro hg) | apply zZ);exact stA) | (refine zW ?_ ?_;exact gA) | refine zH rfl ?_ | refine zA ?_ | refine zI bA ?_ | refine zI rfl ?_ | refine zJ rfl rfl ?_ | refine zB ?_ | refine zK rfl ?_ | refine zL rfl ?_ | refine zC ?_ | (refine zO ?_ ?_ ?_;omega;omega) | (refine zP ?_ ?_ ?_;omega;omega) | refine zM rfl ?_ | (refine zQ ?_ ?_ ?_;omega;omega) | (refine zR ?_ ?_;omega) | (refine zI ?_ ?_;exact nA) | (refine zS ?_ ?_ ?_;omega;omega) | (refine zT ?_ ?_ ?_;omega;omega) | (refine zU ?_ ?_ ?_;omega;omega) | (refine zV ?_ ?_ ?_;omega;omega) | refine zN rfl rfl rfl ?_ | refine zD ?_ | refine zE ?_ | refine zF ?_ | refine PDraw.sP (some 73) rfl [] [] tt_ok mixed ?_ | intro _ | refine zG ?_);conv=>whnf) | (refine zX (fun hc => ?_) (fun hc => ?_)<;>(try simp only [SY] at hc)<;>first | omega | (conv=>whnf)))
  refine PCall.go (insertion1_c t x ht hs) (WkT.refl _) ?_
  rintro _ _ rfl
  conv => whnf
  repeat' (first | ((first | ((first | (apply zY;intro hg) | apply zZ);exact stA) | (refine zW ?_ ?_;exact gA) | refine zH rfl ?_ | refine zA ?_ | refine zI bA ?_ | refine zI rfl ?_ | refine zJ rfl rfl ?_ | refine zB ?_ | refine zK rfl ?_ | refine zL rfl ?_ | refine zC ?_ | (refine zO ?_ ?_ ?_;omega;omega) | (refine zP ?_ ?_ ?_;omega;omega) | refine zM rfl ?_ | (refine zQ ?_ ?_ ?_;omega;omega) | (refine zR ?_ ?_;omega) | (refine zI ?_ ?_;exact nA) | (refine zS ?_ ?_ ?_;omega;omega) | (refine zT ?_ ?_ ?_;omega;omega) | (refine zU ?_ ?_ ?_;omega;omega) | (refine zV ?_ ?_ ?_;omega;omega) | refine zN rfl rfl rfl ?_ | refine zD ?_ | refine zE ?_ | refine zF ?_ | refine PDraw.sP (some 73) rfl [] [] tt_ok mixed ?_ | intro _ | refine zG ?_);conv=>whnf) | (refine zX (fun hc => ?_) (fun hc => ?_)<;>(try simp only [SY] at hc)<;>first | omega | (conv=>whnf)))
  exact PRet.gen (Wk.refl _) rfl
theorem compact1_c (t : Tok) (x : Int) (ht : t.e = 3) (hs : t.s = 1) : ACall Tryz.prog 87 [.ms t] [.row t [.int .i64 x]] (fun y Γ' => y = .ms t ∧ Γ' = [.row t [.int .i64 x]]) := by
  refine ACall.of_body tt_ok Tryz.func87 rfl rfl (n := 61) rfl rfl ?_
  conv => whnf
  repeat ((first | ((first | (apply zY;intro hg) | apply zZ);exact stA) | (refine zW ?_ ?_;exact gA) | refine zH rfl ?_ | refine zA ?_ | refine zI bA ?_ | refine zI rfl ?_ | refine zJ rfl rfl ?_ | refine zB ?_ | refine zK rfl ?_ | refine zL rfl ?_ | refine zC ?_ | (refine zO ?_ ?_ ?_;omega;omega) | (refine zP ?_ ?_ ?_;omega;omega) | refine zM rfl ?_ | (refine zQ ?_ ?_ ?_;omega;omega) | (refine zR ?_ ?_;omega) | (refine zI ?_ ?_;exact nA) | (refine zS ?_ ?_ ?_;omega;omega) | (refine zT ?_ ?_ ?_;omega;omega) | (refine zU ?_ ?_ ?_;omega;omega) | (refine zV ?_ ?_ ?_;omega;omega) | refine zN rfl rfl rfl ?_ | refine zD ?_ | refine zE ?_ | refine zF ?_ | refine PDraw.sP (some 16) rfl [] [] tt_ok mixed ?_ | refine PDraw.sP (some 35) rfl [] [] tt_ok mixed ?_ | intro _);conv=>whnf)
  conv => whnf
  repeat' (first | ((first | ((first | (apply zY;intro hg) | apply zZ);exact stA) | (refine zW ?_ ?_;exact gA) | refine zH rfl ?_ | refine zA ?_ | refine zI bA ?_ | refine zI rfl ?_ | refine zJ rfl rfl ?_ | refine zB ?_ | refine zK rfl ?_ | refine zL rfl ?_ | refine zC ?_ | (refine zO ?_ ?_ ?_;omega;omega) | (refine zP ?_ ?_ ?_;omega;omega) | refine zM rfl ?_ | (refine zQ ?_ ?_ ?_;omega;omega) | (refine zR ?_ ?_;omega) | (refine zI ?_ ?_;exact nA) | (refine zS ?_ ?_ ?_;omega;omega) | (refine zT ?_ ?_ ?_;omega;omega) | (refine zU ?_ ?_ ?_;omega;omega) | (refine zV ?_ ?_ ?_;omega;omega) | refine zN rfl rfl rfl ?_ | refine zD ?_ | refine zE ?_ | refine zF ?_ | refine PDraw.sP (some 16) rfl [] [] tt_ok mixed ?_ | refine PDraw.sP (some 35) rfl [] [] tt_ok mixed ?_ | intro _ | refine zG ?_);conv=>whnf) | (refine zX (fun hc => ?_) (fun hc => ?_)<;>(try simp only [SY] at hc)<;>first | omega | (conv=>whnf)))
  refine PLenM.one ?_
  conv => whnf
  repeat' (first | ((first | ((first | (apply zY;intro hg) | apply zZ);exact stA) | (refine zW ?_ ?_;exact gA) | refine zH rfl ?_ | refine zA ?_ | refine zI bA ?_ | refine zI rfl ?_ | refine zJ rfl rfl ?_ | refine zB ?_ | refine zK rfl ?_ | refine zL rfl ?_ | refine zC ?_ | (refine zO ?_ ?_ ?_;omega;omega) | (refine zP ?_ ?_ ?_;omega;omega) | refine zM rfl ?_ | (refine zQ ?_ ?_ ?_;omega;omega) | (refine zR ?_ ?_;omega) | (refine zI ?_ ?_;exact nA) | (refine zS ?_ ?_ ?_;omega;omega) | (refine zT ?_ ?_ ?_;omega;omega) | (refine zU ?_ ?_ ?_;omega;omega) | (refine zV ?_ ?_ ?_;omega;omega) | refine zN rfl rfl rfl ?_ | refine zD ?_ | refine zE ?_ | refine zF ?_ | refine PDraw.sP (some 16) rfl [] [] tt_ok mixed ?_ | refine PDraw.sP (some 35) rfl [] [] tt_ok mixed ?_ | intro _ | refine zG ?_);conv=>whnf) | (refine zX (fun hc => ?_) (fun hc => ?_)<;>(try simp only [SY] at hc)<;>first | omega | (conv=>whnf)))
  exact PRet.gen (Wk.refl _) ⟨rfl, rfl⟩
theorem sort1_c (t : Tok) (x : Int) (ht : t.e = 3) (hs : t.s = 1) : ACall Tryz.prog 86 [.ms t] [.row t [.int .i64 x]] (fun _ Γ' => Γ' = [.row t [.int .i64 x]]) := by
  refine ACall.of_body tt_ok Tryz.func86 rfl rfl (n := 11) rfl rfl ?_
  conv => whnf
  repeat ((first | ((first | (apply zY;intro hg) | apply zZ);exact stA) | (refine zW ?_ ?_;exact gA) | refine zH rfl ?_ | refine zA ?_ | refine zI bA ?_ | refine zI rfl ?_ | refine zJ rfl rfl ?_ | refine zB ?_ | refine zK rfl ?_ | refine zL rfl ?_ | refine zC ?_ | (refine zO ?_ ?_ ?_;omega;omega) | (refine zP ?_ ?_ ?_;omega;omega) | refine zM rfl ?_ | (refine zQ ?_ ?_ ?_;omega;omega) | (refine zR ?_ ?_;omega) | (refine zI ?_ ?_;exact nA) | (refine zS ?_ ?_ ?_;omega;omega) | (refine zT ?_ ?_ ?_;omega;omega) | (refine zU ?_ ?_ ?_;omega;omega) | (refine zV ?_ ?_ ?_;omega;omega) | refine zN rfl rfl rfl ?_ | refine zD ?_ | refine zE ?_ | refine zF ?_ | intro _);conv=>whnf)
  conv => whnf
  repeat' (first | ((first | ((first | (apply zY;intro hg) | apply zZ);exact stA) | (refine zW ?_ ?_;exact gA) | refine zH rfl ?_ | refine zA ?_ | refine zI bA ?_ | refine zI rfl ?_ | refine zJ rfl rfl ?_ | refine zB ?_ | refine zK rfl ?_ | refine zL rfl ?_ | refine zC ?_ | (refine zO ?_ ?_ ?_;omega;omega) | (refine zP ?_ ?_ ?_;omega;omega) | refine zM rfl ?_ | (refine zQ ?_ ?_ ?_;omega;omega) | (refine zR ?_ ?_;omega) | (refine zI ?_ ?_;exact nA) | (refine zS ?_ ?_ ?_;omega;omega) | (refine zT ?_ ?_ ?_;omega;omega) | (refine zU ?_ ?_ ?_;omega;omega) | (refine zV ?_ ?_ ?_;omega;omega) | refine zN rfl rfl rfl ?_ | refine zD ?_ | refine zE ?_ | refine zF ?_ | intro _ | refine zG ?_);conv=>whnf) | (refine zX (fun hc => ?_) (fun hc => ?_)<;>(try simp only [SY] at hc)<;>first | omega | (conv=>whnf)))
  refine PLenM.one ?_
  conv => whnf
  repeat' (first | ((first | ((first | (apply zY;intro hg) | apply zZ);exact stA) | (refine zW ?_ ?_;exact gA) | refine zH rfl ?_ | refine zA ?_ | refine zI bA ?_ | refine zI rfl ?_ | refine zJ rfl rfl ?_ | refine zB ?_ | refine zK rfl ?_ | refine zL rfl ?_ | refine zC ?_ | (refine zO ?_ ?_ ?_;omega;omega) | (refine zP ?_ ?_ ?_;omega;omega) | refine zM rfl ?_ | (refine zQ ?_ ?_ ?_;omega;omega) | (refine zR ?_ ?_;omega) | (refine zI ?_ ?_;exact nA) | (refine zS ?_ ?_ ?_;omega;omega) | (refine zT ?_ ?_ ?_;omega;omega) | (refine zU ?_ ?_ ?_;omega;omega) | (refine zV ?_ ?_ ?_;omega;omega) | refine zN rfl rfl rfl ?_ | refine zD ?_ | refine zE ?_ | refine zF ?_ | intro _ | refine zG ?_);conv=>whnf) | (refine zX (fun hc => ?_) (fun hc => ?_)<;>(try simp only [SY] at hc)<;>first | omega | (conv=>whnf)))
  refine PCall.go len_c (WkT.refl _) ?_
  rintro _ _ ⟨k, rfl, rfl⟩
  conv => whnf
  repeat' (first | ((first | ((first | (apply zY;intro hg) | apply zZ);exact stA) | (refine zW ?_ ?_;exact gA) | refine zH rfl ?_ | refine zA ?_ | refine zI bA ?_ | refine zI rfl ?_ | refine zJ rfl rfl ?_ | refine zB ?_ | refine zK rfl ?_ | refine zL rfl ?_ | refine zC ?_ | (refine zO ?_ ?_ ?_;omega;omega) | (refine zP ?_ ?_ ?_;omega;omega) | refine zM rfl ?_ | (refine zQ ?_ ?_ ?_;omega;omega) | (refine zR ?_ ?_;omega) | (refine zI ?_ ?_;exact nA) | (refine zS ?_ ?_ ?_;omega;omega) | (refine zT ?_ ?_ ?_;omega;omega) | (refine zU ?_ ?_ ?_;omega;omega) | (refine zV ?_ ?_ ?_;omega;omega) | refine zN rfl rfl rfl ?_ | refine zD ?_ | refine zE ?_ | refine zF ?_ | intro _ | refine zG ?_);conv=>whnf) | (refine zX (fun hc => ?_) (fun hc => ?_)<;>(try simp only [SY] at hc)<;>first | omega | (conv=>whnf)))
  refine PCall.go (pdq1_c t x k ht hs) (WkT.refl _) ?_
  rintro _ _ rfl
  conv => whnf
  repeat' (first | ((first | ((first | (apply zY;intro hg) | apply zZ);exact stA) | (refine zW ?_ ?_;exact gA) | refine zH rfl ?_ | refine zA ?_ | refine zI bA ?_ | refine zI rfl ?_ | refine zJ rfl rfl ?_ | refine zB ?_ | refine zK rfl ?_ | refine zL rfl ?_ | refine zC ?_ | (refine zO ?_ ?_ ?_;omega;omega) | (refine zP ?_ ?_ ?_;omega;omega) | refine zM rfl ?_ | (refine zQ ?_ ?_ ?_;omega;omega) | (refine zR ?_ ?_;omega) | (refine zI ?_ ?_;exact nA) | (refine zS ?_ ?_ ?_;omega;omega) | (refine zT ?_ ?_ ?_;omega;omega) | (refine zU ?_ ?_ ?_;omega;omega) | (refine zV ?_ ?_ ?_;omega;omega) | refine zN rfl rfl rfl ?_ | refine zD ?_ | refine zE ?_ | refine zF ?_ | intro _ | refine zG ?_);conv=>whnf) | (refine zX (fun hc => ?_) (fun hc => ?_)<;>(try simp only [SY] at hc)<;>first | omega | (conv=>whnf)))
  exact PRet.gen (Wk.refl _) rfl
end Go.Cb
namespace Go.Cb
open Go.Proofs
set_option maxRecDepth 100000
set_option maxHeartbeats 4000000
def namesB (op : Int) : Bool := op == 1 || op == 2 || op == 14
theorem names_c (t : Trm) : ACallP Tryz.prog 52 [.agg t.cells] (.bool (namesB t.op)) := by
  refine ACall.of_body tt_ok Tryz.func52 rfl rfl (n := 16) rfl rfl ?_
  conv => whnf
  repeat ((first | ((first | (apply zY;intro hg) | apply zZ);exact stA) | (refine zW ?_ ?_;exact gA) | refine zH rfl ?_ | refine zA ?_ | refine zI bA ?_ | refine zI rfl ?_ | refine zJ rfl rfl ?_ | refine zB ?_ | refine zK rfl ?_ | refine zL rfl ?_ | refine zC ?_ | (refine zO ?_ ?_ ?_;omega;omega) | (refine zP ?_ ?_ ?_;omega;omega) | refine zM rfl ?_ | (refine zQ ?_ ?_ ?_;omega;omega) | (refine zR ?_ ?_;omega) | (refine zI ?_ ?_;exact nA) | (refine zS ?_ ?_ ?_;omega;omega) | (refine zT ?_ ?_ ?_;omega;omega) | (refine zU ?_ ?_ ?_;omega;omega) | (refine zV ?_ ?_ ?_;omega;omega) | refine zN rfl rfl rfl ?_ | refine zD ?_ | refine zE ?_ | refine zF ?_ | intro _);conv=>whnf)
  conv => whnf
  repeat' (first | ((first | ((first | (apply zY;intro hg) | apply zZ);exact stA) | (refine zW ?_ ?_;exact gA) | refine zH rfl ?_ | refine zA ?_ | refine zI bA ?_ | refine zI rfl ?_ | refine zJ rfl rfl ?_ | refine zB ?_ | refine zK rfl ?_ | refine zL rfl ?_ | refine zC ?_ | (refine zO ?_ ?_ ?_;omega;omega) | (refine zP ?_ ?_ ?_;omega;omega) | refine zM rfl ?_ | (refine zQ ?_ ?_ ?_;omega;omega) | (refine zR ?_ ?_;omega) | (refine zI ?_ ?_;exact nA) | (refine zS ?_ ?_ ?_;omega;omega) | (refine zT ?_ ?_ ?_;omega;omega) | (refine zU ?_ ?_ ?_;omega;omega) | (refine zV ?_ ?_ ?_;omega;omega) | refine zN rfl rfl rfl ?_ | refine zD ?_ | refine zE ?_ | refine zF ?_ | intro _ | refine zG ?_);conv=>whnf) | (refine zX (fun hc => ?_) (fun hc => ?_)<;>(try simp only [SY] at hc)<;>first | omega | (conv=>whnf)))
  exact PRet.pure (Wk.refl _)
def freeOf (l : List (Trm × List Int)) : List Int := (l.filter fun m => namesB m.1.op && !m.2.contains m.1.n).map fun m => m.1.n
theorem rising1_c (t : Tok) (x : Int) (ht : t.e = 3) (hs : t.s = 1) : ACall Tryz.prog 51 [.ms t] [.row t [.int .i64 x]] (fun y Γ' => y = .ms t ∧ Γ' = [.row t [.int .i64 x]]) := by
  refine ACall.of_body tt_ok Tryz.func51 rfl rfl (n := 7) rfl rfl ?_
  conv => whnf
  repeat ((first | ((first | (apply zY;intro hg) | apply zZ);exact stA) | (refine zW ?_ ?_;exact gA) | refine zH rfl ?_ | refine zA ?_ | refine zI bA ?_ | refine zI rfl ?_ | refine zJ rfl rfl ?_ | refine zB ?_ | refine zK rfl ?_ | refine zL rfl ?_ | refine zC ?_ | (refine zO ?_ ?_ ?_;omega;omega) | (refine zP ?_ ?_ ?_;omega;omega) | refine zM rfl ?_ | (refine zQ ?_ ?_ ?_;omega;omega) | (refine zR ?_ ?_;omega) | (refine zI ?_ ?_;exact nA) | (refine zS ?_ ?_ ?_;omega;omega) | (refine zT ?_ ?_ ?_;omega;omega) | (refine zU ?_ ?_ ?_;omega;omega) | (refine zV ?_ ?_ ?_;omega;omega) | refine zN rfl rfl rfl ?_ | refine zD ?_ | refine zE ?_ | refine zF ?_ | intro _);conv=>whnf)
  conv => whnf
  repeat' (first | ((first | ((first | (apply zY;intro hg) | apply zZ);exact stA) | (refine zW ?_ ?_;exact gA) | refine zH rfl ?_ | refine zA ?_ | refine zI bA ?_ | refine zI rfl ?_ | refine zJ rfl rfl ?_ | refine zB ?_ | refine zK rfl ?_ | refine zL rfl ?_ | refine zC ?_ | (refine zO ?_ ?_ ?_;omega;omega) | (refine zP ?_ ?_ ?_;omega;omega) | refine zM rfl ?_ | (refine zQ ?_ ?_ ?_;omega;omega) | (refine zR ?_ ?_;omega) | (refine zI ?_ ?_;exact nA) | (refine zS ?_ ?_ ?_;omega;omega) | (refine zT ?_ ?_ ?_;omega;omega) | (refine zU ?_ ?_ ?_;omega;omega) | (refine zV ?_ ?_ ?_;omega;omega) | refine zN rfl rfl rfl ?_ | refine zD ?_ | refine zE ?_ | refine zF ?_ | intro _ | refine zG ?_);conv=>whnf) | (refine zX (fun hc => ?_) (fun hc => ?_)<;>(try simp only [SY] at hc)<;>first | omega | (conv=>whnf)))
  refine PCall.go (sort1_c t x ht hs) (WkT.refl _) ?_
  rintro _ _ rfl
  conv => whnf
  repeat' (first | ((first | ((first | (apply zY;intro hg) | apply zZ);exact stA) | (refine zW ?_ ?_;exact gA) | refine zH rfl ?_ | refine zA ?_ | refine zI bA ?_ | refine zI rfl ?_ | refine zJ rfl rfl ?_ | refine zB ?_ | refine zK rfl ?_ | refine zL rfl ?_ | refine zC ?_ | (refine zO ?_ ?_ ?_;omega;omega) | (refine zP ?_ ?_ ?_;omega;omega) | refine zM rfl ?_ | (refine zQ ?_ ?_ ?_;omega;omega) | (refine zR ?_ ?_;omega) | (refine zI ?_ ?_;exact nA) | (refine zS ?_ ?_ ?_;omega;omega) | (refine zT ?_ ?_ ?_;omega;omega) | (refine zU ?_ ?_ ?_;omega;omega) | (refine zV ?_ ?_ ?_;omega;omega) | refine zN rfl rfl rfl ?_ | refine zD ?_ | refine zE ?_ | refine zF ?_ | intro _ | refine zG ?_);conv=>whnf) | (refine zX (fun hc => ?_) (fun hc => ?_)<;>(try simp only [SY] at hc)<;>first | omega | (conv=>whnf)))
  refine PCall.go (compact1_c t x ht hs) (WkT.refl _) ?_
  rintro _ _ ⟨rfl, rfl⟩
  conv => whnf
  repeat' (first | ((first | ((first | (apply zY;intro hg) | apply zZ);exact stA) | (refine zW ?_ ?_;exact gA) | refine zH rfl ?_ | refine zA ?_ | refine zI bA ?_ | refine zI rfl ?_ | refine zJ rfl rfl ?_ | refine zB ?_ | refine zK rfl ?_ | refine zL rfl ?_ | refine zC ?_ | (refine zO ?_ ?_ ?_;omega;omega) | (refine zP ?_ ?_ ?_;omega;omega) | refine zM rfl ?_ | (refine zQ ?_ ?_ ?_;omega;omega) | (refine zR ?_ ?_;omega) | (refine zI ?_ ?_;exact nA) | (refine zS ?_ ?_ ?_;omega;omega) | (refine zT ?_ ?_ ?_;omega;omega) | (refine zU ?_ ?_ ?_;omega;omega) | (refine zV ?_ ?_ ?_;omega;omega) | refine zN rfl rfl rfl ?_ | refine zD ?_ | refine zE ?_ | refine zF ?_ | intro _ | refine zG ?_);conv=>whnf) | (refine zX (fun hc => ?_) (fun hc => ?_)<;>(try simp only [SY] at hc)<;>first | omega | (conv=>whnf)))
  exact PRet.gen (Wk.refl _) ⟨rfl, rfl⟩
theorem free1_c0 (t : Trm) (x : Int) (hb : t.bulk ≤ 1000000000) (hx : freeOf t.all = [x]) : ACall Tryz.prog 21 [.agg t.cells] [] (fun y Γ' => ∃ t : Tok, t.e = 3 ∧ t.s = 1 ∧ y = .ms t ∧ Γ' = [.row t [.int .i64 x]]) := by
  have hlen : t.all.length ≤ t.bulk := t.met_len [] 0
  refine ACall.of_body tt_ok Tryz.func21 rfl rfl (n := 28) rfl rfl ?_
  conv => whnf
  repeat ((first | ((first | (apply zY;intro hg) | apply zZ);exact stA) | (refine zW ?_ ?_;exact gA) | refine zH rfl ?_ | refine zA ?_ | refine zI bA ?_ | refine zI rfl ?_ | refine zJ rfl rfl ?_ | refine zB ?_ | refine zK rfl ?_ | refine zL rfl ?_ | refine zC ?_ | (refine zO ?_ ?_ ?_;omega;omega) | (refine zP ?_ ?_ ?_;omega;omega) | refine zM rfl ?_ | (refine zQ ?_ ?_ ?_;omega;omega) | (refine zR ?_ ?_;omega) | (refine zI ?_ ?_;exact nA) | (refine zS ?_ ?_ ?_;omega;omega) | (refine zT ?_ ?_ ?_;omega;omega) | (refine zU ?_ ?_ ?_;omega;omega) | (refine zV ?_ ?_ ?_;omega;omega) | refine zN rfl rfl rfl ?_ | refine zD ?_ | refine zE ?_ | refine zF ?_ | intro _);conv=>whnf)
  conv => whnf
  repeat' (first | ((first | ((first | (apply zY;intro hg) | apply zZ);exact stA) | (refine zW ?_ ?_;exact gA) | refine zH rfl ?_ | refine zA ?_ | refine zI bA ?_ | refine zI rfl ?_ | refine zJ rfl rfl ?_ | refine zB ?_ | refine zK rfl ?_ | refine zL rfl ?_ | refine zC ?_ | (refine zO ?_ ?_ ?_;omega;omega) | (refine zP ?_ ?_ ?_;omega;omega) | refine zM rfl ?_ | (refine zQ ?_ ?_ ?_;omega;omega) | (refine zR ?_ ?_;omega) | (refine zI ?_ ?_;exact nA) | (refine zS ?_ ?_ ?_;omega;omega) | (refine zT ?_ ?_ ?_;omega;omega) | (refine zU ?_ ?_ ?_;omega;omega) | (refine zV ?_ ?_ ?_;omega;omega) | refine zN rfl rfl rfl ?_ | refine zD ?_ | refine zE ?_ | refine zF ?_ | intro _ | refine zG ?_);conv=>whnf) | (refine zX (fun hc => ?_) (fun hc => ?_)<;>(try simp only [SY] at hc)<;>first | omega | (conv=>whnf)))
  rename_i bt bo
  refine PCall.goG (Ghost.trans (Ghost.nilRow 1 3 _) (Ghost.box (b := bo) (cs := [.nil]) (cs' := [.ms (nilTok 1 3)]) (.cons (Wk.nilRow 1 3) .nil))) (all_c t) (WkT.refl _) ?_
  rintro _ _ ⟨b, rfl, rfl⟩
  conv => whnf
  repeat ((first | ((first | (apply zY;intro hg) | apply zZ);exact stA) | (refine zW ?_ ?_;exact gA) | refine zH rfl ?_ | refine zA ?_ | refine zI bA ?_ | refine zI rfl ?_ | refine zJ rfl rfl ?_ | refine zB ?_ | refine zK rfl ?_ | refine zL rfl ?_ | refine zC ?_ | (refine zO ?_ ?_ ?_;omega;omega) | (refine zP ?_ ?_ ?_;omega;omega) | refine zM rfl ?_ | (refine zQ ?_ ?_ ?_;omega;omega) | (refine zR ?_ ?_;omega) | (refine zI ?_ ?_;exact nA) | (refine zS ?_ ?_ ?_;omega;omega) | (refine zT ?_ ?_ ?_;omega;omega) | (refine zU ?_ ?_ ?_;omega;omega) | (refine zV ?_ ?_ ?_;omega;omega) | refine zN rfl rfl rfl ?_ | refine zD ?_ | refine zE ?_ | refine zF ?_ | intro _);conv=>whnf)
  refine PRange.go (t.all.map fun m => [metP m]) (fun s : Tok × List Int => [.box bo [.ms s.1], .row s.1 (s.2.map (PV.int .i64))]) (fun k s => s.1.e = 3 ∧ s.1.s = 1 ∧ s.2 = freeOf (t.all.take k)) (fun _ _ => False) (nilTok 1 3, []) (all1_c b t hb) ⟨rfl, rfl, rfl⟩
    (hp := (inferInstance : PickL _ [.box bo [.ms (nilTok 1 3)], .row (nilTok 1 3) [], .box b t.cells] _)) (by intro ys hy; obtain ⟨m, _, rfl⟩ := List.mem_map.1 hy; rfl) ?_ ?_ (fun _ _ _ h => h.elim)
  · rintro k ys ⟨tk, l⟩ hk ⟨k1, k2, k3⟩
    dsimp only at k1 k2 k3 ⊢
    obtain ⟨m, hm, rfl⟩ : ∃ m, t.all[k]? = some m ∧ ys = [metP m] := by
      rw [List.getElem?_map] at hk
      cases h : t.all[k]? with
      | none => rw [h] at hk; cases hk
      | some m => rw [h] at hk; cases hk; exact ⟨m, rfl, rfl⟩
    obtain ⟨hlt, hmg⟩ := List.getElem?_eq_some_iff.1 hm
    have hst : freeOf (t.all.take (k + 1)) = freeOf (t.all.take k) ++ (if (namesB m.1.op && !m.2.contains m.1.n) = true then [m.1.n] else []) := by
      rw [List.take_succ_eq_append_getElem hlt, freeOf, List.filter_append, List.map_append, hmg]
      congr 1
      by_cases h : (namesB m.1.op && !m.2.contains m.1.n) = true
      · rw [if_pos h]; simp only [List.filter, h]; rfl
      · rw [if_neg h]; rw [Bool.not_eq_true] at h; simp only [List.filter, h]; rfl
    have hll : l.length ≤ k := by
      rw [k3, freeOf, List.length_map]
      exact Nat.le_trans (List.length_filter_le _ _) (by rw [List.length_take]; omega)
    conv => whnf
    repeat' (first | ((first | ((first | (apply zY;intro hg) | apply zZ);focus ((conv=>whnf);(repeat ((first | (refine zW ?_ ?_;exact gA) | refine zH rfl ?_ | refine zA ?_ | refine zI bA ?_ | refine zI rfl ?_ | refine zJ rfl rfl ?_ | refine zB ?_ | refine zK rfl ?_ | refine zL rfl ?_ | refine zC ?_ | (refine zO ?_ ?_ ?_;exact OA;exact OA) | (refine zP ?_ ?_ ?_;exact OA;exact OA) | refine zM rfl ?_ | (refine zQ ?_ ?_ ?_;exact OA;exact OA) | (refine zR ?_ ?_;exact OA) | (refine zI ?_ ?_;exact NA) | (refine zS ?_ ?_ ?_;exact OA;exact OA) | (refine zT ?_ ?_ ?_;exact OA;exact OA) | (refine zU ?_ ?_ ?_;exact OA;exact OA) | (refine zV ?_ ?_ ?_;exact OA;exact OA) | refine PCall.pure (names_c m.1) (WkT.refl _) ?_ | refine PCall.pure (names_c m.1) cA ?_ | refine PCall.pure (containsInt_c m.2 m.1.n) (WkT.refl _) ?_ | refine PCall.pure (containsInt_c m.2 m.1.n) cA ?_ | intro _);conv=>whnf));first | exact PShift.same | exact PShift.lit | exact PShift.ep)) | (refine zW ?_ ?_;exact gA) | refine zH rfl ?_ | refine zA ?_ | refine zI bA ?_ | refine zI rfl ?_ | refine zJ rfl rfl ?_ | refine zB ?_ | refine zK rfl ?_ | refine zL rfl ?_ | refine zC ?_ | (refine zO ?_ ?_ ?_;omega;omega) | (refine zP ?_ ?_ ?_;omega;omega) | refine zM rfl ?_ | (refine zQ ?_ ?_ ?_;omega;omega) | (refine zR ?_ ?_;omega) | (refine zI ?_ ?_;exact nA) | (refine zS ?_ ?_ ?_;omega;omega) | (refine zT ?_ ?_ ?_;omega;omega) | (refine zU ?_ ?_ ?_;omega;omega) | (refine zV ?_ ?_ ?_;omega;omega) | refine PCall.pure (names_c m.1) (WkT.refl _) ?_ | refine PCall.pure (names_c m.1) cA ?_ | refine PCall.pure (containsInt_c m.2 m.1.n) (WkT.refl _) ?_ | refine PCall.pure (containsInt_c m.2 m.1.n) cA ?_ | refine zN rfl rfl rfl ?_ | refine zD ?_ | refine zE ?_ | refine zF ?_ | intro _ | refine zG ?_);conv=>whnf) | (refine zX (fun hc => ?_) (fun hc => ?_)<;>(try simp only [SY] at hc)<;>first | omega | (conv=>whnf)))
    refine ⟨rfl, ?_⟩
    conv => whnf
    repeat' (first | ((first | ((first | (apply zY;intro hg) | apply zZ);focus ((conv=>whnf);(repeat ((first | (refine zW ?_ ?_;exact gA) | refine zH rfl ?_ | refine zA ?_ | refine zI bA ?_ | refine zI rfl ?_ | refine zJ rfl rfl ?_ | refine zB ?_ | refine zK rfl ?_ | refine zL rfl ?_ | refine zC ?_ | (refine zO ?_ ?_ ?_;exact OA;exact OA) | (refine zP ?_ ?_ ?_;exact OA;exact OA) | refine zM rfl ?_ | (refine zQ ?_ ?_ ?_;exact OA;exact OA) | (refine zR ?_ ?_;exact OA) | (refine zI ?_ ?_;exact NA) | (refine zS ?_ ?_ ?_;exact OA;exact OA) | (refine zT ?_ ?_ ?_;exact OA;exact OA) | (refine zU ?_ ?_ ?_;exact OA;exact OA) | (refine zV ?_ ?_ ?_;exact OA;exact OA) | refine PCall.pure (names_c m.1) (WkT.refl _) ?_ | refine PCall.pure (names_c m.1) cA ?_ | refine PCall.pure (containsInt_c m.2 m.1.n) (WkT.refl _) ?_ | refine PCall.pure (containsInt_c m.2 m.1.n) cA ?_ | intro _);conv=>whnf));first | exact PShift.same | exact PShift.lit | exact PShift.ep)) | (refine zW ?_ ?_;exact gA) | refine zH rfl ?_ | refine zA ?_ | refine zI bA ?_ | refine zI rfl ?_ | refine zJ rfl rfl ?_ | refine zB ?_ | refine zK rfl ?_ | refine zL rfl ?_ | refine zC ?_ | (refine zO ?_ ?_ ?_;omega;omega) | (refine zP ?_ ?_ ?_;omega;omega) | refine zM rfl ?_ | (refine zQ ?_ ?_ ?_;omega;omega) | (refine zR ?_ ?_;omega) | (refine zI ?_ ?_;exact nA) | (refine zS ?_ ?_ ?_;omega;omega) | (refine zT ?_ ?_ ?_;omega;omega) | (refine zU ?_ ?_ ?_;omega;omega) | (refine zV ?_ ?_ ?_;omega;omega) | refine PCall.pure (names_c m.1) (WkT.refl _) ?_ | refine PCall.pure (names_c m.1) cA ?_ | refine PCall.pure (containsInt_c m.2 m.1.n) (WkT.refl _) ?_ | refine PCall.pure (containsInt_c m.2 m.1.n) cA ?_ | refine zN rfl rfl rfl ?_ | refine zD ?_ | refine zE ?_ | refine zF ?_ | intro _ | refine zG ?_);conv=>whnf) | (refine zX (fun hc => ?_) (fun hc => ?_)<;>(try simp only [SY] at hc)<;>first | omega | (conv=>whnf)))
    · refine PAppend.rowOne (f := PV.int .i64) (l := l) m.1.n k1 k2 (Wk.tok _ _ _) (by omega) (by show _ * 8 ≤ _; omega) (fun t3 e3 s3 => ?_)
      conv => whnf
      repeat ((first | ((first | (apply zY;intro hg) | apply zZ);focus ((conv=>whnf);(repeat ((first | (refine zW ?_ ?_;exact gA) | refine zH rfl ?_ | refine zA ?_ | refine zI bA ?_ | refine zI rfl ?_ | refine zJ rfl rfl ?_ | refine zB ?_ | refine zK rfl ?_ | refine zL rfl ?_ | refine zC ?_ | (refine zO ?_ ?_ ?_;exact OA;exact OA) | (refine zP ?_ ?_ ?_;exact OA;exact OA) | refine zM rfl ?_ | (refine zQ ?_ ?_ ?_;exact OA;exact OA) | (refine zR ?_ ?_;exact OA) | (refine zI ?_ ?_;exact NA) | (refine zS ?_ ?_ ?_;exact OA;exact OA) | (refine zT ?_ ?_ ?_;exact OA;exact OA) | (refine zU ?_ ?_ ?_;exact OA;exact OA) | (refine zV ?_ ?_ ?_;exact OA;exact OA) | refine PCall.pure (names_c m.1) (WkT.refl _) ?_ | refine PCall.pure (names_c m.1) cA ?_ | refine PCall.pure (containsInt_c m.2 m.1.n) (WkT.refl _) ?_ | refine PCall.pure (containsInt_c m.2 m.1.n) cA ?_ | intro _);conv=>whnf));first | exact PShift.same | exact PShift.lit | exact PShift.ep)) | (refine zW ?_ ?_;exact gA) | refine zH rfl ?_ | refine zA ?_ | refine zI bA ?_ | refine zI rfl ?_ | refine zJ rfl rfl ?_ | refine zB ?_ | refine zK rfl ?_ | refine zL rfl ?_ | refine zC ?_ | (refine zO ?_ ?_ ?_;omega;omega) | (refine zP ?_ ?_ ?_;omega;omega) | refine zM rfl ?_ | (refine zQ ?_ ?_ ?_;omega;omega) | (refine zR ?_ ?_;omega) | (refine zI ?_ ?_;exact nA) | (refine zS ?_ ?_ ?_;omega;omega) | (refine zT ?_ ?_ ?_;omega;omega) | (refine zU ?_ ?_ ?_;omega;omega) | (refine zV ?_ ?_ ?_;omega;omega) | refine PCall.pure (names_c m.1) (WkT.refl _) ?_ | refine PCall.pure (names_c m.1) cA ?_ | refine PCall.pure (containsInt_c m.2 m.1.n) (WkT.refl _) ?_ | refine PCall.pure (containsInt_c m.2 m.1.n) cA ?_ | refine zN rfl rfl rfl ?_ | refine zD ?_ | refine zE ?_ | refine zF ?_ | intro _);conv=>whnf)
      exact roundEnd (k := k) (G := fun s : Tok × List Int => [.box bo [.ms s.1], .row s.1 (s.2.map (PV.int .i64))]) (I := fun k s => s.1.e = 3 ∧ s.1.s = 1 ∧ s.2 = freeOf (t.all.take k)) (X := fun _ _ => False) (t3, l ++ [m.1.n]) ⟨e3, s3, by show l ++ [m.1.n] = freeOf (t.all.take (k + 1)); rw [hst, if_pos (by rw [Bool.and_eq_true, hc.1, hc.2]; exact ⟨rfl, rfl⟩), k3]⟩ (hp := (inferInstance : PickL _ [.box bo [.ms t3], .row t3 ((l ++ [m.1.n]).map (PV.int .i64))] _))
    · exact roundEnd (k := k) (G := fun s : Tok × List Int => [.box bo [.ms s.1], .row s.1 (s.2.map (PV.int .i64))]) (I := fun k s => s.1.e = 3 ∧ s.1.s = 1 ∧ s.2 = freeOf (t.all.take k)) (X := fun _ _ => False) (tk, l) ⟨k1, k2, by show l = freeOf (t.all.take (k + 1)); rw [hst, if_neg (by rw [Bool.and_eq_true, Bool.not_eq_true']; rintro ⟨a, b⟩; rcases hc with h | h; rw [a] at h; cases h; rw [b] at h; cases h), List.append_nil, k3]⟩ (hp := (inferInstance : PickL _ [.box bo [.ms tk], .row tk (l.map (PV.int .i64))] _))
  · rintro bd ⟨tk, l⟩ ⟨k1, k2, k3⟩
    dsimp only at k1 k2 k3 ⊢
    rw [List.length_map, List.take_length, hx] at k3
    subst k3
    conv => whnf
    repeat' (first | ((first | ((first | (apply zY;intro hg) | apply zZ);focus ((conv=>whnf);(repeat ((first | (refine zW ?_ ?_;exact gA) | refine zH rfl ?_ | refine zA ?_ | refine zI bA ?_ | refine zI rfl ?_ | refine zJ rfl rfl ?_ | refine zB ?_ | refine zK rfl ?_ | refine zL rfl ?_ | refine zC ?_ | (refine zO ?_ ?_ ?_;exact OA;exact OA) | (refine zP ?_ ?_ ?_;exact OA;exact OA) | refine zM rfl ?_ | (refine zQ ?_ ?_ ?_;exact OA;exact OA) | (refine zR ?_ ?_;exact OA) | (refine zI ?_ ?_;exact NA) | (refine zS ?_ ?_ ?_;exact OA;exact OA) | (refine zT ?_ ?_ ?_;exact OA;exact OA) | (refine zU ?_ ?_ ?_;exact OA;exact OA) | (refine zV ?_ ?_ ?_;exact OA;exact OA) | refine PCall.pure (names_c m.1) (WkT.refl _) ?_ | refine PCall.pure (names_c m.1) cA ?_ | refine PCall.pure (containsInt_c m.2 m.1.n) (WkT.refl _) ?_ | refine PCall.pure (containsInt_c m.2 m.1.n) cA ?_ | intro _);conv=>whnf));first | exact PShift.same | exact PShift.lit | exact PShift.ep)) | (refine zW ?_ ?_;exact gA) | refine zH rfl ?_ | refine zA ?_ | refine zI bA ?_ | refine zI rfl ?_ | refine zJ rfl rfl ?_ | refine zB ?_ | refine zK rfl ?_ | refine zL rfl ?_ | refine zC ?_ | (refine zO ?_ ?_ ?_;omega;omega) | (refine zP ?_ ?_ ?_;omega;omega) | refine zM rfl ?_ | (refine zQ ?_ ?_ ?_;omega;omega) | (refine zR ?_ ?_;omega) | (refine zI ?_ ?_;exact nA) | (refine zS ?_ ?_ ?_;omega;omega) | (refine zT ?_ ?_ ?_;omega;omega) | (refine zU ?_ ?_ ?_;omega;omega) | (refine zV ?_ ?_ ?_;omega;omega) | refine PCall.pure (names_c m.1) (WkT.refl _) ?_ | refine PCall.pure (names_c m.1) cA ?_ | refine PCall.pure (containsInt_c m.2 m.1.n) (WkT.refl _) ?_ | refine PCall.pure (containsInt_c m.2 m.1.n) cA ?_ | refine zN rfl rfl rfl ?_ | refine zD ?_ | refine zE ?_ | refine zF ?_ | intro _ | refine zG ?_);conv=>whnf) | (refine zX (fun hc => ?_) (fun hc => ?_)<;>(try simp only [SY] at hc)<;>first | omega | (conv=>whnf)))
    refine PCall.goR [.ob bd dfrO [] [], .box bo [.ms tk]] (rising1_c tk x k1 k2) (WkT.refl _) (List.Perm.refl _) ?_
    rintro _ _ ⟨rfl, rfl⟩
    conv => whnf
    repeat ((first | ((first | (apply zY;intro hg) | apply zZ);focus ((conv=>whnf);(repeat ((first | (refine zW ?_ ?_;exact gA) | refine zH rfl ?_ | refine zA ?_ | refine zI bA ?_ | refine zI rfl ?_ | refine zJ rfl rfl ?_ | refine zB ?_ | refine zK rfl ?_ | refine zL rfl ?_ | refine zC ?_ | (refine zO ?_ ?_ ?_;exact OA;exact OA) | (refine zP ?_ ?_ ?_;exact OA;exact OA) | refine zM rfl ?_ | (refine zQ ?_ ?_ ?_;exact OA;exact OA) | (refine zR ?_ ?_;exact OA) | (refine zI ?_ ?_;exact NA) | (refine zS ?_ ?_ ?_;exact OA;exact OA) | (refine zT ?_ ?_ ?_;exact OA;exact OA) | (refine zU ?_ ?_ ?_;exact OA;exact OA) | (refine zV ?_ ?_ ?_;exact OA;exact OA) | refine PCall.pure (names_c m.1) (WkT.refl _) ?_ | refine PCall.pure (names_c m.1) cA ?_ | refine PCall.pure (containsInt_c m.2 m.1.n) (WkT.refl _) ?_ | refine PCall.pure (containsInt_c m.2 m.1.n) cA ?_ | intro _);conv=>whnf));first | exact PShift.same | exact PShift.lit | exact PShift.ep)) | (refine zW ?_ ?_;exact gA) | refine zH rfl ?_ | refine zA ?_ | refine zI bA ?_ | refine zI rfl ?_ | refine zJ rfl rfl ?_ | refine zB ?_ | refine zK rfl ?_ | refine zL rfl ?_ | refine zC ?_ | (refine zO ?_ ?_ ?_;omega;omega) | (refine zP ?_ ?_ ?_;omega;omega) | refine zM rfl ?_ | (refine zQ ?_ ?_ ?_;omega;omega) | (refine zR ?_ ?_;omega) | (refine zI ?_ ?_;exact nA) | (refine zS ?_ ?_ ?_;omega;omega) | (refine zT ?_ ?_ ?_;omega;omega) | (refine zU ?_ ?_ ?_;omega;omega) | (refine zV ?_ ?_ ?_;omega;omega) | refine PCall.pure (names_c m.1) (WkT.refl _) ?_ | refine PCall.pure (names_c m.1) cA ?_ | refine PCall.pure (containsInt_c m.2 m.1.n) (WkT.refl _) ?_ | refine PCall.pure (containsInt_c m.2 m.1.n) cA ?_ | refine zN rfl rfl rfl ?_ | refine zD ?_ | refine zE ?_ | refine zF ?_ | intro _);conv=>whnf)
    refine PMark.at_ rfl ?_
    conv => whnf
    exact PRet.gen (y := .ms tk) (Wk.refl _) ⟨tk, k1, k2, rfl, rfl⟩
theorem free1_c (t : Trm) (x : Int) (hb : t.bulk ≤ 1000000000) (hx : freeOf t.all = [x]) : ACallP Tryz.prog 21 [.agg t.cells] (slI [x]) :=
  ACallP.of_any ((free1_c0 t x hb hx).shift fun y Γ' hq => by
    obtain ⟨t, h1, h2, rfl, rfl⟩ := hq
    exact ⟨slI [x], _, Shift.freezeRow (es := [.int .i64 x]) (WkF.ms' h2), rfl⟩)
end Go.Cb
namespace Go.Cb
open Go.Proofs
set_option maxRecDepth 100000
set_option maxHeartbeats 4000000
def numberP (consts codes : Int) (free : Bool) (t : Trm) (scope : List Int) : Bool :=
  if t.op = 0 then decide (t.n ≥ 0) && decide (t.n < consts) else
  if t.op = 1 ∨ t.op = 2 ∨ t.op = 14 then scope.contains t.n else
  if t.op = 11 ∨ t.op = 10 then decide (0 ≤ t.n ∧ t.n < 31) else
  if t.op = 4 then t.n == 0 || (t.n == 1 && decide ((t.v.length : Int) > 0)) else
  if t.op = 7 then t.n == 0 || t.n == 1 else
  if t.op = 19 ∨ t.op = 21 ∨ t.op = 22 then decide (t.n ≥ 0) && decide (t.n < codes) else
  if t.op = 20 then decide (t.n ≥ 0) && free else t.n == 0
theorem bindR_congr : ∀ (l b1 b2 : List Int), (∀ x, x ∈ b1 ↔ x ∈ b2) → (bindR l b1).1 = (bindR l b2).1
  | [], _, _, _ => rfl
  | v :: l, b1, b2, h => by
    have hv : vOk b1 v = vOk b2 v := by
      have : b1.contains v = b2.contains v := by rw [Bool.eq_iff_iff]; simp [h]
      unfold vOk; rw [this]
    rw [bindR, bindR, hv]
    split
    · exact bindR_congr l _ _ (by intro x; simp [h])
    · rfl
theorem bind2p_c (c rb rs : Nat) (level consts codes size : Int) (frees : Bool) (l bound scope : List Int) (pb ps : List (Int × Value)) :
    ACall Tryz.prog 79 [.ptr c 0, .sl 1 (l.map (PV.int .i64)) none, .mp rs] [.box c (cpC level consts codes size frees rb), .mp rb (.int .i64) (setM bound) pb, .mp rs (.int .i64) (setM scope) ps]
    (fun y Γ' => y = .bool (bindR l bound).1 ∧ ∃ pb' mb ms, Γ' = [.box c (cpC level consts codes size frees rb), .mp rb (.int .i64) mb pb', .mp rs (.int .i64) ms ps] ∧ ((bindR l bound).1 = true → mb = setM (bound ++ l) ∧ ms = setM (scope ++ l))) := by
  refine ACall.of_body tt_ok Tryz.func79 rfl rfl (n := 39) rfl rfl ?_
  conv => whnf
  repeat ((first | ((first | (apply zY;intro hg) | apply zZ);exact stA) | (refine zW ?_ ?_;exact gA) | refine zH rfl ?_ | refine zA ?_ | refine zI bA ?_ | refine zI rfl ?_ | refine zJ rfl rfl ?_ | refine zB ?_ | refine zK rfl ?_ | refine zL rfl ?_ | refine zC ?_ | (refine zO ?_ ?_ ?_;omega;omega) | (refine zP ?_ ?_ ?_;omega;omega) | refine zM rfl ?_ | (refine zQ ?_ ?_ ?_;omega;omega) | (refine zR ?_ ?_;omega) | (refine zI ?_ ?_;exact nA) | (refine zS ?_ ?_ ?_;omega;omega) | (refine zT ?_ ?_ ?_;omega;omega) | (refine zU ?_ ?_ ?_;omega;omega) | (refine zV ?_ ?_ ?_;omega;omega) | refine zN rfl rfl rfl ?_ | refine zD ?_ | refine zE ?_ | refine zF ?_ | intro _);conv=>whnf)
  refine PLoop.over [6, 8, 11, 12, 13, 14, 15, 16, 17, 18, 19, 20, 21, 22, 23, 24, 25, 26, 27, 28, 29, 30, 31, 32, 33, 34, 35, 36, 37, 38] (fun | ((i, bd, sc, pb) : Nat × List Int × List Int × List (Int × Value)) => [(11, .int .i64 i)])
    (fun x => [.box c (cpC level consts codes size frees rb), .mp rb (.int .i64) (setM x.2.1) x.2.2.2, .mp rs (.int .i64) (setM x.2.2.1) ps])
    (fun | (i, bd, sc, pb) => i ≤ l.length ∧ (∀ x, x ∈ bd ↔ x ∈ bound ∨ x ∈ l.take i) ∧ (∀ x, x ∈ sc ↔ x ∈ scope ∨ x ∈ l.take i) ∧ (bindR (l.drop i) bd).1 = (bindR l bound).1) (fun | (i, _) => l.length - i) (0, bound, scope, pb)
    ⟨by omega, by simp, by simp, rfl⟩ wA ?_
  rintro ⟨i, bd, sc, pb'⟩ ⟨hi, hbd, hsc, hr⟩
  conv => whnf
  repeat' (first | ((first | ((first | (apply zY;intro hg) | apply zZ);exact stA) | (refine zW ?_ ?_;exact gA) | refine zH rfl ?_ | refine zA ?_ | refine zI bA ?_ | refine zI rfl ?_ | refine zJ rfl rfl ?_ | refine zB ?_ | refine zK rfl ?_ | refine zL rfl ?_ | refine zC ?_ | (refine zO ?_ ?_ ?_;omega;omega) | (refine zP ?_ ?_ ?_;omega;omega) | refine zM rfl ?_ | (refine zQ ?_ ?_ ?_;omega;omega) | (refine zR ?_ ?_;omega) | (refine zI ?_ ?_;exact nA) | (refine zS ?_ ?_ ?_;omega;omega) | (refine zT ?_ ?_ ?_;omega;omega) | (refine zU ?_ ?_ ?_;omega;omega) | (refine zV ?_ ?_ ?_;omega;omega) | refine zN rfl rfl rfl ?_ | refine zD ?_ | refine zE ?_ | refine zF ?_ | intro _ | refine zG ?_);conv=>whnf) | (refine zX (fun hc => ?_) (fun hc => ?_)<;>(try simp only [SY] at hc)<;>first | omega | (conv=>whnf)))
  · have hlt : i < l.length := by omega
    have hb : (bindR l bound).1 = false := by
      rw [← hr, drop_at hlt, bindR, if_neg (by simp only [vOk, SS]; rintro ⟨h, h'⟩; rw [h'] at hc; simp at hc; omega)]
    exact PRet.gen (Wk.ff hb) ⟨rfl, pb', setM bd, setM sc, rfl, fun h => by rw [hb] at h; cases h⟩
  · have hlt : i < l.length := by omega
    refine PMapEntry.set hc.2 ?_
    intro j
    conv => whnf
    refine PEntryStore.set ?_
    conv => whnf
    repeat ((first | ((first | (apply zY;intro hg) | apply zZ);exact stA) | (refine zW ?_ ?_;exact gA) | refine zH rfl ?_ | refine zA ?_ | refine zI bA ?_ | refine zI rfl ?_ | refine zJ rfl rfl ?_ | refine zB ?_ | refine zK rfl ?_ | refine zL rfl ?_ | refine zC ?_ | (refine zO ?_ ?_ ?_;omega;omega) | (refine zP ?_ ?_ ?_;omega;omega) | refine zM rfl ?_ | (refine zQ ?_ ?_ ?_;omega;omega) | (refine zR ?_ ?_;omega) | (refine zI ?_ ?_;exact nA) | (refine zS ?_ ?_ ?_;omega;omega) | (refine zT ?_ ?_ ?_;omega;omega) | (refine zU ?_ ?_ ?_;omega;omega) | (refine zV ?_ ?_ ?_;omega;omega) | refine zN rfl rfl rfl ?_ | refine zD ?_ | refine zE ?_ | refine zF ?_ | intro _);conv=>whnf)
    have htk : ∀ x, x ∈ l.take (i + 1) ↔ x = l[i] ∨ x ∈ l.take i := by
      intro x
      rw [List.take_succ_eq_append_getElem hlt, List.mem_append, List.mem_singleton, or_comm]
    refine loopTo (i + 1, l[i] :: bd, l[i] :: sc, (j, .int .i64 l[i]) :: pb') ⟨by omega, fun x => ?_, fun x => ?_, ?_⟩ (by show l.length - (i + 1) < l.length - i; omega) wA
    · rw [htk, List.mem_cons, hbd]
      constructor
      · rintro (h | h | h)
        · exact .inr (.inl h)
        · exact .inl h
        · exact .inr (.inr h)
      · rintro (h | h | h)
        · exact .inr (.inl h)
        · exact .inl h
        · exact .inr (.inr h)
    · rw [htk, List.mem_cons, hsc]
      constructor
      · rintro (h | h | h)
        · exact .inr (.inl h)
        · exact .inl h
        · exact .inr (.inr h)
      · rintro (h | h | h)
        · exact .inr (.inl h)
        · exact .inl h
        · exact .inr (.inr h)
    · rw [← hr, drop_at hlt, bindR, if_pos (by simp only [vOk, SS]; exact hc)]
      exact bindR_congr _ _ _ (by intro x; simp [or_comm])
  · have hb : (bindR l bound).1 = true := by rw [← hr, List.drop_of_length_le (by omega), bindR]
    have ht : l.take i = l := List.take_of_length_le (by omega)
    rw [ht] at hbd hsc
    exact PRet.gen (Wk.tt hb) ⟨rfl, pb', setM bd, setM sc, rfl, fun _ => ⟨setM_congr (by simpa using hbd), setM_congr (by simpa using hsc)⟩⟩
theorem number2p_c (c rb rs : Nat) (level consts codes size : Int) (frees : Bool) (t : Trm) (scope : List Int) (ps : List (Int × Value)) :
    ACall Tryz.prog 76 [.ptr c 0, .agg t.cells, .mp rs] [.box c (cpC level consts codes size frees rb), .mp rs (.int .i64) (setM scope) ps]
    (fun y Γ' => y = .bool (numberP consts codes frees t scope) ∧ Γ' = [.box c (cpC level consts codes size frees rb), .mp rs (.int .i64) (setM scope) ps]) := by
  have hs : numberP consts codes frees t scope = numberP consts codes frees t scope := rfl
  conv at hs => rhs; unfold numberP
  refine ACall.of_body tt_ok Tryz.func76 rfl rfl (n := 99) rfl rfl ?_
  conv => whnf
  repeat ((first | ((first | (apply zY;intro hg) | apply zZ);focus ((conv=>whnf);(repeat ((first | (refine zW ?_ ?_;exact gA) | refine zH rfl ?_ | refine zA ?_ | refine zI bA ?_ | refine zI rfl ?_ | refine zJ rfl rfl ?_ | refine zB ?_ | refine zK rfl ?_ | refine zL rfl ?_ | refine zC ?_ | (refine zO ?_ ?_ ?_;exact OA;exact OA) | (refine zP ?_ ?_ ?_;exact OA;exact OA) | refine zM rfl ?_ | (refine zQ ?_ ?_ ?_;exact OA;exact OA) | (refine zR ?_ ?_;exact OA) | (refine zI ?_ ?_;exact NA) | (refine zS ?_ ?_ ?_;exact OA;exact OA) | (refine zT ?_ ?_ ?_;exact OA;exact OA) | (refine zU ?_ ?_ ?_;exact OA;exact OA) | (refine zV ?_ ?_ ?_;exact OA;exact OA) | refine PCall.pure (Facts_c _) (WkT.refl _) ?_ | refine PCall.pure (Facts_c _) cA ?_ | intro _);conv=>whnf));first | exact PShift.same | exact PShift.lit | exact PShift.ep)) | (refine zW ?_ ?_;exact gA) | refine zH rfl ?_ | refine zA ?_ | refine zI bA ?_ | refine zI rfl ?_ | refine zJ rfl rfl ?_ | refine zB ?_ | refine zK rfl ?_ | refine zL rfl ?_ | refine zC ?_ | (refine zO ?_ ?_ ?_;omega;omega) | (refine zP ?_ ?_ ?_;omega;omega) | refine zM rfl ?_ | (refine zQ ?_ ?_ ?_;omega;omega) | (refine zR ?_ ?_;omega) | (refine zI ?_ ?_;exact nA) | (refine zS ?_ ?_ ?_;omega;omega) | (refine zT ?_ ?_ ?_;omega;omega) | (refine zU ?_ ?_ ?_;omega;omega) | (refine zV ?_ ?_ ?_;omega;omega) | refine PCall.pure (Facts_c _) (WkT.refl _) ?_ | refine PCall.pure (Facts_c _) cA ?_ | refine zN rfl rfl rfl ?_ | refine zD ?_ | refine zE ?_ | refine zF ?_ | refine PDraw.sP (some 13) rfl [] [] tt_ok mixed ?_ | refine PDraw.sP (some 73) rfl [] [] tt_ok mixed ?_ | intro _);conv=>whnf)
  conv => whnf
  repeat' (first | ((first | ((first | (apply zY;intro hg) | apply zZ);focus ((conv=>whnf);(repeat ((first | (refine zW ?_ ?_;exact gA) | refine zH rfl ?_ | refine zA ?_ | refine zI bA ?_ | refine zI rfl ?_ | refine zJ rfl rfl ?_ | refine zB ?_ | refine zK rfl ?_ | refine zL rfl ?_ | refine zC ?_ | (refine zO ?_ ?_ ?_;exact OA;exact OA) | (refine zP ?_ ?_ ?_;exact OA;exact OA) | refine zM rfl ?_ | (refine zQ ?_ ?_ ?_;exact OA;exact OA) | (refine zR ?_ ?_;exact OA) | (refine zI ?_ ?_;exact NA) | (refine zS ?_ ?_ ?_;exact OA;exact OA) | (refine zT ?_ ?_ ?_;exact OA;exact OA) | (refine zU ?_ ?_ ?_;exact OA;exact OA) | (refine zV ?_ ?_ ?_;exact OA;exact OA) | refine PCall.pure (Facts_c _) (WkT.refl _) ?_ | refine PCall.pure (Facts_c _) cA ?_ | intro _);conv=>whnf));first | exact PShift.same | exact PShift.lit | exact PShift.ep)) | (refine zW ?_ ?_;exact gA) | refine zH rfl ?_ | refine zA ?_ | refine zI bA ?_ | refine zI rfl ?_ | refine zJ rfl rfl ?_ | refine zB ?_ | refine zK rfl ?_ | refine zL rfl ?_ | refine zC ?_ | (refine zO ?_ ?_ ?_;omega;omega) | (refine zP ?_ ?_ ?_;omega;omega) | refine zM rfl ?_ | (refine zQ ?_ ?_ ?_;omega;omega) | (refine zR ?_ ?_;omega) | (refine zI ?_ ?_;exact nA) | (refine zS ?_ ?_ ?_;omega;omega) | (refine zT ?_ ?_ ?_;omega;omega) | (refine zU ?_ ?_ ?_;omega;omega) | (refine zV ?_ ?_ ?_;omega;omega) | refine PCall.pure (Facts_c _) (WkT.refl _) ?_ | refine PCall.pure (Facts_c _) cA ?_ | refine zN rfl rfl rfl ?_ | refine zD ?_ | refine zE ?_ | refine zF ?_ | refine PDraw.sP (some 13) rfl [] [] tt_ok mixed ?_ | refine PDraw.sP (some 73) rfl [] [] tt_ok mixed ?_ | intro _ | refine zG ?_);conv=>whnf) | (refine zX (fun hc => ?_) (fun hc => ?_)<;>(try simp only [SY] at hc)<;>first | omega | (conv=>whnf)))
  all_goals repeat (first | rw [if_neg (by omega)] at hs | rw [if_pos (by omega)] at hs)
  all_goals rw [hs]
  all_goals exact PRet.gen (Wk.refl _) ⟨rfl, rfl⟩
end Go.Cb
namespace Go.Cb
open Go.Proofs
set_option maxRecDepth 100000
set_option maxHeartbeats 4000000
theorem indexFuncTrmS_c (k : Nat) (cap : List PV) (l : List Trm) (J : Nat → List Ent → Prop) (X : Nat → List Ent → Prop)
    (hf : ∀ i x Γ, l[i]? = some x → J i Γ → ACall Tryz.prog k (.agg (Trm.cells x) :: cap) Γ (fun y Γ' => (y = .bool false ∧ J (i + 1) Γ') ∨ (y = .bool true ∧ X i Γ'))) (Γ0 : List Ent) (h0 : J 0 Γ0) :
    ACall Tryz.prog 128 [.sl 4 (l.map Trm.pv) none, .fn (.func k) cap] Γ0 (fun y Γ' => (y = .int .i64 (-1) ∧ J l.length Γ') ∨ ∃ i : Nat, y = .int .i64 i ∧ i < l.length ∧ X i Γ') := by
  refine ACall.of_body tt_ok Tryz.func128 rfl rfl (n := 19) rfl rfl ?_
  conv => whnf
  repeat ((first | ((first | (apply zY;intro hg) | apply zZ);exact stA) | (refine zW ?_ ?_;exact gA) | refine zH rfl ?_ | refine zA ?_ | refine zI bA ?_ | refine zI rfl ?_ | refine zJ rfl rfl ?_ | refine zB ?_ | refine zK rfl ?_ | refine zL rfl ?_ | refine zC ?_ | (refine zO ?_ ?_ ?_;omega;omega) | (refine zP ?_ ?_ ?_;omega;omega) | refine zM rfl ?_ | (refine zQ ?_ ?_ ?_;omega;omega) | (refine zR ?_ ?_;omega) | (refine zI ?_ ?_;exact nA) | (refine zS ?_ ?_ ?_;omega;omega) | (refine zT ?_ ?_ ?_;omega;omega) | (refine zU ?_ ?_ ?_;omega;omega) | (refine zV ?_ ?_ ?_;omega;omega) | refine zN rfl rfl rfl ?_ | refine zD ?_ | refine zE ?_ | refine zF ?_ | intro _);conv=>whnf)
  refine PLoop.over [4, 5, 8, 9, 10, 11, 12, 13, 14, 15, 16, 17, 18] (fun s : Nat × List Ent => [(8, .int .i64 s.1)]) (fun s => s.2) (fun s => s.1 ≤ l.length ∧ J s.1 s.2) (fun s => l.length - s.1) (0, Γ0) ⟨by omega, h0⟩ wA ?_
  rintro ⟨i, Γ⟩ ⟨h1, h2⟩
  conv => whnf
  repeat' (first | ((first | ((first | (apply zY;intro hg) | apply zZ);exact stA) | (refine zW ?_ ?_;exact gA) | refine zH rfl ?_ | refine zA ?_ | refine zI bA ?_ | refine zI rfl ?_ | refine zJ rfl rfl ?_ | refine zB ?_ | refine zK rfl ?_ | refine zL rfl ?_ | refine zC ?_ | (refine zO ?_ ?_ ?_;omega;omega) | (refine zP ?_ ?_ ?_;omega;omega) | refine zM rfl ?_ | (refine zQ ?_ ?_ ?_;omega;omega) | (refine zR ?_ ?_;omega) | (refine zI ?_ ?_;exact nA) | (refine zS ?_ ?_ ?_;omega;omega) | (refine zT ?_ ?_ ?_;omega;omega) | (refine zU ?_ ?_ ?_;omega;omega) | (refine zV ?_ ?_ ?_;omega;omega) | refine zN rfl rfl rfl ?_ | refine zD ?_ | refine zE ?_ | refine zF ?_ | intro _ | refine zG ?_);conv=>whnf) | (refine zX (fun hc => ?_) (fun hc => ?_)<;>(try simp only [SY] at hc)<;>first | omega | (conv=>whnf)))
  · have hlt : i < l.length := by omega
    refine PCall.same (hf i _ Γ (List.getElem?_eq_getElem hlt) h2) (WkT.refl _) ?_
    rintro _ Γ' (⟨rfl, h⟩ | ⟨rfl, h⟩)
    · conv => whnf
      repeat' (first | ((first | ((first | (apply zY;intro hg) | apply zZ);exact stA) | (refine zW ?_ ?_;exact gA) | refine zH rfl ?_ | refine zA ?_ | refine zI bA ?_ | refine zI rfl ?_ | refine zJ rfl rfl ?_ | refine zB ?_ | refine zK rfl ?_ | refine zL rfl ?_ | refine zC ?_ | (refine zO ?_ ?_ ?_;omega;omega) | (refine zP ?_ ?_ ?_;omega;omega) | refine zM rfl ?_ | (refine zQ ?_ ?_ ?_;omega;omega) | (refine zR ?_ ?_;omega) | (refine zI ?_ ?_;exact nA) | (refine zS ?_ ?_ ?_;omega;omega) | (refine zT ?_ ?_ ?_;omega;omega) | (refine zU ?_ ?_ ?_;omega;omega) | (refine zV ?_ ?_ ?_;omega;omega) | refine zN rfl rfl rfl ?_ | refine zD ?_ | refine zE ?_ | refine zF ?_ | intro _ | refine zG ?_);conv=>whnf) | (refine zX (fun hc => ?_) (fun hc => ?_)<;>(try simp only [SY] at hc)<;>first | omega | (conv=>whnf)))
      · exact loopTo (i + 1, Γ') ⟨by omega, h⟩ (by show l.length - (i + 1) < l.length - i; omega) wA
    · conv => whnf
      repeat' (first | ((first | ((first | (apply zY;intro hg) | apply zZ);exact stA) | (refine zW ?_ ?_;exact gA) | refine zH rfl ?_ | refine zA ?_ | refine zI bA ?_ | refine zI rfl ?_ | refine zJ rfl rfl ?_ | refine zB ?_ | refine zK rfl ?_ | refine zL rfl ?_ | refine zC ?_ | (refine zO ?_ ?_ ?_;omega;omega) | (refine zP ?_ ?_ ?_;omega;omega) | refine zM rfl ?_ | (refine zQ ?_ ?_ ?_;omega;omega) | (refine zR ?_ ?_;omega) | (refine zI ?_ ?_;exact nA) | (refine zS ?_ ?_ ?_;omega;omega) | (refine zT ?_ ?_ ?_;omega;omega) | (refine zU ?_ ?_ ?_;omega;omega) | (refine zV ?_ ?_ ?_;omega;omega) | refine zN rfl rfl rfl ?_ | refine zD ?_ | refine zE ?_ | refine zF ?_ | intro _ | refine zG ?_);conv=>whnf) | (refine zX (fun hc => ?_) (fun hc => ?_)<;>(try simp only [SY] at hc)<;>first | omega | (conv=>whnf)))
      · exact PRet.gen (Wk.refl _) (.inr ⟨i, rfl, hlt, h⟩)
  · obtain rfl : i = l.length := by omega
    exact PRet.gen (Wk.refl _) (.inl ⟨rfl, h2⟩)
theorem containsFuncTrmS_c (k : Nat) (cap : List PV) (l : List Trm) (J : Nat → List Ent → Prop) (X : Nat → List Ent → Prop)
    (hf : ∀ i x Γ, l[i]? = some x → J i Γ → ACall Tryz.prog k (.agg (Trm.cells x) :: cap) Γ (fun y Γ' => (y = .bool false ∧ J (i + 1) Γ') ∨ (y = .bool true ∧ X i Γ'))) (Γ0 : List Ent) (h0 : J 0 Γ0) :
    ACall Tryz.prog 80 [.sl 4 (l.map Trm.pv) none, .fn (.func k) cap] Γ0 (fun y Γ' => (y = .bool false ∧ J l.length Γ') ∨ ∃ i : Nat, y = .bool true ∧ i < l.length ∧ X i Γ') := by
  refine ACall.of_body tt_ok Tryz.func80 rfl rfl (n := 9) rfl rfl ?_
  conv => whnf
  repeat ((first | ((first | (apply zY;intro hg) | apply zZ);exact stA) | (refine zW ?_ ?_;exact gA) | refine zH rfl ?_ | refine zA ?_ | refine zI bA ?_ | refine zI rfl ?_ | refine zJ rfl rfl ?_ | refine zB ?_ | refine zK rfl ?_ | refine zL rfl ?_ | refine zC ?_ | (refine zO ?_ ?_ ?_;omega;omega) | (refine zP ?_ ?_ ?_;omega;omega) | refine zM rfl ?_ | (refine zQ ?_ ?_ ?_;omega;omega) | (refine zR ?_ ?_;omega) | (refine zI ?_ ?_;exact nA) | (refine zS ?_ ?_ ?_;omega;omega) | (refine zT ?_ ?_ ?_;omega;omega) | (refine zU ?_ ?_ ?_;omega;omega) | (refine zV ?_ ?_ ?_;omega;omega) | refine zN rfl rfl rfl ?_ | refine zD ?_ | refine zE ?_ | refine zF ?_ | intro _);conv=>whnf)
  refine PCall.same (indexFuncTrmS_c k cap l J X hf Γ0 h0) (WkT.refl _) ?_
  rintro _ Γ' (⟨rfl, h⟩ | ⟨i, rfl, hi, h⟩)
  · conv => whnf
    repeat ((first | ((first | (apply zY;intro hg) | apply zZ);exact stA) | (refine zW ?_ ?_;exact gA) | refine zH rfl ?_ | refine zA ?_ | refine zI bA ?_ | refine zI rfl ?_ | refine zJ rfl rfl ?_ | refine zB ?_ | refine zK rfl ?_ | refine zL rfl ?_ | refine zC ?_ | (refine zO ?_ ?_ ?_;omega;omega) | (refine zP ?_ ?_ ?_;omega;omega) | refine zM rfl ?_ | (refine zQ ?_ ?_ ?_;omega;omega) | (refine zR ?_ ?_;omega) | (refine zI ?_ ?_;exact nA) | (refine zS ?_ ?_ ?_;omega;omega) | (refine zT ?_ ?_ ?_;omega;omega) | (refine zU ?_ ?_ ?_;omega;omega) | (refine zV ?_ ?_ ?_;omega;omega) | refine zN rfl rfl rfl ?_ | refine zD ?_ | refine zE ?_ | refine zF ?_ | intro _);conv=>whnf)
    exact PRet.gen (Wk.bool rfl) (.inl ⟨rfl, h⟩)
  · conv => whnf
    repeat ((first | ((first | (apply zY;intro hg) | apply zZ);exact stA) | (refine zW ?_ ?_;exact gA) | refine zH rfl ?_ | refine zA ?_ | refine zI bA ?_ | refine zI rfl ?_ | refine zJ rfl rfl ?_ | refine zB ?_ | refine zK rfl ?_ | refine zL rfl ?_ | refine zC ?_ | (refine zO ?_ ?_ ?_;omega;omega) | (refine zP ?_ ?_ ?_;omega;omega) | refine zM rfl ?_ | (refine zQ ?_ ?_ ?_;omega;omega) | (refine zR ?_ ?_;omega) | (refine zI ?_ ?_;exact nA) | (refine zS ?_ ?_ ?_;omega;omega) | (refine zT ?_ ?_ ?_;omega;omega) | (refine zU ?_ ?_ ?_;omega;omega) | (refine zV ?_ ?_ ?_;omega;omega) | refine zN rfl rfl rfl ?_ | refine zD ?_ | refine zE ?_ | refine zF ?_ | intro _);conv=>whnf)
    exact PRet.gen (Wk.bool (by simp)) (.inr ⟨i, rfl, hi, h⟩)
end Go.Cb
namespace Go.Cb
open Go.Proofs
set_option maxRecDepth 100000
set_option maxHeartbeats 4000000
def delS (s : List Int) (m : Value → Option PV) (v : Value) : Option PV := match v with
  | .int .i64 k => if s.contains k then none else m v
  | v => m v
theorem delS_nil (m : Value → Option PV) : delS [] m = m := by
  funext v; unfold delS; split <;> simp
theorem PMapDel.dels {r : Nat} {s : List Int} {n : Int} {m : Value → Option PV} {Γ : List Ent} {pend : List (Int × Value)} {put : (Value → Option PV) → List (Int × Value) → List Ent} [hp : PickMp Γ r (.int .i64) (delS s m) pend put] {K : List Ent → Prop} (h : K (put (delS (s ++ [n]) m) [])) :
    PMapDel r (.int .i64) (some (.int .i64 n)) Γ K :=
  PMapDel.at_ (hp := hp) (delS (s ++ [n]) m) (by simp [MapKept.IsKey]) (by simp [delS]) (fun k hk => by
    unfold delS
    split
    · rename_i m
      have hm : m ≠ n := fun e => hk (by rw [e])
      have : (s ++ [n]).contains m = s.contains m := by rw [Bool.eq_iff_iff]; simp [hm]
      rw [this]
    · rfl) h
theorem delS_setM (v scope : List Int) (h : ∀ x ∈ scope, x ∉ v) : delS v (setM (scope ++ v)) = setM scope := by
  funext k
  unfold delS setM
  split
  · rename_i n
    by_cases h1 : n ∈ v
    · have : n ∉ scope := fun h2 => h n h2 h1
      simp [h1, this]
    · simp [h1]
  · rename_i hne
    split
    · rename_i n; exact absurd rfl (hne n)
    · rfl
theorem defer_c (b5 b6 rs : Nat) (op n : Int) (v : List Int) (ts : List PV) (m : Value → Option PV) (ps : List (Int × Value)) :
    ACallD Tryz.prog 78 [.ptr b5 0, .ptr b6 0] [.box b5 [.int .i64 op, .int .i64 n, .sl 1 (v.map (PV.int .i64)) none, .sl 4 ts none], .box b6 [.mp rs], .mp rs (.int .i64) m ps]
    (fun _ Γ' => ∃ ps', Γ' = [.box b5 [.int .i64 op, .int .i64 n, .sl 1 (v.map (PV.int .i64)) none, .sl 4 ts none], .box b6 [.mp rs], .mp rs (.int .i64) (delS v m) ps']) := by
  have key : ACallD Tryz.prog 78 [.ptr b5 0, .ptr b6 0] [.box b5 [.int .i64 op, .int .i64 n, .sl 1 (v.map (PV.int .i64)) none, .sl 4 ts none], .box b6 [.mp rs], .mp rs (.int .i64) (delS (v.take 0) m) ps]
      (fun _ Γ' => ∃ ps', Γ' = [.box b5 [.int .i64 op, .int .i64 n, .sl 1 (v.map (PV.int .i64)) none, .sl 4 ts none], .box b6 [.mp rs], .mp rs (.int .i64) (delS v m) ps']) := by
    refine ACallD.of_body tt_ok Tryz.func78 rfl rfl (n := 14) rfl rfl ?_
    conv => whnf
    repeat ((first | ((first | (apply zY;intro hg) | apply zZ);exact stA) | (refine zW ?_ ?_;exact gA) | refine zH rfl ?_ | refine zA ?_ | refine zI bA ?_ | refine zI rfl ?_ | refine zJ rfl rfl ?_ | refine zB ?_ | refine zK rfl ?_ | refine zL rfl ?_ | refine zC ?_ | (refine zO ?_ ?_ ?_;omega;omega) | (refine zP ?_ ?_ ?_;omega;omega) | refine zM rfl ?_ | (refine zQ ?_ ?_ ?_;omega;omega) | (refine zR ?_ ?_;omega) | (refine zI ?_ ?_;exact nA) | (refine zS ?_ ?_ ?_;omega;omega) | (refine zT ?_ ?_ ?_;omega;omega) | (refine zU ?_ ?_ ?_;omega;omega) | (refine zV ?_ ?_ ?_;omega;omega) | refine zN rfl rfl rfl ?_ | refine zD ?_ | refine zE ?_ | refine zF ?_ | intro _);conv=>whnf)
    refine PLoop.over [3, 7, 8, 9, 10, 11, 12, 13] (fun (x : Nat × List (Int × Value)) => [(7, .int .i64 x.1)])
      (fun (x : Nat × List (Int × Value)) => [.box b5 [.int .i64 op, .int .i64 n, .sl 1 (v.map (PV.int .i64)) none, .sl 4 ts none], .box b6 [.mp rs], .mp rs (.int .i64) (delS (v.take x.1) m) x.2]) (fun x => x.1 ≤ v.length) (fun x => v.length - x.1) (0, ps) (by simp) wA ?_
    rintro ⟨i, ps'⟩ hi
    conv => whnf
    repeat' (first | ((first | ((first | (apply zY;intro hg) | apply zZ);exact stA) | (refine zW ?_ ?_;exact gA) | refine zH rfl ?_ | refine zA ?_ | refine zI bA ?_ | refine zI rfl ?_ | refine zJ rfl rfl ?_ | refine zB ?_ | refine zK rfl ?_ | refine zL rfl ?_ | refine zC ?_ | (refine zO ?_ ?_ ?_;omega;omega) | (refine zP ?_ ?_ ?_;omega;omega) | refine zM rfl ?_ | (refine zQ ?_ ?_ ?_;omega;omega) | (refine zR ?_ ?_;omega) | (refine zI ?_ ?_;exact nA) | (refine zS ?_ ?_ ?_;omega;omega) | (refine zT ?_ ?_ ?_;omega;omega) | (refine zU ?_ ?_ ?_;omega;omega) | (refine zV ?_ ?_ ?_;omega;omega) | refine zN rfl rfl rfl ?_ | refine zD ?_ | refine zE ?_ | refine zF ?_ | intro _ | refine zG ?_);conv=>whnf) | (refine zX (fun hc => ?_) (fun hc => ?_)<;>(try simp only [SY] at hc)<;>first | omega | (conv=>whnf)))
    · have hlt : i < v.length := by omega
      refine PMapDel.dels ?_
      conv => whnf
      repeat ((first | ((first | (apply zY;intro hg) | apply zZ);exact stA) | (refine zW ?_ ?_;exact gA) | refine zH rfl ?_ | refine zA ?_ | refine zI bA ?_ | refine zI rfl ?_ | refine zJ rfl rfl ?_ | refine zB ?_ | refine zK rfl ?_ | refine zL rfl ?_ | refine zC ?_ | (refine zO ?_ ?_ ?_;omega;omega) | (refine zP ?_ ?_ ?_;omega;omega) | refine zM rfl ?_ | (refine zQ ?_ ?_ ?_;omega;omega) | (refine zR ?_ ?_;omega) | (refine zI ?_ ?_;exact nA) | (refine zS ?_ ?_ ?_;omega;omega) | (refine zT ?_ ?_ ?_;omega;omega) | (refine zU ?_ ?_ ?_;omega;omega) | (refine zV ?_ ?_ ?_;omega;omega) | refine zN rfl rfl rfl ?_ | refine zD ?_ | refine zE ?_ | refine zF ?_ | intro _);conv=>whnf)
      show LoopTo _ _ _ _ _ _ _ _ _ [_, _, .mp rs (.int .i64) (delS (v.take i ++ [v[i]]) m) []] _
      rw [← List.take_succ_eq_append_getElem hlt]
      exact loopTo (i + 1, []) (by show i + 1 ≤ v.length; omega) (by show v.length - (i + 1) < v.length - i; omega) wA
    · refine ⟨rfl, ?_⟩
      have ht : v.take i = v := List.take_of_length_le (by omega)
      show retK _ _ _ [_, _, .mp rs (.int .i64) (delS (v.take i) m) ps'] _
      rw [ht]
      conv => whnf
      exact PRet.gen (Wk.refl _) ⟨ps', rfl⟩
  rw [List.take_zero, delS_nil] at key
  exact key
end Go.Cb
