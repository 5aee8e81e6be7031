/-
  Contracts: a procedure, converted.
  Contracts: a Fix with assigned variables, converted.
  Contracts: a term, converted.
  Contracts: the document's words for the check of terms.
  Contracts: what is right names what it binds.
  Contracts: a program, converted.
  Contracts: the document's words for assignment conversion.
  Contracts: assignment conversion, all variables greater by the same.
  Contracts: assignment conversion, two programs one behind the other.
  From the readings of arguments to values, and from a contract to what a statement asks.
  The program's data, read at the seat's types; the bulk.
  A world that holds the listed tables: the statements' witness.
-/
import Derived.Carry
import Derived.ChangeArms
import Derived.ChangeSame
import Derived.Deep.DeepHandedRow
import Derived.Deep.DeepWitnessRowRef
import Derived.KernelRfl
import Derived.Lib.LaidIn
import Derived.OpenShut
import Derived.OpenVars
import Derived.RowKit
import Derived.Test.YtpkgembbjlebcaaGreatDoorRows
import Derived.WideShapes
import Derived.Test.YtpkgembbjlebcaaGreatDoorW6
set_option linter.unusedSimpArgs false
set_option linter.unusedVariables false
namespace Go.Cb
open Go.Proofs
set_option maxRecDepth 100000
set_option maxHeartbeats 4000000
theorem lamN_cons (A : Int → Bool) (v : Int) (l : List Int) : lamN A (v :: l) = (if A v = true then 1 else 0) + lamN A l := by
  unfold lamN
  rw [List.filter_cons]
  split
  · rw [List.length_cons]; omega
  · omega
theorem lam_c (b r : Nat) (L : List Int) (t : Trm) (hop : t.op = 4) (hlen : t.t.length = 1) (hf : ∀ x ∈ t.t, CvOk b r L x) (hb : t.bulk ≤ 1000000000) (k : Int) (h0 : 0 ≤ k) (hk : k + t.bulk ≤ 1000000000000000) :
    ACall Tryz.prog 91 [.ptr b 0, .agg t.cells] (cvG b r L k) (fun y Γ' => y = .agg (t.cv L.contains k).cells ∧ Γ' = cvG b r L (k + t.fr L.contains)) := by
  have hbe := t.bulk_eq
  have hle0 := lamN_bd L.contains t.v
  refine ACall.of_body tt_ok Tryz.func91 rfl rfl (n := 84) rfl rfl ?_
  conv => whnf
  repeat ((first | ((first | (apply zY;intro hg) | apply zZ);first | exact stA | exact stB) | (refine zW ?_ ?_;exact gA) | refine zH rfl ?_ | refine zA ?_ | refine zI bA ?_ | refine zI rfl ?_ | refine zJ rfl rfl ?_ | refine zB ?_ | refine zK rfl ?_ | refine zL rfl ?_ | refine zC ?_ | (refine zO ?_ ?_ ?_;omega;omega) | (refine zP ?_ ?_ ?_;omega;omega) | refine zM rfl ?_ | (refine zQ ?_ ?_ ?_;omega;omega) | (refine zR ?_ ?_;omega) | (refine zI ?_ ?_;exact nA) | (refine zS ?_ ?_ ?_;omega;omega) | (refine zT ?_ ?_ ?_;omega;omega) | (refine zU ?_ ?_ ?_;omega;omega) | (refine zV ?_ ?_ ?_;omega;omega) | (refine yA ?_ rfl ?_ ?_;assumption;exact lA) | (refine yB ?_ rfl ?_ ?_;assumption;exact lA) | (refine yC rfl ?_ ?_;exact lA) | refine n0 ?_ | refine zN rfl rfl rfl ?_ | refine zD ?_ | refine zE ?_ | refine zF ?_ | refine PDraw.sT (some 27) rfl [4,11,12,13,14,15] [17,18,19] tt_ok mixed ?_ | intro _);conv=>whnf)
  rename_i b1 b2 b3 b4 hvl
  refine PLoop.ghost (Ghost.trans (Ghost.nil 1 3 _) (Ghost.trans (Ghost.nil 1 3 _) (Ghost.trans (Ghost.nil 4 26 _)
    (Ghost.trans (Ghost.box (b := b3) (cs := [.int .i64 4, .int .i64 t.n, .nil, .nil]) (cs' := [.int .i64 4, .int .i64 t.n, .sl 1 (([] : List Int).map (PV.int .i64)) (some (nilTok 1 3)), .nil]) wA)
      (Ghost.box (b := b4) (cs := [.int .i64 8, .int .i64 0, .nil, .nil]) (cs' := [.int .i64 8, .int .i64 0, .sl 1 (([] : List Int).map (PV.int .i64)) (some (nilTok 1 3)), .sl 4 (([] : List Trm).map Trm.pv) (some (nilTok 4 26))]) wA))))) ?_
  refine PLoop.over [8, 17, 18, 19, 20, 21, 22, 23, 24, 25, 26, 27, 28, 29, 30, 31, 32, 33, 34, 35, 36, 37, 38, 39, 40, 41, 42, 43, 44, 45, 46, 47, 48, 49, 50, 51, 52, 53, 54, 55, 56, 57, 58, 59, 60, 61, 62] (fun x : Nat × (List Int × Tok) × (List Int × Tok) × (List Trm × Tok) × Int => [(17, .int .i64 x.1)])
    (fun x : Nat × (List Int × Tok) × (List Int × Tok) × (List Trm × Tok) × Int => [.box b3 [.int .i64 4, .int .i64 t.n, .sl 1 (x.2.1.1.map (PV.int .i64)) (some x.2.1.2), .nil], .tok x.2.1.2, .box b4 [.int .i64 8, .int .i64 0, .sl 1 (x.2.2.1.1.map (PV.int .i64)) (some x.2.2.1.2), .sl 4 (x.2.2.2.1.1.map Trm.pv) (some x.2.2.2.1.2)], .tok x.2.2.1.2, .tok x.2.2.2.1.2, .box b2 [.int .i64 0, .int .i64 0, .nil, .nil], .box b1 [.int .i64 t.op, .int .i64 t.n, .sl 1 (t.v.map (PV.int .i64)) none, .sl 4 (t.t.map Trm.pv) none], .box b [.mp r, .int .i64 x.2.2.2.2], .mp r (.int .i64) (setM L) []])
    (fun x => x.1 ≤ t.v.length ∧ (x.2.1.2.e = 3 ∧ x.2.2.1.2.e = 3 ∧ x.2.2.2.1.2.e = 26) ∧ (x.2.1.1.length ≤ x.1 ∧ x.2.2.1.1.length ≤ x.1 ∧ x.2.2.2.1.1.length ≤ x.1) ∧ x.2.1.1 ++ lamV L.contains (t.v.drop x.1) x.2.2.2.2 = lamV L.contains t.v k ∧ x.2.2.1.1 ++ (t.v.drop x.1).filter L.contains = t.v.filter L.contains ∧ x.2.2.2.1.1 ++ lamT L.contains (t.v.drop x.1) x.2.2.2.2 = lamT L.contains t.v k ∧ x.2.2.2.2 + lamN L.contains (t.v.drop x.1) = k + lamN L.contains t.v)
    (fun x => t.v.length - x.1) (0, ([], nilTok 1 3), ([], nilTok 1 3), ([], nilTok 4 26), k) ⟨Nat.zero_le _, ⟨rfl, rfl, rfl⟩, ⟨by simp, by simp, by simp⟩, rfl, rfl, rfl, rfl⟩ wA ?_
  rintro ⟨i, ⟨ov, t1⟩, ⟨lv, t2⟩, ⟨lt, t3⟩, nx⟩ ⟨hi, ⟨ht1, ht2, ht3⟩, ⟨hl1, hl2, hl3⟩, ho, hv, hT, hn⟩
  dsimp only at hi ht1 ht2 ht3 hl1 hl2 hl3 ho hv hT hn ⊢
  have hnb := lamN_bd L.contains (t.v.drop i)
  have hdl : (t.v.drop i).length = t.v.length - i := List.length_drop
  conv => whnf
  repeat' (first | ((first | ((first | (apply zY;intro hg) | apply zZ);focus ((conv=>whnf);(repeat ((first | (refine zW ?_ ?_;exact gA) | refine zH rfl ?_ | refine zA ?_ | refine zI bA ?_ | refine zI rfl ?_ | refine zJ rfl rfl ?_ | refine zB ?_ | refine zK rfl ?_ | refine zL rfl ?_ | refine zC ?_ | (refine zO ?_ ?_ ?_;exact OA;exact OA) | (refine zP ?_ ?_ ?_;exact OA;exact OA) | refine zM rfl ?_ | (refine zQ ?_ ?_ ?_;exact OA;exact OA) | (refine zR ?_ ?_;exact OA) | (refine zI ?_ ?_;exact NA) | (refine zS ?_ ?_ ?_;exact OA;exact OA) | (refine zT ?_ ?_ ?_;exact OA;exact OA) | (refine zU ?_ ?_ ?_;exact OA;exact OA) | (refine zV ?_ ?_ ?_;exact OA;exact OA) | refine PCall.pure (ref_c _) (WkT.refl _) ?_ | refine PCall.pure (ref_c _) cA ?_ | refine PCall.pure (made_c 15) (WkT.refl _) ?_ | intro _);conv=>whnf));first | exact PShift.same | exact PShift.lit | exact PShift.ep)) | ((first | (apply zY;intro hg) | apply zZ);exact stB) | (refine zW ?_ ?_;exact gA) | refine zH rfl ?_ | refine zA ?_ | refine zI bA ?_ | refine zI rfl ?_ | refine zJ rfl rfl ?_ | refine zB ?_ | refine zK rfl ?_ | refine zL rfl ?_ | refine zC ?_ | (refine zO ?_ ?_ ?_;omega;omega) | (refine zP ?_ ?_ ?_;omega;omega) | refine zM rfl ?_ | (refine zQ ?_ ?_ ?_;omega;omega) | (refine zR ?_ ?_;omega) | (refine zI ?_ ?_;exact nA) | (refine zS ?_ ?_ ?_;omega;omega) | (refine zT ?_ ?_ ?_;omega;omega) | (refine zU ?_ ?_ ?_;omega;omega) | (refine zV ?_ ?_ ?_;omega;omega) | refine PCall.pure (ref_c _) (WkT.refl _) ?_ | refine PCall.pure (ref_c _) cA ?_ | refine PCall.pure (made_c 15) (WkT.refl _) ?_ | (refine yA ?_ rfl ?_ ?_;assumption;exact lA) | (refine yB ?_ rfl ?_ ?_;assumption;exact lA) | (refine yC rfl ?_ ?_;exact lA) | refine n0 ?_ | refine zN rfl rfl rfl ?_ | refine zD ?_ | refine zE ?_ | refine zF ?_ | refine PDraw.sT (some 27) rfl [4,11,12,13,14,15] [17,18,19] tt_ok mixed ?_ | intro _ | refine zG ?_);conv=>whnf) | (refine zX (fun hc => ?_) (fun hc => ?_)<;>(try simp only [SY] at hc)<;>first | omega | (conv=>whnf)))
  · rename_i ta hta tb htb tc htc td htd te hte tf htf
    have hlt : i < t.v.length := by omega
    rw [drop_at hlt] at ho hv hT hn
    rw [lamV, if_pos hc] at ho
    rw [List.filter_cons, if_pos hc] at hv
    rw [lamT, if_pos hc] at hT
    rw [lamN_cons, if_pos hc] at hn
    exact loopTo (i + 1, (ov ++ [nx], tf), (lv ++ [t.v[i]], ta), (lt ++ [Trm.mk 15 0 [] [refT nx]], td), nx + 1) ⟨by show i + 1 ≤ _; omega, ⟨htf, hta, htd⟩, ⟨by simp; omega, by simp; omega, by simp; omega⟩, by dsimp only; rw [List.append_assoc]; exact ho, by dsimp only; rw [List.append_assoc]; exact hv, by dsimp only; rw [List.append_assoc]; exact hT, by dsimp only; omega⟩ (by show t.v.length - (i + 1) < t.v.length - i; omega) wA
  · rename_i te hte tf htf
    have hlt : i < t.v.length := by omega
    have hc' : ¬ L.contains t.v[i] = true := by rw [hc]; simp
    rw [drop_at hlt] at ho hv hT hn
    rw [lamV, if_neg hc'] at ho
    rw [List.filter_cons, if_neg hc'] at hv
    rw [lamT, if_neg hc'] at hT
    rw [lamN_cons, if_neg hc'] at hn
    exact loopTo (i + 1, (ov ++ [t.v[i]], tf), (lv, t2), (lt, t3), nx) ⟨by show i + 1 ≤ _; omega, ⟨htf, ht2, ht3⟩, ⟨by simp; omega, by dsimp only; omega, by dsimp only; omega⟩, by dsimp only; rw [List.append_assoc]; exact ho, hv, hT, by dsimp only; omega⟩ (by show t.v.length - (i + 1) < t.v.length - i; omega) wA
  · rw [List.drop_of_length_le (by omega)] at ho hv hT hn
    rw [lamV, List.append_nil] at ho
    rw [List.filter_nil, List.append_nil] at hv
    rw [lamT, List.append_nil] at hT
    have hn' : nx = k + lamN L.contains t.v := by rw [← hn]; simp [lamN]
    have hm0 : t.t[0]'(by omega) ∈ t.t := List.getElem_mem _
    have hb0 := Trm.bulks_mem hm0
    refine PCall.go (hf _ hm0 nx (by omega) (by omega)) (WkT.refl _) ?_
    rintro _ _ ⟨rfl, rfl⟩
    generalize hX : (t.t[0]'(by omega)).cv L.contains nx = X
    have hcvs : Trm.cvs L.contains t.t nx = [X] := by
      rw [← hX]
      obtain ⟨x, hx⟩ : ∃ x, t.t = [x] := List.length_eq_one_iff.1 hlen
      simp only [hx, Trm.cvs, List.getElem_cons_zero]
    have hfr : Trm.frs L.contains t.t = (t.t[0]'(by omega)).fr L.contains := by
      obtain ⟨x, hx⟩ : ∃ x, t.t = [x] := List.length_eq_one_iff.1 hlen
      simp only [hx, Trm.frs, List.getElem_cons_zero]; omega
    have hcv := t.cv_eq L.contains k
    rw [if_neg (by omega), if_neg (by omega), if_neg (by omega), if_pos hop, ← hn', hcvs, ← ho, ← hv, ← hT] at hcv
    have hfe := t.fr_eq L.contains
    rw [if_pos hop] at hfe
    have hkf : nx + (t.t[0]'(by omega)).fr L.contains = k + t.fr L.contains := by omega
    rw [← hkf]
    conv => whnf
    repeat' (first | ((first | ((first | (apply zY;intro hg) | apply zZ);focus ((conv=>whnf);(repeat ((first | (refine zW ?_ ?_;exact gA) | refine zH rfl ?_ | refine zA ?_ | refine zI bA ?_ | refine zI rfl ?_ | refine zJ rfl rfl ?_ | refine zB ?_ | refine zK rfl ?_ | refine zL rfl ?_ | refine zC ?_ | (refine zO ?_ ?_ ?_;exact OA;exact OA) | (refine zP ?_ ?_ ?_;exact OA;exact OA) | refine zM rfl ?_ | (refine zQ ?_ ?_ ?_;exact OA;exact OA) | (refine zR ?_ ?_;exact OA) | (refine zI ?_ ?_;exact NA) | (refine zS ?_ ?_ ?_;exact OA;exact OA) | (refine zT ?_ ?_ ?_;exact OA;exact OA) | (refine zU ?_ ?_ ?_;exact OA;exact OA) | (refine zV ?_ ?_ ?_;exact OA;exact OA) | refine PCall.pure (ref_c _) (WkT.refl _) ?_ | refine PCall.pure (ref_c _) cA ?_ | refine PCall.pure (made_c 15) (WkT.refl _) ?_ | intro _);conv=>whnf));first | exact PShift.same | exact PShift.lit | exact PShift.ep)) | ((first | (apply zY;intro hg) | apply zZ);exact stB) | (refine zW ?_ ?_;exact gA) | refine zH rfl ?_ | refine zA ?_ | refine zI bA ?_ | refine zI rfl ?_ | refine zJ rfl rfl ?_ | refine zB ?_ | refine zK rfl ?_ | refine zL rfl ?_ | refine zC ?_ | (refine zO ?_ ?_ ?_;omega;omega) | (refine zP ?_ ?_ ?_;omega;omega) | refine zM rfl ?_ | (refine zQ ?_ ?_ ?_;omega;omega) | (refine zR ?_ ?_;omega) | (refine zI ?_ ?_;exact nA) | (refine zS ?_ ?_ ?_;omega;omega) | (refine zT ?_ ?_ ?_;omega;omega) | (refine zU ?_ ?_ ?_;omega;omega) | (refine zV ?_ ?_ ?_;omega;omega) | refine PCall.pure (ref_c _) (WkT.refl _) ?_ | refine PCall.pure (ref_c _) cA ?_ | refine PCall.pure (made_c 15) (WkT.refl _) ?_ | (refine yA ?_ rfl ?_ ?_;assumption;exact lA) | (refine yB ?_ rfl ?_ ?_;assumption;exact lA) | (refine yC rfl ?_ ?_;exact lA) | refine n0 ?_ | refine zN rfl rfl rfl ?_ | refine zD ?_ | refine zE ?_ | refine zF ?_ | refine PDraw.sT (some 27) rfl [4,11,12,13,14,15] [17,18,19] tt_ok mixed ?_ | intro _ | refine zG ?_);conv=>whnf) | (refine zX (fun hc => ?_) (fun hc => ?_)<;>(try simp only [SY] at hc)<;>first | omega | (conv=>whnf)))
    · rw [if_neg (by intro h; rw [h] at hc; simp at hc)] at hcv
      rw [hcv]
      exact PRet.gen (y := .agg (Trm.mk 4 t.n ov [Trm.mk 8 0 lv (lt ++ [X])]).cells) (Γ' := cvG b r L (nx + (t.t[0]'(by omega)).fr L.contains)) TrmOf.wk ⟨rfl, rfl⟩
    · rw [if_pos (List.eq_nil_of_length_eq_zero (by omega))] at hcv
      rw [hcv]
      exact PRet.gen (y := .agg (Trm.mk 4 t.n ov [X]).cells) (Γ' := cvG b r L (nx + (t.t[0]'(by omega)).fr L.contains)) TrmOf.wk ⟨rfl, rfl⟩
end Go.Cb
namespace Go.Cb
open Go.Proofs
set_option maxRecDepth 100000
set_option maxHeartbeats 4000000
theorem backL_get {l : List Int} {k : Nat} {ys : List PV} (h : (backL l)[k]? = some ys) : ∃ m, ∃ hm : m < l.length, k + 1 + m = l.length ∧ ys = [.int .i64 (m : Int), .int .i64 l[m]] := by
  unfold backL at h
  rw [List.getElem?_map] at h
  rcases Nat.lt_or_ge k l.length with hk | hk
  · rw [List.getElem?_range hk] at h
    simp only [Option.map_some, Option.some.injEq] at h
    refine ⟨l.length - 1 - k, by omega, by omega, ?_⟩
    have hlt : l.length - 1 - k < l.length := by omega
    rw [← h]
    simp [List.getD, hlt]
  · rw [List.getElem?_eq_none (by simpa using hk)] at h; cases h
theorem fix_c (b r : Nat) (L : List Int) (t : Trm) (hop : t.op = 9) (ha : t.v.any L.contains = true) (hlen : t.t.length = t.v.length + 1) (hf : ∀ x ∈ t.t, CvOk b r L x) (hb : t.bulk ≤ 1000000000) (k : Int) (h0 : 0 ≤ k) (hk : k + t.bulk ≤ 1000000000000000) :
    ACall Tryz.prog 94 [.ptr b 0, .agg t.cells] (cvG b r L k) (fun y Γ' => y = .agg (t.cv L.contains k).cells ∧ Γ' = cvG b r L (k + t.fr L.contains)) := by
  have hbe := t.bulk_eq
  refine ACall.of_body tt_ok Tryz.func94 rfl rfl (n := 112) rfl rfl ?_
  conv => whnf
  repeat ((first | ((first | (apply zY;intro hg) | apply zZ);first | exact stA | exact stB) | (refine zW ?_ ?_;exact gA) | refine zH rfl ?_ | refine zA ?_ | refine zI bA ?_ | refine zI rfl ?_ | refine zJ rfl rfl ?_ | refine zB ?_ | refine zK rfl ?_ | refine zL rfl ?_ | refine zC ?_ | (refine zO ?_ ?_ ?_;omega;omega) | (refine zP ?_ ?_ ?_;omega;omega) | refine zM rfl ?_ | (refine zQ ?_ ?_ ?_;omega;omega) | (refine zR ?_ ?_;omega) | (refine zI ?_ ?_;exact nA) | (refine zS ?_ ?_ ?_;omega;omega) | (refine zT ?_ ?_ ?_;omega;omega) | (refine zU ?_ ?_ ?_;omega;omega) | (refine zV ?_ ?_ ?_;omega;omega) | (refine yA ?_ rfl ?_ ?_;assumption;exact lA) | (refine yB ?_ rfl ?_ ?_;assumption;exact lA) | (refine yC rfl ?_ ?_;exact lA) | refine n0 ?_ | refine zN rfl rfl rfl ?_ | refine zD ?_ | refine zE ?_ | refine zF ?_ | refine PDraw.sT (some 38) rfl [4,9,10,11] [13,14,15] tt_ok mixed ?_ | refine PDraw.sT (some 52) rfl [4,12] [14,15,16] tt_ok mixed ?_ | refine PDraw.sP (some 83) rfl [] [11] tt_ok mixed ?_ | intro _);conv=>whnf)
  refine PCall.go (asgAllF_c b r L t.t k hf h0 (by omega) (by omega)) (WkT.refl _) ?_
  rintro _ _ ⟨rfl, rfl⟩
  have hcl := Trm.cvs_length L.contains t.t k
  have hfr : k + t.fr L.contains = k + Trm.frs L.contains t.t := by rw [t.fr_eq, if_neg (by omega)]; omega
  have hcv := t.cv_eq L.contains k
  rw [if_neg (by omega), if_neg (by omega), if_neg (by omega), if_neg (by omega), if_pos ⟨hop, ha⟩] at hcv
  rw [hfr, hcv]
  generalize Trm.cvs L.contains t.t k = l at *
  generalize k + Trm.frs L.contains t.t = k' at *
  conv => whnf
  repeat' (first | ((first | ((first | (apply zY;intro hg) | apply zZ);first | exact stA | exact stB) | (refine zW ?_ ?_;exact gA) | refine zH rfl ?_ | refine zA ?_ | refine zI bA ?_ | refine zI rfl ?_ | refine zJ rfl rfl ?_ | refine zB ?_ | refine zK rfl ?_ | refine zL rfl ?_ | refine zC ?_ | (refine zO ?_ ?_ ?_;omega;omega) | (refine zP ?_ ?_ ?_;omega;omega) | refine zM rfl ?_ | (refine zQ ?_ ?_ ?_;omega;omega) | (refine zR ?_ ?_;omega) | (refine zI ?_ ?_;exact nA) | (refine zS ?_ ?_ ?_;omega;omega) | (refine zT ?_ ?_ ?_;omega;omega) | (refine zU ?_ ?_ ?_;omega;omega) | (refine zV ?_ ?_ ?_;omega;omega) | (refine yA ?_ rfl ?_ ?_;assumption;exact lA) | (refine yB ?_ rfl ?_ ?_;assumption;exact lA) | (refine yC rfl ?_ ?_;exact lA) | refine n0 ?_ | refine zN rfl rfl rfl ?_ | refine zD ?_ | refine zE ?_ | refine zF ?_ | refine PDraw.sT (some 38) rfl [4,9,10,11] [13,14,15] tt_ok mixed ?_ | refine PDraw.sT (some 52) rfl [4,12] [14,15,16] tt_ok mixed ?_ | refine PDraw.sP (some 83) rfl [] [11] tt_ok mixed ?_ | intro _ | refine zG ?_);conv=>whnf) | (refine zX (fun hc => ?_) (fun hc => ?_)<;>(try simp only [SY] at hc)<;>first | omega | (conv=>whnf)))
  rename_i b1 b2 b3 hv1 bl bt bf hv2
  refine PLoop.ghost (Ghost.trans (Ghost.nil 1 3 _) (Ghost.trans (Ghost.nil 1 3 _) (Ghost.trans (Ghost.nil 4 26 _) (Ghost.trans (Ghost.nil 4 26 _)
    (Ghost.trans (Ghost.box (b := bt) (cs := [.int .i64 8, .int .i64 0, .nil, .nil]) (cs' := [.int .i64 8, .int .i64 0, .sl 1 (([] : List Int).map (PV.int .i64)) (some (nilTok 1 3)), .sl 4 (([] : List Trm).map Trm.pv) (some (nilTok 4 26))]) wA)
      (Ghost.box (b := bf) (cs := [.int .i64 9, .int .i64 0, .nil, .nil]) (cs' := [.int .i64 9, .int .i64 0, .sl 1 (([] : List Int).map (PV.int .i64)) (some (nilTok 1 3)), .sl 4 (([] : List Trm).map Trm.pv) (some (nilTok 4 26))]) wA)))))) ?_
  refine PLoop.over [9, 10, 27, 28, 29, 30, 31, 32, 33, 34, 35, 36, 37, 38, 39, 40, 41, 42, 43, 44, 45, 46, 47, 48, 49, 50, 51, 52, 53, 54, 55, 56, 57, 58, 59, 60, 61, 62, 63, 64, 65, 66, 67] (fun x : Nat × (List Int × Tok) × (List Trm × Tok) × (List Int × Tok) × (List Trm × Tok) => [(27, .int .i64 x.1)])
    (fun x : Nat × (List Int × Tok) × (List Trm × Tok) × (List Int × Tok) × (List Trm × Tok) => [.box bt [.int .i64 8, .int .i64 0, .sl 1 (x.2.1.1.map (PV.int .i64)) (some x.2.1.2), .sl 4 (x.2.2.1.1.map Trm.pv) (some x.2.2.1.2)], .tok x.2.1.2, .tok x.2.2.1.2, .box bf [.int .i64 9, .int .i64 0, .sl 1 (x.2.2.2.1.1.map (PV.int .i64)) (some x.2.2.2.1.2), .sl 4 (x.2.2.2.2.1.map Trm.pv) (some x.2.2.2.2.2)], .tok x.2.2.2.1.2, .tok x.2.2.2.2.2, .box bl [.sl 4 (l.map Trm.pv) none], .box b [.mp r, .int .i64 k'], .mp r (.int .i64) (setM L) [], .box b3 [.int .i64 0, .int .i64 0, .nil, .nil], .box b2 [.int .i64 t.op, .int .i64 t.n, .sl 1 (t.v.map (PV.int .i64)) none, .sl 4 (t.t.map Trm.pv) none], .box b1 [.ptr b 0]])
    (fun x => x.1 ≤ t.v.length ∧ (x.2.1.2.e = 3 ∧ x.2.2.1.2.e = 26 ∧ x.2.2.2.1.2.e = 3 ∧ x.2.2.2.2.2.e = 26) ∧ (x.2.1.1.length ≤ x.1 ∧ x.2.2.1.1.length ≤ x.1 ∧ x.2.2.2.1.1.length ≤ x.1 ∧ x.2.2.2.2.1.length ≤ x.1) ∧ x.2.1.1 ++ (t.v.drop x.1).filter L.contains = t.v.filter L.contains ∧ x.2.2.1.1 = x.2.1.1.map (fun _ => boxT (.mk 13 0 [] [])) ∧ x.2.2.2.1.1 ++ (t.v.drop x.1).filter (fun v => !L.contains v) = t.v.filter (fun v => !L.contains v) ∧ x.2.2.2.2.1 ++ fixT L.contains (t.v.drop x.1) (l.drop x.1) = fixT L.contains t.v l)
    (fun x => t.v.length - x.1) (0, ([], nilTok 1 3), ([], nilTok 4 26), ([], nilTok 1 3), ([], nilTok 4 26)) ⟨Nat.zero_le _, ⟨rfl, rfl, rfl, rfl⟩, ⟨by simp, by simp, by simp, by simp⟩, rfl, rfl, rfl, rfl⟩ wA ?_
  rintro ⟨i, ⟨lv, t1⟩, ⟨lt, t2⟩, ⟨fv, t3⟩, ⟨ft, t4⟩⟩ ⟨hi, ⟨ht1, ht2, ht3, ht4⟩, ⟨hl1, hl2, hl3, hl4⟩, hlv, hlt, hfv, hft⟩
  dsimp only at hi ht1 ht2 ht3 ht4 hl1 hl2 hl3 hl4 hlv hlt hfv hft ⊢
  conv => whnf
  repeat' (first | ((first | ((first | (apply zY;intro hg) | apply zZ);focus ((conv=>whnf);(repeat ((first | (refine zW ?_ ?_;exact gA) | refine zH rfl ?_ | refine zA ?_ | refine zI bA ?_ | refine zI rfl ?_ | refine zJ rfl rfl ?_ | refine zB ?_ | refine zK rfl ?_ | refine zL rfl ?_ | refine zC ?_ | (refine zO ?_ ?_ ?_;exact OA;exact OA) | (refine zP ?_ ?_ ?_;exact OA;exact OA) | refine zM rfl ?_ | (refine zQ ?_ ?_ ?_;exact OA;exact OA) | (refine zR ?_ ?_;exact OA) | (refine zI ?_ ?_;exact NA) | (refine zS ?_ ?_ ?_;exact OA;exact OA) | (refine zT ?_ ?_ ?_;exact OA;exact OA) | (refine zU ?_ ?_ ?_;exact OA;exact OA) | (refine zV ?_ ?_ ?_;exact OA;exact OA) | refine PCall.pure (ref_c _) (WkT.refl _) ?_ | refine PCall.pure (ref_c _) cA ?_ | refine PCall.pure (made_c 15) (WkT.refl _) ?_ | refine PCall.pure (made_c 17) (WkT.refl _) ?_ | refine PCall.pure (made_c 6) (WkT.refl _) ?_ | intro _);conv=>whnf));first | exact PShift.same | exact PShift.lit | exact PShift.ep)) | ((first | (apply zY;intro hg) | apply zZ);exact stB) | (refine zW ?_ ?_;exact gA) | refine zH rfl ?_ | refine zA ?_ | refine zI bA ?_ | refine zI rfl ?_ | refine zJ rfl rfl ?_ | refine zB ?_ | refine zK rfl ?_ | refine zL rfl ?_ | refine zC ?_ | (refine zO ?_ ?_ ?_;omega;omega) | (refine zP ?_ ?_ ?_;omega;omega) | refine zM rfl ?_ | (refine zQ ?_ ?_ ?_;omega;omega) | (refine zR ?_ ?_;omega) | (refine zI ?_ ?_;exact nA) | (refine zS ?_ ?_ ?_;omega;omega) | (refine zT ?_ ?_ ?_;omega;omega) | (refine zU ?_ ?_ ?_;omega;omega) | (refine zV ?_ ?_ ?_;omega;omega) | refine PCall.pure (ref_c _) (WkT.refl _) ?_ | refine PCall.pure (ref_c _) cA ?_ | refine PCall.pure (made_c 15) (WkT.refl _) ?_ | refine PCall.pure (made_c 17) (WkT.refl _) ?_ | refine PCall.pure (made_c 6) (WkT.refl _) ?_ | (refine yA ?_ rfl ?_ ?_;assumption;exact lA) | (refine yB ?_ rfl ?_ ?_;assumption;exact lA) | (refine yC rfl ?_ ?_;exact lA) | refine n0 ?_ | refine zN rfl rfl rfl ?_ | refine zD ?_ | refine zE ?_ | refine zF ?_ | refine PDraw.sT (some 38) rfl [4,9,10,11] [13,14,15] tt_ok mixed ?_ | refine PDraw.sT (some 52) rfl [4,12] [14,15,16] tt_ok mixed ?_ | refine PDraw.sP (some 83) rfl [] [11] tt_ok mixed ?_ | intro _ | refine zG ?_);conv=>whnf) | (refine zX (fun hc => ?_) (fun hc => ?_)<;>(try simp only [SY] at hc)<;>first | omega | (conv=>whnf)))
  · rename_i ta hta tb htb tc htc
    have h1 : i < t.v.length := by omega
    have h2 : i < l.length := by omega
    rw [drop_at h1] at hlv hfv hft
    rw [List.filter_cons, if_pos hc] at hlv
    rw [List.filter_cons, if_neg (by rw [hc]; decide)] at hfv
    rw [drop_at h2, fixT, if_pos hc] at hft
    exact loopTo (i + 1, (lv ++ [t.v[i]], ta), (lt ++ [Trm.mk 15 0 [] [Trm.mk 13 0 [] []]], tc), (fv, t3), (ft, t4)) ⟨by show i + 1 ≤ _; omega, ⟨hta, htc, ht3, ht4⟩, ⟨by simp; omega, by simp; omega, by dsimp only; omega, by dsimp only; omega⟩, by dsimp only; rw [List.append_assoc]; exact hlv, by dsimp only; rw [List.map_append, ← hlt]; rfl, hfv, hft⟩ (by show t.v.length - (i + 1) < t.v.length - i; omega) wA
  · rename_i ta hta tb htb
    have h1 : i < t.v.length := by omega
    have h2 : i < l.length := by omega
    have hc' : ¬ L.contains t.v[i] = true := by rw [hc]; simp
    rw [drop_at h1] at hlv hfv hft
    rw [List.filter_cons, if_neg hc'] at hlv
    rw [List.filter_cons, if_pos (by rw [hc]; rfl)] at hfv
    rw [drop_at h2, fixT, if_neg hc'] at hft
    exact loopTo (i + 1, (lv, t1), (lt, t2), (fv ++ [t.v[i]], ta), (ft ++ [l[i]], tb)) ⟨by show i + 1 ≤ _; omega, ⟨ht1, ht2, hta, htb⟩, ⟨by dsimp only; omega, by dsimp only; omega, by simp; omega, by simp; omega⟩, hlv, hlt, by dsimp only; rw [List.append_assoc]; exact hfv, by dsimp only; rw [List.append_assoc]; exact hft⟩ (by show t.v.length - (i + 1) < t.v.length - i; omega) wA
  rename_i bo
  rw [List.drop_of_length_le (by omega)] at hlv hfv hft
  rw [List.filter_nil, List.append_nil] at hlv hfv
  have e0 : fixT L.contains [] (l.drop i) = [] := by simp [fixT]
  rw [e0, List.append_nil] at hft
  have hnl : t.v.length < l.length := by omega
  generalize hO : l[t.v.length] = o0
  refine PCall.go (backward_c t.v) (WkT.refl _) ?_
  rintro _ _ ⟨bb, rfl, rfl⟩
  conv => whnf
  repeat ((first | ((first | (apply zY;intro hg) | apply zZ);focus ((conv=>whnf);(repeat ((first | (refine zW ?_ ?_;exact gA) | refine zH rfl ?_ | refine zA ?_ | refine zI bA ?_ | refine zI rfl ?_ | refine zJ rfl rfl ?_ | refine zB ?_ | refine zK rfl ?_ | refine zL rfl ?_ | refine zC ?_ | (refine zO ?_ ?_ ?_;exact OA;exact OA) | (refine zP ?_ ?_ ?_;exact OA;exact OA) | refine zM rfl ?_ | (refine zQ ?_ ?_ ?_;exact OA;exact OA) | (refine zR ?_ ?_;exact OA) | (refine zI ?_ ?_;exact NA) | (refine zS ?_ ?_ ?_;exact OA;exact OA) | (refine zT ?_ ?_ ?_;exact OA;exact OA) | (refine zU ?_ ?_ ?_;exact OA;exact OA) | (refine zV ?_ ?_ ?_;exact OA;exact OA) | refine PCall.pure (ref_c _) (WkT.refl _) ?_ | refine PCall.pure (ref_c _) cA ?_ | refine PCall.pure (made_c 15) (WkT.refl _) ?_ | refine PCall.pure (made_c 17) (WkT.refl _) ?_ | refine PCall.pure (made_c 6) (WkT.refl _) ?_ | intro _);conv=>whnf));first | exact PShift.same | exact PShift.lit | exact PShift.ep)) | ((first | (apply zY;intro hg) | apply zZ);exact stB) | (refine zW ?_ ?_;exact gA) | refine zH rfl ?_ | refine zA ?_ | refine zI bA ?_ | refine zI rfl ?_ | refine zJ rfl rfl ?_ | refine zB ?_ | refine zK rfl ?_ | refine zL rfl ?_ | refine zC ?_ | (refine zO ?_ ?_ ?_;omega;omega) | (refine zP ?_ ?_ ?_;omega;omega) | refine zM rfl ?_ | (refine zQ ?_ ?_ ?_;omega;omega) | (refine zR ?_ ?_;omega) | (refine zI ?_ ?_;exact nA) | (refine zS ?_ ?_ ?_;omega;omega) | (refine zT ?_ ?_ ?_;omega;omega) | (refine zU ?_ ?_ ?_;omega;omega) | (refine zV ?_ ?_ ?_;omega;omega) | refine PCall.pure (ref_c _) (WkT.refl _) ?_ | refine PCall.pure (ref_c _) cA ?_ | refine PCall.pure (made_c 15) (WkT.refl _) ?_ | refine PCall.pure (made_c 17) (WkT.refl _) ?_ | refine PCall.pure (made_c 6) (WkT.refl _) ?_ | (refine yA ?_ rfl ?_ ?_;assumption;exact lA) | (refine yB ?_ rfl ?_ ?_;assumption;exact lA) | (refine yC rfl ?_ ?_;exact lA) | refine n0 ?_ | refine zN rfl rfl rfl ?_ | refine zD ?_ | refine zE ?_ | refine zF ?_ | refine PDraw.sT (some 38) rfl [4,9,10,11] [13,14,15] tt_ok mixed ?_ | refine PDraw.sT (some 52) rfl [4,12] [14,15,16] tt_ok mixed ?_ | refine PDraw.sP (some 83) rfl [] [11] tt_ok mixed ?_ | intro _);conv=>whnf)
  refine PRange.go (backL t.v) (fun o : Trm => [.box bo [.int .i64 o.op, .int .i64 o.n, .sl 1 (o.v.map (PV.int .i64)) none, .sl 4 (o.t.map Trm.pv) none], .box bt [.int .i64 8, .int .i64 0, .sl 1 (lv.map (PV.int .i64)) (some t1), .sl 4 (lt.map Trm.pv) (some t2)], .tok t1, .tok t2, .box bf [.int .i64 9, .int .i64 0, .sl 1 (fv.map (PV.int .i64)) (some t3), .sl 4 (ft.map Trm.pv) (some t4)], .tok t3, .tok t4, .box bl [.sl 4 (l.map Trm.pv) none], .box b [.mp r, .int .i64 k'], .mp r (.int .i64) (setM L) [], .box b3 [.int .i64 0, .int .i64 0, .nil, .nil], .box b2 [.int .i64 t.op, .int .i64 t.n, .sl 1 (t.v.map (PV.int .i64)) none, .sl 4 (t.t.map Trm.pv) none], .box b1 [.ptr b 0]])
    (fun k o => k ≤ t.v.length ∧ o = fixO L.contains (t.v.drop (t.v.length - k)) (l.drop (t.v.length - k)) o0) (fun _ _ => False) o0 (backward1_c bb t.v (by omega)) ⟨Nat.zero_le _, by rw [Nat.sub_zero, List.drop_length]; simp [fixO]⟩ (hp := ⟨by rw [List.append_nil]; exact (List.perm_append_singleton _ _).symm⟩) (Γ1 := []) (by intro ys hy; obtain ⟨m, _, rfl⟩ := List.mem_map.1 hy; rfl) ?_ ?_ (fun _ _ _ h => h.elim)
  · rintro j ys o hk ⟨hj, ho⟩
    obtain ⟨m, hm, hjm, rfl⟩ := backL_get hk
    have hml : m < l.length := by omega
    have hd1 : t.v.length - j = m + 1 := by omega
    have hd2 : t.v.length - (j + 1) = m := by omega
    rw [hd1] at ho
    conv => whnf
    repeat' (first | ((first | ((first | (apply zY;intro hg) | apply zZ);focus ((conv=>whnf);(repeat ((first | (refine zW ?_ ?_;exact gA) | refine zH rfl ?_ | refine zA ?_ | refine zI bA ?_ | refine zI rfl ?_ | refine zJ rfl rfl ?_ | refine zB ?_ | refine zK rfl ?_ | refine zL rfl ?_ | refine zC ?_ | (refine zO ?_ ?_ ?_;exact OA;exact OA) | (refine zP ?_ ?_ ?_;exact OA;exact OA) | refine zM rfl ?_ | (refine zQ ?_ ?_ ?_;exact OA;exact OA) | (refine zR ?_ ?_;exact OA) | (refine zI ?_ ?_;exact NA) | (refine zS ?_ ?_ ?_;exact OA;exact OA) | (refine zT ?_ ?_ ?_;exact OA;exact OA) | (refine zU ?_ ?_ ?_;exact OA;exact OA) | (refine zV ?_ ?_ ?_;exact OA;exact OA) | refine PCall.pure (ref_c _) (WkT.refl _) ?_ | refine PCall.pure (ref_c _) cA ?_ | refine PCall.pure (made_c 15) (WkT.refl _) ?_ | refine PCall.pure (made_c 17) (WkT.refl _) ?_ | refine PCall.pure (made_c 6) (WkT.refl _) ?_ | intro _);conv=>whnf));first | exact PShift.same | exact PShift.lit | exact PShift.ep)) | ((first | (apply zY;intro hg) | apply zZ);exact stB) | (refine zW ?_ ?_;exact gA) | refine zH rfl ?_ | refine zA ?_ | refine zI bA ?_ | refine zI rfl ?_ | refine zJ rfl rfl ?_ | refine zB ?_ | refine zK rfl ?_ | refine zL rfl ?_ | refine zC ?_ | (refine zO ?_ ?_ ?_;omega;omega) | (refine zP ?_ ?_ ?_;omega;omega) | refine zM rfl ?_ | (refine zQ ?_ ?_ ?_;omega;omega) | (refine zR ?_ ?_;omega) | (refine zI ?_ ?_;exact nA) | (refine zS ?_ ?_ ?_;omega;omega) | (refine zT ?_ ?_ ?_;omega;omega) | (refine zU ?_ ?_ ?_;omega;omega) | (refine zV ?_ ?_ ?_;omega;omega) | refine PCall.pure (ref_c _) (WkT.refl _) ?_ | refine PCall.pure (ref_c _) cA ?_ | refine PCall.pure (made_c 15) (WkT.refl _) ?_ | refine PCall.pure (made_c 17) (WkT.refl _) ?_ | refine PCall.pure (made_c 6) (WkT.refl _) ?_ | (refine yA ?_ rfl ?_ ?_;assumption;exact lA) | (refine yB ?_ rfl ?_ ?_;assumption;exact lA) | (refine yC rfl ?_ ?_;exact lA) | refine n0 ?_ | refine zN rfl rfl rfl ?_ | refine zD ?_ | refine zE ?_ | refine zF ?_ | refine PDraw.sT (some 38) rfl [4,9,10,11] [13,14,15] tt_ok mixed ?_ | refine PDraw.sT (some 52) rfl [4,12] [14,15,16] tt_ok mixed ?_ | refine PDraw.sP (some 83) rfl [] [11] tt_ok mixed ?_ | intro _ | refine zG ?_);conv=>whnf) | (refine zX (fun hc => ?_) (fun hc => ?_)<;>(try simp only [SY] at hc)<;>first | omega | (conv=>whnf)))
    refine ⟨rfl, ?_⟩
    conv => whnf
    repeat' (first | ((first | ((first | (apply zY;intro hg) | apply zZ);focus ((conv=>whnf);(repeat ((first | (refine zW ?_ ?_;exact gA) | refine zH rfl ?_ | refine zA ?_ | refine zI bA ?_ | refine zI rfl ?_ | refine zJ rfl rfl ?_ | refine zB ?_ | refine zK rfl ?_ | refine zL rfl ?_ | refine zC ?_ | (refine zO ?_ ?_ ?_;exact OA;exact OA) | (refine zP ?_ ?_ ?_;exact OA;exact OA) | refine zM rfl ?_ | (refine zQ ?_ ?_ ?_;exact OA;exact OA) | (refine zR ?_ ?_;exact OA) | (refine zI ?_ ?_;exact NA) | (refine zS ?_ ?_ ?_;exact OA;exact OA) | (refine zT ?_ ?_ ?_;exact OA;exact OA) | (refine zU ?_ ?_ ?_;exact OA;exact OA) | (refine zV ?_ ?_ ?_;exact OA;exact OA) | refine PCall.pure (ref_c _) (WkT.refl _) ?_ | refine PCall.pure (ref_c _) cA ?_ | refine PCall.pure (made_c 15) (WkT.refl _) ?_ | refine PCall.pure (made_c 17) (WkT.refl _) ?_ | refine PCall.pure (made_c 6) (WkT.refl _) ?_ | intro _);conv=>whnf));first | exact PShift.same | exact PShift.lit | exact PShift.ep)) | ((first | (apply zY;intro hg) | apply zZ);exact stB) | (refine zW ?_ ?_;exact gA) | refine zH rfl ?_ | refine zA ?_ | refine zI bA ?_ | refine zI rfl ?_ | refine zJ rfl rfl ?_ | refine zB ?_ | refine zK rfl ?_ | refine zL rfl ?_ | refine zC ?_ | (refine zO ?_ ?_ ?_;omega;omega) | (refine zP ?_ ?_ ?_;omega;omega) | refine zM rfl ?_ | (refine zQ ?_ ?_ ?_;omega;omega) | (refine zR ?_ ?_;omega) | (refine zI ?_ ?_;exact nA) | (refine zS ?_ ?_ ?_;omega;omega) | (refine zT ?_ ?_ ?_;omega;omega) | (refine zU ?_ ?_ ?_;omega;omega) | (refine zV ?_ ?_ ?_;omega;omega) | refine PCall.pure (ref_c _) (WkT.refl _) ?_ | refine PCall.pure (ref_c _) cA ?_ | refine PCall.pure (made_c 15) (WkT.refl _) ?_ | refine PCall.pure (made_c 17) (WkT.refl _) ?_ | refine PCall.pure (made_c 6) (WkT.refl _) ?_ | (refine yA ?_ rfl ?_ ?_;assumption;exact lA) | (refine yB ?_ rfl ?_ ?_;assumption;exact lA) | (refine yC rfl ?_ ?_;exact lA) | refine n0 ?_ | refine zN rfl rfl rfl ?_ | refine zD ?_ | refine zE ?_ | refine zF ?_ | refine PDraw.sT (some 38) rfl [4,9,10,11] [13,14,15] tt_ok mixed ?_ | refine PDraw.sT (some 52) rfl [4,12] [14,15,16] tt_ok mixed ?_ | refine PDraw.sP (some 83) rfl [] [11] tt_ok mixed ?_ | intro _ | refine zG ?_);conv=>whnf) | (refine zX (fun hc => ?_) (fun hc => ?_)<;>(try simp only [SY] at hc)<;>first | omega | (conv=>whnf)))
    · refine ⟨rfl, _, _, Weak.of (WkT.refl _) (Ghost.refl _), Trm.mk 6 0 [] [Trm.mk 17 0 [] [refT t.v[m], l[m]], o], ⟨by omega, ?_⟩, rfl⟩
      rw [hd2, drop_at hm, drop_at hml, fixO, if_pos hc, ← ho]
    · refine ⟨rfl, _, _, Weak.of (WkT.refl _) (Ghost.refl _), o, ⟨by omega, ?_⟩, rfl⟩
      rw [hd2, drop_at hm, drop_at hml, fixO, if_neg (by rw [hc]; simp), ← ho]
  · rintro bd o ⟨hle, ho⟩
    have hbl : (backL t.v).length = t.v.length := by simp [backL]
    rw [hbl, Nat.sub_self, List.drop_zero, List.drop_zero] at ho
    have hgd : l.getD t.v.length (refT 0) = o0 := by rw [← hO]; simp [List.getD, hnl]
    have hR : fixR L.contains t.v l = Trm.mk 8 0 lv (lt ++ [if fv = [] then o else Trm.mk 9 0 fv (ft ++ [o])]) := by
      unfold fixR fixE
      simp only [hgd]
      rw [← ho, ← hlv, ← hfv, ← hft, hlt]
    rw [hR]
    conv => whnf
    repeat' (first | ((first | ((first | (apply zY;intro hg) | apply zZ);focus ((conv=>whnf);(repeat ((first | (refine zW ?_ ?_;exact gA) | refine zH rfl ?_ | refine zA ?_ | refine zI bA ?_ | refine zI rfl ?_ | refine zJ rfl rfl ?_ | refine zB ?_ | refine zK rfl ?_ | refine zL rfl ?_ | refine zC ?_ | (refine zO ?_ ?_ ?_;exact OA;exact OA) | (refine zP ?_ ?_ ?_;exact OA;exact OA) | refine zM rfl ?_ | (refine zQ ?_ ?_ ?_;exact OA;exact OA) | (refine zR ?_ ?_;exact OA) | (refine zI ?_ ?_;exact NA) | (refine zS ?_ ?_ ?_;exact OA;exact OA) | (refine zT ?_ ?_ ?_;exact OA;exact OA) | (refine zU ?_ ?_ ?_;exact OA;exact OA) | (refine zV ?_ ?_ ?_;exact OA;exact OA) | refine PCall.pure (ref_c _) (WkT.refl _) ?_ | refine PCall.pure (ref_c _) cA ?_ | refine PCall.pure (made_c 15) (WkT.refl _) ?_ | refine PCall.pure (made_c 17) (WkT.refl _) ?_ | refine PCall.pure (made_c 6) (WkT.refl _) ?_ | intro _);conv=>whnf));first | exact PShift.same | exact PShift.lit | exact PShift.ep)) | ((first | (apply zY;intro hg) | apply zZ);exact stB) | (refine zW ?_ ?_;exact gA) | refine zH rfl ?_ | refine zA ?_ | refine zI bA ?_ | refine zI rfl ?_ | refine zJ rfl rfl ?_ | refine zB ?_ | refine zK rfl ?_ | refine zL rfl ?_ | refine zC ?_ | (refine zO ?_ ?_ ?_;omega;omega) | (refine zP ?_ ?_ ?_;omega;omega) | refine zM rfl ?_ | (refine zQ ?_ ?_ ?_;omega;omega) | (refine zR ?_ ?_;omega) | (refine zI ?_ ?_;exact nA) | (refine zS ?_ ?_ ?_;omega;omega) | (refine zT ?_ ?_ ?_;omega;omega) | (refine zU ?_ ?_ ?_;omega;omega) | (refine zV ?_ ?_ ?_;omega;omega) | refine PCall.pure (ref_c _) (WkT.refl _) ?_ | refine PCall.pure (ref_c _) cA ?_ | refine PCall.pure (made_c 15) (WkT.refl _) ?_ | refine PCall.pure (made_c 17) (WkT.refl _) ?_ | refine PCall.pure (made_c 6) (WkT.refl _) ?_ | (refine yA ?_ rfl ?_ ?_;assumption;exact lA) | (refine yB ?_ rfl ?_ ?_;assumption;exact lA) | (refine yC rfl ?_ ?_;exact lA) | refine n0 ?_ | refine zN rfl rfl rfl ?_ | refine zD ?_ | refine zE ?_ | refine zF ?_ | refine PDraw.sT (some 38) rfl [4,9,10,11] [13,14,15] tt_ok mixed ?_ | refine PDraw.sT (some 52) rfl [4,12] [14,15,16] tt_ok mixed ?_ | refine PDraw.sP (some 83) rfl [] [11] tt_ok mixed ?_ | intro _ | refine zG ?_);conv=>whnf) | (refine zX (fun hc => ?_) (fun hc => ?_)<;>(try simp only [SY] at hc)<;>first | omega | (conv=>whnf)))
    · refine ⟨⟨[], [], [_, _], _, rfl, ?_⟩⟩
      simp only [List.cons_append, List.nil_append]
      conv => whnf
      repeat ((first | ((first | (apply zY;intro hg) | apply zZ);focus ((conv=>whnf);(repeat ((first | (refine zW ?_ ?_;exact gA) | refine zH rfl ?_ | refine zA ?_ | refine zI bA ?_ | refine zI rfl ?_ | refine zJ rfl rfl ?_ | refine zB ?_ | refine zK rfl ?_ | refine zL rfl ?_ | refine zC ?_ | (refine zO ?_ ?_ ?_;exact OA;exact OA) | (refine zP ?_ ?_ ?_;exact OA;exact OA) | refine zM rfl ?_ | (refine zQ ?_ ?_ ?_;exact OA;exact OA) | (refine zR ?_ ?_;exact OA) | (refine zI ?_ ?_;exact NA) | (refine zS ?_ ?_ ?_;exact OA;exact OA) | (refine zT ?_ ?_ ?_;exact OA;exact OA) | (refine zU ?_ ?_ ?_;exact OA;exact OA) | (refine zV ?_ ?_ ?_;exact OA;exact OA) | refine PCall.pure (ref_c _) (WkT.refl _) ?_ | refine PCall.pure (ref_c _) cA ?_ | refine PCall.pure (made_c 15) (WkT.refl _) ?_ | refine PCall.pure (made_c 17) (WkT.refl _) ?_ | refine PCall.pure (made_c 6) (WkT.refl _) ?_ | intro _);conv=>whnf));first | exact PShift.same | exact PShift.lit | exact PShift.ep)) | ((first | (apply zY;intro hg) | apply zZ);exact stB) | (refine zW ?_ ?_;exact gA) | refine zH rfl ?_ | refine zA ?_ | refine zI bA ?_ | refine zI rfl ?_ | refine zJ rfl rfl ?_ | refine zB ?_ | refine zK rfl ?_ | refine zL rfl ?_ | refine zC ?_ | (refine zO ?_ ?_ ?_;omega;omega) | (refine zP ?_ ?_ ?_;omega;omega) | refine zM rfl ?_ | (refine zQ ?_ ?_ ?_;omega;omega) | (refine zR ?_ ?_;omega) | (refine zI ?_ ?_;exact nA) | (refine zS ?_ ?_ ?_;omega;omega) | (refine zT ?_ ?_ ?_;omega;omega) | (refine zU ?_ ?_ ?_;omega;omega) | (refine zV ?_ ?_ ?_;omega;omega) | refine PCall.pure (ref_c _) (WkT.refl _) ?_ | refine PCall.pure (ref_c _) cA ?_ | refine PCall.pure (made_c 15) (WkT.refl _) ?_ | refine PCall.pure (made_c 17) (WkT.refl _) ?_ | refine PCall.pure (made_c 6) (WkT.refl _) ?_ | (refine yA ?_ rfl ?_ ?_;assumption;exact lA) | (refine yB ?_ rfl ?_ ?_;assumption;exact lA) | (refine yC rfl ?_ ?_;exact lA) | refine n0 ?_ | refine zN rfl rfl rfl ?_ | refine zD ?_ | refine zE ?_ | refine zF ?_ | refine PDraw.sT (some 38) rfl [4,9,10,11] [13,14,15] tt_ok mixed ?_ | refine PDraw.sT (some 52) rfl [4,12] [14,15,16] tt_ok mixed ?_ | refine PDraw.sP (some 83) rfl [] [11] tt_ok mixed ?_ | intro _);conv=>whnf)
      rw [if_neg (by intro h; rw [h] at hc; simp at hc)]
      exact PRet.gen (y := .agg (Trm.mk 8 0 lv (lt ++ [Trm.mk 9 0 fv (ft ++ [o])])).cells) (Γ' := cvG b r L k') TrmOf.wk (And.intro rfl rfl)
    · refine ⟨⟨[], [], [_], _, rfl, ?_⟩⟩
      simp only [List.cons_append, List.nil_append]
      conv => whnf
      repeat ((first | ((first | (apply zY;intro hg) | apply zZ);focus ((conv=>whnf);(repeat ((first | (refine zW ?_ ?_;exact gA) | refine zH rfl ?_ | refine zA ?_ | refine zI bA ?_ | refine zI rfl ?_ | refine zJ rfl rfl ?_ | refine zB ?_ | refine zK rfl ?_ | refine zL rfl ?_ | refine zC ?_ | (refine zO ?_ ?_ ?_;exact OA;exact OA) | (refine zP ?_ ?_ ?_;exact OA;exact OA) | refine zM rfl ?_ | (refine zQ ?_ ?_ ?_;exact OA;exact OA) | (refine zR ?_ ?_;exact OA) | (refine zI ?_ ?_;exact NA) | (refine zS ?_ ?_ ?_;exact OA;exact OA) | (refine zT ?_ ?_ ?_;exact OA;exact OA) | (refine zU ?_ ?_ ?_;exact OA;exact OA) | (refine zV ?_ ?_ ?_;exact OA;exact OA) | refine PCall.pure (ref_c _) (WkT.refl _) ?_ | refine PCall.pure (ref_c _) cA ?_ | refine PCall.pure (made_c 15) (WkT.refl _) ?_ | refine PCall.pure (made_c 17) (WkT.refl _) ?_ | refine PCall.pure (made_c 6) (WkT.refl _) ?_ | intro _);conv=>whnf));first | exact PShift.same | exact PShift.lit | exact PShift.ep)) | ((first | (apply zY;intro hg) | apply zZ);exact stB) | (refine zW ?_ ?_;exact gA) | refine zH rfl ?_ | refine zA ?_ | refine zI bA ?_ | refine zI rfl ?_ | refine zJ rfl rfl ?_ | refine zB ?_ | refine zK rfl ?_ | refine zL rfl ?_ | refine zC ?_ | (refine zO ?_ ?_ ?_;omega;omega) | (refine zP ?_ ?_ ?_;omega;omega) | refine zM rfl ?_ | (refine zQ ?_ ?_ ?_;omega;omega) | (refine zR ?_ ?_;omega) | (refine zI ?_ ?_;exact nA) | (refine zS ?_ ?_ ?_;omega;omega) | (refine zT ?_ ?_ ?_;omega;omega) | (refine zU ?_ ?_ ?_;omega;omega) | (refine zV ?_ ?_ ?_;omega;omega) | refine PCall.pure (ref_c _) (WkT.refl _) ?_ | refine PCall.pure (ref_c _) cA ?_ | refine PCall.pure (made_c 15) (WkT.refl _) ?_ | refine PCall.pure (made_c 17) (WkT.refl _) ?_ | refine PCall.pure (made_c 6) (WkT.refl _) ?_ | (refine yA ?_ rfl ?_ ?_;assumption;exact lA) | (refine yB ?_ rfl ?_ ?_;assumption;exact lA) | (refine yC rfl ?_ ?_;exact lA) | refine n0 ?_ | refine zN rfl rfl rfl ?_ | refine zD ?_ | refine zE ?_ | refine zF ?_ | refine PDraw.sT (some 38) rfl [4,9,10,11] [13,14,15] tt_ok mixed ?_ | refine PDraw.sT (some 52) rfl [4,12] [14,15,16] tt_ok mixed ?_ | refine PDraw.sP (some 83) rfl [] [11] tt_ok mixed ?_ | intro _);conv=>whnf)
      rw [if_pos (List.eq_nil_of_length_eq_zero (by omega))]
      exact PRet.gen (y := .agg (Trm.mk 8 0 lv (lt ++ [o])).cells) (Γ' := cvG b r L k') TrmOf.wk (And.intro rfl rfl)
end Go.Cb
namespace Go.Cb
open Go.Proofs
set_option maxRecDepth 100000
set_option maxHeartbeats 4000000
theorem PRet.frz {t : Tok} {es : List PV} {x y : PV} {Γ Γ1 Γ' Γ2 : List Ent} {Q : PV → List Ent → Prop} [hp : PickE Γ (.row t es) Γ1] (h : WkF t es x y) [hq : PickL (.tok t :: Γ1) Γ' Γ2] (q : Q y Γ') : PRet x Γ Q :=
  ⟨y, Γ', Shift.trans (Shift.freezeRow (hp := hp) h) (Shift.wk (Wk.refl _) hq.p), q⟩
theorem boxAll_len (A : Int → Bool) : ∀ (vs : List Int) (l : List Trm), (boxAll A vs l).length = l.length
  | [], l => by simp [boxAll]
  | _ :: _, [] => by simp [boxAll]
  | v :: vs, x :: l => by rw [boxAll, List.length_cons, List.length_cons, boxAll_len A vs l]
theorem boxAll_get (A : Int → Bool) : ∀ (vs : List Int) (l : List Trm) (i : Nat) (h : i < vs.length) (h2 : i < l.length), (boxAll A vs l)[i]'(by rw [boxAll_len]; exact h2) = if A vs[i] = true then boxT l[i] else l[i]
  | v :: vs, x :: l, 0, _, _ => by simp [boxAll]
  | v :: vs, x :: l, i + 1, h, h2 => by
    simp only [boxAll, List.getElem_cons_succ]
    exact boxAll_get A vs l i (by simpa using h) (by simpa using h2)
theorem boxAll_drop (A : Int → Bool) : ∀ (vs : List Int) (l : List Trm), (boxAll A vs l).drop vs.length = l.drop vs.length
  | [], l => by simp [boxAll]
  | _ :: _, [] => by simp [boxAll]
  | v :: vs, x :: l => by rw [boxAll, List.length_cons, List.drop_succ_cons, List.drop_succ_cons, boxAll_drop A vs l]
theorem mixed_set {l m : List Trm} {i : Nat} (h : m.length = l.length) (hi : i < l.length) (y : Trm) (hy : y = m[i]'(by omega)) : (m.take i ++ l.drop i).set i y = m.take (i + 1) ++ l.drop (i + 1) := by
  have hl : (m.take i).length = i := by rw [List.length_take]; omega
  rw [List.set_append_right _ _ (by omega), hl, Nat.sub_self, drop_at hi, List.set_cons_zero, List.take_succ_eq_append_getElem (by omega), hy, List.append_assoc]
  rfl
theorem cvOk (b r : Nat) (L : List Int) (t : Trm) : t.shp → t.bulk ≤ 1000000000 → CvOk b r L t := by
  induction t using Trm.ind with
  | h t ih =>
    intro hsp hb k h0 hk
    have hbe := t.bulk_eq
    have hbs := Trm.bulks_length t.t
    rw [Trm.shp_eq] at hsp
    obtain ⟨⟨s1, s2, s3, s4⟩, hps⟩ := hsp
    have hf : ∀ x ∈ t.t, CvOk b r L x := fun x hx => ih x hx (Trm.shps_mem hps x hx) (by have := Trm.bulks_mem hx; omega)
    have hfr := t.fr_eq L.contains
    have one : t.t.length = 1 → ∀ hl : 0 < t.t.length, Trm.cvs L.contains t.t k = [(t.t[0]).cv L.contains k] ∧ Trm.frs L.contains t.t = (t.t[0]).fr L.contains := by
      intro h1 hl
      obtain ⟨x, hx⟩ : ∃ x, t.t = [x] := List.length_eq_one_iff.1 h1
      simp only [hx, Trm.cvs, Trm.frs, List.getElem_cons_zero]
      exact ⟨trivial, by omega⟩
    refine ACall.of_body tt_ok Tryz.func56 rfl rfl (n := 119) rfl rfl ?_
    conv => whnf
    repeat ((first | ((first | (apply zY;intro hg) | apply zZ);focus ((conv=>whnf);(repeat ((first | (refine zW ?_ ?_;exact gA) | refine zH rfl ?_ | refine zA ?_ | refine zI bA ?_ | refine zI rfl ?_ | refine zJ rfl rfl ?_ | refine zB ?_ | refine zK rfl ?_ | refine zL rfl ?_ | refine zC ?_ | (refine zO ?_ ?_ ?_;exact OA;exact OA) | (refine zP ?_ ?_ ?_;exact OA;exact OA) | refine zM rfl ?_ | (refine zQ ?_ ?_ ?_;exact OA;exact OA) | (refine zR ?_ ?_;exact OA) | (refine zI ?_ ?_;exact NA) | (refine zS ?_ ?_ ?_;exact OA;exact OA) | (refine zT ?_ ?_ ?_;exact OA;exact OA) | (refine zU ?_ ?_ ?_;exact OA;exact OA) | (refine zV ?_ ?_ ?_;exact OA;exact OA) | (refine yE ?_ ?_ ?_ ?_;assumption;omega;omega) | (refine yF ?_ rfl ?_;omega) | intro _);conv=>whnf));first | exact PShift.same | exact PShift.lit | exact PShift.ep)) | ((first | (apply zY;intro hg) | apply zZ);exact stB) | (refine zW ?_ ?_;exact gA) | refine zH rfl ?_ | refine zA ?_ | refine zI bA ?_ | refine zI rfl ?_ | refine zJ rfl rfl ?_ | refine zB ?_ | refine zK rfl ?_ | refine zL rfl ?_ | refine zC ?_ | (refine zO ?_ ?_ ?_;omega;omega) | (refine zP ?_ ?_ ?_;omega;omega) | refine zM rfl ?_ | (refine zQ ?_ ?_ ?_;omega;omega) | (refine zR ?_ ?_;omega) | (refine zI ?_ ?_;exact nA) | (refine zS ?_ ?_ ?_;omega;omega) | (refine zT ?_ ?_ ?_;omega;omega) | (refine zU ?_ ?_ ?_;omega;omega) | (refine zV ?_ ?_ ?_;omega;omega) | (refine yA ?_ rfl ?_ ?_;assumption;exact lA) | (refine yB ?_ rfl ?_ ?_;assumption;exact lA) | (refine yC rfl ?_ ?_;exact lA) | (refine yD ?_ ?_ rfl ?_ ?_;assumption;assumption;exact lA) | (refine yE ?_ ?_ ?_ ?_;assumption;omega;omega) | (refine yF ?_ rfl ?_;omega) | (refine yG ?_ rfl rfl rfl ?_;omega) | refine n0 ?_ | refine zN rfl rfl rfl ?_ | refine zD ?_ | refine zE ?_ | refine zF ?_ | refine PDraw.sP (some 12) rfl [] [] tt_ok mixed ?_ | refine PDraw.sP (some 31) rfl [] [8,9,10,11] tt_ok mixed ?_ | refine PDraw.sP (some 46) rfl [] [8,9,10,11] tt_ok mixed ?_ | refine PDraw.sP (some 106) rfl [] [11] tt_ok mixed ?_ | intro _);conv=>whnf)
    rename_i b1 b2 b3
    have hcf := containsFuncInt_c 93 [.ptr b1 0] (.box b1 [.ptr b 0] :: cvG b r L k) L.contains t.v (fun x _ => assignedF_c b r b1 L k x)
    conv => whnf
    repeat' (first | ((first | ((first | (apply zY;intro hg) | apply zZ);focus ((conv=>whnf);(repeat ((first | (refine zW ?_ ?_;exact gA) | refine zH rfl ?_ | refine zA ?_ | refine zI bA ?_ | refine zI rfl ?_ | refine zJ rfl rfl ?_ | refine zB ?_ | refine zK rfl ?_ | refine zL rfl ?_ | refine zC ?_ | (refine zO ?_ ?_ ?_;exact OA;exact OA) | (refine zP ?_ ?_ ?_;exact OA;exact OA) | refine zM rfl ?_ | (refine zQ ?_ ?_ ?_;exact OA;exact OA) | (refine zR ?_ ?_;exact OA) | (refine zI ?_ ?_;exact NA) | (refine zS ?_ ?_ ?_;exact OA;exact OA) | (refine zT ?_ ?_ ?_;exact OA;exact OA) | (refine zU ?_ ?_ ?_;exact OA;exact OA) | (refine zV ?_ ?_ ?_;exact OA;exact OA) | refine PCall.pure (ref_c _) (WkT.refl _) ?_ | refine PCall.pure (ref_c _) cA ?_ | refine PCall.pure (made_c 16) (WkT.refl _) ?_ | refine PCall.pure (made_c 17) (WkT.refl _) ?_ | refine PCall.pure (made_c 18) (WkT.refl _) ?_ | refine PCall.pure (cloneInt_c t.v (by omega)) (WkT.refl _) ?_ | refine PCall.read (hcf) (WkT.refl _) ?_ | (refine yE ?_ ?_ ?_ ?_;assumption;omega;omega) | (refine yF ?_ rfl ?_;omega) | intro _);conv=>whnf));first | exact PShift.same | exact PShift.lit | exact PShift.ep)) | ((first | (apply zY;intro hg) | apply zZ);exact stB) | (refine zW ?_ ?_;exact gA) | refine zH rfl ?_ | refine zA ?_ | refine zI bA ?_ | refine zI rfl ?_ | refine zJ rfl rfl ?_ | refine zB ?_ | refine zK rfl ?_ | refine zL rfl ?_ | refine zC ?_ | (refine zO ?_ ?_ ?_;omega;omega) | (refine zP ?_ ?_ ?_;omega;omega) | refine zM rfl ?_ | (refine zQ ?_ ?_ ?_;omega;omega) | (refine zR ?_ ?_;omega) | (refine zI ?_ ?_;exact nA) | (refine zS ?_ ?_ ?_;omega;omega) | (refine zT ?_ ?_ ?_;omega;omega) | (refine zU ?_ ?_ ?_;omega;omega) | (refine zV ?_ ?_ ?_;omega;omega) | refine PCall.pure (ref_c _) (WkT.refl _) ?_ | refine PCall.pure (ref_c _) cA ?_ | refine PCall.pure (made_c 16) (WkT.refl _) ?_ | refine PCall.pure (made_c 17) (WkT.refl _) ?_ | refine PCall.pure (made_c 18) (WkT.refl _) ?_ | refine PCall.pure (cloneInt_c t.v (by omega)) (WkT.refl _) ?_ | refine PCall.read (hcf) (WkT.refl _) ?_ | (refine yA ?_ rfl ?_ ?_;assumption;exact lA) | (refine yB ?_ rfl ?_ ?_;assumption;exact lA) | (refine yC rfl ?_ ?_;exact lA) | (refine yD ?_ ?_ rfl ?_ ?_;assumption;assumption;exact lA) | (refine yE ?_ ?_ ?_ ?_;assumption;omega;omega) | (refine yF ?_ rfl ?_;omega) | (refine yG ?_ rfl rfl rfl ?_;omega) | refine n0 ?_ | refine zN rfl rfl rfl ?_ | refine zD ?_ | refine zE ?_ | refine zF ?_ | refine PDraw.sP (some 12) rfl [] [] tt_ok mixed ?_ | refine PDraw.sP (some 31) rfl [] [8,9,10,11] tt_ok mixed ?_ | refine PDraw.sP (some 46) rfl [] [8,9,10,11] tt_ok mixed ?_ | refine PDraw.sP (some 106) rfl [] [11] tt_ok mixed ?_ | intro _ | refine zG ?_);conv=>whnf) | (refine zX (fun hc => ?_) (fun hc => ?_)<;>(try simp only [SY] at hc)<;>first | omega | (conv=>whnf)))
    · have e1 : t.cv L.contains k = Trm.mk 16 0 [] [t] := by rw [t.cv_eq, if_pos hc]
      have e2 : t.fr L.contains = 0 := by rw [hfr, if_neg (by omega), (s1 hc.1).2, Trm.frs]; rfl
      rw [e1, e2, Int.add_zero]
      exact PRet.gen (y := .agg (Trm.mk 16 0 [] [t]).cells) (Γ' := cvG b r L k) (Wk.refl _) (And.intro rfl rfl)
    · have h1 := s2 (.inl hc)
      have hm : t.t[0]'(by omega) ∈ t.t := List.getElem_mem _
      obtain ⟨o1, o2⟩ := one h1 (by omega)
      refine PCall.go (hf _ hm k h0 (by have := Trm.bulks_mem hm; omega)) (WkT.refl _) ?_
      rintro _ _ ⟨rfl, rfl⟩
      have e1 : t.cv L.contains k = Trm.mk 17 0 [] [refT t.n, (t.t[0]'(by omega)).cv L.contains k] := by rw [t.cv_eq, if_neg (by omega), if_pos hc, o1]
      have e2 : t.fr L.contains = (t.t[0]'(by omega)).fr L.contains := by rw [hfr, if_neg (by omega), o2]; omega
      rw [e1, e2]
      conv => whnf
      repeat' (first | ((first | ((first | (apply zY;intro hg) | apply zZ);focus ((conv=>whnf);(repeat ((first | (refine zW ?_ ?_;exact gA) | refine zH rfl ?_ | refine zA ?_ | refine zI bA ?_ | refine zI rfl ?_ | refine zJ rfl rfl ?_ | refine zB ?_ | refine zK rfl ?_ | refine zL rfl ?_ | refine zC ?_ | (refine zO ?_ ?_ ?_;exact OA;exact OA) | (refine zP ?_ ?_ ?_;exact OA;exact OA) | refine zM rfl ?_ | (refine zQ ?_ ?_ ?_;exact OA;exact OA) | (refine zR ?_ ?_;exact OA) | (refine zI ?_ ?_;exact NA) | (refine zS ?_ ?_ ?_;exact OA;exact OA) | (refine zT ?_ ?_ ?_;exact OA;exact OA) | (refine zU ?_ ?_ ?_;exact OA;exact OA) | (refine zV ?_ ?_ ?_;exact OA;exact OA) | refine PCall.pure (ref_c _) (WkT.refl _) ?_ | refine PCall.pure (ref_c _) cA ?_ | refine PCall.pure (made_c 16) (WkT.refl _) ?_ | refine PCall.pure (made_c 17) (WkT.refl _) ?_ | refine PCall.pure (made_c 18) (WkT.refl _) ?_ | refine PCall.pure (cloneInt_c t.v (by omega)) (WkT.refl _) ?_ | refine PCall.read (hcf) (WkT.refl _) ?_ | (refine yE ?_ ?_ ?_ ?_;assumption;omega;omega) | (refine yF ?_ rfl ?_;omega) | intro _);conv=>whnf));first | exact PShift.same | exact PShift.lit | exact PShift.ep)) | ((first | (apply zY;intro hg) | apply zZ);exact stB) | (refine zW ?_ ?_;exact gA) | refine zH rfl ?_ | refine zA ?_ | refine zI bA ?_ | refine zI rfl ?_ | refine zJ rfl rfl ?_ | refine zB ?_ | refine zK rfl ?_ | refine zL rfl ?_ | refine zC ?_ | (refine zO ?_ ?_ ?_;omega;omega) | (refine zP ?_ ?_ ?_;omega;omega) | refine zM rfl ?_ | (refine zQ ?_ ?_ ?_;omega;omega) | (refine zR ?_ ?_;omega) | (refine zI ?_ ?_;exact nA) | (refine zS ?_ ?_ ?_;omega;omega) | (refine zT ?_ ?_ ?_;omega;omega) | (refine zU ?_ ?_ ?_;omega;omega) | (refine zV ?_ ?_ ?_;omega;omega) | refine PCall.pure (ref_c _) (WkT.refl _) ?_ | refine PCall.pure (ref_c _) cA ?_ | refine PCall.pure (made_c 16) (WkT.refl _) ?_ | refine PCall.pure (made_c 17) (WkT.refl _) ?_ | refine PCall.pure (made_c 18) (WkT.refl _) ?_ | refine PCall.pure (cloneInt_c t.v (by omega)) (WkT.refl _) ?_ | refine PCall.read (hcf) (WkT.refl _) ?_ | (refine yA ?_ rfl ?_ ?_;assumption;exact lA) | (refine yB ?_ rfl ?_ ?_;assumption;exact lA) | (refine yC rfl ?_ ?_;exact lA) | (refine yD ?_ ?_ rfl ?_ ?_;assumption;assumption;exact lA) | (refine yE ?_ ?_ ?_ ?_;assumption;omega;omega) | (refine yF ?_ rfl ?_;omega) | (refine yG ?_ rfl rfl rfl ?_;omega) | refine n0 ?_ | refine zN rfl rfl rfl ?_ | refine zD ?_ | refine zE ?_ | refine zF ?_ | refine PDraw.sP (some 12) rfl [] [] tt_ok mixed ?_ | refine PDraw.sP (some 31) rfl [] [8,9,10,11] tt_ok mixed ?_ | refine PDraw.sP (some 46) rfl [] [8,9,10,11] tt_ok mixed ?_ | refine PDraw.sP (some 106) rfl [] [11] tt_ok mixed ?_ | intro _ | refine zG ?_);conv=>whnf) | (refine zX (fun hc => ?_) (fun hc => ?_)<;>(try simp only [SY] at hc)<;>first | omega | (conv=>whnf)))
      exact PRet.gen (y := .agg (Trm.mk 17 0 [] [refT t.n, (t.t[0]'(by omega)).cv L.contains k]).cells) (Γ' := cvG b r L _) (Wk.refl _) (And.intro rfl rfl)
    · have h1 := s2 (.inr (.inl hc))
      have hm : t.t[0]'(by omega) ∈ t.t := List.getElem_mem _
      obtain ⟨o1, o2⟩ := one h1 (by omega)
      refine PCall.go (hf _ hm k h0 (by have := Trm.bulks_mem hm; omega)) (WkT.refl _) ?_
      rintro _ _ ⟨rfl, rfl⟩
      have e1 : t.cv L.contains k = Trm.mk 18 0 [] [refT t.n, (t.t[0]'(by omega)).cv L.contains k] := by rw [t.cv_eq, if_neg (by omega), if_neg (by omega), if_pos hc, o1]
      have e2 : t.fr L.contains = (t.t[0]'(by omega)).fr L.contains := by rw [hfr, if_neg (by omega), o2]; omega
      rw [e1, e2]
      conv => whnf
      repeat' (first | ((first | ((first | (apply zY;intro hg) | apply zZ);focus ((conv=>whnf);(repeat ((first | (refine zW ?_ ?_;exact gA) | refine zH rfl ?_ | refine zA ?_ | refine zI bA ?_ | refine zI rfl ?_ | refine zJ rfl rfl ?_ | refine zB ?_ | refine zK rfl ?_ | refine zL rfl ?_ | refine zC ?_ | (refine zO ?_ ?_ ?_;exact OA;exact OA) | (refine zP ?_ ?_ ?_;exact OA;exact OA) | refine zM rfl ?_ | (refine zQ ?_ ?_ ?_;exact OA;exact OA) | (refine zR ?_ ?_;exact OA) | (refine zI ?_ ?_;exact NA) | (refine zS ?_ ?_ ?_;exact OA;exact OA) | (refine zT ?_ ?_ ?_;exact OA;exact OA) | (refine zU ?_ ?_ ?_;exact OA;exact OA) | (refine zV ?_ ?_ ?_;exact OA;exact OA) | refine PCall.pure (ref_c _) (WkT.refl _) ?_ | refine PCall.pure (ref_c _) cA ?_ | refine PCall.pure (made_c 16) (WkT.refl _) ?_ | refine PCall.pure (made_c 17) (WkT.refl _) ?_ | refine PCall.pure (made_c 18) (WkT.refl _) ?_ | refine PCall.pure (cloneInt_c t.v (by omega)) (WkT.refl _) ?_ | refine PCall.read (hcf) (WkT.refl _) ?_ | (refine yE ?_ ?_ ?_ ?_;assumption;omega;omega) | (refine yF ?_ rfl ?_;omega) | intro _);conv=>whnf));first | exact PShift.same | exact PShift.lit | exact PShift.ep)) | ((first | (apply zY;intro hg) | apply zZ);exact stB) | (refine zW ?_ ?_;exact gA) | refine zH rfl ?_ | refine zA ?_ | refine zI bA ?_ | refine zI rfl ?_ | refine zJ rfl rfl ?_ | refine zB ?_ | refine zK rfl ?_ | refine zL rfl ?_ | refine zC ?_ | (refine zO ?_ ?_ ?_;omega;omega) | (refine zP ?_ ?_ ?_;omega;omega) | refine zM rfl ?_ | (refine zQ ?_ ?_ ?_;omega;omega) | (refine zR ?_ ?_;omega) | (refine zI ?_ ?_;exact nA) | (refine zS ?_ ?_ ?_;omega;omega) | (refine zT ?_ ?_ ?_;omega;omega) | (refine zU ?_ ?_ ?_;omega;omega) | (refine zV ?_ ?_ ?_;omega;omega) | refine PCall.pure (ref_c _) (WkT.refl _) ?_ | refine PCall.pure (ref_c _) cA ?_ | refine PCall.pure (made_c 16) (WkT.refl _) ?_ | refine PCall.pure (made_c 17) (WkT.refl _) ?_ | refine PCall.pure (made_c 18) (WkT.refl _) ?_ | refine PCall.pure (cloneInt_c t.v (by omega)) (WkT.refl _) ?_ | refine PCall.read (hcf) (WkT.refl _) ?_ | (refine yA ?_ rfl ?_ ?_;assumption;exact lA) | (refine yB ?_ rfl ?_ ?_;assumption;exact lA) | (refine yC rfl ?_ ?_;exact lA) | (refine yD ?_ ?_ rfl ?_ ?_;assumption;assumption;exact lA) | (refine yE ?_ ?_ ?_ ?_;assumption;omega;omega) | (refine yF ?_ rfl ?_;omega) | (refine yG ?_ rfl rfl rfl ?_;omega) | refine n0 ?_ | refine zN rfl rfl rfl ?_ | refine zD ?_ | refine zE ?_ | refine zF ?_ | refine PDraw.sP (some 12) rfl [] [] tt_ok mixed ?_ | refine PDraw.sP (some 31) rfl [] [8,9,10,11] tt_ok mixed ?_ | refine PDraw.sP (some 46) rfl [] [8,9,10,11] tt_ok mixed ?_ | refine PDraw.sP (some 106) rfl [] [11] tt_ok mixed ?_ | intro _ | refine zG ?_);conv=>whnf) | (refine zX (fun hc => ?_) (fun hc => ?_)<;>(try simp only [SY] at hc)<;>first | omega | (conv=>whnf)))
      exact PRet.gen (y := .agg (Trm.mk 18 0 [] [refT t.n, (t.t[0]'(by omega)).cv L.contains k]).cells) (Γ' := cvG b r L _) (Wk.refl _) (And.intro rfl rfl)
    · refine PCall.go (lam_c b r L t hc (s2 (.inr (.inr hc))) hf hb k h0 hk) (WkT.refl _) ?_
      rintro _ _ ⟨rfl, rfl⟩
      conv => whnf
      repeat' (first | ((first | ((first | (apply zY;intro hg) | apply zZ);focus ((conv=>whnf);(repeat ((first | (refine zW ?_ ?_;exact gA) | refine zH rfl ?_ | refine zA ?_ | refine zI bA ?_ | refine zI rfl ?_ | refine zJ rfl rfl ?_ | refine zB ?_ | refine zK rfl ?_ | refine zL rfl ?_ | refine zC ?_ | (refine zO ?_ ?_ ?_;exact OA;exact OA) | (refine zP ?_ ?_ ?_;exact OA;exact OA) | refine zM rfl ?_ | (refine zQ ?_ ?_ ?_;exact OA;exact OA) | (refine zR ?_ ?_;exact OA) | (refine zI ?_ ?_;exact NA) | (refine zS ?_ ?_ ?_;exact OA;exact OA) | (refine zT ?_ ?_ ?_;exact OA;exact OA) | (refine zU ?_ ?_ ?_;exact OA;exact OA) | (refine zV ?_ ?_ ?_;exact OA;exact OA) | refine PCall.pure (ref_c _) (WkT.refl _) ?_ | refine PCall.pure (ref_c _) cA ?_ | refine PCall.pure (made_c 16) (WkT.refl _) ?_ | refine PCall.pure (made_c 17) (WkT.refl _) ?_ | refine PCall.pure (made_c 18) (WkT.refl _) ?_ | refine PCall.pure (cloneInt_c t.v (by omega)) (WkT.refl _) ?_ | refine PCall.read (hcf) (WkT.refl _) ?_ | (refine yE ?_ ?_ ?_ ?_;assumption;omega;omega) | (refine yF ?_ rfl ?_;omega) | intro _);conv=>whnf));first | exact PShift.same | exact PShift.lit | exact PShift.ep)) | ((first | (apply zY;intro hg) | apply zZ);exact stB) | (refine zW ?_ ?_;exact gA) | refine zH rfl ?_ | refine zA ?_ | refine zI bA ?_ | refine zI rfl ?_ | refine zJ rfl rfl ?_ | refine zB ?_ | refine zK rfl ?_ | refine zL rfl ?_ | refine zC ?_ | (refine zO ?_ ?_ ?_;omega;omega) | (refine zP ?_ ?_ ?_;omega;omega) | refine zM rfl ?_ | (refine zQ ?_ ?_ ?_;omega;omega) | (refine zR ?_ ?_;omega) | (refine zI ?_ ?_;exact nA) | (refine zS ?_ ?_ ?_;omega;omega) | (refine zT ?_ ?_ ?_;omega;omega) | (refine zU ?_ ?_ ?_;omega;omega) | (refine zV ?_ ?_ ?_;omega;omega) | refine PCall.pure (ref_c _) (WkT.refl _) ?_ | refine PCall.pure (ref_c _) cA ?_ | refine PCall.pure (made_c 16) (WkT.refl _) ?_ | refine PCall.pure (made_c 17) (WkT.refl _) ?_ | refine PCall.pure (made_c 18) (WkT.refl _) ?_ | refine PCall.pure (cloneInt_c t.v (by omega)) (WkT.refl _) ?_ | refine PCall.read (hcf) (WkT.refl _) ?_ | (refine yA ?_ rfl ?_ ?_;assumption;exact lA) | (refine yB ?_ rfl ?_ ?_;assumption;exact lA) | (refine yC rfl ?_ ?_;exact lA) | (refine yD ?_ ?_ rfl ?_ ?_;assumption;assumption;exact lA) | (refine yE ?_ ?_ ?_ ?_;assumption;omega;omega) | (refine yF ?_ rfl ?_;omega) | (refine yG ?_ rfl rfl rfl ?_;omega) | refine n0 ?_ | refine zN rfl rfl rfl ?_ | refine zD ?_ | refine zE ?_ | refine zF ?_ | refine PDraw.sP (some 12) rfl [] [] tt_ok mixed ?_ | refine PDraw.sP (some 31) rfl [] [8,9,10,11] tt_ok mixed ?_ | refine PDraw.sP (some 46) rfl [] [8,9,10,11] tt_ok mixed ?_ | refine PDraw.sP (some 106) rfl [] [11] tt_ok mixed ?_ | intro _ | refine zG ?_);conv=>whnf) | (refine zX (fun hc => ?_) (fun hc => ?_)<;>(try simp only [SY] at hc)<;>first | omega | (conv=>whnf)))
      exact PRet.gen (y := .agg (t.cv L.contains k).cells) (Γ' := cvG b r L _) (Wk.refl _) (And.intro rfl rfl)
    · refine PCall.go (fix_c b r L t hc.1 hc.2 (s3 (.inr hc.1)) hf hb k h0 hk) (WkT.refl _) ?_
      rintro _ _ ⟨rfl, rfl⟩
      conv => whnf
      repeat' (first | ((first | ((first | (apply zY;intro hg) | apply zZ);focus ((conv=>whnf);(repeat ((first | (refine zW ?_ ?_;exact gA) | refine zH rfl ?_ | refine zA ?_ | refine zI bA ?_ | refine zI rfl ?_ | refine zJ rfl rfl ?_ | refine zB ?_ | refine zK rfl ?_ | refine zL rfl ?_ | refine zC ?_ | (refine zO ?_ ?_ ?_;exact OA;exact OA) | (refine zP ?_ ?_ ?_;exact OA;exact OA) | refine zM rfl ?_ | (refine zQ ?_ ?_ ?_;exact OA;exact OA) | (refine zR ?_ ?_;exact OA) | (refine zI ?_ ?_;exact NA) | (refine zS ?_ ?_ ?_;exact OA;exact OA) | (refine zT ?_ ?_ ?_;exact OA;exact OA) | (refine zU ?_ ?_ ?_;exact OA;exact OA) | (refine zV ?_ ?_ ?_;exact OA;exact OA) | refine PCall.pure (ref_c _) (WkT.refl _) ?_ | refine PCall.pure (ref_c _) cA ?_ | refine PCall.pure (made_c 16) (WkT.refl _) ?_ | refine PCall.pure (made_c 17) (WkT.refl _) ?_ | refine PCall.pure (made_c 18) (WkT.refl _) ?_ | refine PCall.pure (cloneInt_c t.v (by omega)) (WkT.refl _) ?_ | refine PCall.read (hcf) (WkT.refl _) ?_ | (refine yE ?_ ?_ ?_ ?_;assumption;omega;omega) | (refine yF ?_ rfl ?_;omega) | intro _);conv=>whnf));first | exact PShift.same | exact PShift.lit | exact PShift.ep)) | ((first | (apply zY;intro hg) | apply zZ);exact stB) | (refine zW ?_ ?_;exact gA) | refine zH rfl ?_ | refine zA ?_ | refine zI bA ?_ | refine zI rfl ?_ | refine zJ rfl rfl ?_ | refine zB ?_ | refine zK rfl ?_ | refine zL rfl ?_ | refine zC ?_ | (refine zO ?_ ?_ ?_;omega;omega) | (refine zP ?_ ?_ ?_;omega;omega) | refine zM rfl ?_ | (refine zQ ?_ ?_ ?_;omega;omega) | (refine zR ?_ ?_;omega) | (refine zI ?_ ?_;exact nA) | (refine zS ?_ ?_ ?_;omega;omega) | (refine zT ?_ ?_ ?_;omega;omega) | (refine zU ?_ ?_ ?_;omega;omega) | (refine zV ?_ ?_ ?_;omega;omega) | refine PCall.pure (ref_c _) (WkT.refl _) ?_ | refine PCall.pure (ref_c _) cA ?_ | refine PCall.pure (made_c 16) (WkT.refl _) ?_ | refine PCall.pure (made_c 17) (WkT.refl _) ?_ | refine PCall.pure (made_c 18) (WkT.refl _) ?_ | refine PCall.pure (cloneInt_c t.v (by omega)) (WkT.refl _) ?_ | refine PCall.read (hcf) (WkT.refl _) ?_ | (refine yA ?_ rfl ?_ ?_;assumption;exact lA) | (refine yB ?_ rfl ?_ ?_;assumption;exact lA) | (refine yC rfl ?_ ?_;exact lA) | (refine yD ?_ ?_ rfl ?_ ?_;assumption;assumption;exact lA) | (refine yE ?_ ?_ ?_ ?_;assumption;omega;omega) | (refine yF ?_ rfl ?_;omega) | (refine yG ?_ rfl rfl rfl ?_;omega) | refine n0 ?_ | refine zN rfl rfl rfl ?_ | refine zD ?_ | refine zE ?_ | refine zF ?_ | refine PDraw.sP (some 12) rfl [] [] tt_ok mixed ?_ | refine PDraw.sP (some 31) rfl [] [8,9,10,11] tt_ok mixed ?_ | refine PDraw.sP (some 46) rfl [] [8,9,10,11] tt_ok mixed ?_ | refine PDraw.sP (some 106) rfl [] [11] tt_ok mixed ?_ | intro _ | refine zG ?_);conv=>whnf) | (refine zX (fun hc => ?_) (fun hc => ?_)<;>(try simp only [SY] at hc)<;>first | omega | (conv=>whnf)))
      exact PRet.gen (y := .agg (t.cv L.contains k).cells) (Γ' := cvG b r L _) (Wk.refl _) (And.intro rfl rfl)
    refine PDraw.sF (some 77) rfl [.box b [.mp r, .int .i64 k], .mp r (.int .i64) (setM L) []] [10,11] [] [12] [13] tt_ok mixed ?_
    conv=>whnf
    repeat ((first | ((first | (apply zY;intro hg) | apply zZ);focus ((conv=>whnf);(repeat ((first | (refine zW ?_ ?_;exact gA) | refine zH rfl ?_ | refine zA ?_ | refine zI bA ?_ | refine zI rfl ?_ | refine zJ rfl rfl ?_ | refine zB ?_ | refine zK rfl ?_ | refine zL rfl ?_ | refine zC ?_ | (refine zO ?_ ?_ ?_;exact OA;exact OA) | (refine zP ?_ ?_ ?_;exact OA;exact OA) | refine zM rfl ?_ | (refine zQ ?_ ?_ ?_;exact OA;exact OA) | (refine zR ?_ ?_;exact OA) | (refine zI ?_ ?_;exact NA) | (refine zS ?_ ?_ ?_;exact OA;exact OA) | (refine zT ?_ ?_ ?_;exact OA;exact OA) | (refine zU ?_ ?_ ?_;exact OA;exact OA) | (refine zV ?_ ?_ ?_;exact OA;exact OA) | refine PCall.pure (ref_c _) (WkT.refl _) ?_ | refine PCall.pure (ref_c _) cA ?_ | refine PCall.pure (made_c 16) (WkT.refl _) ?_ | refine PCall.pure (made_c 17) (WkT.refl _) ?_ | refine PCall.pure (made_c 18) (WkT.refl _) ?_ | refine PCall.pure (cloneInt_c t.v (by omega)) (WkT.refl _) ?_ | refine PCall.read (hcf) (WkT.refl _) ?_ | (refine yE ?_ ?_ ?_ ?_;assumption;omega;omega) | (refine yF ?_ rfl ?_;omega) | intro _);conv=>whnf));first | exact PShift.same | exact PShift.lit | exact PShift.ep)) | ((first | (apply zY;intro hg) | apply zZ);exact stB) | (refine zW ?_ ?_;exact gA) | refine zH rfl ?_ | refine zA ?_ | refine zI bA ?_ | refine zI rfl ?_ | refine zJ rfl rfl ?_ | refine zB ?_ | refine zK rfl ?_ | refine zL rfl ?_ | refine zC ?_ | (refine zO ?_ ?_ ?_;omega;omega) | (refine zP ?_ ?_ ?_;omega;omega) | refine zM rfl ?_ | (refine zQ ?_ ?_ ?_;omega;omega) | (refine zR ?_ ?_;omega) | (refine zI ?_ ?_;exact nA) | (refine zS ?_ ?_ ?_;omega;omega) | (refine zT ?_ ?_ ?_;omega;omega) | (refine zU ?_ ?_ ?_;omega;omega) | (refine zV ?_ ?_ ?_;omega;omega) | refine PCall.pure (ref_c _) (WkT.refl _) ?_ | refine PCall.pure (ref_c _) cA ?_ | refine PCall.pure (made_c 16) (WkT.refl _) ?_ | refine PCall.pure (made_c 17) (WkT.refl _) ?_ | refine PCall.pure (made_c 18) (WkT.refl _) ?_ | refine PCall.pure (cloneInt_c t.v (by omega)) (WkT.refl _) ?_ | refine PCall.read (hcf) (WkT.refl _) ?_ | (refine yA ?_ rfl ?_ ?_;assumption;exact lA) | (refine yB ?_ rfl ?_ ?_;assumption;exact lA) | (refine yC rfl ?_ ?_;exact lA) | (refine yD ?_ ?_ rfl ?_ ?_;assumption;assumption;exact lA) | (refine yE ?_ ?_ ?_ ?_;assumption;omega;omega) | (refine yF ?_ rfl ?_;omega) | (refine yG ?_ rfl rfl rfl ?_;omega) | refine n0 ?_ | refine zN rfl rfl rfl ?_ | refine zD ?_ | refine zE ?_ | refine zF ?_ | refine PDraw.sP (some 12) rfl [] [] tt_ok mixed ?_ | refine PDraw.sP (some 31) rfl [] [8,9,10,11] tt_ok mixed ?_ | refine PDraw.sP (some 46) rfl [] [8,9,10,11] tt_ok mixed ?_ | refine PDraw.sP (some 106) rfl [] [11] tt_ok mixed ?_ | intro _);conv=>whnf)
    have e1 : t.cv L.contains k = Trm.mk t.op t.n t.v (if t.op = 8 then boxAll L.contains t.v (Trm.cvs L.contains t.t k) else Trm.cvs L.contains t.t k) := by
      rw [t.cv_eq, if_neg (by rintro ⟨h1, h2⟩; rcases ‹¬t.op = 1 ∨ L.contains t.n = false› with h | h; exact h h1; rw [h] at h2; cases h2), if_neg (by omega), if_neg (by omega), if_neg (by omega), if_neg (by rintro ⟨h1, h2⟩; rcases hc with h | h; exact h h1; rw [h] at h2; cases h2)]
    have e2 : k + t.fr L.contains = k + Trm.frs L.contains t.t := by rw [hfr, if_neg (by omega)]; omega
    have hcl := Trm.cvs_length L.contains t.t k
    rw [e1, e2]
    refine PCall.go (asgAll_c b r L t.t k hf h0 (by omega) (by omega)) (WkT.refl _) ?_
    rintro _ _ ⟨tk, hte, hts, rfl, rfl⟩
    clear e1 hcf one hfr
    generalize Trm.cvs L.contains t.t k = l at *
    generalize k + Trm.frs L.contains t.t = k' at *
    conv => whnf
    repeat' (first | ((first | ((first | (apply zY;intro hg) | apply zZ);focus ((conv=>whnf);(repeat ((first | (refine zW ?_ ?_;exact gA) | refine zH rfl ?_ | refine zA ?_ | refine zI bA ?_ | refine zI rfl ?_ | refine zJ rfl rfl ?_ | refine zB ?_ | refine zK rfl ?_ | refine zL rfl ?_ | refine zC ?_ | (refine zO ?_ ?_ ?_;exact OA;exact OA) | (refine zP ?_ ?_ ?_;exact OA;exact OA) | refine zM rfl ?_ | (refine zQ ?_ ?_ ?_;exact OA;exact OA) | (refine zR ?_ ?_;exact OA) | (refine zI ?_ ?_;exact NA) | (refine zS ?_ ?_ ?_;exact OA;exact OA) | (refine zT ?_ ?_ ?_;exact OA;exact OA) | (refine zU ?_ ?_ ?_;exact OA;exact OA) | (refine zV ?_ ?_ ?_;exact OA;exact OA) | refine PCall.pure (ref_c _) (WkT.refl _) ?_ | refine PCall.pure (ref_c _) cA ?_ | refine PCall.pure (made_c 16) (WkT.refl _) ?_ | refine PCall.pure (made_c 17) (WkT.refl _) ?_ | refine PCall.pure (made_c 18) (WkT.refl _) ?_ | refine PCall.pure (cloneInt_c t.v (by omega)) (WkT.refl _) ?_ | refine PCall.read (hcf) (WkT.refl _) ?_ | (refine yE ?_ ?_ ?_ ?_;assumption;omega;omega) | (refine yF ?_ rfl ?_;omega) | intro _);conv=>whnf));first | exact PShift.same | exact PShift.lit | exact PShift.ep)) | ((first | (apply zY;intro hg) | apply zZ);exact stB) | (refine zW ?_ ?_;exact gA) | refine zH rfl ?_ | refine zA ?_ | refine zI bA ?_ | refine zI rfl ?_ | refine zJ rfl rfl ?_ | refine zB ?_ | refine zK rfl ?_ | refine zL rfl ?_ | refine zC ?_ | (refine zO ?_ ?_ ?_;omega;omega) | (refine zP ?_ ?_ ?_;omega;omega) | refine zM rfl ?_ | (refine zQ ?_ ?_ ?_;omega;omega) | (refine zR ?_ ?_;omega) | (refine zI ?_ ?_;exact nA) | (refine zS ?_ ?_ ?_;omega;omega) | (refine zT ?_ ?_ ?_;omega;omega) | (refine zU ?_ ?_ ?_;omega;omega) | (refine zV ?_ ?_ ?_;omega;omega) | refine PCall.pure (ref_c _) (WkT.refl _) ?_ | refine PCall.pure (ref_c _) cA ?_ | refine PCall.pure (made_c 16) (WkT.refl _) ?_ | refine PCall.pure (made_c 17) (WkT.refl _) ?_ | refine PCall.pure (made_c 18) (WkT.refl _) ?_ | refine PCall.pure (cloneInt_c t.v (by omega)) (WkT.refl _) ?_ | refine PCall.read (hcf) (WkT.refl _) ?_ | (refine yA ?_ rfl ?_ ?_;assumption;exact lA) | (refine yB ?_ rfl ?_ ?_;assumption;exact lA) | (refine yC rfl ?_ ?_;exact lA) | (refine yD ?_ ?_ rfl ?_ ?_;assumption;assumption;exact lA) | (refine yE ?_ ?_ ?_ ?_;assumption;omega;omega) | (refine yF ?_ rfl ?_;omega) | (refine yG ?_ rfl rfl rfl ?_;omega) | refine n0 ?_ | refine zN rfl rfl rfl ?_ | refine zD ?_ | refine zE ?_ | refine zF ?_ | refine PDraw.sP (some 12) rfl [] [] tt_ok mixed ?_ | refine PDraw.sP (some 31) rfl [] [8,9,10,11] tt_ok mixed ?_ | refine PDraw.sP (some 46) rfl [] [8,9,10,11] tt_ok mixed ?_ | refine PDraw.sP (some 106) rfl [] [11] tt_ok mixed ?_ | intro _ | refine zG ?_);conv=>whnf) | (refine zX (fun hc => ?_) (fun hc => ?_)<;>(try simp only [SY] at hc)<;>first | omega | (conv=>whnf)))
    · have hl8 := s3 (.inl hc)
      rename_i b6 hvl
      rw [if_pos hc]
      generalize hM : boxAll L.contains t.v l = M
      have hMl : M.length = l.length := by rw [← hM, boxAll_len]
      rw [show l.map Trm.pv = (M.take 0 ++ l.drop 0).map Trm.pv by rw [List.take_zero, List.nil_append, List.drop_zero]]
      refine PLoop.over [7, 8, 95, 96, 97, 98, 99, 100, 101, 102, 103, 104, 105, 106, 107, 108, 109, 110, 111, 112, 113, 114, 115, 116, 117] (fun i : Nat => [(95, .int .i64 i)])
        (fun i : Nat => [.box b6 [.int .i64 t.op, .int .i64 t.n, slI t.v, .ms tk], .row tk ((M.take i ++ l.drop i).map Trm.pv), .box b [.mp r, .int .i64 k'], .mp r (.int .i64) (setM L) [], .box b3 [.int .i64 0, .int .i64 0, .nil, .nil], .box b2 [.int .i64 t.op, .int .i64 t.n, .sl 1 (t.v.map (PV.int .i64)) none, .sl 4 (t.t.map Trm.pv) none], .box b1 [.ptr b 0]])
        (fun i => i ≤ t.v.length) (fun i => t.v.length - i) 0 (Nat.zero_le _) wA ?_
      intro i hi
      have hmix : (M.take i ++ l.drop i).length = l.length := by rw [List.length_append, List.length_take, List.length_drop]; omega
      conv => whnf
      repeat' (first | ((first | ((first | (apply zY;intro hg) | apply zZ);focus ((conv=>whnf);(repeat ((first | (refine zW ?_ ?_;exact gA) | refine zH rfl ?_ | refine zA ?_ | refine zI bA ?_ | refine zI rfl ?_ | refine zJ rfl rfl ?_ | refine zB ?_ | refine zK rfl ?_ | refine zL rfl ?_ | refine zC ?_ | (refine zO ?_ ?_ ?_;exact OA;exact OA) | (refine zP ?_ ?_ ?_;exact OA;exact OA) | refine zM rfl ?_ | (refine zQ ?_ ?_ ?_;exact OA;exact OA) | (refine zR ?_ ?_;exact OA) | (refine zI ?_ ?_;exact NA) | (refine zS ?_ ?_ ?_;exact OA;exact OA) | (refine zT ?_ ?_ ?_;exact OA;exact OA) | (refine zU ?_ ?_ ?_;exact OA;exact OA) | (refine zV ?_ ?_ ?_;exact OA;exact OA) | refine PCall.pure (made_c 15) (WkT.refl _) ?_ | (refine yE ?_ ?_ ?_ ?_;assumption;omega;omega) | (refine yF ?_ rfl ?_;omega) | intro _);conv=>whnf));first | exact PShift.same | exact PShift.lit | exact PShift.ep)) | ((first | (apply zY;intro hg) | apply zZ);exact stB) | (refine zW ?_ ?_;exact gA) | refine zH rfl ?_ | refine zA ?_ | refine zI bA ?_ | refine zI rfl ?_ | refine zJ rfl rfl ?_ | refine zB ?_ | refine zK rfl ?_ | refine zL rfl ?_ | refine zC ?_ | (refine zO ?_ ?_ ?_;omega;omega) | (refine zP ?_ ?_ ?_;omega;omega) | refine zM rfl ?_ | (refine zQ ?_ ?_ ?_;omega;omega) | (refine zR ?_ ?_;omega) | (refine zI ?_ ?_;exact nA) | (refine zS ?_ ?_ ?_;omega;omega) | (refine zT ?_ ?_ ?_;omega;omega) | (refine zU ?_ ?_ ?_;omega;omega) | (refine zV ?_ ?_ ?_;omega;omega) | refine PCall.pure (made_c 15) (WkT.refl _) ?_ | (refine yA ?_ rfl ?_ ?_;assumption;exact lA) | (refine yB ?_ rfl ?_ ?_;assumption;exact lA) | (refine yC rfl ?_ ?_;exact lA) | (refine yD ?_ ?_ rfl ?_ ?_;assumption;assumption;exact lA) | (refine yE ?_ ?_ ?_ ?_;assumption;omega;omega) | (refine yF ?_ rfl ?_;omega) | (refine yG ?_ rfl rfl rfl ?_;omega) | refine n0 ?_ | refine zN rfl rfl rfl ?_ | refine zD ?_ | refine zE ?_ | refine zF ?_ | refine PDraw.sP (some 12) rfl [] [] tt_ok mixed ?_ | refine PDraw.sP (some 31) rfl [] [8,9,10,11] tt_ok mixed ?_ | refine PDraw.sP (some 46) rfl [] [8,9,10,11] tt_ok mixed ?_ | refine PDraw.sP (some 106) rfl [] [11] tt_ok mixed ?_ | intro _ | refine zG ?_);conv=>whnf) | (refine zX (fun hc => ?_) (fun hc => ?_)<;>(try simp only [SY] at hc)<;>first | omega | (conv=>whnf)))
      · have hiv : i < t.v.length := by omega
        have hil : i < l.length := by omega
        have e3 : (M.take i ++ l.drop i)[i]'(by omega) = l[i] := by
          rw [List.getElem_append_right (by rw [List.length_take]; omega)]
          simp [List.getElem_drop, List.length_take, Nat.min_eq_left (show i ≤ M.length by omega)]
        have e4 : M[i]'(by omega) = Trm.mk 15 0 [] [l[i]] := by
          have := boxAll_get L.contains t.v l i hiv hil
          rw [if_pos hc] at this
          subst hM
          exact this
        rw [e3, mixed_set hMl hil _ e4.symm]
        exact loopTo (i + 1) (by show i + 1 ≤ _; omega) (by show t.v.length - (i + 1) < t.v.length - i; omega) wA
      · have hiv : i < t.v.length := by omega
        have hil : i < l.length := by omega
        have e4 : M[i]'(by omega) = l[i] := by
          have := boxAll_get L.contains t.v l i hiv hil
          rw [if_neg (by rw [hc]; decide)] at this
          subst hM
          exact this
        have e5 : M.take i ++ l.drop i = M.take (i + 1) ++ l.drop (i + 1) := by
          rw [← mixed_set hMl hil _ e4.symm]
          apply List.ext_getElem (by simp)
          intro j h1 h2
          rw [List.getElem_set]
          split
          · rename_i hj
            subst hj
            rw [List.getElem_append_right (by rw [List.length_take]; omega)]
            simp [List.getElem_drop, List.length_take, Nat.min_eq_left (show i ≤ M.length by omega)]
          · rfl
        rw [e5]
        exact loopTo (i + 1) (by show i + 1 ≤ _; omega) (by show t.v.length - (i + 1) < t.v.length - i; omega) wA
      · have e5 : M.take i ++ l.drop i = M := by
          have : i = t.v.length := by omega
          rw [this, ← boxAll_drop L.contains t.v l, hM, List.take_append_drop]
        rw [e5]
        exact PRet.frz (es := M.map Trm.pv) (y := .agg (Trm.mk t.op t.n t.v M).cells) (Γ' := cvG b r L k') (WkF.agg (.cons (WkF.of (Wk.refl _)) (.cons (WkF.of (Wk.refl _)) (.cons (WkF.of (Wk.refl _)) (.cons (WkF.ms' hts) .nil))))) (And.intro rfl rfl)
    · rw [if_neg hc]
      exact PRet.frz (es := l.map Trm.pv) (y := .agg (Trm.mk t.op t.n t.v l).cells) (Γ' := cvG b r L k') (WkF.agg (.cons (WkF.of (Wk.refl _)) (.cons (WkF.of (Wk.refl _)) (.cons (WkF.of (Wk.refl _)) (.cons (WkF.ms' hts) .nil))))) (And.intro rfl rfl)
end Go.Cb
namespace Go.Cb
open Go.Proofs
set_option maxRecDepth 100000
set_option maxHeartbeats 4000000
theorem Wk.rowTok {s : Nat} {es fs : List PV} {tk : Option Tok} (h : WkR es fs) : Wk (.sl s es tk) (.sl s fs none) := Wk.trans (Wk.tok _ _ _) (Wk.row h)
end Go.Cb
namespace Go.Cb
open Go.Proofs
set_option maxRecDepth 100000
set_option maxHeartbeats 4000000
theorem RightP.binds {p : Prog} {level : Int} (h : RightP p level) : (riseL (bindsOf p.body.all)).length = p.body.vars.length := by
  have h1 := p.body.met_all [] 0 (by have := p.body.okT_deep h.2.2.1; omega)
  have h2 : bindsOf p.body.all = p.body.vars := h1.2
  rw [h2]
  exact rise_len h.2.2.2.2.2
end Go.Cb
namespace Go.Cb
open Go.Proofs
set_option maxRecDepth 100000
set_option maxHeartbeats 4000000
theorem bndL_mem (t : Trm) (x : Int) : x ∈ bndL t ↔ x ∈ t.vars := by unfold bndL; exact mem_rise _ _
theorem RightP.fits {p : Prog} {level : Int} (h : RightP p level) : p.body.shp ∧ p.body.dep ≤ 400 ∧ (∀ x ∈ p.body.vars, 0 ≤ x ∧ x ≤ 1000000) := by
  have h1 := p.body.okT_deep h.2.2.1
  exact ⟨p.body.okT_shp h.2.2.1, by omega, fun x hx => ⟨(h.2.2.2.2.1 x hx).1, (h.2.2.2.2.1 x hx).2.1⟩⟩
theorem bndL_len' (t : Trm) (h : t.dep < 1000) : (bndL t).length ≤ t.bulk := by
  have := (t.bD_spec 0 [] List.Pairwise.nil).2.1
  rw [t.bD_rise h] at this
  simpa using this
theorem noP_wk : Wk (.agg [.nil, .int .i64 0, .int .i64 0, .nil, .nil]) (.agg noP.cells) := Wk.agg (.cons (Wk.nil' rfl) (.cons (Wk.refl _) (.cons (Wk.refl _) (.cons (Wk.nil' rfl) (.cons (Wk.nil' rfl) .nil)))))
theorem conv_c (p : Prog) (hb : p.body.bulk ≤ 100000000) (hl : p.consts.length ≤ 1000000000) :
    ACallP Tryz.prog 26 [.agg p.cells] (.tup [.agg (conv10 p).1.cells, .int .i64 (conv10 p).2]) := by
  have he := check_eq p 1
  have hR : checkP p 1 = 0 → RightP p 1 := fun h => (checkD_right p 1).1 (by rw [← he]; exact h)
  refine ACall.of_body tt_ok Tryz.func26 rfl rfl (n := 47) rfl rfl ?_
  conv => whnf
  repeat ((first | ((first | (apply zY;intro hg) | apply zZ);focus ((conv=>whnf);(repeat ((first | (refine zW ?_ ?_;exact gA) | refine zH rfl ?_ | refine zA ?_ | refine zI bA ?_ | refine zI rfl ?_ | refine zJ rfl rfl ?_ | refine zB ?_ | refine zK rfl ?_ | refine zL rfl ?_ | refine zC ?_ | (refine zO ?_ ?_ ?_;exact OA;exact OA) | (refine zP ?_ ?_ ?_;exact OA;exact OA) | refine zM rfl ?_ | (refine zQ ?_ ?_ ?_;exact OA;exact OA) | (refine zR ?_ ?_;exact OA) | (refine zI ?_ ?_;exact NA) | (refine zS ?_ ?_ ?_;exact OA;exact OA) | (refine zT ?_ ?_ ?_;exact OA;exact OA) | (refine zU ?_ ?_ ?_;exact OA;exact OA) | (refine zV ?_ ?_ ?_;exact OA;exact OA) | refine PCall.pure (checkp_c p 1 (by omega) (by omega)) (WkT.refl _) ?_ | refine PCall.pure (binds_c p.body (by omega)) (WkT.refl _) ?_ | refine PCall.pure (cloneDat_c p.consts hl) (WkT.refl _) ?_ | (refine yE ?_ ?_ ?_ ?_;assumption;omega;omega) | (refine yF ?_ rfl ?_;omega) | intro _);conv=>whnf));first | exact PShift.same | exact PShift.lit | exact PShift.ep)) | ((first | (apply zY;intro hg) | apply zZ);exact stB) | (refine zW ?_ ?_;exact gA) | refine zH rfl ?_ | refine zA ?_ | refine zI bA ?_ | refine zI rfl ?_ | refine zJ rfl rfl ?_ | refine zB ?_ | refine zK rfl ?_ | refine zL rfl ?_ | refine zC ?_ | (refine zO ?_ ?_ ?_;omega;omega) | (refine zP ?_ ?_ ?_;omega;omega) | refine zM rfl ?_ | (refine zQ ?_ ?_ ?_;omega;omega) | (refine zR ?_ ?_;omega) | (refine zI ?_ ?_;exact nA) | (refine zS ?_ ?_ ?_;omega;omega) | (refine zT ?_ ?_ ?_;omega;omega) | (refine zU ?_ ?_ ?_;omega;omega) | (refine zV ?_ ?_ ?_;omega;omega) | refine PCall.pure (checkp_c p 1 (by omega) (by omega)) (WkT.refl _) ?_ | refine PCall.pure (binds_c p.body (by omega)) (WkT.refl _) ?_ | refine PCall.pure (cloneDat_c p.consts hl) (WkT.refl _) ?_ | (refine yA ?_ rfl ?_ ?_;assumption;exact lA) | (refine yB ?_ rfl ?_ ?_;assumption;exact lA) | (refine yC rfl ?_ ?_;exact lA) | (refine yD ?_ ?_ rfl ?_ ?_;assumption;assumption;exact lA) | (refine yE ?_ ?_ ?_ ?_;assumption;omega;omega) | (refine yF ?_ rfl ?_;omega) | (refine yG ?_ rfl rfl rfl ?_;omega) | refine n0 ?_ | refine zN rfl rfl rfl ?_ | refine zD ?_ | refine zE ?_ | refine zF ?_ | intro _);conv=>whnf)
  conv => whnf
  repeat' (first | ((first | ((first | (apply zY;intro hg) | apply zZ);focus ((conv=>whnf);(repeat ((first | (refine zW ?_ ?_;exact gA) | refine zH rfl ?_ | refine zA ?_ | refine zI bA ?_ | refine zI rfl ?_ | refine zJ rfl rfl ?_ | refine zB ?_ | refine zK rfl ?_ | refine zL rfl ?_ | refine zC ?_ | (refine zO ?_ ?_ ?_;exact OA;exact OA) | (refine zP ?_ ?_ ?_;exact OA;exact OA) | refine zM rfl ?_ | (refine zQ ?_ ?_ ?_;exact OA;exact OA) | (refine zR ?_ ?_;exact OA) | (refine zI ?_ ?_;exact NA) | (refine zS ?_ ?_ ?_;exact OA;exact OA) | (refine zT ?_ ?_ ?_;exact OA;exact OA) | (refine zU ?_ ?_ ?_;exact OA;exact OA) | (refine zV ?_ ?_ ?_;exact OA;exact OA) | refine PCall.pure (checkp_c p 1 (by omega) (by omega)) (WkT.refl _) ?_ | refine PCall.pure (binds_c p.body (by omega)) (WkT.refl _) ?_ | refine PCall.pure (cloneDat_c p.consts hl) (WkT.refl _) ?_ | (refine yE ?_ ?_ ?_ ?_;assumption;omega;omega) | (refine yF ?_ rfl ?_;omega) | intro _);conv=>whnf));first | exact PShift.same | exact PShift.lit | exact PShift.ep)) | ((first | (apply zY;intro hg) | apply zZ);exact stB) | (refine zW ?_ ?_;exact gA) | refine zH rfl ?_ | refine zA ?_ | refine zI bA ?_ | refine zI rfl ?_ | refine zJ rfl rfl ?_ | refine zB ?_ | refine zK rfl ?_ | refine zL rfl ?_ | refine zC ?_ | (refine zO ?_ ?_ ?_;omega;omega) | (refine zP ?_ ?_ ?_;omega;omega) | refine zM rfl ?_ | (refine zQ ?_ ?_ ?_;omega;omega) | (refine zR ?_ ?_;omega) | (refine zI ?_ ?_;exact nA) | (refine zS ?_ ?_ ?_;omega;omega) | (refine zT ?_ ?_ ?_;omega;omega) | (refine zU ?_ ?_ ?_;omega;omega) | (refine zV ?_ ?_ ?_;omega;omega) | refine PCall.pure (checkp_c p 1 (by omega) (by omega)) (WkT.refl _) ?_ | refine PCall.pure (binds_c p.body (by omega)) (WkT.refl _) ?_ | refine PCall.pure (cloneDat_c p.consts hl) (WkT.refl _) ?_ | (refine yA ?_ rfl ?_ ?_;assumption;exact lA) | (refine yB ?_ rfl ?_ ?_;assumption;exact lA) | (refine yC rfl ?_ ?_;exact lA) | (refine yD ?_ ?_ rfl ?_ ?_;assumption;assumption;exact lA) | (refine yE ?_ ?_ ?_ ?_;assumption;omega;omega) | (refine yF ?_ rfl ?_;omega) | (refine yG ?_ rfl rfl rfl ?_;omega) | refine n0 ?_ | refine zN rfl rfl rfl ?_ | refine zD ?_ | refine zE ?_ | refine zF ?_ | intro _ | refine zG ?_);conv=>whnf) | (refine zX (fun hc => ?_) (fun hc => ?_)<;>(try simp only [SY] at hc)<;>first | omega | (conv=>whnf)))
  · rename_i hc
    exact PRet.pure (Wk.tup (.cons (by rw [conv10, if_neg hc]; exact noP_wk) (.cons (by rw [conv10, if_neg hc]; exact Wk.refl _) .nil)))
  · rename_i b1 b2 r bc
    obtain ⟨hshp, hdep, hvr⟩ := (hR hc).fits
    have hrise := p.body.binds_rise (by omega)
    have hbl := bndL_len' p.body (by omega)
    have hcn : conv10 p = if checkP ⟨p.consts, p.body.cv (asgB p.body) (nextT p.body)⟩ 2 = 0 then (⟨p.consts, p.body.cv (asgB p.body) (nextT p.body)⟩, 0) else (noP, 5) := by rw [conv10, if_pos hc]; rfl
    have hcb : (p.body.cv (asgB p.body) (nextT p.body)).bulk ≤ 1000000000 := by have := p.body.cv_bulk (asgB p.body) (nextT p.body); omega
    rw [setM_nil]
    refine PCall.go (note_c bc r 0 p.body [] (by omega)) (WkT.refl _) ?_
    rintro _ _ ⟨rfl, L', hL', rfl⟩
    have hcv : p.body.cv L'.contains (nextT p.body) = p.body.cv (asgB p.body) (nextT p.body) := Trm.cv_congr _ _ fun v _ => by
      rw [Bool.eq_iff_iff]; simp [asgB, hL']
    have hn0 : 0 ≤ nextT p.body ∧ nextT p.body ≤ 1000001 := by
      unfold nextT
      split
      · omega
      · rename_i h0
        have hlt : (bndL p.body).length - 1 < (bndL p.body).length := by have := List.length_pos_iff.2 h0; omega
        have e : (bndL p.body).getD ((bndL p.body).length - 1) 0 = (bndL p.body)[(bndL p.body).length - 1] := by simp [List.getD, hlt]
        have := hvr _ ((bndL_mem _ _).1 (List.getElem_mem hlt))
        rw [e]
        omega
    obtain ⟨hn0, hn1⟩ := hn0
    have hbc := binds_c p.body (by omega)
    rw [hrise] at hbc
    have hcl := cloneDat_c p.consts hl
    conv => whnf
    repeat' (first | ((first | ((first | (apply zY;intro hg) | apply zZ);focus ((conv=>whnf);(repeat ((first | (refine zW ?_ ?_;exact gA) | refine zH rfl ?_ | refine zA ?_ | refine zI bA ?_ | refine zI rfl ?_ | refine zJ rfl rfl ?_ | refine zB ?_ | refine zK rfl ?_ | refine zL rfl ?_ | refine zC ?_ | (refine zO ?_ ?_ ?_;exact OA;exact OA) | (refine zP ?_ ?_ ?_;exact OA;exact OA) | refine zM rfl ?_ | (refine zQ ?_ ?_ ?_;exact OA;exact OA) | (refine zR ?_ ?_;exact OA) | (refine zI ?_ ?_;exact NA) | (refine zS ?_ ?_ ?_;exact OA;exact OA) | (refine zT ?_ ?_ ?_;exact OA;exact OA) | (refine zU ?_ ?_ ?_;exact OA;exact OA) | (refine zV ?_ ?_ ?_;exact OA;exact OA) | refine PCall.pure (hbc) (WkT.refl _) ?_ | (refine yE ?_ ?_ ?_ ?_;assumption;omega;omega) | (refine yF ?_ rfl ?_;omega) | intro _);conv=>whnf));first | exact PShift.same | exact PShift.lit | exact PShift.ep)) | ((first | (apply zY;intro hg) | apply zZ);exact stB) | (refine zW ?_ ?_;exact gA) | refine zH rfl ?_ | refine zA ?_ | refine zI bA ?_ | refine zI rfl ?_ | refine zJ rfl rfl ?_ | refine zB ?_ | refine zK rfl ?_ | refine zL rfl ?_ | refine zC ?_ | (refine zO ?_ ?_ ?_;omega;omega) | (refine zP ?_ ?_ ?_;omega;omega) | refine zM rfl ?_ | (refine zQ ?_ ?_ ?_;omega;omega) | (refine zR ?_ ?_;omega) | (refine zI ?_ ?_;exact nA) | (refine zS ?_ ?_ ?_;omega;omega) | (refine zT ?_ ?_ ?_;omega;omega) | (refine zU ?_ ?_ ?_;omega;omega) | (refine zV ?_ ?_ ?_;omega;omega) | refine PCall.pure (hbc) (WkT.refl _) ?_ | (refine yA ?_ rfl ?_ ?_;assumption;exact lA) | (refine yB ?_ rfl ?_ ?_;assumption;exact lA) | (refine yC rfl ?_ ?_;exact lA) | (refine yD ?_ ?_ rfl ?_ ?_;assumption;assumption;exact lA) | (refine yE ?_ ?_ ?_ ?_;assumption;omega;omega) | (refine yF ?_ rfl ?_;omega) | (refine yG ?_ rfl rfl rfl ?_;omega) | refine n0 ?_ | refine zN rfl rfl rfl ?_ | refine zD ?_ | refine zE ?_ | refine zF ?_ | intro _ | refine zG ?_);conv=>whnf) | (refine zX (fun hc => ?_) (fun hc => ?_)<;>(try simp only [SY] at hc)<;>first | omega | (conv=>whnf)))
    · have hlt : (bndL p.body).length - 1 < (bndL p.body).length := by omega
      have e : (bndL p.body).getD ((bndL p.body).length - 1) 0 = (bndL p.body)[(bndL p.body).length - 1] := by simp [List.getD, hlt]
      have h1 := hvr _ ((bndL_mem _ _).1 (List.getElem_mem hlt))
      have hn : nextT p.body = (bndL p.body)[(bndL p.body).length - 1] + 1 := by
        unfold nextT
        rw [if_neg (by intro h; rw [h] at hlt; simp at hlt), e]
      refine PInt.ok (by omega) (by omega) ?_
      rw [← hn]
      conv => whnf
      repeat' (first | ((first | ((first | (apply zY;intro hg) | apply zZ);focus ((conv=>whnf);(repeat ((first | (refine zW ?_ ?_;exact gA) | refine zH rfl ?_ | refine zA ?_ | refine zI bA ?_ | refine zI rfl ?_ | refine zJ rfl rfl ?_ | refine zB ?_ | refine zK rfl ?_ | refine zL rfl ?_ | refine zC ?_ | (refine zO ?_ ?_ ?_;exact OA;exact OA) | (refine zP ?_ ?_ ?_;exact OA;exact OA) | refine zM rfl ?_ | (refine zQ ?_ ?_ ?_;exact OA;exact OA) | (refine zR ?_ ?_;exact OA) | (refine zI ?_ ?_;exact NA) | (refine zS ?_ ?_ ?_;exact OA;exact OA) | (refine zT ?_ ?_ ?_;exact OA;exact OA) | (refine zU ?_ ?_ ?_;exact OA;exact OA) | (refine zV ?_ ?_ ?_;exact OA;exact OA) | refine PCall.pure (hcl) (WkT.refl _) ?_ | (refine yE ?_ ?_ ?_ ?_;assumption;omega;omega) | (refine yF ?_ rfl ?_;omega) | intro _);conv=>whnf));first | exact PShift.same | exact PShift.lit | exact PShift.ep)) | ((first | (apply zY;intro hg) | apply zZ);exact stB) | (refine zW ?_ ?_;exact gA) | refine zH rfl ?_ | refine zA ?_ | refine zI bA ?_ | refine zI rfl ?_ | refine zJ rfl rfl ?_ | refine zB ?_ | refine zK rfl ?_ | refine zL rfl ?_ | refine zC ?_ | (refine zO ?_ ?_ ?_;omega;omega) | (refine zP ?_ ?_ ?_;omega;omega) | refine zM rfl ?_ | (refine zQ ?_ ?_ ?_;omega;omega) | (refine zR ?_ ?_;omega) | (refine zI ?_ ?_;exact nA) | (refine zS ?_ ?_ ?_;omega;omega) | (refine zT ?_ ?_ ?_;omega;omega) | (refine zU ?_ ?_ ?_;omega;omega) | (refine zV ?_ ?_ ?_;omega;omega) | refine PCall.pure (hcl) (WkT.refl _) ?_ | (refine yA ?_ rfl ?_ ?_;assumption;exact lA) | (refine yB ?_ rfl ?_ ?_;assumption;exact lA) | (refine yC rfl ?_ ?_;exact lA) | (refine yD ?_ ?_ rfl ?_ ?_;assumption;assumption;exact lA) | (refine yE ?_ ?_ ?_ ?_;assumption;omega;omega) | (refine yF ?_ rfl ?_;omega) | (refine yG ?_ rfl rfl rfl ?_;omega) | refine n0 ?_ | refine zN rfl rfl rfl ?_ | refine zD ?_ | refine zE ?_ | refine zF ?_ | intro _ | refine zG ?_);conv=>whnf) | (refine zX (fun hc => ?_) (fun hc => ?_)<;>(try simp only [SY] at hc)<;>first | omega | (conv=>whnf)))
      refine PDraw.sF (some 34) rfl [.box bc [.mp r, .int .i64 (nextT p.body)], .mp r (.int .i64) (setM L') []] [6,7] [] [8] [9] tt_ok mixed ?_
      conv=>whnf
      repeat ((first | ((first | (apply zY;intro hg) | apply zZ);focus ((conv=>whnf);(repeat ((first | (refine zW ?_ ?_;exact gA) | refine zH rfl ?_ | refine zA ?_ | refine zI bA ?_ | refine zI rfl ?_ | refine zJ rfl rfl ?_ | refine zB ?_ | refine zK rfl ?_ | refine zL rfl ?_ | refine zC ?_ | (refine zO ?_ ?_ ?_;exact OA;exact OA) | (refine zP ?_ ?_ ?_;exact OA;exact OA) | refine zM rfl ?_ | (refine zQ ?_ ?_ ?_;exact OA;exact OA) | (refine zR ?_ ?_;exact OA) | (refine zI ?_ ?_;exact NA) | (refine zS ?_ ?_ ?_;exact OA;exact OA) | (refine zT ?_ ?_ ?_;exact OA;exact OA) | (refine zU ?_ ?_ ?_;exact OA;exact OA) | (refine zV ?_ ?_ ?_;exact OA;exact OA) | refine PCall.pure (hcl) (WkT.refl _) ?_ | (refine yE ?_ ?_ ?_ ?_;assumption;omega;omega) | (refine yF ?_ rfl ?_;omega) | intro _);conv=>whnf));first | exact PShift.same | exact PShift.lit | exact PShift.ep)) | ((first | (apply zY;intro hg) | apply zZ);exact stB) | (refine zW ?_ ?_;exact gA) | refine zH rfl ?_ | refine zA ?_ | refine zI bA ?_ | refine zI rfl ?_ | refine zJ rfl rfl ?_ | refine zB ?_ | refine zK rfl ?_ | refine zL rfl ?_ | refine zC ?_ | (refine zO ?_ ?_ ?_;omega;omega) | (refine zP ?_ ?_ ?_;omega;omega) | refine zM rfl ?_ | (refine zQ ?_ ?_ ?_;omega;omega) | (refine zR ?_ ?_;omega) | (refine zI ?_ ?_;exact nA) | (refine zS ?_ ?_ ?_;omega;omega) | (refine zT ?_ ?_ ?_;omega;omega) | (refine zU ?_ ?_ ?_;omega;omega) | (refine zV ?_ ?_ ?_;omega;omega) | refine PCall.pure (hcl) (WkT.refl _) ?_ | (refine yA ?_ rfl ?_ ?_;assumption;exact lA) | (refine yB ?_ rfl ?_ ?_;assumption;exact lA) | (refine yC rfl ?_ ?_;exact lA) | (refine yD ?_ ?_ rfl ?_ ?_;assumption;assumption;exact lA) | (refine yE ?_ ?_ ?_ ?_;assumption;omega;omega) | (refine yF ?_ rfl ?_;omega) | (refine yG ?_ rfl rfl rfl ?_;omega) | refine n0 ?_ | refine zN rfl rfl rfl ?_ | refine zD ?_ | refine zE ?_ | refine zF ?_ | intro _);conv=>whnf)
      refine PCall.go (cvOk bc r L' p.body hshp (by omega) (nextT p.body) hn0 (by omega)) (WkT.refl _) ?_
      rintro _ _ ⟨rfl, rfl⟩
      rw [hcv]
      have hck := checkp_c ⟨p.consts, p.body.cv (asgB p.body) (nextT p.body)⟩ 2 hcb hl
      conv => whnf
      repeat' (first | ((first | ((first | (apply zY;intro hg) | apply zZ);focus ((conv=>whnf);(repeat ((first | (refine zW ?_ ?_;exact gA) | refine zH rfl ?_ | refine zA ?_ | refine zI bA ?_ | refine zI rfl ?_ | refine zJ rfl rfl ?_ | refine zB ?_ | refine zK rfl ?_ | refine zL rfl ?_ | refine zC ?_ | (refine zO ?_ ?_ ?_;exact OA;exact OA) | (refine zP ?_ ?_ ?_;exact OA;exact OA) | refine zM rfl ?_ | (refine zQ ?_ ?_ ?_;exact OA;exact OA) | (refine zR ?_ ?_;exact OA) | (refine zI ?_ ?_;exact NA) | (refine zS ?_ ?_ ?_;exact OA;exact OA) | (refine zT ?_ ?_ ?_;exact OA;exact OA) | (refine zU ?_ ?_ ?_;exact OA;exact OA) | (refine zV ?_ ?_ ?_;exact OA;exact OA) | refine PCall.pure (hck) (WkT.refl _) ?_ | (refine yE ?_ ?_ ?_ ?_;assumption;omega;omega) | (refine yF ?_ rfl ?_;omega) | intro _);conv=>whnf));first | exact PShift.same | exact PShift.lit | exact PShift.ep)) | ((first | (apply zY;intro hg) | apply zZ);exact stB) | (refine zW ?_ ?_;exact gA) | refine zH rfl ?_ | refine zA ?_ | refine zI bA ?_ | refine zI rfl ?_ | refine zJ rfl rfl ?_ | refine zB ?_ | refine zK rfl ?_ | refine zL rfl ?_ | refine zC ?_ | (refine zO ?_ ?_ ?_;omega;omega) | (refine zP ?_ ?_ ?_;omega;omega) | refine zM rfl ?_ | (refine zQ ?_ ?_ ?_;omega;omega) | (refine zR ?_ ?_;omega) | (refine zI ?_ ?_;exact nA) | (refine zS ?_ ?_ ?_;omega;omega) | (refine zT ?_ ?_ ?_;omega;omega) | (refine zU ?_ ?_ ?_;omega;omega) | (refine zV ?_ ?_ ?_;omega;omega) | refine PCall.pure (hck) (WkT.refl _) ?_ | (refine yA ?_ rfl ?_ ?_;assumption;exact lA) | (refine yB ?_ rfl ?_ ?_;assumption;exact lA) | (refine yC rfl ?_ ?_;exact lA) | (refine yD ?_ ?_ rfl ?_ ?_;assumption;assumption;exact lA) | (refine yE ?_ ?_ ?_ ?_;assumption;omega;omega) | (refine yF ?_ rfl ?_;omega) | (refine yG ?_ rfl rfl rfl ?_;omega) | refine n0 ?_ | refine zN rfl rfl rfl ?_ | refine zD ?_ | refine zE ?_ | refine zF ?_ | intro _ | refine zG ?_);conv=>whnf) | (refine zX (fun hc => ?_) (fun hc => ?_)<;>(try simp only [SY] at hc)<;>first | omega | (conv=>whnf)))
      · exact PRet.pure (Wk.tup (.cons (by rw [hcn, if_neg hc]; exact noP_wk) (.cons (by rw [hcn, if_neg hc]; exact Wk.refl _) .nil)))
      · exact PRet.pure (Wk.tup (.cons (by rw [hcn, if_pos hc]; exact Wk.refl _) (.cons (by rw [hcn, if_pos hc]; exact Wk.refl _) .nil)))
    · have hn : nextT p.body = 0 := by
        unfold nextT
        rw [if_pos (List.eq_nil_of_length_eq_zero (by omega))]
      rw [show PV.int .i64 0 = PV.int .i64 (nextT p.body) by rw [hn]]
      refine PDraw.sF (some 34) rfl [.box bc [.mp r, .int .i64 (nextT p.body)], .mp r (.int .i64) (setM L') []] [6,7] [] [8] [9] tt_ok mixed ?_
      conv=>whnf
      repeat ((first | ((first | (apply zY;intro hg) | apply zZ);focus ((conv=>whnf);(repeat ((first | (refine zW ?_ ?_;exact gA) | refine zH rfl ?_ | refine zA ?_ | refine zI bA ?_ | refine zI rfl ?_ | refine zJ rfl rfl ?_ | refine zB ?_ | refine zK rfl ?_ | refine zL rfl ?_ | refine zC ?_ | (refine zO ?_ ?_ ?_;exact OA;exact OA) | (refine zP ?_ ?_ ?_;exact OA;exact OA) | refine zM rfl ?_ | (refine zQ ?_ ?_ ?_;exact OA;exact OA) | (refine zR ?_ ?_;exact OA) | (refine zI ?_ ?_;exact NA) | (refine zS ?_ ?_ ?_;exact OA;exact OA) | (refine zT ?_ ?_ ?_;exact OA;exact OA) | (refine zU ?_ ?_ ?_;exact OA;exact OA) | (refine zV ?_ ?_ ?_;exact OA;exact OA) | refine PCall.pure (hcl) (WkT.refl _) ?_ | (refine yE ?_ ?_ ?_ ?_;assumption;omega;omega) | (refine yF ?_ rfl ?_;omega) | intro _);conv=>whnf));first | exact PShift.same | exact PShift.lit | exact PShift.ep)) | ((first | (apply zY;intro hg) | apply zZ);exact stB) | (refine zW ?_ ?_;exact gA) | refine zH rfl ?_ | refine zA ?_ | refine zI bA ?_ | refine zI rfl ?_ | refine zJ rfl rfl ?_ | refine zB ?_ | refine zK rfl ?_ | refine zL rfl ?_ | refine zC ?_ | (refine zO ?_ ?_ ?_;omega;omega) | (refine zP ?_ ?_ ?_;omega;omega) | refine zM rfl ?_ | (refine zQ ?_ ?_ ?_;omega;omega) | (refine zR ?_ ?_;omega) | (refine zI ?_ ?_;exact nA) | (refine zS ?_ ?_ ?_;omega;omega) | (refine zT ?_ ?_ ?_;omega;omega) | (refine zU ?_ ?_ ?_;omega;omega) | (refine zV ?_ ?_ ?_;omega;omega) | refine PCall.pure (hcl) (WkT.refl _) ?_ | (refine yA ?_ rfl ?_ ?_;assumption;exact lA) | (refine yB ?_ rfl ?_ ?_;assumption;exact lA) | (refine yC rfl ?_ ?_;exact lA) | (refine yD ?_ ?_ rfl ?_ ?_;assumption;assumption;exact lA) | (refine yE ?_ ?_ ?_ ?_;assumption;omega;omega) | (refine yF ?_ rfl ?_;omega) | (refine yG ?_ rfl rfl rfl ?_;omega) | refine n0 ?_ | refine zN rfl rfl rfl ?_ | refine zD ?_ | refine zE ?_ | refine zF ?_ | intro _);conv=>whnf)
      refine PCall.go (cvOk bc r L' p.body hshp (by omega) (nextT p.body) hn0 (by omega)) (WkT.refl _) ?_
      rintro _ _ ⟨rfl, rfl⟩
      rw [hcv]
      have hck := checkp_c ⟨p.consts, p.body.cv (asgB p.body) (nextT p.body)⟩ 2 hcb hl
      conv => whnf
      repeat' (first | ((first | ((first | (apply zY;intro hg) | apply zZ);focus ((conv=>whnf);(repeat ((first | (refine zW ?_ ?_;exact gA) | refine zH rfl ?_ | refine zA ?_ | refine zI bA ?_ | refine zI rfl ?_ | refine zJ rfl rfl ?_ | refine zB ?_ | refine zK rfl ?_ | refine zL rfl ?_ | refine zC ?_ | (refine zO ?_ ?_ ?_;exact OA;exact OA) | (refine zP ?_ ?_ ?_;exact OA;exact OA) | refine zM rfl ?_ | (refine zQ ?_ ?_ ?_;exact OA;exact OA) | (refine zR ?_ ?_;exact OA) | (refine zI ?_ ?_;exact NA) | (refine zS ?_ ?_ ?_;exact OA;exact OA) | (refine zT ?_ ?_ ?_;exact OA;exact OA) | (refine zU ?_ ?_ ?_;exact OA;exact OA) | (refine zV ?_ ?_ ?_;exact OA;exact OA) | refine PCall.pure (hck) (WkT.refl _) ?_ | (refine yE ?_ ?_ ?_ ?_;assumption;omega;omega) | (refine yF ?_ rfl ?_;omega) | intro _);conv=>whnf));first | exact PShift.same | exact PShift.lit | exact PShift.ep)) | ((first | (apply zY;intro hg) | apply zZ);exact stB) | (refine zW ?_ ?_;exact gA) | refine zH rfl ?_ | refine zA ?_ | refine zI bA ?_ | refine zI rfl ?_ | refine zJ rfl rfl ?_ | refine zB ?_ | refine zK rfl ?_ | refine zL rfl ?_ | refine zC ?_ | (refine zO ?_ ?_ ?_;omega;omega) | (refine zP ?_ ?_ ?_;omega;omega) | refine zM rfl ?_ | (refine zQ ?_ ?_ ?_;omega;omega) | (refine zR ?_ ?_;omega) | (refine zI ?_ ?_;exact nA) | (refine zS ?_ ?_ ?_;omega;omega) | (refine zT ?_ ?_ ?_;omega;omega) | (refine zU ?_ ?_ ?_;omega;omega) | (refine zV ?_ ?_ ?_;omega;omega) | refine PCall.pure (hck) (WkT.refl _) ?_ | (refine yA ?_ rfl ?_ ?_;assumption;exact lA) | (refine yB ?_ rfl ?_ ?_;assumption;exact lA) | (refine yC rfl ?_ ?_;exact lA) | (refine yD ?_ ?_ rfl ?_ ?_;assumption;assumption;exact lA) | (refine yE ?_ ?_ ?_ ?_;assumption;omega;omega) | (refine yF ?_ rfl ?_;omega) | (refine yG ?_ rfl rfl rfl ?_;omega) | refine n0 ?_ | refine zN rfl rfl rfl ?_ | refine zD ?_ | refine zE ?_ | refine zF ?_ | intro _ | refine zG ?_);conv=>whnf) | (refine zX (fun hc => ?_) (fun hc => ?_)<;>(try simp only [SY] at hc)<;>first | omega | (conv=>whnf)))
      · exact PRet.pure (Wk.tup (.cons (by rw [hcn, if_neg hc]; exact noP_wk) (.cons (by rw [hcn, if_neg hc]; exact Wk.refl _) .nil)))
      · exact PRet.pure (Wk.tup (.cons (by rw [hcn, if_pos hc]; exact Wk.refl _) (.cons (by rw [hcn, if_pos hc]; exact Wk.refl _) .nil)))
end Go.Cb
namespace Go.Cb
open Go.Proofs
set_option maxRecDepth 100000
set_option maxHeartbeats 4000000
def tenP : Prog := ⟨[.mk 0 1 1 [] []], .mk 4 0 [0] [.mk 2 0 [] [.mk 0 0 [] []]]⟩
def tenQ : Prog := ⟨[.mk 0 1 1 [] []], .mk 4 0 [1] [.mk 8 0 [0] [.mk 15 0 [] [.mk 1 1 [] []], .mk 17 0 [] [.mk 1 0 [] [], .mk 0 0 [] []]]]⟩
theorem ten_next : nextT tenP.body = 1 := by
  unfold nextT
  rw [← Trm.bD_rise _ (by decide)]
  rfl
theorem ten_cv : cvP tenP = tenQ := by
  unfold cvP
  rw [ten_next]
  rfl
theorem ten_conv : conv10 tenP = (tenQ, 0) := by
  rw [conv10, if_pos (by decide), ten_cv, if_pos (by decide)]
theorem conv10_ok {p : Prog} (h : (conv10 p).2 = 0) : RightP p 1 ∧ RightP (cvP p) 2 ∧ conv10 p = (cvP p, 0) := by
  unfold conv10 at h ⊢
  split at h
  · rename_i h1
    split at h
    · rename_i h2
      rw [if_pos h1, if_pos h2]
      exact ⟨(checkD_right p 1).1 (by rw [← check_eq]; exact h1), (checkD_right (cvP p) 2).1 (by rw [← check_eq]; exact h2), rfl⟩
    · cases h
  · cases h
theorem ten_c (t1 t2 t3 t4 : Tok) : ACallP Tryz.prog 26 [.agg [.sl 5 [.agg [.int .i64 0, .int .i64 1, .int .i64 1, .str [], .nil]] (some t1), .int .i64 4, .int .i64 0, .sl 1 [.int .i64 0] (some t2), .sl 4 [.agg [.int .i64 2, .int .i64 0, .nil, .sl 4 [.agg [.int .i64 0, .int .i64 0, .nil, .nil]] (some t3)]] (some t4)]] (.tup [.agg tenQ.cells, .int .i64 0]) := by
  have h := conv_c tenP (by decide) (by decide)
  rw [ten_conv] at h
  refine ACall.wk h (.cons (Wk.agg (.cons (Wk.rowTok ?_) (.cons (Wk.refl _) (.cons (Wk.refl _) (.cons (Wk.tok _ _ _) (.cons (Wk.rowTok ?_) .nil)))))) .nil)
  · exact .cons (.cons (Wk.refl _) (.cons (Wk.refl _) (.cons (Wk.refl _) (.cons (Wk.refl _) (.cons (Wk.nil' rfl) .nil))))) .nil
  · refine .cons (.cons (Wk.refl _) (.cons (Wk.refl _) (.cons (Wk.nil' rfl) (.cons (Wk.rowTok ?_) .nil)))) .nil
    exact .cons (.cons (Wk.refl _) (.cons (Wk.refl _) (.cons (Wk.nil' rfl) (.cons (Wk.nil' rfl) .nil)))) .nil
theorem awake10_c : ACallP Tryz.prog 24 [] (.bool true) := by
  refine ACall.of_body tt_ok Tryz.func24 rfl rfl (n := 57) rfl rfl ?_
  conv => whnf
  repeat ((first | ((first | (apply zY;intro hg) | apply zZ);focus ((conv=>whnf);(repeat ((first | (refine zW ?_ ?_;exact gA) | refine zH rfl ?_ | refine zA ?_ | refine zI bA ?_ | refine zI rfl ?_ | refine zJ rfl rfl ?_ | refine zB ?_ | refine zK rfl ?_ | refine zL rfl ?_ | refine zC ?_ | (refine zO ?_ ?_ ?_;exact OA;exact OA) | (refine zP ?_ ?_ ?_;exact OA;exact OA) | refine zM rfl ?_ | (refine zQ ?_ ?_ ?_;exact OA;exact OA) | (refine zR ?_ ?_;exact OA) | (refine zI ?_ ?_;exact NA) | (refine zS ?_ ?_ ?_;exact OA;exact OA) | (refine zT ?_ ?_ ?_;exact OA;exact OA) | (refine zU ?_ ?_ ?_;exact OA;exact OA) | (refine zV ?_ ?_ ?_;exact OA;exact OA) | refine PCall.pure (ten_c _ _ _ _) (WkT.refl _) ?_ | intro _);conv=>whnf));first | exact PShift.same | exact PShift.lit | exact PShift.ep)) | ((first | (apply zY;intro hg) | apply zZ);exact stB) | (refine zW ?_ ?_;exact gA) | refine zH rfl ?_ | refine zA ?_ | refine zI bA ?_ | refine zI rfl ?_ | refine zJ rfl rfl ?_ | refine zB ?_ | refine zK rfl ?_ | refine zL rfl ?_ | refine zC ?_ | (refine zO ?_ ?_ ?_;omega;omega) | (refine zP ?_ ?_ ?_;omega;omega) | refine zM rfl ?_ | (refine zQ ?_ ?_ ?_;omega;omega) | (refine zR ?_ ?_;omega) | (refine zI ?_ ?_;exact nA) | (refine zS ?_ ?_ ?_;omega;omega) | (refine zT ?_ ?_ ?_;omega;omega) | (refine zU ?_ ?_ ?_;omega;omega) | (refine zV ?_ ?_ ?_;omega;omega) | refine PCall.pure (ten_c _ _ _ _) (WkT.refl _) ?_ | (refine yA ?_ rfl ?_ ?_;assumption;exact lA) | (refine yB ?_ rfl ?_ ?_;assumption;exact lA) | (refine yC rfl ?_ ?_;exact lA) | refine n0 ?_ | refine zN rfl rfl rfl ?_ | refine zD ?_ | refine zE ?_ | refine zF ?_ | intro _);conv=>whnf)
  conv => whnf
  repeat' (first | ((first | ((first | (apply zY;intro hg) | apply zZ);focus ((conv=>whnf);(repeat ((first | (refine zW ?_ ?_;exact gA) | refine zH rfl ?_ | refine zA ?_ | refine zI bA ?_ | refine zI rfl ?_ | refine zJ rfl rfl ?_ | refine zB ?_ | refine zK rfl ?_ | refine zL rfl ?_ | refine zC ?_ | (refine zO ?_ ?_ ?_;exact OA;exact OA) | (refine zP ?_ ?_ ?_;exact OA;exact OA) | refine zM rfl ?_ | (refine zQ ?_ ?_ ?_;exact OA;exact OA) | (refine zR ?_ ?_;exact OA) | (refine zI ?_ ?_;exact NA) | (refine zS ?_ ?_ ?_;exact OA;exact OA) | (refine zT ?_ ?_ ?_;exact OA;exact OA) | (refine zU ?_ ?_ ?_;exact OA;exact OA) | (refine zV ?_ ?_ ?_;exact OA;exact OA) | refine PCall.pure (ten_c _ _ _ _) (WkT.refl _) ?_ | intro _);conv=>whnf));first | exact PShift.same | exact PShift.lit | exact PShift.ep)) | ((first | (apply zY;intro hg) | apply zZ);exact stB) | (refine zW ?_ ?_;exact gA) | refine zH rfl ?_ | refine zA ?_ | refine zI bA ?_ | refine zI rfl ?_ | refine zJ rfl rfl ?_ | refine zB ?_ | refine zK rfl ?_ | refine zL rfl ?_ | refine zC ?_ | (refine zO ?_ ?_ ?_;omega;omega) | (refine zP ?_ ?_ ?_;omega;omega) | refine zM rfl ?_ | (refine zQ ?_ ?_ ?_;omega;omega) | (refine zR ?_ ?_;omega) | (refine zI ?_ ?_;exact nA) | (refine zS ?_ ?_ ?_;omega;omega) | (refine zT ?_ ?_ ?_;omega;omega) | (refine zU ?_ ?_ ?_;omega;omega) | (refine zV ?_ ?_ ?_;omega;omega) | refine PCall.pure (ten_c _ _ _ _) (WkT.refl _) ?_ | (refine yA ?_ rfl ?_ ?_;assumption;exact lA) | (refine yB ?_ rfl ?_ ?_;assumption;exact lA) | (refine yC rfl ?_ ?_;exact lA) | refine n0 ?_ | refine zN rfl rfl rfl ?_ | refine zD ?_ | refine zE ?_ | refine zF ?_ | intro _ | refine zG ?_);conv=>whnf) | (refine zX (fun hc => ?_) (fun hc => ?_)<;>(try simp only [SY] at hc)<;>first | omega | (conv=>whnf)))
  exact PRet.pure (Wk.bool rfl)
end Go.Cb
namespace Go.Cb
open Go.Proofs
set_option maxRecDepth 100000
set_option maxHeartbeats 4000000
theorem wrap_id {v : Int} (h0 : 0 ≤ v) (h1 : v ≤ 1000000000) : IntKind.i64.wrap v = v := by simp [IntKind.wrap, IntKind.bits, IntKind.signed]; omega
theorem Trm.shw_sh (k : Int) (h0 : 0 ≤ k) (h1 : k ≤ 1000000) (t : Trm) : (∀ v, v ∈ t.nam ∨ v ∈ t.asg → 0 ≤ v ∧ v ≤ 1000000) → t.shw k = t.sh k := by
  induction t using Trm.ind with
  | h t ih =>
    intro hv
    obtain ⟨op, n, v, l⟩ := t
    rw [Trm.shw, Trm.sh, Trm.shws_eq, Trm.shs_eq]
    rw [Trm.nam, Trm.asg] at hv
    have hn : ∀ y ∈ l, ∀ w, w ∈ y.nam → w ∈ Trm.nams l := by
      intro y hy w hw
      have key : ∀ m : List Trm, y ∈ m → w ∈ Trm.nams m := by
        intro m
        induction m with
        | nil => intro h; cases h
        | cons z m ihm => intro h; rw [Trm.nams, List.mem_append]; rcases List.mem_cons.1 h with rfl | h
                          · exact .inl hw
                          · exact .inr (ihm h)
      exact key l hy
    have ha : ∀ y ∈ l, ∀ w, w ∈ y.asg → w ∈ Trm.asgs l := by
      intro y hy w hw
      rw [Trm.asgs_flat, List.mem_flatMap]
      exact ⟨y, hy, hw⟩
    have e1 : (if namesB op = true then IntKind.i64.wrap (n + k) else n) = if namesB op = true then n + k else n := by
      split
      · rename_i hb
        have : n ∈ (if op = 1 then [n] else []) ++ v ++ Trm.nams l ∨ n ∈ (if op = 2 ∨ op = 14 then [n] else []) ++ Trm.asgs l := by
          simp [namesB] at hb
          rcases hb with (h | h) | h
          · left; simp [h]
          · right; simp [h]
          · right; simp [h]
        have := hv n this
        exact wrap_id (by omega) (by omega)
      · rfl
    have e2 : (v.map fun x => IntKind.i64.wrap (x + k)) = v.map (· + k) := List.map_congr_left fun x hx => by
      have := hv x (.inl (by simp [hx]))
      exact wrap_id (by omega) (by omega)
    have e3 : l.map (Trm.shw k) = l.map (Trm.sh k) := List.map_congr_left fun y hy => ih y hy fun w hw => hv w (by
      rcases hw with hw | hw
      · exact .inl (by simp [hn y hy w hw])
      · exact .inr (by simp [ha y hy w hw]))
    rw [e1, e2, e3]
theorem RightP.names {p : Prog} {level : Int} (h : RightP p level) : ∀ v, v ∈ p.body.nam ∨ v ∈ p.body.asg → v ∈ p.body.vars := fun v hv => by
  rcases p.body.okT_nam h.2.2.1 v hv with h2 | h2
  · cases h2
  · exact h2
theorem RightP.shw {p : Prog} {level k : Int} (h : RightP p level) (h0 : 0 ≤ k) (h1 : k ≤ 1000000) : p.body.shw k = p.body.sh k :=
  p.body.shw_sh k h0 h1 fun v hv => h.fits.2.2 v (h.names v hv)
theorem Trm.sh_asg (k : Int) (t : Trm) : (t.sh k).asg = t.asg.map (· + k) := by
  induction t using Trm.ind with
  | h t ih =>
    have key : ∀ l : List Trm, (∀ x ∈ l, (x.sh k).asg = x.asg.map (· + k)) → Trm.asgs (l.map (Trm.sh k)) = (Trm.asgs l).map (· + k) := by
      intro l
      induction l with
      | nil => intro _; rfl
      | cons y l ihl => intro h; rw [List.map_cons, Trm.asgs, Trm.asgs, h y (by simp), ihl fun x hx => h x (by simp [hx]), List.map_append]
    rw [Trm.asg_eq, Trm.asg_eq, Trm.sh_op, Trm.sh_n, Trm.sh_t, key t.t ih, List.map_append]
    congr 1
    split
    · rename_i h
      rw [if_pos (by unfold namesB; rcases h with h | h <;> simp [h])]; rfl
    · rfl
theorem mem_add {l : List Int} {v k : Int} : (v + k ∈ l.map (· + k)) ↔ v ∈ l := by
  rw [List.mem_map]
  exact ⟨fun ⟨x, hx, e⟩ => by have : x = v := by omega
                              rw [← this]; exact hx, fun h => ⟨v, h, rfl⟩⟩
theorem Binds_any (t : Trm) (hb : t.bulk ≤ 1000000000) : ACallP Tryz.prog 31 [.agg t.cells] (slI (t.bD 0 [])) := by
  have h := binds_d t 0 [] (by omega) (by omega) List.Pairwise.nil (by simpa using hb)
  have h2 : ACallP Tryz.prog 63 [.agg t.cells, .int .i64 0, .nil] (slI (t.bD 0 [])) := ACall.wk h (.cons (Wk.refl _) (.cons (Wk.refl _) (.cons slI_nil .nil)))
  refine ACall.of_body tt_ok Tryz.func31 rfl rfl (n := 5) rfl rfl ?_
  conv => whnf
  repeat ((first | ((first | (apply zY;intro hg) | apply zZ);focus ((conv=>whnf);(repeat ((first | (refine zW ?_ ?_;exact gA) | refine zH rfl ?_ | refine zA ?_ | refine zI bA ?_ | refine zI rfl ?_ | refine zJ rfl rfl ?_ | refine zB ?_ | refine zK rfl ?_ | refine zL rfl ?_ | refine zC ?_ | (refine zO ?_ ?_ ?_;exact OA;exact OA) | (refine zP ?_ ?_ ?_;exact OA;exact OA) | refine zM rfl ?_ | (refine zQ ?_ ?_ ?_;exact OA;exact OA) | (refine zR ?_ ?_;exact OA) | (refine zI ?_ ?_;exact NA) | (refine zS ?_ ?_ ?_;exact OA;exact OA) | (refine zT ?_ ?_ ?_;exact OA;exact OA) | (refine zU ?_ ?_ ?_;exact OA;exact OA) | (refine zV ?_ ?_ ?_;exact OA;exact OA) | refine PCall.pure (h2) (WkT.refl _) ?_ | intro _);conv=>whnf));first | exact PShift.same | exact PShift.lit | exact PShift.ep)) | ((first | (apply zY;intro hg) | apply zZ);exact stB) | (refine zW ?_ ?_;exact gA) | refine zH rfl ?_ | refine zA ?_ | refine zI bA ?_ | refine zI rfl ?_ | refine zJ rfl rfl ?_ | refine zB ?_ | refine zK rfl ?_ | refine zL rfl ?_ | refine zC ?_ | (refine zO ?_ ?_ ?_;omega;omega) | (refine zP ?_ ?_ ?_;omega;omega) | refine zM rfl ?_ | (refine zQ ?_ ?_ ?_;omega;omega) | (refine zR ?_ ?_;omega) | (refine zI ?_ ?_;exact nA) | (refine zS ?_ ?_ ?_;omega;omega) | (refine zT ?_ ?_ ?_;omega;omega) | (refine zU ?_ ?_ ?_;omega;omega) | (refine zV ?_ ?_ ?_;omega;omega) | refine PCall.pure (h2) (WkT.refl _) ?_ | (refine yA ?_ rfl ?_ ?_;assumption;exact lA) | (refine yB ?_ rfl ?_ ?_;assumption;exact lA) | (refine yC rfl ?_ ?_;exact lA) | refine n0 ?_ | refine zN rfl rfl rfl ?_ | refine zD ?_ | refine zE ?_ | refine zF ?_ | intro _);conv=>whnf)
  exact PRet.pure (Wk.refl _)
theorem conv10_bulk (p : Prog) (h : p.body.bulk ≤ 100000000) : (conv10 p).1.body.bulk ≤ 1000000000 := by
  unfold conv10
  split
  · split
    · have := p.body.cv_bulk (asgB p.body) (nextT p.body); show (p.body.cv (asgB p.body) (nextT p.body)).bulk ≤ _; omega
    · decide
  · decide
end Go.Cb
namespace Go.Cb
open Go.Proofs
set_option maxRecDepth 100000
set_option maxHeartbeats 4000000
def bothP (p : Prog) : Prog := ⟨p.consts, .mk 5 0 [] [.mk 11 17 [] [], p.body, p.body.shw 20000]⟩
theorem Trm.sh_nam (k : Int) (t : Trm) : (t.sh k).nam = t.nam.map (· + k) := by
  induction t using Trm.ind with
  | h t ih =>
    have key : ∀ l : List Trm, (∀ x ∈ l, (x.sh k).nam = x.nam.map (· + k)) → Trm.nams (l.map (Trm.sh k)) = (Trm.nams l).map (· + k) := by
      intro l
      induction l with
      | nil => intro _; rfl
      | cons y l ihl => intro h; rw [List.map_cons, Trm.nams, Trm.nams, h y (by simp), ihl fun x hx => h x (by simp [hx]), List.map_append]
    rw [Trm.nam_eq, Trm.nam_eq, Trm.sh_op, Trm.sh_n, Trm.sh_v, Trm.sh_t, key t.t ih, List.map_append, List.map_append]
    congr 2
    split
    · rename_i h
      rw [if_pos (by simp [namesB, h])]; rfl
    · rfl
theorem both_asg {p : Prog} (h : RightP p 1) (v : Int) : asgB (bothP p).body v = true ↔ v ∈ p.body.asg ∨ v - 20000 ∈ p.body.asg := by
  have e : (bothP p).body.asg = p.body.asg ++ p.body.asg.map (· + 20000) := by
    show Trm.asg (.mk 5 0 [] [.mk 11 17 [] [], p.body, p.body.shw 20000]) = _
    rw [h.shw (by omega) (by omega)]
    simp [Trm.asg, Trm.asgs, Trm.sh_asg]
  have e2 : v ∈ p.body.asg.map (· + 20000) ↔ v - 20000 ∈ p.body.asg := by
    have := @mem_add p.body.asg (v - 20000) 20000
    rwa [show v - 20000 + 20000 = v by omega] at this
  unfold asgB
  rw [e, List.contains_iff_mem, List.mem_append, e2]
theorem both_fst {p : Prog} (h : RightP p 1) (hm : ∀ x ∈ p.body.vars, x ≤ 10000) (k : Int) : (p.body.cv (asgB (bothP p).body) k).cnt = (cvP p).body.cnt := by
  have e : p.body.cv (asgB (bothP p).body) k = p.body.cv (asgB p.body) k := Trm.cv_congr _ _ fun v hv => by
    have hv2 := hm v (h.names v (.inl hv))
    have hno : v - 20000 ∉ p.body.asg := fun hx => by
      have := h.fits.2.2 _ (h.names _ (.inr hx)); omega
    rw [Bool.eq_iff_iff, both_asg h]
    simp [asgB, hno]
  rw [e]
  exact p.body.cv_size _ _ _
theorem both_snd {p : Prog} (h : RightP p 1) (hm : ∀ x ∈ p.body.vars, x ≤ 10000) (k : Int) : ((p.body.shw 20000).cv (asgB (bothP p).body) k).cnt = (cvP p).body.cnt := by
  rw [h.shw (by omega) (by omega)]
  have e : (p.body.sh 20000).cv (asgB (bothP p).body) k = (p.body.sh 20000).cv (fun w => asgB p.body (w - 20000)) k := Trm.cv_congr _ _ fun v hv => by
    rw [Trm.sh_nam, List.mem_map] at hv
    obtain ⟨u, hu, rfl⟩ := hv
    have hu2 := h.fits.2.2 u (h.names u (.inl hu))
    have hno : u + 20000 ∉ p.body.asg := fun hx => by
      have := hm _ (h.names _ (.inr hx)); omega
    rw [Bool.eq_iff_iff, both_asg h]
    simp [asgB, hno]
  have e2 := Trm.cv_sh (A := asgB p.body) (B := fun w => asgB p.body (w - 20000)) (s := 20000) (fun v => by simp [show v + 20000 - 20000 = v by omega]) p.body (k - 20000) h.fits.1
  rw [show k - 20000 + 20000 = k by omega] at e2
  rw [e, e2, Trm.sh_cnt]
  exact p.body.cv_size _ _ _
theorem both_cv (p : Prog) (A : Int → Bool) (k : Int) : (bothP p).body.cv A k = .mk 5 0 [] (Trm.cvs A [.mk 11 17 [] [], p.body, p.body.shw 20000] k) := by
  have h5 : (bothP p).body.op = 5 := rfl
  rw [Trm.cv_eq, if_neg (by rw [h5]; omega), if_neg (by rw [h5]; omega), if_neg (by rw [h5]; omega), if_neg (by rw [h5]; omega), if_neg (by rw [h5]; omega), if_neg (by rw [h5]; omega)]
  rfl
theorem lastB {l : List Int} (hs : l.Pairwise (· < ·)) (h : l.length ≠ 0) {c : Int} (hc : l.getD (l.length - 1) 0 ≤ c) : ∀ x ∈ l, x ≤ c := fun x hx => by
  obtain ⟨i, hi, rfl⟩ := List.getElem_of_mem hx
  have hl : l.length - 1 < l.length := by omega
  have e : l.getD (l.length - 1) 0 = l[l.length - 1] := by simp [List.getD, hl]
  rw [e] at hc
  by_cases h1 : i = l.length - 1
  · subst h1; exact hc
  · have := List.pairwise_iff_getElem.1 hs i (l.length - 1) hi hl (by omega)
    omega
theorem Trm.dep_part {t x : Trm} (hx : x ∈ t.t) : x.dep < t.dep := by
  have := (Trm.deps_le t.dep t.t 0).1 (by rw [← Trm.dep_eq]; omega)
  have := this.2 x hx
  omega
theorem assignTwice_c (p : Prog) (hbb : Datum.bulks p.consts + p.body.bulk ≤ 1048576) : ACallP Tryz.prog 8 [.agg p.cells] (.bool true) := by
  have hlen := Datum.bulks_length p.consts
  have hbl : (p.body.bD 0 []).length ≤ 1048576 := by have := (p.body.bD_spec 0 [] List.Pairwise.nil).2.1; rw [List.length_nil] at this; omega
  have hbk := conv10_bulk p (by omega)
  have hwb := p.body.shw_bulk 20000
  have hbb2 : (bothP p).body.bulk ≤ 100000000 := by
    show Trm.bulk (.mk 5 0 [] [.mk 11 17 [] [], p.body, p.body.shw 20000]) ≤ _
    simp only [Trm.bulk, Trm.bulks, List.length_nil]
    omega
  have hcs := conv_c (bothP p) hbb2 (by show p.consts.length ≤ _; omega)
  have hbk2 := conv10_bulk (bothP p) hbb2
  refine ACall.of_body tt_ok Tryz.func8 rfl rfl (n := 104) rfl rfl ?_
  conv => whnf
  repeat ((first | ((first | (apply zY;intro hg) | apply zZ);focus ((conv=>whnf);(repeat ((first | (refine zW ?_ ?_;exact gA) | refine zH rfl ?_ | refine zA ?_ | refine zI bA ?_ | refine zI rfl ?_ | refine zJ rfl rfl ?_ | refine zB ?_ | refine zK rfl ?_ | refine zL rfl ?_ | refine zC ?_ | (refine zO ?_ ?_ ?_;exact OA;exact OA) | (refine zP ?_ ?_ ?_;exact OA;exact OA) | refine zM rfl ?_ | (refine zQ ?_ ?_ ?_;exact OA;exact OA) | (refine zR ?_ ?_;exact OA) | (refine zI ?_ ?_;exact NA) | (refine zS ?_ ?_ ?_;exact OA;exact OA) | (refine zT ?_ ?_ ?_;exact OA;exact OA) | (refine zU ?_ ?_ ?_;exact OA;exact OA) | (refine zV ?_ ?_ ?_;exact OA;exact OA) | refine PCall.pure (awake10_c) (WkT.refl _) ?_ | refine PCall.pure (FewTrm_c p.body 100 (by omega) (by omega)) (WkT.refl _) ?_ | refine PCall.pure (FewTrm_c p.body 100 (by omega) (by omega)) cA ?_ | refine PCall.pure (FewAll_c p.consts 2000 (by omega) (by omega)) (WkT.refl _) ?_ | refine PCall.pure (Binds_any p.body (by omega)) (WkT.refl _) ?_ | refine PCall.pure (conv_c p (by omega) (by omega)) (WkT.refl _) ?_ | refine PCall.pure (shiftw_c _ p.body (by omega)) (WkT.refl _) ?_ | refine PCall.pure (Size_d (conv10 p).1.body hbk) (WkT.refl _) ?_ | intro _);conv=>whnf));first | exact PShift.same | exact PShift.lit | exact PShift.ep)) | ((first | (apply zY;intro hg) | apply zZ);exact stB) | (refine zW ?_ ?_;exact gA) | refine zH rfl ?_ | refine zA ?_ | refine zI bA ?_ | refine zI rfl ?_ | refine zJ rfl rfl ?_ | refine zB ?_ | refine zK rfl ?_ | refine zL rfl ?_ | refine zC ?_ | (refine zO ?_ ?_ ?_;omega;omega) | (refine zP ?_ ?_ ?_;omega;omega) | refine zM rfl ?_ | (refine zQ ?_ ?_ ?_;omega;omega) | (refine zR ?_ ?_;omega) | (refine zI ?_ ?_;exact nA) | (refine zS ?_ ?_ ?_;omega;omega) | (refine zT ?_ ?_ ?_;omega;omega) | (refine zU ?_ ?_ ?_;omega;omega) | (refine zV ?_ ?_ ?_;omega;omega) | refine PCall.pure (awake10_c) (WkT.refl _) ?_ | refine PCall.pure (FewTrm_c p.body 100 (by omega) (by omega)) (WkT.refl _) ?_ | refine PCall.pure (FewTrm_c p.body 100 (by omega) (by omega)) cA ?_ | refine PCall.pure (FewAll_c p.consts 2000 (by omega) (by omega)) (WkT.refl _) ?_ | refine PCall.pure (Binds_any p.body (by omega)) (WkT.refl _) ?_ | refine PCall.pure (conv_c p (by omega) (by omega)) (WkT.refl _) ?_ | refine PCall.pure (shiftw_c _ p.body (by omega)) (WkT.refl _) ?_ | refine PCall.pure (Size_d (conv10 p).1.body hbk) (WkT.refl _) ?_ | (refine yA ?_ rfl ?_ ?_;assumption;exact lA) | (refine yB ?_ rfl ?_ ?_;assumption;exact lA) | (refine yC rfl ?_ ?_;exact lA) | refine n0 ?_ | refine zN rfl rfl rfl ?_ | refine zD ?_ | refine zE ?_ | refine zF ?_ | refine PDraw.sP (some 48) rfl [8] [9] tt_ok mixed ?_ | refine PDraw.sP (some 71) rfl [] [] tt_ok mixed ?_ | intro _);conv=>whnf)
  conv => whnf
  repeat' (first | ((first | ((first | (apply zY;intro hg) | apply zZ);focus ((conv=>whnf);(repeat ((first | (refine zW ?_ ?_;exact gA) | refine zH rfl ?_ | refine zA ?_ | refine zI bA ?_ | refine zI rfl ?_ | refine zJ rfl rfl ?_ | refine zB ?_ | refine zK rfl ?_ | refine zL rfl ?_ | refine zC ?_ | (refine zO ?_ ?_ ?_;exact OA;exact OA) | (refine zP ?_ ?_ ?_;exact OA;exact OA) | refine zM rfl ?_ | (refine zQ ?_ ?_ ?_;exact OA;exact OA) | (refine zR ?_ ?_;exact OA) | (refine zI ?_ ?_;exact NA) | (refine zS ?_ ?_ ?_;exact OA;exact OA) | (refine zT ?_ ?_ ?_;exact OA;exact OA) | (refine zU ?_ ?_ ?_;exact OA;exact OA) | (refine zV ?_ ?_ ?_;exact OA;exact OA) | refine PCall.pure (awake10_c) (WkT.refl _) ?_ | refine PCall.pure (FewTrm_c p.body 100 (by omega) (by omega)) (WkT.refl _) ?_ | refine PCall.pure (FewTrm_c p.body 100 (by omega) (by omega)) cA ?_ | refine PCall.pure (FewAll_c p.consts 2000 (by omega) (by omega)) (WkT.refl _) ?_ | refine PCall.pure (Binds_any p.body (by omega)) (WkT.refl _) ?_ | refine PCall.pure (conv_c p (by omega) (by omega)) (WkT.refl _) ?_ | refine PCall.pure (shiftw_c _ p.body (by omega)) (WkT.refl _) ?_ | refine PCall.pure (Size_d (conv10 p).1.body hbk) (WkT.refl _) ?_ | intro _);conv=>whnf));first | exact PShift.same | exact PShift.lit | exact PShift.ep)) | ((first | (apply zY;intro hg) | apply zZ);exact stB) | (refine zW ?_ ?_;exact gA) | refine zH rfl ?_ | refine zA ?_ | refine zI bA ?_ | refine zI rfl ?_ | refine zJ rfl rfl ?_ | refine zB ?_ | refine zK rfl ?_ | refine zL rfl ?_ | refine zC ?_ | (refine zO ?_ ?_ ?_;omega;omega) | (refine zP ?_ ?_ ?_;omega;omega) | refine zM rfl ?_ | (refine zQ ?_ ?_ ?_;omega;omega) | (refine zR ?_ ?_;omega) | (refine zI ?_ ?_;exact nA) | (refine zS ?_ ?_ ?_;omega;omega) | (refine zT ?_ ?_ ?_;omega;omega) | (refine zU ?_ ?_ ?_;omega;omega) | (refine zV ?_ ?_ ?_;omega;omega) | refine PCall.pure (awake10_c) (WkT.refl _) ?_ | refine PCall.pure (FewTrm_c p.body 100 (by omega) (by omega)) (WkT.refl _) ?_ | refine PCall.pure (FewTrm_c p.body 100 (by omega) (by omega)) cA ?_ | refine PCall.pure (FewAll_c p.consts 2000 (by omega) (by omega)) (WkT.refl _) ?_ | refine PCall.pure (Binds_any p.body (by omega)) (WkT.refl _) ?_ | refine PCall.pure (conv_c p (by omega) (by omega)) (WkT.refl _) ?_ | refine PCall.pure (shiftw_c _ p.body (by omega)) (WkT.refl _) ?_ | refine PCall.pure (Size_d (conv10 p).1.body hbk) (WkT.refl _) ?_ | (refine yA ?_ rfl ?_ ?_;assumption;exact lA) | (refine yB ?_ rfl ?_ ?_;assumption;exact lA) | (refine yC rfl ?_ ?_;exact lA) | refine n0 ?_ | refine zN rfl rfl rfl ?_ | refine zD ?_ | refine zE ?_ | refine zF ?_ | refine PDraw.sP (some 48) rfl [8] [9] tt_ok mixed ?_ | refine PDraw.sP (some 71) rfl [] [] tt_ok mixed ?_ | intro _ | refine zG ?_);conv=>whnf) | (refine zX (fun hc => ?_) (fun hc => ?_)<;>(try simp only [SY] at hc)<;>first | omega | (conv=>whnf)))
  · exact PRet.pure (Wk.refl _)
  · exact PRet.pure (Wk.refl _)
  rename_i _ hcc _ _
  have hcw : ACallP Tryz.prog 26 [.agg [.sl 5 (p.consts.map Datum.pv) none, .int .i64 5, .int .i64 0, .nil, .sl 4 [.agg [.int .i64 11, .int .i64 17, .nil, .nil], .agg p.body.cells, .agg (p.body.shw 20000).cells] none]] (.tup [.agg (conv10 (bothP p)).1.cells, .int .i64 (conv10 (bothP p)).2]) := by
    refine ACall.wk hcs (.cons (Wk.agg (.cons (Wk.refl _) (.cons (Wk.refl _) (.cons (Wk.refl _) (.cons (Wk.nil' rfl) (.cons (Wk.row ?_) .nil)))))) .nil)
    refine .cons ?_ (.cons ?_ (.cons ?_ .nil))
    · exact .cons (Wk.refl _) (.cons (Wk.refl _) (.cons (Wk.nil' rfl) (.cons (Wk.nil' rfl) .nil)))
    · rw [Trm.pv_eq]
      exact .refl _
    · rw [Trm.pv_eq]
      exact .refl _
  by_cases h10 : (conv10 (bothP p)).2 = 0
  · obtain ⟨g1, g2, g3⟩ := conv10_ok h10
    have hmx : ∀ x ∈ p.body.vars, x ≤ 10000 := by
      obtain ⟨f1, f2, f3⟩ := conv10_ok hc.1.1
      have hbd := p.body.bD_rise (by have := f1.fits.2.1; omega)
      intro x hx
      refine lastB (p.body.bD_spec 0 [] List.Pairwise.nil).1 (by omega) (c := 10000) ?_ x (by rw [hbd, bndL_mem]; exact hx)
      exact hc.2
    obtain ⟨f1, f2, f3⟩ := conv10_ok hc.1.1
    have hd2 : (cvP (bothP p)).body.dep ≤ 400 := g2.fits.2.1
    have hd1 : (cvP p).body.dep ≤ 400 := f2.fits.2.1
    have hcb := hbk2
    rw [g3] at hcb
    rw [g3] at hcw
    rw [f3] at hbk
    have e := both_cv p (asgB (bothP p).body) (nextT (bothP p).body)
    have e' : (cvP (bothP p)).body = .mk 5 0 [] (Trm.cvs (asgB (bothP p).body) [.mk 11 17 [] [], p.body, p.body.shw 20000] (nextT (bothP p).body)) := e
    have c1 : ∀ k, (p.body.cv (asgB (bothP p).body) k).cnt = (cvP p).body.cnt := both_fst f1 hmx
    have c2 : ∀ k, ((p.body.shw 20000).cv (asgB (bothP p).body) k).cnt = (cvP p).body.cnt := both_snd f1 hmx
    generalize hL : Trm.cvs (asgB (bothP p).body) [.mk 11 17 [] [], p.body, p.body.shw 20000] (nextT (bothP p).body) = L3 at e'
    have hlen3 : L3.length = 3 := by rw [← hL, Trm.cvs_length]; rfl
    have hk1 : (L3.getD (L3.length - 2) Dfl.d).cnt = (cvP p).body.cnt := by
      rw [hlen3, ← hL]
      exact c1 _
    have hk2 : (L3.getD (L3.length - 1) Dfl.d).cnt = (cvP p).body.cnt := by
      rw [hlen3, ← hL]
      exact c2 _
    have hmem : ∀ i, i < 3 → L3.getD i Dfl.d ∈ (cvP (bothP p)).body.t := fun i hi => by
      rw [e']
      show L3.getD i Dfl.d ∈ L3
      have : i < L3.length := by omega
      rw [List.getD_eq_getElem?_getD, List.getElem?_eq_getElem this]
      exact List.getElem_mem this
    have hbi : ∀ i, i < 3 → (L3.getD i Dfl.d).bulk ≤ 1000000000 := fun i hi => by
      have := Trm.bulks_mem (hmem i hi)
      have h2 := (cvP (bothP p)).body.bulk_eq
      simp only at hcb
      omega
    have hsz : ∀ i, i < 3 → ACallP Tryz.prog 33 [.agg (L3.getD i Dfl.d).cells] (.int .i64 (L3.getD i Dfl.d).cnt) := fun i hi => by
      have h1 := Size_d _ (hbi i hi)
      have := Trm.dep_part (hmem i hi)
      rwa [Trm.uC_all _ _ (by omega)] at h1
    have hsq : ACallP Tryz.prog 33 [.agg (cvP p).body.cells] (.int .i64 (cvP p).body.cnt) := by
      have h1 := Size_d _ hbk
      rwa [Trm.uC_all _ _ (by show 0 + (cvP p).body.dep < 1000; omega)] at h1
    have hs1 := hsz (L3.length - 2) (by omega)
    have hs2 := hsz (L3.length - 1) (by omega)
    rw [hk1] at hs1
    rw [hk2] at hs2
    have q1 : L3.getD (L3.length - 2) Dfl.d = L3[L3.length - 2]'(by omega) := by rw [List.getD_eq_getElem?_getD, List.getElem?_eq_getElem (by omega)]; rfl
    have q2 : L3.getD (L3.length - 1) Dfl.d = L3[L3.length - 1]'(by omega) := by rw [List.getD_eq_getElem?_getD, List.getElem?_eq_getElem (by omega)]; rfl
    rw [q1] at hs1
    rw [q2] at hs2
    rw [f3]
    have hcw2 : ACallP Tryz.prog 26 [.agg [.sl 5 (p.consts.map Datum.pv) none, .int .i64 5, .int .i64 0, .nil, .sl 4 [.agg [.int .i64 11, .int .i64 17, .nil, .nil], .agg p.body.cells, .agg (p.body.shw 20000).cells] none]] (.tup [.agg [.sl 5 (p.consts.map Datum.pv) none, .int .i64 5, .int .i64 0, .sl 1 [] none, .sl 4 (L3.map Trm.pv) none], .int .i64 0]) := by
      have e2 : (cvP (bothP p)).cells = [.sl 5 (p.consts.map Datum.pv) none, .int .i64 5, .int .i64 0, .sl 1 [] none, .sl 4 (L3.map Trm.pv) none] := by
        show PV.sl 5 (p.consts.map Datum.pv) none :: (cvP (bothP p)).body.cells = _
        rw [e']; rfl
      rw [← e2]
      exact hcw
    conv => whnf
    repeat' (first | ((first | ((first | (apply zY;intro hg) | apply zZ);focus ((conv=>whnf);(repeat ((first | (refine zW ?_ ?_;exact gA) | refine zH rfl ?_ | refine zA ?_ | refine zI bA ?_ | refine zI rfl ?_ | refine zJ rfl rfl ?_ | refine zB ?_ | refine zK rfl ?_ | refine zL rfl ?_ | refine zC ?_ | (refine zO ?_ ?_ ?_;exact OA;exact OA) | (refine zP ?_ ?_ ?_;exact OA;exact OA) | refine zM rfl ?_ | (refine zQ ?_ ?_ ?_;exact OA;exact OA) | (refine zR ?_ ?_;exact OA) | (refine zI ?_ ?_;exact NA) | (refine zS ?_ ?_ ?_;exact OA;exact OA) | (refine zT ?_ ?_ ?_;exact OA;exact OA) | (refine zU ?_ ?_ ?_;exact OA;exact OA) | (refine zV ?_ ?_ ?_;exact OA;exact OA) | refine PCall.pure (hcw2) (WkT.refl _) ?_ | refine PCall.pure (hs1) (WkT.refl _) ?_ | refine PCall.pure (hs2) (WkT.refl _) ?_ | refine PCall.pure (hsq) (WkT.refl _) ?_ | intro _);conv=>whnf));first | exact PShift.same | exact PShift.lit | exact PShift.ep)) | ((first | (apply zY;intro hg) | apply zZ);exact stB) | (refine zW ?_ ?_;exact gA) | refine zH rfl ?_ | refine zA ?_ | refine zI bA ?_ | refine zI rfl ?_ | refine zJ rfl rfl ?_ | refine zB ?_ | refine zK rfl ?_ | refine zL rfl ?_ | refine zC ?_ | (refine zO ?_ ?_ ?_;omega;omega) | (refine zP ?_ ?_ ?_;omega;omega) | refine zM rfl ?_ | (refine zQ ?_ ?_ ?_;omega;omega) | (refine zR ?_ ?_;omega) | (refine zI ?_ ?_;exact nA) | (refine zS ?_ ?_ ?_;omega;omega) | (refine zT ?_ ?_ ?_;omega;omega) | (refine zU ?_ ?_ ?_;omega;omega) | (refine zV ?_ ?_ ?_;omega;omega) | refine PCall.pure (hcw2) (WkT.refl _) ?_ | refine PCall.pure (hs1) (WkT.refl _) ?_ | refine PCall.pure (hs2) (WkT.refl _) ?_ | refine PCall.pure (hsq) (WkT.refl _) ?_ | (refine yA ?_ rfl ?_ ?_;assumption;exact lA) | (refine yB ?_ rfl ?_ ?_;assumption;exact lA) | (refine yC rfl ?_ ?_;exact lA) | refine n0 ?_ | refine zN rfl rfl rfl ?_ | refine zD ?_ | refine zE ?_ | refine zF ?_ | refine PDraw.sP (some 48) rfl [8] [9] tt_ok mixed ?_ | refine PDraw.sP (some 71) rfl [] [] tt_ok mixed ?_ | intro _ | refine zG ?_);conv=>whnf) | (refine zX (fun hc => ?_) (fun hc => ?_)<;>(try simp only [SY] at hc)<;>first | omega | (conv=>whnf)))
    exact PRet.pure (Wk.bool (by simp; omega))
  conv => whnf
  repeat' (first | ((first | ((first | (apply zY;intro hg) | apply zZ);focus ((conv=>whnf);(repeat ((first | (refine zW ?_ ?_;exact gA) | refine zH rfl ?_ | refine zA ?_ | refine zI bA ?_ | refine zI rfl ?_ | refine zJ rfl rfl ?_ | refine zB ?_ | refine zK rfl ?_ | refine zL rfl ?_ | refine zC ?_ | (refine zO ?_ ?_ ?_;exact OA;exact OA) | (refine zP ?_ ?_ ?_;exact OA;exact OA) | refine zM rfl ?_ | (refine zQ ?_ ?_ ?_;exact OA;exact OA) | (refine zR ?_ ?_;exact OA) | (refine zI ?_ ?_;exact NA) | (refine zS ?_ ?_ ?_;exact OA;exact OA) | (refine zT ?_ ?_ ?_;exact OA;exact OA) | (refine zU ?_ ?_ ?_;exact OA;exact OA) | (refine zV ?_ ?_ ?_;exact OA;exact OA) | refine PCall.pure (hcw) (WkT.refl _) ?_ | intro _);conv=>whnf));first | exact PShift.same | exact PShift.lit | exact PShift.ep)) | ((first | (apply zY;intro hg) | apply zZ);exact stB) | (refine zW ?_ ?_;exact gA) | refine zH rfl ?_ | refine zA ?_ | refine zI bA ?_ | refine zI rfl ?_ | refine zJ rfl rfl ?_ | refine zB ?_ | refine zK rfl ?_ | refine zL rfl ?_ | refine zC ?_ | (refine zO ?_ ?_ ?_;omega;omega) | (refine zP ?_ ?_ ?_;omega;omega) | refine zM rfl ?_ | (refine zQ ?_ ?_ ?_;omega;omega) | (refine zR ?_ ?_;omega) | (refine zI ?_ ?_;exact nA) | (refine zS ?_ ?_ ?_;omega;omega) | (refine zT ?_ ?_ ?_;omega;omega) | (refine zU ?_ ?_ ?_;omega;omega) | (refine zV ?_ ?_ ?_;omega;omega) | refine PCall.pure (hcw) (WkT.refl _) ?_ | (refine yA ?_ rfl ?_ ?_;assumption;exact lA) | (refine yB ?_ rfl ?_ ?_;assumption;exact lA) | (refine yC rfl ?_ ?_;exact lA) | refine n0 ?_ | refine zN rfl rfl rfl ?_ | refine zD ?_ | refine zE ?_ | refine zF ?_ | refine PDraw.sP (some 48) rfl [8] [9] tt_ok mixed ?_ | refine PDraw.sP (some 71) rfl [] [] tt_ok mixed ?_ | intro _ | refine zG ?_);conv=>whnf) | (refine zX (fun hc => ?_) (fun hc => ?_)<;>(try simp only [SY] at hc)<;>first | omega | (conv=>whnf)))
  exact PRet.pure (Wk.refl _)
end Go.Cb
namespace Go.Cb
open Go.RowKit (Below)
open Go.ChangeShapes
def Fz.of (w : World) : Fz := fun b o => w.cell? ⟨b, o, none⟩
theorem Sim.start (w : World) : Sim w (Fz.of w) [] w := ⟨Below.refl _ w, fun _ _ _ h => h, by simp, .nil⟩
theorem choose_list {α : Type} {p : Nat → α → Prop} : ∀ {n : Nat}, (∀ i, i < n → ∃ a, p i a) → ∃ l : List α, l.length = n ∧ ∀ i a, l[i]? = some a → p i a
  | 0, _ => ⟨[], rfl, by simp⟩
  | n + 1, h => by
    obtain ⟨l, h1, h2⟩ := choose_list (n := n) fun i hi => h i (by omega)
    obtain ⟨a, ha⟩ := h n (by omega)
    refine ⟨l ++ [a], by simp [h1], fun i b hb => ?_⟩
    by_cases hi : i < l.length
    · rw [List.getElem?_append_left hi] at hb; exact h2 i b hb
    · rw [List.getElem?_append_right (by omega)] at hb
      have h0 : i - l.length = 0 := by
        rcases Nat.eq_zero_or_pos (i - l.length) with h | h
        · exact h
        · rw [List.getElem?_eq_none (by simp; omega)] at hb; cases hb
      rw [h0] at hb
      simp at hb
      obtain rfl : i = n := by omega
      rwa [← hb]
section
variable {H : Type} {enc : TypeId × Value → H} {P : Program} {w : World} {UB : DataW H → Nat} {UBs : List (DataW H) → Nat}
structure Bulk (UB : DataW H → Nat) (UBs : List (DataW H) → Nat) : Prop where
  nil : UBs [] = 0
  cons : ∀ x l, UBs (x :: l) = UB x + UBs l
  agg : ∀ l, 1 + UBs l ≤ UB (.agg l)
  slice : ∀ l m, 1 + UBs l ≤ UB (.slice l m)
  str : ∀ s, s.length + 1 ≤ UB (.lit (.string s))
  pos : ∀ d, 1 ≤ UB d
def Rd {α : Type} (enc : TypeId × Value → H) (P : Program) (w : World) (UB : DataW H → Nat) (n : Nat) (t : TypeId) (cells : α → List PV) (bk : α → Nat) : Prop :=
  ∀ cs x, DataW.trod enc P w 0 (fun _ => true) true n t cs = some x → ∃ a : α, RepL (Fz.of w) (cells a) cs ∧ bk a ≤ UB x.1
theorem rd_int (hB : Bulk UB UBs) {t : TypeId} {k : IntKind} (ht : P.underlying t = some (.int k)) (n : Nat) : Rd enc P w UB n t (fun n : Int => [.int k n]) fun _ => 1 := by
  intro cs x h
  obtain ⟨m, rfl, rfl, _⟩ := DataW.trod_int ht h
  exact ⟨m, by simp only [RepL, Rep, and_true]; exact rfl, hB.pos _⟩
theorem rd_str (hB : Bulk UB UBs) {t : TypeId} (ht : P.underlying t = some .string) (n : Nat) : Rd enc P w UB n t (fun s : List UInt8 => [.str s]) fun s => s.length := by
  intro cs x h
  obtain ⟨s, rfl, rfl, hs⟩ := DataW.trod_string ht h
  refine ⟨s.data.toList, ?_, by have := hB.str s.data.toList; show s.data.toList.length ≤ UB (.lit (.string s.data.toList)); omega⟩
  have : s.data.toList.length ≤ 9223372036854775807 := by
    have h1 : s.data.toList.length = s.size := Array.length_toList
    have h2 : maxLen ≤ 9223372036854775807 := by simp only [maxLen]; omega
    omega
  exact RepL_cons.2 ⟨⟨rfl, by unfold Rep; exact ⟨rfl, this⟩⟩, RepL_nil _⟩
theorem rep_row {α : Type} {pv : α → PV} {cells : α → List PV} [c : CellsOf pv cells] {s b o : Nat} (hs : ∀ a, (cells a).length = s) : ∀ (l : List α) (i : Nat),
    (∀ j a, l[j]? = some a → ∃ cs, w.cells? 0 ((⟨b, o, none⟩ : Addr).add ((i + j) * s)) s = some cs ∧ RepL (Fz.of w) (cells a) cs) → RepRow (Fz.of w) s b (o + i * s) (l.map pv)
  | [], _, _ => by simp [RepRow]
  | a :: l, i, h => by
    rw [List.map_cons, RepRow_cons]
    obtain ⟨cs, h1, h2⟩ := h 0 a rfl
    obtain ⟨_, h3, h4⟩ := World.cells?_some h1
    refine ⟨⟨by rw [c.eq]; exact hs a, ?_⟩, ?_⟩
    · rw [c.eq, RepCells_iff]
      refine ⟨cs, h2, fun j u hu => ?_⟩
      have hj : j < cs.length := by
        rcases Nat.lt_or_ge j cs.length with h | h
        · exact h
        · rw [List.getElem?_eq_none h] at hu; cases hu
      have := h4 j (by omega)
      rw [hu, Addr.add_lit, Addr.add_lit] at this
      simpa [Fz.of] using this
    · have := rep_row (pv := pv) hs l (i + 1) fun j a ha => by
        have := h (j + 1) a (by simpa using ha)
        rwa [show i + (j + 1) = i + 1 + j by omega] at this
      rwa [show o + (i + 1) * s = o + i * s + s by rw [Nat.succ_mul]; omega] at this
def sumBk {α : Type} (bk : α → Nat) : List α → Nat
  | [] => 0
  | a :: l => bk a + sumBk bk l
theorem sumBk_le (hB : Bulk UB UBs) {α : Type} {bk : α → Nat} : ∀ (l : List α) (ds : List (DataW H)), l.length ≤ ds.length → (∀ (i : Nat) (a : α) (d : DataW H), l[i]? = some a → ds[i]? = some d → bk a ≤ UB d) → sumBk bk l ≤ UBs ds
  | [], _, _, _ => by simp [sumBk]
  | a :: l, [], h, _ => by simp at h
  | a :: l, d :: ds, h, k => by
    rw [sumBk, hB.cons]
    have h1 := k 0 a d rfl rfl
    have h2 := sumBk_le hB l ds (by simpa using h) fun i a d ha hd => k (i + 1) a d (by simpa using ha) (by simpa using hd)
    omega
theorem rd_slice (hB : Bulk UB UBs) {n : Nat} {t e : TypeId} (ht : P.underlying t = some (.slice e)) {s : Nat} (hs : P.cellsOf e = s) (hp : 0 < s) {α : Type} {pv : α → PV} {cells : α → List PV} [c : CellsOf pv cells] {bk : α → Nat}
    (hc : ∀ a, (cells a).length = s) (he : ∀ m, m < n → Rd enc P w UB m e cells bk) : Rd enc P w UB n t (fun l : List α => [.sl s (l.map pv) none]) fun l => 1 + sumBk bk l := by
  intro cs x h
  rcases DataW.trod_slice ht h with ⟨rfl, rfl⟩ | ⟨a, len, cap, elems, rest, m, rfl, rfl, rfl, _, hlc, hcm, hel, hx, hr, _⟩
  · refine ⟨[], ?_, by have := hB.pos (DataW.nil : DataW H); simpa [sumBk] using this⟩
    exact RepL_cons.2 ⟨⟨rfl, by unfold Rep; exact ⟨by simp, .inl ⟨rfl, rfl⟩⟩⟩, RepL_nil _⟩
  · have hx' : ∀ i, i < len → ∃ a' : α, ∃ cs d, elems[i]? = some d ∧ w.cells? 0 (a.add (i * s)) s = some cs ∧ RepL (Fz.of w) (cells a') cs ∧ bk a' ≤ UB d.1 := by
      intro i hi
      have h1 := hx i hi
      have h2 : elems[i]? = some elems[i] := List.getElem?_eq_getElem (by omega)
      rw [h2, hs] at h1
      obtain ⟨cs, h3, h4⟩ := Option.bind_eq_some_iff.1 h1
      obtain ⟨a', h5, h6⟩ := he m (by omega) cs _ h4
      exact ⟨a', cs, _, h2, h3, h5, h6⟩
    obtain ⟨l, hl, hl2⟩ := choose_list hx'
    have hcount : 1 + sumBk bk l ≤ UB (.slice (elems.map (·.1)) (rest.map (·.1))) := by
      have := sumBk_le hB (bk := bk) l (elems.map (·.1)) (by simp; omega) (by
        intro i a' d ha hd
        obtain ⟨_, d', h2, _, _, h5⟩ := hl2 i a' ha
        rw [List.getElem?_map, h2] at hd
        simp at hd
        rw [← hd]; exact h5)
      have := hB.slice (elems.map (·.1)) (rest.map (·.1))
      omega
    refine ⟨l, ?_, hcount⟩
    refine RepL_cons.2 ⟨⟨rfl, ?_⟩, RepL_nil _⟩
    unfold Rep
    refine ⟨fun t ht => (by cases ht), ?_⟩
    by_cases h0 : cap = 0
    · subst h0
      obtain rfl : len = 0 := by omega
      have : l = [] := List.eq_nil_of_length_eq_zero hl
      subst this
      exact .inr (.inr ⟨rfl, a, rfl⟩)
    ·
      have hsp : a.spot = none := by
        have h1 : ∃ cs, w.cells? 0 a s = some cs := by
          by_cases h2 : 0 < len
          · obtain ⟨_, cs, _, _, h3, _⟩ := hx' 0 h2
            exact ⟨cs, by simpa [Addr.add] using h3⟩
          · obtain ⟨h3, h4⟩ := hr rfl
            have h5 := h4 0 (by omega)
            have h6 : rest[0]? = some (rest[0]'(by omega)) := List.getElem?_eq_getElem (by omega)
            rw [h6, hs] at h5
            obtain ⟨cs, h7, _⟩ := Option.bind_eq_some_iff.1 h5
            have : len = 0 := by omega
            subst this
            exact ⟨cs, by simpa [Addr.add] using h7⟩
        obtain ⟨cs, h1⟩ := h1
        obtain ⟨_, h3, h4⟩ := World.cells?_some h1
        have h5 := h4 0 hp
        have h6 : cs[0]? = some (cs[0]'(by omega)) := List.getElem?_eq_getElem (by omega)
        rw [h6] at h5
        simp only [Addr.add, if_true, World.cell?] at h5
        split at h5
        · split at h5
          · cases h5
          · rename_i hn; simpa using hn
        · cases h5
      obtain ⟨b, o, sp⟩ := a
      simp only at hsp
      subst hsp
      refine .inr (.inl ⟨b, o, cap, by simp [hl], by simp; omega, hcm, by simp, ?_⟩)
      have := rep_row (pv := pv) (w := w) (b := b) (o := o) hc l 0 fun j a' ha => by
        obtain ⟨cs, _, _, h3, h4, _⟩ := hl2 j a' ha
        exact ⟨cs, by simpa using h3, h4⟩
      simpa using this
end
section
variable {H : Type} {enc : TypeId × Value → H} {P : Program} {w : World} {UB : DataW H → Nat} {UBs : List (DataW H) → Nat}
theorem repL_cat {F : Fz} {ps bs : List PV} {cs : List Value} {o s : Nat} (h1 : RepL F ps ((cs.drop o).take s)) (h2 : RepL F bs (cs.drop (o + s))) : RepL F (ps ++ bs) (cs.drop o) := by
  have := RepL_append h1 h2
  rwa [← List.drop_drop, List.take_append_drop] at this
theorem rd_field {α : Type} {n o s : Nat} {t : TypeId} {cells : α → List PV} {bk : α → Nat} (hR : Rd enc P w UB n t cells bk) {fs : Array Field} {cs : List Value} {xs : List (DataW H × List MemPlace)} (hlen : xs.length = fs.size)
    (hf : ∀ (i : Nat) (f : Field), fs[i]? = some f → DataW.trod enc P w 0 (fun _ => true) true n f.type ((cs.drop f.offset).take (P.cellsOf f.type)) = xs[i]?) (i : Nat) (h : (fs.toList.map fun f => (f.type, f.offset))[i]? = some (t, o)) (hs : P.cellsOf t = s) :
    ∃ a y, xs[i]? = some y ∧ RepL (Fz.of w) (cells a) ((cs.drop o).take s) ∧ bk a ≤ UB y.1 := by
  rw [List.getElem?_map] at h
  obtain ⟨f, hfi, hft⟩ := Option.map_eq_some_iff.1 h
  rw [Array.getElem?_toList] at hfi
  simp only [Prod.mk.injEq] at hft
  obtain ⟨rfl, rfl⟩ := hft
  have h1 := hf i f hfi
  have hi : i < xs.length := by rw [hlen]; exact (Array.getElem?_eq_some_iff.1 hfi).1
  have h2 : xs[i]? = some xs[i] := List.getElem?_eq_getElem hi
  rw [h2] at h1
  obtain ⟨a, h3, h4⟩ := hR _ _ h1
  exact ⟨a, _, h2, by rw [← hs]; exact h3, h4⟩
theorem arg_struct {α : Type} {t : TypeId} {cells : α → List PV} {bk : α → Nat} {fs : Array Field} (hs : P.underlying t = some (.struct fs)) (hR : ∀ n, Rd enc P w UB n t cells bk) {r : Reach} {b0 : Nat} {v : Value} {d : DataW H} {p : List MemPlace}
    (hv : Value.okWide P w r b0 t v) (h : DataW.Trod enc P w 0 (fun _ => true) true t v d p) : ∃ a, Rep (Fz.of w) (.agg (cells a)) v ∧ bk a ≤ UB d := by
  obtain ⟨cs, rfl, _⟩ := Go.WideShapes.okWide_struct hs hv
  obtain ⟨fuel, hf⟩ := h
  obtain ⟨a, h1, h2⟩ := hR fuel _ _ hf
  refine ⟨a, ?_, h2⟩
  simp only [Rep]
  exact ⟨cs.toList, by simp, by simpa [Value.cells] using h1⟩
theorem trodAll_below (hl : laidOutB P = true) {W W' : World} (hb : Below W.heap.size W W') : ∀ {ts : List TypeId} {vs : List Value} {ds : List (DataW H)} {ps : List MemPlace}, (∀ t ∈ ts, P.readableRec t = true ∧ t < P.types.size) →
    DataW.TrodAll enc P W 0 (fun _ => true) true ts vs ds ps → (∀ x ∈ ps, x.block < W.heap.size) → DataW.TrodAll enc P W' 0 (fun b => decide (b < W.heap.size)) true ts vs ds ps
  | [], _, _, _, _, h, _ => by
    obtain ⟨rfl, rfl, rfl⟩ := trodAll_nil h
    exact trodAll_mk0
  | t :: ts, _, _, _, hr, h, hlt => by
    obtain ⟨v, vs, d, ds, p, q, rfl, rfl, rfl, h1, h2⟩ := trodAll_cons h
    exact trodAll_cons_mk (Go.RowKit.Below.trod hl (hr t (by simp)).1 (hr t (by simp)).2 h1 hb fun x hx => hlt x (by simp [hx])) (trodAll_below hl hb (fun t ht => hr t (by simp [ht])) h2 fun x hx => hlt x (by simp [hx]))
theorem trodAll_len {spare : Nat → Bool} {base : Nat} {held : Bool} : ∀ {ts : List TypeId} {vs : List Value} {ds : List (DataW H)} {ps : List MemPlace}, DataW.TrodAll enc P w base spare held ts vs ds ps → ds.length = ts.length
  | [], _, _, _, h => by obtain ⟨rfl, rfl, rfl⟩ := trodAll_nil h; rfl
  | t :: ts, _, _, _, h => by
    obtain ⟨v, vs, d, ds, p, q, rfl, rfl, rfl, h1, h2⟩ := trodAll_cons h
    simp [trodAll_len h2]
theorem law_post {f : Func} {s : ChangeSpec} {tb : TypeId} {W W' : World} {args : Array Value} {ds gs : List (DataW H)} {before : List MemPlace} (hl : laidOutB P = true) (hr : ∀ t ∈ f.params.toList, P.readableRec t = true ∧ t < P.types.size)
    (hres : f.resultTypes = #[tb]) (hb : P.underlying tb = some .bool) (hv : s.vars = []) (hfn : ∀ ds : List (DataW H), ds.length = f.params.size → s.fn H ds = { results := [.lit (.bool true)], args := ds })
    (hW : DataW.Whole enc P f.params.toList s.vars false W args.toList ds gs before) (hbel : Below W.heap.size W W') : s.post enc P f false true false false W args (.bool true) W' := by
  have hW' := hW
  obtain ⟨p, q, hA, hV, rfl, _, _⟩ := hW
  have hV0 : DataW.TrodVars enc P W (fun _ => true) [] gs q := by rw [← hv]; exact hV
  obtain ⟨rfl, rfl⟩ := trodVars_none hV0
  have hfn' := hfn (ds ++ []) (by rw [List.append_nil, trodAll_len hA]; simp)
  refine ⟨ds, [], p ++ [], [], p, [], hW', ?_, ?_, ?_, hbel.frame _, fun h => by cases h⟩
  · rw [hfn', hres]
    exact trodAll_mk1 (Go.RowKit.shut_bool hb _)
  · rw [hfn', List.append_nil]
    exact trodAll_below hl hbel hr hA fun x hx => hW'.lt x (by simp [hx])
  · rw [hfn', hv]; rfl
end
theorem sumBk_datum : ∀ l : List Datum, sumBk Datum.bulk l = Datum.bulks l
  | [] => rfl
  | x :: l => by rw [sumBk, Datum.bulks, sumBk_datum l]
theorem sumBk_trm : ∀ l : List Trm, sumBk Trm.bulk l = Trm.bulks l
  | [] => rfl
  | x :: l => by rw [sumBk, Trm.bulks, sumBk_trm l]
theorem sumBk_one {α : Type} : ∀ l : List α, sumBk (fun _ => 1) l = l.length
  | [] => rfl
  | x :: l => by rw [sumBk, sumBk_one l, List.length_cons]; omega
section
variable {H : Type} {enc : TypeId × Value → H} {P : Program} {w : World} {UB : DataW H → Nat} {UBs : List (DataW H) → Nat}
theorem repL_end {F : Fz} {cs : List Value} {n : Nat} (h : cs.length = n) : RepL F [] (cs.drop n) := by
  rw [List.drop_of_length_le (by omega)]; exact RepL_nil F
theorem rd_datum (hB : Bulk UB UBs) {tI tS tL tD : TypeId} (hI : P.underlying tI = some (.int .i64)) (hS : P.underlying tS = some .string) (hL : P.underlying tL = some (.slice tD)) {fs : Array Field} (hD : P.underlying tD = some (.struct fs))
    (hfs : (fs.toList.map fun f => (f.type, f.offset)) = [(tI, 0), (tI, 1), (tI, 2), (tS, 3), (tL, 4)]) (cI : P.cellsOf tI = 1) (cS : P.cellsOf tS = 1) (cL : P.cellsOf tL = 1) (cD : P.cellsOf tD = 5) : ∀ n, Rd enc P w UB n tD Datum.cells Datum.bulk := by
  intro n
  induction n using Nat.strongRecOn with
  | ind n ih =>
    intro cs x h
    obtain ⟨xs, m, rfl, rfl, hl, hlen, hf⟩ := DataW.trod_struct hD h
    obtain ⟨a0, y0, e0, r0, _⟩ := rd_field (rd_int (w := w) (enc := enc) hB hI m) hlen hf 0 (by rw [hfs]; rfl) cI
    obtain ⟨a1, y1, e1, r1, _⟩ := rd_field (rd_int (w := w) (enc := enc) hB hI m) hlen hf 1 (by rw [hfs]; rfl) cI
    obtain ⟨a2, y2, e2, r2, _⟩ := rd_field (rd_int (w := w) (enc := enc) hB hI m) hlen hf 2 (by rw [hfs]; rfl) cI
    obtain ⟨a3, y3, e3, r3, b3⟩ := rd_field (rd_str (w := w) (enc := enc) hB hS m) hlen hf 3 (by rw [hfs]; rfl) cS
    obtain ⟨a4, y4, e4, r4, b4⟩ := rd_field (rd_slice (pv := Datum.pv) hB hL cD (by omega) (fun a => rfl) (fun k hk => ih k (by omega))) hlen hf 4 (by rw [hfs]; rfl) cL
    refine ⟨.mk a0 a1 a2 a3 a4, ?_, ?_⟩
    · exact repL_cat r0 (repL_cat r1 (repL_cat r2 (repL_cat r3 (repL_cat r4 (repL_end (hl.trans cD))))))
    · have h5 : xs.length = 5 := by
        have := congrArg List.length hfs
        simp at this; omega
      match xs, h5 with
      | [z0, z1, z2, z3, z4], _ =>
        simp at e3 e4
        subst e3 e4
        have := hB.agg ([z0, z1, z2, z3, z4].map (·.1))
        simp only [List.map_cons, List.map_nil, hB.cons, hB.nil] at this
        rw [sumBk_datum] at b4
        rw [Datum.bulk_eq]
        show 1 + a3.length + Datum.bulks a4 ≤ _
        simp only [List.map_cons, List.map_nil]
        omega
theorem rd_ints (hB : Bulk UB UBs) {tI tV : TypeId} (hI : P.underlying tI = some (.int .i64)) (hV : P.underlying tV = some (.slice tI)) (cI : P.cellsOf tI = 1) (n : Nat) : Rd enc P w UB n tV (fun l : List Int => [.sl 1 (l.map (PV.int .i64)) none]) fun l => 1 + l.length := by
  intro cs x h
  obtain ⟨a, h1, h2⟩ := rd_slice (pv := PV.int .i64) hB hV cI (by omega) (fun a => rfl) (fun k hk => rd_int (w := w) (enc := enc) hB hI k) cs x h
  exact ⟨a, h1, by have := sumBk_one a; show 1 + a.length ≤ _; have h3 : 1 + sumBk (fun _ => 1) a ≤ UB x.1 := h2; omega⟩
theorem rd_trm (hB : Bulk UB UBs) {tI tV tL tT : TypeId} (hI : P.underlying tI = some (.int .i64)) (hV : P.underlying tV = some (.slice tI)) (hL : P.underlying tL = some (.slice tT)) {fs : Array Field} (hT : P.underlying tT = some (.struct fs))
    (hfs : (fs.toList.map fun f => (f.type, f.offset)) = [(tI, 0), (tI, 1), (tV, 2), (tL, 3)]) (cI : P.cellsOf tI = 1) (cV : P.cellsOf tV = 1) (cL : P.cellsOf tL = 1) (cT : P.cellsOf tT = 4) : ∀ n, Rd enc P w UB n tT Trm.cells Trm.bulk := by
  intro n
  induction n using Nat.strongRecOn with
  | ind n ih =>
    intro cs x h
    obtain ⟨xs, m, rfl, rfl, hl, hlen, hf⟩ := DataW.trod_struct hT h
    obtain ⟨a0, y0, e0, r0, _⟩ := rd_field (rd_int (w := w) (enc := enc) hB hI m) hlen hf 0 (by rw [hfs]; rfl) cI
    obtain ⟨a1, y1, e1, r1, _⟩ := rd_field (rd_int (w := w) (enc := enc) hB hI m) hlen hf 1 (by rw [hfs]; rfl) cI
    obtain ⟨a2, y2, e2, r2, b2⟩ := rd_field (rd_ints (w := w) (enc := enc) hB hI hV cI m) hlen hf 2 (by rw [hfs]; rfl) cV
    obtain ⟨a3, y3, e3, r3, b3⟩ := rd_field (rd_slice (pv := Trm.pv) hB hL cT (by omega) (fun a => rfl) (fun k hk => ih k (by omega))) hlen hf 3 (by rw [hfs]; rfl) cL
    refine ⟨.mk a0 a1 a2 a3, ?_, ?_⟩
    · exact repL_cat r0 (repL_cat r1 (repL_cat r2 (repL_cat r3 (repL_end (hl.trans cT)))))
    · have h5 : xs.length = 4 := by
        have := congrArg List.length hfs
        simp at this; omega
      match xs, h5 with
      | [z0, z1, z2, z3], _ =>
        simp at e2 e3
        subst e2 e3
        have := hB.agg ([z0, z1, z2, z3].map (·.1))
        simp only [List.map_cons, List.map_nil, hB.cons, hB.nil] at this
        rw [sumBk_trm] at b3
        rw [Trm.bulk_eq]
        show 1 + a2.length + Trm.bulks a3 ≤ _
        simp only [List.map_cons, List.map_nil]
        omega
end
end Go.Cb
namespace Go.Cb
open Go.Proofs Go.Proofs.YtpkgembbjlebcaaGreatDoor
open Go.RowKit (Below)
theorem uptoOne {H : Type} (d : DataW H) : 1 ≤ Rows.uptoBulk d := by
  cases d with
  | lit l => cases l <;> simp [Rows.uptoBulk]
  | nil => simp [Rows.uptoBulk]
  | ptr d => simp [Rows.uptoBulk]
  | slice elems spare => simp [Rows.uptoBulk]
  | agg parts => simp [Rows.uptoBulk]
  | iface t d => simp [Rows.uptoBulk]
  | map entries => simp [Rows.uptoBulk]
  | held h => simp [Rows.uptoBulk]
theorem bulkR {H : Type} : Bulk (H := H) Rows.uptoBulk Rows.uptoBulkAll where
  nil := by simp [Rows.uptoBulkAll]
  cons x l := by simp [Rows.uptoBulkAll]
  agg l := by simp [Rows.uptoBulk]; omega
  slice l m := by simp [Rows.uptoBulk]; omega
  str s := by simp [Rows.uptoBulk]
  pos d := uptoOne d
section
variable {H : Type} {enc : TypeId × Value → H} {w : World}
theorem cInt : Tryz.prog.cellsOf 3 = 1 := by kernel_rfl
theorem cStr : Tryz.prog.cellsOf 9 = 1 := by kernel_rfl
theorem cInts : Tryz.prog.cellsOf 23 = 1 := by kernel_rfl
theorem cDs : Tryz.prog.cellsOf 22 = 1 := by kernel_rfl
theorem cTs : Tryz.prog.cellsOf 24 = 1 := by kernel_rfl
theorem cD : Tryz.prog.cellsOf 35 = 5 := by kernel_rfl
theorem cT : Tryz.prog.cellsOf 26 = 4 := by kernel_rfl
theorem cP : Tryz.prog.cellsOf 28 = 5 := by kernel_rfl
theorem rdD (n : Nat) : Rd enc Tryz.prog w Rows.uptoBulk n 35 Datum.cells Datum.bulk :=
  rd_datum bulkR Tryz.underlying3 Tryz.underlying9 Tryz.underlying22 Tryz.underlying35 rfl cInt cStr cDs cD n
theorem rdT (n : Nat) : Rd enc Tryz.prog w Rows.uptoBulk n 26 Trm.cells Trm.bulk :=
  rd_trm bulkR Tryz.underlying3 Tryz.underlying23 Tryz.underlying24 Tryz.underlying26 rfl cInt cInts cTs cT n
theorem rdDs (n : Nat) : Rd enc Tryz.prog w Rows.uptoBulk n 22 (fun l : List Datum => [.sl 5 (l.map Datum.pv) none]) fun l => 1 + Datum.bulks l := by
  intro cs x h
  obtain ⟨a, h1, h2⟩ := rd_slice (pv := Datum.pv) bulkR Tryz.underlying22 cD (by omega) (fun a => rfl) (fun k hk => rdD (w := w) (enc := enc) k) cs x h
  have h3 : 1 + sumBk Datum.bulk a ≤ Rows.uptoBulk x.1 := h2
  rw [sumBk_datum] at h3
  exact ⟨a, h1, h3⟩
def Prog.bulk (p : Prog) : Nat := Datum.bulks p.consts + p.body.bulk
theorem rdP (n : Nat) : Rd enc Tryz.prog w Rows.uptoBulk n 28 Prog.cells Prog.bulk := by
  intro cs x h
  obtain ⟨xs, m, rfl, rfl, hl, hlen, hf⟩ := DataW.trod_struct Tryz.underlying28 h
  obtain ⟨a0, y0, e0, r0, b0⟩ := rd_field (rdDs (w := w) (enc := enc) m) hlen hf 0 rfl cDs
  obtain ⟨a1, y1, e1, r1, b1⟩ := rd_field (rdT (w := w) (enc := enc) m) hlen hf 1 rfl cT
  refine ⟨⟨a0, a1⟩, ?_, ?_⟩
  · have := repL_cat r0 (repL_cat r1 (repL_end (hl.trans cP)))
    rwa [List.append_nil] at this
  · match xs, hlen with
    | [z0, z1], _ =>
      simp at e0 e1
      subst e0 e1
      have := (bulkR (H := H)).agg ([z0, z1].map (·.1))
      simp only [List.map_cons, List.map_nil, (bulkR (H := H)).cons, (bulkR (H := H)).nil] at this
      show Datum.bulks a0 + a1.bulk ≤ _
      simp only [List.map_cons, List.map_nil]
      omega
theorem okP : Tryz.prog.readableRec 28 = true ∧ 28 < Tryz.prog.types.size := ⟨by kernel_rfl, of_decide_eq_true (by kernel_rfl)⟩
theorem okT : Tryz.prog.readableRec 26 = true ∧ 26 < Tryz.prog.types.size := ⟨by kernel_rfl, of_decide_eq_true (by kernel_rfl)⟩
theorem calls_true {f : FuncId} {args : List PV} {vs : List Value} {W : World} (h : ACallP Tryz.prog f args (.bool true)) (hr : RepT (Fz.of W) args vs) : Calls Tryz.prog f vs.toArray W fun e W' => e = .returned (.bool true) ∧ Below W.heap.size W W' := by
  refine (h.2 W (Fz.of W) [] W vs (Sim.start W) hr).mono ?_
  rintro e W' ⟨v, F', y, Γ', rfl, _, hS, hR, rfl⟩
  exact ⟨by rw [show v = .bool true by simpa only [Rep] using hR], hS.below⟩
end
end Go.Cb
namespace Go.Cb
open Go.Proofs Go.Proofs.YtpkgembbjlebcaaGreatDoor
mutual
def cellsD : DataW Unit → List Value
  | .lit (.int k n) => [.int k n]
  | .lit (.bool b) => [.bool b]
  | .lit (.string s) => [.string ⟨s.toArray⟩]
  | .agg l => cellsDs l
  | _ => []
def cellsDs : List (DataW Unit) → List Value
  | [] => []
  | d :: l => cellsD d ++ cellsDs l
end
def newBlocks (e : TypeId) : List (String × DataW Unit) → List Obj
  | [] => []
  | (_, .iface _ (.ptr d)) :: l => .cells (cellsD d).toArray e :: newBlocks e l
  | _ :: l => newBlocks e l
def putCs (h : Array Obj) (g : Option Nat) (cs : Array Value) : Array Obj := match g with
  | some g => h.modify g fun
    | .cells _ t frozen => .cells cs t frozen
    | o => o
  | none => h
def layAll (P : Program) (p : TypeId) : List (String × DataW Unit) → Nat → Array Obj → Array Obj
  | [], _, h => h
  | (n, .iface _ _) :: l, k, h => layAll P p l (k + 1) (putCs h (P.globalNamed n) #[.iface p (.pointer (some ⟨k, 0, none⟩))])
  | (n, d) :: l, k, h => layAll P p l k (putCs h (P.globalNamed n) (cellsD d).toArray)
noncomputable def laidWorld (os : Os) : World :=
  let w0 := World.holding Tryz.prog os ⟨(newBlocks 256 Rows.termConstsRow.laid).toArray, #[], []⟩
  { w0 with heap := layAll Tryz.prog 254 Rows.termConstsRow.laid (World.settled Tryz.prog os).heap.size w0.heap }
theorem laid_met (os : Os) (args : Array Value) : laidMet Tryz.prog Rows.termConstsRow.laid ((laidWorld os).forCall (fun _ _ => 0) ⟨#[], args, []⟩).memory :=
  (LaidIn.of_run (l := Rows.termConstsRow.laid) (List.range 1000) 16 (by kernel_rfl) (by kernel_rfl) (by kernel_rfl) (by kernel_rfl)).met
theorem own_none : ownKnob Tryz.prog.godebug = none := by kernel_rfl
theorem laidOut : laidOutB Tryz.prog = true := by kernel_rfl
end Go.Cb

