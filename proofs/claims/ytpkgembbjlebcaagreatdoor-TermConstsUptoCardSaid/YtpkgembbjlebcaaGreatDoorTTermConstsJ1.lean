/-
  Plain law: what a check says of a program, and how it leans on the number of constants.
  Contracts: more constants, fewer constants.
  Contracts: more constants, fewer constants.
-/
import Derived.Test.YtpkgembbjlebcaaGreatDoorC5
set_option linter.unusedSimpArgs false
set_option linter.unusedVariables false
namespace Go.Cb
open Go.Proofs
set_option maxRecDepth 100000
set_option maxHeartbeats 4000000
def RightP (p : Prog) (level : Int) : Prop :=
  (0 ≤ level ∧ level ≤ 2) ∧ (∀ d ∈ p.consts, d.rightD 0 = true) ∧ p.body.okT level p.consts.length 0 false [] 0 ∧ p.body.cnt ≤ 20000 ∧ Dist p.body.vars []
theorem checkD_right (p : Prog) (level : Int) : checkD p level = 0 ↔ RightP p level := by
  unfold checkD RightP
  have h := (p.body.ckD_sp level p.consts.length 0 false [] 0 0 []).some_iff
  by_cases hl : (decide (level < 0) || decide (level > 2)) = true
  · rw [if_pos hl]
    simp at hl
    constructor
    · intro h; cases h
    · rintro ⟨h, _⟩; omega
  · rw [if_neg hl]
    simp at hl
    split
    · rename_i hr
      simp only [Bool.and_eq_true, List.all_eq_true, h] at hr
      exact ⟨fun _ => ⟨by omega, hr.1, hr.2.1, by omega, hr.2.2.2⟩, fun _ => rfl⟩
    · rename_i hr
      simp only [Bool.and_eq_true, List.all_eq_true, h] at hr
      exact ⟨fun h => (by cases h), fun ⟨_, h1, h2, h3, h4⟩ => absurd ⟨h1, h2, by omega, h4⟩ hr⟩
theorem checkD_ill (p : Prog) (level : Int) (h0 : 0 ≤ level) (h2 : level ≤ 2) : checkD p level = if checkD p level = 0 then 0 else 5 := by
  unfold checkD
  rw [if_neg (by simp; omega)]
  split <;> rfl
mutual
def Trm.gre : Trm → Int
  | .mk op n _ t => Trm.gres t (if op = 0 then n else -1)
def Trm.gres : List Trm → Int → Int
  | [], m => m
  | x :: xs, m => Trm.gres xs (max m (Trm.gre x))
end
theorem Trm.gre_eq (t : Trm) : t.gre = Trm.gres t.t (if t.op = 0 then t.n else -1) := by cases t; rw [Trm.gre]; rfl
theorem Trm.gres_lt (c : Int) : ∀ (l : List Trm) (m : Int), Trm.gres l m < c ↔ m < c ∧ ∀ x ∈ l, x.gre < c
  | [], m => by simp [Trm.gres]
  | x :: l, m => by
    rw [Trm.gres, Trm.gres_lt c l]
    simp only [List.forall_mem_cons]
    constructor
    · rintro ⟨h1, h2⟩; exact ⟨by omega, by omega, h2⟩
    · rintro ⟨h1, h2, h3⟩; exact ⟨by omega, h3⟩
theorem numberL_other (c1 c2 codes : Int) (free : Bool) (t : Trm) (scope : List Int) (h : t.op ≠ 0) : numberL c1 codes free t scope = numberL c2 codes free t scope := by
  unfold numberL
  rw [if_neg h, if_neg h]
theorem Trm.okT_consts (level codes : Int) (free : Bool) (c1 c2 : Int) (h2 : 0 ≤ c2) (t : Trm) : ∀ (scope : List Int) (deep : Int), t.okT level c1 codes free scope deep → (t.okT level c2 codes free scope deep ↔ t.gre < c2) := by
  induction t using Trm.ind with
  | h t ih =>
    intro scope deep h
    have key : ∀ (op : Int) (sc inner : List Int) (deep : Int) (l : List Trm), (∀ y ∈ l, ∀ (scope : List Int) (deep : Int), y.okT level c1 codes free scope deep → (y.okT level c2 codes free scope deep ↔ y.gre < c2)) →
        Trm.okTs level c1 codes free op sc inner l deep → (Trm.okTs level c2 codes free op sc inner l deep ↔ ∀ x ∈ l, x.gre < c2) := by
      intro op sc inner deep l
      induction l with
      | nil => intro _ _; simp [Trm.okTs]
      | cons x l ihl =>
        intro hy hk
        rw [Trm.okTs] at hk
        rw [Trm.okTs, List.forall_mem_cons, hy x (by simp) _ _ hk.2.1, ihl (fun y hh => hy y (by simp [hh])) hk.2.2]
        simp only [hk.1, not_false_eq_true, true_and]
    rw [Trm.okT_eq] at h
    rw [Trm.okT_eq, Trm.gre_eq, Trm.gres_lt, key _ _ _ _ _ ih h.2]
    obtain ⟨⟨g1, g2, g3, g4⟩, _⟩ := h
    have hn : numberL c2 codes free t scope = true ↔ (if t.op = 0 then t.n else -1) < c2 := by
      by_cases h0 : t.op = 0
      · rw [if_pos h0]
        unfold numberL at g4 ⊢
        rw [if_pos h0] at g4 ⊢
        simp at g4 ⊢
        omega
      · rw [if_neg h0, numberL_other c2 c1 codes free t scope h0]
        simp only [g4, true_iff]
        omega
    rw [hn]
    simp only [g1, g2, g3, true_and]
theorem RightP.consts {p : Prog} {level : Int} (h : RightP p level) (cs : List Datum) (hc : ∀ d ∈ cs, d.rightD 0 = true) : RightP ⟨cs, p.body⟩ level ↔ p.body.gre < cs.length := by
  obtain ⟨h1, h2, h3, h4, h5⟩ := h
  unfold RightP
  simp only [h1, true_and, h4, h5, and_true]
  rw [Trm.okT_consts level 0 false p.consts.length cs.length (by omega) p.body [] 0 h3]
  simp [h1.1, h1.2]
  exact fun _ => hc
theorem RightP.gre {p : Prog} {level : Int} (h : RightP p level) : p.body.gre < p.consts.length := (h.consts p.consts h.2.1).1 h
theorem Trm.gre_ge (t : Trm) : ∀ {level c codes : Int} {free : Bool} {scope : List Int} {deep : Int}, t.okT level c codes free scope deep → -1 ≤ t.gre := by
  intro level c codes free scope deep h
  rw [Trm.okT_eq] at h
  rw [Trm.gre_eq]
  have : ∀ (l : List Trm) (m : Int), -1 ≤ m → -1 ≤ Trm.gres l m := by
    intro l
    induction l with
    | nil => intro m h; rwa [Trm.gres]
    | cons x l ih => intro m h; rw [Trm.gres]; exact ih _ (by omega)
  apply this
  split
  · rename_i h0
    have := h.1.2.2.2
    unfold numberL at this
    rw [if_pos h0] at this
    simp at this
    omega
  · omega
end Go.Cb
namespace Go.Cb
open Go.Proofs
set_option maxRecDepth 100000
set_option maxHeartbeats 4000000
theorem greatest_c (t : Trm) : ACallP Tryz.prog 19 [.agg t.cells] (.int .i64 t.gre) := by
  induction t using Trm.ind with
  | h t ih =>
    have hg := t.gre_eq
    have ih' : ∀ x ∈ t.t, ACallP Tryz.prog 19 [.agg x.cells] (.int .i64 x.gre) := ih
    refine ACall.of_body tt_ok Tryz.func19 rfl rfl (n := 26) rfl rfl ?_
    conv => whnf
    repeat ((first | ((first | (apply zY;intro hg) | apply zZ);exact stA) | (refine zW ?_ ?_;exact gA) | refine zH rfl ?_ | refine zA ?_ | refine zI bA ?_ | refine zI rfl ?_ | refine zJ rfl rfl ?_ | refine zB ?_ | refine zK rfl ?_ | refine zL rfl ?_ | refine zC ?_ | (refine zO ?_ ?_ ?_;omega;omega) | (refine zP ?_ ?_ ?_;omega;omega) | refine zM rfl ?_ | (refine zQ ?_ ?_ ?_;omega;omega) | (refine zR ?_ ?_;omega) | (refine zI ?_ ?_;exact nA) | (refine zS ?_ ?_ ?_;omega;omega) | (refine zT ?_ ?_ ?_;omega;omega) | (refine zU ?_ ?_ ?_;omega;omega) | (refine zV ?_ ?_ ?_;omega;omega) | refine zN rfl rfl rfl ?_ | refine zD ?_ | refine zE ?_ | refine zF ?_ | intro _);conv=>whnf)
    refine PSeq.keep (fun n : Int => [(3, .int .i64 n)]) (fun n => t.gre = Trm.gres t.t n) ?_ ?_
    · conv => whnf
      repeat' (first | ((first | ((first | (apply zY;intro hg) | apply zZ);exact stA) | (refine zW ?_ ?_;exact gA) | refine zH rfl ?_ | refine zA ?_ | refine zI bA ?_ | refine zI rfl ?_ | refine zJ rfl rfl ?_ | refine zB ?_ | refine zK rfl ?_ | refine zL rfl ?_ | refine zC ?_ | (refine zO ?_ ?_ ?_;omega;omega) | (refine zP ?_ ?_ ?_;omega;omega) | refine zM rfl ?_ | (refine zQ ?_ ?_ ?_;omega;omega) | (refine zR ?_ ?_;omega) | (refine zI ?_ ?_;exact nA) | (refine zS ?_ ?_ ?_;omega;omega) | (refine zT ?_ ?_ ?_;omega;omega) | (refine zU ?_ ?_ ?_;omega;omega) | (refine zV ?_ ?_ ?_;omega;omega) | refine zN rfl rfl rfl ?_ | refine zD ?_ | refine zE ?_ | refine zF ?_ | intro _ | refine zG ?_);conv=>whnf) | (refine zX (fun hc => ?_) (fun hc => ?_)<;>(try simp only [SY] at hc)<;>first | omega | (conv=>whnf)))
      · exact joinEnd t.n (by rw [hg, if_pos hc]) wA
      · exact joinEnd (-1) (by rw [hg, if_neg hc]) wA
    · rintro n hn
      conv => whnf
      repeat ((first | ((first | (apply zY;intro hg) | apply zZ);exact stA) | (refine zW ?_ ?_;exact gA) | refine zH rfl ?_ | refine zA ?_ | refine zI bA ?_ | refine zI rfl ?_ | refine zJ rfl rfl ?_ | refine zB ?_ | refine zK rfl ?_ | refine zL rfl ?_ | refine zC ?_ | (refine zO ?_ ?_ ?_;omega;omega) | (refine zP ?_ ?_ ?_;omega;omega) | refine zM rfl ?_ | (refine zQ ?_ ?_ ?_;omega;omega) | (refine zR ?_ ?_;omega) | (refine zI ?_ ?_;exact nA) | (refine zS ?_ ?_ ?_;omega;omega) | (refine zT ?_ ?_ ?_;omega;omega) | (refine zU ?_ ?_ ?_;omega;omega) | (refine zV ?_ ?_ ?_;omega;omega) | refine zN rfl rfl rfl ?_ | refine zD ?_ | refine zE ?_ | refine zF ?_ | intro _);conv=>whnf)
      refine PLoop.keep [3, 4, 10, 11, 12, 13, 14, 15, 16, 17, 18, 19, 20, 21, 22, 23, 24] (fun (x : Nat × Int) => [(3, .int .i64 x.2), (4, .int .i64 x.1)]) (fun x => x.1 ≤ t.t.length ∧ t.gre = Trm.gres (t.t.drop x.1) x.2) (fun x => t.t.length - x.1) (0, n) ⟨by simp, hn⟩ wA ?_
      rintro ⟨i, m⟩ ⟨hi, hm⟩
      dsimp only at hi hm ⊢
      conv => whnf
      repeat' (first | ((first | ((first | (apply zY;intro hg) | apply zZ);focus ((conv=>whnf);(repeat ((first | (refine zW ?_ ?_;exact gA) | refine zH rfl ?_ | refine zA ?_ | refine zI bA ?_ | refine zI rfl ?_ | refine zJ rfl rfl ?_ | refine zB ?_ | refine zK rfl ?_ | refine zL rfl ?_ | refine zC ?_ | (refine zO ?_ ?_ ?_;exact OA;exact OA) | (refine zP ?_ ?_ ?_;exact OA;exact OA) | refine zM rfl ?_ | (refine zQ ?_ ?_ ?_;exact OA;exact OA) | (refine zR ?_ ?_;exact OA) | (refine zI ?_ ?_;exact NA) | (refine zS ?_ ?_ ?_;exact OA;exact OA) | (refine zT ?_ ?_ ?_;exact OA;exact OA) | (refine zU ?_ ?_ ?_;exact OA;exact OA) | (refine zV ?_ ?_ ?_;exact OA;exact OA) | refine PCall.pure (ih' _ (List.getElem_mem _)) (WkT.refl _) ?_ | refine PCall.pure (ih' _ (List.getElem_mem _)) cA ?_ | intro _);conv=>whnf));first | exact PShift.same | exact PShift.lit | exact PShift.ep)) | (refine zW ?_ ?_;exact gA) | refine zH rfl ?_ | refine zA ?_ | refine zI bA ?_ | refine zI rfl ?_ | refine zJ rfl rfl ?_ | refine zB ?_ | refine zK rfl ?_ | refine zL rfl ?_ | refine zC ?_ | (refine zO ?_ ?_ ?_;omega;omega) | (refine zP ?_ ?_ ?_;omega;omega) | refine zM rfl ?_ | (refine zQ ?_ ?_ ?_;omega;omega) | (refine zR ?_ ?_;omega) | (refine zI ?_ ?_;exact nA) | (refine zS ?_ ?_ ?_;omega;omega) | (refine zT ?_ ?_ ?_;omega;omega) | (refine zU ?_ ?_ ?_;omega;omega) | (refine zV ?_ ?_ ?_;omega;omega) | refine PCall.pure (ih' _ (List.getElem_mem _)) (WkT.refl _) ?_ | refine PCall.pure (ih' _ (List.getElem_mem _)) cA ?_ | refine zN rfl rfl rfl ?_ | refine zD ?_ | refine zE ?_ | refine zF ?_ | intro _ | refine zG ?_);conv=>whnf) | (refine zX (fun hc => ?_) (fun hc => ?_)<;>(try simp only [SY] at hc)<;>first | omega | (conv=>whnf)))
      · rw [drop_at (show i < t.t.length by omega), Trm.gres] at hm
        exact loopTo (i + 1, max m t.t[i].gre) ⟨by show i + 1 ≤ _; omega, hm⟩ (by show t.t.length - (i + 1) < t.t.length - i; omega) wA
      · rw [List.drop_of_length_le (by omega), Trm.gres] at hm
        exact PRet.pure (Wk.int hm.symm)
def nullD : Datum := .mk 4 0 0 [] []
theorem nullD_right : nullD.rightD 0 = true := by decide
theorem nullD_wk (tk : Option Tok) : Wk (.sl 5 [.agg [.int .i64 4, .int .i64 0, .int .i64 0, .str [], .nil]] tk) (.sl 5 [Datum.pv nullD] none) := by
  refine Wk.trans (Wk.tok _ _ _) (Wk.row (.cons (.cons (Wk.refl _) (.cons (Wk.refl _) (.cons (Wk.refl _) (.cons (Wk.refl _) (.cons (Wk.nil' rfl) .nil))))) .nil))
theorem check_at (p : Prog) (cs : List Datum) (level : Int) (hb : p.body.bulk ≤ 1000000000) (hl : cs.length ≤ 1000000000) : ACallP Tryz.prog 18 [.agg (.sl 5 (cs.map Datum.pv) none :: p.body.cells), .int .i64 level] (.int .i64 (checkP ⟨cs, p.body⟩ level)) := checkp_c ⟨cs, p.body⟩ level hb hl
end Go.Cb
namespace Go.Cb
open Go.Proofs
set_option maxRecDepth 100000
set_option maxHeartbeats 4000000
theorem check_tk (p : Prog) (cs : List Datum) (tk : Option Tok) (level : Int) (hb : p.body.bulk ≤ 1000000000) (hl : cs.length ≤ 1000000000) : ACallP Tryz.prog 18 [.agg (.sl 5 (cs.map Datum.pv) tk :: p.body.cells), .int .i64 level] (.int .i64 (checkP ⟨cs, p.body⟩ level)) :=
  ACall.wk (check_at p cs level hb hl) (.cons (Wk.agg (.cons (Wk.tok _ _ _) (WkL.refl _))) (WkT.refl _))
theorem termConsts_c (p : Prog) (level : Int) (hbb : Datum.bulks p.consts + p.body.bulk ≤ 1048576) : ACallP Tryz.prog 3 [.agg p.cells, .int .i64 level] (.bool true) := by
  have hlen := Datum.bulks_length p.consts
  have he := check_eq p level
  refine ACall.of_body tt_ok Tryz.func3 rfl rfl (n := 81) rfl rfl ?_
  conv => whnf
  repeat ((first | ((first | (apply zY;intro hg) | apply zZ);focus ((conv=>whnf);(repeat ((first | (refine zW ?_ ?_;exact gA) | refine zH rfl ?_ | refine zA ?_ | refine zI bA ?_ | refine zI rfl ?_ | refine zJ rfl rfl ?_ | refine zB ?_ | refine zK rfl ?_ | refine zL rfl ?_ | refine zC ?_ | (refine zO ?_ ?_ ?_;exact OA;exact OA) | (refine zP ?_ ?_ ?_;exact OA;exact OA) | refine zM rfl ?_ | (refine zQ ?_ ?_ ?_;exact OA;exact OA) | (refine zR ?_ ?_;exact OA) | (refine zI ?_ ?_;exact NA) | (refine zS ?_ ?_ ?_;exact OA;exact OA) | (refine zT ?_ ?_ ?_;exact OA;exact OA) | (refine zU ?_ ?_ ?_;exact OA;exact OA) | (refine zV ?_ ?_ ?_;exact OA;exact OA) | refine PCall.pure (awake_c) (WkT.refl _) ?_ | refine PCall.pure (few_c p.body 300 (by omega) (by omega)) (WkT.refl _) ?_ | refine PCall.pure (FewAll_c p.consts 2000 (by omega) (by omega)) (WkT.refl _) ?_ | refine PCall.pure (checkp_c p level (by omega) (by omega)) (WkT.refl _) ?_ | intro _);conv=>whnf));first | exact PShift.same | exact PShift.lit | exact PShift.ep)) | (refine zW ?_ ?_;exact gA) | refine zH rfl ?_ | refine zA ?_ | refine zI bA ?_ | refine zI rfl ?_ | refine zJ rfl rfl ?_ | refine zB ?_ | refine zK rfl ?_ | refine zL rfl ?_ | refine zC ?_ | (refine zO ?_ ?_ ?_;omega;omega) | (refine zP ?_ ?_ ?_;omega;omega) | refine zM rfl ?_ | (refine zQ ?_ ?_ ?_;omega;omega) | (refine zR ?_ ?_;omega) | (refine zI ?_ ?_;exact nA) | (refine zS ?_ ?_ ?_;omega;omega) | (refine zT ?_ ?_ ?_;omega;omega) | (refine zU ?_ ?_ ?_;omega;omega) | (refine zV ?_ ?_ ?_;omega;omega) | refine PCall.pure (awake_c) (WkT.refl _) ?_ | refine PCall.pure (few_c p.body 300 (by omega) (by omega)) (WkT.refl _) ?_ | refine PCall.pure (FewAll_c p.consts 2000 (by omega) (by omega)) (WkT.refl _) ?_ | refine PCall.pure (checkp_c p level (by omega) (by omega)) (WkT.refl _) ?_ | refine zN rfl rfl rfl ?_ | refine zD ?_ | refine zE ?_ | refine zF ?_ | refine PDraw.sP (some 46) rfl [7] [8] tt_ok mixed ?_ | refine PDraw.sP (some 53) rfl [] [] tt_ok mixed ?_ | intro _);conv=>whnf)
  conv => whnf
  repeat' (first | ((first | ((first | (apply zY;intro hg) | apply zZ);focus ((conv=>whnf);(repeat ((first | (refine zW ?_ ?_;exact gA) | refine zH rfl ?_ | refine zA ?_ | refine zI bA ?_ | refine zI rfl ?_ | refine zJ rfl rfl ?_ | refine zB ?_ | refine zK rfl ?_ | refine zL rfl ?_ | refine zC ?_ | (refine zO ?_ ?_ ?_;exact OA;exact OA) | (refine zP ?_ ?_ ?_;exact OA;exact OA) | refine zM rfl ?_ | (refine zQ ?_ ?_ ?_;exact OA;exact OA) | (refine zR ?_ ?_;exact OA) | (refine zI ?_ ?_;exact NA) | (refine zS ?_ ?_ ?_;exact OA;exact OA) | (refine zT ?_ ?_ ?_;exact OA;exact OA) | (refine zU ?_ ?_ ?_;exact OA;exact OA) | (refine zV ?_ ?_ ?_;exact OA;exact OA) | refine PCall.pure (awake_c) (WkT.refl _) ?_ | refine PCall.pure (few_c p.body 300 (by omega) (by omega)) (WkT.refl _) ?_ | refine PCall.pure (FewAll_c p.consts 2000 (by omega) (by omega)) (WkT.refl _) ?_ | refine PCall.pure (checkp_c p level (by omega) (by omega)) (WkT.refl _) ?_ | intro _);conv=>whnf));first | exact PShift.same | exact PShift.lit | exact PShift.ep)) | (refine zW ?_ ?_;exact gA) | refine zH rfl ?_ | refine zA ?_ | refine zI bA ?_ | refine zI rfl ?_ | refine zJ rfl rfl ?_ | refine zB ?_ | refine zK rfl ?_ | refine zL rfl ?_ | refine zC ?_ | (refine zO ?_ ?_ ?_;omega;omega) | (refine zP ?_ ?_ ?_;omega;omega) | refine zM rfl ?_ | (refine zQ ?_ ?_ ?_;omega;omega) | (refine zR ?_ ?_;omega) | (refine zI ?_ ?_;exact nA) | (refine zS ?_ ?_ ?_;omega;omega) | (refine zT ?_ ?_ ?_;omega;omega) | (refine zU ?_ ?_ ?_;omega;omega) | (refine zV ?_ ?_ ?_;omega;omega) | refine PCall.pure (awake_c) (WkT.refl _) ?_ | refine PCall.pure (few_c p.body 300 (by omega) (by omega)) (WkT.refl _) ?_ | refine PCall.pure (FewAll_c p.consts 2000 (by omega) (by omega)) (WkT.refl _) ?_ | refine PCall.pure (checkp_c p level (by omega) (by omega)) (WkT.refl _) ?_ | refine zN rfl rfl rfl ?_ | refine zD ?_ | refine zE ?_ | refine zF ?_ | refine PDraw.sP (some 46) rfl [7] [8] tt_ok mixed ?_ | refine PDraw.sP (some 53) rfl [] [] tt_ok mixed ?_ | intro _ | refine zG ?_);conv=>whnf) | (refine zX (fun hc => ?_) (fun hc => ?_)<;>(try simp only [SY] at hc)<;>first | omega | (conv=>whnf)))
  · exact PRet.pure (Wk.refl _)
  have h0 : checkP p level = 0 := hc.2
  have hR : RightP p level := (checkD_right p level).1 (by rw [← he]; exact h0)
  have hg := hR.gre
  have hg1 := Trm.gre_ge p.body hR.2.2.1
  refine PDraw.sF (some 27) rfl [] [0,3,6,9] [] [10] [11] tt_ok mixed ?_
  conv=>whnf
  repeat ((first | ((first | (apply zY;intro hg) | apply zZ);focus ((conv=>whnf);(repeat ((first | (refine zW ?_ ?_;exact gA) | refine zH rfl ?_ | refine zA ?_ | refine zI bA ?_ | refine zI rfl ?_ | refine zJ rfl rfl ?_ | refine zB ?_ | refine zK rfl ?_ | refine zL rfl ?_ | refine zC ?_ | (refine zO ?_ ?_ ?_;exact OA;exact OA) | (refine zP ?_ ?_ ?_;exact OA;exact OA) | refine zM rfl ?_ | (refine zQ ?_ ?_ ?_;exact OA;exact OA) | (refine zR ?_ ?_;exact OA) | (refine zI ?_ ?_;exact NA) | (refine zS ?_ ?_ ?_;exact OA;exact OA) | (refine zT ?_ ?_ ?_;exact OA;exact OA) | (refine zU ?_ ?_ ?_;exact OA;exact OA) | (refine zV ?_ ?_ ?_;exact OA;exact OA) | refine PCall.pure (awake_c) (WkT.refl _) ?_ | refine PCall.pure (few_c p.body 300 (by omega) (by omega)) (WkT.refl _) ?_ | refine PCall.pure (FewAll_c p.consts 2000 (by omega) (by omega)) (WkT.refl _) ?_ | refine PCall.pure (checkp_c p level (by omega) (by omega)) (WkT.refl _) ?_ | intro _);conv=>whnf));first | exact PShift.same | exact PShift.lit | exact PShift.ep)) | (refine zW ?_ ?_;exact gA) | refine zH rfl ?_ | refine zA ?_ | refine zI bA ?_ | refine zI rfl ?_ | refine zJ rfl rfl ?_ | refine zB ?_ | refine zK rfl ?_ | refine zL rfl ?_ | refine zC ?_ | (refine zO ?_ ?_ ?_;omega;omega) | (refine zP ?_ ?_ ?_;omega;omega) | refine zM rfl ?_ | (refine zQ ?_ ?_ ?_;omega;omega) | (refine zR ?_ ?_;omega) | (refine zI ?_ ?_;exact nA) | (refine zS ?_ ?_ ?_;omega;omega) | (refine zT ?_ ?_ ?_;omega;omega) | (refine zU ?_ ?_ ?_;omega;omega) | (refine zV ?_ ?_ ?_;omega;omega) | refine PCall.pure (awake_c) (WkT.refl _) ?_ | refine PCall.pure (few_c p.body 300 (by omega) (by omega)) (WkT.refl _) ?_ | refine PCall.pure (FewAll_c p.consts 2000 (by omega) (by omega)) (WkT.refl _) ?_ | refine PCall.pure (checkp_c p level (by omega) (by omega)) (WkT.refl _) ?_ | refine zN rfl rfl rfl ?_ | refine zD ?_ | refine zE ?_ | refine zF ?_ | refine PDraw.sP (some 46) rfl [7] [8] tt_ok mixed ?_ | refine PDraw.sP (some 53) rfl [] [] tt_ok mixed ?_ | intro _);conv=>whnf)
  rename_i b tk htk
  refine PAppend.list (l := ([] : List Datum)) (f := Datum.pv) htk (by simp; omega) (by show _ * 64 ≤ _; simp; omega) ?_
  intro t2 ht2
  conv => whnf
  repeat ((first | ((first | (apply zY;intro hg) | apply zZ);focus ((conv=>whnf);(repeat ((first | (refine zW ?_ ?_;exact gA) | refine zH rfl ?_ | refine zA ?_ | refine zI bA ?_ | refine zI rfl ?_ | refine zJ rfl rfl ?_ | refine zB ?_ | refine zK rfl ?_ | refine zL rfl ?_ | refine zC ?_ | (refine zO ?_ ?_ ?_;exact OA;exact OA) | (refine zP ?_ ?_ ?_;exact OA;exact OA) | refine zM rfl ?_ | (refine zQ ?_ ?_ ?_;exact OA;exact OA) | (refine zR ?_ ?_;exact OA) | (refine zI ?_ ?_;exact NA) | (refine zS ?_ ?_ ?_;exact OA;exact OA) | (refine zT ?_ ?_ ?_;exact OA;exact OA) | (refine zU ?_ ?_ ?_;exact OA;exact OA) | (refine zV ?_ ?_ ?_;exact OA;exact OA) | refine PCall.pure (awake_c) (WkT.refl _) ?_ | refine PCall.pure (few_c p.body 300 (by omega) (by omega)) (WkT.refl _) ?_ | refine PCall.pure (FewAll_c p.consts 2000 (by omega) (by omega)) (WkT.refl _) ?_ | refine PCall.pure (checkp_c p level (by omega) (by omega)) (WkT.refl _) ?_ | intro _);conv=>whnf));first | exact PShift.same | exact PShift.lit | exact PShift.ep)) | (refine zW ?_ ?_;exact gA) | refine zH rfl ?_ | refine zA ?_ | refine zI bA ?_ | refine zI rfl ?_ | refine zJ rfl rfl ?_ | refine zB ?_ | refine zK rfl ?_ | refine zL rfl ?_ | refine zC ?_ | (refine zO ?_ ?_ ?_;omega;omega) | (refine zP ?_ ?_ ?_;omega;omega) | refine zM rfl ?_ | (refine zQ ?_ ?_ ?_;omega;omega) | (refine zR ?_ ?_;omega) | (refine zI ?_ ?_;exact nA) | (refine zS ?_ ?_ ?_;omega;omega) | (refine zT ?_ ?_ ?_;omega;omega) | (refine zU ?_ ?_ ?_;omega;omega) | (refine zV ?_ ?_ ?_;omega;omega) | refine PCall.pure (awake_c) (WkT.refl _) ?_ | refine PCall.pure (few_c p.body 300 (by omega) (by omega)) (WkT.refl _) ?_ | refine PCall.pure (FewAll_c p.consts 2000 (by omega) (by omega)) (WkT.refl _) ?_ | refine PCall.pure (checkp_c p level (by omega) (by omega)) (WkT.refl _) ?_ | refine zN rfl rfl rfl ?_ | refine zD ?_ | refine zE ?_ | refine zF ?_ | refine PDraw.sP (some 46) rfl [7] [8] tt_ok mixed ?_ | refine PDraw.sP (some 53) rfl [] [] tt_ok mixed ?_ | intro _);conv=>whnf)
  refine PAppend.one (f := Datum.pv) nullD ht2 (nullD_wk _) (by simp; omega) (by show _ * 64 ≤ _; simp; omega) ?_
  intro t3 ht3
  conv => whnf
  repeat ((first | ((first | (apply zY;intro hg) | apply zZ);focus ((conv=>whnf);(repeat ((first | (refine zW ?_ ?_;exact gA) | refine zH rfl ?_ | refine zA ?_ | refine zI bA ?_ | refine zI rfl ?_ | refine zJ rfl rfl ?_ | refine zB ?_ | refine zK rfl ?_ | refine zL rfl ?_ | refine zC ?_ | (refine zO ?_ ?_ ?_;exact OA;exact OA) | (refine zP ?_ ?_ ?_;exact OA;exact OA) | refine zM rfl ?_ | (refine zQ ?_ ?_ ?_;exact OA;exact OA) | (refine zR ?_ ?_;exact OA) | (refine zI ?_ ?_;exact NA) | (refine zS ?_ ?_ ?_;exact OA;exact OA) | (refine zT ?_ ?_ ?_;exact OA;exact OA) | (refine zU ?_ ?_ ?_;exact OA;exact OA) | (refine zV ?_ ?_ ?_;exact OA;exact OA) | refine PCall.pure (awake_c) (WkT.refl _) ?_ | refine PCall.pure (few_c p.body 300 (by omega) (by omega)) (WkT.refl _) ?_ | refine PCall.pure (FewAll_c p.consts 2000 (by omega) (by omega)) (WkT.refl _) ?_ | refine PCall.pure (checkp_c p level (by omega) (by omega)) (WkT.refl _) ?_ | intro _);conv=>whnf));first | exact PShift.same | exact PShift.lit | exact PShift.ep)) | (refine zW ?_ ?_;exact gA) | refine zH rfl ?_ | refine zA ?_ | refine zI bA ?_ | refine zI rfl ?_ | refine zJ rfl rfl ?_ | refine zB ?_ | refine zK rfl ?_ | refine zL rfl ?_ | refine zC ?_ | (refine zO ?_ ?_ ?_;omega;omega) | (refine zP ?_ ?_ ?_;omega;omega) | refine zM rfl ?_ | (refine zQ ?_ ?_ ?_;omega;omega) | (refine zR ?_ ?_;omega) | (refine zI ?_ ?_;exact nA) | (refine zS ?_ ?_ ?_;omega;omega) | (refine zT ?_ ?_ ?_;omega;omega) | (refine zU ?_ ?_ ?_;omega;omega) | (refine zV ?_ ?_ ?_;omega;omega) | refine PCall.pure (awake_c) (WkT.refl _) ?_ | refine PCall.pure (few_c p.body 300 (by omega) (by omega)) (WkT.refl _) ?_ | refine PCall.pure (FewAll_c p.consts 2000 (by omega) (by omega)) (WkT.refl _) ?_ | refine PCall.pure (checkp_c p level (by omega) (by omega)) (WkT.refl _) ?_ | refine zN rfl rfl rfl ?_ | refine zD ?_ | refine zE ?_ | refine zF ?_ | refine PDraw.sP (some 46) rfl [7] [8] tt_ok mixed ?_ | refine PDraw.sP (some 53) rfl [] [] tt_ok mixed ?_ | intro _);conv=>whnf)
  conv => whnf
  repeat' (first | ((first | ((first | (apply zY;intro hg) | apply zZ);focus ((conv=>whnf);(repeat ((first | (refine zW ?_ ?_;exact gA) | refine zH rfl ?_ | refine zA ?_ | refine zI bA ?_ | refine zI rfl ?_ | refine zJ rfl rfl ?_ | refine zB ?_ | refine zK rfl ?_ | refine zL rfl ?_ | refine zC ?_ | (refine zO ?_ ?_ ?_;exact OA;exact OA) | (refine zP ?_ ?_ ?_;exact OA;exact OA) | refine zM rfl ?_ | (refine zQ ?_ ?_ ?_;exact OA;exact OA) | (refine zR ?_ ?_;exact OA) | (refine zI ?_ ?_;exact NA) | (refine zS ?_ ?_ ?_;exact OA;exact OA) | (refine zT ?_ ?_ ?_;exact OA;exact OA) | (refine zU ?_ ?_ ?_;exact OA;exact OA) | (refine zV ?_ ?_ ?_;exact OA;exact OA) | refine PCall.pure (greatest_c p.body) (WkT.refl _) ?_ | intro _);conv=>whnf));first | exact PShift.same | exact PShift.lit | exact PShift.ep)) | (refine zW ?_ ?_;exact gA) | refine zH rfl ?_ | refine zA ?_ | refine zI bA ?_ | refine zI rfl ?_ | refine zJ rfl rfl ?_ | refine zB ?_ | refine zK rfl ?_ | refine zL rfl ?_ | refine zC ?_ | (refine zO ?_ ?_ ?_;omega;omega) | (refine zP ?_ ?_ ?_;omega;omega) | refine zM rfl ?_ | (refine zQ ?_ ?_ ?_;omega;omega) | (refine zR ?_ ?_;omega) | (refine zI ?_ ?_;exact nA) | (refine zS ?_ ?_ ?_;omega;omega) | (refine zT ?_ ?_ ?_;omega;omega) | (refine zU ?_ ?_ ?_;omega;omega) | (refine zV ?_ ?_ ?_;omega;omega) | refine PCall.pure (greatest_c p.body) (WkT.refl _) ?_ | refine zN rfl rfl rfl ?_ | refine zD ?_ | refine zE ?_ | refine zF ?_ | refine PDraw.sP (some 46) rfl [7] [8] tt_ok mixed ?_ | refine PDraw.sP (some 53) rfl [] [] tt_ok mixed ?_ | intro _ | refine zG ?_);conv=>whnf) | (refine zX (fun hc => ?_) (fun hc => ?_)<;>(try simp only [SY] at hc)<;>first | omega | (conv=>whnf)))
  have hl3 : ([] ++ p.consts ++ [nullD]).length ≤ 1000000000 := by simp; omega
  have hrt : ∀ n, (p.consts.take n).length ≤ 1000000000 := fun n => by rw [List.length_take]; omega
  conv => whnf
  repeat' (first | ((first | ((first | (apply zY;intro hg) | apply zZ);focus ((conv=>whnf);(repeat ((first | (refine zW ?_ ?_;exact gA) | refine zH rfl ?_ | refine zA ?_ | refine zI bA ?_ | refine zI rfl ?_ | refine zJ rfl rfl ?_ | refine zB ?_ | refine zK rfl ?_ | refine zL rfl ?_ | refine zC ?_ | (refine zO ?_ ?_ ?_;exact OA;exact OA) | (refine zP ?_ ?_ ?_;exact OA;exact OA) | refine zM rfl ?_ | (refine zQ ?_ ?_ ?_;exact OA;exact OA) | (refine zR ?_ ?_;exact OA) | (refine zI ?_ ?_;exact NA) | (refine zS ?_ ?_ ?_;exact OA;exact OA) | (refine zT ?_ ?_ ?_;exact OA;exact OA) | (refine zU ?_ ?_ ?_;exact OA;exact OA) | (refine zV ?_ ?_ ?_;exact OA;exact OA) | refine PCall.pure (greatest_c p.body) (WkT.refl _) ?_ | refine PCall.pure (check_at p _ level (by omega) (hrt _)) (WkT.refl _) ?_ | refine PCall.pure (check_tk p ([] ++ p.consts ++ [nullD]) (some t3) level (by omega) hl3) (WkT.refl _) ?_ | intro _);conv=>whnf));first | exact PShift.same | exact PShift.lit | exact PShift.ep)) | (refine zW ?_ ?_;exact gA) | refine zH rfl ?_ | refine zA ?_ | refine zI bA ?_ | refine zI rfl ?_ | refine zJ rfl rfl ?_ | refine zB ?_ | refine zK rfl ?_ | refine zL rfl ?_ | refine zC ?_ | (refine zO ?_ ?_ ?_;omega;omega) | (refine zP ?_ ?_ ?_;omega;omega) | refine zM rfl ?_ | (refine zQ ?_ ?_ ?_;omega;omega) | (refine zR ?_ ?_;omega) | (refine zI ?_ ?_;exact nA) | (refine zS ?_ ?_ ?_;omega;omega) | (refine zT ?_ ?_ ?_;omega;omega) | (refine zU ?_ ?_ ?_;omega;omega) | (refine zV ?_ ?_ ?_;omega;omega) | refine PCall.pure (greatest_c p.body) (WkT.refl _) ?_ | refine PCall.pure (check_at p _ level (by omega) (hrt _)) (WkT.refl _) ?_ | refine PCall.pure (check_tk p ([] ++ p.consts ++ [nullD]) (some t3) level (by omega) hl3) (WkT.refl _) ?_ | refine zN rfl rfl rfl ?_ | refine zD ?_ | refine zE ?_ | refine zF ?_ | refine PDraw.sP (some 46) rfl [7] [8] tt_ok mixed ?_ | refine PDraw.sP (some 53) rfl [] [] tt_ok mixed ?_ | intro _ | refine zG ?_);conv=>whnf) | (refine zX (fun hc => ?_) (fun hc => ?_)<;>(try simp only [SY] at hc)<;>first | omega | (conv=>whnf)))
  all_goals
    have hsub : ∀ n, ∀ d ∈ p.consts.take n, d.rightD 0 = true := fun n d hd => hR.2.1 d (List.mem_of_mem_take hd)
    have hn : (p.body.gre + 1 - 1).toNat = p.body.gre.toNat := by congr 1; omega
  · exfalso
    refine hc.2 ?_
    have h5 := check_eq ⟨p.consts.take (p.body.gre + 1 - 1).toNat, p.body⟩ level
    have h6 : ¬RightP ⟨p.consts.take (p.body.gre + 1 - 1).toNat, p.body⟩ level := by
      rw [hR.consts _ (hsub _)]
      rw [List.length_take]
      omega
    rw [h5, checkD_ill _ _ hR.1.1 hR.1.2, if_neg (fun h => h6 ((checkD_right _ _).1 h))]
  · have h7 : checkP ⟨[] ++ p.consts ++ [nullD], p.body⟩ level = 0 := by
      rw [check_eq]
      refine (checkD_right _ _).2 ((hR.consts _ ?_).2 ?_)
      · intro d hd
        simp only [List.nil_append, List.mem_append, List.mem_singleton] at hd
        rcases hd with hd | rfl
        · exact hR.2.1 d hd
        · exact nullD_right
      · simp; omega
    have h8 : checkP ⟨p.consts.take (p.body.gre + 1).toNat, p.body⟩ level = 0 := by
      rw [check_eq]
      refine (checkD_right _ _).2 ((hR.consts _ (hsub _)).2 ?_)
      rw [List.length_take]
      omega
    exact PRet.pure (Wk.bool (by rw [h7, h8]; rfl))
end Go.Cb
