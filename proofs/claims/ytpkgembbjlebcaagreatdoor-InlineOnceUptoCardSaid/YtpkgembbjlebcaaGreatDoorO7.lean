/-
  Contracts: the inliner: lists, bodies, terms.
  Contracts: variables that are assigned become boxes, the program.
  Contracts: a procedure, converted.
  Contracts: a Fix with assigned variables, converted.
  Contracts: a term, converted.
  Contracts: the document's words for the check of terms.
  Contracts: what is right names what it binds.
  Contracts: a program, converted.
  Contracts: a program, inlined.
  Contracts: the document's words for assignment conversion.
  Contracts: assignment conversion, all variables greater by the same.
  Plain law: names say nothing to the inlined program.
  Structs of numbers, bools and strings against one another.
  Contracts: the inliner's laws: the document's example, sizes, counters; names say nothing.
-/
import Derived.Laws.StructEq
import Derived.Test.YtpkgembbjlebcaaGreatDoorO6
set_option linter.unusedSimpArgs false
set_option linter.unusedVariables false
namespace Go.Cb
open Go.Proofs
set_option maxRecDepth 100000
set_option maxHeartbeats 4000000
def ThOk (B b r : Nat) (small : Int) (x : Trm) : Prop := ∀ s : InS, GoodI B s →
  ACall Tryz.prog 65 [.ptr b 0, .agg x.cells] (inG b r small s) (fun y Γ' => y = .agg (x.thr small s).1.cells ∧ Γ' = inG b r small (x.thr small s).2)
theorem allI_c (B b r : Nat) (small : Int) (l : List Trm) (hf : ∀ x ∈ l, ThOk B b r small x) (hs : ∀ x ∈ l, x.shI ∧ x.bulk ≤ B) (hl : l.length ≤ 1000000000) (s : InS) (hg : GoodI B s) :
    ACall Tryz.prog 110 [.ptr b 0, .sl 4 (l.map Trm.pv) none] (inG b r small s)
      (fun y Γ' => ∃ tk : Tok, tk.e = 26 ∧ y = .sl 4 ((Trm.thrs small l s).1.map Trm.pv) (some tk) ∧ Γ' = .tok tk :: inG b r small (Trm.thrs small l s).2) := by
  refine ACall.of_body tt_ok Tryz.func110 rfl rfl (n := 22) rfl rfl ?_
  conv => whnf
  repeat ((first | ((first | (apply zY;intro hg) | apply zZ);first | exact stA | exact stB | ((conv=>whnf);(repeat ((first | (refine zW ?_ ?_;exact gA) | refine zA ?_ | refine zH rfl ?_ | refine zB ?_ | (refine yE ?_ ?_ ?_ ?_;assumption;omega;omega) | (refine yF ?_ rfl ?_;omega) | (apply yH;assumption) | (refine yI ?_ ?_;assumption) | intro _);conv=>whnf));first | exact pS | exact pL | exact pE)) | (refine zW ?_ ?_;exact gA) | refine zH rfl ?_ | refine zA ?_ | refine zI bA ?_ | refine zI rfl ?_ | refine zJ rfl rfl ?_ | refine zB ?_ | refine zK rfl ?_ | refine zL rfl ?_ | refine zC ?_ | (refine zO ?_ ?_ ?_;omega;omega) | (refine zP ?_ ?_ ?_;omega;omega) | refine zM rfl ?_ | (refine zQ ?_ ?_ ?_;omega;omega) | (refine zR ?_ ?_;omega) | (refine zI ?_ ?_;exact nA) | (refine zS ?_ ?_ ?_;omega;omega) | (refine zT ?_ ?_ ?_;omega;omega) | (refine zU ?_ ?_ ?_;omega;omega) | (refine zV ?_ ?_ ?_;omega;omega) | (refine yA ?_ rfl ?_ ?_;assumption;exact lA) | (refine yB ?_ rfl ?_ ?_;assumption;exact lA) | (refine yC rfl ?_ ?_;exact lA) | (refine yD ?_ ?_ rfl ?_ ?_;assumption;assumption;exact lA) | (refine yE ?_ ?_ ?_ ?_;assumption;omega;omega) | (refine yF ?_ rfl ?_;omega) | (apply yH;assumption) | (refine yI ?_ ?_;assumption) | (refine yG ?_ rfl rfl rfl ?_;omega) | refine n0 ?_ | refine zN rfl rfl rfl ?_ | refine zD ?_ | refine zE ?_ | refine zF ?_ | intro _);conv=>whnf)
  refine PLoop.ghost (Ghost.nil 4 26 _) ?_
  refine PLoop.over [5, 7, 10, 11, 12, 13, 14, 15, 16, 17, 18, 19, 20] (fun x : Nat × (List Trm × Tok) × InS => [(5, .sl 4 (x.2.1.1.map Trm.pv) (some x.2.1.2)), (10, .int .i64 x.1)]) (fun x : Nat × (List Trm × Tok) × InS => .tok x.2.1.2 :: inG b r small x.2.2)
    (fun x => x.1 ≤ l.length ∧ x.2.1.2.e = 26 ∧ x.2.1.1.length = x.1 ∧ GoodI B x.2.2 ∧ Trm.thrs small l s = (x.2.1.1 ++ (Trm.thrs small (l.drop x.1) x.2.2).1, (Trm.thrs small (l.drop x.1) x.2.2).2)) (fun x => l.length - x.1) (0, ([], nilTok 4 26), s) ⟨Nat.zero_le _, rfl, rfl, hg, by simp⟩ wA ?_
  rintro ⟨i, ⟨m, tk⟩, s1⟩ ⟨hi, hte, hml, hg1, he⟩
  dsimp only at hi hte hml hg1 he ⊢
  conv => whnf
  repeat' (first | ((first | ((first | (apply zY;intro hg) | apply zZ);first | exact stA | exact stB | ((conv=>whnf);(repeat ((first | (refine zW ?_ ?_;exact gA) | refine zA ?_ | refine zH rfl ?_ | refine zB ?_ | (refine yE ?_ ?_ ?_ ?_;assumption;omega;omega) | (refine yF ?_ rfl ?_;omega) | (apply yH;assumption) | (refine yI ?_ ?_;assumption) | intro _);conv=>whnf));first | exact pS | exact pL | exact pE)) | (refine zW ?_ ?_;exact gA) | refine zH rfl ?_ | refine zA ?_ | refine zI bA ?_ | refine zI rfl ?_ | refine zJ rfl rfl ?_ | refine zB ?_ | refine zK rfl ?_ | refine zL rfl ?_ | refine zC ?_ | (refine zO ?_ ?_ ?_;omega;omega) | (refine zP ?_ ?_ ?_;omega;omega) | refine zM rfl ?_ | (refine zQ ?_ ?_ ?_;omega;omega) | (refine zR ?_ ?_;omega) | (refine zI ?_ ?_;exact nA) | (refine zS ?_ ?_ ?_;omega;omega) | (refine zT ?_ ?_ ?_;omega;omega) | (refine zU ?_ ?_ ?_;omega;omega) | (refine zV ?_ ?_ ?_;omega;omega) | (refine yA ?_ rfl ?_ ?_;assumption;exact lA) | (refine yB ?_ rfl ?_ ?_;assumption;exact lA) | (refine yC rfl ?_ ?_;exact lA) | (refine yD ?_ ?_ rfl ?_ ?_;assumption;assumption;exact lA) | (refine yE ?_ ?_ ?_ ?_;assumption;omega;omega) | (refine yF ?_ rfl ?_;omega) | (apply yH;assumption) | (refine yI ?_ ?_;assumption) | (refine yG ?_ rfl rfl rfl ?_;omega) | refine n0 ?_ | refine zN rfl rfl rfl ?_ | refine zD ?_ | refine zE ?_ | refine zF ?_ | intro _ | refine zG ?_);conv=>whnf) | (refine zX (fun hc => ?_) (fun hc => ?_)<;>(try simp only [SY] at hc)<;>first | omega | (conv=>whnf)))
  · have hlt : i < l.length := by omega
    rw [drop_at hlt, Trm.thrs] at he
    obtain ⟨q1, q2⟩ := hs _ (List.getElem_mem hlt)
    have hg2 := ((l[i]).thr_bd small B q1 q2 s1 hg1).1
    refine PCall.go (hf _ (List.getElem_mem hlt) s1 hg1) (WkT.refl _) ?_
    rintro _ _ ⟨rfl, rfl⟩
    conv => whnf
    repeat' (first | ((first | ((first | (apply zY;intro hg) | apply zZ);first | exact stA | exact stB | ((conv=>whnf);(repeat ((first | (refine zW ?_ ?_;exact gA) | refine zA ?_ | refine zH rfl ?_ | refine zB ?_ | (refine yE ?_ ?_ ?_ ?_;assumption;omega;omega) | (refine yF ?_ rfl ?_;omega) | (apply yH;assumption) | (refine yI ?_ ?_;assumption) | intro _);conv=>whnf));first | exact pS | exact pL | exact pE)) | (refine zW ?_ ?_;exact gA) | refine zH rfl ?_ | refine zA ?_ | refine zI bA ?_ | refine zI rfl ?_ | refine zJ rfl rfl ?_ | refine zB ?_ | refine zK rfl ?_ | refine zL rfl ?_ | refine zC ?_ | (refine zO ?_ ?_ ?_;omega;omega) | (refine zP ?_ ?_ ?_;omega;omega) | refine zM rfl ?_ | (refine zQ ?_ ?_ ?_;omega;omega) | (refine zR ?_ ?_;omega) | (refine zI ?_ ?_;exact nA) | (refine zS ?_ ?_ ?_;omega;omega) | (refine zT ?_ ?_ ?_;omega;omega) | (refine zU ?_ ?_ ?_;omega;omega) | (refine zV ?_ ?_ ?_;omega;omega) | (refine yA ?_ rfl ?_ ?_;assumption;exact lA) | (refine yB ?_ rfl ?_ ?_;assumption;exact lA) | (refine yC rfl ?_ ?_;exact lA) | (refine yD ?_ ?_ rfl ?_ ?_;assumption;assumption;exact lA) | (refine yE ?_ ?_ ?_ ?_;assumption;omega;omega) | (refine yF ?_ rfl ?_;omega) | (apply yH;assumption) | (refine yI ?_ ?_;assumption) | (refine yG ?_ rfl rfl rfl ?_;omega) | refine n0 ?_ | refine zN rfl rfl rfl ?_ | refine zD ?_ | refine zE ?_ | refine zF ?_ | intro _ | refine zG ?_);conv=>whnf) | (refine zX (fun hc => ?_) (fun hc => ?_)<;>(try simp only [SY] at hc)<;>first | omega | (conv=>whnf)))
    rename_i t2 ht2
    refine loopTo (i + 1, (m ++ [((l[i]).thr small s1).1], t2), ((l[i]).thr small s1).2) ⟨by show i + 1 ≤ _; omega, ht2, by simp; omega, hg2, ?_⟩ (by show l.length - (i + 1) < l.length - i; omega) wA
    rw [he]
    simp only [List.append_assoc, List.cons_append, List.nil_append]
  · rw [List.drop_of_length_le (by omega)] at he
    simp only [Trm.thrs, List.append_nil] at he
    rw [he]
    exact PRet.gen (y := .sl 4 (m.map Trm.pv) (some tk)) (Γ' := .tok tk :: inG b r small s1) (Wk.refl _) ⟨tk, hte, rfl, rfl⟩
theorem mapM_nil {α : Type} (f : α → PV) : (fun _ => none : Value → Option PV) = mapM f (fun _ => none) := by
  funext v
  unfold mapM
  split <;> rfl
def bodyI (small : Int) (lam : Trm) (xs : List Trm) (s : InS) : Trm × InS :=
  (.mk 8 0 (renewN lam.v ⟨fun _ => none, (Trm.thrs small xs { s with budget := s.budget - szI (firstT lam) }).2.next⟩).1 ((Trm.thrs small xs { s with budget := s.budget - szI (firstT lam) }).1 ++ [((firstT lam).cpy (renewN lam.v ⟨fun _ => none, (Trm.thrs small xs { s with budget := s.budget - szI (firstT lam) }).2.next⟩).2).1]),
    { (Trm.thrs small xs { s with budget := s.budget - szI (firstT lam) }).2 with next := ((firstT lam).cpy (renewN lam.v ⟨fun _ => none, (Trm.thrs small xs { s with budget := s.budget - szI (firstT lam) }).2.next⟩).2).2.next })
theorem body_c (B b r : Nat) (small : Int) (t lam : Trm) (x : Trm) (xs : List Trm) (ht : t.t = x :: xs) (hf : ∀ x ∈ xs, ThOk B b r small x) (hs : ∀ x ∈ xs, x.shI ∧ x.bulk ≤ B) (hl : t.bulk ≤ 1000000000)
    (hlam : lam.t.length = 1) (hlb : lam.bulk ≤ B) (hB : B ≤ 1000000000) (s : InS) (hg : GoodI B s) (hz : szI (firstT lam) ≤ s.budget) :
    ACall Tryz.prog 108 [.ptr b 0, .agg t.cells, .agg lam.cells] (inG b r small s) (fun y Γ' => y = .agg (bodyI small lam xs s).1.cells ∧ Γ' = inG b r small (bodyI small lam xs s).2) := by
  have hbe := t.bulk_eq
  have hbs := Trm.bulks_length t.t
  have hlbe := lam.bulk_eq
  have hl2 : 0 < lam.t.length := by omega
  have h2 : lam.t[0] = firstT lam := by rw [firstT_getD, List.getD_eq_getElem?_getD, List.getElem?_eq_getElem hl2]; rfl
  have hlb2 := Trm.bulks_mem (List.getElem_mem hl2)
  have hsz := size_c2 lam.t[0] (by omega)
  have hzp := szI_pos (firstT lam)
  have hb1 := hg.b1
  have hb0 := hg.b0
  have hlen : t.t.length = xs.length + 1 := by rw [ht]; rfl
  have hz2 : ((lam.t[0].all.length : Nat) : Int) = szI (firstT lam) := by rw [← h2]; rfl
  refine ACall.of_body tt_ok Tryz.func108 rfl rfl (n := 51) rfl rfl ?_
  conv => whnf
  repeat ((first | ((first | (apply zY;intro hg) | apply zZ);first | exact stA | exact stB | ((conv=>whnf);(repeat ((first | (refine zW ?_ ?_;exact gA) | refine pC (hsz) wR ?_ | refine zA ?_ | refine zH rfl ?_ | refine zB ?_ | (refine yE ?_ ?_ ?_ ?_;assumption;omega;omega) | (refine yF ?_ rfl ?_;omega) | (apply yH;assumption) | (refine yI ?_ ?_;assumption) | intro _);conv=>whnf));first | exact pS | exact pL | exact pE)) | (refine zW ?_ ?_;exact gA) | refine zH rfl ?_ | refine zA ?_ | refine zI bA ?_ | refine zI rfl ?_ | refine zJ rfl rfl ?_ | refine zB ?_ | refine zK rfl ?_ | refine zL rfl ?_ | refine zC ?_ | (refine zO ?_ ?_ ?_;omega;omega) | (refine zP ?_ ?_ ?_;omega;omega) | refine zM rfl ?_ | (refine zQ ?_ ?_ ?_;omega;omega) | (refine zR ?_ ?_;omega) | (refine zI ?_ ?_;exact nA) | (refine zS ?_ ?_ ?_;omega;omega) | (refine zT ?_ ?_ ?_;omega;omega) | (refine zU ?_ ?_ ?_;omega;omega) | (refine zV ?_ ?_ ?_;omega;omega) | refine pC (hsz) wR ?_ | (refine yA ?_ rfl ?_ ?_;assumption;exact lA) | (refine yB ?_ rfl ?_ ?_;assumption;exact lA) | (refine yC rfl ?_ ?_;exact lA) | (refine yD ?_ ?_ rfl ?_ ?_;assumption;assumption;exact lA) | (refine yE ?_ ?_ ?_ ?_;assumption;omega;omega) | (refine yF ?_ rfl ?_;omega) | (apply yH;assumption) | (refine yI ?_ ?_;assumption) | (refine yG ?_ rfl rfl rfl ?_;omega) | refine n0 ?_ | refine zN rfl rfl rfl ?_ | refine zD ?_ | refine zE ?_ | refine zF ?_ | refine PDraw.sP (some 11) rfl [] [14] tt_ok mixed ?_ | intro _);conv=>whnf)
  rename_i b3 b4 b5 b6
  conv => whnf
  repeat' (first | ((first | ((first | (apply zY;intro hg) | apply zZ);first | exact stA | exact stB | ((conv=>whnf);(repeat ((first | (refine zW ?_ ?_;exact gA) | refine pC (hsz) wR ?_ | refine zA ?_ | refine zH rfl ?_ | refine zB ?_ | (refine yE ?_ ?_ ?_ ?_;assumption;omega;omega) | (refine yF ?_ rfl ?_;omega) | (apply yH;assumption) | (refine yI ?_ ?_;assumption) | intro _);conv=>whnf));first | exact pS | exact pL | exact pE)) | (refine zW ?_ ?_;exact gA) | refine zH rfl ?_ | refine zA ?_ | refine zI bA ?_ | refine zI rfl ?_ | refine zJ rfl rfl ?_ | refine zB ?_ | refine zK rfl ?_ | refine zL rfl ?_ | refine zC ?_ | (refine zO ?_ ?_ ?_;omega;omega) | (refine zP ?_ ?_ ?_;omega;omega) | refine zM rfl ?_ | (refine zQ ?_ ?_ ?_;omega;omega) | (refine zR ?_ ?_;omega) | (refine zI ?_ ?_;exact nA) | (refine zS ?_ ?_ ?_;omega;omega) | (refine zT ?_ ?_ ?_;omega;omega) | (refine zU ?_ ?_ ?_;omega;omega) | (refine zV ?_ ?_ ?_;omega;omega) | refine pC (hsz) wR ?_ | (refine yA ?_ rfl ?_ ?_;assumption;exact lA) | (refine yB ?_ rfl ?_ ?_;assumption;exact lA) | (refine yC rfl ?_ ?_;exact lA) | (refine yD ?_ ?_ rfl ?_ ?_;assumption;assumption;exact lA) | (refine yE ?_ ?_ ?_ ?_;assumption;omega;omega) | (refine yF ?_ rfl ?_;omega) | (apply yH;assumption) | (refine yI ?_ ?_;assumption) | (refine yG ?_ rfl rfl rfl ?_;omega) | refine n0 ?_ | refine zN rfl rfl rfl ?_ | refine zD ?_ | refine zE ?_ | refine zF ?_ | refine PDraw.sP (some 11) rfl [] [14] tt_ok mixed ?_ | intro _ | refine zG ?_);conv=>whnf) | (refine zX (fun hc => ?_) (fun hc => ?_)<;>(try simp only [SY] at hc)<;>first | omega | (conv=>whnf)))
  refine PDraw.sF (some 25) rfl [.box b [.int .i64 small, .int .i64 (s.budget - lam.t[0].all.length), .int .i64 s.effort, .int .i64 s.next, .mp r], .mp r (.int .i64) (mapM Trm.pa s.known) []] [4,5] [] [6] [7] tt_ok mixed ?_
  conv=>whnf
  repeat ((first | ((first | (apply zY;intro hg) | apply zZ);first | exact stA | exact stB | ((conv=>whnf);(repeat ((first | (refine zW ?_ ?_;exact gA) | refine pC (hsz) wR ?_ | refine zA ?_ | refine zH rfl ?_ | refine zB ?_ | (refine yE ?_ ?_ ?_ ?_;assumption;omega;omega) | (refine yF ?_ rfl ?_;omega) | (apply yH;assumption) | (refine yI ?_ ?_;assumption) | intro _);conv=>whnf));first | exact pS | exact pL | exact pE)) | (refine zW ?_ ?_;exact gA) | refine zH rfl ?_ | refine zA ?_ | refine zI bA ?_ | refine zI rfl ?_ | refine zJ rfl rfl ?_ | refine zB ?_ | refine zK rfl ?_ | refine zL rfl ?_ | refine zC ?_ | (refine zO ?_ ?_ ?_;omega;omega) | (refine zP ?_ ?_ ?_;omega;omega) | refine zM rfl ?_ | (refine zQ ?_ ?_ ?_;omega;omega) | (refine zR ?_ ?_;omega) | (refine zI ?_ ?_;exact nA) | (refine zS ?_ ?_ ?_;omega;omega) | (refine zT ?_ ?_ ?_;omega;omega) | (refine zU ?_ ?_ ?_;omega;omega) | (refine zV ?_ ?_ ?_;omega;omega) | refine pC (hsz) wR ?_ | (refine yA ?_ rfl ?_ ?_;assumption;exact lA) | (refine yB ?_ rfl ?_ ?_;assumption;exact lA) | (refine yC rfl ?_ ?_;exact lA) | (refine yD ?_ ?_ rfl ?_ ?_;assumption;assumption;exact lA) | (refine yE ?_ ?_ ?_ ?_;assumption;omega;omega) | (refine yF ?_ rfl ?_;omega) | (apply yH;assumption) | (refine yI ?_ ?_;assumption) | (refine yG ?_ rfl rfl rfl ?_;omega) | refine n0 ?_ | refine zN rfl rfl rfl ?_ | refine zD ?_ | refine zE ?_ | refine zF ?_ | refine PDraw.sP (some 11) rfl [] [14] tt_ok mixed ?_ | intro _);conv=>whnf)
  have hd1 : List.drop 1 t.t = xs := by rw [ht]; rfl
  have hbl := bud_le (b := s.budget) (B := B) hzp
  have hg2 : GoodI B { s with budget := s.budget - szI (firstT lam) } := by
    refine ⟨hg.ok, hg.n0, ?_, ?_, ?_, hg.e0, hg.e1⟩
    · have := hg.nb; show s.next + (s.budget - szI (firstT lam)) * B ≤ _; omega
    · show 0 ≤ s.budget - szI (firstT lam); omega
    · show s.budget - szI (firstT lam) ≤ _; omega
  rw [hd1, hz2]
  have hbx : Trm.bulks t.t = x.bulk + Trm.bulks xs := by rw [ht, Trm.bulks]
  have hbxl := Trm.bulks_length xs
  refine PCall.go (allI_c B b r small xs hf hs (by omega) { s with budget := s.budget - szI (firstT lam) } hg2) (WkT.refl _) ?_
  rintro _ _ ⟨tk, hte, rfl, rfl⟩
  obtain ⟨a1, a2, a3, a4, a5⟩ := Trm.thrs_bd small B xs hs { s with budget := s.budget - szI (firstT lam) } hg2
  unfold bodyI
  generalize hLe : Trm.thrs small xs { s with budget := s.budget - szI (firstT lam) } = a at *
  obtain ⟨L, s1⟩ := a
  dsimp only at a1 a2 a3 a4 a5 ⊢
  have hn0 := a1.n0
  have hn1 := a1.nextB
  conv => whnf
  repeat' (first | ((first | ((first | (apply zY;intro hg) | apply zZ);first | exact stA | exact stB | ((conv=>whnf);(repeat ((first | (refine zW ?_ ?_;exact gA) | refine pC (hsz) wR ?_ | refine zA ?_ | refine zH rfl ?_ | refine zB ?_ | (refine yE ?_ ?_ ?_ ?_;assumption;omega;omega) | (refine yF ?_ rfl ?_;omega) | (apply yH;assumption) | (refine yI ?_ ?_;assumption) | intro _);conv=>whnf));first | exact pS | exact pL | exact pE)) | (refine zW ?_ ?_;exact gA) | refine zH rfl ?_ | refine zA ?_ | refine zI bA ?_ | refine zI rfl ?_ | refine zJ rfl rfl ?_ | refine zB ?_ | refine zK rfl ?_ | refine zL rfl ?_ | refine zC ?_ | (refine zO ?_ ?_ ?_;omega;omega) | (refine zP ?_ ?_ ?_;omega;omega) | refine zM rfl ?_ | (refine zQ ?_ ?_ ?_;omega;omega) | (refine zR ?_ ?_;omega) | (refine zI ?_ ?_;exact nA) | (refine zS ?_ ?_ ?_;omega;omega) | (refine zT ?_ ?_ ?_;omega;omega) | (refine zU ?_ ?_ ?_;omega;omega) | (refine zV ?_ ?_ ?_;omega;omega) | refine pC (hsz) wR ?_ | (refine yA ?_ rfl ?_ ?_;assumption;exact lA) | (refine yB ?_ rfl ?_ ?_;assumption;exact lA) | (refine yC rfl ?_ ?_;exact lA) | (refine yD ?_ ?_ rfl ?_ ?_;assumption;assumption;exact lA) | (refine yE ?_ ?_ ?_ ?_;assumption;omega;omega) | (refine yF ?_ rfl ?_;omega) | (apply yH;assumption) | (refine yI ?_ ?_;assumption) | (refine yG ?_ rfl rfl rfl ?_;omega) | refine n0 ?_ | refine zN rfl rfl rfl ?_ | refine zD ?_ | refine zE ?_ | refine zF ?_ | refine PDraw.sP (some 11) rfl [] [14] tt_ok mixed ?_ | intro _ | refine zG ?_);conv=>whnf) | (refine zX (fun hc => ?_) (fun hc => ?_)<;>(try simp only [SY] at hc)<;>first | omega | (conv=>whnf)))
  rename_i b7 r2 b8 b9
  rw [mapM_nil (PV.int .i64)]
  have hlv : lam.v.length + 1 ≤ lam.bulk := by omega
  refine PCall.go (renew_c b3 b8 r2 b r small s1 ⟨fun _ => none, s1.next⟩ lam.v hn0 (by show s1.next + _ ≤ _; omega) (by omega)) (WkT.refl _) ?_
  rintro _ _ ⟨rfl, rfl⟩
  obtain ⟨q1, q2⟩ := renewN_bd lam.v ⟨fun _ => none, s1.next⟩
  generalize renewN lam.v ⟨fun _ => none, s1.next⟩ = q at *
  obtain ⟨v', n1⟩ := q
  dsimp only at q1 q2 ⊢
  conv => whnf
  repeat' (first | ((first | ((first | (apply zY;intro hg) | apply zZ);first | exact stA | exact stB | ((conv=>whnf);(repeat ((first | (refine zW ?_ ?_;exact gA) | refine pC (hsz) wR ?_ | refine zA ?_ | refine zH rfl ?_ | refine zB ?_ | (refine yE ?_ ?_ ?_ ?_;assumption;omega;omega) | (refine yF ?_ rfl ?_;omega) | (apply yH;assumption) | (refine yI ?_ ?_;assumption) | intro _);conv=>whnf));first | exact pS | exact pL | exact pE)) | (refine zW ?_ ?_;exact gA) | refine zH rfl ?_ | refine zA ?_ | refine zI bA ?_ | refine zI rfl ?_ | refine zJ rfl rfl ?_ | refine zB ?_ | refine zK rfl ?_ | refine zL rfl ?_ | refine zC ?_ | (refine zO ?_ ?_ ?_;omega;omega) | (refine zP ?_ ?_ ?_;omega;omega) | refine zM rfl ?_ | (refine zQ ?_ ?_ ?_;omega;omega) | (refine zR ?_ ?_;omega) | (refine zI ?_ ?_;exact nA) | (refine zS ?_ ?_ ?_;omega;omega) | (refine zT ?_ ?_ ?_;omega;omega) | (refine zU ?_ ?_ ?_;omega;omega) | (refine zV ?_ ?_ ?_;omega;omega) | refine pC (hsz) wR ?_ | (refine yA ?_ rfl ?_ ?_;assumption;exact lA) | (refine yB ?_ rfl ?_ ?_;assumption;exact lA) | (refine yC rfl ?_ ?_;exact lA) | (refine yD ?_ ?_ rfl ?_ ?_;assumption;assumption;exact lA) | (refine yE ?_ ?_ ?_ ?_;assumption;omega;omega) | (refine yF ?_ rfl ?_;omega) | (apply yH;assumption) | (refine yI ?_ ?_;assumption) | (refine yG ?_ rfl rfl rfl ?_;omega) | refine n0 ?_ | refine zN rfl rfl rfl ?_ | refine zD ?_ | refine zE ?_ | refine zF ?_ | refine PDraw.sP (some 11) rfl [] [14] tt_ok mixed ?_ | intro _ | refine zG ?_);conv=>whnf) | (refine zX (fun hc => ?_) (fun hc => ?_)<;>(try simp only [SY] at hc)<;>first | omega | (conv=>whnf)))
  rename_i b10
  refine PDraw.sE [.tok tk, .box b10 [.fn (.func 142) [.ptr b9 0, .ptr b8 0, .ptr b10 0]], .box b9 [.fn (.func 140) [.ptr b3 0, .ptr b8 0]], .box b3 [.ptr b 0], .box b8 [.mp r2], .mp r2 (.int .i64) (mapM (PV.int .i64) n1.map) [], .box b [.int .i64 small, .int .i64 s1.budget, .int .i64 s1.effort, .int .i64 n1.next, .mp r], .mp r (.int .i64) (mapM Trm.pa s1.known) []] [2,7,8] [9,10,11] tt_ok mixed ?_
  conv=>whnf
  repeat ((first | ((first | (apply zY;intro hg) | apply zZ);first | exact stA | exact stB | ((conv=>whnf);(repeat ((first | (refine zW ?_ ?_;exact gA) | refine pC (hsz) wR ?_ | refine zA ?_ | refine zH rfl ?_ | refine zB ?_ | (refine yE ?_ ?_ ?_ ?_;assumption;omega;omega) | (refine yF ?_ rfl ?_;omega) | (apply yH;assumption) | (refine yI ?_ ?_;assumption) | intro _);conv=>whnf));first | exact pS | exact pL | exact pE)) | (refine zW ?_ ?_;exact gA) | refine zH rfl ?_ | refine zA ?_ | refine zI bA ?_ | refine zI rfl ?_ | refine zJ rfl rfl ?_ | refine zB ?_ | refine zK rfl ?_ | refine zL rfl ?_ | refine zC ?_ | (refine zO ?_ ?_ ?_;omega;omega) | (refine zP ?_ ?_ ?_;omega;omega) | refine zM rfl ?_ | (refine zQ ?_ ?_ ?_;omega;omega) | (refine zR ?_ ?_;omega) | (refine zI ?_ ?_;exact nA) | (refine zS ?_ ?_ ?_;omega;omega) | (refine zT ?_ ?_ ?_;omega;omega) | (refine zU ?_ ?_ ?_;omega;omega) | (refine zV ?_ ?_ ?_;omega;omega) | refine pC (hsz) wR ?_ | (refine yA ?_ rfl ?_ ?_;assumption;exact lA) | (refine yB ?_ rfl ?_ ?_;assumption;exact lA) | (refine yC rfl ?_ ?_;exact lA) | (refine yD ?_ ?_ rfl ?_ ?_;assumption;assumption;exact lA) | (refine yE ?_ ?_ ?_ ?_;assumption;omega;omega) | (refine yF ?_ rfl ?_;omega) | (apply yH;assumption) | (refine yI ?_ ?_;assumption) | (refine yG ?_ rfl rfl rfl ?_;omega) | refine n0 ?_ | refine zN rfl rfl rfl ?_ | refine zD ?_ | refine zE ?_ | refine zF ?_ | refine PDraw.sP (some 11) rfl [] [14] tt_ok mixed ?_ | intro _);conv=>whnf)
  refine PCall.go (copied_c b9 b10 b3 b8 r2 b r small s1 lam.t[0] (by omega) n1 (by omega) (by omega)) (WkT.refl _) ?_
  rintro _ _ ⟨rfl, rfl⟩
  rw [h2]
  generalize (firstT lam).cpy n1 = c
  have hLl : L.length ≤ 1000000000 := by
    have := Trm.thrs_len small xs { s with budget := s.budget - szI (firstT lam) }
    rw [hLe] at this
    dsimp only at this
    omega
  conv => whnf
  repeat' (first | ((first | ((first | (apply zY;intro hg) | apply zZ);first | exact stA | exact stB | ((conv=>whnf);(repeat ((first | (refine zW ?_ ?_;exact gA) | refine pC (hsz) wR ?_ | refine zA ?_ | refine zH rfl ?_ | refine zB ?_ | (refine yE ?_ ?_ ?_ ?_;assumption;omega;omega) | (refine yF ?_ rfl ?_;omega) | (apply yH;assumption) | (refine yI ?_ ?_;assumption) | intro _);conv=>whnf));first | exact pS | exact pL | exact pE)) | (refine zW ?_ ?_;exact gA) | refine zH rfl ?_ | refine zA ?_ | refine zI bA ?_ | refine zI rfl ?_ | refine zJ rfl rfl ?_ | refine zB ?_ | refine zK rfl ?_ | refine zL rfl ?_ | refine zC ?_ | (refine zO ?_ ?_ ?_;omega;omega) | (refine zP ?_ ?_ ?_;omega;omega) | refine zM rfl ?_ | (refine zQ ?_ ?_ ?_;omega;omega) | (refine zR ?_ ?_;omega) | (refine zI ?_ ?_;exact nA) | (refine zS ?_ ?_ ?_;omega;omega) | (refine zT ?_ ?_ ?_;omega;omega) | (refine zU ?_ ?_ ?_;omega;omega) | (refine zV ?_ ?_ ?_;omega;omega) | refine pC (hsz) wR ?_ | (refine yA ?_ rfl ?_ ?_;assumption;exact lA) | (refine yB ?_ rfl ?_ ?_;assumption;exact lA) | (refine yC rfl ?_ ?_;exact lA) | (refine yD ?_ ?_ rfl ?_ ?_;assumption;assumption;exact lA) | (refine yE ?_ ?_ ?_ ?_;assumption;omega;omega) | (refine yF ?_ rfl ?_;omega) | (apply yH;assumption) | (refine yI ?_ ?_;assumption) | (refine yG ?_ rfl rfl rfl ?_;omega) | refine n0 ?_ | refine zN rfl rfl rfl ?_ | refine zD ?_ | refine zE ?_ | refine zF ?_ | refine PDraw.sP (some 11) rfl [] [14] tt_ok mixed ?_ | intro _ | refine zG ?_);conv=>whnf) | (refine zX (fun hc => ?_) (fun hc => ?_)<;>(try simp only [SY] at hc)<;>first | omega | (conv=>whnf)))
  exact PRet.gen (y := .agg (Trm.mk 8 0 v' (L ++ [c.1])).cells) (Γ' := inG b r small { s1 with next := c.2.next }) TrmOf.wk ⟨rfl, rfl⟩
theorem thOk (B b r : Nat) (small : Int) (hB : B ≤ 1000000000) (t : Trm) : t.shI → t.bulk ≤ B → ThOk B b r small t := by
  induction t using Trm.ind with
  | h t ih =>
    intro hs hb s hg
    have hbe := t.bulk_eq
    have hbs := Trm.bulks_length t.t
    have hs0 := hs
    rw [Trm.shI_eq] at hs
    obtain ⟨⟨s1, s2, s3, s4⟩, s5⟩ := hs
    have hf : ∀ x ∈ t.t, ThOk B b r small x := fun x hx => ih x hx (Trm.shIs_mem s5 x hx) (by have := Trm.bulks_mem hx; omega)
    have hp : ∀ x ∈ t.t, x.shI ∧ x.bulk ≤ B := fun x hx => ⟨Trm.shIs_mem s5 x hx, by have := Trm.bulks_mem hx; omega⟩
    have hthr : t.thr small s = if s.effort = 0 then (t, s) else
        match calledI small t { s with effort := s.effort - 1 } with
        | some lam => match t.t with
          | [] => (t, s)
          | _ :: xs => bodyI small lam xs { s with effort := s.effort - 1 }
        | none => if t.op = 9 then (.mk t.op t.n t.v (Trm.thrs small t.t (learnI t.op t.v t.t { s with effort := s.effort - 1 })).1, (Trm.thrs small t.t (learnI t.op t.v t.t { s with effort := s.effort - 1 })).2)
          else (.mk t.op t.n t.v (Trm.thrL small (learnI t.op t.v t.t) t.t { s with effort := s.effort - 1 }).1, (Trm.thrL small (learnI t.op t.v t.t) t.t { s with effort := s.effort - 1 }).2) := by
      cases t; rw [Trm.thr]; rfl
    have he0 := hg.e0
    have he1 := hg.e1
    have h5 : t.op = 5 → 1 ≤ t.t.length := fun h => List.length_pos_iff.2 (s1 h)
    refine ACall.of_body tt_ok Tryz.func65 rfl rfl (n := 88) rfl rfl ?_
    conv => whnf
    repeat ((first | ((first | (apply zY;intro hg) | apply zZ);first | exact stA | exact stB | ((conv=>whnf);(repeat ((first | (refine zW ?_ ?_;exact gA) | refine pC (cloneInt_c t.v (by omega)) wR ?_ | refine zA ?_ | refine zH rfl ?_ | refine zB ?_ | (refine yE ?_ ?_ ?_ ?_;assumption;omega;omega) | (refine yF ?_ rfl ?_;omega) | (apply yH;assumption) | (refine yI ?_ ?_;assumption) | intro _);conv=>whnf));first | exact pS | exact pL | exact pE)) | (refine zW ?_ ?_;exact gA) | refine zH rfl ?_ | refine zA ?_ | refine zI bA ?_ | refine zI rfl ?_ | refine zJ rfl rfl ?_ | refine zB ?_ | refine zK rfl ?_ | refine zL rfl ?_ | refine zC ?_ | (refine zO ?_ ?_ ?_;omega;omega) | (refine zP ?_ ?_ ?_;omega;omega) | refine zM rfl ?_ | (refine zQ ?_ ?_ ?_;omega;omega) | (refine zR ?_ ?_;omega) | (refine zI ?_ ?_;exact nA) | (refine zS ?_ ?_ ?_;omega;omega) | (refine zT ?_ ?_ ?_;omega;omega) | (refine zU ?_ ?_ ?_;omega;omega) | (refine zV ?_ ?_ ?_;omega;omega) | refine pC (cloneInt_c t.v (by omega)) wR ?_ | (refine yA ?_ rfl ?_ ?_;assumption;exact lA) | (refine yB ?_ rfl ?_ ?_;assumption;exact lA) | (refine yC rfl ?_ ?_;exact lA) | (refine yD ?_ ?_ rfl ?_ ?_;assumption;assumption;exact lA) | (refine yE ?_ ?_ ?_ ?_;assumption;omega;omega) | (refine yF ?_ rfl ?_;omega) | (apply yH;assumption) | (refine yI ?_ ?_;assumption) | (refine yG ?_ rfl rfl rfl ?_;omega) | refine n0 ?_ | refine zN rfl rfl rfl ?_ | refine zD ?_ | refine zE ?_ | refine zF ?_ | refine PDraw.sP (some 36) rfl [8] [9] tt_ok mixed ?_ | intro _);conv=>whnf)
    rename_i b3 b4
    conv => whnf
    repeat' (first | ((first | ((first | (apply zY;intro hg) | apply zZ);first | exact stA | exact stB | ((conv=>whnf);(repeat ((first | (refine zW ?_ ?_;exact gA) | refine pC (cloneInt_c t.v (by omega)) wR ?_ | refine zA ?_ | refine zH rfl ?_ | refine zB ?_ | (refine yE ?_ ?_ ?_ ?_;assumption;omega;omega) | (refine yF ?_ rfl ?_;omega) | (apply yH;assumption) | (refine yI ?_ ?_;assumption) | intro _);conv=>whnf));first | exact pS | exact pL | exact pE)) | (refine zW ?_ ?_;exact gA) | refine zH rfl ?_ | refine zA ?_ | refine zI bA ?_ | refine zI rfl ?_ | refine zJ rfl rfl ?_ | refine zB ?_ | refine zK rfl ?_ | refine zL rfl ?_ | refine zC ?_ | (refine zO ?_ ?_ ?_;omega;omega) | (refine zP ?_ ?_ ?_;omega;omega) | refine zM rfl ?_ | (refine zQ ?_ ?_ ?_;omega;omega) | (refine zR ?_ ?_;omega) | (refine zI ?_ ?_;exact nA) | (refine zS ?_ ?_ ?_;omega;omega) | (refine zT ?_ ?_ ?_;omega;omega) | (refine zU ?_ ?_ ?_;omega;omega) | (refine zV ?_ ?_ ?_;omega;omega) | refine pC (cloneInt_c t.v (by omega)) wR ?_ | (refine yA ?_ rfl ?_ ?_;assumption;exact lA) | (refine yB ?_ rfl ?_ ?_;assumption;exact lA) | (refine yC rfl ?_ ?_;exact lA) | (refine yD ?_ ?_ rfl ?_ ?_;assumption;assumption;exact lA) | (refine yE ?_ ?_ ?_ ?_;assumption;omega;omega) | (refine yF ?_ rfl ?_;omega) | (apply yH;assumption) | (refine yI ?_ ?_;assumption) | (refine yG ?_ rfl rfl rfl ?_;omega) | refine n0 ?_ | refine zN rfl rfl rfl ?_ | refine zD ?_ | refine zE ?_ | refine zF ?_ | refine PDraw.sP (some 36) rfl [8] [9] tt_ok mixed ?_ | intro _ | refine zG ?_);conv=>whnf) | (refine zX (fun hc => ?_) (fun hc => ?_)<;>(try simp only [SY] at hc)<;>first | omega | (conv=>whnf)))
    · rw [hthr, if_pos hc]
      exact PRet.gen (y := .agg t.cells) (Γ' := inG b r small s) (Wk.refl _) ⟨rfl, rfl⟩
    rw [hthr, if_neg hc]
    have hg1 := hg.eff hc
    refine PCall.go (called_c B b r small t h5 (by omega) hB { s with effort := s.effort - 1 } hg1) (WkT.refl _) ?_
    rintro y _ ⟨hq, rfl⟩
    generalize ({ s with effort := s.effort - 1 } : InS) = sa at *
    cases hci : calledI small t sa with
    | some lam =>
      rw [hci] at hq
      obtain rfl : y = .tup [.agg lam.cells, .bool true] := hq
      obtain ⟨c1, c2, c3, c4, c5, c6, c7, c8⟩ := calledI_some hci
      obtain ⟨o1, o2, o3⟩ := hg1.ok _ _ c3
      cases htt : t.t with
      | nil => exact absurd htt (s1 c1)
      | cons x xs =>
        dsimp only
        rw [← htt]
        conv => whnf
        repeat' (first | ((first | ((first | (apply zY;intro hg) | apply zZ);first | exact stA | exact stB | ((conv=>whnf);(repeat ((first | (refine zW ?_ ?_;exact gA) | refine pC (cloneInt_c t.v (by omega)) wR ?_ | refine zA ?_ | refine zH rfl ?_ | refine zB ?_ | (refine yE ?_ ?_ ?_ ?_;assumption;omega;omega) | (refine yF ?_ rfl ?_;omega) | (apply yH;assumption) | (refine yI ?_ ?_;assumption) | intro _);conv=>whnf));first | exact pS | exact pL | exact pE)) | (refine zW ?_ ?_;exact gA) | refine zH rfl ?_ | refine zA ?_ | refine zI bA ?_ | refine zI rfl ?_ | refine zJ rfl rfl ?_ | refine zB ?_ | refine zK rfl ?_ | refine zL rfl ?_ | refine zC ?_ | (refine zO ?_ ?_ ?_;omega;omega) | (refine zP ?_ ?_ ?_;omega;omega) | refine zM rfl ?_ | (refine zQ ?_ ?_ ?_;omega;omega) | (refine zR ?_ ?_;omega) | (refine zI ?_ ?_;exact nA) | (refine zS ?_ ?_ ?_;omega;omega) | (refine zT ?_ ?_ ?_;omega;omega) | (refine zU ?_ ?_ ?_;omega;omega) | (refine zV ?_ ?_ ?_;omega;omega) | refine pC (cloneInt_c t.v (by omega)) wR ?_ | (refine yA ?_ rfl ?_ ?_;assumption;exact lA) | (refine yB ?_ rfl ?_ ?_;assumption;exact lA) | (refine yC rfl ?_ ?_;exact lA) | (refine yD ?_ ?_ rfl ?_ ?_;assumption;assumption;exact lA) | (refine yE ?_ ?_ ?_ ?_;assumption;omega;omega) | (refine yF ?_ rfl ?_;omega) | (apply yH;assumption) | (refine yI ?_ ?_;assumption) | (refine yG ?_ rfl rfl rfl ?_;omega) | refine n0 ?_ | refine zN rfl rfl rfl ?_ | refine zD ?_ | refine zE ?_ | refine zF ?_ | refine PDraw.sP (some 36) rfl [8] [9] tt_ok mixed ?_ | intro _ | refine zG ?_);conv=>whnf) | (refine zX (fun hc => ?_) (fun hc => ?_)<;>(try simp only [SY] at hc)<;>first | omega | (conv=>whnf)))
        · refine PCall.go (body_c B b r small t lam x xs htt (fun y hy => hf y (by rw [htt]; exact List.mem_cons_of_mem _ hy)) (fun y hy => hp y (by rw [htt]; exact List.mem_cons_of_mem _ hy)) (by omega) o2 o3 hB sa hg1 c8) (WkT.refl _) ?_
          rintro _ _ ⟨rfl, rfl⟩
          conv => whnf
          repeat' (first | ((first | ((first | (apply zY;intro hg) | apply zZ);first | exact stA | exact stB | ((conv=>whnf);(repeat ((first | (refine zW ?_ ?_;exact gA) | refine pC (cloneInt_c t.v (by omega)) wR ?_ | refine zA ?_ | refine zH rfl ?_ | refine zB ?_ | (refine yE ?_ ?_ ?_ ?_;assumption;omega;omega) | (refine yF ?_ rfl ?_;omega) | (apply yH;assumption) | (refine yI ?_ ?_;assumption) | intro _);conv=>whnf));first | exact pS | exact pL | exact pE)) | (refine zW ?_ ?_;exact gA) | refine zH rfl ?_ | refine zA ?_ | refine zI bA ?_ | refine zI rfl ?_ | refine zJ rfl rfl ?_ | refine zB ?_ | refine zK rfl ?_ | refine zL rfl ?_ | refine zC ?_ | (refine zO ?_ ?_ ?_;omega;omega) | (refine zP ?_ ?_ ?_;omega;omega) | refine zM rfl ?_ | (refine zQ ?_ ?_ ?_;omega;omega) | (refine zR ?_ ?_;omega) | (refine zI ?_ ?_;exact nA) | (refine zS ?_ ?_ ?_;omega;omega) | (refine zT ?_ ?_ ?_;omega;omega) | (refine zU ?_ ?_ ?_;omega;omega) | (refine zV ?_ ?_ ?_;omega;omega) | refine pC (cloneInt_c t.v (by omega)) wR ?_ | (refine yA ?_ rfl ?_ ?_;assumption;exact lA) | (refine yB ?_ rfl ?_ ?_;assumption;exact lA) | (refine yC rfl ?_ ?_;exact lA) | (refine yD ?_ ?_ rfl ?_ ?_;assumption;assumption;exact lA) | (refine yE ?_ ?_ ?_ ?_;assumption;omega;omega) | (refine yF ?_ rfl ?_;omega) | (apply yH;assumption) | (refine yI ?_ ?_;assumption) | (refine yG ?_ rfl rfl rfl ?_;omega) | refine n0 ?_ | refine zN rfl rfl rfl ?_ | refine zD ?_ | refine zE ?_ | refine zF ?_ | refine PDraw.sP (some 36) rfl [8] [9] tt_ok mixed ?_ | intro _ | refine zG ?_);conv=>whnf) | (refine zX (fun hc => ?_) (fun hc => ?_)<;>(try simp only [SY] at hc)<;>first | omega | (conv=>whnf)))
          exact PRet.gen (y := .agg (bodyI small lam xs sa).1.cells) (Γ' := inG b r small (bodyI small lam xs sa).2) (Wk.refl _) ⟨rfl, rfl⟩
    | none =>
      rw [hci] at hq
      obtain ⟨u, rfl⟩ : ∃ u : Trm, y = .tup [.agg u.cells, .bool false] := hq
      dsimp only
      conv => whnf
      repeat' (first | ((first | ((first | (apply zY;intro hg) | apply zZ);first | exact stA | exact stB | ((conv=>whnf);(repeat ((first | (refine zW ?_ ?_;exact gA) | refine pC (cloneInt_c t.v (by omega)) wR ?_ | refine zA ?_ | refine zH rfl ?_ | refine zB ?_ | (refine yE ?_ ?_ ?_ ?_;assumption;omega;omega) | (refine yF ?_ rfl ?_;omega) | (apply yH;assumption) | (refine yI ?_ ?_;assumption) | intro _);conv=>whnf));first | exact pS | exact pL | exact pE)) | (refine zW ?_ ?_;exact gA) | refine zH rfl ?_ | refine zA ?_ | refine zI bA ?_ | refine zI rfl ?_ | refine zJ rfl rfl ?_ | refine zB ?_ | refine zK rfl ?_ | refine zL rfl ?_ | refine zC ?_ | (refine zO ?_ ?_ ?_;omega;omega) | (refine zP ?_ ?_ ?_;omega;omega) | refine zM rfl ?_ | (refine zQ ?_ ?_ ?_;omega;omega) | (refine zR ?_ ?_;omega) | (refine zI ?_ ?_;exact nA) | (refine zS ?_ ?_ ?_;omega;omega) | (refine zT ?_ ?_ ?_;omega;omega) | (refine zU ?_ ?_ ?_;omega;omega) | (refine zV ?_ ?_ ?_;omega;omega) | refine pC (cloneInt_c t.v (by omega)) wR ?_ | (refine yA ?_ rfl ?_ ?_;assumption;exact lA) | (refine yB ?_ rfl ?_ ?_;assumption;exact lA) | (refine yC rfl ?_ ?_;exact lA) | (refine yD ?_ ?_ rfl ?_ ?_;assumption;assumption;exact lA) | (refine yE ?_ ?_ ?_ ?_;assumption;omega;omega) | (refine yF ?_ rfl ?_;omega) | (apply yH;assumption) | (refine yI ?_ ?_;assumption) | (refine yG ?_ rfl rfl rfl ?_;omega) | refine n0 ?_ | refine zN rfl rfl rfl ?_ | refine zD ?_ | refine zE ?_ | refine zF ?_ | refine PDraw.sP (some 36) rfl [8] [9] tt_ok mixed ?_ | intro _ | refine zG ?_);conv=>whnf) | (refine zX (fun hc => ?_) (fun hc => ?_)<;>(try simp only [SY] at hc)<;>first | omega | (conv=>whnf)))
      · have hA : (if t.op = 9 then (Trm.mk t.op t.n t.v (Trm.thrs small t.t (learnI t.op t.v t.t sa)).1, (Trm.thrs small t.t (learnI t.op t.v t.t sa)).2)
            else (.mk t.op t.n t.v (Trm.thrL small (learnI t.op t.v t.t) t.t sa).1, (Trm.thrL small (learnI t.op t.v t.t) t.t sa).2)) = (Trm.mk t.op t.n t.v (Trm.thrs small t.t (learnI t.op t.v t.t sa)).1, (Trm.thrs small t.t (learnI t.op t.v t.t sa)).2) := by
          split
          · rfl
          · have : t.t = [] := List.eq_nil_of_length_eq_zero (by omega)
            rw [this, Trm.thrL, Trm.thrs]
        rw [hA]
        refine PCall.go (learn_c b r small t s3 (by omega) sa) (WkT.refl _) ?_
        rintro _ _ ⟨rfl, rfl⟩
        have hg2 := hg1.learnT hs0 hb
        generalize learnI t.op t.v t.t sa = sb at *
        conv => whnf
        repeat' (first | ((first | ((first | (apply zY;intro hg) | apply zZ);first | exact stA | exact stB | ((conv=>whnf);(repeat ((first | (refine zW ?_ ?_;exact gA) | refine pC (cloneInt_c t.v (by omega)) wR ?_ | refine zA ?_ | refine zH rfl ?_ | refine zB ?_ | (refine yE ?_ ?_ ?_ ?_;assumption;omega;omega) | (refine yF ?_ rfl ?_;omega) | (apply yH;assumption) | (refine yI ?_ ?_;assumption) | intro _);conv=>whnf));first | exact pS | exact pL | exact pE)) | (refine zW ?_ ?_;exact gA) | refine zH rfl ?_ | refine zA ?_ | refine zI bA ?_ | refine zI rfl ?_ | refine zJ rfl rfl ?_ | refine zB ?_ | refine zK rfl ?_ | refine zL rfl ?_ | refine zC ?_ | (refine zO ?_ ?_ ?_;omega;omega) | (refine zP ?_ ?_ ?_;omega;omega) | refine zM rfl ?_ | (refine zQ ?_ ?_ ?_;omega;omega) | (refine zR ?_ ?_;omega) | (refine zI ?_ ?_;exact nA) | (refine zS ?_ ?_ ?_;omega;omega) | (refine zT ?_ ?_ ?_;omega;omega) | (refine zU ?_ ?_ ?_;omega;omega) | (refine zV ?_ ?_ ?_;omega;omega) | refine pC (cloneInt_c t.v (by omega)) wR ?_ | (refine yA ?_ rfl ?_ ?_;assumption;exact lA) | (refine yB ?_ rfl ?_ ?_;assumption;exact lA) | (refine yC rfl ?_ ?_;exact lA) | (refine yD ?_ ?_ rfl ?_ ?_;assumption;assumption;exact lA) | (refine yE ?_ ?_ ?_ ?_;assumption;omega;omega) | (refine yF ?_ rfl ?_;omega) | (apply yH;assumption) | (refine yI ?_ ?_;assumption) | (refine yG ?_ rfl rfl rfl ?_;omega) | refine n0 ?_ | refine zN rfl rfl rfl ?_ | refine zD ?_ | refine zE ?_ | refine zF ?_ | refine PDraw.sP (some 36) rfl [8] [9] tt_ok mixed ?_ | intro _ | refine zG ?_);conv=>whnf) | (refine zX (fun hc => ?_) (fun hc => ?_)<;>(try simp only [SY] at hc)<;>first | omega | (conv=>whnf)))
        refine PCall.go (allI_c B b r small t.t hf hp (by omega) sb hg2) (WkT.refl _) ?_
        rintro _ _ ⟨tk, hte, rfl, rfl⟩
        generalize Trm.thrs small t.t sb = a at *
        conv => whnf
        repeat' (first | ((first | ((first | (apply zY;intro hg) | apply zZ);first | exact stA | exact stB | ((conv=>whnf);(repeat ((first | (refine zW ?_ ?_;exact gA) | refine pC (cloneInt_c t.v (by omega)) wR ?_ | refine zA ?_ | refine zH rfl ?_ | refine zB ?_ | (refine yE ?_ ?_ ?_ ?_;assumption;omega;omega) | (refine yF ?_ rfl ?_;omega) | (apply yH;assumption) | (refine yI ?_ ?_;assumption) | intro _);conv=>whnf));first | exact pS | exact pL | exact pE)) | (refine zW ?_ ?_;exact gA) | refine zH rfl ?_ | refine zA ?_ | refine zI bA ?_ | refine zI rfl ?_ | refine zJ rfl rfl ?_ | refine zB ?_ | refine zK rfl ?_ | refine zL rfl ?_ | refine zC ?_ | (refine zO ?_ ?_ ?_;omega;omega) | (refine zP ?_ ?_ ?_;omega;omega) | refine zM rfl ?_ | (refine zQ ?_ ?_ ?_;omega;omega) | (refine zR ?_ ?_;omega) | (refine zI ?_ ?_;exact nA) | (refine zS ?_ ?_ ?_;omega;omega) | (refine zT ?_ ?_ ?_;omega;omega) | (refine zU ?_ ?_ ?_;omega;omega) | (refine zV ?_ ?_ ?_;omega;omega) | refine pC (cloneInt_c t.v (by omega)) wR ?_ | (refine yA ?_ rfl ?_ ?_;assumption;exact lA) | (refine yB ?_ rfl ?_ ?_;assumption;exact lA) | (refine yC rfl ?_ ?_;exact lA) | (refine yD ?_ ?_ rfl ?_ ?_;assumption;assumption;exact lA) | (refine yE ?_ ?_ ?_ ?_;assumption;omega;omega) | (refine yF ?_ rfl ?_;omega) | (apply yH;assumption) | (refine yI ?_ ?_;assumption) | (refine yG ?_ rfl rfl rfl ?_;omega) | refine n0 ?_ | refine zN rfl rfl rfl ?_ | refine zD ?_ | refine zE ?_ | refine zF ?_ | refine PDraw.sP (some 36) rfl [8] [9] tt_ok mixed ?_ | intro _ | refine zG ?_);conv=>whnf) | (refine zX (fun hc => ?_) (fun hc => ?_)<;>(try simp only [SY] at hc)<;>first | omega | (conv=>whnf)))
        exact PRet.gen (y := .agg (Trm.mk t.op t.n t.v a.1).cells) (Γ' := inG b r small a.2) TrmOf.wk ⟨rfl, rfl⟩
      · have hne : t.t ≠ [] := by intro h; rw [h] at hc; simp at hc
        obtain ⟨ini, la, hil⟩ : ∃ ini la, t.t = ini ++ [la] := ⟨t.t.dropLast, t.t.getLast hne, (List.dropLast_concat_getLast hne).symm⟩
        have hlen : t.t.length = ini.length + 1 := by rw [hil]; simp
        have htk : List.take (t.t.length - 1) t.t = ini := by rw [hil]; simp
        have hla : t.t[t.t.length - 1]'(by omega) = la := by simp [hil]
        have hlm : la ∈ t.t := by rw [hil]; simp
        have him : ∀ y ∈ ini, y ∈ t.t := fun y hy => by rw [hil]; simp [hy]
        have hbi : Trm.bulks t.t = Trm.bulks ini + la.bulk := by rw [hil, Trm.bulks_append]; simp [Trm.bulks]
        have hbil := Trm.bulks_length ini
        rw [if_neg hc.1]
        have hL := Trm.thrL_last small (learnI t.op t.v t.t) ini la sa
        rw [← hil] at hL
        rw [hL, htk]
        refine PCall.go (allI_c B b r small ini (fun y hy => hf y (him y hy)) (fun y hy => hp y (him y hy)) (by omega) sa hg1) (WkT.refl _) ?_
        rintro _ _ ⟨tk, hte, rfl, rfl⟩
        have hg2 := (Trm.thrs_bd small B ini (fun y hy => hp y (him y hy)) sa hg1).1
        have hal := Trm.thrs_len small ini sa
        generalize Trm.thrs small ini sa = a at *
        obtain ⟨L, sb⟩ := a
        dsimp only at hg2 hal ⊢
        conv => whnf
        repeat' (first | ((first | ((first | (apply zY;intro hg) | apply zZ);first | exact stA | exact stB | ((conv=>whnf);(repeat ((first | (refine zW ?_ ?_;exact gA) | refine pC (cloneInt_c t.v (by omega)) wR ?_ | refine zA ?_ | refine zH rfl ?_ | refine zB ?_ | (refine yE ?_ ?_ ?_ ?_;assumption;omega;omega) | (refine yF ?_ rfl ?_;omega) | (apply yH;assumption) | (refine yI ?_ ?_;assumption) | intro _);conv=>whnf));first | exact pS | exact pL | exact pE)) | (refine zW ?_ ?_;exact gA) | refine zH rfl ?_ | refine zA ?_ | refine zI bA ?_ | refine zI rfl ?_ | refine zJ rfl rfl ?_ | refine zB ?_ | refine zK rfl ?_ | refine zL rfl ?_ | refine zC ?_ | (refine zO ?_ ?_ ?_;omega;omega) | (refine zP ?_ ?_ ?_;omega;omega) | refine zM rfl ?_ | (refine zQ ?_ ?_ ?_;omega;omega) | (refine zR ?_ ?_;omega) | (refine zI ?_ ?_;exact nA) | (refine zS ?_ ?_ ?_;omega;omega) | (refine zT ?_ ?_ ?_;omega;omega) | (refine zU ?_ ?_ ?_;omega;omega) | (refine zV ?_ ?_ ?_;omega;omega) | refine pC (cloneInt_c t.v (by omega)) wR ?_ | (refine yA ?_ rfl ?_ ?_;assumption;exact lA) | (refine yB ?_ rfl ?_ ?_;assumption;exact lA) | (refine yC rfl ?_ ?_;exact lA) | (refine yD ?_ ?_ rfl ?_ ?_;assumption;assumption;exact lA) | (refine yE ?_ ?_ ?_ ?_;assumption;omega;omega) | (refine yF ?_ rfl ?_;omega) | (apply yH;assumption) | (refine yI ?_ ?_;assumption) | (refine yG ?_ rfl rfl rfl ?_;omega) | refine n0 ?_ | refine zN rfl rfl rfl ?_ | refine zD ?_ | refine zE ?_ | refine zF ?_ | refine PDraw.sP (some 36) rfl [8] [9] tt_ok mixed ?_ | intro _ | refine zG ?_);conv=>whnf) | (refine zX (fun hc => ?_) (fun hc => ?_)<;>(try simp only [SY] at hc)<;>first | omega | (conv=>whnf)))
        refine PCall.go (learn_c b r small t s3 (by omega) sb) (WkT.refl _) ?_
        rintro _ _ ⟨rfl, rfl⟩
        have hg3 := hg2.learnT hs0 hb
        generalize learnI t.op t.v t.t sb = sc at *
        conv => whnf
        repeat' (first | ((first | ((first | (apply zY;intro hg) | apply zZ);first | exact stA | exact stB | ((conv=>whnf);(repeat ((first | (refine zW ?_ ?_;exact gA) | refine pC (cloneInt_c t.v (by omega)) wR ?_ | refine zA ?_ | refine zH rfl ?_ | refine zB ?_ | (refine yE ?_ ?_ ?_ ?_;assumption;omega;omega) | (refine yF ?_ rfl ?_;omega) | (apply yH;assumption) | (refine yI ?_ ?_;assumption) | intro _);conv=>whnf));first | exact pS | exact pL | exact pE)) | (refine zW ?_ ?_;exact gA) | refine zH rfl ?_ | refine zA ?_ | refine zI bA ?_ | refine zI rfl ?_ | refine zJ rfl rfl ?_ | refine zB ?_ | refine zK rfl ?_ | refine zL rfl ?_ | refine zC ?_ | (refine zO ?_ ?_ ?_;omega;omega) | (refine zP ?_ ?_ ?_;omega;omega) | refine zM rfl ?_ | (refine zQ ?_ ?_ ?_;omega;omega) | (refine zR ?_ ?_;omega) | (refine zI ?_ ?_;exact nA) | (refine zS ?_ ?_ ?_;omega;omega) | (refine zT ?_ ?_ ?_;omega;omega) | (refine zU ?_ ?_ ?_;omega;omega) | (refine zV ?_ ?_ ?_;omega;omega) | refine pC (cloneInt_c t.v (by omega)) wR ?_ | (refine yA ?_ rfl ?_ ?_;assumption;exact lA) | (refine yB ?_ rfl ?_ ?_;assumption;exact lA) | (refine yC rfl ?_ ?_;exact lA) | (refine yD ?_ ?_ rfl ?_ ?_;assumption;assumption;exact lA) | (refine yE ?_ ?_ ?_ ?_;assumption;omega;omega) | (refine yF ?_ rfl ?_;omega) | (apply yH;assumption) | (refine yI ?_ ?_;assumption) | (refine yG ?_ rfl rfl rfl ?_;omega) | refine n0 ?_ | refine zN rfl rfl rfl ?_ | refine zD ?_ | refine zE ?_ | refine zF ?_ | refine PDraw.sP (some 36) rfl [8] [9] tt_ok mixed ?_ | intro _ | refine zG ?_);conv=>whnf) | (refine zX (fun hc => ?_) (fun hc => ?_)<;>(try simp only [SY] at hc)<;>first | omega | (conv=>whnf)))
        refine PDraw.sE [.tok tk, .box b [.int .i64 small, .int .i64 sc.budget, .int .i64 sc.effort, .int .i64 sc.next, .mp r], .mp r (.int .i64) (mapM Trm.pa sc.known) []] [9,10] [11,12,13] tt_ok mixed ?_
        conv=>whnf
        repeat ((first | ((first | (apply zY;intro hg) | apply zZ);first | exact stA | exact stB | ((conv=>whnf);(repeat ((first | (refine zW ?_ ?_;exact gA) | refine pC (cloneInt_c t.v (by omega)) wR ?_ | refine zA ?_ | refine zH rfl ?_ | refine zB ?_ | (refine yE ?_ ?_ ?_ ?_;assumption;omega;omega) | (refine yF ?_ rfl ?_;omega) | (apply yH;assumption) | (refine yI ?_ ?_;assumption) | intro _);conv=>whnf));first | exact pS | exact pL | exact pE)) | (refine zW ?_ ?_;exact gA) | refine zH rfl ?_ | refine zA ?_ | refine zI bA ?_ | refine zI rfl ?_ | refine zJ rfl rfl ?_ | refine zB ?_ | refine zK rfl ?_ | refine zL rfl ?_ | refine zC ?_ | (refine zO ?_ ?_ ?_;omega;omega) | (refine zP ?_ ?_ ?_;omega;omega) | refine zM rfl ?_ | (refine zQ ?_ ?_ ?_;omega;omega) | (refine zR ?_ ?_;omega) | (refine zI ?_ ?_;exact nA) | (refine zS ?_ ?_ ?_;omega;omega) | (refine zT ?_ ?_ ?_;omega;omega) | (refine zU ?_ ?_ ?_;omega;omega) | (refine zV ?_ ?_ ?_;omega;omega) | refine pC (cloneInt_c t.v (by omega)) wR ?_ | (refine yA ?_ rfl ?_ ?_;assumption;exact lA) | (refine yB ?_ rfl ?_ ?_;assumption;exact lA) | (refine yC rfl ?_ ?_;exact lA) | (refine yD ?_ ?_ rfl ?_ ?_;assumption;assumption;exact lA) | (refine yE ?_ ?_ ?_ ?_;assumption;omega;omega) | (refine yF ?_ rfl ?_;omega) | (apply yH;assumption) | (refine yI ?_ ?_;assumption) | (refine yG ?_ rfl rfl rfl ?_;omega) | refine n0 ?_ | refine zN rfl rfl rfl ?_ | refine zD ?_ | refine zE ?_ | refine zF ?_ | refine PDraw.sP (some 36) rfl [8] [9] tt_ok mixed ?_ | intro _);conv=>whnf)
        refine PCall.go (hf _ (by rw [hla]; exact hlm) sc hg3) (WkT.refl _) ?_
        rintro _ _ ⟨rfl, rfl⟩
        rw [hla]
        generalize la.thr small sc = c
        conv => whnf
        repeat' (first | ((first | ((first | (apply zY;intro hg) | apply zZ);first | exact stA | exact stB | ((conv=>whnf);(repeat ((first | (refine zW ?_ ?_;exact gA) | refine pC (cloneInt_c t.v (by omega)) wR ?_ | refine zA ?_ | refine zH rfl ?_ | refine zB ?_ | (refine yE ?_ ?_ ?_ ?_;assumption;omega;omega) | (refine yF ?_ rfl ?_;omega) | (apply yH;assumption) | (refine yI ?_ ?_;assumption) | intro _);conv=>whnf));first | exact pS | exact pL | exact pE)) | (refine zW ?_ ?_;exact gA) | refine zH rfl ?_ | refine zA ?_ | refine zI bA ?_ | refine zI rfl ?_ | refine zJ rfl rfl ?_ | refine zB ?_ | refine zK rfl ?_ | refine zL rfl ?_ | refine zC ?_ | (refine zO ?_ ?_ ?_;omega;omega) | (refine zP ?_ ?_ ?_;omega;omega) | refine zM rfl ?_ | (refine zQ ?_ ?_ ?_;omega;omega) | (refine zR ?_ ?_;omega) | (refine zI ?_ ?_;exact nA) | (refine zS ?_ ?_ ?_;omega;omega) | (refine zT ?_ ?_ ?_;omega;omega) | (refine zU ?_ ?_ ?_;omega;omega) | (refine zV ?_ ?_ ?_;omega;omega) | refine pC (cloneInt_c t.v (by omega)) wR ?_ | (refine yA ?_ rfl ?_ ?_;assumption;exact lA) | (refine yB ?_ rfl ?_ ?_;assumption;exact lA) | (refine yC rfl ?_ ?_;exact lA) | (refine yD ?_ ?_ rfl ?_ ?_;assumption;assumption;exact lA) | (refine yE ?_ ?_ ?_ ?_;assumption;omega;omega) | (refine yF ?_ rfl ?_;omega) | (apply yH;assumption) | (refine yI ?_ ?_;assumption) | (refine yG ?_ rfl rfl rfl ?_;omega) | refine n0 ?_ | refine zN rfl rfl rfl ?_ | refine zD ?_ | refine zE ?_ | refine zF ?_ | refine PDraw.sP (some 36) rfl [8] [9] tt_ok mixed ?_ | intro _ | refine zG ?_);conv=>whnf) | (refine zX (fun hc => ?_) (fun hc => ?_)<;>(try simp only [SY] at hc)<;>first | omega | (conv=>whnf)))
        exact PRet.gen (y := .agg (Trm.mk t.op t.n t.v (L ++ [c.1])).cells) (Γ' := inG b r small c.2) TrmOf.wk ⟨rfl, rfl⟩
end Go.Cb
namespace Go.Cb
open Go.Proofs
set_option maxRecDepth 100000
set_option maxHeartbeats 4000000
end Go.Cb
namespace Go.Cb
open Go.Proofs
set_option maxRecDepth 100000
set_option maxHeartbeats 4000000
end Go.Cb
namespace Go.Cb
open Go.Proofs
set_option maxRecDepth 100000
set_option maxHeartbeats 4000000
end Go.Cb
namespace Go.Cb
open Go.Proofs
set_option maxRecDepth 100000
set_option maxHeartbeats 4000000
end Go.Cb
namespace Go.Cb
open Go.Proofs
set_option maxRecDepth 100000
set_option maxHeartbeats 4000000
end Go.Cb
namespace Go.Cb
open Go.Proofs
set_option maxRecDepth 100000
set_option maxHeartbeats 4000000
theorem RightP.binds {p : Prog} {level : Int} (h : RightP p level) : (riseL (bindsOf p.body.all)).length = p.body.vars.length := by
  have h1 := p.body.met_all [] 0 (by have := p.body.okT_deep h.2.2.1; omega)
  have h2 : bindsOf p.body.all = p.body.vars := h1.2
  rw [h2]
  exact rise_len h.2.2.2.2.2
end Go.Cb
namespace Go.Cb
open Go.Proofs
set_option maxRecDepth 100000
set_option maxHeartbeats 4000000
theorem bndL_mem (t : Trm) (x : Int) : x ∈ bndL t ↔ x ∈ t.vars := by unfold bndL; exact mem_rise _ _
theorem RightP.fits {p : Prog} {level : Int} (h : RightP p level) : p.body.shp ∧ p.body.dep ≤ 400 ∧ (∀ x ∈ p.body.vars, 0 ≤ x ∧ x ≤ 1000000) := by
  have h1 := p.body.okT_deep h.2.2.1
  exact ⟨p.body.okT_shp h.2.2.1, by omega, fun x hx => ⟨(h.2.2.2.2.1 x hx).1, (h.2.2.2.2.1 x hx).2.1⟩⟩
theorem bndL_len' (t : Trm) (h : t.dep < 1000) : (bndL t).length ≤ t.bulk := by
  have := (t.bD_spec 0 [] List.Pairwise.nil).2.1
  rw [t.bD_rise h] at this
  simpa using this
theorem noP_wk : Wk (.agg [.nil, .int .i64 0, .int .i64 0, .nil, .nil]) (.agg noP.cells) := Wk.agg (.cons (Wk.nil' rfl) (.cons (Wk.refl _) (.cons (Wk.refl _) (.cons (Wk.nil' rfl) (.cons (Wk.nil' rfl) .nil)))))
end Go.Cb
namespace Go.Cb
open Go.Proofs
set_option maxRecDepth 100000
set_option maxHeartbeats 4000000
structure Ctr where
  small : Int
  budget : Int
  effort : Int
abbrev mx0 (a : Int) : Int := if a < 0 then 0 else a
theorem mx0_eq (a : Int) : mx0 a = max a 0 := by unfold mx0; split <;> omega
def Ctr.cells (c : Ctr) : List PV := [.int .i64 c.small, .int .i64 c.budget, .int .i64 c.effort]
abbrev startI (t : Trm) (c : Ctr) : InS := ⟨nextT t, mx0 c.budget, mx0 c.effort, fun _ => none⟩
def inlP (p : Prog) (c : Ctr) : Prog := ⟨p.consts, (p.body.thr (mx0 c.small) (startI p.body c)).1⟩
def inlC (p : Prog) (c : Ctr) : Ctr := ⟨mx0 c.small, (p.body.thr (mx0 c.small) (startI p.body c)).2.budget, (p.body.thr (mx0 c.small) (startI p.body c)).2.effort⟩
def conv12 (p : Prog) (c : Ctr) : Prog × Ctr × Int := if checkP p 2 = 0 then (if checkP (inlP p c) 2 = 0 then (inlP p c, inlC p c, 0) else (noP, ⟨0, 0, 0⟩, 5)) else (noP, ⟨0, 0, 0⟩, 5)
theorem nextT_bd {t : Trm} (hvr : ∀ x ∈ t.vars, 0 ≤ x ∧ x ≤ 1000000) : 0 ≤ nextT t ∧ nextT t ≤ 1000001 := by
  unfold nextT
  split
  · omega
  · rename_i h0
    have hlt : (bndL t).length - 1 < (bndL t).length := by have := List.length_pos_iff.2 h0; omega
    have e : (bndL t).getD ((bndL t).length - 1) 0 = (bndL t)[(bndL t).length - 1] := by simp [List.getD, hlt]
    have := hvr _ ((bndL_mem _ _).1 (List.getElem_mem hlt))
    rw [e]
    omega
theorem startI_good {p : Prog} {c : Ctr} (h : RightP p 2) (hb : p.body.bulk ≤ 1048576) (hc : c.budget ≤ 500) (he : c.effort ≤ 9223372036854775807) : GoodI p.body.bulk (startI p.body c) := by
  obtain ⟨hn0, hn1⟩ := nextT_bd h.fits.2.2
  refine ⟨fun v x hx => (by simp [startI] at hx), hn0, ?_, ?_, ?_, ?_, ?_⟩
  · show nextT p.body + mx0 c.budget * _ ≤ _
    rw [mx0_eq]
    have : max c.budget 0 * (p.body.bulk : Int) ≤ 500 * 1048576 := Int.mul_le_mul (by omega) (by omega) (by omega) (by omega)
    omega
  · show 0 ≤ mx0 c.budget; rw [mx0_eq]; omega
  · show mx0 c.budget ≤ 1000; rw [mx0_eq]; omega
  · show 0 ≤ mx0 c.effort; rw [mx0_eq]; omega
  · show mx0 c.effort ≤ _; rw [mx0_eq]; omega
theorem inl_bd {p : Prog} {c : Ctr} (h : RightP p 2) (hb : p.body.bulk ≤ 1048576) (hc : c.budget ≤ 500) (he : c.effort ≤ 9223372036854775807) :
    BndI p.body.bulk (startI p.body c) p.body.bulk (p.body.thr (mx0 c.small) (startI p.body c)).1.bulk (p.body.thr (mx0 c.small) (startI p.body c)).2 :=
  p.body.thr_bd (mx0 c.small) p.body.bulk (p.body.okT_shI (by decide) h.2.2.1) (Nat.le_refl _) _ (startI_good h hb hc he)
theorem inlP_bulk {p : Prog} {c : Ctr} (h : RightP p 2) (hb : p.body.bulk ≤ 1048576) (hc : c.budget ≤ 500) (he : c.effort ≤ 9223372036854775807) : (inlP p c).body.bulk ≤ 1000000000 := by
  obtain ⟨a1, a2, a3, a4, a5⟩ := inl_bd h hb hc he
  have : (startI p.body c).budget * (p.body.bulk : Int) ≤ 500 * 1048576 := Int.mul_le_mul (by show mx0 c.budget ≤ _; rw [mx0_eq]; omega) (by omega) (by omega) (by omega)
  have : 0 ≤ (p.body.thr (mx0 c.small) (startI p.body c)).2.budget * (p.body.bulk : Int) := Int.mul_nonneg a1.b0 (by omega)
  show (p.body.thr (mx0 c.small) (startI p.body c)).1.bulk ≤ _
  omega
theorem conv12_c (p : Prog) (c : Ctr) (hb : p.body.bulk ≤ 1048576) (hl : p.consts.length ≤ 1000000000) (hc2 : c.budget ≤ 500) (he : c.effort ≤ 9223372036854775807) :
    ACallP Tryz.prog 37 [.agg p.cells, .agg c.cells] (.tup [.agg (conv12 p c).1.cells, .agg (conv12 p c).2.1.cells, .int .i64 (conv12 p c).2.2]) := by
  have hen := check_eq p 2
  have hR : checkP p 2 = 0 → RightP p 2 := fun h => (checkD_right p 2).1 (by rw [← hen]; exact h)
  refine ACall.of_body tt_ok Tryz.func37 rfl rfl (n := 62) rfl rfl ?_
  conv => whnf
  repeat ((first | ((first | (apply zY;intro hg) | apply zZ);first | exact stA | exact stB | ((conv=>whnf);(repeat ((first | (refine zW ?_ ?_;exact gA) | refine pC (checkp_c p 2 (by omega) (by omega)) wR ?_ | refine pC (binds_c p.body (by omega)) wR ?_ | refine pC (cloneDat_c p.consts hl) wR ?_ | refine zA ?_ | refine zH rfl ?_ | refine zB ?_ | (refine yE ?_ ?_ ?_ ?_;assumption;omega;omega) | (refine yF ?_ rfl ?_;omega) | (apply yH;assumption) | (refine yI ?_ ?_;assumption) | intro _);conv=>whnf));first | exact pS | exact pL | exact pE)) | (refine zW ?_ ?_;exact gA) | refine zH rfl ?_ | refine zA ?_ | refine zI bA ?_ | refine zI rfl ?_ | refine zJ rfl rfl ?_ | refine zB ?_ | refine zK rfl ?_ | refine zL rfl ?_ | refine zC ?_ | (refine zO ?_ ?_ ?_;omega;omega) | (refine zP ?_ ?_ ?_;omega;omega) | refine zM rfl ?_ | (refine zQ ?_ ?_ ?_;omega;omega) | (refine zR ?_ ?_;omega) | (refine zI ?_ ?_;exact nA) | (refine zS ?_ ?_ ?_;omega;omega) | (refine zT ?_ ?_ ?_;omega;omega) | (refine zU ?_ ?_ ?_;omega;omega) | (refine zV ?_ ?_ ?_;omega;omega) | refine pC (checkp_c p 2 (by omega) (by omega)) wR ?_ | refine pC (binds_c p.body (by omega)) wR ?_ | refine pC (cloneDat_c p.consts hl) wR ?_ | (refine yA ?_ rfl ?_ ?_;assumption;exact lA) | (refine yB ?_ rfl ?_ ?_;assumption;exact lA) | (refine yC rfl ?_ ?_;exact lA) | (refine yD ?_ ?_ rfl ?_ ?_;assumption;assumption;exact lA) | (refine yE ?_ ?_ ?_ ?_;assumption;omega;omega) | (refine yF ?_ rfl ?_;omega) | (apply yH;assumption) | (refine yI ?_ ?_;assumption) | (refine yG ?_ rfl rfl rfl ?_;omega) | refine n0 ?_ | refine zN rfl rfl rfl ?_ | refine zD ?_ | refine zE ?_ | refine zF ?_ | refine PDraw.sQ (some 57) rfl [5] [6,7] tt_ok mixed ?_ | intro _);conv=>whnf)
  rename_i b2 b3 b4 b5
  refine zX (fun hc => ?_) (fun hc => ?_) <;> (try simp only [SY] at hc)
  · conv => whnf
    repeat ((first | ((first | (apply zY;intro hg) | apply zZ);first | exact stA | exact stB | ((conv=>whnf);(repeat ((first | (refine zW ?_ ?_;exact gA) | refine pC (checkp_c p 2 (by omega) (by omega)) wR ?_ | refine pC (binds_c p.body (by omega)) wR ?_ | refine pC (cloneDat_c p.consts hl) wR ?_ | refine zA ?_ | refine zH rfl ?_ | refine zB ?_ | (refine yE ?_ ?_ ?_ ?_;assumption;omega;omega) | (refine yF ?_ rfl ?_;omega) | (apply yH;assumption) | (refine yI ?_ ?_;assumption) | intro _);conv=>whnf));first | exact pS | exact pL | exact pE)) | (refine zW ?_ ?_;exact gA) | refine zH rfl ?_ | refine zA ?_ | refine zI bA ?_ | refine zI rfl ?_ | refine zJ rfl rfl ?_ | refine zB ?_ | refine zK rfl ?_ | refine zL rfl ?_ | refine zC ?_ | (refine zO ?_ ?_ ?_;omega;omega) | (refine zP ?_ ?_ ?_;omega;omega) | refine zM rfl ?_ | (refine zQ ?_ ?_ ?_;omega;omega) | (refine zR ?_ ?_;omega) | (refine zI ?_ ?_;exact nA) | (refine zS ?_ ?_ ?_;omega;omega) | (refine zT ?_ ?_ ?_;omega;omega) | (refine zU ?_ ?_ ?_;omega;omega) | (refine zV ?_ ?_ ?_;omega;omega) | refine pC (checkp_c p 2 (by omega) (by omega)) wR ?_ | refine pC (binds_c p.body (by omega)) wR ?_ | refine pC (cloneDat_c p.consts hl) wR ?_ | (refine yA ?_ rfl ?_ ?_;assumption;exact lA) | (refine yB ?_ rfl ?_ ?_;assumption;exact lA) | (refine yC rfl ?_ ?_;exact lA) | (refine yD ?_ ?_ rfl ?_ ?_;assumption;assumption;exact lA) | (refine yE ?_ ?_ ?_ ?_;assumption;omega;omega) | (refine yF ?_ rfl ?_;omega) | (apply yH;assumption) | (refine yI ?_ ?_;assumption) | (refine yG ?_ rfl rfl rfl ?_;omega) | refine n0 ?_ | refine zN rfl rfl rfl ?_ | refine zD ?_ | refine zE ?_ | refine zF ?_ | refine PDraw.sQ (some 57) rfl [5] [6,7] tt_ok mixed ?_ | intro _);conv=>whnf)
    have hcn : conv12 p c = (noP, ⟨0, 0, 0⟩, 5) := by rw [conv12, if_neg hc]
    rw [hcn]
    exact PRet.pure (Wk.tup (.cons noP_wk (.cons (Wk.refl _) (.cons (Wk.refl _) .nil))))
  have hr := hR hc
  obtain ⟨hshp, hdep, hvr⟩ := hr.fits
  have hrise := p.body.binds_rise (by omega)
  have hbl := bndL_len' p.body (by omega)
  obtain ⟨hn0, hn1⟩ := nextT_bd hvr
  have hbc := binds_c p.body (by omega)
  rw [hrise] at hbc
  have hcl := cloneDat_c p.consts hl
  have hg := startI_good hr hb hc2 he
  have hib := inlP_bulk (c := c) hr hb hc2 he
  have hcn : conv12 p c = if checkP (inlP p c) 2 = 0 then (inlP p c, inlC p c, 0) else (noP, ⟨0, 0, 0⟩, 5) := by rw [conv12, if_pos hc]
  conv => whnf
  repeat ((first | ((first | (apply zY;intro hg) | apply zZ);first | exact stA | exact stB | ((conv=>whnf);(repeat ((first | (refine zW ?_ ?_;exact gA) | refine pC (hbc) wR ?_ | refine zA ?_ | refine zH rfl ?_ | refine zB ?_ | (refine yE ?_ ?_ ?_ ?_;assumption;omega;omega) | (refine yF ?_ rfl ?_;omega) | (apply yH;assumption) | (refine yI ?_ ?_;assumption) | intro _);conv=>whnf));first | exact pS | exact pL | exact pE)) | (refine zW ?_ ?_;exact gA) | refine zH rfl ?_ | refine zA ?_ | refine zI bA ?_ | refine zI rfl ?_ | refine zJ rfl rfl ?_ | refine zB ?_ | refine zK rfl ?_ | refine zL rfl ?_ | refine zC ?_ | (refine zO ?_ ?_ ?_;omega;omega) | (refine zP ?_ ?_ ?_;omega;omega) | refine zM rfl ?_ | (refine zQ ?_ ?_ ?_;omega;omega) | (refine zR ?_ ?_;omega) | (refine zI ?_ ?_;exact nA) | (refine zS ?_ ?_ ?_;omega;omega) | (refine zT ?_ ?_ ?_;omega;omega) | (refine zU ?_ ?_ ?_;omega;omega) | (refine zV ?_ ?_ ?_;omega;omega) | refine pC (hbc) wR ?_ | (refine yA ?_ rfl ?_ ?_;assumption;exact lA) | (refine yB ?_ rfl ?_ ?_;assumption;exact lA) | (refine yC rfl ?_ ?_;exact lA) | (refine yD ?_ ?_ rfl ?_ ?_;assumption;assumption;exact lA) | (refine yE ?_ ?_ ?_ ?_;assumption;omega;omega) | (refine yF ?_ rfl ?_;omega) | (apply yH;assumption) | (refine yI ?_ ?_;assumption) | (refine yG ?_ rfl rfl rfl ?_;omega) | refine n0 ?_ | refine zN rfl rfl rfl ?_ | refine zD ?_ | refine zE ?_ | refine zF ?_ | refine PDraw.sQ (some 57) rfl [5] [6,7] tt_ok mixed ?_ | intro _);conv=>whnf)
  rename_i r b6
  rw [mapM_nil Trm.pa]
  refine PSeq.join (fun _ : Unit => []) (fun _ => .box b2 [.sl 5 (p.consts.map Datum.pv) none, .int .i64 p.body.op, .int .i64 p.body.n, .sl 1 (p.body.v.map (PV.int .i64)) none, .sl 4 (p.body.t.map Trm.pv) none] :: .box b4 [.nil, .int .i64 0, .int .i64 0, .nil, .nil] :: .box b5 [.int .i64 0, .int .i64 0, .int .i64 0] :: .box b6 [.int .i64 (mx0 c.small), .int .i64 (mx0 c.budget), .int .i64 (mx0 c.effort), .int .i64 (nextT p.body), .mp r] :: .mp r (.int .i64) (mapM Trm.pa (fun _ => none)) [] :: []) (fun _ => True) ?_ ?_
  · conv => whnf
    repeat' (first | ((first | ((first | (apply zY;intro hg) | apply zZ);first | exact stA | exact stB | ((conv=>whnf);(repeat ((first | (refine zW ?_ ?_;exact gA) | refine pC (hbc) wR ?_ | refine zA ?_ | refine zH rfl ?_ | refine zB ?_ | (refine yE ?_ ?_ ?_ ?_;assumption;omega;omega) | (refine yF ?_ rfl ?_;omega) | (apply yH;assumption) | (refine yI ?_ ?_;assumption) | intro _);conv=>whnf));first | exact pS | exact pL | exact pE)) | (refine zW ?_ ?_;exact gA) | refine zH rfl ?_ | refine zA ?_ | refine zI bA ?_ | refine zI rfl ?_ | refine zJ rfl rfl ?_ | refine zB ?_ | refine zK rfl ?_ | refine zL rfl ?_ | refine zC ?_ | (refine zO ?_ ?_ ?_;omega;omega) | (refine zP ?_ ?_ ?_;omega;omega) | refine zM rfl ?_ | (refine zQ ?_ ?_ ?_;omega;omega) | (refine zR ?_ ?_;omega) | (refine zI ?_ ?_;exact nA) | (refine zS ?_ ?_ ?_;omega;omega) | (refine zT ?_ ?_ ?_;omega;omega) | (refine zU ?_ ?_ ?_;omega;omega) | (refine zV ?_ ?_ ?_;omega;omega) | refine pC (hbc) wR ?_ | (refine yA ?_ rfl ?_ ?_;assumption;exact lA) | (refine yB ?_ rfl ?_ ?_;assumption;exact lA) | (refine yC rfl ?_ ?_;exact lA) | (refine yD ?_ ?_ rfl ?_ ?_;assumption;assumption;exact lA) | (refine yE ?_ ?_ ?_ ?_;assumption;omega;omega) | (refine yF ?_ rfl ?_;omega) | (apply yH;assumption) | (refine yI ?_ ?_;assumption) | (refine yG ?_ rfl rfl rfl ?_;omega) | refine n0 ?_ | refine zN rfl rfl rfl ?_ | refine zD ?_ | refine zE ?_ | refine zF ?_ | refine PDraw.sQ (some 57) rfl [5] [6,7] tt_ok mixed ?_ | intro _ | refine zG ?_);conv=>whnf) | (refine zX (fun hc => ?_) (fun hc => ?_)<;>(try simp only [SY] at hc)<;>first | omega | (conv=>whnf)))
    · have hlt : (bndL p.body).length - 1 < (bndL p.body).length := by omega
      have e : (bndL p.body).getD ((bndL p.body).length - 1) 0 = (bndL p.body)[(bndL p.body).length - 1] := by simp [List.getD, hlt]
      have hn : nextT p.body = (bndL p.body)[(bndL p.body).length - 1] + 1 := by
        unfold nextT
        rw [if_neg (by intro h; rw [h] at hlt; simp at hlt), e]
      refine PInt.ok (by omega) (by omega) ?_
      rw [← hn]
      conv => whnf
      repeat' (first | ((first | ((first | (apply zY;intro hg) | apply zZ);first | exact stA | exact stB | ((conv=>whnf);(repeat ((first | (refine zW ?_ ?_;exact gA) | refine pC (hbc) wR ?_ | refine zA ?_ | refine zH rfl ?_ | refine zB ?_ | (refine yE ?_ ?_ ?_ ?_;assumption;omega;omega) | (refine yF ?_ rfl ?_;omega) | (apply yH;assumption) | (refine yI ?_ ?_;assumption) | intro _);conv=>whnf));first | exact pS | exact pL | exact pE)) | (refine zW ?_ ?_;exact gA) | refine zH rfl ?_ | refine zA ?_ | refine zI bA ?_ | refine zI rfl ?_ | refine zJ rfl rfl ?_ | refine zB ?_ | refine zK rfl ?_ | refine zL rfl ?_ | refine zC ?_ | (refine zO ?_ ?_ ?_;omega;omega) | (refine zP ?_ ?_ ?_;omega;omega) | refine zM rfl ?_ | (refine zQ ?_ ?_ ?_;omega;omega) | (refine zR ?_ ?_;omega) | (refine zI ?_ ?_;exact nA) | (refine zS ?_ ?_ ?_;omega;omega) | (refine zT ?_ ?_ ?_;omega;omega) | (refine zU ?_ ?_ ?_;omega;omega) | (refine zV ?_ ?_ ?_;omega;omega) | refine pC (hbc) wR ?_ | (refine yA ?_ rfl ?_ ?_;assumption;exact lA) | (refine yB ?_ rfl ?_ ?_;assumption;exact lA) | (refine yC rfl ?_ ?_;exact lA) | (refine yD ?_ ?_ rfl ?_ ?_;assumption;assumption;exact lA) | (refine yE ?_ ?_ ?_ ?_;assumption;omega;omega) | (refine yF ?_ rfl ?_;omega) | (apply yH;assumption) | (refine yI ?_ ?_;assumption) | (refine yG ?_ rfl rfl rfl ?_;omega) | refine n0 ?_ | refine zN rfl rfl rfl ?_ | refine zD ?_ | refine zE ?_ | refine zF ?_ | refine PDraw.sQ (some 57) rfl [5] [6,7] tt_ok mixed ?_ | intro _ | refine zG ?_);conv=>whnf) | (refine zX (fun hc => ?_) (fun hc => ?_)<;>(try simp only [SY] at hc)<;>first | omega | (conv=>whnf)))
      exact joinEnd () trivial wA
    · have hn : nextT p.body = 0 := by
        unfold nextT
        rw [if_pos (List.eq_nil_of_length_eq_zero (by omega))]
      rw [hn]
      exact joinEnd () trivial wA
  rintro ⟨⟩ -
  conv => whnf
  refine PDraw.sF (some 44) rfl [.box b6 [.int .i64 (mx0 c.small), .int .i64 (mx0 c.budget), .int .i64 (mx0 c.effort), .int .i64 (nextT p.body), .mp r], .mp r (.int .i64) (mapM Trm.pa (fun _ => none)) []] [6,7] [] [8] [9] tt_ok mixed ?_
  conv=>whnf
  repeat ((first | ((first | (apply zY;intro hg) | apply zZ);first | exact stA | exact stB | ((conv=>whnf);(repeat ((first | (refine zW ?_ ?_;exact gA) | refine pC (hcl) wR ?_ | refine zA ?_ | refine zH rfl ?_ | refine zB ?_ | (refine yE ?_ ?_ ?_ ?_;assumption;omega;omega) | (refine yF ?_ rfl ?_;omega) | (apply yH;assumption) | (refine yI ?_ ?_;assumption) | intro _);conv=>whnf));first | exact pS | exact pL | exact pE)) | (refine zW ?_ ?_;exact gA) | refine zH rfl ?_ | refine zA ?_ | refine zI bA ?_ | refine zI rfl ?_ | refine zJ rfl rfl ?_ | refine zB ?_ | refine zK rfl ?_ | refine zL rfl ?_ | refine zC ?_ | (refine zO ?_ ?_ ?_;omega;omega) | (refine zP ?_ ?_ ?_;omega;omega) | refine zM rfl ?_ | (refine zQ ?_ ?_ ?_;omega;omega) | (refine zR ?_ ?_;omega) | (refine zI ?_ ?_;exact nA) | (refine zS ?_ ?_ ?_;omega;omega) | (refine zT ?_ ?_ ?_;omega;omega) | (refine zU ?_ ?_ ?_;omega;omega) | (refine zV ?_ ?_ ?_;omega;omega) | refine pC (hcl) wR ?_ | (refine yA ?_ rfl ?_ ?_;assumption;exact lA) | (refine yB ?_ rfl ?_ ?_;assumption;exact lA) | (refine yC rfl ?_ ?_;exact lA) | (refine yD ?_ ?_ rfl ?_ ?_;assumption;assumption;exact lA) | (refine yE ?_ ?_ ?_ ?_;assumption;omega;omega) | (refine yF ?_ rfl ?_;omega) | (apply yH;assumption) | (refine yI ?_ ?_;assumption) | (refine yG ?_ rfl rfl rfl ?_;omega) | refine n0 ?_ | refine zN rfl rfl rfl ?_ | refine zD ?_ | refine zE ?_ | refine zF ?_ | refine PDraw.sQ (some 57) rfl [5] [6,7] tt_ok mixed ?_ | intro _);conv=>whnf)
  refine PCall.go (thOk p.body.bulk b6 r (mx0 c.small) (by omega) p.body (p.body.okT_shI (by decide) hr.2.2.1) (Nat.le_refl _) (startI p.body c) hg) (WkT.refl _) ?_
  rintro _ _ ⟨rfl, rfl⟩
  have hck := checkp_c (inlP p c) 2 hib hl
  conv => whnf
  repeat' (first | ((first | ((first | (apply zY;intro hg) | apply zZ);first | exact stA | exact stB | ((conv=>whnf);(repeat ((first | (refine zW ?_ ?_;exact gA) | refine pC (hck) wR ?_ | refine zA ?_ | refine zH rfl ?_ | refine zB ?_ | (refine yE ?_ ?_ ?_ ?_;assumption;omega;omega) | (refine yF ?_ rfl ?_;omega) | (apply yH;assumption) | (refine yI ?_ ?_;assumption) | intro _);conv=>whnf));first | exact pS | exact pL | exact pE)) | (refine zW ?_ ?_;exact gA) | refine zH rfl ?_ | refine zA ?_ | refine zI bA ?_ | refine zI rfl ?_ | refine zJ rfl rfl ?_ | refine zB ?_ | refine zK rfl ?_ | refine zL rfl ?_ | refine zC ?_ | (refine zO ?_ ?_ ?_;omega;omega) | (refine zP ?_ ?_ ?_;omega;omega) | refine zM rfl ?_ | (refine zQ ?_ ?_ ?_;omega;omega) | (refine zR ?_ ?_;omega) | (refine zI ?_ ?_;exact nA) | (refine zS ?_ ?_ ?_;omega;omega) | (refine zT ?_ ?_ ?_;omega;omega) | (refine zU ?_ ?_ ?_;omega;omega) | (refine zV ?_ ?_ ?_;omega;omega) | refine pC (hck) wR ?_ | (refine yA ?_ rfl ?_ ?_;assumption;exact lA) | (refine yB ?_ rfl ?_ ?_;assumption;exact lA) | (refine yC rfl ?_ ?_;exact lA) | (refine yD ?_ ?_ rfl ?_ ?_;assumption;assumption;exact lA) | (refine yE ?_ ?_ ?_ ?_;assumption;omega;omega) | (refine yF ?_ rfl ?_;omega) | (apply yH;assumption) | (refine yI ?_ ?_;assumption) | (refine yG ?_ rfl rfl rfl ?_;omega) | refine n0 ?_ | refine zN rfl rfl rfl ?_ | refine zD ?_ | refine zE ?_ | refine zF ?_ | intro _ | refine zG ?_);conv=>whnf) | (refine zX (fun hc => ?_) (fun hc => ?_)<;>(try simp only [SY] at hc)<;>first | omega | (conv=>whnf)))
  · rw [hcn, if_neg hc]
    exact PRet.pure (Wk.tup (.cons noP_wk (.cons (Wk.refl _) (.cons (Wk.refl _) .nil))))
  · rw [hcn, if_pos hc]
    refine PDraw.sE [.box b4 [.nil, .int .i64 0, .int .i64 0, .nil, .nil], .box b5 [.int .i64 0, .int .i64 0, .int .i64 0]] [5] [6,7] tt_ok mixed ?_
    conv=>whnf
    repeat ((first | ((first | (apply zY;intro hg) | apply zZ);first | exact stA | exact stB | ((conv=>whnf);(repeat ((first | (refine zW ?_ ?_;exact gA) | refine pC (hck) wR ?_ | refine zA ?_ | refine zH rfl ?_ | refine zB ?_ | (refine yE ?_ ?_ ?_ ?_;assumption;omega;omega) | (refine yF ?_ rfl ?_;omega) | (apply yH;assumption) | (refine yI ?_ ?_;assumption) | intro _);conv=>whnf));first | exact pS | exact pL | exact pE)) | (refine zW ?_ ?_;exact gA) | refine zH rfl ?_ | refine zA ?_ | refine zI bA ?_ | refine zI rfl ?_ | refine zJ rfl rfl ?_ | refine zB ?_ | refine zK rfl ?_ | refine zL rfl ?_ | refine zC ?_ | (refine zO ?_ ?_ ?_;omega;omega) | (refine zP ?_ ?_ ?_;omega;omega) | refine zM rfl ?_ | (refine zQ ?_ ?_ ?_;omega;omega) | (refine zR ?_ ?_;omega) | (refine zI ?_ ?_;exact nA) | (refine zS ?_ ?_ ?_;omega;omega) | (refine zT ?_ ?_ ?_;omega;omega) | (refine zU ?_ ?_ ?_;omega;omega) | (refine zV ?_ ?_ ?_;omega;omega) | refine pC (hck) wR ?_ | (refine yA ?_ rfl ?_ ?_;assumption;exact lA) | (refine yB ?_ rfl ?_ ?_;assumption;exact lA) | (refine yC rfl ?_ ?_;exact lA) | (refine yD ?_ ?_ rfl ?_ ?_;assumption;assumption;exact lA) | (refine yE ?_ ?_ ?_ ?_;assumption;omega;omega) | (refine yF ?_ rfl ?_;omega) | (apply yH;assumption) | (refine yI ?_ ?_;assumption) | (refine yG ?_ rfl rfl rfl ?_;omega) | refine n0 ?_ | refine zN rfl rfl rfl ?_ | refine zD ?_ | refine zE ?_ | refine zF ?_ | intro _);conv=>whnf)
    exact PRet.pure (y := .tup [.agg (inlP p c).cells, .agg (inlC p c).cells, .int .i64 0]) (Wk.refl _)
end Go.Cb
namespace Go.Cb
open Go.Proofs
set_option maxRecDepth 100000
set_option maxHeartbeats 4000000
end Go.Cb
namespace Go.Cb
open Go.Proofs
set_option maxRecDepth 100000
set_option maxHeartbeats 4000000
theorem wrap_id {v : Int} (h0 : 0 ≤ v) (h1 : v ≤ 1000000000) : IntKind.i64.wrap v = v := by simp [IntKind.wrap, IntKind.bits, IntKind.signed]; omega
theorem Trm.shw_sh (k : Int) (h0 : 0 ≤ k) (h1 : k ≤ 1000000) (t : Trm) : (∀ v, v ∈ t.nam ∨ v ∈ t.asg → 0 ≤ v ∧ v ≤ 1000000) → t.shw k = t.sh k := by
  induction t using Trm.ind with
  | h t ih =>
    intro hv
    obtain ⟨op, n, v, l⟩ := t
    rw [Trm.shw, Trm.sh, Trm.shws_eq, Trm.shs_eq]
    rw [Trm.nam, Trm.asg] at hv
    have hn : ∀ y ∈ l, ∀ w, w ∈ y.nam → w ∈ Trm.nams l := by
      intro y hy w hw
      have key : ∀ m : List Trm, y ∈ m → w ∈ Trm.nams m := by
        intro m
        induction m with
        | nil => intro h; cases h
        | cons z m ihm => intro h; rw [Trm.nams, List.mem_append]; rcases List.mem_cons.1 h with rfl | h
                          · exact .inl hw
                          · exact .inr (ihm h)
      exact key l hy
    have ha : ∀ y ∈ l, ∀ w, w ∈ y.asg → w ∈ Trm.asgs l := by
      intro y hy w hw
      rw [Trm.asgs_flat, List.mem_flatMap]
      exact ⟨y, hy, hw⟩
    have e1 : (if namesB op = true then IntKind.i64.wrap (n + k) else n) = if namesB op = true then n + k else n := by
      split
      · rename_i hb
        have : n ∈ (if op = 1 then [n] else []) ++ v ++ Trm.nams l ∨ n ∈ (if op = 2 ∨ op = 14 then [n] else []) ++ Trm.asgs l := by
          simp [namesB] at hb
          rcases hb with (h | h) | h
          · left; simp [h]
          · right; simp [h]
          · right; simp [h]
        have := hv n this
        exact wrap_id (by omega) (by omega)
      · rfl
    have e2 : (v.map fun x => IntKind.i64.wrap (x + k)) = v.map (· + k) := List.map_congr_left fun x hx => by
      have := hv x (.inl (by simp [hx]))
      exact wrap_id (by omega) (by omega)
    have e3 : l.map (Trm.shw k) = l.map (Trm.sh k) := List.map_congr_left fun y hy => ih y hy fun w hw => hv w (by
      rcases hw with hw | hw
      · exact .inl (by simp [hn y hy w hw])
      · exact .inr (by simp [ha y hy w hw]))
    rw [e1, e2, e3]
theorem RightP.names {p : Prog} {level : Int} (h : RightP p level) : ∀ v, v ∈ p.body.nam ∨ v ∈ p.body.asg → v ∈ p.body.vars := fun v hv => by
  rcases p.body.okT_nam h.2.2.1 v hv with h2 | h2
  · cases h2
  · exact h2
theorem RightP.shw {p : Prog} {level k : Int} (h : RightP p level) (h0 : 0 ≤ k) (h1 : k ≤ 1000000) : p.body.shw k = p.body.sh k :=
  p.body.shw_sh k h0 h1 fun v hv => h.fits.2.2 v (h.names v hv)
end Go.Cb
namespace Go.Cb
open Go.Proofs
set_option maxRecDepth 100000
set_option maxHeartbeats 4000000
end Go.Cb
namespace Go.Cb
open Go.Proofs
def eqP : PV → PV → Option Bool
  | .int k a, .int k' b => match ikEq k k' with
    | true => some (a == b)
    | false => none
  | .bool a, .bool b => some (a == b)
  | .str a, .str b => some (a == b)
  | _, _ => none
def eqPs : List PV → List PV → Option Bool
  | [], [] => some true
  | x :: xs, y :: ys => match eqP x y, eqPs xs ys with
    | some a, some b => some (a && b)
    | _, _ => none
  | _, _ => none
def kindEq : Option TypeDesc → PV → Bool
  | some (.int _), .int _ _ => true
  | some .bool, .bool _ => true
  | some .string, .str _ => true
  | _, _ => false
def fieldEq (P : Program) : List Field → List PV → Nat → Bool
  | [], [], _ => true
  | f :: fs, x :: xs, i => (f.name != "_") && (f.offset == i) && kindEq (P.underlying f.type) x && fieldEq P fs xs (i + 1)
  | _, _, _ => false
section
variable {P : Program} {w : World} {F : Fz}
theorem eqP_run {x y : PV} {v u : Value} {q : Bool} {t : TypeId} (h : eqP x y = some q) (hv : Rep F x v) (hu : Rep F y u) (ht : kindEq (P.underlying t) x = true) (d : Nat) : (Op.equalIn (d + 1) t v u).run P w = .ok q w ∧ (isAgg t).run P w = .ok false w := by
  unfold eqP at h
  split at h
  · rename_i k a k' b
    split at h
    · rename_i hk
      have hk := ikEq_iff.1 hk
      subst hk
      cases h
      rw [rep_int hv, rep_int hu]
      cases hp : P.underlying t with
      | none => rw [hp] at ht; cases ht
      | some td =>
        rw [hp] at ht
        cases td <;> first | (cases ht; done) | skip
        exact ⟨run_equalIn_int w d _ _ _ _ _ hp, by simp [isAgg, run_underlying hp]⟩
    · cases h
  · rename_i a b
    cases h
    rw [rep_bool hv, rep_bool hu]
    cases hp : P.underlying t with
    | none => rw [hp] at ht; cases ht
    | some td =>
      rw [hp] at ht
      cases td <;> first | (cases ht; done) | skip
      exact ⟨run_equalIn_bool' w d _ _ _ hp, by simp [isAgg, run_underlying hp]⟩
  · rename_i a b
    cases h
    rw [rep_str hv, rep_str hu]
    cases hp : P.underlying t with
    | none => rw [hp] at ht; cases ht
    | some td =>
      rw [hp] at ht
      cases td <;> first | (cases ht; done) | skip
      refine ⟨?_, by simp [isAgg, run_underlying hp]⟩
      rw [run_equalIn_string w d _ _ _ hp, toListBytes, toListBytes]
  · cases h
theorem eqPs_run (d : Nat) : ∀ (fs : List Field) (xs ys : List PV) (vs us pv pu : List Value) (q : Bool), fieldEq P fs xs pv.length = true → pu.length = pv.length → RepL F xs vs → RepL F ys us → eqPs xs ys = some q →
    (Op.eqFields (d + 1) (pv ++ vs).toArray (pu ++ us).toArray fs).run P w = .ok q w
  | [], [], ys, vs, us, pv, pu, q, _, _, hv, hu, h => by
    cases ys with
    | nil => simp only [eqPs, Option.some.injEq] at h; subst h; simp [Op.eqFields]
    | cons y ys => simp [eqPs] at h
  | [], x :: xs, _, _, _, _, _, _, hf, _, _, _, _ => by simp [fieldEq] at hf
  | f :: fs, [], _, _, _, _, _, _, hf, _, _, _, _ => by simp [fieldEq] at hf
  | f :: fs, x :: xs, [], _, _, _, _, _, _, _, _, _, h => by simp [eqPs] at h
  | f :: fs, x :: xs, y :: ys, [], _, _, _, _, _, _, hv, _, _ => by simp only [RepL] at hv
  | f :: fs, x :: xs, y :: ys, v :: vs, [], _, _, _, _, _, _, hu, _ => by simp only [RepL] at hu
  | f :: fs, x :: xs, y :: ys, v :: vs, u :: us, pv, pu, q, hf, hl, hv, hu, h => by
    simp only [fieldEq, Bool.and_eq_true, bne_iff_ne, beq_iff_eq] at hf
    obtain ⟨⟨⟨hn, ho⟩, ht⟩, hf⟩ := hf
    simp only [RepL] at hv hu
    unfold eqPs at h
    split at h
    · rename_i a b ha hb
      cases h
      obtain ⟨g1, g2⟩ := eqP_run (w := w) ha hv.1.2 hu.1.2 ht d
      have p1 : (part f.type (pv ++ v :: vs).toArray f.offset).run P w = .ok v w := by
        simp [part, g2, ho, Result.andThen]
      have p2 : (part f.type (pu ++ u :: us).toArray f.offset).run P w = .ok u w := by
        simp [part, g2, ho, ← hl, Result.andThen]
      have ih := eqPs_run d fs xs ys vs us (pv ++ [v]) (pu ++ [u]) b (by simpa using hf) (by simp [hl]) hv.2 hu.2 hb
      rw [List.append_assoc, List.append_assoc] at ih
      simp only [Op.eqFields, hn, ne_eq, not_false_eq_true, if_true, Sem.run_bind, p1, p2, g1, Result.andThen_ok]
      cases a
      · simp
      · simpa using ih
    · cases h
end
theorem PAggEq.of {P : Program} {t : TypeId} {xs ys : List PV} {K : Bool → Prop} (q : Bool) (hq : eqPs xs ys = some q) (h : K q) (h1 : P.underlying t = some (.struct (P.fieldsOf t)) := by kernel_rfl) (h2 : P.stoodInHeld t = false := by kernel_rfl) (h3 : P.eqGuardType P.depth t = false := by kernel_rfl)
    (h4 : fieldEq P (P.fieldsOf t).toList xs 0 = true := by kernel_rfl) : PAggEq P t xs ys K := by
  refine ⟨q, fun F vs us w hv hu => ⟨fun x y => run_eqGuard_agg w .eql t x y _ _ h3, ?_⟩, h⟩
  rw [run_eql_struct, show (10000 : Nat) = 9998 + 1 + 1 from rfl, run_equalIn_agg w 9999 t _ _ h1 h2]
  have := eqPs_run (P := P) (w := w) 9998 (P.fieldsOf t).toList xs ys vs us [] [] q h4 rfl hv hu hq
  simp only [List.nil_append] at this
  rw [this]
  rfl
end Go.Cb
namespace Go.Cb
open Go.Proofs
set_option maxRecDepth 100000
set_option maxHeartbeats 4000000
def tweP : Prog := ⟨[.mk 0 1 1 [] []], .mk 8 0 [0] [.mk 4 0 [1] [.mk 1 1 [] []], .mk 5 0 [] [.mk 1 0 [] [], .mk 0 0 [] []]]⟩
def tweQ : Prog := ⟨[.mk 0 1 1 [] []], .mk 8 0 [0] [.mk 4 0 [1] [.mk 1 1 [] []], .mk 8 0 [2] [.mk 0 0 [] [], .mk 1 2 [] []]]⟩
theorem twe_next : nextT tweP.body = 2 := by
  unfold nextT
  rw [← Trm.bD_rise _ (by decide)]
  rfl
theorem twe_inl : inlP tweP ⟨5, 5, 9⟩ = tweQ ∧ inlC tweP ⟨5, 5, 9⟩ = ⟨5, 4, 4⟩ := by
  unfold inlP inlC startI
  rw [twe_next]
  exact ⟨rfl, rfl⟩
theorem twe_conv : conv12 tweP ⟨5, 5, 9⟩ = (tweQ, ⟨5, 4, 4⟩, 0) := by
  rw [conv12, if_pos (by decide), twe_inl.1, if_pos (by decide), twe_inl.2]
theorem convX_c {c v t : PV} {cs : List Datum} {vs : List Int} {ts : List Trm} [h1 : SlOf Datum.pv 5 c cs] [h2 : SlOf (PV.int .i64) 1 v vs] [h3 : SlOf Trm.pv 4 t ts] (op n : Int) (k : Ctr) (hb : (Trm.mk op n vs ts).bulk ≤ 1048576) (hl : cs.length ≤ 1000000000) (hk : k.budget ≤ 500) (he : k.effort ≤ 9223372036854775807) :
    ACallP Tryz.prog 37 [.agg [c, .int .i64 op, .int .i64 n, v, t], .agg [.int .i64 k.small, .int .i64 k.budget, .int .i64 k.effort]] (.tup [.agg (conv12 ⟨cs, .mk op n vs ts⟩ k).1.cells, .agg (conv12 ⟨cs, .mk op n vs ts⟩ k).2.1.cells, .int .i64 (conv12 ⟨cs, .mk op n vs ts⟩ k).2.2]) :=
  ACall.wk (conv12_c ⟨cs, .mk op n vs ts⟩ k hb hl hk he) (.cons (Wk.agg (.cons h1.wk (.cons (Wk.refl _) (.cons (Wk.refl _) (.cons h2.wk (.cons h3.wk .nil)))))) (.cons (Wk.refl _) .nil))
theorem twe_c {c v t : PV} [h1 : SlOf Datum.pv 5 c [.mk 0 1 1 [] []]] [h2 : SlOf (PV.int .i64) 1 v [0]] [h3 : SlOf Trm.pv 4 t [.mk 4 0 [1] [.mk 1 1 [] []], .mk 5 0 [] [.mk 1 0 [] [], .mk 0 0 [] []]]] :
    ACallP Tryz.prog 37 [.agg [c, .int .i64 8, .int .i64 0, v, t], .agg [.int .i64 5, .int .i64 5, .int .i64 9]] (.tup [.agg tweQ.cells, .agg [.int .i64 5, .int .i64 4, .int .i64 4], .int .i64 0]) := by
  have h := convX_c (c := c) (v := v) (t := t) 8 0 ⟨5, 5, 9⟩ (by decide) (by decide) (by decide) (by decide)
  have e := twe_conv
  unfold tweP at e
  rw [e] at h
  exact h
theorem awake12_c : ACallP Tryz.prog 34 [] (.bool true) := by
  refine ACall.of_body tt_ok Tryz.func34 rfl rfl (n := 62) rfl rfl ?_
  conv => whnf
  repeat ((first | ((first | (apply zY;intro hg) | apply zZ);first | exact stA | exact stB | ((conv=>whnf);(repeat ((first | (refine zW ?_ ?_;exact gA) | refine pC (twe_c) wR ?_ | intro _);conv=>whnf));first | exact pS | exact pL | exact pE)) | (refine zW ?_ ?_;exact gA) | refine zH rfl ?_ | refine zA ?_ | refine zI bA ?_ | refine zI rfl ?_ | refine zJ rfl rfl ?_ | refine zB ?_ | refine zK rfl ?_ | refine zL rfl ?_ | refine zC ?_ | (refine zO ?_ ?_ ?_;omega;omega) | (refine zP ?_ ?_ ?_;omega;omega) | refine zM rfl ?_ | (refine zQ ?_ ?_ ?_;omega;omega) | (refine zR ?_ ?_;omega) | (refine zI ?_ ?_;exact nA) | (refine zS ?_ ?_ ?_;omega;omega) | (refine zT ?_ ?_ ?_;omega;omega) | (refine zU ?_ ?_ ?_;omega;omega) | (refine zV ?_ ?_ ?_;omega;omega) | refine pC (twe_c) wR ?_ | (refine yA ?_ rfl ?_ ?_;assumption;exact lA) | (refine yB ?_ rfl ?_ ?_;assumption;exact lA) | (refine yC rfl ?_ ?_;exact lA) | refine n0 ?_ | refine zN rfl rfl rfl ?_ | refine zD ?_ | refine zE ?_ | refine zF ?_ | intro _);conv=>whnf)
  conv => whnf
  repeat' (first | ((first | ((first | (apply zY;intro hg) | apply zZ);first | exact stA | exact stB | ((conv=>whnf);(repeat ((first | (refine zW ?_ ?_;exact gA) | refine pC (twe_c) wR ?_ | intro _);conv=>whnf));first | exact pS | exact pL | exact pE)) | (refine zW ?_ ?_;exact gA) | refine zH rfl ?_ | refine zA ?_ | refine zI bA ?_ | refine zI rfl ?_ | refine zJ rfl rfl ?_ | refine zB ?_ | refine zK rfl ?_ | refine zL rfl ?_ | refine zC ?_ | (refine zO ?_ ?_ ?_;omega;omega) | (refine zP ?_ ?_ ?_;omega;omega) | refine zM rfl ?_ | (refine zQ ?_ ?_ ?_;omega;omega) | (refine zR ?_ ?_;omega) | (refine zI ?_ ?_;exact nA) | (refine zS ?_ ?_ ?_;omega;omega) | (refine zT ?_ ?_ ?_;omega;omega) | (refine zU ?_ ?_ ?_;omega;omega) | (refine zV ?_ ?_ ?_;omega;omega) | refine pC (twe_c) wR ?_ | (refine yA ?_ rfl ?_ ?_;assumption;exact lA) | (refine yB ?_ rfl ?_ ?_;assumption;exact lA) | (refine yC rfl ?_ ?_;exact lA) | refine n0 ?_ | refine zN rfl rfl rfl ?_ | refine zD ?_ | refine zE ?_ | refine zF ?_ | intro _ | refine zG ?_);conv=>whnf) | (refine zX (fun hc => ?_) (fun hc => ?_)<;>(try simp only [SY] at hc)<;>first | omega | (conv=>whnf)))
  exact PRet.pure (Wk.bool rfl)
end Go.Cb

