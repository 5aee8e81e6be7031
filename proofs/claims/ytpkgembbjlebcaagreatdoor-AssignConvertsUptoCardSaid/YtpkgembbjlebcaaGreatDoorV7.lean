/-
  Contracts: the document's words for assignment conversion.
  Drawn regions with two effects that no order binds to one another: both orders are walked.
  Contracts: the document's conversion, its parts.
  Contracts: the document's conversion of a procedure.
  Contracts: the document's conversion of a Fix.
  Contracts: the document's conversion of a term.
  Contracts: the document's conversion of a program; the law that both sides agree.
  From the readings of arguments to values, and from a contract to what a statement asks.
  The program's data, read at the seat's types; the bulk.
  A world that holds the listed tables: the statements' witness.
-/
import Derived.Carry
import Derived.ChangeArms
import Derived.ChangeSame
import Derived.Deep.DeepHandedRow
import Derived.Deep.DeepWitnessRowRef
import Derived.KernelRfl
import Derived.Lib.LaidIn
import Derived.OpenShut
import Derived.OpenVars
import Derived.RowKit
import Derived.Test.YtpkgembbjlebcaaGreatDoorRows
import Derived.WideShapes
import Derived.Test.YtpkgembbjlebcaaGreatDoorV6
set_option linter.unusedSimpArgs false
set_option linter.unusedVariables false
namespace Go.Cb
open Go.Proofs
set_option maxRecDepth 100000
set_option maxHeartbeats 4000000
def tenP : Prog := ⟨[.mk 0 1 1 [] []], .mk 4 0 [0] [.mk 2 0 [] [.mk 0 0 [] []]]⟩
def tenQ : Prog := ⟨[.mk 0 1 1 [] []], .mk 4 0 [1] [.mk 8 0 [0] [.mk 15 0 [] [.mk 1 1 [] []], .mk 17 0 [] [.mk 1 0 [] [], .mk 0 0 [] []]]]⟩
theorem ten_next : nextT tenP.body = 1 := by
  unfold nextT
  rw [← Trm.bD_rise _ (by decide)]
  rfl
theorem ten_cv : cvP tenP = tenQ := by
  unfold cvP
  rw [ten_next]
  rfl
theorem ten_conv : conv10 tenP = (tenQ, 0) := by
  rw [conv10, if_pos (by decide), ten_cv, if_pos (by decide)]
theorem ten_c (t1 t2 t3 t4 : Tok) : ACallP Tryz.prog 26 [.agg [.sl 5 [.agg [.int .i64 0, .int .i64 1, .int .i64 1, .str [], .nil]] (some t1), .int .i64 4, .int .i64 0, .sl 1 [.int .i64 0] (some t2), .sl 4 [.agg [.int .i64 2, .int .i64 0, .nil, .sl 4 [.agg [.int .i64 0, .int .i64 0, .nil, .nil]] (some t3)]] (some t4)]] (.tup [.agg tenQ.cells, .int .i64 0]) := by
  have h := conv_c tenP (by decide) (by decide)
  rw [ten_conv] at h
  refine ACall.wk h (.cons (Wk.agg (.cons (Wk.rowTok ?_) (.cons (Wk.refl _) (.cons (Wk.refl _) (.cons (Wk.tok _ _ _) (.cons (Wk.rowTok ?_) .nil)))))) .nil)
  · exact .cons (.cons (Wk.refl _) (.cons (Wk.refl _) (.cons (Wk.refl _) (.cons (Wk.refl _) (.cons (Wk.nil' rfl) .nil))))) .nil
  · refine .cons (.cons (Wk.refl _) (.cons (Wk.refl _) (.cons (Wk.nil' rfl) (.cons (Wk.rowTok ?_) .nil)))) .nil
    exact .cons (.cons (Wk.refl _) (.cons (Wk.refl _) (.cons (Wk.nil' rfl) (.cons (Wk.nil' rfl) .nil)))) .nil
theorem awake10_c : ACallP Tryz.prog 24 [] (.bool true) := by
  refine ACall.of_body tt_ok Tryz.func24 rfl rfl (n := 57) rfl rfl ?_
  conv => whnf
  repeat ((first | ((first | (apply zY;intro hg) | apply zZ);first | exact stA | exact stB | ((conv=>whnf);(repeat ((first | (refine zW ?_ ?_;exact gA) | refine pC (ten_c _ _ _ _) wR ?_ | intro _);conv=>whnf));first | exact pS | exact pL | exact pE)) | (refine zW ?_ ?_;exact gA) | refine zH rfl ?_ | refine zA ?_ | refine zI bA ?_ | refine zI rfl ?_ | refine zJ rfl rfl ?_ | refine zB ?_ | refine zK rfl ?_ | refine zL rfl ?_ | refine zC ?_ | (refine zO ?_ ?_ ?_;omega;omega) | (refine zP ?_ ?_ ?_;omega;omega) | refine zM rfl ?_ | (refine zQ ?_ ?_ ?_;omega;omega) | (refine zR ?_ ?_;omega) | (refine zI ?_ ?_;exact nA) | (refine zS ?_ ?_ ?_;omega;omega) | (refine zT ?_ ?_ ?_;omega;omega) | (refine zU ?_ ?_ ?_;omega;omega) | (refine zV ?_ ?_ ?_;omega;omega) | refine pC (ten_c _ _ _ _) wR ?_ | (refine yA ?_ rfl ?_ ?_;assumption;exact lA) | (refine yB ?_ rfl ?_ ?_;assumption;exact lA) | (refine yC rfl ?_ ?_;exact lA) | refine n0 ?_ | refine zN rfl rfl rfl ?_ | refine zD ?_ | refine zE ?_ | refine zF ?_ | intro _);conv=>whnf)
  conv => whnf
  repeat' (first | ((first | ((first | (apply zY;intro hg) | apply zZ);first | exact stA | exact stB | ((conv=>whnf);(repeat ((first | (refine zW ?_ ?_;exact gA) | refine pC (ten_c _ _ _ _) wR ?_ | intro _);conv=>whnf));first | exact pS | exact pL | exact pE)) | (refine zW ?_ ?_;exact gA) | refine zH rfl ?_ | refine zA ?_ | refine zI bA ?_ | refine zI rfl ?_ | refine zJ rfl rfl ?_ | refine zB ?_ | refine zK rfl ?_ | refine zL rfl ?_ | refine zC ?_ | (refine zO ?_ ?_ ?_;omega;omega) | (refine zP ?_ ?_ ?_;omega;omega) | refine zM rfl ?_ | (refine zQ ?_ ?_ ?_;omega;omega) | (refine zR ?_ ?_;omega) | (refine zI ?_ ?_;exact nA) | (refine zS ?_ ?_ ?_;omega;omega) | (refine zT ?_ ?_ ?_;omega;omega) | (refine zU ?_ ?_ ?_;omega;omega) | (refine zV ?_ ?_ ?_;omega;omega) | refine pC (ten_c _ _ _ _) wR ?_ | (refine yA ?_ rfl ?_ ?_;assumption;exact lA) | (refine yB ?_ rfl ?_ ?_;assumption;exact lA) | (refine yC rfl ?_ ?_;exact lA) | refine n0 ?_ | refine zN rfl rfl rfl ?_ | refine zD ?_ | refine zE ?_ | refine zF ?_ | intro _ | refine zG ?_);conv=>whnf) | (refine zX (fun hc => ?_) (fun hc => ?_)<;>(try simp only [SY] at hc)<;>first | omega | (conv=>whnf)))
  exact PRet.pure (Wk.bool rfl)
theorem few10_c (t : Trm) (n : Int) (h0 : 0 ≤ n) (h1 : n ≤ 1000000000) : ACallP Tryz.prog 25 [.agg t.cells, .int .i64 n] (.bool (decide (0 ≤ t.few n))) := by
  refine ACall.of_body tt_ok Tryz.func25 rfl rfl (n := 8) rfl rfl ?_
  conv => whnf
  repeat ((first | ((first | (apply zY;intro hg) | apply zZ);first | exact stA | exact stB | ((conv=>whnf);(repeat ((first | (refine zW ?_ ?_;exact gA) | refine pC (FewTrm_c t n h0 h1) wR ?_ | refine pC (FewTrm_c t n h0 h1) cA ?_ | intro _);conv=>whnf));first | exact pS | exact pL | exact pE)) | (refine zW ?_ ?_;exact gA) | refine zH rfl ?_ | refine zA ?_ | refine zI bA ?_ | refine zI rfl ?_ | refine zJ rfl rfl ?_ | refine zB ?_ | refine zK rfl ?_ | refine zL rfl ?_ | refine zC ?_ | (refine zO ?_ ?_ ?_;omega;omega) | (refine zP ?_ ?_ ?_;omega;omega) | refine zM rfl ?_ | (refine zQ ?_ ?_ ?_;omega;omega) | (refine zR ?_ ?_;omega) | (refine zI ?_ ?_;exact nA) | (refine zS ?_ ?_ ?_;omega;omega) | (refine zT ?_ ?_ ?_;omega;omega) | (refine zU ?_ ?_ ?_;omega;omega) | (refine zV ?_ ?_ ?_;omega;omega) | refine pC (FewTrm_c t n h0 h1) wR ?_ | refine pC (FewTrm_c t n h0 h1) cA ?_ | (refine yA ?_ rfl ?_ ?_;assumption;exact lA) | (refine yB ?_ rfl ?_ ?_;assumption;exact lA) | (refine yC rfl ?_ ?_;exact lA) | refine n0 ?_ | refine zN rfl rfl rfl ?_ | refine zD ?_ | refine zE ?_ | refine zF ?_ | intro _);conv=>whnf)
  conv => whnf
  repeat' (first | ((first | ((first | (apply zY;intro hg) | apply zZ);first | exact stA | exact stB | ((conv=>whnf);(repeat ((first | (refine zW ?_ ?_;exact gA) | refine pC (FewTrm_c t n h0 h1) wR ?_ | refine pC (FewTrm_c t n h0 h1) cA ?_ | intro _);conv=>whnf));first | exact pS | exact pL | exact pE)) | (refine zW ?_ ?_;exact gA) | refine zH rfl ?_ | refine zA ?_ | refine zI bA ?_ | refine zI rfl ?_ | refine zJ rfl rfl ?_ | refine zB ?_ | refine zK rfl ?_ | refine zL rfl ?_ | refine zC ?_ | (refine zO ?_ ?_ ?_;omega;omega) | (refine zP ?_ ?_ ?_;omega;omega) | refine zM rfl ?_ | (refine zQ ?_ ?_ ?_;omega;omega) | (refine zR ?_ ?_;omega) | (refine zI ?_ ?_;exact nA) | (refine zS ?_ ?_ ?_;omega;omega) | (refine zT ?_ ?_ ?_;omega;omega) | (refine zU ?_ ?_ ?_;omega;omega) | (refine zV ?_ ?_ ?_;omega;omega) | refine pC (FewTrm_c t n h0 h1) wR ?_ | refine pC (FewTrm_c t n h0 h1) cA ?_ | (refine yA ?_ rfl ?_ ?_;assumption;exact lA) | (refine yB ?_ rfl ?_ ?_;assumption;exact lA) | (refine yC rfl ?_ ?_;exact lA) | refine n0 ?_ | refine zN rfl rfl rfl ?_ | refine zD ?_ | refine zE ?_ | refine zF ?_ | intro _ | refine zG ?_);conv=>whnf) | (refine zX (fun hc => ?_) (fun hc => ?_)<;>(try simp only [SY] at hc)<;>first | omega | (conv=>whnf)))
  exact PRet.pure (Wk.refl _)
end Go.Cb
namespace Go.Cb
open Go.RowKit (Below)
set_option maxRecDepth 100000
set_option maxHeartbeats 4000000
section
variable {P : Program} {tt : Nat → TI}
theorem SSeq_imp {full : List Oper} {Γ : List Ent} {k k' : List PV → Prop} (hk : ∀ T, k T → k' T) : ∀ (l : List Oper) (T : List PV), SSeq P tt full l T Γ k → SSeq P tt full l T Γ k'
  | [], T, h => hk T h
  | x :: l, T, h => by
    obtain ⟨v, h1, h2⟩ := SSeq_cons.1 h
    exact SSeq_cons.2 ⟨v, h1, SSeq_imp hk l _ h2⟩
theorem gameP (hk : TT.ok P tt) (rd : Option Nat) (nn : Nat) {ops : Array Oper} {tab R2 : List Nat} (hc : tabChk ops tab = true) {w0 : World} {M Γ2 : List Ent} {F0 : Fz} {ds : List Deferred} {Q' : Exit → Act → World → Prop}
    {Tl : List PV → List Ent → Prop} (hTl : ∀ (fuel : Nat) (listed : Array Bool) (T : List PV) (Γ : List Ent) (F : Fz) (a : Act) (w : World), R2.length ≤ fuel → Down ops listed → Pend ops listed R2 → F0.le F → Sim w0 F (Γ ++ M) w → RepT F T a.tmps.toList → a.defers = ds →
      Tl T Γ → wpAnyIn (Fen rd) nn P .any ops Q' fuel listed a w) {p q : Nat} {R : List Nat} :
    ∀ (n : Nat) (A : List Nat) (fuel : Nat) (listed : Array Bool) (T : List PV) (Γ1 : List Ent) (F : Fz) (a : Act) (w : World), A.length = n → n + (2 + R.length) + R2.length ≤ fuel →
      Down ops listed → Pend ops listed (A ++ (p :: q :: (R ++ R2))) → Split0 ops tab A (p :: R) R2 → Split0 ops tab A (q :: R) R2 → F0.le F → Sim w0 F (Γ1 ++ (Γ2 ++ M)) w → RepT F T a.tmps.toList → a.defers = ds →
      (SSeq P tt ops.toList (A.filterMap (ops[·]?)) T Γ2 fun T' => (WOps P tt ops.toList ((p :: q :: R).filterMap (ops[·]?)) T' Γ1 [] fun T2 Γ1' _ => Tl T2 (Γ1' ++ Γ2)) ∧ (WOps P tt ops.toList ((q :: p :: R).filterMap (ops[·]?)) T' Γ1 [] fun T2 Γ1' _ => Tl T2 (Γ1' ++ Γ2))) →
      wpAnyIn (Fen rd) nn P .any ops Q' fuel listed a w := by
  intro n
  induction n with
  | zero | succ n ih =>
    intro A fuel listed T Γ1 F a w hn hf hd hp hsp hsq hle hS hT hds h
    cases fuel with
    | zero => omega
    | succ fuel =>
    refine ⟨fun hnil => ?_, fun i hi => ?_⟩
    · exfalso
      cases hAR : A ++ (p :: q :: (R ++ R2)) with
      | nil => simp at hAR
      | cons x xs =>
        rw [hAR] at hp
        obtain ⟨k, hk'⟩ := ready_exists hc hp
        rw [hnil] at hk'
        cases hk'
    · obtain ⟨o, ho⟩ := hp.2.2 i (hp.ready hi)
      have un : ∀ {j : Nat}, j ∈ A ++ (p :: q :: (R ++ R2)) → anc tab i j = true → False := fun {j} hj ha => blocked hc hd i ho ha ((hp.2.1 j).2 hj) hi
      have free : ∀ {j : Nat} {x : Oper}, j ∈ A ++ (p :: q :: (R ++ R2)) → ops[j]? = some x → (anc tab i j = true ∨ apartAt ops j i = true) → x.apart ops o = true := by
        intro j x hj hx h
        rcases h with h | h
        · exact (un hj h).elim
        · simpa [apartAt, hx, ho] using h
      have hmem := hp.ready hi
      rw [List.mem_append, List.mem_cons, List.mem_cons, List.mem_append] at hmem
      rcases hmem with hm | hm | hm | hm | hm
      · first
        | (exfalso; rw [List.eq_nil_of_length_eq_zero hn] at hm; cases hm)
        | (obtain ⟨A1, A2, rfl⟩ := List.append_of_mem hm
           rw [filterMap_split ho] at h
           have hap : ∀ x ∈ A1.filterMap (ops[·]?), x.apart ops o = true := by
             intro x hx
             obtain ⟨j, hj, hx⟩ := List.mem_filterMap.1 hx
             exact free (by simp [hj]) hx ((List.pairwise_append.1 hsp.pa).2.2 j hj i (by simp))
           obtain ⟨v, h1, h2⟩ := SSeq_move _ T hap h
           have hS2 : Sim w0 F (Γ2 ++ (Γ1 ++ M)) w := hS.perm (by
             rw [← List.append_assoc, ← List.append_assoc]
             exact List.perm_append_comm.append_right M)
           unfold wpOpIn
           simp only [ho]
           have key := SVal_sound hk (rd := rd) (nn := nn) (Q := Q') (next := fun a w => wpAnyIn (Fen rd) nn P .any ops Q' fuel (listed.setIfInBounds i true) a w) hS2 hT h1 (by
             intro F' u w' hle' hS' hx
             refine ih (A1 ++ A2) fuel _ (putT T o.dst v) Γ1 F' _ w' (by simp at hn ⊢; omega) (by omega) (hd.set hi) ?_ hsp.dropA hsq.dropA (Fz.le_trans hle hle') ?_ (put_rep (RepT.mono hle' _ _ hT) hx o.dst)
               ((put_defers a o.dst u).trans hds) ?_
             · have := Pend.set (l1 := A1) (l2 := A2 ++ (p :: q :: (R ++ R2))) (i := i) (by simpa using hp)
               rwa [List.append_assoc]
             · exact hS'.perm (by
                 rw [← List.append_assoc, ← List.append_assoc]
                 exact List.perm_append_comm.append_right M)
             · rw [List.filterMap_append]; exact h2)
           split at key <;> rename_i hw
           · rw [if_pos hw]; exact key
           · rw [if_neg hw]; exact ⟨fun _ _ => trivial, key⟩)
      · subst hm
        have hg : o.guard = none := hsp.ug i (by simp) o ho
        have e1 : (i :: q :: R).filterMap (ops[·]?) = o :: (q :: R).filterMap (ops[·]?) := by rw [List.filterMap_cons, ho]
        have h := SSeq_imp (fun _ h => h.1) _ _ h
        rw [e1] at h
        have hap : ∀ x ∈ A.filterMap (ops[·]?), x.apart ops o = true := by
          intro x hx
          obtain ⟨j, hj, hx⟩ := List.mem_filterMap.1 hx
          exact free (by simp [hj]) hx (hsp.par j hj i (by simp))
        have h2 := SSeq_eff (kk := fun T' Γ1' => WOps P tt ops.toList ((q :: R).filterMap (ops[·]?)) T' Γ1' [] fun T2 Γ1' _ => Tl T2 (Γ1' ++ Γ2)) _ T hap (by
          have hnd := hsp.nd i (by simp) o ho
          simpa only [WOps, hg, WOpD_noDef hnd, putK_T] using h)
        unfold wpOpIn
        simp only [ho]
        rw [if_pos (by simp [Region.wanted, hg])]
        refine WOp_sound hk (M := Γ2 ++ M) hS hT h2 ?_
        rintro F' x Γ' v' w' hle' hS' hx hK
        refine game0 hk rd nn hc hTl _ A (q :: R) fuel _ (putT T o.dst x) Γ' F' _ w' rfl (by simp only [List.length_cons]; omega) (hd.set hi) ?_ hsq (Fz.le_trans hle hle') hS' (put_rep (RepT.mono hle' _ _ hT) hx o.dst)
          ((put_defers a o.dst v').trans hds) hK
        have := Pend.set (l1 := A) (l2 := q :: (R ++ R2)) (i := i) (by simpa using hp)
        simpa using this
      · subst hm
        have hg : o.guard = none := hsq.ug i (by simp) o ho
        have e1 : (i :: p :: R).filterMap (ops[·]?) = o :: (p :: R).filterMap (ops[·]?) := by rw [List.filterMap_cons, ho]
        have h := SSeq_imp (fun _ h => h.2) _ _ h
        rw [e1] at h
        have hap : ∀ x ∈ A.filterMap (ops[·]?), x.apart ops o = true := by
          intro x hx
          obtain ⟨j, hj, hx⟩ := List.mem_filterMap.1 hx
          exact free (by simp [hj]) hx (hsq.par j hj i (by simp))
        have h2 := SSeq_eff (kk := fun T' Γ1' => WOps P tt ops.toList ((p :: R).filterMap (ops[·]?)) T' Γ1' [] fun T2 Γ1' _ => Tl T2 (Γ1' ++ Γ2)) _ T hap (by
          have hnd := hsq.nd i (by simp) o ho
          simpa only [WOps, hg, WOpD_noDef hnd, putK_T] using h)
        unfold wpOpIn
        simp only [ho]
        rw [if_pos (by simp [Region.wanted, hg])]
        refine WOp_sound hk (M := Γ2 ++ M) hS hT h2 ?_
        rintro F' x Γ' v' w' hle' hS' hx hK
        refine game0 hk rd nn hc hTl _ A (p :: R) fuel _ (putT T o.dst x) Γ' F' _ w' rfl (by simp only [List.length_cons]; omega) (hd.set hi) ?_ hsp (Fz.le_trans hle hle') hS' (put_rep (RepT.mono hle' _ _ hT) hx o.dst)
          ((put_defers a o.dst v').trans hds) hK
        have := Pend.set (l1 := A ++ [p]) (l2 := R ++ R2) (i := i) (by simpa using hp)
        simpa using this
      · exact (un (j := p) (by simp) ((List.pairwise_cons.1 hsp.r1).1 i hm)).elim
      · exact (un (j := p) (by simp) (hsp.tl p (by simp) i hm)).elim
def split0B (ops : Array Oper) (tab A R1 R2 : List Nat) : Bool :=
  pairB (fun j i => anc tab i j || apartAt ops j i) A && A.all (fun j => R1.all fun i => anc tab i j || apartAt ops j i) &&
  pairB (fun j i => anc tab i j) R1 && (A ++ R1).all (fun j => R2.all fun i => anc tab i j) &&
  R1.all (fun i => match ops[i]? with | some o => o.guard.isNone | none => false) && R1.all (fun i => match ops[i]? with | some o => noDef o.op | none => false)
theorem Split0.ofB {ops : Array Oper} {tab A R1 R2 : List Nat} (h : split0B ops tab A R1 R2 = true) : Split0 ops tab A R1 R2 := by
  simp only [split0B, Bool.and_eq_true] at h
  obtain ⟨⟨⟨⟨⟨h1, h2⟩, h3⟩, h5⟩, h6⟩, h6'⟩ := h
  refine ⟨(pairB_iff h1).imp fun h => by simpa using h, fun j hj i hi => ?_, pairB_iff h3, fun j hj i hi => ?_, fun i hi o ho => ?_, fun i hi o ho => ?_⟩
  · have := List.all_eq_true.1 (List.all_eq_true.1 h2 j hj) i hi
    simpa using this
  · exact List.all_eq_true.1 (List.all_eq_true.1 h5 j hj) i hi
  · have := List.all_eq_true.1 h6 i hi
    rw [ho] at this
    simpa using this
  · have := List.all_eq_true.1 h6' i hi
    rw [ho] at this
    exact this
def splitWB (ops : Array Oper) (tab A : List Nat) (p q : Nat) (R B R2 : List Nat) : Bool :=
  tabChk ops tab && split0B ops tab A (p :: R) (B ++ R2) && split0B ops tab A (q :: R) (B ++ R2) &&
  pairB (fun j i => anc tab i j || apartAt ops j i) B && pairB (fun j i => anc tab i j) R2 && B.all (fun j => R2.all fun i => anc tab i j) && R2.all (fun i => match ops[i]? with | some o => noDef o.op | none => false) &&
  pairB (fun j i => !(Nat.beq j i)) (A ++ (p :: q :: (R ++ (B ++ R2)))) && (List.range ops.size).all (fun i => (A ++ (p :: q :: (R ++ (B ++ R2)))).contains i) && (A ++ (p :: q :: (R ++ (B ++ R2)))).all (fun i => Nat.blt i ops.size)
theorem PDraw.splitW (hk : TT.ok P tt) (hm : P.follows .mixedOrders = true) {ops : Array Oper} {T : List PV} {Γ Γ2 : List Ent} {K : List PV → List Ent → Prop} (tab A : List Nat) (p q : Nat) (R B R2 : List Nat) (Γ1 : List Ent)
    (hchk : splitWB ops tab A p q R B R2 = true) [hp : PickL Γ Γ1 Γ2]
    (h : SSeq P tt ops.toList (pickO ops.toList A) T Γ2 fun T' =>
      (WOps P tt ops.toList (pickO ops.toList (p :: q :: R)) T' Γ1 [] fun T2 Γ1' _ => appE Γ1' Γ2 fun Γ' => SSeq P tt ops.toList (pickO ops.toList B) T2 Γ' fun T3 => WOps P tt ops.toList (pickO ops.toList R2) T3 Γ' [] fun T' Γ' _ => K T' Γ') ∧
      (WOps P tt ops.toList (pickO ops.toList (q :: p :: R)) T' Γ1 [] fun T2 Γ1' _ => appE Γ1' Γ2 fun Γ' => SSeq P tt ops.toList (pickO ops.toList B) T2 Γ' fun T3 => WOps P tt ops.toList (pickO ops.toList R2) T3 Γ' [] fun T' Γ' _ => K T' Γ')) : PDraw P ops T Γ K := by
  refine ⟨fun rd nn id w0 F M w a Q' hS hT hQ => wpIn_region_any hm ?_⟩
  simp only [splitWB, Bool.and_eq_true] at hchk
  obtain ⟨⟨⟨⟨⟨⟨⟨⟨⟨hc, s1⟩, s2⟩, b1⟩, b2⟩, b3⟩, b4⟩, h7⟩, h8⟩, h9⟩ := hchk
  have hlt : ∀ i ∈ A ++ (p :: q :: (R ++ (B ++ R2))), i < ops.size := fun i hi => by
    have := List.all_eq_true.1 h9 i hi
    simpa [Nat.blt, Nat.succ_le_iff] using this
  have hpend : Pend ops (Array.replicate ops.size false) (A ++ (p :: q :: (R ++ (B ++ R2)))) := by
    refine ⟨(pairB_iff h7).imp fun h => by
      intro e
      subst e
      simp at h, ?_, fun i hi => ⟨_, Array.getElem?_eq_getElem (hlt i hi)⟩⟩
    intro i
    constructor
    · intro hi
      rcases Nat.lt_or_ge i ops.size with h' | h'
      · have := List.all_eq_true.1 h8 i (List.mem_range.2 h')
        simpa only [List.contains_iff_mem] using this
      · simp [Array.getElem?_eq_none, h'] at hi
    · intro hi
      simp [hlt i hi]
  have hsp2 : Split ops tab B [] R2 := by
    refine ⟨(pairB_iff b1).imp fun h => by simpa using h, fun _ _ _ h => (by cases h), List.Pairwise.nil, pairB_iff b2, fun j hj i hi => ?_, fun _ h => (by cases h), fun i hi o ho => ?_⟩
    · exact List.all_eq_true.1 (List.all_eq_true.1 b3 j (by simpa using hj)) i hi
    · have := List.all_eq_true.1 b4 i (by simpa using hi)
      rw [ho] at this
      exact this
  have hlen : A.length + (2 + R.length) + (B ++ R2).length ≤ ops.size := by
    have hsub : (A ++ (p :: q :: (R ++ (B ++ R2)))) ⊆ List.range ops.size := fun i hi => List.mem_range.2 (hlt i hi)
    have := hpend.1.length_le_of_subset hsub
    simp only [List.length_append, List.length_cons, List.length_range] at this ⊢
    omega
  have hS' : Sim w0 F (Γ1 ++ (Γ2 ++ M)) { w with drawn := w.drawn + 1 } := by
    have := (hS.perm (hp.p.append_right M)).of_heap (w' := { w with drawn := w.drawn + 1 }) rfl rfl rfl rfl
    simpa using this
  refine gameP hk rd nn hc (R2 := B ++ R2) (F0 := F) (ds := a.defers) (Tl := fun T2 Γ' => SSeq P tt ops.toList (pickO ops.toList B) T2 Γ' fun T3 => WOps P tt ops.toList (pickO ops.toList R2) T3 Γ' [] fun T' Γ' _ => K T' Γ') ?_ _ A ops.size _ T Γ1 F a _ rfl hlen ?_ hpend (Split0.ofB s1) (Split0.ofB s2) (Fz.le_refl F) hS' hT rfl ?_
  · intro fuel listed T2 Γ' F' a' w' hf hd hpd hle hS2 hT2 hds ht
    refine game hk rd nn hc (R2 := R2) (F0 := F) (ds := a.defers) hQ _ B [] fuel listed T2 [] F' a' w' rfl (by simpa using hf) hd (by simpa using hpd) hsp2 hle (Γ2 := Γ') (by simpa using hS2) hT2 hds ?_
    simpa only [pickO_eq, Array.getElem?_toList, List.filterMap_nil, WOps, List.nil_append] using ht
  · intro k o hk'
    rcases Nat.lt_or_ge k ops.size with h' | h'
    · simp [h'] at hk'
    · intro ho
      have := (Array.getElem?_eq_some_iff.1 ho).1
      omega
  · simpa only [pickO_eq, Array.getElem?_toList, appE_eq] using h
theorem PDraw.sW {ops : Array Oper} (Γ1 : List Ent) (p q : Nat) (R B R2 : List Nat) (hk : TT.ok P tt) (hm : P.follows .mixedOrders = true) {T : List PV} {Γ Γ2 : List Ent} {K : List PV → List Ent → Prop} [hp : PickL Γ Γ1 Γ2]
    (h : SSeq P tt ops.toList (pickO ops.toList (restL ops.toList 0 (p :: q :: (R ++ (B ++ R2))))) T Γ2 fun T' =>
      (WOps P tt ops.toList (pickO ops.toList (p :: q :: R)) T' Γ1 [] fun T2 Γ1' _ => appE Γ1' Γ2 fun Γ' => SSeq P tt ops.toList (pickO ops.toList B) T2 Γ' fun T3 => WOps P tt ops.toList (pickO ops.toList R2) T3 Γ' [] fun T' Γ' _ => K T' Γ') ∧
      (WOps P tt ops.toList (pickO ops.toList (q :: p :: R)) T' Γ1 [] fun T2 Γ1' _ => appE Γ1' Γ2 fun Γ' => SSeq P tt ops.toList (pickO ops.toList B) T2 Γ' fun T3 => WOps P tt ops.toList (pickO ops.toList R2) T3 Γ' [] fun T' Γ' _ => K T' Γ'))
    (hchk : splitWB ops (tabOf ops.toList []) (restL ops.toList 0 (p :: q :: (R ++ (B ++ R2)))) p q R B R2 = true := by kernel_rfl) : PDraw P ops T Γ K :=
  PDraw.splitW hk hm _ _ p q R B R2 Γ1 hchk h
end
end Go.Cb
namespace Go.Cb
open Go.Proofs
set_option maxRecDepth 100000
set_option maxHeartbeats 4000000
abbrev mkG (b : Nat) (B : Trm) (k : Int) : List Ent := [.box b [.int .i64 B.op, .int .i64 B.n, .sl 1 (B.v.map (PV.int .i64)) none, .sl 4 (B.t.map Trm.pv) none, .int .i64 k]]
def setsB (B : Trm) (v : Int) : Bool := decide (0 < B.uC (setP v) 0)
theorem assigned_d (b : Nat) (B : Trm) (hb : B.bulk ≤ 1000000000) (k v : Int) : ACall Tryz.prog 99 [.ptr b 0, .int .i64 v] (mkG b B k) (fun y Γ' => y = .bool (setsB B v) ∧ Γ' = mkG b B k) := by
  refine ACall.of_body tt_ok Tryz.func99 rfl rfl (n := 18) rfl rfl ?_
  conv => whnf
  repeat ((first | ((first | (apply zY;intro hg) | apply zZ);first | exact stA | exact stB | ((conv=>whnf);(repeat ((first | (refine zW ?_ ?_;exact gA) | refine pC (Uses_d v B hb) wR ?_ | refine zA ?_ | refine zH rfl ?_ | refine zB ?_ | (refine yE ?_ ?_ ?_ ?_;assumption;omega;omega) | (refine yF ?_ rfl ?_;omega) | intro _);conv=>whnf));first | exact pS | exact pL | exact pE)) | (refine zW ?_ ?_;exact gA) | refine zH rfl ?_ | refine zA ?_ | refine zI bA ?_ | refine zI rfl ?_ | refine zJ rfl rfl ?_ | refine zB ?_ | refine zK rfl ?_ | refine zL rfl ?_ | refine zC ?_ | (refine zO ?_ ?_ ?_;omega;omega) | (refine zP ?_ ?_ ?_;omega;omega) | refine zM rfl ?_ | (refine zQ ?_ ?_ ?_;omega;omega) | (refine zR ?_ ?_;omega) | (refine zI ?_ ?_;exact nA) | (refine zS ?_ ?_ ?_;omega;omega) | (refine zT ?_ ?_ ?_;omega;omega) | (refine zU ?_ ?_ ?_;omega;omega) | (refine zV ?_ ?_ ?_;omega;omega) | refine pC (Uses_d v B hb) wR ?_ | (refine yA ?_ rfl ?_ ?_;assumption;exact lA) | (refine yB ?_ rfl ?_ ?_;assumption;exact lA) | (refine yC rfl ?_ ?_;exact lA) | (refine yD ?_ ?_ rfl ?_ ?_;assumption;assumption;exact lA) | (refine yE ?_ ?_ ?_ ?_;assumption;omega;omega) | (refine yF ?_ rfl ?_;omega) | (refine yG ?_ rfl rfl rfl ?_;omega) | refine n0 ?_ | refine zN rfl rfl rfl ?_ | refine zD ?_ | refine zE ?_ | refine zF ?_ | intro _);conv=>whnf)
  conv => whnf
  repeat' (first | ((first | ((first | (apply zY;intro hg) | apply zZ);first | exact stA | exact stB | ((conv=>whnf);(repeat ((first | (refine zW ?_ ?_;exact gA) | refine pC (Uses_d v B hb) wR ?_ | refine zA ?_ | refine zH rfl ?_ | refine zB ?_ | (refine yE ?_ ?_ ?_ ?_;assumption;omega;omega) | (refine yF ?_ rfl ?_;omega) | intro _);conv=>whnf));first | exact pS | exact pL | exact pE)) | (refine zW ?_ ?_;exact gA) | refine zH rfl ?_ | refine zA ?_ | refine zI bA ?_ | refine zI rfl ?_ | refine zJ rfl rfl ?_ | refine zB ?_ | refine zK rfl ?_ | refine zL rfl ?_ | refine zC ?_ | (refine zO ?_ ?_ ?_;omega;omega) | (refine zP ?_ ?_ ?_;omega;omega) | refine zM rfl ?_ | (refine zQ ?_ ?_ ?_;omega;omega) | (refine zR ?_ ?_;omega) | (refine zI ?_ ?_;exact nA) | (refine zS ?_ ?_ ?_;omega;omega) | (refine zT ?_ ?_ ?_;omega;omega) | (refine zU ?_ ?_ ?_;omega;omega) | (refine zV ?_ ?_ ?_;omega;omega) | refine pC (Uses_d v B hb) wR ?_ | (refine yA ?_ rfl ?_ ?_;assumption;exact lA) | (refine yB ?_ rfl ?_ ?_;assumption;exact lA) | (refine yC rfl ?_ ?_;exact lA) | (refine yD ?_ ?_ rfl ?_ ?_;assumption;assumption;exact lA) | (refine yE ?_ ?_ ?_ ?_;assumption;omega;omega) | (refine yF ?_ rfl ?_;omega) | (refine yG ?_ rfl rfl rfl ?_;omega) | refine n0 ?_ | refine zN rfl rfl rfl ?_ | refine zD ?_ | refine zE ?_ | refine zF ?_ | intro _ | refine zG ?_);conv=>whnf) | (refine zX (fun hc => ?_) (fun hc => ?_)<;>(try simp only [SY] at hc)<;>first | omega | (conv=>whnf)))
  exact PRet.gen (Wk.refl _) ⟨rfl, rfl⟩
theorem refD_c (v : Int) : ACallP Tryz.prog 100 [.int .i64 v] (.agg (refT v).cells) := by
  refine ACall.of_body tt_ok Tryz.func100 rfl rfl (n := 5) rfl rfl ?_
  conv => whnf
  repeat ((first | ((first | (apply zY;intro hg) | apply zZ);first | exact stA | exact stB | ((conv=>whnf);(repeat ((first | (refine zW ?_ ?_;exact gA) | refine pC (Uses_d v B hb) wR ?_ | refine zA ?_ | refine zH rfl ?_ | refine zB ?_ | (refine yE ?_ ?_ ?_ ?_;assumption;omega;omega) | (refine yF ?_ rfl ?_;omega) | intro _);conv=>whnf));first | exact pS | exact pL | exact pE)) | (refine zW ?_ ?_;exact gA) | refine zH rfl ?_ | refine zA ?_ | refine zI bA ?_ | refine zI rfl ?_ | refine zJ rfl rfl ?_ | refine zB ?_ | refine zK rfl ?_ | refine zL rfl ?_ | refine zC ?_ | (refine zO ?_ ?_ ?_;omega;omega) | (refine zP ?_ ?_ ?_;omega;omega) | refine zM rfl ?_ | (refine zQ ?_ ?_ ?_;omega;omega) | (refine zR ?_ ?_;omega) | (refine zI ?_ ?_;exact nA) | (refine zS ?_ ?_ ?_;omega;omega) | (refine zT ?_ ?_ ?_;omega;omega) | (refine zU ?_ ?_ ?_;omega;omega) | (refine zV ?_ ?_ ?_;omega;omega) | refine pC (Uses_d v B hb) wR ?_ | (refine yA ?_ rfl ?_ ?_;assumption;exact lA) | (refine yB ?_ rfl ?_ ?_;assumption;exact lA) | (refine yC rfl ?_ ?_;exact lA) | (refine yD ?_ ?_ rfl ?_ ?_;assumption;assumption;exact lA) | (refine yE ?_ ?_ ?_ ?_;assumption;omega;omega) | (refine yF ?_ rfl ?_;omega) | (refine yG ?_ rfl rfl rfl ?_;omega) | refine n0 ?_ | refine zN rfl rfl rfl ?_ | refine zD ?_ | refine zE ?_ | refine zF ?_ | intro _);conv=>whnf)
  conv => whnf
  repeat' (first | ((first | ((first | (apply zY;intro hg) | apply zZ);first | exact stA | exact stB | ((conv=>whnf);(repeat ((first | (refine zW ?_ ?_;exact gA) | refine pC (Uses_d v B hb) wR ?_ | refine zA ?_ | refine zH rfl ?_ | refine zB ?_ | (refine yE ?_ ?_ ?_ ?_;assumption;omega;omega) | (refine yF ?_ rfl ?_;omega) | intro _);conv=>whnf));first | exact pS | exact pL | exact pE)) | (refine zW ?_ ?_;exact gA) | refine zH rfl ?_ | refine zA ?_ | refine zI bA ?_ | refine zI rfl ?_ | refine zJ rfl rfl ?_ | refine zB ?_ | refine zK rfl ?_ | refine zL rfl ?_ | refine zC ?_ | (refine zO ?_ ?_ ?_;omega;omega) | (refine zP ?_ ?_ ?_;omega;omega) | refine zM rfl ?_ | (refine zQ ?_ ?_ ?_;omega;omega) | (refine zR ?_ ?_;omega) | (refine zI ?_ ?_;exact nA) | (refine zS ?_ ?_ ?_;omega;omega) | (refine zT ?_ ?_ ?_;omega;omega) | (refine zU ?_ ?_ ?_;omega;omega) | (refine zV ?_ ?_ ?_;omega;omega) | refine pC (Uses_d v B hb) wR ?_ | (refine yA ?_ rfl ?_ ?_;assumption;exact lA) | (refine yB ?_ rfl ?_ ?_;assumption;exact lA) | (refine yC rfl ?_ ?_;exact lA) | (refine yD ?_ ?_ rfl ?_ ?_;assumption;assumption;exact lA) | (refine yE ?_ ?_ ?_ ?_;assumption;omega;omega) | (refine yF ?_ rfl ?_;omega) | (refine yG ?_ rfl rfl rfl ?_;omega) | refine n0 ?_ | refine zN rfl rfl rfl ?_ | refine zD ?_ | refine zE ?_ | refine zF ?_ | intro _ | refine zG ?_);conv=>whnf) | (refine zX (fun hc => ?_) (fun hc => ?_)<;>(try simp only [SY] at hc)<;>first | omega | (conv=>whnf)))
  exact PRet.pure wA
theorem boxD_c (t : Trm) : ACallP Tryz.prog 104 [.agg t.cells] (.agg (boxT t).cells) := by
  refine ACall.of_body tt_ok Tryz.func104 rfl rfl (n := 6) rfl rfl ?_
  conv => whnf
  repeat ((first | ((first | (apply zY;intro hg) | apply zZ);first | exact stA | exact stB | ((conv=>whnf);(repeat ((first | (refine zW ?_ ?_;exact gA) | refine pC (Uses_d v B hb) wR ?_ | refine zA ?_ | refine zH rfl ?_ | refine zB ?_ | (refine yE ?_ ?_ ?_ ?_;assumption;omega;omega) | (refine yF ?_ rfl ?_;omega) | intro _);conv=>whnf));first | exact pS | exact pL | exact pE)) | (refine zW ?_ ?_;exact gA) | refine zH rfl ?_ | refine zA ?_ | refine zI bA ?_ | refine zI rfl ?_ | refine zJ rfl rfl ?_ | refine zB ?_ | refine zK rfl ?_ | refine zL rfl ?_ | refine zC ?_ | (refine zO ?_ ?_ ?_;omega;omega) | (refine zP ?_ ?_ ?_;omega;omega) | refine zM rfl ?_ | (refine zQ ?_ ?_ ?_;omega;omega) | (refine zR ?_ ?_;omega) | (refine zI ?_ ?_;exact nA) | (refine zS ?_ ?_ ?_;omega;omega) | (refine zT ?_ ?_ ?_;omega;omega) | (refine zU ?_ ?_ ?_;omega;omega) | (refine zV ?_ ?_ ?_;omega;omega) | refine pC (Uses_d v B hb) wR ?_ | (refine yA ?_ rfl ?_ ?_;assumption;exact lA) | (refine yB ?_ rfl ?_ ?_;assumption;exact lA) | (refine yC rfl ?_ ?_;exact lA) | (refine yD ?_ ?_ rfl ?_ ?_;assumption;assumption;exact lA) | (refine yE ?_ ?_ ?_ ?_;assumption;omega;omega) | (refine yF ?_ rfl ?_;omega) | (refine yG ?_ rfl rfl rfl ?_;omega) | refine n0 ?_ | refine zN rfl rfl rfl ?_ | refine zD ?_ | refine zE ?_ | refine zF ?_ | intro _);conv=>whnf)
  conv => whnf
  repeat' (first | ((first | ((first | (apply zY;intro hg) | apply zZ);first | exact stA | exact stB | ((conv=>whnf);(repeat ((first | (refine zW ?_ ?_;exact gA) | refine pC (Uses_d v B hb) wR ?_ | refine zA ?_ | refine zH rfl ?_ | refine zB ?_ | (refine yE ?_ ?_ ?_ ?_;assumption;omega;omega) | (refine yF ?_ rfl ?_;omega) | intro _);conv=>whnf));first | exact pS | exact pL | exact pE)) | (refine zW ?_ ?_;exact gA) | refine zH rfl ?_ | refine zA ?_ | refine zI bA ?_ | refine zI rfl ?_ | refine zJ rfl rfl ?_ | refine zB ?_ | refine zK rfl ?_ | refine zL rfl ?_ | refine zC ?_ | (refine zO ?_ ?_ ?_;omega;omega) | (refine zP ?_ ?_ ?_;omega;omega) | refine zM rfl ?_ | (refine zQ ?_ ?_ ?_;omega;omega) | (refine zR ?_ ?_;omega) | (refine zI ?_ ?_;exact nA) | (refine zS ?_ ?_ ?_;omega;omega) | (refine zT ?_ ?_ ?_;omega;omega) | (refine zU ?_ ?_ ?_;omega;omega) | (refine zV ?_ ?_ ?_;omega;omega) | refine pC (Uses_d v B hb) wR ?_ | (refine yA ?_ rfl ?_ ?_;assumption;exact lA) | (refine yB ?_ rfl ?_ ?_;assumption;exact lA) | (refine yC rfl ?_ ?_;exact lA) | (refine yD ?_ ?_ rfl ?_ ?_;assumption;assumption;exact lA) | (refine yE ?_ ?_ ?_ ?_;assumption;omega;omega) | (refine yF ?_ rfl ?_;omega) | (refine yG ?_ rfl rfl rfl ?_;omega) | refine n0 ?_ | refine zN rfl rfl rfl ?_ | refine zD ?_ | refine zE ?_ | refine zF ?_ | intro _ | refine zG ?_);conv=>whnf) | (refine zX (fun hc => ?_) (fun hc => ?_)<;>(try simp only [SY] at hc)<;>first | omega | (conv=>whnf)))
  exact PRet.pure TrmOf.wk
def MkOk (b : Nat) (B x : Trm) : Prop := ∀ k : Int, 0 ≤ k → k + x.bulk ≤ 1000000000000000 →
  ACall Tryz.prog 59 [.ptr b 0, .agg x.cells] (mkG b B k) (fun y Γ' => y = .agg (x.cv (setsB B) k).cells ∧ Γ' = mkG b B (k + x.fr (setsB B)))
theorem mkAll_c (b : Nat) (B : Trm) (l : List Trm) (k : Int) (hf : ∀ x ∈ l, MkOk b B x) (h0 : 0 ≤ k) (hk : k + Trm.bulks l ≤ 1000000000000000) (hl : l.length ≤ 1000000000) :
    ACall Tryz.prog 101 [.ptr b 0, .sl 4 (l.map Trm.pv) none] (mkG b B k)
      (fun y Γ' => ∃ tk : Tok, tk.e = 26 ∧ tk.s = 4 ∧ y = .ms tk ∧ Γ' = .row tk ((Trm.cvs (setsB B) l k).map Trm.pv) :: mkG b B (k + Trm.frs (setsB B) l)) := by
  generalize hA : setsB B = A at *
  refine ACall.of_body tt_ok Tryz.func101 rfl rfl (n := 23) rfl rfl ?_
  conv => whnf
  repeat ((first | ((first | (apply zY;intro hg) | apply zZ);first | exact stA | exact stB | ((conv=>whnf);(repeat ((first | (refine zW ?_ ?_;exact gA) | refine pC (Uses_d v B hb) wR ?_ | refine zA ?_ | refine zH rfl ?_ | refine zB ?_ | (refine yE ?_ ?_ ?_ ?_;assumption;omega;omega) | (refine yF ?_ rfl ?_;omega) | intro _);conv=>whnf));first | exact pS | exact pL | exact pE)) | (refine zW ?_ ?_;exact gA) | refine zH rfl ?_ | refine zA ?_ | refine zI bA ?_ | refine zI rfl ?_ | refine zJ rfl rfl ?_ | refine zB ?_ | refine zK rfl ?_ | refine zL rfl ?_ | refine zC ?_ | (refine zO ?_ ?_ ?_;omega;omega) | (refine zP ?_ ?_ ?_;omega;omega) | refine zM rfl ?_ | (refine zQ ?_ ?_ ?_;omega;omega) | (refine zR ?_ ?_;omega) | (refine zI ?_ ?_;exact nA) | (refine zS ?_ ?_ ?_;omega;omega) | (refine zT ?_ ?_ ?_;omega;omega) | (refine zU ?_ ?_ ?_;omega;omega) | (refine zV ?_ ?_ ?_;omega;omega) | refine pC (Uses_d v B hb) wR ?_ | (refine yA ?_ rfl ?_ ?_;assumption;exact lA) | (refine yB ?_ rfl ?_ ?_;assumption;exact lA) | (refine yC rfl ?_ ?_;exact lA) | (refine yD ?_ ?_ rfl ?_ ?_;assumption;assumption;exact lA) | (refine yE ?_ ?_ ?_ ?_;assumption;omega;omega) | (refine yF ?_ rfl ?_;omega) | (refine yG ?_ rfl rfl rfl ?_;omega) | refine n0 ?_ | refine zN rfl rfl rfl ?_ | refine zD ?_ | refine zE ?_ | refine zF ?_ | intro _);conv=>whnf)
  refine PLoop.enter [5, 6, 7, 8, 9, 10, 11, 12, 13, 14, 15, 16, 17, 18, 19, 20, 21] (fun x : Nat × List Trm × Tok => [(5, .ms x.2.2), (6, .int .i64 x.1)]) (fun x : Nat × List Trm × Tok => .row x.2.2 (x.2.1.map Trm.pv) :: mkG b B (k + Trm.frs A (l.take x.1)))
    (fun x => x.1 ≤ l.length ∧ (x.2.2.e = 26 ∧ x.2.2.s = 4) ∧ x.2.1 = (Trm.cvs A l k).take x.1) (fun x => l.length - x.1) (0, [], nilTok 4 26) ⟨Nat.zero_le _, ⟨rfl, rfl⟩, rfl⟩
    (by (repeat' (first | exact trivial | exact Wk.refl _ | (refine And.intro ?_ ?_) | exact Wk.nilRow _ _ | exact Wk.any _))) (by simpa [Trm.frs] using Ghost.nilRow 4 26 _) ?_
  rintro ⟨i, m, tk⟩ ⟨hi, ⟨hte, hts⟩, hm⟩
  dsimp only at hi hte hts hm ⊢
  have hlen := Trm.cvs_length A l k
  have hfb := Trm.frs_bd A (l.take i)
  have hml : m.length ≤ 1000000000 := by rw [hm, List.length_take]; omega
  conv => whnf
  repeat' (first | ((first | ((first | (apply zY;intro hg) | apply zZ);first | exact stA | exact stB | ((conv=>whnf);(repeat ((first | (refine zW ?_ ?_;exact gA) | refine pC (Uses_d v B hb) wR ?_ | refine zA ?_ | refine zH rfl ?_ | refine zB ?_ | (refine yE ?_ ?_ ?_ ?_;assumption;omega;omega) | (refine yF ?_ rfl ?_;omega) | intro _);conv=>whnf));first | exact pS | exact pL | exact pE)) | (refine zW ?_ ?_;exact gA) | refine zH rfl ?_ | refine zA ?_ | refine zI bA ?_ | refine zI rfl ?_ | refine zJ rfl rfl ?_ | refine zB ?_ | refine zK rfl ?_ | refine zL rfl ?_ | refine zC ?_ | (refine zO ?_ ?_ ?_;omega;omega) | (refine zP ?_ ?_ ?_;omega;omega) | refine zM rfl ?_ | (refine zQ ?_ ?_ ?_;omega;omega) | (refine zR ?_ ?_;omega) | (refine zI ?_ ?_;exact nA) | (refine zS ?_ ?_ ?_;omega;omega) | (refine zT ?_ ?_ ?_;omega;omega) | (refine zU ?_ ?_ ?_;omega;omega) | (refine zV ?_ ?_ ?_;omega;omega) | refine pC (Uses_d v B hb) wR ?_ | (refine yA ?_ rfl ?_ ?_;assumption;exact lA) | (refine yB ?_ rfl ?_ ?_;assumption;exact lA) | (refine yC rfl ?_ ?_;exact lA) | (refine yD ?_ ?_ rfl ?_ ?_;assumption;assumption;exact lA) | (refine yE ?_ ?_ ?_ ?_;assumption;omega;omega) | (refine yF ?_ rfl ?_;omega) | (refine yG ?_ rfl rfl rfl ?_;omega) | refine n0 ?_ | refine zN rfl rfl rfl ?_ | refine zD ?_ | refine zE ?_ | refine zF ?_ | intro _ | refine zG ?_);conv=>whnf) | (refine zX (fun hc => ?_) (fun hc => ?_)<;>(try simp only [SY] at hc)<;>first | omega | (conv=>whnf)))
  · have hlt : i < l.length := by omega
    have hbt : Trm.bulks (l.take i) + (l[i]).bulk ≤ Trm.bulks l := by
      have h1 : l.take (i + 1) ++ l.drop (i + 1) = l := List.take_append_drop _ _
      have h2 := congrArg Trm.bulks h1
      rw [List.take_succ_eq_append_getElem hlt, Trm.bulks_append, Trm.bulks_append, Trm.bulks, Trm.bulks] at h2
      omega
    have hcl := hf _ (List.getElem_mem hlt) (k + Trm.frs A (l.take i)) (by omega) (by omega)
    rw [hA] at hcl
    refine PCall.go hcl (WkT.refl _) ?_
    rintro _ _ ⟨rfl, rfl⟩
    conv => whnf
    repeat' (first | ((first | ((first | (apply zY;intro hg) | apply zZ);first | exact stA | exact stB | ((conv=>whnf);(repeat ((first | (refine zW ?_ ?_;exact gA) | refine pC (Uses_d v B hb) wR ?_ | refine zA ?_ | refine zH rfl ?_ | refine zB ?_ | (refine yE ?_ ?_ ?_ ?_;assumption;omega;omega) | (refine yF ?_ rfl ?_;omega) | intro _);conv=>whnf));first | exact pS | exact pL | exact pE)) | (refine zW ?_ ?_;exact gA) | refine zH rfl ?_ | refine zA ?_ | refine zI bA ?_ | refine zI rfl ?_ | refine zJ rfl rfl ?_ | refine zB ?_ | refine zK rfl ?_ | refine zL rfl ?_ | refine zC ?_ | (refine zO ?_ ?_ ?_;omega;omega) | (refine zP ?_ ?_ ?_;omega;omega) | refine zM rfl ?_ | (refine zQ ?_ ?_ ?_;omega;omega) | (refine zR ?_ ?_;omega) | (refine zI ?_ ?_;exact nA) | (refine zS ?_ ?_ ?_;omega;omega) | (refine zT ?_ ?_ ?_;omega;omega) | (refine zU ?_ ?_ ?_;omega;omega) | (refine zV ?_ ?_ ?_;omega;omega) | refine pC (Uses_d v B hb) wR ?_ | (refine yA ?_ rfl ?_ ?_;assumption;exact lA) | (refine yB ?_ rfl ?_ ?_;assumption;exact lA) | (refine yC rfl ?_ ?_;exact lA) | (refine yD ?_ ?_ rfl ?_ ?_;assumption;assumption;exact lA) | (refine yE ?_ ?_ ?_ ?_;assumption;omega;omega) | (refine yF ?_ rfl ?_;omega) | (refine yG ?_ rfl rfl rfl ?_;omega) | refine n0 ?_ | refine zN rfl rfl rfl ?_ | refine zD ?_ | refine zE ?_ | refine zF ?_ | intro _ | refine zG ?_);conv=>whnf) | (refine zX (fun hc => ?_) (fun hc => ?_)<;>(try simp only [SY] at hc)<;>first | omega | (conv=>whnf)))
    rename_i t0 ht0 t2 ht2 hs2
    have e : k + Trm.frs A (l.take i) + (l[i]).fr A = k + Trm.frs A (l.take (i + 1)) := by rw [Trm.frs_take _ hlt]; omega
    rw [e]
    refine loopTo (i + 1, m ++ [(l[i]).cv A (k + Trm.frs A (l.take i))], t2) ⟨by show i + 1 ≤ _; omega, ⟨ht2, hs2⟩, ?_⟩ (by show l.length - (i + 1) < l.length - i; omega) wA
    show m ++ [_] = (Trm.cvs A l k).take (i + 1)
    rw [List.take_succ_eq_append_getElem (by omega), ← hm, Trm.cvs_get _ _ _ _ hlt]
  · have e : m = Trm.cvs A l k := by rw [hm, List.take_of_length_le (by omega)]
    subst e
    rw [List.take_of_length_le (by omega)]
    exact PRet.gen (Γ' := .row tk ((Trm.cvs A l k).map Trm.pv) :: mkG b B (k + Trm.frs A l)) (Wk.refl _) ⟨tk, hte, hts, rfl, rfl⟩
theorem mkAllF_c (b : Nat) (B : Trm) (l : List Trm) (k : Int) (hf : ∀ x ∈ l, MkOk b B x) (h0 : 0 ≤ k) (hk : k + Trm.bulks l ≤ 1000000000000000) (hl : l.length ≤ 1000000000) :
    ACall Tryz.prog 101 [.ptr b 0, .sl 4 (l.map Trm.pv) none] (mkG b B k)
      (fun y Γ' => y = .sl 4 ((Trm.cvs (setsB B) l k).map Trm.pv) none ∧ Γ' = mkG b B (k + Trm.frs (setsB B) l)) :=
  (mkAll_c b B l k hf h0 hk hl).shift fun y Γ' h => by
    obtain ⟨tk, _, hs, rfl, rfl⟩ := h
    exact ⟨_, _, Shift.trans (Shift.freezeRow (hp := ⟨List.Perm.refl _⟩) (WkF.ms' hs)) (Shift.wk (Wk.refl _) (Γ1 := [.tok tk]) (List.perm_append_singleton _ _).symm), rfl, rfl⟩
end Go.Cb
namespace Go.Cb
open Go.Proofs
set_option maxRecDepth 100000
set_option maxHeartbeats 4000000
theorem lamD_c (b : Nat) (B : Trm) (hB : B.bulk ≤ 1000000000) (t : Trm) (hop : t.op = 4) (hlen : t.t.length = 1) (hf : ∀ x ∈ t.t, MkOk b B x) (hb : t.bulk ≤ 1000000000) (k : Int) (h0 : 0 ≤ k) (hk : k + t.bulk ≤ 1000000000000000) :
    ACall Tryz.prog 102 [.ptr b 0, .agg t.cells] (mkG b B k) (fun y Γ' => y = .agg (t.cv (setsB B) k).cells ∧ Γ' = mkG b B (k + t.fr (setsB B))) := by
  have hbe := t.bulk_eq
  have hle0 := lamN_bd (setsB B) t.v
  generalize hA : setsB B = A at *
  refine ACall.of_body tt_ok Tryz.func102 rfl rfl (n := 81) rfl rfl ?_
  conv => whnf
  repeat ((first | ((first | (apply zY;intro hg) | apply zZ);first | exact stA | exact stB) | (refine zW ?_ ?_;exact gA) | refine zH rfl ?_ | refine zA ?_ | refine zI bA ?_ | refine zI rfl ?_ | refine zJ rfl rfl ?_ | refine zB ?_ | refine zK rfl ?_ | refine zL rfl ?_ | refine zC ?_ | (refine zO ?_ ?_ ?_;omega;omega) | (refine zP ?_ ?_ ?_;omega;omega) | refine zM rfl ?_ | (refine zQ ?_ ?_ ?_;omega;omega) | (refine zR ?_ ?_;omega) | (refine zI ?_ ?_;exact nA) | (refine zS ?_ ?_ ?_;omega;omega) | (refine zT ?_ ?_ ?_;omega;omega) | (refine zU ?_ ?_ ?_;omega;omega) | (refine zV ?_ ?_ ?_;omega;omega) | (refine yA ?_ rfl ?_ ?_;assumption;exact lA) | (refine yB ?_ rfl ?_ ?_;assumption;exact lA) | (refine yC rfl ?_ ?_;exact lA) | refine n0 ?_ | refine zN rfl rfl rfl ?_ | refine zD ?_ | refine zE ?_ | refine zF ?_ | refine PDraw.sP (some 46) rfl [] [6,7,8] tt_ok mixed ?_ | intro _);conv=>whnf)
  conv => whnf
  repeat' (first | ((first | ((first | (apply zY;intro hg) | apply zZ);first | exact stA | exact stB) | (refine zW ?_ ?_;exact gA) | refine zH rfl ?_ | refine zA ?_ | refine zI bA ?_ | refine zI rfl ?_ | refine zJ rfl rfl ?_ | refine zB ?_ | refine zK rfl ?_ | refine zL rfl ?_ | refine zC ?_ | (refine zO ?_ ?_ ?_;omega;omega) | (refine zP ?_ ?_ ?_;omega;omega) | refine zM rfl ?_ | (refine zQ ?_ ?_ ?_;omega;omega) | (refine zR ?_ ?_;omega) | (refine zI ?_ ?_;exact nA) | (refine zS ?_ ?_ ?_;omega;omega) | (refine zT ?_ ?_ ?_;omega;omega) | (refine zU ?_ ?_ ?_;omega;omega) | (refine zV ?_ ?_ ?_;omega;omega) | (refine yA ?_ rfl ?_ ?_;assumption;exact lA) | (refine yB ?_ rfl ?_ ?_;assumption;exact lA) | (refine yC rfl ?_ ?_;exact lA) | refine n0 ?_ | refine zN rfl rfl rfl ?_ | refine zD ?_ | refine zE ?_ | refine zF ?_ | refine PDraw.sP (some 46) rfl [] [6,7,8] tt_ok mixed ?_ | intro _ | refine zG ?_);conv=>whnf) | (refine zX (fun hc => ?_) (fun hc => ?_)<;>(try simp only [SY] at hc)<;>first | omega | (conv=>whnf)))
  rename_i b1 b2 b3 b4
  refine PLoop.ghost (Ghost.trans (Ghost.nil 1 3 _) (Ghost.trans (Ghost.nil 1 3 _) (Ghost.trans (Ghost.nil 4 26 _)
    (Ghost.trans (Ghost.box (b := b3) (cs := [.int .i64 4, .int .i64 t.n, .nil, .nil]) (cs' := [.int .i64 4, .int .i64 t.n, .sl 1 (([] : List Int).map (PV.int .i64)) (some (nilTok 1 3)), .nil]) wA)
      (Ghost.box (b := b4) (cs := [.int .i64 8, .int .i64 0, .nil, .nil]) (cs' := [.int .i64 8, .int .i64 0, .sl 1 (([] : List Int).map (PV.int .i64)) (some (nilTok 1 3)), .sl 4 (([] : List Trm).map Trm.pv) (some (nilTok 4 26))]) wA))))) ?_
  refine PLoop.over [7, 8, 14, 15, 16, 17, 18, 19, 20, 21, 22, 23, 24, 25, 26, 27, 28, 29, 30, 31, 32, 33, 34, 35, 36, 37, 38, 39, 40, 41, 42, 43, 44, 45, 46, 47, 48, 49, 50, 51, 52, 53, 54, 55, 56, 57, 58, 59] (fun x : Nat × (List Int × Tok) × (List Int × Tok) × (List Trm × Tok) × Int => [(7, .int .i64 x.1)])
    (fun x : Nat × (List Int × Tok) × (List Int × Tok) × (List Trm × Tok) × Int => [.box b3 [.int .i64 4, .int .i64 t.n, .sl 1 (x.2.1.1.map (PV.int .i64)) (some x.2.1.2), .nil], .tok x.2.1.2, .box b4 [.int .i64 8, .int .i64 0, .sl 1 (x.2.2.1.1.map (PV.int .i64)) (some x.2.2.1.2), .sl 4 (x.2.2.2.1.1.map Trm.pv) (some x.2.2.2.1.2)], .tok x.2.2.1.2, .tok x.2.2.2.1.2, .box b2 [.int .i64 0, .int .i64 0, .nil, .nil], .box b1 [.int .i64 t.op, .int .i64 t.n, .sl 1 (t.v.map (PV.int .i64)) none, .sl 4 (t.t.map Trm.pv) none], .box b [.int .i64 B.op, .int .i64 B.n, .sl 1 (B.v.map (PV.int .i64)) none, .sl 4 (B.t.map Trm.pv) none, .int .i64 x.2.2.2.2]])
    (fun x => x.1 ≤ t.v.length ∧ (x.2.1.2.e = 3 ∧ x.2.2.1.2.e = 3 ∧ x.2.2.2.1.2.e = 26) ∧ (x.2.1.1.length ≤ x.1 ∧ x.2.2.1.1.length ≤ x.1 ∧ x.2.2.2.1.1.length ≤ x.1) ∧ x.2.1.1 ++ lamV A (t.v.drop x.1) x.2.2.2.2 = lamV A t.v k ∧ x.2.2.1.1 ++ (t.v.drop x.1).filter A = t.v.filter A ∧ x.2.2.2.1.1 ++ lamT A (t.v.drop x.1) x.2.2.2.2 = lamT A t.v k ∧ x.2.2.2.2 + lamN A (t.v.drop x.1) = k + lamN A t.v)
    (fun x => t.v.length - x.1) (0, ([], nilTok 1 3), ([], nilTok 1 3), ([], nilTok 4 26), k) ⟨Nat.zero_le _, ⟨rfl, rfl, rfl⟩, ⟨by simp, by simp, by simp⟩, rfl, rfl, rfl, rfl⟩ wA ?_
  rintro ⟨i, ⟨ov, t1⟩, ⟨lv, t2⟩, ⟨lt, t3⟩, nx⟩ ⟨hi, ⟨ht1, ht2, ht3⟩, ⟨hl1, hl2, hl3⟩, ho, hv, hT, hn⟩
  dsimp only at hi ht1 ht2 ht3 hl1 hl2 hl3 ho hv hT hn ⊢
  have hnb := lamN_bd A (t.v.drop i)
  have hdl : (t.v.drop i).length = t.v.length - i := List.length_drop
  have hAs := fun v => assigned_d b B hB nx v
  rw [hA] at hAs
  conv => whnf
  repeat' (first | ((first | ((first | (apply zY;intro hg) | apply zZ);first | exact stA | exact stB | ((conv=>whnf);(repeat ((first | (refine zW ?_ ?_;exact gA) | refine pC (refD_c _) wR ?_ | refine pC (refD_c _) cA ?_ | refine pC (boxD_c _) wR ?_ | refine PCall.read (hAs _) wR ?_ | intro _);conv=>whnf));first | exact pS | exact pL | exact pE)) | (refine zW ?_ ?_;exact gA) | refine zH rfl ?_ | refine zA ?_ | refine zI bA ?_ | refine zI rfl ?_ | refine zJ rfl rfl ?_ | refine zB ?_ | refine zK rfl ?_ | refine zL rfl ?_ | refine zC ?_ | (refine zO ?_ ?_ ?_;omega;omega) | (refine zP ?_ ?_ ?_;omega;omega) | refine zM rfl ?_ | (refine zQ ?_ ?_ ?_;omega;omega) | (refine zR ?_ ?_;omega) | (refine zI ?_ ?_;exact nA) | (refine zS ?_ ?_ ?_;omega;omega) | (refine zT ?_ ?_ ?_;omega;omega) | (refine zU ?_ ?_ ?_;omega;omega) | (refine zV ?_ ?_ ?_;omega;omega) | refine pC (refD_c _) wR ?_ | refine pC (refD_c _) cA ?_ | refine pC (boxD_c _) wR ?_ | refine PCall.read (hAs _) wR ?_ | (refine yA ?_ rfl ?_ ?_;assumption;exact lA) | (refine yB ?_ rfl ?_ ?_;assumption;exact lA) | (refine yC rfl ?_ ?_;exact lA) | refine n0 ?_ | refine zN rfl rfl rfl ?_ | refine zD ?_ | refine zE ?_ | refine zF ?_ | refine PDraw.sP (some 46) rfl [] [6,7,8] tt_ok mixed ?_ | intro _ | refine zG ?_);conv=>whnf) | (refine zX (fun hc => ?_) (fun hc => ?_)<;>(try simp only [SY] at hc)<;>first | omega | (conv=>whnf)))
  · rename_i tz htz ta hta td htd te hte tf htf
    have hlt : i < t.v.length := by omega
    rw [drop_at hlt] at ho hv hT hn
    rw [lamV, if_pos hc] at ho
    rw [List.filter_cons, if_pos hc] at hv
    rw [lamT, if_pos hc] at hT
    rw [lamN_cons, if_pos hc] at hn
    exact loopTo (i + 1, (ov ++ [nx], tf), (lv ++ [t.v[i]], ta), (lt ++ [boxT (refT nx)], td), nx + 1) ⟨by show i + 1 ≤ _; omega, ⟨htf, hta, htd⟩, ⟨by simp; omega, by simp; omega, by simp; omega⟩, by dsimp only; rw [List.append_assoc]; exact ho, by dsimp only; rw [List.append_assoc]; exact hv, by dsimp only; rw [List.append_assoc]; exact hT, by dsimp only; omega⟩ (by show t.v.length - (i + 1) < t.v.length - i; omega) wA
  · rename_i te hte tf htf
    have hlt : i < t.v.length := by omega
    have hc' : ¬ A t.v[i] = true := by rw [hc]; simp
    rw [drop_at hlt] at ho hv hT hn
    rw [lamV, if_neg hc'] at ho
    rw [List.filter_cons, if_neg hc'] at hv
    rw [lamT, if_neg hc'] at hT
    rw [lamN_cons, if_neg hc'] at hn
    exact loopTo (i + 1, (ov ++ [t.v[i]], tf), (lv, t2), (lt, t3), nx) ⟨by show i + 1 ≤ _; omega, ⟨htf, ht2, ht3⟩, ⟨by simp; omega, by dsimp only; omega, by dsimp only; omega⟩, by dsimp only; rw [List.append_assoc]; exact ho, hv, hT, by dsimp only; omega⟩ (by show t.v.length - (i + 1) < t.v.length - i; omega) wA
  · rw [List.drop_of_length_le (by omega)] at ho hv hT hn
    rw [lamV, List.append_nil] at ho
    rw [List.filter_nil, List.append_nil] at hv
    rw [lamT, List.append_nil] at hT
    have hn' : nx = k + lamN A t.v := by rw [← hn]; simp [lamN]
    have hm0 : t.t[0]'(by omega) ∈ t.t := List.getElem_mem _
    have hb0 := Trm.bulks_mem hm0
    have hcl := hf _ hm0 nx (by omega) (by omega)
    rw [hA] at hcl
    refine PCall.go hcl (WkT.refl _) ?_
    rintro _ _ ⟨rfl, rfl⟩
    generalize hX : (t.t[0]'(by omega)).cv A nx = X
    have hcvs : Trm.cvs A t.t nx = [X] := by
      rw [← hX]
      obtain ⟨x, hx⟩ : ∃ x, t.t = [x] := List.length_eq_one_iff.1 hlen
      simp only [hx, Trm.cvs, List.getElem_cons_zero]
    have hfr : Trm.frs A t.t = (t.t[0]'(by omega)).fr A := by
      obtain ⟨x, hx⟩ : ∃ x, t.t = [x] := List.length_eq_one_iff.1 hlen
      simp only [hx, Trm.frs, List.getElem_cons_zero]; omega
    have hcv := t.cv_eq A k
    rw [if_neg (by omega), if_neg (by omega), if_neg (by omega), if_pos hop, ← hn', hcvs, ← ho, ← hv, ← hT] at hcv
    have hfe := t.fr_eq A
    rw [if_pos hop] at hfe
    have hkf : nx + (t.t[0]'(by omega)).fr A = k + t.fr A := by omega
    rw [← hkf]
    conv => whnf
    repeat' (first | ((first | ((first | (apply zY;intro hg) | apply zZ);first | exact stA | exact stB | ((conv=>whnf);(repeat ((first | (refine zW ?_ ?_;exact gA) | refine pC (refD_c _) wR ?_ | refine pC (refD_c _) cA ?_ | refine pC (boxD_c _) wR ?_ | refine PCall.read (hAs _) wR ?_ | intro _);conv=>whnf));first | exact pS | exact pL | exact pE)) | (refine zW ?_ ?_;exact gA) | refine zH rfl ?_ | refine zA ?_ | refine zI bA ?_ | refine zI rfl ?_ | refine zJ rfl rfl ?_ | refine zB ?_ | refine zK rfl ?_ | refine zL rfl ?_ | refine zC ?_ | (refine zO ?_ ?_ ?_;omega;omega) | (refine zP ?_ ?_ ?_;omega;omega) | refine zM rfl ?_ | (refine zQ ?_ ?_ ?_;omega;omega) | (refine zR ?_ ?_;omega) | (refine zI ?_ ?_;exact nA) | (refine zS ?_ ?_ ?_;omega;omega) | (refine zT ?_ ?_ ?_;omega;omega) | (refine zU ?_ ?_ ?_;omega;omega) | (refine zV ?_ ?_ ?_;omega;omega) | refine pC (refD_c _) wR ?_ | refine pC (refD_c _) cA ?_ | refine pC (boxD_c _) wR ?_ | refine PCall.read (hAs _) wR ?_ | (refine yA ?_ rfl ?_ ?_;assumption;exact lA) | (refine yB ?_ rfl ?_ ?_;assumption;exact lA) | (refine yC rfl ?_ ?_;exact lA) | refine n0 ?_ | refine zN rfl rfl rfl ?_ | refine zD ?_ | refine zE ?_ | refine zF ?_ | refine PDraw.sP (some 46) rfl [] [6,7,8] tt_ok mixed ?_ | intro _ | refine zG ?_);conv=>whnf) | (refine zX (fun hc => ?_) (fun hc => ?_)<;>(try simp only [SY] at hc)<;>first | omega | (conv=>whnf)))
    · rw [if_neg (by intro h; rw [h] at hc; simp at hc)] at hcv
      rw [hcv]
      exact PRet.gen (y := .agg (Trm.mk 4 t.n ov [Trm.mk 8 0 lv (lt ++ [X])]).cells) (Γ' := mkG b B (nx + (t.t[0]'(by omega)).fr A)) TrmOf.wk ⟨rfl, rfl⟩
    · rw [if_pos (List.eq_nil_of_length_eq_zero (by omega))] at hcv
      rw [hcv]
      exact PRet.gen (y := .agg (Trm.mk 4 t.n ov [X]).cells) (Γ' := mkG b B (nx + (t.t[0]'(by omega)).fr A)) TrmOf.wk ⟨rfl, rfl⟩
end Go.Cb
namespace Go.Cb
open Go.Proofs
set_option maxRecDepth 100000
set_option maxHeartbeats 4000000
theorem LoopTo.go {σ : Type} {ds : List Nat} {R : σ → List (Nat × PV)} {G : σ → List Ent} {I : σ → Prop} {μ : σ → Nat} {T0 : List PV} {s : σ} {T : List PV} {Γ : List Ent} {D : Ds} (s' : σ) (hI : I s') (hμ : μ s' < μ s)
    (hw : WkOver 0 T T0 ds (R s')) (hg : Ghost Γ (G s')) : LoopTo ds R G I μ T0 s D T Γ D := ⟨rfl, s', hI, hμ, Weak.of (WkOver.wk 0 T T0 ds (R s') hw) hg⟩
theorem fixD_c (b : Nat) (B : Trm) (hB : B.bulk ≤ 1000000000) (t : Trm) (hop : t.op = 9) (hlen : t.t.length = t.v.length + 1) (hn0 : t.n = 0) (hf : ∀ x ∈ t.t, MkOk b B x) (hb : t.bulk ≤ 1000000000) (k : Int) (h0 : 0 ≤ k) (hk : k + t.bulk ≤ 1000000000000000) :
    ACall Tryz.prog 103 [.ptr b 0, .agg t.cells] (mkG b B k) (fun y Γ' => y = .agg (t.cv (setsB B) k).cells ∧ Γ' = mkG b B (k + t.fr (setsB B))) := by
  have hbe := t.bulk_eq
  have hallF := mkAllF_c b B t.t k hf h0 (by omega) (by omega)
  have hAs := fun k v => assigned_d b B hB k v
  generalize hA : setsB B = A at *
  have hcl := Trm.cvs_length A t.t k
  have hfr : k + t.fr A = k + Trm.frs A t.t := by rw [t.fr_eq, if_neg (by omega)]; omega
  have hcv := t.cv_eq A k
  rw [if_neg (by omega), if_neg (by omega), if_neg (by omega), if_neg (by omega)] at hcv
  rw [hfr, hcv]
  generalize Trm.cvs A t.t k = l at *
  generalize k + Trm.frs A t.t = k' at *
  refine ACall.of_body tt_ok Tryz.func103 rfl rfl (n := 129) rfl rfl ?_
  conv => whnf
  repeat ((first | ((first | (apply zY;intro hg) | apply zZ);first | exact stA | exact stB) | (refine zW ?_ ?_;exact gA) | refine zH rfl ?_ | refine zA ?_ | refine zI bA ?_ | refine zI rfl ?_ | refine zJ rfl rfl ?_ | refine zB ?_ | refine zK rfl ?_ | refine zL rfl ?_ | refine zC ?_ | (refine zO ?_ ?_ ?_;omega;omega) | (refine zP ?_ ?_ ?_;omega;omega) | refine zM rfl ?_ | (refine zQ ?_ ?_ ?_;omega;omega) | (refine zR ?_ ?_;omega) | (refine zI ?_ ?_;exact nA) | (refine zS ?_ ?_ ?_;omega;omega) | (refine zT ?_ ?_ ?_;omega;omega) | (refine zU ?_ ?_ ?_;omega;omega) | (refine zV ?_ ?_ ?_;omega;omega) | (refine yA ?_ rfl ?_ ?_;assumption;exact lA) | (refine yB ?_ rfl ?_ ?_;assumption;exact lA) | (refine yC rfl ?_ ?_;exact lA) | refine n0 ?_ | refine zN rfl rfl rfl ?_ | refine zD ?_ | refine zE ?_ | refine zF ?_ | refine PDraw.sP (some 39) rfl [12] [13] tt_ok mixed ?_ | refine PDraw.sP (some 67) rfl [] [8,9,10] tt_ok mixed ?_ | refine PDraw.sP (some 77) rfl [] [5,6,7] tt_ok mixed ?_ | refine PDraw.sP (some 84) rfl [] [8,9,10] tt_ok mixed ?_ | refine PDraw.sP (some 94) rfl [] [7,8,9] tt_ok mixed ?_ | intro _);conv=>whnf)
  conv => whnf
  repeat' (first | ((first | ((first | (apply zY;intro hg) | apply zZ);first | exact stA | exact stB) | (refine zW ?_ ?_;exact gA) | refine zH rfl ?_ | refine zA ?_ | refine zI bA ?_ | refine zI rfl ?_ | refine zJ rfl rfl ?_ | refine zB ?_ | refine zK rfl ?_ | refine zL rfl ?_ | refine zC ?_ | (refine zO ?_ ?_ ?_;omega;omega) | (refine zP ?_ ?_ ?_;omega;omega) | refine zM rfl ?_ | (refine zQ ?_ ?_ ?_;omega;omega) | (refine zR ?_ ?_;omega) | (refine zI ?_ ?_;exact nA) | (refine zS ?_ ?_ ?_;omega;omega) | (refine zT ?_ ?_ ?_;omega;omega) | (refine zU ?_ ?_ ?_;omega;omega) | (refine zV ?_ ?_ ?_;omega;omega) | (refine yA ?_ rfl ?_ ?_;assumption;exact lA) | (refine yB ?_ rfl ?_ ?_;assumption;exact lA) | (refine yC rfl ?_ ?_;exact lA) | refine n0 ?_ | refine zN rfl rfl rfl ?_ | refine zD ?_ | refine zE ?_ | refine zF ?_ | refine PDraw.sP (some 39) rfl [12] [13] tt_ok mixed ?_ | refine PDraw.sP (some 67) rfl [] [8,9,10] tt_ok mixed ?_ | refine PDraw.sP (some 77) rfl [] [5,6,7] tt_ok mixed ?_ | refine PDraw.sP (some 84) rfl [] [8,9,10] tt_ok mixed ?_ | refine PDraw.sP (some 94) rfl [] [7,8,9] tt_ok mixed ?_ | intro _ | refine zG ?_);conv=>whnf) | (refine zX (fun hc => ?_) (fun hc => ?_)<;>(try simp only [SY] at hc)<;>first | omega | (conv=>whnf)))
  refine PCall.go hallF (WkT.refl _) ?_
  rintro _ _ ⟨rfl, rfl⟩
  conv => whnf
  repeat' (first | ((first | ((first | (apply zY;intro hg) | apply zZ);first | exact stA | exact stB) | (refine zW ?_ ?_;exact gA) | refine zH rfl ?_ | refine zA ?_ | refine zI bA ?_ | refine zI rfl ?_ | refine zJ rfl rfl ?_ | refine zB ?_ | refine zK rfl ?_ | refine zL rfl ?_ | refine zC ?_ | (refine zO ?_ ?_ ?_;omega;omega) | (refine zP ?_ ?_ ?_;omega;omega) | refine zM rfl ?_ | (refine zQ ?_ ?_ ?_;omega;omega) | (refine zR ?_ ?_;omega) | (refine zI ?_ ?_;exact nA) | (refine zS ?_ ?_ ?_;omega;omega) | (refine zT ?_ ?_ ?_;omega;omega) | (refine zU ?_ ?_ ?_;omega;omega) | (refine zV ?_ ?_ ?_;omega;omega) | (refine yA ?_ rfl ?_ ?_;assumption;exact lA) | (refine yB ?_ rfl ?_ ?_;assumption;exact lA) | (refine yC rfl ?_ ?_;exact lA) | refine n0 ?_ | refine zN rfl rfl rfl ?_ | refine zD ?_ | refine zE ?_ | refine zF ?_ | refine PDraw.sP (some 39) rfl [12] [13] tt_ok mixed ?_ | refine PDraw.sP (some 67) rfl [] [8,9,10] tt_ok mixed ?_ | refine PDraw.sP (some 77) rfl [] [5,6,7] tt_ok mixed ?_ | refine PDraw.sP (some 84) rfl [] [8,9,10] tt_ok mixed ?_ | refine PDraw.sP (some 94) rfl [] [7,8,9] tt_ok mixed ?_ | intro _ | refine zG ?_);conv=>whnf) | (refine zX (fun hc => ?_) (fun hc => ?_)<;>(try simp only [SY] at hc)<;>first | omega | (conv=>whnf)))
  rename_i b1 b2 hvl bt bf bo
  have hnl : t.v.length < l.length := by omega
  generalize hO : l[t.v.length] = o0
  refine PLoop.over [10, 11, 28, 29, 30, 31, 32, 33, 34, 35, 36, 37, 38, 39, 40, 41, 42, 43, 44, 45, 46, 47, 48, 49, 50, 51, 52, 53, 54] (fun x : Nat × Trm => [(10, .int .i64 ((x.1 : Int) - 1))])
    (fun x : Nat × Trm => [.box bo [.int .i64 x.2.op, .int .i64 x.2.n, .sl 1 (x.2.v.map (PV.int .i64)) none, .sl 4 (x.2.t.map Trm.pv) none], .box bf [.int .i64 9, .int .i64 0, .nil, .nil], .box bt [.int .i64 8, .int .i64 0, .nil, .nil], .box b [.int .i64 B.op, .int .i64 B.n, .sl 1 (B.v.map (PV.int .i64)) none, .sl 4 (B.t.map Trm.pv) none, .int .i64 k'], .box b2 [.int .i64 0, .int .i64 0, .nil, .nil], .box b1 [.int .i64 t.op, .int .i64 t.n, .sl 1 (t.v.map (PV.int .i64)) none, .sl 4 (t.t.map Trm.pv) none]])
    (fun x => x.1 ≤ t.v.length ∧ x.2 = fixO A (t.v.drop x.1) (l.drop x.1) o0) (fun x => x.1) (t.v.length, o0) ⟨Nat.le_refl _, by simp [fixO]⟩ wA ?_
  rintro ⟨m, o⟩ ⟨hm, ho⟩
  dsimp only at hm ho ⊢
  have hAs1 := hAs k'
  cases m with
  | succ m =>
    rw [show ((m + 1 : Nat) : Int) - 1 = (m : Int) by omega]
    have h1 : m < t.v.length := by omega
    have h2 : m < l.length := by omega
    conv => whnf
    repeat' (first | ((first | ((first | (apply zY;intro hg) | apply zZ);first | exact stA | exact stB | ((conv=>whnf);(repeat ((first | (refine zW ?_ ?_;exact gA) | refine pC (refD_c _) wR ?_ | refine pC (refD_c _) cA ?_ | refine pC (boxD_c _) wR ?_ | refine PCall.read (hAs1 _) wR ?_ | intro _);conv=>whnf));first | exact pS | exact pL | exact pE)) | (refine zW ?_ ?_;exact gA) | refine zH rfl ?_ | refine zA ?_ | refine zI bA ?_ | refine zI rfl ?_ | refine zJ rfl rfl ?_ | refine zB ?_ | refine zK rfl ?_ | refine zL rfl ?_ | refine zC ?_ | (refine zO ?_ ?_ ?_;omega;omega) | (refine zP ?_ ?_ ?_;omega;omega) | refine zM rfl ?_ | (refine zQ ?_ ?_ ?_;omega;omega) | (refine zR ?_ ?_;omega) | (refine zI ?_ ?_;exact nA) | (refine zS ?_ ?_ ?_;omega;omega) | (refine zT ?_ ?_ ?_;omega;omega) | (refine zU ?_ ?_ ?_;omega;omega) | (refine zV ?_ ?_ ?_;omega;omega) | refine pC (refD_c _) wR ?_ | refine pC (refD_c _) cA ?_ | refine pC (boxD_c _) wR ?_ | refine PCall.read (hAs1 _) wR ?_ | (refine yA ?_ rfl ?_ ?_;assumption;exact lA) | (refine yB ?_ rfl ?_ ?_;assumption;exact lA) | (refine yC rfl ?_ ?_;exact lA) | refine n0 ?_ | refine zN rfl rfl rfl ?_ | refine zD ?_ | refine zE ?_ | refine zF ?_ | refine PDraw.sP (some 39) rfl [12] [13] tt_ok mixed ?_ | refine PDraw.sP (some 67) rfl [] [8,9,10] tt_ok mixed ?_ | refine PDraw.sP (some 77) rfl [] [5,6,7] tt_ok mixed ?_ | refine PDraw.sP (some 84) rfl [] [8,9,10] tt_ok mixed ?_ | refine PDraw.sP (some 94) rfl [] [7,8,9] tt_ok mixed ?_ | intro _ | refine zG ?_);conv=>whnf) | (refine zX (fun hc => ?_) (fun hc => ?_)<;>(try simp only [SY] at hc)<;>first | omega | (conv=>whnf)))
    · rename_i bx tx htx
      obtain ⟨X, hX⟩ : ∃ X, X = Trm.mk 6 0 [] [Trm.mk 17 0 [] [refT t.v[m], l[m]], o] := ⟨_, rfl⟩
      refine LoopTo.go (m, X) ⟨by show m ≤ _; omega, by dsimp only; rw [drop_at h1, drop_at h2, fixO, if_pos hc, ← ho, hX]⟩ (by show m < m + 1; omega) wA (Ghost.trans (Ghost.box (b := bo) (cs := [.int .i64 6, .int .i64 0, .nil, .sl 4 [.agg [.int .i64 17, .int .i64 0, .nil, .sl 4 [.agg (refT t.v[m]).cells, .agg [.int .i64 l[m].op, .int .i64 l[m].n, .sl 1 (l[m].v.map (PV.int .i64)) none, .sl 4 (l[m].t.map Trm.pv) none]] none], .agg [.int .i64 o.op, .int .i64 o.n, .sl 1 (o.v.map (PV.int .i64)) none, .sl 4 (o.t.map Trm.pv) none]] (some tx)]) (cs' := [.int .i64 X.op, .int .i64 X.n, .sl 1 (X.v.map (PV.int .i64)) none, .sl 4 (X.t.map Trm.pv) none]) ?_) ?_)
      rotate_left
      · exact Ghost.pick
      subst hX
      exact ElOf.wl (f := Trm.pv) (x := .agg _) (v := Trm.mk 6 0 [] [Trm.mk 17 0 [] [refT t.v[m], l[m]], o])
    · exact loopTo (m, o) ⟨by show m ≤ _; omega, by dsimp only; rw [drop_at h1, drop_at h2, fixO, if_neg (by rw [hc]; simp), ← ho]⟩ (by show m < m + 1; omega) wA
  | zero =>
    rw [List.drop_zero, List.drop_zero] at ho
    conv => whnf
    repeat' (first | ((first | ((first | (apply zY;intro hg) | apply zZ);first | exact stA | exact stB | ((conv=>whnf);(repeat ((first | (refine zW ?_ ?_;exact gA) | refine pC (refD_c _) wR ?_ | refine pC (refD_c _) cA ?_ | refine pC (boxD_c _) wR ?_ | refine PCall.read (hAs1 _) wR ?_ | intro _);conv=>whnf));first | exact pS | exact pL | exact pE)) | (refine zW ?_ ?_;exact gA) | refine zH rfl ?_ | refine zA ?_ | refine zI bA ?_ | refine zI rfl ?_ | refine zJ rfl rfl ?_ | refine zB ?_ | refine zK rfl ?_ | refine zL rfl ?_ | refine zC ?_ | (refine zO ?_ ?_ ?_;omega;omega) | (refine zP ?_ ?_ ?_;omega;omega) | refine zM rfl ?_ | (refine zQ ?_ ?_ ?_;omega;omega) | (refine zR ?_ ?_;omega) | (refine zI ?_ ?_;exact nA) | (refine zS ?_ ?_ ?_;omega;omega) | (refine zT ?_ ?_ ?_;omega;omega) | (refine zU ?_ ?_ ?_;omega;omega) | (refine zV ?_ ?_ ?_;omega;omega) | refine pC (refD_c _) wR ?_ | refine pC (refD_c _) cA ?_ | refine pC (boxD_c _) wR ?_ | refine PCall.read (hAs1 _) wR ?_ | (refine yA ?_ rfl ?_ ?_;assumption;exact lA) | (refine yB ?_ rfl ?_ ?_;assumption;exact lA) | (refine yC rfl ?_ ?_;exact lA) | refine n0 ?_ | refine zN rfl rfl rfl ?_ | refine zD ?_ | refine zE ?_ | refine zF ?_ | refine PDraw.sP (some 39) rfl [12] [13] tt_ok mixed ?_ | refine PDraw.sP (some 67) rfl [] [8,9,10] tt_ok mixed ?_ | refine PDraw.sP (some 77) rfl [] [5,6,7] tt_ok mixed ?_ | refine PDraw.sP (some 84) rfl [] [8,9,10] tt_ok mixed ?_ | refine PDraw.sP (some 94) rfl [] [7,8,9] tt_ok mixed ?_ | intro _ | refine zG ?_);conv=>whnf) | (refine zX (fun hc => ?_) (fun hc => ?_)<;>(try simp only [SY] at hc)<;>first | omega | (conv=>whnf)))
    refine PLoop.ghost (Ghost.trans (Ghost.nil 1 3 _) (Ghost.trans (Ghost.nil 1 3 _) (Ghost.trans (Ghost.nil 4 26 _) (Ghost.trans (Ghost.nil 4 26 _)
      (Ghost.trans (Ghost.box (b := bt) (cs := [.int .i64 8, .int .i64 0, .nil, .nil]) (cs' := [.int .i64 8, .int .i64 0, .sl 1 (([] : List Int).map (PV.int .i64)) (some (nilTok 1 3)), .sl 4 (([] : List Trm).map Trm.pv) (some (nilTok 4 26))]) wA)
        (Ghost.box (b := bf) (cs := [.int .i64 9, .int .i64 0, .nil, .nil]) (cs' := [.int .i64 9, .int .i64 0, .sl 1 (([] : List Int).map (PV.int .i64)) (some (nilTok 1 3)), .sl 4 (([] : List Trm).map Trm.pv) (some (nilTok 4 26))]) wA)))))) ?_
    refine PLoop.over [12, 55, 56, 57, 58, 59, 60, 61, 62, 63, 64, 65, 66, 67, 68, 69, 70, 71, 72, 73, 74, 75, 76, 77, 78, 79, 80, 81, 82, 83, 84, 85, 86, 87, 88, 89, 90, 91, 92, 93, 94, 95, 96, 97, 98, 99, 100, 101, 102] (fun x : Nat × (List Int × Tok) × (List Trm × Tok) × (List Int × Tok) × (List Trm × Tok) => [(12, .int .i64 x.1)])
      (fun x : Nat × (List Int × Tok) × (List Trm × Tok) × (List Int × Tok) × (List Trm × Tok) => [.box bt [.int .i64 8, .int .i64 0, .sl 1 (x.2.1.1.map (PV.int .i64)) (some x.2.1.2), .sl 4 (x.2.2.1.1.map Trm.pv) (some x.2.2.1.2)], .tok x.2.1.2, .tok x.2.2.1.2, .box bf [.int .i64 9, .int .i64 0, .sl 1 (x.2.2.2.1.1.map (PV.int .i64)) (some x.2.2.2.1.2), .sl 4 (x.2.2.2.2.1.map Trm.pv) (some x.2.2.2.2.2)], .tok x.2.2.2.1.2, .tok x.2.2.2.2.2, .box bo [.int .i64 o.op, .int .i64 o.n, .sl 1 (o.v.map (PV.int .i64)) none, .sl 4 (o.t.map Trm.pv) none], .box b [.int .i64 B.op, .int .i64 B.n, .sl 1 (B.v.map (PV.int .i64)) none, .sl 4 (B.t.map Trm.pv) none, .int .i64 k'], .box b2 [.int .i64 0, .int .i64 0, .nil, .nil], .box b1 [.int .i64 t.op, .int .i64 t.n, .sl 1 (t.v.map (PV.int .i64)) none, .sl 4 (t.t.map Trm.pv) none]])
      (fun x => x.1 ≤ t.v.length ∧ (x.2.1.2.e = 3 ∧ x.2.2.1.2.e = 26 ∧ x.2.2.2.1.2.e = 3 ∧ x.2.2.2.2.2.e = 26) ∧ (x.2.1.1.length ≤ x.1 ∧ x.2.2.1.1.length ≤ x.1 ∧ x.2.2.2.1.1.length ≤ x.1 ∧ x.2.2.2.2.1.length ≤ x.1) ∧ x.2.1.1 ++ (t.v.drop x.1).filter A = t.v.filter A ∧ x.2.2.1.1 = x.2.1.1.map (fun _ => boxT (.mk 13 0 [] [])) ∧ x.2.2.2.1.1 ++ (t.v.drop x.1).filter (fun v => !A v) = t.v.filter (fun v => !A v) ∧ x.2.2.2.2.1 ++ fixT A (t.v.drop x.1) (l.drop x.1) = fixT A t.v l)
      (fun x => t.v.length - x.1) (0, ([], nilTok 1 3), ([], nilTok 4 26), ([], nilTok 1 3), ([], nilTok 4 26)) ⟨Nat.zero_le _, ⟨rfl, rfl, rfl, rfl⟩, ⟨by simp, by simp, by simp, by simp⟩, rfl, rfl, rfl, rfl⟩ wA ?_
    rintro ⟨i, ⟨lv, t1⟩, ⟨lt, t2⟩, ⟨fv, t3⟩, ⟨ft, t4⟩⟩ ⟨hi, ⟨ht1, ht2, ht3, ht4⟩, ⟨hl1, hl2, hl3, hl4⟩, hlv, hlt, hfv, hft⟩
    dsimp only at hi ht1 ht2 ht3 ht4 hl1 hl2 hl3 hl4 hlv hlt hfv hft ⊢
    have hbx := boxD_c (Trm.mk 13 0 [] [])
    have hbx2 : ACallP Tryz.prog 104 [.agg [.int .i64 13, .int .i64 0, .nil, .nil]] (.agg (boxT (Trm.mk 13 0 [] [])).cells) := ACall.wk hbx (.cons (Wk.agg (.cons (Wk.refl _) (.cons (Wk.refl _) (.cons (Wk.nil' rfl) (.cons (Wk.nil' rfl) .nil))))) .nil)
    conv => whnf
    repeat' (first | ((first | ((first | (apply zY;intro hg) | apply zZ);first | exact stA | exact stB | ((conv=>whnf);(repeat ((first | (refine zW ?_ ?_;exact gA) | refine pC (refD_c _) wR ?_ | refine pC (refD_c _) cA ?_ | refine pC (hbx2) wR ?_ | refine PCall.read (hAs1 _) wR ?_ | intro _);conv=>whnf));first | exact pS | exact pL | exact pE)) | (refine zW ?_ ?_;exact gA) | refine zH rfl ?_ | refine zA ?_ | refine zI bA ?_ | refine zI rfl ?_ | refine zJ rfl rfl ?_ | refine zB ?_ | refine zK rfl ?_ | refine zL rfl ?_ | refine zC ?_ | (refine zO ?_ ?_ ?_;omega;omega) | (refine zP ?_ ?_ ?_;omega;omega) | refine zM rfl ?_ | (refine zQ ?_ ?_ ?_;omega;omega) | (refine zR ?_ ?_;omega) | (refine zI ?_ ?_;exact nA) | (refine zS ?_ ?_ ?_;omega;omega) | (refine zT ?_ ?_ ?_;omega;omega) | (refine zU ?_ ?_ ?_;omega;omega) | (refine zV ?_ ?_ ?_;omega;omega) | refine pC (refD_c _) wR ?_ | refine pC (refD_c _) cA ?_ | refine pC (hbx2) wR ?_ | refine PCall.read (hAs1 _) wR ?_ | (refine yA ?_ rfl ?_ ?_;assumption;exact lA) | (refine yB ?_ rfl ?_ ?_;assumption;exact lA) | (refine yC rfl ?_ ?_;exact lA) | refine n0 ?_ | refine zN rfl rfl rfl ?_ | refine zD ?_ | refine zE ?_ | refine zF ?_ | refine PDraw.sP (some 39) rfl [12] [13] tt_ok mixed ?_ | refine PDraw.sP (some 67) rfl [] [8,9,10] tt_ok mixed ?_ | refine PDraw.sP (some 77) rfl [] [5,6,7] tt_ok mixed ?_ | refine PDraw.sP (some 84) rfl [] [8,9,10] tt_ok mixed ?_ | refine PDraw.sP (some 94) rfl [] [7,8,9] tt_ok mixed ?_ | intro _ | refine zG ?_);conv=>whnf) | (refine zX (fun hc => ?_) (fun hc => ?_)<;>(try simp only [SY] at hc)<;>first | omega | (conv=>whnf)))
    · rename_i ta hta tc htc
      have h1 : i < t.v.length := by omega
      have h2 : i < l.length := by omega
      rw [drop_at h1] at hlv hfv hft
      rw [List.filter_cons, if_pos hc] at hlv
      rw [List.filter_cons, if_neg (by rw [hc]; decide)] at hfv
      rw [drop_at h2, fixT, if_pos hc] at hft
      exact loopTo (i + 1, (lv ++ [t.v[i]], ta), (lt ++ [boxT (Trm.mk 13 0 [] [])], tc), (fv, t3), (ft, t4)) ⟨by show i + 1 ≤ _; omega, ⟨hta, htc, ht3, ht4⟩, ⟨by simp; omega, by simp; omega, by dsimp only; omega, by dsimp only; omega⟩, by dsimp only; rw [List.append_assoc]; exact hlv, by dsimp only; rw [List.map_append, ← hlt]; rfl, hfv, hft⟩ (by show t.v.length - (i + 1) < t.v.length - i; omega) wA
    · rename_i ta hta tb htb
      have h1 : i < t.v.length := by omega
      have h2 : i < l.length := by omega
      have hc' : ¬ A t.v[i] = true := by rw [hc]; simp
      rw [drop_at h1] at hlv hfv hft
      rw [List.filter_cons, if_neg hc'] at hlv
      rw [List.filter_cons, if_pos (by rw [hc]; rfl)] at hfv
      rw [drop_at h2, fixT, if_neg hc'] at hft
      exact loopTo (i + 1, (lv, t1), (lt, t2), (fv ++ [t.v[i]], ta), (ft ++ [l[i]], tb)) ⟨by show i + 1 ≤ _; omega, ⟨ht1, ht2, hta, htb⟩, ⟨by dsimp only; omega, by dsimp only; omega, by simp; omega, by simp; omega⟩, hlv, hlt, by dsimp only; rw [List.append_assoc]; exact hfv, by dsimp only; rw [List.append_assoc]; exact hft⟩ (by show t.v.length - (i + 1) < t.v.length - i; omega) wA
    all_goals
      rw [List.drop_of_length_le (by omega)] at hlv hfv hft
      rw [List.filter_nil, List.append_nil] at hlv hfv
      have e0 : fixT A [] (l.drop i) = [] := by simp [fixT]
      rw [e0, List.append_nil] at hft
      have hgd : l.getD t.v.length (refT 0) = o0 := by rw [← hO]; simp [List.getD, hnl]
      have hR : fixR A t.v l = Trm.mk 8 0 lv (lt ++ [if fv = [] then o else Trm.mk 9 0 fv (ft ++ [o])]) := by
        unfold fixR fixE
        simp only [hgd]
        rw [← ho, ← hlv, ← hfv, ← hft, hlt]
    · have hln : lv = [] := List.eq_nil_of_length_eq_zero (by omega)
      rw [if_neg (by
        rintro ⟨_, h⟩
        obtain ⟨x, hx, hx2⟩ := List.any_eq_true.1 h
        have : x ∈ t.v.filter A := List.mem_filter.2 ⟨hx, hx2⟩
        rw [← hlv, hln] at this
        cases this), if_neg (by omega), hop, hn0]
      exact PRet.gen (y := .agg (Trm.mk 9 0 t.v l).cells) (Γ' := mkG b B k') (Wk.refl _) (And.intro rfl rfl)
    · rw [if_pos ⟨hop, by
        have hp : t.v.filter A ≠ [] := by rw [← hlv]; intro h; have h5 : lv.length = 0 := by { rw [h]; rfl }; omega
        obtain ⟨x, hx⟩ := List.exists_mem_of_ne_nil _ hp
        exact List.any_eq_true.2 ⟨x, (List.mem_filter.1 hx).1, (List.mem_filter.1 hx).2⟩⟩, hR, if_neg (by intro h; rw [h] at hc; simp at hc)]
      exact PRet.gen (y := .agg (Trm.mk 8 0 lv (lt ++ [Trm.mk 9 0 fv (ft ++ [o])])).cells) (Γ' := mkG b B k') TrmOf.wk (And.intro rfl rfl)
    · rw [if_pos ⟨hop, by
        have hp : t.v.filter A ≠ [] := by rw [← hlv]; intro h; have h5 : lv.length = 0 := by { rw [h]; rfl }; omega
        obtain ⟨x, hx⟩ := List.exists_mem_of_ne_nil _ hp
        exact List.any_eq_true.2 ⟨x, (List.mem_filter.1 hx).1, (List.mem_filter.1 hx).2⟩⟩, hR, if_pos (List.eq_nil_of_length_eq_zero (by omega))]
      exact PRet.gen (y := .agg (Trm.mk 8 0 lv (lt ++ [o])).cells) (Γ' := mkG b B k') TrmOf.wk (And.intro rfl rfl)
end Go.Cb
namespace Go.Cb
open Go.Proofs
set_option maxRecDepth 100000
set_option maxHeartbeats 4000000
theorem mkOk (b : Nat) (B : Trm) (hB : B.bulk ≤ 1000000000) (t : Trm) : t.shp → t.bulk ≤ 1000000000 → MkOk b B t := by
  induction t using Trm.ind with
  | h t ih =>
    intro hsp hb k h0 hk
    have hbe := t.bulk_eq
    have hbs := Trm.bulks_length t.t
    rw [Trm.shp_eq] at hsp
    obtain ⟨⟨s1, s2, s3, s4⟩, hps⟩ := hsp
    have hf : ∀ x ∈ t.t, MkOk b B x := fun x hx => ih x hx (Trm.shps_mem hps x hx) (by have := Trm.bulks_mem hx; omega)
    have hfr := t.fr_eq (setsB B)
    have hAs := fun v => assigned_d b B hB k v
    have one : t.t.length = 1 → ∀ hl : 0 < t.t.length, Trm.cvs (setsB B) t.t k = [(t.t[0]).cv (setsB B) k] ∧ Trm.frs (setsB B) t.t = (t.t[0]).fr (setsB B) := by
      intro h1 hl
      obtain ⟨x, hx⟩ : ∃ x, t.t = [x] := List.length_eq_one_iff.1 h1
      simp only [hx, Trm.cvs, Trm.frs, List.getElem_cons_zero]
      exact ⟨trivial, by omega⟩
    have hcl := Trm.cvs_length (setsB B) t.t k
    have hall := mkAll_c b B t.t k hf h0 (by omega) (by omega)
    have hallF := mkAllF_c b B t.t k hf h0 (by omega) (by omega)
    have hcv := t.cv_eq (setsB B) k
    generalize hA : setsB B = A at *
    generalize hl : Trm.cvs A t.t k = l at *
    generalize hk2 : k + Trm.frs A t.t = k' at *
    refine ACall.of_body tt_ok Tryz.func59 rfl rfl (n := 93) rfl rfl ?_
    conv => whnf
    repeat ((first | ((first | (apply zY;intro hg) | apply zZ);first | exact stA | exact stB | ((conv=>whnf);(repeat ((first | (refine zW ?_ ?_;exact gA) | refine zA ?_ | refine zH rfl ?_ | refine zB ?_ | (refine yE ?_ ?_ ?_ ?_;assumption;omega;omega) | (refine yF ?_ rfl ?_;omega) | intro _);conv=>whnf));first | exact pS | exact pL | exact pE)) | (refine zW ?_ ?_;exact gA) | refine zH rfl ?_ | refine zA ?_ | refine zI bA ?_ | refine zI rfl ?_ | refine zJ rfl rfl ?_ | refine zB ?_ | refine zK rfl ?_ | refine zL rfl ?_ | refine zC ?_ | (refine zO ?_ ?_ ?_;omega;omega) | (refine zP ?_ ?_ ?_;omega;omega) | refine zM rfl ?_ | (refine zQ ?_ ?_ ?_;omega;omega) | (refine zR ?_ ?_;omega) | (refine zI ?_ ?_;exact nA) | (refine zS ?_ ?_ ?_;omega;omega) | (refine zT ?_ ?_ ?_;omega;omega) | (refine zU ?_ ?_ ?_;omega;omega) | (refine zV ?_ ?_ ?_;omega;omega) | (refine yA ?_ rfl ?_ ?_;assumption;exact lA) | (refine yB ?_ rfl ?_ ?_;assumption;exact lA) | (refine yC rfl ?_ ?_;exact lA) | (refine yD ?_ ?_ rfl ?_ ?_;assumption;assumption;exact lA) | (refine yE ?_ ?_ ?_ ?_;assumption;omega;omega) | (refine yF ?_ rfl ?_;omega) | (refine yG ?_ rfl rfl rfl ?_;omega) | refine n0 ?_ | refine zN rfl rfl rfl ?_ | refine zD ?_ | refine zE ?_ | refine zF ?_ | refine PDraw.sP (some 82) rfl [] [10] tt_ok mixed ?_ | intro _);conv=>whnf)
    rename_i b1 b2
    conv => whnf
    repeat' (first | ((first | ((first | (apply zY;intro hg) | apply zZ);first | exact stA | exact stB | ((conv=>whnf);(repeat ((first | (refine zW ?_ ?_;exact gA) | refine pC (refD_c _) wR ?_ | refine pC (refD_c _) cA ?_ | refine pC (boxD_c _) wR ?_ | refine PCall.read (hAs _) wR ?_ | refine zA ?_ | refine zH rfl ?_ | refine zB ?_ | (refine yE ?_ ?_ ?_ ?_;assumption;omega;omega) | (refine yF ?_ rfl ?_;omega) | intro _);conv=>whnf));first | exact pS | exact pL | exact pE)) | (refine zW ?_ ?_;exact gA) | refine zH rfl ?_ | refine zA ?_ | refine zI bA ?_ | refine zI rfl ?_ | refine zJ rfl rfl ?_ | refine zB ?_ | refine zK rfl ?_ | refine zL rfl ?_ | refine zC ?_ | (refine zO ?_ ?_ ?_;omega;omega) | (refine zP ?_ ?_ ?_;omega;omega) | refine zM rfl ?_ | (refine zQ ?_ ?_ ?_;omega;omega) | (refine zR ?_ ?_;omega) | (refine zI ?_ ?_;exact nA) | (refine zS ?_ ?_ ?_;omega;omega) | (refine zT ?_ ?_ ?_;omega;omega) | (refine zU ?_ ?_ ?_;omega;omega) | (refine zV ?_ ?_ ?_;omega;omega) | refine pC (refD_c _) wR ?_ | refine pC (refD_c _) cA ?_ | refine pC (boxD_c _) wR ?_ | refine PCall.read (hAs _) wR ?_ | (refine yA ?_ rfl ?_ ?_;assumption;exact lA) | (refine yB ?_ rfl ?_ ?_;assumption;exact lA) | (refine yC rfl ?_ ?_;exact lA) | (refine yD ?_ ?_ rfl ?_ ?_;assumption;assumption;exact lA) | (refine yE ?_ ?_ ?_ ?_;assumption;omega;omega) | (refine yF ?_ rfl ?_;omega) | (refine yG ?_ rfl rfl rfl ?_;omega) | refine n0 ?_ | refine zN rfl rfl rfl ?_ | refine zD ?_ | refine zE ?_ | refine zF ?_ | refine PDraw.sP (some 82) rfl [] [10] tt_ok mixed ?_ | intro _ | refine zG ?_);conv=>whnf) | (refine zX (fun hc => ?_) (fun hc => ?_)<;>(try simp only [SY] at hc)<;>first | omega | (conv=>whnf)))
    · have e1 : k + t.fr A = k := by rw [hfr, if_neg (by omega), (s1 ‹_›).2, Trm.frs]; omega
      have e2 : t.cv A k = Trm.mk 16 0 [] [t] := by rw [hcv, if_pos ⟨‹_›, ‹_›⟩]
      rw [e1, e2]
      exact PRet.gen (y := .agg (Trm.mk 16 0 [] [t]).cells) (Γ' := mkG b B k) TrmOf.wk ⟨rfl, rfl⟩
    · have hcv2 : t.cv A k = Trm.mk t.op t.n t.v (if t.op = 8 then boxAll A t.v l else l) := by
        rw [hcv, if_neg (by rintro ⟨_, h⟩; rw [hc] at h; cases h), if_neg (by omega), if_neg (by omega), if_neg (by omega), if_neg (by omega)]
      have hfk : k + t.fr A = k' := by rw [hfr, if_neg (by omega)]; omega
      rw [hfk, hcv2]
      refine PDraw.sF (some 52) rfl [.box b [.int .i64 B.op, .int .i64 B.n, .sl 1 (B.v.map (PV.int .i64)) none, .sl 4 (B.t.map Trm.pv) none, .int .i64 k]] [9,10] [] [11] [12] tt_ok mixed ?_
      conv=>whnf
      repeat ((first | ((first | (apply zY;intro hg) | apply zZ);first | exact stA | exact stB | ((conv=>whnf);(repeat ((first | (refine zW ?_ ?_;exact gA) | refine pC (refD_c _) wR ?_ | refine pC (refD_c _) cA ?_ | refine pC (boxD_c _) wR ?_ | refine PCall.read (hAs _) wR ?_ | refine zA ?_ | refine zH rfl ?_ | refine zB ?_ | (refine yE ?_ ?_ ?_ ?_;assumption;omega;omega) | (refine yF ?_ rfl ?_;omega) | intro _);conv=>whnf));first | exact pS | exact pL | exact pE)) | (refine zW ?_ ?_;exact gA) | refine zH rfl ?_ | refine zA ?_ | refine zI bA ?_ | refine zI rfl ?_ | refine zJ rfl rfl ?_ | refine zB ?_ | refine zK rfl ?_ | refine zL rfl ?_ | refine zC ?_ | (refine zO ?_ ?_ ?_;omega;omega) | (refine zP ?_ ?_ ?_;omega;omega) | refine zM rfl ?_ | (refine zQ ?_ ?_ ?_;omega;omega) | (refine zR ?_ ?_;omega) | (refine zI ?_ ?_;exact nA) | (refine zS ?_ ?_ ?_;omega;omega) | (refine zT ?_ ?_ ?_;omega;omega) | (refine zU ?_ ?_ ?_;omega;omega) | (refine zV ?_ ?_ ?_;omega;omega) | refine pC (refD_c _) wR ?_ | refine pC (refD_c _) cA ?_ | refine pC (boxD_c _) wR ?_ | refine PCall.read (hAs _) wR ?_ | (refine yA ?_ rfl ?_ ?_;assumption;exact lA) | (refine yB ?_ rfl ?_ ?_;assumption;exact lA) | (refine yC rfl ?_ ?_;exact lA) | (refine yD ?_ ?_ rfl ?_ ?_;assumption;assumption;exact lA) | (refine yE ?_ ?_ ?_ ?_;assumption;omega;omega) | (refine yF ?_ rfl ?_;omega) | (refine yG ?_ rfl rfl rfl ?_;omega) | refine n0 ?_ | refine zN rfl rfl rfl ?_ | refine zD ?_ | refine zE ?_ | refine zF ?_ | refine PDraw.sP (some 82) rfl [] [10] tt_ok mixed ?_ | intro _);conv=>whnf)
      refine PCall.go hall (WkT.refl _) ?_
      rintro _ _ ⟨tk, hte, hts, rfl, rfl⟩
      conv => whnf
      repeat' (first | ((first | ((first | (apply zY;intro hg) | apply zZ);first | exact stA | exact stB | ((conv=>whnf);(repeat ((first | (refine zW ?_ ?_;exact gA) | refine pC (refD_c _) wR ?_ | refine pC (refD_c _) cA ?_ | refine pC (boxD_c _) wR ?_ | refine PCall.read (hAs _) wR ?_ | refine zA ?_ | refine zH rfl ?_ | refine zB ?_ | (refine yE ?_ ?_ ?_ ?_;assumption;omega;omega) | (refine yF ?_ rfl ?_;omega) | intro _);conv=>whnf));first | exact pS | exact pL | exact pE)) | (refine zW ?_ ?_;exact gA) | refine zH rfl ?_ | refine zA ?_ | refine zI bA ?_ | refine zI rfl ?_ | refine zJ rfl rfl ?_ | refine zB ?_ | refine zK rfl ?_ | refine zL rfl ?_ | refine zC ?_ | (refine zO ?_ ?_ ?_;omega;omega) | (refine zP ?_ ?_ ?_;omega;omega) | refine zM rfl ?_ | (refine zQ ?_ ?_ ?_;omega;omega) | (refine zR ?_ ?_;omega) | (refine zI ?_ ?_;exact nA) | (refine zS ?_ ?_ ?_;omega;omega) | (refine zT ?_ ?_ ?_;omega;omega) | (refine zU ?_ ?_ ?_;omega;omega) | (refine zV ?_ ?_ ?_;omega;omega) | refine pC (refD_c _) wR ?_ | refine pC (refD_c _) cA ?_ | refine pC (boxD_c _) wR ?_ | refine PCall.read (hAs _) wR ?_ | (refine yA ?_ rfl ?_ ?_;assumption;exact lA) | (refine yB ?_ rfl ?_ ?_;assumption;exact lA) | (refine yC rfl ?_ ?_;exact lA) | (refine yD ?_ ?_ rfl ?_ ?_;assumption;assumption;exact lA) | (refine yE ?_ ?_ ?_ ?_;assumption;omega;omega) | (refine yF ?_ rfl ?_;omega) | (refine yG ?_ rfl rfl rfl ?_;omega) | refine n0 ?_ | refine zN rfl rfl rfl ?_ | refine zD ?_ | refine zE ?_ | refine zF ?_ | refine PDraw.sP (some 82) rfl [] [10] tt_ok mixed ?_ | intro _ | refine zG ?_);conv=>whnf) | (refine zX (fun hc => ?_) (fun hc => ?_)<;>(try simp only [SY] at hc)<;>first | omega | (conv=>whnf)))
      rename_i b6
      generalize hM : boxAll A t.v l = M
      have hMl : M.length = l.length := by rw [← hM, boxAll_len]
      have hnz : ∀ i : Nat, (M.take i ++ l.drop i).length = l.length := fun i => by rw [List.length_append, List.length_take, List.length_drop]; omega
      rw [show l.map Trm.pv = (M.take 0 ++ l.drop 0).map Trm.pv by rw [List.take_zero, List.nil_append, List.drop_zero]]
      refine PLoop.over [6, 63, 64, 65, 66, 67, 68, 69, 70, 71, 72, 73, 74, 75, 76, 77, 78, 79, 80, 81, 82, 83, 84, 85, 86, 87, 88, 89, 90, 91] (fun i : Nat => [(6, .int .i64 i)])
        (fun i : Nat => [.box b6 [.int .i64 t.op, .int .i64 t.n, .sl 1 (t.v.map (PV.int .i64)) none, .ms tk], .row tk ((M.take i ++ l.drop i).map Trm.pv), .box b [.int .i64 B.op, .int .i64 B.n, .sl 1 (B.v.map (PV.int .i64)) none, .sl 4 (B.t.map Trm.pv) none, .int .i64 k'], .box b2 [.int .i64 0, .int .i64 0, .nil, .nil], .box b1 [.int .i64 t.op, .int .i64 t.n, .sl 1 (t.v.map (PV.int .i64)) none, .sl 4 (t.t.map Trm.pv) none]])
        (fun i => i ≤ t.v.length ∧ (t.op ≠ 8 → i = 0)) (fun i => t.v.length - i) 0 ⟨Nat.zero_le _, fun _ => rfl⟩ wA ?_
      rintro i ⟨hi, hi8⟩
      have hmix := hnz i
      have hAs2 := fun v => assigned_d b B hB k' v
      rw [hA] at hAs2
      conv => whnf
      repeat' (first | ((first | ((first | (apply zY;intro hg) | apply zZ);first | exact stA | exact stB | ((conv=>whnf);(repeat ((first | (refine zW ?_ ?_;exact gA) | refine pC (boxD_c _) wR ?_ | refine PCall.read (hAs2 _) wR ?_ | refine zA ?_ | refine zH rfl ?_ | refine zB ?_ | (refine yE ?_ ?_ ?_ ?_;assumption;omega;omega) | (refine yF ?_ rfl ?_;omega) | intro _);conv=>whnf));first | exact pS | exact pL | exact pE)) | (refine zW ?_ ?_;exact gA) | refine zH rfl ?_ | refine zA ?_ | refine zI bA ?_ | refine zI rfl ?_ | refine zJ rfl rfl ?_ | refine zB ?_ | refine zK rfl ?_ | refine zL rfl ?_ | refine zC ?_ | (refine zO ?_ ?_ ?_;omega;omega) | (refine zP ?_ ?_ ?_;omega;omega) | refine zM rfl ?_ | (refine zQ ?_ ?_ ?_;omega;omega) | (refine zR ?_ ?_;omega) | (refine zI ?_ ?_;exact nA) | (refine zS ?_ ?_ ?_;omega;omega) | (refine zT ?_ ?_ ?_;omega;omega) | (refine zU ?_ ?_ ?_;omega;omega) | (refine zV ?_ ?_ ?_;omega;omega) | refine pC (boxD_c _) wR ?_ | refine PCall.read (hAs2 _) wR ?_ | (refine yA ?_ rfl ?_ ?_;assumption;exact lA) | (refine yB ?_ rfl ?_ ?_;assumption;exact lA) | (refine yC rfl ?_ ?_;exact lA) | (refine yD ?_ ?_ rfl ?_ ?_;assumption;assumption;exact lA) | (refine yE ?_ ?_ ?_ ?_;assumption;omega;omega) | (refine yF ?_ rfl ?_;omega) | (refine yG ?_ rfl rfl rfl ?_;omega) | refine n0 ?_ | refine zN rfl rfl rfl ?_ | refine zD ?_ | refine zE ?_ | refine zF ?_ | refine PDraw.sP (some 82) rfl [] [10] tt_ok mixed ?_ | intro _ | refine zG ?_);conv=>whnf) | (refine zX (fun hc => ?_) (fun hc => ?_)<;>(try simp only [SY] at hc)<;>first | omega | (conv=>whnf)))
      · have e5 : M.take i ++ l.drop i = if t.op = 8 then M else l := by
          by_cases h8 : t.op = 8
          · have : i = t.v.length := by omega
            rw [if_pos h8, this, ← boxAll_drop A t.v l, hM, List.take_append_drop]
          · rw [if_neg h8, hi8 h8, List.take_zero, List.nil_append, List.drop_zero]
        rw [e5]
        exact PRet.frz (es := (if t.op = 8 then M else l).map Trm.pv) (y := .agg (Trm.mk t.op t.n t.v (if t.op = 8 then M else l)).cells) (Γ' := mkG b B k') (WkF.agg (.cons (WkF.of (Wk.refl _)) (.cons (WkF.of (Wk.refl _)) (.cons (WkF.of (Wk.refl _)) (.cons (WkF.ms' hts) .nil))))) (And.intro rfl rfl)
    · have e1 : k + t.fr A = k' := by rw [hfr, if_neg (by omega)]; omega
      have e2 : t.cv A k = Trm.mk 17 0 [] (refT t.n :: l) := by rw [hcv, if_neg (by omega), if_pos ‹_›]
      rw [e1, e2]
      refine PDraw.sW [.box b [.int .i64 B.op, .int .i64 B.n, .sl 1 (B.v.map (PV.int .i64)) none, .sl 4 (B.t.map Trm.pv) none, .int .i64 k]] 3 7 [8] [9] [10] tt_ok mixed ?_
      conv => whnf
      repeat ((first | ((first | (apply zY;intro hg) | apply zZ);first | exact stA | exact stB | ((conv=>whnf);(repeat ((first | (refine zW ?_ ?_;exact gA) | refine pC (refD_c _) wR ?_ | refine pC (refD_c _) cA ?_ | refine pC (boxD_c _) wR ?_ | refine zA ?_ | refine zH rfl ?_ | refine zB ?_ | (refine yE ?_ ?_ ?_ ?_;assumption;omega;omega) | (refine yF ?_ rfl ?_;omega) | intro _);conv=>whnf));first | exact pS | exact pL | exact pE)) | (refine zW ?_ ?_;exact gA) | refine zH rfl ?_ | refine zA ?_ | refine zI bA ?_ | refine zI rfl ?_ | refine zJ rfl rfl ?_ | refine zB ?_ | refine zK rfl ?_ | refine zL rfl ?_ | refine zC ?_ | (refine zO ?_ ?_ ?_;omega;omega) | (refine zP ?_ ?_ ?_;omega;omega) | refine zM rfl ?_ | (refine zQ ?_ ?_ ?_;omega;omega) | (refine zR ?_ ?_;omega) | (refine zI ?_ ?_;exact nA) | (refine zS ?_ ?_ ?_;omega;omega) | (refine zT ?_ ?_ ?_;omega;omega) | (refine zU ?_ ?_ ?_;omega;omega) | (refine zV ?_ ?_ ?_;omega;omega) | refine pC (refD_c _) wR ?_ | refine pC (refD_c _) cA ?_ | refine pC (boxD_c _) wR ?_ | (refine yA ?_ rfl ?_ ?_;assumption;exact lA) | (refine yB ?_ rfl ?_ ?_;assumption;exact lA) | (refine yC rfl ?_ ?_;exact lA) | (refine yD ?_ ?_ rfl ?_ ?_;assumption;assumption;exact lA) | (refine yE ?_ ?_ ?_ ?_;assumption;omega;omega) | (refine yF ?_ rfl ?_;omega) | (refine yG ?_ rfl rfl rfl ?_;omega) | refine n0 ?_ | refine zN rfl rfl rfl ?_ | refine zD ?_ | refine zE ?_ | refine zF ?_ | refine PDraw.sP (some 82) rfl [] [10] tt_ok mixed ?_ | intro _);conv=>whnf)
      refine And.intro ?_ ?_
      · conv => whnf
        repeat' (first | ((first | ((first | (apply zY;intro hg) | apply zZ);first | exact stA | exact stB | ((conv=>whnf);(repeat ((first | (refine zW ?_ ?_;exact gA) | refine pC (refD_c _) wR ?_ | refine pC (refD_c _) cA ?_ | refine pC (boxD_c _) wR ?_ | refine zA ?_ | refine zH rfl ?_ | refine zB ?_ | (refine yE ?_ ?_ ?_ ?_;assumption;omega;omega) | (refine yF ?_ rfl ?_;omega) | intro _);conv=>whnf));first | exact pS | exact pL | exact pE)) | (refine zW ?_ ?_;exact gA) | refine zH rfl ?_ | refine zA ?_ | refine zI bA ?_ | refine zI rfl ?_ | refine zJ rfl rfl ?_ | refine zB ?_ | refine zK rfl ?_ | refine zL rfl ?_ | refine zC ?_ | (refine zO ?_ ?_ ?_;omega;omega) | (refine zP ?_ ?_ ?_;omega;omega) | refine zM rfl ?_ | (refine zQ ?_ ?_ ?_;omega;omega) | (refine zR ?_ ?_;omega) | (refine zI ?_ ?_;exact nA) | (refine zS ?_ ?_ ?_;omega;omega) | (refine zT ?_ ?_ ?_;omega;omega) | (refine zU ?_ ?_ ?_;omega;omega) | (refine zV ?_ ?_ ?_;omega;omega) | refine pC (refD_c _) wR ?_ | refine pC (refD_c _) cA ?_ | refine pC (boxD_c _) wR ?_ | (refine yA ?_ rfl ?_ ?_;assumption;exact lA) | (refine yB ?_ rfl ?_ ?_;assumption;exact lA) | (refine yC rfl ?_ ?_;exact lA) | (refine yD ?_ ?_ rfl ?_ ?_;assumption;assumption;exact lA) | (refine yE ?_ ?_ ?_ ?_;assumption;omega;omega) | (refine yF ?_ rfl ?_;omega) | (refine yG ?_ rfl rfl rfl ?_;omega) | refine n0 ?_ | refine zN rfl rfl rfl ?_ | refine zD ?_ | refine zE ?_ | refine zF ?_ | refine PDraw.sP (some 82) rfl [] [10] tt_ok mixed ?_ | intro _ | refine zG ?_);conv=>whnf) | (refine zX (fun hc => ?_) (fun hc => ?_)<;>(try simp only [SY] at hc)<;>first | omega | (conv=>whnf)))
        refine PCall.go hallF (WkT.refl _) ?_
        rintro _ _ ⟨rfl, rfl⟩
        conv => whnf
        repeat' (first | ((first | ((first | (apply zY;intro hg) | apply zZ);first | exact stA | exact stB | ((conv=>whnf);(repeat ((first | (refine zW ?_ ?_;exact gA) | refine pC (refD_c _) wR ?_ | refine pC (refD_c _) cA ?_ | refine pC (boxD_c _) wR ?_ | refine zA ?_ | refine zH rfl ?_ | refine zB ?_ | (refine yE ?_ ?_ ?_ ?_;assumption;omega;omega) | (refine yF ?_ rfl ?_;omega) | intro _);conv=>whnf));first | exact pS | exact pL | exact pE)) | (refine zW ?_ ?_;exact gA) | refine zH rfl ?_ | refine zA ?_ | refine zI bA ?_ | refine zI rfl ?_ | refine zJ rfl rfl ?_ | refine zB ?_ | refine zK rfl ?_ | refine zL rfl ?_ | refine zC ?_ | (refine zO ?_ ?_ ?_;omega;omega) | (refine zP ?_ ?_ ?_;omega;omega) | refine zM rfl ?_ | (refine zQ ?_ ?_ ?_;omega;omega) | (refine zR ?_ ?_;omega) | (refine zI ?_ ?_;exact nA) | (refine zS ?_ ?_ ?_;omega;omega) | (refine zT ?_ ?_ ?_;omega;omega) | (refine zU ?_ ?_ ?_;omega;omega) | (refine zV ?_ ?_ ?_;omega;omega) | refine pC (refD_c _) wR ?_ | refine pC (refD_c _) cA ?_ | refine pC (boxD_c _) wR ?_ | (refine yA ?_ rfl ?_ ?_;assumption;exact lA) | (refine yB ?_ rfl ?_ ?_;assumption;exact lA) | (refine yC rfl ?_ ?_;exact lA) | (refine yD ?_ ?_ rfl ?_ ?_;assumption;assumption;exact lA) | (refine yE ?_ ?_ ?_ ?_;assumption;omega;omega) | (refine yF ?_ rfl ?_;omega) | (refine yG ?_ rfl rfl rfl ?_;omega) | refine n0 ?_ | refine zN rfl rfl rfl ?_ | refine zD ?_ | refine zE ?_ | refine zF ?_ | refine PDraw.sP (some 82) rfl [] [10] tt_ok mixed ?_ | intro _ | refine zG ?_);conv=>whnf) | (refine zX (fun hc => ?_) (fun hc => ?_)<;>(try simp only [SY] at hc)<;>first | omega | (conv=>whnf)))
        rw [show [PV.agg (refT t.n).cells] = [refT t.n].map Trm.pv by rw [List.map_cons, Trm.pv_eq]; rfl]
        conv => whnf
        repeat' (first | ((first | ((first | (apply zY;intro hg) | apply zZ);first | exact stA | exact stB | ((conv=>whnf);(repeat ((first | (refine zW ?_ ?_;exact gA) | refine pC (refD_c _) wR ?_ | refine pC (refD_c _) cA ?_ | refine pC (boxD_c _) wR ?_ | refine zA ?_ | refine zH rfl ?_ | refine zB ?_ | (refine yE ?_ ?_ ?_ ?_;assumption;omega;omega) | (refine yF ?_ rfl ?_;omega) | intro _);conv=>whnf));first | exact pS | exact pL | exact pE)) | (refine zW ?_ ?_;exact gA) | refine zH rfl ?_ | refine zA ?_ | refine zI bA ?_ | refine zI rfl ?_ | refine zJ rfl rfl ?_ | refine zB ?_ | refine zK rfl ?_ | refine zL rfl ?_ | refine zC ?_ | (refine zO ?_ ?_ ?_;omega;omega) | (refine zP ?_ ?_ ?_;omega;omega) | refine zM rfl ?_ | (refine zQ ?_ ?_ ?_;omega;omega) | (refine zR ?_ ?_;omega) | (refine zI ?_ ?_;exact nA) | (refine zS ?_ ?_ ?_;omega;omega) | (refine zT ?_ ?_ ?_;omega;omega) | (refine zU ?_ ?_ ?_;omega;omega) | (refine zV ?_ ?_ ?_;omega;omega) | refine pC (refD_c _) wR ?_ | refine pC (refD_c _) cA ?_ | refine pC (boxD_c _) wR ?_ | (refine yA ?_ rfl ?_ ?_;assumption;exact lA) | (refine yB ?_ rfl ?_ ?_;assumption;exact lA) | (refine yC rfl ?_ ?_;exact lA) | (refine yD ?_ ?_ rfl ?_ ?_;assumption;assumption;exact lA) | (refine yE ?_ ?_ ?_ ?_;assumption;omega;omega) | (refine yF ?_ rfl ?_;omega) | (refine yG ?_ rfl rfl rfl ?_;omega) | refine n0 ?_ | refine zN rfl rfl rfl ?_ | refine zD ?_ | refine zE ?_ | refine zF ?_ | refine PDraw.sP (some 82) rfl [] [10] tt_ok mixed ?_ | intro _ | refine zG ?_);conv=>whnf) | (refine zX (fun hc => ?_) (fun hc => ?_)<;>(try simp only [SY] at hc)<;>first | omega | (conv=>whnf)))
        exact PRet.gen (y := .agg (Trm.mk 17 0 [] (refT t.n :: l)).cells) (Γ' := mkG b B k') TrmOf.wk ⟨rfl, rfl⟩
      · conv => whnf
        repeat' (first | ((first | ((first | (apply zY;intro hg) | apply zZ);first | exact stA | exact stB | ((conv=>whnf);(repeat ((first | (refine zW ?_ ?_;exact gA) | refine pC (refD_c _) wR ?_ | refine pC (refD_c _) cA ?_ | refine pC (boxD_c _) wR ?_ | refine zA ?_ | refine zH rfl ?_ | refine zB ?_ | (refine yE ?_ ?_ ?_ ?_;assumption;omega;omega) | (refine yF ?_ rfl ?_;omega) | intro _);conv=>whnf));first | exact pS | exact pL | exact pE)) | (refine zW ?_ ?_;exact gA) | refine zH rfl ?_ | refine zA ?_ | refine zI bA ?_ | refine zI rfl ?_ | refine zJ rfl rfl ?_ | refine zB ?_ | refine zK rfl ?_ | refine zL rfl ?_ | refine zC ?_ | (refine zO ?_ ?_ ?_;omega;omega) | (refine zP ?_ ?_ ?_;omega;omega) | refine zM rfl ?_ | (refine zQ ?_ ?_ ?_;omega;omega) | (refine zR ?_ ?_;omega) | (refine zI ?_ ?_;exact nA) | (refine zS ?_ ?_ ?_;omega;omega) | (refine zT ?_ ?_ ?_;omega;omega) | (refine zU ?_ ?_ ?_;omega;omega) | (refine zV ?_ ?_ ?_;omega;omega) | refine pC (refD_c _) wR ?_ | refine pC (refD_c _) cA ?_ | refine pC (boxD_c _) wR ?_ | (refine yA ?_ rfl ?_ ?_;assumption;exact lA) | (refine yB ?_ rfl ?_ ?_;assumption;exact lA) | (refine yC rfl ?_ ?_;exact lA) | (refine yD ?_ ?_ rfl ?_ ?_;assumption;assumption;exact lA) | (refine yE ?_ ?_ ?_ ?_;assumption;omega;omega) | (refine yF ?_ rfl ?_;omega) | (refine yG ?_ rfl rfl rfl ?_;omega) | refine n0 ?_ | refine zN rfl rfl rfl ?_ | refine zD ?_ | refine zE ?_ | refine zF ?_ | refine PDraw.sP (some 82) rfl [] [10] tt_ok mixed ?_ | intro _ | refine zG ?_);conv=>whnf) | (refine zX (fun hc => ?_) (fun hc => ?_)<;>(try simp only [SY] at hc)<;>first | omega | (conv=>whnf)))
        refine PCall.go hallF (WkT.refl _) ?_
        rintro _ _ ⟨rfl, rfl⟩
        conv => whnf
        repeat' (first | ((first | ((first | (apply zY;intro hg) | apply zZ);first | exact stA | exact stB | ((conv=>whnf);(repeat ((first | (refine zW ?_ ?_;exact gA) | refine pC (refD_c _) wR ?_ | refine pC (refD_c _) cA ?_ | refine pC (boxD_c _) wR ?_ | refine zA ?_ | refine zH rfl ?_ | refine zB ?_ | (refine yE ?_ ?_ ?_ ?_;assumption;omega;omega) | (refine yF ?_ rfl ?_;omega) | intro _);conv=>whnf));first | exact pS | exact pL | exact pE)) | (refine zW ?_ ?_;exact gA) | refine zH rfl ?_ | refine zA ?_ | refine zI bA ?_ | refine zI rfl ?_ | refine zJ rfl rfl ?_ | refine zB ?_ | refine zK rfl ?_ | refine zL rfl ?_ | refine zC ?_ | (refine zO ?_ ?_ ?_;omega;omega) | (refine zP ?_ ?_ ?_;omega;omega) | refine zM rfl ?_ | (refine zQ ?_ ?_ ?_;omega;omega) | (refine zR ?_ ?_;omega) | (refine zI ?_ ?_;exact nA) | (refine zS ?_ ?_ ?_;omega;omega) | (refine zT ?_ ?_ ?_;omega;omega) | (refine zU ?_ ?_ ?_;omega;omega) | (refine zV ?_ ?_ ?_;omega;omega) | refine pC (refD_c _) wR ?_ | refine pC (refD_c _) cA ?_ | refine pC (boxD_c _) wR ?_ | (refine yA ?_ rfl ?_ ?_;assumption;exact lA) | (refine yB ?_ rfl ?_ ?_;assumption;exact lA) | (refine yC rfl ?_ ?_;exact lA) | (refine yD ?_ ?_ rfl ?_ ?_;assumption;assumption;exact lA) | (refine yE ?_ ?_ ?_ ?_;assumption;omega;omega) | (refine yF ?_ rfl ?_;omega) | (refine yG ?_ rfl rfl rfl ?_;omega) | refine n0 ?_ | refine zN rfl rfl rfl ?_ | refine zD ?_ | refine zE ?_ | refine zF ?_ | refine PDraw.sP (some 82) rfl [] [10] tt_ok mixed ?_ | intro _ | refine zG ?_);conv=>whnf) | (refine zX (fun hc => ?_) (fun hc => ?_)<;>(try simp only [SY] at hc)<;>first | omega | (conv=>whnf)))
        rw [show [PV.agg (refT t.n).cells] = [refT t.n].map Trm.pv by rw [List.map_cons, Trm.pv_eq]; rfl]
        conv => whnf
        repeat' (first | ((first | ((first | (apply zY;intro hg) | apply zZ);first | exact stA | exact stB | ((conv=>whnf);(repeat ((first | (refine zW ?_ ?_;exact gA) | refine pC (refD_c _) wR ?_ | refine pC (refD_c _) cA ?_ | refine pC (boxD_c _) wR ?_ | refine zA ?_ | refine zH rfl ?_ | refine zB ?_ | (refine yE ?_ ?_ ?_ ?_;assumption;omega;omega) | (refine yF ?_ rfl ?_;omega) | intro _);conv=>whnf));first | exact pS | exact pL | exact pE)) | (refine zW ?_ ?_;exact gA) | refine zH rfl ?_ | refine zA ?_ | refine zI bA ?_ | refine zI rfl ?_ | refine zJ rfl rfl ?_ | refine zB ?_ | refine zK rfl ?_ | refine zL rfl ?_ | refine zC ?_ | (refine zO ?_ ?_ ?_;omega;omega) | (refine zP ?_ ?_ ?_;omega;omega) | refine zM rfl ?_ | (refine zQ ?_ ?_ ?_;omega;omega) | (refine zR ?_ ?_;omega) | (refine zI ?_ ?_;exact nA) | (refine zS ?_ ?_ ?_;omega;omega) | (refine zT ?_ ?_ ?_;omega;omega) | (refine zU ?_ ?_ ?_;omega;omega) | (refine zV ?_ ?_ ?_;omega;omega) | refine pC (refD_c _) wR ?_ | refine pC (refD_c _) cA ?_ | refine pC (boxD_c _) wR ?_ | (refine yA ?_ rfl ?_ ?_;assumption;exact lA) | (refine yB ?_ rfl ?_ ?_;assumption;exact lA) | (refine yC rfl ?_ ?_;exact lA) | (refine yD ?_ ?_ rfl ?_ ?_;assumption;assumption;exact lA) | (refine yE ?_ ?_ ?_ ?_;assumption;omega;omega) | (refine yF ?_ rfl ?_;omega) | (refine yG ?_ rfl rfl rfl ?_;omega) | refine n0 ?_ | refine zN rfl rfl rfl ?_ | refine zD ?_ | refine zE ?_ | refine zF ?_ | refine PDraw.sP (some 82) rfl [] [10] tt_ok mixed ?_ | intro _ | refine zG ?_);conv=>whnf) | (refine zX (fun hc => ?_) (fun hc => ?_)<;>(try simp only [SY] at hc)<;>first | omega | (conv=>whnf)))
        exact PRet.gen (y := .agg (Trm.mk 17 0 [] (refT t.n :: l)).cells) (Γ' := mkG b B k') TrmOf.wk ⟨rfl, rfl⟩
    · have e1 : k + t.fr A = k' := by rw [hfr, if_neg (by omega)]; omega
      have e2 : t.cv A k = Trm.mk 18 0 [] (refT t.n :: l) := by rw [hcv, if_neg (by omega), if_neg (by omega), if_pos ‹_›]
      rw [e1, e2]
      refine PDraw.sW [.box b [.int .i64 B.op, .int .i64 B.n, .sl 1 (B.v.map (PV.int .i64)) none, .sl 4 (B.t.map Trm.pv) none, .int .i64 k]] 3 7 [8] [9] [10] tt_ok mixed ?_
      conv => whnf
      repeat ((first | ((first | (apply zY;intro hg) | apply zZ);first | exact stA | exact stB | ((conv=>whnf);(repeat ((first | (refine zW ?_ ?_;exact gA) | refine pC (refD_c _) wR ?_ | refine pC (refD_c _) cA ?_ | refine pC (boxD_c _) wR ?_ | refine zA ?_ | refine zH rfl ?_ | refine zB ?_ | (refine yE ?_ ?_ ?_ ?_;assumption;omega;omega) | (refine yF ?_ rfl ?_;omega) | intro _);conv=>whnf));first | exact pS | exact pL | exact pE)) | (refine zW ?_ ?_;exact gA) | refine zH rfl ?_ | refine zA ?_ | refine zI bA ?_ | refine zI rfl ?_ | refine zJ rfl rfl ?_ | refine zB ?_ | refine zK rfl ?_ | refine zL rfl ?_ | refine zC ?_ | (refine zO ?_ ?_ ?_;omega;omega) | (refine zP ?_ ?_ ?_;omega;omega) | refine zM rfl ?_ | (refine zQ ?_ ?_ ?_;omega;omega) | (refine zR ?_ ?_;omega) | (refine zI ?_ ?_;exact nA) | (refine zS ?_ ?_ ?_;omega;omega) | (refine zT ?_ ?_ ?_;omega;omega) | (refine zU ?_ ?_ ?_;omega;omega) | (refine zV ?_ ?_ ?_;omega;omega) | refine pC (refD_c _) wR ?_ | refine pC (refD_c _) cA ?_ | refine pC (boxD_c _) wR ?_ | (refine yA ?_ rfl ?_ ?_;assumption;exact lA) | (refine yB ?_ rfl ?_ ?_;assumption;exact lA) | (refine yC rfl ?_ ?_;exact lA) | (refine yD ?_ ?_ rfl ?_ ?_;assumption;assumption;exact lA) | (refine yE ?_ ?_ ?_ ?_;assumption;omega;omega) | (refine yF ?_ rfl ?_;omega) | (refine yG ?_ rfl rfl rfl ?_;omega) | refine n0 ?_ | refine zN rfl rfl rfl ?_ | refine zD ?_ | refine zE ?_ | refine zF ?_ | refine PDraw.sP (some 82) rfl [] [10] tt_ok mixed ?_ | intro _);conv=>whnf)
      refine And.intro ?_ ?_
      · conv => whnf
        repeat' (first | ((first | ((first | (apply zY;intro hg) | apply zZ);first | exact stA | exact stB | ((conv=>whnf);(repeat ((first | (refine zW ?_ ?_;exact gA) | refine pC (refD_c _) wR ?_ | refine pC (refD_c _) cA ?_ | refine pC (boxD_c _) wR ?_ | refine zA ?_ | refine zH rfl ?_ | refine zB ?_ | (refine yE ?_ ?_ ?_ ?_;assumption;omega;omega) | (refine yF ?_ rfl ?_;omega) | intro _);conv=>whnf));first | exact pS | exact pL | exact pE)) | (refine zW ?_ ?_;exact gA) | refine zH rfl ?_ | refine zA ?_ | refine zI bA ?_ | refine zI rfl ?_ | refine zJ rfl rfl ?_ | refine zB ?_ | refine zK rfl ?_ | refine zL rfl ?_ | refine zC ?_ | (refine zO ?_ ?_ ?_;omega;omega) | (refine zP ?_ ?_ ?_;omega;omega) | refine zM rfl ?_ | (refine zQ ?_ ?_ ?_;omega;omega) | (refine zR ?_ ?_;omega) | (refine zI ?_ ?_;exact nA) | (refine zS ?_ ?_ ?_;omega;omega) | (refine zT ?_ ?_ ?_;omega;omega) | (refine zU ?_ ?_ ?_;omega;omega) | (refine zV ?_ ?_ ?_;omega;omega) | refine pC (refD_c _) wR ?_ | refine pC (refD_c _) cA ?_ | refine pC (boxD_c _) wR ?_ | (refine yA ?_ rfl ?_ ?_;assumption;exact lA) | (refine yB ?_ rfl ?_ ?_;assumption;exact lA) | (refine yC rfl ?_ ?_;exact lA) | (refine yD ?_ ?_ rfl ?_ ?_;assumption;assumption;exact lA) | (refine yE ?_ ?_ ?_ ?_;assumption;omega;omega) | (refine yF ?_ rfl ?_;omega) | (refine yG ?_ rfl rfl rfl ?_;omega) | refine n0 ?_ | refine zN rfl rfl rfl ?_ | refine zD ?_ | refine zE ?_ | refine zF ?_ | refine PDraw.sP (some 82) rfl [] [10] tt_ok mixed ?_ | intro _ | refine zG ?_);conv=>whnf) | (refine zX (fun hc => ?_) (fun hc => ?_)<;>(try simp only [SY] at hc)<;>first | omega | (conv=>whnf)))
        refine PCall.go hallF (WkT.refl _) ?_
        rintro _ _ ⟨rfl, rfl⟩
        conv => whnf
        repeat' (first | ((first | ((first | (apply zY;intro hg) | apply zZ);first | exact stA | exact stB | ((conv=>whnf);(repeat ((first | (refine zW ?_ ?_;exact gA) | refine pC (refD_c _) wR ?_ | refine pC (refD_c _) cA ?_ | refine pC (boxD_c _) wR ?_ | refine zA ?_ | refine zH rfl ?_ | refine zB ?_ | (refine yE ?_ ?_ ?_ ?_;assumption;omega;omega) | (refine yF ?_ rfl ?_;omega) | intro _);conv=>whnf));first | exact pS | exact pL | exact pE)) | (refine zW ?_ ?_;exact gA) | refine zH rfl ?_ | refine zA ?_ | refine zI bA ?_ | refine zI rfl ?_ | refine zJ rfl rfl ?_ | refine zB ?_ | refine zK rfl ?_ | refine zL rfl ?_ | refine zC ?_ | (refine zO ?_ ?_ ?_;omega;omega) | (refine zP ?_ ?_ ?_;omega;omega) | refine zM rfl ?_ | (refine zQ ?_ ?_ ?_;omega;omega) | (refine zR ?_ ?_;omega) | (refine zI ?_ ?_;exact nA) | (refine zS ?_ ?_ ?_;omega;omega) | (refine zT ?_ ?_ ?_;omega;omega) | (refine zU ?_ ?_ ?_;omega;omega) | (refine zV ?_ ?_ ?_;omega;omega) | refine pC (refD_c _) wR ?_ | refine pC (refD_c _) cA ?_ | refine pC (boxD_c _) wR ?_ | (refine yA ?_ rfl ?_ ?_;assumption;exact lA) | (refine yB ?_ rfl ?_ ?_;assumption;exact lA) | (refine yC rfl ?_ ?_;exact lA) | (refine yD ?_ ?_ rfl ?_ ?_;assumption;assumption;exact lA) | (refine yE ?_ ?_ ?_ ?_;assumption;omega;omega) | (refine yF ?_ rfl ?_;omega) | (refine yG ?_ rfl rfl rfl ?_;omega) | refine n0 ?_ | refine zN rfl rfl rfl ?_ | refine zD ?_ | refine zE ?_ | refine zF ?_ | refine PDraw.sP (some 82) rfl [] [10] tt_ok mixed ?_ | intro _ | refine zG ?_);conv=>whnf) | (refine zX (fun hc => ?_) (fun hc => ?_)<;>(try simp only [SY] at hc)<;>first | omega | (conv=>whnf)))
        rw [show [PV.agg (refT t.n).cells] = [refT t.n].map Trm.pv by rw [List.map_cons, Trm.pv_eq]; rfl]
        conv => whnf
        repeat' (first | ((first | ((first | (apply zY;intro hg) | apply zZ);first | exact stA | exact stB | ((conv=>whnf);(repeat ((first | (refine zW ?_ ?_;exact gA) | refine pC (refD_c _) wR ?_ | refine pC (refD_c _) cA ?_ | refine pC (boxD_c _) wR ?_ | refine zA ?_ | refine zH rfl ?_ | refine zB ?_ | (refine yE ?_ ?_ ?_ ?_;assumption;omega;omega) | (refine yF ?_ rfl ?_;omega) | intro _);conv=>whnf));first | exact pS | exact pL | exact pE)) | (refine zW ?_ ?_;exact gA) | refine zH rfl ?_ | refine zA ?_ | refine zI bA ?_ | refine zI rfl ?_ | refine zJ rfl rfl ?_ | refine zB ?_ | refine zK rfl ?_ | refine zL rfl ?_ | refine zC ?_ | (refine zO ?_ ?_ ?_;omega;omega) | (refine zP ?_ ?_ ?_;omega;omega) | refine zM rfl ?_ | (refine zQ ?_ ?_ ?_;omega;omega) | (refine zR ?_ ?_;omega) | (refine zI ?_ ?_;exact nA) | (refine zS ?_ ?_ ?_;omega;omega) | (refine zT ?_ ?_ ?_;omega;omega) | (refine zU ?_ ?_ ?_;omega;omega) | (refine zV ?_ ?_ ?_;omega;omega) | refine pC (refD_c _) wR ?_ | refine pC (refD_c _) cA ?_ | refine pC (boxD_c _) wR ?_ | (refine yA ?_ rfl ?_ ?_;assumption;exact lA) | (refine yB ?_ rfl ?_ ?_;assumption;exact lA) | (refine yC rfl ?_ ?_;exact lA) | (refine yD ?_ ?_ rfl ?_ ?_;assumption;assumption;exact lA) | (refine yE ?_ ?_ ?_ ?_;assumption;omega;omega) | (refine yF ?_ rfl ?_;omega) | (refine yG ?_ rfl rfl rfl ?_;omega) | refine n0 ?_ | refine zN rfl rfl rfl ?_ | refine zD ?_ | refine zE ?_ | refine zF ?_ | refine PDraw.sP (some 82) rfl [] [10] tt_ok mixed ?_ | intro _ | refine zG ?_);conv=>whnf) | (refine zX (fun hc => ?_) (fun hc => ?_)<;>(try simp only [SY] at hc)<;>first | omega | (conv=>whnf)))
        exact PRet.gen (y := .agg (Trm.mk 18 0 [] (refT t.n :: l)).cells) (Γ' := mkG b B k') TrmOf.wk ⟨rfl, rfl⟩
      · conv => whnf
        repeat' (first | ((first | ((first | (apply zY;intro hg) | apply zZ);first | exact stA | exact stB | ((conv=>whnf);(repeat ((first | (refine zW ?_ ?_;exact gA) | refine pC (refD_c _) wR ?_ | refine pC (refD_c _) cA ?_ | refine pC (boxD_c _) wR ?_ | refine zA ?_ | refine zH rfl ?_ | refine zB ?_ | (refine yE ?_ ?_ ?_ ?_;assumption;omega;omega) | (refine yF ?_ rfl ?_;omega) | intro _);conv=>whnf));first | exact pS | exact pL | exact pE)) | (refine zW ?_ ?_;exact gA) | refine zH rfl ?_ | refine zA ?_ | refine zI bA ?_ | refine zI rfl ?_ | refine zJ rfl rfl ?_ | refine zB ?_ | refine zK rfl ?_ | refine zL rfl ?_ | refine zC ?_ | (refine zO ?_ ?_ ?_;omega;omega) | (refine zP ?_ ?_ ?_;omega;omega) | refine zM rfl ?_ | (refine zQ ?_ ?_ ?_;omega;omega) | (refine zR ?_ ?_;omega) | (refine zI ?_ ?_;exact nA) | (refine zS ?_ ?_ ?_;omega;omega) | (refine zT ?_ ?_ ?_;omega;omega) | (refine zU ?_ ?_ ?_;omega;omega) | (refine zV ?_ ?_ ?_;omega;omega) | refine pC (refD_c _) wR ?_ | refine pC (refD_c _) cA ?_ | refine pC (boxD_c _) wR ?_ | (refine yA ?_ rfl ?_ ?_;assumption;exact lA) | (refine yB ?_ rfl ?_ ?_;assumption;exact lA) | (refine yC rfl ?_ ?_;exact lA) | (refine yD ?_ ?_ rfl ?_ ?_;assumption;assumption;exact lA) | (refine yE ?_ ?_ ?_ ?_;assumption;omega;omega) | (refine yF ?_ rfl ?_;omega) | (refine yG ?_ rfl rfl rfl ?_;omega) | refine n0 ?_ | refine zN rfl rfl rfl ?_ | refine zD ?_ | refine zE ?_ | refine zF ?_ | refine PDraw.sP (some 82) rfl [] [10] tt_ok mixed ?_ | intro _ | refine zG ?_);conv=>whnf) | (refine zX (fun hc => ?_) (fun hc => ?_)<;>(try simp only [SY] at hc)<;>first | omega | (conv=>whnf)))
        refine PCall.go hallF (WkT.refl _) ?_
        rintro _ _ ⟨rfl, rfl⟩
        conv => whnf
        repeat' (first | ((first | ((first | (apply zY;intro hg) | apply zZ);first | exact stA | exact stB | ((conv=>whnf);(repeat ((first | (refine zW ?_ ?_;exact gA) | refine pC (refD_c _) wR ?_ | refine pC (refD_c _) cA ?_ | refine pC (boxD_c _) wR ?_ | refine zA ?_ | refine zH rfl ?_ | refine zB ?_ | (refine yE ?_ ?_ ?_ ?_;assumption;omega;omega) | (refine yF ?_ rfl ?_;omega) | intro _);conv=>whnf));first | exact pS | exact pL | exact pE)) | (refine zW ?_ ?_;exact gA) | refine zH rfl ?_ | refine zA ?_ | refine zI bA ?_ | refine zI rfl ?_ | refine zJ rfl rfl ?_ | refine zB ?_ | refine zK rfl ?_ | refine zL rfl ?_ | refine zC ?_ | (refine zO ?_ ?_ ?_;omega;omega) | (refine zP ?_ ?_ ?_;omega;omega) | refine zM rfl ?_ | (refine zQ ?_ ?_ ?_;omega;omega) | (refine zR ?_ ?_;omega) | (refine zI ?_ ?_;exact nA) | (refine zS ?_ ?_ ?_;omega;omega) | (refine zT ?_ ?_ ?_;omega;omega) | (refine zU ?_ ?_ ?_;omega;omega) | (refine zV ?_ ?_ ?_;omega;omega) | refine pC (refD_c _) wR ?_ | refine pC (refD_c _) cA ?_ | refine pC (boxD_c _) wR ?_ | (refine yA ?_ rfl ?_ ?_;assumption;exact lA) | (refine yB ?_ rfl ?_ ?_;assumption;exact lA) | (refine yC rfl ?_ ?_;exact lA) | (refine yD ?_ ?_ rfl ?_ ?_;assumption;assumption;exact lA) | (refine yE ?_ ?_ ?_ ?_;assumption;omega;omega) | (refine yF ?_ rfl ?_;omega) | (refine yG ?_ rfl rfl rfl ?_;omega) | refine n0 ?_ | refine zN rfl rfl rfl ?_ | refine zD ?_ | refine zE ?_ | refine zF ?_ | refine PDraw.sP (some 82) rfl [] [10] tt_ok mixed ?_ | intro _ | refine zG ?_);conv=>whnf) | (refine zX (fun hc => ?_) (fun hc => ?_)<;>(try simp only [SY] at hc)<;>first | omega | (conv=>whnf)))
        rw [show [PV.agg (refT t.n).cells] = [refT t.n].map Trm.pv by rw [List.map_cons, Trm.pv_eq]; rfl]
        conv => whnf
        repeat' (first | ((first | ((first | (apply zY;intro hg) | apply zZ);first | exact stA | exact stB | ((conv=>whnf);(repeat ((first | (refine zW ?_ ?_;exact gA) | refine pC (refD_c _) wR ?_ | refine pC (refD_c _) cA ?_ | refine pC (boxD_c _) wR ?_ | refine zA ?_ | refine zH rfl ?_ | refine zB ?_ | (refine yE ?_ ?_ ?_ ?_;assumption;omega;omega) | (refine yF ?_ rfl ?_;omega) | intro _);conv=>whnf));first | exact pS | exact pL | exact pE)) | (refine zW ?_ ?_;exact gA) | refine zH rfl ?_ | refine zA ?_ | refine zI bA ?_ | refine zI rfl ?_ | refine zJ rfl rfl ?_ | refine zB ?_ | refine zK rfl ?_ | refine zL rfl ?_ | refine zC ?_ | (refine zO ?_ ?_ ?_;omega;omega) | (refine zP ?_ ?_ ?_;omega;omega) | refine zM rfl ?_ | (refine zQ ?_ ?_ ?_;omega;omega) | (refine zR ?_ ?_;omega) | (refine zI ?_ ?_;exact nA) | (refine zS ?_ ?_ ?_;omega;omega) | (refine zT ?_ ?_ ?_;omega;omega) | (refine zU ?_ ?_ ?_;omega;omega) | (refine zV ?_ ?_ ?_;omega;omega) | refine pC (refD_c _) wR ?_ | refine pC (refD_c _) cA ?_ | refine pC (boxD_c _) wR ?_ | (refine yA ?_ rfl ?_ ?_;assumption;exact lA) | (refine yB ?_ rfl ?_ ?_;assumption;exact lA) | (refine yC rfl ?_ ?_;exact lA) | (refine yD ?_ ?_ rfl ?_ ?_;assumption;assumption;exact lA) | (refine yE ?_ ?_ ?_ ?_;assumption;omega;omega) | (refine yF ?_ rfl ?_;omega) | (refine yG ?_ rfl rfl rfl ?_;omega) | refine n0 ?_ | refine zN rfl rfl rfl ?_ | refine zD ?_ | refine zE ?_ | refine zF ?_ | refine PDraw.sP (some 82) rfl [] [10] tt_ok mixed ?_ | intro _ | refine zG ?_);conv=>whnf) | (refine zX (fun hc => ?_) (fun hc => ?_)<;>(try simp only [SY] at hc)<;>first | omega | (conv=>whnf)))
        exact PRet.gen (y := .agg (Trm.mk 18 0 [] (refT t.n :: l)).cells) (Γ' := mkG b B k') TrmOf.wk ⟨rfl, rfl⟩
    · have hlm := lamD_c b B hB t hc (s2 (by omega)) hf hb k h0 hk
      rw [hA] at hlm
      refine PCall.go hlm (WkT.refl _) ?_
      rintro _ _ ⟨rfl, rfl⟩
      conv => whnf
      repeat' (first | ((first | ((first | (apply zY;intro hg) | apply zZ);first | exact stA | exact stB | ((conv=>whnf);(repeat ((first | (refine zW ?_ ?_;exact gA) | refine pC (refD_c _) wR ?_ | refine pC (refD_c _) cA ?_ | refine pC (boxD_c _) wR ?_ | refine zA ?_ | refine zH rfl ?_ | refine zB ?_ | (refine yE ?_ ?_ ?_ ?_;assumption;omega;omega) | (refine yF ?_ rfl ?_;omega) | intro _);conv=>whnf));first | exact pS | exact pL | exact pE)) | (refine zW ?_ ?_;exact gA) | refine zH rfl ?_ | refine zA ?_ | refine zI bA ?_ | refine zI rfl ?_ | refine zJ rfl rfl ?_ | refine zB ?_ | refine zK rfl ?_ | refine zL rfl ?_ | refine zC ?_ | (refine zO ?_ ?_ ?_;omega;omega) | (refine zP ?_ ?_ ?_;omega;omega) | refine zM rfl ?_ | (refine zQ ?_ ?_ ?_;omega;omega) | (refine zR ?_ ?_;omega) | (refine zI ?_ ?_;exact nA) | (refine zS ?_ ?_ ?_;omega;omega) | (refine zT ?_ ?_ ?_;omega;omega) | (refine zU ?_ ?_ ?_;omega;omega) | (refine zV ?_ ?_ ?_;omega;omega) | refine pC (refD_c _) wR ?_ | refine pC (refD_c _) cA ?_ | refine pC (boxD_c _) wR ?_ | (refine yA ?_ rfl ?_ ?_;assumption;exact lA) | (refine yB ?_ rfl ?_ ?_;assumption;exact lA) | (refine yC rfl ?_ ?_;exact lA) | (refine yD ?_ ?_ rfl ?_ ?_;assumption;assumption;exact lA) | (refine yE ?_ ?_ ?_ ?_;assumption;omega;omega) | (refine yF ?_ rfl ?_;omega) | (refine yG ?_ rfl rfl rfl ?_;omega) | refine n0 ?_ | refine zN rfl rfl rfl ?_ | refine zD ?_ | refine zE ?_ | refine zF ?_ | refine PDraw.sP (some 82) rfl [] [10] tt_ok mixed ?_ | intro _ | refine zG ?_);conv=>whnf) | (refine zX (fun hc => ?_) (fun hc => ?_)<;>(try simp only [SY] at hc)<;>first | omega | (conv=>whnf)))
      exact PRet.gen (y := .agg (t.cv A k).cells) (Γ' := mkG b B _) (Wk.refl _) (And.intro rfl rfl)
    · have hfx := fixD_c b B hB t hc (s3 (.inr hc)) (s4 hc) hf hb k h0 hk
      rw [hA] at hfx
      refine PCall.go hfx (WkT.refl _) ?_
      rintro _ _ ⟨rfl, rfl⟩
      conv => whnf
      repeat' (first | ((first | ((first | (apply zY;intro hg) | apply zZ);first | exact stA | exact stB | ((conv=>whnf);(repeat ((first | (refine zW ?_ ?_;exact gA) | refine pC (refD_c _) wR ?_ | refine pC (refD_c _) cA ?_ | refine pC (boxD_c _) wR ?_ | refine zA ?_ | refine zH rfl ?_ | refine zB ?_ | (refine yE ?_ ?_ ?_ ?_;assumption;omega;omega) | (refine yF ?_ rfl ?_;omega) | intro _);conv=>whnf));first | exact pS | exact pL | exact pE)) | (refine zW ?_ ?_;exact gA) | refine zH rfl ?_ | refine zA ?_ | refine zI bA ?_ | refine zI rfl ?_ | refine zJ rfl rfl ?_ | refine zB ?_ | refine zK rfl ?_ | refine zL rfl ?_ | refine zC ?_ | (refine zO ?_ ?_ ?_;omega;omega) | (refine zP ?_ ?_ ?_;omega;omega) | refine zM rfl ?_ | (refine zQ ?_ ?_ ?_;omega;omega) | (refine zR ?_ ?_;omega) | (refine zI ?_ ?_;exact nA) | (refine zS ?_ ?_ ?_;omega;omega) | (refine zT ?_ ?_ ?_;omega;omega) | (refine zU ?_ ?_ ?_;omega;omega) | (refine zV ?_ ?_ ?_;omega;omega) | refine pC (refD_c _) wR ?_ | refine pC (refD_c _) cA ?_ | refine pC (boxD_c _) wR ?_ | (refine yA ?_ rfl ?_ ?_;assumption;exact lA) | (refine yB ?_ rfl ?_ ?_;assumption;exact lA) | (refine yC rfl ?_ ?_;exact lA) | (refine yD ?_ ?_ rfl ?_ ?_;assumption;assumption;exact lA) | (refine yE ?_ ?_ ?_ ?_;assumption;omega;omega) | (refine yF ?_ rfl ?_;omega) | (refine yG ?_ rfl rfl rfl ?_;omega) | refine n0 ?_ | refine zN rfl rfl rfl ?_ | refine zD ?_ | refine zE ?_ | refine zF ?_ | refine PDraw.sP (some 82) rfl [] [10] tt_ok mixed ?_ | intro _ | refine zG ?_);conv=>whnf) | (refine zX (fun hc => ?_) (fun hc => ?_)<;>(try simp only [SY] at hc)<;>first | omega | (conv=>whnf)))
      exact PRet.gen (y := .agg (t.cv A k).cells) (Γ' := mkG b B _) (Wk.refl _) (And.intro rfl rfl)
    · have hcv2 : t.cv A k = Trm.mk t.op t.n t.v (if t.op = 8 then boxAll A t.v l else l) := by
        rw [hcv, if_neg (by omega), if_neg (by omega), if_neg (by omega), if_neg (by omega), if_neg (by omega)]
      have hfk : k + t.fr A = k' := by rw [hfr, if_neg (by omega)]; omega
      rw [hfk, hcv2]
      refine PDraw.sF (some 52) rfl [.box b [.int .i64 B.op, .int .i64 B.n, .sl 1 (B.v.map (PV.int .i64)) none, .sl 4 (B.t.map Trm.pv) none, .int .i64 k]] [9,10] [] [11] [12] tt_ok mixed ?_
      conv=>whnf
      repeat ((first | ((first | (apply zY;intro hg) | apply zZ);first | exact stA | exact stB | ((conv=>whnf);(repeat ((first | (refine zW ?_ ?_;exact gA) | refine pC (refD_c _) wR ?_ | refine pC (refD_c _) cA ?_ | refine pC (boxD_c _) wR ?_ | refine zA ?_ | refine zH rfl ?_ | refine zB ?_ | (refine yE ?_ ?_ ?_ ?_;assumption;omega;omega) | (refine yF ?_ rfl ?_;omega) | intro _);conv=>whnf));first | exact pS | exact pL | exact pE)) | (refine zW ?_ ?_;exact gA) | refine zH rfl ?_ | refine zA ?_ | refine zI bA ?_ | refine zI rfl ?_ | refine zJ rfl rfl ?_ | refine zB ?_ | refine zK rfl ?_ | refine zL rfl ?_ | refine zC ?_ | (refine zO ?_ ?_ ?_;omega;omega) | (refine zP ?_ ?_ ?_;omega;omega) | refine zM rfl ?_ | (refine zQ ?_ ?_ ?_;omega;omega) | (refine zR ?_ ?_;omega) | (refine zI ?_ ?_;exact nA) | (refine zS ?_ ?_ ?_;omega;omega) | (refine zT ?_ ?_ ?_;omega;omega) | (refine zU ?_ ?_ ?_;omega;omega) | (refine zV ?_ ?_ ?_;omega;omega) | refine pC (refD_c _) wR ?_ | refine pC (refD_c _) cA ?_ | refine pC (boxD_c _) wR ?_ | (refine yA ?_ rfl ?_ ?_;assumption;exact lA) | (refine yB ?_ rfl ?_ ?_;assumption;exact lA) | (refine yC rfl ?_ ?_;exact lA) | (refine yD ?_ ?_ rfl ?_ ?_;assumption;assumption;exact lA) | (refine yE ?_ ?_ ?_ ?_;assumption;omega;omega) | (refine yF ?_ rfl ?_;omega) | (refine yG ?_ rfl rfl rfl ?_;omega) | refine n0 ?_ | refine zN rfl rfl rfl ?_ | refine zD ?_ | refine zE ?_ | refine zF ?_ | refine PDraw.sP (some 82) rfl [] [10] tt_ok mixed ?_ | intro _);conv=>whnf)
      refine PCall.go hall (WkT.refl _) ?_
      rintro _ _ ⟨tk, hte, hts, rfl, rfl⟩
      conv => whnf
      repeat' (first | ((first | ((first | (apply zY;intro hg) | apply zZ);first | exact stA | exact stB | ((conv=>whnf);(repeat ((first | (refine zW ?_ ?_;exact gA) | refine pC (refD_c _) wR ?_ | refine pC (refD_c _) cA ?_ | refine pC (boxD_c _) wR ?_ | refine zA ?_ | refine zH rfl ?_ | refine zB ?_ | (refine yE ?_ ?_ ?_ ?_;assumption;omega;omega) | (refine yF ?_ rfl ?_;omega) | intro _);conv=>whnf));first | exact pS | exact pL | exact pE)) | (refine zW ?_ ?_;exact gA) | refine zH rfl ?_ | refine zA ?_ | refine zI bA ?_ | refine zI rfl ?_ | refine zJ rfl rfl ?_ | refine zB ?_ | refine zK rfl ?_ | refine zL rfl ?_ | refine zC ?_ | (refine zO ?_ ?_ ?_;omega;omega) | (refine zP ?_ ?_ ?_;omega;omega) | refine zM rfl ?_ | (refine zQ ?_ ?_ ?_;omega;omega) | (refine zR ?_ ?_;omega) | (refine zI ?_ ?_;exact nA) | (refine zS ?_ ?_ ?_;omega;omega) | (refine zT ?_ ?_ ?_;omega;omega) | (refine zU ?_ ?_ ?_;omega;omega) | (refine zV ?_ ?_ ?_;omega;omega) | refine pC (refD_c _) wR ?_ | refine pC (refD_c _) cA ?_ | refine pC (boxD_c _) wR ?_ | (refine yA ?_ rfl ?_ ?_;assumption;exact lA) | (refine yB ?_ rfl ?_ ?_;assumption;exact lA) | (refine yC rfl ?_ ?_;exact lA) | (refine yD ?_ ?_ rfl ?_ ?_;assumption;assumption;exact lA) | (refine yE ?_ ?_ ?_ ?_;assumption;omega;omega) | (refine yF ?_ rfl ?_;omega) | (refine yG ?_ rfl rfl rfl ?_;omega) | refine n0 ?_ | refine zN rfl rfl rfl ?_ | refine zD ?_ | refine zE ?_ | refine zF ?_ | refine PDraw.sP (some 82) rfl [] [10] tt_ok mixed ?_ | intro _ | refine zG ?_);conv=>whnf) | (refine zX (fun hc => ?_) (fun hc => ?_)<;>(try simp only [SY] at hc)<;>first | omega | (conv=>whnf)))
      rename_i b6
      generalize hM : boxAll A t.v l = M
      have hMl : M.length = l.length := by rw [← hM, boxAll_len]
      have hnz : ∀ i : Nat, (M.take i ++ l.drop i).length = l.length := fun i => by rw [List.length_append, List.length_take, List.length_drop]; omega
      rw [show l.map Trm.pv = (M.take 0 ++ l.drop 0).map Trm.pv by rw [List.take_zero, List.nil_append, List.drop_zero]]
      refine PLoop.over [6, 63, 64, 65, 66, 67, 68, 69, 70, 71, 72, 73, 74, 75, 76, 77, 78, 79, 80, 81, 82, 83, 84, 85, 86, 87, 88, 89, 90, 91] (fun i : Nat => [(6, .int .i64 i)])
        (fun i : Nat => [.box b6 [.int .i64 t.op, .int .i64 t.n, .sl 1 (t.v.map (PV.int .i64)) none, .ms tk], .row tk ((M.take i ++ l.drop i).map Trm.pv), .box b [.int .i64 B.op, .int .i64 B.n, .sl 1 (B.v.map (PV.int .i64)) none, .sl 4 (B.t.map Trm.pv) none, .int .i64 k'], .box b2 [.int .i64 0, .int .i64 0, .nil, .nil], .box b1 [.int .i64 t.op, .int .i64 t.n, .sl 1 (t.v.map (PV.int .i64)) none, .sl 4 (t.t.map Trm.pv) none]])
        (fun i => i ≤ t.v.length ∧ (t.op ≠ 8 → i = 0)) (fun i => t.v.length - i) 0 ⟨Nat.zero_le _, fun _ => rfl⟩ wA ?_
      rintro i ⟨hi, hi8⟩
      have hmix := hnz i
      have hAs2 := fun v => assigned_d b B hB k' v
      rw [hA] at hAs2
      conv => whnf
      repeat' (first | ((first | ((first | (apply zY;intro hg) | apply zZ);first | exact stA | exact stB | ((conv=>whnf);(repeat ((first | (refine zW ?_ ?_;exact gA) | refine pC (boxD_c _) wR ?_ | refine PCall.read (hAs2 _) wR ?_ | refine zA ?_ | refine zH rfl ?_ | refine zB ?_ | (refine yE ?_ ?_ ?_ ?_;assumption;omega;omega) | (refine yF ?_ rfl ?_;omega) | intro _);conv=>whnf));first | exact pS | exact pL | exact pE)) | (refine zW ?_ ?_;exact gA) | refine zH rfl ?_ | refine zA ?_ | refine zI bA ?_ | refine zI rfl ?_ | refine zJ rfl rfl ?_ | refine zB ?_ | refine zK rfl ?_ | refine zL rfl ?_ | refine zC ?_ | (refine zO ?_ ?_ ?_;omega;omega) | (refine zP ?_ ?_ ?_;omega;omega) | refine zM rfl ?_ | (refine zQ ?_ ?_ ?_;omega;omega) | (refine zR ?_ ?_;omega) | (refine zI ?_ ?_;exact nA) | (refine zS ?_ ?_ ?_;omega;omega) | (refine zT ?_ ?_ ?_;omega;omega) | (refine zU ?_ ?_ ?_;omega;omega) | (refine zV ?_ ?_ ?_;omega;omega) | refine pC (boxD_c _) wR ?_ | refine PCall.read (hAs2 _) wR ?_ | (refine yA ?_ rfl ?_ ?_;assumption;exact lA) | (refine yB ?_ rfl ?_ ?_;assumption;exact lA) | (refine yC rfl ?_ ?_;exact lA) | (refine yD ?_ ?_ rfl ?_ ?_;assumption;assumption;exact lA) | (refine yE ?_ ?_ ?_ ?_;assumption;omega;omega) | (refine yF ?_ rfl ?_;omega) | (refine yG ?_ rfl rfl rfl ?_;omega) | refine n0 ?_ | refine zN rfl rfl rfl ?_ | refine zD ?_ | refine zE ?_ | refine zF ?_ | refine PDraw.sP (some 82) rfl [] [10] tt_ok mixed ?_ | intro _ | refine zG ?_);conv=>whnf) | (refine zX (fun hc => ?_) (fun hc => ?_)<;>(try simp only [SY] at hc)<;>first | omega | (conv=>whnf)))
      · have hiv : i < t.v.length := by omega
        have hil : i < l.length := by have := s3 (by omega); omega
        have e3 : (M.take i ++ l.drop i)[i]'(by omega) = l[i] := by
          rw [List.getElem_append_right (by rw [List.length_take]; omega)]
          simp [List.getElem_drop, List.length_take, Nat.min_eq_left (show i ≤ M.length by omega)]
        have e4 : M[i]'(by omega) = boxT l[i] := by
          have := boxAll_get A t.v l i hiv hil
          rw [if_pos hc] at this
          subst hM
          exact this
        rw [e3, mixed_set hMl hil _ e4.symm]
        exact loopTo (i + 1) ⟨by show i + 1 ≤ _; omega, fun h => absurd (by omega) h⟩ (by show t.v.length - (i + 1) < t.v.length - i; omega) wA
      · have hiv : i < t.v.length := by omega
        have hil : i < l.length := by have := s3 (by omega); omega
        have e4 : M[i]'(by omega) = l[i] := by
          have := boxAll_get A t.v l i hiv hil
          rw [if_neg (by rw [hc]; decide)] at this
          subst hM
          exact this
        have e5 : M.take i ++ l.drop i = M.take (i + 1) ++ l.drop (i + 1) := by
          rw [← mixed_set hMl hil _ e4.symm]
          apply List.ext_getElem (by simp)
          intro j h1 h2
          rw [List.getElem_set]
          split
          · rename_i hj
            subst hj
            rw [List.getElem_append_right (by rw [List.length_take]; omega)]
            simp [List.getElem_drop, List.length_take, Nat.min_eq_left (show i ≤ M.length by omega)]
          · rfl
        rw [e5]
        exact loopTo (i + 1) ⟨by show i + 1 ≤ _; omega, fun h => absurd (by omega) h⟩ (by show t.v.length - (i + 1) < t.v.length - i; omega) wA
      · have e5 : M.take i ++ l.drop i = if t.op = 8 then M else l := by
          by_cases h8 : t.op = 8
          · have : i = t.v.length := by omega
            rw [if_pos h8, this, ← boxAll_drop A t.v l, hM, List.take_append_drop]
          · rw [if_neg h8, hi8 h8, List.take_zero, List.nil_append, List.drop_zero]
        rw [e5]
        exact PRet.frz (es := (if t.op = 8 then M else l).map Trm.pv) (y := .agg (Trm.mk t.op t.n t.v (if t.op = 8 then M else l)).cells) (Γ' := mkG b B k') (WkF.agg (.cons (WkF.of (Wk.refl _)) (.cons (WkF.of (Wk.refl _)) (.cons (WkF.of (Wk.refl _)) (.cons (WkF.ms' hts) .nil))))) (And.intro rfl rfl)
end Go.Cb
namespace Go.Cb
open Go.Proofs
set_option maxRecDepth 100000
set_option maxHeartbeats 4000000
theorem convD_c (p : Prog) (hb : p.body.bulk ≤ 100000000) (hl : p.consts.length ≤ 1000000000) :
    ACallP Tryz.prog 27 [.agg p.cells] (.tup [.agg (conv10 p).1.cells, .int .i64 (conv10 p).2]) := by
  have he := check_eq p 1
  have hR : checkP p 1 = 0 → RightP p 1 := fun h => (checkD_right p 1).1 (by rw [← he]; exact h)
  have hck := check2_c p 1 (by omega) (by omega)
  rw [← he] at hck
  refine ACall.of_body tt_ok Tryz.func27 rfl rfl (n := 29) rfl rfl ?_
  conv => whnf
  repeat ((first | ((first | (apply zY;intro hg) | apply zZ);first | exact stA | exact stB | ((conv=>whnf);(repeat ((first | (refine zW ?_ ?_;exact gA) | refine pC (hck) wR ?_ | intro _);conv=>whnf));first | exact pS | exact pL | exact pE)) | (refine zW ?_ ?_;exact gA) | refine zH rfl ?_ | refine zA ?_ | refine zI bA ?_ | refine zI rfl ?_ | refine zJ rfl rfl ?_ | refine zB ?_ | refine zK rfl ?_ | refine zL rfl ?_ | refine zC ?_ | (refine zO ?_ ?_ ?_;omega;omega) | (refine zP ?_ ?_ ?_;omega;omega) | refine zM rfl ?_ | (refine zQ ?_ ?_ ?_;omega;omega) | (refine zR ?_ ?_;omega) | (refine zI ?_ ?_;exact nA) | (refine zS ?_ ?_ ?_;omega;omega) | (refine zT ?_ ?_ ?_;omega;omega) | (refine zU ?_ ?_ ?_;omega;omega) | (refine zV ?_ ?_ ?_;omega;omega) | refine pC (hck) wR ?_ | (refine yA ?_ rfl ?_ ?_;assumption;exact lA) | (refine yB ?_ rfl ?_ ?_;assumption;exact lA) | (refine yC rfl ?_ ?_;exact lA) | refine n0 ?_ | refine zN rfl rfl rfl ?_ | refine zD ?_ | refine zE ?_ | refine zF ?_ | refine PDraw.sP (some 10) rfl [] [6,7] tt_ok mixed ?_ | intro _);conv=>whnf)
  conv => whnf
  repeat' (first | ((first | ((first | (apply zY;intro hg) | apply zZ);first | exact stA | exact stB | ((conv=>whnf);(repeat ((first | (refine zW ?_ ?_;exact gA) | refine pC (hck) wR ?_ | intro _);conv=>whnf));first | exact pS | exact pL | exact pE)) | (refine zW ?_ ?_;exact gA) | refine zH rfl ?_ | refine zA ?_ | refine zI bA ?_ | refine zI rfl ?_ | refine zJ rfl rfl ?_ | refine zB ?_ | refine zK rfl ?_ | refine zL rfl ?_ | refine zC ?_ | (refine zO ?_ ?_ ?_;omega;omega) | (refine zP ?_ ?_ ?_;omega;omega) | refine zM rfl ?_ | (refine zQ ?_ ?_ ?_;omega;omega) | (refine zR ?_ ?_;omega) | (refine zI ?_ ?_;exact nA) | (refine zS ?_ ?_ ?_;omega;omega) | (refine zT ?_ ?_ ?_;omega;omega) | (refine zU ?_ ?_ ?_;omega;omega) | (refine zV ?_ ?_ ?_;omega;omega) | refine pC (hck) wR ?_ | (refine yA ?_ rfl ?_ ?_;assumption;exact lA) | (refine yB ?_ rfl ?_ ?_;assumption;exact lA) | (refine yC rfl ?_ ?_;exact lA) | refine n0 ?_ | refine zN rfl rfl rfl ?_ | refine zD ?_ | refine zE ?_ | refine zF ?_ | refine PDraw.sP (some 10) rfl [] [6,7] tt_ok mixed ?_ | intro _ | refine zG ?_);conv=>whnf) | (refine zX (fun hc => ?_) (fun hc => ?_)<;>(try simp only [SY] at hc)<;>first | omega | (conv=>whnf)))
  · rename_i hc
    exact PRet.pure (Wk.tup (.cons (by rw [conv10, if_neg hc]; exact noP_wk) (.cons (by rw [conv10, if_neg hc]; exact Wk.refl _) .nil)))
  · obtain ⟨hshp, hdep, hvr⟩ := (hR hc).fits
    have hnx := next_d p.body (by omega) (by omega) hvr
    have hn0 : 0 ≤ nextT p.body ∧ nextT p.body ≤ 1000001 := by
      unfold nextT
      split
      · omega
      · rename_i h0
        have hlt : (bndL p.body).length - 1 < (bndL p.body).length := by have := List.length_pos_iff.2 h0; omega
        have e : (bndL p.body).getD ((bndL p.body).length - 1) 0 = (bndL p.body)[(bndL p.body).length - 1] := by simp [List.getD, hlt]
        have := hvr _ ((bndL_mem _ _).1 (List.getElem_mem hlt))
        rw [e]
        omega
    obtain ⟨hn0, hn1⟩ := hn0
    have hcn : conv10 p = if checkP ⟨p.consts, p.body.cv (asgB p.body) (nextT p.body)⟩ 2 = 0 then (⟨p.consts, p.body.cv (asgB p.body) (nextT p.body)⟩, 0) else (noP, 5) := by rw [conv10, if_pos hc]; rfl
    have hcb : (p.body.cv (asgB p.body) (nextT p.body)).bulk ≤ 1000000000 := by have := p.body.cv_bulk (asgB p.body) (nextT p.body); omega
    have hcv : p.body.cv (setsB p.body) (nextT p.body) = p.body.cv (asgB p.body) (nextT p.body) := Trm.cv_congr _ _ fun v _ => by
      have := p.body.uS_pos v 0 (by omega)
      rw [Bool.eq_iff_iff]
      simp only [setsB, asgB, decide_eq_true_eq, this, List.contains_iff_mem]
    conv => whnf
    repeat' (first | ((first | ((first | (apply zY;intro hg) | apply zZ);first | exact stA | exact stB | ((conv=>whnf);(repeat ((first | (refine zW ?_ ?_;exact gA) | refine pC (hnx) wR ?_ | intro _);conv=>whnf));first | exact pS | exact pL | exact pE)) | (refine zW ?_ ?_;exact gA) | refine zH rfl ?_ | refine zA ?_ | refine zI bA ?_ | refine zI rfl ?_ | refine zJ rfl rfl ?_ | refine zB ?_ | refine zK rfl ?_ | refine zL rfl ?_ | refine zC ?_ | (refine zO ?_ ?_ ?_;omega;omega) | (refine zP ?_ ?_ ?_;omega;omega) | refine zM rfl ?_ | (refine zQ ?_ ?_ ?_;omega;omega) | (refine zR ?_ ?_;omega) | (refine zI ?_ ?_;exact nA) | (refine zS ?_ ?_ ?_;omega;omega) | (refine zT ?_ ?_ ?_;omega;omega) | (refine zU ?_ ?_ ?_;omega;omega) | (refine zV ?_ ?_ ?_;omega;omega) | refine pC (hnx) wR ?_ | (refine yA ?_ rfl ?_ ?_;assumption;exact lA) | (refine yB ?_ rfl ?_ ?_;assumption;exact lA) | (refine yC rfl ?_ ?_;exact lA) | refine n0 ?_ | refine zN rfl rfl rfl ?_ | refine zD ?_ | refine zE ?_ | refine zF ?_ | refine PDraw.sP (some 10) rfl [] [6,7] tt_ok mixed ?_ | intro _ | refine zG ?_);conv=>whnf) | (refine zX (fun hc => ?_) (fun hc => ?_)<;>(try simp only [SY] at hc)<;>first | omega | (conv=>whnf)))
    rename_i bm
    have hmk := fun b => mkOk b p.body (by omega) p.body hshp (by omega) (nextT p.body) hn0 (by omega)
    refine PDraw.sF (some 17) rfl [.box bm [.int .i64 p.body.op, .int .i64 p.body.n, .sl 1 (p.body.v.map (PV.int .i64)) none, .sl 4 (p.body.t.map Trm.pv) none, .int .i64 (nextT p.body)]] [5,6] [] [7] [8] tt_ok mixed ?_
    conv=>whnf
    repeat ((first | ((first | (apply zY;intro hg) | apply zZ);first | exact stA | exact stB | ((conv=>whnf);(repeat ((first | (refine zW ?_ ?_;exact gA) | refine pC (hnx) wR ?_ | intro _);conv=>whnf));first | exact pS | exact pL | exact pE)) | (refine zW ?_ ?_;exact gA) | refine zH rfl ?_ | refine zA ?_ | refine zI bA ?_ | refine zI rfl ?_ | refine zJ rfl rfl ?_ | refine zB ?_ | refine zK rfl ?_ | refine zL rfl ?_ | refine zC ?_ | (refine zO ?_ ?_ ?_;omega;omega) | (refine zP ?_ ?_ ?_;omega;omega) | refine zM rfl ?_ | (refine zQ ?_ ?_ ?_;omega;omega) | (refine zR ?_ ?_;omega) | (refine zI ?_ ?_;exact nA) | (refine zS ?_ ?_ ?_;omega;omega) | (refine zT ?_ ?_ ?_;omega;omega) | (refine zU ?_ ?_ ?_;omega;omega) | (refine zV ?_ ?_ ?_;omega;omega) | refine pC (hnx) wR ?_ | (refine yA ?_ rfl ?_ ?_;assumption;exact lA) | (refine yB ?_ rfl ?_ ?_;assumption;exact lA) | (refine yC rfl ?_ ?_;exact lA) | refine n0 ?_ | refine zN rfl rfl rfl ?_ | refine zD ?_ | refine zE ?_ | refine zF ?_ | refine PDraw.sP (some 10) rfl [] [6,7] tt_ok mixed ?_ | intro _);conv=>whnf)
    refine PCall.go (hmk _) (WkT.refl _) ?_
    rintro _ _ ⟨rfl, rfl⟩
    rw [hcv]
    have hck2 := check2_c ⟨p.consts, p.body.cv (asgB p.body) (nextT p.body)⟩ 2 hcb hl
    rw [← check_eq] at hck2
    conv => whnf
    repeat' (first | ((first | ((first | (apply zY;intro hg) | apply zZ);first | exact stA | exact stB | ((conv=>whnf);(repeat ((first | (refine zW ?_ ?_;exact gA) | refine pC (hck2) wR ?_ | intro _);conv=>whnf));first | exact pS | exact pL | exact pE)) | (refine zW ?_ ?_;exact gA) | refine zH rfl ?_ | refine zA ?_ | refine zI bA ?_ | refine zI rfl ?_ | refine zJ rfl rfl ?_ | refine zB ?_ | refine zK rfl ?_ | refine zL rfl ?_ | refine zC ?_ | (refine zO ?_ ?_ ?_;omega;omega) | (refine zP ?_ ?_ ?_;omega;omega) | refine zM rfl ?_ | (refine zQ ?_ ?_ ?_;omega;omega) | (refine zR ?_ ?_;omega) | (refine zI ?_ ?_;exact nA) | (refine zS ?_ ?_ ?_;omega;omega) | (refine zT ?_ ?_ ?_;omega;omega) | (refine zU ?_ ?_ ?_;omega;omega) | (refine zV ?_ ?_ ?_;omega;omega) | refine pC (hck2) wR ?_ | (refine yA ?_ rfl ?_ ?_;assumption;exact lA) | (refine yB ?_ rfl ?_ ?_;assumption;exact lA) | (refine yC rfl ?_ ?_;exact lA) | refine n0 ?_ | refine zN rfl rfl rfl ?_ | refine zD ?_ | refine zE ?_ | refine zF ?_ | refine PDraw.sP (some 10) rfl [] [6,7] tt_ok mixed ?_ | intro _ | refine zG ?_);conv=>whnf) | (refine zX (fun hc => ?_) (fun hc => ?_)<;>(try simp only [SY] at hc)<;>first | omega | (conv=>whnf)))
    · exact PRet.pure (Wk.tup (.cons (by rw [hcn, if_neg hc]; exact noP_wk) (.cons (by rw [hcn, if_neg hc]; exact Wk.refl _) .nil)))
    · exact PRet.pure (Wk.tup (.cons (by rw [hcn, if_pos hc]; exact Wk.refl _) (.cons (by rw [hcn, if_pos hc]; exact Wk.refl _) .nil)))
theorem assignConverts_c (p : Prog) (hbb : Datum.bulks p.consts + p.body.bulk ≤ 1048576) : ACallP Tryz.prog 5 [.agg p.cells] (.bool true) := by
  have hlen := Datum.bulks_length p.consts
  refine ACall.of_body tt_ok Tryz.func5 rfl rfl (n := 41) rfl rfl ?_
  conv => whnf
  repeat ((first | ((first | (apply zY;intro hg) | apply zZ);first | exact stA | exact stB | ((conv=>whnf);(repeat ((first | (refine zW ?_ ?_;exact gA) | refine pC (awake10_c) wR ?_ | refine pC (few10_c p.body 300 (by omega) (by omega)) wR ?_ | refine pC (FewAll_c p.consts 2000 (by omega) (by omega)) wR ?_ | refine pC (conv_c p (by omega) (by omega)) wR ?_ | refine pC (convD_c p (by omega) (by omega)) wR ?_ | refine pC (same_c (conv10 p).1 (conv10 p).1) wR ?_ | intro _);conv=>whnf));first | exact pS | exact pL | exact pE)) | (refine zW ?_ ?_;exact gA) | refine zH rfl ?_ | refine zA ?_ | refine zI bA ?_ | refine zI rfl ?_ | refine zJ rfl rfl ?_ | refine zB ?_ | refine zK rfl ?_ | refine zL rfl ?_ | refine zC ?_ | (refine zO ?_ ?_ ?_;omega;omega) | (refine zP ?_ ?_ ?_;omega;omega) | refine zM rfl ?_ | (refine zQ ?_ ?_ ?_;omega;omega) | (refine zR ?_ ?_;omega) | (refine zI ?_ ?_;exact nA) | (refine zS ?_ ?_ ?_;omega;omega) | (refine zT ?_ ?_ ?_;omega;omega) | (refine zU ?_ ?_ ?_;omega;omega) | (refine zV ?_ ?_ ?_;omega;omega) | refine pC (awake10_c) wR ?_ | refine pC (few10_c p.body 300 (by omega) (by omega)) wR ?_ | refine pC (FewAll_c p.consts 2000 (by omega) (by omega)) wR ?_ | refine pC (conv_c p (by omega) (by omega)) wR ?_ | refine pC (convD_c p (by omega) (by omega)) wR ?_ | refine pC (same_c (conv10 p).1 (conv10 p).1) wR ?_ | (refine yA ?_ rfl ?_ ?_;assumption;exact lA) | (refine yB ?_ rfl ?_ ?_;assumption;exact lA) | (refine yC rfl ?_ ?_;exact lA) | refine n0 ?_ | refine zN rfl rfl rfl ?_ | refine zD ?_ | refine zE ?_ | refine zF ?_ | intro _);conv=>whnf)
  conv => whnf
  repeat' (first | ((first | ((first | (apply zY;intro hg) | apply zZ);first | exact stA | exact stB | ((conv=>whnf);(repeat ((first | (refine zW ?_ ?_;exact gA) | refine pC (awake10_c) wR ?_ | refine pC (few10_c p.body 300 (by omega) (by omega)) wR ?_ | refine pC (FewAll_c p.consts 2000 (by omega) (by omega)) wR ?_ | refine pC (conv_c p (by omega) (by omega)) wR ?_ | refine pC (convD_c p (by omega) (by omega)) wR ?_ | refine pC (same_c (conv10 p).1 (conv10 p).1) wR ?_ | intro _);conv=>whnf));first | exact pS | exact pL | exact pE)) | (refine zW ?_ ?_;exact gA) | refine zH rfl ?_ | refine zA ?_ | refine zI bA ?_ | refine zI rfl ?_ | refine zJ rfl rfl ?_ | refine zB ?_ | refine zK rfl ?_ | refine zL rfl ?_ | refine zC ?_ | (refine zO ?_ ?_ ?_;omega;omega) | (refine zP ?_ ?_ ?_;omega;omega) | refine zM rfl ?_ | (refine zQ ?_ ?_ ?_;omega;omega) | (refine zR ?_ ?_;omega) | (refine zI ?_ ?_;exact nA) | (refine zS ?_ ?_ ?_;omega;omega) | (refine zT ?_ ?_ ?_;omega;omega) | (refine zU ?_ ?_ ?_;omega;omega) | (refine zV ?_ ?_ ?_;omega;omega) | refine pC (awake10_c) wR ?_ | refine pC (few10_c p.body 300 (by omega) (by omega)) wR ?_ | refine pC (FewAll_c p.consts 2000 (by omega) (by omega)) wR ?_ | refine pC (conv_c p (by omega) (by omega)) wR ?_ | refine pC (convD_c p (by omega) (by omega)) wR ?_ | refine pC (same_c (conv10 p).1 (conv10 p).1) wR ?_ | (refine yA ?_ rfl ?_ ?_;assumption;exact lA) | (refine yB ?_ rfl ?_ ?_;assumption;exact lA) | (refine yC rfl ?_ ?_;exact lA) | refine n0 ?_ | refine zN rfl rfl rfl ?_ | refine zD ?_ | refine zE ?_ | refine zF ?_ | intro _ | refine zG ?_);conv=>whnf) | (refine zX (fun hc => ?_) (fun hc => ?_)<;>(try simp only [SY] at hc)<;>first | omega | (conv=>whnf)))
  · exact PRet.pure (Wk.refl _)
  · exact PRet.pure (Wk.bool (by simp [Prog.same_self]))
end Go.Cb
namespace Go.Cb
open Go.RowKit (Below)
open Go.ChangeShapes
def Fz.of (w : World) : Fz := fun b o => w.cell? ⟨b, o, none⟩
theorem Sim.start (w : World) : Sim w (Fz.of w) [] w := ⟨Below.refl _ w, fun _ _ _ h => h, by simp, .nil⟩
theorem choose_list {α : Type} {p : Nat → α → Prop} : ∀ {n : Nat}, (∀ i, i < n → ∃ a, p i a) → ∃ l : List α, l.length = n ∧ ∀ i a, l[i]? = some a → p i a
  | 0, _ => ⟨[], rfl, by simp⟩
  | n + 1, h => by
    obtain ⟨l, h1, h2⟩ := choose_list (n := n) fun i hi => h i (by omega)
    obtain ⟨a, ha⟩ := h n (by omega)
    refine ⟨l ++ [a], by simp [h1], fun i b hb => ?_⟩
    by_cases hi : i < l.length
    · rw [List.getElem?_append_left hi] at hb; exact h2 i b hb
    · rw [List.getElem?_append_right (by omega)] at hb
      have h0 : i - l.length = 0 := by
        rcases Nat.eq_zero_or_pos (i - l.length) with h | h
        · exact h
        · rw [List.getElem?_eq_none (by simp; omega)] at hb; cases hb
      rw [h0] at hb
      simp at hb
      obtain rfl : i = n := by omega
      rwa [← hb]
section
variable {H : Type} {enc : TypeId × Value → H} {P : Program} {w : World} {UB : DataW H → Nat} {UBs : List (DataW H) → Nat}
structure Bulk (UB : DataW H → Nat) (UBs : List (DataW H) → Nat) : Prop where
  nil : UBs [] = 0
  cons : ∀ x l, UBs (x :: l) = UB x + UBs l
  agg : ∀ l, 1 + UBs l ≤ UB (.agg l)
  slice : ∀ l m, 1 + UBs l ≤ UB (.slice l m)
  str : ∀ s, s.length + 1 ≤ UB (.lit (.string s))
  pos : ∀ d, 1 ≤ UB d
def Rd {α : Type} (enc : TypeId × Value → H) (P : Program) (w : World) (UB : DataW H → Nat) (n : Nat) (t : TypeId) (cells : α → List PV) (bk : α → Nat) : Prop :=
  ∀ cs x, DataW.trod enc P w 0 (fun _ => true) true n t cs = some x → ∃ a : α, RepL (Fz.of w) (cells a) cs ∧ bk a ≤ UB x.1
theorem rd_int (hB : Bulk UB UBs) {t : TypeId} {k : IntKind} (ht : P.underlying t = some (.int k)) (n : Nat) : Rd enc P w UB n t (fun n : Int => [.int k n]) fun _ => 1 := by
  intro cs x h
  obtain ⟨m, rfl, rfl, _⟩ := DataW.trod_int ht h
  exact ⟨m, by simp only [RepL, Rep, and_true]; exact rfl, hB.pos _⟩
theorem rd_str (hB : Bulk UB UBs) {t : TypeId} (ht : P.underlying t = some .string) (n : Nat) : Rd enc P w UB n t (fun s : List UInt8 => [.str s]) fun s => s.length := by
  intro cs x h
  obtain ⟨s, rfl, rfl, hs⟩ := DataW.trod_string ht h
  refine ⟨s.data.toList, ?_, by have := hB.str s.data.toList; show s.data.toList.length ≤ UB (.lit (.string s.data.toList)); omega⟩
  have : s.data.toList.length ≤ 9223372036854775807 := by
    have h1 : s.data.toList.length = s.size := Array.length_toList
    have h2 : maxLen ≤ 9223372036854775807 := by simp only [maxLen]; omega
    omega
  exact RepL_cons.2 ⟨⟨rfl, by unfold Rep; exact ⟨rfl, this⟩⟩, RepL_nil _⟩
theorem rep_row {α : Type} {pv : α → PV} {cells : α → List PV} [c : CellsOf pv cells] {s b o : Nat} (hs : ∀ a, (cells a).length = s) : ∀ (l : List α) (i : Nat),
    (∀ j a, l[j]? = some a → ∃ cs, w.cells? 0 ((⟨b, o, none⟩ : Addr).add ((i + j) * s)) s = some cs ∧ RepL (Fz.of w) (cells a) cs) → RepRow (Fz.of w) s b (o + i * s) (l.map pv)
  | [], _, _ => by simp [RepRow]
  | a :: l, i, h => by
    rw [List.map_cons, RepRow_cons]
    obtain ⟨cs, h1, h2⟩ := h 0 a rfl
    obtain ⟨_, h3, h4⟩ := World.cells?_some h1
    refine ⟨⟨by rw [c.eq]; exact hs a, ?_⟩, ?_⟩
    · rw [c.eq, RepCells_iff]
      refine ⟨cs, h2, fun j u hu => ?_⟩
      have hj : j < cs.length := by
        rcases Nat.lt_or_ge j cs.length with h | h
        · exact h
        · rw [List.getElem?_eq_none h] at hu; cases hu
      have := h4 j (by omega)
      rw [hu, Addr.add_lit, Addr.add_lit] at this
      simpa [Fz.of] using this
    · have := rep_row (pv := pv) hs l (i + 1) fun j a ha => by
        have := h (j + 1) a (by simpa using ha)
        rwa [show i + (j + 1) = i + 1 + j by omega] at this
      rwa [show o + (i + 1) * s = o + i * s + s by rw [Nat.succ_mul]; omega] at this
def sumBk {α : Type} (bk : α → Nat) : List α → Nat
  | [] => 0
  | a :: l => bk a + sumBk bk l
theorem sumBk_le (hB : Bulk UB UBs) {α : Type} {bk : α → Nat} : ∀ (l : List α) (ds : List (DataW H)), l.length ≤ ds.length → (∀ (i : Nat) (a : α) (d : DataW H), l[i]? = some a → ds[i]? = some d → bk a ≤ UB d) → sumBk bk l ≤ UBs ds
  | [], _, _, _ => by simp [sumBk]
  | a :: l, [], h, _ => by simp at h
  | a :: l, d :: ds, h, k => by
    rw [sumBk, hB.cons]
    have h1 := k 0 a d rfl rfl
    have h2 := sumBk_le hB l ds (by simpa using h) fun i a d ha hd => k (i + 1) a d (by simpa using ha) (by simpa using hd)
    omega
theorem rd_slice (hB : Bulk UB UBs) {n : Nat} {t e : TypeId} (ht : P.underlying t = some (.slice e)) {s : Nat} (hs : P.cellsOf e = s) (hp : 0 < s) {α : Type} {pv : α → PV} {cells : α → List PV} [c : CellsOf pv cells] {bk : α → Nat}
    (hc : ∀ a, (cells a).length = s) (he : ∀ m, m < n → Rd enc P w UB m e cells bk) : Rd enc P w UB n t (fun l : List α => [.sl s (l.map pv) none]) fun l => 1 + sumBk bk l := by
  intro cs x h
  rcases DataW.trod_slice ht h with ⟨rfl, rfl⟩ | ⟨a, len, cap, elems, rest, m, rfl, rfl, rfl, _, hlc, hcm, hel, hx, hr, _⟩
  · refine ⟨[], ?_, by have := hB.pos (DataW.nil : DataW H); simpa [sumBk] using this⟩
    exact RepL_cons.2 ⟨⟨rfl, by unfold Rep; exact ⟨by simp, .inl ⟨rfl, rfl⟩⟩⟩, RepL_nil _⟩
  · have hx' : ∀ i, i < len → ∃ a' : α, ∃ cs d, elems[i]? = some d ∧ w.cells? 0 (a.add (i * s)) s = some cs ∧ RepL (Fz.of w) (cells a') cs ∧ bk a' ≤ UB d.1 := by
      intro i hi
      have h1 := hx i hi
      have h2 : elems[i]? = some elems[i] := List.getElem?_eq_getElem (by omega)
      rw [h2, hs] at h1
      obtain ⟨cs, h3, h4⟩ := Option.bind_eq_some_iff.1 h1
      obtain ⟨a', h5, h6⟩ := he m (by omega) cs _ h4
      exact ⟨a', cs, _, h2, h3, h5, h6⟩
    obtain ⟨l, hl, hl2⟩ := choose_list hx'
    have hcount : 1 + sumBk bk l ≤ UB (.slice (elems.map (·.1)) (rest.map (·.1))) := by
      have := sumBk_le hB (bk := bk) l (elems.map (·.1)) (by simp; omega) (by
        intro i a' d ha hd
        obtain ⟨_, d', h2, _, _, h5⟩ := hl2 i a' ha
        rw [List.getElem?_map, h2] at hd
        simp at hd
        rw [← hd]; exact h5)
      have := hB.slice (elems.map (·.1)) (rest.map (·.1))
      omega
    refine ⟨l, ?_, hcount⟩
    refine RepL_cons.2 ⟨⟨rfl, ?_⟩, RepL_nil _⟩
    unfold Rep
    refine ⟨fun t ht => (by cases ht), ?_⟩
    by_cases h0 : cap = 0
    · subst h0
      obtain rfl : len = 0 := by omega
      have : l = [] := List.eq_nil_of_length_eq_zero hl
      subst this
      exact .inr (.inr ⟨rfl, a, rfl⟩)
    ·
      have hsp : a.spot = none := by
        have h1 : ∃ cs, w.cells? 0 a s = some cs := by
          by_cases h2 : 0 < len
          · obtain ⟨_, cs, _, _, h3, _⟩ := hx' 0 h2
            exact ⟨cs, by simpa [Addr.add] using h3⟩
          · obtain ⟨h3, h4⟩ := hr rfl
            have h5 := h4 0 (by omega)
            have h6 : rest[0]? = some (rest[0]'(by omega)) := List.getElem?_eq_getElem (by omega)
            rw [h6, hs] at h5
            obtain ⟨cs, h7, _⟩ := Option.bind_eq_some_iff.1 h5
            have : len = 0 := by omega
            subst this
            exact ⟨cs, by simpa [Addr.add] using h7⟩
        obtain ⟨cs, h1⟩ := h1
        obtain ⟨_, h3, h4⟩ := World.cells?_some h1
        have h5 := h4 0 hp
        have h6 : cs[0]? = some (cs[0]'(by omega)) := List.getElem?_eq_getElem (by omega)
        rw [h6] at h5
        simp only [Addr.add, if_true, World.cell?] at h5
        split at h5
        · split at h5
          · cases h5
          · rename_i hn; simpa using hn
        · cases h5
      obtain ⟨b, o, sp⟩ := a
      simp only at hsp
      subst hsp
      refine .inr (.inl ⟨b, o, cap, by simp [hl], by simp; omega, hcm, by simp, ?_⟩)
      have := rep_row (pv := pv) (w := w) (b := b) (o := o) hc l 0 fun j a' ha => by
        obtain ⟨cs, _, _, h3, h4, _⟩ := hl2 j a' ha
        exact ⟨cs, by simpa using h3, h4⟩
      simpa using this
end
section
variable {H : Type} {enc : TypeId × Value → H} {P : Program} {w : World} {UB : DataW H → Nat} {UBs : List (DataW H) → Nat}
theorem repL_cat {F : Fz} {ps bs : List PV} {cs : List Value} {o s : Nat} (h1 : RepL F ps ((cs.drop o).take s)) (h2 : RepL F bs (cs.drop (o + s))) : RepL F (ps ++ bs) (cs.drop o) := by
  have := RepL_append h1 h2
  rwa [← List.drop_drop, List.take_append_drop] at this
theorem rd_field {α : Type} {n o s : Nat} {t : TypeId} {cells : α → List PV} {bk : α → Nat} (hR : Rd enc P w UB n t cells bk) {fs : Array Field} {cs : List Value} {xs : List (DataW H × List MemPlace)} (hlen : xs.length = fs.size)
    (hf : ∀ (i : Nat) (f : Field), fs[i]? = some f → DataW.trod enc P w 0 (fun _ => true) true n f.type ((cs.drop f.offset).take (P.cellsOf f.type)) = xs[i]?) (i : Nat) (h : (fs.toList.map fun f => (f.type, f.offset))[i]? = some (t, o)) (hs : P.cellsOf t = s) :
    ∃ a y, xs[i]? = some y ∧ RepL (Fz.of w) (cells a) ((cs.drop o).take s) ∧ bk a ≤ UB y.1 := by
  rw [List.getElem?_map] at h
  obtain ⟨f, hfi, hft⟩ := Option.map_eq_some_iff.1 h
  rw [Array.getElem?_toList] at hfi
  simp only [Prod.mk.injEq] at hft
  obtain ⟨rfl, rfl⟩ := hft
  have h1 := hf i f hfi
  have hi : i < xs.length := by rw [hlen]; exact (Array.getElem?_eq_some_iff.1 hfi).1
  have h2 : xs[i]? = some xs[i] := List.getElem?_eq_getElem hi
  rw [h2] at h1
  obtain ⟨a, h3, h4⟩ := hR _ _ h1
  exact ⟨a, _, h2, by rw [← hs]; exact h3, h4⟩
theorem arg_struct {α : Type} {t : TypeId} {cells : α → List PV} {bk : α → Nat} {fs : Array Field} (hs : P.underlying t = some (.struct fs)) (hR : ∀ n, Rd enc P w UB n t cells bk) {r : Reach} {b0 : Nat} {v : Value} {d : DataW H} {p : List MemPlace}
    (hv : Value.okWide P w r b0 t v) (h : DataW.Trod enc P w 0 (fun _ => true) true t v d p) : ∃ a, Rep (Fz.of w) (.agg (cells a)) v ∧ bk a ≤ UB d := by
  obtain ⟨cs, rfl, _⟩ := Go.WideShapes.okWide_struct hs hv
  obtain ⟨fuel, hf⟩ := h
  obtain ⟨a, h1, h2⟩ := hR fuel _ _ hf
  refine ⟨a, ?_, h2⟩
  simp only [Rep]
  exact ⟨cs.toList, by simp, by simpa [Value.cells] using h1⟩
theorem trodAll_below (hl : laidOutB P = true) {W W' : World} (hb : Below W.heap.size W W') : ∀ {ts : List TypeId} {vs : List Value} {ds : List (DataW H)} {ps : List MemPlace}, (∀ t ∈ ts, P.readableRec t = true ∧ t < P.types.size) →
    DataW.TrodAll enc P W 0 (fun _ => true) true ts vs ds ps → (∀ x ∈ ps, x.block < W.heap.size) → DataW.TrodAll enc P W' 0 (fun b => decide (b < W.heap.size)) true ts vs ds ps
  | [], _, _, _, _, h, _ => by
    obtain ⟨rfl, rfl, rfl⟩ := trodAll_nil h
    exact trodAll_mk0
  | t :: ts, _, _, _, hr, h, hlt => by
    obtain ⟨v, vs, d, ds, p, q, rfl, rfl, rfl, h1, h2⟩ := trodAll_cons h
    exact trodAll_cons_mk (Go.RowKit.Below.trod hl (hr t (by simp)).1 (hr t (by simp)).2 h1 hb fun x hx => hlt x (by simp [hx])) (trodAll_below hl hb (fun t ht => hr t (by simp [ht])) h2 fun x hx => hlt x (by simp [hx]))
theorem trodAll_len {spare : Nat → Bool} {base : Nat} {held : Bool} : ∀ {ts : List TypeId} {vs : List Value} {ds : List (DataW H)} {ps : List MemPlace}, DataW.TrodAll enc P w base spare held ts vs ds ps → ds.length = ts.length
  | [], _, _, _, h => by obtain ⟨rfl, rfl, rfl⟩ := trodAll_nil h; rfl
  | t :: ts, _, _, _, h => by
    obtain ⟨v, vs, d, ds, p, q, rfl, rfl, rfl, h1, h2⟩ := trodAll_cons h
    simp [trodAll_len h2]
theorem law_post {f : Func} {s : ChangeSpec} {tb : TypeId} {W W' : World} {args : Array Value} {ds gs : List (DataW H)} {before : List MemPlace} (hl : laidOutB P = true) (hr : ∀ t ∈ f.params.toList, P.readableRec t = true ∧ t < P.types.size)
    (hres : f.resultTypes = #[tb]) (hb : P.underlying tb = some .bool) (hv : s.vars = []) (hfn : ∀ ds : List (DataW H), ds.length = f.params.size → s.fn H ds = { results := [.lit (.bool true)], args := ds })
    (hW : DataW.Whole enc P f.params.toList s.vars false W args.toList ds gs before) (hbel : Below W.heap.size W W') : s.post enc P f false true false false W args (.bool true) W' := by
  have hW' := hW
  obtain ⟨p, q, hA, hV, rfl, _, _⟩ := hW
  have hV0 : DataW.TrodVars enc P W (fun _ => true) [] gs q := by rw [← hv]; exact hV
  obtain ⟨rfl, rfl⟩ := trodVars_none hV0
  have hfn' := hfn (ds ++ []) (by rw [List.append_nil, trodAll_len hA]; simp)
  refine ⟨ds, [], p ++ [], [], p, [], hW', ?_, ?_, ?_, hbel.frame _, fun h => by cases h⟩
  · rw [hfn', hres]
    exact trodAll_mk1 (Go.RowKit.shut_bool hb _)
  · rw [hfn', List.append_nil]
    exact trodAll_below hl hbel hr hA fun x hx => hW'.lt x (by simp [hx])
  · rw [hfn', hv]; rfl
end
theorem sumBk_datum : ∀ l : List Datum, sumBk Datum.bulk l = Datum.bulks l
  | [] => rfl
  | x :: l => by rw [sumBk, Datum.bulks, sumBk_datum l]
theorem sumBk_trm : ∀ l : List Trm, sumBk Trm.bulk l = Trm.bulks l
  | [] => rfl
  | x :: l => by rw [sumBk, Trm.bulks, sumBk_trm l]
theorem sumBk_one {α : Type} : ∀ l : List α, sumBk (fun _ => 1) l = l.length
  | [] => rfl
  | x :: l => by rw [sumBk, sumBk_one l, List.length_cons]; omega
section
variable {H : Type} {enc : TypeId × Value → H} {P : Program} {w : World} {UB : DataW H → Nat} {UBs : List (DataW H) → Nat}
theorem repL_end {F : Fz} {cs : List Value} {n : Nat} (h : cs.length = n) : RepL F [] (cs.drop n) := by
  rw [List.drop_of_length_le (by omega)]; exact RepL_nil F
theorem rd_datum (hB : Bulk UB UBs) {tI tS tL tD : TypeId} (hI : P.underlying tI = some (.int .i64)) (hS : P.underlying tS = some .string) (hL : P.underlying tL = some (.slice tD)) {fs : Array Field} (hD : P.underlying tD = some (.struct fs))
    (hfs : (fs.toList.map fun f => (f.type, f.offset)) = [(tI, 0), (tI, 1), (tI, 2), (tS, 3), (tL, 4)]) (cI : P.cellsOf tI = 1) (cS : P.cellsOf tS = 1) (cL : P.cellsOf tL = 1) (cD : P.cellsOf tD = 5) : ∀ n, Rd enc P w UB n tD Datum.cells Datum.bulk := by
  intro n
  induction n using Nat.strongRecOn with
  | ind n ih =>
    intro cs x h
    obtain ⟨xs, m, rfl, rfl, hl, hlen, hf⟩ := DataW.trod_struct hD h
    obtain ⟨a0, y0, e0, r0, _⟩ := rd_field (rd_int (w := w) (enc := enc) hB hI m) hlen hf 0 (by rw [hfs]; rfl) cI
    obtain ⟨a1, y1, e1, r1, _⟩ := rd_field (rd_int (w := w) (enc := enc) hB hI m) hlen hf 1 (by rw [hfs]; rfl) cI
    obtain ⟨a2, y2, e2, r2, _⟩ := rd_field (rd_int (w := w) (enc := enc) hB hI m) hlen hf 2 (by rw [hfs]; rfl) cI
    obtain ⟨a3, y3, e3, r3, b3⟩ := rd_field (rd_str (w := w) (enc := enc) hB hS m) hlen hf 3 (by rw [hfs]; rfl) cS
    obtain ⟨a4, y4, e4, r4, b4⟩ := rd_field (rd_slice (pv := Datum.pv) hB hL cD (by omega) (fun a => rfl) (fun k hk => ih k (by omega))) hlen hf 4 (by rw [hfs]; rfl) cL
    refine ⟨.mk a0 a1 a2 a3 a4, ?_, ?_⟩
    · exact repL_cat r0 (repL_cat r1 (repL_cat r2 (repL_cat r3 (repL_cat r4 (repL_end (hl.trans cD))))))
    · have h5 : xs.length = 5 := by
        have := congrArg List.length hfs
        simp at this; omega
      match xs, h5 with
      | [z0, z1, z2, z3, z4], _ =>
        simp at e3 e4
        subst e3 e4
        have := hB.agg ([z0, z1, z2, z3, z4].map (·.1))
        simp only [List.map_cons, List.map_nil, hB.cons, hB.nil] at this
        rw [sumBk_datum] at b4
        rw [Datum.bulk_eq]
        show 1 + a3.length + Datum.bulks a4 ≤ _
        simp only [List.map_cons, List.map_nil]
        omega
theorem rd_ints (hB : Bulk UB UBs) {tI tV : TypeId} (hI : P.underlying tI = some (.int .i64)) (hV : P.underlying tV = some (.slice tI)) (cI : P.cellsOf tI = 1) (n : Nat) : Rd enc P w UB n tV (fun l : List Int => [.sl 1 (l.map (PV.int .i64)) none]) fun l => 1 + l.length := by
  intro cs x h
  obtain ⟨a, h1, h2⟩ := rd_slice (pv := PV.int .i64) hB hV cI (by omega) (fun a => rfl) (fun k hk => rd_int (w := w) (enc := enc) hB hI k) cs x h
  exact ⟨a, h1, by have := sumBk_one a; show 1 + a.length ≤ _; have h3 : 1 + sumBk (fun _ => 1) a ≤ UB x.1 := h2; omega⟩
theorem rd_trm (hB : Bulk UB UBs) {tI tV tL tT : TypeId} (hI : P.underlying tI = some (.int .i64)) (hV : P.underlying tV = some (.slice tI)) (hL : P.underlying tL = some (.slice tT)) {fs : Array Field} (hT : P.underlying tT = some (.struct fs))
    (hfs : (fs.toList.map fun f => (f.type, f.offset)) = [(tI, 0), (tI, 1), (tV, 2), (tL, 3)]) (cI : P.cellsOf tI = 1) (cV : P.cellsOf tV = 1) (cL : P.cellsOf tL = 1) (cT : P.cellsOf tT = 4) : ∀ n, Rd enc P w UB n tT Trm.cells Trm.bulk := by
  intro n
  induction n using Nat.strongRecOn with
  | ind n ih =>
    intro cs x h
    obtain ⟨xs, m, rfl, rfl, hl, hlen, hf⟩ := DataW.trod_struct hT h
    obtain ⟨a0, y0, e0, r0, _⟩ := rd_field (rd_int (w := w) (enc := enc) hB hI m) hlen hf 0 (by rw [hfs]; rfl) cI
    obtain ⟨a1, y1, e1, r1, _⟩ := rd_field (rd_int (w := w) (enc := enc) hB hI m) hlen hf 1 (by rw [hfs]; rfl) cI
    obtain ⟨a2, y2, e2, r2, b2⟩ := rd_field (rd_ints (w := w) (enc := enc) hB hI hV cI m) hlen hf 2 (by rw [hfs]; rfl) cV
    obtain ⟨a3, y3, e3, r3, b3⟩ := rd_field (rd_slice (pv := Trm.pv) hB hL cT (by omega) (fun a => rfl) (fun k hk => ih k (by omega))) hlen hf 3 (by rw [hfs]; rfl) cL
    refine ⟨.mk a0 a1 a2 a3, ?_, ?_⟩
    · exact repL_cat r0 (repL_cat r1 (repL_cat r2 (repL_cat r3 (repL_end (hl.trans cT)))))
    · have h5 : xs.length = 4 := by
        have := congrArg List.length hfs
        simp at this; omega
      match xs, h5 with
      | [z0, z1, z2, z3], _ =>
        simp at e2 e3
        subst e2 e3
        have := hB.agg ([z0, z1, z2, z3].map (·.1))
        simp only [List.map_cons, List.map_nil, hB.cons, hB.nil] at this
        rw [sumBk_trm] at b3
        rw [Trm.bulk_eq]
        show 1 + a2.length + Trm.bulks a3 ≤ _
        simp only [List.map_cons, List.map_nil]
        omega
end
end Go.Cb
namespace Go.Cb
open Go.Proofs Go.Proofs.YtpkgembbjlebcaaGreatDoor
open Go.RowKit (Below)
theorem uptoOne {H : Type} (d : DataW H) : 1 ≤ Rows.uptoBulk d := by
  cases d with
  | lit l => cases l <;> simp [Rows.uptoBulk]
  | nil => simp [Rows.uptoBulk]
  | ptr d => simp [Rows.uptoBulk]
  | slice elems spare => simp [Rows.uptoBulk]
  | agg parts => simp [Rows.uptoBulk]
  | iface t d => simp [Rows.uptoBulk]
  | map entries => simp [Rows.uptoBulk]
  | held h => simp [Rows.uptoBulk]
theorem bulkR {H : Type} : Bulk (H := H) Rows.uptoBulk Rows.uptoBulkAll where
  nil := by simp [Rows.uptoBulkAll]
  cons x l := by simp [Rows.uptoBulkAll]
  agg l := by simp [Rows.uptoBulk]; omega
  slice l m := by simp [Rows.uptoBulk]; omega
  str s := by simp [Rows.uptoBulk]
  pos d := uptoOne d
section
variable {H : Type} {enc : TypeId × Value → H} {w : World}
theorem cInt : Tryz.prog.cellsOf 3 = 1 := by kernel_rfl
theorem cStr : Tryz.prog.cellsOf 9 = 1 := by kernel_rfl
theorem cInts : Tryz.prog.cellsOf 23 = 1 := by kernel_rfl
theorem cDs : Tryz.prog.cellsOf 22 = 1 := by kernel_rfl
theorem cTs : Tryz.prog.cellsOf 24 = 1 := by kernel_rfl
theorem cD : Tryz.prog.cellsOf 35 = 5 := by kernel_rfl
theorem cT : Tryz.prog.cellsOf 26 = 4 := by kernel_rfl
theorem cP : Tryz.prog.cellsOf 28 = 5 := by kernel_rfl
theorem rdD (n : Nat) : Rd enc Tryz.prog w Rows.uptoBulk n 35 Datum.cells Datum.bulk :=
  rd_datum bulkR Tryz.underlying3 Tryz.underlying9 Tryz.underlying22 Tryz.underlying35 rfl cInt cStr cDs cD n
theorem rdT (n : Nat) : Rd enc Tryz.prog w Rows.uptoBulk n 26 Trm.cells Trm.bulk :=
  rd_trm bulkR Tryz.underlying3 Tryz.underlying23 Tryz.underlying24 Tryz.underlying26 rfl cInt cInts cTs cT n
theorem rdDs (n : Nat) : Rd enc Tryz.prog w Rows.uptoBulk n 22 (fun l : List Datum => [.sl 5 (l.map Datum.pv) none]) fun l => 1 + Datum.bulks l := by
  intro cs x h
  obtain ⟨a, h1, h2⟩ := rd_slice (pv := Datum.pv) bulkR Tryz.underlying22 cD (by omega) (fun a => rfl) (fun k hk => rdD (w := w) (enc := enc) k) cs x h
  have h3 : 1 + sumBk Datum.bulk a ≤ Rows.uptoBulk x.1 := h2
  rw [sumBk_datum] at h3
  exact ⟨a, h1, h3⟩
def Prog.bulk (p : Prog) : Nat := Datum.bulks p.consts + p.body.bulk
theorem rdP (n : Nat) : Rd enc Tryz.prog w Rows.uptoBulk n 28 Prog.cells Prog.bulk := by
  intro cs x h
  obtain ⟨xs, m, rfl, rfl, hl, hlen, hf⟩ := DataW.trod_struct Tryz.underlying28 h
  obtain ⟨a0, y0, e0, r0, b0⟩ := rd_field (rdDs (w := w) (enc := enc) m) hlen hf 0 rfl cDs
  obtain ⟨a1, y1, e1, r1, b1⟩ := rd_field (rdT (w := w) (enc := enc) m) hlen hf 1 rfl cT
  refine ⟨⟨a0, a1⟩, ?_, ?_⟩
  · have := repL_cat r0 (repL_cat r1 (repL_end (hl.trans cP)))
    rwa [List.append_nil] at this
  · match xs, hlen with
    | [z0, z1], _ =>
      simp at e0 e1
      subst e0 e1
      have := (bulkR (H := H)).agg ([z0, z1].map (·.1))
      simp only [List.map_cons, List.map_nil, (bulkR (H := H)).cons, (bulkR (H := H)).nil] at this
      show Datum.bulks a0 + a1.bulk ≤ _
      simp only [List.map_cons, List.map_nil]
      omega
theorem okP : Tryz.prog.readableRec 28 = true ∧ 28 < Tryz.prog.types.size := ⟨by kernel_rfl, of_decide_eq_true (by kernel_rfl)⟩
theorem okT : Tryz.prog.readableRec 26 = true ∧ 26 < Tryz.prog.types.size := ⟨by kernel_rfl, of_decide_eq_true (by kernel_rfl)⟩
theorem calls_true {f : FuncId} {args : List PV} {vs : List Value} {W : World} (h : ACallP Tryz.prog f args (.bool true)) (hr : RepT (Fz.of W) args vs) : Calls Tryz.prog f vs.toArray W fun e W' => e = .returned (.bool true) ∧ Below W.heap.size W W' := by
  refine (h.2 W (Fz.of W) [] W vs (Sim.start W) hr).mono ?_
  rintro e W' ⟨v, F', y, Γ', rfl, _, hS, hR, rfl⟩
  exact ⟨by rw [show v = .bool true by simpa only [Rep] using hR], hS.below⟩
end
end Go.Cb
namespace Go.Cb
open Go.Proofs Go.Proofs.YtpkgembbjlebcaaGreatDoor
mutual
def cellsD : DataW Unit → List Value
  | .lit (.int k n) => [.int k n]
  | .lit (.bool b) => [.bool b]
  | .lit (.string s) => [.string ⟨s.toArray⟩]
  | .agg l => cellsDs l
  | _ => []
def cellsDs : List (DataW Unit) → List Value
  | [] => []
  | d :: l => cellsD d ++ cellsDs l
end
def newBlocks (e : TypeId) : List (String × DataW Unit) → List Obj
  | [] => []
  | (_, .iface _ (.ptr d)) :: l => .cells (cellsD d).toArray e :: newBlocks e l
  | _ :: l => newBlocks e l
def putCs (h : Array Obj) (g : Option Nat) (cs : Array Value) : Array Obj := match g with
  | some g => h.modify g fun
    | .cells _ t frozen => .cells cs t frozen
    | o => o
  | none => h
def layAll (P : Program) (p : TypeId) : List (String × DataW Unit) → Nat → Array Obj → Array Obj
  | [], _, h => h
  | (n, .iface _ _) :: l, k, h => layAll P p l (k + 1) (putCs h (P.globalNamed n) #[.iface p (.pointer (some ⟨k, 0, none⟩))])
  | (n, d) :: l, k, h => layAll P p l k (putCs h (P.globalNamed n) (cellsD d).toArray)
noncomputable def laidWorld (os : Os) : World :=
  let w0 := World.holding Tryz.prog os ⟨(newBlocks 256 Rows.termConstsRow.laid).toArray, #[], []⟩
  { w0 with heap := layAll Tryz.prog 254 Rows.termConstsRow.laid (World.settled Tryz.prog os).heap.size w0.heap }
theorem laid_met (os : Os) (args : Array Value) : laidMet Tryz.prog Rows.termConstsRow.laid ((laidWorld os).forCall (fun _ _ => 0) ⟨#[], args, []⟩).memory :=
  (LaidIn.of_run (l := Rows.termConstsRow.laid) (List.range 1000) 16 (by kernel_rfl) (by kernel_rfl) (by kernel_rfl) (by kernel_rfl)).met
theorem own_none : ownKnob Tryz.prog.godebug = none := by kernel_rfl
theorem laidOut : laidOutB Tryz.prog = true := by kernel_rfl
end Go.Cb

