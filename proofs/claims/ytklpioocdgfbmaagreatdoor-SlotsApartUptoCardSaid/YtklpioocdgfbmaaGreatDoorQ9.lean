/-
 Drawn regions with two effects that no order binds to one another: both orders are walked.
 Drawn regions with a read that no order binds to two effects: it is walked at each place.
 Drawn regions whose effects may come in several orders: a tree of what may come next.
 Contracts: the words of what is needed.
 Contracts: what is live, the program's answers: the document's.
 Contracts: a procedure's slots, the program's: the document's.
 Plain law: registers that live at one place have slots of their own; what lives among the slots is what lived among the registers; a checked unit's slots are a checked unit.
 Plain law: what SlotsAlive, SlotsApart and SlotsSorts ask of the slots.
 Contracts: the document's reader of images: procedures.
 Contracts: emission's laws: the document's example; procedures that are the same; the procedures of any words.
 Contracts: few; alike what is alike.
-/
import Derived.KernelRfl
import Derived.Test.YtklpioocdgfbmaaGreatDoorQ8
set_option linter.unusedSimpArgs false
set_option linter.unusedVariables false
namespace Go.Cb
open Go.RowKit (Below)
set_option maxRecDepth 100000
set_option maxHeartbeats 4000000
section
variable {P : Program} {tt : Nat → TI}
theorem SSeq_imp {full : List Oper} {Γ : List Ent} {k k' : List PV → Prop} (hk : ∀ T, k T → k' T) : ∀ (l : List Oper) (T : List PV), SSeq P tt full l T Γ k → SSeq P tt full l T Γ k'
 | [], T, h => hk T h
 | x :: l, T, h => by
  obtain ⟨v, h1, h2⟩ := SSeq_cons.1 h
  exact SSeq_cons.2 ⟨v, h1, SSeq_imp hk l _ h2⟩
end
end Go.Cb
namespace Go.Cb
open Go.RowKit (Below)
set_option maxRecDepth 100000
set_option maxHeartbeats 4000000
section
variable {P : Program} {tt : Nat → TI}
end
end Go.Cb
namespace Go.Cb
open Go.RowKit (Below)
set_option maxRecDepth 100000
set_option maxHeartbeats 4000000
def okR (tab rest : List Nat) (i : Nat) : Bool := rest.all fun j => Nat.beq j i || !(anc tab i j)
def dropN (i : Nat) : List Nat → List Nat
 | [] => []
 | j :: l => match Nat.beq j i with
  | true => l
  | false => j :: dropN i l
def keepR (tab rest : List Nat) : List Nat → List Nat
 | [] => []
 | i :: l => match okR tab rest i with
  | true => i :: keepR tab rest l
  | false => keepR tab rest l
def allQ : List Nat → (Nat → Prop) → Prop
 | [], _ => True
 | i :: l, f => f i ∧ allQ l f
theorem allQ_mem {f : Nat → Prop} : ∀ {l : List Nat}, allQ l f → ∀ i ∈ l, f i
 | [], _, i, h => by cases h
 | j :: l, h, i, hi => by
  rcases List.mem_cons.1 hi with rfl | hi
  ·exact h.1
  ·exact allQ_mem h.2 i hi
theorem keepR_mem {tab rest : List Nat} : ∀ {l : List Nat} {i : Nat}, i ∈ l → okR tab rest i = true → i ∈ keepR tab rest l
 | j :: l, i, hi, ho => by
  rw [keepR]
  rcases List.mem_cons.1 hi with rfl | hi
  ·rw [ho]; exact List.mem_cons_self ..
  ·split
   ·exact List.mem_cons_of_mem _ (keepR_mem hi ho)
   ·exact keepR_mem hi ho
theorem dropN_split {i : Nat} : ∀ {l1 l2 : List Nat}, i ∉ l1 → dropN i (l1 ++ i :: l2) = l1 ++ l2
 | [], l2, _ => by
  rw [List.nil_append, dropN, Nat.beq_refl]
  rfl
 | j :: l1, l2, h => by
  rw [List.mem_cons, not_or] at h
  rw [List.cons_append, dropN, beq_ne (Ne.symm h.1), dropN_split h.2]
  rfl
section
variable {P : Program} {tt : Nat → TI}
def WTree (P : Program) (tt : Nat → TI) (ops : List Oper) (tab : List Nat) : Nat → List Nat → List PV → List Ent → (List PV → List Ent → Prop) → Prop
 | 0, _, T, Γ, K => K T Γ
 | n + 1, rest, T, Γ, K => allQ (keepR tab rest rest) fun i => match ops[i]? with
  | none => False
  | some o => WOp P tt o.op T Γ fun x Γ' => WTree P tt ops tab n (dropN i rest) (putT T o.dst x) Γ' K
theorem gameT (hk : TT.ok P tt) (rd : Option Nat) (nn : Nat) {ops : Array Oper} {tab : List Nat} (hc : tabChk ops tab = true) {w0 : World} {M Γ2 : List Ent} {F0 : Fz} {ds : List Deferred} {Q' : Exit → Act → World → Prop}
  {Tl : List PV → List Ent → Prop} (hTl : ∀ (fuel : Nat) (listed : Array Bool) (T : List PV) (Γ : List Ent) (F : Fz) (a : Act) (w : World), Down ops listed → Pend ops listed [] → F0.le F → Sim w0 F (Γ ++ M) w → RepT F T a.tmps.toList → a.defers = ds →
   Tl T Γ → wpAnyIn (Fen rd) nn P .any ops Q' fuel listed a w) :
  ∀ (n : Nat) (A rest : List Nat) (fuel : Nat) (listed : Array Bool) (T : List PV) (Γ1 : List Ent) (F : Fz) (a : Act) (w : World), A.length + rest.length = n → n ≤ fuel →
   Down ops listed → Pend ops listed (A ++ rest) → (A.Pairwise fun j i => anc tab i j = true ∨ apartAt ops j i = true) → (∀ j ∈ A, ∀ i ∈ rest, anc tab i j = true ∨ apartAt ops j i = true) → (∀ i ∈ rest, ∀ o, ops[i]? = some o → o.guard = none) →
   F0.le F → Sim w0 F (Γ1 ++ (Γ2 ++ M)) w → RepT F T a.tmps.toList → a.defers = ds →
   (SSeq P tt ops.toList (A.filterMap (ops[·]?)) T Γ2 fun T' => WTree P tt ops.toList tab rest.length rest T' Γ1 fun T2 Γ1' => Tl T2 (Γ1' ++ Γ2)) →
   wpAnyIn (Fen rd) nn P .any ops Q' fuel listed a w := by
 intro n
 induction n with
 | zero =>
  intro A rest fuel listed T Γ1 F a w hn hf hd hp hpa hpr hug hle hS hT hds h
  obtain rfl : A = [] := List.eq_nil_of_length_eq_zero (by omega)
  obtain rfl : rest = [] := List.eq_nil_of_length_eq_zero (by omega)
  exact hTl fuel listed T (Γ1 ++ Γ2) F a w hd (by simpa using hp) hle (by simpa using hS) hT hds h
 | succ n ih =>
  intro A rest fuel listed T Γ1 F a w hn hf hd hp hpa hpr hug hle hS hT hds h
  cases fuel with
  | zero => omega
  | succ fuel =>
  refine ⟨fun hnil => ?_, fun i hi => ?_⟩
  ·exfalso
   cases hAR : A ++ rest with
   | nil => rw [List.append_eq_nil_iff] at hAR; rw [hAR.1, hAR.2] at hn; simp at hn
   | cons x xs =>
    rw [hAR] at hp
    obtain ⟨k, hk'⟩ := ready_exists hc hp
    rw [hnil] at hk'
    cases hk'
  ·obtain ⟨o, ho⟩ := hp.2.2 i (hp.ready hi)
   have un : ∀ {j : Nat}, j ∈ A ++ rest → anc tab i j = true → False := fun {j} hj ha => blocked hc hd i ho ha ((hp.2.1 j).2 hj) hi
   have free : ∀ {j : Nat} {x : Oper}, j ∈ A ++ rest → ops[j]? = some x → (anc tab i j = true ∨ apartAt ops j i = true) → x.apart ops o = true := by
    intro j x hj hx h
    rcases h with h | h
    ·exact (un hj h).elim
    ·simpa [apartAt, hx, ho] using h
   have hmem := hp.ready hi
   rw [List.mem_append] at hmem
   rcases hmem with hm | hm
   ·obtain ⟨A1, A2, rfl⟩ := List.append_of_mem hm
    rw [filterMap_split ho] at h
    have hap : ∀ x ∈ A1.filterMap (ops[·]?), x.apart ops o = true := by
     intro x hx
     obtain ⟨j, hj, hx⟩ := List.mem_filterMap.1 hx
     exact free (by simp [hj]) hx ((List.pairwise_append.1 hpa).2.2 j hj i (by simp))
    obtain ⟨v, h1, h2⟩ := SSeq_move _ T hap h
    have hS2 : Sim w0 F (Γ2 ++ (Γ1 ++ M)) w := hS.perm (by
     rw [← List.append_assoc, ← List.append_assoc]
     exact List.perm_append_comm.append_right M)
    have hs : List.Sublist (A1 ++ A2) (A1 ++ i :: A2) := List.Sublist.append (List.Sublist.refl _) (List.sublist_cons_self _ _)
    unfold wpOpIn
    simp only [ho]
    have key := SVal_sound hk (rd := rd) (nn := nn) (Q := Q') (next := fun a w => wpAnyIn (Fen rd) nn P .any ops Q' fuel (listed.setIfInBounds i true) a w) hS2 hT h1 (by
     intro F' u w' hle' hS' hx
     refine ih (A1 ++ A2) rest fuel _ (putT T o.dst v) Γ1 F' _ w' (by simp at hn ⊢; omega) (by omega) (hd.set hi) ?_ (hpa.sublist hs) (fun j hj => hpr j (hs.subset hj)) hug (Fz.le_trans hle hle') ?_ (put_rep (RepT.mono hle' _ _ hT) hx o.dst)
      ((put_defers a o.dst u).trans hds) ?_
     ·have := Pend.set (l1 := A1) (l2 := A2 ++ rest) (i := i) (by simpa using hp)
      rwa [List.append_assoc]
     ·exact hS'.perm (by
       rw [← List.append_assoc, ← List.append_assoc]
       exact List.perm_append_comm.append_right M)
     ·rw [List.filterMap_append]; exact h2)
    split at key <;> rename_i hw
    ·rw [if_pos hw]; exact key
    ·rw [if_neg hw]; exact ⟨fun _ _ => trivial, key⟩
   ·have hg : o.guard = none := hug i hm o ho
    have hok : okR tab rest i = true := by
     unfold okR
     rw [List.all_eq_true]
     intro j hj
     rw [Bool.or_eq_true, Bool.not_eq_true']
     by_cases e : j = i
     ·left; rw [e]; exact Nat.beq_refl i
     ·right
      rw [Bool.eq_false_iff]
      exact fun ha => un (List.mem_append_right _ hj) ha
    obtain ⟨R1, R2, hR⟩ := List.append_of_mem hm
    have hrl : rest.length = (R1 ++ R2).length + 1 := by rw [hR, List.length_append, List.length_append, List.length_cons]; omega
    have hnd : i ∉ R1 := by
     have h1 := hp.1
     rw [hR] at h1
     have h2 := (List.pairwise_append.1 (List.pairwise_append.1 h1).2.1).2.2
     exact fun hi1 => h2 i hi1 i (List.mem_cons_self ..) rfl
    have hdn : dropN i rest = R1 ++ R2 := by rw [hR]; exact dropN_split hnd
    have ho2 : ops.toList[i]? = some o := by rw [Array.getElem?_toList]; exact ho
    rw [hrl] at h
    have h := SSeq_imp (k' := fun T' => WOp P tt o.op T' Γ1 fun x Γ' => WTree P tt ops.toList tab (R1 ++ R2).length (R1 ++ R2) (putT T' o.dst x) Γ' fun T2 Γ1' => Tl T2 (Γ1' ++ Γ2)) (fun T' h => by
     rw [WTree] at h
     have := allQ_mem h i (keepR_mem hm hok)
     rw [ho2, hdn] at this
     exact this) _ _ h
    have hap : ∀ x ∈ A.filterMap (ops[·]?), x.apart ops o = true := by
     intro x hx
     obtain ⟨j, hj, hx⟩ := List.mem_filterMap.1 hx
     exact free (List.mem_append_left _ hj) hx (hpr j hj i hm)
    have h2 := SSeq_eff (kk := fun T' Γ1' => WTree P tt ops.toList tab (R1 ++ R2).length (R1 ++ R2) T' Γ1' fun T2 Γ1' => Tl T2 (Γ1' ++ Γ2)) _ T hap h
    unfold wpOpIn
    simp only [ho]
    rw [if_pos (by simp [Region.wanted, hg])]
    refine WOp_sound hk (M := Γ2 ++ M) hS hT h2 ?_
    rintro F' x Γ' v' w' hle' hS' hx hK
    have hs : ∀ j ∈ R1 ++ R2, j ∈ rest := fun j hj => by
     rw [hR]
     rcases List.mem_append.1 hj with hj | hj
     ·exact List.mem_append_left _ hj
     ·exact List.mem_append_right _ (List.mem_cons_of_mem _ hj)
    refine ih A (R1 ++ R2) fuel _ (putT T o.dst x) Γ' F' _ w' (by omega) (by omega) (hd.set hi) ?_ hpa (fun j hj k hk => hpr j hj k (hs k hk)) (fun k hk => hug k (hs k hk)) (Fz.le_trans hle hle') hS' (put_rep (RepT.mono hle' _ _ hT) hx o.dst)
     ((put_defers a o.dst v').trans hds) hK
    have := Pend.set (l1 := A ++ R1) (l2 := R2) (i := i) (by rw [hR] at hp; simpa using hp)
    simpa using this
def treeB (ops : Array Oper) (tab A rest : List Nat) : Bool :=
 tabChk ops tab && pairB (fun j i => anc tab i j || apartAt ops j i) A && A.all (fun j => rest.all fun i => anc tab i j || apartAt ops j i) && rest.all (fun i => match ops[i]? with | some o => o.guard.isNone | none => false) &&
 pairB (fun j i => !(Nat.beq j i)) (A ++ rest) && (List.range ops.size).all (fun i => (A ++ rest).contains i) && (A ++ rest).all (fun i => Nat.blt i ops.size)
theorem PDraw.tree (hk : TT.ok P tt) (hm : P.follows .mixedOrders = true) {ops : Array Oper} {T : List PV} {Γ Γ2 : List Ent} {K : List PV → List Ent → Prop} (tab A rest : List Nat) (Γ1 : List Ent) [hp : PickL Γ Γ1 Γ2]
  (h : SSeq P tt ops.toList (pickO ops.toList A) T Γ2 fun T' => WTree P tt ops.toList tab rest.length rest T' Γ1 fun T2 Γ1' => appE Γ1' Γ2 fun Γ' => K T2 Γ')
  (hchk : treeB ops tab A rest = true := by kernel_rfl) : PDraw P ops T Γ K := by
 refine ⟨fun rd nn id w0 F M w a Q' hS hT hQ => wpIn_region_any hm ?_⟩
 simp only [treeB, Bool.and_eq_true] at hchk
 obtain ⟨⟨⟨⟨⟨⟨hc, s1⟩, s2⟩, s3⟩, h7⟩, h8⟩, h9⟩ := hchk
 have hlt : ∀ i ∈ A ++ rest, i < ops.size := fun i hi => by
  have := List.all_eq_true.1 h9 i hi
  simpa [Nat.blt, Nat.succ_le_iff] using this
 have hpend : Pend ops (Array.replicate ops.size false) (A ++ rest) := by
  refine ⟨(pairB_iff h7).imp fun h => by
   intro e
   subst e
   simp at h, ?_, fun i hi => ⟨_, Array.getElem?_eq_getElem (hlt i hi)⟩⟩
  intro i
  constructor
  ·intro hi
   rcases Nat.lt_or_ge i ops.size with h' | h'
   ·have := List.all_eq_true.1 h8 i (List.mem_range.2 h')
    simpa only [List.contains_iff_mem] using this
   ·simp [Array.getElem?_eq_none, h'] at hi
  ·intro hi
   simp [hlt i hi]
 have hlen : A.length + rest.length ≤ ops.size := by
  have hsub : (A ++ rest) ⊆ List.range ops.size := fun i hi => List.mem_range.2 (hlt i hi)
  have := hpend.1.length_le_of_subset hsub
  simpa only [List.length_append, List.length_range] using this
 have hS' : Sim w0 F (Γ1 ++ (Γ2 ++ M)) { w with drawn := w.drawn + 1 } := by
  have := (hS.perm (hp.p.append_right M)).of_heap (w' := { w with drawn := w.drawn + 1 }) rfl rfl rfl rfl
  simpa using this
 refine gameT hk rd nn hc (F0 := F) (ds := a.defers) (Tl := K) ?_ _ A rest ops.size _ T Γ1 F a _ rfl hlen ?_ hpend ((pairB_iff s1).imp fun h => by simpa using h) (fun j hj i hi => ?_) (fun i hi o ho => ?_) (Fz.le_refl F) hS' hT rfl ?_
 ·intro fuel listed T2 Γ' F' a' w' hd hpd hle hS2 hT2 hds ht
  refine game hk rd nn hc (R2 := []) (F0 := F) (ds := a.defers) hQ _ [] [] fuel listed T2 [] F' a' w' rfl (Nat.zero_le _) hd (by simpa using hpd) ⟨List.Pairwise.nil, fun _ h => (by cases h), List.Pairwise.nil, List.Pairwise.nil, fun _ h => (by cases h), fun _ h => (by cases h), fun _ h => (by cases h)⟩ hle (Γ2 := Γ') (by simpa using hS2) hT2 hds ?_
  simp only [List.filterMap_nil, WOps, List.nil_append]
  exact ht
 ·intro k o hk'
  rcases Nat.lt_or_ge k ops.size with h' | h'
  ·simp [h'] at hk'
  ·intro ho
   have := (Array.getElem?_eq_some_iff.1 ho).1
   omega
 ·have := List.all_eq_true.1 (List.all_eq_true.1 s2 j hj) i hi
  simpa using this
 ·have := List.all_eq_true.1 s3 i hi
  rw [ho] at this
  simpa using this
 ·simpa only [pickO_eq, Array.getElem?_toList, appE_eq] using h
end
end Go.Cb
namespace Go.Cb
open Go.Proofs
set_option maxRecDepth 100000
set_option maxHeartbeats 4000000
instance : CellsOf PV.ms (fun t => [PV.ms t]) := ⟨fun _ => rfl⟩
instance (t : Tok) : ElOf PV.ms (.ms t) t := ⟨Wk.refl _, WkL.refl _⟩
def rowsE : List Tok → WsL → List Ent
 | t :: T, ws :: W => .row t (ws.map (PV.int .u64)) :: rowsE T W
 | _, _ => []
theorem rowsE_pick : ∀ (T : List Tok) (W : WsL) (k : Nat) (h1 : k < T.length) (h2 : k < W.length), (rowsE T W).Perm (.row T[k] (W[k].map (PV.int .u64)) :: rowsE (T.eraseIdx k) (W.eraseIdx k))
 | t :: T, ws :: W, 0, _, _ => List.Perm.refl _
 | t :: T, ws :: W, k + 1, h1, h2 => by
  have ih := rowsE_pick T W k (by simpa using h1) (by simpa using h2)
  rw [rowsE, List.eraseIdx_cons_succ, List.eraseIdx_cons_succ, rowsE]
  exact (ih.cons _).trans (List.Perm.swap ..)
 | [], _, _, h1, _ => by simp at h1
 | _ :: _, [], _, _, h2 => by simp at h2
theorem rowsE_set : ∀ (T : List Tok) (W : WsL) (k : Nat) (ws : List Int) (h1 : k < T.length) (_ : k < W.length), (rowsE T (W.set k ws)).Perm (.row T[k] (ws.map (PV.int .u64)) :: rowsE (T.eraseIdx k) (W.eraseIdx k))
 | t :: T, w :: W, 0, _, _, _ => List.Perm.refl _
 | t :: T, w :: W, k + 1, ws, h1, h2 => by
  have ih := rowsE_set T W k ws (by simpa using h1) (by simpa using h2)
  rw [List.set_cons_succ, rowsE, List.eraseIdx_cons_succ, List.eraseIdx_cons_succ, rowsE]
  exact (ih.cons _).trans (List.Perm.swap ..)
 | [], _, _, _, h1, _ => by simp at h1
 | _ :: _, [], _, _, _, h2 => by simp at h2
theorem rowsE_snoc : ∀ (T : List Tok) (W : WsL) (t : Tok) (ws : List Int), T.length = W.length → rowsE (T ++ [t]) (W ++ [ws]) = rowsE T W ++ [.row t (ws.map (PV.int .u64))]
 | [], [], _, _, _ => rfl
 | t :: T, w :: W, t2, ws, h => by rw [List.cons_append, List.cons_append, rowsE, rowsE, rowsE_snoc T W t2 ws (by simpa using h), List.cons_append]
 | [], _ :: _, _, _, h => by simp at h
 | _ :: _, [], _, _, h => by simp at h
instance (priority := low) PickL.skip (e : Ent) (Γ D r : List Ent) [h : PickL Γ D r] : PickL (e :: Γ) D (e :: r) := ⟨(h.p.cons e).trans List.perm_middle.symm⟩
theorem PickL.mk5 {Γ Γ1 D D' : List Ent} {a b c x y : Ent} (h : PickL Γ (a :: b :: c :: x :: y :: D) Γ1) (hd : (x :: y :: D).Perm D') : PickL Γ (a :: b :: c :: D') Γ1 := ⟨h.p.trans ((((hd.append_right Γ1).cons c).cons b).cons a)⟩
def dynE (TA : List Tok) (A : WsL) (TB : List Tok) (B : WsL) : List Ent := rowsE TA A ++ rowsE TB B
theorem dyn_snoc {TA TB : List Tok} {A B : WsL} {t1 t2 : Tok} {w1 w2 : List Int} (h1 : TA.length = A.length) (h2 : TB.length = B.length) : (.row t1 (w1.map (PV.int .u64)) :: .row t2 (w2.map (PV.int .u64)) :: dynE TA A TB B).Perm (dynE (TA ++ [t1]) (A ++ [w1]) (TB ++ [t2]) (B ++ [w2])) := by
 unfold dynE
 rw [rowsE_snoc _ _ _ _ h1, rowsE_snoc _ _ _ _ h2, List.append_assoc, List.singleton_append]
 refine List.Perm.trans ?_ List.perm_middle.symm
 refine List.Perm.cons _ ?_
 rw [← List.append_assoc]
 exact (List.perm_append_singleton ..).symm
theorem gW_get {A : WsL} {k : Nat} (h : k < A.length) : A.getD k [] = A[k] := by rw [List.getD_eq_getElem?_getD, List.getElem?_eq_getElem h]; rfl
theorem dyn_pickA {TA TB : List Tok} {A B : WsL} {k : Nat} (h1 : k < TA.length) (h2 : k < A.length) : (dynE TA A TB B).Perm (.row TA[k] ((A.getD k []).map (PV.int .u64)) :: dynE (TA.eraseIdx k) (A.eraseIdx k) TB B) := by
 unfold dynE
 rw [gW_get h2]
 exact (rowsE_pick TA A k h1 h2).append_right _
theorem dyn_setA {TA TB : List Tok} {A B : WsL} {k : Nat} {ws : List Int} (h1 : k < TA.length) (h2 : k < A.length) : (dynE TA (A.set k ws) TB B).Perm (.row TA[k] (ws.map (PV.int .u64)) :: dynE (TA.eraseIdx k) (A.eraseIdx k) TB B) := by
 unfold dynE
 exact (rowsE_set TA A k ws h1 h2).append_right _
theorem pick_two {a b e1 : Ent} {RA RA' RB RB' : List Ent} (hA : RA.Perm (a :: RA')) (hB : RB.Perm (b :: RB')) : (e1 :: (RA ++ RB)).Perm (b :: a :: e1 :: (RA' ++ RB')) := by
 have h1 : (RA ++ RB).Perm (b :: a :: (RA' ++ RB')) := by
  refine (hA.append hB).trans ?_
  rw [List.cons_append]
  refine (List.perm_middle.cons a).trans ?_
  exact List.Perm.swap ..
 refine (h1.cons e1).trans ?_
 refine (List.Perm.swap b e1 _).trans ?_
 exact (List.Perm.swap a e1 _).cons b
theorem dyn_two {TA TB : List Tok} {A B : WsL} {j k : Nat} {e1 : Ent} (h1 : j < TA.length) (h2 : j < A.length) (h3 : k < TB.length) (h4 : k < B.length) :
  (e1 :: dynE TA A TB B).Perm ([.row TB[k] ((B.getD k []).map (PV.int .u64)), .row TA[j] ((A.getD j []).map (PV.int .u64))] ++ (e1 :: dynE (TA.eraseIdx j) (A.eraseIdx j) (TB.eraseIdx k) (B.eraseIdx k))) := by
 rw [gW_get h2, gW_get h4]
 exact pick_two (rowsE_pick TA A j h1 h2) (rowsE_pick TB B k h3 h4)
theorem dyn_two' {TA TB : List Tok} {A B : WsL} {j k : Nat} {e1 : Ent} (h1 : j < TA.length) (h2 : j < A.length) (h3 : k < TB.length) (h4 : k < B.length) :
  (e1 :: dynE TA A TB B).Perm ([.row TA[j] ((A.getD j []).map (PV.int .u64)), .row TB[k] ((B.getD k []).map (PV.int .u64))] ++ (e1 :: dynE (TA.eraseIdx j) (A.eraseIdx j) (TB.eraseIdx k) (B.eraseIdx k))) :=
 (dyn_two h1 h2 h3 h4).trans (List.Perm.swap ..)
theorem dyn_setB2 {TA TB : List Tok} {A B : WsL} {j k : Nat} {e1 : Ent} {ws : List Int} (h1 : j < TA.length) (h2 : j < A.length) (h3 : k < TB.length) (h4 : k < B.length) :
  (([.row TB[k] (ws.map (PV.int .u64)), .row TA[j] ((A.getD j []).map (PV.int .u64))] : List Ent) ++ (e1 :: dynE (TA.eraseIdx j) (A.eraseIdx j) (TB.eraseIdx k) (B.eraseIdx k))).Perm ((e1 :: dynE TA A TB (B.set k ws)) ++ []) := by
 rw [gW_get h2, List.append_nil]
 exact (pick_two (rowsE_pick TA A j h1 h2) (rowsE_set TB B k ws h3 h4)).symm
theorem dyn_setA2 {TA TB : List Tok} {A B : WsL} {j k : Nat} {e1 : Ent} {ws : List Int} (h1 : j < TA.length) (h2 : j < A.length) (h3 : k < TB.length) (h4 : k < B.length) :
  (([.row TA[j] (ws.map (PV.int .u64)), .row TB[k] ((B.getD k []).map (PV.int .u64))] : List Ent) ++ (e1 :: dynE (TA.eraseIdx j) (A.eraseIdx j) (TB.eraseIdx k) (B.eraseIdx k))).Perm ((e1 :: dynE TA (A.set j ws) TB B) ++ []) := by
 rw [gW_get h4, List.append_nil]
 exact ((pick_two (rowsE_set TA A j ws h1 h2) (rowsE_pick TB B k h3 h4)).trans (List.Perm.swap ..)).symm
theorem Perm.in2 {e1 e2 x : Ent} {D D' : List Ent} (h : D.Perm (x :: D')) : (e1 :: e2 :: D).Perm ([x] ++ (e1 :: e2 :: D')) := by
 refine ((h.cons e2).cons e1).trans ?_
 refine ((List.Perm.swap x e2 D').cons e1).trans ?_
 exact List.Perm.swap x e1 (e2 :: D')
theorem Perm.out2 {e1 e2 x : Ent} {D D' : List Ent} (h : D.Perm (x :: D')) : (x :: e1 :: e2 :: D').Perm ((e1 :: e2 :: D) ++ []) := by
 rw [List.append_nil]
 exact (Perm.in2 h).symm
theorem solved_c (p : Prc) (hp : PrF p) (hx : ∀ x ∈ p.code, x.l.length ≤ 1000000) (h0 : ∀ x ∈ p.code, 0 ≤ x.op) :
    ACall Tryz.prog 78 [.agg p.cells] [] (fun y Γ' => ∃ (TA TB : List Tok) (A B : WsL), y = .tup [.sl 1 (TA.map PV.ms) none, .sl 1 (TB.map PV.ms) none] ∧ Γ' = rowsE TA A ++ rowsE TB B ∧ TA.length = p.code.length ∧ TB.length = p.code.length ∧ (∀ t ∈ TA, t.s = 1) ∧ (∀ t ∈ TB, t.s = 1) ∧ SolP p A B) := by
  have hrg := hp.rg
  have hln := hp.ln
  obtain ⟨r, hr⟩ := Int.eq_ofNat_of_zero_le hrg.1
  have e1 : p.regs.tdiv 64 = ((r / 64 : Nat) : Int) := by rw [hr]; rfl
  refine ACall.of_body tt_ok Tryz.func78 rfl rfl (n := 123) rfl rfl ?_
  conv => whnf
  repeat' (first|((first|((first|(apply zY;intro hg)|apply zZ);first|exact stA|exact stB|exact stC)|(refine zW ?_ ?_;exact gA)|refine zH rfl ?_|refine zA ?_|refine zI bA ?_|refine zI rfl ?_|refine sB ?_|(refine zO ?_ ?_ ?_;omega;omega)|(refine zP ?_ ?_ ?_;omega;omega)|refine zM rfl ?_|(refine zQ ?_ ?_ ?_;omega;omega)|(refine zR ?_ ?_;omega)|(refine zI ?_ ?_;exact nA)|refine sS ?_|refine sF ?_|refine n0 ?_|refine sD ?_|intro _|refine zG ?_);conv=>whnf)|(refine zX (fun hc => ?_) (fun hc => ?_)<;>(try simp only [SY] at hc)<;>first|omega|(conv=>whnf)))
  rename_i b1 _
  refine PLoop.ghost (Ghost.trans (Ghost.nil 1 124 _) (Ghost.nil 1 124 _)) ?_
  refine PLoop.over [2, 3, 24, 25, 26, 27, 28, 29, 30, 31, 32, 33, 34, 35, 36] (fun x : Nat × (List Tok × Tok) × (List Tok × Tok) => [(2, .sl 1 (x.2.1.1.map PV.ms) (some x.2.1.2)), (3, .sl 1 (x.2.2.1.map PV.ms) (some x.2.2.2)), (24, .int .i64 x.1)]) (fun x => .tok x.2.1.2 :: .tok x.2.2.2 :: .box b1 (prX p) :: dynE x.2.1.1 (List.replicate x.1 (List.replicate (r / 64 + 1) 0)) x.2.2.1 (List.replicate x.1 (List.replicate (r / 64 + 1) 0)))
    (fun x => x.1 ≤ p.code.length ∧ x.2.1.2.e = 124 ∧ x.2.2.2.e = 124 ∧ x.2.1.1.length = x.1 ∧ x.2.2.1.length = x.1 ∧ (∀ t ∈ x.2.1.1, t.s = 1) ∧ ∀ t ∈ x.2.2.1, t.s = 1) (fun x => p.code.length - x.1) (0, ([], nilTok 1 124), ([], nilTok 1 124)) ⟨Nat.zero_le _, rfl, rfl, rfl, rfl, fun t h => by (cases h), fun t h => by (cases h)⟩ wA (hp := ⟨by rw [List.append_nil]; exact List.Perm.refl _⟩) ?_
  rintro ⟨k, ⟨TA, ta⟩, ⟨TB, tb⟩⟩ ⟨hk, hta, htb, hla, hlb, hsa, hsb⟩
  dsimp only at hk hta htb hla hlb hsa hsb ⊢
  have hrow : List.replicate (p.regs.tdiv 64 + 1).toNat (PV.int .u64 0) = (List.replicate (r / 64 + 1) 0).map (PV.int .u64) := by
    rw [List.map_replicate, e1]
    congr 1
  have hall : ∀ (L : List Tok) (x : Tok), (∀ t ∈ L, t.s = 1) → x.s = 1 → ∀ t ∈ L ++ [x], t.s = 1 := fun L x h1 h2 t ht => by
    rcases List.mem_append.1 ht with h | h
    · exact h1 t h
    · rw [List.mem_singleton] at h; rw [h]; exact h2
  rcases Nat.lt_or_ge k p.code.length with hkl | hkl
  · conv => whnf
    repeat' (first|((first|((first|(apply zY;intro hg)|apply zZ);first|exact stA|exact stB|exact stC)|(refine zW ?_ ?_;exact gA)|refine zH rfl ?_|refine zA ?_|refine zI bA ?_|refine zI rfl ?_|refine sB ?_|(refine zO ?_ ?_ ?_;omega;omega)|(refine zP ?_ ?_ ?_;omega;omega)|refine zM rfl ?_|(refine zQ ?_ ?_ ?_;omega;omega)|(refine zR ?_ ?_;omega)|(refine zI ?_ ?_;exact nA)|refine sS ?_|refine sF ?_|refine n0 ?_|refine sD ?_|intro _|refine zG ?_);conv=>whnf)|(refine zX (fun hc => ?_) (fun hc => ?_)<;>(try simp only [SY] at hc)<;>first|omega|(conv=>whnf)))
    refine PDraw.tree tt_ok mixed [0, 0, 2, 6, 15, 0, 0, 64, 192, 511, 1023, 2047] [0, 1, 5, 6] [2, 3, 4, 7, 8, 9, 10, 11] [.tok ta, .tok tb, .box b1 (prX p)] ?_
    conv => whnf
    conv => whnf
    repeat' (first|((first|(refine PMake.row (by omega) (by omega) (by omega) (by show _ * 8 ≤ _; omega) rfl fun _ _ _ => ?_)|((first|(apply zY;intro hg)|apply zZ);first|exact stA|exact stB|((conv=>whnf);(repeat ((first|(refine zW ?_ ?_;exact gA)|(refine And.intro ?_ ?_)|refine zA ?_|refine zH rfl ?_|refine zB ?_|refine sG ?_|intro _);conv=>whnf));first|exact pS|exact pL|exact pE))|(refine zW ?_ ?_;exact gA)|refine zH rfl ?_|refine zA ?_|refine zI bA ?_|refine zI rfl ?_|refine sB ?_|(refine zO ?_ ?_ ?_;omega;omega)|(refine zP ?_ ?_ ?_;omega;omega)|refine zM rfl ?_|(refine zQ ?_ ?_ ?_;omega;omega)|(refine zR ?_ ?_;omega)|(refine zI ?_ ?_;exact nA)|refine sS ?_|(refine And.intro ?_ ?_)|refine sF ?_|refine n0 ?_|refine sD ?_|intro _|refine zG ?_);conv=>whnf)|(refine zX (fun hc => ?_) (fun hc => ?_)<;>(try simp only [SY] at hc)<;>first|omega|(conv=>whnf)))
    all_goals try exact trivial
    all_goals
      rw [hrow]
      first
     |(rename_i xB eB hsnB _ _ xA eA hsnA _ _ ya ea yb eb; have hz_ : xA.s + xB.s + ya.s + yb.s = xA.s + xB.s + ya.s + yb.s := rfl; clear hz_; exact loopTo (k + 1, (TA ++ [xA], ya), (TB ++ [xB], yb)) ⟨by show k + 1 ≤ _; omega, ea, eb, by dsimp only; rw [List.length_append, List.length_singleton]; omega, by dsimp only; rw [List.length_append, List.length_singleton]; omega, hall TA xA hsa hsnA, hall TB xB hsb hsnB⟩ (by show p.code.length - (k + 1) < p.code.length - k; omega) (by (conv=>whnf); (repeat' (first|exact trivial|refine And.intro ?_ ?_|exact Wk.refl _|exact Wk.int (by omega))); first|done|fail) (hp := PickL.mk5 (x := .row xA ((List.replicate (r / 64 + 1) 0).map (PV.int .u64))) (y := .row xB ((List.replicate (r / 64 + 1) 0).map (PV.int .u64))) inferInstance (by dsimp only; rw [List.replicate_succ' (n := k)]; exact dyn_snoc (by rw [List.length_replicate]; exact hla) (by rw [List.length_replicate]; exact hlb))))
     |(rename_i xB eB hsnB xA eA hsnA _ _ _ _ ya ea yb eb; have hz_ : xA.s + xB.s + ya.s + yb.s = xA.s + xB.s + ya.s + yb.s := rfl; clear hz_; exact loopTo (k + 1, (TA ++ [xA], ya), (TB ++ [xB], yb)) ⟨by show k + 1 ≤ _; omega, ea, eb, by dsimp only; rw [List.length_append, List.length_singleton]; omega, by dsimp only; rw [List.length_append, List.length_singleton]; omega, hall TA xA hsa hsnA, hall TB xB hsb hsnB⟩ (by show p.code.length - (k + 1) < p.code.length - k; omega) (by (conv=>whnf); (repeat' (first|exact trivial|refine And.intro ?_ ?_|exact Wk.refl _|exact Wk.int (by omega))); first|done|fail) (hp := PickL.mk5 (x := .row xA ((List.replicate (r / 64 + 1) 0).map (PV.int .u64))) (y := .row xB ((List.replicate (r / 64 + 1) 0).map (PV.int .u64))) inferInstance (by dsimp only; rw [List.replicate_succ' (n := k)]; exact dyn_snoc (by rw [List.length_replicate]; exact hla) (by rw [List.length_replicate]; exact hlb))))
     |(rename_i xB eB hsnB xA eA hsnA _ _ _ _ ya ea yb eb; have hz_ : xA.s + xB.s + ya.s + yb.s = xA.s + xB.s + ya.s + yb.s := rfl; clear hz_; exact loopTo (k + 1, (TA ++ [xA], ya), (TB ++ [xB], yb)) ⟨by show k + 1 ≤ _; omega, ea, eb, by dsimp only; rw [List.length_append, List.length_singleton]; omega, by dsimp only; rw [List.length_append, List.length_singleton]; omega, hall TA xA hsa hsnA, hall TB xB hsb hsnB⟩ (by show p.code.length - (k + 1) < p.code.length - k; omega) (by (conv=>whnf); (repeat' (first|exact trivial|refine And.intro ?_ ?_|exact Wk.refl _|exact Wk.int (by omega))); first|done|fail) (hp := PickL.mk5 (x := .row xA ((List.replicate (r / 64 + 1) 0).map (PV.int .u64))) (y := .row xB ((List.replicate (r / 64 + 1) 0).map (PV.int .u64))) inferInstance (by dsimp only; rw [List.replicate_succ' (n := k)]; exact dyn_snoc (by rw [List.length_replicate]; exact hla) (by rw [List.length_replicate]; exact hlb))))
     |(rename_i xB eB hsnB xA eA hsnA _ _ ya ea _ _ yb eb; have hz_ : xA.s + xB.s + ya.s + yb.s = xA.s + xB.s + ya.s + yb.s := rfl; clear hz_; exact loopTo (k + 1, (TA ++ [xA], ya), (TB ++ [xB], yb)) ⟨by show k + 1 ≤ _; omega, ea, eb, by dsimp only; rw [List.length_append, List.length_singleton]; omega, by dsimp only; rw [List.length_append, List.length_singleton]; omega, hall TA xA hsa hsnA, hall TB xB hsb hsnB⟩ (by show p.code.length - (k + 1) < p.code.length - k; omega) (by (conv=>whnf); (repeat' (first|exact trivial|refine And.intro ?_ ?_|exact Wk.refl _|exact Wk.int (by omega))); first|done|fail) (hp := PickL.mk5 (x := .row xA ((List.replicate (r / 64 + 1) 0).map (PV.int .u64))) (y := .row xB ((List.replicate (r / 64 + 1) 0).map (PV.int .u64))) inferInstance (by dsimp only; rw [List.replicate_succ' (n := k)]; exact dyn_snoc (by rw [List.length_replicate]; exact hla) (by rw [List.length_replicate]; exact hlb))))
     |(rename_i xA eA hsnA xB eB hsnB _ _ _ _ ya ea yb eb; have hz_ : xA.s + xB.s + ya.s + yb.s = xA.s + xB.s + ya.s + yb.s := rfl; clear hz_; exact loopTo (k + 1, (TA ++ [xA], ya), (TB ++ [xB], yb)) ⟨by show k + 1 ≤ _; omega, ea, eb, by dsimp only; rw [List.length_append, List.length_singleton]; omega, by dsimp only; rw [List.length_append, List.length_singleton]; omega, hall TA xA hsa hsnA, hall TB xB hsb hsnB⟩ (by show p.code.length - (k + 1) < p.code.length - k; omega) (by (conv=>whnf); (repeat' (first|exact trivial|refine And.intro ?_ ?_|exact Wk.refl _|exact Wk.int (by omega))); first|done|fail) (hp := PickL.mk5 (x := .row xA ((List.replicate (r / 64 + 1) 0).map (PV.int .u64))) (y := .row xB ((List.replicate (r / 64 + 1) 0).map (PV.int .u64))) inferInstance (by dsimp only; rw [List.replicate_succ' (n := k)]; exact dyn_snoc (by rw [List.length_replicate]; exact hla) (by rw [List.length_replicate]; exact hlb))))
     |(rename_i xA eA hsnA xB eB hsnB _ _ _ _ ya ea yb eb; have hz_ : xA.s + xB.s + ya.s + yb.s = xA.s + xB.s + ya.s + yb.s := rfl; clear hz_; exact loopTo (k + 1, (TA ++ [xA], ya), (TB ++ [xB], yb)) ⟨by show k + 1 ≤ _; omega, ea, eb, by dsimp only; rw [List.length_append, List.length_singleton]; omega, by dsimp only; rw [List.length_append, List.length_singleton]; omega, hall TA xA hsa hsnA, hall TB xB hsb hsnB⟩ (by show p.code.length - (k + 1) < p.code.length - k; omega) (by (conv=>whnf); (repeat' (first|exact trivial|refine And.intro ?_ ?_|exact Wk.refl _|exact Wk.int (by omega))); first|done|fail) (hp := PickL.mk5 (x := .row xA ((List.replicate (r / 64 + 1) 0).map (PV.int .u64))) (y := .row xB ((List.replicate (r / 64 + 1) 0).map (PV.int .u64))) inferInstance (by dsimp only; rw [List.replicate_succ' (n := k)]; exact dyn_snoc (by rw [List.length_replicate]; exact hla) (by rw [List.length_replicate]; exact hlb))))
     |(rename_i xA eA hsnA xB eB hsnB _ _ ya ea _ _ yb eb; have hz_ : xA.s + xB.s + ya.s + yb.s = xA.s + xB.s + ya.s + yb.s := rfl; clear hz_; exact loopTo (k + 1, (TA ++ [xA], ya), (TB ++ [xB], yb)) ⟨by show k + 1 ≤ _; omega, ea, eb, by dsimp only; rw [List.length_append, List.length_singleton]; omega, by dsimp only; rw [List.length_append, List.length_singleton]; omega, hall TA xA hsa hsnA, hall TB xB hsb hsnB⟩ (by show p.code.length - (k + 1) < p.code.length - k; omega) (by (conv=>whnf); (repeat' (first|exact trivial|refine And.intro ?_ ?_|exact Wk.refl _|exact Wk.int (by omega))); first|done|fail) (hp := PickL.mk5 (x := .row xA ((List.replicate (r / 64 + 1) 0).map (PV.int .u64))) (y := .row xB ((List.replicate (r / 64 + 1) 0).map (PV.int .u64))) inferInstance (by dsimp only; rw [List.replicate_succ' (n := k)]; exact dyn_snoc (by rw [List.length_replicate]; exact hla) (by rw [List.length_replicate]; exact hlb))))
     |(rename_i xA eA hsnA _ _ xB eB hsnB _ _ ya ea yb eb; have hz_ : xA.s + xB.s + ya.s + yb.s = xA.s + xB.s + ya.s + yb.s := rfl; clear hz_; exact loopTo (k + 1, (TA ++ [xA], ya), (TB ++ [xB], yb)) ⟨by show k + 1 ≤ _; omega, ea, eb, by dsimp only; rw [List.length_append, List.length_singleton]; omega, by dsimp only; rw [List.length_append, List.length_singleton]; omega, hall TA xA hsa hsnA, hall TB xB hsb hsnB⟩ (by show p.code.length - (k + 1) < p.code.length - k; omega) (by (conv=>whnf); (repeat' (first|exact trivial|refine And.intro ?_ ?_|exact Wk.refl _|exact Wk.int (by omega))); first|done|fail) (hp := PickL.mk5 (x := .row xA ((List.replicate (r / 64 + 1) 0).map (PV.int .u64))) (y := .row xB ((List.replicate (r / 64 + 1) 0).map (PV.int .u64))) inferInstance (by dsimp only; rw [List.replicate_succ' (n := k)]; exact dyn_snoc (by rw [List.length_replicate]; exact hla) (by rw [List.length_replicate]; exact hlb))))
     |(rename_i xA eA hsnA _ _ xB eB hsnB ya ea _ _ yb eb; have hz_ : xA.s + xB.s + ya.s + yb.s = xA.s + xB.s + ya.s + yb.s := rfl; clear hz_; exact loopTo (k + 1, (TA ++ [xA], ya), (TB ++ [xB], yb)) ⟨by show k + 1 ≤ _; omega, ea, eb, by dsimp only; rw [List.length_append, List.length_singleton]; omega, by dsimp only; rw [List.length_append, List.length_singleton]; omega, hall TA xA hsa hsnA, hall TB xB hsb hsnB⟩ (by show p.code.length - (k + 1) < p.code.length - k; omega) (by (conv=>whnf); (repeat' (first|exact trivial|refine And.intro ?_ ?_|exact Wk.refl _|exact Wk.int (by omega))); first|done|fail) (hp := PickL.mk5 (x := .row xA ((List.replicate (r / 64 + 1) 0).map (PV.int .u64))) (y := .row xB ((List.replicate (r / 64 + 1) 0).map (PV.int .u64))) inferInstance (by dsimp only; rw [List.replicate_succ' (n := k)]; exact dyn_snoc (by rw [List.length_replicate]; exact hla) (by rw [List.length_replicate]; exact hlb))))
     |(rename_i xA eA hsnA _ _ ya ea xB eB hsnB _ _ yb eb; have hz_ : xA.s + xB.s + ya.s + yb.s = xA.s + xB.s + ya.s + yb.s := rfl; clear hz_; exact loopTo (k + 1, (TA ++ [xA], ya), (TB ++ [xB], yb)) ⟨by show k + 1 ≤ _; omega, ea, eb, by dsimp only; rw [List.length_append, List.length_singleton]; omega, by dsimp only; rw [List.length_append, List.length_singleton]; omega, hall TA xA hsa hsnA, hall TB xB hsb hsnB⟩ (by show p.code.length - (k + 1) < p.code.length - k; omega) (by (conv=>whnf); (repeat' (first|exact trivial|refine And.intro ?_ ?_|exact Wk.refl _|exact Wk.int (by omega))); first|done|fail) (hp := PickL.mk5 (x := .row xA ((List.replicate (r / 64 + 1) 0).map (PV.int .u64))) (y := .row xB ((List.replicate (r / 64 + 1) 0).map (PV.int .u64))) inferInstance (by dsimp only; rw [List.replicate_succ' (n := k)]; exact dyn_snoc (by rw [List.length_replicate]; exact hla) (by rw [List.length_replicate]; exact hlb))))
  obtain rfl : k = p.code.length := by omega
  generalize hB0 : List.replicate p.code.length (List.replicate (r / 64 + 1) (0 : Int)) = Z
  have hzg : ∀ j : Nat, j < p.code.length → Z.getD j [] = List.replicate (r / 64 + 1) 0 := fun j hj => by
    rw [← hB0, List.getD_eq_getElem?_getD, List.getElem?_replicate_of_lt hj]; rfl
  have hzn : ∀ j : Nat, ¬j < p.code.length → Z.getD j [] = [] := fun j hj => by
    rw [← hB0, List.getD_eq_getElem?_getD, List.getElem?_eq_none (by rw [List.length_replicate]; omega)]; rfl
  have hzb : ∀ j q : Nat, bitB (Z.getD j []) q = false := fun j q => by
    unfold bitB
    by_cases hj : j < p.code.length
    · rw [hzg j hj]
      by_cases hq : q / 64 < r / 64 + 1
      · rw [List.getD_eq_getElem?_getD, List.getElem?_replicate_of_lt hq]; exact bitN_zero _
      · rw [List.getD_eq_getElem?_getD, List.getElem?_eq_none (by rw [List.length_replicate]; omega)]; exact bitN_zero _
    · rw [hzn j hj]; exact bitN_zero _
  have hokZ : OkA p.code (r / 64 + 1) Z := ⟨by rw [← hB0, List.length_replicate], fun j hj => by rw [hzg j hj, List.length_replicate], fun j w hw => by
    by_cases hj : j < p.code.length
    · rw [hzg j hj] at hw
      rw [List.eq_of_mem_replicate hw]
      exact ⟨by decide, by decide⟩
    · rw [hzn j hj] at hw; cases hw⟩
  have hid : ∀ j (hj : j < p.code.length), insD p.code j = p.code[j] := fun j hj => by unfold insD; rw [Int.toNat_natCast, List.getD_eq_getElem?_getD, List.getElem?_eq_getElem hj]; rfl
  have hus : ∀ j (hj : j < p.code.length), ACallP Tryz.prog 135 [.agg p.code[j].cells] (.tup [slI (namedL p.code[j]), .int .i64 (givesI p.code[j])]) := fun j hj => uses17_c _ (hx _ (List.getElem_mem hj)) (h0 _ (List.getElem_mem hj))
  have hgo : ∀ j (hj : j < p.code.length), ACallP Tryz.prog 137 [.agg p.code[j].cells, .int .i64 (j : Int)] (slI (nxtL p.code[j] j)) := fun j hj => goes17_c _ j (by omega)
  clear hrow hall
  conv => whnf
  repeat' (first|((first|((first|(apply zY;intro hg)|apply zZ);first|exact stA|exact stB|((conv=>whnf);(repeat ((first|(refine zW ?_ ?_;exact gA)|refine pC (hus _ (by omega)) wR ?_|refine pC (hgo _ (by omega)) wR ?_|refine zA ?_|refine zH rfl ?_|refine zB ?_|refine sG ?_|intro _);conv=>whnf));first|exact pS|exact pL|exact pE))|(refine zW ?_ ?_;exact gA)|refine zH rfl ?_|refine zA ?_|refine zI bA ?_|refine zI rfl ?_|refine sB ?_|(refine zO ?_ ?_ ?_;omega;omega)|(refine zP ?_ ?_ ?_;omega;omega)|refine zM rfl ?_|(refine zQ ?_ ?_ ?_;omega;omega)|(refine zR ?_ ?_;omega)|(refine zI ?_ ?_;exact nA)|refine sS ?_|refine pC (hus _ (by omega)) wR ?_|refine pC (hgo _ (by omega)) wR ?_|refine sF ?_|refine n0 ?_|refine sD ?_|intro _|refine zG ?_);conv=>whnf)|(refine zX (fun hc => ?_) (fun hc => ?_)<;>(try simp only [SY] at hc)<;>first|omega|(conv=>whnf)))
  refine PLoop.over [5, 6, 7, 8, 10, 40, 41, 42, 43, 44, 45, 46, 47, 48, 49, 50, 51, 52, 53, 54, 55, 56, 57, 58, 59, 60, 61, 62, 63] (fun x : Nat × WsL => [(40, .int .i64 x.1)]) (fun x => .box b1 (prX p) :: dynE TA x.2 TB Z) (fun x => x.1 ≤ p.code.length ∧ OkA p.code (r / 64 + 1) x.2 ∧ SndA p.code x.2 ∧ ∀ (j q : Nat), j < x.1 → (q : Int) ∈ namedL (insD p.code j) → bitB (x.2.getD j []) q = true) (fun x => p.code.length - x.1) (0, Z) ⟨Nat.zero_le _, hokZ, fun j q _ h => (by rw [hzb] at h; cases h), fun j q h => absurd h (Nat.not_lt_zero _)⟩ wA ?_
  rintro ⟨k, A⟩ ⟨hk, hokA, hsnA, huse⟩
  dsimp only at hk hokA hsnA huse ⊢
  rcases Nat.lt_or_ge k p.code.length with hkl | hkl
  · have hkA : k < A.length := by rw [hokA.len]; exact hkl
    have hkT : k < TA.length := by omega
    have hnm := hp.nm _ (List.getElem_mem hkl)
    have hnl := namedL_len p.code[k]
    have hxk := hx _ (List.getElem_mem hkl)
    have hidk := hid k hkl
    conv => whnf
    repeat' (first|((first|((first|(apply zY;intro hg)|apply zZ);first|exact stA|exact stB|((conv=>whnf);(repeat ((first|(refine zW ?_ ?_;exact gA)|refine pC (hus _ (by omega)) wR ?_|refine pC (hgo _ (by omega)) wR ?_|refine zA ?_|refine zH rfl ?_|refine zB ?_|refine sG ?_|intro _);conv=>whnf));first|exact pS|exact pL|exact pE))|(refine zW ?_ ?_;exact gA)|refine zH rfl ?_|refine zA ?_|refine zI bA ?_|refine zI rfl ?_|refine sB ?_|(refine zO ?_ ?_ ?_;omega;omega)|(refine zP ?_ ?_ ?_;omega;omega)|refine zM rfl ?_|(refine zQ ?_ ?_ ?_;omega;omega)|(refine zR ?_ ?_;omega)|(refine zI ?_ ?_;exact nA)|refine sS ?_|refine pC (hus _ (by omega)) wR ?_|refine pC (hgo _ (by omega)) wR ?_|refine sF ?_|refine n0 ?_|refine sD ?_|intro _|refine zG ?_);conv=>whnf)|(refine zX (fun hc => ?_) (fun hc => ?_)<;>(try simp only [SY] at hc)<;>first|omega|(conv=>whnf)))
    rename_i b6 _
    generalize hN : namedL p.code[k] = nl at *
    refine PLoop.over [10, 52, 53, 54, 55, 56, 57, 58, 59, 60, 61, 62] (fun x : Nat × WsL => [(52, .int .i64 x.1)]) (fun x => .box b6 [.int .i64 p.code[k].op, .int .i64 p.code[k].d, .int .i64 p.code[k].a, .int .i64 p.code[k].b, slI p.code[k].l] :: .box b1 (prX p) :: dynE TA x.2 TB Z)
      (fun x => x.1 ≤ nl.length ∧ OkA p.code (r / 64 + 1) x.2 ∧ SndA p.code x.2 ∧ (∀ (j q : Nat), j < k → (q : Int) ∈ namedL (insD p.code j) → bitB (x.2.getD j []) q = true) ∧ ∀ q : Nat, (q : Int) ∈ nl.take x.1 → bitB (x.2.getD k []) q = true) (fun x => nl.length - x.1) (0, A) ⟨Nat.zero_le _, hokA, hsnA, huse, fun q h => (by simp at h)⟩ wA ?_
    rintro ⟨m, A2⟩ ⟨hm, hokA2, hsnA2, huse2, hvse2⟩
    dsimp only at hm hokA2 hsnA2 huse2 hvse2 ⊢
    have hkA2 : k < A2.length := by rw [hokA2.len]; exact hkl
    rcases Nat.lt_or_ge m nl.length with hml | hml
    · have hq := hnm nl[m] (List.getElem_mem hml)
      obtain ⟨q, hqe⟩ := Int.eq_ofNat_of_zero_le hq.1
      have hwl := hokA2.wl k hkl
      have hqr : q / 64 < (A2.getD k []).length := by rw [hwl]; omega
      have hadd := add17_c TA[k] (A2.getD k []) q (hsa _ (List.getElem_mem hkT)) hqr (by omega)
      conv => whnf
      repeat' (first|((first|((first|(apply zY;intro hg)|apply zZ);first|exact stA|exact stB|((conv=>whnf);(repeat ((first|(refine zW ?_ ?_;exact gA)|refine pC (hus _ (by omega)) wR ?_|refine pC (hgo _ (by omega)) wR ?_|refine zA ?_|refine zH rfl ?_|refine zB ?_|refine sG ?_|intro _);conv=>whnf));first|exact pS|exact pL|exact pE))|(refine zW ?_ ?_;exact gA)|refine zH rfl ?_|refine zA ?_|refine zI bA ?_|refine zI rfl ?_|refine sB ?_|(refine zO ?_ ?_ ?_;omega;omega)|(refine zP ?_ ?_ ?_;omega;omega)|refine zM rfl ?_|(refine zQ ?_ ?_ ?_;omega;omega)|(refine zR ?_ ?_;omega)|(refine zI ?_ ?_;exact nA)|refine sS ?_|refine pC (hus _ (by omega)) wR ?_|refine pC (hgo _ (by omega)) wR ?_|refine sF ?_|refine n0 ?_|refine sD ?_|intro _|refine zG ?_);conv=>whnf)|(refine zX (fun hc => ?_) (fun hc => ?_)<;>(try simp only [SY] at hc)<;>first|omega|(conv=>whnf)))
      rw [hqe]
      refine PCall.go (hp := ⟨Perm.in2 (dyn_pickA hkT hkA2)⟩) hadd (WkT.refl _) ?_
      rintro _ _ ⟨rfl, rfl⟩
      conv => whnf
      repeat' (first|((first|((first|(apply zY;intro hg)|apply zZ);first|exact stA|exact stB|((conv=>whnf);(repeat ((first|(refine zW ?_ ?_;exact gA)|refine pC (hus _ (by omega)) wR ?_|refine pC (hgo _ (by omega)) wR ?_|refine zA ?_|refine zH rfl ?_|refine zB ?_|refine sG ?_|intro _);conv=>whnf));first|exact pS|exact pL|exact pE))|(refine zW ?_ ?_;exact gA)|refine zH rfl ?_|refine zA ?_|refine zI bA ?_|refine zI rfl ?_|refine sB ?_|(refine zO ?_ ?_ ?_;omega;omega)|(refine zP ?_ ?_ ?_;omega;omega)|refine zM rfl ?_|(refine zQ ?_ ?_ ?_;omega;omega)|(refine zR ?_ ?_;omega)|(refine zI ?_ ?_;exact nA)|refine sS ?_|refine pC (hus _ (by omega)) wR ?_|refine pC (hgo _ (by omega)) wR ?_|refine sF ?_|refine n0 ?_|refine sD ?_|intro _|refine zG ?_);conv=>whnf)|(refine zX (fun hc => ?_) (fun hc => ?_)<;>(try simp only [SY] at hc)<;>first|omega|(conv=>whnf)))
      have hsg := set_get hkA2 (addW (A2.getD k []) q)
      have hnk : (q : Int) ∈ namedL (insD p.code k) := by rw [hidk, hN, ← hqe]; exact List.getElem_mem hml
      exact loopTo (m + 1, A2.set k (addW (A2.getD k []) q)) ⟨by show m + 1 ≤ _; omega, hokA2.set hkl (by rw [addW_len]; exact hwl) (addW_ok (hokA2.ok k) q), fun j q2 hj hb => by
          dsimp only at hb
          rw [hsg] at hb
          split at hb
          · rename_i e
            subst e
            rw [addW_bit (hokA2.ok k) hqr, Bool.or_eq_true, decide_eq_true_eq] at hb
            rcases hb with hb | hb
            · exact hsnA2 k q2 hj hb
            · subst hb; exact .use (by omega) (by omega) hnk
          · exact hsnA2 j q2 hj hb, fun j q2 hj hn2 => by
          dsimp only
          rw [hsg, if_neg (by omega)]
          exact huse2 j q2 hj hn2, fun q2 hq2 => by
          dsimp only at hq2 ⊢
          rw [hsg, if_pos rfl, addW_bit (hokA2.ok k) hqr, Bool.or_eq_true, decide_eq_true_eq]
          rw [List.take_succ_eq_append_getElem hml, List.mem_append, List.mem_singleton, hqe] at hq2
          rcases hq2 with h | h
          · exact .inl (hvse2 q2 h)
          · exact .inr (by omega)⟩ (by show nl.length - (m + 1) < nl.length - m; omega) wA (hp := ⟨Perm.out2 (dyn_setA hkT hkA2)⟩)
    · conv => whnf
      repeat' (first|((first|((first|(apply zY;intro hg)|apply zZ);first|exact stA|exact stB|((conv=>whnf);(repeat ((first|(refine zW ?_ ?_;exact gA)|refine pC (hus _ (by omega)) wR ?_|refine pC (hgo _ (by omega)) wR ?_|refine zA ?_|refine zH rfl ?_|refine zB ?_|refine sG ?_|intro _);conv=>whnf));first|exact pS|exact pL|exact pE))|(refine zW ?_ ?_;exact gA)|refine zH rfl ?_|refine zA ?_|refine zI bA ?_|refine zI rfl ?_|refine sB ?_|(refine zO ?_ ?_ ?_;omega;omega)|(refine zP ?_ ?_ ?_;omega;omega)|refine zM rfl ?_|(refine zQ ?_ ?_ ?_;omega;omega)|(refine zR ?_ ?_;omega)|(refine zI ?_ ?_;exact nA)|refine sS ?_|refine pC (hus _ (by omega)) wR ?_|refine pC (hgo _ (by omega)) wR ?_|refine sF ?_|refine n0 ?_|refine sD ?_|intro _|refine zG ?_);conv=>whnf)|(refine zX (fun hc => ?_) (fun hc => ?_)<;>(try simp only [SY] at hc)<;>first|omega|(conv=>whnf)))
      exact loopTo (k + 1, A2) ⟨by show k + 1 ≤ _; omega, hokA2, hsnA2, fun j q2 hj hn2 => by
        dsimp only at hj ⊢
        by_cases e : j = k
        · subst e
          rw [hidk, hN] at hn2
          exact hvse2 q2 (by rw [List.take_of_length_le (by omega)]; exact hn2)
        · exact huse2 j q2 (by omega) hn2⟩ (by show p.code.length - (k + 1) < p.code.length - k; omega) wA
  · have huse3 : UseA p.code A := fun j q hj hn2 => huse j q (by omega) hn2
    clear huse
    conv => whnf
    repeat' (first|((first|((first|(apply zY;intro hg)|apply zZ);first|exact stA|exact stB|((conv=>whnf);(repeat ((first|(refine zW ?_ ?_;exact gA)|refine pC (hus _ (by omega)) wR ?_|refine pC (hgo _ (by omega)) wR ?_|refine zA ?_|refine zH rfl ?_|refine zB ?_|refine sG ?_|intro _);conv=>whnf));first|exact pS|exact pL|exact pE))|(refine zW ?_ ?_;exact gA)|refine zH rfl ?_|refine zA ?_|refine zI bA ?_|refine zI rfl ?_|refine sB ?_|(refine zO ?_ ?_ ?_;omega;omega)|(refine zP ?_ ?_ ?_;omega;omega)|refine zM rfl ?_|(refine zQ ?_ ?_ ?_;omega;omega)|(refine zR ?_ ?_;omega)|(refine zI ?_ ?_;exact nA)|refine sS ?_|refine pC (hus _ (by omega)) wR ?_|refine pC (hgo _ (by omega)) wR ?_|refine sF ?_|refine n0 ?_|refine sD ?_|intro _|refine zG ?_);conv=>whnf)|(refine zX (fun hc => ?_) (fun hc => ?_)<;>(try simp only [SY] at hc)<;>first|omega|(conv=>whnf)))
    refine PLoop.over [11, 12, 14, 15, 16, 64, 65, 66, 67, 68, 69, 70, 71, 72, 73, 74, 75, 76, 77, 78, 79, 80, 81, 82, 83, 84, 85, 86, 87, 88, 89, 90, 91, 92, 93, 94, 95, 96, 97, 98, 99, 100, 101, 102, 103, 104, 105, 106, 107, 108, 109, 110, 111, 112, 113, 114, 115, 116, 117, 118, 119, 120] (fun x : WsL × WsL => []) (fun x => .box b1 (prX p) :: dynE TA x.1 TB x.2) (fun x => OkA p.code (r / 64 + 1) x.1 ∧ OkA p.code (r / 64 + 1) x.2 ∧ SndA p.code x.1 ∧ SndB p.code x.2 ∧ UseA p.code x.1) (fun x => zers x.1 + zers x.2) (A, Z) ⟨hokA, hokZ, hsnA, fun j q _ h => (by rw [hzb] at h; cases h), huse3⟩ wA ?_
    rintro ⟨A0, B0⟩ ⟨hokA0, hokB0, hsnA0, hsnB0, huse0⟩
    dsimp only at hokA0 hokB0 hsnA0 hsnB0 huse0 ⊢
    conv => whnf
    repeat' (first|((first|((first|(apply zY;intro hg)|apply zZ);first|exact stA|exact stB|((conv=>whnf);(repeat ((first|(refine zW ?_ ?_;exact gA)|refine pC (hus _ (by omega)) wR ?_|refine pC (hgo _ (by omega)) wR ?_|refine zA ?_|refine zH rfl ?_|refine zB ?_|refine sG ?_|intro _);conv=>whnf));first|exact pS|exact pL|exact pE))|(refine zW ?_ ?_;exact gA)|refine zH rfl ?_|refine zA ?_|refine zI bA ?_|refine zI rfl ?_|refine sB ?_|(refine zO ?_ ?_ ?_;omega;omega)|(refine zP ?_ ?_ ?_;omega;omega)|refine zM rfl ?_|(refine zQ ?_ ?_ ?_;omega;omega)|(refine zR ?_ ?_;omega)|(refine zI ?_ ?_;exact nA)|refine sS ?_|refine pC (hus _ (by omega)) wR ?_|refine pC (hgo _ (by omega)) wR ?_|refine sF ?_|refine n0 ?_|refine sD ?_|intro _|refine zG ?_);conv=>whnf)|(refine zX (fun hc => ?_) (fun hc => ?_)<;>(try simp only [SY] at hc)<;>first|omega|(conv=>whnf)))
    refine PLoop.over [11, 12, 14, 15, 16, 68, 69, 70, 71, 72, 73, 74, 75, 76, 77, 78, 79, 80, 81, 82, 83, 84, 85, 86, 87, 88, 89, 90, 91, 92, 93, 94, 95, 96, 97, 98, 99, 100, 101, 102, 103, 104, 105, 106, 107, 108, 109, 110, 111, 112, 113, 114, 115, 116, 117, 118] (fun x : Bool × Nat × WsL × WsL => [(11, .bool x.1), (12, .int .i64 ((x.2.1 : Int) - 1))]) (fun x => .box b1 (prX p) :: dynE TA x.2.2.1 TB x.2.2.2)
      (fun x => x.2.1 ≤ p.code.length ∧ OkA p.code (r / 64 + 1) x.2.2.1 ∧ OkA p.code (r / 64 + 1) x.2.2.2 ∧ SndA p.code x.2.2.1 ∧ SndB p.code x.2.2.2 ∧ UseA p.code x.2.2.1 ∧ (x.1 = false → x.2.2.1 = A0 ∧ x.2.2.2 = B0 ∧ ∀ k, x.2.1 ≤ k → k < p.code.length → CloA p.code A0 B0 k) ∧ (x.1 = true → zers x.2.2.1 + zers x.2.2.2 < zers A0 + zers B0)) (fun x => x.2.1)
      (false, p.code.length, A0, B0) ⟨Nat.le_refl _, hokA0, hokB0, hsnA0, hsnB0, huse0, fun _ => ⟨rfl, rfl, fun k h1 h2 => absurd h2 (by dsimp only at h1; omega)⟩, fun h => by (cases h)⟩ wA ?_
    rintro ⟨ch, i, A, B⟩ ⟨hi, hokA, hokB, hsnA, hsnB, huse, hcf, hct⟩
    dsimp only at hi hokA hokB hsnA hsnB huse hcf hct ⊢
    rcases Nat.eq_zero_or_pos i with hi0 | hi0
    · subst hi0
      have hrr : p.regs.toNat = r := by omega
      conv => whnf
      repeat' (first|((first|((first|(apply zY;intro hg)|apply zZ);first|exact stA|exact stB|((conv=>whnf);(repeat ((first|(refine zW ?_ ?_;exact gA)|refine pC (hus _ (by omega)) wR ?_|refine pC (hgo _ (by omega)) wR ?_|refine zA ?_|refine zH rfl ?_|refine zB ?_|refine sG ?_|intro _);conv=>whnf));first|exact pS|exact pL|exact pE))|(refine zW ?_ ?_;exact gA)|refine zH rfl ?_|refine zA ?_|refine zI bA ?_|refine zI rfl ?_|refine sB ?_|(refine zO ?_ ?_ ?_;omega;omega)|(refine zP ?_ ?_ ?_;omega;omega)|refine zM rfl ?_|(refine zQ ?_ ?_ ?_;omega;omega)|(refine zR ?_ ?_;omega)|(refine zI ?_ ?_;exact nA)|refine sS ?_|refine pC (hus _ (by omega)) wR ?_|refine pC (hgo _ (by omega)) wR ?_|refine sF ?_|refine n0 ?_|refine sD ?_|intro _|refine zG ?_);conv=>whnf)|(refine zX (fun hc => ?_) (fun hc => ?_)<;>(try simp only [SY] at hc)<;>first|omega|(conv=>whnf)))
      · obtain ⟨rfl, rfl, hcl⟩ := hcf hc
        exact PRet.gen (y := .tup [.sl 1 (TA.map PV.ms) none, .sl 1 (TB.map PV.ms) none]) (Γ' := dynE TA A TB B) (Wk.tup (.cons (Wk.tok _ _ _) (.cons (Wk.tok _ _ _) .nil))) ⟨TA, TB, A, B, rfl, rfl, hla, hlb, hsa, hsb, solP hp (by rw [hrr]; exact hokA) (by rw [hrr]; exact hokB) hsnA hsnB huse (fun k hk => hcl k (Nat.zero_le _) hk)⟩
      · exact loopTo (A, B) ⟨hokA, hokB, hsnA, hsnB, huse⟩ (hct hc) wA
    · obtain ⟨k, rfl⟩ : ∃ k, i = k + 1 := ⟨i - 1, by omega⟩
      have hkl2 : k < p.code.length := by omega
      have hk1 : ((k + 1 : Nat) : Int) - 1 = (k : Int) := by omega
      rw [hk1]
      have hidk := hid k hkl2
      have hnr := hp.nx k hkl2
      have hgv := hp.gv _ (List.getElem_mem hkl2)
      have hkT : k < TB.length := by omega
      have hkTA : k < TA.length := by omega
      have hkA : k < A.length := by rw [hokA.len]; exact hkl2
      have hkA0 : k < A0.length := by rw [hokA0.len]; exact hkl2
      have hnl2 := nxtL_len p.code[k] k
      conv => whnf
      repeat' (first|((first|((first|(apply zY;intro hg)|apply zZ);first|exact stA|exact stB|((conv=>whnf);(repeat ((first|(refine zW ?_ ?_;exact gA)|refine pC (hus _ (by omega)) wR ?_|refine pC (hgo _ (by omega)) wR ?_|refine zA ?_|refine zH rfl ?_|refine zB ?_|refine sG ?_|intro _);conv=>whnf));first|exact pS|exact pL|exact pE))|(refine zW ?_ ?_;exact gA)|refine zH rfl ?_|refine zA ?_|refine zI bA ?_|refine zI rfl ?_|refine sB ?_|(refine zO ?_ ?_ ?_;omega;omega)|(refine zP ?_ ?_ ?_;omega;omega)|refine zM rfl ?_|(refine zQ ?_ ?_ ?_;omega;omega)|(refine zR ?_ ?_;omega)|(refine zI ?_ ?_;exact nA)|refine sS ?_|refine pC (hus _ (by omega)) wR ?_|refine pC (hgo _ (by omega)) wR ?_|refine sF ?_|refine n0 ?_|refine sD ?_|intro _|refine zG ?_);conv=>whnf)|(refine zX (fun hc => ?_) (fun hc => ?_)<;>(try simp only [SY] at hc)<;>first|omega|(conv=>whnf)))
      generalize hNX : nxtL p.code[k] k = nx at *
      refine PLoop.over [11, 14, 80, 81, 82, 83, 84, 85, 86, 87, 88, 89, 90, 91, 92, 93, 94, 95, 96] (fun x : Bool × Nat × WsL => [(11, .bool x.1), (80, .int .i64 x.2.1)]) (fun x => .box b1 (prX p) :: dynE TA A TB x.2.2)
        (fun x => x.2.1 ≤ nx.length ∧ OkA p.code (r / 64 + 1) x.2.2 ∧ SndB p.code x.2.2 ∧ (x.1 = false → A = A0 ∧ x.2.2 = B0 ∧ (∀ k', k + 1 ≤ k' → k' < p.code.length → CloA p.code A0 B0 k') ∧ ∀ j : Nat, (j : Int) ∈ nx.take x.2.1 → ∀ q, bitB (A0.getD j []) q = true → bitB (B0.getD k []) q = true) ∧ (x.1 = true → zers A + zers x.2.2 < zers A0 + zers B0)) (fun x => nx.length - x.2.1)
        (ch, 0, B) ⟨Nat.zero_le _, hokB, hsnB, fun h => ⟨(hcf h).1, (hcf h).2.1, (hcf h).2.2, fun j hj => (by simp at hj)⟩, hct⟩ wA ?_
      clear hcf hct
      rintro ⟨c5, e, B5⟩ ⟨he, hokB5, hsnB5, hcf, hct⟩
      dsimp only at he hokB5 hsnB5 hcf hct ⊢
      have hkB5 : k < B5.length := by rw [hokB5.len]; exact hkl2
      have hwB := hokB5.wl k hkl2
      have hwA := hokA.wl k hkl2
      rcases Nat.lt_or_ge e nx.length with hel | hel
      · have hjr := hnr nx[e] (List.getElem_mem hel)
        obtain ⟨j, hje⟩ := Int.eq_ofNat_of_zero_le hjr.1
        have hjl : j < p.code.length := by omega
        have hjA : j < A.length := by rw [hokA.len]; exact hjl
        have hjT : j < TA.length := by omega
        have hwj := hokA.wl j hjl
        have hjm : (j : Int) ∈ nxtL (insD p.code k) k := by rw [hidk, hNX, ← hje]; exact List.getElem_mem hel
        have hjoin := join17_c TB[k] TA[j] (B5.getD k []) (A.getD j []) (-1) (hsb _ (List.getElem_mem hkT)) (hsa _ (List.getElem_mem hjT)) (by rw [hwB, hwj]) (hokB5.ok k) (hokA.ok j) (by omega)
        conv => whnf
        repeat' (first|((first|((first|(apply zY;intro hg)|apply zZ);first|exact stA|exact stB|((conv=>whnf);(repeat ((first|(refine zW ?_ ?_;exact gA)|refine pC (hus _ (by omega)) wR ?_|refine pC (hgo _ (by omega)) wR ?_|refine zA ?_|refine zH rfl ?_|refine zB ?_|refine sG ?_|intro _);conv=>whnf));first|exact pS|exact pL|exact pE))|(refine zW ?_ ?_;exact gA)|refine zH rfl ?_|refine zA ?_|refine zI bA ?_|refine zI rfl ?_|refine sB ?_|(refine zO ?_ ?_ ?_;omega;omega)|(refine zP ?_ ?_ ?_;omega;omega)|refine zM rfl ?_|(refine zQ ?_ ?_ ?_;omega;omega)|(refine zR ?_ ?_;omega)|(refine zI ?_ ?_;exact nA)|refine sS ?_|refine pC (hus _ (by omega)) wR ?_|refine pC (hgo _ (by omega)) wR ?_|refine sF ?_|refine n0 ?_|refine sD ?_|intro _|refine zG ?_);conv=>whnf)|(refine zX (fun hc => ?_) (fun hc => ?_)<;>(try simp only [SY] at hc)<;>first|omega|(conv=>whnf)))
        rw [hje]
        refine PDraw.split tt_ok mixed [0, 0, 3, 7, 0, 0, 48, 112, 255, 511, 1023, 2047, 4095] [0, 1, 2, 3, 4, 5, 6, 7] [8] [9, 10, 11, 12] [.row TB[k] ((B5.getD k []).map (PV.int .u64)), .row TA[j] ((A.getD j []).map (PV.int .u64))] (by kernel_rfl) (hp := ⟨dyn_two hjT hjA hkT hkB5⟩) ?_
        conv => whnf
        conv => whnf
        repeat' (first|((first|((first|(apply zY;intro hg)|apply zZ);first|exact stA|exact stB|((conv=>whnf);(repeat ((first|(refine zW ?_ ?_;exact gA)|refine pC (hus _ (by omega)) wR ?_|refine pC (hgo _ (by omega)) wR ?_|refine zA ?_|refine zH rfl ?_|refine zB ?_|refine sG ?_|intro _);conv=>whnf));first|exact pS|exact pL|exact pE))|(refine zW ?_ ?_;exact gA)|refine zH rfl ?_|refine zA ?_|refine zI bA ?_|refine zI rfl ?_|refine sB ?_|(refine zO ?_ ?_ ?_;omega;omega)|(refine zP ?_ ?_ ?_;omega;omega)|refine zM rfl ?_|(refine zQ ?_ ?_ ?_;omega;omega)|(refine zR ?_ ?_;omega)|(refine zI ?_ ?_;exact nA)|refine sS ?_|refine pC (hus _ (by omega)) wR ?_|refine pC (hgo _ (by omega)) wR ?_|refine sF ?_|refine n0 ?_|refine sD ?_|intro _|refine zG ?_);conv=>whnf)|(refine zX (fun hc => ?_) (fun hc => ?_)<;>(try simp only [SY] at hc)<;>first|omega|(conv=>whnf)))
        refine PCall.go hjoin (WkT.refl _) ?_
        rintro _ _ ⟨rfl, rfl⟩
        conv => whnf
        repeat' (first|((first|((first|(apply zY;intro hg)|apply zZ);first|exact stA|exact stB|((conv=>whnf);(repeat ((first|(refine zW ?_ ?_;exact gA)|refine pC (hus _ (by omega)) wR ?_|refine pC (hgo _ (by omega)) wR ?_|refine zA ?_|refine zH rfl ?_|refine zB ?_|refine sG ?_|intro _);conv=>whnf));first|exact pS|exact pL|exact pE))|(refine zW ?_ ?_;exact gA)|refine zH rfl ?_|refine zA ?_|refine zI bA ?_|refine zI rfl ?_|refine sB ?_|(refine zO ?_ ?_ ?_;omega;omega)|(refine zP ?_ ?_ ?_;omega;omega)|refine zM rfl ?_|(refine zQ ?_ ?_ ?_;omega;omega)|(refine zR ?_ ?_;omega)|(refine zI ?_ ?_;exact nA)|refine sS ?_|refine pC (hus _ (by omega)) wR ?_|refine pC (hgo _ (by omega)) wR ?_|refine sF ?_|refine n0 ?_|refine sD ?_|intro _|refine zG ?_);conv=>whnf)|(refine zX (fun hc => ?_) (fun hc => ?_)<;>(try simp only [SY] at hc)<;>first|omega|(conv=>whnf)))
        have hsg := set_get hkB5 (joinW (B5.getD k []) (A.getD j []) (-1))
        have hzs := zers_set B5 k (joinW (B5.getD k []) (A.getD j []) (-1)) hkB5
        have hcs := fun h => join_same (but := -1) (hokB5.ok k) (hokA.ok j) h
        have hcl := fun h => zer_join_lt (but := -1) (hokB5.ok k) (hokA.ok j) h
        have hjb := fun q hq => joinW_bit (hokB5.ok k) (hokA.ok j) (-1) (q := q) hq
        exact loopTo (chgB (B5.getD k []) (A.getD j []) (-1) (B5.getD k []).length || c5, e + 1, B5.set k (joinW (B5.getD k []) (A.getD j []) (-1)))
          ⟨by show e + 1 ≤ nx.length; omega, hokB5.set hkl2 (by rw [joinW_len]; exact hwB) (joinW_ok _ _ _), fun k' q hk' hb => by
            dsimp only at hb
            rw [hsg] at hb
            split at hb
            · rename_i ek
              subst ek
              have hq := bit_lt hb
              rw [joinW_len] at hq
              rw [hjb q hq, Bool.or_eq_true, Bool.and_eq_true] at hb
              rcases hb with hb | hb
              · exact hsnB5 k q hk' hb
              · exact ⟨j, hjm, hsnA j q hjl hb.1⟩
            · exact hsnB5 k' q hk' hb, fun hf => by
            dsimp only at hf ⊢
            rw [Bool.or_eq_false_iff] at hf
            obtain ⟨g1, g2, g3, g4⟩ := hcf hf.2
            obtain ⟨j1, j2⟩ := hcs hf.1
            refine ⟨g1, by rw [j1, set_self hkB5]; exact g2, g3, fun j' hj' q hq => ?_⟩
            rw [List.take_succ_eq_append_getElem hel, List.mem_append, List.mem_singleton, hje] at hj'
            rcases hj' with hj' | hj'
            · exact g4 j' hj' q hq
            · have ej : j' = j := by omega
              rw [ej, ← g1] at hq
              rw [← g2]
              exact j2 q (by have := bit_lt hq; rw [hwj] at this; rw [hwB]; exact this) hq (by omega), fun ht => by
            dsimp only at ht ⊢
            cases hg : chgB (B5.getD k []) (A.getD j []) (-1) (B5.getD k []).length with
            | true =>
              have h1 := hcl hg
              cases hc5 : c5 with
              | true => have := hct hc5; omega
              | false =>
                obtain ⟨g1, g2, _, _⟩ := hcf hc5
                have e1 : zers A0 = zers A := by rw [g1]
                have e2 : zers B0 = zers B5 := by rw [g2]
                omega
            | false =>
              rw [hg, Bool.false_or] at ht
              rw [(hcs hg).1, set_self hkB5]
              exact hct ht⟩ (by show nx.length - (e + 1) < nx.length - e; omega) wA (hp := ⟨dyn_setB2 hjT hjA hkT hkB5⟩)
      · have hjoin := join17_c TA[k] TB[k] (A.getD k []) (B5.getD k []) (givesI p.code[k]) (hsa _ (List.getElem_mem hkTA)) (hsb _ (List.getElem_mem hkT)) (by rw [hwB, hwA]) (hokA.ok k) (hokB5.ok k) (by omega)
        conv => whnf
        repeat' (first|((first|((first|(apply zY;intro hg)|apply zZ);first|exact stA|exact stB|((conv=>whnf);(repeat ((first|(refine zW ?_ ?_;exact gA)|refine pC (hus _ (by omega)) wR ?_|refine pC (hgo _ (by omega)) wR ?_|refine zA ?_|refine zH rfl ?_|refine zB ?_|refine sG ?_|intro _);conv=>whnf));first|exact pS|exact pL|exact pE))|(refine zW ?_ ?_;exact gA)|refine zH rfl ?_|refine zA ?_|refine zI bA ?_|refine zI rfl ?_|refine sB ?_|(refine zO ?_ ?_ ?_;omega;omega)|(refine zP ?_ ?_ ?_;omega;omega)|refine zM rfl ?_|(refine zQ ?_ ?_ ?_;omega;omega)|(refine zR ?_ ?_;omega)|(refine zI ?_ ?_;exact nA)|refine sS ?_|refine pC (hus _ (by omega)) wR ?_|refine pC (hgo _ (by omega)) wR ?_|refine sF ?_|refine n0 ?_|refine sD ?_|intro _|refine zG ?_);conv=>whnf)|(refine zX (fun hc => ?_) (fun hc => ?_)<;>(try simp only [SY] at hc)<;>first|omega|(conv=>whnf)))
        refine PDraw.split tt_ok mixed [0, 0, 3, 7, 0, 0, 48, 112, 0, 511, 1023, 2047, 4095, 8191] [0, 1, 2, 3, 4, 5, 6, 7, 8] [9] [10, 11, 12, 13] [.row TA[k] ((A.getD k []).map (PV.int .u64)), .row TB[k] ((B5.getD k []).map (PV.int .u64))] (by kernel_rfl) (hp := ⟨dyn_two' hkTA hkA hkT hkB5⟩) ?_
        conv => whnf
        conv => whnf
        repeat' (first|((first|((first|(apply zY;intro hg)|apply zZ);first|exact stA|exact stB|((conv=>whnf);(repeat ((first|(refine zW ?_ ?_;exact gA)|refine pC (hus _ (by omega)) wR ?_|refine pC (hgo _ (by omega)) wR ?_|refine zA ?_|refine zH rfl ?_|refine zB ?_|refine sG ?_|intro _);conv=>whnf));first|exact pS|exact pL|exact pE))|(refine zW ?_ ?_;exact gA)|refine zH rfl ?_|refine zA ?_|refine zI bA ?_|refine zI rfl ?_|refine sB ?_|(refine zO ?_ ?_ ?_;omega;omega)|(refine zP ?_ ?_ ?_;omega;omega)|refine zM rfl ?_|(refine zQ ?_ ?_ ?_;omega;omega)|(refine zR ?_ ?_;omega)|(refine zI ?_ ?_;exact nA)|refine sS ?_|refine pC (hus _ (by omega)) wR ?_|refine pC (hgo _ (by omega)) wR ?_|refine sF ?_|refine n0 ?_|refine sD ?_|intro _|refine zG ?_);conv=>whnf)|(refine zX (fun hc => ?_) (fun hc => ?_)<;>(try simp only [SY] at hc)<;>first|omega|(conv=>whnf)))
        refine PCall.go hjoin (WkT.refl _) ?_
        rintro _ _ ⟨rfl, rfl⟩
        conv => whnf
        repeat' (first|((first|((first|(apply zY;intro hg)|apply zZ);first|exact stA|exact stB|((conv=>whnf);(repeat ((first|(refine zW ?_ ?_;exact gA)|refine pC (hus _ (by omega)) wR ?_|refine pC (hgo _ (by omega)) wR ?_|refine zA ?_|refine zH rfl ?_|refine zB ?_|refine sG ?_|intro _);conv=>whnf));first|exact pS|exact pL|exact pE))|(refine zW ?_ ?_;exact gA)|refine zH rfl ?_|refine zA ?_|refine zI bA ?_|refine zI rfl ?_|refine sB ?_|(refine zO ?_ ?_ ?_;omega;omega)|(refine zP ?_ ?_ ?_;omega;omega)|refine zM rfl ?_|(refine zQ ?_ ?_ ?_;omega;omega)|(refine zR ?_ ?_;omega)|(refine zI ?_ ?_;exact nA)|refine sS ?_|refine pC (hus _ (by omega)) wR ?_|refine pC (hgo _ (by omega)) wR ?_|refine sF ?_|refine n0 ?_|refine sD ?_|intro _|refine zG ?_);conv=>whnf)|(refine zX (fun hc => ?_) (fun hc => ?_)<;>(try simp only [SY] at hc)<;>first|omega|(conv=>whnf)))
        have hsg := set_get hkA (joinW (A.getD k []) (B5.getD k []) (givesI p.code[k]))
        have hzs := zers_set A k (joinW (A.getD k []) (B5.getD k []) (givesI p.code[k])) hkA
        have hcs := fun (h : chgB (A.getD k []) (B5.getD k []) (givesI (p.code[k]'hkl2)) (A.getD k []).length = false) => join_same (but := givesI (p.code[k]'hkl2)) (hokA.ok k) (hokB5.ok k) h
        have hcl := fun (h : chgB (A.getD k []) (B5.getD k []) (givesI (p.code[k]'hkl2)) (A.getD k []).length = true) => zer_join_lt (but := givesI (p.code[k]'hkl2)) (hokA.ok k) (hokB5.ok k) h
        have hjb := fun (q : Nat) (hq : q < 64 * (A.getD k []).length) => joinW_bit (hokA.ok k) (hokB5.ok k) (givesI (p.code[k]'hkl2)) (q := q) hq
        exact loopTo (chgB (A.getD k []) (B5.getD k []) (givesI p.code[k]) (A.getD k []).length || c5, k, A.set k (joinW (A.getD k []) (B5.getD k []) (givesI p.code[k])), B5)
          ⟨by show k ≤ _; omega, hokA.set hkl2 (by rw [joinW_len]; exact hwA) (joinW_ok _ _ _), hokB5, fun k' q hk' hb => by
            dsimp only at hb
            rw [hsg] at hb
            split at hb
            · rename_i ek
              subst ek
              have hq := bit_lt hb
              rw [joinW_len] at hq
              rw [hjb q hq, Bool.or_eq_true, Bool.and_eq_true, decide_eq_true_eq] at hb
              rcases hb with hb | hb
              · exact hsnA k q hk' hb
              · obtain ⟨j, hj, hR⟩ := hsnB5 k q hk' hb.1
                exact .step (by omega) (by omega) (by rw [hidk]; exact hb.2) hj hR
            · exact hsnA k' q hk' hb, hsnB5, fun k' q hk' hn2 => by
            dsimp only
            rw [hsg]
            have h1 := huse k' q hk' hn2
            split
            · rename_i ek
              subst ek
              rw [hjb q (bit_lt h1), h1, Bool.true_or]
            · exact h1, fun hf => by
            dsimp only at hf ⊢
            rw [Bool.or_eq_false_iff] at hf
            obtain ⟨g1, g2, g3, g4⟩ := hcf hf.2
            obtain ⟨j1, j2⟩ := hcs hf.1
            refine ⟨by rw [j1, set_self hkA]; exact g1, g2, fun k' hk1' hk2' => ?_⟩
            by_cases ek : k' = k
            · subst ek
              refine ⟨fun j hj q hq => g4 j ?_ q hq, fun q hd hb => ?_⟩
              · rw [List.take_of_length_le hel]
                rw [hidk, hNX] at hj
                exact hj
              · rw [← g2] at hb
                rw [← g1]
                rw [hidk] at hd
                exact j2 q (by have := bit_lt hb; rw [hwB] at this; rw [hwA]; exact this) hb hd
            · exact g3 k' (by omega) hk2', fun ht => by
            dsimp only at ht ⊢
            cases hg : chgB (A.getD k []) (B5.getD k []) (givesI p.code[k]) (A.getD k []).length with
            | true =>
              have h1 := hcl hg
              cases hc5 : c5 with
              | true => have := hct hc5; omega
              | false =>
                obtain ⟨g1, g2, _, _⟩ := hcf hc5
                have e1 : zers A0 = zers A := by rw [g1]
                have e2 : zers B0 = zers B5 := by rw [g2]
                omega
            | false =>
              rw [hg, Bool.false_or] at ht
              rw [(hcs hg).1, set_self hkA]
              exact hct ht⟩ (by show k < k + 1; omega) wA (hp := ⟨dyn_setA2 hkTA hkA hkT hkB5⟩)
end Go.Cb
namespace Go.Cb
open Go.Proofs
set_option maxRecDepth 100000
set_option maxHeartbeats 4000000
theorem PCall.pureFzL {P : Program} {f : FuncId} {args args' : List PV} {y : PV} {Γ Γ0 : List Ent} {K : PV → List Ent → Prop} (t : Tok) (es : List PV) [hp : PickE Γ (.row t es) Γ0] (hw : WkFT t es args args') (h : ACallP P f args' y) (k : K y (.tok t :: Γ0)) : PCall P f args Γ K := by
 have h1 := ACall.frame h (Γ := .tok t :: Γ0) (Γ2 := .tok t :: Γ0) (List.Perm.refl _)
 refine ⟨.inl (ACall.weak (Weak.freezeRow (hp := hp) hw) ⟨h1.1, fun w0 F M w vs hS hT => (h1.2 w0 F M w vs hS hT).mono ?_⟩)⟩
 rintro e w' ⟨v, F', y', Γ', e1, e2, e3, e4, Γ1', rfl, rfl⟩
 refine ⟨v, F', _, _, e1, e2, ?_, e4, k⟩
 refine e3.sub ?_
 rw [List.append_assoc]
 exact List.sublist_append_right _ _
theorem chk_op {u : Unt} (h0 : chkU u = 0) : ∀ p ∈ u.procs, ∀ x ∈ p.code, 0 ≤ x.op ∧ x.op ≤ 22 := fun p hp x hx => by
 have h1 := (chk_no h0 p hp).2.2 x hx
 unfold fitB at h1
 rw [Bool.and_eq_true] at h1
 have h2 := h1.1
 unfold fitA at h2
 rw [Bool.and_eq_true, Bool.and_eq_true] at h2
 have h3 := h2.1.1
 refine Classical.byContradiction fun hc => ?_
 have : (partsL x.op).2 = false := by
  unfold partsL
  repeat (first|rw [if_neg (by omega)])
 rw [this] at h3
 cases h3
theorem wrong17_c (u : Unt) (n : Nat) (hn : n < u.procs.length) (h0 : chkU u = 0) : ACallP Tryz.prog 77 [.agg u.cells, .int .i64 n] (.int .i64 0) := by
 have hch := check_u u
 rw [h0] at hch
 refine ACall.of_body tt_ok Tryz.func77 rfl rfl (n := 19) rfl rfl ?_
 conv => whnf
 repeat' (first|((first|((first|(apply zY;intro hg)|apply zZ);first|exact stA|exact stB|((conv=>whnf);(repeat ((first|(refine zW ?_ ?_;exact gA)|refine pC (hch) wR ?_|refine zA ?_|refine zH rfl ?_|refine zB ?_|refine sG ?_|intro _);conv=>whnf));first|exact pS|exact pL|exact pE))|(refine zW ?_ ?_;exact gA)|refine zH rfl ?_|refine zA ?_|refine zI bA ?_|refine zI rfl ?_|refine sB ?_|(refine zO ?_ ?_ ?_;omega;omega)|(refine zP ?_ ?_ ?_;omega;omega)|refine zM rfl ?_|(refine zQ ?_ ?_ ?_;omega;omega)|(refine zR ?_ ?_;omega)|(refine zI ?_ ?_;exact nA)|refine sS ?_|refine pC (hch) wR ?_|refine sF ?_|refine n0 ?_|refine sD ?_|intro _|refine zG ?_);conv=>whnf)|(refine zX (fun hc => ?_) (fun hc => ?_)<;>(try simp only [SY] at hc)<;>first|omega|(conv=>whnf)))
 exact PRet.pure (Wk.refl _)
theorem rows_last {x b7 b2 : Ent} {RA RB : List Ent} : (x :: (RA ++ RB ++ [b7, b2])).Perm ((x :: b7 :: RB) ++ (b2 :: RA)) := by
 rw [List.cons_append, List.cons_append]
 refine List.Perm.cons _ ?_
 refine List.perm_append_comm.trans ?_
 show (b7 :: b2 :: (RA ++ RB)).Perm _
 refine List.Perm.cons _ ?_
 refine List.Perm.trans ?_ List.perm_middle.symm
 exact List.perm_append_comm.cons _
theorem rows_fst {x b7 b2 : Ent} {D D' : List Ent} (h : D.Perm (x :: D')) : (D ++ [b7, b2]).Perm ([x] ++ (b7 :: b2 :: D')) := by
 refine List.perm_append_comm.trans ?_
 exact Perm.in2 h
theorem rowsE_drop {T : List Tok} {W : WsL} {k : Nat} (h1 : k < T.length) (h2 : k < W.length) : rowsE (T.drop k) (W.drop k) = .row T[k] ((W.getD k []).map (PV.int .u64)) :: rowsE (T.drop (k + 1)) (W.drop (k + 1)) := by
 rw [drop_at h1, drop_at h2, rowsE, gW_get h2]
theorem afterL_c (u : Unt) (hu : Lim u) (h0 : chkU u = 0) (n : Nat) (hn : n < u.procs.length) : ACallP Tryz.prog 37 [.agg u.cells, .int .i64 n] (.tup [.sl 1 ((aftP u.procs[n]).map slI) none, .int .i64 0]) := by
 have hp := prF h0 u.procs[n] (List.getElem_mem hn)
 have hxp : ∀ x ∈ u.procs[n].code, x.l.length ≤ 1000000 := fun x hx => by have := (hu.2 _ (List.getElem_mem hn)).2 x hx; omega
 have hcl := (hu.2 u.procs[n] (List.getElem_mem hn)).1
 have hrg := hp.rg
 have hop := chk_op h0 u.procs[n] (List.getElem_mem hn)
 have hso := solved_c u.procs[n] hp hxp (fun x hx => (hop x hx).1)
 refine ACall.of_body tt_ok Tryz.func37 rfl rfl (n := 44) rfl rfl ?_
 conv => whnf
 repeat' (first|((first|((first|(apply zY;intro hg)|apply zZ);first|exact stA|exact stB|((conv=>whnf);(repeat ((first|(refine zW ?_ ?_;exact gA)|refine pC (wrong17_c u n hn h0) wR ?_|refine zA ?_|refine zH rfl ?_|refine zB ?_|refine sG ?_|intro _);conv=>whnf));first|exact pS|exact pL|exact pE))|(refine zW ?_ ?_;exact gA)|refine zH rfl ?_|refine zA ?_|refine zI bA ?_|refine zI rfl ?_|refine sB ?_|(refine zO ?_ ?_ ?_;omega;omega)|(refine zP ?_ ?_ ?_;omega;omega)|refine zM rfl ?_|(refine zQ ?_ ?_ ?_;omega;omega)|(refine zR ?_ ?_;omega)|(refine zI ?_ ?_;exact nA)|refine sS ?_|refine pC (wrong17_c u n hn h0) wR ?_|refine sF ?_|refine n0 ?_|refine sD ?_|intro _|refine zG ?_);conv=>whnf)|(refine zX (fun hc => ?_) (fun hc => ?_)<;>(try simp only [SY] at hc)<;>first|omega|(conv=>whnf)))
 refine PCall.go hso (WkT.refl _) ?_
 rintro _ _ ⟨TA, TB, A, B, rfl, rfl, hla, hlb, hsa, hsb, hkA, hkB, hbA, hbB⟩
 rw [appE_eq]
 conv => whnf
 repeat' (first|((first|((first|(apply zY;intro hg)|apply zZ);first|exact stA|exact stB|((conv=>whnf);(repeat ((first|(refine zW ?_ ?_;exact gA)|refine pC (wrong17_c u n hn h0) wR ?_|refine zA ?_|refine zH rfl ?_|refine zB ?_|refine sG ?_|intro _);conv=>whnf));first|exact pS|exact pL|exact pE))|(refine zW ?_ ?_;exact gA)|refine zH rfl ?_|refine zA ?_|refine zI bA ?_|refine zI rfl ?_|refine sB ?_|(refine zO ?_ ?_ ?_;omega;omega)|(refine zP ?_ ?_ ?_;omega;omega)|refine zM rfl ?_|(refine zQ ?_ ?_ ?_;omega;omega)|(refine zR ?_ ?_;omega)|(refine zI ?_ ?_;exact nA)|refine sS ?_|refine pC (wrong17_c u n hn h0) wR ?_|refine sF ?_|refine n0 ?_|refine sD ?_|intro _|refine zG ?_);conv=>whnf)|(refine zX (fun hc => ?_) (fun hc => ?_)<;>(try simp only [SY] at hc)<;>first|omega|(conv=>whnf)))
 rename_i b2 b7 _
 refine PLoop.ghost (Ghost.nil 1 23 _) ?_
 refine PLoop.over [10, 12, 31, 32, 33, 34, 35, 36, 37, 38, 39, 40, 41, 42] (fun x : Nat × List (List Int) × Tok => [(10, .sl 1 (x.2.1.map slI) (some x.2.2)), (31, .int .i64 x.1)]) (fun x => .tok x.2.2 :: .box b7 (prX u.procs[n]) :: rowsE (TB.drop x.1) (B.drop x.1)) (fun x => x.1 ≤ u.procs[n].code.length ∧ x.2.2.e = 23 ∧ x.2.1 = aftF u.procs[n].code u.procs[n].regs.toNat x.1) (fun x => u.procs[n].code.length - x.1) (0, [], nilTok 1 23) ⟨Nat.zero_le _, rfl, rfl⟩ wA (hp := ⟨rows_last⟩) ?_
 rintro ⟨k, out, t⟩ ⟨hk, hte, ho⟩
 dsimp only at hk hte ho ⊢
 have hol := aftF_len u.procs[n].code u.procs[n].regs.toNat k
 rw [← ho] at hol
 rcases Nat.lt_or_ge k u.procs[n].code.length with hkl | hkl
 ·have hkT : k < TB.length := by omega
  have hkB2 : k < B.length := by rw [hkB.len]; exact hkl
  have hid : insD u.procs[n].code k = u.procs[n].code[k] := by unfold insD; rw [Int.toNat_natCast, List.getD_eq_getElem?_getD, List.getElem?_eq_getElem hkl]; rfl
  have hwl := hkB.wl k hkl
  have hli := list17_c (B.getD k []) u.procs[n].regs.toNat (hkB.ok k) (by rw [hwl]; omega) (by omega)
  have hrn : ((u.procs[n].regs.toNat : Nat) : Int) = u.procs[n].regs := by omega
  rw [hrn] at hli
  have hll : lstB (B.getD k []) u.procs[n].regs.toNat = liveF u.procs[n].code u.procs[n].regs.toNat (nxtL (insD u.procs[n].code k) k) := list_live hp nxtL_len (by rw [hid]; exact hp.nx k hkl) (fun q => hbB k q hkl)
  have hlz := lstB_len (B.getD k []) u.procs[n].regs.toNat
  rw [rowsE_drop hkT hkB2]
  conv => whnf
  repeat' (first|((first|((first|(apply zY;intro hg)|apply zZ);first|exact stA|exact stB|((conv=>whnf);(repeat ((first|(refine zW ?_ ?_;exact gA)|refine pC (wrong17_c u n hn h0) wR ?_|refine zA ?_|refine zH rfl ?_|refine zB ?_|refine sG ?_|intro _);conv=>whnf));first|exact pS|exact pL|exact pE))|(refine zW ?_ ?_;exact gA)|refine zH rfl ?_|refine zA ?_|refine zI bA ?_|refine zI rfl ?_|refine sB ?_|(refine zO ?_ ?_ ?_;omega;omega)|(refine zP ?_ ?_ ?_;omega;omega)|refine zM rfl ?_|(refine zQ ?_ ?_ ?_;omega;omega)|(refine zR ?_ ?_;omega)|(refine zI ?_ ?_;exact nA)|refine sS ?_|refine pC (wrong17_c u n hn h0) wR ?_|refine sF ?_|refine n0 ?_|refine sD ?_|intro _|refine zG ?_);conv=>whnf)|(refine zX (fun hc => ?_) (fun hc => ?_)<;>(try simp only [SY] at hc)<;>first|omega|(conv=>whnf)))
  refine PCall.pureFzL TB[k] _ (args' := [slU (B.getD k []), .int .i64 u.procs[n].regs]) (.cons (WkF.ms' (hsb _ (List.getElem_mem hkT))) (.cons (WkF.of (Wk.refl _)) .nil)) hli ?_
  conv => whnf
  repeat' (first|((first|((first|(apply zY;intro hg)|apply zZ);first|exact stA|exact stB|((conv=>whnf);(repeat ((first|(refine zW ?_ ?_;exact gA)|refine pC (wrong17_c u n hn h0) wR ?_|refine zA ?_|refine zH rfl ?_|refine zB ?_|refine sG ?_|intro _);conv=>whnf));first|exact pS|exact pL|exact pE))|(refine zW ?_ ?_;exact gA)|refine zH rfl ?_|refine zA ?_|refine zI bA ?_|refine zI rfl ?_|refine sB ?_|(refine zO ?_ ?_ ?_;omega;omega)|(refine zP ?_ ?_ ?_;omega;omega)|refine zM rfl ?_|(refine zQ ?_ ?_ ?_;omega;omega)|(refine zR ?_ ?_;omega)|(refine zI ?_ ?_;exact nA)|refine sS ?_|refine pC (wrong17_c u n hn h0) wR ?_|refine sF ?_|refine n0 ?_|refine sD ?_|intro _|refine zG ?_);conv=>whnf)|(refine zX (fun hc => ?_) (fun hc => ?_)<;>(try simp only [SY] at hc)<;>first|omega|(conv=>whnf)))
  rename_i t3 ht3
  exact loopTo (k + 1, out ++ [lstB (B.getD k []) u.procs[n].regs.toNat], t3) ⟨by show k + 1 ≤ _; omega, ht3, by dsimp only; rw [aftF_succ, ← hll, ho]⟩ (by show u.procs[n].code.length - (k + 1) < u.procs[n].code.length - k; omega) wA
 ·conv => whnf
  repeat' (first|((first|((first|(apply zY;intro hg)|apply zZ);first|exact stA|exact stB|((conv=>whnf);(repeat ((first|(refine zW ?_ ?_;exact gA)|refine pC (wrong17_c u n hn h0) wR ?_|refine zA ?_|refine zH rfl ?_|refine zB ?_|refine sG ?_|intro _);conv=>whnf));first|exact pS|exact pL|exact pE))|(refine zW ?_ ?_;exact gA)|refine zH rfl ?_|refine zA ?_|refine zI bA ?_|refine zI rfl ?_|refine sB ?_|(refine zO ?_ ?_ ?_;omega;omega)|(refine zP ?_ ?_ ?_;omega;omega)|refine zM rfl ?_|(refine zQ ?_ ?_ ?_;omega;omega)|(refine zR ?_ ?_;omega)|(refine zI ?_ ?_;exact nA)|refine sS ?_|refine pC (wrong17_c u n hn h0) wR ?_|refine sF ?_|refine n0 ?_|refine sD ?_|intro _|refine zG ?_);conv=>whnf)|(refine zX (fun hc => ?_) (fun hc => ?_)<;>(try simp only [SY] at hc)<;>first|omega|(conv=>whnf)))
  obtain rfl : k = u.procs[n].code.length := by omega
  subst ho
  exact PRet.pure (Wk.tup (.cons (Wk.tok _ _ _) (.cons (Wk.refl _) .nil)))
theorem beginL_c (u : Unt) (hu : Lim u) (h0 : chkU u = 0) (n : Nat) (hn : n < u.procs.length) : ACallP Tryz.prog 70 [.agg u.cells, .int .i64 n] (.tup [slI (begP u.procs[n]), .int .i64 0]) := by
 have hp := prF h0 u.procs[n] (List.getElem_mem hn)
 have hxp : ∀ x ∈ u.procs[n].code, x.l.length ≤ 1000000 := fun x hx => by have := (hu.2 _ (List.getElem_mem hn)).2 x hx; omega
 have hcl := (hu.2 u.procs[n] (List.getElem_mem hn)).1
 have hrg := hp.rg
 have hln := hp.ln
 have hop := chk_op h0 u.procs[n] (List.getElem_mem hn)
 have hso := solved_c u.procs[n] hp hxp (fun x hx => (hop x hx).1)
 refine ACall.of_body tt_ok Tryz.func70 rfl rfl (n := 32) rfl rfl ?_
 conv => whnf
 repeat' (first|((first|((first|(apply zY;intro hg)|apply zZ);first|exact stA|exact stB|((conv=>whnf);(repeat ((first|(refine zW ?_ ?_;exact gA)|refine pC (wrong17_c u n hn h0) wR ?_|refine zA ?_|refine zH rfl ?_|refine zB ?_|refine sG ?_|intro _);conv=>whnf));first|exact pS|exact pL|exact pE))|(refine zW ?_ ?_;exact gA)|refine zH rfl ?_|refine zA ?_|refine zI bA ?_|refine zI rfl ?_|refine sB ?_|(refine zO ?_ ?_ ?_;omega;omega)|(refine zP ?_ ?_ ?_;omega;omega)|refine zM rfl ?_|(refine zQ ?_ ?_ ?_;omega;omega)|(refine zR ?_ ?_;omega)|(refine zI ?_ ?_;exact nA)|refine sS ?_|refine pC (wrong17_c u n hn h0) wR ?_|refine sF ?_|refine n0 ?_|refine sD ?_|intro _|refine zG ?_);conv=>whnf)|(refine zX (fun hc => ?_) (fun hc => ?_)<;>(try simp only [SY] at hc)<;>first|omega|(conv=>whnf)))
 refine PCall.go hso (WkT.refl _) ?_
 rintro _ _ ⟨TA, TB, A, B, rfl, rfl, hla, hlb, hsa, hsb, hkA, hkB, hbA, hbB⟩
 rw [appE_eq]
 conv => whnf
 repeat' (first|((first|((first|(apply zY;intro hg)|apply zZ);first|exact stA|exact stB|((conv=>whnf);(repeat ((first|(refine zW ?_ ?_;exact gA)|refine pC (wrong17_c u n hn h0) wR ?_|refine zA ?_|refine zH rfl ?_|refine zB ?_|refine sG ?_|intro _);conv=>whnf));first|exact pS|exact pL|exact pE))|(refine zW ?_ ?_;exact gA)|refine zH rfl ?_|refine zA ?_|refine zI bA ?_|refine zI rfl ?_|refine sB ?_|(refine zO ?_ ?_ ?_;omega;omega)|(refine zP ?_ ?_ ?_;omega;omega)|refine zM rfl ?_|(refine zQ ?_ ?_ ?_;omega;omega)|(refine zR ?_ ?_;omega)|(refine zI ?_ ?_;exact nA)|refine sS ?_|refine pC (wrong17_c u n hn h0) wR ?_|refine sF ?_|refine n0 ?_|refine sD ?_|intro _|refine zG ?_);conv=>whnf)|(refine zX (fun hc => ?_) (fun hc => ?_)<;>(try simp only [SY] at hc)<;>first|omega|(conv=>whnf)))
 rename_i b2 b7
 have hkT : 0 < TA.length := by omega
 have hkA2 : 0 < A.length := by rw [hkA.len]; omega
 have hwl := hkA.wl 0 hln.1
 have hli := list17_c (A.getD 0 []) u.procs[n].regs.toNat (hkA.ok 0) (by rw [hwl]; omega) (by omega)
 have hrn : ((u.procs[n].regs.toNat : Nat) : Int) = u.procs[n].regs := by omega
 rw [hrn] at hli
 have hll : lstB (A.getD 0 []) u.procs[n].regs.toNat = begP u.procs[n] := list_live hp nxtL_len (fun j hj => by rw [List.mem_singleton] at hj; omega) (fun q => by
  rw [hbA 0 q hln.1]
  constructor
  ·exact fun h => ⟨0, by simp, h⟩
  ·rintro ⟨j, hj, h⟩
   rw [List.mem_singleton] at hj
   rw [hj] at h
   exact h)
 rw [hll] at hli
 refine PDraw.split tt_ok mixed [0, 1, 3, 0, 8, 31, 63, 127] [0, 1, 2, 3, 4] [5] [6, 7] [.row TA[0] ((A.getD 0 []).map (PV.int .u64))] (by kernel_rfl) (hp := ⟨rows_fst (dyn_pickA hkT hkA2)⟩) ?_
 conv => whnf
 conv => whnf
 repeat' (first|((first|((first|(apply zY;intro hg)|apply zZ);first|exact stA|exact stB|((conv=>whnf);(repeat ((first|(refine zW ?_ ?_;exact gA)|refine pC (wrong17_c u n hn h0) wR ?_|refine zA ?_|refine zH rfl ?_|refine zB ?_|refine sG ?_|intro _);conv=>whnf));first|exact pS|exact pL|exact pE))|(refine zW ?_ ?_;exact gA)|refine zH rfl ?_|refine zA ?_|refine zI bA ?_|refine zI rfl ?_|refine sB ?_|(refine zO ?_ ?_ ?_;omega;omega)|(refine zP ?_ ?_ ?_;omega;omega)|refine zM rfl ?_|(refine zQ ?_ ?_ ?_;omega;omega)|(refine zR ?_ ?_;omega)|(refine zI ?_ ?_;exact nA)|refine sS ?_|refine pC (wrong17_c u n hn h0) wR ?_|refine sF ?_|refine n0 ?_|refine sD ?_|intro _|refine zG ?_);conv=>whnf)|(refine zX (fun hc => ?_) (fun hc => ?_)<;>(try simp only [SY] at hc)<;>first|omega|(conv=>whnf)))
 refine PCall.pureFzL TA[0] _ (args' := [slU (A.getD 0 []), .int .i64 u.procs[n].regs]) (.cons (WkF.ms' (hsa _ (List.getElem_mem hkT))) (.cons (WkF.of (Wk.refl _)) .nil)) hli ?_
 conv => whnf
 repeat' (first|((first|((first|(apply zY;intro hg)|apply zZ);first|exact stA|exact stB|((conv=>whnf);(repeat ((first|(refine zW ?_ ?_;exact gA)|refine pC (wrong17_c u n hn h0) wR ?_|refine zA ?_|refine zH rfl ?_|refine zB ?_|refine sG ?_|intro _);conv=>whnf));first|exact pS|exact pL|exact pE))|(refine zW ?_ ?_;exact gA)|refine zH rfl ?_|refine zA ?_|refine zI bA ?_|refine zI rfl ?_|refine sB ?_|(refine zO ?_ ?_ ?_;omega;omega)|(refine zP ?_ ?_ ?_;omega;omega)|refine zM rfl ?_|(refine zQ ?_ ?_ ?_;omega;omega)|(refine zR ?_ ?_;omega)|(refine zI ?_ ?_;exact nA)|refine sS ?_|refine pC (wrong17_c u n hn h0) wR ?_|refine sF ?_|refine n0 ?_|refine sD ?_|intro _|refine zG ?_);conv=>whnf)|(refine zX (fun hc => ?_) (fun hc => ?_)<;>(try simp only [SY] at hc)<;>first|omega|(conv=>whnf)))
 exact PRet.pure (Wk.refl _)
theorem soundL_c (u : Unt) (hu : Lim u) : ACallP Tryz.prog 35 [.agg u.cells] (.bool (sndB u)) := by
 have hch := check_u u
 by_cases h0 : chkU u = 0
 ·rw [h0] at hch
  have hbg : ∀ (n : Nat) (hn : n < u.procs.length), ACallP Tryz.prog 70 [.agg u.cells, .int .i64 (n : Int)] (.tup [slI (begP u.procs[n]), .int .i64 0]) := fun n hn => beginL_c u hu h0 n hn
  have hs : sndB u = !u.procs.any begB := by unfold sndB; rw [h0]; rfl
  refine ACall.of_body tt_ok Tryz.func35 rfl rfl (n := 39) rfl rfl ?_
  conv => whnf
  repeat' (first|((first|((first|(apply zY;intro hg)|apply zZ);first|exact stA|exact stB|((conv=>whnf);(repeat ((first|(refine zW ?_ ?_;exact gA)|refine pC (hch) wR ?_|refine pC (hbg _ (by omega)) wR ?_|refine zA ?_|refine zH rfl ?_|refine zB ?_|refine sG ?_|intro _);conv=>whnf));first|exact pS|exact pL|exact pE))|(refine zW ?_ ?_;exact gA)|refine zH rfl ?_|refine zA ?_|refine zI bA ?_|refine zI rfl ?_|refine sB ?_|(refine zO ?_ ?_ ?_;omega;omega)|(refine zP ?_ ?_ ?_;omega;omega)|refine zM rfl ?_|(refine zQ ?_ ?_ ?_;omega;omega)|(refine zR ?_ ?_;omega)|(refine zI ?_ ?_;exact nA)|refine sS ?_|refine pC (hch) wR ?_|refine pC (hbg _ (by omega)) wR ?_|refine sF ?_|refine n0 ?_|refine sD ?_|refine PDraw.sP (some 24) rfl [] [] tt_ok mixed ?_|intro _|refine zG ?_);conv=>whnf)|(refine zX (fun hc => ?_) (fun hc => ?_)<;>(try simp only [SY] at hc)<;>first|omega|(conv=>whnf)))
  refine PLoop.keep [2, 3, 4, 5, 6, 13, 14, 15, 16, 17, 18, 19, 20, 21, 22, 23, 24, 25, 26, 27, 28, 29, 30, 31, 32, 33, 34, 35, 36, 37, 38] (fun i : Nat => [(13, .int .i64 i)]) (fun i => i ≤ u.procs.length ∧ u.procs.any begB = (u.procs.drop i).any begB) (fun i => u.procs.length - i) 0 ⟨Nat.zero_le _, rfl⟩ wA ?_
  rintro i ⟨hi, he⟩
  have hbl : ∀ p ∈ u.procs, (begP p).length ≤ 20000 := fun p hp => by
   have h1 := liveF_len p.code p.regs.toNat [0]
   have h2 := (prF h0 p hp).rg
   show (liveF p.code p.regs.toNat [0]).length ≤ 20000
   omega
  rcases Nat.lt_or_ge i u.procs.length with hi2 | hi2
  ·have hbi := hbl u.procs[i] (List.getElem_mem _)
   rw [drop_at hi2, List.any_cons] at he
   have hgl : (begP u.procs[i]).getLastD 0 = (begP u.procs[i]).getD ((begP u.procs[i]).length - 1) Dfl.d := by
    rw [List.getLastD_eq_getLast?, List.getLast?_eq_getElem?, List.getD_eq_getElem?_getD]
    rfl
   have hbt : begB u.procs[i] = true ↔ ((begP u.procs[i]).length : Int) > 0 ∧ (begP u.procs[i]).getD ((begP u.procs[i]).length - 1) Dfl.d ≥ u.procs[i].args := by
    unfold begB
    rw [hgl, Bool.and_eq_true, decide_eq_true_eq, decide_eq_true_eq]
   conv => whnf
   repeat' (first|((first|((first|(apply zY;intro hg)|apply zZ);first|exact stA|exact stB|((conv=>whnf);(repeat ((first|(refine zW ?_ ?_;exact gA)|refine pC (hch) wR ?_|refine pC (hbg _ (by omega)) wR ?_|refine zA ?_|refine zH rfl ?_|refine zB ?_|refine sG ?_|intro _);conv=>whnf));first|exact pS|exact pL|exact pE))|(refine zW ?_ ?_;exact gA)|refine zH rfl ?_|refine zA ?_|refine zI bA ?_|refine zI rfl ?_|refine sB ?_|(refine zO ?_ ?_ ?_;omega;omega)|(refine zP ?_ ?_ ?_;omega;omega)|refine zM rfl ?_|(refine zQ ?_ ?_ ?_;omega;omega)|(refine zR ?_ ?_;omega)|(refine zI ?_ ?_;exact nA)|refine sS ?_|refine pC (hch) wR ?_|refine pC (hbg _ (by omega)) wR ?_|refine sF ?_|refine n0 ?_|refine sD ?_|refine PDraw.sP (some 24) rfl [] [] tt_ok mixed ?_|intro _|refine zG ?_);conv=>whnf)|(refine zX (fun hc => ?_) (fun hc => ?_)<;>(try simp only [SY] at hc)<;>first|omega|(conv=>whnf)))
   ·rw [hbt.2 hc, Bool.true_or] at he
    rw [hs, he]
    exact PRet.pure (Wk.ff rfl)
   ·rw [show begB u.procs[i] = false by rw [Bool.eq_false_iff]; intro h; have := hbt.1 h; omega, Bool.false_or] at he
    exact loopTo (i + 1) ⟨by omega, he⟩ (by show u.procs.length - (i + 1) < u.procs.length - i; omega) wA
  ·rw [List.drop_of_length_le hi2, List.any_nil] at he
   conv => whnf
   repeat' (first|((first|((first|(apply zY;intro hg)|apply zZ);first|exact stA|exact stB|((conv=>whnf);(repeat ((first|(refine zW ?_ ?_;exact gA)|refine pC (hch) wR ?_|refine pC (hbg _ (by omega)) wR ?_|refine zA ?_|refine zH rfl ?_|refine zB ?_|refine sG ?_|intro _);conv=>whnf));first|exact pS|exact pL|exact pE))|(refine zW ?_ ?_;exact gA)|refine zH rfl ?_|refine zA ?_|refine zI bA ?_|refine zI rfl ?_|refine sB ?_|(refine zO ?_ ?_ ?_;omega;omega)|(refine zP ?_ ?_ ?_;omega;omega)|refine zM rfl ?_|(refine zQ ?_ ?_ ?_;omega;omega)|(refine zR ?_ ?_;omega)|(refine zI ?_ ?_;exact nA)|refine sS ?_|refine pC (hch) wR ?_|refine pC (hbg _ (by omega)) wR ?_|refine sF ?_|refine n0 ?_|refine sD ?_|refine PDraw.sP (some 24) rfl [] [] tt_ok mixed ?_|intro _|refine zG ?_);conv=>whnf)|(refine zX (fun hc => ?_) (fun hc => ?_)<;>(try simp only [SY] at hc)<;>first|omega|(conv=>whnf)))
   rw [hs, he]
   exact PRet.pure (Wk.tt rfl)
 ·have hs : sndB u = false := by unfold sndB; rw [show (chkU u == 0) = false by simpa using h0]; rfl
  rw [hs]
  refine ACall.of_body tt_ok Tryz.func35 rfl rfl (n := 39) rfl rfl ?_
  conv => whnf
  repeat' (first|((first|((first|(apply zY;intro hg)|apply zZ);first|exact stA|exact stB|((conv=>whnf);(repeat ((first|(refine zW ?_ ?_;exact gA)|refine pC (hch) wR ?_|refine zA ?_|refine zH rfl ?_|refine zB ?_|refine sG ?_|intro _);conv=>whnf));first|exact pS|exact pL|exact pE))|(refine zW ?_ ?_;exact gA)|refine zH rfl ?_|refine zA ?_|refine zI bA ?_|refine zI rfl ?_|refine sB ?_|(refine zO ?_ ?_ ?_;omega;omega)|(refine zP ?_ ?_ ?_;omega;omega)|refine zM rfl ?_|(refine zQ ?_ ?_ ?_;omega;omega)|(refine zR ?_ ?_;omega)|(refine zI ?_ ?_;exact nA)|refine sS ?_|refine pC (hch) wR ?_|refine sF ?_|refine n0 ?_|refine sD ?_|refine PDraw.sP (some 24) rfl [] [] tt_ok mixed ?_|intro _|refine zG ?_);conv=>whnf)|(refine zX (fun hc => ?_) (fun hc => ?_)<;>(try simp only [SY] at hc)<;>first|omega|(conv=>whnf)))
  exact PRet.pure (Wk.ff rfl)
end Go.Cb
namespace Go.Cb
open Go.Proofs
set_option maxRecDepth 100000
set_option maxHeartbeats 4000000
theorem compactF_c (t : Tok) (l : List Int) (hs : t.s = 1) (hl : l.length ≤ 1000000000) : ACall Tryz.prog 120 [.ms t] [.row t (l.map (PV.int .i64))] (fun y Γ' => y = slI (Lib.compact l) ∧ Γ' = []) :=
 ACall.shift (compact_c t l hs hl) fun y Γ' ⟨t', h1, h2, e1, e2⟩ => by
  subst e1 e2
  exact ⟨slI (Lib.compact l), [], (Shift.freezeRow (hp := ⟨List.Perm.refl _⟩) (WkF.ms' h2)).trans (Shift.wk (Wk.refl _) (Γ1 := [.tok t']) (List.Perm.refl _)), rfl, rfl⟩
theorem setN_nil : setM [] = fun _ => none := by funext v; unfold setM; split <;> rfl
theorem prM_nil : prM (fun _ _ => false) = fun _ => none := by
 funext v
 unfold prM
 split
 ·split <;> rfl
 ·rfl
theorem mI_nil : mapM (PV.int .i64) (fun _ => none) = fun _ => none := by funext v; unfold mapM; split <;> rfl
theorem mH_nil : mapM hPV (hM []) = fun _ => none := by
 funext v
 unfold mapM hM
 split
 ·split <;> rfl
 ·rfl
theorem procS17_c (p : Prc) (hp : PrF p) (hI : ∀ x ∈ p.code, OkI x) (hx : ∀ x ∈ p.code, x.l.length ≤ 1000000) : ACallP Tryz.prog 66 [.agg p.cells, .sl 1 ((aftP p).map slI) none] (.agg (colP p).cells) := by
 have hrg := hp.rg
 have hag := hp.ag
 have hln := hp.ln
 have hfl : (aftP p).length = p.code.length := aftF_len ..
 have hfm : ∀ (k : Nat) (hk : k < (aftP p).length), ∀ r ∈ (aftP p)[k], 0 ≤ r ∧ r < p.regs ∧ nmdB p.code r = true := fun k hk r hr => by
  have h1 : (aftP p)[k] = liveF p.code p.regs.toNat (nxtL (insD p.code k) k) := by
   simp [aftP, aftF]
  rw [h1] at hr
  have h2 := liveF_mem hr
  refine ⟨by omega, by omega, ?_⟩
  unfold liveF at hr
  have h3 := (List.mem_filter.1 hr).2
  have hid : insD p.code k = p.code[k]'(by omega) := by unfold insD; rw [Int.toNat_natCast, List.getD_eq_getElem?_getD, List.getElem?_eq_getElem (by omega)]; rfl
  obtain ⟨j, _, hj⟩ := (needU_iff hp nxtL_len r _ (by rw [hid]; exact hp.nx k (by omega))).1 h3
  exact rch_nmd hj
 have hfk : ∀ (k : Nat) (hk : k < (aftP p).length), (aftP p)[k].length ≤ 20000 := fun k hk => by
  have h1 : (aftP p)[k] = liveF p.code p.regs.toNat (nxtL (insD p.code k) k) := by
   simp [aftP, aftF]
  rw [h1]
  have := liveF_len p.code p.regs.toNat (nxtL (insD p.code k) k)
  omega
 have hcp : colP p = ⟨p.args, p.rest, regsF (sltP p) p.args, p.code.map fun x => renI x (sltP p), (p.code.zip (aftP p)).map fun q => alvF (sltP p) (givesI q.1) q.2 []⟩ := rfl
 rw [hcp]
 have hst : sltP p = sltF p.args p.code (aftP p) p.regs.toNat := rfl
 generalize sltP p = at_ at *
 generalize aftP p = af at *
 clear hcp
 have hea := fun (b r : Nat) (S : List Int) (k : Nat) (hk : k < p.code.length) => each17_c p.code[k] 113 [.ptr b 0] (fun r => r) (fun S => [.box b [.mp r], .mp r (.int .i64) (setM S) []]) S (hx _ (List.getElem_mem hk)) (fun S q _ => mark17_c b r S q)
 refine ACall.of_body tt_ok Tryz.func66 rfl rfl (n := 164) rfl rfl ?_
 conv => whnf
 repeat' (first|((first|((first|(apply zY;intro hg)|apply zZ);first|exact stA|exact stB|((conv=>whnf);(repeat ((first|(refine zW ?_ ?_;exact gA)|refine pC (gives17_c _) wR ?_|refine pC (gives17_c _) cA ?_|refine zA ?_|refine zH rfl ?_|refine zB ?_|refine sG ?_|intro _);conv=>whnf));first|exact pS|exact pL|exact pE))|(refine zW ?_ ?_;exact gA)|refine zH rfl ?_|refine zA ?_|refine zI bA ?_|refine zI rfl ?_|refine sB ?_|(refine zO ?_ ?_ ?_;omega;omega)|(refine zP ?_ ?_ ?_;omega;omega)|refine zM rfl ?_|(refine zQ ?_ ?_ ?_;omega;omega)|(refine zR ?_ ?_;omega)|(refine zI ?_ ?_;exact nA)|refine sS ?_|refine pC (gives17_c _) wR ?_|refine pC (gives17_c _) cA ?_|refine sF ?_|refine n0 ?_|refine sD ?_|intro _|refine zG ?_);conv=>whnf)|(refine zX (fun hc => ?_) (fun hc => ?_)<;>(try simp only [SY] at hc)<;>first|omega|(conv=>whnf)))
 rename_i b2 b4 rf rs rh pw b5 rn b6 _
 refine PLoop.ghost (Γ' := [.box b6 [.mp rn], .mp rn (.int .i64) (setM []) [], .mp rf (.array 2 3) (prM fun _ _ => false) [], .box b5 [.ptr pw 0], .box pw [.mp rf, .mp rs, .mp rh], .mp rs (.int .i64) (mapM (PV.int .i64) fun _ => none) [], .mp rh (.int .i64) (mapM hPV (hM [])) [], .box b4 [.int .i64 0, .bfalse, .int .i64 0, .nil, .nil], .box b2 (prX p)]) (by
  rw [setN_nil, prM_nil, mI_nil, mH_nil]
  exact Ghost.drop (Γ1 := []) (inferInstance : PickL _ _ []).p) ?_
 generalize hNS : p.code.flatMap askL = NS at *
 generalize hFT : ftC (p.code.zip af) (fun _ _ => false) = FT at *
 refine PLoop.over [7, 8, 9, 10, 12, 31, 32, 33, 34, 35, 36, 37, 38, 39, 40, 41, 42, 43, 44, 45, 46, 47, 48, 49, 50, 51, 52, 53, 54, 55, 56, 57, 58, 59, 60, 61, 62, 63, 64, 65] (fun x : Nat × List Int × (Int → Int → Bool) => [(31, .int .i64 x.1)]) (fun x => [.box b6 [.mp rn], .mp rn (.int .i64) (setM x.2.1) [], .mp rf (.array 2 3) (prM x.2.2) [], .box b5 [.ptr pw 0], .box pw [.mp rf, .mp rs, .mp rh], .mp rs (.int .i64) (mapM (PV.int .i64) fun _ => none) [], .mp rh (.int .i64) (mapM hPV (hM [])) [], .box b4 [.int .i64 0, .bfalse, .int .i64 0, .nil, .nil], .box b2 (prX p)]) (fun x => x.1 ≤ p.code.length ∧ x.2.1 ++ (p.code.drop x.1).flatMap askL = NS ∧ ftC ((p.code.zip af).drop x.1) x.2.2 = FT) (fun x => p.code.length - x.1) (0, [], fun _ _ => false) ⟨Nat.zero_le _, hNS, hFT⟩ wA ?_
 rintro ⟨k, S, f⟩ ⟨hk, hS, hf⟩
 dsimp only at hk hS hf ⊢
 rcases Nat.lt_or_ge k p.code.length with hkl | hkl
 ·have hka : k < af.length := by omega
  have hkz : k < (p.code.zip af).length := by rw [List.length_zip]; omega
  have hdd := (hI _ (List.getElem_mem hkl)).dd
  have hfk2 := hfk k hka
  rw [drop_at hkl, List.flatMap_cons, ← List.append_assoc] at hS
  rw [drop_at hkz, ftC, List.getElem_zip] at hf
  dsimp only at hf
  conv => whnf
  repeat' (first|((first|((first|(apply zY;intro hg)|apply zZ);first|exact stA|exact stB|((conv=>whnf);(repeat ((first|(refine zW ?_ ?_;exact gA)|refine pC (gives17_c _) wR ?_|refine pC (gives17_c _) cA ?_|refine zA ?_|refine zH rfl ?_|refine zB ?_|refine sG ?_|intro _);conv=>whnf));first|exact pS|exact pL|exact pE))|(refine zW ?_ ?_;exact gA)|refine zH rfl ?_|refine zA ?_|refine zI bA ?_|refine zI rfl ?_|refine sB ?_|(refine zO ?_ ?_ ?_;omega;omega)|(refine zP ?_ ?_ ?_;omega;omega)|refine zM rfl ?_|(refine zQ ?_ ?_ ?_;omega;omega)|(refine zR ?_ ?_;omega)|(refine zI ?_ ?_;exact nA)|refine sS ?_|refine pC (gives17_c _) wR ?_|refine pC (gives17_c _) cA ?_|refine sF ?_|refine n0 ?_|refine sD ?_|intro _|refine zG ?_);conv=>whnf)|(refine zX (fun hc => ?_) (fun hc => ?_)<;>(try simp only [SY] at hc)<;>first|omega|(conv=>whnf)))
  rename_i b8
  refine PCall.go (hea b6 rn S k hkl) (WkT.refl _) ?_
  rintro _ _ ⟨rfl, rfl⟩
  conv => whnf
  repeat' (first|((first|((first|(apply zY;intro hg)|apply zZ);first|exact stA|exact stB|((conv=>whnf);(repeat ((first|(refine zW ?_ ?_;exact gA)|refine pC (gives17_c _) wR ?_|refine pC (gives17_c _) cA ?_|refine zA ?_|refine zH rfl ?_|refine zB ?_|refine sG ?_|intro _);conv=>whnf));first|exact pS|exact pL|exact pE))|(refine zW ?_ ?_;exact gA)|refine zH rfl ?_|refine zA ?_|refine zI bA ?_|refine zI rfl ?_|refine sB ?_|(refine zO ?_ ?_ ?_;omega;omega)|(refine zP ?_ ?_ ?_;omega;omega)|refine zM rfl ?_|(refine zQ ?_ ?_ ?_;omega;omega)|(refine zR ?_ ?_;omega)|(refine zI ?_ ?_;exact nA)|refine sS ?_|refine pC (gives17_c _) wR ?_|refine pC (gives17_c _) cA ?_|refine sF ?_|refine n0 ?_|refine sD ?_|intro _|refine zG ?_);conv=>whnf)|(refine zX (fun hc => ?_) (fun hc => ?_)<;>(try simp only [SY] at hc)<;>first|omega|(conv=>whnf)))
  ·rw [if_pos hc]
   rw [if_pos hc] at hf
   generalize hFK : ftI p.code[k].d af[k] f = FK at hf
   refine PLoop.over [12, 50, 51, 52, 53, 54, 55, 56, 57, 58, 59, 60, 61, 62, 63, 64] (fun x : Nat × (Int → Int → Bool) => [(50, .int .i64 x.1)]) (fun x => [.box b6 [.mp rn], .mp rn (.int .i64) (setM (S ++ askL p.code[k])) [], .mp rf (.array 2 3) (prM x.2) [], .box b5 [.ptr pw 0], .box pw [.mp rf, .mp rs, .mp rh], .mp rs (.int .i64) (mapM (PV.int .i64) fun _ => none) [], .mp rh (.int .i64) (mapM hPV (hM [])) [], .box b4 [.int .i64 0, .bfalse, .int .i64 0, .nil, .nil], .box b2 (prX p)]) (fun x => x.1 ≤ af[k].length ∧ ftI p.code[k].d (af[k].drop x.1) x.2 = FK) (fun x => af[k].length - x.1) (0, f) ⟨Nat.zero_le _, hFK⟩ wA ?_
   rintro ⟨j, f1⟩ ⟨hj, hf1⟩
   dsimp only at hj hf1 ⊢
   rcases Nat.lt_or_ge j af[k].length with hjl | hjl
   ·rw [drop_at hjl, ftI] at hf1
    conv => whnf
    repeat' (first|((first|((first|(apply zY;intro hg)|apply zZ);first|exact stA|exact stB|((conv=>whnf);(repeat ((first|(refine zW ?_ ?_;exact gA)|refine pC (gives17_c _) wR ?_|refine pC (gives17_c _) cA ?_|refine pC (of17_c _ _) wR ?_|refine pC (of17_c _ _) cA ?_|refine zA ?_|refine zH rfl ?_|refine zB ?_|refine sG ?_|intro _);conv=>whnf));first|exact pS|exact pL|exact pE))|(refine zW ?_ ?_;exact gA)|refine zH rfl ?_|refine zA ?_|refine zI bA ?_|refine zI rfl ?_|refine sB ?_|(refine zO ?_ ?_ ?_;omega;omega)|(refine zP ?_ ?_ ?_;omega;omega)|refine zM rfl ?_|(refine zQ ?_ ?_ ?_;omega;omega)|(refine zR ?_ ?_;omega)|(refine zI ?_ ?_;exact nA)|refine sS ?_|refine pC (gives17_c _) wR ?_|refine pC (gives17_c _) cA ?_|refine pC (of17_c _ _) wR ?_|refine pC (of17_c _ _) cA ?_|refine sF ?_|refine n0 ?_|refine sD ?_|intro _|refine zG ?_);conv=>whnf)|(refine zX (fun hc => ?_) (fun hc => ?_)<;>(try simp only [SY] at hc)<;>first|omega|(conv=>whnf)))
    ·refine PDraw.sE [] [] [7] tt_ok mixed ?_
     conv=>whnf
     conv => whnf
     repeat' (first|((first|((first|(apply zY;intro hg)|apply zZ);first|exact stA|exact stB|((conv=>whnf);(repeat ((first|(refine zW ?_ ?_;exact gA)|refine pC (gives17_c _) wR ?_|refine pC (gives17_c _) cA ?_|refine pC (of17_c _ _) wR ?_|refine pC (of17_c _ _) cA ?_|refine zA ?_|refine zH rfl ?_|refine zB ?_|refine sG ?_|intro _);conv=>whnf));first|exact pS|exact pL|exact pE))|(refine zW ?_ ?_;exact gA)|refine zH rfl ?_|refine zA ?_|refine zI bA ?_|refine zI rfl ?_|refine sB ?_|(refine zO ?_ ?_ ?_;omega;omega)|(refine zP ?_ ?_ ?_;omega;omega)|refine zM rfl ?_|(refine zQ ?_ ?_ ?_;omega;omega)|(refine zR ?_ ?_;omega)|(refine zI ?_ ?_;exact nA)|refine sS ?_|refine pC (gives17_c _) wR ?_|refine pC (gives17_c _) cA ?_|refine pC (of17_c _ _) wR ?_|refine pC (of17_c _ _) cA ?_|refine sF ?_|refine n0 ?_|refine sD ?_|intro _|refine zG ?_);conv=>whnf)|(refine zX (fun hc => ?_) (fun hc => ?_)<;>(try simp only [SY] at hc)<;>first|omega|(conv=>whnf)))
     refine PMapPut.pair ?_
     conv => whnf
     repeat' (first|((first|((first|(apply zY;intro hg)|apply zZ);first|exact stA|exact stB|((conv=>whnf);(repeat ((first|(refine zW ?_ ?_;exact gA)|refine pC (gives17_c _) wR ?_|refine pC (gives17_c _) cA ?_|refine pC (of17_c _ _) wR ?_|refine pC (of17_c _ _) cA ?_|refine zA ?_|refine zH rfl ?_|refine zB ?_|refine sG ?_|intro _);conv=>whnf));first|exact pS|exact pL|exact pE))|(refine zW ?_ ?_;exact gA)|refine zH rfl ?_|refine zA ?_|refine zI bA ?_|refine zI rfl ?_|refine sB ?_|(refine zO ?_ ?_ ?_;omega;omega)|(refine zP ?_ ?_ ?_;omega;omega)|refine zM rfl ?_|(refine zQ ?_ ?_ ?_;omega;omega)|(refine zR ?_ ?_;omega)|(refine zI ?_ ?_;exact nA)|refine sS ?_|refine pC (gives17_c _) wR ?_|refine pC (gives17_c _) cA ?_|refine pC (of17_c _ _) wR ?_|refine pC (of17_c _ _) cA ?_|refine sF ?_|refine n0 ?_|refine sD ?_|intro _|refine zG ?_);conv=>whnf)|(refine zX (fun hc => ?_) (fun hc => ?_)<;>(try simp only [SY] at hc)<;>first|omega|(conv=>whnf)))
     rw [if_pos hc] at hf1
     exact loopTo (j + 1, upP f1 (min p.code[k].d af[k][j]) (max p.code[k].d af[k][j])) ⟨by show j + 1 ≤ _; omega, hf1⟩ (by show af[k].length - (j + 1) < af[k].length - j; omega) wA
    ·rw [if_neg (by rw [hc]; simp)] at hf1
     exact loopTo (j + 1, f1) ⟨by show j + 1 ≤ _; omega, hf1⟩ (by show af[k].length - (j + 1) < af[k].length - j; omega) wA
   ·rw [List.drop_of_length_le (by omega), ftI] at hf1
    conv => whnf
    repeat' (first|((first|((first|(apply zY;intro hg)|apply zZ);first|exact stA|exact stB|((conv=>whnf);(repeat ((first|(refine zW ?_ ?_;exact gA)|refine pC (gives17_c _) wR ?_|refine pC (gives17_c _) cA ?_|refine pC (of17_c _ _) wR ?_|refine pC (of17_c _ _) cA ?_|refine zA ?_|refine zH rfl ?_|refine zB ?_|refine sG ?_|intro _);conv=>whnf));first|exact pS|exact pL|exact pE))|(refine zW ?_ ?_;exact gA)|refine zH rfl ?_|refine zA ?_|refine zI bA ?_|refine zI rfl ?_|refine sB ?_|(refine zO ?_ ?_ ?_;omega;omega)|(refine zP ?_ ?_ ?_;omega;omega)|refine zM rfl ?_|(refine zQ ?_ ?_ ?_;omega;omega)|(refine zR ?_ ?_;omega)|(refine zI ?_ ?_;exact nA)|refine sS ?_|refine pC (gives17_c _) wR ?_|refine pC (gives17_c _) cA ?_|refine pC (of17_c _ _) wR ?_|refine pC (of17_c _ _) cA ?_|refine sF ?_|refine n0 ?_|refine sD ?_|intro _|refine zG ?_);conv=>whnf)|(refine zX (fun hc => ?_) (fun hc => ?_)<;>(try simp only [SY] at hc)<;>first|omega|(conv=>whnf)))
    subst hf1
    exact loopTo (k + 1, S ++ askL p.code[k], f1) ⟨by show k + 1 ≤ _; omega, hS, hf⟩ (by show p.code.length - (k + 1) < p.code.length - k; omega) wA
  ·rw [if_neg (by rw [hc]; simp)] at hf
   exact loopTo (k + 1, S ++ askL p.code[k], f) ⟨by show k + 1 ≤ _; omega, hS, hf⟩ (by show p.code.length - (k + 1) < p.code.length - k; omega) wA
 ·rw [List.drop_of_length_le (by omega), List.flatMap_nil, List.append_nil] at hS
  rw [List.drop_of_length_le (by rw [List.length_zip]; omega), ftC] at hf
  rw [hS, hf]
  clear hS hf S f hea
  conv => whnf
  repeat' (first|((first|((first|(apply zY;intro hg)|apply zZ);first|exact stA|exact stB|((conv=>whnf);(repeat ((first|(refine zW ?_ ?_;exact gA)|refine pC (gives17_c _) wR ?_|refine pC (gives17_c _) cA ?_|refine pC (of17_c _ _) wR ?_|refine pC (of17_c _ _) cA ?_|refine zA ?_|refine zH rfl ?_|refine zB ?_|refine sG ?_|intro _);conv=>whnf));first|exact pS|exact pL|exact pE))|(refine zW ?_ ?_;exact gA)|refine zH rfl ?_|refine zA ?_|refine zI bA ?_|refine zI rfl ?_|refine sB ?_|(refine zO ?_ ?_ ?_;omega;omega)|(refine zP ?_ ?_ ?_;omega;omega)|refine zM rfl ?_|(refine zQ ?_ ?_ ?_;omega;omega)|(refine zR ?_ ?_;omega)|(refine zI ?_ ?_;exact nA)|refine sS ?_|refine pC (gives17_c _) wR ?_|refine pC (gives17_c _) cA ?_|refine pC (of17_c _ _) wR ?_|refine pC (of17_c _ _) cA ?_|refine sF ?_|refine n0 ?_|refine sD ?_|intro _|refine zG ?_);conv=>whnf)|(refine zX (fun hc => ?_) (fun hc => ?_)<;>(try simp only [SY] at hc)<;>first|omega|(conv=>whnf)))
  rename_i b13
  have hND : ∀ r : Nat, NS.contains (r : Int) = nmdB p.code r := fun r => by rw [← hNS]; exact nmd_iff hI (by omega)
  refine PLoop.over [14, 75, 76, 77, 78, 79, 80, 81, 82, 83, 84, 85, 86, 87, 88, 89, 90, 91, 92, 93, 94, 95, 96, 97, 98, 99, 100, 101, 102, 103, 104, 105] (fun x : Nat × Int × (Int → Option Int) × Hld => [(75, .int .i64 x.1)])
   (fun x => .box b13 [.int .i64 p.args, .bool p.rest, .int .i64 x.2.1, .nil, .nil] :: .box b4 [.int .i64 0, .bfalse, .int .i64 0, .nil, .nil] :: .box b2 (prX p) :: .box b6 [.mp rn] :: .mp rn (.int .i64) (setM NS) [] :: .box b5 [.ptr pw 0] :: .mp rf (.array 2 3) (prM FT) [] :: .box pw [.mp rf, .mp rs, .mp rh] :: .mp rs (.int .i64) (mapM (PV.int .i64) x.2.2.1) [] :: .mp rh (.int .i64) (mapM hPV (hM x.2.2.2)) [] :: toksE x.2.2.2)
   (fun x => x.1 ≤ p.regs.toNat ∧ x.2.1 = regsF (sltF p.args p.code af x.1) p.args ∧ PaI p.args p.code af x.1 x.2.2.1 x.2.2.2) (fun x => p.regs.toNat - x.1) (0, p.args, (fun _ => none), []) ⟨Nat.zero_le _, rfl, paI0 _ _ _ _⟩ wA
   (hp := ⟨by exact (inferInstance : PickL _ [.box b13 [.int .i64 p.args, .bool p.rest, .int .i64 p.args, .nil, .nil], .box b4 [.int .i64 0, .bfalse, .int .i64 0, .nil, .nil], .box b2 (prX p), .box b6 [.mp rn], .mp rn (.int .i64) (setM NS) [], .box b5 [.ptr pw 0], .mp rf (.array 2 3) (prM FT) [], .box pw [.mp rf, .mp rs, .mp rh], .mp rs (.int .i64) (mapM (PV.int .i64) fun _ => none) [], .mp rh (.int .i64) (mapM hPV (hM [])) []] []).p⟩) (Γ1 := []) ?_
  rintro ⟨r, rg, m, H⟩ ⟨hr, hrg2, hP⟩
  dsimp only at hr hrg2 hP ⊢
  have hrb := regsF_bd (sltF p.args p.code af r) p.args (fun x hx => by
   obtain ⟨q, hq, rfl⟩ := List.mem_iff_getElem.1 hx
   rw [sltF_len] at hq
   have := sltF_le p.args p.code af r q hq
   rw [gD (by rw [sltF_len]; exact hq)] at this
   omega) (by omega) (by omega)
  rw [← hrg2] at hrb
  have hHl := hP.hl
  have hHr : ∀ s, (regH H s).length ≤ 1000000 := fun s => by have := hP.hr s; omega
  rcases Nat.lt_or_ge r p.regs.toNat with hrl | hrl
  ·have hNr := hND r
   have hsn := slt_new p.args p.code af r
   have hrs : regsF (sltF p.args p.code af (r + 1)) p.args = max rg ((sltF p.args p.code af (r + 1)).getD r 0 + 1) := by
    rw [slt_new, hrg2, sltF, regsF_snoc]
   conv => whnf
   repeat' (first|((first|((first|(apply zY;intro hg)|apply zZ);first|exact stA|exact stB|((conv=>whnf);(repeat ((first|(refine zW ?_ ?_;exact gA)|refine pC (gives17_c _) wR ?_|refine pC (gives17_c _) cA ?_|refine pC (of17_c _ _) wR ?_|refine pC (of17_c _ _) cA ?_|refine zA ?_|refine zH rfl ?_|refine zB ?_|refine sG ?_|intro _);conv=>whnf));first|exact pS|exact pL|exact pE))|(refine zW ?_ ?_;exact gA)|refine zH rfl ?_|refine zA ?_|refine zI bA ?_|refine zI rfl ?_|refine sB ?_|(refine zO ?_ ?_ ?_;omega;omega)|(refine zP ?_ ?_ ?_;omega;omega)|refine zM rfl ?_|(refine zQ ?_ ?_ ?_;omega;omega)|(refine zR ?_ ?_;omega)|(refine zI ?_ ?_;exact nA)|refine sS ?_|refine pC (gives17_c _) wR ?_|refine pC (gives17_c _) cA ?_|refine pC (of17_c _ _) wR ?_|refine pC (of17_c _ _) cA ?_|refine sF ?_|refine n0 ?_|refine sD ?_|intro _|refine zG ?_);conv=>whnf)|(refine zX (fun hc => ?_) (fun hc => ?_)<;>(try simp only [SY] at hc)<;>first|omega|(conv=>whnf)))
   ·rw [if_pos hc] at hsn
    rw [hsn] at hrs
    have hHa := hP.ha (by omega)
    refine PCall.goR [.box b13 [.int .i64 p.args, .bool p.rest, .int .i64 rg, .nil, .nil], .box b4 [.int .i64 0, .bfalse, .int .i64 0, .nil, .nil], .box b2 (prX p), .box b6 [.mp rn], .mp rn (.int .i64) (setM NS) [], .box b5 [.ptr pw 0], .mp rf (.array 2 3) (prM FT) []] (fix17_c pw rf rs rh m H r r (by omega) hP.te (hHr r)) (WkT.refl _) (List.Perm.refl _) ?_
    rintro y Γ0 ⟨t9, ht9, e0⟩
    rw [e0]
    clear e0
    conv => whnf
    repeat' (first|((first|((first|(apply zY;intro hg)|apply zZ);first|exact stA|exact stB|((conv=>whnf);(repeat ((first|(refine zW ?_ ?_;exact gA)|refine yH (upd_self _ _ _) ?_|refine pC (gives17_c _) wR ?_|refine pC (gives17_c _) cA ?_|refine pC (of17_c _ _) wR ?_|refine pC (of17_c _ _) cA ?_|refine zA ?_|refine zH rfl ?_|refine zB ?_|refine sG ?_|intro _);conv=>whnf));first|exact pS|exact pL|exact pE))|(refine zW ?_ ?_;exact gA)|refine zH rfl ?_|refine zA ?_|refine zI bA ?_|refine zI rfl ?_|refine sB ?_|(refine zO ?_ ?_ ?_;omega;omega)|(refine zP ?_ ?_ ?_;omega;omega)|refine zM rfl ?_|(refine zQ ?_ ?_ ?_;omega;omega)|(refine zR ?_ ?_;omega)|(refine zI ?_ ?_;exact nA)|refine sS ?_|refine yH (upd_self _ _ _) ?_|refine pC (gives17_c _) wR ?_|refine pC (gives17_c _) cA ?_|refine pC (of17_c _ _) wR ?_|refine pC (of17_c _ _) cA ?_|refine sF ?_|refine n0 ?_|refine sD ?_|intro _|refine zG ?_);conv=>whnf)|(refine zX (fun hc => ?_) (fun hc => ?_)<;>(try simp only [SY] at hc)<;>first|omega|(conv=>whnf)))
    refine PDraw.sE [] [] [11] tt_ok mixed ?_
    conv=>whnf
    conv => whnf
    repeat' (first|((first|((first|(apply zY;intro hg)|apply zZ);first|exact stA|exact stB|((conv=>whnf);(repeat ((first|(refine zW ?_ ?_;exact gA)|refine yH (upd_self _ _ _) ?_|refine pC (gives17_c _) wR ?_|refine pC (gives17_c _) cA ?_|refine pC (of17_c _ _) wR ?_|refine pC (of17_c _ _) cA ?_|refine zA ?_|refine zH rfl ?_|refine zB ?_|refine sG ?_|intro _);conv=>whnf));first|exact pS|exact pL|exact pE))|(refine zW ?_ ?_;exact gA)|refine zH rfl ?_|refine zA ?_|refine zI bA ?_|refine zI rfl ?_|refine sB ?_|(refine zO ?_ ?_ ?_;omega;omega)|(refine zP ?_ ?_ ?_;omega;omega)|refine zM rfl ?_|(refine zQ ?_ ?_ ?_;omega;omega)|(refine zR ?_ ?_;omega)|(refine zI ?_ ?_;exact nA)|refine sS ?_|refine yH (upd_self _ _ _) ?_|refine pC (gives17_c _) wR ?_|refine pC (gives17_c _) cA ?_|refine pC (of17_c _ _) wR ?_|refine pC (of17_c _ _) cA ?_|refine sF ?_|refine n0 ?_|refine sD ?_|intro _|refine zG ?_);conv=>whnf)|(refine zX (fun hc => ?_) (fun hc => ?_)<;>(try simp only [SY] at hc)<;>first|omega|(conv=>whnf)))
    exact loopTo (r + 1, (if rg < (r : Int) + 1 then (r : Int) + 1 else rg), upd m r r, putH H r r t9) ⟨by show r + 1 ≤ _; omega, by dsimp only; rw [hrs]; split <;> omega, hP.put (by omega) ht9 hsn fun _ => rfl⟩ (by show p.regs.toNat - (r + 1) < p.regs.toNat - r; omega) wA
   ·have hfit := hP.fit hI (by omega) (by rw [← hNr, hc])
    rw [hFT] at hfit
    rw [hfit] at hrs
    have hle := fitH_le FT H r
    refine PCall.goR [.box b13 [.int .i64 p.args, .bool p.rest, .int .i64 rg, .nil, .nil], .box b4 [.int .i64 0, .bfalse, .int .i64 0, .nil, .nil], .box b2 (prX p), .box b6 [.mp rn], .mp rn (.int .i64) (setM NS) [], .box b5 [.ptr pw 0]] (paint17_c pw rf rs rh FT m H r hP.te hHr (by omega)) (WkT.refl _) (List.Perm.refl _) ?_
    rintro y Γ0 ⟨t9, ht9, e0⟩
    rw [e0]
    clear e0
    generalize fitH FT H r = s at *
    conv => whnf
    repeat' (first|((first|((first|(apply zY;intro hg)|apply zZ);first|exact stA|exact stB|((conv=>whnf);(repeat ((first|(refine zW ?_ ?_;exact gA)|refine yH (upd_self _ _ _) ?_|refine pC (gives17_c _) wR ?_|refine pC (gives17_c _) cA ?_|refine pC (of17_c _ _) wR ?_|refine pC (of17_c _ _) cA ?_|refine zA ?_|refine zH rfl ?_|refine zB ?_|refine sG ?_|intro _);conv=>whnf));first|exact pS|exact pL|exact pE))|(refine zW ?_ ?_;exact gA)|refine zH rfl ?_|refine zA ?_|refine zI bA ?_|refine zI rfl ?_|refine sB ?_|(refine zO ?_ ?_ ?_;omega;omega)|(refine zP ?_ ?_ ?_;omega;omega)|refine zM rfl ?_|(refine zQ ?_ ?_ ?_;omega;omega)|(refine zR ?_ ?_;omega)|(refine zI ?_ ?_;exact nA)|refine sS ?_|refine yH (upd_self _ _ _) ?_|refine pC (gives17_c _) wR ?_|refine pC (gives17_c _) cA ?_|refine pC (of17_c _ _) wR ?_|refine pC (of17_c _ _) cA ?_|refine sF ?_|refine n0 ?_|refine sD ?_|intro _|refine zG ?_);conv=>whnf)|(refine zX (fun hc => ?_) (fun hc => ?_)<;>(try simp only [SY] at hc)<;>first|omega|(conv=>whnf)))
    refine PDraw.sE [] [] [11] tt_ok mixed ?_
    conv=>whnf
    conv => whnf
    repeat' (first|((first|((first|(apply zY;intro hg)|apply zZ);first|exact stA|exact stB|((conv=>whnf);(repeat ((first|(refine zW ?_ ?_;exact gA)|refine yH (upd_self _ _ _) ?_|refine pC (gives17_c _) wR ?_|refine pC (gives17_c _) cA ?_|refine pC (of17_c _ _) wR ?_|refine pC (of17_c _ _) cA ?_|refine zA ?_|refine zH rfl ?_|refine zB ?_|refine sG ?_|intro _);conv=>whnf));first|exact pS|exact pL|exact pE))|(refine zW ?_ ?_;exact gA)|refine zH rfl ?_|refine zA ?_|refine zI bA ?_|refine zI rfl ?_|refine sB ?_|(refine zO ?_ ?_ ?_;omega;omega)|(refine zP ?_ ?_ ?_;omega;omega)|refine zM rfl ?_|(refine zQ ?_ ?_ ?_;omega;omega)|(refine zR ?_ ?_;omega)|(refine zI ?_ ?_;exact nA)|refine sS ?_|refine yH (upd_self _ _ _) ?_|refine pC (gives17_c _) wR ?_|refine pC (gives17_c _) cA ?_|refine pC (of17_c _ _) wR ?_|refine pC (of17_c _ _) cA ?_|refine sF ?_|refine n0 ?_|refine sD ?_|intro _|refine zG ?_);conv=>whnf)|(refine zX (fun hc => ?_) (fun hc => ?_)<;>(try simp only [SY] at hc)<;>first|omega|(conv=>whnf)))
    exact loopTo (r + 1, (if rg < (s : Int) + 1 then (s : Int) + 1 else rg), upd m r s, putH H s r t9) ⟨by show r + 1 ≤ _; omega, by dsimp only; rw [hrs]; split <;> omega, hP.put hle ht9 hfit fun h => by omega⟩ (by show p.regs.toNat - (r + 1) < p.regs.toNat - r; omega) wA
   ·rw [if_neg (by omega), if_neg (by rw [← hNr, hc]; simp)] at hsn
    rw [hsn] at hrs
    exact loopTo (r + 1, rg, m, H) ⟨by show r + 1 ≤ _; omega, by dsimp only; rw [hrs]; omega, hP.skip (by omega) (by rw [← hNr, hc])⟩ (by show p.regs.toNat - (r + 1) < p.regs.toNat - r; omega) wA
  ·obtain rfl : r = p.regs.toNat := by omega
   rw [← hst] at hrg2
   have hml := hP.ml
   rw [← hst] at hml
   conv => whnf
   repeat' (first|((first|((first|(apply zY;intro hg)|apply zZ);first|exact stA|exact stB|((conv=>whnf);(repeat ((first|(refine zW ?_ ?_;exact gA)|refine pC (gives17_c _) wR ?_|refine pC (gives17_c _) cA ?_|refine pC (of17_c _ _) wR ?_|refine pC (of17_c _ _) cA ?_|refine zA ?_|refine zH rfl ?_|refine zB ?_|refine sG ?_|intro _);conv=>whnf));first|exact pS|exact pL|exact pE))|(refine zW ?_ ?_;exact gA)|refine zH rfl ?_|refine zA ?_|refine zI bA ?_|refine zI rfl ?_|refine sB ?_|(refine zO ?_ ?_ ?_;omega;omega)|(refine zP ?_ ?_ ?_;omega;omega)|refine zM rfl ?_|(refine zQ ?_ ?_ ?_;omega;omega)|(refine zR ?_ ?_;omega)|(refine zI ?_ ?_;exact nA)|refine sS ?_|refine pC (gives17_c _) wR ?_|refine pC (gives17_c _) cA ?_|refine pC (of17_c _ _) wR ?_|refine pC (of17_c _ _) cA ?_|refine sF ?_|refine n0 ?_|refine sD ?_|intro _|refine zG ?_);conv=>whnf)|(refine zX (fun hc => ?_) (fun hc => ?_)<;>(try simp only [SY] at hc)<;>first|omega|(conv=>whnf)))
   clear hP hHr hND hNS hFT hrb
   have hsl : ∀ r : Int, 0 ≤ r → r < p.regs → nmdB p.code r = true → m r = some (at_.getD r.toNat 0) := fun r h1 h2 h3 => by
    have := hml r.toNat (by omega) (.inr (by rw [Int.toNat_of_nonneg h1]; exact h3))
    rw [Int.toNat_of_nonneg h1] at this
    exact this
   have hren : ∀ (k : Nat) (hk : k < p.code.length), eaI (fun q => (m q).getD 0) p.code[k] = renI p.code[k] at_ := fun k hk => eaI_ren (hI _ (List.getElem_mem hk)) fun r hr => by
    obtain ⟨h1, h2, h3⟩ := ask_rg hp (List.getElem_mem hk) (hI _ (List.getElem_mem hk)) hr
    rw [hsl r h1 h2 h3]
    rfl
   have hea2 : ∀ (k : Nat) (hk : k < p.code.length), ACall Tryz.prog 112 [.agg p.code[k].cells, .fn (.func 118) [.ptr b5 0]] [.box b5 [.ptr pw 0], .box pw [.mp rf, .mp rs, .mp rh], .mp rs (.int .i64) (mapM (PV.int .i64) m) []] (fun y Γ' => y = .agg (renI p.code[k] at_).cells ∧ Γ' = [.box b5 [.ptr pw 0], .box pw [.mp rf, .mp rs, .mp rh], .mp rs (.int .i64) (mapM (PV.int .i64) m) []]) := fun k hk => by
    have := each17_c p.code[k] 118 [.ptr b5 0] (fun q => (m q).getD 0) (fun _ => [.box b5 [.ptr pw 0], .box pw [.mp rf, .mp rs, .mp rh], .mp rs (.int .i64) (mapM (PV.int .i64) m) []]) [] (hx _ (List.getElem_mem hk)) (fun S q _ => read17_c b5 pw rf rs rh m q)
    rw [hren k hk] at this
    exact this
   refine PLoop.ghost (Ghost.trans (Ghost.nil 5 59 _) (Ghost.trans (Ghost.nil 1 23 _) (Ghost.box (b := b13) (cs := [.int .i64 p.args, .bool p.rest, .int .i64 rg, .nil, .nil]) (cs' := [.int .i64 p.args, .bool p.rest, .int .i64 rg, .sl 5 (([] : List Ins).map Ins.pv) (some (nilTok 5 59)), .sl 1 (([] : List (List Int)).map slI) (some (nilTok 1 23))]) wA))) ?_
   refine PLoop.over [15, 16, 17, 18, 19, 21, 109, 110, 111, 112, 113, 114, 115, 116, 117, 118, 119, 120, 121, 122, 123, 124, 125, 126, 127, 128, 129, 130, 131, 132, 133, 134, 135, 136, 137, 138, 139, 140, 141, 142, 143, 144, 145, 146, 147, 148, 149, 150, 151, 152, 153, 154, 155, 156, 157, 158, 159, 160, 161, 162] (fun x : Nat × (List Ins × Tok) × (List (List Int) × Tok) => [(109, .int .i64 x.1)]) (fun x => [.box b13 [.int .i64 p.args, .bool p.rest, .int .i64 rg, .sl 5 (x.2.1.1.map Ins.pv) (some x.2.1.2), .sl 1 (x.2.2.1.map slI) (some x.2.2.2)], .tok x.2.1.2, .tok x.2.2.2, .box b5 [.ptr pw 0], .box pw [.mp rf, .mp rs, .mp rh], .mp rs (.int .i64) (mapM (PV.int .i64) m) [], .box b4 [.int .i64 0, .bfalse, .int .i64 0, .nil, .nil]])
    (fun x => x.1 ≤ p.code.length ∧ x.2.1.2.e = 59 ∧ x.2.2.2.e = 23 ∧ x.2.1.1 = (p.code.take x.1).map (fun x => renI x at_) ∧ x.2.2.1 = ((p.code.zip af).take x.1).map (fun q => alvF at_ (givesI q.1) q.2 [])) (fun x => p.code.length - x.1) (0, ([], nilTok 5 59), ([], nilTok 1 23)) ⟨Nat.zero_le _, rfl, rfl, rfl, rfl⟩ wA ?_
   rintro ⟨k, ⟨cs, tc⟩, ⟨as_, ta⟩⟩ ⟨hk, htc, hta, hcs, has⟩
   dsimp only at hk htc hta hcs has ⊢
   have hcsl := congrArg List.length hcs
   have hasl := congrArg List.length has
   rw [List.length_map, List.length_take] at hcsl
   rw [List.length_map, List.length_take, List.length_zip] at hasl
   rcases Nat.lt_or_ge k p.code.length with hkl | hkl
   ·have hka : k < af.length := by omega
    have hfk2 := hfk k hka
    have hfm2 := hfm k hka
    have hki : k < (p.code.zip af).length := by rw [List.length_zip]; omega
    have hcs2 : (p.code.take (k + 1)).map (fun x => renI x at_) = cs ++ [renI p.code[k] at_] := by rw [List.take_succ_eq_append_getElem hkl, List.map_append, ← hcs]; rfl
    have has2 : ((p.code.zip af).take (k + 1)).map (fun q => alvF at_ (givesI q.1) q.2 []) = as_ ++ [alvF at_ (givesI p.code[k]) af[k] []] := by
     rw [List.take_succ_eq_append_getElem hki, List.map_append, ← has, List.map_cons, List.map_nil, List.getElem_zip]
    have hriz := alv_rise at_ (givesI p.code[k]) af[k]
    conv => whnf
    repeat' (first|((first|((first|(apply zY;intro hg)|apply zZ);first|exact stA|exact stB|((conv=>whnf);(repeat ((first|(refine zW ?_ ?_;exact gA)|refine pC (gives17_c _) wR ?_|refine pC (gives17_c _) cA ?_|refine PCall.read (hea2 k hkl) wR ?_|refine zA ?_|refine zH rfl ?_|refine zB ?_|refine sG ?_|intro _);conv=>whnf));first|exact pS|exact pL|exact pE))|(refine zW ?_ ?_;exact gA)|refine zH rfl ?_|refine zA ?_|refine zI bA ?_|refine zI rfl ?_|refine sB ?_|(refine zO ?_ ?_ ?_;omega;omega)|(refine zP ?_ ?_ ?_;omega;omega)|refine zM rfl ?_|(refine zQ ?_ ?_ ?_;omega;omega)|(refine zR ?_ ?_;omega)|(refine zI ?_ ?_;exact nA)|refine sS ?_|refine pC (gives17_c _) wR ?_|refine pC (gives17_c _) cA ?_|refine PCall.read (hea2 k hkl) wR ?_|refine sF ?_|refine n0 ?_|refine sD ?_|refine PDraw.sP (some 57) rfl [] [7] tt_ok mixed ?_|refine PDraw.sP (some 94) rfl [] [11] tt_ok mixed ?_|refine PDraw.sP (some 114) rfl [] [6,7,8] tt_ok mixed ?_|intro _|refine zG ?_);conv=>whnf)|(refine zX (fun hc => ?_) (fun hc => ?_)<;>(try simp only [SY] at hc)<;>first|omega|(conv=>whnf)))
    rename_i tn htn _
    generalize hAL : (af[k].filter fun r => decide (r ≠ givesI p.code[k])).map (fun r => at_.getD r.toNat 0) = AL at hriz
    refine PLoop.ghost (show Ghost _ (.row (nilTok 1 3) (([] : List Int).map (PV.int .i64)) :: _) from Ghost.nilRow 1 3 _) ?_
    refine PLoop.over [17, 21, 132, 133, 134, 135, 136, 137, 138, 139, 140, 141, 142, 143, 144, 145, 146, 147, 148, 149, 150, 151, 152] (fun x : Nat × List Int × Tok => [(17, .ms x.2.2), (132, .int .i64 x.1)]) (fun x => [.row x.2.2 (x.2.1.map (PV.int .i64)), .box b13 [.int .i64 p.args, .bool p.rest, .int .i64 rg, .sl 5 ((cs ++ [renI p.code[k] at_]).map Ins.pv) (some tn), .sl 1 (as_.map slI) (some ta)], .tok tn, .tok ta, .box b5 [.ptr pw 0], .box pw [.mp rf, .mp rs, .mp rh], .mp rs (.int .i64) (mapM (PV.int .i64) m) [], .box b4 [.int .i64 0, .bfalse, .int .i64 0, .nil, .nil]])
     (fun x => x.1 ≤ af[k].length ∧ x.2.2.e = 3 ∧ x.2.2.s = 1 ∧ x.2.1.length ≤ x.1 ∧ x.2.1 ++ ((af[k].drop x.1).filter fun r => decide (r ≠ givesI p.code[k])).map (fun r => at_.getD r.toNat 0) = AL) (fun x => af[k].length - x.1) (0, [], nilTok 1 3) ⟨Nat.zero_le _, rfl, rfl, Nat.zero_le _, hAL⟩
     (by (conv=>whnf); (repeat' (first|exact trivial|refine And.intro ?_ ?_|exact Wk.refl _|exact Wk.int (by omega)|exact Wk.nilRow _ _))) ?_
    rintro ⟨j, al, tl⟩ ⟨hj, htl, hsl2, hal, hA⟩
    dsimp only at hj htl hsl2 hal hA ⊢
    rcases Nat.lt_or_ge j af[k].length with hjl | hjl
    ·have hf1 := hfm2 _ (List.getElem_mem hjl)
     have hmr := hsl _ hf1.1 hf1.2.1 hf1.2.2
     rw [drop_at hjl] at hA
     have hgt := @gv_t p.code[k]
     have hgf := @gv_f p.code[k]
     rw [List.filter_cons] at hA
     conv => whnf
     repeat' (first|((first|((first|(apply zY;intro hg)|apply zZ);first|exact stA|exact stB|((conv=>whnf);(repeat ((first|(refine zW ?_ ?_;exact gA)|refine yH hmr ?_|refine pC (gives17_c _) wR ?_|refine pC (gives17_c _) cA ?_|refine PCall.read (hea2 k hkl) wR ?_|refine zA ?_|refine zH rfl ?_|refine zB ?_|refine sG ?_|intro _);conv=>whnf));first|exact pS|exact pL|exact pE))|(refine zW ?_ ?_;exact gA)|refine zH rfl ?_|refine zA ?_|refine zI bA ?_|refine zI rfl ?_|refine sB ?_|(refine zO ?_ ?_ ?_;omega;omega)|(refine zP ?_ ?_ ?_;omega;omega)|refine zM rfl ?_|(refine zQ ?_ ?_ ?_;omega;omega)|(refine zR ?_ ?_;omega)|(refine zI ?_ ?_;exact nA)|refine sS ?_|refine yH hmr ?_|refine pC (gives17_c _) wR ?_|refine pC (gives17_c _) cA ?_|refine PCall.read (hea2 k hkl) wR ?_|refine sF ?_|refine n0 ?_|refine sD ?_|refine PDraw.sP (some 57) rfl [] [7] tt_ok mixed ?_|refine PDraw.sP (some 94) rfl [] [11] tt_ok mixed ?_|refine PDraw.sP (some 114) rfl [] [6,7,8] tt_ok mixed ?_|intro _|refine zG ?_);conv=>whnf)|(refine zX (fun hc => ?_) (fun hc => ?_)<;>(try simp only [SY] at hc)<;>first|omega|(conv=>whnf)))
     ·rename_i t1 h1 t2 h2 h3
      have hne : af[k][j] ≠ givesI p.code[k] := by
       cases hg : gvB p.code[k] with
       | true =>
        rw [hg, if_pos rfl] at hc
        rw [hgt hg]
        rcases hc with hc | hc
        ·cases hc
        ·exact hc
       | false => rw [hgf hg]; omega
      rw [if_pos (decide_eq_true hne), List.map_cons] at hA
      exact loopTo (j + 1, al ++ [at_.getD af[k][j].toNat 0], t2) ⟨by show j + 1 ≤ _; omega, h2, h3, by show (al ++ [_]).length ≤ j + 1; rw [List.length_append, List.length_singleton]; omega, by dsimp only; rw [List.append_assoc]; exact hA⟩ (by show af[k].length - (j + 1) < af[k].length - j; omega) wA
     ·have hne : af[k][j] = givesI p.code[k] := by rw [hgt hc.1, hc.2, if_pos hc.1]
      rw [if_neg (by rw [decide_eq_true_eq]; exact fun h => h hne)] at hA
      exact loopTo (j + 1, al, tl) ⟨by show j + 1 ≤ _; omega, htl, hsl2, by show al.length ≤ j + 1; omega, hA⟩ (by show af[k].length - (j + 1) < af[k].length - j; omega) wA
    ·rw [List.drop_of_length_le hjl, List.filter_nil, List.map_nil, List.append_nil] at hA
     conv => whnf
     repeat' (first|((first|((first|(apply zY;intro hg)|apply zZ);first|exact stA|exact stB|((conv=>whnf);(repeat ((first|(refine zW ?_ ?_;exact gA)|refine pC (gives17_c _) wR ?_|refine pC (gives17_c _) cA ?_|refine PCall.read (hea2 k hkl) wR ?_|refine zA ?_|refine zH rfl ?_|refine zB ?_|refine sG ?_|intro _);conv=>whnf));first|exact pS|exact pL|exact pE))|(refine zW ?_ ?_;exact gA)|refine zH rfl ?_|refine zA ?_|refine zI bA ?_|refine zI rfl ?_|refine sB ?_|(refine zO ?_ ?_ ?_;omega;omega)|(refine zP ?_ ?_ ?_;omega;omega)|refine zM rfl ?_|(refine zQ ?_ ?_ ?_;omega;omega)|(refine zR ?_ ?_;omega)|(refine zI ?_ ?_;exact nA)|refine sS ?_|refine pC (gives17_c _) wR ?_|refine pC (gives17_c _) cA ?_|refine PCall.read (hea2 k hkl) wR ?_|refine sF ?_|refine n0 ?_|refine sD ?_|refine PDraw.sP (some 57) rfl [] [7] tt_ok mixed ?_|refine PDraw.sP (some 94) rfl [] [11] tt_ok mixed ?_|refine PDraw.sP (some 114) rfl [] [6,7,8] tt_ok mixed ?_|intro _|refine zG ?_);conv=>whnf)|(refine zX (fun hc => ?_) (fun hc => ?_)<;>(try simp only [SY] at hc)<;>first|omega|(conv=>whnf)))
     refine PCall.go (sort_c tl al hsl2 (by omega)) (WkT.refl _) ?_
     rintro _ _ ⟨rfl, rfl⟩
     conv => whnf
     repeat' (first|((first|((first|(apply zY;intro hg)|apply zZ);first|exact stA|exact stB|((conv=>whnf);(repeat ((first|(refine zW ?_ ?_;exact gA)|refine pC (gives17_c _) wR ?_|refine pC (gives17_c _) cA ?_|refine PCall.read (hea2 k hkl) wR ?_|refine zA ?_|refine zH rfl ?_|refine zB ?_|refine sG ?_|intro _);conv=>whnf));first|exact pS|exact pL|exact pE))|(refine zW ?_ ?_;exact gA)|refine zH rfl ?_|refine zA ?_|refine zI bA ?_|refine zI rfl ?_|refine sB ?_|(refine zO ?_ ?_ ?_;omega;omega)|(refine zP ?_ ?_ ?_;omega;omega)|refine zM rfl ?_|(refine zQ ?_ ?_ ?_;omega;omega)|(refine zR ?_ ?_;omega)|(refine zI ?_ ?_;exact nA)|refine sS ?_|refine pC (gives17_c _) wR ?_|refine pC (gives17_c _) cA ?_|refine PCall.read (hea2 k hkl) wR ?_|refine sF ?_|refine n0 ?_|refine sD ?_|refine PDraw.sP (some 57) rfl [] [7] tt_ok mixed ?_|refine PDraw.sP (some 94) rfl [] [11] tt_ok mixed ?_|refine PDraw.sP (some 114) rfl [] [6,7,8] tt_ok mixed ?_|intro _|refine zG ?_);conv=>whnf)|(refine zX (fun hc => ?_) (fun hc => ?_)<;>(try simp only [SY] at hc)<;>first|omega|(conv=>whnf)))
     refine PDraw.sE [.row tl ((al.mergeSort fun x y => decide (x ≤ y)).map (PV.int .i64))] [3,4] [5,6,7] tt_ok mixed ?_
     conv=>whnf
     conv => whnf
     repeat' (first|((first|((first|(apply zY;intro hg)|apply zZ);first|exact stA|exact stB|((conv=>whnf);(repeat ((first|(refine zW ?_ ?_;exact gA)|refine pC (gives17_c _) wR ?_|refine pC (gives17_c _) cA ?_|refine PCall.read (hea2 k hkl) wR ?_|refine zA ?_|refine zH rfl ?_|refine zB ?_|refine sG ?_|intro _);conv=>whnf));first|exact pS|exact pL|exact pE))|(refine zW ?_ ?_;exact gA)|refine zH rfl ?_|refine zA ?_|refine zI bA ?_|refine zI rfl ?_|refine sB ?_|(refine zO ?_ ?_ ?_;omega;omega)|(refine zP ?_ ?_ ?_;omega;omega)|refine zM rfl ?_|(refine zQ ?_ ?_ ?_;omega;omega)|(refine zR ?_ ?_;omega)|(refine zI ?_ ?_;exact nA)|refine sS ?_|refine pC (gives17_c _) wR ?_|refine pC (gives17_c _) cA ?_|refine PCall.read (hea2 k hkl) wR ?_|refine sF ?_|refine n0 ?_|refine sD ?_|refine PDraw.sP (some 57) rfl [] [7] tt_ok mixed ?_|refine PDraw.sP (some 94) rfl [] [11] tt_ok mixed ?_|refine PDraw.sP (some 114) rfl [] [6,7,8] tt_ok mixed ?_|intro _|refine zG ?_);conv=>whnf)|(refine zX (fun hc => ?_) (fun hc => ?_)<;>(try simp only [SY] at hc)<;>first|omega|(conv=>whnf)))
     refine PCall.go (compactF_c tl (al.mergeSort fun x y => decide (x ≤ y)) hsl2 (by rw [List.length_mergeSort]; omega)) (WkT.refl _) ?_
     rintro _ _ ⟨rfl, rfl⟩
     have hri : Lib.compact (al.mergeSort fun x y => decide (x ≤ y)) = alvF at_ (givesI p.code[k]) af[k] [] := by rw [hA, ← hriz]; rfl
     rw [hri]
     conv => whnf
     repeat' (first|((first|((first|(apply zY;intro hg)|apply zZ);first|exact stA|exact stB|((conv=>whnf);(repeat ((first|(refine zW ?_ ?_;exact gA)|refine pC (gives17_c _) wR ?_|refine pC (gives17_c _) cA ?_|refine PCall.read (hea2 k hkl) wR ?_|refine zA ?_|refine zH rfl ?_|refine zB ?_|refine sG ?_|intro _);conv=>whnf));first|exact pS|exact pL|exact pE))|(refine zW ?_ ?_;exact gA)|refine zH rfl ?_|refine zA ?_|refine zI bA ?_|refine zI rfl ?_|refine sB ?_|(refine zO ?_ ?_ ?_;omega;omega)|(refine zP ?_ ?_ ?_;omega;omega)|refine zM rfl ?_|(refine zQ ?_ ?_ ?_;omega;omega)|(refine zR ?_ ?_;omega)|(refine zI ?_ ?_;exact nA)|refine sS ?_|refine pC (gives17_c _) wR ?_|refine pC (gives17_c _) cA ?_|refine PCall.read (hea2 k hkl) wR ?_|refine sF ?_|refine n0 ?_|refine sD ?_|refine PDraw.sP (some 57) rfl [] [7] tt_ok mixed ?_|refine PDraw.sP (some 94) rfl [] [11] tt_ok mixed ?_|refine PDraw.sP (some 114) rfl [] [6,7,8] tt_ok mixed ?_|intro _|refine zG ?_);conv=>whnf)|(refine zX (fun hc => ?_) (fun hc => ?_)<;>(try simp only [SY] at hc)<;>first|omega|(conv=>whnf)))
     rename_i t1 h1 t2 h2
     exact loopTo (k + 1, (cs ++ [renI p.code[k] at_], tn), (as_ ++ [alvF at_ (givesI p.code[k]) af[k] []], t2)) ⟨by show k + 1 ≤ _; omega, htn, h2, hcs2.symm, has2.symm⟩ (by show p.code.length - (k + 1) < p.code.length - k; omega) wA
   ·conv => whnf
    repeat' (first|((first|((first|(apply zY;intro hg)|apply zZ);first|exact stA|exact stB|((conv=>whnf);(repeat ((first|(refine zW ?_ ?_;exact gA)|refine pC (gives17_c _) wR ?_|refine pC (gives17_c _) cA ?_|refine PCall.read (hea2 k hkl) wR ?_|refine zA ?_|refine zH rfl ?_|refine zB ?_|refine sG ?_|intro _);conv=>whnf));first|exact pS|exact pL|exact pE))|(refine zW ?_ ?_;exact gA)|refine zH rfl ?_|refine zA ?_|refine zI bA ?_|refine zI rfl ?_|refine sB ?_|(refine zO ?_ ?_ ?_;omega;omega)|(refine zP ?_ ?_ ?_;omega;omega)|refine zM rfl ?_|(refine zQ ?_ ?_ ?_;omega;omega)|(refine zR ?_ ?_;omega)|(refine zI ?_ ?_;exact nA)|refine sS ?_|refine pC (gives17_c _) wR ?_|refine pC (gives17_c _) cA ?_|refine PCall.read (hea2 k hkl) wR ?_|refine sF ?_|refine n0 ?_|refine sD ?_|refine PDraw.sP (some 57) rfl [] [7] tt_ok mixed ?_|refine PDraw.sP (some 94) rfl [] [11] tt_ok mixed ?_|refine PDraw.sP (some 114) rfl [] [6,7,8] tt_ok mixed ?_|intro _|refine zG ?_);conv=>whnf)|(refine zX (fun hc => ?_) (fun hc => ?_)<;>(try simp only [SY] at hc)<;>first|omega|(conv=>whnf)))
    obtain rfl : k = p.code.length := by omega
    rw [List.take_length] at hcs
    rw [List.take_of_length_le (by rw [List.length_zip]; omega)] at has
    rw [← hcs, ← has, ← hrg2]
    exact PRet.pure (Wk.agg (.cons (Wk.refl _) (.cons (Wk.refl _) (.cons (Wk.refl _) (.cons (Wk.tok _ _ _) (.cons (Wk.tok _ _ _) .nil))))))
end Go.Cb
namespace Go.Cb
open Go.Proofs
set_option maxRecDepth 100000
set_option maxHeartbeats 4000000
theorem slt_fix (args : Int) (c : List Ins) (af : List (List Int)) : ∀ (n q : Nat), q < n → (sltF args c af n).getD q 0 = (sltF args c af (q + 1)).getD q 0
 | 0, q, h => by omega
 | n + 1, q, h => by
  by_cases e : q = n
  ·subst e; rfl
  ·rw [slt_old (by omega), slt_fix args c af n q (by omega)]
theorem srcF_end (f : Int → Bool) : ∀ (n : Nat) (s : Int), (∃ j : Nat, j < n ∧ f (s + j) = false) → f (srcF f n s) = false
 | 0, s, ⟨j, h, _⟩ => by omega
 | n + 1, s, ⟨j, h, hf⟩ => by
  rw [srcF]
  split
  ·rename_i h1
   cases j with
   | zero => rw [show s + ((0 : Nat) : Int) = s by omega, h1] at hf; cases hf
   | succ j => exact srcF_end f n (s + 1) ⟨j, by omega, by rw [show s + 1 + (j : Int) = s + ((j + 1 : Nat) : Int) by omega]; exact hf⟩
  ·rename_i h1
   rwa [Bool.not_eq_true] at h1
theorem itf_symm (c : List Ins) (af : List (List Int)) (a b : Int) : itfB c af a b = itfB c af b a := by
 unfold itfB
 congr 1
 funext q
 rw [Bool.or_comm]
theorem slt_apart {args : Int} {c : List Ins} {af : List (List Int)} {n q r : Nat} (hq : q < r) (hr : r < n) (hn : nmdB c r = true) (hi : itfB c af q r = true) : (sltF args c af n).getD q 0 ≠ (sltF args c af n).getD r 0 := by
 have hle := sltF_le args c af n q (by omega)
 intro e
 rw [slt_fix _ _ _ n r hr, slt_new] at e
 split at e
 ·omega
 ·have hend := srcF_end (clsB c af (sltF args c af r) r) (r + 1) 0 ⟨r, by omega, by
   rw [Int.zero_add, Bool.eq_false_iff]
   intro h
   obtain ⟨i, hi, e1, _⟩ := (clsB_iff ..).1 h
   have := sltF_le args c af r i hi
   omega⟩
  rw [← e, Bool.eq_false_iff] at hend
  exact hend ((clsB_iff ..).2 ⟨q, hq, by rw [slt_fix _ _ _ r q hq, slt_fix _ _ _ n q (by omega)], hi⟩)
abbrev slR (p : Prc) (r : Int) : Int := (sltP p).getD r.toNat 0
theorem slR_apart {p : Prc} {q r : Int} (h0 : 0 ≤ q ∧ q < p.regs) (h1 : 0 ≤ r ∧ r < p.regs) (hn : nmdB p.code q = true) (hn2 : nmdB p.code r = true) (hne : q ≠ r) (hi : itfB p.code (aftP p) q r = true) : slR p q ≠ slR p r := by
 obtain ⟨q, rfl⟩ := Int.eq_ofNat_of_zero_le h0.1
 obtain ⟨r, rfl⟩ := Int.eq_ofNat_of_zero_le h1.1
 show (sltF _ _ _ _).getD _ 0 ≠ (sltF _ _ _ _).getD _ 0
 rw [Int.toNat_natCast, Int.toNat_natCast]
 rcases (by omega : q < r ∨ r < q) with h | h
 ·exact slt_apart h (by omega) hn2 hi
 ·rw [itf_symm] at hi
  exact (slt_apart h (by omega) hn hi).symm
theorem slR_args {p : Prc} {r : Int} (h0 : 0 ≤ r) (h1 : r < p.args) (h2 : r < p.regs) : slR p r = r := by
 obtain ⟨r, rfl⟩ := Int.eq_ofNat_of_zero_le h0
 show (sltF _ _ _ _).getD _ 0 = _
 rw [Int.toNat_natCast, slt_fix _ _ _ _ r (by omega), slt_new, if_pos h1]
theorem insD_at {c : List Ins} {k : Int} (h0 : 0 ≤ k) (h1 : k < c.length) : insD c k = c[k.toNat]'(by omega) := by
 unfold insD
 rw [List.getD_eq_getElem?_getD, List.getElem?_eq_getElem (by omega)]
 rfl
theorem insD_mem {c : List Ins} {k : Int} (h0 : 0 ≤ k) (h1 : k < c.length) : insD c k ∈ c := by
 rw [insD_at h0 h1]; exact List.getElem_mem _
theorem rch_rg {p : Prc} (hp : PrF p) {r k : Int} (h : Rch p.code r k) : 0 ≤ r ∧ r < p.regs := by
 induction h with
 | use h0 h1 h2 => exact hp.nm _ (insD_mem h0 h1) _ h2
 | step _ _ _ _ _ ih => exact ih
theorem live_iff {p : Prc} (hp : PrF p) {r : Int} {frm : List Int} (hf : ∀ j ∈ frm, 0 ≤ j ∧ j < p.code.length) : r ∈ liveF p.code p.regs.toNat frm ↔ ∃ j ∈ frm, Rch p.code r j := by
 have hrg := hp.rg
 rw [← needU_iff hp nxtL_len r frm hf]
 unfold liveF
 rw [List.mem_filter]
 constructor
 ·exact fun h => h.2
 ·intro h
  refine ⟨?_, h⟩
  obtain ⟨j, _, hj⟩ := (needU_iff hp nxtL_len r frm hf).1 h
  have := rch_rg hp hj
  exact List.mem_map.2 ⟨r.toNat, List.mem_range.2 (by omega), Int.toNat_of_nonneg this.1⟩
theorem aft_at (p : Prc) {k : Nat} (hk : k < p.code.length) : (aftP p)[k]'(by rw [aftF_len]; exact hk) = liveF p.code p.regs.toNat (nxtL p.code[k] k) := by
 have e : insD p.code k = p.code[k] := insD_at (by omega) (by omega)
 simp [aftP, aftF, e]
theorem aft_iff {p : Prc} (hp : PrF p) {k : Nat} (hk : k < p.code.length) {r : Int} : r ∈ (aftP p)[k]'(by rw [aftF_len]; exact hk) ↔ ∃ j ∈ nxtL p.code[k] k, Rch p.code r j := by
 rw [aft_at p hk]
 exact live_iff hp (hp.nx k hk)
theorem itf_at {p : Prc} {k : Nat} (hk : k < p.code.length) {r : Int} (hr : r ∈ (aftP p)[k]'(by rw [aftF_len]; exact hk)) : itfB p.code (aftP p) (givesI p.code[k]) r = true := by
 unfold itfB
 rw [List.any_eq_true]
 have hl : k < (p.code.zip (aftP p)).length := by rw [List.length_zip, aftF_len]; omega
 refine ⟨(p.code.zip (aftP p))[k], List.getElem_mem hl, ?_⟩
 rw [List.getElem_zip, Bool.or_eq_true, Bool.and_eq_true, List.contains_iff_mem]
 exact .inl ⟨by simp, hr⟩
theorem gv_nmd {c : List Ins} {x : Ins} (h : x ∈ c) : nmdB c (givesI x) = true := by
 unfold nmdB
 rw [List.any_eq_true]
 exact ⟨x, h, by simp⟩
end Go.Cb
namespace Go.Cb
open Go.Proofs
set_option maxRecDepth 100000
set_option maxHeartbeats 4000000
theorem liveF_lt (c : List Ins) (n : Nat) (frm : List Int) : (liveF c n frm).Pairwise (· < ·) := by
 unfold liveF
 refine List.Pairwise.filter _ ?_
 rw [List.pairwise_map]
 exact List.pairwise_lt_range.imp (fun {a b} h => by show (a : Int) < (b : Int); omega)
inductive Cm (c : List Ins) : Int → Prop
 | zero : Cm c 0
 | step {k j : Int} : Cm c k → 0 ≤ k → k < c.length → j ∈ nxtL (insD c k) k → Cm c j
theorem last_le : ∀ (l : List Int), l.Pairwise (· < ·) → ∀ x ∈ l, x ≤ l.getLastD 0
 | [], _, x, h => by cases h
 | [y], _, x, h => by rw [List.mem_singleton] at h; subst h; exact Int.le_refl _
 | y :: z :: l, hp, x, h => by
  have h2 := List.pairwise_cons.1 hp
  have ih := last_le (z :: l) h2.2
  show x ≤ (z :: l).getLastD 0
  rcases List.mem_cons.1 h with rfl | h
  ·have h3 := ih z List.mem_cons_self
   have h4 := h2.1 z List.mem_cons_self
   omega
  ·exact ih x h
theorem cm_apart {p : Prc} (hp : PrF p) (hb : begB p = false) {k : Int} (h : Cm p.code k) : ∀ q r, Rch p.code q k → Rch p.code r k → q ≠ r → slR p q ≠ slR p r := by
 induction h with
 | zero =>
  intro q r hq hr hne
  have hln := hp.ln
  have hag := hp.ag
  have hz : ∀ j ∈ [(0 : Int)], 0 ≤ j ∧ j < p.code.length := fun j hj => by rw [List.mem_singleton] at hj; omega
  have h1 : ∀ x, Rch p.code x 0 → x < p.args := fun x hx => by
   have hm : x ∈ begP p := (live_iff hp hz).2 ⟨0, by simp, hx⟩
   have h2 := last_le _ (liveF_lt ..) x hm
   have h3 : 0 < (begP p).length := List.length_pos_of_mem hm
   unfold begB at hb
   rw [Bool.and_eq_false_imp] at hb
   have := hb (by simp only [decide_eq_true_eq]; omega)
   rw [decide_eq_false_iff_not] at this
   show x < p.args
   have h4 : x ≤ (begP p).getLastD 0 := h2
   omega
  have hq2 := rch_rg hp hq
  have hr2 := rch_rg hp hr
  rw [slR_args hq2.1 (h1 q hq) hq2.2, slR_args hr2.1 (h1 r hr) hr2.2]
  exact hne
 | @step k j _ h0 h1 hj ih =>
  intro q r hq hr hne
  have hk : k.toNat < p.code.length := by omega
  have hi := insD_at h0 h1
  have hj' : j ∈ nxtL (p.code[k.toNat]) (k.toNat : Nat) := by rw [Int.toNat_of_nonneg h0, ← hi]; exact hj
  have hgn := gv_nmd (List.getElem_mem hk)
  have hgg := hp.gv _ (List.getElem_mem hk)
  have hdd : ∀ x, Rch p.code x j → ∀ y, Rch p.code y j → givesI (insD p.code k) = x → x ≠ y → slR p x ≠ slR p y := fun x hx y hy hg hxy => by
   have hx2 := rch_rg hp hx
   rw [hi] at hg
   exact slR_apart hx2 (rch_rg hp hy) (rch_nmd hx) (rch_nmd hy) hxy (by rw [← hg]; exact itf_at hk ((aft_iff hp hk).2 ⟨j, hj', hy⟩))
  by_cases e1 : givesI (insD p.code k) = q
  ·exact hdd q hq r hr e1 hne
  ·by_cases e2 : givesI (insD p.code k) = r
   ·exact (hdd r hr q hq e2 (Ne.symm hne)).symm
   ·exact ih q r (.step h0 h1 e1 hj hq) (.step h0 h1 e2 hj hr) hne
theorem putR_new {l : List Int} {v : Int} (h : v ∉ l) : (putR l v).length = l.length + 1 := by
 have h2 := congrArg List.length (List.takeWhile_append_dropWhile (p := fun x => decide (x < v)) (l := l))
 rw [List.length_append] at h2
 unfold putR
 rw [List.length_append, if_neg, List.length_cons]
 ·omega
 ·intro hh
  exact h (List.dropWhile_subset _ (List.mem_of_mem_head? hh))
theorem alvF_count (at_ : List Int) (d : Int) : ∀ (l out : List Int), l.Nodup → (∀ a ∈ l, a ≠ d → at_.getD a.toNat 0 ∉ out) → (∀ a ∈ l, ∀ b ∈ l, a ≠ d → b ≠ d → a ≠ b → at_.getD a.toNat 0 ≠ at_.getD b.toNat 0) → (alvF at_ d l out).length = out.length + (l.filter fun r => decide (r ≠ d)).length
 | [], out, _, _, _ => rfl
 | a :: l, out, hn, h1, h2 => by
  have hn2 := List.nodup_cons.1 hn
  rw [alvF, alvF_count at_ d l _ hn2.2]
  ·by_cases h : a ≠ d
   ·rw [if_pos h, putR_new (h1 a List.mem_cons_self h), List.filter_cons, if_pos (by simpa using h), List.length_cons]
    omega
   ·rw [if_neg h, List.filter_cons, if_neg (by simpa using h)]
  ·intro b hb hbd
   have h3 := h1 b (List.mem_cons_of_mem _ hb) hbd
   by_cases h : a ≠ d
   ·rw [if_pos h, putR_mem]
    rintro (h4 | h4)
    ·exact h3 h4
    ·exact h2 a List.mem_cons_self b (List.mem_cons_of_mem _ hb) h hbd (fun e => hn2.1 (e ▸ hb)) h4.symm
   ·rw [if_neg h]; exact h3
  ·exact fun x hx y hy => h2 x (List.mem_cons_of_mem _ hx) y (List.mem_cons_of_mem _ hy)
theorem apart_len {p : Prc} (hp : PrF p) (hb : begB p = false) {k : Nat} (hk : k < p.code.length) (hcm : Cm p.code k) :
  (alvF (sltP p) (givesI p.code[k]) ((aftP p)[k]'(by rw [aftF_len]; exact hk)) []).length = (((aftP p)[k]'(by rw [aftF_len]; exact hk)).filter fun r => decide (r ≠ givesI p.code[k])).length := by
 rw [alvF_count, List.length_nil, Nat.zero_add]
 ·rw [aft_at _ hk]
  exact (liveF_lt ..).imp (fun {a b} h => by omega)
 ·intro a _ _ h; cases h
 ·intro a ha b hb2 h1 h2 hne
  obtain ⟨j1, hj1, hr1⟩ := (aft_iff hp hk).1 ha
  obtain ⟨j2, hj2, hr2⟩ := (aft_iff hp hk).1 hb2
  have hi : insD p.code (k : Int) = p.code[k] := insD_at (by omega) (by omega)
  exact cm_apart hp hb hcm a b (.step (by omega) (by omega) (by rw [hi]; exact Ne.symm h1) (by rw [hi]; exact hj1) hr1) (.step (by omega) (by omega) (by rw [hi]; exact Ne.symm h2) (by rw [hi]; exact hj2) hr2) hne
theorem alive_at {p : Prc} {k : Nat} (hk : k < p.code.length) (hk2 : k < (colP p).alive.length) : (colP p).alive[k] = alvF (sltP p) (givesI p.code[k]) ((aftP p)[k]'(by rw [aftF_len]; exact hk)) [] := by
 simp only [colP, List.getElem_map, List.getElem_zip]
end Go.Cb
namespace Go.Cb
open Go.Proofs
set_option maxRecDepth 100000
set_option maxHeartbeats 4000000
end Go.Cb
namespace Go.Cb
open Go.Proofs
set_option maxRecDepth 100000
set_option maxHeartbeats 4000000
theorem ints19_self (l : List Int) : ACallP Tryz.prog 26 [slI l, slI l] (.bool true) := by
 refine ACall.of_body tt_ok Tryz.func26 rfl rfl (n := 26) rfl rfl ?_
 conv => whnf
 repeat' (first|((first|((first|(apply zY;intro hg)|apply zZ);first|exact stA|exact stB)|(refine zW ?_ ?_;exact gA)|refine zH rfl ?_|refine zA ?_|refine zI bA ?_|refine zI rfl ?_|refine sB ?_|(refine zO ?_ ?_ ?_;omega;omega)|(refine zP ?_ ?_ ?_;omega;omega)|refine zM rfl ?_|(refine zQ ?_ ?_ ?_;omega;omega)|(refine zR ?_ ?_;omega)|(refine zI ?_ ?_;exact nA)|refine sS ?_|refine sE ?_|refine n0 ?_|refine sD ?_|refine PDraw.sP (some 17) rfl [] [] tt_ok mixed ?_|intro _|refine zG ?_);conv=>whnf)|(refine zX (fun hc => ?_) (fun hc => ?_)<;>(try simp only [SY] at hc)<;>first|omega|(conv=>whnf)))
 refine PLoop.keep [4, 5, 11, 12, 13, 14, 15, 16, 17, 18, 19, 20, 21, 22, 23, 24, 25] (fun i : Nat => [(5, .int .i64 i)]) (fun i => i ≤ l.length) (fun i => l.length - i) 0 (Nat.zero_le _) wA ?_
 rintro i hi
 conv => whnf
 repeat' (first|((first|((first|(apply zY;intro hg)|apply zZ);first|exact stA|exact stB)|(refine zW ?_ ?_;exact gA)|refine zH rfl ?_|refine zA ?_|refine zI bA ?_|refine zI rfl ?_|refine sB ?_|(refine zO ?_ ?_ ?_;omega;omega)|(refine zP ?_ ?_ ?_;omega;omega)|refine zM rfl ?_|(refine zQ ?_ ?_ ?_;omega;omega)|(refine zR ?_ ?_;omega)|(refine zI ?_ ?_;exact nA)|refine sS ?_|refine sE ?_|refine n0 ?_|refine sD ?_|refine PDraw.sP (some 17) rfl [] [] tt_ok mixed ?_|intro _|refine zG ?_);conv=>whnf)|(refine zX (fun hc => ?_) (fun hc => ?_)<;>(try simp only [SY] at hc)<;>first|omega|(conv=>whnf)))
 ·exact loopTo (i + 1) (by show i + 1 ≤ _; omega) (by show l.length - (i + 1) < l.length - i; omega) wA
 ·exact PRet.pure (Wk.tt rfl)
def p0 : Prc := ⟨1, false, 2, [⟨22, 0, 0, 0, []⟩], [[]]⟩
theorem Wk.rowT {s : Nat} {xs ys : List PV} {tk : Option Tok} (h : WkR xs ys) : Wk (.sl s xs tk) (.sl s ys none) := Wk.trans (Wk.tok _ _ _) (Wk.row h)
end Go.Cb
namespace Go.Cb
open Go.Proofs
set_option maxRecDepth 100000
set_option maxHeartbeats 4000000
end Go.Cb

