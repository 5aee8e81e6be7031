/-
 Contracts: the document's check of programs.
 Plain law: a program's term, and the document's: where no name is lost they are the same.
 Drawn regions in two stages: stable operations, a chain, stable operations, a chain.
 Calls among entries that end in entries unknown.
 Drawn regions with allocations that may come at any time.
 Indices within bounds by a condition.
 More for the walk: elements within bounds on a condition; what values are as data; appends.
 Appends onto rows of one's own; maps from numbers.
 The document's machine: its values and how they lie in memory.
 Plain law: the document's reading goes on, and needs no more fuel than there are bytes.
 Contracts: the document's reader: blanks, marks, failure.
 Contracts: the document's reader: lists, data.
 Drawn regions with two effects that no order binds to one another: both orders are walked.
 Drawn regions with a read that no order binds to two effects: it is walked at each place.
 Drawn regions whose effects may come in several orders: a tree of what may come next.
 Contracts: the document's machine: values of data, places, lists.
 Plain: the texts of the document's machine's values.
 Contracts: the texts of the document's machine's values.
 Contracts: the document's numbers: sums, products, which is less.
 Contracts: primitives' facts, of the document.
 Contracts: the document's primitives that fold.
-/
import Derived.Test.YtkcbpdpiodgaiaaGreatDoorB3
set_option linter.unusedSimpArgs false
set_option linter.unusedVariables false
namespace Go.Cb
open Go.Proofs
set_option maxRecDepth 100000
set_option maxHeartbeats 4000000
structure Prog where
 consts : List Datum
 body : Trm
def Prog.cells (p : Prog) : List PV := .sl 5 (p.consts.map Datum.pv) none :: p.body.cells
def checkD (p : Prog) (level : Int) : Int :=
 if (decide (level < 0) || decide (level > 2)) = true then 1 else
 if (p.consts.all (fun d => d.rightD 0) && (p.body.ckD level p.consts.length 0 false [] 0 0 []).isSome) = true then 0 else 5
theorem drChk06caa {p q : Prop} (k : q) (h : q → p := by intro hq; first | exact PDraw.sP (some 12) rfl [] [8,9] tt_ok mixed hq) : p := h k
theorem check2_c (p : Prog) (level : Int) (hb : p.body.bulk ≤ 1000000000) (hl : p.consts.length ≤ 1000000000) : ACallP Tryz.prog 11 [.agg p.cells, .int .i64 level] (.int .i64 (checkD p level)) := by
 have hs : checkD p level = checkD p level := rfl
 conv at hs => rhs; unfold checkD
 refine ACall.of_body tt_ok Tryz.func11 rfl rfl (n := 34) rfl rfl ?_
 conv => whnf
 repeat' (first|refine aA0 ?_|((first|((apply zZ);(conv=>whnf);(repeat ((refine pC (constants2_c _) wR ?_);conv=>whnf));exact pZ)|refine drChk06caa ?_|intro _);conv=>whnf)|(refine zX (fun hc=>?_) (fun hc=>?_)<;>(try simp only [SY] at hc)<;>(conv=>whnf)))
 ·rw [hs, if_pos (by simp only [SS]; exact hc)]
  exact PRet.pure (Wk.refl _)
 ·rename_i b1 b2
  refine PCall.goG (Ghost.trans (Ghost.nil 1 3 _) (Ghost.box (b := b2) (cs := [.int .i64 level, .int .i64 p.consts.length, .int .i64 0, .bfalse, .int .i64 0, .nil, .bool (p.consts.all fun d => d.rightD 0)]) (cs' := ckC level p.consts.length 0 0 false [] (nilTok 1 3) (p.consts.all fun d => d.rightD 0)) wA))
   (term2_c b2 level p.consts.length 0 false p.body 0 0 [] [] (p.consts.all fun d => d.rightD 0) (nilTok 1 3) rfl (by omega) (by omega) (by omega) (by omega) (by simp; omega) (by simp; omega)) wA ?_
  rintro _ _ ⟨rfl, s', b', tk, ok, h1, rfl, h3, h4⟩
  rw [hc] at h3 h4
  simp only [if_true] at h3 h4
  conv => whnf
  repeat' (first|refine aA0 ?_|(refine zX (fun hc=>?_) (fun hc=>?_)<;>(try simp only [SY] at hc)<;>(conv=>whnf)))
  ·rw [hs, if_neg (by simp only [SS]; omega), if_neg (by rw [h4 hc]; simp)]
   exact PRet.pure (Wk.refl _)
  ·rw [hs, if_neg (by simp only [SS]; omega), if_pos (by rw [h3 hc]; simp [*])]
   exact PRet.pure (Wk.refl _)
 ·rw [hs, if_neg (by simp only [SS]; omega), if_neg (by simp [*])]
  exact PRet.pure (Wk.refl _)
 ·rename_i hx; rw [hc] at hx; cases hx
end Go.Cb
namespace Go.Cb
open Go.Proofs
set_option maxRecDepth 100000
set_option maxHeartbeats 4000000
structure RsO where
 p : Prog
 e : Int
end Go.Cb
namespace Go.Cb
open Go.RowKit (Below)
set_option maxRecDepth 100000
set_option maxHeartbeats 4000000
section
variable {P : Program} {tt : Nat → TI}
structure Split0 (ops : Array Oper) (tab : List Nat) (A R1 R2 : List Nat) : Prop where
 pa : A.Pairwise fun j i => anc tab i j = true ∨ apartAt ops j i = true
 par : ∀ j ∈ A, ∀ i ∈ R1, anc tab i j = true ∨ apartAt ops j i = true
 r1 : R1.Pairwise fun j i => anc tab i j = true
 tl : ∀ j ∈ A ++ R1, ∀ i ∈ R2, anc tab i j = true
 ug : ∀ i ∈ R1, ∀ o, ops[i]? = some o → o.guard = none
 nd : ∀ i ∈ R1, ∀ o, ops[i]? = some o → noDef o.op = true
theorem Split0.dropA {ops : Array Oper} {tab A1 A2 R1 R2 : List Nat} {i : Nat} (h : Split0 ops tab (A1 ++ i :: A2) R1 R2) : Split0 ops tab (A1 ++ A2) R1 R2 := by
 have hs : List.Sublist (A1 ++ A2) (A1 ++ i :: A2) := List.Sublist.append (List.Sublist.refl _) (List.sublist_cons_self _ _)
 refine ⟨h.pa.sublist hs, fun j hj => h.par j (hs.subset hj), h.r1, fun j hj => h.tl j ?_, h.ug, h.nd⟩
 ·exact (List.Sublist.append hs (List.Sublist.refl R1)).subset hj
theorem Split0.dropR {ops : Array Oper} {tab A R1 R2 : List Nat} {i : Nat} (h : Split0 ops tab A (i :: R1) R2) : Split0 ops tab A R1 R2 := by
 have hs : List.Sublist (A ++ R1) (A ++ i :: R1) := List.Sublist.append (List.Sublist.refl _) (List.sublist_cons_self _ _)
 exact ⟨h.pa, fun j hj i hi => h.par j hj i (by simp [hi]), (List.pairwise_cons.1 h.r1).2, fun j hj => h.tl j (hs.subset hj), fun j hj => h.ug j (by simp [hj]), fun j hj => h.nd j (by simp [hj])⟩
theorem game0 (hk : TT.ok P tt) (rd : Option Nat) (nn : Nat) {ops : Array Oper} {tab R2 : List Nat} (hc : tabChk ops tab = true) {w0 : World} {M Γ2 : List Ent} {F0 : Fz} {ds : List Deferred} {Q' : Exit → Act → World → Prop}
  {Tl : List PV → List Ent → Prop} (hTl : ∀ (fuel : Nat) (listed : Array Bool) (T : List PV) (Γ : List Ent) (F : Fz) (a : Act) (w : World), R2.length ≤ fuel → Down ops listed → Pend ops listed R2 → F0.le F → Sim w0 F (Γ ++ M) w → RepT F T a.tmps.toList → a.defers = ds →
   Tl T Γ → wpAnyIn (Fen rd) nn P .any ops Q' fuel listed a w) :
  ∀ (n : Nat) (A R1 : List Nat) (fuel : Nat) (listed : Array Bool) (T : List PV) (Γ1 : List Ent) (F : Fz) (a : Act) (w : World), A.length + R1.length = n → n + R2.length ≤ fuel →
   Down ops listed → Pend ops listed (A ++ (R1 ++ R2)) → Split0 ops tab A R1 R2 → F0.le F → Sim w0 F (Γ1 ++ (Γ2 ++ M)) w → RepT F T a.tmps.toList → a.defers = ds →
   (SSeq P tt ops.toList (A.filterMap (ops[·]?)) T Γ2 fun T' => WOps P tt ops.toList (R1.filterMap (ops[·]?)) T' Γ1 [] fun T2 Γ1' _ => Tl T2 (Γ1' ++ Γ2)) →
   wpAnyIn (Fen rd) nn P .any ops Q' fuel listed a w := by
 intro n
 induction n with
 | zero =>
  intro A R1 fuel listed T Γ1 F a w hn hf hd hp hsp hle hS hT hds h
  obtain rfl : A = [] := List.eq_nil_of_length_eq_zero (by omega)
  obtain rfl : R1 = [] := List.eq_nil_of_length_eq_zero (by omega)
  exact hTl fuel listed T (Γ1 ++ Γ2) F a w (by simp at hn; omega) hd (by simpa using hp) hle (by simpa using hS) hT hds h
 | succ n ih =>
  intro A R1 fuel listed T Γ1 F a w hn hf hd hp hsp hle hS hT hds h
  cases fuel with
  | zero => omega
  | succ fuel =>
  refine ⟨fun hnil => ?_, fun i hi => ?_⟩
  ·exfalso
   cases hAR : A ++ (R1 ++ R2) with
   | nil => simp at hAR; rw [hAR.1, hAR.2.1] at hn; simp at hn
   | cons x xs =>
    rw [hAR] at hp
    obtain ⟨k, hk'⟩ := ready_exists hc hp
    rw [hnil] at hk'
    cases hk'
  ·obtain ⟨o, ho⟩ := hp.2.2 i (hp.ready hi)
   have un : ∀ {j : Nat}, j ∈ A ++ (R1 ++ R2) → anc tab i j = true → False := fun {j} hj ha => blocked hc hd i ho ha ((hp.2.1 j).2 hj) hi
   have free : ∀ {j : Nat} {x : Oper}, j ∈ A ++ (R1 ++ R2) → ops[j]? = some x → (anc tab i j = true ∨ apartAt ops j i = true) → x.apart ops o = true := by
    intro j x hj hx h
    rcases h with h | h
    ·exact (un hj h).elim
    ·simpa [apartAt, hx, ho] using h
   have hmem := hp.ready hi
   rw [List.mem_append, List.mem_append] at hmem
   rcases hmem with hm | hm | hm
   ·
    obtain ⟨A1, A2, rfl⟩ := List.append_of_mem hm
    rw [filterMap_split ho] at h
    have hap : ∀ x ∈ A1.filterMap (ops[·]?), x.apart ops o = true := by
     intro x hx
     obtain ⟨j, hj, hx⟩ := List.mem_filterMap.1 hx
     exact free (by simp [hj]) hx ((List.pairwise_append.1 hsp.pa).2.2 j hj i (by simp))
    obtain ⟨v, h1, h2⟩ := SSeq_move _ T hap h
    have hS2 : Sim w0 F (Γ2 ++ (Γ1 ++ M)) w := hS.perm (by
     rw [← List.append_assoc, ← List.append_assoc]
     exact List.perm_append_comm.append_right M)
    unfold wpOpIn
    simp only [ho]
    have key := SVal_sound hk (rd := rd) (nn := nn) (Q := Q') (next := fun a w => wpAnyIn (Fen rd) nn P .any ops Q' fuel (listed.setIfInBounds i true) a w) hS2 hT h1 ?_
    ·split at key <;> rename_i hw
     ·rw [if_pos hw]; exact key
     ·rw [if_neg hw]; exact ⟨fun _ _ => trivial, key⟩
    intro F' u w' hle' hS' hx
    refine ih (A1 ++ A2) R1 fuel _ (putT T o.dst v) Γ1 F' _ w' (by simp at hn ⊢; omega) (by omega) (hd.set hi) ?_ hsp.dropA (Fz.le_trans hle hle') ?_ (put_rep (RepT.mono hle' _ _ hT) hx o.dst)
     ((put_defers a o.dst u).trans hds) ?_
    ·have := Pend.set (l1 := A1) (l2 := A2 ++ (R1 ++ R2)) (i := i) (by simpa using hp)
     rwa [List.append_assoc]
    ·exact hS'.perm (by
      rw [← List.append_assoc, ← List.append_assoc]
      exact List.perm_append_comm.append_right M)
    ·rw [List.filterMap_append]; exact h2
   ·
    cases R1 with
    | nil => cases hm
    | cons r R1 =>
     rcases List.mem_cons.1 hm with hir | hir
     ·subst hir
      have hg : o.guard = none := hsp.ug i (by simp) o ho
      have e1 : (i :: R1).filterMap (ops[·]?) = o :: R1.filterMap (ops[·]?) := by rw [List.filterMap_cons, ho]
      rw [e1] at h
      have hap : ∀ x ∈ A.filterMap (ops[·]?), x.apart ops o = true := by
       intro x hx
       obtain ⟨j, hj, hx⟩ := List.mem_filterMap.1 hx
       exact free (by simp [hj]) hx (hsp.par j hj i (by simp))
      have h2 := SSeq_eff (kk := fun T' Γ1' => WOps P tt ops.toList (R1.filterMap (ops[·]?)) T' Γ1' [] fun T2 Γ1' _ => Tl T2 (Γ1' ++ Γ2)) _ T hap (by
       have hnd := hsp.nd i (by simp) o ho
       simpa only [WOps, hg, WOpD_noDef hnd, putK_T] using h)
      unfold wpOpIn
      simp only [ho]
      rw [if_pos (by simp [Region.wanted, hg])]
      refine WOp_sound hk (M := Γ2 ++ M) hS hT h2 ?_
      rintro F' x Γ' v' w' hle' hS' hx hK
      refine ih A R1 fuel _ (putT T o.dst x) Γ' F' _ w' (by simp at hn ⊢; omega) (by omega) (hd.set hi) ?_ hsp.dropR (Fz.le_trans hle hle') hS' (put_rep (RepT.mono hle' _ _ hT) hx o.dst)
       ((put_defers a o.dst v').trans hds) hK
      have := Pend.set (l1 := A) (l2 := R1 ++ R2) (i := i) (by simpa using hp)
      simpa using this
     ·exact (un (j := r) (by simp) ((List.pairwise_cons.1 hsp.r1).1 i hir)).elim
   ·
    exfalso
    cases A with
    | cons j A => exact un (j := j) (by simp) (hsp.tl j (by simp) i hm)
    | nil =>
     cases R1 with
     | cons j R1 => exact un (j := j) (by simp) (hsp.tl j (by simp) i hm)
     | nil => simp at hn
def split2B (ops : Array Oper) (tab A R1 B R2 : List Nat) : Bool :=
 tabChk ops tab &&
 pairB (fun j i => anc tab i j || apartAt ops j i) A && A.all (fun j => R1.all fun i => anc tab i j || apartAt ops j i) &&
 pairB (fun j i => anc tab i j) R1 && (A ++ R1).all (fun j => (B ++ R2).all fun i => anc tab i j) &&
 R1.all (fun i => match ops[i]? with | some o => o.guard.isNone | none => false) && (R1 ++ R2).all (fun i => match ops[i]? with | some o => noDef o.op | none => false) &&
 pairB (fun j i => anc tab i j || apartAt ops j i) B && pairB (fun j i => anc tab i j) R2 && B.all (fun j => R2.all fun i => anc tab i j) &&
 pairB (fun j i => !(Nat.beq j i)) (A ++ (R1 ++ (B ++ R2))) && (List.range ops.size).all (fun i => (A ++ (R1 ++ (B ++ R2))).contains i) && (A ++ (R1 ++ (B ++ R2))).all (fun i => Nat.blt i ops.size)
theorem Split0.of {ops : Array Oper} {tab A R1 B R2 : List Nat} (h : split2B ops tab A R1 B R2 = true) :
  tabChk ops tab = true ∧ Split0 ops tab A R1 (B ++ R2) ∧ Split ops tab B [] R2 ∧ Pend ops (Array.replicate ops.size false) (A ++ (R1 ++ (B ++ R2))) := by
 simp only [split2B, Bool.and_eq_true] at h
 obtain ⟨⟨⟨⟨⟨⟨⟨⟨⟨⟨⟨⟨h0, h1⟩, h2⟩, h3⟩, h5⟩, h6⟩, h6'⟩, b1⟩, b2⟩, b3⟩, h7⟩, h8⟩, h9⟩ := h
 have hlt : ∀ i ∈ A ++ (R1 ++ (B ++ R2)), i < ops.size := fun i hi => by
  have := List.all_eq_true.1 h9 i hi
  simpa [Nat.blt, Nat.succ_le_iff] using this
 have hnd : ∀ i ∈ R1 ++ R2, ∀ o, ops[i]? = some o → noDef o.op = true := by
  intro i hi o ho
  have := List.all_eq_true.1 h6' i hi
  rw [ho] at this
  exact this
 refine ⟨h0, ⟨?_, ?_, pairB_iff h3, ?_, ?_, fun i hi => hnd i (by simp [hi])⟩, ⟨?_, fun _ _ _ h => (by cases h), List.Pairwise.nil, pairB_iff b2, ?_, fun _ h => (by cases h), fun i hi => hnd i (by simpa using .inr (by simpa using hi))⟩, ?_, ?_, ?_⟩
 ·exact (pairB_iff h1).imp fun h => by simpa using h
 ·intro j hj i hi
  have := List.all_eq_true.1 (List.all_eq_true.1 h2 j hj) i hi
  simpa using this
 ·intro j hj i hi
  exact List.all_eq_true.1 (List.all_eq_true.1 h5 j hj) i hi
 ·intro i hi o ho
  have := List.all_eq_true.1 h6 i hi
  rw [ho] at this
  simpa using this
 ·exact (pairB_iff b1).imp fun h => by simpa using h
 ·intro j hj i hi
  exact List.all_eq_true.1 (List.all_eq_true.1 b3 j (by simpa using hj)) i hi
 ·exact (pairB_iff h7).imp fun h => by
   intro e
   subst e
   simp at h
 ·intro i
  constructor
  ·intro hi
   rcases Nat.lt_or_ge i ops.size with h' | h'
   ·have := List.all_eq_true.1 h8 i (List.mem_range.2 h')
    simpa only [List.contains_iff_mem] using this
   ·simp [Array.getElem?_eq_none, h'] at hi
  ·intro hi
   simp [hlt i hi]
 ·intro i hi
  exact ⟨_, Array.getElem?_eq_getElem (hlt i hi)⟩
theorem PDraw.split2 (hk : TT.ok P tt) (hm : P.follows .mixedOrders = true) {ops : Array Oper} {T : List PV} {Γ Γ2 : List Ent} {K : List PV → List Ent → Prop} (tab A R1 B R2 : List Nat) (Γ1 : List Ent)
  (hchk : split2B ops tab A R1 B R2 = true) [hp : PickL Γ Γ1 Γ2]
  (h : SSeq P tt ops.toList (pickO ops.toList A) T Γ2 fun T' => WOps P tt ops.toList (pickO ops.toList R1) T' Γ1 [] fun T2 Γ1' _ => appE Γ1' Γ2 fun Γ' =>
   SSeq P tt ops.toList (pickO ops.toList B) T2 Γ' fun T3 => WOps P tt ops.toList (pickO ops.toList R2) T3 Γ' [] fun T' Γ' _ => K T' Γ') : PDraw P ops T Γ K := by
 refine ⟨fun rd nn id w0 F M w a Q' hS hT hQ => wpIn_region_any hm ?_⟩
 obtain ⟨hc, hsp, hsp2, hpend⟩ := Split0.of hchk
 have hlen : A.length + R1.length + (B ++ R2).length ≤ ops.size := by
  have hsub : (A ++ (R1 ++ (B ++ R2))) ⊆ List.range ops.size := fun i hi => by
   obtain ⟨o, ho⟩ := hpend.2.2 i hi
   exact List.mem_range.2 (Array.getElem?_eq_some_iff.1 ho).1
  have := hpend.1.length_le_of_subset hsub
  simpa [Nat.add_assoc] using this
 have hS' : Sim w0 F (Γ1 ++ (Γ2 ++ M)) { w with drawn := w.drawn + 1 } := by
  have := (hS.perm (hp.p.append_right M)).of_heap (w' := { w with drawn := w.drawn + 1 }) rfl rfl rfl rfl
  simpa using this
 refine game0 hk rd nn hc (R2 := B ++ R2) (F0 := F) (ds := a.defers) (Tl := fun T2 Γ' => SSeq P tt ops.toList (pickO ops.toList B) T2 Γ' fun T3 => WOps P tt ops.toList (pickO ops.toList R2) T3 Γ' [] fun T' Γ' _ => K T' Γ') ?_ _ A R1 ops.size _ T Γ1 F a _ rfl hlen ?_ hpend hsp (Fz.le_refl F) hS' hT rfl ?_
 ·intro fuel listed T2 Γ' F' a' w' hf hd hpd hle hS2 hT2 hds ht
  refine game hk rd nn hc (R2 := R2) (F0 := F) (ds := a.defers) hQ _ B [] fuel listed T2 [] F' a' w' rfl (by simpa using hf) hd (by simpa using hpd) hsp2 hle (Γ2 := Γ') (by simpa using hS2) hT2 hds ?_
  simpa only [pickO_eq, Array.getElem?_toList, List.filterMap_nil, WOps, List.nil_append] using ht
 ·intro k o hk'
  rcases Nat.lt_or_ge k ops.size with h' | h'
  ·simp [h'] at hk'
  ·intro ho
   have := (Array.getElem?_eq_some_iff.1 ho).1
   omega
 ·simpa only [pickO_eq, Array.getElem?_toList, appE_eq] using h
theorem PCallD.go {f : FuncId} {args args' : List PV} {Γ Γ1 Γ2 : List Ent} {Q K : PV → List Ent → Prop} (h : ACallD P f args' Γ1 Q) (hw : WkT args args') [hp : PickL Γ Γ1 Γ2]
  (k : ∀ y Γ1', Q y Γ1' → appE Γ1' Γ2 fun Γ' => K y Γ') : PCallD P f args Γ K := PCallD.gen h hw (hp := hp) fun y Γ1' hq => by have := k y Γ1' hq; rwa [appE_eq] at this
theorem PSliceM.hi {sz : Nat} {Γ : List Ent} {t : Tok} {es : List PV} {put : Tok → List PV → List Ent} [hp : PickRow Γ t es put] {k : IntKind} {n : Int} {i : Nat} [x : IdxOf n i] {K : PV → List Ent → Prop} (hs : t.s = sz) (h0 : 0 ≤ n) (hl : n ≤ es.length)
  (hk : ∀ t' : Tok, t'.e = t.e → t'.s = t.s → K (.ms t') (put t' (es.take i))) : PSliceT sz t none (some (.int k n)) Γ K := by
 obtain ⟨Γ1, Γ2, h1, h2⟩ := hp.at_
 have e := x.eq h0
 exact ⟨.inl ⟨es, Γ1, Γ2, i, h1, hs, rfl, e, by omega, fun t' a b => by rw [← h2]; exact hk t' a b⟩⟩
theorem PSliceT.tail {sz : Nat} {Γ : List Ent} {t : Tok} {es : List PV} {put : Tok → List PV → List Ent} [hp : PickRow Γ t es put] {k : IntKind} {n : Int} {i : Nat} [x : IdxOf n i] {K : PV → List Ent → Prop} (hs : t.s = sz) (h0 : 0 ≤ n) (hl : n ≤ es.length)
  (hk : ∀ v, tailOf t i v → K (.sc v) Γ) : PSliceT sz t (some (.int k n)) none Γ K := by
 obtain ⟨Γ1, Γ2, h1, h2⟩ := hp.at_
 have e := x.eq h0
 exact ⟨.inr ⟨rfl, es, i, by rw [h1]; simp, hs, e, by omega, hk⟩⟩
theorem PClear.at_ {Γ : List Ent} {t : Tok} {es : List PV} {put : Tok → List PV → List Ent} [hp : PickRow Γ t es put] {k : IntKind} {n : Int} {l : Nat} {v : Value} {K : List Ent → Prop} (hv : tailOf t l v) (hs : t.s = 1) (hl : l ≤ es.length)
  (hk : K (put t (es.take l ++ List.replicate (es.length - l) (.int k n)))) : PClear (.int k n) v Γ K := by
 obtain ⟨Γ1, Γ2, h1, h2⟩ := hp.at_
 rw [h2] at hk
 exact ⟨k, n, rfl, t, es, l, Γ1, Γ2, hv, h1, hs, hl, hk⟩
end
end Go.Cb
namespace Go.Cb
open Go.RowKit (Below)
set_option maxRecDepth 100000
section
variable {P : Program} {tt : Nat → TI}
theorem AYield.frameR {l : Nat} {args : List PV} {Γ Γ1 Γ2 : List Ent} {Q : PV → List Ent → Prop} (h : AYield P l args Γ1 Q) (hp : Γ.Perm (Γ2 ++ Γ1)) : AYield P l args Γ fun y Γ' => ∃ Γ1', Γ' = Γ2 ++ Γ1' ∧ Q y Γ1' := fun w0 F M w vs hS hT => by
 have hS' : Sim w0 F (Γ1 ++ (Γ2 ++ M)) w := hS.perm (by
  rw [← List.append_assoc]
  exact (hp.trans List.perm_append_comm).append_right M)
 obtain ⟨fn, tmps, assign, body, h1, h2⟩ := h w0 F (Γ2 ++ M) w vs hS' hT
 refine ⟨fn, tmps, assign, body, h1, h2.mono ?_⟩
 rintro _ _ ⟨v, F', y, Γ', e1, e2, e3, e4, e5⟩
 exact ⟨v, F', y, Γ2 ++ Γ', e1, e2, e3.perm (by
  rw [← List.append_assoc]
  exact List.perm_append_comm.append_right M), e4, Γ', rfl, e5⟩
theorem ACall.frameR {f : FuncId} {args : List PV} {Γ Γ1 Γ2 : List Ent} {Q : PV → List Ent → Prop} (h : ACall P f args Γ1 Q) (hp : Γ.Perm (Γ2 ++ Γ1)) : ACall P f args Γ fun y Γ' => ∃ Γ1', Γ' = Γ2 ++ Γ1' ∧ Q y Γ1' :=
 ⟨h.1, fun w0 F M w vs hS hT => by
  have hS' : Sim w0 F (Γ1 ++ (Γ2 ++ M)) w := hS.perm (by
   rw [← List.append_assoc]
   exact (hp.trans List.perm_append_comm).append_right M)
  refine (h.2 w0 F (Γ2 ++ M) w vs hS' hT).mono ?_
  rintro _ _ ⟨v, F', y, Γ', e1, e2, e3, e4, e5⟩
  exact ⟨v, F', y, Γ2 ++ Γ', e1, e2, e3.perm (by
   rw [← List.append_assoc]
   exact List.perm_append_comm.append_right M), e4, Γ', rfl, e5⟩⟩
theorem PYield.goR {l : Nat} {args args' : List PV} {Γ Γ1 : List Ent} (Γ2 : List Ent) {Q K : PV → List Ent → Prop} (h : AYield P l args' Γ1 Q) (hw : WkT args args') (hp : Γ.Perm (Γ2 ++ Γ1)) (k : ∀ y Γ1', Q y Γ1' → appE Γ2 Γ1' fun Γ' => K y Γ') : PYield P l args Γ K :=
 ⟨((h.wk hw).frameR hp).mono fun y Γ' ⟨Γ1', e, hq⟩ => by have := k y Γ1' hq; rw [appE_eq] at this; rw [e]; exact this⟩
theorem PCall.goR {f : FuncId} {args args' : List PV} {Γ Γ1 : List Ent} (Γ2 : List Ent) {Q K : PV → List Ent → Prop} (h : ACall P f args' Γ1 Q) (hw : WkT args args') (hp : Γ.Perm (Γ2 ++ Γ1)) (k : ∀ y Γ1', Q y Γ1' → appE Γ2 Γ1' fun Γ' => K y Γ') : PCall P f args Γ K :=
 PCall.same ((h.wk hw).frameR hp) (WkT.refl _) fun y Γ' ⟨Γ1', e, hq⟩ => by have := k y Γ1' hq; rw [appE_eq] at this; rw [e]; exact this
end
end Go.Cb
namespace Go.Cb
open Go.RowKit (Below)
set_option maxRecDepth 100000
set_option maxHeartbeats 4000000
section
variable {P : Program} {tt : Nat → TI}
def fltOf (tt : Nat → TI) : Op → Option (Nat → PV × Ent)
 | .alloc t => match (tt t).und with
  | .other => none
  | _ => some fun b => (.ptr b 0, .box b ((tt t).zero.map ZK.pv))
 | .makeMap t none => match (tt t).und with
  | .mp kt _ => match keyD tt (tt kt).und with
   | some d => some fun r => (.mp r, .mp r d (fun _ => none) [])
   | none => none
  | _ => none
 | _ => none
theorem fltOf_iff {op : Op} {f : Nat → PV × Ent} (h : fltOf tt op = some f) {T : List PV} {Γ : List Ent} {K : PV → List Ent → Prop} : WOp P tt op T Γ K ↔ ∀ b, K (f b).1 ((f b).2 :: Γ) := by
 unfold fltOf at h
 split at h
 ·split at h
  ·cases h
  ·rename_i hne
   cases h
   simp only [WOp, zerosK_eq]
 ·split at h
  ·rename_i hu
   split at h
   ·rename_i hd
    cases h
    simp only [WOp, hu, hd]
   ·cases h
  ·cases h
 ·cases h
theorem fltOf_noDef {op : Op} {f : Nat → PV × Ent} (h : fltOf tt op = some f) : noDef op = true := by
 cases op <;> first | rfl | cases h
def fDst (ops : Array Oper) (i : Nat) : Option Tmp := (ops[i]?).bind (·.dst)
abbrev FE := Nat → Option (PV × Ent)
def putE (ops : Array Oper) (e : FE) : List Nat → List PV → List PV
 | [], T => T
 | i :: l, T => putE ops e l (match e i with
  | some x => putT T (fDst ops i) x.1
  | none => T)
theorem fm_congr {β : Type} {f g : Nat → Option β} : ∀ {l : List Nat}, (∀ x ∈ l, f x = g x) → l.filterMap f = l.filterMap g
 | [], _ => rfl
 | x :: l, h => by
  rw [List.forall_mem_cons] at h
  rw [List.filterMap_cons, List.filterMap_cons, h.1, fm_congr h.2]
theorem beq_ne {i j : Nat} (h : j ≠ i) : Nat.beq j i = false := by
 cases hb : Nat.beq j i
 ·rfl
 ·exact (h (Nat.eq_of_beq_eq_true hb)).elim
def entE (e : FE) (l : List Nat) : List Ent := l.filterMap fun i => (e i).map (·.2)
def updE (e : FE) (i : Nat) (x : PV × Ent) : FE := fun j => if j = i then some x else e j
def pendE (e : FE) (l : List Nat) : List Nat := l.filter fun i => (e i).isNone
theorem entE_none {e : FE} {l : List Nat} (h : ∀ i ∈ l, e i = none) : entE e l = [] := by
 unfold entE
 rw [List.filterMap_eq_nil_iff]
 intro i hi
 rw [h i hi]; rfl
theorem putE_none {ops : Array Oper} {e : FE} : ∀ {l : List Nat} {T : List PV}, (∀ i ∈ l, e i = none) → putE ops e l T = T
 | [], _, _ => rfl
 | i :: l, T, h => by
  rw [List.forall_mem_cons] at h
  rw [putE, h.1]
  exact putE_none h.2
theorem updE_ne {e : FE} {i j : Nat} {x : PV × Ent} (h : j ≠ i) : updE e i x j = e j := by simp [updE, h]
theorem updE_self {e : FE} {i : Nat} {x : PV × Ent} : updE e i x i = some x := by simp [updE]
theorem entE_upd {e : FE} {i : Nat} {x : PV × Ent} (he : e i = none) : ∀ {l : List Nat}, i ∈ l → l.Nodup → (entE (updE e i x) l).Perm (x.2 :: entE e l)
 | [], h, _ => by cases h
 | j :: l, h, hn => by
  rw [List.nodup_cons] at hn
  rcases List.mem_cons.1 h with rfl | h
  ·have h1 : entE (updE e i x) l = entE e l := by
    unfold entE
    refine fm_congr fun j hj => ?_
    rw [updE_ne (j := j) (i := i) fun e => hn.1 (e ▸ hj)]
   unfold entE at h1 ⊢
   rw [List.filterMap_cons, List.filterMap_cons, updE_self, he, h1]
   exact List.Perm.refl _
  ·have hne : j ≠ i := fun e => hn.1 (e ▸ h)
   have ih := entE_upd (x := x) he h hn.2
   unfold entE at ih ⊢
   rw [List.filterMap_cons, List.filterMap_cons, updE_ne hne]
   cases hj : e j with
   | none => simpa using ih
   | some y =>
    simp only [Option.map_some]
    exact (ih.cons _).trans (List.Perm.swap _ _ _)
theorem putE_put {ops : Array Oper} {e : FE} {d : Option Tmp} {v : PV} : ∀ {l : List Nat} {T : List PV}, (∀ i ∈ l, ∀ k, d = some k → fDst ops i ≠ some k) → putE ops e l (putT T d v) = putT (putE ops e l T) d v
 | [], _, _ => rfl
 | i :: l, T, h => by
  rw [List.forall_mem_cons] at h
  rw [putE, putE]
  cases he : e i with
  | none => exact putE_put h.2
  | some x =>
   simp only
   rw [putT_comm T h.1]
   exact putE_put h.2
theorem putE_congr {ops : Array Oper} {e e' : FE} : ∀ {l : List Nat} {T : List PV}, (∀ i ∈ l, e i = e' i) → putE ops e l T = putE ops e' l T
 | [], _, _ => rfl
 | i :: l, T, h => by
  rw [List.forall_mem_cons] at h
  rw [putE, putE, h.1]
  exact putE_congr h.2
theorem putE_upd {ops : Array Oper} {e : FE} {i : Nat} {x : PV × Ent} (he : e i = none) : ∀ {l : List Nat} {T : List PV}, i ∈ l → l.Nodup → (∀ j ∈ l, j ≠ i → ∀ k, fDst ops i = some k → fDst ops j ≠ some k) →
  putE ops (updE e i x) l T = putT (putE ops e l T) (fDst ops i) x.1
 | [], _, h, _, _ => by cases h
 | j :: l, T, h, hn, hd => by
  rw [List.nodup_cons] at hn
  rw [List.forall_mem_cons] at hd
  rcases List.mem_cons.1 h with rfl | h
  ·rw [putE, putE, updE_self, he]
   simp only
   rw [putE_congr (e := updE e i x) (e' := e) fun j hj => updE_ne fun e => hn.1 (e ▸ hj)]
   exact putE_put fun j hj => hd.2 j hj fun e => hn.1 (e ▸ hj)
  ·have hne : j ≠ i := fun e => hn.1 (e ▸ h)
   rw [putE, putE, updE_ne hne]
   exact putE_upd he h hn.2 hd.2
theorem pendE_upd {e : FE} {i : Nat} {x : PV × Ent} {l l1 l2 : List Nat} (hn : l.Nodup) (h : pendE e l = l1 ++ i :: l2) : pendE (updE e i x) l = l1 ++ l2 := by
 have h1 : pendE (updE e i x) l = (pendE e l).filter fun j => !(Nat.beq j i) := by
  unfold pendE
  rw [List.filter_filter]
  refine List.filter_congr fun j _ => ?_
  by_cases hj : j = i
  ·subst hj; rw [updE_self]; simp
  ·rw [updE_ne hj]
   simp [beq_ne hj]
 have hn2 : (l1 ++ i :: l2).Nodup := h ▸ hn.sublist List.filter_sublist
 rw [h1, h, List.filter_append, List.filter_cons]
 have hni := (List.perm_middle (a := i) (l₁ := l1) (l₂ := l2)).nodup_iff.1 hn2
 rw [List.nodup_cons, List.mem_append, not_or] at hni
 have hf : ∀ m : List Nat, i ∉ m → m.filter (fun j => !(Nat.beq j i)) = m := fun m hm => List.filter_eq_self.2 fun j hj => by
  rw [beq_ne (j := j) (i := i) fun e => hm (e ▸ hj)]; rfl
 rw [hf l1 hni.1.1, hf l2 hni.1.2]
 simp
theorem mem_pendE {e : FE} {l : List Nat} {i : Nat} : i ∈ pendE e l ↔ i ∈ l ∧ e i = none := by
 unfold pendE
 rw [List.mem_filter, Option.isNone_iff_eq_none]
theorem ev_putE {ops : Array Oper} {e : FE} {o : Oper} : ∀ {l : List Nat} {T : List PV}, (∀ i ∈ l, ∀ k, fDst ops i = some k → k ∉ o.looksAt ops) → ∀ y ∈ o.op.operands.toList, ev (putE ops e l T) y = ev T y
 | [], _, _ => fun _ _ => rfl
 | i :: l, T, h => fun y hy => by
  rw [List.forall_mem_cons] at h
  rw [putE, ev_putE h.2 y hy]
  cases e i with
  | none => rfl
  | some x => exact looks_operands h.1 y hy
theorem SVal_putE {ops : Array Oper} {e : FE} {o : Oper} {Γ : List Ent} {v : PV} : ∀ {l : List Nat} {T : List PV}, (∀ i ∈ l, ∀ k, fDst ops i = some k → k ∉ o.looksAt ops) → (SVal P tt ops.toList o (putE ops e l T) Γ v ↔ SVal P tt ops.toList o T Γ v)
 | [], _, _ => Iff.rfl
 | i :: l, T, h => by
  rw [List.forall_mem_cons] at h
  rw [putE, SVal_putE h.2]
  cases e i with
  | none => exact Iff.rfl
  | some x => exact SVal_put h.1
def EOk (tt : Nat → TI) (ops : Array Oper) (e : FE) (l : List Nat) : Prop := ∀ i ∈ l, e i = none ∨ ∃ o f b, ops[i]? = some o ∧ fltOf tt o.op = some f ∧ e i = some (f b)
structure Flts (tt : Nat → TI) (ops : Array Oper) (l : List Nat) : Prop where
 fl : ∀ i ∈ l, ∃ o f, ops[i]? = some o ∧ o.guard = none ∧ fltOf tt o.op = some f
 ff : l.Pairwise fun j i => apartAt ops j i = true
 nd : l.Nodup
theorem apart_dst {ops : Array Oper} {j i : Nat} (h : apartAt ops j i = true) : ∀ k, fDst ops i = some k → fDst ops j ≠ some k := by
 intro k hk hj
 unfold apartAt at h
 unfold fDst at hk hj
 cases hx : ops[j]? with
 | none => rw [hx] at hj; cases hj
 | some x =>
  cases hy : ops[i]? with
  | none => rw [hy] at hk; cases hk
  | some y =>
   rw [hx, hy] at h
   rw [hx] at hj
   rw [hy] at hk
   obtain ⟨a1, a2, a3⟩ := Oper.apart_spec h
   simp only [Option.bind_some] at hk hj
   exact a2 k hj hk
theorem Flts.dst {ops : Array Oper} {l : List Nat} (h : Flts tt ops l) : ∀ i ∈ l, ∀ j ∈ l, j ≠ i → ∀ k, fDst ops i = some k → fDst ops j ≠ some k := by
 intro i hi j hj hne k hk hjk
 have key : ∀ {l : List Nat}, l.Pairwise (fun j i => apartAt ops j i = true) → i ∈ l → j ∈ l → apartAt ops i j = true ∨ apartAt ops j i = true := by
  intro l hp hi hj
  induction l with
  | nil => cases hi
  | cons x l ih =>
   rw [List.pairwise_cons] at hp
   rcases List.mem_cons.1 hi with e1 | h1
   ·rcases List.mem_cons.1 hj with e2 | h2
    ·exact (hne (e2.trans e1.symm)).elim
    ·subst e1; exact .inl (hp.1 j h2)
   ·rcases List.mem_cons.1 hj with e2 | h2
    ·subst e2; exact .inr (hp.1 i h1)
    ·exact ih hp.2 h1 h2
 rcases key h.ff hi hj with h | h
 ·exact apart_dst h k hjk hk
 ·exact apart_dst h k hk hjk
theorem flt_step (hk : TT.ok P tt) {rd : Option Nat} {nn : Nat} {ops : Array Oper} {l : List Nat} (hF : Flts tt ops l) {e : FE} {i : Nat} {o : Oper} (hi : i ∈ l) (he : e i = none) (ho : ops[i]? = some o) (hE : EOk tt ops e l)
  {w0 : World} {F : Fz} {Γ M : List Ent} {w : World} {T : List PV} {a : Act} {next : Act → World → Prop} {Q : Exit → Act → World → Prop} (hS : Sim w0 F (Γ ++ (entE e l ++ M)) w) (hT : RepT F (putE ops e l T) a.tmps.toList)
  (hn : ∀ e' F' u w', EOk tt ops e' l → e' = updE e i ((e' i).getD (.any, .tok (nilTok 0 0))) → F.le F' → Sim w0 F' (Γ ++ (entE e' l ++ M)) w' → RepT F' (putE ops e' l T) (a.put o.dst u).tmps.toList → next (a.put o.dst u) w') :
  wpOpIn (Fen rd) nn P ops Q i next a w := by
 obtain ⟨o', f, ho', hg, hf⟩ := hF.fl i hi
 rw [ho] at ho'
 cases ho'
 unfold wpOpIn
 simp only [ho]
 rw [if_pos (by simp [Region.wanted, hg])]
 have hW : WOp P tt o.op (putE ops e l T) [] fun x Γ' => ∃ b, x = (f b).1 ∧ Γ' = [(f b).2] := (fltOf_iff hf).2 fun b => ⟨b, rfl, rfl⟩
 refine WOp_sound hk (Γ := []) (M := Γ ++ (entE e l ++ M)) hS hT hW ?_
 rintro F' x Γ' u w' hle hS' hx ⟨b, rfl, rfl⟩
 have hp := entE_upd (x := f b) he hi hF.nd
 have hd : fDst ops i = o.dst := by simp [fDst, ho]
 refine hn (updE e i (f b)) F' u w' ?_ (by rw [updE_self]; rfl) hle ?_ ?_
 ·intro j hj
  by_cases hji : j = i
  ·subst hji; rw [updE_self]; exact .inr ⟨o, f, b, ho, hf, rfl⟩
  ·rw [updE_ne hji]; exact hE j hj
 ·refine hS'.perm ?_
  have h1 : ((f b).2 :: (Γ ++ (entE e l ++ M))).Perm (Γ ++ ((f b).2 :: (entE e l ++ M))) := List.perm_middle.symm
  refine h1.trans ?_
  have h2 : ((f b).2 :: (entE e l ++ M)).Perm (entE (updE e i (f b)) l ++ M) := (hp.symm.append_right M)
  exact h2.append_left Γ
 ·rw [putE_upd he hi hF.nd (hF.dst i hi), hd]
  exact put_rep (RepT.mono hle _ _ hT) hx o.dst
theorem flts_done {ops : Array Oper} {e : FE} {K : List PV → List Ent → Ds → Prop} : ∀ (l : List Nat) (T : List PV) (Γ : List Ent), (∀ i ∈ l, ∃ o f b, ops[i]? = some o ∧ o.guard = none ∧ fltOf tt o.op = some f ∧ e i = some (f b)) →
  WOps P tt ops.toList (l.filterMap (ops[·]?)) T Γ [] K → ∃ Γ4, K (putE ops e l T) Γ4 [] ∧ Γ4.Perm (entE e l ++ Γ)
 | [], T, Γ, _, h => ⟨Γ, h, List.Perm.refl _⟩
 | i :: l, T, Γ, hl, h => by
  rw [List.forall_mem_cons] at hl
  obtain ⟨o, f, b, ho, hg, hf, he⟩ := hl.1
  rw [List.filterMap_cons, ho] at h
  simp only [WOps, hg, WOpD_noDef (fltOf_noDef hf), putK_T] at h
  have h2 := (fltOf_iff hf).1 h b
  obtain ⟨Γ4, h3, h4⟩ := flts_done l _ _ hl.2 h2
  refine ⟨Γ4, ?_, h4.trans ?_⟩
  ·rw [putE, he]
   have hd : fDst ops i = o.dst := by simp [fDst, ho]
   rw [hd]; exact h3
  ·unfold entE
   rw [List.filterMap_cons, he]
   exact List.perm_middle
theorem gameF (hk : TT.ok P tt) (rd : Option Nat) (nn : Nat) {ops : Array Oper} {tab Fl R2 : List Nat} (hF : Flts tt ops Fl) (hc : tabChk ops tab = true) {w0 : World} {M Γ2 : List Ent} {F0 : Fz} {ds : List Deferred} {Q' : Exit → Act → World → Prop}
  {Tl : List PV → List Ent → Prop} (hTl : ∀ (fuel : Nat) (listed : Array Bool) (T : List PV) (Γ : List Ent) (e : FE) (F : Fz) (a : Act) (w : World), (pendE e Fl).length + R2.length ≤ fuel → Down ops listed → Pend ops listed (pendE e Fl ++ R2) → EOk tt ops e Fl → F0.le F →
   Sim w0 F (Γ ++ (entE e Fl ++ M)) w → RepT F (putE ops e Fl T) a.tmps.toList → a.defers = ds → Tl T Γ → wpAnyIn (Fen rd) nn P .any ops Q' fuel listed a w) :
  ∀ (n : Nat) (A R1 : List Nat) (e : FE) (fuel : Nat) (listed : Array Bool) (T : List PV) (Γ1 : List Ent) (F : Fz) (a : Act) (w : World), A.length + R1.length + (pendE e Fl).length = n → n + R2.length ≤ fuel →
   Down ops listed → Pend ops listed (A ++ (R1 ++ (pendE e Fl ++ R2))) → Split0 ops tab A R1 R2 → (∀ j ∈ A ++ R1, ∀ i ∈ Fl, apartAt ops j i = true) → EOk tt ops e Fl → F0.le F → Sim w0 F (Γ1 ++ (Γ2 ++ (entE e Fl ++ M))) w → RepT F (putE ops e Fl T) a.tmps.toList → a.defers = ds →
   (SSeq P tt ops.toList (A.filterMap (ops[·]?)) T Γ2 fun T' => WOps P tt ops.toList (R1.filterMap (ops[·]?)) T' Γ1 [] fun T2 Γ1' _ => Tl T2 (Γ1' ++ Γ2)) →
   wpAnyIn (Fen rd) nn P .any ops Q' fuel listed a w := by
 intro n
 induction n with
 | zero =>
  intro A R1 e fuel listed T Γ1 F a w hn hf hd hp hsp hfx hE hle hS hT hds h
  obtain rfl : A = [] := List.eq_nil_of_length_eq_zero (by omega)
  obtain rfl : R1 = [] := List.eq_nil_of_length_eq_zero (by omega)
  exact hTl fuel listed T (Γ1 ++ Γ2) e F a w (by simp at hn; rw [hn]; simpa using hf) hd (by simpa using hp) hE hle (by simpa using hS) hT hds h
 | succ n ih =>
  intro A R1 e fuel listed T Γ1 F a w hn hf hd hp hsp hfx hE hle hS hT hds h
  by_cases hAR0 : A = [] ∧ R1 = []
  ·obtain ⟨rfl, rfl⟩ := hAR0
   exact hTl fuel listed T (Γ1 ++ Γ2) e F a w (by simp at hn; omega) hd (by simpa using hp) hE hle (by simpa using hS) hT hds h
  cases fuel with
  | zero => omega
  | succ fuel =>
  refine ⟨fun hnil => ?_, fun i hi => ?_⟩
  ·exfalso
   cases hAR : A ++ (R1 ++ (pendE e Fl ++ R2)) with
   | nil => simp at hAR; exact hAR0 ⟨hAR.1, hAR.2.1⟩
   | cons x xs =>
    rw [hAR] at hp
    obtain ⟨k, hk'⟩ := ready_exists hc hp
    rw [hnil] at hk'
    cases hk'
  ·obtain ⟨o, ho⟩ := hp.2.2 i (hp.ready hi)
   have un : ∀ {j : Nat}, j ∈ A ++ (R1 ++ (pendE e Fl ++ R2)) → anc tab i j = true → False := fun {j} hj ha => blocked hc hd i ho ha ((hp.2.1 j).2 hj) hi
   have free : ∀ {j : Nat} {x : Oper}, j ∈ A ++ (R1 ++ (pendE e Fl ++ R2)) → ops[j]? = some x → (anc tab i j = true ∨ apartAt ops j i = true) → x.apart ops o = true := by
    intro j x hj hx h
    rcases h with h | h
    ·exact (un hj h).elim
    ·simpa [apartAt, hx, ho] using h
   have looks : i ∈ A ++ R1 → ∀ f ∈ Fl, ∀ k, fDst ops f = some k → k ∉ o.looksAt ops := by
    intro hiA f hf k hk
    have := hfx i hiA f hf
    obtain ⟨of, _, hof, _, _⟩ := hF.fl f hf
    simp only [apartAt, ho, hof] at this
    obtain ⟨a1, a2, a3⟩ := Oper.apart_spec this
    exact a3 k (by simpa [fDst, hof] using hk)
   have dsts : i ∈ A ++ R1 → ∀ f ∈ Fl, ∀ k, o.dst = some k → fDst ops f ≠ some k := by
    intro hiA f hf k hk hfk
    exact apart_dst (hfx i hiA f hf) k hfk (by simp [fDst, ho, hk])
   have hmem := hp.ready hi
   rw [List.mem_append, List.mem_append, List.mem_append] at hmem
   rcases hmem with hm | hm | hm | hm
   ·
    obtain ⟨A1, A2, rfl⟩ := List.append_of_mem hm
    rw [filterMap_split ho] at h
    have hap : ∀ x ∈ A1.filterMap (ops[·]?), x.apart ops o = true := by
     intro x hx
     obtain ⟨j, hj, hx⟩ := List.mem_filterMap.1 hx
     exact free (by simp [hj]) hx ((List.pairwise_append.1 hsp.pa).2.2 j hj i (by simp))
    obtain ⟨v, h1, h2⟩ := SSeq_move _ T hap h
    have h1' := (SVal_putE (e := e) (looks (by simp))).2 h1
    have hS2 : Sim w0 F (Γ2 ++ (Γ1 ++ (entE e Fl ++ M))) w := hS.perm (by
     rw [← List.append_assoc, ← List.append_assoc Γ2]
     exact List.perm_append_comm.append_right _)
    unfold wpOpIn
    simp only [ho]
    have key := SVal_sound hk (rd := rd) (nn := nn) (Q := Q') (next := fun a w => wpAnyIn (Fen rd) nn P .any ops Q' fuel (listed.setIfInBounds i true) a w) hS2 hT h1' ?_
    ·split at key <;> rename_i hw
     ·rw [if_pos hw]; exact key
     ·rw [if_neg hw]; exact ⟨fun _ _ => trivial, key⟩
    intro F' u w' hle' hS' hx
    refine ih (A1 ++ A2) R1 e fuel _ (putT T o.dst v) Γ1 F' _ w' (by simp at hn ⊢; omega) (by omega) (hd.set hi) ?_ hsp.dropA (fun j hj => hfx j ?_) hE (Fz.le_trans hle hle') ?_ ?_
     ((put_defers a o.dst u).trans hds) ?_
    ·have := Pend.set (l1 := A1) (l2 := A2 ++ (R1 ++ (pendE e Fl ++ R2))) (i := i) (by simpa using hp)
     rwa [List.append_assoc]
    ·simp only [List.mem_append, List.mem_cons] at hj ⊢
     rcases hj with (h | h) | h
     ·exact .inl (.inl h)
     ·exact .inl (.inr (.inr h))
     ·exact .inr h
    ·exact hS'.perm (by
      rw [← List.append_assoc, ← List.append_assoc Γ1]
      exact List.perm_append_comm.append_right _)
    ·rw [putE_put (dsts (by simp))]
     exact put_rep (RepT.mono hle' _ _ hT) hx o.dst
    ·rw [List.filterMap_append]; exact h2
   ·
    cases R1 with
    | nil => cases hm
    | cons r R1 =>
     rcases List.mem_cons.1 hm with hir | hir
     ·subst hir
      have hg : o.guard = none := hsp.ug i (by simp) o ho
      have e1 : (i :: R1).filterMap (ops[·]?) = o :: R1.filterMap (ops[·]?) := by rw [List.filterMap_cons, ho]
      rw [e1] at h
      have hap : ∀ x ∈ A.filterMap (ops[·]?), x.apart ops o = true := by
       intro x hx
       obtain ⟨j, hj, hx⟩ := List.mem_filterMap.1 hx
       exact free (by simp [hj]) hx (hsp.par j hj i (by simp))
      have h2 := SSeq_eff (kk := fun T' Γ1' => WOps P tt ops.toList (R1.filterMap (ops[·]?)) T' Γ1' [] fun T2 Γ1' _ => Tl T2 (Γ1' ++ Γ2)) _ T hap (by
       have hnd := hsp.nd i (by simp) o ho
       simpa only [WOps, hg, WOpD_noDef hnd, putK_T] using h)
      have h3 := WOp_congr (T' := putE ops e Fl T) (fun y hy => (ev_putE (looks (by simp)) y hy).symm) h2
      unfold wpOpIn
      simp only [ho]
      rw [if_pos (by simp [Region.wanted, hg])]
      refine WOp_sound hk (M := Γ2 ++ (entE e Fl ++ M)) hS hT h3 ?_
      rintro F' x Γ' v' w' hle' hS' hx hK
      refine ih A R1 e fuel _ (putT T o.dst x) Γ' F' _ w' (by simp at hn ⊢; omega) (by omega) (hd.set hi) ?_ hsp.dropR (fun j hj => hfx j ?_) hE (Fz.le_trans hle hle') hS' ?_
       ((put_defers a o.dst v').trans hds) hK
      ·have := Pend.set (l1 := A) (l2 := R1 ++ (pendE e Fl ++ R2)) (i := i) (by simpa using hp)
       simpa using this
      ·simp only [List.mem_append, List.mem_cons] at hj ⊢
       rcases hj with h | h
       ·exact .inl h
       ·exact .inr (.inr h)
      ·rw [putE_put (dsts (by simp))]
       exact put_rep (RepT.mono hle' _ _ hT) hx o.dst
     ·exact (un (j := r) (by simp) ((List.pairwise_cons.1 hsp.r1).1 i hir)).elim
   ·
    obtain ⟨hiF, hie⟩ := mem_pendE.1 hm
    obtain ⟨l1, l2, hl⟩ := List.append_of_mem hm
    have hS2 : Sim w0 F ((Γ1 ++ Γ2) ++ (entE e Fl ++ M)) w := by simpa using hS
    refine flt_step hk hF hiF hie ho hE hS2 hT ?_
    intro e' F' u w' hE' he' hle' hS' hT'
    have hpe : pendE e' Fl = l1 ++ l2 := by rw [he']; exact pendE_upd hF.nd hl
    have hlen : (pendE e Fl).length = l1.length + l2.length + 1 := by rw [hl]; simp; omega
    refine ih A R1 e' fuel _ T Γ1 F' _ w' (by rw [hpe]; simp; omega) (by omega) (hd.set hi) ?_ hsp hfx hE' (Fz.le_trans hle hle') (by simpa using hS') hT' ((put_defers a o.dst u).trans hds) h
    rw [hpe]
    have := Pend.set (l1 := A ++ (R1 ++ l1)) (l2 := l2 ++ R2) (i := i) (by rw [hl] at hp; simpa using hp)
    simpa using this
   ·
    exfalso
    cases A with
    | cons j A => exact un (j := j) (by simp) (hsp.tl j (by simp) i hm)
    | nil =>
     cases R1 with
     | cons j R1 => exact un (j := j) (by simp) (hsp.tl j (by simp) i hm)
     | nil => exact hAR0 ⟨rfl, rfl⟩
theorem gameF2 (hk : TT.ok P tt) (rd : Option Nat) (nn : Nat) {ops : Array Oper} {tab Fl R2 : List Nat} (hF : Flts tt ops Fl) (hc : tabChk ops tab = true) (hr2 : R2.Pairwise fun j i => anc tab i j = true) (hfr : ∀ j ∈ Fl, ∀ i ∈ R2, anc tab i j = true)
  (hnd : ∀ i ∈ R2, ∀ o, ops[i]? = some o → noDef o.op = true) {w0 : World} {M : List Ent} {F0 : Fz} {ds : List Deferred} {Q' : Exit → Act → World → Prop}
  {K : List PV → List Ent → Prop} (hQ : ∀ F' T' Γ' a' w', F0.le F' → Sim w0 F' (Γ' ++ M) w' → RepT F' T' a'.tmps.toList → a'.defers = ds → K T' Γ' → Q' .normal a' w') :
  ∀ (n : Nat) (e : FE) (fuel : Nat) (listed : Array Bool) (T : List PV) (Γ : List Ent) (F : Fz) (a : Act) (w : World), (pendE e Fl).length = n → n + R2.length ≤ fuel →
   Down ops listed → Pend ops listed (pendE e Fl ++ R2) → EOk tt ops e Fl → F0.le F → Sim w0 F (Γ ++ (entE e Fl ++ M)) w → RepT F (putE ops e Fl T) a.tmps.toList → a.defers = ds →
   (WOps P tt ops.toList (Fl.filterMap (ops[·]?)) T Γ [] fun T4 Γ4 _ => WOps P tt ops.toList (R2.filterMap (ops[·]?)) T4 Γ4 [] fun T' Γ' _ => K T' Γ') →
   wpAnyIn (Fen rd) nn P .any ops Q' fuel listed a w := by
 intro n
 induction n with
 | zero =>
  intro e fuel listed T Γ F a w hn hf hd hp hE hle hS hT hds h
  have hnil : pendE e Fl = [] := List.eq_nil_of_length_eq_zero hn
  obtain ⟨Γ4, h4, hpm⟩ := flts_done (e := e) Fl T Γ (fun i hi => by
   rcases hE i hi with h0 | ⟨o, f, b, ho, hf, he⟩
   ·have : i ∈ pendE e Fl := mem_pendE.2 ⟨hi, h0⟩
    rw [hnil] at this; cases this
   ·obtain ⟨o', f', ho', hg, _⟩ := hF.fl i hi
    rw [ho] at ho'; cases ho'
    exact ⟨o, f, b, ho, hg, hf, he⟩) h
  have hS4 : Sim w0 F (Γ4 ++ M) w := hS.perm (by
   rw [← List.append_assoc]
   exact (List.perm_append_comm.trans hpm.symm).append_right M)
  refine wpAny_chain hc R2 fuel listed a w (by omega) hd (by simpa [hnil] using hp) hr2 (wpOps_filter (fun _ => trivial) ops _ _ a w ?_)
  refine WOps_sound hk rd nn ops (ds := ds) (K := fun T' Γ' D' => D' = [] ∧ K T' Γ') ?_ _ (.inr (quiet_of fun o ho => by
   obtain ⟨j, hj, ho⟩ := List.mem_filterMap.1 ho
   exact hnd j hj o ho)) _ Γ4 [] F a w hle hS4 hT (by rw [hds]; exact DRel.nil F ds) (WOps_keep _ _ _ _ _ ?_ h4)
  ·rintro F' T' Γ' D' a' w' k1 k2 k3 ⟨new, k4, k5⟩ ⟨rfl, k6⟩
   have : new = [] := by cases new with
    | nil => rfl
    | cons d l => exact k5.elim
   subst this
   exact hQ F' T' Γ' a' w' k1 k2 k3 k4 k6
  ·intro o ho
   obtain ⟨j, hj, ho⟩ := List.mem_filterMap.1 ho
   exact hnd j hj o ho
 | succ n ih =>
  intro e fuel listed T Γ F a w hn hf hd hp hE hle hS hT hds h
  cases fuel with
  | zero => omega
  | succ fuel =>
  have hpos : ∃ j, j ∈ pendE e Fl := by
   cases hpe : pendE e Fl with
   | nil => rw [hpe] at hn; cases hn
   | cons j l => exact ⟨j, by simp⟩
  obtain ⟨j0, hj0⟩ := hpos
  refine ⟨fun hnil => ?_, fun i hi => ?_⟩
  ·exfalso
   cases hAR : pendE e Fl ++ R2 with
   | nil => simp at hAR; rw [hAR.1] at hn; cases hn
   | cons x xs =>
    rw [hAR] at hp
    obtain ⟨k, hk'⟩ := ready_exists hc hp
    rw [hnil] at hk'
    cases hk'
  ·obtain ⟨o, ho⟩ := hp.2.2 i (hp.ready hi)
   rcases List.mem_append.1 (hp.ready hi) with hm | hm
   ·obtain ⟨hiF, hie⟩ := mem_pendE.1 hm
    obtain ⟨l1, l2, hl⟩ := List.append_of_mem hm
    refine flt_step hk hF hiF hie ho hE hS hT ?_
    intro e' F' u w' hE' he' hle' hS' hT'
    have hpe : pendE e' Fl = l1 ++ l2 := by rw [he']; exact pendE_upd hF.nd hl
    have hlen : (pendE e Fl).length = l1.length + l2.length + 1 := by rw [hl]; simp; omega
    refine ih e' fuel _ T Γ F' _ w' (by rw [hpe]; simp; omega) (by omega) (hd.set hi) ?_ hE' (Fz.le_trans hle hle') hS' hT' ((put_defers a o.dst u).trans hds) h
    rw [hpe]
    have := Pend.set (l1 := l1) (l2 := l2 ++ R2) (i := i) (by rw [hl] at hp; simpa using hp)
    simpa using this
   ·exact (blocked hc hd i ho (hfr j0 (mem_pendE.1 hj0).1 i hm) ((hp.2.1 j0).2 (by simp [hj0])) hi).elim
def splitFB (tt : Nat → TI) (ops : Array Oper) (tab A R1 B Fl R2 : List Nat) : Bool :=
 tabChk ops tab &&
 pairB (fun j i => anc tab i j || apartAt ops j i) A && A.all (fun j => R1.all fun i => anc tab i j || apartAt ops j i) &&
 pairB (fun j i => anc tab i j) R1 && (A ++ R1).all (fun j => (B ++ R2).all fun i => anc tab i j) &&
 R1.all (fun i => match ops[i]? with | some o => o.guard.isNone | none => false) && (R1 ++ R2).all (fun i => match ops[i]? with | some o => noDef o.op | none => false) &&
 pairB (fun j i => anc tab i j || apartAt ops j i) B && pairB (fun j i => anc tab i j) R2 && B.all (fun j => R2.all fun i => anc tab i j) &&
 Fl.all (fun i => match ops[i]? with | some o => o.guard.isNone && (fltOf tt o.op).isSome | none => false) && pairB (fun j i => apartAt ops j i) Fl && (A ++ (R1 ++ B)).all (fun j => Fl.all fun i => apartAt ops j i) && Fl.all (fun j => R2.all fun i => anc tab i j) &&
 pairB (fun j i => !(Nat.beq j i)) (A ++ (R1 ++ (B ++ (Fl ++ R2)))) && (List.range ops.size).all (fun i => (A ++ (R1 ++ (B ++ (Fl ++ R2)))).contains i) && (A ++ (R1 ++ (B ++ (Fl ++ R2)))).all (fun i => Nat.blt i ops.size)
theorem PDraw.splitF (hk : TT.ok P tt) (hm : P.follows .mixedOrders = true) {ops : Array Oper} {T : List PV} {Γ Γ2 : List Ent} {K : List PV → List Ent → Prop} (tab A R1 B Fl R2 : List Nat) (Γ1 : List Ent)
  (hchk : splitFB tt ops tab A R1 B Fl R2 = true) [hp : PickL Γ Γ1 Γ2]
  (h : SSeq P tt ops.toList (pickO ops.toList A) T Γ2 fun T' => WOps P tt ops.toList (pickO ops.toList R1) T' Γ1 [] fun T2 Γ1' _ => appE Γ1' Γ2 fun Γ' =>
   SSeq P tt ops.toList (pickO ops.toList B) T2 Γ' fun T3 => WOps P tt ops.toList (pickO ops.toList Fl) T3 Γ' [] fun T4 Γ4 _ => WOps P tt ops.toList (pickO ops.toList R2) T4 Γ4 [] fun T' Γ' _ => K T' Γ') : PDraw P ops T Γ K := by
 refine ⟨fun rd nn id w0 F M w a Q' hS hT hQ => wpIn_region_any hm ?_⟩
 simp only [splitFB, Bool.and_eq_true] at hchk
 obtain ⟨⟨⟨⟨⟨⟨⟨⟨⟨⟨⟨⟨⟨⟨⟨⟨h0, h1⟩, h2⟩, h3⟩, h5⟩, h6⟩, h6'⟩, b1⟩, b2⟩, b3⟩, f1⟩, f2⟩, f3⟩, f4⟩, h7⟩, h8⟩, h9⟩ := hchk
 have hlt : ∀ i ∈ A ++ (R1 ++ (B ++ (Fl ++ R2))), i < ops.size := fun i hi => by
  have := List.all_eq_true.1 h9 i hi
  simpa [Nat.blt, Nat.succ_le_iff] using this
 have hnd : ∀ i ∈ R1 ++ R2, ∀ o, ops[i]? = some o → noDef o.op = true := by
  intro i hi o ho
  have := List.all_eq_true.1 h6' i hi
  rw [ho] at this
  exact this
 have hnodup : (A ++ (R1 ++ (B ++ (Fl ++ R2)))).Nodup := (pairB_iff h7).imp fun h => by
  intro e
  subst e
  simp at h
 have hpend : Pend ops (Array.replicate ops.size false) (A ++ (R1 ++ (B ++ (Fl ++ R2)))) := by
  refine ⟨hnodup, ?_, fun i hi => ⟨_, Array.getElem?_eq_getElem (hlt i hi)⟩⟩
  intro i
  constructor
  ·intro hi
   rcases Nat.lt_or_ge i ops.size with h' | h'
   ·have := List.all_eq_true.1 h8 i (List.mem_range.2 h')
    simpa only [List.contains_iff_mem] using this
   ·simp [Array.getElem?_eq_none, h'] at hi
  ·intro hi
   simp [hlt i hi]
 have hF : Flts tt ops Fl := by
  refine ⟨fun i hi => ?_, pairB_iff f2, ?_⟩
  ·have := List.all_eq_true.1 f1 i hi
   cases ho : ops[i]? with
   | none => rw [ho] at this; cases this
   | some o =>
    rw [ho] at this
    simp only [Bool.and_eq_true, Option.isNone_iff_eq_none, Option.isSome_iff_exists] at this
    obtain ⟨g, f, hf⟩ := this
    exact ⟨o, f, rfl, g, hf⟩
  ·exact hnodup.sublist (((List.sublist_append_left Fl R2).trans (List.sublist_append_right B _)).trans ((List.sublist_append_right R1 _).trans (List.sublist_append_right A _)))
 have hs1 : Split0 ops tab A R1 (B ++ R2) := by
  refine ⟨(pairB_iff h1).imp fun h => by simpa using h, fun j hj i hi => ?_, pairB_iff h3, fun j hj i hi => ?_, fun i hi o ho => ?_, fun i hi => hnd i (by simp [hi])⟩
  ·have := List.all_eq_true.1 (List.all_eq_true.1 h2 j hj) i hi
   simpa using this
  ·exact List.all_eq_true.1 (List.all_eq_true.1 h5 j hj) i hi
  ·have := List.all_eq_true.1 h6 i hi
   rw [ho] at this
   simpa using this
 have hs2 : Split0 ops tab B [] R2 := by
  refine ⟨(pairB_iff b1).imp fun h => by simpa using h, fun _ _ _ h => (by cases h), List.Pairwise.nil, fun j hj i hi => ?_, fun _ h => (by cases h), fun _ h => (by cases h)⟩
  exact List.all_eq_true.1 (List.all_eq_true.1 b3 j (by simpa using hj)) i hi
 have hfx : ∀ j ∈ A ++ (R1 ++ B), ∀ i ∈ Fl, apartAt ops j i = true := fun j hj i hi => List.all_eq_true.1 (List.all_eq_true.1 f3 j hj) i hi
 have hfr : ∀ j ∈ Fl, ∀ i ∈ R2, anc tab i j = true := fun j hj i hi => List.all_eq_true.1 (List.all_eq_true.1 f4 j hj) i hi
 have hlen : A.length + R1.length + (B.length + (Fl.length + R2.length)) ≤ ops.size := by
  have hsub : (A ++ (R1 ++ (B ++ (Fl ++ R2)))) ⊆ List.range ops.size := fun i hi => List.mem_range.2 (hlt i hi)
  have := hpend.1.length_le_of_subset hsub
  simpa [Nat.add_assoc] using this
 have hS' : Sim w0 F (Γ1 ++ (Γ2 ++ M)) { w with drawn := w.drawn + 1 } := by
  have := (hS.perm (hp.p.append_right M)).of_heap (w' := { w with drawn := w.drawn + 1 }) rfl rfl rfl rfl
  simpa using this
 have e0 : ∀ i ∈ Fl, (fun _ => none : FE) i = none := fun _ _ => rfl
 have p0 : pendE (fun _ => none) Fl = Fl := List.filter_eq_self.2 fun _ _ => rfl
 refine gameF hk rd nn hF h0 (w0 := w0) (tab := tab) (R2 := B ++ R2) (Γ2 := Γ2) (M := M) (F0 := F) (ds := a.defers) (Tl := fun T2 Γ' => SSeq P tt ops.toList (pickO ops.toList B) T2 Γ' fun T3 => WOps P tt ops.toList (pickO ops.toList Fl) T3 Γ' [] fun T4 Γ4 _ => WOps P tt ops.toList (pickO ops.toList R2) T4 Γ4 [] fun T' Γ' _ => K T' Γ') ?_
  _ A R1 (fun _ => none) ops.size _ T Γ1 F a _ rfl ?_ ?_ ?_ hs1 (fun j hj i hi => hfx j (by simp only [List.mem_append] at hj ⊢; rcases hj with h | h; exact .inl h; exact .inr (.inl h)) i hi) (fun i hi => .inl rfl) (Fz.le_refl F) ?_ ?_ rfl ?_
 ·intro fuel listed T2 Γ' e F' a' w' hf hd hpd hE hle hS2 hT2 hds ht
  refine gameF hk rd nn hF h0 (w0 := w0) (tab := tab) (R2 := R2) (Γ2 := Γ') (M := M) (F0 := F) (ds := a.defers) (Tl := fun T3 Γ' => WOps P tt ops.toList (pickO ops.toList Fl) T3 Γ' [] fun T4 Γ4 _ => WOps P tt ops.toList (pickO ops.toList R2) T4 Γ4 [] fun T' Γ' _ => K T' Γ') ?_
   _ B [] e fuel listed T2 [] F' a' w' rfl (by simp at hf ⊢; omega) hd ?_ hs2 (fun j hj i hi => hfx j (by simp at hj ⊢; exact .inr (.inr hj)) i hi) hE hle (by simpa using hS2) hT2 hds ?_
  ·intro fuel3 listed3 T3 Γ3 e3 F3 a3 w3 hf3 hd3 hpd3 hE3 hle3 hS3 hT3 hds3 ht3
   refine gameF2 hk rd nn hF h0 (pairB_iff b2) hfr (fun i hi => hnd i (by simp [hi])) (F0 := F) (ds := a.defers) hQ _ e3 fuel3 listed3 T3 Γ3 F3 a3 w3 rfl hf3 hd3 hpd3 hE3 hle3 hS3 hT3 hds3 ?_
   simpa only [pickO_eq, Array.getElem?_toList] using ht3
  ·simp only [List.nil_append]
   refine ⟨?_, fun i => ?_, fun i hi => hpd.2.2 i ?_⟩
   ·have hperm : (pendE e Fl ++ (B ++ R2)).Perm (B ++ (pendE e Fl ++ R2)) := by
     rw [← List.append_assoc, ← List.append_assoc]
     exact List.perm_append_comm.append_right R2
    exact hperm.nodup_iff.1 hpd.1
   ·rw [hpd.2.1 i]
    simp only [List.mem_append]
    constructor
    ·rintro (h | h | h)
     ·exact .inr (.inl h)
     ·exact .inl h
     ·exact .inr (.inr h)
    ·rintro (h | h | h)
     ·exact .inr (.inl h)
     ·exact .inl h
     ·exact .inr (.inr h)
   ·simp only [List.mem_append] at hi ⊢
    rcases hi with h | h | h
    ·exact .inr (.inl h)
    ·exact .inl h
    ·exact .inr (.inr h)
  ·simpa only [pickO_eq, Array.getElem?_toList, List.filterMap_nil, WOps, List.nil_append] using ht
 ·rw [p0]; simp; omega
 ·intro k o hk'
  rcases Nat.lt_or_ge k ops.size with h' | h'
  ·simp [h'] at hk'
  ·intro ho
   have := (Array.getElem?_eq_some_iff.1 ho).1
   omega
 ·rw [p0]
  refine ⟨?_, fun i => ?_, fun i hi => hpend.2.2 i ?_⟩
  ·have hperm : (A ++ (R1 ++ (B ++ (Fl ++ R2)))).Perm (A ++ (R1 ++ (Fl ++ (B ++ R2)))) := by
    refine List.Perm.append_left A (List.Perm.append_left R1 ?_)
    rw [← List.append_assoc, ← List.append_assoc]
    exact List.perm_append_comm.append_right R2
   exact hperm.nodup_iff.1 hpend.1
  ·rw [hpend.2.1 i]
   simp only [List.mem_append]
   constructor
   ·rintro (h | h | h | h | h)
    ·exact .inl h
    ·exact .inr (.inl h)
    ·exact .inr (.inr (.inr (.inl h)))
    ·exact .inr (.inr (.inl h))
    ·exact .inr (.inr (.inr (.inr h)))
   ·rintro (h | h | h | h | h)
    ·exact .inl h
    ·exact .inr (.inl h)
    ·exact .inr (.inr (.inr (.inl h)))
    ·exact .inr (.inr (.inl h))
    ·exact .inr (.inr (.inr (.inr h)))
  ·simp only [List.mem_append] at hi ⊢
   rcases hi with h | h | h | h | h
   ·exact .inl h
   ·exact .inr (.inl h)
   ·exact .inr (.inr (.inr (.inl h)))
   ·exact .inr (.inr (.inl h))
   ·exact .inr (.inr (.inr (.inr h)))
 ·rw [entE_none e0]; simpa using hS'
 ·rw [putE_none e0]; exact hT
 ·simpa only [pickO_eq, Array.getElem?_toList, appE_eq] using h
def entR (e : FE) : List Nat → List Ent → List Ent
 | [], Γ => Γ
 | i :: l, Γ => entR e l (match e i with
  | some x => x.2 :: Γ
  | none => Γ)
theorem entR_perm (e : FE) : ∀ (l : List Nat) (Γ : List Ent), (entR e l Γ).Perm (entE e l ++ Γ)
 | [], _ => List.Perm.refl _
 | i :: l, Γ => by
  rw [entR]
  refine (entR_perm e l _).trans ?_
  unfold entE
  rw [List.filterMap_cons]
  cases e i with
  | none => exact List.Perm.refl _
  | some x => exact List.perm_middle
theorem flts_run {ops : Array Oper} {e : FE} {K : List PV → List Ent → Ds → Prop} : ∀ (l : List Nat) (T : List PV) (Γ : List Ent), (∀ i ∈ l, ∃ o f b, ops[i]? = some o ∧ o.guard = none ∧ fltOf tt o.op = some f ∧ e i = some (f b)) →
  WOps P tt ops.toList (l.filterMap (ops[·]?)) T Γ [] K → K (putE ops e l T) (entR e l Γ) []
 | [], T, Γ, _, h => h
 | i :: l, T, Γ, hl, h => by
  rw [List.forall_mem_cons] at hl
  obtain ⟨o, f, b, ho, hg, hf, he⟩ := hl.1
  rw [List.filterMap_cons, ho] at h
  simp only [WOps, hg, WOpD_noDef (fltOf_noDef hf), putK_T] at h
  have h3 := flts_run l _ _ hl.2 ((fltOf_iff hf).1 h b)
  have hd : fDst ops i = o.dst := by simp [fDst, ho]
  rw [putE, entR, he, hd]
  exact h3
theorem SSeq_putE {ops : Array Oper} {e : FE} {Fl : List Nat} {Γ : List Ent} {k : List PV → Prop} : ∀ (l : List Nat) (T : List PV), (∀ j ∈ l, ∀ i ∈ Fl, apartAt ops j i = true) → Flts tt ops Fl →
  SSeq P tt ops.toList (l.filterMap (ops[·]?)) T Γ (fun T' => k (putE ops e Fl T')) → SSeq P tt ops.toList (l.filterMap (ops[·]?)) (putE ops e Fl T) Γ k
 | [], T, _, _, h => h
 | j :: l, T, ha, hF, h => by
  rw [List.forall_mem_cons] at ha
  cases ho : ops[j]? with
  | none => rw [List.filterMap_cons, ho] at h ⊢; exact SSeq_putE l T ha.2 hF h
  | some o =>
   rw [List.filterMap_cons, ho] at h ⊢
   obtain ⟨v, h1, h2⟩ := SSeq_cons.1 h
   have looks : ∀ f ∈ Fl, ∀ k, fDst ops f = some k → k ∉ o.looksAt ops := by
    intro f hf k hk
    have := ha.1 f hf
    obtain ⟨of, _, hof, _, _⟩ := hF.fl f hf
    simp only [apartAt, ho, hof] at this
    exact (Oper.apart_spec this).2.2 k (by simpa [fDst, hof] using hk)
   refine SSeq_cons.2 ⟨v, (SVal_putE looks).2 h1, ?_⟩
   have := SSeq_putE l _ ha.2 hF h2
   rwa [putE_put (fun f hf k hk hfk => apart_dst (ha.1 f hf) k hfk (by simp [fDst, ho, hk]))] at this
theorem gameG (hk : TT.ok P tt) (rd : Option Nat) (nn : Nat) {ops : Array Oper} {tab Fl R1 R2 : List Nat} (hF : Flts tt ops Fl) (hc : tabChk ops tab = true) (hfr : ∀ j ∈ Fl, ∀ i ∈ R1 ++ R2, anc tab i j = true) {w0 : World} {M Γ1 Γ2 : List Ent} {F0 : Fz} {ds : List Deferred} {Q' : Exit → Act → World → Prop}
  {K : List PV → List Ent → Prop} (hQ : ∀ F' T' Γ' a' w', F0.le F' → Sim w0 F' (Γ' ++ M) w' → RepT F' T' a'.tmps.toList → a'.defers = ds → K T' Γ' → Q' .normal a' w') :
  ∀ (n : Nat) (A : List Nat) (e : FE) (fuel : Nat) (listed : Array Bool) (T : List PV) (F : Fz) (a : Act) (w : World), A.length + (pendE e Fl).length = n → n + (R1.length + R2.length) ≤ fuel →
   Down ops listed → Pend ops listed (A ++ (pendE e Fl ++ (R1 ++ R2))) → Split ops tab A R1 R2 → (∀ j ∈ A, ∀ i ∈ Fl, apartAt ops j i = true) → EOk tt ops e Fl → F0.le F → Sim w0 F ((Γ1 ++ Γ2) ++ (entE e Fl ++ M)) w → RepT F (putE ops e Fl T) a.tmps.toList → a.defers = ds →
   (SSeq P tt ops.toList (A.filterMap (ops[·]?)) T Γ2 fun T' => WOps P tt ops.toList (Fl.filterMap (ops[·]?)) T' Γ1 [] fun T1 Γ1' _ => WOps P tt ops.toList (R1.filterMap (ops[·]?)) T1 Γ1' [] fun T2 Γ1' _ => WOps P tt ops.toList (R2.filterMap (ops[·]?)) T2 (Γ1' ++ Γ2) [] fun T' Γ' _ => K T' Γ') →
   wpAnyIn (Fen rd) nn P .any ops Q' fuel listed a w := by
 have done : ∀ (A : List Nat) (e : FE) (fuel : Nat) (listed : Array Bool) (T : List PV) (F : Fz) (a : Act) (w : World), pendE e Fl = [] → A.length + (R1.length + R2.length) ≤ fuel →
   Down ops listed → Pend ops listed (A ++ (pendE e Fl ++ (R1 ++ R2))) → Split ops tab A R1 R2 → (∀ j ∈ A, ∀ i ∈ Fl, apartAt ops j i = true) → EOk tt ops e Fl → F0.le F → Sim w0 F ((Γ1 ++ Γ2) ++ (entE e Fl ++ M)) w → RepT F (putE ops e Fl T) a.tmps.toList → a.defers = ds →
   (SSeq P tt ops.toList (A.filterMap (ops[·]?)) T Γ2 fun T' => WOps P tt ops.toList (Fl.filterMap (ops[·]?)) T' Γ1 [] fun T1 Γ1' _ => WOps P tt ops.toList (R1.filterMap (ops[·]?)) T1 Γ1' [] fun T2 Γ1' _ => WOps P tt ops.toList (R2.filterMap (ops[·]?)) T2 (Γ1' ++ Γ2) [] fun T' Γ' _ => K T' Γ') →
   wpAnyIn (Fen rd) nn P .any ops Q' fuel listed a w := by
  intro A e fuel listed T F a w hnil hf hd hp hsp hfx hE hle hS hT hds h
  have hall : ∀ i ∈ Fl, ∃ o f b, ops[i]? = some o ∧ o.guard = none ∧ fltOf tt o.op = some f ∧ e i = some (f b) := fun i hi => by
   rcases hE i hi with h0 | ⟨o, f, b, ho, hf, he⟩
   ·have : i ∈ pendE e Fl := mem_pendE.2 ⟨hi, h0⟩
    rw [hnil] at this; cases this
   ·obtain ⟨o', f', ho', hg, _⟩ := hF.fl i hi
    rw [ho] at ho'; cases ho'
    exact ⟨o, f, b, ho, hg, hf, he⟩
  have h2 := SSeq_putE (e := e) (k := fun T1 => WOps P tt ops.toList (R1.filterMap (ops[·]?)) T1 (entR e Fl Γ1) [] fun T2 Γ1' _ => WOps P tt ops.toList (R2.filterMap (ops[·]?)) T2 (Γ1' ++ Γ2) [] fun T' Γ' _ => K T' Γ') A T hfx hF (by
   have mono : ∀ (l : List Oper) (T : List PV) (k k' : List PV → Prop), (∀ T, k T → k' T) → SSeq P tt ops.toList l T Γ2 k → SSeq P tt ops.toList l T Γ2 k' := by
    intro l
    induction l with
    | nil => intro T k k' hk h; exact hk T h
    | cons o l ih => intro T k k' hk h; obtain ⟨v, h1, h2⟩ := SSeq_cons.1 h; exact SSeq_cons.2 ⟨v, h1, ih _ _ _ hk h2⟩
   exact mono _ _ _ _ (fun T' h => flts_run Fl T' Γ1 hall h) h)
  refine game hk rd nn hc (R2 := R2) (Γ2 := Γ2) (F0 := F0) (ds := ds) hQ _ A R1 fuel listed _ (entR e Fl Γ1) F a w rfl (by omega) hd (by simpa [hnil] using hp) hsp hle (hS.perm ?_) hT hds h2
  have h3 := (entR_perm e Fl Γ1).symm.append_right (Γ2 ++ M)
  refine List.Perm.trans ?_ h3
  have h4 : (Γ1 ++ Γ2 ++ (entE e Fl ++ M)).Perm (entE e Fl ++ (Γ1 ++ Γ2 ++ M)) := by
   rw [← List.append_assoc (Γ1 ++ Γ2), ← List.append_assoc (entE e Fl)]
   exact List.perm_append_comm.append_right M
  simpa using h4
 intro n
 induction n with
 | zero =>
  intro A e fuel listed T F a w hn hf hd hp hsp hfx hE hle hS hT hds h
  exact done A e fuel listed T F a w (List.eq_nil_of_length_eq_zero (by omega)) (by omega) hd hp hsp hfx hE hle hS hT hds h
 | succ n ih =>
  intro A e fuel listed T F a w hn hf hd hp hsp hfx hE hle hS hT hds h
  by_cases hnil : pendE e Fl = []
  ·exact done A e fuel listed T F a w hnil (by rw [hnil] at hn; simp at hn; omega) hd hp hsp hfx hE hle hS hT hds h
  obtain ⟨j0, hj0⟩ : ∃ j, j ∈ pendE e Fl := List.exists_mem_of_ne_nil _ hnil
  cases fuel with
  | zero => omega
  | succ fuel =>
  refine ⟨fun hnil => ?_, fun i hi => ?_⟩
  ·exfalso
   cases hAR : A ++ (pendE e Fl ++ (R1 ++ R2)) with
   | nil => simp at hAR; rw [hAR.2.1] at hj0; cases hj0
   | cons x xs =>
    rw [hAR] at hp
    obtain ⟨k, hk'⟩ := ready_exists hc hp
    rw [hnil] at hk'
    cases hk'
  ·obtain ⟨o, ho⟩ := hp.2.2 i (hp.ready hi)
   have un : ∀ {j : Nat}, j ∈ A ++ (pendE e Fl ++ (R1 ++ R2)) → anc tab i j = true → False := fun {j} hj ha => blocked hc hd i ho ha ((hp.2.1 j).2 hj) hi
   have free : ∀ {j : Nat} {x : Oper}, j ∈ A ++ (pendE e Fl ++ (R1 ++ R2)) → ops[j]? = some x → (anc tab i j = true ∨ apartAt ops j i = true) → x.apart ops o = true := by
    intro j x hj hx h
    rcases h with h | h
    ·exact (un hj h).elim
    ·simpa [apartAt, hx, ho] using h
   have hmem := hp.ready hi
   rw [List.mem_append, List.mem_append] at hmem
   rcases hmem with hm | hm | hm
   ·
    have looks : ∀ f ∈ Fl, ∀ k, fDst ops f = some k → k ∉ o.looksAt ops := by
     intro f hf k hk
     have := hfx i hm f hf
     obtain ⟨of, _, hof, _, _⟩ := hF.fl f hf
     simp only [apartAt, ho, hof] at this
     exact (Oper.apart_spec this).2.2 k (by simpa [fDst, hof] using hk)
    have dsts : ∀ f ∈ Fl, ∀ k, o.dst = some k → fDst ops f ≠ some k := fun f hf k hk hfk => apart_dst (hfx i hm f hf) k hfk (by simp [fDst, ho, hk])
    obtain ⟨A1, A2, rfl⟩ := List.append_of_mem hm
    rw [filterMap_split ho] at h
    have hap : ∀ x ∈ A1.filterMap (ops[·]?), x.apart ops o = true := by
     intro x hx
     obtain ⟨j, hj, hx⟩ := List.mem_filterMap.1 hx
     exact free (by simp [hj]) hx ((List.pairwise_append.1 hsp.pa).2.2 j hj i (by simp))
    obtain ⟨v, h1, h2⟩ := SSeq_move _ T hap h
    have h1' := (SVal_putE (e := e) looks).2 h1
    have hS2 : Sim w0 F (Γ2 ++ (Γ1 ++ (entE e Fl ++ M))) w := hS.perm (by
     rw [← List.append_assoc Γ2]
     exact List.perm_append_comm.append_right _)
    unfold wpOpIn
    simp only [ho]
    have key := SVal_sound hk (rd := rd) (nn := nn) (Q := Q') (next := fun a w => wpAnyIn (Fen rd) nn P .any ops Q' fuel (listed.setIfInBounds i true) a w) hS2 hT h1' ?_
    ·split at key <;> rename_i hw
     ·rw [if_pos hw]; exact key
     ·rw [if_neg hw]; exact ⟨fun _ _ => trivial, key⟩
    intro F' u w' hle' hS' hx
    refine ih (A1 ++ A2) e fuel _ (putT T o.dst v) F' _ w' (by simp at hn ⊢; omega) (by omega) (hd.set hi) ?_ hsp.dropA (fun j hj => hfx j ?_) hE (Fz.le_trans hle hle') ?_ ?_
     ((put_defers a o.dst u).trans hds) ?_
    ·have := Pend.set (l1 := A1) (l2 := A2 ++ (pendE e Fl ++ (R1 ++ R2))) (i := i) (by simpa using hp)
     rwa [List.append_assoc]
    ·simp only [List.mem_append, List.mem_cons] at hj ⊢
     rcases hj with h | h
     ·exact .inl h
     ·exact .inr (.inr h)
    ·exact hS'.perm (by
      rw [← List.append_assoc Γ2]
      exact List.perm_append_comm.append_right _)
    ·rw [putE_put dsts]
     exact put_rep (RepT.mono hle' _ _ hT) hx o.dst
    ·rw [List.filterMap_append]; exact h2
   ·
    obtain ⟨hiF, hie⟩ := mem_pendE.1 hm
    obtain ⟨l1, l2, hl⟩ := List.append_of_mem hm
    refine flt_step hk hF hiF hie ho hE hS hT ?_
    intro e' F' u w' hE' he' hle' hS' hT'
    have hpe : pendE e' Fl = l1 ++ l2 := by rw [he']; exact pendE_upd hF.nd hl
    have hlen : (pendE e Fl).length = l1.length + l2.length + 1 := by rw [hl]; simp; omega
    refine ih A e' fuel _ T F' _ w' (by rw [hpe]; simp; omega) (by omega) (hd.set hi) ?_ hsp hfx hE' (Fz.le_trans hle hle') hS' hT' ((put_defers a o.dst u).trans hds) h
    rw [hpe]
    have := Pend.set (l1 := A ++ l1) (l2 := l2 ++ (R1 ++ R2)) (i := i) (by rw [hl] at hp; simpa using hp)
    simpa using this
   ·exact (un (j := j0) (by simp [hj0]) (hfr j0 (mem_pendE.1 hj0).1 i (by simpa using hm))).elim
def splitGB (tt : Nat → TI) (ops : Array Oper) (tab A Fl R1 R2 : List Nat) : Bool :=
 tabChk ops tab &&
 pairB (fun j i => anc tab i j || apartAt ops j i) A && A.all (fun j => R1.all fun i => anc tab i j || apartAt ops j i) &&
 pairB (fun j i => anc tab i j) R1 && pairB (fun j i => anc tab i j) R2 &&
 (A ++ R1).all (fun j => R2.all fun i => anc tab i j) &&
 R1.all (fun i => match ops[i]? with | some o => o.guard.isNone | none => false) && (R1 ++ R2).all (fun i => match ops[i]? with | some o => noDef o.op | none => false) &&
 Fl.all (fun i => match ops[i]? with | some o => o.guard.isNone && (fltOf tt o.op).isSome | none => false) && pairB (fun j i => apartAt ops j i) Fl && A.all (fun j => Fl.all fun i => apartAt ops j i) && Fl.all (fun j => (R1 ++ R2).all fun i => anc tab i j) &&
 pairB (fun j i => !(Nat.beq j i)) (A ++ (Fl ++ (R1 ++ R2))) && (List.range ops.size).all (fun i => (A ++ (Fl ++ (R1 ++ R2))).contains i) && (A ++ (Fl ++ (R1 ++ R2))).all (fun i => Nat.blt i ops.size)
theorem PDraw.splitG (hk : TT.ok P tt) (hm : P.follows .mixedOrders = true) {ops : Array Oper} {T : List PV} {Γ Γ2 : List Ent} {K : List PV → List Ent → Prop} (tab A Fl R1 R2 : List Nat) (Γ1 : List Ent)
  (hchk : splitGB tt ops tab A Fl R1 R2 = true) [hp : PickL Γ Γ1 Γ2]
  (h : SSeq P tt ops.toList (pickO ops.toList A) T Γ2 fun T' => WOps P tt ops.toList (pickO ops.toList Fl) T' Γ1 [] fun T1 Γ1' _ => WOps P tt ops.toList (pickO ops.toList R1) T1 Γ1' [] fun T2 Γ1' _ => appE Γ1' Γ2 fun Γ' => WOps P tt ops.toList (pickO ops.toList R2) T2 Γ' [] fun T' Γ' _ => K T' Γ') : PDraw P ops T Γ K := by
 refine ⟨fun rd nn id w0 F M w a Q' hS hT hQ => wpIn_region_any hm ?_⟩
 simp only [splitGB, Bool.and_eq_true] at hchk
 obtain ⟨⟨⟨⟨⟨⟨⟨⟨⟨⟨⟨⟨⟨⟨h0, h1⟩, h2⟩, h3⟩, h4⟩, h5⟩, h6⟩, h6'⟩, f1⟩, f2⟩, f3⟩, f4⟩, h7⟩, h8⟩, h9⟩ := hchk
 have hlt : ∀ i ∈ A ++ (Fl ++ (R1 ++ R2)), i < ops.size := fun i hi => by
  have := List.all_eq_true.1 h9 i hi
  simpa [Nat.blt, Nat.succ_le_iff] using this
 have hnodup : (A ++ (Fl ++ (R1 ++ R2))).Nodup := (pairB_iff h7).imp fun h => by
  intro e
  subst e
  simp at h
 have hpend : Pend ops (Array.replicate ops.size false) (A ++ (Fl ++ (R1 ++ R2))) := by
  refine ⟨hnodup, ?_, fun i hi => ⟨_, Array.getElem?_eq_getElem (hlt i hi)⟩⟩
  intro i
  constructor
  ·intro hi
   rcases Nat.lt_or_ge i ops.size with h' | h'
   ·have := List.all_eq_true.1 h8 i (List.mem_range.2 h')
    simpa only [List.contains_iff_mem] using this
   ·simp [Array.getElem?_eq_none, h'] at hi
  ·intro hi
   simp [hlt i hi]
 have hF : Flts tt ops Fl := by
  refine ⟨fun i hi => ?_, pairB_iff f2, ?_⟩
  ·have := List.all_eq_true.1 f1 i hi
   cases ho : ops[i]? with
   | none => rw [ho] at this; cases this
   | some o =>
    rw [ho] at this
    simp only [Bool.and_eq_true, Option.isNone_iff_eq_none, Option.isSome_iff_exists] at this
    obtain ⟨g, f, hf⟩ := this
    exact ⟨o, f, rfl, g, hf⟩
  ·exact hnodup.sublist ((List.sublist_append_left Fl _).trans (List.sublist_append_right A _))
 have hs1 : Split ops tab A R1 R2 := by
  refine ⟨(pairB_iff h1).imp fun h => by simpa using h, fun j hj i hi => ?_, pairB_iff h3, pairB_iff h4, fun j hj i hi => List.all_eq_true.1 (List.all_eq_true.1 h5 j hj) i hi, fun i hi o ho => ?_, fun i hi o ho => ?_⟩
  ·have := List.all_eq_true.1 (List.all_eq_true.1 h2 j hj) i hi
   simpa using this
  ·have := List.all_eq_true.1 h6 i hi
   rw [ho] at this
   simpa using this
  ·have := List.all_eq_true.1 h6' i hi
   rw [ho] at this
   exact this
 have hlen : A.length + (Fl.length + (R1.length + R2.length)) ≤ ops.size := by
  have hsub : (A ++ (Fl ++ (R1 ++ R2))) ⊆ List.range ops.size := fun i hi => List.mem_range.2 (hlt i hi)
  have := hpend.1.length_le_of_subset hsub
  simpa [Nat.add_assoc] using this
 have hS' : Sim w0 F (Γ1 ++ (Γ2 ++ M)) { w with drawn := w.drawn + 1 } := by
  have := (hS.perm (hp.p.append_right M)).of_heap (w' := { w with drawn := w.drawn + 1 }) rfl rfl rfl rfl
  simpa using this
 have e0 : ∀ i ∈ Fl, (fun _ => none : FE) i = none := fun _ _ => rfl
 have p0 : pendE (fun _ => none) Fl = Fl := List.filter_eq_self.2 fun _ _ => rfl
 refine gameG hk rd nn hF h0 (w0 := w0) (tab := tab) (R1 := R1) (R2 := R2) (Γ1 := Γ1) (Γ2 := Γ2) (M := M) (F0 := F) (ds := a.defers) (fun j hj i hi => List.all_eq_true.1 (List.all_eq_true.1 f4 j hj) i hi) hQ
  _ A (fun _ => none) ops.size _ T F a _ rfl ?_ ?_ (by rw [p0]; exact hpend) hs1 (fun j hj i hi => List.all_eq_true.1 (List.all_eq_true.1 f3 j hj) i hi) (fun i hi => .inl rfl) (Fz.le_refl F) ?_ ?_ rfl ?_
 ·rw [p0]; omega
 ·intro k o hk'
  rcases Nat.lt_or_ge k ops.size with h' | h'
  ·simp [h'] at hk'
  ·intro ho
   have := (Array.getElem?_eq_some_iff.1 ho).1
   omega
 ·rw [entE_none e0]; simpa using hS'
 ·rw [putE_none e0]; exact hT
 ·simpa only [pickO_eq, Array.getElem?_toList, appE_eq] using h
theorem PDraw.sF (d : Option Nat) {ops : Array Oper} (hd : fstDst ops = d) (Γ1 : List Ent) (R1 B Fl R2 : List Nat) (hk : TT.ok P tt) (hm : P.follows .mixedOrders = true) {T : List PV} {Γ Γ2 : List Ent} {K : List PV → List Ent → Prop} [hp : PickL Γ Γ1 Γ2]
  (h : SSeq P tt ops.toList (pickO ops.toList (restL ops.toList 0 (R1 ++ (B ++ (Fl ++ R2))))) T Γ2 fun T' => WOps P tt ops.toList (pickO ops.toList R1) T' Γ1 [] fun T2 Γ1' _ => appE Γ1' Γ2 fun Γ' =>
   SSeq P tt ops.toList (pickO ops.toList B) T2 Γ' fun T3 => WOps P tt ops.toList (pickO ops.toList Fl) T3 Γ' [] fun T4 Γ4 _ => WOps P tt ops.toList (pickO ops.toList R2) T4 Γ4 [] fun T' Γ' _ => K T' Γ')
  (hchk : splitFB tt ops (tabOf ops.toList []) (restL ops.toList 0 (R1 ++ (B ++ (Fl ++ R2)))) R1 B Fl R2 = true := by kernel_rfl) : PDraw P ops T Γ K :=
 PDraw.splitF hk hm _ _ R1 B Fl R2 Γ1 hchk h
theorem PDraw.sG (d : Option Nat) {ops : Array Oper} (hd : fstDst ops = d) (Γ1 : List Ent) (Fl R1 R2 : List Nat) (hk : TT.ok P tt) (hm : P.follows .mixedOrders = true) {T : List PV} {Γ Γ2 : List Ent} {K : List PV → List Ent → Prop} [hp : PickL Γ Γ1 Γ2]
  (h : SSeq P tt ops.toList (pickO ops.toList (restL ops.toList 0 (Fl ++ (R1 ++ R2)))) T Γ2 fun T' => WOps P tt ops.toList (pickO ops.toList Fl) T' Γ1 [] fun T1 Γ1' _ => WOps P tt ops.toList (pickO ops.toList R1) T1 Γ1' [] fun T2 Γ1' _ => appE Γ1' Γ2 fun Γ' => WOps P tt ops.toList (pickO ops.toList R2) T2 Γ' [] fun T' Γ' _ => K T' Γ')
  (hchk : splitGB tt ops (tabOf ops.toList []) (restL ops.toList 0 (Fl ++ (R1 ++ R2))) Fl R1 R2 = true := by kernel_rfl) : PDraw P ops T Γ K :=
 PDraw.splitG hk hm _ _ Fl R1 R2 Γ1 hchk h
end
end Go.Cb
namespace Go.Cb
theorem PIndexA.ixE {α : Type} {f : α → PV} {g : α → List PV} [c : CellsOf f g] {sz : Nat} {l : List α} {tk : Option Tok} {k : IntKind} {n : Int} {i : Nat} [x : IdxOf n i] {K : PV → Prop} (d : α) (h0 : 0 ≤ n) (h : n < l.length)
  (hk : K (.ep (g (l.getD i d)))) : PIndexA sz (.sl sz (l.map f) tk) (.int k n) K := by
 have hi := IdxOf.lt h0 h
 refine PIndexA.ix h0 h ?_
 have e : l.getD i d = l[i] := by simp [List.getD, hi]
 rwa [e] at hk
end Go.Cb
namespace Go.Cb
open Go.Proofs
set_option maxRecDepth 100000
class Dfl (α : Type) where
 d : α
instance : Dfl Int := ⟨0⟩
instance : Dfl UInt8 := ⟨0⟩
instance : Dfl Trm := ⟨.mk 0 0 [] []⟩
instance : Dfl Datum := ⟨.mk 0 0 0 [] []⟩
theorem zPG {α : Type} {f : α → PV} {g : α → List PV} [c : CellsOf f g] {sz : Nat} {l : List α} {tk : Option Tok} {k : IntKind} {n : Int} {i : Nat} [x : IdxOf n i] {K : PV → Prop} [q : Dfl α] (h0 : 0 ≤ n) (h : n < l.length)
  (hk : K (.ep (g (l.getD i q.d)))) : PIndexA sz (.sl sz (l.map f) tk) (.int k n) K := PIndexA.ixE q.d h0 h hk
theorem stB {p : Prop} (h : p := by
 conv => whnf
 repeat ((first|(refine zW ?_ ?_; exact gA)|refine zH rfl ?_|refine zA ?_|refine zI bA ?_|refine zI rfl ?_|refine zJ rfl rfl ?_|refine zB ?_|refine zK rfl ?_|refine zL rfl ?_|refine zC ?_|(refine zO ?_ ?_ ?_; exact OA; exact OA)|(refine zPG ?_ ?_ ?_; exact OA; exact OA)|refine zM rfl ?_|(refine zQ ?_ ?_ ?_; exact OA; exact OA)|(refine zR ?_ ?_; exact OA)|(refine zI ?_ ?_; exact NA)|(refine zS ?_ ?_ ?_; exact OA; exact OA)|(refine zT ?_ ?_ ?_; exact OA; exact OA)|(refine zU ?_ ?_ ?_; exact OA; exact OA)|(refine zV ?_ ?_ ?_; exact OA; exact OA)|intro _); conv=>whnf)
 first | exact PShift.same | exact PShift.lit | exact PShift.ep) : p := h
class ElOf {α : Type} (f : α → PV) (x : PV) (v : outParam α) : Prop where
 wk : Wk x (f v)
 wl : WkL x.cellsOf (f v).cellsOf
class RowOf {α : Type} (f : α → PV) (es : List PV) (l : outParam (List α)) : Prop where
 h : WkR es (l.map f)
class SlOf {α : Type} (f : α → PV) (s : Nat) (x : PV) (l : outParam (List α)) : Prop where
 wk : Wk x (.sl s (l.map f) none)
instance (priority := high) RowOf.map {α : Type} (f : α → PV) (l : List α) : RowOf f (l.map f) l := ⟨WkR.refl _⟩
instance RowOf.nil {α : Type} (f : α → PV) : RowOf f [] [] := ⟨.nil⟩
instance RowOf.cons {α : Type} (f : α → PV) (x : PV) (es : List PV) (v : α) (l : List α) [h : ElOf f x v] [k : RowOf f es l] : RowOf f (x :: es) (v :: l) := ⟨.cons h.wl k.h⟩
instance SlOf.nil {α : Type} (f : α → PV) (s : Nat) : SlOf f s .nil [] := ⟨Wk.nil' rfl⟩
instance SlOf.sl {α : Type} (f : α → PV) (s : Nat) (es : List PV) (l : List α) (tk : Option Tok) [h : RowOf f es l] : SlOf f s (.sl s es tk) l := ⟨Wk.trans (Wk.tok _ _ _) (Wk.row h.h)⟩
instance (k : IntKind) (n : Int) : ElOf (PV.int k) (.int k n) n := ⟨Wk.refl _, WkL.refl _⟩
instance (b : Bool) : ElOf PV.bool (.bool b) b := ⟨Wk.refl _, WkL.refl _⟩
instance (s : List UInt8) : ElOf PV.str (.str s) s := ⟨Wk.refl _, WkL.refl _⟩
instance (priority := high) ElOf.same (t : Trm) : ElOf Trm.pv (Trm.pv t) t := ⟨Wk.refl _, WkL.refl _⟩
instance (priority := high) ElOf.cells (t : Trm) : ElOf Trm.pv (.agg t.cells) t := ⟨by rw [Trm.pv_eq]; exact Wk.refl _, by rw [Trm.pv_eq]; exact WkL.refl _⟩
theorem ElOf.ofL {x : List PV} {t : Trm} (h : WkL x t.cells) : ElOf Trm.pv (.agg x) t := ⟨by rw [Trm.pv_eq]; exact Wk.agg h, by rw [Trm.pv_eq]; exact h⟩
instance (priority := high) ElOf.parts (t : Trm) (tk1 tk2 : Option Tok) : ElOf Trm.pv (.agg [.int .i64 (Trm.op t), .int .i64 (Trm.n t), .sl 1 ((Trm.v t).map (PV.int .i64)) tk1, .sl 4 ((Trm.t t).map Trm.pv) tk2]) t :=
 ElOf.ofL (.cons (Wk.refl _) (.cons (Wk.refl _) (.cons (Wk.tok _ _ _) (.cons (Wk.tok _ _ _) .nil))))
instance ElOf.mk' (a b : Int) (x y : PV) (v : List Int) (t : List Trm) [h : SlOf (PV.int .i64) 1 x v] [k : SlOf Trm.pv 4 y t] : ElOf Trm.pv (.agg [.int .i64 a, .int .i64 b, x, y]) (.mk a b v t) :=
 ElOf.ofL (.cons (Wk.refl _) (.cons (Wk.refl _) (.cons h.wk (.cons k.wk .nil))))
theorem TrmOf.wk {x : PV} {t : Trm} [h : ElOf Trm.pv x t] : Wk x (.agg t.cells) := by rw [← Trm.pv_eq]; exact h.wk
instance (priority := high) ElOf.dsame (t : Datum) : ElOf Datum.pv (Datum.pv t) t := ⟨Wk.refl _, WkL.refl _⟩
instance (priority := high) ElOf.dcells (t : Datum) : ElOf Datum.pv (.agg t.cells) t := ⟨by rw [Datum.pv_eq]; exact Wk.refl _, by rw [Datum.pv_eq]; exact WkL.refl _⟩
theorem ElOf.ofD {x : List PV} {t : Datum} (h : WkL x t.cells) : ElOf Datum.pv (.agg x) t := ⟨by rw [Datum.pv_eq]; exact Wk.agg h, by rw [Datum.pv_eq]; exact h⟩
instance (priority := high) ElOf.dparts (t : Datum) (tk : Option Tok) : ElOf Datum.pv (.agg [.int .i64 (Datum.kind t), .int .i64 (Datum.n t), .int .i64 (Datum.d t), .str (Datum.s t), .sl 5 ((Datum.l t).map Datum.pv) tk]) t :=
 ElOf.ofD (.cons (Wk.refl _) (.cons (Wk.refl _) (.cons (Wk.refl _) (.cons (Wk.refl _) (.cons (Wk.tok _ _ _) .nil)))))
instance ElOf.dmk (a b c : Int) (s : List UInt8) (x : PV) (l : List Datum) [h : SlOf Datum.pv 5 x l] : ElOf Datum.pv (.agg [.int .i64 a, .int .i64 b, .int .i64 c, .str s, x]) (.mk a b c s l) :=
 ElOf.ofD (.cons (Wk.refl _) (.cons (Wk.refl _) (.cons (Wk.refl _) (.cons (Wk.refl _) (.cons h.wk .nil)))))
section
theorem bytes_ok {n by_ : Nat} (hb : Nat.ble by_ 4096 = true) (h : n ≤ 34359738368) : n * by_ ≤ 140737488355328 :=
 Nat.le_trans (Nat.mul_le_mul h (Nat.le_of_ble_eq_true hb)) (by decide)
theorem PAppend.more {α : Type} {f : α → PV} {l m : List α} {es : List PV} {s by_ : Nat} {e : TypeId} {tk : Option Tok} {t : Tok} {Γ : List Ent} {put : Tok → List Ent} [hp : PickTok Γ t put] [hm : RowOf f es m] {K : PV → List Ent → Prop} (he : t.e = e)
  (hb : Nat.ble by_ 4096 = true) (h1 : l.length + m.length ≤ 34359738368)
  (k : ∀ t' : Tok, t'.e = e → K (.sl s ((l ++ m).map f) (some t')) (put t')) : PAppend s by_ e (.sl s (l.map f) (some t)) (.sl s es tk) Γ K := by
 obtain ⟨Γ1, Γ2, e1, e2⟩ := hp.at_
 refine ⟨l.map f, m.map f, .inl ⟨tk, Wk.row hm.h⟩, by simp; omega, by simpa using bytes_ok hb h1, .inr (.inl ⟨t, Γ1, Γ2, rfl, e1, he, fun t' ht => ?_⟩)⟩
 have := k t' ht
 rw [List.map_append, e2] at this
 exact this
theorem PAppend.empty {ys : List PV} {s by_ : Nat} {e : TypeId} {tk : Option Tok} {t : Tok} {Γ : List Ent} {put : Tok → List Ent} [hp : PickTok Γ t put] {K : PV → List Ent → Prop} (he : t.e = e)
  (hb : Nat.ble by_ 4096 = true) (h1 : ys.length ≤ 34359738368)
  (k : ∀ t' : Tok, t'.e = e → K (.sl s ys (some t')) (put t')) : PAppend s by_ e (.sl s [] (some t)) (.sl s ys tk) Γ K := by
 obtain ⟨Γ1, Γ2, e1, e2⟩ := hp.at_
 refine ⟨[], ys, .inl ⟨tk, Wk.refl _⟩, by simp; omega, by simpa using bytes_ok hb h1, .inr (.inl ⟨t, Γ1, Γ2, rfl, e1, he, fun t' ht => ?_⟩)⟩
 have := k t' ht
 rw [e2] at this
 exact this
theorem PAppend.ofNil {ys : List PV} {s by_ : Nat} {e : TypeId} {tk : Option Tok} {Γ : List Ent} {K : PV → List Ent → Prop}
  (hb : Nat.ble by_ 4096 = true) (h1 : ys.length ≤ 34359738368)
  (k : ∀ t : Tok, t.e = e → K (.sl s ys (some t)) (.tok t :: Γ)) : PAppend s by_ e .nil (.sl s ys tk) Γ K :=
 ⟨[], ys, .inl ⟨tk, Wk.refl _⟩, by simp; omega, by simpa using bytes_ok hb h1, .inl ⟨rfl, rfl, .inl k⟩⟩
end
class TokL (Γ : List Ent) (Γ1 Γ2 : outParam (List Ent)) : Prop where
 p : Γ.Perm (Γ1 ++ Γ2)
instance TokL.nil : TokL [] [] [] := ⟨List.Perm.refl _⟩
instance (priority := high) TokL.tok (t : Tok) (Γ Γ1 Γ2 : List Ent) [h : TokL Γ Γ1 Γ2] : TokL (.tok t :: Γ) (.tok t :: Γ1) Γ2 := ⟨h.p.cons _⟩
instance TokL.other (e : Ent) (Γ Γ1 Γ2 : List Ent) [h : TokL Γ Γ1 Γ2] : TokL (e :: Γ) Γ1 (e :: Γ2) := ⟨(h.p.cons e).trans List.perm_middle.symm⟩
section
variable {P : Program} {tt : Nat → TI}
theorem PDraw.sT (d : Option Nat) {ops : Array Oper} (hd : fstDst ops = d) (R1 R2 : List Nat) {T : List PV} {Γ Γ1 Γ2 : List Ent} {K : List PV → List Ent → Prop} (hk : TT.ok P tt) (hm : P.follows .mixedOrders = true) [hp : TokL Γ Γ1 Γ2]
  (h : SSeq P tt ops.toList (pickO ops.toList (restL ops.toList 0 (R1 ++ R2))) T Γ2 fun T' => WOps P tt ops.toList (pickO ops.toList R1) T' Γ1 [] fun T2 Γ1' _ => appE Γ1' Γ2 fun Γ' => WOps P tt ops.toList (pickO ops.toList R2) T2 Γ' [] fun T' Γ' _ => K T' Γ')
  (hchk : splitB ops (tabOf ops.toList []) (restL ops.toList 0 (R1 ++ R2)) R1 R2 = true := by kernel_rfl) : PDraw P ops T Γ K :=
 PDraw.split hk hm _ _ R1 R2 Γ1 (hp := ⟨hp.p⟩) hchk h
end
theorem yA : type_of% @PAppend.more := @PAppend.more
theorem yB : type_of% @PAppend.empty := @PAppend.empty
theorem yC : type_of% @PAppend.ofNil := @PAppend.ofNil
theorem lA {p : Prop} (h : p := by first | omega | (simp only [List.length_cons, List.length_nil, List.length_map, List.length_append, List.length_take, List.length_drop]; omega)) : p := h
theorem sE {p q : Prop} (k : q) (h : q → p := by intro hq; first | exact yA (by clear hq; assumption) rfl lA hq | exact yB (by clear hq; assumption) rfl lA hq | exact yC rfl lA hq) : p := h k
theorem tB {p : Prop} (h : p := by first | exact stA | exact stB) : p := h
theorem aA1 {p q : Prop} (k : q) (h : Hd q → p := by intro hq; (conv => whnf); (repeat1' ((first | ((first | (apply zY; intro hg) | apply zZ); exact tB) | (refine zW ?_ ?_; exact gA) | refine zH rfl ?_ | refine zA ?_ | refine zI bA ?_ | refine zI rfl ?_ | refine zJ rfl rfl ?_ | refine zB ?_ | refine zK rfl ?_ | refine zL rfl ?_ | refine zC ?_ | (refine zO ?_ ?_ ?_; omega; omega) | (refine zP ?_ ?_ ?_; omega; omega) | refine zM rfl ?_ | (refine zQ ?_ ?_ ?_; omega; omega) | (refine zR ?_ ?_; omega) | (refine zI ?_ ?_; exact nA) | (refine zS ?_ ?_ ?_; omega; omega) | (refine zT ?_ ?_ ?_; omega; omega) | (refine zU ?_ ?_ ?_; omega; omega) | (refine zV ?_ ?_ ?_; omega; omega) | (refine yA ?_ rfl lA ?_; assumption) | (refine yB ?_ rfl lA ?_; assumption) | refine yC rfl lA ?_ | refine n0 ?_ | refine zN rfl rfl rfl ?_ | refine zD ?_ | refine zE ?_ | refine zF ?_ | refine zG ?_); conv => whnf)); exact hq.h) : p := h ⟨k⟩
end Go.Cb
namespace Go.Cb
open Go.Proofs
set_option maxRecDepth 100000
theorem PAppend.rowMore {α : Type} {f : α → PV} {l m : List α} {es : List PV} {s by_ : Nat} {e : TypeId} {tk : Option Tok} {t : Tok} {Γ : List Ent} {put : Tok → List PV → List Ent} [hp : PickRow Γ t (l.map f) put] [hm : RowOf f es m] {K : PV → List Ent → Prop} (he : t.e = e) (hs : t.s = s)
  (hb : Nat.ble by_ 4096 = true) (h1 : l.length + m.length ≤ 34359738368)
  (k : ∀ t' : Tok, t'.e = e → t'.s = s → K (.ms t') (put t' ((l ++ m).map f))) : PAppend s by_ e (.ms t) (.sl s es tk) Γ K := by
 obtain ⟨Γ1, Γ2, e1, e2⟩ := hp.at_
 refine ⟨l.map f, m.map f, .inl ⟨none, Wk.trans (Wk.tok _ _ _) (Wk.row hm.h)⟩, by simp; omega, by simpa using bytes_ok hb h1, .inr (.inr ⟨t, Γ1, Γ2, rfl, e1, he, hs, fun t' ht hs' => ?_⟩)⟩
 have := k t' ht hs'
 rw [List.map_append, e2] at this
 exact this
theorem yD : type_of% @PAppend.rowMore := @PAppend.rowMore
def mapM {α : Type} (f : α → PV) (m : Int → Option α) (v : Value) : Option PV := match v with
 | .int .i64 k => (m k).map f
 | _ => none
theorem PLook.num {α : Type} {f : α → PV} {r : Nat} {m : Int → Option α} {n : Int} {z : PV} {Γ : List Ent} {pend : List (Int × Value)} {put : (Value → Option PV) → List (Int × Value) → List Ent} [hp : PickMp Γ r (.int .i64) (mapM f m) pend put] {K : PV → Bool → Prop}
  (h : K (match m n with | some x => f x | none => z) (m n).isSome) : PLook r (.int .i64) (some (.int .i64 n)) z Γ K :=
 PLook.at_ (hp := hp) _ _ (by simp [IsK, MapKept.IsKey]) (fun p hp => by
  simp only [mapM] at hp
  cases hm : m n with
  | none => rw [hm] at hp; cases hp
  | some x => rw [hm] at hp; cases hp; exact ⟨Wk.refl _, rfl⟩) (fun hn => by
  simp only [mapM] at hn
  cases hm : m n with
  | none => exact ⟨Wk.refl _, rfl⟩
  | some x => rw [hm] at hn; cases hn) h
theorem yH {α : Type} {f : α → PV} {r : Nat} {m : Int → Option α} {n : Int} {x : α} {z : PV} {Γ : List Ent} {pend : List (Int × Value)} {put : (Value → Option PV) → List (Int × Value) → List Ent} [hp : PickMp Γ r (.int .i64) (mapM f m) pend put] {K : PV → Bool → Prop}
  (hx : m n = some x) (h : K (f x) true) : PLook r (.int .i64) (some (.int .i64 n)) z Γ K := PLook.num (hp := hp) (by rw [hx]; exact h)
theorem yI {α : Type} {f : α → PV} {r : Nat} {m : Int → Option α} {n : Int} {z : PV} {Γ : List Ent} {pend : List (Int × Value)} {put : (Value → Option PV) → List (Int × Value) → List Ent} [hp : PickMp Γ r (.int .i64) (mapM f m) pend put] {K : PV → Bool → Prop}
  (hx : m n = none) (h : K z false) : PLook r (.int .i64) (some (.int .i64 n)) z Γ K := PLook.num (hp := hp) (by rw [hx]; exact h)
def upd {α : Type} (m : Int → Option α) (n : Int) (x : α) : Int → Option α := fun k => if k = n then some x else m k
theorem PMapPut.num {α : Type} {f : α → PV} {r : Nat} {m : Int → Option α} {n : Int} {p : PV} {Γ : List Ent} {pend : List (Int × Value)} {put : (Value → Option PV) → List (Int × Value) → List Ent} [hp : PickMp Γ r (.int .i64) (mapM f m) pend put] {K : List Ent → Prop} (x : α) (hx : p = f x)
  (h : K (put (mapM f (upd m n x)) pend)) (hq : mapM f m (.int .i64 n) ≠ none ∨ ∀ q ∈ pend, q.2 ≠ .tuple #[] := by right; simp) : PMapPut r (.int .i64) (some (.int .i64 n)) p Γ K :=
 PMapPut.at_ (hp := hp) (mapM f (upd m n x)) (by simp [IsK, MapKept.IsKey]) (by simp [mapM, upd, hx]) (fun k hk => by
  unfold mapM
  split
  ·rename_i j
   have : j ≠ n := fun e => hk (by rw [e])
   simp [upd, this]
  ·rfl) h hq
structure AllI {α : Type} (m : Int → Option α) (all : List (Nat × Int)) : Prop where
 dom : ∀ z, m z ≠ none ↔ ∃ n, (n, z) ∈ all
 nk : (all.map (·.2)).Nodup
 nb : (all.map (·.1)).Nodup
class PickOb (Γ : List Ent) (b : Nat) (o : outParam Obj) (put : outParam (Obj → List Ent)) : Prop where
 at_ : ∃ Γ1 Γ2, Γ = Γ1 ++ .ob b o [] [] :: Γ2 ∧ ∀ o', put o' = Γ1 ++ .ob b o' [] [] :: Γ2
instance (priority := high) PickOb.head (Γ : List Ent) (b : Nat) (o : Obj) : PickOb (.ob b o [] [] :: Γ) b o (fun o' => .ob b o' [] [] :: Γ) := ⟨[], Γ, rfl, fun _ => rfl⟩
instance PickOb.tail (e : Ent) (Γ : List Ent) (b : Nat) (o : Obj) (put : Obj → List Ent) [h : PickOb Γ b o put] : PickOb (e :: Γ) b o (fun o' => e :: put o') := by
 obtain ⟨Γ1, Γ2, h1, h2⟩ := h.at_
 exact ⟨e :: Γ1, Γ2, by rw [h1]; rfl, fun o' => by rw [h2]; rfl⟩
theorem PIndexM.atL {α : Type} {f : α → PV} {l : List α} {sz : Nat} {Γ : List Ent} {t : Tok} {put : Tok → List PV → List Ent} [hp : PickRow Γ t (l.map f) put] {k : IntKind} {n : Int} {i : Nat} [x : IdxOf n i] {K : PV → Prop} (hs : t.s = sz) (h0 : 0 ≤ n) (h : n < l.length) (hk : K (.rp t i 0)) : PIndexM sz t (.int k n) Γ K :=
 PIndexM.at_ (hp := hp) hs h0 (by have := x.eq h0; rw [List.length_map]; omega) hk
theorem yE : type_of% @PIndexM.atL := @PIndexM.atL
theorem yF : type_of% @PLoad.row := @PLoad.row
theorem PStore.rowAll {α : Type} {f : α → PV} {c : α → List PV} [hc : CellsOf f c] {l : List α} {Γ : List Ent} {t : Tok} {put : Tok → List PV → List Ent} [hp : PickRow Γ t (l.map f) put] {i n : Nat} {x : PV} {v : α} [hv : ElOf f x v] {K : List Ent → Prop} (hi : i < l.length)
  (hl : Nat.beq (c l[i]).length n = true) (hx : lenIs x.cellsOf n = true) (hcl : x.cellular = true) (k : K (put t ((l.set i v).map f))) : PStore n (.rp t i 0) x Γ K := by
 have hn : (c l[i]).length = n := Nat.eq_of_beq_eq_true hl
 have hw : WkL x.cellsOf (c v) := by have := hv.wl; rwa [hc.eq] at this
 refine PStore.row (hp := hp) v hi (by rw [hn, Nat.zero_add]; exact Nat.ble_eq_true_of_le (Nat.le_refl _)) hx hcl hw ?_ k
 rw [List.take_zero, List.nil_append, Nat.zero_add, List.drop_of_length_le (by omega), List.append_nil]
theorem yG : type_of% @PStore.rowAll := @PStore.rowAll
theorem sG {p q : Prop} (k : q) (h : q → p := by intro hq; first | exact yE (by clear hq; assumption) (by clear hq; omega) (by clear hq; omega) hq | exact yF (by clear hq; omega) rfl hq | exact yH (by clear hq; assumption) hq | exact yI (by clear hq; assumption) hq) : p := h k
theorem sF {p q : Prop} (k : q) (h : q → p := by intro hq; first | exact yA (by clear hq; assumption) rfl lA hq | exact yB (by clear hq; assumption) rfl lA hq | exact yC rfl lA hq | exact yD (by clear hq; assumption) (by clear hq; assumption) rfl lA hq | exact yE (by clear hq; assumption) (by clear hq; omega) (by clear hq; omega) hq | exact yF (by clear hq; omega) rfl hq | exact yH (by clear hq; assumption) hq | exact yI (by clear hq; assumption) hq | exact yG (by clear hq; omega) rfl rfl rfl hq) : p := h k
theorem stC {p : Prop} (h : p := by
 conv => whnf
 repeat ((first|(refine zW ?_ ?_; exact gA)|refine zA ?_|refine zH rfl ?_|refine zB ?_|(refine yE ?_ ?_ ?_ ?_; assumption; omega; omega)|(refine yF ?_ rfl ?_; omega)|(apply yH; assumption)|(refine yI ?_ ?_; assumption)|intro _); conv=>whnf)
 first | exact pS | exact pL | exact pE) : p := h
theorem tC {p : Prop} (h : p := by first | exact stA | exact stB | exact stC) : p := h
theorem aF {p q : Prop} (k : q) (h : Hd q → p := by intro hq; (first | (refine yA ?_ rfl lA ?_; assumption) | (refine yB ?_ rfl lA ?_; assumption) | refine yC rfl lA ?_ | (refine yD ?_ ?_ rfl lA ?_; assumption; assumption) | (refine yE ?_ ?_ ?_ ?_; assumption; omega; omega) | (refine yF ?_ rfl ?_; omega) | (apply yH; assumption) | (refine yI ?_ ?_; assumption) | (refine yG ?_ rfl rfl rfl ?_; omega) | refine n0 ?_ | refine zN rfl rfl rfl ?_ | refine zD ?_ | refine zE ?_ | refine zF ?_); exact hq.h) : p := h ⟨k⟩
theorem aH {p q : Prop} (k : q) (h : Hd q → p := by intro hq; (first | (refine zW ?_ ?_; exact gA) | refine zA ?_ | refine zH rfl ?_ | refine zB ?_ | (refine yE ?_ ?_ ?_ ?_; assumption; omega; omega) | (refine yF ?_ rfl ?_; omega) | (apply yH; assumption) | (refine yI ?_ ?_; assumption)); exact hq.h) : p := h ⟨k⟩
theorem aR2 {p q : Prop} (k : q) (h : Hd q → p := by intro hq; (conv => whnf); (repeat1' ((first | ((first | (apply zY; intro hg) | apply zZ); exact tC) | (refine zW ?_ ?_; exact gA) | refine zH rfl ?_ | refine zA ?_ | refine zI bA ?_ | refine zI rfl ?_ | refine zJ rfl rfl ?_ | refine zB ?_ | refine zK rfl ?_ | refine zL rfl ?_ | refine zC ?_ | (refine zO ?_ ?_ ?_; omega; omega) | (refine zP ?_ ?_ ?_; omega; omega) | refine zM rfl ?_ | (refine zQ ?_ ?_ ?_; omega; omega) | (refine zR ?_ ?_; omega) | (refine zI ?_ ?_; exact nA) | (refine zS ?_ ?_ ?_; omega; omega) | (refine zT ?_ ?_ ?_; omega; omega) | (refine zU ?_ ?_ ?_; omega; omega) | (refine zV ?_ ?_ ?_; omega; omega) | (refine yA ?_ rfl lA ?_; assumption) | (refine yB ?_ rfl lA ?_; assumption) | refine yC rfl lA ?_ | (refine yD ?_ ?_ rfl lA ?_; assumption; assumption) | (refine yE ?_ ?_ ?_ ?_; assumption; omega; omega) | (refine yF ?_ rfl ?_; omega) | (apply yH; assumption) | (refine yI ?_ ?_; assumption) | (refine yG ?_ rfl rfl rfl ?_; omega) | refine n0 ?_ | refine zN rfl rfl rfl ?_ | refine zD ?_ | refine zE ?_ | refine zF ?_); conv => whnf)); exact hq.h) : p := h ⟨k⟩
theorem aA2 {p q : Prop} (k : q) (h : Hd q → p := by intro hq; (conv => whnf); (repeat1' ((first | ((first | (apply zY; intro hg) | apply zZ); exact tC) | (refine zW ?_ ?_; exact gA) | refine zH rfl ?_ | refine zA ?_ | refine zI bA ?_ | refine zI rfl ?_ | refine zJ rfl rfl ?_ | refine zB ?_ | refine zK rfl ?_ | refine zL rfl ?_ | refine zC ?_ | (refine zO ?_ ?_ ?_; omega; omega) | (refine zP ?_ ?_ ?_; omega; omega) | refine zM rfl ?_ | (refine zQ ?_ ?_ ?_; omega; omega) | (refine zR ?_ ?_; omega) | (refine zI ?_ ?_; exact nA) | (refine zS ?_ ?_ ?_; omega; omega) | (refine zT ?_ ?_ ?_; omega; omega) | (refine zU ?_ ?_ ?_; omega; omega) | (refine zV ?_ ?_ ?_; omega; omega) | (refine yA ?_ rfl lA ?_; assumption) | (refine yB ?_ rfl lA ?_; assumption) | refine yC rfl lA ?_ | (refine yD ?_ ?_ rfl lA ?_; assumption; assumption) | (refine yE ?_ ?_ ?_ ?_; assumption; omega; omega) | (refine yF ?_ rfl ?_; omega) | (apply yH; assumption) | (refine yI ?_ ?_; assumption) | (refine yG ?_ rfl rfl rfl ?_; omega) | refine n0 ?_ | refine zN rfl rfl rfl ?_ | refine zD ?_ | refine zE ?_ | refine zF ?_ | refine zG ?_); conv => whnf)); exact hq.h) : p := h ⟨k⟩
end Go.Cb
namespace Go.Cb
open Go.Proofs
set_option maxRecDepth 100000
set_option maxHeartbeats 4000000
abbrev EnvM := List (Int × Nat)
structure Clo where
 v : List Int
 rest : Bool
 body : Trm
 env : EnvM
inductive Vl where
 | mk (k n d : Int) (s : List UInt8) (l : List Vl) (p : Option Clo) (c : Option Nat)
def Vl.k : Vl → Int | .mk k _ _ _ _ _ _ => k
def Vl.n : Vl → Int | .mk _ n _ _ _ _ _ => n
def Vl.d : Vl → Int | .mk _ _ d _ _ _ _ => d
def Vl.s : Vl → List UInt8 | .mk _ _ _ s _ _ _ => s
def Vl.l : Vl → List Vl | .mk _ _ _ _ l _ _ => l
def Vl.p : Vl → Option Clo | .mk _ _ _ _ _ p _ => p
def Vl.c : Vl → Option Nat | .mk _ _ _ _ _ _ c => c
def envPV : EnvM → PV
 | [] => .np
 | (v, a) :: e => .ep [.int .i64 v, .ptr a 0, envPV e]
abbrev Clo.cells (c : Clo) : List PV := [.sl 1 (c.v.map (PV.int .i64)) none, .bool c.rest, .int .i64 c.body.op, .int .i64 c.body.n, .sl 1 (c.body.v.map (PV.int .i64)) none, .sl 4 (c.body.t.map Trm.pv) none, envPV c.env, .int .i64 (-1), .nil]
def cloPV : Option Clo → PV
 | none => .np
 | some c => .ep c.cells
def cellPV : Option Nat → PV
 | none => .np
 | some a => .ptr a 0
mutual
def Vl.pv : Vl → PV
 | .mk k n d s l p c => .agg [.int .i64 k, .int .i64 n, .int .i64 d, .str s, .sl 7 (Vl.pvs l) none, cloPV p, cellPV c]
def Vl.pvs : List Vl → List PV
 | [] => []
 | x :: xs => Vl.pv x :: Vl.pvs xs
end
theorem Vl.pvs_eq : ∀ l : List Vl, Vl.pvs l = l.map Vl.pv
 | [] => rfl
 | x :: xs => by simp only [Vl.pvs, List.map_cons, Vl.pvs_eq xs]
def Vl.cells (x : Vl) : List PV := [.int .i64 x.k, .int .i64 x.n, .int .i64 x.d, .str x.s, .sl 7 (x.l.map Vl.pv) none, cloPV x.p, cellPV x.c]
abbrev valC (x : Vl) : List PV := [.int .i64 x.k, .int .i64 x.n, .int .i64 x.d, .str x.s, .sl 7 (x.l.map Vl.pv) none, cloPV x.p, cellPV x.c]
abbrev celC (x : Vl) (r : Bool) : List PV := [.int .i64 x.k, .int .i64 x.n, .int .i64 x.d, .str x.s, .sl 7 (x.l.map Vl.pv) none, cloPV x.p, cellPV x.c, .bool r]
theorem Vl.pv_eq (x : Vl) : x.pv = .agg x.cells := by
 cases x; simp only [Vl.pv, Vl.cells, Vl.pvs_eq, Vl.k, Vl.n, Vl.d, Vl.s, Vl.l, Vl.p, Vl.c]
instance : CellsOf Vl.pv Vl.cells := ⟨fun x => by rw [Vl.pv_eq]; rfl⟩
mutual
theorem Vl.ind_aux {p : Vl → Prop} (h : ∀ x : Vl, (∀ y ∈ x.l, p y) → p x) : ∀ d, p d
 | .mk k n d s l pr c => h (.mk k n d s l pr c) (Vl.ind_auxs h l)
theorem Vl.ind_auxs {p : Vl → Prop} (h : ∀ x : Vl, (∀ y ∈ x.l, p y) → p x) : ∀ (l : List Vl), ∀ x ∈ l, p x
 | [] => by simp
 | y :: ys => List.forall_mem_cons.2 ⟨Vl.ind_aux h y, Vl.ind_auxs h ys⟩
end
theorem Vl.ind {p : Vl → Prop} (h : ∀ x : Vl, (∀ y ∈ x.l, p y) → p x) (d : Vl) : p d := Vl.ind_aux h d
instance : Dfl Vl := ⟨.mk 0 0 0 [] [] none none⟩
instance (priority := high) ElOf.vsame (t : Vl) : ElOf Vl.pv (Vl.pv t) t := ⟨Wk.refl _, WkL.refl _⟩
instance (priority := high) ElOf.vcells (t : Vl) : ElOf Vl.pv (.agg t.cells) t := ⟨by rw [Vl.pv_eq]; exact Wk.refl _, by rw [Vl.pv_eq]; exact WkL.refl _⟩
theorem ElOf.ofV {x : List PV} {t : Vl} (h : WkL x t.cells) : ElOf Vl.pv (.agg x) t := ⟨by rw [Vl.pv_eq]; exact Wk.agg h, by rw [Vl.pv_eq]; exact h⟩
instance (priority := high) ElOf.vparts (t : Vl) (tk : Option Tok) : ElOf Vl.pv (.agg [.int .i64 (Vl.k t), .int .i64 (Vl.n t), .int .i64 (Vl.d t), .str (Vl.s t), .sl 7 ((Vl.l t).map Vl.pv) tk, cloPV (Vl.p t), cellPV (Vl.c t)]) t :=
 ElOf.ofV (.cons (Wk.refl _) (.cons (Wk.refl _) (.cons (Wk.refl _) (.cons (Wk.refl _) (.cons (Wk.tok _ _ _) (.cons (Wk.refl _) (.cons (Wk.refl _) .nil)))))))
class PtrOf {α : Type} (f : α → PV) (x : PV) (v : outParam α) : Prop where
 h : x = f v
instance PtrOf.none1 : PtrOf cloPV .np none := ⟨rfl⟩
instance PtrOf.none2 : PtrOf cellPV .np none := ⟨rfl⟩
instance PtrOf.some2 (a : Nat) : PtrOf cellPV (.ptr a 0) (some a) := ⟨rfl⟩
instance (priority := high) PtrOf.same {α : Type} (f : α → PV) (v : α) : PtrOf f (f v) v := ⟨rfl⟩
instance ElOf.vmk (a b c : Int) (s : List UInt8) (x y z : PV) (l : List Vl) (p : Option Clo) (q : Option Nat) [h : SlOf Vl.pv 7 x l] [hy : PtrOf cloPV y p] [hz : PtrOf cellPV z q] : ElOf Vl.pv (.agg [.int .i64 a, .int .i64 b, .int .i64 c, .str s, x, y, z]) (.mk a b c s l p q) :=
 ElOf.ofV (.cons (Wk.refl _) (.cons (Wk.refl _) (.cons (Wk.refl _) (.cons (Wk.refl _) (.cons h.wk (.cons (by rw [hy.h]; exact Wk.refl _) (.cons (by rw [hz.h]; exact Wk.refl _) .nil)))))))
theorem ValOf.wk {x : PV} {t : Vl} [h : ElOf Vl.pv x t] : Wk x (.agg t.cells) := by rw [← Vl.pv_eq]; exact h.wk
theorem normN {x : PV} {l : List PV} {K : List PV → Prop} (hx : normC x = x) (h : normK l fun r => K (x :: r)) : normK (x :: l) K := by
 rw [normK_eq] at h ⊢
 rw [List.map_cons, hx]
 exact h
theorem nC {p : Option Clo} : normC (cloPV p) = cloPV p := by cases p <;> rfl
theorem nD {c : Option Nat} : normC (cellPV c) = cellPV c := by cases c <;> rfl
abbrev zerV : Vl := .mk 0 0 0 [] [] none none
abbrev kndV (k : Int) : Vl := .mk k 0 0 [] [] none none
mutual
def valV : Datum → Vl
 | .mk k n d s l => .mk k n d s (valVs l) none none
def valVs : List Datum → List Vl
 | [] => []
 | x :: xs => valV x :: valVs xs
end
theorem valVs_eq : ∀ l : List Datum, valVs l = l.map valV
 | [] => rfl
 | x :: l => by rw [valVs, valVs_eq l]; rfl
theorem valV_eq (d : Datum) : valV d = .mk d.kind d.n d.d d.s (d.l.map valV) none none := by cases d; rw [valV, valVs_eq]; rfl
def lstV (l : List Vl) : Vl := l.foldr (fun x r => .mk 6 0 0 [] [x, r] none none) (kndV 4)
abbrev Hp := List (Nat × Vl × Bool)
def hpE (h : Hp) : List Ent := h.map fun c => .box c.1 (celC c.2.1 c.2.2)
def fndM : EnvM → Int → Option Nat
 | [], _ => none
 | (x, a) :: e, v => if x = v then some a else fndM e v
structure MSt where
 fuel : Int
 out : List UInt8
 alive : List Bool
 to : Int
 val : Vl
 h : Hp
abbrev mcB (K : List Vl) (t : Tok) (s : MSt) : List PV := [.sl 7 (K.map Vl.pv) none, .nil, .int .i64 s.fuel, .str s.out, .ms t, .int .i64 s.to, .int .i64 s.val.k, .int .i64 s.val.n, .int .i64 s.val.d, .str s.val.s, .sl 7 (s.val.l.map Vl.pv) none, cloPV s.val.p, cellPV s.val.c]
abbrev mcE (b : Nat) (K : List Vl) (t : Tok) (s : MSt) : List Ent := .box b (mcB K t s) :: .row t (s.alive.map PV.bool) :: hpE s.h
end Go.Cb
namespace Go.Cb
open Go.Proofs
set_option maxRecDepth 100000
set_option maxHeartbeats 4000000
def OkR (s : List UInt8) (k : Nat) (r : Nat × Int) : Prop := r.1 ≤ s.length ∧ ((r.2 = -1 ∧ k < r.1) ∨ 0 ≤ r.2)
theorem OkR.mono {s : List UInt8} {k j : Nat} {r : Nat × Int} (h : OkR s j r) (hk : k ≤ j) : OkR s k r := ⟨h.1, h.2.imp (fun h => ⟨h.1, by omega⟩) id⟩
theorem OkR.fail {s : List UInt8} {k j i : Nat} (h : j ≤ s.length) : OkR s k (j, (i : Int)) := ⟨h, .inr (Int.natCast_nonneg _)⟩
theorem OkR.ok {s : List UInt8} {k j : Nat} (h : j ≤ s.length) (h2 : k < j) : OkR s k (j, -1) := ⟨h, .inl ⟨rfl, h2⟩⟩
end Go.Cb
namespace Go.Cb
open Go.Proofs
set_option maxRecDepth 100000
set_option maxHeartbeats 4000000
theorem DatOf.wk {x : PV} {t : Datum} [h : ElOf Datum.pv x t] : Wk x (.agg t.cells) := by rw [← Datum.pv_eq]; exact h.wk
theorem LoopTo.gh {σ : Type} {ds : List Nat} {R : σ → List (Nat × PV)} {G : σ → List Ent} {I : σ → Prop} {μ : σ → Nat} {T0 : List PV} {s : σ} {T : List PV} {Γ : List Ent} {D : Ds} (s' : σ) (hI : I s') (hμ : μ s' < μ s)
  (hw : WkOver 0 T T0 ds (R s')) (hg : Ghost Γ (G s')) : LoopTo ds R G I μ T0 s D T Γ D := ⟨rfl, s', hI, hμ, Weak.of (WkOver.wk 0 T T0 ds (R s') hw) hg⟩
abbrev resE (b : Nat) : Ent := .box b [.int .i64 0, .int .i64 0, .int .i64 0, .str [], .nil]
end Go.Cb
namespace Go.Cb
open Go.Proofs
set_option maxRecDepth 100000
set_option maxHeartbeats 4000000
section
theorem PLoop.gh {B : List PV → List Ent → Ds → QT → Prop} {T : List PV} {Γ Γ' : List Ent} {D : Ds} {Q : QT} (hg : Ghost Γ Γ') (h : PLoop B T Γ' D Q) : PLoop B T Γ D Q := by
 obtain ⟨I, J, ⟨n, T0, Γ0, h1, h2⟩, h3, h4⟩ := h.h
 refine ⟨I, J, ⟨n, T0, Γ0, fun w0 F M w vs hS hT => ?_, h2⟩, h3, h4⟩
 obtain ⟨F1, e1, hS1⟩ := hg w0 F M w hS
 obtain ⟨F2, e2, hS2, hT2⟩ := h1 w0 F1 M w vs hS1 (RepT.mono e1 _ _ hT)
 exact ⟨F2, Fz.le_trans e1 e2, hS2, hT2⟩
end
abbrev datC (d : Datum) : List PV := [.int .i64 d.kind, .int .i64 d.n, .int .i64 d.d, .str d.s, .sl 5 (d.l.map Datum.pv) none]
theorem pair_wk {a b : Datum} {tk : Option Tok} : WkL [.int .i64 6, .int .i64 0, .int .i64 0, .str [], .sl 5 [.agg (datC a), .agg (datC b)] tk] (datC (pairD a b)) :=
 .cons (Wk.refl _) (.cons (Wk.refl _) (.cons (Wk.refl _) (.cons (Wk.refl _) (.cons (SlOf.wk (f := Datum.pv) (l := [a, b])) .nil))))
theorem nul_wk : WkL [.int .i64 4, .int .i64 0, .int .i64 0, .str [], .nil] (datC nulD) := .cons (Wk.refl _) (.cons (Wk.refl _) (.cons (Wk.refl _) (.cons (Wk.refl _) (.cons (Wk.nil' rfl) .nil))))
theorem drRd03baa {p q : Prop} (k : q) (h : q → p := by intro hq; first | exact PDraw.sP (some 13) rfl [] [7] tt_ok mixed hq) : p := h k
theorem list02_c (l : List Datum) : ACallP Tryz.prog 182 [.sl 5 (l.map Datum.pv) none] (.agg (listD l).cells) := by
 refine ACall.of_body tt_ok Tryz.func182 rfl rfl (n := 21) rfl rfl ?_
 conv => whnf
 repeat' (first|refine aA2 ?_|((intro _);conv=>whnf)|(refine zX (fun hc=>?_) (fun hc=>?_)<;>(try simp only [SY] at hc)<;>omega))
 rename_i b2 b3 hl
 refine PLoop.gh (Ghost.box (b := b3) (cs := [.int .i64 4, .int .i64 0, .int .i64 0, .str [], .nil]) (cs' := datC nulD) nul_wk) ?_
 refine PLoop.over [4, 9, 10, 11, 12, 13, 14, 15, 16, 17, 18, 19] (fun x : Nat × Datum => [(4, .int .i64 ((x.1 : Int) - 1))]) (fun x : Nat × Datum => [resE b2, .box b3 (datC x.2)]) (fun x => x.1 ≤ l.length ∧ x.2 = (l.drop x.1).foldr pairD nulD) (fun x => x.1) (l.length, nulD) ⟨Nat.le_refl _, by rw [List.drop_of_length_le (Nat.le_refl _)]; rfl⟩ wA ?_
 rintro ⟨i, D⟩ ⟨hi, hD⟩
 dsimp only at hi hD ⊢
 conv => whnf
 repeat' (first|refine aA2 ?_|((refine drRd03baa ?_);conv=>whnf)|(refine zX (fun hc=>?_) (fun hc=>?_)<;>(try simp only [SY] at hc)<;>(conv=>whnf)))
 ·have h1 : i - 1 < l.length := by omega
  have e : l.drop (i - 1) = l[i - 1] :: l.drop i := by rw [drop_at h1, show i - 1 + 1 = i by omega]
  refine LoopTo.gh (i - 1, pairD l[i - 1] D) ⟨by show i - 1 ≤ _; omega, by show pairD _ _ = _; rw [e, hD]; rfl⟩ (by show i - 1 < i; omega) wA ?_
  refine Ghost.trans (Ghost.box (b := b3) (cs := [.int .i64 6, .int .i64 0, .int .i64 0, .str [], .sl 5 [.agg (datC l[i - 1]), .agg (datC D)] none]) (cs' := datC (pairD l[i - 1] D)) pair_wk) ?_
  exact Ghost.pick
 ·have e : D = listD l := by rw [hD, show i = 0 by omega]; rfl
  rw [← e]
  exact PRet.pure (Wk.refl _)
end Go.Cb
namespace Go.Cb
open Go.RowKit (Below)
set_option maxRecDepth 100000
set_option maxHeartbeats 4000000
section
variable {P : Program} {tt : Nat → TI}
theorem SSeq_imp {full : List Oper} {Γ : List Ent} {k k' : List PV → Prop} (hk : ∀ T, k T → k' T) : ∀ (l : List Oper) (T : List PV), SSeq P tt full l T Γ k → SSeq P tt full l T Γ k'
 | [], T, h => hk T h
 | x :: l, T, h => by
  obtain ⟨v, h1, h2⟩ := SSeq_cons.1 h
  exact SSeq_cons.2 ⟨v, h1, SSeq_imp hk l _ h2⟩
end
end Go.Cb
namespace Go.Cb
open Go.RowKit (Below)
set_option maxRecDepth 100000
set_option maxHeartbeats 4000000
section
variable {P : Program} {tt : Nat → TI}
end
end Go.Cb
namespace Go.Cb
open Go.RowKit (Below)
set_option maxRecDepth 100000
set_option maxHeartbeats 4000000
def okR (tab rest : List Nat) (i : Nat) : Bool := rest.all fun j => Nat.beq j i || !(anc tab i j)
def dropN (i : Nat) : List Nat → List Nat
 | [] => []
 | j :: l => match Nat.beq j i with
  | true => l
  | false => j :: dropN i l
def keepR (tab rest : List Nat) : List Nat → List Nat
 | [] => []
 | i :: l => match okR tab rest i with
  | true => i :: keepR tab rest l
  | false => keepR tab rest l
def allQ : List Nat → (Nat → Prop) → Prop
 | [], _ => True
 | i :: l, f => f i ∧ allQ l f
theorem allQ_mem {f : Nat → Prop} : ∀ {l : List Nat}, allQ l f → ∀ i ∈ l, f i
 | [], _, i, h => by cases h
 | j :: l, h, i, hi => by
  rcases List.mem_cons.1 hi with rfl | hi
  ·exact h.1
  ·exact allQ_mem h.2 i hi
theorem keepR_mem {tab rest : List Nat} : ∀ {l : List Nat} {i : Nat}, i ∈ l → okR tab rest i = true → i ∈ keepR tab rest l
 | j :: l, i, hi, ho => by
  rw [keepR]
  rcases List.mem_cons.1 hi with rfl | hi
  ·rw [ho]; exact List.mem_cons_self ..
  ·split
   ·exact List.mem_cons_of_mem _ (keepR_mem hi ho)
   ·exact keepR_mem hi ho
theorem dropN_split {i : Nat} : ∀ {l1 l2 : List Nat}, i ∉ l1 → dropN i (l1 ++ i :: l2) = l1 ++ l2
 | [], l2, _ => by
  rw [List.nil_append, dropN, Nat.beq_refl]
  rfl
 | j :: l1, l2, h => by
  rw [List.mem_cons, not_or] at h
  rw [List.cons_append, dropN, beq_ne (Ne.symm h.1), dropN_split h.2]
  rfl
section
variable {P : Program} {tt : Nat → TI}
def WTree (P : Program) (tt : Nat → TI) (ops : List Oper) (tab : List Nat) : Nat → List Nat → List PV → List Ent → (List PV → List Ent → Prop) → Prop
 | 0, _, T, Γ, K => K T Γ
 | n + 1, rest, T, Γ, K => allQ (keepR tab rest rest) fun i => match ops[i]? with
  | none => False
  | some o => WOp P tt o.op T Γ fun x Γ' => WTree P tt ops tab n (dropN i rest) (putT T o.dst x) Γ' K
theorem gameT (hk : TT.ok P tt) (rd : Option Nat) (nn : Nat) {ops : Array Oper} {tab : List Nat} (hc : tabChk ops tab = true) {w0 : World} {M Γ2 : List Ent} {F0 : Fz} {ds : List Deferred} {Q' : Exit → Act → World → Prop}
  {Tl : List PV → List Ent → Prop} (hTl : ∀ (fuel : Nat) (listed : Array Bool) (T : List PV) (Γ : List Ent) (F : Fz) (a : Act) (w : World), Down ops listed → Pend ops listed [] → F0.le F → Sim w0 F (Γ ++ M) w → RepT F T a.tmps.toList → a.defers = ds →
   Tl T Γ → wpAnyIn (Fen rd) nn P .any ops Q' fuel listed a w) :
  ∀ (n : Nat) (A rest : List Nat) (fuel : Nat) (listed : Array Bool) (T : List PV) (Γ1 : List Ent) (F : Fz) (a : Act) (w : World), A.length + rest.length = n → n ≤ fuel →
   Down ops listed → Pend ops listed (A ++ rest) → (A.Pairwise fun j i => anc tab i j = true ∨ apartAt ops j i = true) → (∀ j ∈ A, ∀ i ∈ rest, anc tab i j = true ∨ apartAt ops j i = true) → (∀ i ∈ rest, ∀ o, ops[i]? = some o → o.guard = none) →
   F0.le F → Sim w0 F (Γ1 ++ (Γ2 ++ M)) w → RepT F T a.tmps.toList → a.defers = ds →
   (SSeq P tt ops.toList (A.filterMap (ops[·]?)) T Γ2 fun T' => WTree P tt ops.toList tab rest.length rest T' Γ1 fun T2 Γ1' => Tl T2 (Γ1' ++ Γ2)) →
   wpAnyIn (Fen rd) nn P .any ops Q' fuel listed a w := by
 intro n
 induction n with
 | zero =>
  intro A rest fuel listed T Γ1 F a w hn hf hd hp hpa hpr hug hle hS hT hds h
  obtain rfl : A = [] := List.eq_nil_of_length_eq_zero (by omega)
  obtain rfl : rest = [] := List.eq_nil_of_length_eq_zero (by omega)
  exact hTl fuel listed T (Γ1 ++ Γ2) F a w hd (by simpa using hp) hle (by simpa using hS) hT hds h
 | succ n ih =>
  intro A rest fuel listed T Γ1 F a w hn hf hd hp hpa hpr hug hle hS hT hds h
  cases fuel with
  | zero => omega
  | succ fuel =>
  refine ⟨fun hnil => ?_, fun i hi => ?_⟩
  ·exfalso
   cases hAR : A ++ rest with
   | nil => rw [List.append_eq_nil_iff] at hAR; rw [hAR.1, hAR.2] at hn; simp at hn
   | cons x xs =>
    rw [hAR] at hp
    obtain ⟨k, hk'⟩ := ready_exists hc hp
    rw [hnil] at hk'
    cases hk'
  ·obtain ⟨o, ho⟩ := hp.2.2 i (hp.ready hi)
   have un : ∀ {j : Nat}, j ∈ A ++ rest → anc tab i j = true → False := fun {j} hj ha => blocked hc hd i ho ha ((hp.2.1 j).2 hj) hi
   have free : ∀ {j : Nat} {x : Oper}, j ∈ A ++ rest → ops[j]? = some x → (anc tab i j = true ∨ apartAt ops j i = true) → x.apart ops o = true := by
    intro j x hj hx h
    rcases h with h | h
    ·exact (un hj h).elim
    ·simpa [apartAt, hx, ho] using h
   have hmem := hp.ready hi
   rw [List.mem_append] at hmem
   rcases hmem with hm | hm
   ·obtain ⟨A1, A2, rfl⟩ := List.append_of_mem hm
    rw [filterMap_split ho] at h
    have hap : ∀ x ∈ A1.filterMap (ops[·]?), x.apart ops o = true := by
     intro x hx
     obtain ⟨j, hj, hx⟩ := List.mem_filterMap.1 hx
     exact free (by simp [hj]) hx ((List.pairwise_append.1 hpa).2.2 j hj i (by simp))
    obtain ⟨v, h1, h2⟩ := SSeq_move _ T hap h
    have hS2 : Sim w0 F (Γ2 ++ (Γ1 ++ M)) w := hS.perm (by
     rw [← List.append_assoc, ← List.append_assoc]
     exact List.perm_append_comm.append_right M)
    have hs : List.Sublist (A1 ++ A2) (A1 ++ i :: A2) := List.Sublist.append (List.Sublist.refl _) (List.sublist_cons_self _ _)
    unfold wpOpIn
    simp only [ho]
    have key := SVal_sound hk (rd := rd) (nn := nn) (Q := Q') (next := fun a w => wpAnyIn (Fen rd) nn P .any ops Q' fuel (listed.setIfInBounds i true) a w) hS2 hT h1 (by
     intro F' u w' hle' hS' hx
     refine ih (A1 ++ A2) rest fuel _ (putT T o.dst v) Γ1 F' _ w' (by simp at hn ⊢; omega) (by omega) (hd.set hi) ?_ (hpa.sublist hs) (fun j hj => hpr j (hs.subset hj)) hug (Fz.le_trans hle hle') ?_ (put_rep (RepT.mono hle' _ _ hT) hx o.dst)
      ((put_defers a o.dst u).trans hds) ?_
     ·have := Pend.set (l1 := A1) (l2 := A2 ++ rest) (i := i) (by simpa using hp)
      rwa [List.append_assoc]
     ·exact hS'.perm (by
       rw [← List.append_assoc, ← List.append_assoc]
       exact List.perm_append_comm.append_right M)
     ·rw [List.filterMap_append]; exact h2)
    split at key <;> rename_i hw
    ·rw [if_pos hw]; exact key
    ·rw [if_neg hw]; exact ⟨fun _ _ => trivial, key⟩
   ·have hg : o.guard = none := hug i hm o ho
    have hok : okR tab rest i = true := by
     unfold okR
     rw [List.all_eq_true]
     intro j hj
     rw [Bool.or_eq_true, Bool.not_eq_true']
     by_cases e : j = i
     ·left; rw [e]; exact Nat.beq_refl i
     ·right
      rw [Bool.eq_false_iff]
      exact fun ha => un (List.mem_append_right _ hj) ha
    obtain ⟨R1, R2, hR⟩ := List.append_of_mem hm
    have hrl : rest.length = (R1 ++ R2).length + 1 := by rw [hR, List.length_append, List.length_append, List.length_cons]; omega
    have hnd : i ∉ R1 := by
     have h1 := hp.1
     rw [hR] at h1
     have h2 := (List.pairwise_append.1 (List.pairwise_append.1 h1).2.1).2.2
     exact fun hi1 => h2 i hi1 i (List.mem_cons_self ..) rfl
    have hdn : dropN i rest = R1 ++ R2 := by rw [hR]; exact dropN_split hnd
    have ho2 : ops.toList[i]? = some o := by rw [Array.getElem?_toList]; exact ho
    rw [hrl] at h
    have h := SSeq_imp (k' := fun T' => WOp P tt o.op T' Γ1 fun x Γ' => WTree P tt ops.toList tab (R1 ++ R2).length (R1 ++ R2) (putT T' o.dst x) Γ' fun T2 Γ1' => Tl T2 (Γ1' ++ Γ2)) (fun T' h => by
     rw [WTree] at h
     have := allQ_mem h i (keepR_mem hm hok)
     rw [ho2, hdn] at this
     exact this) _ _ h
    have hap : ∀ x ∈ A.filterMap (ops[·]?), x.apart ops o = true := by
     intro x hx
     obtain ⟨j, hj, hx⟩ := List.mem_filterMap.1 hx
     exact free (List.mem_append_left _ hj) hx (hpr j hj i hm)
    have h2 := SSeq_eff (kk := fun T' Γ1' => WTree P tt ops.toList tab (R1 ++ R2).length (R1 ++ R2) T' Γ1' fun T2 Γ1' => Tl T2 (Γ1' ++ Γ2)) _ T hap h
    unfold wpOpIn
    simp only [ho]
    rw [if_pos (by simp [Region.wanted, hg])]
    refine WOp_sound hk (M := Γ2 ++ M) hS hT h2 ?_
    rintro F' x Γ' v' w' hle' hS' hx hK
    have hs : ∀ j ∈ R1 ++ R2, j ∈ rest := fun j hj => by
     rw [hR]
     rcases List.mem_append.1 hj with hj | hj
     ·exact List.mem_append_left _ hj
     ·exact List.mem_append_right _ (List.mem_cons_of_mem _ hj)
    refine ih A (R1 ++ R2) fuel _ (putT T o.dst x) Γ' F' _ w' (by omega) (by omega) (hd.set hi) ?_ hpa (fun j hj k hk => hpr j hj k (hs k hk)) (fun k hk => hug k (hs k hk)) (Fz.le_trans hle hle') hS' (put_rep (RepT.mono hle' _ _ hT) hx o.dst)
     ((put_defers a o.dst v').trans hds) hK
    have := Pend.set (l1 := A ++ R1) (l2 := R2) (i := i) (by rw [hR] at hp; simpa using hp)
    simpa using this
def treeB (ops : Array Oper) (tab A rest : List Nat) : Bool :=
 tabChk ops tab && pairB (fun j i => anc tab i j || apartAt ops j i) A && A.all (fun j => rest.all fun i => anc tab i j || apartAt ops j i) && rest.all (fun i => match ops[i]? with | some o => o.guard.isNone | none => false) &&
 pairB (fun j i => !(Nat.beq j i)) (A ++ rest) && (List.range ops.size).all (fun i => (A ++ rest).contains i) && (A ++ rest).all (fun i => Nat.blt i ops.size)
theorem PDraw.tree (hk : TT.ok P tt) (hm : P.follows .mixedOrders = true) {ops : Array Oper} {T : List PV} {Γ Γ2 : List Ent} {K : List PV → List Ent → Prop} (tab A rest : List Nat) (Γ1 : List Ent) [hp : PickL Γ Γ1 Γ2]
  (h : SSeq P tt ops.toList (pickO ops.toList A) T Γ2 fun T' => WTree P tt ops.toList tab rest.length rest T' Γ1 fun T2 Γ1' => appE Γ1' Γ2 fun Γ' => K T2 Γ')
  (hchk : treeB ops tab A rest = true := by kernel_rfl) : PDraw P ops T Γ K := by
 refine ⟨fun rd nn id w0 F M w a Q' hS hT hQ => wpIn_region_any hm ?_⟩
 simp only [treeB, Bool.and_eq_true] at hchk
 obtain ⟨⟨⟨⟨⟨⟨hc, s1⟩, s2⟩, s3⟩, h7⟩, h8⟩, h9⟩ := hchk
 have hlt : ∀ i ∈ A ++ rest, i < ops.size := fun i hi => by
  have := List.all_eq_true.1 h9 i hi
  simpa [Nat.blt, Nat.succ_le_iff] using this
 have hpend : Pend ops (Array.replicate ops.size false) (A ++ rest) := by
  refine ⟨(pairB_iff h7).imp fun h => by
   intro e
   subst e
   simp at h, ?_, fun i hi => ⟨_, Array.getElem?_eq_getElem (hlt i hi)⟩⟩
  intro i
  constructor
  ·intro hi
   rcases Nat.lt_or_ge i ops.size with h' | h'
   ·have := List.all_eq_true.1 h8 i (List.mem_range.2 h')
    simpa only [List.contains_iff_mem] using this
   ·simp [Array.getElem?_eq_none, h'] at hi
  ·intro hi
   simp [hlt i hi]
 have hlen : A.length + rest.length ≤ ops.size := by
  have hsub : (A ++ rest) ⊆ List.range ops.size := fun i hi => List.mem_range.2 (hlt i hi)
  have := hpend.1.length_le_of_subset hsub
  simpa only [List.length_append, List.length_range] using this
 have hS' : Sim w0 F (Γ1 ++ (Γ2 ++ M)) { w with drawn := w.drawn + 1 } := by
  have := (hS.perm (hp.p.append_right M)).of_heap (w' := { w with drawn := w.drawn + 1 }) rfl rfl rfl rfl
  simpa using this
 refine gameT hk rd nn hc (F0 := F) (ds := a.defers) (Tl := K) ?_ _ A rest ops.size _ T Γ1 F a _ rfl hlen ?_ hpend ((pairB_iff s1).imp fun h => by simpa using h) (fun j hj i hi => ?_) (fun i hi o ho => ?_) (Fz.le_refl F) hS' hT rfl ?_
 ·intro fuel listed T2 Γ' F' a' w' hd hpd hle hS2 hT2 hds ht
  refine game hk rd nn hc (R2 := []) (F0 := F) (ds := a.defers) hQ _ [] [] fuel listed T2 [] F' a' w' rfl (Nat.zero_le _) hd (by simpa using hpd) ⟨List.Pairwise.nil, fun _ h => (by cases h), List.Pairwise.nil, List.Pairwise.nil, fun _ h => (by cases h), fun _ h => (by cases h), fun _ h => (by cases h)⟩ hle (Γ2 := Γ') (by simpa using hS2) hT2 hds ?_
  simp only [List.filterMap_nil, WOps, List.nil_append]
  exact ht
 ·intro k o hk'
  rcases Nat.lt_or_ge k ops.size with h' | h'
  ·simp [h'] at hk'
  ·intro ho
   have := (Array.getElem?_eq_some_iff.1 ho).1
   omega
 ·have := List.all_eq_true.1 (List.all_eq_true.1 s2 j hj) i hi
  simpa using this
 ·have := List.all_eq_true.1 s3 i hi
  rw [ho] at this
  simpa using this
 ·simpa only [pickO_eq, Array.getElem?_toList, appE_eq] using h
end
end Go.Cb
namespace Go.Cb
open Go.Proofs
set_option maxRecDepth 100000
set_option maxHeartbeats 4000000
theorem drMc06baa {p q : Prop} (k : q) (h : q → p := by intro hq; first | exact PDraw.sP (some 21) rfl [] [9,10,11] tt_ok mixed hq) : p := h k
theorem value_c (d : Datum) : d.sz ≤ 1000000000 → ACallP Tryz.prog 86 [.agg d.cells] (.agg (valV d).cells) := by
 induction d using Datum.ind with
 | h d ih =>
  intro hb
  have hz := d.sz_eq
  have hlen := Datum.szs_len d.l
  have ih' : ∀ x ∈ d.l, ACallP Tryz.prog 86 [.agg x.cells] (.agg (valV x).cells) := fun x hx => ih x hx (by have := Datum.szs_mem hx; omega)
  refine ACall.of_body tt_ok Tryz.func86 rfl rfl (n := 33) rfl rfl ?_
  conv => whnf
  repeat (first|refine aR2 ?_|((intro _);conv=>whnf))
  rename_i b1 b2 b3
  refine PLoop.gh (Ghost.trans (Ghost.nil 7 140 _) (Ghost.box (b := b3) (cs := [.int .i64 d.kind, .int .i64 d.n, .int .i64 d.d, .str d.s, .nil, .np, .np]) (cs' := [.int .i64 d.kind, .int .i64 d.n, .int .i64 d.d, .str d.s, .sl 7 (([] : List Vl).map Vl.pv) (some (nilTok 7 140)), .np, .np]) wA)) ?_
  refine PLoop.over [4, 14, 15, 16, 17, 18, 19, 20, 21, 22, 23, 24, 25, 26, 27, 28, 29, 30, 31] (fun (x : Nat × List Vl × Tok) => [(4, .int .i64 x.1)])
   (fun (x : Nat × List Vl × Tok) => [.box b3 [.int .i64 d.kind, .int .i64 d.n, .int .i64 d.d, .str d.s, .sl 7 (x.2.1.map Vl.pv) (some x.2.2), .np, .np], .tok x.2.2, .box b2 [.int .i64 0, .int .i64 0, .int .i64 0, .str [], .nil, .np, .np], .box b1 (datC d)])
   (fun x => x.1 ≤ d.l.length ∧ x.2.2.e = 140 ∧ x.2.1 = (d.l.map valV).take x.1) (fun x => d.l.length - x.1) (0, [], nilTok 7 140) ⟨Nat.zero_le _, rfl, rfl⟩ wA ?_
  rintro ⟨i, m, tk⟩ ⟨hi, htk, hm⟩
  dsimp only at hi htk hm ⊢
  have hml : m.length ≤ 1000000000 := by rw [hm, List.length_take]; simp; omega
  conv => whnf
  repeat' (first|refine aA2 ?_|((first|((apply zZ);(conv=>whnf);(repeat ((refine pC (ih' _ (List.getElem_mem _)) wR ?_);conv=>whnf));exact pZ)|refine drMc06baa ?_|intro _);conv=>whnf)|(refine zX (fun hc=>?_) (fun hc=>?_)<;>(try simp only [SY] at hc)<;>(conv=>whnf)))
  ·rename_i tb htb
   exact loopTo (i + 1, m ++ [valV d.l[i]], tb) ⟨by show i + 1 ≤ _; omega, htb, by show m ++ [valV d.l[i]] = (d.l.map valV).take (i + 1); rw [List.take_succ_eq_append_getElem (by simp; omega), ← hm]; simp⟩ (by show d.l.length - (i + 1) < d.l.length - i; omega) wA
  ·rw [List.take_of_length_le (by simp; omega)] at hm
   subst hm
   rw [valV_eq]
   exact PRet.pure ValOf.wk
theorem bind_c (e : EnvM) (v : Int) (x : Vl) (r : Bool) : ACall Tryz.prog 139 [envPV e, .int .i64 v, .agg x.cells, .bool r] [] (fun y Γ' => ∃ a, y = envPV ((v, a) :: e) ∧ Γ' = [.box a (celC x r)]) := by
 rcases e with _ | ⟨⟨w, c⟩, e⟩
 all_goals
  refine ACall.of_body tt_ok Tryz.func139 rfl rfl (n := 17) rfl rfl ?_
  conv => whnf
  repeat' (first|refine aA2 ?_|((intro _);conv=>whnf)|(refine zX (fun hc=>?_) (fun hc=>?_)<;>(try simp only [SY] at hc)<;>omega))
  rename_i b1 b2 b3
  exact PRet.freeze (b := b3) (Γ' := [.box b2 (celC x r)]) (Wk.refl _) ⟨b2, rfl, rfl⟩
theorem place_c (e : EnvM) (v : Int) (a : Nat) (h : fndM e v = some a) : ACallP Tryz.prog 111 [envPV e, .int .i64 v] (.ptr a 0) := by
 refine ACall.of_body tt_ok Tryz.func111 rfl rfl (n := 28) rfl rfl ?_
 conv => whnf
 skip
 refine PLoop.keep [0, 5, 6, 7, 8, 9, 10, 11, 12, 13, 14, 15, 16, 17, 18] (fun x : EnvM => [(0, envPV x)]) (fun x => fndM x v = some a) (fun x => x.length) e h wA ?_
 intro x hx
 rcases x with _ | ⟨⟨w, c⟩, x⟩
 ·cases hx
 rw [fndM] at hx
 conv => whnf
 repeat' (first|refine aA2 ?_|(refine zX (fun hc=>?_) (fun hc=>?_)<;>(try simp only [SY] at hc)<;>(conv=>whnf)))
 ·rw [if_neg hc] at hx
  exact loopTo x hx (by show x.length < x.length + 1; omega) wA
 ·rw [if_pos hc] at hx
  obtain rfl := Option.some.inj hx
  exact PRet.pure (Wk.refl _)
theorem pairV_wk {a b : Vl} : WkL [.int .i64 6, .int .i64 0, .int .i64 0, .str [], .sl 7 [.agg a.cells, .agg b.cells] none, .np, .np] (Vl.mk 6 0 0 [] [a, b] none none).cells :=
 .cons (Wk.refl _) (.cons (Wk.refl _) (.cons (Wk.refl _) (.cons (Wk.refl _) (.cons (SlOf.wk (f := Vl.pv) (l := [a, b])) (.cons (Wk.refl _) (.cons (Wk.refl _) .nil))))))
theorem kndV_wk {k : Int} : WkL [.int .i64 k, .int .i64 0, .int .i64 0, .str [], .nil, .np, .np] (kndV k).cells := .cons (Wk.refl _) (.cons (Wk.refl _) (.cons (Wk.refl _) (.cons (Wk.refl _) (.cons (Wk.nil' rfl) (.cons (Wk.refl _) (.cons (Wk.refl _) .nil))))))
theorem drMc06bab {p q : Prop} (k : q) (h : q → p := by intro hq; first | exact PDraw.sP (some 13) rfl [] [7] tt_ok mixed hq) : p := h k
theorem list6_c (l : List Vl) : ACallP Tryz.prog 176 [.sl 7 (l.map Vl.pv) none] (.agg (lstV l).cells) := by
 refine ACall.of_body tt_ok Tryz.func176 rfl rfl (n := 21) rfl rfl ?_
 conv => whnf
 repeat' (first|refine aA2 ?_|((intro _);conv=>whnf)|(refine zX (fun hc=>?_) (fun hc=>?_)<;>(try simp only [SY] at hc)<;>omega))
 rename_i b2 b3 hl
 refine PLoop.gh (Ghost.box (b := b3) (cs := [.int .i64 4, .int .i64 0, .int .i64 0, .str [], .nil, .np, .np]) (cs' := valC (kndV 4)) kndV_wk) ?_
 refine PLoop.over [4, 9, 10, 11, 12, 13, 14, 15, 16, 17, 18, 19] (fun x : Nat × Vl => [(4, .int .i64 ((x.1 : Int) - 1))]) (fun x : Nat × Vl => [.box b2 [.int .i64 0, .int .i64 0, .int .i64 0, .str [], .nil, .np, .np], .box b3 (valC x.2)]) (fun x => x.1 ≤ l.length ∧ x.2 = lstV (l.drop x.1)) (fun x => x.1) (l.length, kndV 4) ⟨Nat.le_refl _, by rw [List.drop_of_length_le (Nat.le_refl _)]; rfl⟩ wA ?_
 rintro ⟨i, D⟩ ⟨hi, hD⟩
 dsimp only at hi hD ⊢
 conv => whnf
 repeat' (first|refine aA2 ?_|((first|refine normN nC ?_|refine normN nD ?_|refine drMc06bab ?_);conv=>whnf)|(refine zX (fun hc=>?_) (fun hc=>?_)<;>(try simp only [SY] at hc)<;>(conv=>whnf)))
 ·have h1 : i - 1 < l.length := by omega
  have e : l.drop (i - 1) = l[i - 1] :: l.drop i := by rw [drop_at h1, show i - 1 + 1 = i by omega]
  refine LoopTo.gh (i - 1, .mk 6 0 0 [] [l[i - 1], D] none none) ⟨by show i - 1 ≤ _; omega, by show _ = lstV (l.drop (i - 1)); rw [e, hD]; rfl⟩ (by show i - 1 < i; omega) wA ?_
  refine Ghost.trans (Ghost.box (b := b3) (cs := [.int .i64 6, .int .i64 0, .int .i64 0, .str [], .sl 7 [.agg (valC l[i - 1]), .agg (valC D)] none, .np, .np]) (cs' := valC (Vl.mk 6 0 0 [] [l[i - 1], D] none none)) pairV_wk) ?_
  exact Ghost.pick
 ·have e : D = lstV l := by rw [hD, show i = 0 by omega]; rfl
  rw [← e]
  exact PRet.pure (Wk.refl _)
end Go.Cb
namespace Go.Cb
open Go.Proofs
set_option maxRecDepth 100000
set_option maxHeartbeats 4000000
def digT : Nat → Nat → List UInt8
 | 0, _ => []
 | f + 1, n => if n < 10 then [(48 + n).toUInt8] else digT f (n / 10) ++ [(48 + n % 10).toUInt8]
def numT (n d : Int) : List UInt8 := if numRight n d = false then [] else (if n < 0 then [45] else []) ++ digT 10 n.natAbs ++ (if d = 1 then [] else 47 :: digT 10 d.natAbs)
theorem digT_len : ∀ (f n : Nat), (digT f n).length ≤ f
 | 0, _ => Nat.le_refl _
 | f + 1, n => by
  rw [digT]
  split
  ·simp
  ·have := digT_len f (n / 10); simp; omega
theorem numT_len (n d : Int) : (numT n d).length ≤ 22 := by
 have h1 := digT_len 10 n.natAbs
 have h2 := digT_len 10 d.natAbs
 unfold numT
 split
 ·simp
 ·simp only [List.length_append]
  split <;> split <;> simp <;> omega
abbrev prcT : List UInt8 := [35, 60, 112, 114, 111, 99, 101, 100, 117, 114, 101, 62]
mutual
def wV (tail : Bool) : Vl → List UInt8 → List UInt8
 | .mk k n d s l _ _, out =>
  let core := fun (out : List UInt8) =>
   if 1000 ≤ out.length then out else
   if k = 0 then out ++ numT n d else
   if k = 1 then out ++ (if bitsOf .and .i64 n 1 = 0 then [35, 102] else [35, 116]) else
   if k = 2 then out ++ s else
   if k = 3 then out ++ [34] ++ s ++ [34] else
   if k = 4 then out ++ [40, 41] else
   if k = 5 then out ++ [35, 118] else
   if k = 11 then out ++ [35, 60, 98, 111, 120, 62] else
   if k = 12 then out ++ [35, 60, 117, 110, 115, 101, 116, 62] else
   if k = 8 ∨ k = 9 ∨ k = 10 then out ++ prcT else
   if k = 7 then wL true l (out ++ [35, 40]) ++ [41] else wP l (out ++ [40])
  if tail = false then core out else
  if k = 6 ∧ out.length < 1000 then wP l (out ++ [32]) else
  if k = 4 then out ++ [41] else core (out ++ [32, 46, 32]) ++ [41]
def wL (first : Bool) : List Vl → List UInt8 → List UInt8
 | [], out => out
 | x :: xs, out => if 1000 ≤ out.length then out else wL false xs (wV false x (if first = true then out else out ++ [32]))
def wP : List Vl → List UInt8 → List UInt8
 | [a, b], out => wV true b (wV false a out)
 | _, out => out
end
def coreT (x : Vl) (out : List UInt8) : List UInt8 :=
 if 1000 ≤ out.length then out else
 if x.k = 0 then out ++ numT x.n x.d else
 if x.k = 1 then out ++ (if bitsOf .and .i64 x.n 1 = 0 then [35, 102] else [35, 116]) else
 if x.k = 2 then out ++ x.s else
 if x.k = 3 then out ++ [34] ++ x.s ++ [34] else
 if x.k = 4 then out ++ [40, 41] else
 if x.k = 5 then out ++ [35, 118] else
 if x.k = 11 then out ++ [35, 60, 98, 111, 120, 62] else
 if x.k = 12 then out ++ [35, 60, 117, 110, 115, 101, 116, 62] else
 if x.k = 8 ∨ x.k = 9 ∨ x.k = 10 then out ++ prcT else
 if x.k = 7 then wL true x.l (out ++ [35, 40]) ++ [41] else wP x.l (out ++ [40])
theorem wV_false (x : Vl) (out : List UInt8) : wV false x out = coreT x out := by cases x; rw [wV]; rfl
theorem wV_true (x : Vl) (out : List UInt8) : wV true x out = if x.k = 6 ∧ out.length < 1000 then wP x.l (out ++ [32]) else if x.k = 4 then out ++ [41] else coreT x (out ++ [32, 46, 32]) ++ [41] := by cases x; rw [wV]; rfl
def txtV (x : Vl) : List UInt8 := (wV false x []).take 1000
mutual
def Vl.tx : Vl → Bool
 | .mk k _ _ s l _ _ => decide (0 ≤ k ∧ k ≤ 12) && (k != 6 || l.length == 2) && decide (s.length ≤ 1000000000) && Vl.txs l
def Vl.txs : List Vl → Bool
 | [] => true
 | x :: xs => Vl.tx x && Vl.txs xs
end
theorem Vl.txs_iff : ∀ {l : List Vl}, Vl.txs l = true ↔ ∀ x ∈ l, x.tx = true
 | [] => by simp [Vl.txs]
 | x :: l => by rw [Vl.txs, Bool.and_eq_true, Vl.txs_iff]; simp
theorem Vl.tx_eq (x : Vl) : x.tx = true ↔ (0 ≤ x.k ∧ x.k ≤ 12) ∧ (x.k = 6 → x.l.length = 2) ∧ x.s.length ≤ 1000000000 ∧ ∀ y ∈ x.l, y.tx = true := by
 cases x with
 | mk k n d s l p c =>
  rw [Vl.tx]
  simp only [Bool.and_eq_true, decide_eq_true_eq, Bool.or_eq_true, bne_iff_ne, ne_eq, beq_iff_eq, Vl.txs_iff]
  show _ ↔ (0 ≤ k ∧ k ≤ 12) ∧ (k = 6 → l.length = 2) ∧ s.length ≤ 1000000000 ∧ ∀ y ∈ l, y.tx = true
  constructor
  ·rintro ⟨⟨⟨h1, h2⟩, h3⟩, h4⟩
   exact ⟨h1, fun h => h2.resolve_left fun h' => h' h, h3, h4⟩
  ·rintro ⟨h1, h2, h3, h4⟩
   refine ⟨⟨⟨h1, ?_⟩, h3⟩, h4⟩
   by_cases h : k = 6
   ·exact .inr (h2 h)
   ·exact .inl h
def lenB (L : Nat) : Nat := if 1000 ≤ L then L else 1000002000 + 8 * (1000 - L)
def LenOk (x : Vl) : Prop := ∀ out : List UInt8, (out.length ≤ (wV false x out).length ∧ out.length ≤ (wV true x out).length) ∧
 (out.length < 1000 → (wV false x out).length ≤ lenB out.length ∧ (wV true x out).length ≤ lenB out.length) ∧
 (1000 ≤ out.length → wV false x out = out ∧ (wV true x out).length ≤ out.length + 4)
theorem lenB_mono {L M : Nat} (h : L ≤ M) (hM : M < 1000) : lenB M ≤ lenB L := by unfold lenB; rw [if_neg (by omega), if_neg (by omega)]; omega
theorem coreT_big {x : Vl} {out : List UInt8} (h : 1000 ≤ out.length) : coreT x out = out := by rw [coreT, if_pos h]
theorem wL_len : ∀ (l : List Vl) (first : Bool) (out : List UInt8), (∀ x ∈ l, LenOk x) → out.length ≤ (wL first l out).length ∧ (out.length < 1000 → (wL first l out).length ≤ lenB out.length) ∧ (1000 ≤ out.length → wL first l out = out)
 | [], first, out, _ => by
  rw [wL]
  exact ⟨Nat.le_refl _, fun h => by unfold lenB; rw [if_neg (by omega)]; omega, fun _ => rfl⟩
 | x :: xs, first, out, h => by
  rw [wL]
  by_cases hb : 1000 ≤ out.length
  ·rw [if_pos hb]
   exact ⟨Nat.le_refl _, fun h => by omega, fun _ => rfl⟩
  ·rw [if_neg hb]
   obtain ⟨O, hO⟩ : ∃ O, O = (if first = true then out else out ++ [32]) := ⟨_, rfl⟩
   rw [← hO]
   have hl : out.length ≤ O.length ∧ O.length ≤ out.length + 1 := by rw [hO]; split <;> simp
   have h1 := h x (by simp) O
   have h2 := wL_len xs false (wV false x O) fun y hy => h y (List.mem_cons_of_mem _ hy)
   have e0 : lenB out.length = 1000002000 + 8 * (1000 - out.length) := by unfold lenB; rw [if_neg hb]
   refine ⟨by omega, fun _ => ?_, fun h => by omega⟩
   by_cases hO2 : O.length < 1000
   ·have h3 := (h1.2.1 hO2).1
    have h4 := lenB_mono hl.1 hO2
    by_cases hw : (wV false x O).length < 1000
    ·have h5 := h2.2.1 hw
     have h6 := lenB_mono h1.1.1 hw
     omega
    ·rw [h2.2.2 (by omega)]; omega
   ·rw [(h1.2.2 (by omega)).1] at h2 ⊢
    rw [h2.2.2 (by omega)]; omega
theorem wP_other : ∀ (l : List Vl) (out : List UInt8), ¬l.length = 2 → wP l out = out
 | [], _, _ => by rw [wP]; intro a b h; cases h
 | [_], _, _ => by rw [wP]; intro a b h; cases h
 | [_, _], _, h => absurd rfl h
 | _ :: _ :: _ :: _, _, _ => by rw [wP]; intro a b h; cases h
theorem wP_len (l : List Vl) (out : List UInt8) (h : ∀ x ∈ l, LenOk x) : out.length ≤ (wP l out).length ∧ (out.length < 1000 → (wP l out).length ≤ lenB out.length + 4) ∧ (1000 ≤ out.length → (wP l out).length ≤ out.length + 4) := by
 have k : ∀ o : List UInt8, o.length ≤ o.length ∧ (o.length < 1000 → o.length ≤ lenB o.length + 4) ∧ (1000 ≤ o.length → o.length ≤ o.length + 4) := fun o => ⟨Nat.le_refl _, fun h => by unfold lenB; rw [if_neg (by omega)]; omega, fun _ => by omega⟩
 by_cases h2 : l.length = 2
 ·obtain ⟨a, b, rfl⟩ : ∃ a b, l = [a, b] := by
   rcases l with _ | ⟨a, _ | ⟨b, _ | ⟨c, l⟩⟩⟩
   ·simp at h2
   ·simp at h2
   ·exact ⟨a, b, rfl⟩
   ·simp at h2
  rw [wP]
  have h1 := h a (by simp) out
  have h2 := h b (by simp) (wV false a out)
  refine ⟨by omega, fun hb => ?_, fun hb => ?_⟩
  ·have h3 := (h1.2.1 hb).1
   by_cases hw : (wV false a out).length < 1000
   ·have h5 := (h2.2.1 hw).2
    have h6 := lenB_mono h1.1.1 hw
    omega
   ·have h5 := (h2.2.2 (by omega)).2
    omega
  ·rw [(h1.2.2 hb).1] at h2 ⊢
   exact (h2.2.2 hb).2
 ·rw [wP_other l out h2]
  exact k out
theorem lenOk (x : Vl) : x.tx = true → LenOk x := by
 induction x using Vl.ind with
 | h x ih =>
  intro ht
  rw [Vl.tx_eq] at ht
  have ih' : ∀ y ∈ x.l, LenOk y := fun y hy => ih y hy (ht.2.2.2 y hy)
  have hs := ht.2.2.1
  have core : ∀ out : List UInt8, out.length ≤ (coreT x out).length ∧ (out.length < 1000 → (coreT x out).length ≤ lenB out.length) := fun out => by
   by_cases hb : 1000 ≤ out.length
   ·rw [coreT_big hb]; exact ⟨Nat.le_refl _, fun h => by omega⟩
   have e0 : lenB out.length = 1000002000 + 8 * (1000 - out.length) := by unfold lenB; rw [if_neg hb]
   have hn := numT_len x.n x.d
   rw [coreT, if_neg hb]
   split
   ·simp only [List.length_append]; omega
   split
   ·split <;> simp <;> omega
   split
   ·simp only [List.length_append]; omega
   split
   ·simp only [List.length_append, List.length_cons, List.length_nil]; omega
   split
   ·simp; omega
   split
   ·simp; omega
   split
   ·simp; omega
   split
   ·simp; omega
   split
   ·unfold prcT; simp; omega
   split
   ·have h1 := wL_len x.l true (out ++ [35, 40]) ih'
    simp only [List.length_append, List.length_cons, List.length_nil] at h1 ⊢
    refine ⟨by omega, fun _ => ?_⟩
    by_cases h2 : out.length + 2 < 1000
    ·have h3 := h1.2.1 (by omega)
     have e1 : lenB (out.length + 2) = 1000002000 + 8 * (1000 - (out.length + 2)) := by unfold lenB; rw [if_neg (by omega)]
     simp only [Nat.zero_add, Nat.reduceAdd] at h3 ⊢
     omega
    ·rw [h1.2.2 (by omega)]; simp; omega
   ·have h1 := wP_len x.l (out ++ [40]) ih'
    simp only [List.length_append, List.length_cons, List.length_nil] at h1 ⊢
    refine ⟨by omega, fun _ => ?_⟩
    by_cases h2 : out.length + 1 < 1000
    ·have h3 := h1.2.1 (by omega)
     have e1 : lenB (out.length + 1) = 1000002000 + 8 * (1000 - (out.length + 1)) := by unfold lenB; rw [if_neg (by omega)]
     simp only [Nat.zero_add] at h3
     omega
    ·have h3 := h1.2.2 (by omega)
     omega
  intro out
  rw [wV_false, wV_true]
  have c0 := core out
  have c3 := core (out ++ [32, 46, 32])
  have p1 := wP_len x.l (out ++ [32]) ih'
  simp only [List.length_append, List.length_cons, List.length_nil, Nat.zero_add, Nat.reduceAdd] at c3 p1
  refine ⟨⟨c0.1, ?_⟩, fun hb => ⟨c0.2 hb, ?_⟩, fun hb => ⟨coreT_big hb, ?_⟩⟩
  ·split
   ·omega
   split
   ·simp
   ·simp; omega
  ·have e0 : lenB out.length = 1000002000 + 8 * (1000 - out.length) := by unfold lenB; rw [if_neg (by omega)]
   split
   ·by_cases h2 : out.length + 1 < 1000
    ·have h3 := p1.2.1 h2
     have e1 : lenB (out.length + 1) = 1000002000 + 8 * (1000 - (out.length + 1)) := by unfold lenB; rw [if_neg (by omega)]
     omega
    ·have h3 := p1.2.2 (by omega)
     omega
   split
   ·simp; omega
   ·rw [List.length_append]
    show _ + 1 ≤ _
    by_cases h2 : out.length + 3 < 1000
    ·have h3 := c3.2 h2
     have e1 : lenB (out.length + 3) = 1000002000 + 8 * (1000 - (out.length + 3)) := by unfold lenB; rw [if_neg (by omega)]
     omega
    ·rw [coreT_big (by simp; omega)]
     simp; omega
  ·rw [if_neg (by omega)]
   split
   ·simp
   ·rw [coreT_big (by simp; omega)]
    simp
mutual
def Vl.sz : Vl → Nat
 | .mk _ _ _ _ l _ _ => 1 + Vl.szs l
def Vl.szs : List Vl → Nat
 | [] => 0
 | x :: xs => Vl.sz x + Vl.szs xs
end
theorem Vl.szs_mem : ∀ {l : List Vl} {x : Vl}, x ∈ l → x.sz ≤ Vl.szs l
 | y :: l, x, h => by
  rw [Vl.szs]
  rcases List.mem_cons.1 h with h | h
  ·subst h; omega
  ·have := Vl.szs_mem h; omega
theorem Vl.sz_mem {x y : Vl} (h : y ∈ x.l) : y.sz < x.sz := by
 cases x with
 | mk k n d s l p c => rw [Vl.sz]; have := Vl.szs_mem (l := l) h; omega
theorem two_v {l : List Vl} (h : l.length = 2) : l = [l[0]'(by omega), l[1]'(by omega)] := by
 rcases l with _ | ⟨a, _ | ⟨b, _ | ⟨c, l⟩⟩⟩
 ·simp at h
 ·simp at h
 ·rfl
 ·simp at h
theorem wP_two {l : List Vl} (h : l.length = 2) (out : List UInt8) : wP l out = wV true (l[1]'(by omega)) (wV false (l[0]'(by omega)) out) := by
 conv => lhs; rw [two_v h]
 rw [wP]
end Go.Cb
namespace Go.Cb
open Go.Proofs
set_option maxRecDepth 100000
set_option maxHeartbeats 4000000
theorem zIL {p K : Prop} (k : K) (h : p := by unfold maxLen; first | omega | (simp only [List.length_append, List.length_cons, List.length_nil]; omega)) : PSide p K := ⟨h, k⟩
theorem digits_c (n : Nat) (h : n < 10000000000) : ACallP Tryz.prog 162 [.int .i64 n] (.str (digT 10 n)) := by
 have hbyte : ∀ k : Nat, k < 10 → ((48 + k).toUInt8.toNat : Int) = 48 + (k : Int) := fun k hk => by
  have : (48 + k).toUInt8.toNat = 48 + k := by
   show (48 + k) % 256 = 48 + k
   omega
  omega
 refine ACall.of_body tt_ok Tryz.func162 rfl rfl (n := 23) rfl rfl ?_
 conv => whnf
 skip
 refine PLoop.keep [0, 3, 4, 5, 6, 7, 8, 9, 10, 11, 12, 13, 14, 15] (fun x : Nat × Nat × List UInt8 => [(0, .int .i64 x.2.1), (3, .str x.2.2)]) (fun x => 1 ≤ x.1 ∧ x.2.1 < 10 ^ x.1 ∧ x.2.2.length + x.1 = 10 ∧ digT x.1 x.2.1 ++ x.2.2 = digT 10 n) (fun x => x.2.1) (10, n, []) ⟨by show 1 ≤ 10; omega, by dsimp only; omega, rfl, by simp⟩ wA ?_
 rintro ⟨f, k, ds⟩ ⟨hf1, hk, hf, he⟩
 dsimp only at hf1 hk hf he ⊢
 have hk9 : k < 10 ^ 10 := Nat.lt_of_lt_of_le hk (Nat.pow_le_pow_right (by decide) (by omega))
 obtain ⟨f, rfl⟩ : ∃ f', f = f' + 1 := ⟨f - 1, by omega⟩
 have ht : (k : Int).tmod 10 = ((k % 10 : Nat) : Int) := (Int.ofNat_tmod ..).symm
 have hq : (k : Int).tdiv 10 = ((k / 10 : Nat) : Int) := (Int.ofNat_tdiv ..).symm
 conv => whnf
 repeat' (first|refine aA2 ?_|((intro _);conv=>whnf)|(refine zX (fun hc=>?_) (fun hc=>?_)<;>(try simp only [SY] at hc)<;>(conv=>whnf)))
 ·have hb := hbyte (k % 10) (Nat.mod_lt _ (by decide))
  refine ⟨⟨[(48 + k % 10).toUInt8], by rw [ht, ← hb]; rfl, ?_⟩⟩
  conv => whnf
  repeat' (first|refine aA2 ?_|((refine zIL ?_);conv=>whnf)|(refine zX (fun hc=>?_) (fun hc=>?_)<;>(try simp only [SY] at hc)<;>omega))
  rw [digT, if_neg (by omega), List.append_assoc] at he
  exact loopTo (f, k / 10, (48 + k % 10).toUInt8 :: ds) ⟨Nat.pos_of_ne_zero (fun h0 => by have h0' : f = 0 := h0; rw [h0'] at hk; simp at hk; omega), by show k / 10 < 10 ^ f; rw [Nat.pow_succ] at hk; omega, by show ds.length + 1 + f = 10; omega, he⟩ (by show k / 10 < k; omega) wA
 ·have hb := hbyte k (by omega)
  refine ⟨⟨[(48 + k).toUInt8], by rw [← hb]; rfl, ?_⟩⟩
  conv => whnf
  repeat' (first|((refine zIL ?_);conv=>whnf)|(refine zX (fun hc=>?_) (fun hc=>?_)<;>(try simp only [SY] at hc)<;>omega))
  rw [digT, if_pos (by omega)] at he
  rw [← he]
  exact PRet.pure (Wk.refl _)
theorem text1_c (n d : Int) : ACallP Tryz.prog 142 [.int .i64 n, .int .i64 d] (.str (numT n d)) := by
 have hr := right1_c n d
 have hN : numT n d = numT n d := rfl
 conv at hN => rhs; unfold numT
 cases hb : numRight n d with
 | false =>
  rw [hb] at hr hN
  rw [hN]
  refine ACall.of_body tt_ok Tryz.func142 rfl rfl (n := 26) rfl rfl ?_
  conv => whnf
  repeat' (first|((refine pC (hr) wR ?_);conv=>whnf)|(refine zX (fun hc=>?_) (fun hc=>?_)<;>(try simp only [SY] at hc)<;>(conv=>whnf)))
  exact PRet.pure (Wk.refl _)
 | true =>
  rw [hb] at hr hN
  unfold numRight at hb
  simp only [Bool.and_eq_true, decide_eq_true_eq] at hb
  have l1 := digT_len 10 n.natAbs
  have l2 := digT_len 10 d.natAbs
  have d1 := digits_c n.natAbs (by omega)
  have d2 := digits_c d.natAbs (by omega)
  rw [show ((d.natAbs : Nat) : Int) = d by omega] at d2
  refine ACall.of_body tt_ok Tryz.func142 rfl rfl (n := 26) rfl rfl ?_
  conv => whnf
  repeat' (first|refine aA2 ?_|((first|refine zIL ?_|refine pC (hr) wR ?_|refine pC (size_c _ OA OA) wR ?_|refine pC (d1) wR ?_|refine pC (d2) wR ?_);conv=>whnf)|(refine zX (fun hc=>?_) (fun hc=>?_)<;>(try simp only [SY] at hc)<;>(conv=>whnf)))
  all_goals
   rename_i kn
   refine PRet.pure (Wk.str ?_)
   rw [hN, if_neg (by simp)]
   first | rw [if_pos kn] | rw [if_neg (Int.not_lt.2 kn)]
   first | rw [if_pos hc] | rw [if_neg hc]
   simp
theorem bit_one (a : Int) : bitsOf .and .i64 a 1 = 0 ∨ bitsOf .and .i64 a 1 = 1 := by
 have e : ∀ v : Nat, v ≤ 1 → IntKind.wrap .i64 (v : Int) = v := fun v hv => by
  simp [IntKind.wrap, IntKind.bits, IntKind.signed]; omega
 have h : (BitVec.ofInt IntKind.i64.bits a &&& BitVec.ofInt IntKind.i64.bits 1).toNat ≤ 1 := by
  rw [BitVec.toNat_and]
  exact Nat.le_trans Nat.and_le_right (by decide)
 unfold bitsOf
 simp only
 rw [e _ h]
 omega
abbrev outE (b : Nat) (s : List UInt8) : Ent := .box b [.str s]
def WrOk (x : Vl) : Prop := ∀ (b : Nat) (out : List UInt8), out.length ≤ 2000000000 → ACall Tryz.prog 116 [.agg x.cells, .ptr b 0] [outE b out] (fun _ Γ' => Γ' = [outE b (wV false x out)])
theorem drMc06xaa {p q : Prop} (k : q) (h : q → p := by intro hq; first | exact PDraw.sP (some 75) rfl [] [11] tt_ok mixed hq | exact PDraw.sP (some 88) rfl [] [12] tt_ok mixed hq | exact PDraw.sP (some 102) rfl [] [8] tt_ok mixed hq | exact PDraw.sP (some 112) rfl [] [10] tt_ok mixed hq) : p := h k
theorem write_n (n : Nat) : ∀ x : Vl, x.sz ≤ n → x.tx = true → WrOk x := by
 induction n with
 | zero => intro x hz; cases x; rw [Vl.sz] at hz; omega
 | succ n ihn =>
  intro x hz ht b out hl
  have ih : ∀ y : Vl, y.sz < x.sz → y.tx = true → WrOk y := fun y h => ihn y (by omega)
  have hlen := lenOk x ht
  rw [Vl.tx_eq] at ht
  obtain ⟨hk, h2, hs, hy⟩ := ht
  have ih' : ∀ y ∈ x.l, WrOk y := fun y hm => ih y (Vl.sz_mem hm) (hy y hm)
  rw [wV_false]
  have hn := numT_len x.n x.d
  have hC : coreT x out = coreT x out := rfl
  conv at hC => rhs; unfold coreT
  have hA1 : out.length + (numT x.n x.d).length ≤ maxLen := by unfold maxLen; omega
  have hA2 : out.length + x.s.length ≤ maxLen := by unfold maxLen; omega
  have hA3 : out.length + 1 ≤ maxLen := by unfold maxLen; omega
  have hA4 : out.length + 1 + x.s.length ≤ maxLen := by unfold maxLen; omega
  have hA5 : out.length + (x.s.length + 1) + 1 ≤ maxLen := by unfold maxLen; omega
  have hA6 : out.length + 2 ≤ maxLen := by unfold maxLen; omega
  have hbt := bit_one x.n
  refine ACall.of_body tt_ok Tryz.func116 rfl rfl (n := 207) rfl rfl ?_
  conv => whnf
  repeat' (first|refine aA2 ?_|((first|((apply zZ);(conv=>whnf);(repeat ((refine pC (text1_c x.n x.d) wR ?_);conv=>whnf));exact pZ)|refine zIL ?_|refine drMc06xaa ?_|intro _);conv=>whnf)|(refine zX (fun hc=>?_) (fun hc=>?_)<;>(try simp only [SY] at hc)<;>first|omega|(conv=>whnf)))
  ·rw [hC, if_pos (by omega)]
   exact PRet.gen (y := .tup []) (Γ' := [outE b out]) (Wk.refl _) rfl
  ·rw [hC, if_neg (by omega), if_pos hc]
   exact PRet.gen (y := .tup []) (Γ' := [outE b _]) (Wk.refl _) rfl
  ·rw [hC, if_neg (by omega), if_neg (by omega), if_pos hc]
   rcases hbt with h | h
   ·rw [h, if_pos rfl]
    conv => whnf
    repeat' (first|refine aA2 ?_|(refine zX (fun hc=>?_) (fun hc=>?_)<;>(try simp only [SY] at hc)<;>omega))
    exact PRet.gen (y := .tup []) (Γ' := [outE b _]) (Wk.refl _) rfl
   ·rw [h, if_neg (by decide)]
    conv => whnf
    repeat' (first|refine aA2 ?_|(refine zX (fun hc=>?_) (fun hc=>?_)<;>(try simp only [SY] at hc)<;>omega))
    exact PRet.gen (y := .tup []) (Γ' := [outE b _]) (Wk.refl _) rfl
  ·rw [hC, if_neg (by omega), if_neg (by omega), if_neg (by omega), if_pos hc]
   exact PRet.gen (y := .tup []) (Γ' := [outE b _]) (Wk.refl _) rfl
  ·rw [hC, if_neg (by omega), if_neg (by omega), if_neg (by omega), if_neg (by omega), if_pos hc]
   exact PRet.gen (y := .tup []) (Γ' := [outE b _]) (Wk.refl _) rfl
  ·rw [hC, if_neg (by omega), if_neg (by omega), if_neg (by omega), if_neg (by omega), if_neg (by omega), if_pos hc]
   exact PRet.gen (y := .tup []) (Γ' := [outE b _]) (Wk.refl _) rfl
  ·rw [hC, if_neg (by omega), if_neg (by omega), if_neg (by omega), if_neg (by omega), if_neg (by omega), if_neg (by omega), if_pos hc]
   exact PRet.gen (y := .tup []) (Γ' := [outE b _]) (Wk.refl _) rfl
  ·rw [hC, if_neg (by omega), if_neg (by omega), if_neg (by omega), if_neg (by omega), if_neg (by omega), if_neg (by omega), if_neg (by omega), if_pos hc]
   exact PRet.gen (y := .tup []) (Γ' := [outE b _]) (Wk.refl _) rfl
  ·rw [hC, if_neg (by omega), if_neg (by omega), if_neg (by omega), if_neg (by omega), if_neg (by omega), if_neg (by omega), if_neg (by omega), if_neg (by omega), if_pos hc]
   exact PRet.gen (y := .tup []) (Γ' := [outE b _]) (Wk.refl _) rfl
  ·rw [hC, if_neg (by omega), if_neg (by omega), if_neg (by omega), if_neg (by omega), if_neg (by omega), if_neg (by omega), if_neg (by omega), if_neg (by omega), if_neg (by omega), if_pos (by omega)]
   exact PRet.gen (y := .tup []) (Γ' := [outE b _]) (Wk.refl _) rfl
  ·rw [hC, if_neg (by omega), if_neg (by omega), if_neg (by omega), if_neg (by omega), if_neg (by omega), if_neg (by omega), if_neg (by omega), if_neg (by omega), if_neg (by omega), if_pos (by omega)]
   exact PRet.gen (y := .tup []) (Γ' := [outE b _]) (Wk.refl _) rfl
  ·rw [hC, if_neg (by omega), if_neg (by omega), if_neg (by omega), if_neg (by omega), if_neg (by omega), if_neg (by omega), if_neg (by omega), if_neg (by omega), if_neg (by omega), if_pos (by omega)]
   exact PRet.gen (y := .tup []) (Γ' := [outE b _]) (Wk.refl _) rfl
  ·have hpc : ¬1000 ≤ out.length := by omega
   rw [hC, if_neg hpc, if_neg (by omega), if_neg (by omega), if_neg (by omega), if_neg (by omega), if_neg (by omega), if_neg (by omega), if_neg (by omega), if_neg (by omega), if_neg (by omega), if_pos hc]
   rename_i b1 _ _ _ _ _ _ _ _ _ _ _ _ _
   have hl7 := wL_len x.l true (out ++ [35, 40]) fun y hm => lenOk y (hy y hm)
   have hlb : (wL true x.l (out ++ [35, 40])).length ≤ 1100000000 := by
    have e1 : (out ++ [35, 40]).length = out.length + 2 := by simp
    rw [e1] at hl7
    by_cases h2 : out.length + 2 < 1000
    ·have := hl7.2.1 h2
     unfold lenB at this
     rw [if_neg (by omega)] at this
     omega
    ·rw [hl7.2.2 (by omega)]; simp; omega
   obtain ⟨W, hW⟩ : ∃ W, W = wL true x.l (out ++ [35, 40]) := ⟨_, rfl⟩
   rw [← hW] at hlb ⊢
   refine PLoop.over [29, 30, 31, 32, 33, 34, 35, 36, 37, 38, 39, 40, 41, 42, 43, 44, 45, 46, 47, 48, 49, 50, 51, 52, 53, 54] (fun s : Nat × List UInt8 => [(4, .int .i64 s.1)]) (fun s => [outE b s.2, .box b1 (valC x)]) (fun s => s.1 ≤ x.l.length ∧ s.2.length ≤ 1100000000 ∧ wL (decide (s.1 = 0)) (x.l.drop s.1) s.2 = W) (fun s => x.l.length - s.1) (0, out ++ [35, 40]) ⟨Nat.zero_le _, by simp; omega, hW.symm⟩ wA ?_
   rintro ⟨i, o⟩ ⟨hi, ho, hw⟩
   dsimp only at hi ho hw ⊢
   have hA7 : o.length + 1 ≤ maxLen := by unfold maxLen; omega
   have step : ∀ (h : i < x.l.length) (_ : o.length < 1000) (o' : List UInt8), o' = (if i = 0 then o else o ++ [32]) → wL (decide (i + 1 = 0)) (x.l.drop (i + 1)) (wV false x.l[i] o') = W ∧ (wV false x.l[i] o').length ≤ 1100000000 := fun h h1 o' e => by
    rw [drop_at h, wL, if_neg (by omega)] at hw
    simp only [decide_eq_true_eq, ← e] at hw
    rw [show decide (i + 1 = 0) = false from rfl]
    refine ⟨hw, ?_⟩
    have := (wL_len (x.l.drop (i + 1)) false (wV false x.l[i] o') fun y hm => lenOk y (hy y (List.mem_of_mem_drop hm))).1
    rw [hw] at this
    omega
   conv => whnf
   repeat' (first|refine aA2 ?_|((first|refine zIL ?_|intro _);conv=>whnf)|(refine zX (fun hc=>?_) (fun hc=>?_)<;>(try simp only [SY] at hc)<;>(conv=>whnf)))
   ·have h1 : i < x.l.length := by omega
    obtain ⟨s1, s2⟩ := step h1 (by omega) (o ++ [32]) (by rw [if_neg (by omega)])
    refine PCall.go (ih' x.l[i] (List.getElem_mem _) b (o ++ [32]) (by simp; omega)) (WkT.refl _) ?_
    rintro _ _ rfl
    conv => whnf
    repeat' (first|refine aA2 ?_|(refine zX (fun hc=>?_) (fun hc=>?_)<;>(try simp only [SY] at hc)<;>omega))
    exact loopTo (i + 1, wV false x.l[i] (o ++ [32])) ⟨by show i + 1 ≤ _; omega, s2, s1⟩ (by show x.l.length - (i + 1) < x.l.length - i; omega) wA
   ·have h1 : i < x.l.length := by omega
    obtain ⟨s1, s2⟩ := step h1 (by omega) o (by rw [if_pos (by omega)])
    refine PCall.go (ih' x.l[i] (List.getElem_mem _) b o (by omega)) (WkT.refl _) ?_
    rintro _ _ rfl
    conv => whnf
    repeat' (first|refine aA2 ?_|(refine zX (fun hc=>?_) (fun hc=>?_)<;>(try simp only [SY] at hc)<;>omega))
    exact loopTo (i + 1, wV false x.l[i] o) ⟨by show i + 1 ≤ _; omega, s2, s1⟩ (by show x.l.length - (i + 1) < x.l.length - i; omega) wA
   ·obtain rfl : o = W := by
     rw [← hw]
     rcases hc with h | h
     ·rw [List.drop_of_length_le (by omega), wL]
     ·exact ((wL_len _ _ o fun y hm => lenOk y (hy y (List.mem_of_mem_drop hm))).2.2 (by omega)).symm
    exact PRet.gen (y := .tup []) (Γ' := [outE b _]) (Wk.refl _) rfl
  ·have h6 : x.k = 6 := by omega
   have hl2 := h2 h6
   have hpc : ¬1000 ≤ out.length := by omega
   rw [hC, if_neg hpc, if_neg (by omega), if_neg (by omega), if_neg (by omega), if_neg (by omega), if_neg (by omega), if_neg (by omega), if_neg (by omega), if_neg (by omega), if_neg (by omega), if_neg (by omega)]
   rename_i b1 _ _ _ _ _ _ _ _ _ _ _ _ _
   rw [wP_two hl2]
   have hm0 : x.l[0] ∈ x.l := List.getElem_mem _
   have hm1 : x.l[1] ∈ x.l := List.getElem_mem _
   have hWl := wP_len x.l (out ++ [40]) fun y hm => lenOk y (hy y hm)
   rw [wP_two hl2] at hWl
   obtain ⟨W, hW⟩ : ∃ W, W = wV true x.l[1] (wV false x.l[0] (out ++ [40])) := ⟨_, rfl⟩
   rw [← hW] at hWl ⊢
   have hlb : W.length ≤ 1100000000 := by
    have e1 : (out ++ [40]).length = out.length + 1 := by simp
    rw [e1] at hWl
    by_cases h2 : out.length + 1 < 1000
    ·have := hWl.2.1 h2
     unfold lenB at this
     rw [if_neg (by omega)] at this
     omega
    ·have := hWl.2.2 (by omega)
     omega
   refine PCall.go (ih' x.l[0] hm0 b (out ++ [40]) (by simp; omega)) (WkT.refl _) ?_
   rintro _ _ rfl
   conv => whnf
   repeat' (first|refine aA2 ?_|((first|refine normN nC ?_|refine normN nD ?_|intro _);conv=>whnf)|(refine zX (fun hc=>?_) (fun hc=>?_)<;>(try simp only [SY] at hc)<;>omega))
   rename_i b5
   have mono : ∀ (r : Vl) (o : List UInt8), r.tx = true → wV true r o = W → o.length ≤ 1100000000 := fun r o h1 h2 => by
    have := (lenOk r h1 o).1.2
    rw [h2] at this
    omega
   refine PLoop.over [4, 172, 173, 174, 175, 176, 177, 178, 179, 180, 181, 182, 183, 184, 185, 186, 187, 188, 189, 190, 191, 192, 193, 194, 195, 196, 197, 198, 199, 200] (fun s : Vl × List UInt8 => []) (fun s => [outE b s.2, .box b5 (valC s.1), .box b1 (valC x)]) (fun s => s.1.tx = true ∧ s.1.sz < x.sz ∧ wV true s.1 s.2 = W) (fun s => s.1.sz) (x.l[1], wV false x.l[0] (out ++ [40])) ⟨hy _ hm1, Vl.sz_mem hm1, hW.symm⟩ wA ?_
   rintro ⟨r, o⟩ ⟨hr, hrs, hw⟩
   dsimp only at hr hrs hw ⊢
   have ho := mono r o hr hw
   have hr' := hr
   rw [Vl.tx_eq] at hr'
   have hr2 := hr'.2.1
   have hA7 : o.length + 1 ≤ maxLen := by unfold maxLen; omega
   have hA8 : o.length + 3 ≤ maxLen := by unfold maxLen; omega
   rw [wV_true] at hw
   conv => whnf
   repeat' (first|refine aA2 ?_|((refine zIL ?_);conv=>whnf)|(refine zX (fun hc=>?_) (fun hc=>?_)<;>(try simp only [SY] at hc)<;>(conv=>whnf)))
   ·have h6' : r.k = 6 := by omega
    have hl2 := hr2 h6'
    have hm0 : r.l[0] ∈ r.l := List.getElem_mem _
    have hm1 : r.l[1] ∈ r.l := List.getElem_mem _
    have z0 := Vl.sz_mem hm0
    have z1 := Vl.sz_mem hm1
    rw [if_pos ⟨h6', by omega⟩, wP_two hl2] at hw
    refine PCall.go (ih r.l[0] (by omega) (hr'.2.2.2 _ hm0) b (o ++ [32]) (by simp; omega)) (WkT.refl _) ?_
    rintro _ _ rfl
    conv => whnf
    repeat' (first|refine aA2 ?_|((first|refine normN nC ?_|refine normN nD ?_);conv=>whnf)|(refine zX (fun hc=>?_) (fun hc=>?_)<;>(try simp only [SY] at hc)<;>omega))
    exact loopTo (r.l[1], wV false r.l[0] (o ++ [32])) ⟨hr'.2.2.2 _ hm1, by show r.l[1].sz < x.sz; omega, hw⟩ z1 wA
   ·rw [if_neg (by omega), if_neg (by omega), ← wV_false] at hw
    have hA9 : (wV false r (o ++ [32, 46, 32])).length + 1 ≤ 1100000000 := by
     have := congrArg List.length hw
     rw [List.length_append] at this
     simp at this
     omega
    refine PCall.go (ih r hrs hr b (o ++ [32, 46, 32]) (by simp; omega)) (WkT.refl _) ?_
    rintro _ _ rfl
    conv => whnf
    repeat' (first|refine aA2 ?_|((refine zIL ?_);conv=>whnf)|(refine zX (fun hc=>?_) (fun hc=>?_)<;>(try simp only [SY] at hc)<;>omega))
    rw [hw]
    exact PRet.gen (y := .tup []) (Γ' := [outE b W]) (Wk.refl _) rfl
   ·rw [if_neg (by omega), if_pos (by omega)] at hw
    rw [hw]
    exact PRet.gen (y := .tup []) (Γ' := [outE b W]) (Wk.refl _) rfl
theorem text6_c (x : Vl) (ht : x.tx = true) : ACallP Tryz.prog 88 [.agg x.cells] (.str (txtV x)) := by
 have hw := fun b => write_n x.sz x (Nat.le_refl _) ht b [] (by simp)
 refine ACall.of_body tt_ok Tryz.func88 rfl rfl (n := 11) rfl rfl ?_
 conv => whnf
 repeat' (first|refine aA2 ?_|((intro _);conv=>whnf)|(refine zX (fun hc=>?_) (fun hc=>?_)<;>(try simp only [SY] at hc)<;>omega))
 rename_i b1 b3
 refine PCall.go (hw b3) (WkT.refl _) ?_
 rintro _ _ rfl
 conv => whnf
 repeat' (first|refine aA2 ?_|((intro _);conv=>whnf)|(refine zX (fun hc=>?_) (fun hc=>?_)<;>(try simp only [SY] at hc)<;>omega))
 refine PRet.pure (Wk.str ?_)
 unfold txtV
 split
 ·rfl
 ·rw [List.take_of_length_le (by omega), List.take_of_length_le (by omega)]
end Go.Cb
namespace Go.Cb
open Go.Proofs
set_option maxRecDepth 100000
set_option maxHeartbeats 4000000
def addN (n d m e : Int) : Int × Int × Int := if (numRight n d && numRight m e) = false then (0, 0, 3) else makeN (n * e + m * d) (d * e)
def subN (n d m e : Int) : Int × Int × Int := if (numRight n d && numRight m e) = false then (0, 0, 3) else addN n d (0 - m) e
def mulN (n d m e : Int) : Int × Int × Int := if (numRight n d && numRight m e) = false then (0, 0, 3) else
 makeN (n.tdiv (Nat.gcd n.natAbs e.natAbs : Nat) * m.tdiv (Nat.gcd m.natAbs d.natAbs : Nat)) (d.tdiv (Nat.gcd m.natAbs d.natAbs : Nat) * e.tdiv (Nat.gcd n.natAbs e.natAbs : Nat))
def divN (n d m e : Int) : Int × Int × Int := if (numRight n d && numRight m e) = false then (0, 0, 3) else
 if m = 0 then (0, 0, 4) else if m < 0 then mulN n d (0 - e) (0 - m) else mulN n d e m
def lessN (n d m e : Int) : Bool := numRight n d && (numRight m e && decide (n * e < m * d))
theorem numRight_bd {n d : Int} (h : numRight n d = true) : 1 ≤ d ∧ d ≤ 2147483647 ∧ -2147483647 ≤ n ∧ n ≤ 2147483647 := by
 unfold numRight at h
 simp only [Bool.and_eq_true, decide_eq_true_eq] at h
 exact ⟨h.1, h.2.1, h.2.2.1, h.2.2.2.1⟩
theorem mul_bd {a b : Int} (h1 : -2147483647 ≤ a) (h2 : a ≤ 2147483647) (h3 : -2147483647 ≤ b) (h4 : b ≤ 2147483647) : -4611686014132420609 ≤ a * b ∧ a * b ≤ 4611686014132420609 := by
 have k : (a * b).natAbs ≤ 2147483647 * 2147483647 := by
  rw [Int.natAbs_mul]
  exact Nat.mul_le_mul (by omega) (by omega)
 omega
theorem add1_c (n d m e : Int) : ACallP Tryz.prog 219 [.int .i64 n, .int .i64 d, .int .i64 m, .int .i64 e] (tup3 (addN n d m e)) := by
 have h1 := right1_c n d
 have h2 := right1_c m e
 unfold addN
 cases hb : (numRight n d && numRight m e) with
 | false =>
  refine ACall.of_body tt_ok Tryz.func219 rfl rfl (n := 35) rfl rfl ?_
  conv => whnf
  repeat' (first|refine aA0 ?_|((first|(((apply zY;intro hg));(conv=>whnf);(repeat ((first|refine pC (h2) wR ?_|refine aG ?_);conv=>whnf));exact pZ)|refine pC (h1) wR ?_);conv=>whnf)|(refine zX (fun hc=>?_) (fun hc=>?_)<;>(try simp only [SY] at hc)<;>(conv=>whnf)))
  ·rw [if_pos rfl]
   exact PRet.pure (Wk.refl _)
  ·rw [hc.1, hc.2] at hb
   cases hb
 | true =>
  have hb' := hb
  rw [Bool.and_eq_true] at hb'
  have b1 := numRight_bd hb'.1
  have b2 := numRight_bd hb'.2
  rw [hb'.1] at h1
  rw [hb'.2] at h2
  rw [if_neg (by simp)]
  have m1 := mul_bd b1.2.2.1 b1.2.2.2 (b := e) (by omega) (by omega)
  have m2 := mul_bd b2.2.2.1 b2.2.2.2 (b := d) (by omega) (by omega)
  have m3 := mul_bd (a := d) (b := e) (by omega) (by omega) (by omega) (by omega)
  refine ACall.of_body tt_ok Tryz.func219 rfl rfl (n := 35) rfl rfl ?_
  conv => whnf
  repeat' (first|refine aA0 ?_|((first|(((apply zY;intro hg));(conv=>whnf);(repeat ((first|refine pC (h2) wR ?_|refine aG ?_);conv=>whnf));exact pZ)|refine pC (h1) wR ?_|refine pC (make1_c _ _ OA OA OA OA) wR ?_);conv=>whnf)|(refine zX (fun hc=>?_) (fun hc=>?_)<;>(try simp only [SY] at hc)<;>(conv=>whnf)))
  exact PRet.pure (Wk.refl _)
theorem sub1_c (n d m e : Int) : ACallP Tryz.prog 220 [.int .i64 n, .int .i64 d, .int .i64 m, .int .i64 e] (tup3 (subN n d m e)) := by
 have h1 := right1_c n d
 have h2 := right1_c m e
 have h3 := add1_c n d (-m) e
 rw [show -m = 0 - m by omega] at h3
 unfold subN
 cases hb : (numRight n d && numRight m e) with
 | false =>
  refine ACall.of_body tt_ok Tryz.func220 rfl rfl (n := 30) rfl rfl ?_
  conv => whnf
  repeat' (first|refine aA0 ?_|((first|(((apply zY;intro hg));(conv=>whnf);(repeat ((first|refine pC (h2) wR ?_|refine aG ?_);conv=>whnf));exact pZ)|refine pC (h1) wR ?_);conv=>whnf)|(refine zX (fun hc=>?_) (fun hc=>?_)<;>(try simp only [SY] at hc)<;>(conv=>whnf)))
  ·rw [if_pos rfl]
   exact PRet.pure (Wk.refl _)
  ·rw [hc.1, hc.2] at hb
   cases hb
 | true =>
  have hb' := hb
  rw [Bool.and_eq_true] at hb'
  have b1 := numRight_bd hb'.1
  have b2 := numRight_bd hb'.2
  rw [hb'.1] at h1
  rw [hb'.2] at h2
  rw [if_neg (by simp)]
  refine ACall.of_body tt_ok Tryz.func220 rfl rfl (n := 30) rfl rfl ?_
  conv => whnf
  repeat' (first|refine aA0 ?_|((first|(((apply zY;intro hg));(conv=>whnf);(repeat ((first|refine pC (h2) wR ?_|refine aG ?_);conv=>whnf));exact pZ)|refine pC (h1) wR ?_|refine pC (h3) wR ?_);conv=>whnf)|(refine zX (fun hc=>?_) (fun hc=>?_)<;>(try simp only [SY] at hc)<;>(conv=>whnf)))
  exact PRet.pure (Wk.refl _)
theorem less1_c (n d m e : Int) : ACallP Tryz.prog 205 [.int .i64 n, .int .i64 d, .int .i64 m, .int .i64 e] (.bool (lessN n d m e)) := by
 have h1 := right1_c n d
 have h2 := right1_c m e
 unfold lessN
 cases hn : numRight n d with
 | false =>
  rw [hn] at h1
  refine ACall.of_body tt_ok Tryz.func205 rfl rfl (n := 26) rfl rfl ?_
  conv => whnf
  repeat' (first|refine aA0 ?_|((first|(((apply zY;intro hg));(conv=>whnf);(repeat ((first|refine pC (h2) wR ?_|refine aG ?_);conv=>whnf));exact pZ)|refine pC (h1) wR ?_);conv=>whnf)|(refine zX (fun hc=>?_) (fun hc=>?_)<;>(try simp only [SY] at hc)<;>omega))
  refine PGuard.ways (fun hg => by simp at hg) (fun hg => ?_)
  conv => whnf
  skip
  exact PRet.pure (Wk.refl _)
 | true =>
  cases hm : numRight m e with
  | false =>
   rw [hn] at h1
   rw [hm] at h2
   refine ACall.of_body tt_ok Tryz.func205 rfl rfl (n := 26) rfl rfl ?_
   conv => whnf
   repeat' (first|refine aA0 ?_|((first|(((apply zY;intro hg));(conv=>whnf);(repeat ((first|refine pC (h2) wR ?_|refine aG ?_);conv=>whnf));exact pZ)|refine pC (h1) wR ?_);conv=>whnf)|(refine zX (fun hc=>?_) (fun hc=>?_)<;>(try simp only [SY] at hc)<;>omega))
   refine PGuard.ways (fun hg => by simp at hg) (fun hg => ?_)
   conv => whnf
   skip
   exact PRet.pure (Wk.refl _)
  | true =>
   rw [hn] at h1
   rw [hm] at h2
   have b1 := numRight_bd hn
   have b2 := numRight_bd hm
   have m1 := mul_bd b1.2.2.1 b1.2.2.2 (b := e) (by omega) (by omega)
   have m2 := mul_bd b2.2.2.1 b2.2.2.2 (b := d) (by omega) (by omega)
   refine ACall.of_body tt_ok Tryz.func205 rfl rfl (n := 26) rfl rfl ?_
   conv => whnf
   repeat' (first|refine aA0 ?_|((first|(((apply zY;intro hg));(conv=>whnf);(repeat ((first|refine pC (h2) wR ?_|refine aG ?_);conv=>whnf));exact pZ)|refine pC (h1) wR ?_);conv=>whnf)|(refine zX (fun hc=>?_) (fun hc=>?_)<;>(try simp only [SY] at hc)<;>omega))
   exact PRet.pure (Wk.bool (by simp))
theorem drMn01aa {p q : Prop} (k : q) (h : q → p := by intro hq; first | exact PDraw.sP (some 35) rfl [] [] tt_ok mixed hq) : p := h k
theorem mul1_c (n d m e : Int) : ACallP Tryz.prog 221 [.int .i64 n, .int .i64 d, .int .i64 m, .int .i64 e] (tup3 (mulN n d m e)) := by
 have h1 := right1_c n d
 have h2 := right1_c m e
 unfold mulN
 cases hb : (numRight n d && numRight m e) with
 | false =>
  refine ACall.of_body tt_ok Tryz.func221 rfl rfl (n := 53) rfl rfl ?_
  conv => whnf
  repeat' (first|refine aA0 ?_|((first|(((apply zY;intro hg));(conv=>whnf);(repeat ((first|refine pC (h2) wR ?_|refine aG ?_);conv=>whnf));exact pZ)|refine pC (h1) wR ?_);conv=>whnf)|(refine zX (fun hc=>?_) (fun hc=>?_)<;>(try simp only [SY] at hc)<;>(conv=>whnf)))
  ·rw [if_pos rfl]
   exact PRet.pure (Wk.refl _)
  ·rw [hc.1, hc.2] at hb
   cases hb
 | true =>
  have hb' := hb
  rw [Bool.and_eq_true] at hb'
  have b1 := numRight_bd hb'.1
  have b2 := numRight_bd hb'.2
  rw [hb'.1] at h1
  rw [hb'.2] at h2
  rw [if_neg (by simp)]
  have hg1 : 0 < Nat.gcd n.natAbs e.natAbs := Nat.gcd_pos_of_pos_right _ (by omega)
  have hg2 : 0 < Nat.gcd m.natAbs d.natAbs := Nat.gcd_pos_of_pos_right _ (by omega)
  have hg3 : Nat.gcd n.natAbs e.natAbs ≤ e.natAbs := Nat.gcd_le_right _ (by omega)
  have hg4 : Nat.gcd m.natAbs d.natAbs ≤ d.natAbs := Nat.gcd_le_right _ (by omega)
  generalize hG : Nat.gcd n.natAbs e.natAbs = G at *
  generalize hH : Nat.gcd m.natAbs d.natAbs = H at *
  have q : ∀ (a : Int) (g : Nat), -2147483647 ≤ a → a ≤ 2147483647 → -2147483647 ≤ a.tdiv g ∧ a.tdiv g ≤ 2147483647 := fun a g ha hb => by
   have : (a.tdiv g).natAbs ≤ a.natAbs := by rw [Int.natAbs_tdiv]; exact Nat.div_le_self _ _
   omega
  have q1 := q n G b1.2.2.1 b1.2.2.2
  have q2 := q m H b2.2.2.1 b2.2.2.2
  have q3 := q d H (by omega) (by omega)
  have q4 := q e G (by omega) (by omega)
  have m1 := mul_bd q1.1 q1.2 q2.1 q2.2
  have m2 := mul_bd q3.1 q3.2 q4.1 q4.2
  have g1 := gcd_c n.natAbs e.natAbs (by omega) (by omega)
  have g2 := gcd_c m.natAbs d.natAbs (by omega) (by omega)
  rw [hG, show ((e.natAbs : Nat) : Int) = e by omega] at g1
  rw [hH, show ((d.natAbs : Nat) : Int) = d by omega] at g2
  refine ACall.of_body tt_ok Tryz.func221 rfl rfl (n := 53) rfl rfl ?_
  conv => whnf
  repeat' (first|refine aA0 ?_|((first|((first|(apply zY;intro hg)|apply zZ);(conv=>whnf);(repeat ((first|refine pC (h2) wR ?_|refine pC (make1_c _ _ OA OA OA OA) wR ?_|refine aG ?_);conv=>whnf));exact pZ)|refine pC (h1) wR ?_|refine pC (size_c _ OA OA) wR ?_|refine pC (g1) wR ?_|refine pC (g2) wR ?_|refine drMn01aa ?_);conv=>whnf)|(refine zX (fun hc=>?_) (fun hc=>?_)<;>(try simp only [SY] at hc)<;>(conv=>whnf)))
  exact PRet.pure (Wk.refl _)
theorem div1_c (n d m e : Int) : ACallP Tryz.prog 222 [.int .i64 n, .int .i64 d, .int .i64 m, .int .i64 e] (tup3 (divN n d m e)) := by
 have h1 := right1_c n d
 have h2 := right1_c m e
 have h3 := mul1_c n d (0 - e) (0 - m)
 have h4 := mul1_c n d e m
 unfold divN
 cases hb : (numRight n d && numRight m e) with
 | false =>
  refine ACall.of_body tt_ok Tryz.func222 rfl rfl (n := 43) rfl rfl ?_
  conv => whnf
  repeat' (first|refine aA0 ?_|((first|(((apply zY;intro hg));(conv=>whnf);(repeat ((first|refine pC (h2) wR ?_|refine aG ?_);conv=>whnf));exact pZ)|refine pC (h1) wR ?_);conv=>whnf)|(refine zX (fun hc=>?_) (fun hc=>?_)<;>(try simp only [SY] at hc)<;>(conv=>whnf)))
  ·rw [if_pos rfl]
   exact PRet.pure (Wk.refl _)
  all_goals
   have hc1 : numRight n d = true ∧ numRight m e = true := by assumption
   rw [hc1.1, hc1.2] at hb
   cases hb
 | true =>
  have hb' := hb
  rw [Bool.and_eq_true] at hb'
  have b1 := numRight_bd hb'.1
  have b2 := numRight_bd hb'.2
  rw [hb'.1] at h1
  rw [hb'.2] at h2
  rw [if_neg (by simp)]
  refine ACall.of_body tt_ok Tryz.func222 rfl rfl (n := 43) rfl rfl ?_
  conv => whnf
  repeat' (first|refine aA0 ?_|((first|(((apply zY;intro hg));(conv=>whnf);(repeat ((first|refine pC (h2) wR ?_|refine aG ?_);conv=>whnf));exact pZ)|refine pC (h1) wR ?_|refine pC (h3) wR ?_|refine pC (h4) wR ?_);conv=>whnf)|(refine zX (fun hc=>?_) (fun hc=>?_)<;>(try simp only [SY] at hc)<;>(conv=>whnf)))
  ·rw [if_pos hc]
   exact PRet.pure (Wk.refl _)
  ·rename_i hm
   rw [if_neg hm, if_pos hc]
   exact PRet.pure (Wk.refl _)
  ·rename_i hm
   rw [if_neg hm, if_neg (by omega)]
   exact PRet.pure (Wk.refl _)
end Go.Cb
namespace Go.Cb
open Go.Proofs
set_option maxRecDepth 100000
set_option maxHeartbeats 4000000
theorem facts_out (n : Int) (h : n < 0 ∨ n > 30) : factOf n = Fct.none := by rw [factOf, if_neg (by omega)]
def factQ (n : Int) : Int × Int := if n = 0 ∨ n = 2 ∨ n = 20 ∨ n = 21 then (0, -1) else if n = 1 ∨ n = 3 then (1, -1) else
 if n = 4 ∨ n = 5 ∨ n = 6 ∨ n = 7 ∨ n = 17 ∨ n = 22 ∨ n = 30 then (2, 2) else if n = 25 ∨ n = 27 then (0, 0) else (1, 1)
def namesF : List (List UInt8) := facts.map Fct.name
theorem facts_in {n : Int} (h0 : 0 ≤ n) (h1 : n ≤ 30) : factOf n = ⟨namesF.getD n.toNat [], (factQ n).1, (factQ n).2, decide (n ≤ 25), decide (n ≤ 16) || n == 18 || n == 19 || decide (n ≥ 22) && decide (n ≤ 25)⟩ := by
 obtain ⟨k, rfl⟩ : ∃ k : Nat, n = k := ⟨n.toNat, by omega⟩
 have : ∀ k : Fin 31, factOf (k.val : Int) = ⟨namesF.getD (k.val : Int).toNat [], (factQ (k.val : Int)).1, (factQ (k.val : Int)).2, decide ((k.val : Int) ≤ 25), decide ((k.val : Int) ≤ 16) || (k.val : Int) == 18 || (k.val : Int) == 19 || decide ((k.val : Int) ≥ 22) && decide ((k.val : Int) ≤ 25)⟩ := by
  intro k
  match k with
  | ⟨0, _⟩ | ⟨1, _⟩ | ⟨2, _⟩ | ⟨3, _⟩ | ⟨4, _⟩ | ⟨5, _⟩ | ⟨6, _⟩ | ⟨7, _⟩ | ⟨8, _⟩ | ⟨9, _⟩ | ⟨10, _⟩ | ⟨11, _⟩ | ⟨12, _⟩ | ⟨13, _⟩ | ⟨14, _⟩ | ⟨15, _⟩ | ⟨16, _⟩ | ⟨17, _⟩ | ⟨18, _⟩ | ⟨19, _⟩ | ⟨20, _⟩ | ⟨21, _⟩ | ⟨22, _⟩ | ⟨23, _⟩ | ⟨24, _⟩ | ⟨25, _⟩ | ⟨26, _⟩ | ⟨27, _⟩ | ⟨28, _⟩ | ⟨29, _⟩ | ⟨30, _⟩ => rfl
  | ⟨n + 31, h⟩ => exact absurd h (by omega)
 exact this ⟨k, by omega⟩
theorem facts05_c (n : Int) : ACallP Tryz.prog 192 [.int .i64 n] (.tup [.agg (factOf n).cells, .bool (decide (0 ≤ n ∧ n < 31))]) := by
 have hn : namesF.length = 31 := rfl
 refine ACall.of_body tt_ok Tryz.func192 rfl rfl (n := 67) rfl rfl ?_
 conv => whnf
 repeat' (first|refine aA0 ?_|((intro _);conv=>whnf)|(refine zX (fun hc=>?_) (fun hc=>?_)<;>(try simp only [SY] at hc)<;>(conv=>whnf)))
 ·rw [facts_out n hc, show decide (0 ≤ n ∧ n < 31) = false from decide_eq_false (by omega)]
  exact PRet.pure (Wk.tup (.cons (Wk.refl _) (.cons (Wk.ff rfl) .nil)))
 ·show PIndexA _ (.sl 1 (namesF.map PV.str) (some _)) _ _
  have hf := facts_in (n := n) (by omega) (by omega)
  have hQ : factQ n = factQ n := rfl
  conv at hQ => rhs; unfold factQ
  have hg : namesF.getD n.toNat [] = namesF[n.toNat]'(by omega) := by simp [List.getD, show n.toNat < namesF.length by omega]
  have hd : decide (0 ≤ n ∧ n < 31) = true := decide_eq_true (by omega)
  conv => whnf
  repeat' (first|refine aA0 ?_|((intro _);conv=>whnf)|(refine zX (fun hc=>?_) (fun hc=>?_)<;>(try simp only [SY] at hc)<;>first|omega|(conv=>whnf)))
  all_goals
   repeat (first|rw [if_neg (by omega)] at hQ|rw [if_pos (by omega)] at hQ)
   rw [hf, hQ, hd, hg]
   exact PRet.pure (Wk.tup (.cons (Wk.refl _) (.cons (Wk.tt rfl) .nil)))
end Go.Cb
namespace Go.Cb
open Go.Proofs
set_option maxRecDepth 100000
set_option maxHeartbeats 4000000
def opN (n : Int) (a b : Int × Int) : Int × Int × Int := if n = 0 then addN a.1 a.2 b.1 b.2 else if n = 1 then subN a.1 a.2 b.1 b.2 else if n = 2 then mulN a.1 a.2 b.1 b.2 else divN a.1 a.2 b.1 b.2
abbrev numD (a : Int × Int) : Datum := .mk 0 a.1 a.2 [] []
def sumsL (n : Int) : List Datum → Int × Int → Datum × Int
 | [], a => (numD a, 0)
 | x :: l, a => if (opN n a (x.n, x.d)).2.2 ≠ 0 then (numD (0, 0), (opN n a (x.n, x.d)).2.2) else sumsL n l ((opN n a (x.n, x.d)).1, (opN n a (x.n, x.d)).2.1)
def numsB (l : List Datum) : Bool := l.all fun x => x.kind == 0
def sumsF (n : Int) (l : List Datum) : Datum × Int :=
 if numsB l = false then (numD (0, 0), 1) else
 if (n = 1 ∨ n = 3) ∧ 1 < l.length then sumsL n (l.drop 1) ((l.getD 0 nulD).n, (l.getD 0 nulD).d) else
 sumsL n l (if 2 ≤ n then (1, 1) else (0, 1))
abbrev resD (r : Datum × Int) : PV := .tup [.agg r.1.cells, .int .i64 r.2]
theorem numD_wk {n d : Int} : WkL [.int .i64 0, .int .i64 n, .int .i64 d, .str [], .nil] (datC (numD (n, d))) := .cons (Wk.refl _) (.cons (Wk.refl _) (.cons (Wk.refl _) (.cons (Wk.refl _) (.cons (Wk.nil' rfl) .nil))))
theorem number05_c (n : Int) : ACallP Tryz.prog 208 [.int .i64 n] (.agg (numD (n, 1)).cells) := by
 refine ACall.of_body tt_ok Tryz.func208 rfl rfl (n := 5) rfl rfl ?_
 conv => whnf
 repeat' (first|refine aA2 ?_|((intro _);conv=>whnf)|(refine zX (fun hc=>?_) (fun hc=>?_)<;>(try simp only [SY] at hc)<;>omega))
 exact PRet.pure DatOf.wk
theorem drMf05aa {p q : Prop} (k : q) (h : q → p := by intro hq; first | exact PDraw.sP (some 74) rfl [] [] tt_ok mixed hq | exact PDraw.sP (some 95) rfl [] [] tt_ok mixed hq | exact PDraw.sP (some 116) rfl [] [] tt_ok mixed hq | exact PDraw.sP (some 53) rfl [] [] tt_ok mixed hq) : p := h k
theorem sums05_c (n : Int) (hn : n = 0 ∨ n = 1 ∨ n = 2 ∨ n = 3) (l : List Datum) (hl : l.length ≤ 1000000000) : ACallP Tryz.prog 202 [.int .i64 n, .sl 5 (l.map Datum.pv) none] (resD (sumsF n l)) := by
 rcases hn with rfl | rfl | rfl | rfl
 ·have hF : sumsF 0 l = sumsF 0 l := rfl
  conv at hF => rhs; unfold sumsF
  refine ACall.of_body tt_ok Tryz.func202 rfl rfl (n := 142) rfl rfl ?_
  conv => whnf
  repeat' (first|((intro _);conv=>whnf)|(refine zX (fun hc=>?_) (fun hc=>?_)<;>(try simp only [SY] at hc)<;>omega))
  rename_i b4
  refine PLoop.keep [5, 6, 12, 13, 14, 15, 16, 17, 18, 19, 20, 21, 22, 23, 24] (fun i : Nat => [(6, .int .i64 i)]) (fun i => i ≤ l.length ∧ numsB (l.drop i) = numsB l) (fun i => l.length - i) 0 ⟨Nat.zero_le _, rfl⟩ wA ?_
  rintro i ⟨hi, hk⟩
  conv => whnf
  repeat' (first|refine aA2 ?_|((first|refine pC (number05_c _) wR ?_|intro _);conv=>whnf)|(refine zX (fun hc=>?_) (fun hc=>?_)<;>(try simp only [SY] at hc)<;>first|omega|(conv=>whnf)))
  ·rw [drop_at (show i < l.length by omega), numsB, List.all_cons, beq_eq_false_iff_ne.2 hc, Bool.false_and] at hk
   rw [hF, if_pos hk.symm]
   exact PRet.pure wA
  ·rw [drop_at (show i < l.length by omega), numsB, List.all_cons, beq_iff_eq.2 hc, Bool.true_and] at hk
   exact loopTo (i + 1) ⟨by omega, hk⟩ (by show l.length - (i + 1) < l.length - i; omega) wA
  ·rw [List.drop_of_length_le (by omega)] at hk
   rw [if_neg (by rw [← hk]; simp [numsB]), if_neg (by omega), if_neg (by omega)] at hF
   rename_i b7 _
   refine PLoop.over [5, 8, 9, 10, 11, 45, 46, 47, 48, 49, 50, 51, 52, 53, 54, 55, 56, 57, 58, 59, 60, 61, 62, 63, 64, 65, 66, 67, 68, 69, 70, 71, 72, 73, 74, 75, 76, 77, 78, 79, 80, 81, 82, 83, 84, 85, 86, 87, 88, 89, 90, 91, 92, 93, 94, 95, 96, 97, 98, 99, 100, 101, 102, 103, 104, 105, 106, 107, 108, 109, 110, 111, 112, 113, 114, 115, 116, 117, 118, 119, 120, 121, 122, 123, 124, 125, 126, 127, 128, 129, 130, 131, 132, 133, 134, 135, 136, 137, 138, 139, 140] (fun z : Nat × Datum => [(8, .int .i64 z.1)]) (fun z : Nat × Datum => [.box b7 (datC z.2), .box b4 [.int .i64 0, .int .i64 0, .int .i64 0, .str [], .nil]]) (fun z => z.1 ≤ (l).length ∧ (z.2 = numD (z.2.n, z.2.d) ∨ z.1 < (l).length) ∧ sumsL 0 ((l).drop z.1) (z.2.n, z.2.d) = sumsF 0 l) (fun z => (l).length - z.1) (0, numD (0, 1)) ⟨Nat.zero_le _, .inl rfl, hF.symm⟩ wA ?_
   rintro ⟨j, a⟩ ⟨hj, ha, hS⟩
   dsimp only at hj ha hS ⊢
   conv => whnf
   repeat' (first|refine aA2 ?_|((first|((apply zZ);(conv=>whnf);(repeat ((refine pC (add1_c _ _ _ _) wR ?_);conv=>whnf));exact pZ)|refine drMf05aa ?_|intro _);conv=>whnf)|(refine zX (fun hc=>?_) (fun hc=>?_)<;>(try simp only [SY] at hc)<;>(conv=>whnf)))
   ·have h1 : j < (l).length := by omega
    have he : (opN 0 (a.n, a.d) (((l)[j]'h1).n, ((l)[j]'h1).d)).2.2 ≠ 0 := by exact hc
    rw [drop_at h1, sumsL, if_pos he] at hS
    rw [← hS]
    exact PRet.pure (Wk.tup (.cons DatOf.wk (.cons (by exact Wk.refl _) .nil)))
   ·have h1 : j < (l).length := by omega
    have he : ¬(opN 0 (a.n, a.d) (((l)[j]'h1).n, ((l)[j]'h1).d)).2.2 ≠ 0 := by exact fun h => h hc
    rw [drop_at h1, sumsL, if_neg he] at hS
    refine LoopTo.gh (j + 1, numD ((addN a.n a.d ((l)[j]'h1).n ((l)[j]'h1).d).1, (addN a.n a.d ((l)[j]'h1).n ((l)[j]'h1).d).2.1)) ⟨by show j + 1 ≤ _; omega, .inl rfl, hS⟩ (by show (l).length - (j + 1) < (l).length - j; omega) wA ?_
    refine Ghost.trans (Ghost.box (b := b7) (cs := [.int .i64 0, .int .i64 (addN a.n a.d ((l)[j]'h1).n ((l)[j]'h1).d).1, .int .i64 (addN a.n a.d ((l)[j]'h1).n ((l)[j]'h1).d).2.1, .str [], .nil]) (cs' := datC (numD ((addN a.n a.d ((l)[j]'h1).n ((l)[j]'h1).d).1, (addN a.n a.d ((l)[j]'h1).n ((l)[j]'h1).d).2.1))) numD_wk) ?_
    exact Ghost.pick
   ·have hl2 : (l).length ≤ j := by omega
    rw [List.drop_of_length_le hl2, sumsL] at hS
    have e := congrArg (fun z : Datum => PV.agg z.cells) (ha.resolve_right (by omega))
    rw [← hS]
    exact PRet.pure (Wk.tup (.cons (Wk.eq e) (.cons (Wk.refl _) .nil)))
 ·have hF : sumsF 1 l = sumsF 1 l := rfl
  conv at hF => rhs; unfold sumsF
  refine ACall.of_body tt_ok Tryz.func202 rfl rfl (n := 142) rfl rfl ?_
  conv => whnf
  repeat' (first|((intro _);conv=>whnf)|(refine zX (fun hc=>?_) (fun hc=>?_)<;>(try simp only [SY] at hc)<;>omega))
  rename_i b4
  refine PLoop.keep [5, 6, 12, 13, 14, 15, 16, 17, 18, 19, 20, 21, 22, 23, 24] (fun i : Nat => [(6, .int .i64 i)]) (fun i => i ≤ l.length ∧ numsB (l.drop i) = numsB l) (fun i => l.length - i) 0 ⟨Nat.zero_le _, rfl⟩ wA ?_
  rintro i ⟨hi, hk⟩
  conv => whnf
  repeat' (first|refine aA2 ?_|((first|refine pC (number05_c _) wR ?_|intro _);conv=>whnf)|(refine zX (fun hc=>?_) (fun hc=>?_)<;>(try simp only [SY] at hc)<;>first|omega|(conv=>whnf)))
  ·rw [drop_at (show i < l.length by omega), numsB, List.all_cons, beq_eq_false_iff_ne.2 hc, Bool.false_and] at hk
   rw [hF, if_pos hk.symm]
   exact PRet.pure wA
  ·rw [drop_at (show i < l.length by omega), numsB, List.all_cons, beq_iff_eq.2 hc, Bool.true_and] at hk
   exact loopTo (i + 1) ⟨by omega, hk⟩ (by show l.length - (i + 1) < l.length - i; omega) wA
  ·rw [List.drop_of_length_le (by omega)] at hk
   rw [if_neg (by rw [← hk]; simp [numsB]), if_pos (by omega)] at hF
   rename_i b7 _
   have hg : l.getD 0 nulD = l[0]'(by omega) := datD_get (by omega)
   rw [hg] at hF
   refine PLoop.over [5, 8, 9, 10, 11, 45, 46, 47, 48, 49, 50, 51, 52, 53, 54, 55, 56, 57, 58, 59, 60, 61, 62, 63, 64, 65, 66, 67, 68, 69, 70, 71, 72, 73, 74, 75, 76, 77, 78, 79, 80, 81, 82, 83, 84, 85, 86, 87, 88, 89, 90, 91, 92, 93, 94, 95, 96, 97, 98, 99, 100, 101, 102, 103, 104, 105, 106, 107, 108, 109, 110, 111, 112, 113, 114, 115, 116, 117, 118, 119, 120, 121, 122, 123, 124, 125, 126, 127, 128, 129, 130, 131, 132, 133, 134, 135, 136, 137, 138, 139, 140] (fun z : Nat × Datum => [(8, .int .i64 z.1)]) (fun z : Nat × Datum => [.box b7 (datC z.2), .box b4 [.int .i64 0, .int .i64 0, .int .i64 0, .str [], .nil]]) (fun z => z.1 ≤ (l.drop 1).length ∧ (z.2 = numD (z.2.n, z.2.d) ∨ z.1 < (l.drop 1).length) ∧ sumsL 1 ((l.drop 1).drop z.1) (z.2.n, z.2.d) = sumsF 1 l) (fun z => (l.drop 1).length - z.1) (0, l[0]'(by omega)) ⟨Nat.zero_le _, .inr (by show 0 < (l.drop 1).length; rw [List.length_drop]; omega), hF.symm⟩ wA ?_
   rintro ⟨j, a⟩ ⟨hj, ha, hS⟩
   dsimp only at hj ha hS ⊢
   conv => whnf
   repeat' (first|refine aA2 ?_|((first|((apply zZ);(conv=>whnf);(repeat ((refine pC (sub1_c _ _ _ _) wR ?_);conv=>whnf));exact pZ)|refine drMf05aa ?_|intro _);conv=>whnf)|(refine zX (fun hc=>?_) (fun hc=>?_)<;>(try simp only [SY] at hc)<;>first|omega|(conv=>whnf)))
   ·have h1 : j < (l.drop 1).length := by omega
    have he : (opN 1 (a.n, a.d) (((l.drop 1)[j]'h1).n, ((l.drop 1)[j]'h1).d)).2.2 ≠ 0 := by exact hc
    rw [drop_at h1, sumsL, if_pos he] at hS
    rw [← hS]
    exact PRet.pure (Wk.tup (.cons DatOf.wk (.cons (by exact Wk.refl _) .nil)))
   ·have h1 : j < (l.drop 1).length := by omega
    have he : ¬(opN 1 (a.n, a.d) (((l.drop 1)[j]'h1).n, ((l.drop 1)[j]'h1).d)).2.2 ≠ 0 := by exact fun h => h hc
    rw [drop_at h1, sumsL, if_neg he] at hS
    refine LoopTo.gh (j + 1, numD ((subN a.n a.d ((l.drop 1)[j]'h1).n ((l.drop 1)[j]'h1).d).1, (subN a.n a.d ((l.drop 1)[j]'h1).n ((l.drop 1)[j]'h1).d).2.1)) ⟨by show j + 1 ≤ _; omega, .inl rfl, hS⟩ (by show (l.drop 1).length - (j + 1) < (l.drop 1).length - j; omega) wA ?_
    refine Ghost.trans (Ghost.box (b := b7) (cs := [.int .i64 0, .int .i64 (subN a.n a.d ((l.drop 1)[j]'h1).n ((l.drop 1)[j]'h1).d).1, .int .i64 (subN a.n a.d ((l.drop 1)[j]'h1).n ((l.drop 1)[j]'h1).d).2.1, .str [], .nil]) (cs' := datC (numD ((subN a.n a.d ((l.drop 1)[j]'h1).n ((l.drop 1)[j]'h1).d).1, (subN a.n a.d ((l.drop 1)[j]'h1).n ((l.drop 1)[j]'h1).d).2.1))) numD_wk) ?_
    exact Ghost.pick
   ·have hl2 : (l.drop 1).length ≤ j := by omega
    rw [List.drop_of_length_le hl2, sumsL] at hS
    have e := congrArg (fun z : Datum => PV.agg z.cells) (ha.resolve_right (by omega))
    rw [← hS]
    exact PRet.pure (Wk.tup (.cons (Wk.eq e) (.cons (Wk.refl _) .nil)))
  ·rw [List.drop_of_length_le (by omega)] at hk
   rw [if_neg (by rw [← hk]; simp [numsB]), if_neg (by omega), if_neg (by omega)] at hF
   rename_i b7 _
   refine PLoop.over [5, 8, 9, 10, 11, 45, 46, 47, 48, 49, 50, 51, 52, 53, 54, 55, 56, 57, 58, 59, 60, 61, 62, 63, 64, 65, 66, 67, 68, 69, 70, 71, 72, 73, 74, 75, 76, 77, 78, 79, 80, 81, 82, 83, 84, 85, 86, 87, 88, 89, 90, 91, 92, 93, 94, 95, 96, 97, 98, 99, 100, 101, 102, 103, 104, 105, 106, 107, 108, 109, 110, 111, 112, 113, 114, 115, 116, 117, 118, 119, 120, 121, 122, 123, 124, 125, 126, 127, 128, 129, 130, 131, 132, 133, 134, 135, 136, 137, 138, 139, 140] (fun z : Nat × Datum => [(8, .int .i64 z.1)]) (fun z : Nat × Datum => [.box b7 (datC z.2), .box b4 [.int .i64 0, .int .i64 0, .int .i64 0, .str [], .nil]]) (fun z => z.1 ≤ (l).length ∧ (z.2 = numD (z.2.n, z.2.d) ∨ z.1 < (l).length) ∧ sumsL 1 ((l).drop z.1) (z.2.n, z.2.d) = sumsF 1 l) (fun z => (l).length - z.1) (0, numD (0, 1)) ⟨Nat.zero_le _, .inl rfl, hF.symm⟩ wA ?_
   rintro ⟨j, a⟩ ⟨hj, ha, hS⟩
   dsimp only at hj ha hS ⊢
   conv => whnf
   repeat' (first|refine aA2 ?_|((first|((apply zZ);(conv=>whnf);(repeat ((refine pC (sub1_c _ _ _ _) wR ?_);conv=>whnf));exact pZ)|refine drMf05aa ?_|intro _);conv=>whnf)|(refine zX (fun hc=>?_) (fun hc=>?_)<;>(try simp only [SY] at hc)<;>first|omega|(conv=>whnf)))
   ·have h1 : j < (l).length := by omega
    have he : (opN 1 (a.n, a.d) (((l)[j]'h1).n, ((l)[j]'h1).d)).2.2 ≠ 0 := by exact hc
    rw [drop_at h1, sumsL, if_pos he] at hS
    rw [← hS]
    exact PRet.pure (Wk.tup (.cons DatOf.wk (.cons (by exact Wk.refl _) .nil)))
   ·have h1 : j < (l).length := by omega
    have he : ¬(opN 1 (a.n, a.d) (((l)[j]'h1).n, ((l)[j]'h1).d)).2.2 ≠ 0 := by exact fun h => h hc
    rw [drop_at h1, sumsL, if_neg he] at hS
    refine LoopTo.gh (j + 1, numD ((subN a.n a.d ((l)[j]'h1).n ((l)[j]'h1).d).1, (subN a.n a.d ((l)[j]'h1).n ((l)[j]'h1).d).2.1)) ⟨by show j + 1 ≤ _; omega, .inl rfl, hS⟩ (by show (l).length - (j + 1) < (l).length - j; omega) wA ?_
    refine Ghost.trans (Ghost.box (b := b7) (cs := [.int .i64 0, .int .i64 (subN a.n a.d ((l)[j]'h1).n ((l)[j]'h1).d).1, .int .i64 (subN a.n a.d ((l)[j]'h1).n ((l)[j]'h1).d).2.1, .str [], .nil]) (cs' := datC (numD ((subN a.n a.d ((l)[j]'h1).n ((l)[j]'h1).d).1, (subN a.n a.d ((l)[j]'h1).n ((l)[j]'h1).d).2.1))) numD_wk) ?_
    exact Ghost.pick
   ·have hl2 : (l).length ≤ j := by omega
    rw [List.drop_of_length_le hl2, sumsL] at hS
    have e := congrArg (fun z : Datum => PV.agg z.cells) (ha.resolve_right (by omega))
    rw [← hS]
    exact PRet.pure (Wk.tup (.cons (Wk.eq e) (.cons (Wk.refl _) .nil)))
 ·have hF : sumsF 2 l = sumsF 2 l := rfl
  conv at hF => rhs; unfold sumsF
  refine ACall.of_body tt_ok Tryz.func202 rfl rfl (n := 142) rfl rfl ?_
  conv => whnf
  repeat' (first|((intro _);conv=>whnf)|(refine zX (fun hc=>?_) (fun hc=>?_)<;>(try simp only [SY] at hc)<;>omega))
  rename_i b4
  refine PLoop.keep [5, 6, 12, 13, 14, 15, 16, 17, 18, 19, 20, 21, 22, 23, 24] (fun i : Nat => [(6, .int .i64 i)]) (fun i => i ≤ l.length ∧ numsB (l.drop i) = numsB l) (fun i => l.length - i) 0 ⟨Nat.zero_le _, rfl⟩ wA ?_
  rintro i ⟨hi, hk⟩
  conv => whnf
  repeat' (first|refine aA2 ?_|((first|refine pC (number05_c _) wR ?_|intro _);conv=>whnf)|(refine zX (fun hc=>?_) (fun hc=>?_)<;>(try simp only [SY] at hc)<;>first|omega|(conv=>whnf)))
  ·rw [drop_at (show i < l.length by omega), numsB, List.all_cons, beq_eq_false_iff_ne.2 hc, Bool.false_and] at hk
   rw [hF, if_pos hk.symm]
   exact PRet.pure wA
  ·rw [drop_at (show i < l.length by omega), numsB, List.all_cons, beq_iff_eq.2 hc, Bool.true_and] at hk
   exact loopTo (i + 1) ⟨by omega, hk⟩ (by show l.length - (i + 1) < l.length - i; omega) wA
  ·rw [List.drop_of_length_le (by omega)] at hk
   rw [if_neg (by rw [← hk]; simp [numsB]), if_neg (by omega), if_pos (by omega)] at hF
   rename_i b7 _
   refine PLoop.over [5, 8, 9, 10, 11, 45, 46, 47, 48, 49, 50, 51, 52, 53, 54, 55, 56, 57, 58, 59, 60, 61, 62, 63, 64, 65, 66, 67, 68, 69, 70, 71, 72, 73, 74, 75, 76, 77, 78, 79, 80, 81, 82, 83, 84, 85, 86, 87, 88, 89, 90, 91, 92, 93, 94, 95, 96, 97, 98, 99, 100, 101, 102, 103, 104, 105, 106, 107, 108, 109, 110, 111, 112, 113, 114, 115, 116, 117, 118, 119, 120, 121, 122, 123, 124, 125, 126, 127, 128, 129, 130, 131, 132, 133, 134, 135, 136, 137, 138, 139, 140] (fun z : Nat × Datum => [(8, .int .i64 z.1)]) (fun z : Nat × Datum => [.box b7 (datC z.2), .box b4 [.int .i64 0, .int .i64 0, .int .i64 0, .str [], .nil]]) (fun z => z.1 ≤ (l).length ∧ (z.2 = numD (z.2.n, z.2.d) ∨ z.1 < (l).length) ∧ sumsL 2 ((l).drop z.1) (z.2.n, z.2.d) = sumsF 2 l) (fun z => (l).length - z.1) (0, numD (1, 1)) ⟨Nat.zero_le _, .inl rfl, hF.symm⟩ wA ?_
   rintro ⟨j, a⟩ ⟨hj, ha, hS⟩
   dsimp only at hj ha hS ⊢
   conv => whnf
   repeat' (first|refine aA2 ?_|((first|((apply zZ);(conv=>whnf);(repeat ((refine pC (mul1_c _ _ _ _) wR ?_);conv=>whnf));exact pZ)|refine drMf05aa ?_|intro _);conv=>whnf)|(refine zX (fun hc=>?_) (fun hc=>?_)<;>(try simp only [SY] at hc)<;>first|omega|(conv=>whnf)))
   ·have h1 : j < (l).length := by omega
    have he : (opN 2 (a.n, a.d) (((l)[j]'h1).n, ((l)[j]'h1).d)).2.2 ≠ 0 := by exact hc
    rw [drop_at h1, sumsL, if_pos he] at hS
    rw [← hS]
    exact PRet.pure (Wk.tup (.cons DatOf.wk (.cons (by exact Wk.refl _) .nil)))
   ·have h1 : j < (l).length := by omega
    have he : ¬(opN 2 (a.n, a.d) (((l)[j]'h1).n, ((l)[j]'h1).d)).2.2 ≠ 0 := by exact fun h => h hc
    rw [drop_at h1, sumsL, if_neg he] at hS
    refine LoopTo.gh (j + 1, numD ((mulN a.n a.d ((l)[j]'h1).n ((l)[j]'h1).d).1, (mulN a.n a.d ((l)[j]'h1).n ((l)[j]'h1).d).2.1)) ⟨by show j + 1 ≤ _; omega, .inl rfl, hS⟩ (by show (l).length - (j + 1) < (l).length - j; omega) wA ?_
    refine Ghost.trans (Ghost.box (b := b7) (cs := [.int .i64 0, .int .i64 (mulN a.n a.d ((l)[j]'h1).n ((l)[j]'h1).d).1, .int .i64 (mulN a.n a.d ((l)[j]'h1).n ((l)[j]'h1).d).2.1, .str [], .nil]) (cs' := datC (numD ((mulN a.n a.d ((l)[j]'h1).n ((l)[j]'h1).d).1, (mulN a.n a.d ((l)[j]'h1).n ((l)[j]'h1).d).2.1))) numD_wk) ?_
    exact Ghost.pick
   ·have hl2 : (l).length ≤ j := by omega
    rw [List.drop_of_length_le hl2, sumsL] at hS
    have e := congrArg (fun z : Datum => PV.agg z.cells) (ha.resolve_right (by omega))
    rw [← hS]
    exact PRet.pure (Wk.tup (.cons (Wk.eq e) (.cons (Wk.refl _) .nil)))
 ·have hF : sumsF 3 l = sumsF 3 l := rfl
  conv at hF => rhs; unfold sumsF
  refine ACall.of_body tt_ok Tryz.func202 rfl rfl (n := 142) rfl rfl ?_
  conv => whnf
  repeat' (first|((intro _);conv=>whnf)|(refine zX (fun hc=>?_) (fun hc=>?_)<;>(try simp only [SY] at hc)<;>omega))
  rename_i b4
  refine PLoop.keep [5, 6, 12, 13, 14, 15, 16, 17, 18, 19, 20, 21, 22, 23, 24] (fun i : Nat => [(6, .int .i64 i)]) (fun i => i ≤ l.length ∧ numsB (l.drop i) = numsB l) (fun i => l.length - i) 0 ⟨Nat.zero_le _, rfl⟩ wA ?_
  rintro i ⟨hi, hk⟩
  conv => whnf
  repeat' (first|refine aA2 ?_|((first|refine pC (number05_c _) wR ?_|intro _);conv=>whnf)|(refine zX (fun hc=>?_) (fun hc=>?_)<;>(try simp only [SY] at hc)<;>first|omega|(conv=>whnf)))
  ·rw [drop_at (show i < l.length by omega), numsB, List.all_cons, beq_eq_false_iff_ne.2 hc, Bool.false_and] at hk
   rw [hF, if_pos hk.symm]
   exact PRet.pure wA
  ·rw [drop_at (show i < l.length by omega), numsB, List.all_cons, beq_iff_eq.2 hc, Bool.true_and] at hk
   exact loopTo (i + 1) ⟨by omega, hk⟩ (by show l.length - (i + 1) < l.length - i; omega) wA
  ·rw [List.drop_of_length_le (by omega)] at hk
   rw [if_neg (by rw [← hk]; simp [numsB]), if_pos (by omega)] at hF
   rename_i b7 _
   have hg : l.getD 0 nulD = l[0]'(by omega) := datD_get (by omega)
   rw [hg] at hF
   refine PLoop.over [5, 8, 9, 10, 11, 45, 46, 47, 48, 49, 50, 51, 52, 53, 54, 55, 56, 57, 58, 59, 60, 61, 62, 63, 64, 65, 66, 67, 68, 69, 70, 71, 72, 73, 74, 75, 76, 77, 78, 79, 80, 81, 82, 83, 84, 85, 86, 87, 88, 89, 90, 91, 92, 93, 94, 95, 96, 97, 98, 99, 100, 101, 102, 103, 104, 105, 106, 107, 108, 109, 110, 111, 112, 113, 114, 115, 116, 117, 118, 119, 120, 121, 122, 123, 124, 125, 126, 127, 128, 129, 130, 131, 132, 133, 134, 135, 136, 137, 138, 139, 140] (fun z : Nat × Datum => [(8, .int .i64 z.1)]) (fun z : Nat × Datum => [.box b7 (datC z.2), .box b4 [.int .i64 0, .int .i64 0, .int .i64 0, .str [], .nil]]) (fun z => z.1 ≤ (l.drop 1).length ∧ (z.2 = numD (z.2.n, z.2.d) ∨ z.1 < (l.drop 1).length) ∧ sumsL 3 ((l.drop 1).drop z.1) (z.2.n, z.2.d) = sumsF 3 l) (fun z => (l.drop 1).length - z.1) (0, l[0]'(by omega)) ⟨Nat.zero_le _, .inr (by show 0 < (l.drop 1).length; rw [List.length_drop]; omega), hF.symm⟩ wA ?_
   rintro ⟨j, a⟩ ⟨hj, ha, hS⟩
   dsimp only at hj ha hS ⊢
   conv => whnf
   repeat' (first|refine aA2 ?_|((first|((apply zZ);(conv=>whnf);(repeat ((refine pC (div1_c _ _ _ _) wR ?_);conv=>whnf));exact pZ)|refine drMf05aa ?_|intro _);conv=>whnf)|(refine zX (fun hc=>?_) (fun hc=>?_)<;>(try simp only [SY] at hc)<;>first|omega|(conv=>whnf)))
   ·have h1 : j < (l.drop 1).length := by omega
    have he : (opN 3 (a.n, a.d) (((l.drop 1)[j]'h1).n, ((l.drop 1)[j]'h1).d)).2.2 ≠ 0 := by exact hc
    rw [drop_at h1, sumsL, if_pos he] at hS
    rw [← hS]
    exact PRet.pure (Wk.tup (.cons DatOf.wk (.cons (by exact Wk.refl _) .nil)))
   ·have h1 : j < (l.drop 1).length := by omega
    have he : ¬(opN 3 (a.n, a.d) (((l.drop 1)[j]'h1).n, ((l.drop 1)[j]'h1).d)).2.2 ≠ 0 := by exact fun h => h hc
    rw [drop_at h1, sumsL, if_neg he] at hS
    refine LoopTo.gh (j + 1, numD ((divN a.n a.d ((l.drop 1)[j]'h1).n ((l.drop 1)[j]'h1).d).1, (divN a.n a.d ((l.drop 1)[j]'h1).n ((l.drop 1)[j]'h1).d).2.1)) ⟨by show j + 1 ≤ _; omega, .inl rfl, hS⟩ (by show (l.drop 1).length - (j + 1) < (l.drop 1).length - j; omega) wA ?_
    refine Ghost.trans (Ghost.box (b := b7) (cs := [.int .i64 0, .int .i64 (divN a.n a.d ((l.drop 1)[j]'h1).n ((l.drop 1)[j]'h1).d).1, .int .i64 (divN a.n a.d ((l.drop 1)[j]'h1).n ((l.drop 1)[j]'h1).d).2.1, .str [], .nil]) (cs' := datC (numD ((divN a.n a.d ((l.drop 1)[j]'h1).n ((l.drop 1)[j]'h1).d).1, (divN a.n a.d ((l.drop 1)[j]'h1).n ((l.drop 1)[j]'h1).d).2.1))) numD_wk) ?_
    exact Ghost.pick
   ·have hl2 : (l.drop 1).length ≤ j := by omega
    rw [List.drop_of_length_le hl2, sumsL] at hS
    have e := congrArg (fun z : Datum => PV.agg z.cells) (ha.resolve_right (by omega))
    rw [← hS]
    exact PRet.pure (Wk.tup (.cons (Wk.eq e) (.cons (Wk.refl _) .nil)))
  ·rw [List.drop_of_length_le (by omega)] at hk
   rw [if_neg (by rw [← hk]; simp [numsB]), if_neg (by omega), if_pos (by omega)] at hF
   rename_i b7 _
   refine PLoop.over [5, 8, 9, 10, 11, 45, 46, 47, 48, 49, 50, 51, 52, 53, 54, 55, 56, 57, 58, 59, 60, 61, 62, 63, 64, 65, 66, 67, 68, 69, 70, 71, 72, 73, 74, 75, 76, 77, 78, 79, 80, 81, 82, 83, 84, 85, 86, 87, 88, 89, 90, 91, 92, 93, 94, 95, 96, 97, 98, 99, 100, 101, 102, 103, 104, 105, 106, 107, 108, 109, 110, 111, 112, 113, 114, 115, 116, 117, 118, 119, 120, 121, 122, 123, 124, 125, 126, 127, 128, 129, 130, 131, 132, 133, 134, 135, 136, 137, 138, 139, 140] (fun z : Nat × Datum => [(8, .int .i64 z.1)]) (fun z : Nat × Datum => [.box b7 (datC z.2), .box b4 [.int .i64 0, .int .i64 0, .int .i64 0, .str [], .nil]]) (fun z => z.1 ≤ (l).length ∧ (z.2 = numD (z.2.n, z.2.d) ∨ z.1 < (l).length) ∧ sumsL 3 ((l).drop z.1) (z.2.n, z.2.d) = sumsF 3 l) (fun z => (l).length - z.1) (0, numD (1, 1)) ⟨Nat.zero_le _, .inl rfl, hF.symm⟩ wA ?_
   rintro ⟨j, a⟩ ⟨hj, ha, hS⟩
   dsimp only at hj ha hS ⊢
   conv => whnf
   repeat' (first|refine aA2 ?_|((first|((apply zZ);(conv=>whnf);(repeat ((refine pC (div1_c _ _ _ _) wR ?_);conv=>whnf));exact pZ)|refine drMf05aa ?_|intro _);conv=>whnf)|(refine zX (fun hc=>?_) (fun hc=>?_)<;>(try simp only [SY] at hc)<;>first|omega|(conv=>whnf)))
   ·have h1 : j < (l).length := by omega
    have he : (opN 3 (a.n, a.d) (((l)[j]'h1).n, ((l)[j]'h1).d)).2.2 ≠ 0 := by exact hc
    rw [drop_at h1, sumsL, if_pos he] at hS
    rw [← hS]
    exact PRet.pure (Wk.tup (.cons DatOf.wk (.cons (by exact Wk.refl _) .nil)))
   ·have h1 : j < (l).length := by omega
    have he : ¬(opN 3 (a.n, a.d) (((l)[j]'h1).n, ((l)[j]'h1).d)).2.2 ≠ 0 := by exact fun h => h hc
    rw [drop_at h1, sumsL, if_neg he] at hS
    refine LoopTo.gh (j + 1, numD ((divN a.n a.d ((l)[j]'h1).n ((l)[j]'h1).d).1, (divN a.n a.d ((l)[j]'h1).n ((l)[j]'h1).d).2.1)) ⟨by show j + 1 ≤ _; omega, .inl rfl, hS⟩ (by show (l).length - (j + 1) < (l).length - j; omega) wA ?_
    refine Ghost.trans (Ghost.box (b := b7) (cs := [.int .i64 0, .int .i64 (divN a.n a.d ((l)[j]'h1).n ((l)[j]'h1).d).1, .int .i64 (divN a.n a.d ((l)[j]'h1).n ((l)[j]'h1).d).2.1, .str [], .nil]) (cs' := datC (numD ((divN a.n a.d ((l)[j]'h1).n ((l)[j]'h1).d).1, (divN a.n a.d ((l)[j]'h1).n ((l)[j]'h1).d).2.1))) numD_wk) ?_
    exact Ghost.pick
   ·have hl2 : (l).length ≤ j := by omega
    rw [List.drop_of_length_le hl2, sumsL] at hS
    have e := congrArg (fun z : Datum => PV.agg z.cells) (ha.resolve_right (by omega))
    rw [← hS]
    exact PRet.pure (Wk.tup (.cons (Wk.eq e) (.cons (Wk.refl _) .nil)))
end Go.Cb





