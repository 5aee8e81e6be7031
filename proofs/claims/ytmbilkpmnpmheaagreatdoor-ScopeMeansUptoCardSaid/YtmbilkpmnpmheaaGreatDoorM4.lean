/-
 Plain law: a program's term, and the document's: where no name is lost they are the same.
 Plain law: the document's reading goes on, and needs no more fuel than there are bytes.
 Drawn regions in two stages: stable operations, a chain, stable operations, a chain.
 Calls among entries that end in entries unknown.
 Drawn regions with allocations that may come at any time.
 Indices within bounds by a condition.
 More for the walk: elements within bounds on a condition; what values are as data; appends.
 Contracts: the document's reader: blanks, marks, failure.
 Appends onto rows of one's own; maps from numbers.
 Contracts: the document's reader: lists, data.
 Contracts: the document's core data.
 Contracts: the document's core data: what is one.
 Contracts: the document's reader: all up to a closing bracket.
 Contracts: the document's reader: what stands behind a #, data, texts.
 Contracts: the document's expander: names, lists.
 Contracts: the document's maker of terms: names, lists.
 Drawn regions with two effects that no order binds to one another: both orders are walked.
 Drawn regions with a read that no order binds to two effects: it is walked at each place.
 Drawn regions whose effects may come in several orders: a tree of what may come next.
 Contracts: the document's maker of terms: binding.
 Contracts: primitives' facts and numbers, of the document.
-/
import Derived.Test.YtmbilkpmnpmheaaGreatDoorM3
set_option linter.unusedSimpArgs false
set_option linter.unusedVariables false
namespace Go.Cb
open Go.Proofs
set_option maxRecDepth 100000
set_option maxHeartbeats 4000000
theorem allR_lost {tm : Datum → Env → RsS → RsR} (h : ∀ x e s, s.lost = true → (tm x e s).2.lost = true) : ∀ (l : List Datum) (e : Env) (s : RsS), s.lost = true → (allR tm l e s).2.lost = true
 | [], _, s, hs => hs
 | x :: l, e, s, hs => allR_lost h l e _ (h x e s hs)
theorem TF_lost (nf : Int) : ∀ (n : Nat) (d : Datum) (e : Env) (s : RsS), s.lost = true → (TF nf n d e s).2.lost = true
 | 0, _, _, _, hs => hs
 | n + 1, d, e, s, hs => by
  have ih := allR_lost (TF_lost nf n)
  rw [TF]
  dsimp only
  split
  ·split
   ·exact hs
   ·split
    ·exact hs
    ·rfl
  split
  ·split
   ·exact hs
   split
   ·exact ih _ _ _ hs
   split
   ·exact ih _ _ _ hs
   split
   ·exact ih _ _ _ hs
   split
   ·exact ih _ _ _ hs
   split
   ·split
    ·exact ih _ _ _ hs
    ·exact ih _ _ _ rfl
   ·exact ih _ _ _ hs
  ·exact ih _ _ _ hs
def SameR (a b : Datum → Env → RsS → RsR) : Prop := ∀ d e s, (a d e s).2 = (b d e s).2 ∧ ((a d e s).2.lost = false → (a d e s).1 = (b d e s).1)
theorem allR_same {a b : Datum → Env → RsS → RsR} (h : SameR a b) (hl : ∀ x e s, s.lost = true → (a x e s).2.lost = true) : ∀ (l : List Datum) (e : Env) (s : RsS),
  (allR a l e s).2 = (allR b l e s).2 ∧ ((allR a l e s).2.lost = false → (allR a l e s).1 = (allR b l e s).1)
 | [], _, _ => ⟨rfl, fun _ => rfl⟩
 | x :: l, e, s => by
  obtain ⟨h1, h2⟩ := h x e s
  obtain ⟨h3, h4⟩ := allR_same h hl l e (a x e s).2
  simp only [allR]
  rw [← h1]
  refine ⟨h3, fun hf => ?_⟩
  have hx : (a x e s).2.lost = false := by
   cases hb : (a x e s).2.lost with
   | false => rfl
   | true => rw [allR_lost hl l e _ hb] at hf; cases hf
  rw [h2 hx, h4 hf]
theorem TF_same (n1 n2 : Int) : ∀ n : Nat, SameR (TF n1 n) (TF n2 n)
 | 0, _, _, _ => ⟨rfl, fun _ => rfl⟩
 | n + 1, d, e, s => by
  have ih := allR_same (TF_same n1 n2 n) (TF_lost n1 n)
  rw [TF, TF]
  dsimp only
  split
  ·split
   ·exact ⟨rfl, fun _ => rfl⟩
   ·split
    ·exact ⟨rfl, fun _ => rfl⟩
    ·exact ⟨rfl, fun _ => rfl⟩
  split
  ·split
   ·exact ⟨rfl, fun _ => rfl⟩
   split
   ·exact ⟨(ih _ _ _).1, fun h => by rw [(ih _ _ _).2 h]⟩
   split
   ·exact ⟨(ih _ _ _).1, fun h => by rw [(ih _ _ _).2 h]⟩
   split
   ·exact ⟨(ih _ _ _).1, fun h => by rw [(ih _ _ _).2 h]⟩
   split
   ·exact ⟨(ih _ _ _).1, fun h => by rw [(ih _ _ _).2 h]⟩
   split
   ·split
    ·exact ⟨(ih _ _ _).1, fun h => by rw [(ih _ _ _).2 h]⟩
    ·exact ⟨(ih _ _ _).1, fun h => by rw [allR_lost (TF_lost n1 n) _ _ _ rfl] at h; cases h⟩
   ·exact ⟨(ih _ _ _).1, fun h => by rw [(ih _ _ _).2 h]⟩
  ·exact ⟨(ih _ _ _).1, fun h => by rw [(ih _ _ _).2 h]⟩
abbrev zerT : Trm := .mk 0 0 [] []
structure RsO where
 p : Prog
 e : Int
def resF (ok : Prog → Bool) (nf : Int) (d : Datum) : RsO :=
 if coreD d = false then ⟨⟨[], zerT⟩, 3⟩ else
 let r := TF nf d.sz d [] ⟨[], 0, false⟩
 if r.2.lost = true then ⟨⟨[], zerT⟩, 4⟩ else
 if ok ⟨r.2.cs, r.1⟩ = false then ⟨⟨[], zerT⟩, 3⟩ else ⟨⟨r.2.cs, r.1⟩, 0⟩
theorem resF_same (ok : Prog → Bool) (n1 n2 : Int) (d : Datum) : resF ok n1 d = resF ok n2 d := by
 obtain ⟨h1, h2⟩ := TF_same n1 n2 d.sz d [] ⟨[], 0, false⟩
 unfold resF
 dsimp only
 rw [← h1]
 split
 ·rfl
 ·split
  ·rfl
  ·rename_i hl
   rw [h2 (by simpa using hl)]
end Go.Cb
namespace Go.Cb
open Go.Proofs
set_option maxRecDepth 100000
set_option maxHeartbeats 4000000
def OkR (s : List UInt8) (k : Nat) (r : Nat × Int) : Prop := r.1 ≤ s.length ∧ ((r.2 = -1 ∧ k < r.1) ∨ 0 ≤ r.2)
theorem OkR.mono {s : List UInt8} {k j : Nat} {r : Nat × Int} (h : OkR s j r) (hk : k ≤ j) : OkR s k r := ⟨h.1, h.2.imp (fun h => ⟨h.1, by omega⟩) id⟩
theorem OkR.fail {s : List UInt8} {k j i : Nat} (h : j ≤ s.length) : OkR s k (j, (i : Int)) := ⟨h, .inr (Int.natCast_nonneg _)⟩
theorem OkR.ok {s : List UInt8} {k j : Nat} (h : j ≤ s.length) (h2 : k < j) : OkR s k (j, -1) := ⟨h, .inl ⟨rfl, h2⟩⟩
theorem wordF_ok {s : List UInt8} {k : Nat} (h : k < s.length) (hm : markR (s.getD k 0) = true) : OkR s k (wordF s k).2 := by
 have h1 := wordE_le (s := s) (k := k + 1) (by omega)
 have h2 : wordE s k = wordE s (k + 1) := by rw [wordE_at h, if_pos hm]
 unfold wordF
 dsimp only
 split
 ·exact .ok (by omega) (by omega)
 ·split
  ·exact .fail (by omega)
  ·exact .ok (by omega) (by omega)
theorem textF_ok {s : List UInt8} {k : Nat} (h : k < s.length) : OkR s k (textF s k).2 := by
 have h1 := textE_le (s := s) (k := k + 1) (by omega)
 unfold textF
 dsimp only
 split
 ·exact .ok (by omega) (by omega)
 ·exact .fail (by omega)
theorem RF_pos (s : List UInt8) : ∀ n, (∀ k, k ≤ s.length → OkR s k ((RF s n).1 k).2) ∧ ∀ pair k l e, k ≤ s.length → OkR s k ((RF s n).2 pair k l e).2
 | 0 => ⟨fun k h => .fail h, fun pair k l e h => .fail h⟩
 | n + 1 => by
  obtain ⟨h1, h2⟩ := RF_pos s n
  constructor
  ·intro k hk
   rw [RF]
   dsimp only
   have hn : k ≤ nxtF s k ∧ nxtF s k ≤ s.length := nextF_le s (s.length + 1) k hk
   generalize nxtF s k = k' at *
   split
   ·exact .fail hn.2
   have hl : k' < s.length := by omega
   have hb : byteF s k' = s.getD k' 0 := if_pos hl
   rw [hb]
   split
   ·rename_i hm; exact (wordF_ok hl hm).mono hn.1
   split
   ·exact (textF_ok hl).mono hn.1
   split
   ·exact (h1 (k' + 1) (by omega)).mono (by omega)
   split
   ·split
    ·exact .fail (by omega)
    split
    ·exact .ok (by omega) (by omega)
    split
    ·exact .ok (by omega) (by omega)
    split
    ·exact .ok (by omega) (by omega)
    split
    ·exact (h2 false (k' + 2) [] nulD (by omega)).mono (by omega)
    ·exact .fail (by omega)
   split
   ·exact (h2 true (k' + 1) [] nulD (by omega)).mono (by omega)
   ·exact .fail (by omega)
  ·intro pair k l e hk
   rw [RF]
   dsimp only
   have hn : k ≤ nxtF s k ∧ nxtF s k ≤ s.length := nextF_le s (s.length + 1) k hk
   generalize nxtF s k = k' at *
   have hb : byteF s k' ≠ 0 → k' < s.length := fun h => by
    unfold byteF at h
    split at h
    ·assumption
    ·exact absurd rfl h
   split
   ·rename_i h
    have := hb (by rw [h]; decide)
    exact .ok (by omega) (by omega)
   split
   ·rename_i h
    have := hb (by rw [h.1]; decide)
    have h3 := h1 (k' + 1) (by omega)
    split
    ·rename_i h4
     have h5 : ((RF s n).1 (k' + 1)).2.1 ≤ nxtF s ((RF s n).1 (k' + 1)).2.1 ∧ nxtF s ((RF s n).1 (k' + 1)).2.1 ≤ s.length := nextF_le s (s.length + 1) _ h3.1
     have h6 : k' + 1 < ((RF s n).1 (k' + 1)).2.1 := by
      rcases h3.2 with h6 | h6
      ·exact h6.2
      ·omega
     split
     ·exact (h2 pair _ _ _ h5.2).mono (by omega)
     ·exact .fail h5.2
    ·exact h3.mono (by omega)
   ·have h3 := h1 k' hn.2
    split
    ·rename_i h4
     have h6 : k' < ((RF s n).1 k').2.1 := by
      rcases h3.2 with h6 | h6
      ·exact h6.2
      ·omega
     exact (h2 pair _ _ _ h3.1).mono (by omega)
    ·exact h3.mono (by omega)
end Go.Cb
namespace Go.Cb
open Go.RowKit (Below)
set_option maxRecDepth 100000
set_option maxHeartbeats 4000000
section
variable {P : Program} {tt : Nat → TI}
structure Split0 (ops : Array Oper) (tab : List Nat) (A R1 R2 : List Nat) : Prop where
 pa : A.Pairwise fun j i => anc tab i j = true ∨ apartAt ops j i = true
 par : ∀ j ∈ A, ∀ i ∈ R1, anc tab i j = true ∨ apartAt ops j i = true
 r1 : R1.Pairwise fun j i => anc tab i j = true
 tl : ∀ j ∈ A ++ R1, ∀ i ∈ R2, anc tab i j = true
 ug : ∀ i ∈ R1, ∀ o, ops[i]? = some o → o.guard = none
 nd : ∀ i ∈ R1, ∀ o, ops[i]? = some o → noDef o.op = true
theorem Split0.dropA {ops : Array Oper} {tab A1 A2 R1 R2 : List Nat} {i : Nat} (h : Split0 ops tab (A1 ++ i :: A2) R1 R2) : Split0 ops tab (A1 ++ A2) R1 R2 := by
 have hs : List.Sublist (A1 ++ A2) (A1 ++ i :: A2) := List.Sublist.append (List.Sublist.refl _) (List.sublist_cons_self _ _)
 refine ⟨h.pa.sublist hs, fun j hj => h.par j (hs.subset hj), h.r1, fun j hj => h.tl j ?_, h.ug, h.nd⟩
 ·exact (List.Sublist.append hs (List.Sublist.refl R1)).subset hj
theorem Split0.dropR {ops : Array Oper} {tab A R1 R2 : List Nat} {i : Nat} (h : Split0 ops tab A (i :: R1) R2) : Split0 ops tab A R1 R2 := by
 have hs : List.Sublist (A ++ R1) (A ++ i :: R1) := List.Sublist.append (List.Sublist.refl _) (List.sublist_cons_self _ _)
 exact ⟨h.pa, fun j hj i hi => h.par j hj i (by simp [hi]), (List.pairwise_cons.1 h.r1).2, fun j hj => h.tl j (hs.subset hj), fun j hj => h.ug j (by simp [hj]), fun j hj => h.nd j (by simp [hj])⟩
theorem game0 (hk : TT.ok P tt) (rd : Option Nat) (nn : Nat) {ops : Array Oper} {tab R2 : List Nat} (hc : tabChk ops tab = true) {w0 : World} {M Γ2 : List Ent} {F0 : Fz} {ds : List Deferred} {Q' : Exit → Act → World → Prop}
  {Tl : List PV → List Ent → Prop} (hTl : ∀ (fuel : Nat) (listed : Array Bool) (T : List PV) (Γ : List Ent) (F : Fz) (a : Act) (w : World), R2.length ≤ fuel → Down ops listed → Pend ops listed R2 → F0.le F → Sim w0 F (Γ ++ M) w → RepT F T a.tmps.toList → a.defers = ds →
   Tl T Γ → wpAnyIn (Fen rd) nn P .any ops Q' fuel listed a w) :
  ∀ (n : Nat) (A R1 : List Nat) (fuel : Nat) (listed : Array Bool) (T : List PV) (Γ1 : List Ent) (F : Fz) (a : Act) (w : World), A.length + R1.length = n → n + R2.length ≤ fuel →
   Down ops listed → Pend ops listed (A ++ (R1 ++ R2)) → Split0 ops tab A R1 R2 → F0.le F → Sim w0 F (Γ1 ++ (Γ2 ++ M)) w → RepT F T a.tmps.toList → a.defers = ds →
   (SSeq P tt ops.toList (A.filterMap (ops[·]?)) T Γ2 fun T' => WOps P tt ops.toList (R1.filterMap (ops[·]?)) T' Γ1 [] fun T2 Γ1' _ => Tl T2 (Γ1' ++ Γ2)) →
   wpAnyIn (Fen rd) nn P .any ops Q' fuel listed a w := by
 intro n
 induction n with
 | zero =>
  intro A R1 fuel listed T Γ1 F a w hn hf hd hp hsp hle hS hT hds h
  obtain rfl : A = [] := List.eq_nil_of_length_eq_zero (by omega)
  obtain rfl : R1 = [] := List.eq_nil_of_length_eq_zero (by omega)
  exact hTl fuel listed T (Γ1 ++ Γ2) F a w (by simp at hn; omega) hd (by simpa using hp) hle (by simpa using hS) hT hds h
 | succ n ih =>
  intro A R1 fuel listed T Γ1 F a w hn hf hd hp hsp hle hS hT hds h
  cases fuel with
  | zero => omega
  | succ fuel =>
  refine ⟨fun hnil => ?_, fun i hi => ?_⟩
  ·exfalso
   cases hAR : A ++ (R1 ++ R2) with
   | nil => simp at hAR; rw [hAR.1, hAR.2.1] at hn; simp at hn
   | cons x xs =>
    rw [hAR] at hp
    obtain ⟨k, hk'⟩ := ready_exists hc hp
    rw [hnil] at hk'
    cases hk'
  ·obtain ⟨o, ho⟩ := hp.2.2 i (hp.ready hi)
   have un : ∀ {j : Nat}, j ∈ A ++ (R1 ++ R2) → anc tab i j = true → False := fun {j} hj ha => blocked hc hd i ho ha ((hp.2.1 j).2 hj) hi
   have free : ∀ {j : Nat} {x : Oper}, j ∈ A ++ (R1 ++ R2) → ops[j]? = some x → (anc tab i j = true ∨ apartAt ops j i = true) → x.apart ops o = true := by
    intro j x hj hx h
    rcases h with h | h
    ·exact (un hj h).elim
    ·simpa [apartAt, hx, ho] using h
   have hmem := hp.ready hi
   rw [List.mem_append, List.mem_append] at hmem
   rcases hmem with hm | hm | hm
   ·
    obtain ⟨A1, A2, rfl⟩ := List.append_of_mem hm
    rw [filterMap_split ho] at h
    have hap : ∀ x ∈ A1.filterMap (ops[·]?), x.apart ops o = true := by
     intro x hx
     obtain ⟨j, hj, hx⟩ := List.mem_filterMap.1 hx
     exact free (by simp [hj]) hx ((List.pairwise_append.1 hsp.pa).2.2 j hj i (by simp))
    obtain ⟨v, h1, h2⟩ := SSeq_move _ T hap h
    have hS2 : Sim w0 F (Γ2 ++ (Γ1 ++ M)) w := hS.perm (by
     rw [← List.append_assoc, ← List.append_assoc]
     exact List.perm_append_comm.append_right M)
    unfold wpOpIn
    simp only [ho]
    have key := SVal_sound hk (rd := rd) (nn := nn) (Q := Q') (next := fun a w => wpAnyIn (Fen rd) nn P .any ops Q' fuel (listed.setIfInBounds i true) a w) hS2 hT h1 ?_
    ·split at key <;> rename_i hw
     ·rw [if_pos hw]; exact key
     ·rw [if_neg hw]; exact ⟨fun _ _ => trivial, key⟩
    intro F' u w' hle' hS' hx
    refine ih (A1 ++ A2) R1 fuel _ (putT T o.dst v) Γ1 F' _ w' (by simp at hn ⊢; omega) (by omega) (hd.set hi) ?_ hsp.dropA (Fz.le_trans hle hle') ?_ (put_rep (RepT.mono hle' _ _ hT) hx o.dst)
     ((put_defers a o.dst u).trans hds) ?_
    ·have := Pend.set (l1 := A1) (l2 := A2 ++ (R1 ++ R2)) (i := i) (by simpa using hp)
     rwa [List.append_assoc]
    ·exact hS'.perm (by
      rw [← List.append_assoc, ← List.append_assoc]
      exact List.perm_append_comm.append_right M)
    ·rw [List.filterMap_append]; exact h2
   ·
    cases R1 with
    | nil => cases hm
    | cons r R1 =>
     rcases List.mem_cons.1 hm with hir | hir
     ·subst hir
      have hg : o.guard = none := hsp.ug i (by simp) o ho
      have e1 : (i :: R1).filterMap (ops[·]?) = o :: R1.filterMap (ops[·]?) := by rw [List.filterMap_cons, ho]
      rw [e1] at h
      have hap : ∀ x ∈ A.filterMap (ops[·]?), x.apart ops o = true := by
       intro x hx
       obtain ⟨j, hj, hx⟩ := List.mem_filterMap.1 hx
       exact free (by simp [hj]) hx (hsp.par j hj i (by simp))
      have h2 := SSeq_eff (kk := fun T' Γ1' => WOps P tt ops.toList (R1.filterMap (ops[·]?)) T' Γ1' [] fun T2 Γ1' _ => Tl T2 (Γ1' ++ Γ2)) _ T hap (by
       have hnd := hsp.nd i (by simp) o ho
       simpa only [WOps, hg, WOpD_noDef hnd, putK_T] using h)
      unfold wpOpIn
      simp only [ho]
      rw [if_pos (by simp [Region.wanted, hg])]
      refine WOp_sound hk (M := Γ2 ++ M) hS hT h2 ?_
      rintro F' x Γ' v' w' hle' hS' hx hK
      refine ih A R1 fuel _ (putT T o.dst x) Γ' F' _ w' (by simp at hn ⊢; omega) (by omega) (hd.set hi) ?_ hsp.dropR (Fz.le_trans hle hle') hS' (put_rep (RepT.mono hle' _ _ hT) hx o.dst)
       ((put_defers a o.dst v').trans hds) hK
      have := Pend.set (l1 := A) (l2 := R1 ++ R2) (i := i) (by simpa using hp)
      simpa using this
     ·exact (un (j := r) (by simp) ((List.pairwise_cons.1 hsp.r1).1 i hir)).elim
   ·
    exfalso
    cases A with
    | cons j A => exact un (j := j) (by simp) (hsp.tl j (by simp) i hm)
    | nil =>
     cases R1 with
     | cons j R1 => exact un (j := j) (by simp) (hsp.tl j (by simp) i hm)
     | nil => simp at hn
def split2B (ops : Array Oper) (tab A R1 B R2 : List Nat) : Bool :=
 tabChk ops tab &&
 pairB (fun j i => anc tab i j || apartAt ops j i) A && A.all (fun j => R1.all fun i => anc tab i j || apartAt ops j i) &&
 pairB (fun j i => anc tab i j) R1 && (A ++ R1).all (fun j => (B ++ R2).all fun i => anc tab i j) &&
 R1.all (fun i => match ops[i]? with | some o => o.guard.isNone | none => false) && (R1 ++ R2).all (fun i => match ops[i]? with | some o => noDef o.op | none => false) &&
 pairB (fun j i => anc tab i j || apartAt ops j i) B && pairB (fun j i => anc tab i j) R2 && B.all (fun j => R2.all fun i => anc tab i j) &&
 pairB (fun j i => !(Nat.beq j i)) (A ++ (R1 ++ (B ++ R2))) && (List.range ops.size).all (fun i => (A ++ (R1 ++ (B ++ R2))).contains i) && (A ++ (R1 ++ (B ++ R2))).all (fun i => Nat.blt i ops.size)
theorem Split0.of {ops : Array Oper} {tab A R1 B R2 : List Nat} (h : split2B ops tab A R1 B R2 = true) :
  tabChk ops tab = true ∧ Split0 ops tab A R1 (B ++ R2) ∧ Split ops tab B [] R2 ∧ Pend ops (Array.replicate ops.size false) (A ++ (R1 ++ (B ++ R2))) := by
 simp only [split2B, Bool.and_eq_true] at h
 obtain ⟨⟨⟨⟨⟨⟨⟨⟨⟨⟨⟨⟨h0, h1⟩, h2⟩, h3⟩, h5⟩, h6⟩, h6'⟩, b1⟩, b2⟩, b3⟩, h7⟩, h8⟩, h9⟩ := h
 have hlt : ∀ i ∈ A ++ (R1 ++ (B ++ R2)), i < ops.size := fun i hi => by
  have := List.all_eq_true.1 h9 i hi
  simpa [Nat.blt, Nat.succ_le_iff] using this
 have hnd : ∀ i ∈ R1 ++ R2, ∀ o, ops[i]? = some o → noDef o.op = true := by
  intro i hi o ho
  have := List.all_eq_true.1 h6' i hi
  rw [ho] at this
  exact this
 refine ⟨h0, ⟨?_, ?_, pairB_iff h3, ?_, ?_, fun i hi => hnd i (by simp [hi])⟩, ⟨?_, fun _ _ _ h => (by cases h), List.Pairwise.nil, pairB_iff b2, ?_, fun _ h => (by cases h), fun i hi => hnd i (by simpa using .inr (by simpa using hi))⟩, ?_, ?_, ?_⟩
 ·exact (pairB_iff h1).imp fun h => by simpa using h
 ·intro j hj i hi
  have := List.all_eq_true.1 (List.all_eq_true.1 h2 j hj) i hi
  simpa using this
 ·intro j hj i hi
  exact List.all_eq_true.1 (List.all_eq_true.1 h5 j hj) i hi
 ·intro i hi o ho
  have := List.all_eq_true.1 h6 i hi
  rw [ho] at this
  simpa using this
 ·exact (pairB_iff b1).imp fun h => by simpa using h
 ·intro j hj i hi
  exact List.all_eq_true.1 (List.all_eq_true.1 b3 j (by simpa using hj)) i hi
 ·exact (pairB_iff h7).imp fun h => by
   intro e
   subst e
   simp at h
 ·intro i
  constructor
  ·intro hi
   rcases Nat.lt_or_ge i ops.size with h' | h'
   ·have := List.all_eq_true.1 h8 i (List.mem_range.2 h')
    simpa only [List.contains_iff_mem] using this
   ·simp [Array.getElem?_eq_none, h'] at hi
  ·intro hi
   simp [hlt i hi]
 ·intro i hi
  exact ⟨_, Array.getElem?_eq_getElem (hlt i hi)⟩
theorem PDraw.split2 (hk : TT.ok P tt) (hm : P.follows .mixedOrders = true) {ops : Array Oper} {T : List PV} {Γ Γ2 : List Ent} {K : List PV → List Ent → Prop} (tab A R1 B R2 : List Nat) (Γ1 : List Ent)
  (hchk : split2B ops tab A R1 B R2 = true) [hp : PickL Γ Γ1 Γ2]
  (h : SSeq P tt ops.toList (pickO ops.toList A) T Γ2 fun T' => WOps P tt ops.toList (pickO ops.toList R1) T' Γ1 [] fun T2 Γ1' _ => appE Γ1' Γ2 fun Γ' =>
   SSeq P tt ops.toList (pickO ops.toList B) T2 Γ' fun T3 => WOps P tt ops.toList (pickO ops.toList R2) T3 Γ' [] fun T' Γ' _ => K T' Γ') : PDraw P ops T Γ K := by
 refine ⟨fun rd nn id w0 F M w a Q' hS hT hQ => wpIn_region_any hm ?_⟩
 obtain ⟨hc, hsp, hsp2, hpend⟩ := Split0.of hchk
 have hlen : A.length + R1.length + (B ++ R2).length ≤ ops.size := by
  have hsub : (A ++ (R1 ++ (B ++ R2))) ⊆ List.range ops.size := fun i hi => by
   obtain ⟨o, ho⟩ := hpend.2.2 i hi
   exact List.mem_range.2 (Array.getElem?_eq_some_iff.1 ho).1
  have := hpend.1.length_le_of_subset hsub
  simpa [Nat.add_assoc] using this
 have hS' : Sim w0 F (Γ1 ++ (Γ2 ++ M)) { w with drawn := w.drawn + 1 } := by
  have := (hS.perm (hp.p.append_right M)).of_heap (w' := { w with drawn := w.drawn + 1 }) rfl rfl rfl rfl
  simpa using this
 refine game0 hk rd nn hc (R2 := B ++ R2) (F0 := F) (ds := a.defers) (Tl := fun T2 Γ' => SSeq P tt ops.toList (pickO ops.toList B) T2 Γ' fun T3 => WOps P tt ops.toList (pickO ops.toList R2) T3 Γ' [] fun T' Γ' _ => K T' Γ') ?_ _ A R1 ops.size _ T Γ1 F a _ rfl hlen ?_ hpend hsp (Fz.le_refl F) hS' hT rfl ?_
 ·intro fuel listed T2 Γ' F' a' w' hf hd hpd hle hS2 hT2 hds ht
  refine game hk rd nn hc (R2 := R2) (F0 := F) (ds := a.defers) hQ _ B [] fuel listed T2 [] F' a' w' rfl (by simpa using hf) hd (by simpa using hpd) hsp2 hle (Γ2 := Γ') (by simpa using hS2) hT2 hds ?_
  simpa only [pickO_eq, Array.getElem?_toList, List.filterMap_nil, WOps, List.nil_append] using ht
 ·intro k o hk'
  rcases Nat.lt_or_ge k ops.size with h' | h'
  ·simp [h'] at hk'
  ·intro ho
   have := (Array.getElem?_eq_some_iff.1 ho).1
   omega
 ·simpa only [pickO_eq, Array.getElem?_toList, appE_eq] using h
theorem PCallD.go {f : FuncId} {args args' : List PV} {Γ Γ1 Γ2 : List Ent} {Q K : PV → List Ent → Prop} (h : ACallD P f args' Γ1 Q) (hw : WkT args args') [hp : PickL Γ Γ1 Γ2]
  (k : ∀ y Γ1', Q y Γ1' → appE Γ1' Γ2 fun Γ' => K y Γ') : PCallD P f args Γ K := PCallD.gen h hw (hp := hp) fun y Γ1' hq => by have := k y Γ1' hq; rwa [appE_eq] at this
theorem Wk.opt {q : Bool} (h : q = true) (x : PV) : Wk (.opt q x) x := fun F v r => by
 simp only [Rep] at r
 exact r.1 h
theorem PSliceM.hi {sz : Nat} {Γ : List Ent} {t : Tok} {es : List PV} {put : Tok → List PV → List Ent} [hp : PickRow Γ t es put] {k : IntKind} {n : Int} {i : Nat} [x : IdxOf n i] {K : PV → List Ent → Prop} (hs : t.s = sz) (h0 : 0 ≤ n) (hl : n ≤ es.length)
  (hk : ∀ t' : Tok, t'.e = t.e → t'.s = t.s → K (.ms t') (put t' (es.take i))) : PSliceT sz t none (some (.int k n)) Γ K := by
 obtain ⟨Γ1, Γ2, h1, h2⟩ := hp.at_
 have e := x.eq h0
 exact ⟨.inl ⟨es, Γ1, Γ2, i, h1, hs, rfl, e, by omega, fun t' a b => by rw [← h2]; exact hk t' a b⟩⟩
theorem PSliceT.tail {sz : Nat} {Γ : List Ent} {t : Tok} {es : List PV} {put : Tok → List PV → List Ent} [hp : PickRow Γ t es put] {k : IntKind} {n : Int} {i : Nat} [x : IdxOf n i] {K : PV → List Ent → Prop} (hs : t.s = sz) (h0 : 0 ≤ n) (hl : n ≤ es.length)
  (hk : ∀ v, tailOf t i v → K (.sc v) Γ) : PSliceT sz t (some (.int k n)) none Γ K := by
 obtain ⟨Γ1, Γ2, h1, h2⟩ := hp.at_
 have e := x.eq h0
 exact ⟨.inr ⟨rfl, es, i, by rw [h1]; simp, hs, e, by omega, hk⟩⟩
theorem PClear.at_ {Γ : List Ent} {t : Tok} {es : List PV} {put : Tok → List PV → List Ent} [hp : PickRow Γ t es put] {k : IntKind} {n : Int} {l : Nat} {v : Value} {K : List Ent → Prop} (hv : tailOf t l v) (hs : t.s = 1) (hl : l ≤ es.length)
  (hk : K (put t (es.take l ++ List.replicate (es.length - l) (.int k n)))) : PClear (.int k n) v Γ K := by
 obtain ⟨Γ1, Γ2, h1, h2⟩ := hp.at_
 rw [h2] at hk
 exact ⟨k, n, rfl, t, es, l, Γ1, Γ2, hv, h1, hs, hl, hk⟩
end
end Go.Cb
namespace Go.Cb
open Go.RowKit (Below)
set_option maxRecDepth 100000
section
variable {P : Program} {tt : Nat → TI}
end
end Go.Cb
namespace Go.Cb
open Go.RowKit (Below)
set_option maxRecDepth 100000
set_option maxHeartbeats 4000000
section
variable {P : Program} {tt : Nat → TI}
def fltOf (tt : Nat → TI) : Op → Option (Nat → PV × Ent)
 | .alloc t => match (tt t).und with
  | .other => none
  | _ => some fun b => (.ptr b 0, .box b ((tt t).zero.map ZK.pv))
 | .makeMap t none => match (tt t).und with
  | .mp kt _ => match keyD tt (tt kt).und with
   | some d => some fun r => (.mp r, .mp r d (fun _ => none) [])
   | none => none
  | _ => none
 | _ => none
theorem fltOf_iff {op : Op} {f : Nat → PV × Ent} (h : fltOf tt op = some f) {T : List PV} {Γ : List Ent} {K : PV → List Ent → Prop} : WOp P tt op T Γ K ↔ ∀ b, K (f b).1 ((f b).2 :: Γ) := by
 unfold fltOf at h
 split at h
 ·split at h
  ·cases h
  ·rename_i hne
   cases h
   simp only [WOp, zerosK_eq]
 ·split at h
  ·rename_i hu
   split at h
   ·rename_i hd
    cases h
    simp only [WOp, hu, hd]
   ·cases h
  ·cases h
 ·cases h
theorem fltOf_noDef {op : Op} {f : Nat → PV × Ent} (h : fltOf tt op = some f) : noDef op = true := by
 cases op <;> first | rfl | cases h
def fDst (ops : Array Oper) (i : Nat) : Option Tmp := (ops[i]?).bind (·.dst)
abbrev FE := Nat → Option (PV × Ent)
def putE (ops : Array Oper) (e : FE) : List Nat → List PV → List PV
 | [], T => T
 | i :: l, T => putE ops e l (match e i with
  | some x => putT T (fDst ops i) x.1
  | none => T)
theorem fm_congr {β : Type} {f g : Nat → Option β} : ∀ {l : List Nat}, (∀ x ∈ l, f x = g x) → l.filterMap f = l.filterMap g
 | [], _ => rfl
 | x :: l, h => by
  rw [List.forall_mem_cons] at h
  rw [List.filterMap_cons, List.filterMap_cons, h.1, fm_congr h.2]
theorem beq_ne {i j : Nat} (h : j ≠ i) : Nat.beq j i = false := by
 cases hb : Nat.beq j i
 ·rfl
 ·exact (h (Nat.eq_of_beq_eq_true hb)).elim
def entE (e : FE) (l : List Nat) : List Ent := l.filterMap fun i => (e i).map (·.2)
def updE (e : FE) (i : Nat) (x : PV × Ent) : FE := fun j => if j = i then some x else e j
def pendE (e : FE) (l : List Nat) : List Nat := l.filter fun i => (e i).isNone
theorem entE_none {e : FE} {l : List Nat} (h : ∀ i ∈ l, e i = none) : entE e l = [] := by
 unfold entE
 rw [List.filterMap_eq_nil_iff]
 intro i hi
 rw [h i hi]; rfl
theorem putE_none {ops : Array Oper} {e : FE} : ∀ {l : List Nat} {T : List PV}, (∀ i ∈ l, e i = none) → putE ops e l T = T
 | [], _, _ => rfl
 | i :: l, T, h => by
  rw [List.forall_mem_cons] at h
  rw [putE, h.1]
  exact putE_none h.2
theorem updE_ne {e : FE} {i j : Nat} {x : PV × Ent} (h : j ≠ i) : updE e i x j = e j := by simp [updE, h]
theorem updE_self {e : FE} {i : Nat} {x : PV × Ent} : updE e i x i = some x := by simp [updE]
theorem entE_upd {e : FE} {i : Nat} {x : PV × Ent} (he : e i = none) : ∀ {l : List Nat}, i ∈ l → l.Nodup → (entE (updE e i x) l).Perm (x.2 :: entE e l)
 | [], h, _ => by cases h
 | j :: l, h, hn => by
  rw [List.nodup_cons] at hn
  rcases List.mem_cons.1 h with rfl | h
  ·have h1 : entE (updE e i x) l = entE e l := by
    unfold entE
    refine fm_congr fun j hj => ?_
    rw [updE_ne (j := j) (i := i) fun e => hn.1 (e ▸ hj)]
   unfold entE at h1 ⊢
   rw [List.filterMap_cons, List.filterMap_cons, updE_self, he, h1]
   exact List.Perm.refl _
  ·have hne : j ≠ i := fun e => hn.1 (e ▸ h)
   have ih := entE_upd (x := x) he h hn.2
   unfold entE at ih ⊢
   rw [List.filterMap_cons, List.filterMap_cons, updE_ne hne]
   cases hj : e j with
   | none => simpa using ih
   | some y =>
    simp only [Option.map_some]
    exact (ih.cons _).trans (List.Perm.swap _ _ _)
theorem putE_put {ops : Array Oper} {e : FE} {d : Option Tmp} {v : PV} : ∀ {l : List Nat} {T : List PV}, (∀ i ∈ l, ∀ k, d = some k → fDst ops i ≠ some k) → putE ops e l (putT T d v) = putT (putE ops e l T) d v
 | [], _, _ => rfl
 | i :: l, T, h => by
  rw [List.forall_mem_cons] at h
  rw [putE, putE]
  cases he : e i with
  | none => exact putE_put h.2
  | some x =>
   simp only
   rw [putT_comm T h.1]
   exact putE_put h.2
theorem putE_congr {ops : Array Oper} {e e' : FE} : ∀ {l : List Nat} {T : List PV}, (∀ i ∈ l, e i = e' i) → putE ops e l T = putE ops e' l T
 | [], _, _ => rfl
 | i :: l, T, h => by
  rw [List.forall_mem_cons] at h
  rw [putE, putE, h.1]
  exact putE_congr h.2
theorem putE_upd {ops : Array Oper} {e : FE} {i : Nat} {x : PV × Ent} (he : e i = none) : ∀ {l : List Nat} {T : List PV}, i ∈ l → l.Nodup → (∀ j ∈ l, j ≠ i → ∀ k, fDst ops i = some k → fDst ops j ≠ some k) →
  putE ops (updE e i x) l T = putT (putE ops e l T) (fDst ops i) x.1
 | [], _, h, _, _ => by cases h
 | j :: l, T, h, hn, hd => by
  rw [List.nodup_cons] at hn
  rw [List.forall_mem_cons] at hd
  rcases List.mem_cons.1 h with rfl | h
  ·rw [putE, putE, updE_self, he]
   simp only
   rw [putE_congr (e := updE e i x) (e' := e) fun j hj => updE_ne fun e => hn.1 (e ▸ hj)]
   exact putE_put fun j hj => hd.2 j hj fun e => hn.1 (e ▸ hj)
  ·have hne : j ≠ i := fun e => hn.1 (e ▸ h)
   rw [putE, putE, updE_ne hne]
   exact putE_upd he h hn.2 hd.2
theorem pendE_upd {e : FE} {i : Nat} {x : PV × Ent} {l l1 l2 : List Nat} (hn : l.Nodup) (h : pendE e l = l1 ++ i :: l2) : pendE (updE e i x) l = l1 ++ l2 := by
 have h1 : pendE (updE e i x) l = (pendE e l).filter fun j => !(Nat.beq j i) := by
  unfold pendE
  rw [List.filter_filter]
  refine List.filter_congr fun j _ => ?_
  by_cases hj : j = i
  ·subst hj; rw [updE_self]; simp
  ·rw [updE_ne hj]
   simp [beq_ne hj]
 have hn2 : (l1 ++ i :: l2).Nodup := h ▸ hn.sublist List.filter_sublist
 rw [h1, h, List.filter_append, List.filter_cons]
 have hni := (List.perm_middle (a := i) (l₁ := l1) (l₂ := l2)).nodup_iff.1 hn2
 rw [List.nodup_cons, List.mem_append, not_or] at hni
 have hf : ∀ m : List Nat, i ∉ m → m.filter (fun j => !(Nat.beq j i)) = m := fun m hm => List.filter_eq_self.2 fun j hj => by
  rw [beq_ne (j := j) (i := i) fun e => hm (e ▸ hj)]; rfl
 rw [hf l1 hni.1.1, hf l2 hni.1.2]
 simp
theorem mem_pendE {e : FE} {l : List Nat} {i : Nat} : i ∈ pendE e l ↔ i ∈ l ∧ e i = none := by
 unfold pendE
 rw [List.mem_filter, Option.isNone_iff_eq_none]
theorem ev_putE {ops : Array Oper} {e : FE} {o : Oper} : ∀ {l : List Nat} {T : List PV}, (∀ i ∈ l, ∀ k, fDst ops i = some k → k ∉ o.looksAt ops) → ∀ y ∈ o.op.operands.toList, ev (putE ops e l T) y = ev T y
 | [], _, _ => fun _ _ => rfl
 | i :: l, T, h => fun y hy => by
  rw [List.forall_mem_cons] at h
  rw [putE, ev_putE h.2 y hy]
  cases e i with
  | none => rfl
  | some x => exact looks_operands h.1 y hy
theorem SVal_putE {ops : Array Oper} {e : FE} {o : Oper} {Γ : List Ent} {v : PV} : ∀ {l : List Nat} {T : List PV}, (∀ i ∈ l, ∀ k, fDst ops i = some k → k ∉ o.looksAt ops) → (SVal P tt ops.toList o (putE ops e l T) Γ v ↔ SVal P tt ops.toList o T Γ v)
 | [], _, _ => Iff.rfl
 | i :: l, T, h => by
  rw [List.forall_mem_cons] at h
  rw [putE, SVal_putE h.2]
  cases e i with
  | none => exact Iff.rfl
  | some x => exact SVal_put h.1
def EOk (tt : Nat → TI) (ops : Array Oper) (e : FE) (l : List Nat) : Prop := ∀ i ∈ l, e i = none ∨ ∃ o f b, ops[i]? = some o ∧ fltOf tt o.op = some f ∧ e i = some (f b)
structure Flts (tt : Nat → TI) (ops : Array Oper) (l : List Nat) : Prop where
 fl : ∀ i ∈ l, ∃ o f, ops[i]? = some o ∧ o.guard = none ∧ fltOf tt o.op = some f
 ff : l.Pairwise fun j i => apartAt ops j i = true
 nd : l.Nodup
theorem apart_dst {ops : Array Oper} {j i : Nat} (h : apartAt ops j i = true) : ∀ k, fDst ops i = some k → fDst ops j ≠ some k := by
 intro k hk hj
 unfold apartAt at h
 unfold fDst at hk hj
 cases hx : ops[j]? with
 | none => rw [hx] at hj; cases hj
 | some x =>
  cases hy : ops[i]? with
  | none => rw [hy] at hk; cases hk
  | some y =>
   rw [hx, hy] at h
   rw [hx] at hj
   rw [hy] at hk
   obtain ⟨a1, a2, a3⟩ := Oper.apart_spec h
   simp only [Option.bind_some] at hk hj
   exact a2 k hj hk
theorem Flts.dst {ops : Array Oper} {l : List Nat} (h : Flts tt ops l) : ∀ i ∈ l, ∀ j ∈ l, j ≠ i → ∀ k, fDst ops i = some k → fDst ops j ≠ some k := by
 intro i hi j hj hne k hk hjk
 have key : ∀ {l : List Nat}, l.Pairwise (fun j i => apartAt ops j i = true) → i ∈ l → j ∈ l → apartAt ops i j = true ∨ apartAt ops j i = true := by
  intro l hp hi hj
  induction l with
  | nil => cases hi
  | cons x l ih =>
   rw [List.pairwise_cons] at hp
   rcases List.mem_cons.1 hi with e1 | h1
   ·rcases List.mem_cons.1 hj with e2 | h2
    ·exact (hne (e2.trans e1.symm)).elim
    ·subst e1; exact .inl (hp.1 j h2)
   ·rcases List.mem_cons.1 hj with e2 | h2
    ·subst e2; exact .inr (hp.1 i h1)
    ·exact ih hp.2 h1 h2
 rcases key h.ff hi hj with h | h
 ·exact apart_dst h k hjk hk
 ·exact apart_dst h k hk hjk
theorem flt_step (hk : TT.ok P tt) {rd : Option Nat} {nn : Nat} {ops : Array Oper} {l : List Nat} (hF : Flts tt ops l) {e : FE} {i : Nat} {o : Oper} (hi : i ∈ l) (he : e i = none) (ho : ops[i]? = some o) (hE : EOk tt ops e l)
  {w0 : World} {F : Fz} {Γ M : List Ent} {w : World} {T : List PV} {a : Act} {next : Act → World → Prop} {Q : Exit → Act → World → Prop} (hS : Sim w0 F (Γ ++ (entE e l ++ M)) w) (hT : RepT F (putE ops e l T) a.tmps.toList)
  (hn : ∀ e' F' u w', EOk tt ops e' l → e' = updE e i ((e' i).getD (.any, .tok (nilTok 0 0))) → F.le F' → Sim w0 F' (Γ ++ (entE e' l ++ M)) w' → RepT F' (putE ops e' l T) (a.put o.dst u).tmps.toList → next (a.put o.dst u) w') :
  wpOpIn (Fen rd) nn P ops Q i next a w := by
 obtain ⟨o', f, ho', hg, hf⟩ := hF.fl i hi
 rw [ho] at ho'
 cases ho'
 unfold wpOpIn
 simp only [ho]
 rw [if_pos (by simp [Region.wanted, hg])]
 have hW : WOp P tt o.op (putE ops e l T) [] fun x Γ' => ∃ b, x = (f b).1 ∧ Γ' = [(f b).2] := (fltOf_iff hf).2 fun b => ⟨b, rfl, rfl⟩
 refine WOp_sound hk (Γ := []) (M := Γ ++ (entE e l ++ M)) hS hT hW ?_
 rintro F' x Γ' u w' hle hS' hx ⟨b, rfl, rfl⟩
 have hp := entE_upd (x := f b) he hi hF.nd
 have hd : fDst ops i = o.dst := by simp [fDst, ho]
 refine hn (updE e i (f b)) F' u w' ?_ (by rw [updE_self]; rfl) hle ?_ ?_
 ·intro j hj
  by_cases hji : j = i
  ·subst hji; rw [updE_self]; exact .inr ⟨o, f, b, ho, hf, rfl⟩
  ·rw [updE_ne hji]; exact hE j hj
 ·refine hS'.perm ?_
  have h1 : ((f b).2 :: (Γ ++ (entE e l ++ M))).Perm (Γ ++ ((f b).2 :: (entE e l ++ M))) := List.perm_middle.symm
  refine h1.trans ?_
  have h2 : ((f b).2 :: (entE e l ++ M)).Perm (entE (updE e i (f b)) l ++ M) := (hp.symm.append_right M)
  exact h2.append_left Γ
 ·rw [putE_upd he hi hF.nd (hF.dst i hi), hd]
  exact put_rep (RepT.mono hle _ _ hT) hx o.dst
theorem flts_done {ops : Array Oper} {e : FE} {K : List PV → List Ent → Ds → Prop} : ∀ (l : List Nat) (T : List PV) (Γ : List Ent), (∀ i ∈ l, ∃ o f b, ops[i]? = some o ∧ o.guard = none ∧ fltOf tt o.op = some f ∧ e i = some (f b)) →
  WOps P tt ops.toList (l.filterMap (ops[·]?)) T Γ [] K → ∃ Γ4, K (putE ops e l T) Γ4 [] ∧ Γ4.Perm (entE e l ++ Γ)
 | [], T, Γ, _, h => ⟨Γ, h, List.Perm.refl _⟩
 | i :: l, T, Γ, hl, h => by
  rw [List.forall_mem_cons] at hl
  obtain ⟨o, f, b, ho, hg, hf, he⟩ := hl.1
  rw [List.filterMap_cons, ho] at h
  simp only [WOps, hg, WOpD_noDef (fltOf_noDef hf), putK_T] at h
  have h2 := (fltOf_iff hf).1 h b
  obtain ⟨Γ4, h3, h4⟩ := flts_done l _ _ hl.2 h2
  refine ⟨Γ4, ?_, h4.trans ?_⟩
  ·rw [putE, he]
   have hd : fDst ops i = o.dst := by simp [fDst, ho]
   rw [hd]; exact h3
  ·unfold entE
   rw [List.filterMap_cons, he]
   exact List.perm_middle
theorem gameF (hk : TT.ok P tt) (rd : Option Nat) (nn : Nat) {ops : Array Oper} {tab Fl R2 : List Nat} (hF : Flts tt ops Fl) (hc : tabChk ops tab = true) {w0 : World} {M Γ2 : List Ent} {F0 : Fz} {ds : List Deferred} {Q' : Exit → Act → World → Prop}
  {Tl : List PV → List Ent → Prop} (hTl : ∀ (fuel : Nat) (listed : Array Bool) (T : List PV) (Γ : List Ent) (e : FE) (F : Fz) (a : Act) (w : World), (pendE e Fl).length + R2.length ≤ fuel → Down ops listed → Pend ops listed (pendE e Fl ++ R2) → EOk tt ops e Fl → F0.le F →
   Sim w0 F (Γ ++ (entE e Fl ++ M)) w → RepT F (putE ops e Fl T) a.tmps.toList → a.defers = ds → Tl T Γ → wpAnyIn (Fen rd) nn P .any ops Q' fuel listed a w) :
  ∀ (n : Nat) (A R1 : List Nat) (e : FE) (fuel : Nat) (listed : Array Bool) (T : List PV) (Γ1 : List Ent) (F : Fz) (a : Act) (w : World), A.length + R1.length + (pendE e Fl).length = n → n + R2.length ≤ fuel →
   Down ops listed → Pend ops listed (A ++ (R1 ++ (pendE e Fl ++ R2))) → Split0 ops tab A R1 R2 → (∀ j ∈ A ++ R1, ∀ i ∈ Fl, apartAt ops j i = true) → EOk tt ops e Fl → F0.le F → Sim w0 F (Γ1 ++ (Γ2 ++ (entE e Fl ++ M))) w → RepT F (putE ops e Fl T) a.tmps.toList → a.defers = ds →
   (SSeq P tt ops.toList (A.filterMap (ops[·]?)) T Γ2 fun T' => WOps P tt ops.toList (R1.filterMap (ops[·]?)) T' Γ1 [] fun T2 Γ1' _ => Tl T2 (Γ1' ++ Γ2)) →
   wpAnyIn (Fen rd) nn P .any ops Q' fuel listed a w := by
 intro n
 induction n with
 | zero =>
  intro A R1 e fuel listed T Γ1 F a w hn hf hd hp hsp hfx hE hle hS hT hds h
  obtain rfl : A = [] := List.eq_nil_of_length_eq_zero (by omega)
  obtain rfl : R1 = [] := List.eq_nil_of_length_eq_zero (by omega)
  exact hTl fuel listed T (Γ1 ++ Γ2) e F a w (by simp at hn; rw [hn]; simpa using hf) hd (by simpa using hp) hE hle (by simpa using hS) hT hds h
 | succ n ih =>
  intro A R1 e fuel listed T Γ1 F a w hn hf hd hp hsp hfx hE hle hS hT hds h
  by_cases hAR0 : A = [] ∧ R1 = []
  ·obtain ⟨rfl, rfl⟩ := hAR0
   exact hTl fuel listed T (Γ1 ++ Γ2) e F a w (by simp at hn; omega) hd (by simpa using hp) hE hle (by simpa using hS) hT hds h
  cases fuel with
  | zero => omega
  | succ fuel =>
  refine ⟨fun hnil => ?_, fun i hi => ?_⟩
  ·exfalso
   cases hAR : A ++ (R1 ++ (pendE e Fl ++ R2)) with
   | nil => simp at hAR; exact hAR0 ⟨hAR.1, hAR.2.1⟩
   | cons x xs =>
    rw [hAR] at hp
    obtain ⟨k, hk'⟩ := ready_exists hc hp
    rw [hnil] at hk'
    cases hk'
  ·obtain ⟨o, ho⟩ := hp.2.2 i (hp.ready hi)
   have un : ∀ {j : Nat}, j ∈ A ++ (R1 ++ (pendE e Fl ++ R2)) → anc tab i j = true → False := fun {j} hj ha => blocked hc hd i ho ha ((hp.2.1 j).2 hj) hi
   have free : ∀ {j : Nat} {x : Oper}, j ∈ A ++ (R1 ++ (pendE e Fl ++ R2)) → ops[j]? = some x → (anc tab i j = true ∨ apartAt ops j i = true) → x.apart ops o = true := by
    intro j x hj hx h
    rcases h with h | h
    ·exact (un hj h).elim
    ·simpa [apartAt, hx, ho] using h
   have looks : i ∈ A ++ R1 → ∀ f ∈ Fl, ∀ k, fDst ops f = some k → k ∉ o.looksAt ops := by
    intro hiA f hf k hk
    have := hfx i hiA f hf
    obtain ⟨of, _, hof, _, _⟩ := hF.fl f hf
    simp only [apartAt, ho, hof] at this
    obtain ⟨a1, a2, a3⟩ := Oper.apart_spec this
    exact a3 k (by simpa [fDst, hof] using hk)
   have dsts : i ∈ A ++ R1 → ∀ f ∈ Fl, ∀ k, o.dst = some k → fDst ops f ≠ some k := by
    intro hiA f hf k hk hfk
    exact apart_dst (hfx i hiA f hf) k hfk (by simp [fDst, ho, hk])
   have hmem := hp.ready hi
   rw [List.mem_append, List.mem_append, List.mem_append] at hmem
   rcases hmem with hm | hm | hm | hm
   ·
    obtain ⟨A1, A2, rfl⟩ := List.append_of_mem hm
    rw [filterMap_split ho] at h
    have hap : ∀ x ∈ A1.filterMap (ops[·]?), x.apart ops o = true := by
     intro x hx
     obtain ⟨j, hj, hx⟩ := List.mem_filterMap.1 hx
     exact free (by simp [hj]) hx ((List.pairwise_append.1 hsp.pa).2.2 j hj i (by simp))
    obtain ⟨v, h1, h2⟩ := SSeq_move _ T hap h
    have h1' := (SVal_putE (e := e) (looks (by simp))).2 h1
    have hS2 : Sim w0 F (Γ2 ++ (Γ1 ++ (entE e Fl ++ M))) w := hS.perm (by
     rw [← List.append_assoc, ← List.append_assoc Γ2]
     exact List.perm_append_comm.append_right _)
    unfold wpOpIn
    simp only [ho]
    have key := SVal_sound hk (rd := rd) (nn := nn) (Q := Q') (next := fun a w => wpAnyIn (Fen rd) nn P .any ops Q' fuel (listed.setIfInBounds i true) a w) hS2 hT h1' ?_
    ·split at key <;> rename_i hw
     ·rw [if_pos hw]; exact key
     ·rw [if_neg hw]; exact ⟨fun _ _ => trivial, key⟩
    intro F' u w' hle' hS' hx
    refine ih (A1 ++ A2) R1 e fuel _ (putT T o.dst v) Γ1 F' _ w' (by simp at hn ⊢; omega) (by omega) (hd.set hi) ?_ hsp.dropA (fun j hj => hfx j ?_) hE (Fz.le_trans hle hle') ?_ ?_
     ((put_defers a o.dst u).trans hds) ?_
    ·have := Pend.set (l1 := A1) (l2 := A2 ++ (R1 ++ (pendE e Fl ++ R2))) (i := i) (by simpa using hp)
     rwa [List.append_assoc]
    ·simp only [List.mem_append, List.mem_cons] at hj ⊢
     rcases hj with (h | h) | h
     ·exact .inl (.inl h)
     ·exact .inl (.inr (.inr h))
     ·exact .inr h
    ·exact hS'.perm (by
      rw [← List.append_assoc, ← List.append_assoc Γ1]
      exact List.perm_append_comm.append_right _)
    ·rw [putE_put (dsts (by simp))]
     exact put_rep (RepT.mono hle' _ _ hT) hx o.dst
    ·rw [List.filterMap_append]; exact h2
   ·
    cases R1 with
    | nil => cases hm
    | cons r R1 =>
     rcases List.mem_cons.1 hm with hir | hir
     ·subst hir
      have hg : o.guard = none := hsp.ug i (by simp) o ho
      have e1 : (i :: R1).filterMap (ops[·]?) = o :: R1.filterMap (ops[·]?) := by rw [List.filterMap_cons, ho]
      rw [e1] at h
      have hap : ∀ x ∈ A.filterMap (ops[·]?), x.apart ops o = true := by
       intro x hx
       obtain ⟨j, hj, hx⟩ := List.mem_filterMap.1 hx
       exact free (by simp [hj]) hx (hsp.par j hj i (by simp))
      have h2 := SSeq_eff (kk := fun T' Γ1' => WOps P tt ops.toList (R1.filterMap (ops[·]?)) T' Γ1' [] fun T2 Γ1' _ => Tl T2 (Γ1' ++ Γ2)) _ T hap (by
       have hnd := hsp.nd i (by simp) o ho
       simpa only [WOps, hg, WOpD_noDef hnd, putK_T] using h)
      have h3 := WOp_congr (T' := putE ops e Fl T) (fun y hy => (ev_putE (looks (by simp)) y hy).symm) h2
      unfold wpOpIn
      simp only [ho]
      rw [if_pos (by simp [Region.wanted, hg])]
      refine WOp_sound hk (M := Γ2 ++ (entE e Fl ++ M)) hS hT h3 ?_
      rintro F' x Γ' v' w' hle' hS' hx hK
      refine ih A R1 e fuel _ (putT T o.dst x) Γ' F' _ w' (by simp at hn ⊢; omega) (by omega) (hd.set hi) ?_ hsp.dropR (fun j hj => hfx j ?_) hE (Fz.le_trans hle hle') hS' ?_
       ((put_defers a o.dst v').trans hds) hK
      ·have := Pend.set (l1 := A) (l2 := R1 ++ (pendE e Fl ++ R2)) (i := i) (by simpa using hp)
       simpa using this
      ·simp only [List.mem_append, List.mem_cons] at hj ⊢
       rcases hj with h | h
       ·exact .inl h
       ·exact .inr (.inr h)
      ·rw [putE_put (dsts (by simp))]
       exact put_rep (RepT.mono hle' _ _ hT) hx o.dst
     ·exact (un (j := r) (by simp) ((List.pairwise_cons.1 hsp.r1).1 i hir)).elim
   ·
    obtain ⟨hiF, hie⟩ := mem_pendE.1 hm
    obtain ⟨l1, l2, hl⟩ := List.append_of_mem hm
    have hS2 : Sim w0 F ((Γ1 ++ Γ2) ++ (entE e Fl ++ M)) w := by simpa using hS
    refine flt_step hk hF hiF hie ho hE hS2 hT ?_
    intro e' F' u w' hE' he' hle' hS' hT'
    have hpe : pendE e' Fl = l1 ++ l2 := by rw [he']; exact pendE_upd hF.nd hl
    have hlen : (pendE e Fl).length = l1.length + l2.length + 1 := by rw [hl]; simp; omega
    refine ih A R1 e' fuel _ T Γ1 F' _ w' (by rw [hpe]; simp; omega) (by omega) (hd.set hi) ?_ hsp hfx hE' (Fz.le_trans hle hle') (by simpa using hS') hT' ((put_defers a o.dst u).trans hds) h
    rw [hpe]
    have := Pend.set (l1 := A ++ (R1 ++ l1)) (l2 := l2 ++ R2) (i := i) (by rw [hl] at hp; simpa using hp)
    simpa using this
   ·
    exfalso
    cases A with
    | cons j A => exact un (j := j) (by simp) (hsp.tl j (by simp) i hm)
    | nil =>
     cases R1 with
     | cons j R1 => exact un (j := j) (by simp) (hsp.tl j (by simp) i hm)
     | nil => exact hAR0 ⟨rfl, rfl⟩
theorem gameF2 (hk : TT.ok P tt) (rd : Option Nat) (nn : Nat) {ops : Array Oper} {tab Fl R2 : List Nat} (hF : Flts tt ops Fl) (hc : tabChk ops tab = true) (hr2 : R2.Pairwise fun j i => anc tab i j = true) (hfr : ∀ j ∈ Fl, ∀ i ∈ R2, anc tab i j = true)
  (hnd : ∀ i ∈ R2, ∀ o, ops[i]? = some o → noDef o.op = true) {w0 : World} {M : List Ent} {F0 : Fz} {ds : List Deferred} {Q' : Exit → Act → World → Prop}
  {K : List PV → List Ent → Prop} (hQ : ∀ F' T' Γ' a' w', F0.le F' → Sim w0 F' (Γ' ++ M) w' → RepT F' T' a'.tmps.toList → a'.defers = ds → K T' Γ' → Q' .normal a' w') :
  ∀ (n : Nat) (e : FE) (fuel : Nat) (listed : Array Bool) (T : List PV) (Γ : List Ent) (F : Fz) (a : Act) (w : World), (pendE e Fl).length = n → n + R2.length ≤ fuel →
   Down ops listed → Pend ops listed (pendE e Fl ++ R2) → EOk tt ops e Fl → F0.le F → Sim w0 F (Γ ++ (entE e Fl ++ M)) w → RepT F (putE ops e Fl T) a.tmps.toList → a.defers = ds →
   (WOps P tt ops.toList (Fl.filterMap (ops[·]?)) T Γ [] fun T4 Γ4 _ => WOps P tt ops.toList (R2.filterMap (ops[·]?)) T4 Γ4 [] fun T' Γ' _ => K T' Γ') →
   wpAnyIn (Fen rd) nn P .any ops Q' fuel listed a w := by
 intro n
 induction n with
 | zero =>
  intro e fuel listed T Γ F a w hn hf hd hp hE hle hS hT hds h
  have hnil : pendE e Fl = [] := List.eq_nil_of_length_eq_zero hn
  obtain ⟨Γ4, h4, hpm⟩ := flts_done (e := e) Fl T Γ (fun i hi => by
   rcases hE i hi with h0 | ⟨o, f, b, ho, hf, he⟩
   ·have : i ∈ pendE e Fl := mem_pendE.2 ⟨hi, h0⟩
    rw [hnil] at this; cases this
   ·obtain ⟨o', f', ho', hg, _⟩ := hF.fl i hi
    rw [ho] at ho'; cases ho'
    exact ⟨o, f, b, ho, hg, hf, he⟩) h
  have hS4 : Sim w0 F (Γ4 ++ M) w := hS.perm (by
   rw [← List.append_assoc]
   exact (List.perm_append_comm.trans hpm.symm).append_right M)
  refine wpAny_chain hc R2 fuel listed a w (by omega) hd (by simpa [hnil] using hp) hr2 (wpOps_filter (fun _ => trivial) ops _ _ a w ?_)
  refine WOps_sound hk rd nn ops (ds := ds) (K := fun T' Γ' D' => D' = [] ∧ K T' Γ') ?_ _ (.inr (quiet_of fun o ho => by
   obtain ⟨j, hj, ho⟩ := List.mem_filterMap.1 ho
   exact hnd j hj o ho)) _ Γ4 [] F a w hle hS4 hT (by rw [hds]; exact DRel.nil F ds) (WOps_keep _ _ _ _ _ ?_ h4)
  ·rintro F' T' Γ' D' a' w' k1 k2 k3 ⟨new, k4, k5⟩ ⟨rfl, k6⟩
   have : new = [] := by cases new with
    | nil => rfl
    | cons d l => exact k5.elim
   subst this
   exact hQ F' T' Γ' a' w' k1 k2 k3 k4 k6
  ·intro o ho
   obtain ⟨j, hj, ho⟩ := List.mem_filterMap.1 ho
   exact hnd j hj o ho
 | succ n ih =>
  intro e fuel listed T Γ F a w hn hf hd hp hE hle hS hT hds h
  cases fuel with
  | zero => omega
  | succ fuel =>
  have hpos : ∃ j, j ∈ pendE e Fl := by
   cases hpe : pendE e Fl with
   | nil => rw [hpe] at hn; cases hn
   | cons j l => exact ⟨j, by simp⟩
  obtain ⟨j0, hj0⟩ := hpos
  refine ⟨fun hnil => ?_, fun i hi => ?_⟩
  ·exfalso
   cases hAR : pendE e Fl ++ R2 with
   | nil => simp at hAR; rw [hAR.1] at hn; cases hn
   | cons x xs =>
    rw [hAR] at hp
    obtain ⟨k, hk'⟩ := ready_exists hc hp
    rw [hnil] at hk'
    cases hk'
  ·obtain ⟨o, ho⟩ := hp.2.2 i (hp.ready hi)
   rcases List.mem_append.1 (hp.ready hi) with hm | hm
   ·obtain ⟨hiF, hie⟩ := mem_pendE.1 hm
    obtain ⟨l1, l2, hl⟩ := List.append_of_mem hm
    refine flt_step hk hF hiF hie ho hE hS hT ?_
    intro e' F' u w' hE' he' hle' hS' hT'
    have hpe : pendE e' Fl = l1 ++ l2 := by rw [he']; exact pendE_upd hF.nd hl
    have hlen : (pendE e Fl).length = l1.length + l2.length + 1 := by rw [hl]; simp; omega
    refine ih e' fuel _ T Γ F' _ w' (by rw [hpe]; simp; omega) (by omega) (hd.set hi) ?_ hE' (Fz.le_trans hle hle') hS' hT' ((put_defers a o.dst u).trans hds) h
    rw [hpe]
    have := Pend.set (l1 := l1) (l2 := l2 ++ R2) (i := i) (by rw [hl] at hp; simpa using hp)
    simpa using this
   ·exact (blocked hc hd i ho (hfr j0 (mem_pendE.1 hj0).1 i hm) ((hp.2.1 j0).2 (by simp [hj0])) hi).elim
def splitFB (tt : Nat → TI) (ops : Array Oper) (tab A R1 B Fl R2 : List Nat) : Bool :=
 tabChk ops tab &&
 pairB (fun j i => anc tab i j || apartAt ops j i) A && A.all (fun j => R1.all fun i => anc tab i j || apartAt ops j i) &&
 pairB (fun j i => anc tab i j) R1 && (A ++ R1).all (fun j => (B ++ R2).all fun i => anc tab i j) &&
 R1.all (fun i => match ops[i]? with | some o => o.guard.isNone | none => false) && (R1 ++ R2).all (fun i => match ops[i]? with | some o => noDef o.op | none => false) &&
 pairB (fun j i => anc tab i j || apartAt ops j i) B && pairB (fun j i => anc tab i j) R2 && B.all (fun j => R2.all fun i => anc tab i j) &&
 Fl.all (fun i => match ops[i]? with | some o => o.guard.isNone && (fltOf tt o.op).isSome | none => false) && pairB (fun j i => apartAt ops j i) Fl && (A ++ (R1 ++ B)).all (fun j => Fl.all fun i => apartAt ops j i) && Fl.all (fun j => R2.all fun i => anc tab i j) &&
 pairB (fun j i => !(Nat.beq j i)) (A ++ (R1 ++ (B ++ (Fl ++ R2)))) && (List.range ops.size).all (fun i => (A ++ (R1 ++ (B ++ (Fl ++ R2)))).contains i) && (A ++ (R1 ++ (B ++ (Fl ++ R2)))).all (fun i => Nat.blt i ops.size)
theorem PDraw.splitF (hk : TT.ok P tt) (hm : P.follows .mixedOrders = true) {ops : Array Oper} {T : List PV} {Γ Γ2 : List Ent} {K : List PV → List Ent → Prop} (tab A R1 B Fl R2 : List Nat) (Γ1 : List Ent)
  (hchk : splitFB tt ops tab A R1 B Fl R2 = true) [hp : PickL Γ Γ1 Γ2]
  (h : SSeq P tt ops.toList (pickO ops.toList A) T Γ2 fun T' => WOps P tt ops.toList (pickO ops.toList R1) T' Γ1 [] fun T2 Γ1' _ => appE Γ1' Γ2 fun Γ' =>
   SSeq P tt ops.toList (pickO ops.toList B) T2 Γ' fun T3 => WOps P tt ops.toList (pickO ops.toList Fl) T3 Γ' [] fun T4 Γ4 _ => WOps P tt ops.toList (pickO ops.toList R2) T4 Γ4 [] fun T' Γ' _ => K T' Γ') : PDraw P ops T Γ K := by
 refine ⟨fun rd nn id w0 F M w a Q' hS hT hQ => wpIn_region_any hm ?_⟩
 simp only [splitFB, Bool.and_eq_true] at hchk
 obtain ⟨⟨⟨⟨⟨⟨⟨⟨⟨⟨⟨⟨⟨⟨⟨⟨h0, h1⟩, h2⟩, h3⟩, h5⟩, h6⟩, h6'⟩, b1⟩, b2⟩, b3⟩, f1⟩, f2⟩, f3⟩, f4⟩, h7⟩, h8⟩, h9⟩ := hchk
 have hlt : ∀ i ∈ A ++ (R1 ++ (B ++ (Fl ++ R2))), i < ops.size := fun i hi => by
  have := List.all_eq_true.1 h9 i hi
  simpa [Nat.blt, Nat.succ_le_iff] using this
 have hnd : ∀ i ∈ R1 ++ R2, ∀ o, ops[i]? = some o → noDef o.op = true := by
  intro i hi o ho
  have := List.all_eq_true.1 h6' i hi
  rw [ho] at this
  exact this
 have hnodup : (A ++ (R1 ++ (B ++ (Fl ++ R2)))).Nodup := (pairB_iff h7).imp fun h => by
  intro e
  subst e
  simp at h
 have hpend : Pend ops (Array.replicate ops.size false) (A ++ (R1 ++ (B ++ (Fl ++ R2)))) := by
  refine ⟨hnodup, ?_, fun i hi => ⟨_, Array.getElem?_eq_getElem (hlt i hi)⟩⟩
  intro i
  constructor
  ·intro hi
   rcases Nat.lt_or_ge i ops.size with h' | h'
   ·have := List.all_eq_true.1 h8 i (List.mem_range.2 h')
    simpa only [List.contains_iff_mem] using this
   ·simp [Array.getElem?_eq_none, h'] at hi
  ·intro hi
   simp [hlt i hi]
 have hF : Flts tt ops Fl := by
  refine ⟨fun i hi => ?_, pairB_iff f2, ?_⟩
  ·have := List.all_eq_true.1 f1 i hi
   cases ho : ops[i]? with
   | none => rw [ho] at this; cases this
   | some o =>
    rw [ho] at this
    simp only [Bool.and_eq_true, Option.isNone_iff_eq_none, Option.isSome_iff_exists] at this
    obtain ⟨g, f, hf⟩ := this
    exact ⟨o, f, rfl, g, hf⟩
  ·exact hnodup.sublist (((List.sublist_append_left Fl R2).trans (List.sublist_append_right B _)).trans ((List.sublist_append_right R1 _).trans (List.sublist_append_right A _)))
 have hs1 : Split0 ops tab A R1 (B ++ R2) := by
  refine ⟨(pairB_iff h1).imp fun h => by simpa using h, fun j hj i hi => ?_, pairB_iff h3, fun j hj i hi => ?_, fun i hi o ho => ?_, fun i hi => hnd i (by simp [hi])⟩
  ·have := List.all_eq_true.1 (List.all_eq_true.1 h2 j hj) i hi
   simpa using this
  ·exact List.all_eq_true.1 (List.all_eq_true.1 h5 j hj) i hi
  ·have := List.all_eq_true.1 h6 i hi
   rw [ho] at this
   simpa using this
 have hs2 : Split0 ops tab B [] R2 := by
  refine ⟨(pairB_iff b1).imp fun h => by simpa using h, fun _ _ _ h => (by cases h), List.Pairwise.nil, fun j hj i hi => ?_, fun _ h => (by cases h), fun _ h => (by cases h)⟩
  exact List.all_eq_true.1 (List.all_eq_true.1 b3 j (by simpa using hj)) i hi
 have hfx : ∀ j ∈ A ++ (R1 ++ B), ∀ i ∈ Fl, apartAt ops j i = true := fun j hj i hi => List.all_eq_true.1 (List.all_eq_true.1 f3 j hj) i hi
 have hfr : ∀ j ∈ Fl, ∀ i ∈ R2, anc tab i j = true := fun j hj i hi => List.all_eq_true.1 (List.all_eq_true.1 f4 j hj) i hi
 have hlen : A.length + R1.length + (B.length + (Fl.length + R2.length)) ≤ ops.size := by
  have hsub : (A ++ (R1 ++ (B ++ (Fl ++ R2)))) ⊆ List.range ops.size := fun i hi => List.mem_range.2 (hlt i hi)
  have := hpend.1.length_le_of_subset hsub
  simpa [Nat.add_assoc] using this
 have hS' : Sim w0 F (Γ1 ++ (Γ2 ++ M)) { w with drawn := w.drawn + 1 } := by
  have := (hS.perm (hp.p.append_right M)).of_heap (w' := { w with drawn := w.drawn + 1 }) rfl rfl rfl rfl
  simpa using this
 have e0 : ∀ i ∈ Fl, (fun _ => none : FE) i = none := fun _ _ => rfl
 have p0 : pendE (fun _ => none) Fl = Fl := List.filter_eq_self.2 fun _ _ => rfl
 refine gameF hk rd nn hF h0 (w0 := w0) (tab := tab) (R2 := B ++ R2) (Γ2 := Γ2) (M := M) (F0 := F) (ds := a.defers) (Tl := fun T2 Γ' => SSeq P tt ops.toList (pickO ops.toList B) T2 Γ' fun T3 => WOps P tt ops.toList (pickO ops.toList Fl) T3 Γ' [] fun T4 Γ4 _ => WOps P tt ops.toList (pickO ops.toList R2) T4 Γ4 [] fun T' Γ' _ => K T' Γ') ?_
  _ A R1 (fun _ => none) ops.size _ T Γ1 F a _ rfl ?_ ?_ ?_ hs1 (fun j hj i hi => hfx j (by simp only [List.mem_append] at hj ⊢; rcases hj with h | h; exact .inl h; exact .inr (.inl h)) i hi) (fun i hi => .inl rfl) (Fz.le_refl F) ?_ ?_ rfl ?_
 ·intro fuel listed T2 Γ' e F' a' w' hf hd hpd hE hle hS2 hT2 hds ht
  refine gameF hk rd nn hF h0 (w0 := w0) (tab := tab) (R2 := R2) (Γ2 := Γ') (M := M) (F0 := F) (ds := a.defers) (Tl := fun T3 Γ' => WOps P tt ops.toList (pickO ops.toList Fl) T3 Γ' [] fun T4 Γ4 _ => WOps P tt ops.toList (pickO ops.toList R2) T4 Γ4 [] fun T' Γ' _ => K T' Γ') ?_
   _ B [] e fuel listed T2 [] F' a' w' rfl (by simp at hf ⊢; omega) hd ?_ hs2 (fun j hj i hi => hfx j (by simp at hj ⊢; exact .inr (.inr hj)) i hi) hE hle (by simpa using hS2) hT2 hds ?_
  ·intro fuel3 listed3 T3 Γ3 e3 F3 a3 w3 hf3 hd3 hpd3 hE3 hle3 hS3 hT3 hds3 ht3
   refine gameF2 hk rd nn hF h0 (pairB_iff b2) hfr (fun i hi => hnd i (by simp [hi])) (F0 := F) (ds := a.defers) hQ _ e3 fuel3 listed3 T3 Γ3 F3 a3 w3 rfl hf3 hd3 hpd3 hE3 hle3 hS3 hT3 hds3 ?_
   simpa only [pickO_eq, Array.getElem?_toList] using ht3
  ·simp only [List.nil_append]
   refine ⟨?_, fun i => ?_, fun i hi => hpd.2.2 i ?_⟩
   ·have hperm : (pendE e Fl ++ (B ++ R2)).Perm (B ++ (pendE e Fl ++ R2)) := by
     rw [← List.append_assoc, ← List.append_assoc]
     exact List.perm_append_comm.append_right R2
    exact hperm.nodup_iff.1 hpd.1
   ·rw [hpd.2.1 i]
    simp only [List.mem_append]
    constructor
    ·rintro (h | h | h)
     ·exact .inr (.inl h)
     ·exact .inl h
     ·exact .inr (.inr h)
    ·rintro (h | h | h)
     ·exact .inr (.inl h)
     ·exact .inl h
     ·exact .inr (.inr h)
   ·simp only [List.mem_append] at hi ⊢
    rcases hi with h | h | h
    ·exact .inr (.inl h)
    ·exact .inl h
    ·exact .inr (.inr h)
  ·simpa only [pickO_eq, Array.getElem?_toList, List.filterMap_nil, WOps, List.nil_append] using ht
 ·rw [p0]; simp; omega
 ·intro k o hk'
  rcases Nat.lt_or_ge k ops.size with h' | h'
  ·simp [h'] at hk'
  ·intro ho
   have := (Array.getElem?_eq_some_iff.1 ho).1
   omega
 ·rw [p0]
  refine ⟨?_, fun i => ?_, fun i hi => hpend.2.2 i ?_⟩
  ·have hperm : (A ++ (R1 ++ (B ++ (Fl ++ R2)))).Perm (A ++ (R1 ++ (Fl ++ (B ++ R2)))) := by
    refine List.Perm.append_left A (List.Perm.append_left R1 ?_)
    rw [← List.append_assoc, ← List.append_assoc]
    exact List.perm_append_comm.append_right R2
   exact hperm.nodup_iff.1 hpend.1
  ·rw [hpend.2.1 i]
   simp only [List.mem_append]
   constructor
   ·rintro (h | h | h | h | h)
    ·exact .inl h
    ·exact .inr (.inl h)
    ·exact .inr (.inr (.inr (.inl h)))
    ·exact .inr (.inr (.inl h))
    ·exact .inr (.inr (.inr (.inr h)))
   ·rintro (h | h | h | h | h)
    ·exact .inl h
    ·exact .inr (.inl h)
    ·exact .inr (.inr (.inr (.inl h)))
    ·exact .inr (.inr (.inl h))
    ·exact .inr (.inr (.inr (.inr h)))
  ·simp only [List.mem_append] at hi ⊢
   rcases hi with h | h | h | h | h
   ·exact .inl h
   ·exact .inr (.inl h)
   ·exact .inr (.inr (.inr (.inl h)))
   ·exact .inr (.inr (.inl h))
   ·exact .inr (.inr (.inr (.inr h)))
 ·rw [entE_none e0]; simpa using hS'
 ·rw [putE_none e0]; exact hT
 ·simpa only [pickO_eq, Array.getElem?_toList, appE_eq] using h
theorem PDraw.sF (d : Option Nat) {ops : Array Oper} (hd : fstDst ops = d) (Γ1 : List Ent) (R1 B Fl R2 : List Nat) (hk : TT.ok P tt) (hm : P.follows .mixedOrders = true) {T : List PV} {Γ Γ2 : List Ent} {K : List PV → List Ent → Prop} [hp : PickL Γ Γ1 Γ2]
  (h : SSeq P tt ops.toList (pickO ops.toList (restL ops.toList 0 (R1 ++ (B ++ (Fl ++ R2))))) T Γ2 fun T' => WOps P tt ops.toList (pickO ops.toList R1) T' Γ1 [] fun T2 Γ1' _ => appE Γ1' Γ2 fun Γ' =>
   SSeq P tt ops.toList (pickO ops.toList B) T2 Γ' fun T3 => WOps P tt ops.toList (pickO ops.toList Fl) T3 Γ' [] fun T4 Γ4 _ => WOps P tt ops.toList (pickO ops.toList R2) T4 Γ4 [] fun T' Γ' _ => K T' Γ')
  (hchk : splitFB tt ops (tabOf ops.toList []) (restL ops.toList 0 (R1 ++ (B ++ (Fl ++ R2)))) R1 B Fl R2 = true := by kernel_rfl) : PDraw P ops T Γ K :=
 PDraw.splitF hk hm _ _ R1 B Fl R2 Γ1 hchk h
end
end Go.Cb
namespace Go.Cb
theorem PIndexA.ixE {α : Type} {f : α → PV} {g : α → List PV} [c : CellsOf f g] {sz : Nat} {l : List α} {tk : Option Tok} {k : IntKind} {n : Int} {i : Nat} [x : IdxOf n i] {K : PV → Prop} (d : α) (h0 : 0 ≤ n) (h : n < l.length)
  (hk : K (.ep (g (l.getD i d)))) : PIndexA sz (.sl sz (l.map f) tk) (.int k n) K := by
 have hi := IdxOf.lt h0 h
 refine PIndexA.ix h0 h ?_
 have e : l.getD i d = l[i] := by simp [List.getD, hi]
 rwa [e] at hk
end Go.Cb
namespace Go.Cb
open Go.Proofs
set_option maxRecDepth 100000
class Dfl (α : Type) where
 d : α
instance : Dfl Int := ⟨0⟩
instance : Dfl UInt8 := ⟨0⟩
instance : Dfl Trm := ⟨.mk 0 0 [] []⟩
instance : Dfl Datum := ⟨.mk 0 0 0 [] []⟩
theorem zPG {α : Type} {f : α → PV} {g : α → List PV} [c : CellsOf f g] {sz : Nat} {l : List α} {tk : Option Tok} {k : IntKind} {n : Int} {i : Nat} [x : IdxOf n i] {K : PV → Prop} [q : Dfl α] (h0 : 0 ≤ n) (h : n < l.length)
  (hk : K (.ep (g (l.getD i q.d)))) : PIndexA sz (.sl sz (l.map f) tk) (.int k n) K := PIndexA.ixE q.d h0 h hk
theorem stB {p : Prop} (h : p := by
 conv => whnf
 repeat ((first|(refine zW ?_ ?_; exact gA)|refine zH rfl ?_|refine zA ?_|refine zI bA ?_|refine zI rfl ?_|refine zJ rfl rfl ?_|refine zB ?_|refine zK rfl ?_|refine zL rfl ?_|refine zC ?_|(refine zO ?_ ?_ ?_; exact OA; exact OA)|(refine zPG ?_ ?_ ?_; exact OA; exact OA)|refine zM rfl ?_|(refine zQ ?_ ?_ ?_; exact OA; exact OA)|(refine zR ?_ ?_; exact OA)|(refine zI ?_ ?_; exact NA)|(refine zS ?_ ?_ ?_; exact OA; exact OA)|(refine zT ?_ ?_ ?_; exact OA; exact OA)|(refine zU ?_ ?_ ?_; exact OA; exact OA)|(refine zV ?_ ?_ ?_; exact OA; exact OA)|intro _); conv=>whnf)
 first | exact PShift.same | exact PShift.lit | exact PShift.ep) : p := h
class ElOf {α : Type} (f : α → PV) (x : PV) (v : outParam α) : Prop where
 wk : Wk x (f v)
 wl : WkL x.cellsOf (f v).cellsOf
class RowOf {α : Type} (f : α → PV) (es : List PV) (l : outParam (List α)) : Prop where
 h : WkR es (l.map f)
class SlOf {α : Type} (f : α → PV) (s : Nat) (x : PV) (l : outParam (List α)) : Prop where
 wk : Wk x (.sl s (l.map f) none)
instance (priority := high) RowOf.map {α : Type} (f : α → PV) (l : List α) : RowOf f (l.map f) l := ⟨WkR.refl _⟩
instance RowOf.nil {α : Type} (f : α → PV) : RowOf f [] [] := ⟨.nil⟩
instance RowOf.cons {α : Type} (f : α → PV) (x : PV) (es : List PV) (v : α) (l : List α) [h : ElOf f x v] [k : RowOf f es l] : RowOf f (x :: es) (v :: l) := ⟨.cons h.wl k.h⟩
instance SlOf.nil {α : Type} (f : α → PV) (s : Nat) : SlOf f s .nil [] := ⟨Wk.nil' rfl⟩
instance SlOf.sl {α : Type} (f : α → PV) (s : Nat) (es : List PV) (l : List α) (tk : Option Tok) [h : RowOf f es l] : SlOf f s (.sl s es tk) l := ⟨Wk.trans (Wk.tok _ _ _) (Wk.row h.h)⟩
theorem WkL.one {x y : PV} (h : Wk x y) : WkL [x] [y] := .cons h .nil
instance (k : IntKind) (n : Int) : ElOf (PV.int k) (.int k n) n := ⟨Wk.refl _, WkL.refl _⟩
instance (b : Bool) : ElOf PV.bool (.bool b) b := ⟨Wk.refl _, WkL.refl _⟩
instance (s : List UInt8) : ElOf PV.str (.str s) s := ⟨Wk.refl _, WkL.refl _⟩
instance (priority := high) ElOf.same (t : Trm) : ElOf Trm.pv (Trm.pv t) t := ⟨Wk.refl _, WkL.refl _⟩
instance (priority := high) ElOf.cells (t : Trm) : ElOf Trm.pv (.agg t.cells) t := ⟨by rw [Trm.pv_eq]; exact Wk.refl _, by rw [Trm.pv_eq]; exact WkL.refl _⟩
theorem ElOf.ofL {x : List PV} {t : Trm} (h : WkL x t.cells) : ElOf Trm.pv (.agg x) t := ⟨by rw [Trm.pv_eq]; exact Wk.agg h, by rw [Trm.pv_eq]; exact h⟩
instance (priority := high) ElOf.parts (t : Trm) (tk1 tk2 : Option Tok) : ElOf Trm.pv (.agg [.int .i64 (Trm.op t), .int .i64 (Trm.n t), .sl 1 ((Trm.v t).map (PV.int .i64)) tk1, .sl 4 ((Trm.t t).map Trm.pv) tk2]) t :=
 ElOf.ofL (.cons (Wk.refl _) (.cons (Wk.refl _) (.cons (Wk.tok _ _ _) (.cons (Wk.tok _ _ _) .nil))))
instance ElOf.mk' (a b : Int) (x y : PV) (v : List Int) (t : List Trm) [h : SlOf (PV.int .i64) 1 x v] [k : SlOf Trm.pv 4 y t] : ElOf Trm.pv (.agg [.int .i64 a, .int .i64 b, x, y]) (.mk a b v t) :=
 ElOf.ofL (.cons (Wk.refl _) (.cons (Wk.refl _) (.cons h.wk (.cons k.wk .nil))))
theorem TrmOf.wk {x : PV} {t : Trm} [h : ElOf Trm.pv x t] : Wk x (.agg t.cells) := by rw [← Trm.pv_eq]; exact h.wk
instance (priority := high) ElOf.dsame (t : Datum) : ElOf Datum.pv (Datum.pv t) t := ⟨Wk.refl _, WkL.refl _⟩
instance (priority := high) ElOf.dcells (t : Datum) : ElOf Datum.pv (.agg t.cells) t := ⟨by rw [Datum.pv_eq]; exact Wk.refl _, by rw [Datum.pv_eq]; exact WkL.refl _⟩
theorem ElOf.ofD {x : List PV} {t : Datum} (h : WkL x t.cells) : ElOf Datum.pv (.agg x) t := ⟨by rw [Datum.pv_eq]; exact Wk.agg h, by rw [Datum.pv_eq]; exact h⟩
instance (priority := high) ElOf.dparts (t : Datum) (tk : Option Tok) : ElOf Datum.pv (.agg [.int .i64 (Datum.kind t), .int .i64 (Datum.n t), .int .i64 (Datum.d t), .str (Datum.s t), .sl 5 ((Datum.l t).map Datum.pv) tk]) t :=
 ElOf.ofD (.cons (Wk.refl _) (.cons (Wk.refl _) (.cons (Wk.refl _) (.cons (Wk.refl _) (.cons (Wk.tok _ _ _) .nil)))))
instance ElOf.dmk (a b c : Int) (s : List UInt8) (x : PV) (l : List Datum) [h : SlOf Datum.pv 5 x l] : ElOf Datum.pv (.agg [.int .i64 a, .int .i64 b, .int .i64 c, .str s, x]) (.mk a b c s l) :=
 ElOf.ofD (.cons (Wk.refl _) (.cons (Wk.refl _) (.cons (Wk.refl _) (.cons (Wk.refl _) (.cons h.wk .nil)))))
section
theorem bytes_ok {n by_ : Nat} (hb : Nat.ble by_ 4096 = true) (h : n ≤ 34359738368) : n * by_ ≤ 140737488355328 :=
 Nat.le_trans (Nat.mul_le_mul h (Nat.le_of_ble_eq_true hb)) (by decide)
theorem PAppend.more {α : Type} {f : α → PV} {l m : List α} {es : List PV} {s by_ : Nat} {e : TypeId} {tk : Option Tok} {t : Tok} {Γ : List Ent} {put : Tok → List Ent} [hp : PickTok Γ t put] [hm : RowOf f es m] {K : PV → List Ent → Prop} (he : t.e = e)
  (hb : Nat.ble by_ 4096 = true) (h1 : l.length + m.length ≤ 34359738368)
  (k : ∀ t' : Tok, t'.e = e → K (.sl s ((l ++ m).map f) (some t')) (put t')) : PAppend s by_ e (.sl s (l.map f) (some t)) (.sl s es tk) Γ K := by
 obtain ⟨Γ1, Γ2, e1, e2⟩ := hp.at_
 refine ⟨l.map f, m.map f, .inl ⟨tk, Wk.row hm.h⟩, by simp; omega, by simpa using bytes_ok hb h1, .inr (.inl ⟨t, Γ1, Γ2, rfl, e1, he, fun t' ht => ?_⟩)⟩
 have := k t' ht
 rw [List.map_append, e2] at this
 exact this
theorem PAppend.empty {ys : List PV} {s by_ : Nat} {e : TypeId} {tk : Option Tok} {t : Tok} {Γ : List Ent} {put : Tok → List Ent} [hp : PickTok Γ t put] {K : PV → List Ent → Prop} (he : t.e = e)
  (hb : Nat.ble by_ 4096 = true) (h1 : ys.length ≤ 34359738368)
  (k : ∀ t' : Tok, t'.e = e → K (.sl s ys (some t')) (put t')) : PAppend s by_ e (.sl s [] (some t)) (.sl s ys tk) Γ K := by
 obtain ⟨Γ1, Γ2, e1, e2⟩ := hp.at_
 refine ⟨[], ys, .inl ⟨tk, Wk.refl _⟩, by simp; omega, by simpa using bytes_ok hb h1, .inr (.inl ⟨t, Γ1, Γ2, rfl, e1, he, fun t' ht => ?_⟩)⟩
 have := k t' ht
 rw [e2] at this
 exact this
theorem PAppend.ofNil {ys : List PV} {s by_ : Nat} {e : TypeId} {tk : Option Tok} {Γ : List Ent} {K : PV → List Ent → Prop}
  (hb : Nat.ble by_ 4096 = true) (h1 : ys.length ≤ 34359738368)
  (k : ∀ t : Tok, t.e = e → K (.sl s ys (some t)) (.tok t :: Γ)) : PAppend s by_ e .nil (.sl s ys tk) Γ K :=
 ⟨[], ys, .inl ⟨tk, Wk.refl _⟩, by simp; omega, by simpa using bytes_ok hb h1, .inl ⟨rfl, rfl, .inl k⟩⟩
end
class TokL (Γ : List Ent) (Γ1 Γ2 : outParam (List Ent)) : Prop where
 p : Γ.Perm (Γ1 ++ Γ2)
instance TokL.nil : TokL [] [] [] := ⟨List.Perm.refl _⟩
instance (priority := high) TokL.tok (t : Tok) (Γ Γ1 Γ2 : List Ent) [h : TokL Γ Γ1 Γ2] : TokL (.tok t :: Γ) (.tok t :: Γ1) Γ2 := ⟨h.p.cons _⟩
instance TokL.other (e : Ent) (Γ Γ1 Γ2 : List Ent) [h : TokL Γ Γ1 Γ2] : TokL (e :: Γ) Γ1 (e :: Γ2) := ⟨(h.p.cons e).trans List.perm_middle.symm⟩
section
variable {P : Program} {tt : Nat → TI}
theorem PDraw.sT (d : Option Nat) {ops : Array Oper} (hd : fstDst ops = d) (R1 R2 : List Nat) {T : List PV} {Γ Γ1 Γ2 : List Ent} {K : List PV → List Ent → Prop} (hk : TT.ok P tt) (hm : P.follows .mixedOrders = true) [hp : TokL Γ Γ1 Γ2]
  (h : SSeq P tt ops.toList (pickO ops.toList (restL ops.toList 0 (R1 ++ R2))) T Γ2 fun T' => WOps P tt ops.toList (pickO ops.toList R1) T' Γ1 [] fun T2 Γ1' _ => appE Γ1' Γ2 fun Γ' => WOps P tt ops.toList (pickO ops.toList R2) T2 Γ' [] fun T' Γ' _ => K T' Γ')
  (hchk : splitB ops (tabOf ops.toList []) (restL ops.toList 0 (R1 ++ R2)) R1 R2 = true := by kernel_rfl) : PDraw P ops T Γ K :=
 PDraw.split hk hm _ _ R1 R2 Γ1 (hp := ⟨hp.p⟩) hchk h
end
theorem yA : type_of% @PAppend.more := @PAppend.more
theorem yB : type_of% @PAppend.empty := @PAppend.empty
theorem yC : type_of% @PAppend.ofNil := @PAppend.ofNil
theorem lA {p : Prop} (h : p := by first | omega | (simp only [List.length_cons, List.length_nil, List.length_map, List.length_append, List.length_take, List.length_drop]; omega)) : p := h
theorem sE {p q : Prop} (k : q) (h : q → p := by intro hq; first | exact yA (by clear hq; assumption) rfl lA hq | exact yB (by clear hq; assumption) rfl lA hq | exact yC rfl lA hq) : p := h k
theorem tB {p : Prop} (h : p := by first | exact stA | exact stB) : p := h
theorem aA1 {p q : Prop} (k : q) (h : Hd q → p := by intro hq; (conv => whnf); (repeat1' ((first | ((first | (apply zY; intro hg) | apply zZ); exact tB) | (refine zW ?_ ?_; exact gA) | refine zH rfl ?_ | refine zA ?_ | refine zI bA ?_ | refine zI rfl ?_ | refine zJ rfl rfl ?_ | refine zB ?_ | refine zK rfl ?_ | refine zL rfl ?_ | refine zC ?_ | (refine zO ?_ ?_ ?_; omega; omega) | (refine zP ?_ ?_ ?_; omega; omega) | refine zM rfl ?_ | (refine zQ ?_ ?_ ?_; omega; omega) | (refine zR ?_ ?_; omega) | (refine zI ?_ ?_; exact nA) | (refine zS ?_ ?_ ?_; omega; omega) | (refine zT ?_ ?_ ?_; omega; omega) | (refine zU ?_ ?_ ?_; omega; omega) | (refine zV ?_ ?_ ?_; omega; omega) | (refine yA ?_ rfl lA ?_; assumption) | (refine yB ?_ rfl lA ?_; assumption) | refine yC rfl lA ?_ | refine n0 ?_ | refine zN rfl rfl rfl ?_ | refine zD ?_ | refine zE ?_ | refine zF ?_ | refine zG ?_); conv => whnf)); exact hq.h) : p := h ⟨k⟩
end Go.Cb
namespace Go.Cb
open Go.Proofs
set_option maxRecDepth 100000
set_option maxHeartbeats 4000000
theorem DatOf.wk {x : PV} {t : Datum} [h : ElOf Datum.pv x t] : Wk x (.agg t.cells) := by rw [← Datum.pv_eq]; exact h.wk
theorem wk_nulD : Wk (.agg [.int .i64 4, .int .i64 0, .int .i64 0, .str [], .nil]) (.agg nulD.cells) := Wk.agg (.cons (Wk.refl _) (.cons (Wk.refl _) (.cons (Wk.refl _) (.cons (Wk.refl _) (.cons (Wk.nil' rfl) .nil)))))
theorem LoopTo.gh {σ : Type} {ds : List Nat} {R : σ → List (Nat × PV)} {G : σ → List Ent} {I : σ → Prop} {μ : σ → Nat} {T0 : List PV} {s : σ} {T : List PV} {Γ : List Ent} {D : Ds} (s' : σ) (hI : I s') (hμ : μ s' < μ s)
  (hw : WkOver 0 T T0 ds (R s')) (hg : Ghost Γ (G s')) : LoopTo ds R G I μ T0 s D T Γ D := ⟨rfl, s', hI, hμ, Weak.of (WkOver.wk 0 T T0 ds (R s') hw) hg⟩
abbrev resE (b : Nat) : Ent := .box b [.int .i64 0, .int .i64 0, .int .i64 0, .str [], .nil]
abbrev rdE (b : Nat) (s : List UInt8) (k : Nat) (bad : Int) : Ent := .box b [.str s, .int .i64 k, .int .i64 bad]
theorem fail03_c (b : Nat) (s : List UInt8) (k : Nat) (at_ : Int) : ACall Tryz.prog 67 [.ptr b 0, .int .i64 at_] [rdE b s k (-1)] (fun y Γ' => y = .agg nulD.cells ∧ Γ' = [rdE b s k at_]) := by
 refine ACall.of_body tt_ok Tryz.func67 rfl rfl (n := 15) rfl rfl ?_
 conv => whnf
 repeat' (first|refine aA1 ?_|((intro _);conv=>whnf)|(refine zX (fun hc=>?_) (fun hc=>?_)<;>(try simp only [SY] at hc)<;>first|omega|(conv=>whnf)))
 ·exact PRet.gen (y := .agg nulD.cells) wk_nulD ⟨rfl, rfl⟩
theorem mark03_c (c : UInt8) : ACallP Tryz.prog 113 [.int .u8 c.toNat] (.bool (markR c)) := by
 refine ACall.of_body tt_ok Tryz.func113 rfl rfl (n := 30) rfl rfl ?_
 conv => whnf
 skip
 refine PLoop.keep [2, 4, 5, 6, 7, 8, 9, 10, 11, 12, 13, 14, 15] (fun i : Nat => [(4, .int .i64 i)]) (fun i => i ≤ 10 ∧ marksR.contains c = (marksR.drop i).contains c) (fun i => 10 - i) 0 ⟨Nat.zero_le _, rfl⟩ wA ?_
 rintro i ⟨hi, he⟩
 conv => whnf
 repeat' (first|refine aA1 ?_|((intro _);conv=>whnf)|(refine zX (fun hc=>?_) (fun hc=>?_)<;>(try simp only [SY] at hc)<;>(conv=>whnf)))
 ·simp only [List.length_cons, List.length_nil] at *
  have hcc : c = marksR.getD i 0 := UInt8.toNat_inj.1 (by show c.toNat = (marksR.getD i 0).toNat; exact Int.ofNat.inj hc)
  have hil : i < marksR.length := by show i < 10; omega
  rw [drop_getD hil, List.contains_cons, ← hcc, beq_self_eq_true, Bool.true_or] at he
  exact PRet.pure (Wk.tt (by unfold markR; rw [he]; rfl))
 ·simp only [List.length_cons, List.length_nil] at *
  have hcc : ¬c = marksR.getD i 0 := fun e => hc (by show (c.toNat : Int) = ((marksR.getD i 0).toNat : Int); rw [← e])
  have hil : i < marksR.length := by show i < 10; omega
  rw [drop_getD hil, List.contains_cons, beq_eq_false_iff_ne.2 hcc, Bool.false_or] at he
  exact loopTo (i + 1) ⟨by omega, he⟩ (by omega) wA
 ·simp only [List.length_cons, List.length_nil] at *
  rw [List.drop_of_length_le (by show 10 ≤ i; omega)] at he
  exact PRet.pure (Wk.bool (by unfold markR; rw [he]; rfl))
theorem u8_eq {c n : UInt8} : (c.toNat : Int) = (n.toNat : Int) ↔ c = n := ⟨fun h => UInt8.toNat_inj.1 (Int.ofNat.inj h), fun h => by rw [h]⟩
theorem drRd03aa {p q : Prop} (k : q) (h : q → p := by intro hq; first | exact PDraw.sP (some 4) rfl [] [] tt_ok mixed hq | exact PDraw.sP (some 14) rfl [] [] tt_ok mixed hq | exact PDraw.sP (some 25) rfl [] [] tt_ok mixed hq) : p := h k
theorem next03_c (b : Nat) (s : List UInt8) (k : Nat) (bad : Int) (hs : s.length ≤ 1000000) (hk : k ≤ s.length) : ACall Tryz.prog 65 [.ptr b 0] [rdE b s k bad] (fun y Γ' => y = .int .u8 (byteF s (nxtF s k)).toNat ∧ Γ' = [rdE b s (nxtF s k) bad]) := by
 refine ACall.of_body tt_ok Tryz.func65 rfl rfl (n := 72) rfl rfl ?_
 conv => whnf
 skip
 refine PLoop.over [2, 3, 4, 5, 6, 7, 8, 9, 10, 11, 12, 13, 14, 15, 16, 17, 18, 19, 20, 21, 22, 23, 24, 25, 26, 27, 28, 29, 30, 31, 32, 33, 34, 35, 36, 37, 38, 39, 40, 41, 42, 43, 44, 45, 46, 47, 48, 49, 50, 51, 52, 53, 54, 55, 56, 57, 58, 59, 60, 61, 62, 63, 64, 65, 66, 67, 68, 69, 70, 71] (fun _ : Nat => []) (fun j => [rdE b s j bad]) (fun j => j ≤ s.length ∧ nxtF s j = nxtF s k) (fun j => s.length - j) k ⟨hk, rfl⟩ wA ?_
 rintro j ⟨hj, he⟩
 rw [nxtF_eq hj] at he
 conv => whnf
 repeat' (first|refine aA1 ?_|((refine drRd03aa ?_);conv=>whnf)|(refine zX (fun hc=>?_) (fun hc=>?_)<;>(try simp only [SY] at hc)<;>(conv=>whnf)))
 ·have h59 : s.getD j 0 = 59 := u8_eq.1 hc
  rw [if_pos (by omega), if_pos h59] at he
  refine PLoop.over [25, 26, 27, 28, 29, 30, 31, 32, 33, 34, 35, 36, 37, 38, 39, 40, 41, 42, 43, 44, 45, 46, 47, 48, 49, 50, 51, 52, 53] (fun _ : Nat => []) (fun i => [rdE b s i bad]) (fun i => j ≤ i ∧ i ≤ s.length ∧ eolF s i = eolF s j) (fun i => s.length - i) j ⟨Nat.le_refl _, hj, rfl⟩ wA ?_
  rintro i ⟨hji, hi, hei⟩
  conv => whnf
  repeat' (first|refine aA1 ?_|((refine drRd03aa ?_);conv=>whnf)|(refine zX (fun hc=>?_) (fun hc=>?_)<;>(try simp only [SY] at hc)<;>(conv=>whnf)))
  ·have hin : ¬s.getD i 0 = 10 := fun e => hc.2 (by rw [e]; rfl)
   rw [eolF_at (by omega), if_neg hin] at hei
   rw [show (i : Int) + 1 = ((i + 1 : Nat) : Int) from rfl]
   exact loopTo (i + 1) ⟨by omega, by omega, hei⟩ (by omega) wA
  ·have hei2 : eolF s i = i := by
    by_cases hl : i < s.length
    ·have h10 : ((s.getD i 0).toNat : Int) = 10 := by omega
     rw [eolF_at hl, if_pos (u8_eq.1 h10)]
    ·exact eolF_end hl
   have hji2 : i ≠ j := fun e => by
    rw [e, h59] at hc
    have hc2 : ((59 : UInt8).toNat : Int) = 59 := rfl
    omega
   rw [← hei, hei2] at he
   exact loopTo i ⟨by omega, he⟩ (by omega) wA
 ·rw [if_pos (by omega), if_neg (fun e => by have h2 := ‹¬((s.getD j 0).toNat : Int) = 59›; rw [e] at h2; exact h2 rfl), if_neg (fun e => by unfold blankB at e; simp only [Bool.or_eq_true, beq_iff_eq] at e; rcases e with (e | e) | e <;> (rw [e] at hc; simp at hc))] at he
  subst he
  exact PRet.gen (Wk.eq (by unfold byteF; rw [if_pos (by omega)])) ⟨rfl, rfl⟩
 ·rw [if_pos (by omega), if_neg (fun e => by have h2 := ‹¬((s.getD j 0).toNat : Int) = 59›; rw [e] at h2; exact h2 rfl), if_pos (by unfold blankB; simp only [Bool.or_eq_true, beq_iff_eq]; rcases hc with (e | e) | e; exact .inl (.inl (u8_eq.1 e)); exact .inl (.inr (u8_eq.1 e)); exact .inr (u8_eq.1 e))] at he
  rw [show (j : Int) + 1 = ((j + 1 : Nat) : Int) from rfl]
  exact loopTo (j + 1) ⟨by omega, he⟩ (by omega) wA
 ·rw [if_neg (by omega)] at he
  subst he
  exact PRet.gen (Wk.eq (by unfold byteF; rw [if_neg (by omega)]; rfl)) ⟨rfl, rfl⟩
theorem drRd03ab {p q : Prop} (k : q) (h : q → p := by intro hq; first | exact PDraw.sP (some 12) rfl [] [] tt_ok mixed hq | exact PDraw.sP (some 41) rfl [] [] tt_ok mixed hq) : p := h k
theorem word03_c (b : Nat) (s : List UInt8) (k : Nat) (hs : s.length ≤ 1000000) (hk : k ≤ s.length) : ACall Tryz.prog 114 [.ptr b 0] [rdE b s k (-1)] (fun y Γ' => y = .agg (wordF s k).1.cells ∧ Γ' = [rdE b s (wordF s k).2.1 (wordF s k).2.2]) := by
 refine ACall.of_body tt_ok Tryz.func114 rfl rfl (n := 69) rfl rfl ?_
 conv => whnf
 repeat' (first|refine aA1 ?_|((intro _);conv=>whnf)|(refine zX (fun hc=>?_) (fun hc=>?_)<;>(try simp only [SY] at hc)<;>omega))
 rename_i b2
 refine PLoop.over [12, 13, 14, 15, 16, 17, 18, 19, 20, 21, 22, 23, 24, 25, 26, 27, 28, 29, 30, 31, 32, 33, 34, 35, 36, 37, 38, 39, 40] (fun _ : Nat => []) (fun j => [resE b2, rdE b s j (-1)]) (fun j => k ≤ j ∧ j ≤ s.length ∧ wordE s j = wordE s k) (fun j => s.length - j) k ⟨Nat.le_refl _, hk, rfl⟩ wA ?_
 rintro j ⟨hkj, hj, he⟩
 conv => whnf
 repeat' (first|refine aA1 ?_|((first|((first|(apply zY;intro hg)|apply zZ);(conv=>whnf);(repeat ((first|refine pC (mark03_c _) wR ?_|refine aG ?_);conv=>whnf));exact pZ)|refine drRd03ab ?_);conv=>whnf)|(refine zX (fun hc=>?_) (fun hc=>?_)<;>(try simp only [SY] at hc)<;>(conv=>whnf)))
 ·have hl : j < s.length := by omega
  rw [wordE_at hl, if_pos hc.2] at he
  rw [show (j : Int) + 1 = ((j + 1 : Nat) : Int) from rfl]
  exact loopTo (j + 1) ⟨by omega, by omega, he⟩ (by omega) wA
 ·have hje : j = wordE s k := by
   rw [← he]
   rcases hc with hc | hc
   ·rw [wordE_end (by omega)]
   ·by_cases hl : j < s.length
    ·rw [wordE_at hl, if_neg (by rw [hc]; simp)]
    ·rw [wordE_end hl]
  have hF : wordF s k = wordF s k := rfl
  conv at hF => rhs; unfold wordF; dsimp only; rw [← hje]
  obtain ⟨w, hw⟩ : ∃ w, w = (s.take j).drop k := ⟨_, rfl⟩
  rw [← hw] at hF
  refine PStb.of (.str w) ?_ ?_
  ·conv => whnf
   refine PSliceS.both (by omega) (by omega) (by omega) ?_
   rw [hw]
   exact pS
  clear hw
  conv => whnf
  repeat' (first|refine aA1 ?_|((first|refine pC (parse1_c _) wR ?_|intro _);conv=>whnf)|(refine zX (fun hc=>?_) (fun hc=>?_)<;>(try simp only [SY] at hc)<;>(conv=>whnf)))
  ·rw [if_pos hc] at hF
   rw [hF]
   exact PRet.gen (y := .agg (Datum.mk 0 (parseN w).1 (parseN w).2.1 [] []).cells) (Γ' := [rdE b s j (-1)]) DatOf.wk (And.intro rfl rfl)
  ·rw [if_neg (by rw [‹(parseN w).2.2 = false›]; simp), if_pos (by omega)] at hF
   refine PCall.go (fail03_c b s j k) (WkT.refl _) ?_
   rintro _ _ ⟨rfl, rfl⟩
   conv => whnf
   repeat' (first|refine aA1 ?_|(refine zX (fun hc=>?_) (fun hc=>?_)<;>(try simp only [SY] at hc)<;>omega))
   rw [hF]
   exact PRet.gen (y := .agg nulD.cells) (Γ' := [rdE b s j k]) (Wk.refl _) (And.intro rfl rfl)
  ·rw [if_neg (by rw [‹(parseN w).2.2 = false›]; simp), if_neg (by omega)] at hF
   rw [hF]
   exact PRet.gen (y := .agg (symD w).cells) (Γ' := [rdE b s j (-1)]) DatOf.wk (And.intro rfl rfl)
theorem badC_iff (c : UInt8) : badC c = true ↔ ((c.toNat : Int) < 32 ∨ (c.toNat : Int) > 126) ∨ (c.toNat : Int) = 92 := by
 unfold badC
 simp only [Bool.or_eq_true, decide_eq_true_eq, beq_iff_eq]
theorem drRd03ac {p q : Prop} (k : q) (h : q → p := by intro hq; first | exact PDraw.sP (some 15) rfl [] [] tt_ok mixed hq | exact PDraw.sP (some 37) rfl [] [] tt_ok mixed hq | exact PDraw.sP (some 84) rfl [] [] tt_ok mixed hq | exact PDraw.sP (some 107) rfl [] [12] tt_ok mixed hq) : p := h k
theorem text03_c (b : Nat) (s : List UInt8) (k : Nat) (hs : s.length ≤ 1000000) (hk : k < s.length) : ACall Tryz.prog 115 [.ptr b 0] [rdE b s k (-1)] (fun y Γ' => y = .agg (textF s k).1.cells ∧ Γ' = [rdE b s (textF s k).2.1 (textF s k).2.2]) := by
 refine ACall.of_body tt_ok Tryz.func115 rfl rfl (n := 119) rfl rfl ?_
 conv => whnf
 repeat' (first|refine aA1 ?_|((intro _);conv=>whnf)|(refine zX (fun hc=>?_) (fun hc=>?_)<;>(try simp only [SY] at hc)<;>omega))
 rw [show (k : Int) + 1 = ((k + 1 : Nat) : Int) from rfl]
 rename_i b2
 refine PLoop.over [15, 16, 17, 18, 19, 20, 21, 22, 23, 24, 25, 26, 27, 28, 29, 30, 31, 32, 33, 34, 35, 36, 37, 38, 39, 40, 41, 42, 43, 44, 45, 46, 47, 48, 49, 50, 51, 52, 53, 54, 55, 56, 57, 58, 59, 60, 61, 62, 63, 64, 65, 66, 67, 68, 69, 70, 71, 72, 73, 74, 75, 76, 77, 78, 79, 80, 81, 82, 83] (fun _ : Nat => []) (fun j => [resE b2, rdE b s j (-1)]) (fun j => k + 1 ≤ j ∧ j ≤ s.length ∧ textE s j = textE s (k + 1)) (fun j => s.length - j) (k + 1) ⟨Nat.le_refl _, hk, rfl⟩ wA ?_
 rintro j ⟨hkj, hj, he⟩
 have hF : textF s k = textF s k := rfl
 conv at hF => rhs; unfold textF; dsimp only; rw [← he]
 conv => whnf
 repeat' (first|refine aA1 ?_|((refine drRd03ac ?_);conv=>whnf)|(refine zX (fun hc=>?_) (fun hc=>?_)<;>(try simp only [SY] at hc)<;>(conv=>whnf)))
 ·have hl : j < s.length := by omega
  have hT : textE s j = j := by rw [textE_at hl, if_pos (.inr ((badC_iff _).2 (by omega)))]
  rw [hT, if_neg (fun h => by have := ‹_ ∧ ¬((s.getD j 0).toNat : Int) = 34›.2; rw [h.2] at this; exact this rfl)] at hF
  refine PCall.go (fail03_c b s j j) (WkT.refl _) ?_
  rintro _ _ ⟨rfl, rfl⟩
  conv => whnf
  repeat' (first|refine aA1 ?_|(refine zX (fun hc=>?_) (fun hc=>?_)<;>(try simp only [SY] at hc)<;>omega))
  rw [hF]
  exact PRet.gen (y := .agg nulD.cells) (Γ' := [rdE b s j j]) (Wk.refl _) (And.intro rfl rfl)
 ·have hl : j < s.length := by omega
  rw [textE_at hl, if_neg (fun h => by
   rcases h with h | h
   ·have := ‹_ ∧ ¬((s.getD j 0).toNat : Int) = 34›.2; rw [h] at this; exact this rfl
   ·have := (badC_iff _).1 h; omega)] at he
  rw [show (j : Int) + 1 = ((j + 1 : Nat) : Int) from rfl]
  exact loopTo (j + 1) ⟨by omega, by omega, he⟩ (by omega) wA
 ·have hl : ¬j < s.length := by omega
  rw [textE_end hl, if_neg (by omega)] at hF
  refine PCall.go (fail03_c b s j j) (WkT.refl _) ?_
  rintro _ _ ⟨rfl, rfl⟩
  conv => whnf
  repeat' (first|refine aA1 ?_|(refine zX (fun hc=>?_) (fun hc=>?_)<;>(try simp only [SY] at hc)<;>omega))
  rw [hF]
  exact PRet.gen (y := .agg nulD.cells) (Γ' := [rdE b s j j]) (Wk.refl _) (And.intro rfl rfl)
 ·have hl : j < s.length := by omega
  have h34 : s.getD j 0 = 34 := u8_eq.1 (by show _ = (34 : Int); omega)
  have hT : textE s j = j := by rw [textE_at hl, if_pos (.inl h34)]
  rw [hT, if_pos ⟨hl, h34⟩] at hF
  rw [hF]
  refine PStb.of (.str ((s.take j).drop (k + 1))) ?_ ?_
  ·conv => whnf
   refine PSliceS.both (j := j) (y := ⟨fun _ => by omega⟩) (by omega) (by omega) (by omega) ?_
   exact pS
  conv => whnf
  repeat' (first|refine aA1 ?_|(refine zX (fun hc=>?_) (fun hc=>?_)<;>(try simp only [SY] at hc)<;>omega))
  exact PRet.gen (y := .agg (Datum.mk 3 0 0 ((s.take j).drop (k + 1)) []).cells) (Γ' := [.box b [.str s, .int .i64 ((j : Int) + 1), .int .i64 (-1)]]) DatOf.wk (And.intro rfl rfl)
end Go.Cb
namespace Go.Cb
open Go.Proofs
set_option maxRecDepth 100000
theorem PAppend.rowMore {α : Type} {f : α → PV} {l m : List α} {es : List PV} {s by_ : Nat} {e : TypeId} {tk : Option Tok} {t : Tok} {Γ : List Ent} {put : Tok → List PV → List Ent} [hp : PickRow Γ t (l.map f) put] [hm : RowOf f es m] {K : PV → List Ent → Prop} (he : t.e = e) (hs : t.s = s)
  (hb : Nat.ble by_ 4096 = true) (h1 : l.length + m.length ≤ 34359738368)
  (k : ∀ t' : Tok, t'.e = e → t'.s = s → K (.ms t') (put t' ((l ++ m).map f))) : PAppend s by_ e (.ms t) (.sl s es tk) Γ K := by
 obtain ⟨Γ1, Γ2, e1, e2⟩ := hp.at_
 refine ⟨l.map f, m.map f, .inl ⟨none, Wk.trans (Wk.tok _ _ _) (Wk.row hm.h)⟩, by simp; omega, by simpa using bytes_ok hb h1, .inr (.inr ⟨t, Γ1, Γ2, rfl, e1, he, hs, fun t' ht hs' => ?_⟩)⟩
 have := k t' ht hs'
 rw [List.map_append, e2] at this
 exact this
theorem yD : type_of% @PAppend.rowMore := @PAppend.rowMore
def mapM {α : Type} (f : α → PV) (m : Int → Option α) (v : Value) : Option PV := match v with
 | .int .i64 k => (m k).map f
 | _ => none
theorem PLook.num {α : Type} {f : α → PV} {r : Nat} {m : Int → Option α} {n : Int} {z : PV} {Γ : List Ent} {pend : List (Int × Value)} {put : (Value → Option PV) → List (Int × Value) → List Ent} [hp : PickMp Γ r (.int .i64) (mapM f m) pend put] {K : PV → Bool → Prop}
  (h : K (match m n with | some x => f x | none => z) (m n).isSome) : PLook r (.int .i64) (some (.int .i64 n)) z Γ K :=
 PLook.at_ (hp := hp) _ _ (by simp [IsK, MapKept.IsKey]) (fun p hp => by
  simp only [mapM] at hp
  cases hm : m n with
  | none => rw [hm] at hp; cases hp
  | some x => rw [hm] at hp; cases hp; exact ⟨Wk.refl _, rfl⟩) (fun hn => by
  simp only [mapM] at hn
  cases hm : m n with
  | none => exact ⟨Wk.refl _, rfl⟩
  | some x => rw [hm] at hn; cases hn) h
theorem yH {α : Type} {f : α → PV} {r : Nat} {m : Int → Option α} {n : Int} {x : α} {z : PV} {Γ : List Ent} {pend : List (Int × Value)} {put : (Value → Option PV) → List (Int × Value) → List Ent} [hp : PickMp Γ r (.int .i64) (mapM f m) pend put] {K : PV → Bool → Prop}
  (hx : m n = some x) (h : K (f x) true) : PLook r (.int .i64) (some (.int .i64 n)) z Γ K := PLook.num (hp := hp) (by rw [hx]; exact h)
theorem yI {α : Type} {f : α → PV} {r : Nat} {m : Int → Option α} {n : Int} {z : PV} {Γ : List Ent} {pend : List (Int × Value)} {put : (Value → Option PV) → List (Int × Value) → List Ent} [hp : PickMp Γ r (.int .i64) (mapM f m) pend put] {K : PV → Bool → Prop}
  (hx : m n = none) (h : K z false) : PLook r (.int .i64) (some (.int .i64 n)) z Γ K := PLook.num (hp := hp) (by rw [hx]; exact h)
def upd {α : Type} (m : Int → Option α) (n : Int) (x : α) : Int → Option α := fun k => if k = n then some x else m k
theorem PMapPut.num {α : Type} {f : α → PV} {r : Nat} {m : Int → Option α} {n : Int} {p : PV} {Γ : List Ent} {pend : List (Int × Value)} {put : (Value → Option PV) → List (Int × Value) → List Ent} [hp : PickMp Γ r (.int .i64) (mapM f m) pend put] {K : List Ent → Prop} (x : α) (hx : p = f x)
  (h : K (put (mapM f (upd m n x)) pend)) (hq : mapM f m (.int .i64 n) ≠ none ∨ ∀ q ∈ pend, q.2 ≠ .tuple #[] := by right; simp) : PMapPut r (.int .i64) (some (.int .i64 n)) p Γ K :=
 PMapPut.at_ (hp := hp) (mapM f (upd m n x)) (by simp [IsK, MapKept.IsKey]) (by simp [mapM, upd, hx]) (fun k hk => by
  unfold mapM
  split
  ·rename_i j
   have : j ≠ n := fun e => hk (by rw [e])
   simp [upd, this]
  ·rfl) h hq
theorem nodup_inj {α β : Type} {f : α → β} : ∀ {l : List α}, (l.map f).Nodup → ∀ {x y : α}, x ∈ l → y ∈ l → f x = f y → x = y
 | [], _, x, _, hx, _, _ => by cases hx
 | a :: l, h, x, y, hx, hy, e => by
  rw [List.map_cons, List.nodup_cons] at h
  rcases List.mem_cons.1 hx with hx1 | hx
  ·rcases List.mem_cons.1 hy with hy1 | hy
   ·rw [hx1, hy1]
   ·exact absurd (List.mem_map.2 ⟨y, hy, by rw [← e, hx1]⟩) h.1
  ·rcases List.mem_cons.1 hy with hy1 | hy
   ·exact absurd (List.mem_map.2 ⟨x, hx, by rw [e, hy1]⟩) h.1
   ·exact nodup_inj h.2 hx hy e
structure AllI {α : Type} (m : Int → Option α) (all : List (Nat × Int)) : Prop where
 dom : ∀ z, m z ≠ none ↔ ∃ n, (n, z) ∈ all
 nk : (all.map (·.2)).Nodup
 nb : (all.map (·.1)).Nodup
def pdI (cl : Nat) (all : List (Nat × Int)) : List (Int × Value) := ((cl : Int), .tuple #[]) :: all.map fun q => ((q.1 : Int), .int .i64 q.2)
abbrev itO (r cl : Nat) (seen : Array Nat) : Obj := .mapIter (some r) cl seen cl
theorem isKeyI {v : Value} (h : IsK (.int .i64) v) : ∃ z, v = .int .i64 z := by
 rcases h with h | ⟨e, a, b, h, _⟩
 ·cases v <;> first | exact h.elim | skip
  rename_i k z
  have : k = .i64 := h
  exact ⟨z, by rw [this]⟩
 ·cases h
theorem allI_ints : ∀ l : List (Int × Value), (∀ q ∈ l, 0 ≤ q.1 ∧ IsK (.int .i64) q.2) → ∃ all : List (Nat × Int), l = all.map fun q => ((q.1 : Int), Value.int .i64 q.2)
 | [], _ => ⟨[], rfl⟩
 | (a, v) :: l, h => by
  obtain ⟨h1, h2⟩ := h (a, v) (by simp)
  obtain ⟨z, rfl⟩ := isKeyI h2
  obtain ⟨all, rfl⟩ := allI_ints l fun q hq => h q (by simp [hq])
  simp only at h1
  exact ⟨(a.toNat, z) :: all, by rw [List.map_cons]; simp only [List.cons.injEq, Prod.mk.injEq, and_true]; omega⟩
theorem PRangeM.num {α : Type} {f : α → PV} {r : Nat} {m : Int → Option α} {Γ : List Ent} {pend : List (Int × Value)} {put : (Value → Option PV) → List (Int × Value) → List Ent} [hp : PickMp Γ r (.int .i64) (mapM f m) pend put] {K : PV → List Ent → Prop}
  (h : ∀ b all cl, AllI m all → (∀ q ∈ all, q.1 < cl) → K (.ptr b 0) (.ob b (itO r cl #[]) [] [] :: put (mapM f m) (pdI cl all))) : PRangeM r (.int .i64) Γ K := by
 obtain ⟨Γ1, Γ2, e1, e2⟩ := hp.at_
 refine ⟨mapM f m, pend, Γ1, Γ2, e1, fun b l cl ha => ?_⟩
 obtain ⟨all, rfl⟩ := allI_ints l fun q hq => ⟨(ha.lt q hq).1, (ha.key q hq).1⟩
 have hA : AllI m all := by
  refine ⟨fun z => ⟨fun hz => ?_, fun ⟨n, hn⟩ hz => ?_⟩, ?_, ?_⟩
  ·cases hm : m z with
   | none => exact absurd hm hz
   | some x =>
    obtain ⟨n, hn⟩ := ha.dom (.int .i64 z) (f x) (by simp [mapM, hm])
    obtain ⟨q, hq, e⟩ := List.mem_map.1 hn
    simp only [Prod.mk.injEq, Value.int.injEq, true_and] at e
    exact ⟨q.1, by rw [← e.2]; exact hq⟩
  ·have := (ha.key ((n : Int), .int .i64 z) (List.mem_map.2 ⟨(n, z), hn, rfl⟩)).2
   exact this (by simp [mapM, hz])
  ·have := ha.nk
   rw [List.map_map, List.Nodup, List.pairwise_map] at this
   rw [List.Nodup, List.pairwise_map]
   exact this.imp fun {x y} h e => h (by simp only [Function.comp, e])
  ·have := ha.nb
   rw [List.map_map, List.Nodup, List.pairwise_map] at this
   rw [List.Nodup, List.pairwise_map]
   exact this.imp fun {x y} h e => h (by simp only [Function.comp, e])
 have := h b all cl hA fun q hq => by have := (ha.lt _ (List.mem_map.2 ⟨q, hq, rfl⟩)).2; simp only at this; omega
 rw [e2] at this
 exact this
class PickOb (Γ : List Ent) (b : Nat) (o : outParam Obj) (put : outParam (Obj → List Ent)) : Prop where
 at_ : ∃ Γ1 Γ2, Γ = Γ1 ++ .ob b o [] [] :: Γ2 ∧ ∀ o', put o' = Γ1 ++ .ob b o' [] [] :: Γ2
instance (priority := high) PickOb.head (Γ : List Ent) (b : Nat) (o : Obj) : PickOb (.ob b o [] [] :: Γ) b o (fun o' => .ob b o' [] [] :: Γ) := ⟨[], Γ, rfl, fun _ => rfl⟩
instance PickOb.tail (e : Ent) (Γ : List Ent) (b : Nat) (o : Obj) (put : Obj → List Ent) [h : PickOb Γ b o put] : PickOb (e :: Γ) b o (fun o' => e :: put o') := by
 obtain ⟨Γ1, Γ2, h1, h2⟩ := h.at_
 exact ⟨e :: Γ1, Γ2, by rw [h1]; rfl, fun o' => by rw [h2]; rfl⟩
theorem mem_pdI {cl : Nat} {all : List (Nat × Int)} {n : Nat} {z : Int} : ((n : Int), Value.int .i64 z) ∈ all.map (fun q => ((q.1 : Int), Value.int .i64 q.2)) ↔ (n, z) ∈ all := by
 rw [List.mem_map]
 constructor
 ·rintro ⟨q, hq, e⟩
  simp only [Prod.mk.injEq, Value.int.injEq, true_and] at e
  have : q = (n, z) := Prod.ext (by have := e.1; simp only; omega) e.2
  rw [← this]; exact hq
 ·intro h; exact ⟨_, h, rfl⟩
theorem PNextM.num {α : Type} {f : α → PV} {b r cl : Nat} {seen : Array Nat} {m : Int → Option α} {all : List (Nat × Int)} {Γ : List Ent} {put : Obj → List Ent} [hb : PickOb Γ b (itO r cl seen) put] {put2 : (Value → Option PV) → List (Int × Value) → List Ent} [hp : PickMp Γ r (.int .i64) (mapM f m) (pdI cl all) put2] {K : PV → List Ent → Prop}
  (hA : AllI m all) (hl : ∀ q ∈ all, q.1 < cl) (h1 : ∀ n z x, (n, z) ∈ all → m z = some x → n ∉ seen.toList → K (.tup [.btrue, .any, .any]) (put (itO r cl (seen.push n)))) (h2 : (∀ q ∈ all, q.1 ∈ seen.toList) → K (.tup [.bfalse]) Γ) : PNextM b Γ K := by
 obtain ⟨Γ1, Γ2, e1, e2⟩ := hb.at_
 obtain ⟨Γ3, Γ4, e3, e4⟩ := hp.at_
 have hdom : ∀ k p, mapM f m k = some p → ∃ z x, k = .int .i64 z ∧ m z = some x := fun k p hk => by
  unfold mapM at hk
  split at hk
  ·rename_i z
   cases hm : m z with
   | none => rw [hm] at hk; cases hk
   | some x => exact ⟨z, x, rfl, hm⟩
  ·cases hk
 refine ⟨r, cl, seen, .int .i64, mapM f m, all.map (fun q => ((q.1 : Int), .int .i64 q.2)), Γ1, Γ2, e1, by rw [e3]; simp [pdI], fun k p hk => ?_, fun q hq => ?_, fun n k p hn hk hs => ?_, fun hs => h2 fun q hq => ?_⟩
 ·obtain ⟨z, x, rfl, hm⟩ := hdom k p hk
  obtain ⟨n, hn⟩ := (hA.dom z).1 (by simp [hm])
  exact ⟨(n : Int), (mem_pdI (cl := cl)).2 hn⟩
 ·obtain ⟨q', hq', rfl⟩ := List.mem_map.1 hq
  have := hl q' hq'
  simp only
  omega
 ·obtain ⟨z, x, rfl, hm⟩ := hdom k p hk
  have := h1 n z x ((mem_pdI (cl := cl)).1 hn) hm hs
  rw [e2] at this
  exact this
 ·obtain ⟨n, z⟩ := q
  have hz : m z ≠ none := (hA.dom z).2 ⟨n, hq⟩
  cases hm : m z with
  | none => exact absurd hm hz
  | some x =>
   obtain ⟨n', hn', hs'⟩ := hs (.int .i64 z) (f x) (by simp [mapM, hm])
   have hn2 := (mem_pdI (cl := cl)).1 hn'
   have := nodup_inj hA.nk hq hn2 rfl
   cases this
   exact hs'
theorem PEntryM.num {α : Type} {f : α → PV} {b r cl n : Nat} {seen : Array Nat} {m : Int → Option α} {all : List (Nat × Int)} {Γ : List Ent} {put : Obj → List Ent} [hb : PickOb Γ b (itO r cl (seen.push n)) put] {put2 : (Value → Option PV) → List (Int × Value) → List Ent} [hp : PickMp Γ r (.int .i64) (mapM f m) (pdI cl all) put2] {K : PV → Prop}
  (z : Int) (x : α) (hn : (n, z) ∈ all) (hm : m z = some x) (h : K (.tup [.int .i64 z, f x])) : PEntryM b Γ K := by
 obtain ⟨Γ1, Γ2, e1, _⟩ := hb.at_
 obtain ⟨Γ3, Γ4, e3, _⟩ := hp.at_
 exact ⟨r, cl, seen, n, .int .i64 z, .int .i64 z, f x, .int .i64, mapM f m, all.map (fun q => ((q.1 : Int), .int .i64 q.2)), by rw [e1]; simp, by rw [e3]; simp [pdI], (mem_pdI (cl := cl)).2 hn, by simp, by simp [mapM, hm], fun F => by simp [Rep], h⟩
theorem PIndexM.atL {α : Type} {f : α → PV} {l : List α} {sz : Nat} {Γ : List Ent} {t : Tok} {put : Tok → List PV → List Ent} [hp : PickRow Γ t (l.map f) put] {k : IntKind} {n : Int} {i : Nat} [x : IdxOf n i] {K : PV → Prop} (hs : t.s = sz) (h0 : 0 ≤ n) (h : n < l.length) (hk : K (.rp t i 0)) : PIndexM sz t (.int k n) Γ K :=
 PIndexM.at_ (hp := hp) hs h0 (by have := x.eq h0; rw [List.length_map]; omega) hk
theorem yE : type_of% @PIndexM.atL := @PIndexM.atL
theorem yF : type_of% @PLoad.row := @PLoad.row
theorem PStore.rowAll {α : Type} {f : α → PV} {c : α → List PV} [hc : CellsOf f c] {l : List α} {Γ : List Ent} {t : Tok} {put : Tok → List PV → List Ent} [hp : PickRow Γ t (l.map f) put] {i n : Nat} {x : PV} {v : α} [hv : ElOf f x v] {K : List Ent → Prop} (hi : i < l.length)
  (hl : Nat.beq (c l[i]).length n = true) (hx : lenIs x.cellsOf n = true) (hcl : x.cellular = true) (k : K (put t ((l.set i v).map f))) : PStore n (.rp t i 0) x Γ K := by
 have hn : (c l[i]).length = n := Nat.eq_of_beq_eq_true hl
 have hw : WkL x.cellsOf (c v) := by have := hv.wl; rwa [hc.eq] at this
 refine PStore.row (hp := hp) v hi (by rw [hn, Nat.zero_add]; exact Nat.ble_eq_true_of_le (Nat.le_refl _)) hx hcl hw ?_ k
 rw [List.take_zero, List.nil_append, Nat.zero_add, List.drop_of_length_le (by omega), List.append_nil]
theorem yG : type_of% @PStore.rowAll := @PStore.rowAll
theorem sF {p q : Prop} (k : q) (h : q → p := by intro hq; first | exact yA (by clear hq; assumption) rfl lA hq | exact yB (by clear hq; assumption) rfl lA hq | exact yC rfl lA hq | exact yD (by clear hq; assumption) (by clear hq; assumption) rfl lA hq | exact yE (by clear hq; assumption) (by clear hq; omega) (by clear hq; omega) hq | exact yF (by clear hq; omega) rfl hq | exact yH (by clear hq; assumption) hq | exact yI (by clear hq; assumption) hq | exact yG (by clear hq; omega) rfl rfl rfl hq) : p := h k
theorem stC {p : Prop} (h : p := by
 conv => whnf
 repeat ((first|(refine zW ?_ ?_; exact gA)|refine zA ?_|refine zH rfl ?_|refine zB ?_|(refine yE ?_ ?_ ?_ ?_; assumption; omega; omega)|(refine yF ?_ rfl ?_; omega)|(apply yH; assumption)|(refine yI ?_ ?_; assumption)|intro _); conv=>whnf)
 first | exact pS | exact pL | exact pE) : p := h
theorem PLenP.num {α : Type} {f : α → PV} {r : Nat} {m : Int → Option α} {Γ : List Ent} {pend : List (Int × Value)} {put : (Value → Option PV) → List (Int × Value) → List Ent} [hp : PickMp Γ r (.int .i64) (mapM f m) pend put] {K : Nat → Prop}
  (h : ∀ n : Nat, (n = 0 ↔ ∀ z, m z = none) → K n) : PLenP r Γ K := by
 obtain ⟨Γ1, Γ2, e1, _⟩ := hp.at_
 refine ⟨.int .i64, mapM f m, pend, by rw [e1]; simp, fun n hn => h n (hn.trans ⟨fun h z => ?_, fun h k => ?_⟩)⟩
 ·have := h (.int .i64 z)
  simpa [mapM] using this
 ·unfold mapM
  split
  ·rw [h]; rfl
  ·rfl
theorem tC {p : Prop} (h : p := by first | exact stA | exact stB | exact stC) : p := h
theorem aF {p q : Prop} (k : q) (h : Hd q → p := by intro hq; (first | (refine yA ?_ rfl lA ?_; assumption) | (refine yB ?_ rfl lA ?_; assumption) | refine yC rfl lA ?_ | (refine yD ?_ ?_ rfl lA ?_; assumption; assumption) | (refine yE ?_ ?_ ?_ ?_; assumption; omega; omega) | (refine yF ?_ rfl ?_; omega) | (apply yH; assumption) | (refine yI ?_ ?_; assumption) | (refine yG ?_ rfl rfl rfl ?_; omega) | refine n0 ?_ | refine zN rfl rfl rfl ?_ | refine zD ?_ | refine zE ?_ | refine zF ?_); exact hq.h) : p := h ⟨k⟩
theorem aH {p q : Prop} (k : q) (h : Hd q → p := by intro hq; (first | (refine zW ?_ ?_; exact gA) | refine zA ?_ | refine zH rfl ?_ | refine zB ?_ | (refine yE ?_ ?_ ?_ ?_; assumption; omega; omega) | (refine yF ?_ rfl ?_; omega) | (apply yH; assumption) | (refine yI ?_ ?_; assumption)); exact hq.h) : p := h ⟨k⟩
theorem aR2 {p q : Prop} (k : q) (h : Hd q → p := by intro hq; (conv => whnf); (repeat1' ((first | ((first | (apply zY; intro hg) | apply zZ); exact tC) | (refine zW ?_ ?_; exact gA) | refine zH rfl ?_ | refine zA ?_ | refine zI bA ?_ | refine zI rfl ?_ | refine zJ rfl rfl ?_ | refine zB ?_ | refine zK rfl ?_ | refine zL rfl ?_ | refine zC ?_ | (refine zO ?_ ?_ ?_; omega; omega) | (refine zP ?_ ?_ ?_; omega; omega) | refine zM rfl ?_ | (refine zQ ?_ ?_ ?_; omega; omega) | (refine zR ?_ ?_; omega) | (refine zI ?_ ?_; exact nA) | (refine zS ?_ ?_ ?_; omega; omega) | (refine zT ?_ ?_ ?_; omega; omega) | (refine zU ?_ ?_ ?_; omega; omega) | (refine zV ?_ ?_ ?_; omega; omega) | (refine yA ?_ rfl lA ?_; assumption) | (refine yB ?_ rfl lA ?_; assumption) | refine yC rfl lA ?_ | (refine yD ?_ ?_ rfl lA ?_; assumption; assumption) | (refine yE ?_ ?_ ?_ ?_; assumption; omega; omega) | (refine yF ?_ rfl ?_; omega) | (apply yH; assumption) | (refine yI ?_ ?_; assumption) | (refine yG ?_ rfl rfl rfl ?_; omega) | refine n0 ?_ | refine zN rfl rfl rfl ?_ | refine zD ?_ | refine zE ?_ | refine zF ?_); conv => whnf)); exact hq.h) : p := h ⟨k⟩
theorem aA2 {p q : Prop} (k : q) (h : Hd q → p := by intro hq; (conv => whnf); (repeat1' ((first | ((first | (apply zY; intro hg) | apply zZ); exact tC) | (refine zW ?_ ?_; exact gA) | refine zH rfl ?_ | refine zA ?_ | refine zI bA ?_ | refine zI rfl ?_ | refine zJ rfl rfl ?_ | refine zB ?_ | refine zK rfl ?_ | refine zL rfl ?_ | refine zC ?_ | (refine zO ?_ ?_ ?_; omega; omega) | (refine zP ?_ ?_ ?_; omega; omega) | refine zM rfl ?_ | (refine zQ ?_ ?_ ?_; omega; omega) | (refine zR ?_ ?_; omega) | (refine zI ?_ ?_; exact nA) | (refine zS ?_ ?_ ?_; omega; omega) | (refine zT ?_ ?_ ?_; omega; omega) | (refine zU ?_ ?_ ?_; omega; omega) | (refine zV ?_ ?_ ?_; omega; omega) | (refine yA ?_ rfl lA ?_; assumption) | (refine yB ?_ rfl lA ?_; assumption) | refine yC rfl lA ?_ | (refine yD ?_ ?_ rfl lA ?_; assumption; assumption) | (refine yE ?_ ?_ ?_ ?_; assumption; omega; omega) | (refine yF ?_ rfl ?_; omega) | (apply yH; assumption) | (refine yI ?_ ?_; assumption) | (refine yG ?_ rfl rfl rfl ?_; omega) | refine n0 ?_ | refine zN rfl rfl rfl ?_ | refine zD ?_ | refine zE ?_ | refine zF ?_ | refine zG ?_); conv => whnf)); exact hq.h) : p := h ⟨k⟩
end Go.Cb
namespace Go.Cb
open Go.Proofs
set_option maxRecDepth 100000
set_option maxHeartbeats 4000000
section
theorem PLoop.gh {B : List PV → List Ent → Ds → QT → Prop} {T : List PV} {Γ Γ' : List Ent} {D : Ds} {Q : QT} (hg : Ghost Γ Γ') (h : PLoop B T Γ' D Q) : PLoop B T Γ D Q := by
 obtain ⟨I, J, ⟨n, T0, Γ0, h1, h2⟩, h3, h4⟩ := h.h
 refine ⟨I, J, ⟨n, T0, Γ0, fun w0 F M w vs hS hT => ?_, h2⟩, h3, h4⟩
 obtain ⟨F1, e1, hS1⟩ := hg w0 F M w hS
 obtain ⟨F2, e2, hS2, hT2⟩ := h1 w0 F1 M w vs hS1 (RepT.mono e1 _ _ hT)
 exact ⟨F2, Fz.le_trans e1 e2, hS2, hT2⟩
end
abbrev datC (d : Datum) : List PV := [.int .i64 d.kind, .int .i64 d.n, .int .i64 d.d, .str d.s, .sl 5 (d.l.map Datum.pv) none]
theorem pair_wk {a b : Datum} {tk : Option Tok} : WkL [.int .i64 6, .int .i64 0, .int .i64 0, .str [], .sl 5 [.agg (datC a), .agg (datC b)] tk] (datC (pairD a b)) :=
 .cons (Wk.refl _) (.cons (Wk.refl _) (.cons (Wk.refl _) (.cons (Wk.refl _) (.cons (SlOf.wk (f := Datum.pv) (l := [a, b])) .nil))))
theorem nul_wk : WkL [.int .i64 4, .int .i64 0, .int .i64 0, .str [], .nil] (datC nulD) := .cons (Wk.refl _) (.cons (Wk.refl _) (.cons (Wk.refl _) (.cons (Wk.refl _) (.cons (Wk.nil' rfl) .nil))))
theorem drRd03baa {p q : Prop} (k : q) (h : q → p := by intro hq; first | exact PDraw.sP (some 13) rfl [] [7] tt_ok mixed hq) : p := h k
theorem list02_c (l : List Datum) : ACallP Tryz.prog 18 [.sl 5 (l.map Datum.pv) none] (.agg (listD l).cells) := by
 refine ACall.of_body tt_ok Tryz.func18 rfl rfl (n := 21) rfl rfl ?_
 conv => whnf
 repeat' (first|refine aA2 ?_|((intro _);conv=>whnf)|(refine zX (fun hc=>?_) (fun hc=>?_)<;>(try simp only [SY] at hc)<;>omega))
 rename_i b2 b3 hl
 refine PLoop.gh (Ghost.box (b := b3) (cs := [.int .i64 4, .int .i64 0, .int .i64 0, .str [], .nil]) (cs' := datC nulD) nul_wk) ?_
 refine PLoop.over [4, 9, 10, 11, 12, 13, 14, 15, 16, 17, 18, 19] (fun x : Nat × Datum => [(4, .int .i64 ((x.1 : Int) - 1))]) (fun x : Nat × Datum => [resE b2, .box b3 (datC x.2)]) (fun x => x.1 ≤ l.length ∧ x.2 = (l.drop x.1).foldr pairD nulD) (fun x => x.1) (l.length, nulD) ⟨Nat.le_refl _, by rw [List.drop_of_length_le (Nat.le_refl _)]; rfl⟩ wA ?_
 rintro ⟨i, D⟩ ⟨hi, hD⟩
 dsimp only at hi hD ⊢
 conv => whnf
 repeat' (first|refine aA2 ?_|((refine drRd03baa ?_);conv=>whnf)|(refine zX (fun hc=>?_) (fun hc=>?_)<;>(try simp only [SY] at hc)<;>(conv=>whnf)))
 ·have h1 : i - 1 < l.length := by omega
  have e : l.drop (i - 1) = l[i - 1] :: l.drop i := by rw [drop_at h1, show i - 1 + 1 = i by omega]
  refine LoopTo.gh (i - 1, pairD l[i - 1] D) ⟨by show i - 1 ≤ _; omega, by show pairD _ _ = _; rw [e, hD]; rfl⟩ (by show i - 1 < i; omega) wA ?_
  refine Ghost.trans (Ghost.box (b := b3) (cs := [.int .i64 6, .int .i64 0, .int .i64 0, .str [], .sl 5 [.agg (datC l[i - 1]), .agg (datC D)] none]) (cs' := datC (pairD l[i - 1] D)) pair_wk) ?_
  exact Ghost.pick
 ·have e : D = listD l := by rw [hD, show i = 0 by omega]; rfl
  rw [← e]
  exact PRet.pure (Wk.refl _)
end Go.Cb
namespace Go.Cb
open Go.Proofs
set_option maxRecDepth 100000
set_option maxHeartbeats 4000000
theorem keyD_c (s : List UInt8) : ACallP Tryz.prog 60 [.str s] (.bool (keyB s)) := by
 refine ACall.of_body tt_ok Tryz.func60 rfl rfl (n := 24) rfl rfl ?_
 conv => whnf
 repeat' (first|refine aA2 ?_|(refine zX (fun hc=>?_) (fun hc=>?_)<;>(try simp only [SY] at hc)<;>(conv=>whnf)))
 all_goals first
  | contradiction
  | (subst hc; exact PRet.pure (Wk.tt rfl))
  | exact PRet.pure (Wk.ff (by simp [keyB, keysL, kwQuote, kwIf, kwLambda, kwSet, kwBegin, kwLetrec, kwLetrecS, kwDefine, kwLet, kwLetS, kwCond, kwCase, kwAnd, kwOr, kwWhen, kwUnless, kwDo, kwElse, kwTo, *]))
theorem varD_c (d : Datum) : ACallP Tryz.prog 109 [.agg d.cells] (.bool (varB d)) := by
 refine ACall.of_body tt_ok Tryz.func109 rfl rfl (n := 12) rfl rfl ?_
 conv => whnf
 repeat' (first|refine aA2 ?_|((first|(((apply zY;intro hg));(conv=>whnf);(repeat ((first|refine pC (keyD_c _) wR ?_|refine aH ?_);conv=>whnf));exact pZ)|intro _);conv=>whnf)|(refine zX (fun hc=>?_) (fun hc=>?_)<;>(try simp only [SY] at hc)<;>omega))
 exact PRet.pure (Wk.refl _)
theorem drRef04aa {p q : Prop} (k : q) (h : q → p := by intro hq; first | exact PDraw.sP (some 19) rfl [] [] tt_ok mixed hq) : p := h k
theorem items04_c (d : Datum) (hp : d.pr = true) (hs : d.sz ≤ 1000000000) : ACallP Tryz.prog 107 [.agg d.cells] (.tup [.sl 5 (d.its.1.map Datum.pv) none, .bool (itemsB d)]) := by
 refine ACall.of_body tt_ok Tryz.func107 rfl rfl (n := 23) rfl rfl ?_
 conv => whnf
 repeat (((intro _);conv=>whnf))
 rename_i b1
 refine PLoop.gh (Ghost.nil 5 24 _) ?_
 refine PLoop.over [4, 5, 6, 7, 8, 9, 10, 11, 12, 13, 14, 15, 16, 17, 18] (fun x : Datum × List Datum × Tok => [(4, .sl 5 (x.2.1.map Datum.pv) (some x.2.2))]) (fun x : Datum × List Datum × Tok => [.box b1 (datC x.1), .tok x.2.2])
  (fun x => x.1.pr = true ∧ x.1.sz + x.2.1.length ≤ d.sz ∧ x.2.2.e = 24 ∧ x.2.1 ++ x.1.its.1 = d.its.1 ∧ x.1.its.2 = d.its.2) (fun x => x.1.sz) (d, [], nilTok 5 24) ⟨hp, by simp, rfl, rfl, rfl⟩ wA ?_
 rintro ⟨D, m, t1⟩ ⟨hD, hm, ht, h1, h2⟩
 dsimp only at hD hm ht h1 h2 ⊢
 have hlen := fun h => Datum.pr_two hD h
 have hpos := D.sz_pos
 conv => whnf
 repeat' (first|refine aA2 ?_|((first|refine drRef04aa ?_|intro _);conv=>whnf)|(refine zX (fun hc=>?_) (fun hc=>?_)<;>(try simp only [SY] at hc)<;>(conv=>whnf)))
 ·rename_i ta tb htb
  have h3 := hlen hc
  have e := D.its_pair hc h3
  have hz := D.sz_two h3
  have hp0 := (D.l[0]'(by omega)).sz_pos
  rw [e] at h1 h2
  exact loopTo (D.l[1]'(by omega), m ++ [D.l[0]'(by omega)], tb) ⟨Datum.pr_mem hD (List.getElem_mem _), by simp; omega, htb, by dsimp only; rw [List.append_assoc]; exact h1, h2⟩ (by show (D.l[1]'(by omega)).sz < D.sz; omega) wA
 ·have e := D.its_end hc
  rw [e] at h1 h2
  rw [List.append_nil] at h1
  have h2' : D = d.its.2 := h2
  rw [show itemsB d = (D.kind == 4) by rw [h2']; rfl, ← h1]
  exact PRet.pure (Wk.tup (.cons (Wk.tok _ _ _) (.cons (Wk.refl _) .nil)))
theorem dist_in {l : List Datum} {i k : Nat} (hk : k < i) (hi : i < l.length) (h : l[k].s = l[i].s) : ((l.take i).map Datum.s).contains l[i].s = true := by
 rw [List.contains_iff_mem, List.mem_map]
 exact ⟨l[k], by rw [List.mem_take_iff_getElem]; exact ⟨k, by omega, rfl⟩, h⟩
theorem drRef04ab {p q : Prop} (k : q) (h : q → p := by intro hq; first | exact PDraw.sP (some 22) rfl [] [] tt_ok mixed hq) : p := h k
theorem distinct04_c (l : List Datum) (hl : l.length ≤ 1000000000) : ACallP Tryz.prog 111 [.sl 5 (l.map Datum.pv) none] (.bool (distB l [])) := by
 refine ACall.of_body tt_ok Tryz.func111 rfl rfl (n := 33) rfl rfl ?_
 conv => whnf
 skip
 refine PLoop.keep [2, 3, 4, 5, 6, 7, 8, 9, 10, 11, 12, 13, 14, 15, 16, 17, 18, 19, 20, 21, 22, 23, 24, 25, 26, 27, 28, 29, 30, 31, 32] (fun i : Nat => [(3, .int .i64 i)]) (fun i => i ≤ l.length ∧ distB (l.drop i) ((l.take i).map Datum.s) = distB l []) (fun i => l.length - i) 0 ⟨Nat.zero_le _, by simp⟩ wA ?_
 rintro i ⟨hi, he⟩
 conv => whnf
 repeat' (first|refine aA2 ?_|((first|refine pC (varD_c _) wR ?_|intro _);conv=>whnf)|(refine zX (fun hc=>?_) (fun hc=>?_)<;>(try simp only [SY] at hc)<;>(conv=>whnf)))
 ·have hlt : i < l.length := by omega
  rw [drop_at hlt, distB, hc, Bool.false_and, Bool.false_and] at he
  exact PRet.pure (Wk.ff he.symm)
 ·have hlt : i < l.length := by omega
  have hv := hc
  rw [drop_at hlt, distB, hc, Bool.true_and] at he
  refine PLoop.keep [2, 4, 17, 18, 19, 20, 21, 22, 23, 24, 25, 26, 27, 28, 29, 30, 31, 32] (fun k : Nat => [(4, .int .i64 k)]) (fun k => k ≤ i ∧ ∀ j, (h : j < k) → (h2 : j < l.length) → ¬l[j].s = l[i].s) (fun k => i - k) 0 ⟨Nat.zero_le _, fun j h => by omega⟩ wA ?_
  rintro k ⟨hk, hn⟩
  conv => whnf
  repeat' (first|refine aA2 ?_|((refine drRef04ab ?_);conv=>whnf)|(refine zX (fun hc=>?_) (fun hc=>?_)<;>(try simp only [SY] at hc)<;>(conv=>whnf)))
  ·rw [dist_in (k := k) (by omega) hlt hc, Bool.not_true, Bool.false_and] at he
   exact PRet.pure (Wk.ff he.symm)
  ·refine loopTo (k + 1) ⟨by omega, fun j h h2 => ?_⟩ (by omega) wA
   rcases Nat.lt_or_ge j k with h3 | h3
   ·exact hn j h3 h2
   ·obtain rfl : j = k := by omega
    exact hc
  ·have hf : ((l.take i).map Datum.s).contains l[i].s = false := by
    rw [← Bool.not_eq_true, List.contains_iff_mem, List.mem_map]
    rintro ⟨x, hx, hs⟩
    rw [List.mem_take_iff_getElem] at hx
    obtain ⟨j, hj, rfl⟩ := hx
    exact hn j (by omega) (by omega) hs
   rw [hf, Bool.not_false, Bool.true_and] at he
   exact loopTo (i + 1) ⟨by omega, by rw [← he, List.take_succ_eq_append_getElem hlt, List.map_append]; rfl⟩ (by omega) wA
 ·rw [List.drop_of_length_le (by omega), distB] at he
  exact PRet.pure (Wk.tt he.symm)
theorem formals04_c (d : Datum) (hp : d.pr = true) (hs : d.sz ≤ 1000000000) : ACallP Tryz.prog 108 [.agg d.cells] (.bool (formalsB d)) := by
 refine ACall.of_body tt_ok Tryz.func108 rfl rfl (n := 27) rfl rfl ?_
 conv => whnf
 repeat (((intro _);conv=>whnf))
 rename_i b1
 refine PLoop.gh (Ghost.nil 5 24 _) ?_
 refine PLoop.over [3, 4, 5, 6, 7, 8, 9, 10, 11, 12, 13, 14, 15, 16, 17] (fun x : Datum × List Datum × Tok => [(3, .sl 5 (x.2.1.map Datum.pv) (some x.2.2))]) (fun x : Datum × List Datum × Tok => [.box b1 (datC x.1), .tok x.2.2])
  (fun x => x.1.pr = true ∧ x.1.sz + x.2.1.length ≤ d.sz ∧ x.2.2.e = 24 ∧ x.2.1 ++ x.1.its.1 = d.its.1 ∧ x.1.its.2 = d.its.2) (fun x => x.1.sz) (d, [], nilTok 5 24) ⟨hp, by simp, rfl, rfl, rfl⟩ wA ?_
 rintro ⟨D, m, t1⟩ ⟨hD, hm, ht, h1, h2⟩
 dsimp only at hD hm ht h1 h2 ⊢
 have hlen := fun h => Datum.pr_two hD h
 have hpos := D.sz_pos
 conv => whnf
 repeat' (first|refine aA2 ?_|((intro _);conv=>whnf)|(refine zX (fun hc=>?_) (fun hc=>?_)<;>(try simp only [SY] at hc)<;>(conv=>whnf)))
 ·rename_i ta tb htb
  have h3 := hlen hc
  have e := D.its_pair hc h3
  have hz := D.sz_two h3
  have hp0 := (D.l[0]'(by omega)).sz_pos
  rw [e] at h1 h2
  exact loopTo (D.l[1]'(by omega), m ++ [D.l[0]'(by omega)], tb) ⟨Datum.pr_mem hD (List.getElem_mem _), by simp; omega, htb, by dsimp only; rw [List.append_assoc]; exact h1, h2⟩ (by show (D.l[1]'(by omega)).sz < D.sz; omega) wA
 all_goals
  have e := D.its_end (by assumption)
  rw [e] at h1 h2
  rw [List.append_nil] at h1
  have h2' : D = d.its.2 := h2
  have hF : formalsB d = distB (m ++ if D.kind = 4 then [] else [D]) [] := by unfold formalsB formalsL; rw [h1, h2']
 ·rw [if_neg (by assumption)] at hF
  refine pC (distinct04_c (m ++ [D]) (by simp; omega)) (.cons (Wk.tok _ _ _) .nil) ?_
  conv => whnf
  skip
  exact PRet.pure (Wk.eq (by rw [hF]))
 ·rw [if_pos (by assumption), List.append_nil] at hF
  refine pC (distinct04_c m (by omega)) (.cons (Wk.tok _ _ _) .nil) ?_
  conv => whnf
  skip
  exact PRet.pure (Wk.eq (by rw [hF]))
def BndP (o : Option (List (Datum × Datum))) (y : PV) (Γ' : List Ent) : Prop := match o with
 | some b => ∃ tk : Tok, tk.e = 24 ∧ y = .tup [.sl 5 ((b.map Prod.fst).map Datum.pv) none, .sl 5 ((b.map Prod.snd).map Datum.pv) (some tk), .bool true] ∧ Γ' = [.tok tk]
 | none => y = .tup [.sl 5 [] none, .sl 5 [] none, .bool false] ∧ Γ' = []
theorem bindings04_c (d : Datum) (hp : d.pr = true) (hs : d.sz ≤ 1000000000) : ACall Tryz.prog 110 [.agg d.cells] [] (BndP (bindsD d)) := by
 have hX : ∀ x ∈ d.its.1, x.pr = true ∧ x.sz ≤ 1000000000 := fun x hx => by have := Datum.its_lt hp hx; exact ⟨this.2, by omega⟩
 have hLs := Datum.its_szs hp
 have hLl := Datum.szs_len d.its.1
 have hD : bindsD d = if itemsB d = true then bindsF d.its.1 else none := rfl
 refine ACall.of_body tt_ok Tryz.func110 rfl rfl (n := 54) rfl rfl ?_
 conv => whnf
 repeat (first|refine aR2 ?_|((first|refine pC (items04_c d hp hs) wR ?_|intro _);conv=>whnf))
 generalize d.its.1 = L at *
 conv => whnf
 repeat' ((refine zX (fun hc=>?_) (fun hc=>?_)<;>(try simp only [SY] at hc)<;>(conv=>whnf)))
 ·rw [hc, if_neg (by simp)] at hD
  rw [hD]
  exact PRet.gen (y := .tup [.sl 5 [] none, .sl 5 [] none, .bool false]) (Γ' := []) (Wk.tup (.cons (Wk.nil' rfl) (.cons (Wk.nil' rfl) (.cons (Wk.ff rfl) .nil)))) (And.intro rfl rfl)
 ·rw [if_pos hc] at hD
  refine PLoop.gh (Ghost.trans (Ghost.nil 5 24 _) (Ghost.nil 5 24 _)) ?_
  refine PLoop.over [2, 3, 4, 7, 8, 9, 10, 11, 19, 20, 21, 22, 23, 24, 25, 26, 27, 28, 29, 30, 31, 32, 33, 34, 35, 36, 37, 38, 39, 40, 41, 42, 43, 44, 45, 46, 47, 48, 49, 50, 51] (fun x : Nat × List (Datum × Datum) × Tok × Tok => [(7, .sl 5 ((x.2.1.map Prod.fst).map Datum.pv) (some x.2.2.1)), (8, .sl 5 ((x.2.1.map Prod.snd).map Datum.pv) (some x.2.2.2)), (9, .int .i64 x.1)]) (fun x : Nat × List (Datum × Datum) × Tok × Tok => [.tok x.2.2.1, .tok x.2.2.2])
   (fun x => x.1 ≤ L.length ∧ x.2.1.length = x.1 ∧ x.2.2.1.e = 24 ∧ x.2.2.2.e = 24 ∧ bindsF L = (bindsF (L.drop x.1)).map (x.2.1 ++ ·)) (fun x => L.length - x.1) (0, [], nilTok 5 24, nilTok 5 24) ⟨Nat.zero_le _, rfl, rfl, rfl, by simp⟩ wA ?_
  rintro ⟨i, acc, t1, t2⟩ ⟨hi, hal, ht1, ht2, he⟩
  dsimp only at hi hal ht1 ht2 he ⊢
  have hl1 : (acc.map Prod.fst).length = i := by rw [List.length_map, hal]
  have hl2 : (acc.map Prod.snd).length = i := by rw [List.length_map, hal]
  conv => whnf
  repeat' (first|refine aA2 ?_|((first|refine pC (items04_c _ (hX _ (List.getElem_mem _)).1 (hX _ (List.getElem_mem _)).2) wR ?_|intro _);conv=>whnf)|(refine zX (fun hc=>?_) (fun hc=>?_)<;>(try simp only [SY] at hc)<;>(conv=>whnf)))
  ·have hlt : i < L.length := by omega
   have hn : bindsF (L.drop i) = none := by
    rw [drop_at hlt, bindsF, if_neg]
    rintro ⟨h1, h2⟩
    rcases hc with h | h
    ·rw [h1] at h; cases h
    ·omega
   rw [hD, he, hn]
   exact PRet.gen (y := .tup [.sl 5 [] none, .sl 5 [] none, .bool false]) (Γ' := []) (Wk.tup (.cons (Wk.nil' rfl) (.cons (Wk.nil' rfl) (.cons (Wk.ff rfl) .nil)))) (And.intro rfl rfl)
  ·rename_i ta hta tx ty td htd
   have hlt : i < L.length := by omega
   have h2 : L[i].its.1.length = 2 := by omega
   have hs1 : bindsF (L.drop i) = (bindsF (L.drop (i + 1))).map ((L[i].its.1.getD 0 nulD, L[i].its.1.getD 1 nulD) :: ·) := by
    rw [drop_at hlt, bindsF, if_pos ⟨hc.1, h2⟩]
   have e1 : acc.map Prod.fst ++ [L[i].its.1[0]'(by omega)] = (acc ++ [(L[i].its.1.getD 0 nulD, L[i].its.1.getD 1 nulD)]).map Prod.fst := by simp [datD_get, h2]
   have e2 : acc.map Prod.snd ++ [L[i].its.1[1]'(by omega)] = (acc ++ [(L[i].its.1.getD 0 nulD, L[i].its.1.getD 1 nulD)]).map Prod.snd := by simp [datD_get, h2]
   rw [e1, e2]
   refine loopTo (i + 1, acc ++ [(L[i].its.1.getD 0 nulD, L[i].its.1.getD 1 nulD)], ta, td) ⟨by show i + 1 ≤ _; omega, by simp; omega, hta, htd, ?_⟩ (by show L.length - (i + 1) < L.length - i; omega) wA
   rw [he, hs1]
   dsimp only
   cases bindsF (L.drop (i + 1)) <;> simp
  ·rw [List.drop_of_length_le (by omega), bindsF] at he
   rw [hD, he]
   refine PRet.gen (y := .tup [.sl 5 ((acc.map Prod.fst).map Datum.pv) none, .sl 5 ((acc.map Prod.snd).map Datum.pv) (some t2), .bool true]) (Γ' := [.tok t2]) (Wk.tup (.cons (Wk.tok _ _ _) (.cons (Wk.refl _) (.cons (Wk.tt rfl) .nil)))) ?_
   show BndP (some (acc ++ [])) _ _
   rw [List.append_nil]
   exact ⟨t2, ht2, rfl, rfl⟩
end Go.Cb
namespace Go.Cb
open Go.Proofs
set_option maxRecDepth 100000
set_option maxHeartbeats 4000000
theorem datAll {L : List Datum} {n : Nat} (h : ∀ x ∈ L, x.pr = true ∧ x.sz ≤ n) (h1 : 1 ≤ n) (i : Nat) : (L.getD i (Dfl.d : Datum)).pr = true ∧ (L.getD i (Dfl.d : Datum)).sz ≤ n := by
 by_cases hi : i < L.length
 ·have : L.getD i (Dfl.d : Datum) = L[i] := by simp [List.getD, hi]
  rw [this]
  exact h _ (List.getElem_mem hi)
 ·have : L.getD i (Dfl.d : Datum) = (Dfl.d : Datum) := by simp [List.getD, hi]
  rw [this]
  exact ⟨rfl, h1⟩
theorem and_getD {L : List Datum} (F : Datum → Bool) (a b : Datum) : (L.length == 3 && F (L.getD 1 a)) = (L.length == 3 && F (L.getD 1 b)) := by
 by_cases h : L.length = 3
 ·have h1 : 1 < L.length := by omega
  rw [show L.getD 1 a = L.getD 1 b by simp [List.getD, h1]]
 ·rw [show (L.length == 3) = false by simpa using h]; rfl
end Go.Cb
namespace Go.Cb
open Go.Proofs
set_option maxRecDepth 100000
set_option maxHeartbeats 4000000
def DatOk (s : List UInt8) (b n : Nat) : Prop := ∀ (k : Nat) (deep : Int), k ≤ s.length → 2 * (s.length - k) + 1 ≤ n → 0 ≤ deep → deep + ((s.length - k : Nat) : Int) ≤ 2000000 →
 ACall Tryz.prog 66 [.ptr b 0, .int .i64 deep] [rdE b s k (-1)] (fun y Γ' => y = .agg ((RF s n).1 k).1.cells ∧ Γ' = [rdE b s ((RF s n).1 k).2.1 ((RF s n).1 k).2.2])
def DtsOk (s : List UInt8) (b n : Nat) : Prop := ∀ (pair : Bool) (k : Nat) (deep : Int), k ≤ s.length → 2 * (s.length - k) + 2 ≤ n → 0 ≤ deep → deep + 1 + ((s.length - k : Nat) : Int) ≤ 2000000 →
 ACall Tryz.prog 117 [.ptr b 0, .bool pair, .int .i64 deep] [rdE b s k (-1)] (fun y Γ' => y = .tup [.sl 5 (((RF s n).2 pair k [] nulD).1.1.map Datum.pv) none, .agg ((RF s n).2 pair k [] nulD).1.2.cells] ∧ Γ' = [rdE b s ((RF s n).2 pair k [] nulD).2.1 ((RF s n).2 pair k [] nulD).2.2])
theorem byteF_ne {s : List UInt8} {k : Nat} (h : byteF s k ≠ 0) : k < s.length := by
 unfold byteF at h
 split at h
 ·assumption
 ·exact absurd rfl h
theorem drRd03caa {p q : Prop} (k : q) (h : q → p := by intro hq; first | exact PDraw.sP (some 28) rfl [] [3] tt_ok mixed hq | exact PDraw.sP (some 74) rfl [] [3] tt_ok mixed hq) : p := h k
theorem data03_c (s : List UInt8) (b n : Nat) (hs : s.length ≤ 1000000) (ih : ∀ m, m < n → DatOk s b m) : DtsOk s b n := by
 intro pair k0 deep hk0 hn h0 hd
 generalize hR : (RF s n).2 pair k0 [] nulD = R
 refine ACall.of_body tt_ok Tryz.func117 rfl rfl (n := 76) rfl rfl ?_
 conv => whnf
 repeat (first|refine aR2 ?_|((intro _);conv=>whnf))
 rename_i b7 b9
 refine PLoop.gh (Ghost.trans (Ghost.nil 5 24 _) (Ghost.box (b := b9) (cs := [.int .i64 4, .int .i64 0, .int .i64 0, .str [], .nil]) (cs' := datC nulD) nul_wk)) ?_
 refine PLoop.over [6, 8, 10, 12, 13, 14, 15, 16, 17, 18, 19, 20, 21, 22, 23, 24, 25, 26, 27, 28, 29, 30, 31, 32, 33, 34, 35, 36, 37, 38, 39, 40, 41, 42, 43, 44, 45, 46, 47, 48, 49, 50, 51, 52, 53, 54, 55, 56, 57, 58, 59, 60, 61, 62, 63, 64, 65, 66, 67, 68, 69, 70, 71, 72, 73] (fun x : Nat × Nat × Int × List Datum × Datum × Tok => [(8, .sl 5 (x.2.2.2.1.map Datum.pv) (some x.2.2.2.2.2))]) (fun x : Nat × Nat × Int × List Datum × Datum × Tok => [resE b7, .box b9 (datC x.2.2.2.2.1), rdE b s x.2.1 x.2.2.1, .tok x.2.2.2.2.2])
  (fun x => x.1 ≤ n ∧ x.2.1 ≤ s.length ∧ x.2.2.2.1.length ≤ 2000000 ∧ x.2.2.2.2.2.e = 24 ∧ ((x.2.2.1 = -1 ∧ k0 ≤ x.2.1 ∧ x.2.2.2.1.length ≤ x.2.1 ∧ 2 * (s.length - x.2.1) + 2 ≤ x.1 ∧ (RF s x.1).2 pair x.2.1 x.2.2.2.1 x.2.2.2.2.1 = R) ∨ (0 ≤ x.2.2.1 ∧ R = ((x.2.2.2.1, x.2.2.2.2.1), x.2.1, x.2.2.1)))) (fun x => x.1) (n, k0, -1, [], nulD, nilTok 5 24) ⟨Nat.le_refl _, hk0, by simp, rfl, .inl ⟨rfl, Nat.le_refl _, by simp, hn, hR⟩⟩ wA ?_
 rintro ⟨m, k, bad, l, e, tk⟩ ⟨hm, hk, hl, htk, hI⟩
 dsimp only at hm hk hl htk hI ⊢
 rcases hI with ⟨hb, hkk, hlk, hmk, hR2⟩ | ⟨hb, hR2⟩
 ·obtain ⟨m, rfl⟩ : ∃ m', m = m' + 1 := ⟨m - 1, by omega⟩
  subst hb
  rw [RF] at hR2
  dsimp only at hR2
  conv => whnf
  repeat' (first|refine aA2 ?_|(refine zX (fun hc=>?_) (fun hc=>?_)<;>(try simp only [SY] at hc)<;>first|omega|(conv=>whnf)))
  refine PCall.go (next03_c b s k (-1) hs hk) (WkT.refl _) ?_
  rintro _ _ ⟨rfl, rfl⟩
  have hn : k ≤ nxtF s k ∧ nxtF s k ≤ s.length := nextF_le s (s.length + 1) k hk
  generalize nxtF s k = K at *
  conv => whnf
  repeat' (first|refine aA2 ?_|((refine drRd03caa ?_);conv=>whnf)|(refine zX (fun hc=>?_) (fun hc=>?_)<;>(try simp only [SY] at hc)<;>(conv=>whnf)))
  ·rw [if_pos (u8_eq.1 (by exact hc))] at hR2
   subst hR2
   exact PRet.gen (y := .tup [.sl 5 (l.map Datum.pv) none, .agg e.cells]) (Γ' := [.box b [.str s, .int .i64 ((K : Int) + 1), .int .i64 (-1)]]) (Wk.tup (.cons (Wk.tok _ _ _) (.cons (Wk.refl _) .nil))) (And.intro rfl rfl)
  ·have h41 : ¬byteF s K = 41 := fun h => by have := ‹¬((byteF s K).toNat : Int) = 41›; rw [h] at this; exact this rfl
   have h46 : byteF s K = 46 := u8_eq.1 (by exact hc.1.1)
   have hl0 : ¬l = [] := fun h => by rw [h] at hc; simp at hc
   have hKl : K < s.length := byteF_ne (by rw [h46]; decide)
   rw [if_neg h41, if_pos ⟨h46, hc.1.2, hl0⟩] at hR2
   rw [show (K : Int) + 1 = ((K + 1 : Nat) : Int) from rfl]
   refine PCall.go (ih m (by omega) (K + 1) (deep + 1) (by omega) (by omega) (by omega) (by omega)) (WkT.refl _) ?_
   rintro _ _ ⟨rfl, rfl⟩
   have hok := (RF_pos s m).1 (K + 1) (by omega)
   generalize (RF s m).1 (K + 1) = r at *
   obtain ⟨d, k2, bd⟩ := r
   obtain ⟨hk2, hok⟩ := hok
   dsimp only at hk2 hok hR2 ⊢
   rcases hok with ⟨rfl, hlt⟩ | hbd
   ·rw [if_pos (by decide)] at hR2
    conv => whnf
    repeat' (first|refine aA2 ?_|(refine zX (fun hc=>?_) (fun hc=>?_)<;>(try simp only [SY] at hc)<;>omega))
    refine PGuard.ways (fun hg => ?_) (fun hg => by simp at hg)
    conv => whnf
    repeat' (first|refine aA2 ?_|(refine zX (fun hc=>?_) (fun hc=>?_)<;>(try simp only [SY] at hc)<;>omega))
    refine PCall.go (next03_c b s k2 (-1) hs hk2) (WkT.refl _) ?_
    rintro _ _ ⟨rfl, rfl⟩
    have hn2 : k2 ≤ nxtF s k2 ∧ nxtF s k2 ≤ s.length := nextF_le s (s.length + 1) k2 hk2
    generalize nxtF s k2 = K2 at *
    conv => whnf
    repeat' (first|refine aA2 ?_|(refine zX (fun hc=>?_) (fun hc=>?_)<;>(try simp only [SY] at hc)<;>(conv=>whnf)))
    ·rw [if_neg (fun h => by have := ‹¬((byteF s K2).toNat : Int) = 41›; rw [h] at this; exact this rfl)] at hR2
     refine PCall.go (fail03_c b s K2 K2) (WkT.refl _) ?_
     rintro _ _ ⟨rfl, rfl⟩
     conv => whnf
     skip
     exact loopTo (m, K2, K2, l, d, tk) ⟨by show m ≤ n; omega, hn2.2, hl, htk, .inr ⟨by show 0 ≤ (K2 : Int); omega, hR2.symm⟩⟩ (by show m < m + 1; omega) wA
    ·rw [if_pos (u8_eq.1 (by exact hc))] at hR2
     exact loopTo (m, K2, -1, l, d, tk) ⟨by show m ≤ n; omega, hn2.2, hl, htk, .inl ⟨rfl, by show k0 ≤ K2; omega, by show l.length ≤ K2; omega, by show 2 * (s.length - K2) + 2 ≤ m; omega, hR2⟩⟩ (by show m < m + 1; omega) wA
   ·rw [if_neg (by omega)] at hR2
    conv => whnf
    repeat' (first|refine aA2 ?_|(refine zX (fun hc=>?_) (fun hc=>?_)<;>(try simp only [SY] at hc)<;>omega))
    refine PGuard.ways (fun hg => by simp at hg; omega) (fun hg => ?_)
    conv => whnf
    skip
    exact loopTo (m, k2, bd, l, d, tk) ⟨by show m ≤ n; omega, hk2, hl, htk, .inr ⟨hbd, hR2.symm⟩⟩ (by show m < m + 1; omega) wA
  ·have h41 : ¬byteF s K = 41 := fun h => by have := ‹¬((byteF s K).toNat : Int) = 41›; rw [h] at this; exact this rfl
   have hcn : ¬(byteF s K = 46 ∧ pair = true ∧ l ≠ []) := fun ⟨h1, h2, h3⟩ => by
    rcases hc with (h | h) | h
    ·rw [h1] at h; exact h rfl
    ·rw [h2] at h; cases h
    ·exact h3 (List.eq_nil_of_length_eq_zero (by omega))
   rw [if_neg h41, if_neg hcn] at hR2
   refine PCall.go (ih m (by omega) K (deep + 1) (by omega) (by omega) (by omega) (by omega)) (WkT.refl _) ?_
   rintro _ _ ⟨rfl, rfl⟩
   have hok := (RF_pos s m).1 K (by omega)
   generalize (RF s m).1 K = r at *
   obtain ⟨d, k2, bd⟩ := r
   obtain ⟨hk2, hok⟩ := hok
   dsimp only at hk2 hok hR2 ⊢
   rcases hok with ⟨rfl, hlt⟩ | hbd
   ·rw [if_pos (by decide)] at hR2
    conv => whnf
    repeat' (first|refine aA2 ?_|((intro _);conv=>whnf)|(refine zX (fun hc=>?_) (fun hc=>?_)<;>(try simp only [SY] at hc)<;>omega))
    rename_i t2 ht2
    exact loopTo (m, k2, -1, l ++ [d], e, t2) ⟨by show m ≤ n; omega, hk2, by simp; omega, ht2, .inl ⟨rfl, by show k0 ≤ k2; omega, by simp; omega, by show 2 * (s.length - k2) + 2 ≤ m; omega, hR2⟩⟩ (by show m < m + 1; omega) wA
   ·rw [if_neg (by omega)] at hR2
    conv => whnf
    repeat' (first|refine aA2 ?_|((intro _);conv=>whnf)|(refine zX (fun hc=>?_) (fun hc=>?_)<;>(try simp only [SY] at hc)<;>omega))
    rename_i t2 ht2
    exact loopTo (m, k2, bd, l ++ [d], e, t2) ⟨by show m ≤ n; omega, hk2, by simp; omega, ht2, .inr ⟨hbd, hR2.symm⟩⟩ (by show m < m + 1; omega) wA
 ·conv => whnf
  repeat' (first|refine aA2 ?_|((refine drRd03caa ?_);conv=>whnf)|(refine zX (fun hc=>?_) (fun hc=>?_)<;>(try simp only [SY] at hc)<;>first|omega|(conv=>whnf)))
  subst hR2
  exact PRet.gen (y := .tup [.sl 5 (l.map Datum.pv) none, .agg e.cells]) (Γ' := [rdE b s k bad]) (Wk.tup (.cons (Wk.tok _ _ _) (.cons (Wk.refl _) .nil))) (And.intro rfl rfl)
end Go.Cb
namespace Go.Cb
open Go.Proofs
set_option maxRecDepth 100000
set_option maxHeartbeats 4000000
theorem u8_ne {c n : UInt8} (h : ¬(c.toNat : Int) = (n.toNat : Int)) : ¬c = n := fun e => h (by rw [e])
def hashF (s : List UInt8) (m k : Nat) : RdR :=
 if k + 1 = s.length then (nulD, k + 1, (k + 1 : Nat)) else
 if s.getD (k + 1) 0 = 116 then (.mk 1 1 0 [] [], k + 2, -1) else
 if s.getD (k + 1) 0 = 102 then (.mk 1 0 0 [] [], k + 2, -1) else
 if s.getD (k + 1) 0 = 118 then (.mk 5 0 0 [] [], k + 2, -1) else
 if s.getD (k + 1) 0 = 40 then (.mk 7 0 0 [] ((RF s m).2 false (k + 2) [] nulD).1.1, ((RF s m).2 false (k + 2) [] nulD).2) else (nulD, k + 2, (k + 1 : Nat))
theorem drRd03daa {p q : Prop} (k : q) (h : q → p := by intro hq; first | exact PDraw.sP (some 15) rfl [] [] tt_ok mixed hq | exact PDraw.sP (some 31) rfl [] [] tt_ok mixed hq) : p := h k
theorem hash03_c (s : List UInt8) (b m : Nat) (hs : s.length ≤ 1000000) (ih : DtsOk s b m) (k : Nat) (deep : Int) (hk : k < s.length) (hm : 2 * (s.length - k) ≤ m) (h0 : 0 ≤ deep) (hd : deep + ((s.length - k : Nat) : Int) ≤ 2000000) :
  ACall Tryz.prog 116 [.ptr b 0, .int .i64 deep] [rdE b s k (-1)] (fun y Γ' => y = .agg (hashF s m k).1.cells ∧ Γ' = [rdE b s (hashF s m k).2.1 (hashF s m k).2.2]) := by
 have hF : hashF s m k = hashF s m k := rfl
 conv at hF => rhs; unfold hashF
 refine ACall.of_body tt_ok Tryz.func116 rfl rfl (n := 74) rfl rfl ?_
 conv => whnf
 repeat' (first|refine aA2 ?_|((first|refine drRd03daa ?_|intro _);conv=>whnf)|(refine zX (fun hc=>?_) (fun hc=>?_)<;>(try simp only [SY] at hc)<;>(conv=>whnf)))
 ·rw [if_pos (by omega)] at hF
  rw [show (k : Int) + 1 = ((k + 1 : Nat) : Int) from rfl]
  refine PCall.go (fail03_c b s (k + 1) (k + 1 : Nat)) (WkT.refl _) ?_
  rintro _ _ ⟨rfl, rfl⟩
  conv => whnf
  repeat' (first|refine aA2 ?_|(refine zX (fun hc=>?_) (fun hc=>?_)<;>(try simp only [SY] at hc)<;>omega))
  rw [hF]
  exact PRet.gen (y := .agg nulD.cells) (Γ' := [rdE b s (k + 1 : Nat) (k + 1 : Nat)]) (Wk.refl _) (And.intro rfl rfl)
 ·rw [if_neg (by omega), if_pos (u8_eq.1 (by exact hc))] at hF
  rw [hF]
  exact PRet.gen (y := .agg (Datum.mk 1 1 0 [] []).cells) (Γ' := [.box b [.str s, .int .i64 ((k : Int) + 1 + 1), .int .i64 (-1)]]) DatOf.wk (And.intro rfl rfl)
 ·rw [if_neg (by omega), if_neg (u8_ne (by assumption)), if_pos (u8_eq.1 (by exact hc))] at hF
  rw [hF]
  exact PRet.gen (y := .agg (Datum.mk 1 0 0 [] []).cells) (Γ' := [.box b [.str s, .int .i64 ((k : Int) + 1 + 1), .int .i64 (-1)]]) DatOf.wk (And.intro rfl rfl)
 ·rw [if_neg (by omega), if_neg (u8_ne (by assumption)), if_neg (u8_ne (by assumption)), if_pos (u8_eq.1 (by exact hc))] at hF
  rw [hF]
  exact PRet.gen (y := .agg (Datum.mk 5 0 0 [] []).cells) (Γ' := [.box b [.str s, .int .i64 ((k : Int) + 1 + 1), .int .i64 (-1)]]) DatOf.wk (And.intro rfl rfl)
 ·rw [if_neg (by omega), if_neg (u8_ne (by assumption)), if_neg (u8_ne (by assumption)), if_neg (u8_ne (by assumption)), if_pos (u8_eq.1 (by exact hc))] at hF
  rw [show (k : Int) + 1 + 1 = ((k + 2 : Nat) : Int) from rfl]
  refine PCall.go (ih false (k + 2) deep (by omega) (by omega) (by omega) (by omega)) (.cons (Wk.refl _) (.cons (Wk.ff rfl) (.cons (Wk.refl _) .nil))) ?_
  rintro _ _ ⟨rfl, rfl⟩
  generalize (RF s m).2 false (k + 2) [] nulD = r at *
  conv => whnf
  repeat' (first|refine aA2 ?_|((intro _);conv=>whnf)|(refine zX (fun hc=>?_) (fun hc=>?_)<;>(try simp only [SY] at hc)<;>omega))
  rw [hF]
  exact PRet.gen (y := .agg (Datum.mk 7 0 0 [] r.1.1).cells) (Γ' := [rdE b s r.2.1 r.2.2]) DatOf.wk (And.intro rfl rfl)
 ·rw [if_neg (by omega), if_neg (u8_ne (by assumption)), if_neg (u8_ne (by assumption)), if_neg (u8_ne (by assumption)), if_neg (u8_ne (by assumption))] at hF
  rw [show (k : Int) + 1 + 1 - 1 = ((k + 1 : Nat) : Int) by omega, show (k : Int) + 1 + 1 = ((k + 2 : Nat) : Int) from rfl]
  refine PCall.go (fail03_c b s (k + 2) (k + 1 : Nat)) (WkT.refl _) ?_
  rintro _ _ ⟨rfl, rfl⟩
  conv => whnf
  repeat' (first|refine aA2 ?_|(refine zX (fun hc=>?_) (fun hc=>?_)<;>(try simp only [SY] at hc)<;>omega))
  rw [hF]
  exact PRet.gen (y := .agg nulD.cells) (Γ' := [rdE b s (k + 2 : Nat) (k + 1 : Nat)]) (Wk.refl _) (And.intro rfl rfl)
theorem RF_eq (s : List UInt8) (m k0 : Nat) : ((RF s (m + 1)).1 k0) = (
  if nxtF s k0 = s.length then (nulD, nxtF s k0, ((nxtF s k0 : Nat) : Int)) else
  if markR (byteF s (nxtF s k0)) = true then wordF s (nxtF s k0) else
  if byteF s (nxtF s k0) = 34 then textF s (nxtF s k0) else
  if byteF s (nxtF s k0) = 39 then (listD [symD [113, 117, 111, 116, 101], ((RF s m).1 (nxtF s k0 + 1)).1], ((RF s m).1 (nxtF s k0 + 1)).2) else
  if byteF s (nxtF s k0) = 35 then hashF s m (nxtF s k0) else
  if byteF s (nxtF s k0) = 40 then (((RF s m).2 true (nxtF s k0 + 1) [] nulD).1.1.foldr pairD ((RF s m).2 true (nxtF s k0 + 1) [] nulD).1.2, ((RF s m).2 true (nxtF s k0 + 1) [] nulD).2) else
  (nulD, nxtF s k0, ((nxtF s k0 : Nat) : Int)) : RdR) := by
 rw [RF]
 rfl
theorem listS_c {x : PV} {l : List Datum} [h : SlOf Datum.pv 5 x l] : ACallP Tryz.prog 18 [x] (.agg (listD l).cells) :=
 ACall.wk (args' := [.sl 5 (l.map Datum.pv) none]) (list02_c l) (.cons h.wk .nil)
theorem drRd03dab {p q : Prop} (k : q) (h : q → p := by intro hq; first | exact PDraw.sP (some 11) rfl [] [] tt_ok mixed hq | exact PDraw.sP (some 79) rfl [] [7] tt_ok mixed hq) : p := h k
theorem datum03_c (s : List UInt8) (b m : Nat) (hs : s.length ≤ 1000000) (ih1 : DatOk s b m) (ih2 : DtsOk s b m) : DatOk s b (m + 1) := by
 intro k0 deep hk0 hn h0 hd
 have hF := RF_eq s m k0
 generalize hR : (RF s (m + 1)).1 k0 = R at *
 refine ACall.of_body tt_ok Tryz.func66 rfl rfl (n := 93) rfl rfl ?_
 conv => whnf
 repeat' (first|((intro _);conv=>whnf)|(refine zX (fun hc=>?_) (fun hc=>?_)<;>(try simp only [SY] at hc)<;>omega))
 rename_i b4
 refine PCall.go (next03_c b s k0 (-1) hs hk0) (WkT.refl _) ?_
 rintro _ _ ⟨rfl, rfl⟩
 have hn : k0 ≤ nxtF s k0 ∧ nxtF s k0 ≤ s.length := nextF_le s (s.length + 1) k0 hk0
 generalize nxtF s k0 = k at *
 conv => whnf
 repeat' (first|refine aA2 ?_|((first|refine pC (mark03_c _) wR ?_|refine drRd03dab ?_);conv=>whnf)|(refine zX (fun hc=>?_) (fun hc=>?_)<;>(try simp only [SY] at hc)<;>(conv=>whnf)))
 ·rw [if_pos (by omega)] at hF
  subst hF
  refine PCall.go (fail03_c b s k k) (WkT.refl _) ?_
  rintro _ _ ⟨rfl, rfl⟩
  conv => whnf
  repeat' (first|refine aA2 ?_|(refine zX (fun hc=>?_) (fun hc=>?_)<;>(try simp only [SY] at hc)<;>omega))
  exact PRet.gen (y := .agg nulD.cells) (Γ' := [rdE b s k k]) (Wk.refl _) (And.intro rfl rfl)
 ·rw [if_neg (by omega), if_pos hc] at hF
  subst hF
  refine PCall.go (word03_c b s k hs (by omega)) (WkT.refl _) ?_
  rintro _ _ ⟨rfl, rfl⟩
  conv => whnf
  repeat' (first|refine aA2 ?_|(refine zX (fun hc=>?_) (fun hc=>?_)<;>(try simp only [SY] at hc)<;>omega))
  exact PRet.gen (y := .agg (wordF s k).1.cells) (Γ' := [rdE b s (wordF s k).2.1 (wordF s k).2.2]) (Wk.refl _) (And.intro rfl rfl)
 ·rw [if_neg (by omega), if_neg (by rw [‹markR (byteF s k) = false›]; simp), if_pos (u8_eq.1 (by exact hc))] at hF
  subst hF
  refine PCall.go (text03_c b s k hs (by omega)) (WkT.refl _) ?_
  rintro _ _ ⟨rfl, rfl⟩
  conv => whnf
  repeat' (first|refine aA2 ?_|(refine zX (fun hc=>?_) (fun hc=>?_)<;>(try simp only [SY] at hc)<;>omega))
  exact PRet.gen (y := .agg (textF s k).1.cells) (Γ' := [rdE b s (textF s k).2.1 (textF s k).2.2]) (Wk.refl _) (And.intro rfl rfl)
 ·rw [if_neg (by omega), if_neg (by rw [‹markR (byteF s k) = false›]; simp), if_neg (u8_ne (by assumption)), if_pos (u8_eq.1 (by exact hc))] at hF
  rw [show (k : Int) + 1 = ((k + 1 : Nat) : Int) from rfl]
  refine PCall.go (ih1 (k + 1) (deep + 1) (by omega) (by omega) (by omega) (by omega)) (WkT.refl _) ?_
  rintro _ _ ⟨rfl, rfl⟩
  generalize (RF s m).1 (k + 1) = r at *
  subst hF
  conv => whnf
  repeat' (first|refine aA2 ?_|((first|refine pC (listS_c) wR ?_|intro _);conv=>whnf)|(refine zX (fun hc=>?_) (fun hc=>?_)<;>(try simp only [SY] at hc)<;>omega))
  exact PRet.gen (y := .agg (listD [symD [113, 117, 111, 116, 101], r.1]).cells) (Γ' := [rdE b s r.2.1 r.2.2]) (Wk.refl _) (And.intro rfl rfl)
 ·rw [if_neg (by omega), if_neg (by rw [‹markR (byteF s k) = false›]; simp), if_neg (u8_ne (by assumption)), if_neg (u8_ne (by assumption)), if_pos (u8_eq.1 (by exact hc))] at hF
  subst hF
  refine PCall.go (hash03_c s b m hs ih2 k deep (by omega) (by omega) h0 (by omega)) (WkT.refl _) ?_
  rintro _ _ ⟨rfl, rfl⟩
  conv => whnf
  repeat' (first|refine aA2 ?_|(refine zX (fun hc=>?_) (fun hc=>?_)<;>(try simp only [SY] at hc)<;>omega))
  exact PRet.gen (y := .agg (hashF s m k).1.cells) (Γ' := [rdE b s (hashF s m k).2.1 (hashF s m k).2.2]) (Wk.refl _) (And.intro rfl rfl)
 ·rw [if_neg (by omega), if_neg (by rw [‹markR (byteF s k) = false›]; simp), if_neg (u8_ne (by assumption)), if_neg (u8_ne (by assumption)), if_neg (u8_ne (by assumption)), if_pos (u8_eq.1 (by exact hc))] at hF
  rw [show (k : Int) + 1 = ((k + 1 : Nat) : Int) from rfl]
  refine PCall.go (ih2 true (k + 1) deep (by omega) (by omega) (by omega) (by omega)) (.cons (Wk.refl _) (.cons (Wk.tt rfl) (.cons (Wk.refl _) .nil))) ?_
  rintro _ _ ⟨rfl, rfl⟩
  generalize (RF s m).2 true (k + 1) [] nulD = r at *
  obtain ⟨⟨l, e⟩, j, bd⟩ := r
  dsimp only at hF ⊢
  conv => whnf
  repeat' (first|refine aA2 ?_|((intro _);conv=>whnf)|(refine zX (fun hc=>?_) (fun hc=>?_)<;>(try simp only [SY] at hc)<;>omega))
  rename_i b7 hl
  rw [show ([.int .i64 e.kind, .int .i64 e.n, .int .i64 e.d, .str e.s, .sl 5 (e.l.map Datum.pv) none] : List PV) = datC e from rfl]
  refine PLoop.over [8, 75, 76, 77, 78, 79, 80, 81, 82, 83, 84, 85] (fun x : Nat × Datum => [(8, .int .i64 ((x.1 : Int) - 1))]) (fun x : Nat × Datum => [rdE b s j bd, resE b4, .box b7 (datC x.2)]) (fun x => x.1 ≤ l.length ∧ x.2 = (l.drop x.1).foldr pairD e) (fun x => x.1) (l.length, e) ⟨Nat.le_refl _, by rw [List.drop_of_length_le (Nat.le_refl _)]; rfl⟩ wA ?_
  rintro ⟨i, D⟩ ⟨hi, hD⟩
  dsimp only at hi hD ⊢
  conv => whnf
  repeat' (first|refine aA2 ?_|((refine drRd03dab ?_);conv=>whnf)|(refine zX (fun hc=>?_) (fun hc=>?_)<;>(try simp only [SY] at hc)<;>(conv=>whnf)))
  ·have h1 : i - 1 < l.length := by omega
   have e1 : l.drop (i - 1) = l[i - 1] :: l.drop i := by rw [drop_at h1, show i - 1 + 1 = i by omega]
   refine LoopTo.gh (i - 1, pairD l[i - 1] D) ⟨by show i - 1 ≤ _; omega, by show pairD _ _ = _; rw [e1, hD]; rfl⟩ (by show i - 1 < i; omega) wA ?_
   refine Ghost.trans (Ghost.box (b := b7) (cs := [.int .i64 6, .int .i64 0, .int .i64 0, .str [], .sl 5 [.agg (datC l[i - 1]), .agg (datC D)] none]) (cs' := datC (pairD l[i - 1] D)) pair_wk) ?_
   exact Ghost.pick
  ·have e1 : D = l.foldr pairD e := by rw [hD, show i = 0 by omega]; rfl
   rw [← e1] at hF
   subst hF
   exact PRet.gen (y := .agg D.cells) (Γ' := [rdE b s j bd]) (Wk.refl _) (And.intro rfl rfl)
 ·rw [if_neg (by omega), if_neg (by rw [‹markR (byteF s k) = false›]; simp), if_neg (u8_ne (by assumption)), if_neg (u8_ne (by assumption)), if_neg (u8_ne (by assumption)), if_neg (u8_ne (by assumption))] at hF
  subst hF
  refine PCall.go (fail03_c b s k k) (WkT.refl _) ?_
  rintro _ _ ⟨rfl, rfl⟩
  conv => whnf
  repeat' (first|refine aA2 ?_|(refine zX (fun hc=>?_) (fun hc=>?_)<;>(try simp only [SY] at hc)<;>omega))
  exact PRet.gen (y := .agg nulD.cells) (Γ' := [rdE b s k k]) (Wk.refl _) (And.intro rfl rfl)
theorem datumAll_c (s : List UInt8) (b : Nat) (hs : s.length ≤ 1000000) : ∀ n, DatOk s b n := by
 have key : ∀ n, ∀ m, m ≤ n → DatOk s b m ∧ DtsOk s b m := by
  intro n
  induction n with
  | zero =>
   intro m hm
   refine ⟨fun k deep hk h => by omega, fun pair k deep hk h => by omega⟩
  | succ n ih =>
   intro m hm
   rcases Nat.lt_or_ge m (n + 1) with h | h
   ·exact ih m (by omega)
   ·obtain rfl : m = n + 1 := by omega
    exact ⟨datum03_c s b n hs (ih n (Nat.le_refl _)).1 (ih n (Nat.le_refl _)).2, data03_c s b (n + 1) hs fun j hj => (ih j (by omega)).1⟩
 exact fun n => (key n n (Nat.le_refl _)).1
theorem drRd03dac {p q : Prop} (k : q) (h : q → p := by intro hq; first | exact PDraw.sP (some 55) rfl [] [] tt_ok mixed hq) : p := h k
theorem read03_c (s : List UInt8) : ACallP Tryz.prog 34 [.str s] (readTP s) := by
 by_cases hs : s.length > 65536
 ·refine ACall.of_body tt_ok Tryz.func34 rfl rfl (n := 59) rfl rfl ?_
  conv => whnf
  repeat' (first|((intro _);conv=>whnf)|(refine zX (fun hc=>?_) (fun hc=>?_)<;>(try simp only [SY] at hc)<;>first|omega|(conv=>whnf)))
  rw [show readTP s = .tup [.sl 5 [] none, .int .i64 65536, .int .i64 2] by unfold readTP readT; rw [if_pos hs]; rfl]
  exact PRet.pure (Wk.tup (.cons (Wk.nil' rfl) (.cons (Wk.refl _) (.cons (Wk.refl _) .nil))))
 ·have hR : readT s = topF s (s.length + 1) 0 [] := by unfold readT; rw [if_neg hs]
  unfold readTP
  generalize readT s = R at *
  refine ACall.of_body tt_ok Tryz.func34 rfl rfl (n := 59) rfl rfl ?_
  conv => whnf
  repeat' (first|((intro _);conv=>whnf)|(refine zX (fun hc=>?_) (fun hc=>?_)<;>(try simp only [SY] at hc)<;>first|omega|(conv=>whnf)))
  rename_i hl b5
  refine PLoop.gh (Ghost.nil 5 24 _) ?_
  refine PLoop.over [2, 3, 4, 6, 7, 8, 15, 16, 17, 18, 19, 20, 21, 22, 23, 24, 25, 26, 27, 28, 29, 30, 31, 32, 33, 34, 35, 36, 37, 38, 39, 40, 41, 42, 43, 44, 45, 46, 47, 48, 49, 50, 51, 52, 53, 54] (fun x : Nat × Nat × Int × List Datum × Tok => [(6, .sl 5 (x.2.2.2.1.map Datum.pv) (some x.2.2.2.2))]) (fun x : Nat × Nat × Int × List Datum × Tok => [rdE b5 s x.2.1 x.2.2.1, .tok x.2.2.2.2])
   (fun x => x.2.1 ≤ s.length ∧ x.2.2.2.1.length ≤ 2000000 ∧ x.2.2.2.2.e = 24 ∧ ((x.2.2.1 = -1 ∧ x.2.2.2.1.length ≤ x.2.1 ∧ s.length - x.2.1 + 1 ≤ x.1 ∧ R = topF s x.1 x.2.1 x.2.2.2.1) ∨ (0 ≤ x.2.2.1 ∧ R = ([], x.2.2.1, 2)))) (fun x => x.1) (s.length + 1, 0, -1, [], nilTok 5 24) ⟨Nat.zero_le _, by simp, rfl, .inl ⟨rfl, by simp, by simp, hR⟩⟩ wA ?_
  rintro ⟨m, k, bad, l, tk⟩ ⟨hk, hl2, htk, hI⟩
  dsimp only at hk hl2 htk hI ⊢
  rcases hI with ⟨hb, hlk, hmk, hR2⟩ | ⟨hb, hR2⟩
  ·obtain ⟨m, rfl⟩ : ∃ m', m = m' + 1 := ⟨m - 1, by omega⟩
   subst hb
   rw [topF] at hR2
   dsimp only at hR2
   conv => whnf
   repeat' (first|refine aA2 ?_|(refine zX (fun hc=>?_) (fun hc=>?_)<;>(try simp only [SY] at hc)<;>first|omega|(conv=>whnf)))
   refine PCall.go (next03_c b5 s k (-1) (by omega) hk) (WkT.refl _) ?_
   rintro _ _ ⟨rfl, rfl⟩
   have hn : k ≤ nxtF s k ∧ nxtF s k ≤ s.length := nextF_le s (s.length + 1) k hk
   generalize nxtF s k = K at *
   conv => whnf
   repeat' (first|refine aA2 ?_|((intro _);conv=>whnf)|(refine zX (fun hc=>?_) (fun hc=>?_)<;>(try simp only [SY] at hc)<;>(conv=>whnf)))
   ·rw [if_pos (by omega)] at hR2
    subst hR2
    exact PRet.pure (Wk.tup (.cons (Wk.tok _ _ _) (.cons (Wk.refl _) (.cons (Wk.refl _) .nil))))
   ·rw [if_neg (by omega)] at hR2
    refine PCall.go (datumAll_c s b5 (by omega) (rdN s) K 0 hn.2 (by show _ ≤ 2 * s.length + 4; omega) (by omega) (by omega)) (WkT.refl _) ?_
    rintro _ _ ⟨rfl, rfl⟩
    have hok := (RF_pos s (rdN s)).1 K hn.2
    generalize (RF s (rdN s)).1 K = r at *
    obtain ⟨d, k2, bd⟩ := r
    obtain ⟨hk2, hok⟩ := hok
    dsimp only at hk2 hok hR2 ⊢
    rcases hok with ⟨rfl, hlt⟩ | hbd
    ·rw [if_pos (by decide)] at hR2
     conv => whnf
     repeat' (first|refine aA2 ?_|((first|(((apply zY;intro hg));(conv=>whnf);(repeat ((first|refine pC (right2D_c _) wR ?_|refine aH ?_);conv=>whnf));exact pZ)|intro _);conv=>whnf)|(refine zX (fun hc=>?_) (fun hc=>?_)<;>(try simp only [SY] at hc)<;>(conv=>whnf)))
     ·have hnr : d.rightD 0 = false := hc.2
      rw [if_neg (by rw [hnr]; simp)] at hR2
      refine PCall.go (fail03_c b5 s k2 K) (WkT.refl _) ?_
      rintro _ _ ⟨rfl, rfl⟩
      conv => whnf
      repeat' (first|refine aA2 ?_|((intro _);conv=>whnf)|(refine zX (fun hc=>?_) (fun hc=>?_)<;>(try simp only [SY] at hc)<;>omega))
      rename_i t2 ht2
      exact loopTo (m, k2, K, l ++ [d], t2) ⟨hk2, by simp; omega, ht2, .inr ⟨by show 0 ≤ (K : Int); omega, hR2⟩⟩ (by show m < m + 1; omega) wA
     ·rename_i t2 ht2
      have hr : d.rightD 0 = true := by
       rcases hc with h | h
       ·omega
       ·exact h
      rw [if_pos hr] at hR2
      exact loopTo (m, k2, -1, l ++ [d], t2) ⟨hk2, by simp; omega, ht2, .inl ⟨rfl, by simp; omega, by show s.length - k2 + 1 ≤ m; omega, hR2⟩⟩ (by show m < m + 1; omega) wA
    ·rw [if_neg (by omega)] at hR2
     conv => whnf
     repeat' (first|refine aA2 ?_|((first|(((apply zY;intro hg));(conv=>whnf);(repeat ((first|refine pC (right2D_c _) wR ?_|refine aH ?_);conv=>whnf));exact pZ)|intro _);conv=>whnf)|(refine zX (fun hc=>?_) (fun hc=>?_)<;>(try simp only [SY] at hc)<;>first|omega|(conv=>whnf)))
     rename_i t2 ht2
     exact loopTo (m, k2, bd, l ++ [d], t2) ⟨hk2, by simp; omega, ht2, .inr ⟨hbd, hR2⟩⟩ (by show m < m + 1; omega) wA
  ·conv => whnf
   repeat' (first|refine aA2 ?_|((refine drRd03dac ?_);conv=>whnf)|(refine zX (fun hc=>?_) (fun hc=>?_)<;>(try simp only [SY] at hc)<;>first|omega|(conv=>whnf)))
   subst hR2
   exact PRet.pure (Wk.tup (.cons (Wk.nil' rfl) (.cons (Wk.refl _) (.cons (Wk.refl _) .nil))))
end Go.Cb
namespace Go.Cb
open Go.Proofs
set_option maxRecDepth 100000
set_option maxHeartbeats 4000000
theorem list04_c {x : PV} {l : List Datum} [h : SlOf Datum.pv 5 x l] : ACallP Tryz.prog 119 [x] (.agg (listD l).cells) := by
 refine ACall.wk (args' := [.sl 5 (l.map Datum.pv) none]) ?_ (.cons h.wk .nil)
 refine ACall.of_body tt_ok Tryz.func119 rfl rfl (n := 5) rfl rfl ?_
 conv => whnf
 repeat' (first|refine aA2 ?_|((first|refine pC (list02_c l) wR ?_|intro _);conv=>whnf)|(refine zX (fun hc=>?_) (fun hc=>?_)<;>(try simp only [SY] at hc)<;>omega))
 exact PRet.pure (Wk.refl _)
theorem sym04_c (s : List UInt8) : ACallP Tryz.prog 120 [.str s] (.agg (symD s).cells) := by
 refine ACall.of_body tt_ok Tryz.func120 rfl rfl (n := 5) rfl rfl ?_
 conv => whnf
 repeat' (first|refine aA2 ?_|((intro _);conv=>whnf)|(refine zX (fun hc=>?_) (fun hc=>?_)<;>(try simp only [SY] at hc)<;>omega))
 exact PRet.pure DatOf.wk
theorem drExp04aa {p q : Prop} (k : q) (h : q → p := by intro hq; first | exact PDraw.sP (some 3) rfl [] [4] tt_ok mixed hq) : p := h k
theorem quoted04_c {x : PV} {d : Datum} [h : ElOf Datum.pv x d] : ACallP Tryz.prog 150 [x] (.agg (quotD d).cells) := by
 refine ACall.wk (args' := [.agg d.cells]) ?_ (.cons DatOf.wk .nil)
 refine ACall.of_body tt_ok Tryz.func150 rfl rfl (n := 7) rfl rfl ?_
 conv => whnf
 repeat' (first|refine aA2 ?_|((first|((apply zZ);(conv=>whnf);(repeat ((first|refine pC (sym04_c _) wR ?_|refine pC (list04_c) wR ?_);conv=>whnf));exact pZ)|refine drExp04aa ?_|intro _);conv=>whnf)|(refine zX (fun hc=>?_) (fun hc=>?_)<;>(try simp only [SY] at hc)<;>omega))
 exact PRet.pure (Wk.refl _)
theorem truth04_c (n : Int) : ACallP Tryz.prog 205 [.int .i64 n] (.agg (truD n).cells) := by
 refine ACall.of_body tt_ok Tryz.func205 rfl rfl (n := 6) rfl rfl ?_
 conv => whnf
 repeat' (first|refine aA2 ?_|((first|refine pC (quoted04_c) wR ?_|intro _);conv=>whnf)|(refine zX (fun hc=>?_) (fun hc=>?_)<;>(try simp only [SY] at hc)<;>omega))
 exact PRet.pure (Wk.refl _)
theorem void04_c : ACallP Tryz.prog 172 [] (.agg voidD.cells) := by
 refine ACall.of_body tt_ok Tryz.func172 rfl rfl (n := 3) rfl rfl ?_
 conv => whnf
 repeat' (first|refine aA2 ?_|((first|refine pC (quoted04_c) wR ?_|intro _);conv=>whnf)|(refine zX (fun hc=>?_) (fun hc=>?_)<;>(try simp only [SY] at hc)<;>omega))
 exact PRet.pure (Wk.refl _)
abbrev mkE (b : Nat) (s : MkS) : Ent := .box b [.int .i64 s.n, .bool s.bad]
theorem failM_c (b : Nat) (s : MkS) : ACall Tryz.prog 118 [.ptr b 0] [mkE b s] (fun y Γ' => y = .agg (failM s).1.cells ∧ Γ' = [mkE b (failM s).2]) := by
 refine ACall.of_body tt_ok Tryz.func118 rfl rfl (n := 7) rfl rfl ?_
 conv => whnf
 repeat' (first|refine aA2 ?_|((intro _);conv=>whnf)|(refine zX (fun hc=>?_) (fun hc=>?_)<;>(try simp only [SY] at hc)<;>omega))
 exact PRet.gen (y := .agg nulD.cells) (Γ' := [.box b [.int .i64 s.n, .bool true]]) wk_nulD (And.intro rfl rfl)
theorem fresh04_c (b : Nat) (s : MkS) (h0 : 0 ≤ s.n) (h1 : s.n ≤ 1000000000000) : ACall Tryz.prog 178 [.ptr b 0] [mkE b s] (fun y Γ' => y = .agg (frsM s).1.cells ∧ Γ' = [mkE b (frsM s).2]) := by
 refine ACall.of_body tt_ok Tryz.func178 rfl rfl (n := 31) rfl rfl ?_
 conv => whnf
 repeat' (first|refine aA2 ?_|((intro _);conv=>whnf)|(refine zX (fun hc=>?_) (fun hc=>?_)<;>(try simp only [SY] at hc)<;>omega))
 rename_i b2
 obtain ⟨N, hN⟩ : ∃ N : Nat, s.n + 1 = (N : Int) := ⟨(s.n + 1).toNat, by omega⟩
 have hF : frsM s = (symD (37 :: digsF 20 N), ⟨s.n + 1, s.bad⟩) := by unfold frsM; rw [hN]; rfl
 rw [hF, hN]
 refine PLoop.over [3, 4, 16, 17, 18, 19, 20, 21, 22, 23, 24, 25, 26, 27] (fun x : Nat × Nat × List UInt8 => [(3, .str x.2.2), (4, .int .i64 x.2.1)]) (fun _ : Nat × Nat × List UInt8 => [resE b2, .box b [.int .i64 (N : Int), .bool s.bad]]) (fun x => x.2.1 ≤ N ∧ x.2.1 < 10 ^ x.1 ∧ x.2.2.length + x.1 = 20 ∧ digsF x.1 x.2.1 ++ x.2.2 = digsF 20 N) (fun x => x.2.1) (20, N, []) ⟨Nat.le_refl _, by dsimp only; omega, rfl, by simp⟩ wA ?_
 rintro ⟨f, k, ds⟩ ⟨hkN, hk, hf, he⟩
 dsimp only at hkN hk hf he ⊢
 have ht : (k : Int).tmod 10 = ((k % 10 : Nat) : Int) := (Int.ofNat_tmod ..).symm
 have hq : (k : Int).tdiv 10 = ((k / 10 : Nat) : Int) := (Int.ofNat_tdiv ..).symm
 conv => whnf
 repeat' (first|refine aA2 ?_|((intro _);conv=>whnf)|(refine zX (fun hc=>?_) (fun hc=>?_)<;>(try simp only [SY] at hc)<;>(conv=>whnf)))
 ·have hb : ((48 + k % 10).toUInt8.toNat : Int) = 48 + (k : Int).tmod 10 := by
   rw [ht]
   have h9 : k % 10 < 10 := Nat.mod_lt _ (by decide)
   have : (48 + k % 10).toUInt8.toNat = 48 + k % 10 := by
    show (48 + k % 10) % 256 = 48 + k % 10
    omega
   omega
  refine ⟨⟨[(48 + k % 10).toUInt8], by rw [← hb]; rfl, ?_⟩⟩
  conv => whnf
  skip
  refine zI (by show 1 + ds.length ≤ _; unfold maxLen; omega) ?_
  conv => whnf
  repeat' (first|refine aA2 ?_|(refine zX (fun hc=>?_) (fun hc=>?_)<;>(try simp only [SY] at hc)<;>omega))
  have hf0 : f ≠ 0 := fun h => by rw [h] at hk; omega
  obtain ⟨f, rfl⟩ : ∃ f', f = f' + 1 := ⟨f - 1, by omega⟩
  rw [digsF, if_neg (by omega), List.append_assoc] at he
  exact loopTo (f, k / 10, (48 + k % 10).toUInt8 :: ds) ⟨by show k / 10 ≤ N; omega, by show k / 10 < 10 ^ f; rw [Nat.pow_succ] at hk; omega, by show ds.length + 1 + f = 20; omega, he⟩ (by show k / 10 < k; omega) wA
 ·refine zI (by show 1 + ds.length ≤ _; unfold maxLen; omega) ?_
  conv => whnf
  repeat' (first|refine aA2 ?_|((refine pC (sym04_c _) wR ?_);conv=>whnf)|(refine zX (fun hc=>?_) (fun hc=>?_)<;>(try simp only [SY] at hc)<;>omega))
  have e0 : digsF f k = [] := by
   obtain rfl : k = 0 := by omega
   cases f <;> rfl
  rw [e0, List.nil_append] at he
  rw [← he]
  exact PRet.gen (y := .agg (symD (37 :: ds)).cells) (Γ' := [.box b [.int .i64 (N : Int), .bool s.bad]]) (Wk.refl _) (And.intro rfl rfl)
end Go.Cb
namespace Go.Cb
open Go.Proofs
set_option maxRecDepth 100000
set_option maxHeartbeats 4000000
def eN (e : Env) : List Int := (e.map Prod.snd).reverse
end Go.Cb
namespace Go.Cb
open Go.RowKit (Below)
set_option maxRecDepth 100000
set_option maxHeartbeats 4000000
section
variable {P : Program} {tt : Nat → TI}
theorem SSeq_imp {full : List Oper} {Γ : List Ent} {k k' : List PV → Prop} (hk : ∀ T, k T → k' T) : ∀ (l : List Oper) (T : List PV), SSeq P tt full l T Γ k → SSeq P tt full l T Γ k'
 | [], T, h => hk T h
 | x :: l, T, h => by
  obtain ⟨v, h1, h2⟩ := SSeq_cons.1 h
  exact SSeq_cons.2 ⟨v, h1, SSeq_imp hk l _ h2⟩
theorem gameP (hk : TT.ok P tt) (rd : Option Nat) (nn : Nat) {ops : Array Oper} {tab R2 : List Nat} (hc : tabChk ops tab = true) {w0 : World} {M Γ2 : List Ent} {F0 : Fz} {ds : List Deferred} {Q' : Exit → Act → World → Prop}
    {Tl : List PV → List Ent → Prop} (hTl : ∀ (fuel : Nat) (listed : Array Bool) (T : List PV) (Γ : List Ent) (F : Fz) (a : Act) (w : World), R2.length ≤ fuel → Down ops listed → Pend ops listed R2 → F0.le F → Sim w0 F (Γ ++ M) w → RepT F T a.tmps.toList → a.defers = ds →
      Tl T Γ → wpAnyIn (Fen rd) nn P .any ops Q' fuel listed a w) {p q : Nat} {R : List Nat} :
    ∀ (n : Nat) (A : List Nat) (fuel : Nat) (listed : Array Bool) (T : List PV) (Γ1 : List Ent) (F : Fz) (a : Act) (w : World), A.length = n → n + (2 + R.length) + R2.length ≤ fuel →
      Down ops listed → Pend ops listed (A ++ (p :: q :: (R ++ R2))) → Split0 ops tab A (p :: R) R2 → Split0 ops tab A (q :: R) R2 → F0.le F → Sim w0 F (Γ1 ++ (Γ2 ++ M)) w → RepT F T a.tmps.toList → a.defers = ds →
      (SSeq P tt ops.toList (A.filterMap (ops[·]?)) T Γ2 fun T' => (WOps P tt ops.toList ((p :: q :: R).filterMap (ops[·]?)) T' Γ1 [] fun T2 Γ1' _ => Tl T2 (Γ1' ++ Γ2)) ∧ (WOps P tt ops.toList ((q :: p :: R).filterMap (ops[·]?)) T' Γ1 [] fun T2 Γ1' _ => Tl T2 (Γ1' ++ Γ2))) →
      wpAnyIn (Fen rd) nn P .any ops Q' fuel listed a w := by
  intro n
  induction n with
  | zero | succ n ih =>
    intro A fuel listed T Γ1 F a w hn hf hd hp hsp hsq hle hS hT hds h
    cases fuel with
    | zero => omega
    | succ fuel =>
    refine ⟨fun hnil => ?_, fun i hi => ?_⟩
    · exfalso
      cases hAR : A ++ (p :: q :: (R ++ R2)) with
      | nil => simp at hAR
      | cons x xs =>
        rw [hAR] at hp
        obtain ⟨k, hk'⟩ := ready_exists hc hp
        rw [hnil] at hk'
        cases hk'
    · obtain ⟨o, ho⟩ := hp.2.2 i (hp.ready hi)
      have un : ∀ {j : Nat}, j ∈ A ++ (p :: q :: (R ++ R2)) → anc tab i j = true → False := fun {j} hj ha => blocked hc hd i ho ha ((hp.2.1 j).2 hj) hi
      have free : ∀ {j : Nat} {x : Oper}, j ∈ A ++ (p :: q :: (R ++ R2)) → ops[j]? = some x → (anc tab i j = true ∨ apartAt ops j i = true) → x.apart ops o = true := by
        intro j x hj hx h
        rcases h with h | h
        · exact (un hj h).elim
        · simpa [apartAt, hx, ho] using h
      have hmem := hp.ready hi
      rw [List.mem_append, List.mem_cons, List.mem_cons, List.mem_append] at hmem
      rcases hmem with hm | hm | hm | hm | hm
      · first
        | (exfalso; rw [List.eq_nil_of_length_eq_zero hn] at hm; cases hm)
        | (obtain ⟨A1, A2, rfl⟩ := List.append_of_mem hm
           rw [filterMap_split ho] at h
           have hap : ∀ x ∈ A1.filterMap (ops[·]?), x.apart ops o = true := by
             intro x hx
             obtain ⟨j, hj, hx⟩ := List.mem_filterMap.1 hx
             exact free (by simp [hj]) hx ((List.pairwise_append.1 hsp.pa).2.2 j hj i (by simp))
           obtain ⟨v, h1, h2⟩ := SSeq_move _ T hap h
           have hS2 : Sim w0 F (Γ2 ++ (Γ1 ++ M)) w := hS.perm (by
             rw [← List.append_assoc, ← List.append_assoc]
             exact List.perm_append_comm.append_right M)
           unfold wpOpIn
           simp only [ho]
           have key := SVal_sound hk (rd := rd) (nn := nn) (Q := Q') (next := fun a w => wpAnyIn (Fen rd) nn P .any ops Q' fuel (listed.setIfInBounds i true) a w) hS2 hT h1 (by
             intro F' u w' hle' hS' hx
             refine ih (A1 ++ A2) fuel _ (putT T o.dst v) Γ1 F' _ w' (by simp at hn ⊢; omega) (by omega) (hd.set hi) ?_ hsp.dropA hsq.dropA (Fz.le_trans hle hle') ?_ (put_rep (RepT.mono hle' _ _ hT) hx o.dst)
               ((put_defers a o.dst u).trans hds) ?_
             · have := Pend.set (l1 := A1) (l2 := A2 ++ (p :: q :: (R ++ R2))) (i := i) (by simpa using hp)
               rwa [List.append_assoc]
             · exact hS'.perm (by
                 rw [← List.append_assoc, ← List.append_assoc]
                 exact List.perm_append_comm.append_right M)
             · rw [List.filterMap_append]; exact h2)
           split at key <;> rename_i hw
           · rw [if_pos hw]; exact key
           · rw [if_neg hw]; exact ⟨fun _ _ => trivial, key⟩)
      · subst hm
        have hg : o.guard = none := hsp.ug i (by simp) o ho
        have e1 : (i :: q :: R).filterMap (ops[·]?) = o :: (q :: R).filterMap (ops[·]?) := by rw [List.filterMap_cons, ho]
        have h := SSeq_imp (fun _ h => h.1) _ _ h
        rw [e1] at h
        have hap : ∀ x ∈ A.filterMap (ops[·]?), x.apart ops o = true := by
          intro x hx
          obtain ⟨j, hj, hx⟩ := List.mem_filterMap.1 hx
          exact free (by simp [hj]) hx (hsp.par j hj i (by simp))
        have h2 := SSeq_eff (kk := fun T' Γ1' => WOps P tt ops.toList ((q :: R).filterMap (ops[·]?)) T' Γ1' [] fun T2 Γ1' _ => Tl T2 (Γ1' ++ Γ2)) _ T hap (by
          have hnd := hsp.nd i (by simp) o ho
          simpa only [WOps, hg, WOpD_noDef hnd, putK_T] using h)
        unfold wpOpIn
        simp only [ho]
        rw [if_pos (by simp [Region.wanted, hg])]
        refine WOp_sound hk (M := Γ2 ++ M) hS hT h2 ?_
        rintro F' x Γ' v' w' hle' hS' hx hK
        refine game0 hk rd nn hc hTl _ A (q :: R) fuel _ (putT T o.dst x) Γ' F' _ w' rfl (by simp only [List.length_cons]; omega) (hd.set hi) ?_ hsq (Fz.le_trans hle hle') hS' (put_rep (RepT.mono hle' _ _ hT) hx o.dst)
          ((put_defers a o.dst v').trans hds) hK
        have := Pend.set (l1 := A) (l2 := q :: (R ++ R2)) (i := i) (by simpa using hp)
        simpa using this
      · subst hm
        have hg : o.guard = none := hsq.ug i (by simp) o ho
        have e1 : (i :: p :: R).filterMap (ops[·]?) = o :: (p :: R).filterMap (ops[·]?) := by rw [List.filterMap_cons, ho]
        have h := SSeq_imp (fun _ h => h.2) _ _ h
        rw [e1] at h
        have hap : ∀ x ∈ A.filterMap (ops[·]?), x.apart ops o = true := by
          intro x hx
          obtain ⟨j, hj, hx⟩ := List.mem_filterMap.1 hx
          exact free (by simp [hj]) hx (hsq.par j hj i (by simp))
        have h2 := SSeq_eff (kk := fun T' Γ1' => WOps P tt ops.toList ((p :: R).filterMap (ops[·]?)) T' Γ1' [] fun T2 Γ1' _ => Tl T2 (Γ1' ++ Γ2)) _ T hap (by
          have hnd := hsq.nd i (by simp) o ho
          simpa only [WOps, hg, WOpD_noDef hnd, putK_T] using h)
        unfold wpOpIn
        simp only [ho]
        rw [if_pos (by simp [Region.wanted, hg])]
        refine WOp_sound hk (M := Γ2 ++ M) hS hT h2 ?_
        rintro F' x Γ' v' w' hle' hS' hx hK
        refine game0 hk rd nn hc hTl _ A (p :: R) fuel _ (putT T o.dst x) Γ' F' _ w' rfl (by simp only [List.length_cons]; omega) (hd.set hi) ?_ hsp (Fz.le_trans hle hle') hS' (put_rep (RepT.mono hle' _ _ hT) hx o.dst)
          ((put_defers a o.dst v').trans hds) hK
        have := Pend.set (l1 := A ++ [p]) (l2 := R ++ R2) (i := i) (by simpa using hp)
        simpa using this
      · exact (un (j := p) (by simp) ((List.pairwise_cons.1 hsp.r1).1 i hm)).elim
      · exact (un (j := p) (by simp) (hsp.tl p (by simp) i hm)).elim
def split0B (ops : Array Oper) (tab A R1 R2 : List Nat) : Bool :=
 pairB (fun j i => anc tab i j || apartAt ops j i) A && A.all (fun j => R1.all fun i => anc tab i j || apartAt ops j i) &&
 pairB (fun j i => anc tab i j) R1 && (A ++ R1).all (fun j => R2.all fun i => anc tab i j) &&
 R1.all (fun i => match ops[i]? with | some o => o.guard.isNone | none => false) && R1.all (fun i => match ops[i]? with | some o => noDef o.op | none => false)
theorem Split0.ofB {ops : Array Oper} {tab A R1 R2 : List Nat} (h : split0B ops tab A R1 R2 = true) : Split0 ops tab A R1 R2 := by
 simp only [split0B, Bool.and_eq_true] at h
 obtain ⟨⟨⟨⟨⟨h1, h2⟩, h3⟩, h5⟩, h6⟩, h6'⟩ := h
 refine ⟨(pairB_iff h1).imp fun h => by simpa using h, fun j hj i hi => ?_, pairB_iff h3, fun j hj i hi => ?_, fun i hi o ho => ?_, fun i hi o ho => ?_⟩
 ·have := List.all_eq_true.1 (List.all_eq_true.1 h2 j hj) i hi
  simpa using this
 ·exact List.all_eq_true.1 (List.all_eq_true.1 h5 j hj) i hi
 ·have := List.all_eq_true.1 h6 i hi
  rw [ho] at this
  simpa using this
 ·have := List.all_eq_true.1 h6' i hi
  rw [ho] at this
  exact this
def splitWB (ops : Array Oper) (tab A : List Nat) (p q : Nat) (R B R2 : List Nat) : Bool :=
 tabChk ops tab && split0B ops tab A (p :: R) (B ++ R2) && split0B ops tab A (q :: R) (B ++ R2) &&
 pairB (fun j i => anc tab i j || apartAt ops j i) B && pairB (fun j i => anc tab i j) R2 && B.all (fun j => R2.all fun i => anc tab i j) && R2.all (fun i => match ops[i]? with | some o => noDef o.op | none => false) &&
 pairB (fun j i => !(Nat.beq j i)) (A ++ (p :: q :: (R ++ (B ++ R2)))) && (List.range ops.size).all (fun i => (A ++ (p :: q :: (R ++ (B ++ R2)))).contains i) && (A ++ (p :: q :: (R ++ (B ++ R2)))).all (fun i => Nat.blt i ops.size)
theorem PDraw.splitW (hk : TT.ok P tt) (hm : P.follows .mixedOrders = true) {ops : Array Oper} {T : List PV} {Γ Γ2 : List Ent} {K : List PV → List Ent → Prop} (tab A : List Nat) (p q : Nat) (R B R2 : List Nat) (Γ1 : List Ent)
  (hchk : splitWB ops tab A p q R B R2 = true) [hp : PickL Γ Γ1 Γ2]
  (h : SSeq P tt ops.toList (pickO ops.toList A) T Γ2 fun T' =>
   (WOps P tt ops.toList (pickO ops.toList (p :: q :: R)) T' Γ1 [] fun T2 Γ1' _ => appE Γ1' Γ2 fun Γ' => SSeq P tt ops.toList (pickO ops.toList B) T2 Γ' fun T3 => WOps P tt ops.toList (pickO ops.toList R2) T3 Γ' [] fun T' Γ' _ => K T' Γ') ∧
   (WOps P tt ops.toList (pickO ops.toList (q :: p :: R)) T' Γ1 [] fun T2 Γ1' _ => appE Γ1' Γ2 fun Γ' => SSeq P tt ops.toList (pickO ops.toList B) T2 Γ' fun T3 => WOps P tt ops.toList (pickO ops.toList R2) T3 Γ' [] fun T' Γ' _ => K T' Γ')) : PDraw P ops T Γ K := by
 refine ⟨fun rd nn id w0 F M w a Q' hS hT hQ => wpIn_region_any hm ?_⟩
 simp only [splitWB, Bool.and_eq_true] at hchk
 obtain ⟨⟨⟨⟨⟨⟨⟨⟨⟨hc, s1⟩, s2⟩, b1⟩, b2⟩, b3⟩, b4⟩, h7⟩, h8⟩, h9⟩ := hchk
 have hlt : ∀ i ∈ A ++ (p :: q :: (R ++ (B ++ R2))), i < ops.size := fun i hi => by
  have := List.all_eq_true.1 h9 i hi
  simpa [Nat.blt, Nat.succ_le_iff] using this
 have hpend : Pend ops (Array.replicate ops.size false) (A ++ (p :: q :: (R ++ (B ++ R2)))) := by
  refine ⟨(pairB_iff h7).imp fun h => by
   intro e
   subst e
   simp at h, ?_, fun i hi => ⟨_, Array.getElem?_eq_getElem (hlt i hi)⟩⟩
  intro i
  constructor
  ·intro hi
   rcases Nat.lt_or_ge i ops.size with h' | h'
   ·have := List.all_eq_true.1 h8 i (List.mem_range.2 h')
    simpa only [List.contains_iff_mem] using this
   ·simp [Array.getElem?_eq_none, h'] at hi
  ·intro hi
   simp [hlt i hi]
 have hsp2 : Split ops tab B [] R2 := by
  refine ⟨(pairB_iff b1).imp fun h => by simpa using h, fun _ _ _ h => (by cases h), List.Pairwise.nil, pairB_iff b2, fun j hj i hi => ?_, fun _ h => (by cases h), fun i hi o ho => ?_⟩
  ·exact List.all_eq_true.1 (List.all_eq_true.1 b3 j (by simpa using hj)) i hi
  ·have := List.all_eq_true.1 b4 i (by simpa using hi)
   rw [ho] at this
   exact this
 have hlen : A.length + (2 + R.length) + (B ++ R2).length ≤ ops.size := by
  have hsub : (A ++ (p :: q :: (R ++ (B ++ R2)))) ⊆ List.range ops.size := fun i hi => List.mem_range.2 (hlt i hi)
  have := hpend.1.length_le_of_subset hsub
  simp only [List.length_append, List.length_cons, List.length_range] at this ⊢
  omega
 have hS' : Sim w0 F (Γ1 ++ (Γ2 ++ M)) { w with drawn := w.drawn + 1 } := by
  have := (hS.perm (hp.p.append_right M)).of_heap (w' := { w with drawn := w.drawn + 1 }) rfl rfl rfl rfl
  simpa using this
 refine gameP hk rd nn hc (R2 := B ++ R2) (F0 := F) (ds := a.defers) (Tl := fun T2 Γ' => SSeq P tt ops.toList (pickO ops.toList B) T2 Γ' fun T3 => WOps P tt ops.toList (pickO ops.toList R2) T3 Γ' [] fun T' Γ' _ => K T' Γ') ?_ _ A ops.size _ T Γ1 F a _ rfl hlen ?_ hpend (Split0.ofB s1) (Split0.ofB s2) (Fz.le_refl F) hS' hT rfl ?_
 ·intro fuel listed T2 Γ' F' a' w' hf hd hpd hle hS2 hT2 hds ht
  refine game hk rd nn hc (R2 := R2) (F0 := F) (ds := a.defers) hQ _ B [] fuel listed T2 [] F' a' w' rfl (by simpa using hf) hd (by simpa using hpd) hsp2 hle (Γ2 := Γ') (by simpa using hS2) hT2 hds ?_
  simpa only [pickO_eq, Array.getElem?_toList, List.filterMap_nil, WOps, List.nil_append] using ht
 ·intro k o hk'
  rcases Nat.lt_or_ge k ops.size with h' | h'
  ·simp [h'] at hk'
  ·intro ho
   have := (Array.getElem?_eq_some_iff.1 ho).1
   omega
 ·simpa only [pickO_eq, Array.getElem?_toList, appE_eq] using h
theorem PDraw.sW {ops : Array Oper} (Γ1 : List Ent) (p q : Nat) (R B R2 : List Nat) (hk : TT.ok P tt) (hm : P.follows .mixedOrders = true) {T : List PV} {Γ Γ2 : List Ent} {K : List PV → List Ent → Prop} [hp : PickL Γ Γ1 Γ2]
  (h : SSeq P tt ops.toList (pickO ops.toList (restL ops.toList 0 (p :: q :: (R ++ (B ++ R2))))) T Γ2 fun T' =>
   (WOps P tt ops.toList (pickO ops.toList (p :: q :: R)) T' Γ1 [] fun T2 Γ1' _ => appE Γ1' Γ2 fun Γ' => SSeq P tt ops.toList (pickO ops.toList B) T2 Γ' fun T3 => WOps P tt ops.toList (pickO ops.toList R2) T3 Γ' [] fun T' Γ' _ => K T' Γ') ∧
   (WOps P tt ops.toList (pickO ops.toList (q :: p :: R)) T' Γ1 [] fun T2 Γ1' _ => appE Γ1' Γ2 fun Γ' => SSeq P tt ops.toList (pickO ops.toList B) T2 Γ' fun T3 => WOps P tt ops.toList (pickO ops.toList R2) T3 Γ' [] fun T' Γ' _ => K T' Γ'))
  (hchk : splitWB ops (tabOf ops.toList []) (restL ops.toList 0 (p :: q :: (R ++ (B ++ R2)))) p q R B R2 = true := by kernel_rfl) : PDraw P ops T Γ K :=
 PDraw.splitW hk hm _ _ p q R B R2 Γ1 hchk h
end
end Go.Cb
namespace Go.Cb
open Go.RowKit (Below)
set_option maxRecDepth 100000
set_option maxHeartbeats 4000000
section
variable {P : Program} {tt : Nat → TI}
end
end Go.Cb
namespace Go.Cb
open Go.RowKit (Below)
set_option maxRecDepth 100000
set_option maxHeartbeats 4000000
def okR (tab rest : List Nat) (i : Nat) : Bool := rest.all fun j => Nat.beq j i || !(anc tab i j)
def dropN (i : Nat) : List Nat → List Nat
 | [] => []
 | j :: l => match Nat.beq j i with
  | true => l
  | false => j :: dropN i l
def keepR (tab rest : List Nat) : List Nat → List Nat
 | [] => []
 | i :: l => match okR tab rest i with
  | true => i :: keepR tab rest l
  | false => keepR tab rest l
def allQ : List Nat → (Nat → Prop) → Prop
 | [], _ => True
 | i :: l, f => f i ∧ allQ l f
theorem allQ_mem {f : Nat → Prop} : ∀ {l : List Nat}, allQ l f → ∀ i ∈ l, f i
 | [], _, i, h => by cases h
 | j :: l, h, i, hi => by
  rcases List.mem_cons.1 hi with rfl | hi
  ·exact h.1
  ·exact allQ_mem h.2 i hi
theorem keepR_mem {tab rest : List Nat} : ∀ {l : List Nat} {i : Nat}, i ∈ l → okR tab rest i = true → i ∈ keepR tab rest l
 | j :: l, i, hi, ho => by
  rw [keepR]
  rcases List.mem_cons.1 hi with rfl | hi
  ·rw [ho]; exact List.mem_cons_self ..
  ·split
   ·exact List.mem_cons_of_mem _ (keepR_mem hi ho)
   ·exact keepR_mem hi ho
theorem dropN_split {i : Nat} : ∀ {l1 l2 : List Nat}, i ∉ l1 → dropN i (l1 ++ i :: l2) = l1 ++ l2
 | [], l2, _ => by
  rw [List.nil_append, dropN, Nat.beq_refl]
  rfl
 | j :: l1, l2, h => by
  rw [List.mem_cons, not_or] at h
  rw [List.cons_append, dropN, beq_ne (Ne.symm h.1), dropN_split h.2]
  rfl
section
variable {P : Program} {tt : Nat → TI}
def WTree (P : Program) (tt : Nat → TI) (ops : List Oper) (tab : List Nat) : Nat → List Nat → List PV → List Ent → (List PV → List Ent → Prop) → Prop
 | 0, _, T, Γ, K => K T Γ
 | n + 1, rest, T, Γ, K => allQ (keepR tab rest rest) fun i => match ops[i]? with
  | none => False
  | some o => WOp P tt o.op T Γ fun x Γ' => WTree P tt ops tab n (dropN i rest) (putT T o.dst x) Γ' K
theorem gameT (hk : TT.ok P tt) (rd : Option Nat) (nn : Nat) {ops : Array Oper} {tab : List Nat} (hc : tabChk ops tab = true) {w0 : World} {M Γ2 : List Ent} {F0 : Fz} {ds : List Deferred} {Q' : Exit → Act → World → Prop}
  {Tl : List PV → List Ent → Prop} (hTl : ∀ (fuel : Nat) (listed : Array Bool) (T : List PV) (Γ : List Ent) (F : Fz) (a : Act) (w : World), Down ops listed → Pend ops listed [] → F0.le F → Sim w0 F (Γ ++ M) w → RepT F T a.tmps.toList → a.defers = ds →
   Tl T Γ → wpAnyIn (Fen rd) nn P .any ops Q' fuel listed a w) :
  ∀ (n : Nat) (A rest : List Nat) (fuel : Nat) (listed : Array Bool) (T : List PV) (Γ1 : List Ent) (F : Fz) (a : Act) (w : World), A.length + rest.length = n → n ≤ fuel →
   Down ops listed → Pend ops listed (A ++ rest) → (A.Pairwise fun j i => anc tab i j = true ∨ apartAt ops j i = true) → (∀ j ∈ A, ∀ i ∈ rest, anc tab i j = true ∨ apartAt ops j i = true) → (∀ i ∈ rest, ∀ o, ops[i]? = some o → o.guard = none) →
   F0.le F → Sim w0 F (Γ1 ++ (Γ2 ++ M)) w → RepT F T a.tmps.toList → a.defers = ds →
   (SSeq P tt ops.toList (A.filterMap (ops[·]?)) T Γ2 fun T' => WTree P tt ops.toList tab rest.length rest T' Γ1 fun T2 Γ1' => Tl T2 (Γ1' ++ Γ2)) →
   wpAnyIn (Fen rd) nn P .any ops Q' fuel listed a w := by
 intro n
 induction n with
 | zero =>
  intro A rest fuel listed T Γ1 F a w hn hf hd hp hpa hpr hug hle hS hT hds h
  obtain rfl : A = [] := List.eq_nil_of_length_eq_zero (by omega)
  obtain rfl : rest = [] := List.eq_nil_of_length_eq_zero (by omega)
  exact hTl fuel listed T (Γ1 ++ Γ2) F a w hd (by simpa using hp) hle (by simpa using hS) hT hds h
 | succ n ih =>
  intro A rest fuel listed T Γ1 F a w hn hf hd hp hpa hpr hug hle hS hT hds h
  cases fuel with
  | zero => omega
  | succ fuel =>
  refine ⟨fun hnil => ?_, fun i hi => ?_⟩
  ·exfalso
   cases hAR : A ++ rest with
   | nil => rw [List.append_eq_nil_iff] at hAR; rw [hAR.1, hAR.2] at hn; simp at hn
   | cons x xs =>
    rw [hAR] at hp
    obtain ⟨k, hk'⟩ := ready_exists hc hp
    rw [hnil] at hk'
    cases hk'
  ·obtain ⟨o, ho⟩ := hp.2.2 i (hp.ready hi)
   have un : ∀ {j : Nat}, j ∈ A ++ rest → anc tab i j = true → False := fun {j} hj ha => blocked hc hd i ho ha ((hp.2.1 j).2 hj) hi
   have free : ∀ {j : Nat} {x : Oper}, j ∈ A ++ rest → ops[j]? = some x → (anc tab i j = true ∨ apartAt ops j i = true) → x.apart ops o = true := by
    intro j x hj hx h
    rcases h with h | h
    ·exact (un hj h).elim
    ·simpa [apartAt, hx, ho] using h
   have hmem := hp.ready hi
   rw [List.mem_append] at hmem
   rcases hmem with hm | hm
   ·obtain ⟨A1, A2, rfl⟩ := List.append_of_mem hm
    rw [filterMap_split ho] at h
    have hap : ∀ x ∈ A1.filterMap (ops[·]?), x.apart ops o = true := by
     intro x hx
     obtain ⟨j, hj, hx⟩ := List.mem_filterMap.1 hx
     exact free (by simp [hj]) hx ((List.pairwise_append.1 hpa).2.2 j hj i (by simp))
    obtain ⟨v, h1, h2⟩ := SSeq_move _ T hap h
    have hS2 : Sim w0 F (Γ2 ++ (Γ1 ++ M)) w := hS.perm (by
     rw [← List.append_assoc, ← List.append_assoc]
     exact List.perm_append_comm.append_right M)
    have hs : List.Sublist (A1 ++ A2) (A1 ++ i :: A2) := List.Sublist.append (List.Sublist.refl _) (List.sublist_cons_self _ _)
    unfold wpOpIn
    simp only [ho]
    have key := SVal_sound hk (rd := rd) (nn := nn) (Q := Q') (next := fun a w => wpAnyIn (Fen rd) nn P .any ops Q' fuel (listed.setIfInBounds i true) a w) hS2 hT h1 (by
     intro F' u w' hle' hS' hx
     refine ih (A1 ++ A2) rest fuel _ (putT T o.dst v) Γ1 F' _ w' (by simp at hn ⊢; omega) (by omega) (hd.set hi) ?_ (hpa.sublist hs) (fun j hj => hpr j (hs.subset hj)) hug (Fz.le_trans hle hle') ?_ (put_rep (RepT.mono hle' _ _ hT) hx o.dst)
      ((put_defers a o.dst u).trans hds) ?_
     ·have := Pend.set (l1 := A1) (l2 := A2 ++ rest) (i := i) (by simpa using hp)
      rwa [List.append_assoc]
     ·exact hS'.perm (by
       rw [← List.append_assoc, ← List.append_assoc]
       exact List.perm_append_comm.append_right M)
     ·rw [List.filterMap_append]; exact h2)
    split at key <;> rename_i hw
    ·rw [if_pos hw]; exact key
    ·rw [if_neg hw]; exact ⟨fun _ _ => trivial, key⟩
   ·have hg : o.guard = none := hug i hm o ho
    have hok : okR tab rest i = true := by
     unfold okR
     rw [List.all_eq_true]
     intro j hj
     rw [Bool.or_eq_true, Bool.not_eq_true']
     by_cases e : j = i
     ·left; rw [e]; exact Nat.beq_refl i
     ·right
      rw [Bool.eq_false_iff]
      exact fun ha => un (List.mem_append_right _ hj) ha
    obtain ⟨R1, R2, hR⟩ := List.append_of_mem hm
    have hrl : rest.length = (R1 ++ R2).length + 1 := by rw [hR, List.length_append, List.length_append, List.length_cons]; omega
    have hnd : i ∉ R1 := by
     have h1 := hp.1
     rw [hR] at h1
     have h2 := (List.pairwise_append.1 (List.pairwise_append.1 h1).2.1).2.2
     exact fun hi1 => h2 i hi1 i (List.mem_cons_self ..) rfl
    have hdn : dropN i rest = R1 ++ R2 := by rw [hR]; exact dropN_split hnd
    have ho2 : ops.toList[i]? = some o := by rw [Array.getElem?_toList]; exact ho
    rw [hrl] at h
    have h := SSeq_imp (k' := fun T' => WOp P tt o.op T' Γ1 fun x Γ' => WTree P tt ops.toList tab (R1 ++ R2).length (R1 ++ R2) (putT T' o.dst x) Γ' fun T2 Γ1' => Tl T2 (Γ1' ++ Γ2)) (fun T' h => by
     rw [WTree] at h
     have := allQ_mem h i (keepR_mem hm hok)
     rw [ho2, hdn] at this
     exact this) _ _ h
    have hap : ∀ x ∈ A.filterMap (ops[·]?), x.apart ops o = true := by
     intro x hx
     obtain ⟨j, hj, hx⟩ := List.mem_filterMap.1 hx
     exact free (List.mem_append_left _ hj) hx (hpr j hj i hm)
    have h2 := SSeq_eff (kk := fun T' Γ1' => WTree P tt ops.toList tab (R1 ++ R2).length (R1 ++ R2) T' Γ1' fun T2 Γ1' => Tl T2 (Γ1' ++ Γ2)) _ T hap h
    unfold wpOpIn
    simp only [ho]
    rw [if_pos (by simp [Region.wanted, hg])]
    refine WOp_sound hk (M := Γ2 ++ M) hS hT h2 ?_
    rintro F' x Γ' v' w' hle' hS' hx hK
    have hs : ∀ j ∈ R1 ++ R2, j ∈ rest := fun j hj => by
     rw [hR]
     rcases List.mem_append.1 hj with hj | hj
     ·exact List.mem_append_left _ hj
     ·exact List.mem_append_right _ (List.mem_cons_of_mem _ hj)
    refine ih A (R1 ++ R2) fuel _ (putT T o.dst x) Γ' F' _ w' (by omega) (by omega) (hd.set hi) ?_ hpa (fun j hj k hk => hpr j hj k (hs k hk)) (fun k hk => hug k (hs k hk)) (Fz.le_trans hle hle') hS' (put_rep (RepT.mono hle' _ _ hT) hx o.dst)
     ((put_defers a o.dst v').trans hds) hK
    have := Pend.set (l1 := A ++ R1) (l2 := R2) (i := i) (by rw [hR] at hp; simpa using hp)
    simpa using this
def treeB (ops : Array Oper) (tab A rest : List Nat) : Bool :=
 tabChk ops tab && pairB (fun j i => anc tab i j || apartAt ops j i) A && A.all (fun j => rest.all fun i => anc tab i j || apartAt ops j i) && rest.all (fun i => match ops[i]? with | some o => o.guard.isNone | none => false) &&
 pairB (fun j i => !(Nat.beq j i)) (A ++ rest) && (List.range ops.size).all (fun i => (A ++ rest).contains i) && (A ++ rest).all (fun i => Nat.blt i ops.size)
theorem PDraw.tree (hk : TT.ok P tt) (hm : P.follows .mixedOrders = true) {ops : Array Oper} {T : List PV} {Γ Γ2 : List Ent} {K : List PV → List Ent → Prop} (tab A rest : List Nat) (Γ1 : List Ent) [hp : PickL Γ Γ1 Γ2]
  (h : SSeq P tt ops.toList (pickO ops.toList A) T Γ2 fun T' => WTree P tt ops.toList tab rest.length rest T' Γ1 fun T2 Γ1' => appE Γ1' Γ2 fun Γ' => K T2 Γ')
  (hchk : treeB ops tab A rest = true := by kernel_rfl) : PDraw P ops T Γ K := by
 refine ⟨fun rd nn id w0 F M w a Q' hS hT hQ => wpIn_region_any hm ?_⟩
 simp only [treeB, Bool.and_eq_true] at hchk
 obtain ⟨⟨⟨⟨⟨⟨hc, s1⟩, s2⟩, s3⟩, h7⟩, h8⟩, h9⟩ := hchk
 have hlt : ∀ i ∈ A ++ rest, i < ops.size := fun i hi => by
  have := List.all_eq_true.1 h9 i hi
  simpa [Nat.blt, Nat.succ_le_iff] using this
 have hpend : Pend ops (Array.replicate ops.size false) (A ++ rest) := by
  refine ⟨(pairB_iff h7).imp fun h => by
   intro e
   subst e
   simp at h, ?_, fun i hi => ⟨_, Array.getElem?_eq_getElem (hlt i hi)⟩⟩
  intro i
  constructor
  ·intro hi
   rcases Nat.lt_or_ge i ops.size with h' | h'
   ·have := List.all_eq_true.1 h8 i (List.mem_range.2 h')
    simpa only [List.contains_iff_mem] using this
   ·simp [Array.getElem?_eq_none, h'] at hi
  ·intro hi
   simp [hlt i hi]
 have hlen : A.length + rest.length ≤ ops.size := by
  have hsub : (A ++ rest) ⊆ List.range ops.size := fun i hi => List.mem_range.2 (hlt i hi)
  have := hpend.1.length_le_of_subset hsub
  simpa only [List.length_append, List.length_range] using this
 have hS' : Sim w0 F (Γ1 ++ (Γ2 ++ M)) { w with drawn := w.drawn + 1 } := by
  have := (hS.perm (hp.p.append_right M)).of_heap (w' := { w with drawn := w.drawn + 1 }) rfl rfl rfl rfl
  simpa using this
 refine gameT hk rd nn hc (F0 := F) (ds := a.defers) (Tl := K) ?_ _ A rest ops.size _ T Γ1 F a _ rfl hlen ?_ hpend ((pairB_iff s1).imp fun h => by simpa using h) (fun j hj i hi => ?_) (fun i hi o ho => ?_) (Fz.le_refl F) hS' hT rfl ?_
 ·intro fuel listed T2 Γ' F' a' w' hd hpd hle hS2 hT2 hds ht
  refine game hk rd nn hc (R2 := []) (F0 := F) (ds := a.defers) hQ _ [] [] fuel listed T2 [] F' a' w' rfl (Nat.zero_le _) hd (by simpa using hpd) ⟨List.Pairwise.nil, fun _ h => (by cases h), List.Pairwise.nil, List.Pairwise.nil, fun _ h => (by cases h), fun _ h => (by cases h), fun _ h => (by cases h)⟩ hle (Γ2 := Γ') (by simpa using hS2) hT2 hds ?_
  simp only [List.filterMap_nil, WOps, List.nil_append]
  exact ht
 ·intro k o hk'
  rcases Nat.lt_or_ge k ops.size with h' | h'
  ·simp [h'] at hk'
  ·intro ho
   have := (Array.getElem?_eq_some_iff.1 ho).1
   omega
 ·have := List.all_eq_true.1 (List.all_eq_true.1 s2 j hj) i hi
  simpa using this
 ·have := List.all_eq_true.1 s3 i hi
  rw [ho] at this
  simpa using this
 ·simpa only [pickO_eq, Array.getElem?_toList, appE_eq] using h
end
end Go.Cb
namespace Go.Cb
open Go.Proofs
set_option maxRecDepth 100000
set_option maxHeartbeats 4000000
abbrev rsE (b : Nat) (tk : Tok) (s : RsS) : List Ent := [.box b [.ms tk, .int .i64 s.vars, .bool s.lost], .row tk (s.cs.map Datum.pv)]
end Go.Cb
namespace Go.Cb
open Go.Proofs
set_option maxRecDepth 100000
set_option maxHeartbeats 4000000
end Go.Cb

