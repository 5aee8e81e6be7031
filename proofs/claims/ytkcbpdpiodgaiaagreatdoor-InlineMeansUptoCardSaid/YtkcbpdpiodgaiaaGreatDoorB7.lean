/-
 Plain: bodies in the place of calls: a term that is gone through goes together with what it was.
 Plain: bodies in the place of calls mean the same: places, calls, terms.
 Contracts: the document's machine: strict terms.
 Contracts: the document's machine: calls.
 Contracts: the document's machine: primitives called, escapes.
 Contracts: the document's machine: terms one after the other, terms.
 Contracts: the document's machine: bindings.
 Contracts: the document's machine: Rec and Fix.
 Contracts: the document's machine: a program runs, to any end.
 Plain: what the document's machine keeps: its states, and that a run keeps them.
 Contracts: the document's machine: a run is a run of the relation: lists, calls, primitives, strict terms.
 Contracts: the document's machine: a run is a run of the relation: strict terms, bindings, terms; a program's run.
 Structs of numbers, bools and strings against one another.
 Contracts: a program that is right runs; two programs mean the same.
 Plain: bodies in the place of calls mean the same: terms, programs.
 Plain law: names say nothing to the inliner.
 Plain law: the inliner keeps within its bounds.
 Contracts: package slices: Clone, ContainsFunc, Backward, of numbers.
 Contracts: the inliner's parts.
 Contracts: the document's counts, bindings.
-/
import Derived.Laws.StructEq
import Derived.Test.YtkcbpdpiodgaiaaGreatDoorB6
set_option linter.unusedSimpArgs false
set_option linter.unusedVariables false
namespace Go.Cb
open Go.Proofs
set_option maxRecDepth 100000
set_option maxHeartbeats 4000000
def KOk (cs : Int) (κ : Kno) (S : List Int) (s : InS) : Prop := ∀ v ∈ S, ∀ lam, s.known v = some lam → ∃ S0, κ v = some (lam, S0) ∧ isL lam ∧ TOi cs lam S0 ∧ (∀ u ∈ S0, u < s.next) ∧ ∀ u ∈ lam.vars, u < s.next
theorem KOk.up {cs : Int} {κ : Kno} {S : List Int} {s s' : InS} (h : KOk cs κ S s) (hn : s.next ≤ s'.next) (hk : ∀ v ∈ S, s'.known v = s.known v) : KOk cs κ S s' := fun v hv lam he => by
 rw [hk v hv] at he
 obtain ⟨S0, h1, h2, h3, h4, h5⟩ := h v hv lam he
 exact ⟨S0, h1, h2, h3, fun u hu => by have := h4 u hu; omega, fun u hu => by have := h5 u hu; omega⟩
def ThrIn (cs small : Int) (y : Trm) : Prop := ∀ S κ s, TOi cs y S → (∀ v ∈ S, v < s.next) → (∀ v ∈ y.vars, v < s.next ∧ s.known v = none) → KOk cs κ S s →
 In S idN κ y (y.thr small s).1 ∧ s.next ≤ (y.thr small s).2.next ∧ ∀ v, v ∉ y.vars → (y.thr small s).2.known v = s.known v
theorem thrs_len (small : Int) : ∀ (l : List Trm) (s : InS), (Trm.thrs small l s).1.length = l.length
 | [], s => by rw [Trm.thrs]
 | x :: l, s => by rw [Trm.thrs]; dsimp only; rw [List.length_cons, List.length_cons, thrs_len small l]
theorem thrs_in {cs small : Int} : ∀ (l : List Trm), (∀ y ∈ l, ThrIn cs small y) → ∀ S κ s, (∀ y ∈ l, TOi cs y S) → (Trm.varss l).Nodup → (∀ v ∈ S, v < s.next) → (∀ v ∈ Trm.varss l, v < s.next ∧ s.known v = none) → KOk cs κ S s →
  (∀ i (hi : i < l.length) (hi' : i < (Trm.thrs small l s).1.length), In S idN κ l[i] (Trm.thrs small l s).1[i]) ∧ s.next ≤ (Trm.thrs small l s).2.next ∧ ∀ v, v ∉ Trm.varss l → (Trm.thrs small l s).2.known v = s.known v
 | [], _, S, κ, s, _, _, _, _, _ => ⟨fun i hi => absurd hi (Nat.not_lt_zero _), by rw [Trm.thrs]; exact Int.le_refl _, fun v _ => by rw [Trm.thrs]⟩
 | x :: l, hP, S, κ, s, hT, hd, hS, hv, hK => by
  rw [Trm.varss] at hd hv
  have hd' := List.nodup_append.1 hd
  obtain ⟨a1, a2, a3⟩ := hP x (List.mem_cons_self ..) S κ s (hT x (List.mem_cons_self ..)) hS (fun v h => hv v (List.mem_append_left _ h)) hK
  have hxS : ∀ v ∈ S, v ∉ x.vars := fun v h1 h2 => (hT x (List.mem_cons_self ..)).ap v h2 h1
  obtain ⟨b1, b2, b3⟩ := thrs_in l (fun y hy => hP y (List.mem_cons_of_mem _ hy)) S κ (x.thr small s).2 (fun y hy => hT y (List.mem_cons_of_mem _ hy)) hd'.2.1 (fun v h => by have := hS v h; omega)
   (fun v h => by
    have := hv v (List.mem_append_right _ h)
    exact ⟨by omega, by rw [a3 v fun h' => hd'.2.2 v h' v h rfl]; exact this.2⟩) (hK.up a2 fun v h => a3 v (hxS v h))
  have e1 : (Trm.thrs small (x :: l) s).1 = (x.thr small s).1 :: (Trm.thrs small l (x.thr small s).2).1 := by rw [Trm.thrs]
  have e2 : (Trm.thrs small (x :: l) s).2 = (Trm.thrs small l (x.thr small s).2).2 := by rw [Trm.thrs]
  refine ⟨fun i hi hi' => ?_, by rw [e2]; omega, fun v h => ?_⟩
  ·match i, hi, hi' with
   | 0, _, _ => simp only [e1, List.getElem_cons_zero]; exact a1
   | i + 1, hi, hi' => simp only [e1, List.getElem_cons_succ]; exact b1 i (by simpa using hi) _
  ·rw [Trm.varss, List.mem_append, not_or] at h
   rw [e2, b3 v h.2, a3 v h.1]
theorem thrL_snoc (small : Int) (lrn : InS → InS) : ∀ (l : List Trm) (b : Trm) (s : InS), Trm.thrL small lrn (l ++ [b]) s = ((Trm.thrs small l s).1 ++ [(b.thr small (lrn (Trm.thrs small l s).2)).1], (b.thr small (lrn (Trm.thrs small l s).2)).2)
 | [], b, s => by rw [List.nil_append, Trm.thrL, if_pos rfl, Trm.thrs]; rfl
 | x :: l, b, s => by
  rw [List.cons_append, Trm.thrL, if_neg (by simp)]
  dsimp only
  rw [thrL_snoc small lrn l, Trm.thrs]
  rfl
theorem thrL_id (small : Int) : ∀ (l : List Trm) (s : InS), Trm.thrL small (fun s => s) l s = Trm.thrs small l s
 | [], s => by rw [Trm.thrL, Trm.thrs]
 | x :: l, s => by
  rw [Trm.thrL, Trm.thrs]
  by_cases h : l = []
  ·subst h
   rw [if_pos rfl, Trm.thrs]
  ·rw [if_neg h]
   dsimp only
   rw [thrL_id small l]
theorem learnI_nil (op : Int) (t : List Trm) (s : InS) : learnI op [] t s = s := by rw [learnI]; intros; simp_all
theorem learnI_no (op : Int) (ho : ¬op = 9 ∧ ¬op = 8) : ∀ (vs : List Int) (t : List Trm) (s : InS), learnI op vs t s = s
 | [], t, s => learnI_nil op t s
 | v :: vs, [], s => by rw [learnI]; intros; simp_all
 | v :: vs, x :: t, s => by
  rw [learnI, if_neg (by rintro (h | h); exact ho.1 h; exact ho.2 h.1), learnI_no op ho vs t]
theorem learnI_at (op : Int) : ∀ (vs : List Int) (t : List Trm) (s : InS), vs.length ≤ t.length → (learnI op vs t s).next = s.next ∧ (∀ v, v ∉ vs → (learnI op vs t s).known v = s.known v) ∧
  ∀ v q, (learnI op vs t s).known v = some q → s.known v = some q ∨ ∃ i, ∃ hi : i < vs.length, ∃ hi' : i < t.length, vs[i] = v ∧ t[i] = q ∧ (op = 9 ∨ op = 8 ∧ q.op = 4)
 | [], t, s, _ => by
  rw [learnI_nil]
  exact ⟨rfl, fun _ _ => rfl, fun v q h => .inl h⟩
 | v :: vs, [], s, h => by simp at h
 | v :: vs, x :: t, s, h => by
  rw [learnI]
  obtain ⟨h1, h2, h3⟩ := learnI_at op vs t (if op = 9 ∨ op = 8 ∧ x.op = 4 then { s with known := fun k => if k = v then some x else s.known k } else s) (by simpa using h)
  refine ⟨by rw [h1]; split <;> rfl, fun u hu => ?_, fun u q hq => ?_⟩
  ·rw [h2 u fun h => hu (List.mem_cons_of_mem _ h)]
   split
   ·dsimp only
    rw [if_neg fun h => hu (by rw [h]; exact List.mem_cons_self ..)]
   ·rfl
  ·rcases h3 u q hq with h4 | ⟨i, hi, hi', e1, e2, e3⟩
   ·split at h4
    ·rename_i hc
     dsimp only at h4
     split at h4
     ·rename_i hk
      have hxq : x = q := Option.some.inj h4
      refine .inr ⟨0, by simp, by simp, hk.symm, hxq, ?_⟩
      rw [← hxq]
      exact hc
     ·exact .inl h4
    ·exact .inl h4
   ·exact .inr ⟨i + 1, by simpa using hi, by simpa using hi', e1, e2, e3⟩
theorem calledI_at {small : Int} {t : Trm} {s : InS} {lam : Trm} (h : calledI small t s = some lam) : t.op = 5 ∧ (firstT t).op = 1 ∧ s.known (firstT t).n = some lam ∧ lam.op = 4 ∧ lam.n = 0 ∧ lam.v.length + 1 = t.t.length := by
 unfold calledI at h
 split at h
 ·rename_i h1
  split at h
  ·rename_i lam' h2
   split at h
   ·rename_i h3
    obtain rfl := Option.some.inj h
    exact ⟨h1.1, h1.2, h2, h3.1, h3.2.1, h3.2.2.1⟩
   ·cases h
  ·cases h
 ·cases h
theorem thr_in {cs small : Int} (t : Trm) : ThrIn cs small t := by
 induction t using Trm.ind with
 | h t ih =>
  intro S κ s h hS hv hK
  have hnd := h.nd
  rw [t.vars_eq] at hnd
  have hnd' := List.nodup_append.1 hnd
  have hap := h.ap
  rw [t.vars_eq] at hap hv
  obtain ⟨hvn, hvS⟩ := h.vnd
  by_cases he : s.effort = 0
  ·have e0 : t.thr small s = (t, s) := by cases t; rw [Trm.thr, if_pos he]
   rw [e0]
   exact ⟨(In.refl t h).mono κ fun v _ q hq => (by cases hq), Int.le_refl _, fun _ _ => rfl⟩
  obtain ⟨s1, hs1⟩ : ∃ s1 : InS, s1 = { s with effort := s.effort - 1 } := ⟨_, rfl⟩
  have hs1n : s1.next = s.next := by rw [hs1]
  have hs1k : ∀ v, s1.known v = s.known v := fun v => by rw [hs1]
  have hK1 : KOk cs κ S s1 := hK.up (by omega) fun v _ => hs1k v
  have hS1 : ∀ v ∈ S, v < s1.next := fun v hv => by rw [hs1n]; exact hS v hv
  have hvv1 : ∀ v ∈ Trm.varss t.t, v < s1.next ∧ s1.known v = none := fun v hv' => by
   rw [hs1n, hs1k]
   exact hv v (List.mem_append_right _ hv')
  cases hcl : calledI small t s1 with
  | some lam =>
   obtain ⟨c1, c2, c3, c4, c5, c6⟩ := calledI_at hcl
   obtain ⟨f, xs, hfx⟩ : ∃ f xs, t.t = f :: xs := by
    match hl : t.t, h.cnt.2.2.2.1 (.inl c1) with
    | f :: xs, _ => exact ⟨f, xs, rfl⟩
   have hf : firstT t = f := by unfold firstT; rw [hfx]; rfl
   rw [hf] at c2 c3
   have hb5 : ibB t.op := by rw [c1]; exact .inr (.inr (.inr (.inl rfl)))
   have hTf : TOi cs f S := by
    have := h.parts hb5 (i := 0) (by rw [hfx]; simp)
    simpa only [hfx, List.getElem_cons_zero] using this
   have hTx : ∀ y ∈ xs, TOi cs y S := fun y hy => by
    obtain ⟨i, hi, rfl⟩ := List.mem_iff_getElem.1 hy
    have := h.parts hb5 (i := i + 1) (by rw [hfx]; simpa using hi)
    simpa only [hfx, List.getElem_cons_succ] using this
   have hfS := hTf.ref c2
   rw [hs1k] at c3
   obtain ⟨S0, k1, k2, k3, k4, k5⟩ := hK f.n hfS lam c3
   obtain ⟨_, body, hbody⟩ := k2
   have hfl : firstT lam = body := by unfold firstT; rw [hbody]; rfl
   obtain ⟨s2, hs2⟩ : ∃ s2 : InS, s2 = { s with effort := s.effort - 1, budget := s.budget - szI body } := ⟨_, rfl⟩
   have hs2n : s2.next = s.next := by rw [hs2]
   have hs2k : ∀ v, s2.known v = s.known v := fun v => by rw [hs2]
   have hvx : Trm.varss t.t = f.vars ++ Trm.varss xs := by rw [hfx, Trm.varss]
   have hdx : (Trm.varss xs).Nodup := by
    have := hnd'.2.1
    rw [hvx] at this
    exact (List.nodup_append.1 this).2.1
   obtain ⟨a1, a2, a3⟩ := thrs_in xs (fun y hy => ih y (by rw [hfx]; exact List.mem_cons_of_mem _ hy)) S κ s2 hTx hdx (fun v hv => by rw [hs2n]; exact hS v hv) (fun v hv' => by
    rw [hs2n, hs2k]
    exact hv v (List.mem_append_right _ (by rw [hvx]; exact List.mem_append_right _ hv'))) (hK.up (by omega) fun v _ => hs2k v)
   have hlen := thrs_len small xs s2
   obtain ⟨a, ha⟩ : ∃ a, a = Trm.thrs small xs s2 := ⟨_, rfl⟩
   rw [← ha] at a1 a2 a3 hlen
   obtain ⟨r1, r2, r3, r4, r5, r6⟩ := renewN_at lam.v ⟨fun _ => none, a.2.next⟩
   obtain ⟨nb, hnb⟩ : ∃ nb, nb = renewN lam.v ⟨fun _ => none, a.2.next⟩ := ⟨_, rfl⟩
   rw [← hnb] at r1 r2 r3 r4 r5 r6
   dsimp only at r3 r4 r5
   have hTb : TOi cs body (S0 ++ lam.v) := by
    have := k3.sub (i := 0) (by rw [hbody]; simp)
    rw [if_pos (.inl (by rw [hbody]; rfl))] at this
    simpa only [hbody, List.getElem_cons_zero] using this
   obtain ⟨l1, l2, l3⟩ := cpy_in body (S0 ++ lam.v) (uvN idN lam.v nb.1) nb.2 hTb fun v hv' => by
    rcases List.mem_append.1 hv' with hv' | hv'
    ·have hn : v ∉ lam.v := fun h => k3.vnd.2 v h hv'
     rw [uvN_other hn, r5 v hn]
     have := k4 v hv'
     exact ⟨rfl, by show v < nb.2.next; omega⟩
    ·obtain ⟨i, hi, rfl⟩ := List.mem_iff_getElem.1 hv'
     rw [uvN_at k3.vnd.1 r1 i hi (by omega), r6 k3.vnd.1 i hi (by omega)]
     exact ⟨rfl, (r3 _ (List.getElem_mem _)).2⟩
   have e0 : t.thr small s = (.mk 8 0 nb.1 (a.1 ++ [(body.cpy nb.2).1]), { a.2 with next := (body.cpy nb.2).2.next }) := by
    have hcl' := hcl
    cases t with
    | mk op n v ts =>
    rw [Trm.thr, if_neg he]
    have hfx' : ts = f :: xs := hfx
    subst hfx'
    rw [hs1] at hcl'
    rw [hcl']
    dsimp only
    rw [hfl, ← hs2, ← ha, ← hnb]
   rw [e0]
   dsimp only
   refine ⟨In.inl c1 hfx c2 hfS k1 c4 c5 hbody (by rw [hfx, List.length_cons] at c6; omega) hlen (fun i hi => a1 i hi (by omega)) ⟨r1, k3.vnd.1, r2, k3.vnd.2, fun v hv' hm => by have h1 := k4 v hv'; have h2 := (r3 _ hm).1; have h3 : idN v = v := rfl; omega⟩ l1, by omega, fun v hv' => ?_⟩
   rw [t.vars_eq, hvx, List.mem_append, List.mem_append, not_or, not_or] at hv'
   rw [a3 v hv'.2.2, hs2k]
  | none =>
   by_cases h9 : t.op = 9
   ·obtain ⟨l, b, ht, hl, hTb, hTl, hL⟩ := h.split (.inr h9)
    rw [if_pos h9] at hTl
    have htl : t.t.length = l.length + 1 := by rw [ht, List.length_append]; rfl
    obtain ⟨q1, q2, q3⟩ := learnI_at t.op t.v t.t s1 (by omega)
    obtain ⟨s2, hs2⟩ : ∃ s2, s2 = learnI t.op t.v t.t s1 := ⟨_, rfl⟩
    rw [← hs2] at q1 q2 q3
    have e0 : t.thr small s = (.mk t.op t.n t.v (Trm.thrs small t.t s2).1, (Trm.thrs small t.t s2).2) := by
     have hcl' := hcl
     cases t with
     | mk op n v ts =>
     rw [Trm.thr, if_neg he]
     rw [hs1] at hcl'
     rw [hcl']
     have h9' : op = 9 := h9
     dsimp only
     rw [if_pos h9', ← hs1]
     rw [show learnI op v ts s1 = s2 from hs2.symm]
     rfl
    have hTall : ∀ y ∈ t.t, TOi cs y (S ++ t.v) := fun y hy => by
     rw [ht] at hy
     rcases List.mem_append.1 hy with hy | hy
     ·obtain ⟨i, hi, rfl⟩ := List.mem_iff_getElem.1 hy
      exact hTl i hi
     ·rw [List.mem_singleton.1 hy]; exact hTb
    obtain ⟨κ2, hκ2⟩ : ∃ κ2 : Kno, κ2 = fun v => if v ∈ S then κ v else (s2.known v).map fun q => (q, S ++ t.v) := ⟨_, rfl⟩
    have known2 : ∀ i (hi : i < t.v.length) q, s2.known t.v[i] = some q → q = t.t[i]'(by omega) := fun i hi q hq => by
     rcases q3 _ q hq with h4 | ⟨j, hj, hj', e1, e2, _⟩
     ·rw [hs1k, (hv _ (List.mem_append_left _ (List.getElem_mem hi))).2] at h4
      cases h4
     ·have := (List.getElem_inj hvn).1 e1
      subst this
      exact e2.symm
    obtain ⟨a1, a2, a3⟩ := thrs_in t.t ih (S ++ t.v) κ2 s2 hTall hnd'.2.1 (fun v hv' => by
      rw [q1, hs1n]
      rcases List.mem_append.1 hv' with hv' | hv'
      ·exact hS v hv'
      ·exact (hv v (List.mem_append_left _ hv')).1) (fun v hv' => by
      rw [q1, q2 v fun h' => hnd'.2.2 v h' v hv' rfl]
      exact hvv1 v hv') (fun v hv' lam hlam => by
      by_cases hvS' : v ∈ S
      ·rw [q2 v fun h' => hvS v h' hvS'] at hlam
       obtain ⟨S0, k1, k2, k3, k4, k5⟩ := hK1 v hvS' lam hlam
       exact ⟨S0, by rw [hκ2]; dsimp only; rw [if_pos hvS']; exact k1, k2, k3, fun u hu => by rw [q1]; exact k4 u hu, fun u hu => by rw [q1]; exact k5 u hu⟩
      ·have hvv : v ∈ t.v := (List.mem_append.1 hv').resolve_left hvS'
       obtain ⟨i, hi, rfl⟩ := List.mem_iff_getElem.1 hvv
       have hq := known2 i hi lam hlam
       subst hq
       refine ⟨S ++ t.v, by rw [hκ2]; dsimp only; rw [if_neg hvS', hlam]; rfl, h.lams h9 hi (by omega), hTall _ (List.getElem_mem _), fun u hu => ?_, fun u hu => ?_⟩
       ·rw [q1, hs1n]
        rcases List.mem_append.1 hu with hu | hu
        ·exact hS u hu
        ·exact (hv u (List.mem_append_left _ hu)).1
       ·rw [q1, hs1n]
        exact (hv u (List.mem_append_right _ ((varss_sub (List.getElem_mem (by omega : i < t.t.length))).subset hu))).1)
    have hln := thrs_len small t.t s2
    rw [e0]
    dsimp only
    obtain ⟨Cs, hC⟩ : ∃ Cs, Cs = (Trm.thrs small t.t s2).1 := ⟨_, rfl⟩
    rw [← hC] at a1 hln ⊢
    have hsp := snocP (show Cs.length = l.length + 1 by omega)
    have hcl2 : (Cs.take l.length).length = l.length := by rw [List.length_take]; omega
    refine ⟨?_, by omega, fun v hv' => ?_⟩
    ·have := In.fx (S := S) (ρ := idN) (κ := κ) (κ2 := κ2) (t := t) (l := l) (b := b) (n' := t.n) (vs' := t.v) (l' := Cs.take l.length) (b' := Cs[l.length]'(by omega)) h9 ht hl (hL h9) h.bd hcl2 (fun i hi => by
      have := a1 i (by omega) (by omega)
      rw [headG ht hi] at this
      rw [uvN_id fun _ => rfl, List.getElem_take]
      exact this) (fun v hv' q hq => by
      rw [hκ2] at hq
      dsimp only at hq
      by_cases hvS' : v ∈ S
      ·rw [if_pos hvS'] at hq
       exact .inl ⟨hvS', hq⟩
      ·rw [if_neg hvS'] at hq
       have hvv : v ∈ t.v := (List.mem_append.1 hv').resolve_left hvS'
       obtain ⟨i, hi, rfl⟩ := List.mem_iff_getElem.1 hvv
       cases hkn : s2.known t.v[i] with
       | none => rw [hkn] at hq; cases hq
       | some q0 =>
        rw [hkn] at hq
        have := known2 i hi q0 hkn
        rw [headG ht (by omega)] at this
        refine .inr ⟨i, hi, rfl, ?_⟩
        rw [← this]
        exact (Option.some.inj hq).symm) (by
      have := a1 l.length (by omega) (by omega)
      rw [lastG ht] at this
      rw [uvN_id fun _ => rfl]
      exact this)
     rw [← hsp] at this
     rw [h9]
     exact this
    ·rw [t.vars_eq, List.mem_append, not_or] at hv'
     rw [a3 v hv'.2, q2 v hv'.1, hs1k]
   ·have e0 : t.thr small s = (.mk t.op t.n t.v (Trm.thrL small (learnI t.op t.v t.t) t.t s1).1, (Trm.thrL small (learnI t.op t.v t.t) t.t s1).2) := by
     have hcl' := hcl
     cases t with
     | mk op n v ts =>
     rw [Trm.thr, if_neg he]
     rw [hs1] at hcl'
     rw [hcl']
     have h9' : ¬op = 9 := h9
     dsimp only
     rw [if_neg h9', ← hs1]
     rfl
    rw [e0]
    dsimp only
    rcases h.op with ho | ho | ho | ho
    ·have hv0 := h.cnt.2.2.2.2.2 ho
     have hlrn : learnI t.op t.v t.t = fun s => s := funext fun s => by rw [hv0, learnI_nil]
     rw [hlrn, thrL_id]
     obtain ⟨a1, a2, a3⟩ := thrs_in t.t ih S κ s1 (fun y hy => by
      obtain ⟨i, hi, rfl⟩ := List.mem_iff_getElem.1 hy
      exact h.parts ho hi) hnd'.2.1 hS1 hvv1 hK1
     have hln := thrs_len small t.t s1
     refine ⟨?_, by omega, fun v hv' => ?_⟩
     ·have := In.cong (S := S) (ρ := idN) (κ := κ) (t := t) (ts := (Trm.thrs small t.t s1).1) (v' := t.v) ho (fun h1 => h.ref h1) hln fun i hi => a1 i hi (by omega)
      rwa [ite_self] at this
     ·rw [t.vars_eq, List.mem_append, not_or] at hv'
      rw [a3 v hv'.2, hs1k]
    ·obtain ⟨b, hb⟩ := h.cnt.2.1 (.inl ho)
     have hlrn : learnI t.op t.v t.t = fun s => s := funext fun s => learnI_no _ (by omega) _ _ _
     rw [hlrn, thrL_id]
     obtain ⟨κ2, hκ2⟩ : ∃ κ2 : Kno, κ2 = fun v => if v ∈ S then κ v else none := ⟨_, rfl⟩
     have hTall : ∀ y ∈ t.t, TOi cs y (S ++ t.v) := fun y hy => by
      obtain ⟨i, hi, rfl⟩ := List.mem_iff_getElem.1 hy
      have := h.sub hi
      rw [hb] at hi
      have hi0 : i = 0 := by simpa using hi
      subst hi0
      rwa [if_pos (.inl (by rw [hb]; rfl))] at this
     obtain ⟨a1, a2, a3⟩ := thrs_in t.t ih (S ++ t.v) κ2 s1 hTall hnd'.2.1 (fun v hv' => by
      rw [hs1n]
      rcases List.mem_append.1 hv' with hv' | hv'
      ·exact hS v hv'
      ·exact (hv v (List.mem_append_left _ hv')).1) hvv1 (fun v hv' lam hlam => by
      by_cases hvS' : v ∈ S
      ·obtain ⟨S0, k1, k⟩ := hK1 v hvS' lam hlam
       exact ⟨S0, by rw [hκ2]; dsimp only; rw [if_pos hvS']; exact k1, k⟩
      ·rw [hs1k, (hv v (List.mem_append_left _ ((List.mem_append.1 hv').resolve_left hvS'))).2] at hlam
       cases hlam)
     have hln := thrs_len small t.t s1
     refine ⟨?_, by omega, fun v hv' => ?_⟩
     ·obtain ⟨b', hb'⟩ := oneL (show (Trm.thrs small t.t s1).1.length = 1 by rw [hln, hb]; rfl)
      have k0 := a1 0 (by rw [hb]; simp) (by rw [hb']; simp)
      have e1 : t.t[0]'(by rw [hb]; simp) = b := by simp only [hb, List.getElem_cons_zero]
      have e2 : (Trm.thrs small t.t s1).1[0]'(by rw [hb']; simp) = b' := by simp only [hb', List.getElem_cons_zero]
      rw [e1, e2] at k0
      have := In.lam (S := S) (ρ := idN) (κ := κ) (κ2 := κ2) (t := t) (vs' := t.v) (b' := b') ho hb (h.rest ho) h.bd (fun v hv' q hq => by
       rw [hκ2] at hq
       dsimp only at hq
       split at hq
       ·rename_i h1; exact ⟨h1, hq⟩
       ·cases hq) (by rw [uvN_id fun _ => rfl]; exact k0)
      rw [hb', ho]
      exact this
     ·rw [t.vars_eq, List.mem_append, not_or] at hv'
      rw [a3 v hv'.2, hs1k]
    ·obtain ⟨l, b, ht, hl, hTb, hTl, _⟩ := h.split (.inl ho)
     rw [if_neg (by omega)] at hTl
     have htl : t.t.length = l.length + 1 := by rw [ht, List.length_append]; rfl
     have hvl : Trm.varss t.t = Trm.varss l ++ b.vars := by
      have key : ∀ l : List Trm, Trm.varss (l ++ [b]) = Trm.varss l ++ b.vars := by
       intro l
       induction l with
       | nil => simp [Trm.varss]
       | cons x l ih => rw [List.cons_append, Trm.varss, ih, Trm.varss, List.append_assoc]
      rw [ht, key]
     have hd2 := hnd'.2.1
     rw [hvl] at hd2
     have hd2' := List.nodup_append.1 hd2
     obtain ⟨a1, a2, a3⟩ := thrs_in l (fun y hy => ih y (by rw [ht]; exact List.mem_append_left _ hy)) S κ s1 (fun y hy => by
      obtain ⟨i, hi, rfl⟩ := List.mem_iff_getElem.1 hy
      exact hTl i hi) hd2'.1 hS1 (fun v hv' => hvv1 v (by rw [hvl]; exact List.mem_append_left _ hv')) hK1
     have hln := thrs_len small l s1
     obtain ⟨s2, hs2⟩ : ∃ s2, s2 = (Trm.thrs small l s1).2 := ⟨_, rfl⟩
     obtain ⟨q1, q2, q3⟩ := learnI_at t.op t.v t.t s2 (by omega)
     obtain ⟨s3, hs3⟩ : ∃ s3, s3 = learnI t.op t.v t.t s2 := ⟨_, rfl⟩
     rw [← hs2] at a2 a3
     rw [← hs3] at q1 q2 q3
     have hth : Trm.thrL small (learnI t.op t.v t.t) t.t s1 = ((Trm.thrs small l s1).1 ++ [(b.thr small s3).1], (b.thr small s3).2) := by
      rw [ht, thrL_snoc, ← ht, ← hs2, ← hs3]
     rw [hth]
     dsimp only
     have hS2k : ∀ v ∈ S, s2.known v = s.known v := fun v hv' => by rw [a3 v fun h' => hap v (List.mem_append_right _ (by rw [hvl]; exact List.mem_append_left _ h')) hv', hs1k]
     have hV2k : ∀ v ∈ t.v, s2.known v = none := fun v hv' => by rw [a3 v fun h' => hnd'.2.2 v hv' v (by rw [hvl]; exact List.mem_append_left _ h') rfl, hs1k]; exact (hv v (List.mem_append_left _ hv')).2
     obtain ⟨κ2, hκ2⟩ : ∃ κ2 : Kno, κ2 = fun v => if v ∈ S then κ v else (s3.known v).map fun q => (q, S) := ⟨_, rfl⟩
     have known3 : ∀ i (hi : i < t.v.length) q, s3.known t.v[i] = some q → q = t.t[i]'(by omega) ∧ q.op = 4 := fun i hi q hq => by
      rcases q3 _ q hq with h4 | ⟨j, hj, hj', e1, e2, e3⟩
      ·rw [hV2k _ (List.getElem_mem hi)] at h4
       cases h4
      ·have := (List.getElem_inj hvn).1 e1
       subst this
       exact ⟨e2.symm, by omega⟩
     have hTi : ∀ i (hi : i < t.v.length), TOi cs (t.t[i]'(by omega)) S := fun i hi => by
      rw [headG ht (by omega)]
      exact hTl i (by omega)
     obtain ⟨b1, b2, b3⟩ := ih b (by rw [ht]; simp) (S ++ t.v) κ2 s3 hTb (fun v hv' => by
       rw [q1]
       rcases List.mem_append.1 hv' with hv' | hv'
       ·have := hS1 v hv'; omega
       ·have := (hv v (List.mem_append_left _ hv')).1; omega) (fun v hv' => by
       have hvt : v ∈ Trm.varss t.t := by rw [hvl]; exact List.mem_append_right _ hv'
       rw [q1, q2 v fun h' => hnd'.2.2 v h' v hvt rfl, a3 v fun h' => hd2'.2.2 v h' v hv' rfl]
       have := hvv1 v hvt
       exact ⟨by omega, this.2⟩) (fun v hv' lam hlam => by
       by_cases hvS' : v ∈ S
       ·rw [q2 v fun h' => hvS v h' hvS', hS2k v hvS'] at hlam
        obtain ⟨S0, k1, k2, k3, k4, k5⟩ := hK v hvS' lam hlam
        exact ⟨S0, by rw [hκ2]; dsimp only; rw [if_pos hvS']; exact k1, k2, k3, fun u hu => by have := k4 u hu; omega, fun u hu => by have := k5 u hu; omega⟩
       ·have hvv : v ∈ t.v := (List.mem_append.1 hv').resolve_left hvS'
        obtain ⟨i, hi, rfl⟩ := List.mem_iff_getElem.1 hvv
        obtain ⟨hq, hq4⟩ := known3 i hi lam hlam
        subst hq
        have hTi' := hTi i hi
        refine ⟨S, by rw [hκ2]; dsimp only; rw [if_neg hvS', hlam]; rfl, ⟨hq4, hTi'.cnt.2.1 (.inl hq4)⟩, hTi', fun u hu => ?_, fun u hu => ?_⟩
        ·have := hS1 u hu; omega
        ·have := (hv u (List.mem_append_right _ ((varss_sub (List.getElem_mem (by omega : i < t.t.length))).subset hu))).1
         omega)
     refine ⟨?_, by omega, fun v hv' => ?_⟩
     ·have := In.lt (S := S) (ρ := idN) (κ := κ) (κ2 := κ2) (t := t) (l := l) (b := b) (n' := t.n) (vs' := t.v) (l' := (Trm.thrs small l s1).1) (b' := (b.thr small s3).1) ho ht hl h.bd hln (fun i hi => a1 i hi (by omega)) (fun v hv' q hq => by
       rw [hκ2] at hq
       dsimp only at hq
       by_cases hvS' : v ∈ S
       ·rw [if_pos hvS'] at hq
        exact .inl ⟨hvS', hq⟩
       ·rw [if_neg hvS'] at hq
        have hvv : v ∈ t.v := (List.mem_append.1 hv').resolve_left hvS'
        obtain ⟨i, hi, rfl⟩ := List.mem_iff_getElem.1 hvv
        cases hkn : s3.known t.v[i] with
        | none => rw [hkn] at hq; cases hq
        | some q0 =>
         rw [hkn] at hq
         obtain ⟨e1, e2⟩ := known3 i hi q0 hkn
         have hTi' := hTi i hi
         rw [← e1] at hTi'
         rw [headG ht (by omega)] at e1
         refine .inr ⟨i, hi, rfl, ?_, ?_⟩
         ·rw [← e1]
          exact (Option.some.inj hq).symm
         ·rw [← e1]
          exact ⟨e2, hTi'.cnt.2.1 (.inl e2)⟩) (by
       rw [uvN_id fun _ => rfl]
       exact b1)
      rw [ho]
      exact this
     ·rw [t.vars_eq, hvl, List.mem_append, List.mem_append, not_or, not_or] at hv'
      rw [b3 v hv'.2.2, q2 v hv'.1, a3 v hv'.2.1, hs1k]
    ·exact absurd ho h9
end Go.Cb
namespace Go.Cb
open Go.Proofs
set_option maxRecDepth 100000
set_option maxHeartbeats 4000000
def ERi (w : Wd) (S : List Int) (ρ : Int → Int) (κ : Kno) (e e' : EnvM) : Prop :=
 ∀ v ∈ S, ∃ a b, fndM e v = some a ∧ fndM e' (ρ v) = some b ∧ w.e a b ∧ ∀ lam S0, κ v = some (lam, S0) → ∃ e0, w.g a (cloV e0 lam) ∧ ∀ u ∈ S0, u ∈ S ∧ fndM e0 u = fndM e u
theorem ERi.up {w w' : Wd} {S : List Int} {ρ : Int → Int} {κ : Kno} {e e' : EnvM} (hw : w.le w') (h : ERi w S ρ κ e e') : ERi w' S ρ κ e e' := fun v hv => by
 obtain ⟨a, b, h1, h2, h3, h4⟩ := h v hv
 exact ⟨a, b, h1, h2, hw.2.2.2 _ _ h3, fun lam S0 hk => by obtain ⟨e0, k1, k2⟩ := h4 lam S0 hk; exact ⟨e0, hw.2.2.1 _ _ k1, k2⟩⟩
theorem ERi.less {w : Wd} {S : List Int} {ρ : Int → Int} {κ κ2 : Kno} {e e' : EnvM} (hk : ∀ v ∈ S, ∀ q, κ2 v = some q → κ v = some q) (h : ERi w S ρ κ e e') : ERi w S ρ κ2 e e' := fun v hv => by
 obtain ⟨a, b, h1, h2, h3, h4⟩ := h v hv
 exact ⟨a, b, h1, h2, h3, fun lam S0 h => h4 lam S0 (hk v hv _ h)⟩
def ACi : CR := fun w f g => ∃ S ρ κ, g.rest = f.rest ∧ (f.rest = true → 0 < f.v.length) ∧ Bd S ρ f.v g.v ∧ (∀ v ∈ S ++ f.v, ∀ q, κ v = some q → v ∈ S) ∧ In (S ++ f.v) (uvN ρ f.v g.v) κ f.body g.body ∧ ERi w S ρ κ f.env g.env
theorem ACi.mono : ACi.mono := fun w w' hw f g => by
 rintro ⟨S, ρ, κ, h1, h2, h3, h4, h5, h6⟩
 exact ⟨S, ρ, κ, h1, h2, h3, h4, h5, h6.up hw⟩
theorem cloI {w : Wd} {S : List Int} {ρ : Int → Int} {κ : Kno} {t t' : Trm} {e e' : EnvM} (h : In S ρ κ t t') (ho : t.op = 4) (hE : ERi w S ρ κ e e') : isL t' ∧ VW ACi w (cloV e t) (cloV e' t') := by
 cases h with
 | cong ho' => exfalso; unfold ibB at ho'; omega
 | lt ho' => exfalso; omega
 | fx ho' => exfalso; omega
 | inl ho' => exfalso; omega
 | @lam _ _ _ κ2 _ b vs' b' _ ht hr hb hk h2 =>
  refine ⟨⟨rfl, b', rfl⟩, ?_⟩
  unfold cloV
  refine (VR_eq _ _).2 ⟨⟨rfl, rfl, rfl, rfl⟩, VRs_nil.2 rfl, fun _ => ⟨_, _, rfl, rfl, ?_⟩, fun h => absurd (show (8 : Int) = 11 from h) (by decide)⟩
  refine ⟨S, ρ, κ2, rfl, fun h => hr (by simpa using h), hb, fun v hv q hq => (hk v hv q hq).1, ?_, hE.less fun v hv q hq => (hk v (List.mem_append_left _ hv) q hq).2⟩
  rw [ht]
  exact h2
def EVi (w : Wd) (t : Trm) (e : EnvM) (t' : Trm) (e' : EnvM) : Prop := ∃ S ρ κ, In S ρ κ t t' ∧ ERi w S ρ κ e e'
def HSi (K : List Vl) (n : Int) : Prop := ∀ w t e t' e', EVi w t e t' e' → Sm ACi K n w (.ev t e) (.ev t' e')
theorem SmL.of {C : CR} {K : List Vl} {n : Int} {w : Wd} {e e' : EnvM} : ∀ {l l' : List Trm} (hl : l'.length = l.length), (∀ i (hi : i < l.length), Sm C K n w (.ev l[i] e) (.ev (l'[i]'(by omega)) e')) → SmL C K n w e e' l l'
 | [], l', hl, _ => List.eq_nil_of_length_eq_zero hl
 | x :: l, [], hl, _ => by simp at hl
 | x :: l, y :: l', hl, h => ⟨y, l', rfl, h 0 (by simp), SmL.of (by simpa using hl) fun i hi => h (i + 1) (by simpa using hi)⟩
theorem linkI {w0 w : Wd} {h0 g0 : Hp} {s0 t0 s t : MSt} (hV : Va ACi w s0 t0) (hF : Fr w0 w h0 g0 s0.h t0.h) (ps : Sam s0 s) (pt : Sam t0 t) (h1 : HLe s0.h s.h) (h2 : HLe t0.h t.h) {e e' : EnvM} {S vs vs' : List Int} {ρ : Int → Int} {κ κ2 : Kno} (hE : ERi w S ρ κ e e') (hB : Bd S ρ vs vs')
  (az bz : List Nat) (haz : az.length = vs.length) (hbz : bz.length = vs'.length) (xs ys : List Vl) (hxs : xs.length = vs.length) (hys : ys.length = vs.length)
  (hs : ∀ i (hi : i < vs.length), hget s.h (az[i]'(by omega)) = some (xs[i]'(by omega), false) ∧ hget s0.h (az[i]'(by omega)) = none)
  (ht : ∀ i (hi : i < vs.length), hget t.h (bz[i]'(by have := hB.len; omega)) = some (ys[i]'(by omega), false) ∧ hget t0.h (bz[i]'(by have := hB.len; omega)) = none)
  (hk : ∀ v ∈ S ++ vs, ∀ q, κ2 v = some q → (v ∈ S ∧ κ v = some q) ∨ ∃ i, ∃ hi : i < vs.length, vs[i] = v ∧ ∃ e0, xs[i]'(by omega) = cloV e0 q.1 ∧ ∀ u ∈ q.2, u ∈ S ++ vs ∧ fndM e0 u = fndM (extM e vs az) u)
  (hc : ∀ w', w.le w' → ERi w' (S ++ vs) (uvN ρ vs vs') κ2 (extM e vs az) (extM e' vs' bz) → ∀ i (hi : i < vs.length), VW ACi w' (xs[i]'(by omega)) (ys[i]'(by omega))) :
  ∃ w', w.le w' ∧ Va ACi w' s t ∧ Fr w0 w' h0 g0 s.h t.h ∧ ERi w' (S ++ vs) (uvN ρ vs vs') κ2 (extM e vs az) (extM e' vs' bz) := by
 have hlen := hB.len
 have hV' := hV.sam ps pt h1 h2
 obtain ⟨r, hr⟩ : ∃ r : Nat → Vl → Prop, r = fun a x => ∃ i, ∃ hi : i < vs.length, a = az[i]'(by omega) ∧ x = xs[i]'(by omega) := ⟨_, rfl⟩
 obtain ⟨u, hu⟩ : ∃ u : Nat → Nat → Prop, u = fun a b => ∃ i, ∃ hi : i < vs.length, a = az[i]'(by omega) ∧ b = bz[i]'(by omega) := ⟨_, rfl⟩
 have hle := w.le_plus (fun _ _ => False) (fun _ _ => False) r u
 have hER : ERi (w.plus (fun _ _ => False) (fun _ _ => False) r u) (S ++ vs) (uvN ρ vs vs') κ2 (extM e vs az) (extM e' vs' bz) := fun v hv => by
  rcases List.mem_append.1 hv with hv' | hv'
  ·have hnv : v ∉ vs := fun h => hB.ap v h hv'
   obtain ⟨a, b, k1, k2, k3, k4⟩ := hE.up hle v hv'
   rw [uvN_other hnv, ext_other hnv, ext_other (hB.ap' v hv')]
   refine ⟨a, b, k1, k2, k3, fun lam S0 hq => ?_⟩
   rcases hk v hv _ hq with ⟨_, h4⟩ | ⟨i, hi, e1, _⟩
   ·obtain ⟨e0, m1, m2⟩ := k4 lam S0 h4
    refine ⟨e0, m1, fun z hz => ?_⟩
    obtain ⟨m3, m4⟩ := m2 z hz
    exact ⟨List.mem_append_left _ m3, by rw [m4, ext_other fun h => hB.ap z h m3]⟩
   ·exact absurd (e1 ▸ List.getElem_mem hi) hnv
  ·obtain ⟨i, hi, rfl⟩ := List.mem_iff_getElem.1 hv'
   refine ⟨az[i]'(by omega), bz[i]'(by omega), ext_get hB.nd haz i hi (by omega), ?_, .inr (by rw [hu]; exact ⟨i, hi, rfl, rfl⟩), fun lam S0 hq => ?_⟩
   ·rw [uvN_at hB.nd hlen i hi (by omega)]
    exact ext_get hB.nd' hbz i (by omega) (by omega)
   ·rcases hk _ hv _ hq with ⟨h4, _⟩ | ⟨j, hj, e1, e0, e2, e3⟩
    ·exact absurd h4 (hB.ap _ hv')
    ·have := (List.getElem_inj hB.nd).1 e1
     subst this
     refine ⟨e0, .inr ?_, e3⟩
     rw [hr]
     exact ⟨j, hj, rfl, e2.symm⟩
 refine ⟨_, hle, hV'.link ACi.mono (fun _ _ h => h.elim) (fun _ _ _ _ h => h.elim) (fun _ _ h => h.elim) (fun _ _ h => h.elim) (fun _ _ h => h.elim) ?_ ?_, ⟨fun a x r e hn => h1 _ _ _ (hF.hs a x r e hn), fun b x r e hn => h2 _ _ _ (hF.ht b x r e hn), fun a b hm => hm.elim (hF.ns a b) fun h => h.elim, fun b y hm => hm.elim (hF.nf b y) fun h => h.elim, ?_, ?_, fun a e => hF.ds a (h1.dom e), fun b e => hF.dt b (h2.dom e)⟩, hER⟩
 ·intro a x hax
  rw [hr] at hax
  obtain ⟨i, hi, rfl, rfl⟩ := hax
  exact ⟨(hs i hi).1, (hV.noS (hs i hi).2).1⟩
 ·intro a b hab
  rw [hu] at hab
  obtain ⟨i, hi, rfl, rfl⟩ := hab
  exact ⟨⟨_, _, (hs i hi).1, (ht i hi).1, hc _ hle hER i hi⟩, (hV.noS (hs i hi).2).1, (hV.noT (ht i hi).2).1⟩
 ·intro a x hm
  rcases hm with hm | hm
  ·exact hF.ng a x hm
  ·rw [hr] at hm
   obtain ⟨i, hi, rfl, rfl⟩ := hm
   exact .inr (hF.ds _ (hs i hi).2)
 ·intro a b hm
  rcases hm with hm | hm
  ·exact hF.ne a b hm
  ·rw [hu] at hm
   obtain ⟨i, hi, rfl, rfl⟩ := hm
   exact .inr ⟨hF.ds _ (hs i hi).2, hF.dt _ (ht i hi).2⟩
theorem bdyIn {K : List Vl} {n : Int} (HS : HSi K n) {w0 w : Wd} {h0 g0 : Hp} {s0 t0 : MSt} (hV : Va ACi w s0 t0) (hw : w0.le w) (hF : Fr w0 w h0 g0 s0.h t0.h) (hn : s0.fuel ≤ n) {e e' : EnvM} {S vs vs' : List Int} {ρ : Int → Int} {κ κ2 : Kno} (hE : ERi w S ρ κ e e') (hB : Bd S ρ vs vs') {b b' : Trm} (hI : In (S ++ vs) (uvN ρ vs vs') κ2 b b')
  {az bz : List Nat} (haz : az.length = vs.length) (hbz : bz.length = vs'.length) {xs ys : List Vl} (hxs : xs.length = vs.length) (hxy : VWs ACi w xs ys)
  (hk : ∀ v ∈ S ++ vs, ∀ q, κ2 v = some q → (v ∈ S ∧ κ v = some q) ∨ ∃ i, ∃ hi : i < vs.length, vs[i] = v ∧ ∃ e0, xs[i]'(by omega) = cloV e0 q.1 ∧ ∀ u ∈ q.2, u ∈ S ++ vs ∧ fndM e0 u = fndM (extM e vs az) u)
  {v : List Vl} {c : Int} {s' : MSt} (h1 : Ev K (.ev b (extM e vs az)) (addM s0 (hpM s0.h xs az)) v c s') {v' : List Vl} {c' : Int} {t' : MSt} (h2 : Ev K (.ev b' (extM e' vs' bz)) (addM t0 (hpM t0.h ys bz)) v' c' t') (n1 : c ≠ 8) (n2 : c' ≠ 8) : Rs ACi w0 h0 g0 v c s' v' c' t' := by
 have hlen := hB.len
 have hys : ys.length = vs.length := by rw [VRs_len hxy, hxs]
 obtain ⟨_, _, hd1, _⟩ := h1.ev_inv n1
 obtain ⟨_, _, hd2, _⟩ := h2.ev_inv n2
 obtain ⟨p1, p2, p3, p4⟩ := hpM_new (xs := xs) (az := az) (by omega) hd1
 obtain ⟨q1, q2, q3, q4⟩ := hpM_new (xs := ys) (az := bz) (by omega) hd2
 obtain ⟨w', l1, l2, l3, l4⟩ := linkI (s := addM s0 (hpM s0.h xs az)) (t := addM t0 (hpM t0.h ys bz)) hV hF ⟨rfl, rfl, rfl, rfl⟩ ⟨rfl, rfl, rfl, rfl⟩ p1 q1 hE hB az bz haz hbz xs ys hxs hys
  (fun i hi => ⟨p4 i (by omega) (by omega), p3 _ (List.getElem_mem _)⟩) (fun i hi => ⟨q4 i (by omega) (by omega), q3 _ (List.getElem_mem _)⟩) hk
  (fun w' hw' _ i hi => VW.up ACi.mono hw' (VRs_get hxy i (by omega) (by omega)))
 exact Rs.back (Wd.trans hw l1) l3 (HS w' b _ b' _ ⟨_, _, κ2, hI, l4⟩ w' w'.refl _ _ l2 hn _ _ _ h1 _ _ _ h2 n1 n2)
theorem callI {K : List Vl} {n : Int} (HS : HSi K n) : ∀ w f g, ACi w f g → CallSm ACi K n w f g := by
 rintro w f g ⟨S, ρ, κ, h1, h2, h3, h4, h5, h6⟩
 refine ⟨h1, h3.len, h2, fun w1 hw s t hV hn xs ys hxy hlen az bz ha hb v c s' e1 v' c' t' e2 n1 n2 => ?_⟩
 exact bdyIn HS hV w1.refl (Fr.refl _ _ _) hn (h6.up hw) h3 h5 ha hb hlen hxy (fun v hv q hq => .inl ⟨h4 v hv q hq, hq⟩) e1 e2 n1 n2
end Go.Cb
namespace Go.Cb
open Go.Proofs
set_option maxRecDepth 100000
set_option maxHeartbeats 4000000
theorem hpE_box {h : Hp} {a : Nat} {x : Vl} {r : Bool} (hg : hget h a = some (x, r)) : ∃ put, PickBox (hpE h) a (celC x r) put ∧ ∀ y, put (celC y r) = hpE (hput h a y) := by
 obtain ⟨h1, h2, e1, e2⟩ := hget_split hg
 refine ⟨fun cs' => hpE h1 ++ .box a cs' :: hpE h2, ⟨hpE h1, hpE h2, by rw [e1, hpE, List.map_append]; rfl, fun _ => rfl⟩, fun y => ?_⟩
 rw [e2]
 simp only [hpE, List.map_append, List.map_cons]
theorem hpE_cons (a : Nat) (x : Vl) (r : Bool) (h : Hp) : hpE ((a, x, r) :: h) = .box a (celC x r) :: hpE h := rfl
theorem noE {p q : Prop} {r : Bool} (hu : r = true ∨ p) (hk : q) (hc : r = false ∧ ¬p ∨ ¬q) : False := by
 rcases hc with ⟨h3, h4⟩ | h3
 ·rcases hu with h1 | h1
  ·rw [h1] at h3
   cases h3
  ·exact h4 h1
 ·exact h3 hk
theorem PRet.ghM {x : PV} {Γ Γ' : List Ent} {Q : PV → List Ent → Prop} (hg : Ghost Γ Γ') (h : PRet x Γ' Q) : PRet x Γ Q := by
 obtain ⟨y, Γ2, h1, h2⟩ := h
 exact ⟨y, Γ2, Shift.trans (fun w0 F M w v hS hx => by
  obtain ⟨F', g1, g2⟩ := hg w0 F M w hS
  exact ⟨F', g1, g2, Rep.mono g1 x v hx⟩) h1, h2⟩
section
variable (b : Nat) (K : List Vl) (tk : Tok) (s : MSt) (t : Trm) (e : EnvM)
theorem drMr07aa {p q : Prop} (k : q) (h : q → p := by intro hq; first | exact PDraw.sP (some 109) rfl [] [9] tt_ok mixed hq | exact PDraw.sP (some 139) rfl [] [] tt_ok mixed hq) : p := h k
theorem str6_c (ho : t.op = 6) (l : List Vl) (hl : 0 < l.length) (hm : l.length ≤ 1000000000) :
  ACall Tryz.prog 115 [.ptr b 0, .agg t.cells, .sl 7 (l.map Vl.pv) none, envPV e] (mcE b K tk s) (fun y Γ' => y = .tup [.agg (valC (l[l.length - 1]'(by omega))), .int .i64 0] ∧ Γ' = mcE b K tk s) := by
 refine ACall.of_body tt_ok Tryz.func115 rfl rfl (n := 173) rfl rfl ?_
 conv => whnf
 repeat' (first|refine aA2 ?_|((first|refine normN nC ?_|refine normN nD ?_|intro _);conv=>whnf)|(refine zX (fun hc=>?_) (fun hc=>?_)<;>(try simp only [SY] at hc)<;>first|omega|(conv=>whnf)))
 exact PRet.gen (y := .tup [.agg (valC (l[l.length - 1]'(by omega))), .int .i64 0]) (Γ' := mcE b K tk s) (Wk.refl _) ⟨rfl, rfl⟩
theorem str12_c (ho : t.op = 12) (l : List Vl) (hl : l.length = 1) (hx : ¬l[0].k = 12) :
  ACall Tryz.prog 115 [.ptr b 0, .agg t.cells, .sl 7 (l.map Vl.pv) none, envPV e] (mcE b K tk s) (fun y Γ' => y = .tup [.agg (valC (l[0]'(by omega))), .int .i64 0] ∧ Γ' = mcE b K tk s) := by
 refine ACall.of_body tt_ok Tryz.func115 rfl rfl (n := 173) rfl rfl ?_
 conv => whnf
 repeat' (first|refine aA2 ?_|((first|refine normN nC ?_|refine normN nD ?_|intro _);conv=>whnf)|(refine zX (fun hc=>?_) (fun hc=>?_)<;>(try simp only [SY] at hc)<;>first|omega|(conv=>whnf)))
 exact PRet.gen (y := .tup [.agg (valC (l[0]'(by omega))), .int .i64 0]) (Γ' := mcE b K tk s) (Wk.refl _) ⟨rfl, rfl⟩
theorem str12E_c (ho : t.op = 12) (l : List Vl) (hl : l.length = 1) (hx : l[0].k = 12) :
  ACall Tryz.prog 115 [.ptr b 0, .agg t.cells, .sl 7 (l.map Vl.pv) none, envPV e] (mcE b K tk s) (fun y Γ' => y = .tup [.agg (valC zerV), .int .i64 5] ∧ Γ' = mcE b K tk s) := by
 refine ACall.of_body tt_ok Tryz.func115 rfl rfl (n := 173) rfl rfl ?_
 conv => whnf
 repeat' (first|refine aA2 ?_|((intro _);conv=>whnf)|(refine zX (fun hc=>?_) (fun hc=>?_)<;>(try simp only [SY] at hc)<;>first|omega|(conv=>whnf)))
 exact PRet.gen (y := .tup [.agg (valC zerV), .int .i64 5]) (Γ' := mcE b K tk s) WkR.res ⟨rfl, rfl⟩
theorem strS_c (ho : t.op = 2 ∨ t.op = 14) (l : List Vl) (hl : l.length = 1) (y : Vl) (a : Nat) (r : Bool) (hf : fndM e t.n = some a) (hg : hget s.h a = some (y, r)) (hu : ¬((r = true ∨ t.op = 14) ∧ y.k = 12)) :
  ACall Tryz.prog 115 [.ptr b 0, .agg t.cells, .sl 7 (l.map Vl.pv) none, envPV e] (mcE b K tk s) (fun y Γ' => y = .tup [.agg (valC (kndV 5)), .int .i64 0] ∧ Γ' = mcE b K tk (addM s (hput s.h a (l[0]'(by omega))))) := by
 have hp := place_c e t.n a hf
 obtain ⟨put, hpb, hpu⟩ := hpE_box hg
 refine ACall.of_body tt_ok Tryz.func115 rfl rfl (n := 173) rfl rfl ?_
 conv => whnf
 repeat' (first|refine aA2 ?_|((first|refine normN nC ?_|refine normN nD ?_|refine pC (hp) wR ?_|intro _);conv=>whnf)|(refine zX (fun hc=>?_) (fun hc=>?_)<;>(try simp only [SY] at hc)<;>first|omega|(conv=>whnf)))
 all_goals first
  | exact absurd hc hu
  | (rw [hpu l[0]]; exact PRet.gen (y := .tup [.agg (valC (kndV 5)), .int .i64 0]) (Γ' := mcE b K tk (addM s (hput s.h a (l[0]'(by omega))))) WkR.res ⟨rfl, rfl⟩)
theorem strSE_c (ho : t.op = 2 ∨ t.op = 14) (l : List Vl) (hl : l.length = 1) (y : Vl) (a : Nat) (r : Bool) (hf : fndM e t.n = some a) (hg : hget s.h a = some (y, r)) (hu : r = true ∨ t.op = 14) (hk : y.k = 12) :
  ACall Tryz.prog 115 [.ptr b 0, .agg t.cells, .sl 7 (l.map Vl.pv) none, envPV e] (mcE b K tk s) (fun y Γ' => y = .tup [.agg (valC zerV), .int .i64 5] ∧ Γ' = mcE b K tk s) := by
 have hp := place_c e t.n a hf
 obtain ⟨put, hpb, hpu⟩ := hpE_box hg
 refine ACall.of_body tt_ok Tryz.func115 rfl rfl (n := 173) rfl rfl ?_
 conv => whnf
 repeat' (first|refine aA2 ?_|((first|refine normN nC ?_|refine normN nD ?_|refine pC (hp) wR ?_|intro _);conv=>whnf)|(refine zX (fun hc=>?_) (fun hc=>?_)<;>(try simp only [SY] at hc)<;>first|omega|(conv=>whnf)))
 all_goals first
  | exact (noE hu hk hc).elim
  | exact PRet.gen (y := .tup [.agg (valC zerV), .int .i64 5]) (Γ' := mcE b K tk s) WkR.res ⟨rfl, rfl⟩
theorem strB_c (ho : 16 ≤ t.op ∧ t.op ≤ 18) (l : List Vl) (hl : 0 < l.length) (hk : ¬l[0].k = 11) :
  ACall Tryz.prog 115 [.ptr b 0, .agg t.cells, .sl 7 (l.map Vl.pv) none, envPV e] (mcE b K tk s) (fun y Γ' => y = .tup [.agg (valC zerV), .int .i64 1] ∧ Γ' = mcE b K tk s) := by
 refine ACall.of_body tt_ok Tryz.func115 rfl rfl (n := 173) rfl rfl ?_
 conv => whnf
 repeat' (first|refine aA2 ?_|((intro _);conv=>whnf)|(refine zX (fun hc=>?_) (fun hc=>?_)<;>(try simp only [SY] at hc)<;>first|omega|(conv=>whnf)))
 all_goals exact PRet.gen (y := .tup [.agg (valC zerV), .int .i64 1]) (Γ' := mcE b K tk s) WkR.res ⟨rfl, rfl⟩
theorem strG_c (ho : t.op = 16) (l : List Vl) (hl : l.length = 1) (hk : l[0].k = 11) (y : Vl) (a : Nat) (r : Bool) (hf : l[0].c = some a) (hg : hget s.h a = some (y, r)) :
  ACall Tryz.prog 115 [.ptr b 0, .agg t.cells, .sl 7 (l.map Vl.pv) none, envPV e] (mcE b K tk s) (fun z Γ' => z = .tup [.agg (valC y), .int .i64 0] ∧ Γ' = mcE b K tk s) := by
 obtain ⟨put, hpb, hpu⟩ := hpE_box hg
 refine ACall.of_body tt_ok Tryz.func115 rfl rfl (n := 173) rfl rfl ?_
 conv => whnf
 repeat' (first|refine aA2 ?_|((intro _);conv=>whnf)|(refine zX (fun hc=>?_) (fun hc=>?_)<;>(try simp only [SY] at hc)<;>first|omega|(conv=>whnf)))
 rw [hf]
 conv => whnf
 repeat' (first|refine aA2 ?_|((first|refine normN nC ?_|refine normN nD ?_);conv=>whnf)|(refine zX (fun hc=>?_) (fun hc=>?_)<;>(try simp only [SY] at hc)<;>omega))
 all_goals exact PRet.gen (y := .tup [.agg (valC y), .int .i64 0]) (Γ' := mcE b K tk s) WkR.res ⟨rfl, rfl⟩
theorem strP_c (ho : t.op = 17 ∨ t.op = 18) (l : List Vl) (hl : l.length = 2) (hk : l[0].k = 11) (y : Vl) (a : Nat) (r : Bool) (hf : l[0].c = some a) (hg : hget s.h a = some (y, r)) (hu : ¬(t.op = 18 ∧ y.k = 12)) :
  ACall Tryz.prog 115 [.ptr b 0, .agg t.cells, .sl 7 (l.map Vl.pv) none, envPV e] (mcE b K tk s) (fun y Γ' => y = .tup [.agg (valC (kndV 5)), .int .i64 0] ∧ Γ' = mcE b K tk (addM s (hput s.h a (l[1]'(by omega))))) := by
 obtain ⟨put, hpb, hpu⟩ := hpE_box hg
 refine ACall.of_body tt_ok Tryz.func115 rfl rfl (n := 173) rfl rfl ?_
 conv => whnf
 repeat' (first|refine aA2 ?_|((intro _);conv=>whnf)|(refine zX (fun hc=>?_) (fun hc=>?_)<;>(try simp only [SY] at hc)<;>first|omega|(conv=>whnf)))
 all_goals
  rw [hf]
  conv => whnf
  repeat' (first|refine aA2 ?_|((refine drMr07aa ?_);conv=>whnf)|(refine zX (fun hc=>?_) (fun hc=>?_)<;>(try simp only [SY] at hc)<;>first|omega|(conv=>whnf)))
 all_goals try
  rw [hf]
  conv => whnf
  repeat' (first|refine aA2 ?_|((first|refine normN nC ?_|refine normN nD ?_);conv=>whnf)|(refine zX (fun hc=>?_) (fun hc=>?_)<;>(try simp only [SY] at hc)<;>omega))
 all_goals first
  | exact absurd hc hu
  | (rw [hpu l[1]]; exact PRet.gen (y := .tup [.agg (valC (kndV 5)), .int .i64 0]) (Γ' := mcE b K tk (addM s (hput s.h a (l[1]'(by omega))))) WkR.res ⟨rfl, rfl⟩)
theorem strX_c (ho : t.op = 15) (l : List Vl) (hl : l.length = 1) :
  ACall Tryz.prog 115 [.ptr b 0, .agg t.cells, .sl 7 (l.map Vl.pv) none, envPV e] (mcE b K tk s) (fun y Γ' => ∃ a, y = .tup [.agg (valC (.mk 11 0 0 [] [] none (some a))), .int .i64 0] ∧ Γ' = mcE b K tk (addM s ((a, l[0]'(by omega), false) :: s.h))) := by
 refine ACall.of_body tt_ok Tryz.func115 rfl rfl (n := 173) rfl rfl ?_
 conv => whnf
 repeat' (first|refine aA2 ?_|((intro _);conv=>whnf)|(refine zX (fun hc=>?_) (fun hc=>?_)<;>(try simp only [SY] at hc)<;>first|omega|(conv=>whnf)))
 all_goals
  rename_i b1
  refine PRet.ghM (Ghost.box (b := b1) (cs := [.int .i64 l[0].k, .int .i64 l[0].n, .int .i64 l[0].d, .str l[0].s, .sl 7 (l[0].l.map Vl.pv) none, cloPV l[0].p, cellPV l[0].c, .bfalse]) (cs' := celC l[0] false) wA) ?_
  exact PRet.gen (y := .tup [.agg (valC (.mk 11 0 0 [] [] none (some b1))), .int .i64 0]) (Γ' := mcE b K tk (addM s ((b1, l[0], false) :: s.h))) (hp := by dsimp only [mcE, addM]; rw [hpE_cons]; infer_instance) WkR.res ⟨b1, rfl, rfl⟩
end
end Go.Cb
namespace Go.Cb
open Go.Proofs
set_option maxRecDepth 100000
set_option maxHeartbeats 4000000
def RetR (b : Nat) (K : List Vl) (R : Vl → Int → MSt → Tok → Prop) (y : PV) (Γ' : List Ent) : Prop := ∃ x c s' tk', y = .tup [.agg (valC x), .int .i64 c] ∧ Γ' = mcE b K tk' s' ∧ R x c s' tk'
section
variable (b : Nat) (K : List Vl) (tk : Tok) (s : MSt) (R : Vl → Int → MSt → Tok → Prop)
theorem strA_c (t : Trm) (ho : t.op = 5) (e : EnvM) (l : List Vl) (hl : 0 < l.length)
  (hca : ACall Tryz.prog 140 [.ptr b 0, .agg (valC (l[0]'hl)), .sl 7 ((l.drop 1).map Vl.pv) none] (mcE b K tk s) (RetR b K R)) :
  ACall Tryz.prog 115 [.ptr b 0, .agg t.cells, .sl 7 (l.map Vl.pv) none, envPV e] (mcE b K tk s) (RetR b K R) := by
 refine ACall.of_body tt_ok Tryz.func115 rfl rfl (n := 173) rfl rfl ?_
 conv => whnf
 repeat' (first|refine aA2 ?_|((intro _);conv=>whnf)|(refine zX (fun hc=>?_) (fun hc=>?_)<;>(try simp only [SY] at hc)<;>first|omega|(conv=>whnf)))
 rename_i b5 b8 b10 _ _ _ _ _ _ _ _ _
 refine PDraw.tree tt_ok mixed [0, 0, 2, 6, 0, 16, 63, 127, 127, 511, 1023] [0, 1, 2, 3, 4, 5] [6, 7, 8, 9, 10] (.box b8 [.int .i64 0, .int .i64 0, .int .i64 0, .str [], .nil, .np, .np] :: .box b10 [.int .i64 5, .int .i64 0, .int .i64 0, .str [], .nil, .np, .np] :: .box b5 [.int .i64 t.op, .int .i64 t.n, .sl 1 (t.v.map (PV.int .i64)) none, .sl 4 (t.t.map Trm.pv) none] :: mcE b K tk s) ?_
 conv => whnf
 conv => whnf
 repeat' (first|((first|((apply zZ);exact tB)|(refine And.intro ?_ ?_));conv=>whnf)|(refine zX (fun hc=>?_) (fun hc=>?_)<;>(try simp only [SY] at hc)<;>omega))
 all_goals try exact trivial
 refine PCall.goT hca (WkT.refl _) ?_
 rintro _ _ ⟨x, c, s', tk', rfl, rfl, hq⟩
 conv => whnf
 repeat' (first|((first|refine aM ?_|(refine And.intro ?_ ?_)|refine normN nC ?_|refine normN nD ?_|refine appN ?_|refine aF ?_);conv=>whnf)|(refine zX (fun hc=>?_) (fun hc=>?_)<;>(try simp only [SY] at hc)<;>omega))
 all_goals try exact trivial
 all_goals exact PRet.gen (y := .tup [.agg (valC x), .int .i64 c]) (Γ' := mcE b K tk' s') (Wk.refl _) ⟨x, c, s', tk', rfl, rfl, hq⟩
theorem strM_c (t : Trm) (ho : t.op = 10) (e : EnvM) (l : List Vl)
  (hca : ACall Tryz.prog 141 [.ptr b 0, .int .i64 t.n, .sl 7 (l.map Vl.pv) none] (mcE b K tk s) (RetR b K R)) :
  ACall Tryz.prog 115 [.ptr b 0, .agg t.cells, .sl 7 (l.map Vl.pv) none, envPV e] (mcE b K tk s) (RetR b K R) := by
 refine ACall.of_body tt_ok Tryz.func115 rfl rfl (n := 173) rfl rfl ?_
 conv => whnf
 repeat' (first|refine aA2 ?_|((intro _);conv=>whnf)|(refine zX (fun hc=>?_) (fun hc=>?_)<;>(try simp only [SY] at hc)<;>first|omega|(conv=>whnf)))
 refine PCall.goT hca (WkT.refl _) ?_
 rintro _ _ ⟨x, c, s', tk', rfl, rfl, hq⟩
 conv => whnf
 repeat' (first|refine aA2 ?_|((first|refine normN nC ?_|refine normN nD ?_);conv=>whnf)|(refine zX (fun hc=>?_) (fun hc=>?_)<;>(try simp only [SY] at hc)<;>omega))
 all_goals try exact trivial
 all_goals exact PRet.gen (y := .tup [.agg (valC x), .int .i64 c]) (Γ' := mcE b K tk' s') (Wk.refl _) ⟨x, c, s', tk', rfl, rfl, hq⟩
theorem drMr07bab {p q : Prop} (k : q) (h : q → p := by intro hq; first | exact PDraw.sP (some 31) rfl [] [] tt_ok mixed hq | exact PDraw.sP (some 84) rfl [] [12,13] tt_ok mixed hq) : p := h k
theorem calP_c (f : Vl) (hk : f.k = 9) (l : List Vl)
  (hca : ACall Tryz.prog 141 [.ptr b 0, .int .i64 f.n, .sl 7 (l.map Vl.pv) none] (mcE b K tk s) (RetR b K R)) :
  ACall Tryz.prog 140 [.ptr b 0, .agg (valC f), .sl 7 (l.map Vl.pv) none] (mcE b K tk s) (RetR b K R) := by
 refine ACall.of_body tt_ok Tryz.func140 rfl rfl (n := 111) rfl rfl ?_
 conv => whnf
 repeat' (first|refine aA2 ?_|((intro _);conv=>whnf)|(refine zX (fun hc=>?_) (fun hc=>?_)<;>(try simp only [SY] at hc)<;>first|omega|(conv=>whnf)))
 refine PCall.goT hca (WkT.refl _) ?_
 rintro _ _ ⟨x, c, s', tk', rfl, rfl, hq⟩
 conv => whnf
 repeat' (first|refine aA2 ?_|((first|refine normN nC ?_|refine normN nD ?_);conv=>whnf)|(refine zX (fun hc=>?_) (fun hc=>?_)<;>(try simp only [SY] at hc)<;>omega))
 all_goals try exact trivial
 all_goals exact PRet.gen (y := .tup [.agg (valC x), .int .i64 c]) (Γ' := mcE b K tk' s') (Wk.refl _) ⟨x, c, s', tk', rfl, rfl, hq⟩
theorem calN_c (f : Vl) (hk : f.k = 10) (l : List Vl) (hl : ¬l.length = 1) :
  ACall Tryz.prog 140 [.ptr b 0, .agg (valC f), .sl 7 (l.map Vl.pv) none] (mcE b K tk s) (fun y Γ' => y = .tup [.agg (valC zerV), .int .i64 2] ∧ Γ' = mcE b K tk s) := by
 refine ACall.of_body tt_ok Tryz.func140 rfl rfl (n := 111) rfl rfl ?_
 conv => whnf
 repeat' (first|refine aA2 ?_|((intro _);conv=>whnf)|(refine zX (fun hc=>?_) (fun hc=>?_)<;>(try simp only [SY] at hc)<;>first|omega|(conv=>whnf)))
 all_goals exact PRet.gen (y := .tup [.agg (valC zerV), .int .i64 2]) (Γ' := mcE b K tk s) WkR.res ⟨rfl, rfl⟩
theorem calE_c (f : Vl) (hk : f.k = 10) (l : List Vl) (hl : l.length = 1) (hn : 0 ≤ f.n ∧ f.n < s.alive.length) (ht : tk.s = 1) :
  ACall Tryz.prog 140 [.ptr b 0, .agg (valC f), .sl 7 (l.map Vl.pv) none] (mcE b K tk s) (fun y Γ' => (s.alive[f.n.toNat]'(by omega) = false ∧ y = .tup [.agg (valC zerV), .int .i64 6] ∧ Γ' = mcE b K tk s) ∨ (s.alive[f.n.toNat]'(by omega) = true ∧ y = .tup [.agg (valC zerV), .int .i64 100] ∧ Γ' = mcE b K tk ⟨s.fuel, s.out, s.alive, f.n, l[0], s.h⟩)) := by
 refine ACall.of_body tt_ok Tryz.func140 rfl rfl (n := 111) rfl rfl ?_
 conv => whnf
 repeat' (first|refine aA2 ?_|((first|refine normN nC ?_|refine normN nD ?_|refine drMr07bab ?_|intro _);conv=>whnf)|(refine zX (fun hc=>?_) (fun hc=>?_)<;>(try simp only [SY] at hc)<;>first|omega|(conv=>whnf)))
 ·exact PRet.gen (y := .tup [.agg (valC zerV), .int .i64 6]) (Γ' := mcE b K tk s) WkR.res (Or.inl ⟨by simpa using hc, rfl, rfl⟩)
 ·exact PRet.gen (y := .tup [.agg (valC zerV), .int .i64 100]) (Γ' := mcE b K tk ⟨s.fuel, s.out, s.alive, f.n, l[0], s.h⟩) WkR.res (Or.inr ⟨by simpa using hc, rfl, rfl⟩)
theorem calB_c (f : Vl) (hk : ¬f.k = 8 ∧ ¬f.k = 9 ∧ ¬f.k = 10) (l : List Vl) :
  ACall Tryz.prog 140 [.ptr b 0, .agg (valC f), .sl 7 (l.map Vl.pv) none] (mcE b K tk s) (fun y Γ' => y = .tup [.agg (valC zerV), .int .i64 1] ∧ Γ' = mcE b K tk s) := by
 refine ACall.of_body tt_ok Tryz.func140 rfl rfl (n := 111) rfl rfl ?_
 conv => whnf
 repeat' (first|refine aA2 ?_|((intro _);conv=>whnf)|(refine zX (fun hc=>?_) (fun hc=>?_)<;>(try simp only [SY] at hc)<;>first|omega|(conv=>whnf)))
 all_goals exact PRet.gen (y := .tup [.agg (valC zerV), .int .i64 1]) (Γ' := mcE b K tk s) WkR.res ⟨rfl, rfl⟩
theorem drMr07bac {p q : Prop} (k : q) (h : q → p := by intro hq; first | exact PDraw.sT (some 16) rfl [0,5] [10,11,12,13,14] tt_ok mixed hq) : p := h k
theorem spreadT_c (l : List Vl) (k : Nat) (hk : k ≤ 1000000000) (r : Bool) (h1 : r = true → 1 ≤ k) (hl : l.length ≤ 1000000000) : ACallP Tryz.prog 157 [.sl 7 (l.map Vl.pv) none, .int .i64 k, .bool r] (.tup [.sl 7 (((sprV l k r).getD l).map Vl.pv) none, .bool (sprV l k r).isSome]) := by
 rcases r with _ | _
 ·have e : sprV l k false = if l.length = k then some l else none := by unfold sprV; rw [if_neg (by simp)]; simp
  refine ACall.of_body tt_ok Tryz.func157 rfl rfl (n := 38) rfl rfl ?_
  conv => whnf
  repeat' (first|refine aA2 ?_|(refine zX (fun hc=>?_) (fun hc=>?_)<;>(try simp only [SY] at hc)<;>(conv=>whnf)))
  refine PRet.pure (Wk.tup (.cons ?_ (.cons (Wk.bool ?_) .nil)))
  ·rw [e]
   split <;> exact Wk.refl _
  ·rw [e, Bool.eq_iff_iff]
   split <;> simp <;> omega
 ·have hk1 := h1 rfl
  have e : sprV l k true = if k ≤ l.length + 1 then some (l.take (k - 1) ++ [lstV (l.drop (k - 1))]) else none := by
   unfold sprV
   simp
  have hls := list6_c (l.drop (k - 1))
  refine ACall.of_body tt_ok Tryz.func157 rfl rfl (n := 38) rfl rfl ?_
  conv => whnf
  repeat' (first|refine aA2 ?_|((first|refine pC (hls) wR ?_|refine drMr07bac ?_|intro _);conv=>whnf)|(refine zX (fun hc=>?_) (fun hc=>?_)<;>(try simp only [SY] at hc)<;>(conv=>whnf)))
  ·rw [e, if_pos (by omega)]
   exact PRet.pure (Wk.tup (.cons (Wk.tok _ _ _) (.cons (Wk.tt rfl) .nil)))
  ·rw [e, if_neg (by omega)]
   exact PRet.pure (Wk.tup (.cons (Wk.refl _) (.cons (Wk.bool (by simp)) .nil)))
theorem sprV_len {l xs : List Vl} {k : Nat} {r : Bool} (h1 : r = true → 1 ≤ k) (h : sprV l k r = some xs) : xs.length = k := by
 unfold sprV at h
 split at h
 ·rename_i hc
  have := h1 hc.1
  rw [← Option.some.inj h]
  simp
  omega
 ·split at h
  ·rename_i hc
   rw [← Option.some.inj h, hc.2]
  ·cases h
theorem calK_c (f : Vl) (hk : f.k = 8) (cl : Clo) (hp : f.p = some cl) (l : List Vl) (hl : l.length ≤ 1000000000) (hz : cl.v.length ≤ 1000000000) (hr : cl.rest = true → 1 ≤ cl.v.length) (hx : sprV l cl.v.length cl.rest = none) :
  ACall Tryz.prog 140 [.ptr b 0, .agg (valC f), .sl 7 (l.map Vl.pv) none] (mcE b K tk s) (fun y Γ' => y = .tup [.agg (valC zerV), .int .i64 2] ∧ Γ' = mcE b K tk s) := by
 have hsp := spreadT_c l cl.v.length hz cl.rest hr hl
 rw [hx] at hsp
 simp only [Option.getD_none, Option.isSome_none] at hsp
 refine ACall.of_body tt_ok Tryz.func140 rfl rfl (n := 111) rfl rfl ?_
 conv => whnf
 repeat' (first|refine aA2 ?_|((intro _);conv=>whnf)|(refine zX (fun hc=>?_) (fun hc=>?_)<;>(try simp only [SY] at hc)<;>first|omega|(conv=>whnf)))
 rw [hp]
 conv => whnf
 repeat' (first|refine aA2 ?_|((first|refine pC (hsp) wR ?_|intro _);conv=>whnf)|(refine zX (fun hc=>?_) (fun hc=>?_)<;>(try simp only [SY] at hc)<;>(conv=>whnf)))
 all_goals exact PRet.gen (y := .tup [.agg (valC zerV), .int .i64 2]) (Γ' := mcE b K tk s) WkR.res ⟨rfl, rfl⟩
theorem cal_c (x : Vl) (hk : x.k = 8) (cl : Clo) (hp : x.p = some cl) (l0 l : List Vl) (hl0 : l0.length ≤ 1000000000) (hz : cl.v.length ≤ 1000000000) (hr : cl.rest = true → 1 ≤ cl.v.length) (hx : sprV l0 cl.v.length cl.rest = some l)
  (hev : ∀ az : List Nat, az.length = cl.v.length → ACall Tryz.prog 87 [.ptr b 0, .agg cl.body.cells, envPV (extM cl.env cl.v az), .nil] (mcE b K tk (addM s (hpM s.h l az))) (RetR b K R)) :
  ACall Tryz.prog 140 [.ptr b 0, .agg (valC x), .sl 7 (l0.map Vl.pv) none] (mcE b K tk s) (RetR b K R) := by
 have hlen := sprV_len hr hx
 have hsp := spreadT_c l0 cl.v.length hz cl.rest hr hl0
 rw [hx] at hsp
 simp only [Option.getD_some, Option.isSome_some] at hsp
 refine ACall.of_body tt_ok Tryz.func140 rfl rfl (n := 111) rfl rfl ?_
 conv => whnf
 repeat' (first|refine aA2 ?_|((intro _);conv=>whnf)|(refine zX (fun hc=>?_) (fun hc=>?_)<;>(try simp only [SY] at hc)<;>first|omega|(conv=>whnf)))
 rw [hp]
 conv => whnf
 repeat' (first|refine aA2 ?_|((first|refine pC (hsp) wR ?_|intro _);conv=>whnf)|(refine zX (fun hc=>?_) (fun hc=>?_)<;>(try simp only [SY] at hc)<;>(conv=>whnf)))
 rename_i b4 b6 _ _ _ _
 have hL : ∀ i (az : List Nat) (a : Nat) (_ : az.length = i) (h : i < l.length), hpE (hpM s.h (l.take (i + 1)) (az ++ [a])) = .box a (celC (l[i]'h) false) :: hpE (hpM s.h (l.take i) az) := fun i az a h1 h => by
  rw [List.take_succ_eq_append_getElem h, hpM_snoc _ _ _ _ _ (by rw [List.length_take]; omega)]
  rfl
 have e0 : mcE b K tk s = mcE b K tk (addM s (hpM s.h (l.take 0) [])) := rfl
 rw [e0]
 refine PLoop.over [12, 13, 79, 80, 81, 82, 83, 84, 85, 86, 87, 88, 89, 90, 91, 92, 93, 94, 95, 96] (fun x : Nat × List Nat => [(12, envPV (extM cl.env (cl.v.take x.1) x.2)), (13, .int .i64 x.1)]) (fun x : Nat × List Nat => .box b6 [.int .i64 0, .int .i64 0, .int .i64 0, .str [], .nil, .np, .np] :: mcE b K tk (addM s (hpM s.h (l.take x.1) x.2)))
  (fun x => x.1 ≤ l.length ∧ x.2.length = x.1) (fun x => l.length - x.1) (0, []) ⟨Nat.zero_le _, rfl⟩ wA ?_
 rintro ⟨i, az⟩ ⟨hi, ha⟩
 dsimp only at hi ha ⊢
 conv => whnf
 repeat' (first|refine aA2 ?_|((refine drMr07bab ?_);conv=>whnf)|(refine zX (fun hc=>?_) (fun hc=>?_)<;>(try simp only [SY] at hc)<;>(conv=>whnf)))
 ·have h1 : i < l.length := by omega
  refine PCall.go (Γ1 := []) (bind_c _ _ l[i] false) (.cons (Wk.refl _) (.cons (Wk.refl _) (.cons (Wk.refl _) (.cons (Wk.ff rfl) .nil)))) ?_
  rintro _ _ ⟨a, rfl, rfl⟩
  conv => whnf
  repeat' (first|refine aA2 ?_|(refine zX (fun hc=>?_) (fun hc=>?_)<;>(try simp only [SY] at hc)<;>omega))
  have e1 := hL i az a ha h1
  have e2 : (cl.v.take (i + 1)) = cl.v.take i ++ [cl.v[i]'(by omega)] := List.take_succ_eq_append_getElem (by omega)
  refine loopTo (i + 1, az ++ [a]) ⟨by show i + 1 ≤ _; omega, by show (az ++ [a]).length = i + 1; simp; omega⟩ (by show l.length - (i + 1) < l.length - i; omega) (by dsimp only; rw [e2, extM_snoc _ _ _ _ _ (by rw [List.length_take]; omega)]; exact wA) (hp := by dsimp only [mcE, addM]; rw [e1]; infer_instance)
 ·obtain rfl : i = l.length := by omega
  rw [List.take_length, List.take_of_length_le (by omega : cl.v.length ≤ l.length)]
  refine PDraw.tree tt_ok mixed [0, 0, 2, 6, 14, 0, 0, 64, 192, 448, 1023, 2047, 2047, 8191, 16383] [0, 1, 2, 3, 4, 5, 6, 7, 8, 9] [10, 11, 12, 13, 14] (.box b6 [.int .i64 0, .int .i64 0, .int .i64 0, .str [], .nil, .np, .np] :: mcE b K tk (addM s (hpM s.h l az))) ?_
  conv => whnf
  conv => whnf
  repeat' (first|((first|((apply zZ);exact tB)|(refine And.intro ?_ ?_));conv=>whnf)|(refine zX (fun hc=>?_) (fun hc=>?_)<;>(try simp only [SY] at hc)<;>omega))
  all_goals try exact trivial
  refine PCall.goT (hev az (by omega)) (WkT.refl _) ?_
  rintro _ _ ⟨y, c, s', tk', rfl, rfl, hq⟩
  conv => whnf
  repeat' (first|((first|refine aM ?_|(refine And.intro ?_ ?_)|refine normN nC ?_|refine normN nD ?_|refine appN ?_|refine aF ?_);conv=>whnf)|(refine zX (fun hc=>?_) (fun hc=>?_)<;>(try simp only [SY] at hc)<;>omega))
  all_goals try exact trivial
  all_goals exact PRet.gen (y := .tup [.agg (valC y), .int .i64 c]) (Γ' := mcE b K tk' s') (Wk.refl _) ⟨y, c, s', tk', rfl, rfl, hq⟩
end
end Go.Cb
namespace Go.Cb
open Go.Proofs
set_option maxRecDepth 100000
set_option maxHeartbeats 4000000
instance : ElOf PV.bool .btrue true := ⟨Wk.tt rfl, .cons (Wk.tt rfl) .nil⟩
instance : ElOf PV.bool .bfalse false := ⟨Wk.ff rfl, .cons (Wk.ff rfl) .nil⟩
abbrev setA (s : MSt) (i : Nat) : MSt := ⟨s.fuel, s.out, s.alive.set i false, s.to, s.val, s.h⟩
abbrev newA (s : MSt) : MSt := ⟨s.fuel, s.out, s.alive ++ [true], s.to, s.val, s.h⟩
theorem PCall.goF {P : Program} {f : FuncId} {args args' : List PV} {Γ Γ1 Γ2 : List Ent} {Q K : PV → List Ent → Prop} (h : ACall P f args' Γ1 Q) (hw : WkT args args') [hp : PickL Γ Γ1 Γ2]
  (k : ∀ y Γ1', Q y Γ1' → appE Γ1' Γ2 fun Γ' => K y Γ') : PCall P f args Γ K := by
 refine ⟨.inl (((h.wk hw).frame hp.p).shift ?_)⟩
 rintro y Γ' ⟨Γ1', rfl, hq⟩
 have := k y Γ1' hq
 rw [appE_eq] at this
 exact ⟨y, Γ1' ++ Γ2, Shift.wk (Wk.refl _) (Γ1 := []) (by rw [List.append_nil]), this⟩
section
variable (b : Nat) (K : List Vl) (tk : Tok) (s : MSt) (R : Vl → Int → MSt → Tok → Prop)
theorem escape_c (f : Vl) (he : tk.e = 4) (hs : tk.s = 1) (ha : s.alive.length ≤ 1000000000) (R1 : Vl → Int → MSt → Tok → Prop)
  (hR : ∀ x c s' tk', R1 x c s' tk' → s.alive.length < s'.alive.length ∧ tk'.s = 1 ∧ (c = 100 ∧ s'.to = s.alive.length → R s'.val 0 (setA s' s.alive.length) tk') ∧ (¬(c = 100 ∧ s'.to = s.alive.length) → R x c (setA s' s.alive.length) tk'))
  (hca : ∀ tk1 : Tok, tk1.e = 4 → tk1.s = 1 → ACall Tryz.prog 140 [.ptr b 0, .agg (valC f), .sl 7 ([escV s.alive.length].map Vl.pv) none] (mcE b K tk1 (newA s)) (RetR b K R1)) :
  ACall Tryz.prog 159 [.ptr b 0, .agg (valC f)] (mcE b K tk s) (RetR b K R) := by
 refine ACall.of_body tt_ok Tryz.func159 rfl rfl (n := 54) rfl rfl ?_
 conv => whnf
 repeat' (first|refine aA2 ?_|((first|refine PLenM.map fun _ => ?_|intro _);conv=>whnf)|(refine zX (fun hc=>?_) (fun hc=>?_)<;>(try simp only [SY] at hc)<;>omega))
 refine PCall.goT (hca _ (by assumption) (by assumption)) (.cons (Wk.refl _) (.cons (Wk.refl _) (.cons (SlOf.wk (f := Vl.pv) (l := [escV s.alive.length])) .nil))) ?_
 rintro _ _ ⟨x, c, s', tk', rfl, rfl, hq⟩
 obtain ⟨q1, q2, q3, q4⟩ := hR _ _ _ _ hq
 conv => whnf
 repeat' (first|refine aA2 ?_|((first|refine normN nC ?_|refine normN nD ?_|intro _);conv=>whnf)|(refine zX (fun hc=>?_) (fun hc=>?_)<;>(try simp only [SY] at hc)<;>(conv=>whnf)))
 ·have hc' : c = 100 ∧ s'.to = s.alive.length := by omega
  exact PRet.gen (y := .tup [.agg (valC s'.val), .int .i64 0]) (Γ' := mcE b K tk' (setA s' s.alive.length)) (Wk.refl _) ⟨_, _, _, _, rfl, rfl, q3 hc'⟩
 ·have hc' : ¬(c = 100 ∧ s'.to = s.alive.length) := by omega
  exact PRet.gen (y := .tup [.agg (valC x), .int .i64 c]) (Γ' := mcE b K tk' (setA s' s.alive.length)) (Wk.refl _) ⟨_, _, _, _, rfl, rfl, q4 hc'⟩
theorem takes06_c (n : Int) (k : Nat) (hk : k ≤ 1000000000) : ACallP Tryz.prog 158 [.int .i64 n, .int .i64 k] (.bool (takB n k)) := by
 have h := takes05_c n k hk
 refine ACall.of_body tt_ok Tryz.func158 rfl rfl (n := 8) rfl rfl ?_
 conv => whnf
 repeat' (first|((refine pC (h) wR ?_);conv=>whnf)|(refine zX (fun hc=>?_) (fun hc=>?_)<;>(try simp only [SY] at hc)<;>omega))
 exact PRet.pure (Wk.refl _)
theorem primN_c (n : Int) (l : List Vl) (hl : l.length ≤ 1000000000) (ht : takB n l.length = false) :
  ACall Tryz.prog 141 [.ptr b 0, .int .i64 n, .sl 7 (l.map Vl.pv) none] (mcE b K tk s) (fun y Γ' => y = .tup [.agg (valC zerV), .int .i64 2] ∧ Γ' = mcE b K tk s) := by
 have h := takes06_c n l.length hl
 rw [ht] at h
 refine ACall.of_body tt_ok Tryz.func141 rfl rfl (n := 63) rfl rfl ?_
 conv => whnf
 repeat' (first|refine aA2 ?_|((first|refine pC (h) wR ?_|intro _);conv=>whnf)|(refine zX (fun hc=>?_) (fun hc=>?_)<;>(try simp only [SY] at hc)<;>(conv=>whnf)))
 all_goals exact PRet.gen (y := .tup [.agg (valC zerV), .int .i64 2]) (Γ' := mcE b K tk s) WkR.res ⟨rfl, rfl⟩
theorem primR_c (l : List Vl) (hl : l.length = 1) :
  ACall Tryz.prog 141 [.ptr b 0, .int .i64 28, .sl 7 (l.map Vl.pv) none] (mcE b K tk s) (fun y Γ' => y = .tup [.agg (valC zerV), .int .i64 7] ∧ Γ' = mcE b K tk ⟨s.fuel, s.out, s.alive, s.to, l[0], s.h⟩) := by
 have h := takes06_c 28 l.length (by omega)
 rw [hl, show takB 28 1 = true by decide, ← hl] at h
 refine ACall.of_body tt_ok Tryz.func141 rfl rfl (n := 63) rfl rfl ?_
 conv => whnf
 repeat' (first|refine aA2 ?_|((first|refine normN nC ?_|refine normN nD ?_|refine pC (h) wR ?_|intro _);conv=>whnf)|(refine zX (fun hc=>?_) (fun hc=>?_)<;>(try simp only [SY] at hc)<;>(conv=>whnf)))
 all_goals exact PRet.gen (y := .tup [.agg (valC zerV), .int .i64 7]) (Γ' := mcE b K tk ⟨s.fuel, s.out, s.alive, s.to, l[0], s.h⟩) WkR.res ⟨rfl, rfl⟩
theorem primE_c (l : List Vl) (hl : l.length = 1)
  (hca : ACall Tryz.prog 159 [.ptr b 0, .agg (valC l[0])] (mcE b K tk s) (RetR b K R)) :
  ACall Tryz.prog 141 [.ptr b 0, .int .i64 29, .sl 7 (l.map Vl.pv) none] (mcE b K tk s) (RetR b K R) := by
 have h := takes06_c 29 l.length (by omega)
 rw [hl, show takB 29 1 = true by decide, ← hl] at h
 refine ACall.of_body tt_ok Tryz.func141 rfl rfl (n := 63) rfl rfl ?_
 conv => whnf
 repeat' (first|refine aA2 ?_|((first|refine pC (h) wR ?_|intro _);conv=>whnf)|(refine zX (fun hc=>?_) (fun hc=>?_)<;>(try simp only [SY] at hc)<;>first|omega|(conv=>whnf)))
 refine PCall.goT hca (WkT.refl _) ?_
 rintro _ _ ⟨x, c, s', tk', rfl, rfl, hq⟩
 conv => whnf
 repeat' (first|refine aA2 ?_|((first|refine normN nC ?_|refine normN nD ?_);conv=>whnf)|(refine zX (fun hc=>?_) (fun hc=>?_)<;>(try simp only [SY] at hc)<;>omega))
 all_goals exact PRet.gen (y := .tup [.agg (valC x), .int .i64 c]) (Γ' := mcE b K tk' s') (Wk.refl _) ⟨x, c, s', tk', rfl, rfl, hq⟩
theorem primL_c (l : List Vl) (hl : l.length = 2) (htx : l[1].tx = true) (hi : l[1].its.1.length ≤ 1000000000) (hk : ¬l[1].its.2.k = 4) :
  ACall Tryz.prog 141 [.ptr b 0, .int .i64 30, .sl 7 (l.map Vl.pv) none] (mcE b K tk s) (fun y Γ' => y = .tup [.agg (valC zerV), .int .i64 1] ∧ Γ' = mcE b K tk s) := by
 have h := takes06_c 30 l.length (by omega)
 rw [hl, show takB 30 2 = true by decide, ← hl] at h
 have hit := items6_c l[1] htx hi
 rw [show (l[1].its.2.k == 4) = false by simpa using hk] at hit
 refine ACall.of_body tt_ok Tryz.func141 rfl rfl (n := 63) rfl rfl ?_
 conv => whnf
 repeat' (first|refine aA2 ?_|((first|refine pC (h) wR ?_|refine pC (hit) wR ?_|intro _);conv=>whnf)|(refine zX (fun hc=>?_) (fun hc=>?_)<;>(try simp only [SY] at hc)<;>first|omega|(conv=>whnf)))
 all_goals exact PRet.gen (y := .tup [.agg (valC zerV), .int .i64 1]) (Γ' := mcE b K tk s) WkR.res ⟨rfl, rfl⟩
theorem primA_c (l : List Vl) (hl : l.length = 2) (htx : l[1].tx = true) (hi : l[1].its.1.length ≤ 1000000000) (hk : l[1].its.2.k = 4)
  (hca : ACall Tryz.prog 140 [.ptr b 0, .agg (valC l[0]), .sl 7 (l[1].its.1.map Vl.pv) none] (mcE b K tk s) (RetR b K R)) :
  ACall Tryz.prog 141 [.ptr b 0, .int .i64 30, .sl 7 (l.map Vl.pv) none] (mcE b K tk s) (RetR b K R) := by
 have h := takes06_c 30 l.length (by omega)
 rw [hl, show takB 30 2 = true by decide, ← hl] at h
 have hit := items6_c l[1] htx hi
 rw [show (l[1].its.2.k == 4) = true by simpa using hk] at hit
 refine ACall.of_body tt_ok Tryz.func141 rfl rfl (n := 63) rfl rfl ?_
 conv => whnf
 repeat' (first|refine aA2 ?_|((first|refine pC (h) wR ?_|refine pC (hit) wR ?_|intro _);conv=>whnf)|(refine zX (fun hc=>?_) (fun hc=>?_)<;>(try simp only [SY] at hc)<;>first|omega|(conv=>whnf)))
 refine PCall.goT hca (WkT.refl _) ?_
 rintro _ _ ⟨x, c, s', tk', rfl, rfl, hq⟩
 conv => whnf
 repeat' (first|refine aA2 ?_|((first|refine normN nC ?_|refine normN nD ?_);conv=>whnf)|(refine zX (fun hc=>?_) (fun hc=>?_)<;>(try simp only [SY] at hc)<;>omega))
 all_goals exact PRet.gen (y := .tup [.agg (valC x), .int .i64 c]) (Γ' := mcE b K tk' s') (Wk.refl _) ⟨x, c, s', tk', rfl, rfl, hq⟩
theorem primS_c (n : Int) (hn : n < 28) (l : List Vl) (hl : l.length ≤ 1000000000) (ht : takB n l.length = true) (ho : s.out.length ≤ 1000000000) (hS : SimOk n l) :
  ACall Tryz.prog 141 [.ptr b 0, .int .i64 n, .sl 7 (l.map Vl.pv) none] (mcE b K tk s) (fun y Γ' => y = .tup [.agg (valC (simV n l).1), .int .i64 (simV n l).2.1] ∧ Γ' = mcE b K tk (outM s (simV n l).2.2)) := by
 have h := takes06_c n l.length hl
 rw [ht] at h
 have hs := hS b K tk s ho
 refine ACall.of_body tt_ok Tryz.func141 rfl rfl (n := 63) rfl rfl ?_
 conv => whnf
 repeat' (first|refine aA2 ?_|((first|refine pC (h) wR ?_|intro _);conv=>whnf)|(refine zX (fun hc=>?_) (fun hc=>?_)<;>(try simp only [SY] at hc)<;>first|omega|(conv=>whnf)))
 refine PCall.goF hs (WkT.refl _) ?_
 rintro _ _ ⟨rfl, rfl⟩
 conv => whnf
 repeat' (first|refine aA2 ?_|((first|refine normN nC ?_|refine normN nD ?_);conv=>whnf)|(refine zX (fun hc=>?_) (fun hc=>?_)<;>(try simp only [SY] at hc)<;>omega))
 all_goals exact PRet.gen (y := .tup [.agg (valC (simV n l).1), .int .i64 (simV n l).2.1]) (Γ' := mcE b K tk (outM s (simV n l).2.2)) (Wk.refl _) ⟨rfl, rfl⟩
end
end Go.Cb
namespace Go.Cb
open Go.Proofs
set_option maxRecDepth 100000
set_option maxHeartbeats 4000000
def AllR (b : Nat) (K : List Vl) (R : List Vl → Int → MSt → Tok → Prop) (y : PV) (Γ' : List Ent) : Prop := ∃ x c s' tk', y = .tup [.sl 7 (x.map Vl.pv) none, .int .i64 c] ∧ Γ' = mcE b K tk' s' ∧ R x c s' tk'
section
variable (b : Nat) (K : List Vl)
theorem allR_c (e : EnvM) (l : List Trm) (hl : l.length ≤ 1000000000) (P : Nat → List Vl → MSt → Tok → Prop) (R : List Vl → Int → MSt → Tok → Prop) (s : MSt) (tk : Tok) (h0 : P 0 [] s tk)
  (H : ∀ i m s tk, P i m s tk → ∀ h : i < l.length, ACall Tryz.prog 87 [.ptr b 0, .agg l[i].cells, envPV e, .nil] (mcE b K tk s) (RetR b K fun x c s' tk' => (c = 0 → P (i + 1) (m ++ [x]) s' tk') ∧ (¬c = 0 → R [] c s' tk')))
  (hE : ∀ m s tk, P l.length m s tk → R m 0 s tk) :
  ACall Tryz.prog 114 [.ptr b 0, .sl 4 (l.map Trm.pv) none, envPV e, .nil] (mcE b K tk s) (AllR b K R) := by
 refine ACall.of_body tt_ok Tryz.func114 rfl rfl (n := 39) rfl rfl ?_
 conv => whnf
 skip
 refine PLoop.gh (Ghost.nil 7 140 _) ?_
 refine PLoop.over [8, 9, 10, 11, 12, 13, 14, 15, 16, 17, 18, 19, 20, 21, 22, 23, 24, 25, 26, 27, 28, 29, 30, 31, 32, 33, 34, 35, 36, 37] (fun x : Nat × List Vl × Tok × MSt × Tok => [(10, .sl 7 (x.2.1.map Vl.pv) (some x.2.2.1)), (11, .int .i64 x.1)]) (fun x : Nat × List Vl × Tok × MSt × Tok => .tok x.2.2.1 :: mcE b K x.2.2.2.2 x.2.2.2.1)
  (fun x => x.1 ≤ l.length ∧ x.2.2.1.e = 140 ∧ x.2.1.length = x.1 ∧ P x.1 x.2.1 x.2.2.2.1 x.2.2.2.2) (fun x => l.length - x.1) (0, [], nilTok 7 140, s, tk) ⟨Nat.zero_le _, rfl, rfl, h0⟩ wA ?_
 rintro ⟨i, m, t1, s1, tk1⟩ ⟨hi, ht, hm, hP⟩
 dsimp only at hi ht hm hP ⊢
 have hml : m.length ≤ 1000000000 := by omega
 conv => whnf
 repeat' (first|refine aA2 ?_|((intro _);conv=>whnf)|(refine zX (fun hc=>?_) (fun hc=>?_)<;>(try simp only [SY] at hc)<;>(conv=>whnf)))
 ·have h1 : i < l.length := by omega
  refine PCall.goT (H i m s1 tk1 hP h1) (WkT.refl _) ?_
  rintro _ _ ⟨x, c, s', tk', rfl, rfl, hq, hr⟩
  conv => whnf
  repeat' (first|refine aA2 ?_|((first|refine normN nC ?_|refine normN nD ?_|intro _);conv=>whnf)|(refine zX (fun hc=>?_) (fun hc=>?_)<;>(try simp only [SY] at hc)<;>(conv=>whnf)))
  ·exact PRet.gen (y := .tup [.sl 7 (([] : List Vl).map Vl.pv) none, .int .i64 c]) (Γ' := mcE b K tk' s') (Wk.tup (.cons (Wk.nil' rfl) (.cons (Wk.refl _) .nil))) ⟨[], c, s', tk', rfl, rfl, hr hc⟩
  ·rename_i t2 ht2
   exact loopTo (i + 1, m ++ [x], t2, s', tk') ⟨by show i + 1 ≤ _; omega, ht2, by show (m ++ [x]).length = i + 1; simp; omega, hq hc⟩ (by show l.length - (i + 1) < l.length - i; omega) wA
 ·obtain rfl : i = l.length := by omega
  exact PRet.gen (y := .tup [.sl 7 (m.map Vl.pv) none, .int .i64 0]) (Γ' := mcE b K tk1 s1) (Wk.tup (.cons (Wk.tok _ _ _) (.cons (Wk.refl _) .nil))) ⟨m, 0, s1, tk1, rfl, rfl, hE m s1 tk1 hP⟩
variable (tk : Tok) (s : MSt) (t : Trm) (e : EnvM) (R : Vl → Int → MSt → Tok → Prop)
theorem evD_c (h0 : s.fuel ≤ 0) :
  ACall Tryz.prog 87 [.ptr b 0, .agg t.cells, envPV e, .nil] (mcE b K tk s) (fun y Γ' => y = .tup [.agg (valC zerV), .int .i64 8] ∧ Γ' = mcE b K tk s) := by
 refine ACall.of_body tt_ok Tryz.func87 rfl rfl (n := 181) rfl rfl ?_
 conv => whnf
 repeat' (first|refine aA2 ?_|((intro _);conv=>whnf)|(refine zX (fun hc=>?_) (fun hc=>?_)<;>(try simp only [SY] at hc)<;>first|omega|(conv=>whnf)))
 all_goals exact PRet.gen (y := .tup [.agg (valC zerV), .int .i64 8]) (Γ' := mcE b K tk s) WkR.res ⟨rfl, rfl⟩
theorem evU_c (h0 : 0 < s.fuel ∧ s.fuel ≤ 1000000) (ho : t.op = 13) :
  ACall Tryz.prog 87 [.ptr b 0, .agg t.cells, envPV e, .nil] (mcE b K tk s) (fun y Γ' => y = .tup [.agg (valC (kndV 12)), .int .i64 0] ∧ Γ' = mcE b K tk (lessM s)) := by
 refine ACall.of_body tt_ok Tryz.func87 rfl rfl (n := 181) rfl rfl ?_
 conv => whnf
 repeat' (first|refine aA2 ?_|((intro _);conv=>whnf)|(refine zX (fun hc=>?_) (fun hc=>?_)<;>(try simp only [SY] at hc)<;>first|omega|(conv=>whnf)))
 all_goals exact PRet.gen (y := .tup [.agg (valC (kndV 12)), .int .i64 0]) (Γ' := mcE b K tk (lessM s)) WkR.res ⟨rfl, rfl⟩
theorem evP_c (h0 : 0 < s.fuel ∧ s.fuel ≤ 1000000) (ho : t.op = 11) :
  ACall Tryz.prog 87 [.ptr b 0, .agg t.cells, envPV e, .nil] (mcE b K tk s) (fun y Γ' => y = .tup [.agg (valC (.mk 9 t.n 0 [] [] none none)), .int .i64 0] ∧ Γ' = mcE b K tk (lessM s)) := by
 refine ACall.of_body tt_ok Tryz.func87 rfl rfl (n := 181) rfl rfl ?_
 conv => whnf
 repeat' (first|refine aA2 ?_|((intro _);conv=>whnf)|(refine zX (fun hc=>?_) (fun hc=>?_)<;>(try simp only [SY] at hc)<;>first|omega|(conv=>whnf)))
 all_goals exact PRet.gen (y := .tup [.agg (valC (.mk 9 t.n 0 [] [] none none)), .int .i64 0]) (Γ' := mcE b K tk (lessM s)) WkR.res ⟨rfl, rfl⟩
theorem evR_c (h0 : 0 < s.fuel ∧ s.fuel ≤ 1000000) (ho : t.op = 1) (a : Nat) (hf : fndM e t.n = some a) (x : Vl) (r : Bool) (hg : hget s.h a = some (x, r)) (hu : ¬(r = true ∧ x.k = 12)) :
  ACall Tryz.prog 87 [.ptr b 0, .agg t.cells, envPV e, .nil] (mcE b K tk s) (fun y Γ' => y = .tup [.agg (valC x), .int .i64 0] ∧ Γ' = mcE b K tk (lessM s)) := by
 have hp := place_c e t.n a hf
 obtain ⟨put, hpb, hpu⟩ := hpE_box hg
 refine ACall.of_body tt_ok Tryz.func87 rfl rfl (n := 181) rfl rfl ?_
 conv => whnf
 repeat' (first|refine aA2 ?_|((first|refine normN nC ?_|refine normN nD ?_|refine pC (hp) wR ?_|intro _);conv=>whnf)|(refine zX (fun hc=>?_) (fun hc=>?_)<;>(try simp only [SY] at hc)<;>first|omega|(conv=>whnf)))
 all_goals first
  | exact absurd hc hu
  | exact PRet.gen (y := .tup [.agg (valC x), .int .i64 0]) (Γ' := mcE b K tk (lessM s)) (Wk.refl _) ⟨rfl, rfl⟩
theorem evRE_c (h0 : 0 < s.fuel ∧ s.fuel ≤ 1000000) (ho : t.op = 1) (a : Nat) (hf : fndM e t.n = some a) (x : Vl) (hg : hget s.h a = some (x, true)) (hu : x.k = 12) :
  ACall Tryz.prog 87 [.ptr b 0, .agg t.cells, envPV e, .nil] (mcE b K tk s) (fun y Γ' => y = .tup [.agg (valC zerV), .int .i64 5] ∧ Γ' = mcE b K tk (lessM s)) := by
 have hp := place_c e t.n a hf
 obtain ⟨put, hpb, hpu⟩ := hpE_box hg
 refine ACall.of_body tt_ok Tryz.func87 rfl rfl (n := 181) rfl rfl ?_
 conv => whnf
 repeat' (first|refine aA2 ?_|((first|refine pC (hp) wR ?_|intro _);conv=>whnf)|(refine zX (fun hc=>?_) (fun hc=>?_)<;>(try simp only [SY] at hc)<;>first|omega|(conv=>whnf)))
 all_goals exact PRet.gen (y := .tup [.agg (valC zerV), .int .i64 5]) (Γ' := mcE b K tk (lessM s)) WkR.res ⟨rfl, rfl⟩
theorem evI_c (h0 : 0 < s.fuel ∧ s.fuel ≤ 1000000) (ho : t.op = 3) (hl : t.t.length = 3)
  (hE : ACall Tryz.prog 87 [.ptr b 0, .agg t.t[0].cells, envPV e, .nil] (mcE b K tk (lessM s)) (RetR b K fun x c s' tk' => (¬c = 0 → R zerV c s' tk') ∧
   (c = 0 → x.k = 1 ∧ x.n = 0 → ACall Tryz.prog 87 [.ptr b 0, .agg t.t[2].cells, envPV e, .nil] (mcE b K tk' s') (RetR b K R)) ∧
   (c = 0 → ¬(x.k = 1 ∧ x.n = 0) → ACall Tryz.prog 87 [.ptr b 0, .agg t.t[1].cells, envPV e, .nil] (mcE b K tk' s') (RetR b K R)))) :
  ACall Tryz.prog 87 [.ptr b 0, .agg t.cells, envPV e, .nil] (mcE b K tk s) (RetR b K R) := by
 refine ACall.of_body tt_ok Tryz.func87 rfl rfl (n := 181) rfl rfl ?_
 conv => whnf
 repeat' (first|refine aA2 ?_|((intro _);conv=>whnf)|(refine zX (fun hc=>?_) (fun hc=>?_)<;>(try simp only [SY] at hc)<;>first|omega|(conv=>whnf)))
 refine PCall.goT hE (WkT.refl _) ?_
 rintro _ _ ⟨x, c, s', tk', rfl, rfl, h1, h2, h3⟩
 conv => whnf
 repeat' (first|refine aA2 ?_|((first|refine normN nC ?_|refine normN nD ?_|intro _);conv=>whnf)|(refine zX (fun hc=>?_) (fun hc=>?_)<;>(try simp only [SY] at hc)<;>(conv=>whnf)))
 ·exact PRet.gen (y := .tup [.agg (valC zerV), .int .i64 c]) (Γ' := mcE b K tk' s') WkR.res ⟨zerV, c, s', tk', rfl, rfl, h1 hc⟩
 ·refine PCall.goT (h2 (by omega) (by omega)) (WkT.refl _) ?_
  rintro _ _ ⟨x', c', s'', tk'', rfl, rfl, hq⟩
  conv => whnf
  repeat' (first|refine aA2 ?_|((first|refine normN nC ?_|refine normN nD ?_);conv=>whnf)|(refine zX (fun hc=>?_) (fun hc=>?_)<;>(try simp only [SY] at hc)<;>omega))
  all_goals exact PRet.gen (y := .tup [.agg (valC x'), .int .i64 c']) (Γ' := mcE b K tk'' s'') (Wk.refl _) ⟨x', c', s'', tk'', rfl, rfl, hq⟩
 ·refine PCall.goT (h3 (by omega) (by omega)) (WkT.refl _) ?_
  rintro _ _ ⟨x', c', s'', tk'', rfl, rfl, hq⟩
  conv => whnf
  repeat' (first|refine aA2 ?_|((first|refine normN nC ?_|refine normN nD ?_);conv=>whnf)|(refine zX (fun hc=>?_) (fun hc=>?_)<;>(try simp only [SY] at hc)<;>omega))
  all_goals exact PRet.gen (y := .tup [.agg (valC x'), .int .i64 c']) (Γ' := mcE b K tk'' s'') (Wk.refl _) ⟨x', c', s'', tk'', rfl, rfl, hq⟩
theorem evS_c (h0 : 0 < s.fuel ∧ s.fuel ≤ 1000000) (ho : t.op = 2 ∨ t.op = 5 ∨ t.op = 6 ∨ t.op = 10 ∨ t.op = 12 ∨ (14 ≤ t.op ∧ t.op ≤ 18))
  (hE : ACall Tryz.prog 114 [.ptr b 0, .sl 4 (t.t.map Trm.pv) none, envPV e, .nil] (mcE b K tk (lessM s)) (AllR b K fun l c s' tk' => (¬c = 0 → R zerV c s' tk') ∧
   (c = 0 → ACall Tryz.prog 115 [.ptr b 0, .agg t.cells, .sl 7 (l.map Vl.pv) none, envPV e] (mcE b K tk' s') (RetR b K R)))) :
  ACall Tryz.prog 87 [.ptr b 0, .agg t.cells, envPV e, .nil] (mcE b K tk s) (RetR b K R) := by
 refine ACall.of_body tt_ok Tryz.func87 rfl rfl (n := 181) rfl rfl ?_
 conv => whnf
 repeat' (first|refine aA2 ?_|((intro _);conv=>whnf)|(refine zX (fun hc=>?_) (fun hc=>?_)<;>(try simp only [SY] at hc)<;>first|omega|(conv=>whnf)))
 refine PCall.goT hE (WkT.refl _) ?_
 rintro _ _ ⟨x, c, s', tk', rfl, rfl, h1, h2⟩
 conv => whnf
 repeat' (first|refine aA2 ?_|(refine zX (fun hc=>?_) (fun hc=>?_)<;>(try simp only [SY] at hc)<;>(conv=>whnf)))
 ·exact PRet.gen (y := .tup [.agg (valC zerV), .int .i64 c]) (Γ' := mcE b K tk' s') WkR.res ⟨zerV, c, s', tk', rfl, rfl, h1 hc⟩
 ·refine PCall.goT (h2 hc) (WkT.refl _) ?_
  rintro _ _ ⟨x', c', s'', tk'', rfl, rfl, hq⟩
  conv => whnf
  repeat' (first|refine aA2 ?_|((first|refine normN nC ?_|refine normN nD ?_);conv=>whnf)|(refine zX (fun hc=>?_) (fun hc=>?_)<;>(try simp only [SY] at hc)<;>omega))
  all_goals exact PRet.gen (y := .tup [.agg (valC x'), .int .i64 c']) (Γ' := mcE b K tk'' s'') (Wk.refl _) ⟨x', c', s'', tk'', rfl, rfl, hq⟩
theorem evB_c (h0 : 0 < s.fuel ∧ s.fuel ≤ 1000000) (ho : 7 ≤ t.op ∧ t.op ≤ 9)
  (hE : ACall Tryz.prog 113 [.ptr b 0, .agg t.cells, envPV e, .nil] (mcE b K tk (lessM s)) (RetR b K R)) :
  ACall Tryz.prog 87 [.ptr b 0, .agg t.cells, envPV e, .nil] (mcE b K tk s) (RetR b K R) := by
 refine ACall.of_body tt_ok Tryz.func87 rfl rfl (n := 181) rfl rfl ?_
 conv => whnf
 repeat' (first|refine aA2 ?_|((intro _);conv=>whnf)|(refine zX (fun hc=>?_) (fun hc=>?_)<;>(try simp only [SY] at hc)<;>first|omega|(conv=>whnf)))
 all_goals
  refine PCall.goT hE (WkT.refl _) ?_
  rintro _ _ ⟨x', c', s'', tk'', rfl, rfl, hq⟩
  conv => whnf
  repeat' (first|refine aA2 ?_|((first|refine normN nC ?_|refine normN nD ?_);conv=>whnf)|(refine zX (fun hc=>?_) (fun hc=>?_)<;>(try simp only [SY] at hc)<;>omega))
  all_goals exact PRet.gen (y := .tup [.agg (valC x'), .int .i64 c']) (Γ' := mcE b K tk'' s'') (Wk.refl _) ⟨x', c', s'', tk'', rfl, rfl, hq⟩
end
end Go.Cb
namespace Go.Cb
open Go.Proofs
set_option maxRecDepth 100000
set_option maxHeartbeats 4000000
section
variable (b : Nat) (K : List Vl) (tk : Tok) (s : MSt) (t : Trm) (e : EnvM) (R : Vl → Int → MSt → Tok → Prop)
theorem drMr07eaa {p q : Prop} (k : q) (h : q → p := by intro hq; first | exact PDraw.sP (some 48) rfl [] [10,11] tt_ok mixed hq | exact PDraw.sP (some 79) rfl [] [10,11] tt_ok mixed hq | exact PDraw.sP (some 192) rfl [] [10] tt_ok mixed hq | exact PDraw.sP (some 217) rfl [] [13] tt_ok mixed hq) : p := h k
theorem bindL_c (ho : t.op = 8) (hl : t.t.length = t.v.length + 1) (hz : t.v.length ≤ 1000000000)
  (hA : ACall Tryz.prog 114 [.ptr b 0, .sl 4 ((t.t.take t.v.length).map Trm.pv) none, envPV e, .nil] (mcE b K tk s) (AllR b K fun l c s' tk' => (¬c = 0 → R zerV c s' tk') ∧
   (c = 0 → l.length = t.v.length ∧ ∀ az : List Nat, az.length = t.v.length → ACall Tryz.prog 87 [.ptr b 0, .agg (t.t[t.v.length]'(by omega)).cells, envPV (extM e t.v az), .nil] (mcE b K tk' (addM s' (hpM s'.h l az))) (RetR b K R)))) :
  ACall Tryz.prog 113 [.ptr b 0, .agg t.cells, envPV e, .nil] (mcE b K tk s) (RetR b K R) := by
 refine ACall.of_body tt_ok Tryz.func113 rfl rfl (n := 241) rfl rfl ?_
 conv => whnf
 repeat' (first|refine aA2 ?_|((intro _);conv=>whnf)|(refine zX (fun hc=>?_) (fun hc=>?_)<;>(try simp only [SY] at hc)<;>first|omega|(conv=>whnf)))
 refine PCall.goT hA (WkT.refl _) ?_
 rintro _ _ ⟨l, c, s', tk', rfl, rfl, h1, h2⟩
 conv => whnf
 skip
 rename_i b1 b2 _
 by_cases hc0 : c = 0
 ·subst hc0
  obtain ⟨hlen, hev⟩ := h2 rfl
  have hL : ∀ i (az : List Nat) (a : Nat) (_ : az.length = i) (h : i < l.length), hpE (hpM s'.h (l.take (i + 1)) (az ++ [a])) = .box a (celC (l[i]'h) false) :: hpE (hpM s'.h (l.take i) az) := fun i az a h1 h => by
   rw [List.take_succ_eq_append_getElem h, hpM_snoc _ _ _ _ _ (by rw [List.length_take]; omega)]
   rfl
  have e0 : mcE b K tk' s' = mcE b K tk' (addM s' (hpM s'.h (l.take 0) [])) := rfl
  rw [e0]
  refine PLoop.over [2, 13, 39, 40, 41, 42, 43, 44, 45, 46, 47, 48, 49, 50, 51, 52, 53, 54, 55, 56, 57, 58] (fun x : Nat × List Nat => [(2, envPV (extM e (t.v.take x.1) x.2)), (13, .int .i64 x.1)]) (fun x : Nat × List Nat => .box b2 [.int .i64 0, .int .i64 0, .int .i64 0, .str [], .nil, .np, .np] :: .box b1 [.int .i64 t.op, .int .i64 t.n, .sl 1 (t.v.map (PV.int .i64)) none, .sl 4 (t.t.map Trm.pv) none] :: mcE b K tk' (addM s' (hpM s'.h (l.take x.1) x.2)))
   (fun x => x.1 ≤ l.length ∧ x.2.length = x.1) (fun x => l.length - x.1) (0, []) ⟨Nat.zero_le _, rfl⟩ wA ?_
  rintro ⟨i, az⟩ ⟨hi, ha⟩
  dsimp only at hi ha ⊢
  conv => whnf
  repeat' (first|refine aA2 ?_|((refine drMr07eaa ?_);conv=>whnf)|(refine zX (fun hc=>?_) (fun hc=>?_)<;>(try simp only [SY] at hc)<;>(conv=>whnf)))
  ·have h1 : i < l.length := by omega
   refine PCall.go (Γ1 := []) (bind_c _ _ l[i] false) (.cons (Wk.refl _) (.cons (Wk.refl _) (.cons (Wk.refl _) (.cons (Wk.ff rfl) .nil)))) ?_
   rintro _ _ ⟨a, rfl, rfl⟩
   conv => whnf
   repeat' (first|refine aA2 ?_|(refine zX (fun hc=>?_) (fun hc=>?_)<;>(try simp only [SY] at hc)<;>omega))
   have e1 := hL i az a ha h1
   have e2 : (t.v.take (i + 1)) = t.v.take i ++ [t.v[i]'(by omega)] := List.take_succ_eq_append_getElem (by omega)
   refine loopTo (i + 1, az ++ [a]) ⟨by show i + 1 ≤ _; omega, by show (az ++ [a]).length = i + 1; simp; omega⟩ (by show l.length - (i + 1) < l.length - i; omega) (by dsimp only; rw [e2, extM_snoc _ _ _ _ _ (by rw [List.length_take]; omega)]; exact wA) (hp := by dsimp only [mcE, addM]; rw [e1]; infer_instance)
  ·have hil : i = t.v.length := by omega
   subst hil
   have hev' := hev az ha
   rw [List.take_length, List.take_of_length_le (by omega : l.length ≤ t.v.length)]
   conv => whnf
   skip
   refine PCall.goT hev' (WkT.refl _) ?_
   rintro _ _ ⟨x', c', s'', tk'', rfl, rfl, hq⟩
   conv => whnf
   repeat' (first|refine aA2 ?_|((first|refine normN nC ?_|refine normN nD ?_);conv=>whnf)|(refine zX (fun hc=>?_) (fun hc=>?_)<;>(try simp only [SY] at hc)<;>omega))
   all_goals exact PRet.gen (y := .tup [.agg (valC x'), .int .i64 c']) (Γ' := mcE b K tk'' s'') (Wk.refl _) ⟨x', c', s'', tk'', rfl, rfl, hq⟩
 ·refine PLoop.over [2, 13, 39, 40, 41, 42, 43, 44, 45, 46, 47, 48, 49, 50, 51, 52, 53, 54, 55, 56, 57, 58] (fun _ : Unit => [(2, envPV e), (13, .int .i64 0)]) (fun _ : Unit => .box b2 [.int .i64 0, .int .i64 0, .int .i64 0, .str [], .nil, .np, .np] :: .box b1 [.int .i64 t.op, .int .i64 t.n, .sl 1 (t.v.map (PV.int .i64)) none, .sl 4 (t.t.map Trm.pv) none] :: mcE b K tk' s') (fun _ => True) (fun _ => 0) () trivial wA ?_
  rintro ⟨⟩ _
  dsimp only
  conv => whnf
  repeat' (first|refine aA2 ?_|(refine zX (fun hc=>?_) (fun hc=>?_)<;>(try simp only [SY] at hc)<;>first|omega|(conv=>whnf)))
  all_goals exact PRet.gen (y := .tup [.agg (valC zerV), .int .i64 c]) (Γ' := mcE b K tk' s') WkR.res ⟨zerV, c, s', tk', rfl, rfl, h1 hc0⟩
end
end Go.Cb
namespace Go.Cb
open Go.Proofs
set_option maxRecDepth 100000
set_option maxHeartbeats 4000000
theorem hpU_snoc : ∀ (h : Hp) (r : Bool) (az : List Nat) (a : Nat), hpU h r (az ++ [a]) = (a, kndV 12, r) :: hpU h r az
 | _, _, [], _ => rfl
 | h, r, b :: az, a => by rw [List.cons_append, hpU, hpU_snoc _ r az a, hpU]
def plcP (h : Hp) (e : EnvM) (vs : List Int) : Prop := ∀ v ∈ vs, ∃ a, fndM e v = some a ∧ ∃ y r, hget h a = some (y, r)
theorem hget_hput (b : Nat) (z : Vl) : ∀ {h : Hp} {a : Nat} {y : Vl} {r : Bool}, hget h a = some (y, r) → ∃ y', hget (hput h b z) a = some (y', r)
 | (c, w, q) :: h, a, y, r, hg => by
  rw [hget] at hg
  rw [hput]
  by_cases hcb : c = b
  ·rw [if_pos hcb, hget]
   by_cases hca : c = a
   ·rw [if_pos hca] at hg ⊢
    obtain ⟨rfl, rfl⟩ := Prod.mk.inj (Option.some.inj hg)
    exact ⟨z, rfl⟩
   ·rw [if_neg hca] at hg ⊢
    exact ⟨y, hg⟩
  ·rw [if_neg hcb, hget]
   by_cases hca : c = a
   ·rw [if_pos hca] at hg ⊢
    exact ⟨y, hg⟩
   ·rw [if_neg hca] at hg ⊢
    exact hget_hput b z hg
theorem plcP.put {h : Hp} {e : EnvM} {vs : List Int} (b : Nat) (z : Vl) (hk : plcP h e vs) : plcP (hput h b z) e vs := fun v hv => by
 obtain ⟨a, hf, y, r, hg⟩ := hk v hv
 obtain ⟨y', hg'⟩ := hget_hput b z hg
 exact ⟨a, hf, y', r, hg'⟩
section
variable (b : Nat) (K : List Vl) (tk : Tok) (s : MSt) (t : Trm) (e : EnvM) (R : Vl → Int → MSt → Tok → Prop)
theorem drMr07faa {p q : Prop} (k : q) (h : q → p := by intro hq; first | exact PDraw.sP (some 48) rfl [] [10,11] tt_ok mixed hq | exact PDraw.sP (some 79) rfl [] [10,11] tt_ok mixed hq | exact PDraw.sP (some 192) rfl [] [10] tt_ok mixed hq | exact PDraw.sP (some 217) rfl [] [13] tt_ok mixed hq) : p := h k
theorem bindR_c (ho : t.op = 7 ∨ t.op = 9) (hl : t.t.length = t.v.length + 1) (hz : t.v.length ≤ 1000000000) (h19 : ∀ x ∈ t.t, ¬x.op = 19)
  (P : List Nat → Nat → List Vl → MSt → Tok → Prop) (hP : ∀ az : List Nat, az.length = t.v.length → P az 0 [] (addM s (hpU s.h (t.op == 7) az)) tk)
  (H : ∀ az i m s tk, P az i m s tk → ∀ h : i < t.v.length, ACall Tryz.prog 87 [.ptr b 0, .agg (t.t[i]'(by omega)).cells, envPV (extM e t.v az), .nil] (mcE b K tk s) (RetR b K fun x c s' tk' => (¬c = 0 → R zerV c s' tk') ∧
   (c = 0 → (t.op = 9 ∨ t.n = 1 → ∃ a y r, fndM (extM e t.v az) (t.v[i]'h) = some a ∧ hget s'.h a = some (y, r)) ∧ P az (i + 1) (m ++ [x]) (if t.op = 9 ∨ t.n = 1 then stoM s' (extM e t.v az) (t.v[i]'h) x else s') tk')))
  (HE : ∀ az m s tk, P az t.v.length m s tk → m.length = t.v.length → (t.op = 7 ∧ t.n = 0 → plcP s.h (extM e t.v az) t.v) ∧
   ACall Tryz.prog 87 [.ptr b 0, .agg (t.t[t.v.length]'(by omega)).cells, envPV (extM e t.v az), .nil] (mcE b K tk (if t.op = 7 ∧ t.n = 0 then stosM s (extM e t.v az) t.v m else s)) (RetR b K R)) :
  ACall Tryz.prog 113 [.ptr b 0, .agg t.cells, envPV e, .nil] (mcE b K tk s) (RetR b K R) := by
 refine ACall.of_body tt_ok Tryz.func113 rfl rfl (n := 241) rfl rfl ?_
 conv => whnf
 repeat' (first|refine aA2 ?_|((intro _);conv=>whnf)|(refine zX (fun hc=>?_) (fun hc=>?_)<;>(try simp only [SY] at hc)<;>first|omega|(conv=>whnf)))
 rename_i b1 b2 _
 have hL : ∀ (az : List Nat) (a : Nat), hpE (hpU s.h (t.op == 7) (az ++ [a])) = .box a (celC (kndV 12) (t.op == 7)) :: hpE (hpU s.h (t.op == 7) az) := fun az a => by rw [hpU_snoc]; rfl
 have e0 : mcE b K tk s = mcE b K tk (addM s (hpU s.h (t.op == 7) [])) := rfl
 rw [e0]
 refine PLoop.over [2, 14, 74, 75, 76, 77, 78, 79, 80, 81, 82, 83, 84, 85, 86, 87, 88, 89, 90, 91, 92, 93, 94, 95, 96, 97, 98, 99, 100, 101, 102, 103, 104, 105, 106, 107, 108, 109, 110, 111, 112, 113, 114, 115] (fun x : Nat × List Nat => [(2, envPV (extM e (t.v.take x.1) x.2)), (14, .int .i64 x.1)]) (fun x : Nat × List Nat => .box b2 [.int .i64 0, .int .i64 0, .int .i64 0, .str [], .nil, .np, .np] :: .box b1 [.int .i64 t.op, .int .i64 t.n, .sl 1 (t.v.map (PV.int .i64)) none, .sl 4 (t.t.map Trm.pv) none] :: mcE b K tk (addM s (hpU s.h (t.op == 7) x.2)))
  (fun x => x.1 ≤ t.v.length ∧ x.2.length = x.1) (fun x => t.v.length - x.1) (0, []) ⟨Nat.zero_le _, rfl⟩ wA ?_
 rintro ⟨i, az⟩ ⟨hi, ha⟩
 dsimp only at hi ha ⊢
 conv => whnf
 repeat' (first|refine aA2 ?_|((refine drMr07faa ?_);conv=>whnf)|(refine zX (fun hc=>?_) (fun hc=>?_)<;>(try simp only [SY] at hc)<;>(conv=>whnf)))
 ·have h1 : i < t.v.length := by omega
  have h19i : ¬(t.t[i]'(by omega)).op = 19 := h19 _ (List.getElem_mem _)
  refine PCall.go (Γ1 := []) (bind_c _ _ (kndV 12) (t.op == 7)) (.cons (Wk.refl _) (.cons (Wk.refl _) (.cons (Wk.agg kndV_wk) (.cons (Wk.refl _) .nil)))) ?_
  rintro _ _ ⟨a, rfl, rfl⟩
  conv => whnf
  repeat' (first|refine aA2 ?_|(refine zX (fun hc=>?_) (fun hc=>?_)<;>(try simp only [SY] at hc)<;>first|omega|(conv=>whnf)))
  all_goals try (exfalso; omega)
  have e1 := hL az a
  have e2 : (t.v.take (i + 1)) = t.v.take i ++ [t.v[i]'(by omega)] := List.take_succ_eq_append_getElem (by omega)
  refine loopTo (i + 1, az ++ [a]) ⟨by show i + 1 ≤ _; omega, by show (az ++ [a]).length = i + 1; simp; omega⟩ (by show t.v.length - (i + 1) < t.v.length - i; omega) (by dsimp only; rw [e2, extM_snoc _ _ _ _ _ (by rw [List.length_take]; omega)]; exact wA) (hp := by dsimp only [mcE, addM]; rw [e1]; infer_instance)
 ·have hil : i = t.v.length := by omega
  subst hil
  have hP0 := hP az ha
  rw [List.take_length]
  conv => whnf
  skip
  refine PLoop.gh (Ghost.nil 7 140 _) ?_
  refine PLoop.over [9, 15, 16, 17, 18, 19, 20, 116, 117, 118, 119, 120, 121, 122, 123, 124, 125, 126, 127, 128, 129, 130, 131, 132, 133, 134, 135, 136, 137, 138, 139, 140, 141, 142, 143, 144, 145, 146, 147, 148, 149, 150, 151, 152, 153, 154, 155, 156, 157, 158, 159, 160, 161, 162, 163, 164, 165, 166, 167, 168, 169, 170, 171, 172, 173, 174, 175, 176, 177, 178, 179, 180, 181, 182, 183, 184, 185, 186, 187, 188, 189, 190, 191, 192, 193, 194, 195, 196, 197, 198, 199, 200, 201] (fun x : Nat × List Vl × Tok × MSt × Tok => [(15, .sl 7 (x.2.1.map Vl.pv) (some x.2.2.1)), (16, .int .i64 x.1)]) (fun x : Nat × List Vl × Tok × MSt × Tok => .tok x.2.2.1 :: .box b2 [.int .i64 0, .int .i64 0, .int .i64 0, .str [], .nil, .np, .np] :: .box b1 [.int .i64 t.op, .int .i64 t.n, .sl 1 (t.v.map (PV.int .i64)) none, .sl 4 (t.t.map Trm.pv) none] :: mcE b K x.2.2.2.2 x.2.2.2.1)
   (fun x => x.1 ≤ t.v.length ∧ x.2.2.1.e = 140 ∧ x.2.1.length = x.1 ∧ P az x.1 x.2.1 x.2.2.2.1 x.2.2.2.2) (fun x => t.v.length - x.1) (0, [], nilTok 7 140, addM s (hpU s.h (t.op == 7) az), tk) ⟨Nat.zero_le _, rfl, rfl, hP0⟩ wA ?_
  rintro ⟨i, m, t1, s1, tk1⟩ ⟨hi, ht, hm, hPi⟩
  dsimp only at hi ht hm hPi ⊢
  have hml : m.length ≤ 1000000000 := by omega
  conv => whnf
  repeat' (first|refine aA2 ?_|(refine zX (fun hc=>?_) (fun hc=>?_)<;>(try simp only [SY] at hc)<;>(conv=>whnf)))
  ·exact absurd hc.2 (h19 _ (List.getElem_mem _))
  ·have h1 : i < t.v.length := by omega
   refine PCall.goT (H az i m s1 tk1 hPi h1) (WkT.refl _) ?_
   rintro _ _ ⟨x, c, s', tk', rfl, rfl, hq, hr⟩
   by_cases hc0 : c = 0
   ·subst hc0
    obtain ⟨hn, hP'⟩ := hr rfl
    by_cases hnow : t.op = 9 ∨ t.n = 1
    ·obtain ⟨a, y, r, hf, hg⟩ := hn hnow
     rw [if_pos hnow] at hP'
     unfold stoM at hP'
     rw [hf] at hP'
     have hp := place_c _ _ _ hf
     obtain ⟨put, hpb, hpu⟩ := hpE_box hg
     conv => whnf
     repeat' (first|refine aA2 ?_|((first|((apply zZ);(conv=>whnf);(repeat ((refine pC (hp) wR ?_);conv=>whnf));exact pZ)|refine normN nC ?_|refine normN nD ?_|refine drMr07faa ?_|intro _);conv=>whnf)|(refine zX (fun hc=>?_) (fun hc=>?_)<;>(try simp only [SY] at hc)<;>first|omega|(conv=>whnf)))
     all_goals try (exfalso; omega)
     rw [hpu x]
     rename_i t2 ht2
     exact loopTo (i + 1, m ++ [x], t2, addM s' (hput s'.h a x), tk') ⟨by show i + 1 ≤ _; omega, ht2, by show (m ++ [x]).length = i + 1; simp; omega, hP'⟩ (by show t.v.length - (i + 1) < t.v.length - i; omega) wA
    ·rw [if_neg hnow] at hP'
     conv => whnf
     repeat' (first|refine aA2 ?_|((first|refine normN nC ?_|refine normN nD ?_|intro _);conv=>whnf)|(refine zX (fun hc=>?_) (fun hc=>?_)<;>(try simp only [SY] at hc)<;>first|omega|(conv=>whnf)))
     all_goals try (exfalso; omega)
     rename_i t2 ht2
     exact loopTo (i + 1, m ++ [x], t2, s', tk') ⟨by show i + 1 ≤ _; omega, ht2, by show (m ++ [x]).length = i + 1; simp; omega, hP'⟩ (by show t.v.length - (i + 1) < t.v.length - i; omega) wA
   ·conv => whnf
    repeat' (first|refine aA2 ?_|((first|refine normN nC ?_|refine normN nD ?_|intro _);conv=>whnf)|(refine zX (fun hc=>?_) (fun hc=>?_)<;>(try simp only [SY] at hc)<;>first|omega|(conv=>whnf)))
    exact PRet.gen (y := .tup [.agg (valC zerV), .int .i64 c]) (Γ' := mcE b K tk' s') WkR.res ⟨zerV, c, s', tk', rfl, rfl, hq hc0⟩
  ·have hi2 : i = t.v.length := by omega
   subst hi2
   obtain ⟨hpl, hev⟩ := HE az m s1 tk1 hPi hm
   by_cases hsto : t.op = 7 ∧ t.n = 0
   ·rw [if_pos hsto] at hev
    refine PLoop.over [21, 202, 203, 204, 205, 206, 207, 208, 209, 210, 211, 212, 213, 214, 215, 216, 217, 218, 219, 220, 221, 222, 223, 224, 225, 226, 227, 228, 229] (fun x : Nat × MSt => [(21, .int .i64 x.1)]) (fun x : Nat × MSt => .tok t1 :: .box b2 [.int .i64 0, .int .i64 0, .int .i64 0, .str [], .nil, .np, .np] :: .box b1 [.int .i64 t.op, .int .i64 t.n, .sl 1 (t.v.map (PV.int .i64)) none, .sl 4 (t.t.map Trm.pv) none] :: mcE b K tk1 x.2)
     (fun x => x.1 ≤ t.v.length ∧ stosM x.2 (extM e t.v az) (t.v.drop x.1) (m.drop x.1) = stosM s1 (extM e t.v az) t.v m ∧ plcP x.2.h (extM e t.v az) t.v) (fun x => t.v.length - x.1) (0, s1) ⟨Nat.zero_le _, rfl, hpl hsto⟩ wA ?_
    rintro ⟨j, s2⟩ ⟨hj, hst, hok⟩
    dsimp only at hj hst hok ⊢
    by_cases hjl : j < t.v.length
    ·obtain ⟨a, hf, y, r, hg⟩ := hok (t.v[j]'hjl) (List.getElem_mem _)
     have hp := place_c _ _ _ hf
     obtain ⟨put, hpb, hpu⟩ := hpE_box hg
     conv => whnf
     repeat' (first|refine aA2 ?_|((first|((apply zZ);(conv=>whnf);(repeat ((refine pC (hp) wR ?_);conv=>whnf));exact pZ)|refine normN nC ?_|refine normN nD ?_|refine drMr07faa ?_);conv=>whnf)|(refine zX (fun hc=>?_) (fun hc=>?_)<;>(try simp only [SY] at hc)<;>first|omega|(conv=>whnf)))
     all_goals try (exfalso; omega)
     have hjm : j < m.length := by omega
     rw [drop_at hjl, drop_at hjm, stosM] at hst
     unfold stoM at hst
     rw [hf] at hst
     rw [hpu m[j]]
     exact loopTo (j + 1, addM s2 (hput s2.h a m[j])) ⟨by show j + 1 ≤ _; omega, hst, hok.put a _⟩ (by show t.v.length - (j + 1) < t.v.length - j; omega) wA
    ·rw [List.drop_of_length_le (by omega), List.drop_of_length_le (by omega)] at hst
     rw [← show s2 = stosM s1 (extM e t.v az) t.v m from hst] at hev
     conv => whnf
     repeat' (first|refine aA2 ?_|(refine zX (fun hc=>?_) (fun hc=>?_)<;>(try simp only [SY] at hc)<;>first|omega|(conv=>whnf)))
     all_goals try (exfalso; omega)
     refine PCall.goT hev (WkT.refl _) ?_
     rintro _ _ ⟨x', c', s'', tk'', rfl, rfl, hq⟩
     conv => whnf
     repeat' (first|refine aA2 ?_|((first|refine normN nC ?_|refine normN nD ?_);conv=>whnf)|(refine zX (fun hc=>?_) (fun hc=>?_)<;>(try simp only [SY] at hc)<;>omega))
     all_goals exact PRet.gen (y := .tup [.agg (valC x'), .int .i64 c']) (Γ' := mcE b K tk'' s'') (Wk.refl _) ⟨x', c', s'', tk'', rfl, rfl, hq⟩
   ·rw [if_neg hsto] at hev
    refine PLoop.over [21, 202, 203, 204, 205, 206, 207, 208, 209, 210, 211, 212, 213, 214, 215, 216, 217, 218, 219, 220, 221, 222, 223, 224, 225, 226, 227, 228, 229] (fun _ : Unit => [(21, .int .i64 0)]) (fun _ : Unit => .tok t1 :: .box b2 [.int .i64 0, .int .i64 0, .int .i64 0, .str [], .nil, .np, .np] :: .box b1 [.int .i64 t.op, .int .i64 t.n, .sl 1 (t.v.map (PV.int .i64)) none, .sl 4 (t.t.map Trm.pv) none] :: mcE b K tk1 s1) (fun _ => True) (fun _ => 0) () trivial wA ?_
    rintro ⟨⟩ _
    conv => whnf
    repeat' (first|refine aA2 ?_|(refine zX (fun hc=>?_) (fun hc=>?_)<;>(try simp only [SY] at hc)<;>first|omega|(conv=>whnf)))
    all_goals try (exfalso; omega)
    refine PCall.goT hev (WkT.refl _) ?_
    rintro _ _ ⟨x', c', s'', tk'', rfl, rfl, hq⟩
    conv => whnf
    repeat' (first|refine aA2 ?_|((first|refine normN nC ?_|refine normN nD ?_);conv=>whnf)|(refine zX (fun hc=>?_) (fun hc=>?_)<;>(try simp only [SY] at hc)<;>omega))
    all_goals exact PRet.gen (y := .tup [.agg (valC x'), .int .i64 c']) (Γ' := mcE b K tk'' s'') (Wk.refl _) ⟨x', c', s'', tk'', rfl, rfl, hq⟩
end
end Go.Cb
namespace Go.Cb
open Go.Proofs
set_option maxRecDepth 100000
set_option maxHeartbeats 4000000
def endV (x : Vl) (c : Int) (s : MSt) : List UInt8 := if c = 0 then txtV x else if c = 7 then txtV s.val else []
theorem runR_c (cs : List Datum) (hcs : ∀ d ∈ cs, d.sz ≤ 1000000000) (hlc : cs.length ≤ 1000000) (t : Trm) (fuel : Int) (R : Vl → Int → MSt → Prop)
  (hev : ∀ (b : Nat) (tk : Tok), tk.e = 4 → tk.s = 1 → ACall Tryz.prog 87 [.ptr b 0, .agg t.cells, .np, .nil] (mcE b (cs.map valV) tk (mc0 fuel)) (RetR b (cs.map valV) fun x c s' _ => (c = 0 → x.tx = true) ∧ (c = 7 → s'.val.tx = true) ∧ R x c s')) :
  ACall Tryz.prog 51 [.sl 5 (cs.map Datum.pv) none, .nil, .agg t.cells, .int .i64 fuel] [] (fun y Γ' => ∃ x c s', R x c s' ∧ y = .agg [.str s'.out, .int .i64 c, .str (endV x c s')] ∧ Γ' = []) := by
 refine ACall.of_body tt_ok Tryz.func51 rfl rfl (n := 65) rfl rfl ?_
 conv => whnf
 repeat' (first|((intro _);conv=>whnf)|(refine zX (fun hc=>?_) (fun hc=>?_)<;>(try simp only [SY] at hc)<;>omega))
 rename_i b6 b8 b9
 refine PLoop.gh (Ghost.trans (Ghost.nilRowV _) (Ghost.box (b := b9) (cs := [.nil, .nil, .int .i64 fuel, .str [], .nil, .int .i64 0, .int .i64 0, .int .i64 0, .int .i64 0, .str [], .nil, .np, .np]) (cs' := [.ms (nilTok 7 140), .nil, .int .i64 fuel, .str [], .nil, .int .i64 0, .int .i64 0, .int .i64 0, .int .i64 0, .str [], .nil, .np, .np]) (.cons (Wk.nilRow _ _) (WkL.refl _)))) ?_
 refine PLoop.over [10, 18, 19, 20, 21, 22, 23, 24, 25, 26, 27, 28, 29, 30, 31, 32, 33, 34, 35, 36, 37, 38] (fun x : Nat × List Vl × Tok => [(10, .int .i64 x.1)]) (fun x : Nat × List Vl × Tok => [.box b9 [.ms x.2.2, .nil, .int .i64 fuel, .str [], .nil, .int .i64 0, .int .i64 0, .int .i64 0, .int .i64 0, .str [], .nil, .np, .np], .row x.2.2 (x.2.1.map Vl.pv), .box b8 [.str [], .int .i64 0, .str []], .box b6 [.int .i64 t.op, .int .i64 t.n, .sl 1 (t.v.map (PV.int .i64)) none, .sl 4 (t.t.map Trm.pv) none]])
  (fun x => x.1 ≤ cs.length ∧ x.2.2.e = 140 ∧ x.2.2.s = 7 ∧ x.2.1 = (cs.map valV).take x.1) (fun x => cs.length - x.1) (0, [], nilTok 7 140) ⟨Nat.zero_le _, rfl, rfl, rfl⟩ wA ?_
 rintro ⟨i, m, tk⟩ ⟨hi, he, hs, hm⟩
 dsimp only at hi he hs hm ⊢
 have hml : m.length = i := by rw [hm, List.length_take]; simp; omega
 conv => whnf
 repeat' (first|refine aA2 ?_|((intro _);conv=>whnf)|(refine zX (fun hc=>?_) (fun hc=>?_)<;>(try simp only [SY] at hc)<;>(conv=>whnf)))
 ·have hlt : i < cs.length := by omega
  have hv := value_c _ (hcs _ (List.getElem_mem hlt))
  have hsl := set_lastV m (Vl.mk 0 0 0 [] [] none none) (valV cs[i])
  have hcl2 : (m ++ [(Vl.mk 0 0 0 [] [] none none)]).length = m.length + 1 := by simp
  refine PDraw.tree tt_ok mixed [0, 1, 3, 7, 0, 0, 48, 112, 240, 15, 0, 2047, 4095, 8191, 4095, 20479, 53247] [0, 1, 2, 4, 5, 6, 7, 8, 10] [3, 9, 11, 12, 13, 14, 15, 16] [.box b9 [.ms tk, .nil, .int .i64 fuel, .str [], .nil, .int .i64 0, .int .i64 0, .int .i64 0, .int .i64 0, .str [], .nil, .np, .np], .row tk (m.map Vl.pv)] ?_
  conv => whnf
  conv => whnf
  repeat' (first|((first|((apply zZ);first|exact tB|((conv=>whnf);(repeat ((refine pC (hv) wR ?_);conv=>whnf));exact pZ))|refine aM ?_|(refine And.intro ?_ ?_)|(refine PLenM.map fun _ => ?_)|refine aF ?_|intro _);conv=>whnf)|(refine zX (fun hc=>?_) (fun hc=>?_)<;>(try simp only [SY] at hc)<;>omega))
  all_goals try exact trivial
  all_goals
   rw [hsl]
   have hmm : m ++ [valV cs[i]] = (cs.map valV).take (i + 1) := by rw [List.take_succ_eq_append_getElem (by simp; omega), ← hm]; simp
   rename_i tk2 e2 s2
   exact loopTo (i + 1, m ++ [valV cs[i]], tk2) ⟨by show i + 1 ≤ _; omega, e2, s2, hmm⟩ (by show cs.length - (i + 1) < cs.length - i; omega) wA
 ·obtain rfl : i = cs.length := by omega
  rw [List.take_of_length_le (by simp)] at hm
  subst hm
  refine PCall.goGT (Γ1 := [.box b9 (mcB (cs.map valV) (nilTok 1 4) (mc0 fuel)), .row (nilTok 1 4) (([] : List Bool).map PV.bool)]) (Ghost.trans (Ghost.freezeRow (t := tk) (es := (cs.map valV).map Vl.pv) (b := b9) (cs := [.ms tk, .nil, .int .i64 fuel, .str [], .nil, .int .i64 0, .int .i64 0, .int .i64 0, .int .i64 0, .str [], .nil, .np, .np]) (cs' := [.sl 7 ((cs.map valV).map Vl.pv) none, .nil, .int .i64 fuel, .str [], .nil, .int .i64 0, .int .i64 0, .int .i64 0, .int .i64 0, .str [], .nil, .np, .np])
    (.cons (WkF.ms' hs) (.cons (.of (Wk.refl _)) (.cons (.of (Wk.refl _)) (.cons (.of (Wk.refl _)) (.cons (.of (Wk.refl _)) (.cons (.of (Wk.refl _)) (.cons (.of (Wk.refl _)) (.cons (.of (Wk.refl _)) (.cons (.of (Wk.refl _)) (.cons (.of (Wk.refl _)) (.cons (.of (Wk.refl _)) (.cons (.of (Wk.refl _)) (.cons (.of (Wk.refl _)) .nil))))))))))))))
   (Ghost.trans (Ghost.nilRowB _) (Ghost.box (b := b9) (cs := [.sl 7 ((cs.map valV).map Vl.pv) none, .nil, .int .i64 fuel, .str [], .nil, .int .i64 0, .int .i64 0, .int .i64 0, .int .i64 0, .str [], .nil, .np, .np]) (cs' := mcB (cs.map valV) (nilTok 1 4) (mc0 fuel))
    (.cons (Wk.refl _) (.cons (Wk.refl _) (.cons (Wk.refl _) (.cons (Wk.refl _) (.cons (Wk.nilRow _ _) (.cons (Wk.refl _) (.cons (Wk.refl _) (.cons (Wk.refl _) (.cons (Wk.refl _) (.cons (Wk.refl _) (.cons (Wk.nil' rfl) (.cons (Wk.refl _) (.cons (Wk.refl _) .nil))))))))))))))))
   (hev b9 (nilTok 1 4) rfl rfl) (WkT.refl _) ?_
  rintro _ _ ⟨x, c, s', tk', rfl, rfl, hx0, hx7, hR⟩
  by_cases h0 : c = 0
  ·subst h0
   have htx6 := text6_c x (hx0 rfl)
   conv => whnf
   repeat' (first|refine aA2 ?_|((first|refine normN nC ?_|refine normN nD ?_|refine pC (htx6) wR ?_|intro _);conv=>whnf)|(refine zX (fun hc=>?_) (fun hc=>?_)<;>(try simp only [SY] at hc)<;>first|omega|(conv=>whnf)))
   exact PRet.gen (y := .agg [.str s'.out, .int .i64 0, .str (txtV x)]) (Γ' := []) (Wk.refl _) ⟨x, 0, s', hR, rfl, rfl⟩
  ·by_cases h7 : c = 7
   ·subst h7
    have htx6 := text6_c s'.val (hx7 rfl)
    conv => whnf
    repeat' (first|refine aA2 ?_|((first|refine normN nC ?_|refine normN nD ?_|refine pC (htx6) wR ?_|intro _);conv=>whnf)|(refine zX (fun hc=>?_) (fun hc=>?_)<;>(try simp only [SY] at hc)<;>first|omega|(conv=>whnf)))
    exact PRet.gen (y := .agg [.str s'.out, .int .i64 7, .str (txtV s'.val)]) (Γ' := []) (Wk.refl _) ⟨x, 7, s', hR, rfl, rfl⟩
   ·have htx6 := text6_c zerV rfl
    conv => whnf
    repeat' (first|refine aA2 ?_|((first|refine normN nC ?_|refine normN nD ?_|intro _);conv=>whnf)|(refine zX (fun hc=>?_) (fun hc=>?_)<;>(try simp only [SY] at hc)<;>first|omega|(conv=>whnf)))
    exact PRet.gen (y := .agg [.str s'.out, .int .i64 c, .str []]) (Γ' := []) (Wk.refl _) ⟨x, c, s', hR, by unfold endV; rw [if_neg h0, if_neg h7], rfl⟩
theorem RunR_c (p : Prog) (hcs : ∀ d ∈ p.consts, d.sz ≤ 1000000000) (hlc : p.consts.length ≤ 1000000) (fuel : Int) (R : Vl → Int → MSt → Prop)
  (hev : ∀ (b : Nat) (tk : Tok), tk.e = 4 → tk.s = 1 → ACall Tryz.prog 87 [.ptr b 0, .agg p.body.cells, .np, .nil] (mcE b (p.consts.map valV) tk (mc0 fuel)) (RetR b (p.consts.map valV) fun x c s' _ => (c = 0 → x.tx = true) ∧ (c = 7 → s'.val.tx = true) ∧ R x c s')) :
  ACall Tryz.prog 29 [.agg p.cells, .int .i64 fuel] [] (fun y Γ' => ∃ x c s', R x c s' ∧ y = .agg [.str s'.out, .int .i64 c, .str (endV x c s')] ∧ Γ' = []) := by
 have hr := runR_c p.consts hcs hlc p.body fuel R hev
 refine ACall.of_body tt_ok Tryz.func29 rfl rfl (n := 11) rfl rfl ?_
 conv => whnf
 repeat' (first|refine aA2 ?_|((intro _);conv=>whnf)|(refine zX (fun hc=>?_) (fun hc=>?_)<;>(try simp only [SY] at hc)<;>omega))
 refine PCall.go (Γ1 := []) hr (WkT.refl _) ?_
 rintro _ _ ⟨x, c, s', hR, rfl, rfl⟩
 conv => whnf
 repeat' (first|refine aA2 ?_|(refine zX (fun hc=>?_) (fun hc=>?_)<;>(try simp only [SY] at hc)<;>omega))
 exact PRet.gen (y := .agg [.str s'.out, .int .i64 c, .str (endV x c s')]) (Γ' := []) (Wk.refl _) ⟨x, c, s', hR, rfl, rfl⟩
end Go.Cb
namespace Go.Cb
open Go.Proofs
set_option maxRecDepth 100000
set_option maxHeartbeats 4000000
def VOk (lv cs C : Int) (s : MSt) (x : Vl) : Prop := x.ok lv cs (C - s.fuel) s.alive.length (inH s.h)
structure MOk (lv cs C : Int) (s : MSt) : Prop where
 fu : 0 ≤ s.fuel
 bd : s.fuel + 20002 ≤ C
 vl : VOk lv cs C s s.val
 hp : ∀ a x r, hget s.h a = some (x, r) → VOk lv cs C s x
 ou : (s.out.length : Int) ≤ 1001 * (C - s.fuel)
section
variable {lv cs C C' : Int} {s s' : MSt}
theorem VOk.up {x : Vl} (hg : Grow s s') (hC : C - s.fuel ≤ C' - s'.fuel) (h : VOk lv cs C s x) : VOk lv cs C' s' x :=
 Vl.ok_mono hC (by have := hg.1; omega) hg.2.1 x h
theorem VOk.grow {x : Vl} (hg : Grow s s') (hC : C ≤ C') (h : VOk lv cs C s x) : VOk lv cs C' s' x := h.up hg (by have := hg.2.2; omega)
theorem MOk.up (hC : C ≤ C') (h : MOk lv cs C s) : MOk lv cs C' s :=
 ⟨h.fu, by have := h.bd; omega, h.vl.grow (Grow.refl _) hC, fun a x r hx => (h.hp a x r hx).grow (Grow.refl _) hC, by have := h.ou; omega⟩
theorem MOk.less (h0 : 0 < s.fuel) (h : MOk lv cs C s) : MOk lv cs (C - 1) (lessM s) := by
 have e : (lessM s).fuel = s.fuel - 1 := rfl
 have up : ∀ {x : Vl}, VOk lv cs C s x → VOk lv cs (C - 1) (lessM s) x := fun {x} hx => VOk.up (C := C) (C' := C - 1) (s := s) (s' := lessM s) ⟨Nat.le_refl _, fun _ h => h, by rw [e]; omega⟩ (by rw [e]; omega) hx
 exact ⟨by rw [e]; omega, by have := h.bd; rw [e]; omega, up h.vl, fun a x r hx => up (h.hp a x r hx), by have := h.ou; rw [e]; show (s.out.length : Int) ≤ _; omega⟩
theorem MOk.set {h' : Hp} (h : MOk lv cs C s) (hg : Grow s (addM s h')) (hx : ∀ a x r, hget h' a = some (x, r) → (∃ r, hget s.h a = some (x, r)) ∨ VOk lv cs C s x) : MOk lv cs C (addM s h') :=
 ⟨h.fu, h.bd, h.vl.grow hg (Int.le_refl _), fun a x r hh => by
  rcases hx a x r hh with ⟨r', h1⟩ | h1
  ·exact (h.hp a x r' h1).grow hg (Int.le_refl _)
  ·exact h1.grow hg (Int.le_refl _), h.ou⟩
theorem hget_put {h : Hp} {b : Nat} {z : Vl} : ∀ {a : Nat} {x : Vl} {r : Bool}, hget (hput h b z) a = some (x, r) → x = z ∨ hget h a = some (x, r) := by
 induction h with
 | nil => intro a x r hx; rw [hput] at hx; exact .inr hx
 | cons c h ih =>
  obtain ⟨c, w, q⟩ := c
  intro a x r hx
  rw [hput] at hx
  by_cases hcb : c = b
  ·rw [if_pos hcb, hget] at hx
   rw [hget]
   by_cases hca : c = a
   ·rw [if_pos hca] at hx
    exact .inl (Prod.mk.inj (Option.some.inj hx)).1.symm
   ·rw [if_neg hca] at hx ⊢
    exact .inr hx
  ·rw [if_neg hcb, hget] at hx
   rw [hget]
   by_cases hca : c = a
   ·rw [if_pos hca] at hx ⊢
    exact .inr hx
   ·rw [if_neg hca] at hx ⊢
    exact ih hx
theorem hget_cons {h : Hp} {b : Nat} {z : Vl} {q : Bool} {a : Nat} {x : Vl} {r : Bool} (hx : hget ((b, z, q) :: h) a = some (x, r)) : x = z ∨ hget h a = some (x, r) := by
 rw [hget] at hx
 by_cases hb : b = a
 ·rw [if_pos hb] at hx
  exact .inl (Prod.mk.inj (Option.some.inj hx)).1.symm
 ·rw [if_neg hb] at hx
  exact .inr hx
theorem hget_hpM : ∀ {vs : List Vl} {az : List Nat} {h : Hp} {a : Nat} {x : Vl} {r : Bool}, hget (hpM h vs az) a = some (x, r) → x ∈ vs ∨ hget h a = some (x, r)
 | [], az, h, a, x, r, hx => .inr (by cases az <;> exact hx)
 | v :: vs, [], h, a, x, r, hx => .inr hx
 | v :: vs, b :: az, h, a, x, r, hx => by
  rw [hpM] at hx
  rcases hget_hpM hx with h1 | h1
  ·exact .inl (List.mem_cons_of_mem _ h1)
  ·rcases hget_cons h1 with rfl | h1
   ·exact .inl (List.mem_cons_self ..)
   ·exact .inr h1
theorem hget_hpU : ∀ {az : List Nat} {h : Hp} {q : Bool} {a : Nat} {x : Vl} {r : Bool}, hget (hpU h q az) a = some (x, r) → x = kndV 12 ∨ hget h a = some (x, r)
 | [], h, q, a, x, r, hx => .inr hx
 | b :: az, h, q, a, x, r, hx => by
  rw [hpU] at hx
  rcases hget_hpU hx with h1 | h1
  ·exact .inl h1
  ·exact hget_cons h1
theorem MOk.hpM {vs : List Vl} {az : List Nat} (h : MOk lv cs C s) (hv : ∀ x ∈ vs, VOk lv cs C s x) : MOk lv cs C (addM s (Go.Cb.hpM s.h vs az)) :=
 h.set (Grow.hpM _ _ _) fun a x r hx => (hget_hpM hx).elim (fun h1 => .inr (hv x h1)) fun h1 => .inl ⟨r, h1⟩
theorem MOk.nn (h : MOk lv cs C s) : 2 ≤ C - s.fuel := by have := h.bd; omega
theorem MOk.knd {k : Int} (h : MOk lv cs C s) (hk : k = 0 ∨ k = 4 ∨ k = 5 ∨ k = 12) : VOk lv cs C s (kndV k) := kndV_ok (by have := h.nn; omega) hk
theorem MOk.hpU {r : Bool} {az : List Nat} (h : MOk lv cs C s) : MOk lv cs C (addM s (Go.Cb.hpU s.h r az)) :=
 h.set (Grow.hpU _ _ _) fun a x r hx => (hget_hpU hx).elim (fun h1 => .inr (by rw [h1]; exact h.knd (by decide))) fun h1 => .inl ⟨r, h1⟩
theorem MOk.put {a : Nat} {z : Vl} (h : MOk lv cs C s) (hz : VOk lv cs C s z) : MOk lv cs C (addM s (hput s.h a z)) :=
 h.set (Grow.put _ _ _) fun a x r hx => (hget_put hx).elim (fun h1 => .inr (by rw [h1]; exact hz)) fun h1 => .inl ⟨r, h1⟩
theorem MOk.new {a : Nat} {z : Vl} (h : MOk lv cs C s) (hz : VOk lv cs C s z) : MOk lv cs C (addM s ((a, z, false) :: s.h)) :=
 h.set (Grow.box _ _ _) fun a x r hx => (hget_cons hx).elim (fun h1 => .inr (by rw [h1]; exact hz)) fun h1 => .inl ⟨r, h1⟩
theorem MOk.sto {e : EnvM} {v : Int} {z : Vl} (h : MOk lv cs C s) (hz : VOk lv cs C s z) : MOk lv cs C (stoM s e v z) := by
 unfold stoM
 split
 ·exact h
 ·exact h.put hz
theorem MOk.stoI {b : Prop} [Decidable b] {e : EnvM} {v : Int} {z : Vl} (h : MOk lv cs C s) (hz : VOk lv cs C s z) : MOk lv cs C (if b then stoM s e v z else s) := by
 split
 ·exact h.sto hz
 ·exact h
end
theorem MOk.stos {lv cs C : Int} {e : EnvM} : ∀ {vs : List Int} {xs : List Vl} {s : MSt}, MOk lv cs C s → (∀ x ∈ xs, VOk lv cs C s x) → MOk lv cs C (stosM s e vs xs)
 | [], _, s, h, _ => by unfold stosM; exact h
 | _ :: _, [], s, h, _ => by unfold stosM; exact h
 | v :: vs, x :: xs, s, h, hx => by
  rw [stosM]
  exact (h.sto (hx x (List.mem_cons_self ..))).stos fun y hy => (hx y (List.mem_cons_of_mem _ hy)).grow (Grow.sto _ _ _ _) (Int.le_refl _)
theorem MOk.stosI {lv cs C : Int} {s : MSt} {b : Prop} [Decidable b] {e : EnvM} {vs : List Int} {xs : List Vl} (h : MOk lv cs C s) (hz : ∀ x ∈ xs, VOk lv cs C s x) : MOk lv cs C (if b then stosM s e vs xs else s) := by
 split
 ·exact h.stos hz
 ·exact h
theorem stoM_al (s : MSt) (e : EnvM) (v : Int) (x : Vl) : (stoM s e v x).alive = s.alive ∧ (stoM s e v x).fuel = s.fuel := by
 unfold stoM
 split <;> exact ⟨rfl, rfl⟩
theorem stosM_al (e : EnvM) : ∀ (vs : List Int) (xs : List Vl) (s : MSt), (stosM s e vs xs).alive = s.alive ∧ (stosM s e vs xs).fuel = s.fuel
 | [], _, s => by unfold stosM; exact ⟨rfl, rfl⟩
 | _ :: _, [], s => by unfold stosM; exact ⟨rfl, rfl⟩
 | v :: vs, x :: xs, s => by
  rw [stosM]
  have h1 := stosM_al e vs xs (stoM s e v x)
  have h2 := stoM_al s e v x
  exact ⟨h1.1.trans h2.1, h1.2.trans h2.2⟩
def oneE : List Vl → Bool
 | [x] => x.k == 10
 | _ => false
def Al (C k : Int) (s : MSt) : Prop := (s.alive.length : Int) ≤ 2 * (C - s.fuel) + k
def JOk (lv cs C : Int) : Jd → MSt → Prop
 | .ev t e, s => TE lv cs (inH s.h) t e ∧ Al C 0 s
 | .go t e, s => TE lv cs (inH s.h) t e ∧ Al C 0 s
 | .all l e, s => (∀ t ∈ l, TE lv cs (inH s.h) t e) ∧ Al C 0 s
 | .rc _ _ l e, s => (∀ t ∈ l, TE lv cs (inH s.h) t e) ∧ Al C 0 s
 | .str t l e, s => TE lv cs (inH s.h) t e ∧ (∀ x ∈ l, VOk lv cs C s x) ∧ (l.length : Int) ≤ C - s.fuel ∧ Al C 0 s
 | .call f l, s => VOk lv cs C s f ∧ (∀ x ∈ l, VOk lv cs C s x) ∧ (l.length : Int) ≤ C - s.fuel ∧ Al C (if f.k = 10 then 2 else if oneE l = true then 1 else 0) s
 | .prim _ l, s => (∀ x ∈ l, VOk lv cs C s x) ∧ (l.length : Int) ≤ C - s.fuel ∧ Al C (if oneE l = true then 1 else 0) s
def Jd.up : Jd → Int
 | .ev _ _ => 0
 | .all _ _ => 0
 | .rc _ _ _ _ => 0
 | _ => 1
def POk (lv cs C : Int) (vs : List Vl) (s' : MSt) : Prop := MOk lv cs C s' ∧ Al C 0 s' ∧ ∀ x ∈ vs, VOk lv cs C s' x
theorem POk.one {lv cs C : Int} {x : Vl} {s' : MSt} (h1 : MOk lv cs C s') (h2 : Al C 0 s') (h3 : VOk lv cs C s' x) : POk lv cs C [x] s' := ⟨h1, h2, fun y hy => by rw [List.mem_singleton.1 hy]; exact h3⟩
theorem POk.zer {lv cs C : Int} {s' : MSt} (h1 : MOk lv cs C s') (h2 : Al C 0 s') : POk lv cs C [zerV] s' := POk.one h1 h2 (h1.knd (.inl rfl))
theorem Al.up {C C' k k' : Int} {s : MSt} (hC : C ≤ C') (hk : k + 2 * C ≤ k' + 2 * C') (h : Al C k s) : Al C' k' s := by
 unfold Al at *
 omega
theorem Ev.len {K : List Vl} {j : Jd} {s : MSt} {vs : List Vl} {c : Int} {s' : MSt} (h : Ev K j s vs c s') : c = 0 → match j with
  | .all l _ => vs.length = l.length
  | .rc _ ns l _ => vs.length = l.length ∧ vs.length = ns.length
  | _ => ∃ x, vs = [x] := by
 induction h with
 | allC _ _ _ i2 =>
  intro h0
  have := i2 h0
  dsimp only at this ⊢
  rw [List.length_cons, List.length_cons, this]
 | rcC _ _ _ i2 =>
  intro h0
  have := i2 h0
  dsimp only at this ⊢
  rw [List.length_cons, List.length_cons, List.length_cons]
  omega
 | _ => first | (intro _; exact ⟨_, rfl⟩) | (intro h0; first | rfl | exact ⟨rfl, rfl⟩ | (exfalso; omega))
theorem TE.fit {lv cs : Int} {D : Nat → Prop} {t : Trm} {e : EnvM} (h : TE lv cs D t e) : t.fit := by
 obtain ⟨_, _, _, _, h3⟩ := h
 exact h3
theorem TE.lets {lv cs : Int} {D : Nat → Prop} {t : Trm} {e : EnvM} (h : TE lv cs D t e) (ho : t.op = 8) {l : List Trm} {b : Trm} (ht : t.t = l ++ [b]) (hl : l.length = t.v.length) : ∀ x ∈ l, TE lv cs D x e := fun x hx => by
 obtain ⟨i, hi, rfl⟩ := List.mem_iff_getElem.1 hx
 have h2 : i < t.t.length := by rw [ht, List.length_append]; omega
 have := h.outer ho i (by omega) h2
 have e1 : t.t[i] = l[i] := by simp only [ht, List.getElem_append_left hi]
 rw [← e1]
 exact this
theorem TE.last {lv cs : Int} {D D' : Nat → Prop} {t : Trm} {e : EnvM} (h : TE lv cs D t e) (ho : t.op = 7 ∨ t.op = 8 ∨ t.op = 9) {l : List Trm} {b : Trm} (ht : t.t = l ++ [b]) (hl : l.length = t.v.length) (hD : ∀ a, D a → D' a) (az : List Nat) (ha : az.length = t.v.length) (haz : ∀ a ∈ az, D' a) : TE lv cs D' b (extM e t.v az) := by
 have h2 : l.length < t.t.length := by rw [ht, List.length_append, List.length_singleton]; omega
 have := h.inner hD (by omega) l.length h2 (fun _ => hl) az ha haz
 have e1 : t.t[l.length] = b := by simp only [ht, List.getElem_append_right (Nat.le_refl _), Nat.sub_self, List.getElem_cons_zero]
 rw [← e1]
 exact this
theorem TE.recs {lv cs : Int} {D D' : Nat → Prop} {t : Trm} {e : EnvM} (h : TE lv cs D t e) (ho : t.op = 7 ∨ t.op = 9) {l : List Trm} {b : Trm} (ht : t.t = l ++ [b]) (hl : l.length = t.v.length) (hD : ∀ a, D a → D' a) (az : List Nat) (ha : az.length = t.v.length) (haz : ∀ a ∈ az, D' a) : ∀ x ∈ l, TE lv cs D' x (extM e t.v az) := fun x hx => by
 obtain ⟨i, hi, rfl⟩ := List.mem_iff_getElem.1 hx
 have h2 : i < t.t.length := by rw [ht, List.length_append]; omega
 have := h.inner hD (by omega) i h2 (by omega) az ha haz
 have e1 : t.t[i] = l[i] := by simp only [ht, List.getElem_append_left hi]
 rw [← e1]
 exact this
theorem inH_new : ∀ {vs : List Vl} {az : List Nat} {h : Hp}, az.length = vs.length → ∀ a ∈ az, inH (hpM h vs az) a
 | [], az, h, hl => by rw [List.eq_nil_of_length_eq_zero hl]; simp
 | v :: vs, [], h, hl => by simp
 | v :: vs, b :: az, h, hl => fun a ha => by
  rw [hpM]
  rcases List.mem_cons.1 ha with rfl | ha
  ·exact inH_hpM inH_head
  ·exact inH_new (by simpa using hl) a ha
theorem inU_new : ∀ {az : List Nat} {h : Hp} {r : Bool}, ∀ a ∈ az, inH (hpU h r az) a
 | [], h, r => by simp
 | b :: az, h, r => fun a ha => by
  rw [hpU]
  rcases List.mem_cons.1 ha with rfl | ha
  ·exact inH_hpU inH_head
  ·exact inU_new a ha
theorem sprV_len' {l xs : List Vl} {k : Nat} {r : Bool} (h1 : r = true → 1 ≤ k) (h : sprV l k r = some xs) : xs.length = k := by
 unfold sprV at h
 split at h
 ·rename_i hc
  have := h1 hc.1
  rw [← Option.some.inj h]
  simp
  omega
 ·split at h
  ·rename_i hc
   rw [← Option.some.inj h, hc.2]
  ·cases h
theorem escV_ok {lv cs C : Int} {s : MSt} (hN : 0 ≤ C - s.fuel) {id : Nat} (h : id < s.alive.length) : VOk lv cs C s (escV id) := by
 unfold VOk
 rw [Vl.ok_eq]
 refine ⟨⟨by rw [Vl.tx_eq]; exact ⟨⟨by show (0 : Int) ≤ 10; decide, by show (10 : Int) ≤ 12; decide⟩, fun h => absurd (show (10 : Int) = 6 from h) (by decide), Nat.zero_le _, fun y hy => by cases hy⟩, ?_, hN⟩, fun h => absurd (show (10 : Int) = 8 from h) (by decide), fun h => absurd (show (10 : Int) = 11 from h) (by decide), fun _ => ?_, fun y hy => by cases hy⟩
 ·rw [Vl.its_end _ (by show ¬(10 : Int) = 6; decide)]
  exact hN
 ·show (0 : Int) ≤ (id : Int) ∧ (id : Int) < s.alive.length
  omega
theorem escIn {lv cs C : Int} {s : MSt} {f : Vl} (hM : MOk lv cs C s) (hl : ∀ x ∈ [f], VOk lv cs C s x) (hA : Al C (if oneE [f] = true then 1 else 0) s) : MOk lv cs C ⟨s.fuel, s.out, s.alive ++ [true], s.to, s.val, s.h⟩ ∧ JOk lv cs C (.call f [escV s.alive.length]) ⟨s.fuel, s.out, s.alive ++ [true], s.to, s.val, s.h⟩ := by
 have hg := Grow.alive s
 have hN := hM.nn
 refine ⟨⟨hM.fu, hM.bd, hM.vl.grow hg (Int.le_refl _), fun a x r hx => (hM.hp a x r hx).grow hg (Int.le_refl _), hM.ou⟩, (hl f (List.mem_cons_self ..)).grow hg (Int.le_refl _), fun x hx => ?_, ?_, ?_⟩
 ·rw [List.mem_singleton.1 hx]
  exact escV_ok (by show 0 ≤ C - s.fuel; omega) (by show s.alive.length < (s.alive ++ [true]).length; simp)
 ·show (1 : Int) ≤ C - s.fuel
  omega
 ·have e : oneE [escV s.alive.length] = true := rfl
  rw [e]
  unfold Al at *
  dsimp only
  rw [List.length_append, List.length_singleton]
  simp only [oneE, beq_iff_eq] at hA
  split at hA <;> split <;> simp_all <;> omega
theorem Ev.keeps {lv cs : Int} (h2 : 0 ≤ lv ∧ lv ≤ 2) {K : List Vl} (hK : ∀ x ∈ K, x.ok lv cs 20002 0 fun _ => False) {j : Jd} {s : MSt} {vs : List Vl} {c : Int} {s' : MSt} (h : Ev K j s vs c s') : ∀ C, MOk lv cs C s → JOk lv cs C j s → POk lv cs (C + j.up) vs s' := by
 have su : ∀ C : Int, C ≤ C + 1 := fun C => by omega
 have sz : ∀ C : Int, C + 0 = C := fun C => by omega
 induction h with
 | dry _ =>
  rintro C hM ⟨hT, hA⟩
  rw [show C + Jd.up (.ev _ _) = C from sz C]
  exact POk.zer hM hA
 | ev h0 hnd hgo ih =>
  rintro C hM ⟨hT, hA⟩
  rw [show C + Jd.up (.ev _ _) = C from sz C]
  have := ih (C - 1) (hM.less h0) ⟨hT, by unfold Al at *; show (_ : Int) ≤ 2 * (C - 1 - (_ - 1)) + 0; dsimp only at *; omega⟩
  rw [show C - 1 + Jd.up (.go _ _) = C from by show C - 1 + 1 = C; omega] at this
  exact this
 | con ho hk =>
  rintro C hM ⟨hT, hA⟩
  show POk lv cs (C + 1) _ _
  refine POk.one (hM.up (su C)) (hA.up (su C) (by omega)) ?_
  have := hK _ (List.mem_of_getElem? hk)
  exact Vl.ok_mono (by have := hM.bd; show 20002 ≤ C + 1 - _; omega) (by omega) (fun _ h => h.elim) _ this
 | ref ho hf hg _ =>
  rintro C hM ⟨hT, hA⟩
  show POk lv cs (C + 1) _ _
  exact POk.one (hM.up (su C)) (hA.up (su C) (by omega)) ((hM.hp _ _ _ hg).grow (Grow.refl _) (su C))
 | refE => rintro C hM ⟨hT, hA⟩; show POk lv cs (C + 1) _ _; exact POk.zer (hM.up (su C)) (hA.up (su C) (by omega))
 | prf => rintro C hM ⟨hT, hA⟩; show POk lv cs (C + 1) _ _; exact POk.one (hM.up (su C)) (hA.up (su C) (by omega)) (prcV_ok (by have := (hM.up (su C)).nn; show 0 ≤ C + 1 - _; omega))
 | uns => rintro C hM ⟨hT, hA⟩; show POk lv cs (C + 1) _ _; exact POk.one (hM.up (su C)) (hA.up (su C) (by omega)) ((hM.up (su C)).knd (by decide))
 | lam ho hb =>
  rintro C hM ⟨hT, hA⟩
  show POk lv cs (C + 1) _ _
  have hc := hT.clo ho hb
  refine POk.one (hM.up (su C)) (hA.up (su C) (by omega)) ?_
  unfold VOk
  rw [Vl.ok_eq]
  have := (hM.up (su C)).nn
  refine ⟨⟨by rw [Vl.tx_eq]; exact ⟨⟨by show (0 : Int) ≤ 8; decide, by show (8 : Int) ≤ 12; decide⟩, fun h => absurd (show (8 : Int) = 6 from h) (by decide), Nat.zero_le _, fun y hy => by cases hy⟩, ?_, ?_⟩, fun _ => ⟨_, rfl, hc⟩, fun h => absurd (show (8 : Int) = 11 from h) (by decide), fun h => absurd (show (8 : Int) = 10 from h) (by decide), fun y hy => by cases hy⟩
  ·rw [Vl.its_end _ (by show ¬(8 : Int) = 6; decide)]
   show (0 : Int) ≤ _
   omega
  ·show (0 : Int) ≤ _
   omega
 | ifE ho ht _ _ i1 =>
  rintro C hM ⟨hT, hA⟩
  show POk lv cs (C + 1) _ _
  have h1 := i1 C hM ⟨hT.sub (by omega) (by rw [ht]; simp), hA⟩
  rw [show C + Jd.up (.ev _ _) = C from sz C] at h1
  exact POk.zer (h1.1.up (su C)) (h1.2.1.up (su C) (by omega))
 | ifF ho ht e1 _ _ i1 i2 =>
  rintro C hM ⟨hT, hA⟩
  show POk lv cs (C + 1) _ _
  have h1 := i1 C hM ⟨hT.sub (by omega) (by rw [ht]; simp), hA⟩
  rw [show C + Jd.up (.ev _ _) = C from sz C] at h1
  have h2 := i2 C h1.1 ⟨(hT.sub (by omega) (by rw [ht]; simp)).mono e1.grow.2.1, h1.2.1⟩
  rw [show C + Jd.up (.ev _ _) = C from sz C] at h2
  exact ⟨h2.1.up (su C), h2.2.1.up (su C) (by omega), fun x hx => (h2.2.2 x hx).grow (Grow.refl _) (su C)⟩
 | ifT ho ht e1 _ _ i1 i2 =>
  rintro C hM ⟨hT, hA⟩
  show POk lv cs (C + 1) _ _
  have h1 := i1 C hM ⟨hT.sub (by omega) (by rw [ht]; simp), hA⟩
  rw [show C + Jd.up (.ev _ _) = C from sz C] at h1
  have h2 := i2 C h1.1 ⟨(hT.sub (by omega) (by rw [ht]; simp)).mono e1.grow.2.1, h1.2.1⟩
  rw [show C + Jd.up (.ev _ _) = C from sz C] at h2
  exact ⟨h2.1.up (su C), h2.2.1.up (su C) (by omega), fun x hx => (h2.2.2 x hx).grow (Grow.refl _) (su C)⟩
 | ltE ho ht hl _ _ i1 =>
  rintro C hM ⟨hT, hA⟩
  show POk lv cs (C + 1) _ _
  have hin : ∀ x ∈ _, TE lv cs _ x _ := hT.lets ho ht hl
  have h1 := i1 C hM ⟨hin, hA⟩
  rw [show C + Jd.up (.all _ _) = C from sz C] at h1
  exact POk.zer (h1.1.up (su C)) (h1.2.1.up (su C) (by omega))
 | ltC ho ht hl e1 ha _ i1 i2 =>
  rintro C hM ⟨hT, hA⟩
  show POk lv cs (C + 1) _ _
  have h1 := i1 C hM ⟨hT.lets ho ht hl, hA⟩
  rw [show C + Jd.up (.all _ _) = C from sz C] at h1
  have hvl := e1.len rfl
  dsimp only at hvl
  have h2 := i2 C (h1.1.hpM h1.2.2) ⟨hT.last (by omega) ht hl (fun a hi => (e1.grow.trans (Grow.hpM _ _ _)).2.1 a hi) _ ha (inH_new (by omega)), h1.2.1⟩
  rw [show C + Jd.up (.ev _ _) = C from sz C] at h2
  exact ⟨h2.1.up (su C), h2.2.1.up (su C) (by omega), fun x hx => (h2.2.2 x hx).grow (Grow.refl _) (su C)⟩
 | fxE ho ht hl ha _ _ i1 =>
  rintro C hM ⟨hT, hA⟩
  show POk lv cs (C + 1) _ _
  have h1 := i1 C hM.hpU ⟨hT.recs ho ht hl (fun a hi => inH_hpU hi) _ ha inU_new, hA⟩
  rw [show C + Jd.up (.rc _ _ _ _) = C from sz C] at h1
  exact POk.zer (h1.1.up (su C)) (h1.2.1.up (su C) (by omega))
 | @fxC t e s l b az vs s1 v c s' ho ht hl ha e1 _ i1 i2 =>
  rintro C hM ⟨hT, hA⟩
  show POk lv cs (C + 1) _ _
  have h1 := i1 C hM.hpU ⟨hT.recs ho ht hl (fun a hi => inH_hpU hi) _ ha inU_new, hA⟩
  rw [show C + Jd.up (.rc _ _ _ _) = C from sz C] at h1
  have hg1 := Grow.stosI s1 (t.op = 7 ∧ t.n = 0) (extM e t.v az) t.v vs
  have hal : Al C 0 (if t.op = 7 ∧ t.n = 0 then stosM s1 (extM e t.v az) t.v vs else s1) := by
   have := stosM_al (extM e t.v az) t.v vs s1
   have h3 := h1.2.1
   unfold Al at *
   split
   ·rw [this.1, this.2]; exact h3
   ·exact h3
  have h2 := i2 C (h1.1.stosI h1.2.2) ⟨hT.last (by omega) ht hl (fun a hi => hg1.2.1 a (e1.grow.2.1 a (inH_hpU hi))) _ ha (fun a hi => hg1.2.1 a (e1.grow.2.1 a (inU_new a hi))), hal⟩
  rw [show C + Jd.up (.ev _ _) = C from sz C] at h2
  exact ⟨h2.1.up (su C), h2.2.1.up (su C) (by omega), fun x hx => (h2.2.2 x hx).grow (Grow.refl _) (su C)⟩
 | stE ho _ _ i1 =>
  rintro C hM ⟨hT, hA⟩
  show POk lv cs (C + 1) _ _
  have h1 := i1 C hM ⟨fun x hx => hT.sub (by omega) hx, hA⟩
  rw [show C + Jd.up (.all _ _) = C from sz C] at h1
  exact POk.zer (h1.1.up (su C)) (h1.2.1.up (su C) (by omega))
 | st ho e1 _ i1 i2 =>
  rintro C hM ⟨hT, hA⟩
  show POk lv cs (C + 1) _ _
  have h1 := i1 C hM ⟨fun x hx => hT.sub (by omega) hx, hA⟩
  rw [show C + Jd.up (.all _ _) = C from sz C] at h1
  have hvl := e1.len rfl
  dsimp only at hvl
  have hlen := (TE.fit hT).len.1
  have hb := h1.1.bd
  exact i2 C h1.1 ⟨hT.mono e1.grow.2.1, h1.2.2, by rw [hvl]; omega, h1.2.1⟩
 | allN =>
  rintro C hM ⟨hT, hA⟩
  rw [show C + Jd.up (.all _ _) = C from sz C]
  exact ⟨hM, hA, fun x hx => by cases hx⟩
 | allE _ _ i1 =>
  rintro C hM ⟨hT, hA⟩
  rw [show C + Jd.up (.all _ _) = C from sz C]
  have h1 := i1 C hM ⟨hT _ (List.mem_cons_self ..), hA⟩
  rw [show C + Jd.up (.ev _ _) = C from sz C] at h1
  exact ⟨h1.1, h1.2.1, fun x hx => by cases hx⟩
 | allC e1 e2 i1 i2 =>
  rintro C hM ⟨hT, hA⟩
  rw [show C + Jd.up (.all _ _) = C from sz C]
  have h1 := i1 C hM ⟨hT _ (List.mem_cons_self ..), hA⟩
  rw [show C + Jd.up (.ev _ _) = C from sz C] at h1
  have h2 := i2 C h1.1 ⟨fun t ht => (hT t (List.mem_cons_of_mem _ ht)).mono e1.grow.2.1, h1.2.1⟩
  rw [show C + Jd.up (.all _ _) = C from sz C] at h2
  refine ⟨h2.1, h2.2.1, fun x hx => ?_⟩
  rcases List.mem_cons.1 hx with rfl | hx
  ·exact (h1.2.2 _ (List.mem_cons_self ..)).grow e2.grow (Int.le_refl _)
  ·exact h2.2.2 x hx
 | allX e1 _ _ i1 i2 =>
  rintro C hM ⟨hT, hA⟩
  rw [show C + Jd.up (.all _ _) = C from sz C]
  have h1 := i1 C hM ⟨hT _ (List.mem_cons_self ..), hA⟩
  rw [show C + Jd.up (.ev _ _) = C from sz C] at h1
  have h2 := i2 C h1.1 ⟨fun t ht => (hT t (List.mem_cons_of_mem _ ht)).mono e1.grow.2.1, h1.2.1⟩
  rw [show C + Jd.up (.all _ _) = C from sz C] at h2
  exact ⟨h2.1, h2.2.1, fun x hx => by cases hx⟩
 | rcN =>
  rintro C hM ⟨hT, hA⟩
  rw [show C + Jd.up (.rc _ _ _ _) = C from sz C]
  exact ⟨hM, hA, fun x hx => by cases hx⟩
 | rcE _ _ i1 =>
  rintro C hM ⟨hT, hA⟩
  rw [show C + Jd.up (.rc _ _ _ _) = C from sz C]
  have h1 := i1 C hM ⟨hT _ (List.mem_cons_self ..), hA⟩
  rw [show C + Jd.up (.ev _ _) = C from sz C] at h1
  exact ⟨h1.1, h1.2.1, fun x hx => by cases hx⟩
 | @rcC now v vs t l e s x s1 xs s2 e1 e2 i1 i2 =>
  rintro C hM ⟨hT, hA⟩
  rw [show C + Jd.up (.rc _ _ _ _) = C from sz C]
  have h1 := i1 C hM ⟨hT _ (List.mem_cons_self ..), hA⟩
  rw [show C + Jd.up (.ev _ _) = C from sz C] at h1
  have hx := h1.2.2 _ (List.mem_cons_self ..)
  have hg := Grow.stoI s1 (now = true) e v x
  have hal : Al C 0 (if now = true then stoM s1 e v x else s1) := by
   have h3 := stoM_al s1 e v x
   have h4 := h1.2.1
   unfold Al at *
   split
   ·rw [h3.1, h3.2]; exact h4
   ·exact h4
  have h2 := i2 C (h1.1.stoI hx) ⟨fun t ht => (hT t (List.mem_cons_of_mem _ ht)).mono fun a ha => hg.2.1 a (e1.grow.2.1 a ha), hal⟩
  rw [show C + Jd.up (.rc _ _ _ _) = C from sz C] at h2
  refine ⟨h2.1, h2.2.1, fun y hy => ?_⟩
  rcases List.mem_cons.1 hy with rfl | hy
  ·exact hx.grow (hg.trans e2.grow) (Int.le_refl _)
  ·exact h2.2.2 y hy
 | @rcX now v vs t l e s x s1 xs c s2 e1 e2 _ i1 i2 =>
  rintro C hM ⟨hT, hA⟩
  rw [show C + Jd.up (.rc _ _ _ _) = C from sz C]
  have h1 := i1 C hM ⟨hT _ (List.mem_cons_self ..), hA⟩
  rw [show C + Jd.up (.ev _ _) = C from sz C] at h1
  have hx := h1.2.2 _ (List.mem_cons_self ..)
  have hg := Grow.stoI s1 (now = true) e v x
  have hal : Al C 0 (if now = true then stoM s1 e v x else s1) := by
   have h3 := stoM_al s1 e v x
   have h4 := h1.2.1
   unfold Al at *
   split
   ·rw [h3.1, h3.2]; exact h4
   ·exact h4
  have h2 := i2 C (h1.1.stoI hx) ⟨fun t ht => (hT t (List.mem_cons_of_mem _ ht)).mono fun a ha => hg.2.1 a (e1.grow.2.1 a ha), hal⟩
  rw [show C + Jd.up (.rc _ _ _ _) = C from sz C] at h2
  exact ⟨h2.1, h2.2.1, fun x hx => by cases hx⟩
 | seq =>
  rintro C hM ⟨hT, hl, hn, hA⟩
  show POk lv cs (C + 1) _ _
  exact POk.one (hM.up (su C)) (hA.up (su C) (by omega)) ((hl _ (by simp)).grow (Grow.refl _) (su C))
 | @stC t e s x a y r =>
  rintro C hM ⟨hT, hl, hn, hA⟩
  show POk lv cs (C + 1) _ _
  have hM' := (hM.put (a := a) (hl _ (List.mem_cons_self ..))).up (su C)
  exact POk.one hM' (hA.up (su C) (by omega)) (hM'.knd (by decide))
 | stX => rintro C hM ⟨hT, hl, hn, hA⟩; show POk lv cs (C + 1) _ _; exact POk.zer (hM.up (su C)) (hA.up (su C) (by omega))
 | chk =>
  rintro C hM ⟨hT, hl, hn, hA⟩
  show POk lv cs (C + 1) _ _
  exact POk.one (hM.up (su C)) (hA.up (su C) (by omega)) ((hl _ (by simp)).grow (Grow.refl _) (su C))
 | chkE => rintro C hM ⟨hT, hl, hn, hA⟩; show POk lv cs (C + 1) _ _; exact POk.zer (hM.up (su C)) (hA.up (su C) (by omega))
 | @box t e s x a ho hnd =>
  rintro C hM ⟨hT, hl, hn, hA⟩
  show POk lv cs (C + 1) _ _
  have hM' := (hM.new (a := a) (hl _ (List.mem_cons_self ..))).up (su C)
  refine POk.one hM' (hA.up (su C) (by omega)) ?_
  unfold VOk
  rw [Vl.ok_eq]
  have := hM'.nn
  refine ⟨⟨by rw [Vl.tx_eq]; exact ⟨⟨by show (0 : Int) ≤ 11; decide, by show (11 : Int) ≤ 12; decide⟩, fun h => absurd (show (11 : Int) = 6 from h) (by decide), Nat.zero_le _, fun y hy => by cases hy⟩, ?_, ?_⟩, fun h => absurd (show (11 : Int) = 8 from h) (by decide), fun _ => ⟨a, rfl, inH_head⟩, fun h => absurd (show (11 : Int) = 10 from h) (by decide), fun y hy => by cases hy⟩
  ·rw [Vl.its_end _ (by show ¬(11 : Int) = 6; decide)]
   show (0 : Int) ≤ _
   omega
  ·show (0 : Int) ≤ _
   omega
 | bad => rintro C hM ⟨hT, hl, hn, hA⟩; show POk lv cs (C + 1) _ _; exact POk.zer (hM.up (su C)) (hA.up (su C) (by omega))
 | get _ _ _ hg =>
  rintro C hM ⟨hT, hl, hn, hA⟩
  show POk lv cs (C + 1) _ _
  exact POk.one (hM.up (su C)) (hA.up (su C) (by omega)) ((hM.hp _ _ _ hg).grow (Grow.refl _) (su C))
 | @put t e s x z a y r =>
  rintro C hM ⟨hT, hl, hn, hA⟩
  show POk lv cs (C + 1) _ _
  have hM' := (hM.put (a := a) (hl _ (List.mem_cons_of_mem _ (List.mem_cons_self ..)))).up (su C)
  exact POk.one hM' (hA.up (su C) (by omega)) (hM'.knd (by decide))
 | putE => rintro C hM ⟨hT, hl, hn, hA⟩; show POk lv cs (C + 1) _ _; exact POk.zer (hM.up (su C)) (hA.up (su C) (by omega))
 | app _ _ i1 =>
  rintro C hM ⟨hT, hl, hn, hA⟩
  show POk lv cs (C + 1) _ _
  rw [List.length_cons] at hn
  exact i1 C hM ⟨hl _ (List.mem_cons_self ..), fun x hx => hl x (List.mem_cons_of_mem _ hx), by omega, hA.up (Int.le_refl _) (by split <;> (try split) <;> omega)⟩
 | prm _ _ i1 =>
  rintro C hM ⟨hT, hl, hn, hA⟩
  show POk lv cs (C + 1) _ _
  exact i1 C hM ⟨hl, hn, hA.up (Int.le_refl _) (by split <;> omega)⟩
 | calP hk _ i1 =>
  rintro C hM ⟨hf, hl, hn, hA⟩
  show POk lv cs (C + 1) _ _
  rw [if_neg (by omega)] at hA
  exact i1 C hM ⟨hl, hn, hA⟩
 | calN | calD =>
  rintro C hM ⟨hf, hl, hn, hA⟩
  show POk lv cs (C + 1) _ _
  exact POk.zer (hM.up (su C)) (hA.up (su C) (by split <;> (try split) <;> omega))
 | calJ =>
  rintro C hM ⟨hf, hl, hn, hA⟩
  show POk lv cs (C + 1) _ _
  have hx := hl _ (List.mem_cons_self ..)
  refine POk.zer ?_ (hA.up (su C) (by split <;> (try split) <;> omega))
  have h1 := hM.up (su C)
  exact ⟨h1.fu, h1.bd, hx.grow (Grow.refl _) (su C), h1.hp, h1.ou⟩
 | calK | calB | pN | pL =>
  first
   | (rintro C hM ⟨hf, hl, hn, hA⟩; show POk lv cs (C + 1) _ _; exact POk.zer (hM.up (su C)) (hA.up (su C) (by split <;> (try split) <;> omega)))
   | (rintro C hM ⟨hl, hn, hA⟩; show POk lv cs (C + 1) _ _; exact POk.zer (hM.up (su C)) (hA.up (su C) (by split <;> omega)))
 | @cal f l s cl xs az v c s' hk hp hx ha _ i1 =>
  rintro C hM ⟨hf, hl, hn, hA⟩
  show POk lv cs (C + 1) _ _
  obtain ⟨f', e1, hc⟩ := ((Vl.ok_eq f).1 hf).2.1 hk
  rw [hp] at e1
  obtain rfl := Option.some.inj e1
  have hN := hM.nn
  have hxs : ∀ x ∈ xs, VOk lv cs C s x := by
   unfold sprV at hx
   split at hx
   ·rw [← Option.some.inj hx]
    intro x hx
    rcases List.mem_append.1 hx with hx | hx
    ·exact hl x (List.mem_of_mem_take hx)
    ·rw [List.mem_singleton.1 hx]
     exact lstV_ok hN (by rw [List.length_drop]; omega) fun y hy => hl y (List.mem_of_mem_drop hy)
   ·split at hx
    ·rw [← Option.some.inj hx]
     exact hl
    ·cases hx
  have hlen := sprV_len' hc.1 hx
  have hM' := (hM.hpM (az := az) hxs).up (su C)
  have := i1 (C + 1) hM' ⟨hc.2.2 _ (fun a hi => inH_hpM hi) az ha (inH_new (by omega)), hA.up (su C) (by split <;> (try split) <;> omega)⟩
  rw [show C + 1 + Jd.up (.ev _ _) = C + 1 from sz _] at this
  exact this
 | pR =>
  rintro C hM ⟨hl, hn, hA⟩
  show POk lv cs (C + 1) _ _
  have hx := hl _ (List.mem_cons_self ..)
  refine POk.zer ?_ (hA.up (su C) (by split <;> omega))
  have h1 := hM.up (su C)
  exact ⟨h1.fu, h1.bd, hx.grow (Grow.refl _) (su C), h1.hp, h1.ou⟩
 | @pE f s v c s' e1 _ i1 =>
  rintro C hM ⟨hl, hn, hA⟩
  show POk lv cs (C + 1) _ _
  have hg := Grow.alive s
  obtain ⟨k1, k2⟩ := escIn hM hl hA
  have h1 := i1 C k1 k2
  exact ⟨⟨h1.1.fu, h1.1.bd, h1.1.vl.grow (Grow.dead _ _ _ (Grow.refl _)) (Int.le_refl _), fun a x r hx => (h1.1.hp a x r hx).grow (Grow.dead _ _ _ (Grow.refl _)) (Int.le_refl _), h1.1.ou⟩, by have := h1.2.1; unfold Al at *; dsimp only; rw [List.length_set]; exact this, fun x hx => (h1.2.2 x hx).grow (Grow.dead _ _ _ (Grow.refl _)) (Int.le_refl _)⟩
 | @pJ f s v s' e1 _ i1 =>
  rintro C hM ⟨hl, hn, hA⟩
  show POk lv cs (C + 1) _ _
  obtain ⟨k1, k2⟩ := escIn hM hl hA
  have h1 := i1 C k1 k2
  exact ⟨⟨h1.1.fu, h1.1.bd, h1.1.vl.grow (Grow.dead _ _ _ (Grow.refl _)) (Int.le_refl _), fun a x r hx => (h1.1.hp a x r hx).grow (Grow.dead _ _ _ (Grow.refl _)) (Int.le_refl _), h1.1.ou⟩, by have := h1.2.1; unfold Al at *; dsimp only; rw [List.length_set]; exact this, fun x hx => by rw [List.mem_singleton.1 hx]; exact h1.1.vl.grow (Grow.dead _ _ _ (Grow.refl _)) (Int.le_refl _)⟩
 | @pA f x s v c s' hk _ i1 =>
  rintro C hM ⟨hl, hn, hA⟩
  show POk lv cs (C + 1) _ _
  have hx := hl x (by simp)
  exact i1 C hM ⟨hl f (by simp), hx.its, hx.len.1, hA.up (Int.le_refl _) (by rw [if_neg (by simp [oneE])]; split <;> (try split) <;> omega)⟩
 | @pS n l s hn ht =>
  rintro C hM ⟨hl, hn', hA⟩
  show POk lv cs (C + 1) _ _
  have hM' := hM.up (su C)
  have hv := simV_ok hM.nn n l ht hn' hl
  have ho := simV_out n l
  have hou := hM.ou
  refine POk.one ⟨hM'.fu, hM'.bd, hM'.vl, hM'.hp, ?_⟩ (hA.up (su C) (by split <;> omega)) (by unfold VOk; rw [show C + 1 - (outM s (simV n l).2.2).fuel = C - s.fuel + 1 from by show C + 1 - s.fuel = _; omega]; exact hv)
  show ((s.out ++ (simV n l).2.2).length : Int) ≤ 1001 * (C + 1 - s.fuel)
  rw [List.length_append]
  omega
end Go.Cb
namespace Go.Cb
open Go.Proofs
set_option maxRecDepth 100000
set_option maxHeartbeats 4000000
theorem ACall.apart {P : Program} {f : FuncId} {args : List PV} {Γ : List Ent} {Q : PV → List Ent → Prop} (h0 : ∃ fn, P.funcs[f]? = some fn ∧ fn.body.isNone = false ∧ (fn.name == "runtime.NumGoroutine") = false)
  (h : Γ.Pairwise Ent.apart → ACall P f args Γ Q) : ACall P f args Γ Q :=
 ⟨h0, fun w0 F M w vs hS hR => (h (List.pairwise_append.1 hS.sep).1).2 w0 F M w vs hS hR⟩
theorem ACall.apartQ {P : Program} {f : FuncId} {args : List PV} {Γ : List Ent} {Q : PV → List Ent → Prop} (h : ACall P f args Γ Q) : ACall P f args Γ fun y Γ' => Q y Γ' ∧ Γ'.Pairwise Ent.apart :=
 ⟨h.1, fun w0 F M w vs hS hT => (h.2 w0 F M w vs hS hT).mono fun _ _ ⟨v, F', y, Γ', e1, e2, e3, e4, e5⟩ => ⟨v, F', y, Γ', e1, e2, e3, e4, e5, (List.pairwise_append.1 e3.sep).1⟩⟩
theorem hpE_nd {h : Hp} (hp : (hpE h).Pairwise Ent.apart) : ndH h := by
 unfold ndH hpE at *
 rw [List.pairwise_map] at hp
 rw [List.Nodup, List.pairwise_map]
 refine hp.imp fun {a b} hab => ?_
 rcases hab with h1 | h1
 ·cases h1
 ·intro e
  exact h1 (congrArg some e)
theorem mcE_nd {b : Nat} {K : List Vl} {tk : Tok} {s : MSt} (hp : (mcE b K tk s).Pairwise Ent.apart) : ndH s.h := hpE_nd hp.tail.tail
theorem RetR.mono {b : Nat} {K : List Vl} {R R' : Vl → Int → MSt → Tok → Prop} (h : ∀ x c s' tk', R x c s' tk' → R' x c s' tk') {y : PV} {Γ' : List Ent} : RetR b K R y Γ' → RetR b K R' y Γ' := by
 rintro ⟨x, c, s', tk', e1, e2, hr⟩
 exact ⟨x, c, s', tk', e1, e2, h _ _ _ _ hr⟩
theorem AllR.mono {b : Nat} {K : List Vl} {R R' : List Vl → Int → MSt → Tok → Prop} (h : ∀ x c s' tk', R x c s' tk' → R' x c s' tk') {y : PV} {Γ' : List Ent} : AllR b K R y Γ' → AllR b K R' y Γ' := by
 rintro ⟨x, c, s', tk', e1, e2, hr⟩
 exact ⟨x, c, s', tk', e1, e2, h _ _ _ _ hr⟩
def tkB (tk : Tok) : Prop := tk.e = 4 ∧ tk.s = 1
def EvR (K : List Vl) (j : Jd) (s : MSt) (x : Vl) (c : Int) (s' : MSt) (tk' : Tok) : Prop := Ev K j s [x] c s' ∧ tkB tk'
theorem RetR.of {b : Nat} {K : List Vl} {R : Vl → Int → MSt → Tok → Prop} {y : PV} {Γ' : List Ent} {x : Vl} {c : Int} {s' : MSt} {tk' : Tok} (h : y = .tup [.agg (valC x), .int .i64 c] ∧ Γ' = mcE b K tk' s') (hr : R x c s' tk') : RetR b K R y Γ' :=
 ⟨x, c, s', tk', h.1, h.2, hr⟩
mutual
def Vl.wt : Vl → Nat
 | .mk k _ _ _ l _ _ => if k = 10 then 0 else 1 + Vl.wts l
def Vl.wts : List Vl → Nat
 | [] => 0
 | x :: xs => Vl.wt x + Vl.wts xs
end
theorem Vl.wt_eq (x : Vl) : x.wt = if x.k = 10 then 0 else 1 + Vl.wts x.l := by cases x; rw [Vl.wt]; rfl
theorem Vl.wts_two : ∀ {l : List Vl} (h : l.length = 2), Vl.wts l = (l[0]'(by omega)).wt + (l[1]'(by omega)).wt
 | [a, b], _ => by rw [Vl.wts, Vl.wts, Vl.wts]; rfl
theorem Vl.its_wt (x : Vl) : x.tx = true → x.its.2.k = 4 → Vl.wts x.its.1 + 1 ≤ x.wt := by
 induction x using Vl.ind with
 | h x ih =>
  intro ht hk
  by_cases h6 : x.k = 6
  ·have h2 := ((Vl.tx_eq x).1 ht).2.1 h6
   rw [Vl.its_pair x h6 h2] at hk ⊢
   have h1 := ih (x.l[1]'(by omega)) (List.getElem_mem _) (((Vl.tx_eq x).1 ht).2.2.2 _ (List.getElem_mem _)) hk
   rw [Vl.wt_eq x, if_neg (by omega)]
   show Vl.wts ((x.l[0]'(by omega)) :: (x.l[1]'(by omega)).its.1) + 1 ≤ _
   rw [Vl.wts, Vl.wts_two h2]
   omega
  ·rw [Vl.its_end x h6] at hk ⊢
   have hk' : x.k = 4 := hk
   rw [Vl.wt_eq, if_neg (by omega)]
   show Vl.wts [] + 1 ≤ _
   rw [Vl.wts]
   omega
def calW (f : Vl) (l : List Vl) : Nat := 2 * Vl.wts l + if f.k = 10 then 0 else 1
section
variable (b : Nat) (K : List Vl) (lv : Int)
def cK (K : List Vl) : Int := (K.length : Int)
def EvalOk (n : Int) : Prop := ∀ C t e s tk, C ≤ 900000 → s.fuel ≤ n → tkB tk → MOk lv (cK K) C s → JOk lv (cK K) C (.ev t e) s →
 ACall Tryz.prog 87 [.ptr b 0, .agg t.cells, envPV e, .nil] (mcE b K tk s) (RetR b K (EvR K (.ev t e) s))
variable {b K lv}
theorem MOk.lens {cs C : Int} {s : MSt} (h : MOk lv cs C s) (hC : C ≤ 900000) {l : List Vl} (hl : (l.length : Int) ≤ C - s.fuel) : l.length ≤ 1000000000 := by have := h.fu; omega
theorem VOk.lim {cs C : Int} {s : MSt} {x : Vl} (h : MOk lv cs C s) (hC : C ≤ 900000) (hx : VOk lv cs C s x) : x.its.1.length ≤ 1000000000 := by
 have h1 := (Vl.ok.len hx).1
 have := h.fu
 omega
theorem alLen {C k : Int} {s : MSt} (hC : C ≤ 900000) (hf : 0 ≤ s.fuel) (hk : k ≤ 2) (h : Al C k s) : s.alive.length ≤ 1000000000 := by
 unfold Al at h
 omega
theorem allOk {n : Int} (h2 : 0 ≤ lv ∧ lv ≤ 2) (hK : ∀ x ∈ K, x.ok lv (cK K) 20002 0 fun _ => False) (H : EvalOk b K lv n) (C : Int) (hC : C ≤ 900000) (l : List Trm) (hl : l.length ≤ 1000000000) (e : EnvM) (s : MSt) (tk : Tok) (hn : s.fuel ≤ n) (ht : tkB tk) (hM : MOk lv (cK K) C s) (hJ : JOk lv (cK K) C (.all l e) s) :
  ACall Tryz.prog 114 [.ptr b 0, .sl 4 (l.map Trm.pv) none, envPV e, .nil] (mcE b K tk s) (AllR b K fun vs c s' tk' => Ev K (.all l e) s vs c s' ∧ tkB tk') := by
 refine allR_c b K e l hl (fun i m s1 tk1 => tkB tk1 ∧ MOk lv (cK K) C s1 ∧ Al C 0 s1 ∧ Grow s s1 ∧ ∀ vs c s', Ev K (.all (l.drop i) e) s1 vs c s' → Ev K (.all l e) s (if c = 0 then m ++ vs else []) c s') _ s tk
  ⟨ht, hM, hJ.2, Grow.refl s, fun vs c s' h => ?_⟩ ?_ ?_
 ·have : vs = if c = 0 then [] ++ vs else [] := by
   by_cases hc : c = 0
   ·rw [if_pos hc]; rfl
   ·rw [if_neg hc]
    cases h with
    | allN | allC => exact absurd rfl hc
    | allE | allX => rfl
  rw [← this]
  exact h
 ·rintro i m s1 tk1 ⟨k1, k2, k3, k4, k5⟩ hi
  have hT := (hJ.1 _ (List.getElem_mem hi)).mono k4.2.1
  refine (H C l[i] e s1 tk1 hC (by have := k4.2.2; omega) k1 k2 ⟨hT, k3⟩).mono fun y Γ' => RetR.mono fun x c s' tk' ⟨hE, ht'⟩ => ⟨fun hc => ?_, fun hc => ?_⟩
  ·subst hc
   have hp := hE.keeps h2 hK C k2 ⟨hT, k3⟩
   rw [show C + Jd.up (.ev _ _) = C from by show C + 0 = C; omega] at hp
   refine ⟨ht', hp.1, hp.2.1, k4.trans hE.grow, fun vs c2 s2 h3 => ?_⟩
   rw [drop_at hi] at k5
   by_cases hc2 : c2 = 0
   ·subst hc2
    have := k5 _ _ _ (.allC hE h3)
    rw [if_pos rfl] at this ⊢
    rw [List.append_assoc]
    exact this
   ·have := k5 _ _ _ (.allX hE h3 hc2)
    rw [if_neg hc2] at this ⊢
    exact this
  ·rw [drop_at hi] at k5
   have := k5 _ _ _ (.allE hE hc)
   rw [if_neg hc] at this
   exact ⟨this, ht'⟩
 ·rintro m s1 tk1 ⟨k1, k2, k3, k4, k5⟩
  rw [List.drop_of_length_le (Nat.le_refl _)] at k5
  have := k5 _ _ _ .allN
  rw [if_pos rfl, List.append_nil] at this
  exact ⟨this, k1⟩
theorem primOk {n : Int} (m : Nat) (IH : ∀ C f l s tk, C ≤ 899999 → s.fuel ≤ n → tkB tk → MOk lv (cK K) C s → JOk lv (cK K) C (.call f l) s → calW f l < m →
  ACall Tryz.prog 140 [.ptr b 0, .agg (valC f), .sl 7 (l.map Vl.pv) none] (mcE b K tk s) (RetR b K (EvR K (.call f l) s))) :
 ∀ C p l s tk, C ≤ 899999 → s.fuel ≤ n → tkB tk → MOk lv (cK K) C s → JOk lv (cK K) C (.prim p l) s → 2 * Vl.wts l < m →
  ACall Tryz.prog 141 [.ptr b 0, .int .i64 p, .sl 7 (l.map Vl.pv) none] (mcE b K tk s) (RetR b K (EvR K (.prim p l) s)) := by
 rintro C p l s tk hC hn ht hM ⟨hl, hlen, hA⟩ hw
 have hll := hM.lens (by omega) hlen
 by_cases htk : takB p l.length = false
 ·exact (primN_c b K tk s p l hll htk).mono fun y Γ' h => RetR.of h ⟨.pN htk, ht⟩
 have htk' : takB p l.length = true := by simpa using htk
 have hb := htk'
 unfold takB at hb
 simp only [Bool.and_eq_true, Bool.or_eq_true, decide_eq_true_eq] at hb
 have f28 : (factOf 28).least = 1 ∧ (factOf 28).most = 1 := by decide
 have f29 : (factOf 29).least = 1 ∧ (factOf 29).most = 1 := by decide
 have f30 : (factOf 30).least = 2 ∧ (factOf 30).most = 2 := by decide
 rcases (by omega : p < 28 ∨ p = 28 ∨ p = 29 ∨ p = 30) with hp | rfl | rfl | rfl
 ·have hS := sim6 p l hp htk' hll (fun x hx => (hl x hx).tx) fun x hx => VOk.lim hM (by omega) (hl x hx)
  exact (primS_c b K tk s p hp l hll htk' (by have := hM.ou; have := hM.fu; omega) hS).mono fun y Γ' h => RetR.of h ⟨.pS hp htk', ht⟩
 ·have hl1 : l.length = 1 := by omega
  refine (primR_c b K tk s l hl1).mono fun y Γ' h => RetR.of h ⟨?_, ht⟩
  match l, hl1 with
  | [x], _ => exact .pR
 ·have hl1 : l.length = 1 := by omega
  refine primE_c b K tk s _ l hl1 (escape_c b K tk s _ l[0] ht.1 ht.2 (alLen (by omega) hM.fu (by split <;> omega) hA) (fun x c s' tk' => Ev K (.call l[0] [escV s.alive.length]) (newA s) [x] c s' ∧ tkB tk') ?_ fun tk1 h1 h2 => ?_)
  ·rintro x c s' tk' ⟨hE, ht'⟩
   have hg : (s.alive ++ [true]).length ≤ s'.alive.length := hE.grow.1
   rw [List.length_append, List.length_singleton] at hg
   match l, hl1, hE with
   | [f], _, hE =>
   refine ⟨by omega, ht'.2, ?_, fun hc => ⟨.pE hE hc, ht'⟩⟩
   rintro ⟨rfl, hto⟩
   exact ⟨.pJ hE hto, ht'⟩
  ·match l, hl1, hl, hA, hw with
   | [f], _, hl, hA, hw =>
   obtain ⟨k1, k2⟩ := escIn hM hl hA
   refine IH C f _ _ tk1 hC hn ⟨h1, h2⟩ k1 k2 ?_
   have e : Vl.wts [escV s.alive.length] = 0 := rfl
   have e2 : Vl.wts [f] = f.wt := by rw [Vl.wts, Vl.wts]; rfl
   unfold calW
   rw [e]
   rw [e2, Vl.wt_eq] at hw
   split
   ·omega
   ·rename_i hk
    rw [if_neg hk] at hw
    omega
 ·have hl1 : l.length = 2 := by omega
  have hx := hl l[1] (List.getElem_mem _)
  by_cases hk : l[1].its.2.k = 4
  ·refine primA_c b K tk s _ l hl1 hx.tx (VOk.lim hM (by omega) hx) hk ((IH C l[0] l[1].its.1 s tk hC hn ht hM ⟨hl _ (List.getElem_mem _), hx.its, hx.len.1, ?_⟩ ?_).mono fun y Γ' => RetR.mono fun x c s' tk' ⟨hE, ht'⟩ => ⟨?_, ht'⟩)
   ·refine hA.up (Int.le_refl _) ?_
    match l, hl1 with
    | [f, x], _ => rw [if_neg (by simp [oneE])]; split <;> (try split) <;> omega
   ·have h1 := Vl.its_wt _ hx.tx hk
    unfold calW
    rw [Vl.wts_two hl1] at hw
    split <;> omega
   ·match l, hl1, hE, hk with
    | [f, x1], _, hE, hk => exact .pA hk hE
  ·refine (primL_c b K tk s l hl1 hx.tx (VOk.lim hM (by omega) hx) hk).mono fun y Γ' h => RetR.of h ⟨?_, ht⟩
   match l, hl1, hk with
   | [f, x1], _, hk => exact .pL hk
theorem callOk {n : Int} (H : EvalOk b K lv n) : ∀ (m : Nat) C f l s tk, C ≤ 899999 → s.fuel ≤ n → tkB tk → MOk lv (cK K) C s → JOk lv (cK K) C (.call f l) s → calW f l < m →
  ACall Tryz.prog 140 [.ptr b 0, .agg (valC f), .sl 7 (l.map Vl.pv) none] (mcE b K tk s) (RetR b K (EvR K (.call f l) s)) := by
 intro m
 induction m with
 | zero => exact fun C f l s tk _ _ _ _ _ h => absurd h (Nat.not_lt_zero _)
 | succ m ih =>
  rintro C f l s tk hC hn ht hM ⟨hf, hl, hlen, hA⟩ hw
  have hll := hM.lens (by omega) hlen
  unfold calW at hw
  by_cases h9 : f.k = 9
  ·rw [if_neg (by omega)] at hA hw
   exact calP_c b K tk s _ f h9 l ((primOk m ih C f.n l s tk hC hn ht hM ⟨hl, hlen, hA⟩ (by omega)).mono fun y Γ' => RetR.mono fun x c s' tk' ⟨hE, ht'⟩ => ⟨.calP h9 hE, ht'⟩)
  by_cases h10 : f.k = 10
  ·by_cases hl1 : l.length = 1
   ·have hfn := ((Vl.ok_eq f).1 hf).2.2.2.1 h10
    refine (calE_c b K tk s f h10 l hl1 hfn ht.2).mono fun y Γ' h => ?_
    match l, hl1, h with
    | [x], _, h =>
    rcases h with ⟨h1, h⟩ | ⟨h1, h⟩
    ·exact RetR.of h ⟨.calD h10 (by rw [List.getElem?_eq_getElem (by omega), h1]), ht⟩
    ·exact RetR.of h ⟨.calJ h10 (by rw [List.getElem?_eq_getElem (by omega), h1]), ht⟩
   ·exact (calN_c b K tk s f h10 l hl1).mono fun y Γ' h => RetR.of h ⟨.calN h10 hl1, ht⟩
  by_cases h8 : f.k = 8
  ·obtain ⟨cl, hp, hc⟩ := ((Vl.ok_eq f).1 hf).2.1 h8
   cases hx : sprV l cl.v.length cl.rest with
   | none => exact (calK_c b K tk s f h8 cl hp l hll (by have := hc.2.1; omega) hc.1 hx).mono fun y Γ' h => RetR.of h ⟨.calK h8 hp hx, ht⟩
   | some xs =>
    refine cal_c b K tk s _ f h8 cl hp l xs hll (by have := hc.2.1; omega) hc.1 hx fun az ha => ?_
    have hN := hM.nn
    have hxs : ∀ x ∈ xs, VOk lv (cK K) C s x := by
     have hx' := hx
     unfold sprV at hx'
     split at hx'
     ·rw [← Option.some.inj hx']
      intro x hx
      rcases List.mem_append.1 hx with hx | hx
      ·exact hl x (List.mem_of_mem_take hx)
      ·rw [List.mem_singleton.1 hx]
       exact lstV_ok hN (by rw [List.length_drop]; omega) fun y hy => hl y (List.mem_of_mem_drop hy)
     ·split at hx'
      ·rw [← Option.some.inj hx']
       exact hl
      ·cases hx'
    have hlen := sprV_len' hc.1 hx
    refine (H (C + 1) cl.body (extM cl.env cl.v az) (addM s (hpM s.h xs az)) tk (by omega) hn ht ((hM.hpM (az := az) hxs).up (by omega)) ⟨hc.2.2 _ (fun a hi => inH_hpM hi) az ha (inH_new (by omega)), hA.up (by omega) (by split <;> (try split) <;> omega)⟩).mono fun y Γ' => RetR.mono fun x c s' tk' ⟨hE, ht'⟩ => ⟨.cal h8 hp hx ha hE, ht'⟩
  ·exact (calB_c b K tk s f ⟨h8, h9, h10⟩ l).mono fun y Γ' h => RetR.of h ⟨.calB h8 h9 h10, ht⟩
end
end Go.Cb
namespace Go.Cb
open Go.Proofs
set_option maxRecDepth 100000
set_option maxHeartbeats 4000000
section
variable (b : Nat) (K : List Vl) (tk : Tok) (s : MSt) (t : Trm) (e : EnvM)
theorem strPE_c (ho : t.op = 18) (l : List Vl) (hl : l.length = 2) (hk : l[0].k = 11) (y : Vl) (a : Nat) (r : Bool) (hf : l[0].c = some a) (hg : hget s.h a = some (y, r)) (hu : y.k = 12) :
  ACall Tryz.prog 115 [.ptr b 0, .agg t.cells, .sl 7 (l.map Vl.pv) none, envPV e] (mcE b K tk s) (fun y Γ' => y = .tup [.agg (valC zerV), .int .i64 5] ∧ Γ' = mcE b K tk s) := by
 obtain ⟨put, hpb, hpu⟩ := hpE_box hg
 refine ACall.of_body tt_ok Tryz.func115 rfl rfl (n := 173) rfl rfl ?_
 conv => whnf
 repeat' (first|refine aA2 ?_|((intro _);conv=>whnf)|(refine zX (fun hc=>?_) (fun hc=>?_)<;>(try simp only [SY] at hc)<;>first|omega|(conv=>whnf)))
 all_goals
  rw [hf]
  conv => whnf
  repeat' (first|refine aA2 ?_|(refine zX (fun hc=>?_) (fun hc=>?_)<;>(try simp only [SY] at hc)<;>first|omega|(conv=>whnf)))
 all_goals try
  rw [hf]
  conv => whnf
  skip
 all_goals exact PRet.gen (y := .tup [.agg (valC zerV), .int .i64 5]) (Γ' := mcE b K tk s) WkR.res ⟨rfl, rfl⟩
end
section
variable {b : Nat} {K : List Vl} {lv : Int}
theorem len1 {α : Type} : ∀ {l : List α}, l.length = 1 → ∃ x, l = [x]
 | [x], _ => ⟨x, rfl⟩
theorem len2 {α : Type} : ∀ {l : List α}, l.length = 2 → ∃ x y, l = [x, y]
 | [x, y], _ => ⟨x, y, rfl⟩
theorem list1 {α : Type} : ∀ {l : List α} (h : l.length = 1), l = [l[0]'(by omega)]
 | [x], _ => rfl
theorem list3 {α : Type} : ∀ {l : List α} (h : l.length = 3), l = [l[0]'(by omega), l[1]'(by omega), l[2]'(by omega)]
 | [x, y, z], _ => rfl
theorem Ev.none {K : List Vl} {j : Jd} {s : MSt} {vs : List Vl} {c : Int} {s' : MSt} (h : Ev K j s vs c s') : c ≠ 0 → match j with
  | .all _ _ => vs = []
  | .rc _ _ _ _ => vs = []
  | _ => True := by
 cases h <;> intro hc <;> first | trivial | rfl | exact absurd rfl hc
theorem strictOk {n : Int} (h2 : 0 ≤ lv ∧ lv ≤ 2) (H : EvalOk b K lv n) (C : Int) (hC : C ≤ 899999) (t : Trm) (e : EnvM) (ho : t.op = 2 ∨ t.op = 5 ∨ t.op = 6 ∨ t.op = 10 ∨ t.op = 12 ∨ (14 ≤ t.op ∧ t.op ≤ 18)) (l : List Vl) (hlt : l.length = t.t.length) (s : MSt) (tk : Tok) (hn : s.fuel ≤ n) (ht : tkB tk) (hM : MOk lv (cK K) C s) (hJ : JOk lv (cK K) C (.str t l e) s) :
  ACall Tryz.prog 115 [.ptr b 0, .agg t.cells, .sl 7 (l.map Vl.pv) none, envPV e] (mcE b K tk s) (RetR b K (EvR K (.str t l e) s)) := by
 obtain ⟨hT, hl, hlen, hA⟩ := hJ
 have hll := hM.lens (by omega) hlen
 have hc := hT.cnt
 rcases (by omega : (t.op = 2 ∨ t.op = 14) ∨ t.op = 5 ∨ t.op = 6 ∨ t.op = 10 ∨ t.op = 12 ∨ t.op = 15 ∨ t.op = 16 ∨ (t.op = 17 ∨ t.op = 18)) with h | h | h | h | h | h | h | h
 ·have hl1 : l.length = 1 := by have := hc.1 (by omega); omega
  obtain ⟨x, rfl⟩ := len1 hl1
  obtain ⟨a, hf, y, r, hg⟩ := hT.ref (by omega)
  by_cases hu : (r = true ∨ t.op = 14) ∧ y.k = 12
  ·refine (strSE_c b K tk s t e h _ hl1 y a r hf hg hu.1 hu.2).mono fun y Γ' hq => RetR.of hq ⟨?_, ht⟩
   exact .stX h hf hg hu.1 hu.2
  ·refine (strS_c b K tk s t e h _ hl1 y a r hf hg hu).mono fun y Γ' hq => RetR.of hq ⟨?_, ht⟩
   exact .stC h hf hg hu
 ·have hl1 : 0 < l.length := by have := hc.2.2.2.1 (by omega); omega
  refine strA_c b K tk s _ t h e l hl1 ((callOk H (calW l[0] (l.drop 1) + 1) C l[0] (l.drop 1) s tk hC hn ht hM ⟨hl _ (List.getElem_mem _), fun x hx => hl x (List.mem_of_mem_drop hx), by rw [List.length_drop]; omega, hA.up (Int.le_refl _) (by split <;> (try split) <;> omega)⟩ (Nat.lt_succ_self _)).mono fun y Γ' => RetR.mono fun x c s' tk' ⟨hE, ht'⟩ => ⟨?_, ht'⟩)
  match l, hl1, hE with
  | f :: l, _, hE => exact .app h hE
 ·have hl1 : 0 < l.length := by have := hc.2.2.2.1 (by omega); omega
  refine (str6_c b K tk s t e h l hl1 hll).mono fun y Γ' hq => RetR.of hq ⟨?_, ht⟩
  have hne : l ≠ [] := by intro h0; rw [h0] at hl1; exact absurd hl1 (Nat.lt_irrefl 0)
  have e1 : l[l.length - 1] = l.getLast hne := (List.getLast_eq_getElem hne).symm
  rw [e1]
  have := Ev.seq (K := K) (t := t) (e := e) (s := s) (l := l.dropLast) (x := l.getLast hne) h
  rw [List.dropLast_concat_getLast hne] at this
  exact this
 ·exact strM_c b K tk s _ t h e l ((primOk (2 * Vl.wts l + 1) (callOk H _) C t.n l s tk hC hn ht hM ⟨hl, hlen, hA.up (Int.le_refl _) (by split <;> omega)⟩ (Nat.lt_succ_self _)).mono fun y Γ' => RetR.mono fun x c s' tk' ⟨hE, ht'⟩ => ⟨.prm h hE, ht'⟩)
 ·have hl1 : l.length = 1 := by have := hc.1 (by omega); omega
  obtain ⟨x, rfl⟩ := len1 hl1
  by_cases hu : x.k = 12
  ·refine (str12E_c b K tk s t e h _ hl1 hu).mono fun y Γ' hq => RetR.of hq ⟨?_, ht⟩
   exact .chkE h hu
  ·refine (str12_c b K tk s t e h _ hl1 hu).mono fun y Γ' hq => RetR.of hq ⟨?_, ht⟩
   exact .chk h hu
 ·have hl1 : l.length = 1 := by have := hc.1 (by omega); omega
  obtain ⟨x, rfl⟩ := len1 hl1
  refine (strX_c b K tk s t e h _ hl1).apartQ.mono fun y Γ' ⟨⟨a, e1, e2⟩, hap⟩ => RetR.of ⟨e1, e2⟩ ⟨?_, ht⟩
  rw [e2] at hap
  have hnd := mcE_nd hap
  exact .box h hnd
 ·have hl1 : l.length = 1 := by have := hc.1 (by omega); omega
  obtain ⟨x, rfl⟩ := len1 hl1
  by_cases hk : x.k = 11
  ·obtain ⟨a, hf, y, r, hg⟩ := ((Vl.ok_eq _).1 (hl x (List.mem_cons_self ..))).2.2.1 hk
   refine (strG_c b K tk s t e h _ hl1 hk y a r hf hg).mono fun y Γ' hq => RetR.of hq ⟨?_, ht⟩
   exact .get h hk hf hg
  ·refine (strB_c b K tk s t e (by omega) [x] (Nat.zero_lt_succ _) hk).mono fun y Γ' hq => RetR.of hq ⟨?_, ht⟩
   exact .bad (by omega) hk
 ·have hl1 : l.length = 2 := by have := hc.2.2.1 (by omega); omega
  obtain ⟨x, z, rfl⟩ := len2 hl1
  by_cases hk : x.k = 11
  ·obtain ⟨a, hf, y, r, hg⟩ := ((Vl.ok_eq _).1 (hl x (List.mem_cons_self ..))).2.2.1 hk
   by_cases hu : t.op = 18 ∧ y.k = 12
   ·refine (strPE_c b K tk s t e hu.1 _ hl1 hk y a r hf hg hu.2).mono fun y Γ' hq => RetR.of hq ⟨?_, ht⟩
    exact .putE hu.1 hk hf hg hu.2
   ·refine (strP_c b K tk s t e h _ hl1 hk y a r hf hg hu).mono fun y Γ' hq => RetR.of hq ⟨?_, ht⟩
    exact .put h hk hf hg hu
  ·refine (strB_c b K tk s t e (by omega) [x, z] (Nat.zero_lt_succ _) hk).mono fun y Γ' hq => RetR.of hq ⟨?_, ht⟩
   exact .bad (by omega) hk
theorem split_last {l : List Trm} {k : Nat} (h : l.length = k + 1) : l = l.take k ++ [l[k]'(by omega)] := by
 have : l.take (k + 1) = l := List.take_of_length_le (by omega)
 rw [← List.take_succ_eq_append_getElem (by omega), this]
theorem letOk {n : Int} (h2 : 0 ≤ lv ∧ lv ≤ 2) (hK : ∀ x ∈ K, x.ok lv (cK K) 20002 0 fun _ => False) (H : EvalOk b K lv n) (C : Int) (hC : C ≤ 900000) (t : Trm) (e : EnvM) (ho : t.op = 8) (s : MSt) (tk : Tok) (hn : s.fuel ≤ n) (ht : tkB tk) (hM : MOk lv (cK K) C s) (hJ : JOk lv (cK K) C (.go t e) s) :
  ACall Tryz.prog 113 [.ptr b 0, .agg t.cells, envPV e, .nil] (mcE b K tk s) (RetR b K (EvR K (.go t e) s)) := by
 obtain ⟨hT, hA⟩ := hJ
 have hl := hT.cnt.2.2.2.2.1 (by omega)
 have hfit := hT.fit.len
 have hsp := split_last hl
 have htl : (t.t.take t.v.length).length = t.v.length := by rw [List.length_take]; omega
 have hJa : JOk lv (cK K) C (.all (t.t.take t.v.length) e) s := ⟨hT.lets ho hsp htl, hA⟩
 refine bindL_c b K tk s t e _ ho hl (by omega) ((allOk h2 hK H C hC (t.t.take t.v.length) (by omega) e s tk hn ht hM hJa).mono fun y Γ' => AllR.mono fun vs c s1 tk1 ⟨hE, ht1⟩ => ⟨fun hc => ⟨.ltE ho hsp htl hE hc, ht1⟩, fun hc => ?_⟩)
 subst hc
 have hvl := hE.len rfl
 dsimp only at hvl
 have hp := hE.keeps h2 hK C hM hJa
 rw [show C + Jd.up (.all _ _) = C from by show C + 0 = C; omega] at hp
 refine ⟨by omega, fun az ha => ?_⟩
 have hg := hE.grow
 have hT' := hT.last (by omega) hsp htl (fun a hi => (hg.trans (Grow.hpM s1 vs az)).2.1 a hi) az ha (inH_new (by omega))
 exact (H C _ (extM e t.v az) (addM s1 (hpM s1.h vs az)) tk1 hC (by have := hg.2.2; show s1.fuel ≤ n; omega) ht1 (hp.1.hpM hp.2.2) ⟨hT', hp.2.1⟩).mono fun y Γ' => RetR.mono fun x c s' tk' ⟨hE2, ht2⟩ => ⟨.ltC ho hsp htl hE ha hE2, ht2⟩
theorem extM_find : ∀ {vs : List Int} {az : List Nat} (e : EnvM), az.length = vs.length → ∀ v ∈ vs, ∃ a ∈ az, fndM (extM e vs az) v = some a
 | [], _, _, _, v, hv => by cases hv
 | v :: vs, [], _, hl, _, _ => by simp at hl
 | v :: vs, a :: az, e, hl, w, hw => by
  rw [extM]
  by_cases hm : w ∈ vs
  ·obtain ⟨c, h1, h2⟩ := extM_find ((v, a) :: e) (by simpa using hl) w hm
   exact ⟨c, List.mem_cons_of_mem _ h1, h2⟩
  ·have hwv : w = v := by
    rcases List.mem_cons.1 hw with h | h
    ·exact h
    ·exact absurd h hm
   subst hwv
   refine ⟨a, List.mem_cons_self .., ?_⟩
   have key : ∀ {us : List Int} {bz : List Nat} {e : EnvM}, w ∉ us → fndM (extM e us bz) w = fndM e w := by
    intro us
    induction us with
    | nil => intro bz e _; cases bz <;> rfl
    | cons u us ih =>
     intro bz e hn
     cases bz with
     | nil => rfl
     | cons c bz =>
      rw [extM, ih fun h => hn (List.mem_cons_of_mem _ h), fndM, if_neg fun h => hn (by rw [h]; exact List.mem_cons_self ..)]
   rw [key hm, fndM, if_pos rfl]
theorem recOk {n : Int} (h2 : 0 ≤ lv ∧ lv ≤ 2) (hK : ∀ x ∈ K, x.ok lv (cK K) 20002 0 fun _ => False) (H : EvalOk b K lv n) (C : Int) (hC : C ≤ 900000) (t : Trm) (e : EnvM) (ho : t.op = 7 ∨ t.op = 9) (s : MSt) (tk : Tok) (hn : s.fuel ≤ n) (ht : tkB tk) (hM : MOk lv (cK K) C s) (hJ : JOk lv (cK K) C (.go t e) s) :
  ACall Tryz.prog 113 [.ptr b 0, .agg t.cells, envPV e, .nil] (mcE b K tk s) (RetR b K (EvR K (.go t e) s)) := by
 obtain ⟨hT, hA⟩ := hJ
 have hl := hT.cnt.2.2.2.2.1 (by omega)
 have hfit := hT.fit.len
 have hsp := split_last hl
 have htl : (t.t.take t.v.length).length = t.v.length := by rw [List.length_take]; omega
 have h19 : ∀ x ∈ t.t, ¬x.op = 19 := fun x hx => by
  obtain ⟨i, hi, rfl⟩ := List.mem_iff_getElem.1 hx
  have := (hT.inner (D' := fun _ => True) (fun _ _ => trivial) (by omega) i hi (by omega) (List.replicate t.v.length 0) (by simp) fun _ _ => trivial).op
  omega
 have hnow : ∀ {p : Prop} [Decidable p], (t.op = 9 ∨ t.n = 1 ↔ p) → ((t.op == 9 || t.n == 1) = true ↔ p) := fun {p} _ h => by rw [← h]; simp
 have hN : (t.op == 9 || t.n == 1) = true ↔ (t.op = 9 ∨ t.n = 1) := by simp
 have hst : ∀ (s : MSt) (E : EnvM) (v : Int) (x : Vl), (if (t.op == 9 || t.n == 1) = true then stoM s E v x else s) = if t.op = 9 ∨ t.n = 1 then stoM s E v x else s := fun s E v x => by simp only [hN]
 refine bindR_c b K tk s t e _ ho hl (by omega) h19
  (fun az i m s1 tk1 => tkB tk1 ∧ az.length = t.v.length ∧ MOk lv (cK K) C s1 ∧ Al C 0 s1 ∧ Grow (addM s (hpU s.h (t.op == 7) az)) s1 ∧ (∀ x ∈ m, VOk lv (cK K) C s1 x) ∧
   ∀ vs c s', Ev K (.rc (t.op == 9 || t.n == 1) (t.v.drop i) ((t.t.take t.v.length).drop i) (extM e t.v az)) s1 vs c s' → Ev K (.rc (t.op == 9 || t.n == 1) t.v (t.t.take t.v.length) (extM e t.v az)) (addM s (hpU s.h (t.op == 7) az)) (if c = 0 then m ++ vs else []) c s')
  (fun az ha => ⟨ht, ha, hM.hpU, hA, Grow.refl _, by simp, fun vs c s' h => ?_⟩) ?_ ?_
 ·have : vs = if c = 0 then [] ++ vs else [] := by
   by_cases hc : c = 0
   ·rw [if_pos hc]; rfl
   ·rw [if_neg hc]
    exact h.none hc
  rw [← this]
  exact h
 ·rintro az i m s1 tk1 ⟨k1, k0, k2, k3, k4, k6, k5⟩ hi
  have hil : i < (t.t.take t.v.length).length := by omega
  have e1 : (t.t.take t.v.length)[i] = t.t[i]'(by omega) := List.getElem_take
  have hT1 := (hT.recs ho hsp htl (fun a ha => inH_hpU ha) az k0 (inU_new (h := s.h) (r := t.op == 7)) _ (List.getElem_mem hil)).mono k4.2.1
  rw [e1] at hT1
  refine (H C _ (extM e t.v az) s1 tk1 hC (by have := k4.2.2; have e : (addM s (hpU s.h (t.op == 7) az)).fuel = s.fuel := rfl; omega) k1 k2 ⟨hT1, k3⟩).mono fun y Γ' => RetR.mono fun x c s' tk' ⟨hE, ht'⟩ => ⟨fun hc => ?_, fun hc => ?_⟩
  ·rw [drop_at hi, drop_at hil, e1] at k5
   have := k5 _ _ _ (.rcE hE hc)
   rw [if_neg hc] at this
   exact ⟨.fxE ho hsp htl k0 this hc, ht'⟩
  ·subst hc
   have hp := hE.keeps h2 hK C k2 ⟨hT1, k3⟩
   rw [show C + Jd.up (.ev _ _) = C from by show C + 0 = C; omega] at hp
   have hx := hp.2.2 x (List.mem_cons_self ..)
   have hgs := Grow.stoI s' (t.op = 9 ∨ t.n = 1) (extM e t.v az) (t.v[i]'hi) x
   refine ⟨fun _ => ?_, ht', k0, hp.1.stoI hx, ?_, (k4.trans hE.grow).trans hgs, fun z hz => ?_, fun vs c2 s2 h3 => ?_⟩
   ·obtain ⟨a, haz, hf⟩ := extM_find e k0 (t.v[i]'hi) (List.getElem_mem _)
    obtain ⟨y, r, hg⟩ := hE.grow.2.1 a (k4.2.1 a (inU_new a haz))
    exact ⟨a, y, r, hf, hg⟩
   ·have h4 := hp.2.1
    have h3 := stoM_al s' (extM e t.v az) (t.v[i]'hi) x
    unfold Al at *
    split
    ·rw [h3.1, h3.2]; exact h4
    ·exact h4
   ·rcases List.mem_append.1 hz with hz | hz
    ·exact (k6 z hz).grow (hE.grow.trans hgs) (Int.le_refl _)
    ·rw [List.mem_singleton.1 hz]
     exact hx.grow hgs (Int.le_refl _)
   ·rw [drop_at hi, drop_at hil, e1] at k5
    rw [← hst] at h3
    by_cases hc2 : c2 = 0
    ·subst hc2
     have := k5 _ _ _ (.rcC hE h3)
     rw [if_pos rfl] at this ⊢
     rw [List.append_assoc]
     exact this
    ·have := k5 _ _ _ (.rcX hE h3 hc2)
     rw [if_neg hc2] at this ⊢
     exact this
 ·rintro az m s1 tk1 ⟨k1, k0, k2, k3, k4, k6, k5⟩ hml
  rw [List.drop_of_length_le (Nat.le_refl _), List.drop_of_length_le (by omega)] at k5
  have hrc := k5 _ _ _ .rcN
  rw [if_pos rfl, List.append_nil] at hrc
  refine ⟨fun _ => fun v hv => ?_, ?_⟩
  ·obtain ⟨a, haz, hf⟩ := extM_find e k0 v hv
   obtain ⟨y, r, hg⟩ := k4.2.1 a (inU_new a haz)
   exact ⟨a, hf, y, r, hg⟩
  have hgs := Grow.stosI s1 (t.op = 7 ∧ t.n = 0) (extM e t.v az) t.v m
  have hal : Al C 0 (if t.op = 7 ∧ t.n = 0 then stosM s1 (extM e t.v az) t.v m else s1) := by
   have h3 := stosM_al (extM e t.v az) t.v m s1
   unfold Al at *
   split
   ·rw [h3.1, h3.2]; exact k3
   ·exact k3
  have hT' := hT.last (by omega) hsp htl (fun a hi => hgs.2.1 a (k4.2.1 a (inH_hpU hi))) az k0 (fun a hi => hgs.2.1 a (k4.2.1 a (inU_new a hi)))
  exact (H C _ (extM e t.v az) (if t.op = 7 ∧ t.n = 0 then stosM s1 (extM e t.v az) t.v m else s1) tk1 hC (by have := (k4.trans hgs).2.2; have e : (addM s (hpU s.h (t.op == 7) az)).fuel = s.fuel := rfl; omega) k1 (k2.stosI k6) ⟨hT', hal⟩).mono fun y Γ' => RetR.mono fun x c s' tk' ⟨hE2, ht2⟩ => ⟨.fxC ho hsp htl k0 hrc hE2, ht2⟩
theorem evalOk (h2 : 0 ≤ lv ∧ lv ≤ 2) (hK : ∀ x ∈ K, x.ok lv (cK K) 20002 0 fun _ => False) : ∀ n : Nat, EvalOk b K lv n := by
 intro n
 induction n with
 | zero =>
  rintro C t e s tk hC hn ht hM hJ
  exact (evD_c b K tk s t e hn).mono fun y Γ' hq => RetR.of hq ⟨.dry hn, ht⟩
 | succ n IH =>
  rintro C t e s tk hC hn ht hM ⟨hT, hA⟩
  by_cases h0 : s.fuel ≤ 0
  ·exact (evD_c b K tk s t e h0).mono fun y Γ' hq => RetR.of hq ⟨.dry h0, ht⟩
  have hfn := (evD_c b K tk ⟨0, s.out, s.alive, s.to, s.val, s.h⟩ t e (Int.le_refl 0)).1
  refine ACall.apart hfn fun hap => ?_
  have hnd := mcE_nd hap
  have h0' : 0 < s.fuel := by omega
  have hbd := hM.bd
  have hf : 0 < s.fuel ∧ s.fuel ≤ 1000000 := by omega
  have hML := hM.less h0'
  have hAL : Al (C - 1) 0 (lessM s) := by unfold Al at *; show (s.alive.length : Int) ≤ 2 * (C - 1 - (s.fuel - 1)) + 0; omega
  have hJL : JOk lv (cK K) (C - 1) (.go t e) (lessM s) := ⟨hT, hAL⟩
  have hnL : (lessM s).fuel ≤ n := by show s.fuel - 1 ≤ n; omega
  have up : ∀ {R : Vl → Int → MSt → Tok → Prop}, (∀ x c s' tk', R x c s' tk' → EvR K (.go t e) (lessM s) x c s' tk') → ∀ y Γ', RetR b K R y Γ' → RetR b K (EvR K (.ev t e) s) y Γ' := fun h y Γ' => RetR.mono fun x c s' tk' hr => ⟨.ev h0' hnd (h _ _ _ _ hr).1, (h _ _ _ _ hr).2⟩
  have hc := hT.cnt
  rcases (by have := hT.op; omega : t.op = 0 ∨ t.op = 1 ∨ t.op = 3 ∨ t.op = 4 ∨ (t.op = 7 ∨ t.op = 9) ∨ t.op = 8 ∨ t.op = 11 ∨ t.op = 13 ∨ (t.op = 2 ∨ t.op = 5 ∨ t.op = 6 ∨ t.op = 10 ∨ t.op = 12 ∨ (14 ≤ t.op ∧ t.op ≤ 18))) with h | h | h | h | h | h | h | h | h
  ·have hcn := hT.con h
   refine (evConst_c b K tk s t e hf h hcn).mono fun y Γ' hq => RetR.of hq ⟨.ev h0' hnd (.con h ?_), ht⟩
   unfold cK at hcn
   exact List.getElem?_eq_getElem (by omega)
  ·obtain ⟨a, hfd, y, r, hg⟩ := hT.ref (by omega)
   by_cases hu : r = true ∧ y.k = 12
   ·obtain ⟨rfl, hu⟩ := hu
    exact (evRE_c b K tk s t e hf h a hfd y hg hu).mono fun y Γ' hq => RetR.of hq ⟨.ev h0' hnd (.refE h hfd hg hu), ht⟩
   ·exact (evR_c b K tk s t e hf h a hfd y r hg hu).mono fun y Γ' hq => RetR.of hq ⟨.ev h0' hnd (.ref h hfd hg hu), ht⟩
  ·have h3 := hc.2.1 h
   have hsp := list3 h3
   have hs : ∀ i (hi : i < t.t.length), TE lv (cK K) (inH s.h) t.t[i] e := fun i hi => hT.sub (by omega) (List.getElem_mem _)
   have hJ0 : JOk lv (cK K) (C - 1) (.ev (t.t[0]'(by omega)) e) (lessM s) := ⟨hs 0 (by omega), hAL⟩
   refine evI_c b K tk s t e _ hf h h3 ((IH (C - 1) _ e (lessM s) tk (by omega) hnL ht hML hJ0).mono fun y Γ' => RetR.mono fun x c s1 tk1 ⟨hE, ht1⟩ => ?_)
   refine ⟨fun hc0 => ⟨.ev h0' hnd (.ifE h hsp hE hc0), ht1⟩, fun hc0 hx => ?_, fun hc0 hx => ?_⟩
   all_goals
    subst hc0
    have hp := hE.keeps h2 hK (C - 1) hML hJ0
    rw [show C - 1 + Jd.up (.ev _ _) = C - 1 from by show C - 1 + 0 = C - 1; omega] at hp
    have hg := hE.grow
   ·exact (IH (C - 1) _ e s1 tk1 (by omega) (by have := hg.2.2; omega) ht1 hp.1 ⟨(hs 2 (by omega)).mono hg.2.1, hp.2.1⟩).mono fun y Γ' => RetR.mono fun x2 c2 s2 tk2 ⟨hE2, ht2⟩ => ⟨.ev h0' hnd (.ifF h hsp hE hx hE2), ht2⟩
   ·exact (IH (C - 1) _ e s1 tk1 (by omega) (by have := hg.2.2; omega) ht1 hp.1 ⟨(hs 1 (by omega)).mono hg.2.1, hp.2.1⟩).mono fun y Γ' => RetR.mono fun x2 c2 s2 tk2 ⟨hE2, ht2⟩ => ⟨.ev h0' hnd (.ifT h hsp hE hx hE2), ht2⟩
  ·have h1 := hc.1 (by omega)
   have hsp := list1 h1
   exact (evLam_c b K tk s t e hf h h1).mono fun y Γ' hq => RetR.of hq ⟨.ev h0' hnd (.lam h hsp), ht⟩
  ·exact (evB_c b K tk s t e _ hf (by omega) (recOk h2 hK IH (C - 1) (by omega) t e h (lessM s) tk hnL ht hML hJL)).mono (up fun _ _ _ _ h => h)
  ·exact (evB_c b K tk s t e _ hf (by omega) (letOk h2 hK IH (C - 1) (by omega) t e h (lessM s) tk hnL ht hML hJL)).mono (up fun _ _ _ _ h => h)
  ·exact (evP_c b K tk s t e hf h).mono fun y Γ' hq => RetR.of hq ⟨.ev h0' hnd (.prf h), ht⟩
  ·exact (evU_c b K tk s t e hf h).mono fun y Γ' hq => RetR.of hq ⟨.ev h0' hnd (.uns h), ht⟩
  ·have hJa : JOk lv (cK K) (C - 1) (.all t.t e) (lessM s) := ⟨fun x hx => hT.sub (by omega) hx, hAL⟩
   have hfit := hT.fit.len
   refine (evS_c b K tk s t e (EvR K (.go t e) (lessM s)) hf h ((allOk h2 hK IH (C - 1) (by omega) t.t (by omega) e (lessM s) tk hnL ht hML hJa).mono fun y Γ' => AllR.mono fun vs c s1 tk1 ⟨hE, ht1⟩ => ?_)).mono (up fun _ _ _ _ h => h)
   refine ⟨fun hc0 => ⟨.stE h hE hc0, ht1⟩, fun hc0 => ?_⟩
   subst hc0
   have hp := hE.keeps h2 hK (C - 1) hML hJa
   rw [show C - 1 + Jd.up (.all _ _) = C - 1 from by show C - 1 + 0 = C - 1; omega] at hp
   have hg := hE.grow
   have hvl := hE.len rfl
   dsimp only at hvl
   have hb := hp.1.bd
   exact (strictOk h2 IH (C - 1) (by omega) t e h vs hvl s1 tk1 (by have := hg.2.2; omega) ht1 hp.1 ⟨hT.mono hg.2.1, hp.2.2, by rw [hvl]; omega, hp.2.1⟩).mono fun y Γ' => RetR.mono fun x c s2 tk2 ⟨hE2, ht2⟩ => ⟨.st h hE hE2, ht2⟩
end
end Go.Cb
namespace Go.Cb
open Go.Proofs
def eqP : PV → PV → Option Bool
 | .int k a, .int k' b => match ikEq k k' with
  | true => some (a == b)
  | false => none
 | .bool a, .bool b => some (a == b)
 | .str a, .str b => some (a == b)
 | _, _ => none
def eqPs : List PV → List PV → Option Bool
 | [], [] => some true
 | x :: xs, y :: ys => match eqP x y, eqPs xs ys with
  | some a, some b => some (a && b)
  | _, _ => none
 | _, _ => none
def kindEq : Option TypeDesc → PV → Bool
 | some (.int _), .int _ _ => true
 | some .bool, .bool _ => true
 | some .string, .str _ => true
 | _, _ => false
def fieldEq (P : Program) : List Field → List PV → Nat → Bool
 | [], [], _ => true
 | f :: fs, x :: xs, i => (f.name != "_") && (f.offset == i) && kindEq (P.underlying f.type) x && fieldEq P fs xs (i + 1)
 | _, _, _ => false
section
variable {P : Program} {w : World} {F : Fz}
theorem eqP_run {x y : PV} {v u : Value} {q : Bool} {t : TypeId} (h : eqP x y = some q) (hv : Rep F x v) (hu : Rep F y u) (ht : kindEq (P.underlying t) x = true) (d : Nat) : (Op.equalIn (d + 1) t v u).run P w = .ok q w ∧ (isAgg t).run P w = .ok false w := by
 unfold eqP at h
 split at h
 ·rename_i k a k' b
  split at h
  ·rename_i hk
   have hk := ikEq_iff.1 hk
   subst hk
   cases h
   rw [rep_int hv, rep_int hu]
   cases hp : P.underlying t with
   | none => rw [hp] at ht; cases ht
   | some td =>
    rw [hp] at ht
    cases td <;> first | (cases ht; done) | skip
    exact ⟨run_equalIn_int w d _ _ _ _ _ hp, by simp [isAgg, run_underlying hp]⟩
  ·cases h
 ·rename_i a b
  cases h
  rw [rep_bool hv, rep_bool hu]
  cases hp : P.underlying t with
  | none => rw [hp] at ht; cases ht
  | some td =>
   rw [hp] at ht
   cases td <;> first | (cases ht; done) | skip
   exact ⟨run_equalIn_bool' w d _ _ _ hp, by simp [isAgg, run_underlying hp]⟩
 ·rename_i a b
  cases h
  rw [rep_str hv, rep_str hu]
  cases hp : P.underlying t with
  | none => rw [hp] at ht; cases ht
  | some td =>
   rw [hp] at ht
   cases td <;> first | (cases ht; done) | skip
   refine ⟨?_, by simp [isAgg, run_underlying hp]⟩
   rw [run_equalIn_string w d _ _ _ hp, toListBytes, toListBytes]
 ·cases h
theorem eqPs_run (d : Nat) : ∀ (fs : List Field) (xs ys : List PV) (vs us pv pu : List Value) (q : Bool), fieldEq P fs xs pv.length = true → pu.length = pv.length → RepL F xs vs → RepL F ys us → eqPs xs ys = some q →
  (Op.eqFields (d + 1) (pv ++ vs).toArray (pu ++ us).toArray fs).run P w = .ok q w
 | [], [], ys, vs, us, pv, pu, q, _, _, hv, hu, h => by
  cases ys with
  | nil => simp only [eqPs, Option.some.injEq] at h; subst h; simp [Op.eqFields]
  | cons y ys => simp [eqPs] at h
 | [], x :: xs, _, _, _, _, _, _, hf, _, _, _, _ => by simp [fieldEq] at hf
 | f :: fs, [], _, _, _, _, _, _, hf, _, _, _, _ => by simp [fieldEq] at hf
 | f :: fs, x :: xs, [], _, _, _, _, _, _, _, _, _, h => by simp [eqPs] at h
 | f :: fs, x :: xs, y :: ys, [], _, _, _, _, _, _, hv, _, _ => by simp only [RepL] at hv
 | f :: fs, x :: xs, y :: ys, v :: vs, [], _, _, _, _, _, _, hu, _ => by simp only [RepL] at hu
 | f :: fs, x :: xs, y :: ys, v :: vs, u :: us, pv, pu, q, hf, hl, hv, hu, h => by
  simp only [fieldEq, Bool.and_eq_true, bne_iff_ne, beq_iff_eq] at hf
  obtain ⟨⟨⟨hn, ho⟩, ht⟩, hf⟩ := hf
  simp only [RepL] at hv hu
  unfold eqPs at h
  split at h
  ·rename_i a b ha hb
   cases h
   obtain ⟨g1, g2⟩ := eqP_run (w := w) ha hv.1.2 hu.1.2 ht d
   have p1 : (part f.type (pv ++ v :: vs).toArray f.offset).run P w = .ok v w := by
    simp [part, g2, ho, Result.andThen]
   have p2 : (part f.type (pu ++ u :: us).toArray f.offset).run P w = .ok u w := by
    simp [part, g2, ho, ← hl, Result.andThen]
   have ih := eqPs_run d fs xs ys vs us (pv ++ [v]) (pu ++ [u]) b (by simpa using hf) (by simp [hl]) hv.2 hu.2 hb
   rw [List.append_assoc, List.append_assoc] at ih
   simp only [Op.eqFields, hn, ne_eq, not_false_eq_true, if_true, Sem.run_bind, p1, p2, g1, Result.andThen_ok]
   cases a
   ·simp
   ·simpa using ih
  ·cases h
end
theorem PAggEq.of {P : Program} {t : TypeId} {xs ys : List PV} {K : Bool → Prop} (q : Bool) (hq : eqPs xs ys = some q) (h : K q) (h1 : P.underlying t = some (.struct (P.fieldsOf t)) := by kernel_rfl) (h2 : P.stoodInHeld t = false := by kernel_rfl) (h3 : P.eqGuardType P.depth t = false := by kernel_rfl)
  (h4 : fieldEq P (P.fieldsOf t).toList xs 0 = true := by kernel_rfl) : PAggEq P t xs ys K := by
 refine ⟨q, fun F vs us w hv hu => ⟨fun x y => run_eqGuard_agg w .eql t x y _ _ h3, ?_⟩, h⟩
 rw [run_eql_struct, show (10000 : Nat) = 9998 + 1 + 1 from rfl, run_equalIn_agg w 9999 t _ _ h1 h2]
 have := eqPs_run (P := P) (w := w) 9998 (P.fieldsOf t).toList xs ys vs us [] [] q h4 rfl hv hu hq
 simp only [List.nil_append] at this
 rw [this]
 rfl
end Go.Cb
namespace Go.Cb
open Go.Proofs
set_option maxRecDepth 100000
set_option maxHeartbeats 4000000
mutual
theorem Datum.few_szN : ∀ (d : Datum) (n : Int), 0 ≤ d.few n → (d.sz : Int) + d.few n = n
 | .mk _ _ _ _ l, n, h => by
  rw [Datum.few] at h ⊢
  rw [Datum.sz]
  have := Datum.fews_szN l (n - 1) h
  omega
theorem Datum.fews_szN : ∀ (l : List Datum) (n : Int), 0 ≤ Datum.fews l n → (Datum.szs l : Int) + Datum.fews l n = n
 | [], n, h => by rw [Datum.szs, Datum.fews]; omega
 | x :: xs, n, h => by
  rw [Datum.fews] at h ⊢
  rw [Datum.szs]
  split at h
  ·rename_i hn
   rw [if_pos hn]
   have h1 := Datum.few_szN x n
   have h2 := Datum.fews_szN xs (x.few n) h
   have : 0 ≤ x.few n := by
    have h3 := Datum.szs_len xs
    omega
   have := h1 this
   omega
  ·omega
end
theorem valV_its (d : Datum) : (valV d).its.1.length ≤ d.sz := by
 induction d using Datum.ind with
 | h d ih =>
  have hz := d.sz_eq
  rw [valV_eq]
  by_cases hk : d.kind = 6
  ·by_cases h2 : d.l.length = 2
   ·rw [Vl.its_pair (.mk d.kind d.n d.d d.s (d.l.map valV) none none) hk (by show (d.l.map valV).length = 2; rw [List.length_map]; exact h2)]
    obtain ⟨a, c, e⟩ := len2 h2
    have h1 := ih c (by rw [e]; simp)
    have hs : Datum.szs d.l = a.sz + (c.sz + 0) := by rw [e]; rfl
    have e2 : (Vl.mk d.kind d.n d.d d.s (d.l.map valV) none none).l = [valV a, valV c] := by show d.l.map valV = _; rw [e]; rfl
    simp only [e2, List.length_cons, List.getElem_cons_succ, List.getElem_cons_zero]
    have := a.sz_eq
    omega
   ·have : (Vl.mk d.kind d.n d.d d.s (d.l.map valV) none none).its.1 = [] := by
     rw [Vl.its, if_pos hk]
     have hl : ¬(d.l.map valV).length = 2 := by rw [List.length_map]; exact h2
     match d.l.map valV, hl with
     | [], _ => rfl
     | [_], _ => rfl
     | [_, _], hl => exact absurd rfl hl
     | _ :: _ :: _ :: _, _ => rfl
    rw [this]
    exact Nat.zero_le _
  ·rw [Vl.its_end (.mk d.kind d.n d.d d.s (d.l.map valV) none none) hk]
   exact Nat.zero_le _
theorem valV_ok {lv cs N A : Int} {D : Nat → Prop} (d : Datum) : ∀ deep : Int, d.rightD deep = true → d.bulk ≤ 1000000000 → (d.sz : Int) ≤ N → (valV d).ok lv cs N A D := by
 induction d using Datum.ind with
 | h d ih =>
  intro deep h hb hN
  have hz := d.sz_eq
  have hbe := d.bulk_eq
  have hsl := Datum.szs_len d.l
  have hit := valV_its d
  have h' := h
  rw [Datum.rightD_eq, Bool.and_eq_true] at h
  have h1 := h.1
  unfold bareBad at h1
  simp only [Bool.not_eq_true', Bool.or_eq_false_iff, decide_eq_false_iff_not] at h1
  have hk := h1.1.1.1.1.1
  have key : ∀ l : List Datum, (∀ y ∈ l, ∀ deep : Int, y.rightD deep = true → y.bulk ≤ 1000000000 → (y.sz : Int) ≤ N → (valV y).ok lv cs N A D) → ∀ deep, Datum.rightDs l deep = true → Datum.bulks l ≤ 1000000000 → (Datum.szs l : Int) ≤ N → ∀ v ∈ l.map valV, v.ok lv cs N A D := by
   intro l
   induction l with
   | nil => intro _ _ _ _ _ v hv; cases hv
   | cons x l ihl =>
    intro hy deep h hb hs v hv
    rw [Datum.rightDs, Bool.and_eq_true] at h
    rw [Datum.bulks] at hb
    rw [Datum.szs] at hs
    rw [List.map_cons] at hv
    rcases List.mem_cons.1 hv with rfl | hv
    ·exact hy x (by simp) deep h.1 (by omega) (by omega)
    ·exact ihl (fun y hm => hy y (List.mem_cons_of_mem _ hm)) deep h.2 (by omega) (by omega) v hv
  have hparts := key d.l ih _ h.2 (by omega) (by omega)
  rw [Vl.ok_eq]
  rw [valV_eq] at hit ⊢
  refine ⟨⟨?_, by omega, ?_⟩, fun h => ?_, fun h => ?_, fun h => ?_, hparts⟩
  ·rw [Vl.tx_eq]
   refine ⟨?_, ?_, ?_, fun y hy => (hparts y hy).tx⟩
   ·show 0 ≤ d.kind ∧ d.kind ≤ 12
    omega
   ·intro h6
    have h6' : d.kind = 6 := h6
    have h7 := h1.2.1
    rw [h6'] at h7
    show (d.l.map valV).length = 2
    rw [List.length_map]
    simp at h7
    omega
   ·show d.s.length ≤ 1000000000
    omega
  ·show ((d.l.map valV).length : Int) ≤ N
   rw [List.length_map]
   omega
  ·have h' : d.kind = 8 := h
   omega
  ·have h' : d.kind = 11 := h
   omega
  ·have h' : d.kind = 10 := h
   omega
def Fit (p : Prog) (lv : Int) : Prop := RightP p lv ∧ Datum.bulks p.consts ≤ 1000000000 ∧ Datum.szs p.consts ≤ 2000 ∧ p.body.vars.length ≤ 100000000
theorem Fit.consts {p : Prog} {lv : Int} (h : Fit p lv) : ∀ x ∈ p.consts.map valV, x.ok lv (cK (p.consts.map valV)) 20002 0 fun _ => False := fun x hx => by
 obtain ⟨d, hd, rfl⟩ := List.mem_map.1 hx
 have h1 := Datum.szs_mem hd
 have h2 := Datum.bulks_mem hd
 have h3 := h.2.1
 have h4 := h.2.2.1
 exact valV_ok d 0 (h.1.2.1 d hd) (by omega) (by omega)
theorem runOk_c (p : Prog) (lv : Int) (h : Fit p lv) (fuel : Int) (hf : 0 ≤ fuel ∧ fuel ≤ 10000) :
  ACall Tryz.prog 29 [.agg p.cells, .int .i64 fuel] [] (fun y Γ' => ∃ x c s', Ev (p.consts.map valV) (.ev p.body []) (mc0 fuel) [x] c s' ∧ y = .agg [.str s'.out, .int .i64 c, .str (endV x c s')] ∧ Γ' = []) := by
 have hlc := Datum.szs_len p.consts
 have h3 := h.2.1
 have h4 := h.2.2.1
 refine RunR_c p (fun d hd => by have := Datum.szs_mem hd; omega) (by omega) fuel _ fun b tk h1 h2 => ?_
 have hM : MOk lv (cK (p.consts.map valV)) 50000 (mc0 fuel) := ⟨hf.1, by show fuel + 20002 ≤ 50000; omega, kndV_ok (by show 0 ≤ 50000 - fuel; omega) (.inl rfl), fun a x r hx => (by rw [show (mc0 fuel).h = [] from rfl, hget] at hx; cases hx), by show ((0 : Nat) : Int) ≤ 1001 * (50000 - fuel); omega⟩
 have hJ : JOk lv (cK (p.consts.map valV)) 50000 (.ev p.body []) (mc0 fuel) := ⟨⟨[], 0, by unfold cK; rw [List.length_map]; exact h.1.2.2.1, fun v hv => absurd hv (List.not_mem_nil), h.1.2.2.2.1, h.2.2.2⟩, by show ((0 : Nat) : Int) ≤ 2 * (50000 - fuel) + 0; omega⟩
 refine (evalOk h.1.1 h.consts 10000 50000 p.body [] (mc0 fuel) tk (by decide) (by show fuel ≤ ((10000 : Nat) : Int); omega) ⟨h1, h2⟩ hM hJ).mono fun y Γ' => RetR.mono fun x c s' tk' ⟨hE, _⟩ => ?_
 have hp := hE.keeps h.1.1 h.consts 50000 hM hJ
 exact ⟨fun _ => (hp.2.2 x (List.mem_cons_self ..)).tx, fun _ => hp.1.vl.tx, hE⟩
theorem resEq {a b c a' b' c' : _} {K : Bool → Prop} (h : K (a == a' && (b == b' && (c == c' && true)))) : PAggEq Tryz.prog 68 [.str a, .int .i64 b, .str c] [.str a', .int .i64 b', .str c'] K :=
 PAggEq.of _ rfl h
theorem means_c (p q : Prog) (lv lv' : Int) (h : Fit p lv) (h' : Fit q lv') (fuel : Int) (hf : 0 ≤ fuel ∧ fuel ≤ 1023)
  (hS : ∀ x c s' x' c' t', Ev (p.consts.map valV) (.ev p.body []) (mc0 fuel) [x] c s' → Ev (q.consts.map valV) (.ev q.body []) (mc0 (8 * fuel)) [x'] c' t' → c ≠ 8 → c' ≠ 8 → c' = c ∧ t'.out = s'.out ∧ endV x' c' t' = endV x c s') :
  ACall Tryz.prog 12 [.agg p.cells, .agg q.cells, .int .i64 fuel] [] (fun y Γ' => y = .bool true ∧ Γ' = []) := by
 have r1 := runOk_c p lv h fuel (by omega)
 have r2 := runOk_c q lv' h' (8 * fuel) (by omega)
 refine ACall.of_body tt_ok Tryz.func12 rfl rfl (n := 29) rfl rfl ?_
 conv => whnf
 repeat' (first|((first|refine aM ?_|intro _);conv=>whnf)|(refine zX (fun hc=>?_) (fun hc=>?_)<;>(try simp only [SY] at hc)<;>omega))
 refine PCall.go (Γ1 := []) r1 (WkT.refl _) ?_
 rintro _ _ ⟨x, c, s', hE, rfl, rfl⟩
 conv => whnf
 repeat' (first|((first|refine aM ?_|refine aF ?_|intro _);conv=>whnf)|(refine zX (fun hc=>?_) (fun hc=>?_)<;>(try simp only [SY] at hc)<;>omega))
 refine PCall.go (Γ1 := []) r2 (WkT.refl _) ?_
 rintro _ _ ⟨x', c', t', hE', rfl, rfl⟩
 conv => whnf
 repeat' (first|((first|(((apply zY;intro hg));first|exact tB|((conv=>whnf);(repeat ((first|refine resEq ?_|refine aH ?_);conv=>whnf));exact pZ))|refine aM ?_|refine aF ?_|intro _|refine zG ?_);conv=>whnf)|(refine zX (fun hc=>?_) (fun hc=>?_)<;>(try simp only [SY] at hc)<;>omega))
 refine PRet.gen (y := .bool true) (Γ' := []) (Wk.bool ?_) ⟨rfl, rfl⟩
 by_cases h8 : c = 8
 ·simp [h8]
 by_cases h8' : c' = 8
 ·simp [h8']
 obtain ⟨e1, e2, e3⟩ := hS x c s' x' c' t' hE hE' h8 h8'
 rw [e3, e2, e1]
 simp
end Go.Cb
namespace Go.Cb
open Go.Proofs
set_option maxRecDepth 100000
set_option maxHeartbeats 4000000
section
variable {K : List Vl} {n : Int}
theorem ERi.at {w w1 : Wd} {S : List Int} {ρ : Int → Int} {κ : Kno} {e e' : EnvM} (h : ERi w S ρ κ e e') (hw : w.le w1) {s r : MSt} (hV : Va ACi w1 s r) {v : Int} (hv : v ∈ S) : ∃ a b x y, fndM e v = some a ∧ fndM e' (ρ v) = some b ∧ hget s.h a = some (x, false) ∧ hget r.h b = some (y, false) ∧ VW ACi w1 x y ∧
  ∀ lam S0, κ v = some (lam, S0) → ∃ e0, x = cloV e0 lam ∧ ∀ u ∈ S0, u ∈ S ∧ fndM e0 u = fndM e u := by
 obtain ⟨a, b, h1, h2, h3, h4⟩ := h v hv
 obtain ⟨x, y, k1, k2, k3⟩ := hV.ep.pe a b (hw.2.2.2 _ _ h3)
 refine ⟨a, b, x, y, h1, h2, k1, k2, k3, fun lam S0 hq => ?_⟩
 obtain ⟨e0, m1, m2⟩ := h4 lam S0 hq
 have := hV.pg a _ (hw.2.2.1 _ _ m1)
 rw [k1] at this
 exact ⟨e0, (Prod.mk.inj (Option.some.inj this)).1, m2⟩
theorem congI (hK : ∀ x ∈ K, ∀ (C : Clo → Clo → Prop) (B : Nat → Nat → Prop), VR C B x x) (HS : HSi K n) {w : Wd} {t : Trm} {e e' : EnvM} {S : List Int} {ρ : Int → Int} {κ : Kno} {ts : List Trm} {vv : List Int} (ho : ibB t.op) (hr : t.op = 1 → t.n ∈ S) (hl : ts.length = t.t.length) (hI : ∀ i (hi : i < t.t.length), In S ρ κ t.t[i] (ts[i]'(by omega))) (hE : ERi w S ρ κ e e') :
  Sm ACi K n w (.go t e) (.go (.mk t.op (if t.op = 1 then ρ t.n else t.n) vv ts) e') := by
 intro w1 hw s r hV hn v c s' h1 v' c' r' h2 n1 n2
 obtain ⟨t', ht'⟩ : ∃ t', t' = Trm.mk t.op (if t.op = 1 then ρ t.n else t.n) vv ts := ⟨_, rfl⟩
 have hop : t'.op = t.op := by rw [ht']; rfl
 have htt : t'.t = ts := by rw [ht']; rfl
 have htn : ¬t.op = 1 → t'.n = t.n := fun h => by rw [ht']; show (if t.op = 1 then ρ t.n else t.n) = _; rw [if_neg h]
 have htr : t.op = 1 → t'.n = ρ t.n := fun h => by rw [ht']; show (if t.op = 1 then ρ t.n else t.n) = _; rw [if_pos h]
 rw [← ht'] at h2
 have hS : SmL ACi K n w1 e e' t.t ts := SmL.of hl fun i hi => HS w1 _ _ _ _ ⟨S, ρ, κ, hI i hi, hE.up hw⟩
 unfold ibB at ho
 by_cases h5 : t.op = 5 ∨ t.op = 6 ∨ t.op = 10 ∨ t.op = 12 ∨ (15 ≤ t.op ∧ t.op ≤ 18)
 ·have hla := hS.all ACi.mono
  rcases h1.st_inv (by omega) with ⟨h0, rfl, us, g1⟩ | ⟨v1, us, s1, rfl, g1, g2⟩
  ·rcases h2.st_inv (by omega) with ⟨h0', rfl, us', g3⟩ | ⟨v2, us', r1, rfl, g3, g4⟩
   ·rw [htt] at g3
    exact (hla w1 w1.refl s r hV hn _ _ _ g1 _ _ _ g3 n1 n2).fail h0
   ·rw [htt] at g3
    exact absurd (hla w1 w1.refl s r hV hn _ _ _ g1 _ _ _ g3 n1 (by decide)).1.symm h0
  ·rcases h2.st_inv (by omega) with ⟨h0', rfl, us', g3⟩ | ⟨v2, us', r1, rfl, g3, g4⟩
   ·rw [htt] at g3
    exact absurd (hla w1 w1.refl s r hV hn _ _ _ g1 _ _ _ g3 (by decide) n2).1 h0'
   ·rw [htt] at g3
    obtain ⟨_, w2, m1, m2, m3, m4⟩ := hla w1 w1.refl s r hV hn _ _ _ g1 _ _ _ g3 (by decide) (by decide)
    exact Rs.back m1 m3 (Sm.str (t := t) (t' := t') ACi.mono (callI HS) hop (htn (by omega)) h5 m2 (Int.le_trans g1.grow.2.2 hn) (m4 rfl) g2 g4 n1 n2)
 ·rcases (by omega : t.op = 0 ∨ t.op = 1 ∨ t.op = 3 ∨ t.op = 11 ∨ t.op = 13) with h | h | h | h | h
  ·have hn' := htn (by omega)
   cases h1 with
   | con _ hk =>
    cases h2 with
    | con _ hk' =>
     rw [hn', hk] at hk'
     cases hk'
     exact Rs.done hV (hK _ (List.mem_of_getElem? hk) _ _)
    | _ => exfalso; omega
   | _ => exfalso; omega
  ·obtain ⟨a, b, x, y, k1, k2, k3, k4, k5, _⟩ := hE.at hw hV (hr h)
   obtain ⟨rfl, rfl, rfl⟩ := h1.ref_inv h k1 k3
   obtain ⟨rfl, rfl, rfl⟩ := h2.ref_inv (hop.trans h) (by rw [htr h]; exact k2) k4
   exact Rs.done hV k5
  ·have tt : ∀ {a b d : Trm}, t.t = [a, b, d] → ∃ a' b' d', ts = [a', b', d'] ∧ Sm ACi K n w1 (.ev a e) (.ev a' e') ∧ Sm ACi K n w1 (.ev b e) (.ev b' e') ∧ Sm ACi K n w1 (.ev d e) (.ev d' e') := fun {a b d} hx => by
    rw [hx] at hS
    obtain ⟨y1, m1, e1, S1, y2, m2, e2, S2, y3, m3, e3, S3, e4⟩ := hS
    have e4' : m3 = [] := e4
    exact ⟨y1, y2, y3, by rw [e1, e2, e3, e4'], S1, S2, S3⟩
   cases h1 with
   | ifE _ hs1 q1 h0 =>
    obtain ⟨a', b', d', hts, S1, S2, S3⟩ := tt hs1
    rw [hts] at htt
    cases h2 with
    | ifE _ hs2 q2 h0' =>
     rw [htt] at hs2; cases hs2
     exact (S1 w1 w1.refl s r hV hn _ _ _ q1 _ _ _ q2 n1 n2).fail h0
    | ifF _ hs2 q2 _ _ | ifT _ hs2 q2 _ _ =>
     rw [htt] at hs2; cases hs2
     exact absurd (S1 w1 w1.refl s r hV hn _ _ _ q1 _ _ _ q2 n1 (by decide)).1.symm h0
    | _ => exfalso; omega
   | ifF _ hs1 q1 hx1 r1 =>
    obtain ⟨a', b', d', hts, S1, S2, S3⟩ := tt hs1
    rw [hts] at htt
    cases h2 with
    | ifE _ hs2 q2 h0' =>
     rw [htt] at hs2; cases hs2
     exact absurd (S1 w1 w1.refl s r hV hn _ _ _ q1 _ _ _ q2 (by decide) n2).1 h0'
    | ifF _ hs2 q2 hx2 r2 =>
     rw [htt] at hs2; cases hs2
     obtain ⟨_, w2, g1, g2, g3, g4⟩ := S1 w1 w1.refl s r hV hn _ _ _ q1 _ _ _ q2 (by decide) (by decide)
     exact Rs.back g1 g3 (S3 w2 g1 _ _ g2 (Int.le_trans q1.grow.2.2 hn) _ _ _ r1 _ _ _ r2 n1 n2)
    | ifT _ hs2 q2 hx2 r2 =>
     rw [htt] at hs2; cases hs2
     obtain ⟨_, w2, g1, g2, g3, g4⟩ := S1 w1 w1.refl s r hV hn _ _ _ q1 _ _ _ q2 (by decide) (by decide)
     obtain ⟨j1, j2, _⟩ := VR_k (VRs_two.1 (g4 rfl)).1
     exact absurd ⟨j1.trans hx1.1, j2.trans hx1.2⟩ hx2
    | _ => exfalso; omega
   | ifT _ hs1 q1 hx1 r1 =>
    obtain ⟨a', b', d', hts, S1, S2, S3⟩ := tt hs1
    rw [hts] at htt
    cases h2 with
    | ifE _ hs2 q2 h0' =>
     rw [htt] at hs2; cases hs2
     exact absurd (S1 w1 w1.refl s r hV hn _ _ _ q1 _ _ _ q2 (by decide) n2).1 h0'
    | ifF _ hs2 q2 hx2 r2 =>
     rw [htt] at hs2; cases hs2
     obtain ⟨_, w2, g1, g2, g3, g4⟩ := S1 w1 w1.refl s r hV hn _ _ _ q1 _ _ _ q2 (by decide) (by decide)
     obtain ⟨j1, j2, _⟩ := VR_k (VRs_two.1 (g4 rfl)).1
     exact absurd ⟨j1.symm.trans hx2.1, j2.symm.trans hx2.2⟩ hx1
    | ifT _ hs2 q2 hx2 r2 =>
     rw [htt] at hs2; cases hs2
     obtain ⟨_, w2, g1, g2, g3, g4⟩ := S1 w1 w1.refl s r hV hn _ _ _ q1 _ _ _ q2 (by decide) (by decide)
     exact Rs.back g1 g3 (S2 w2 g1 _ _ g2 (Int.le_trans q1.grow.2.2 hn) _ _ _ r1 _ _ _ r2 n1 n2)
    | _ => exfalso; omega
   | _ => exfalso; omega
  ·have hn' := htn (by omega)
   cases h1 with
   | prf _ =>
    cases h2 with
    | prf _ => rw [hn']; exact Rs.done hV (VR_bare rfl (by show ¬(9 : Int) = 8 ∧ ¬(9 : Int) = 11; decide))
    | _ => exfalso; omega
   | _ => exfalso; omega
  ·cases h1 with
   | uns _ =>
    cases h2 with
    | uns _ => exact Rs.done hV (VR_knd 12 (by decide))
    | _ => exfalso; omega
   | _ => exfalso; omega
theorem all_lam {e : EnvM} : ∀ (l : List Trm) (s : MSt) (us : List Vl) (c : Int) (s' : MSt), Ev K (.all l e) s us c s' → c = 0 → ∀ i (hi : i < l.length) (hi' : i < us.length), isL l[i] → us[i] = cloV e l[i]
 | [], _, _, _, _, _, _, i, hi, _, _ => absurd hi (Nat.not_lt_zero _)
 | x :: l, s, us, c, s', h, h0, i, hi, hi', hL => by
  subst h0
  rcases h.all_inv with ⟨h0, _⟩ | ⟨x1, s1, us1, h1, h2, h3⟩
  ·exact absurd rfl h0
  ·obtain rfl := h3 rfl
   match i, hi, hi', hL with
   | 0, _, _, hL =>
    obtain ⟨e1, _⟩ := h1.evL_inv (by decide) hL
    injection e1 with e1 _
   | i + 1, hi, hi', hL => exact all_lam l s1 us1 0 s' h2 rfl i (by simpa using hi) (by simpa using hi') hL
theorem goI (hK : ∀ x ∈ K, ∀ (C : Clo → Clo → Prop) (B : Nat → Nat → Prop), VR C B x x) (HS : HSi K n) {w : Wd} {t t' : Trm} {e e' : EnvM} {S : List Int} {ρ : Int → Int} {κ : Kno} (hI : In S ρ κ t t') (hE : ERi w S ρ κ e e') : Sm ACi K n w (.go t e) (.go t' e') := by
 have hI0 := hI
 cases hI with
 | cong ho hr hl h => exact congI hK HS ho hr hl h hE
 | @lam _ _ _ κ2 _ b vs' b' ho ht hr hb hk h =>
  intro w1 hw s r hV hn v c s' h1 v' c' r' h2 n1 n2
  obtain ⟨hL', hv⟩ := cloI hI0 ho (hE.up hw)
  obtain ⟨ho', b1, hb1⟩ := hL'
  obtain ⟨rfl, rfl, rfl⟩ := h1.lam_inv ho ht
  obtain ⟨rfl, rfl, rfl⟩ := h2.lam_inv ho' hb1
  unfold cloV at hv
  rw [ht, hb1] at hv
  exact Rs.done hV hv
 | @lt _ _ _ κ2 _ l b n' vs' l' b' ho ht hv hb hl h hk h3 =>
  intro w1 hw s r hV hn v c s' h1 v' c' r' h2 n1 n2
  have hS : SmL ACi K n w1 e e' l l' := SmL.of hl fun i hi => HS w1 _ _ _ _ ⟨S, ρ, κ, h i hi, hE.up hw⟩
  have hla := hS.all ACi.mono
  rcases h1.let_inv ho ht with ⟨h0, rfl, us, k1⟩ | ⟨v1, xs, s1, az, rfl, k1, _, haz, k2⟩
  ·rcases h2.let_inv rfl rfl with ⟨h0', rfl, us', q1⟩ | ⟨v2, ys, r1, bz, rfl, q1, _, hbz, q2⟩
   ·exact (hla w1 w1.refl s r hV hn _ _ _ k1 _ _ _ q1 n1 n2).fail h0
   ·exact absurd (hla w1 w1.refl s r hV hn _ _ _ k1 _ _ _ q1 n1 (by decide)).1.symm h0
  ·rcases h2.let_inv rfl rfl with ⟨h0', rfl, us', q1⟩ | ⟨v2, ys, r1, bz, rfl, q1, _, hbz, q2⟩
   ·exact absurd (hla w1 w1.refl s r hV hn _ _ _ k1 _ _ _ q1 (by decide) n2).1 h0'
   ·obtain ⟨_, w2, m1, m2, m3, m4⟩ := hla w1 w1.refl s r hV hn _ _ _ k1 _ _ _ q1 (by decide) (by decide)
    have hxl : xs.length = t.v.length := by have := k1.len rfl; dsimp only at this; omega
    refine bdyIn HS m2 m1 m3 (Int.le_trans k1.grow.2.2 hn) (hE.up (Wd.trans hw m1)) hb h3 haz hbz hxl (m4 rfl) (fun u hu q hq => ?_) k2 q2 n1 n2
    rcases hk u hu q hq with h4 | ⟨i, hi, e1, e2, e3⟩
    ·exact .inl h4
    ·refine .inr ⟨i, hi, e1, e, ?_, fun z hz => ?_⟩
     ·rw [e2]
      exact all_lam l s xs 0 s1 k1 rfl i (by omega) (by omega) e3
     ·rw [e2] at hz
      exact ⟨List.mem_append_left _ hz, (ext_other fun h => hb.ap z h hz).symm⟩
 | @fx _ _ _ κ2 _ l b n' vs' l' b' ho ht hv hL hb hl h hk h3 =>
  intro w1 hw s r hV hn v c s' h1 v' c' r' h2 n1 n2
  have hL' : ∀ x ∈ l', isL x := fun x hx => by
   obtain ⟨i, hi, rfl⟩ := List.mem_iff_getElem.1 hx
   have hi' : i < l.length := by omega
   have ho4 := (hL l[i] (List.getElem_mem _)).1
   have hIi := h i hi'
   generalize l[i] = x at ho4 hIi
   generalize (l'[i]'(by omega)) = y at hIi ⊢
   cases hIi with
   | cong ho' => exfalso; unfold ibB at ho'; omega
   | lt ho' => exfalso; omega
   | fx ho' => exfalso; omega
   | inl ho' => exfalso; omega
   | lam => exact ⟨rfl, _, rfl⟩
  obtain ⟨az, v3, s3, haz, _, rfl, h4, p0, p1, p2, p3, p4, p5⟩ := fix_inv h1 n1 ho ht hL hb.nd
  obtain ⟨bz, v4, r3, hbz, _, rfl, h5, q0, q1, q2, q3, q4, q5⟩ := fix_inv h2 n2 rfl rfl hL' hb.nd'
  have hbz' : bz.length = vs'.length := hbz
  have hlen := hb.len
  obtain ⟨w', l1, l2, l3, l4⟩ := linkI (κ2 := κ2) hV (Fr.refl _ _ _) p1 q1 p2 q2 (hE.up hw) hb az bz haz hbz (l.map fun x => cloV (extM e t.v az) x) (l'.map fun x => cloV (extM e' vs' bz) x) (by rw [List.length_map]; exact hv) (by rw [List.length_map]; omega)
   (fun i hi => by rw [List.getElem_map]; exact ⟨p5 i hi, p4 _ (List.getElem_mem _)⟩) (fun i hi => by rw [List.getElem_map]; exact ⟨q5 i (show i < vs'.length by omega), q4 _ (List.getElem_mem _)⟩)
   (fun u hu q hq => by
    rcases hk u hu q hq with h4 | ⟨i, hi, e1, e2⟩
    ·exact .inl h4
    ·refine .inr ⟨i, hi, e1, extM e t.v az, by rw [List.getElem_map, e2], fun z hz => ?_⟩
     rw [e2] at hz
     exact ⟨hz, rfl⟩)
   (fun w' _ hE' i hi => by
    rw [List.getElem_map, List.getElem_map]
    exact (cloI (h i (by omega)) (hL _ (List.getElem_mem _)).1 hE').2)
  exact Rs.back l1 l3 (HS w' b _ b' _ ⟨_, _, κ2, h3, l4⟩ w' w'.refl _ _ l2 (Int.le_trans p0 hn) _ _ _ h4 _ _ _ h5 n1 n2)
 | @inl _ _ _ _ f args lam S0 body args' vs' body' ho ht hf hfs hk hlo hln hlt hla hl h hb h3 =>
  intro w1 hw s r hV hn v c s' h1 v' c' r' h2 n1 n2
  obtain ⟨a, b, x, y, k1, k2, k3, k4, k5, k6⟩ := hE.at hw hV hfs
  obtain ⟨e0, hx, hag⟩ := k6 lam S0 hk
  subst hx
  have hS : SmL ACi K n w1 e e' args args' := SmL.of hl fun i hi => HS w1 _ _ _ _ ⟨S, ρ, κ, h i hi, hE.up hw⟩
  have hlm := hS.all ACi.mono
  have hV' : Va ACi w1 (lessM s) r := hV.sam (Sam.less s) (Sam.refl _) (HLe.refl _) (HLe.refl _)
  have all1 : ∀ {us : List Vl} {c2 : Int} {s2 : MSt}, Ev K (.all t.t e) s us c2 s2 → c2 ≠ 8 → ∃ us2, Ev K (.all args e) (lessM s) us2 c2 s2 ∧ (c2 = 0 → us = cloV e0 lam :: us2) := fun {us c2 s2} g1 g2 => by
   rw [ht] at g1
   rcases g1.all_inv with ⟨h0, _, g3⟩ | ⟨x1, s1, us1, g3, g4, g5⟩
   ·exact absurd (g3.evRef_inv g2 hf k1 k3).2.1 h0
   ·obtain ⟨e1, _, rfl⟩ := g3.evRef_inv (by decide) hf k1 k3
    injection e1 with e1 _
    subst e1
    exact ⟨us1, g4, g5⟩
  have hn' : (lessM s).fuel ≤ n := by show s.fuel - 1 ≤ n; omega
  rcases h1.st_inv (by omega) with ⟨h0, rfl, us, g1⟩ | ⟨v1, us, s1, rfl, g1, g2⟩
  ·obtain ⟨us2, j1, _⟩ := all1 g1 n1
   rcases h2.let_inv rfl rfl with ⟨h0', rfl, us', q1⟩ | ⟨v2, ys, r1, bz, rfl, q1, _, hbz, q2⟩
   ·exact (hlm w1 w1.refl (lessM s) r hV' hn' _ _ _ j1 _ _ _ q1 n1 n2).fail h0
   ·exact absurd (hlm w1 w1.refl (lessM s) r hV' hn' _ _ _ j1 _ _ _ q1 n1 (by decide)).1.symm h0
  ·obtain ⟨xs, j1, hus⟩ := all1 g1 (by decide)
   obtain rfl := hus rfl
   rcases h2.let_inv rfl rfl with ⟨h0', rfl, us', q1⟩ | ⟨v2, ys, r1, bz, rfl, q1, _, hbz, q2⟩
   ·exact absurd (hlm w1 w1.refl (lessM s) r hV' hn' _ _ _ j1 _ _ _ q1 (by decide) n2).1 h0'
   ·obtain ⟨_, w2, m1, m2, m3, m4⟩ := hlm w1 w1.refl (lessM s) r hV' hn' _ _ _ j1 _ _ _ q1 (by decide) (by decide)
    have hxl : xs.length = lam.v.length := by have := j1.len rfl; dsimp only at this; omega
    have hfu : s1.fuel ≤ n := Int.le_trans j1.grow.2.2 hn'
    have hcal : ∃ az, az.length = lam.v.length ∧ Ev K (.ev body (extM e0 lam.v az)) (addM s1 (hpM s1.h xs az)) [v1] c s' := by
     generalize hL : cloV e0 lam :: xs = L at g2
     cases g2 with
     | app _ g3 =>
      cases hL
      have h8 : (cloV e0 lam).k = 8 := rfl
      cases g3 with
      | calP h' => exact absurd (h8.symm.trans h') (by decide)
      | calN h' => exact absurd (h8.symm.trans h') (by decide)
      | calD h' => exact absurd (h8.symm.trans h') (by decide)
      | calJ h' => exact absurd (h8.symm.trans h') (by decide)
      | calB h' => exact absurd h8 h'
      | calK _ hp hx =>
       cases hp
       exfalso
       unfold sprV at hx
       rw [if_neg (by rintro ⟨h', _⟩; simp [hln] at h'), if_pos ⟨by simp [hln], hxl⟩] at hx
       cases hx
      | cal _ hp hx haz g4 =>
       cases hp
       unfold sprV at hx
       rw [if_neg (by rintro ⟨h', _⟩; simp [hln] at h'), if_pos ⟨by simp [hln], hxl⟩] at hx
       cases hx
       rw [hlt] at g4
       exact ⟨_, haz, g4⟩
     | _ => exfalso; omega
    obtain ⟨az, haz, k⟩ := hcal
    have hE0 : ERi w2 S0 ρ noK e0 e' := fun u hu => by
     obtain ⟨g5, g6⟩ := hag u hu
     obtain ⟨a', b', o1, o2, o3, _⟩ := (hE.up (Wd.trans hw m1)) u g5
     exact ⟨a', b', by rw [g6]; exact o1, o2, o3, fun _ _ h => by cases h⟩
    exact bdyIn HS m2 m1 m3 hfu hE0 hb h3 haz hbz hxl (m4 rfl) (fun u _ q hq => by cases hq) k q2 n1 n2
end
theorem HSi.all {K : List Vl} (hK : ∀ x ∈ K, ∀ (C : Clo → Clo → Prop) (B : Nat → Nat → Prop), VR C B x x) : ∀ n : Nat, HSi K n := by
 intro n
 induction n with
 | zero =>
  intro w t e t' e' _ w1 hw s r hV hn v c s' h1 v' c' r' h2 n1 n2
  cases h1 with
  | dry => exact absurd rfl n1
  | ev h0 => exact absurd hn (by show ¬s.fuel ≤ ((0 : Nat) : Int); omega)
 | succ n ih =>
  rintro w t e t' e' ⟨S, ρ, κ, hI, hE⟩ w1 hw s r hV hn v c s' h1 v' c' r' h2 n1 n2
  obtain ⟨x, rfl, _, g1⟩ := h1.ev_inv n1
  obtain ⟨y, rfl, _, g2⟩ := h2.ev_inv n2
  exact goI hK ih hI hE w1 hw (lessM s) (lessM r) hV.less (by show s.fuel - 1 ≤ n; omega) _ _ _ g1 _ _ _ g2 n1 n2
theorem inline_sim (p : Prog) (hR : RightP p 2) (small : Int) (s0 : InS) (hk : ∀ v ∈ p.body.vars, v < s0.next ∧ s0.known v = none) {f f' : Int} {x : Vl} {c : Int} {s' : MSt} {x' : Vl} {c' : Int} {t' : MSt}
  (h1 : Ev (p.consts.map valV) (.ev p.body []) (mc0 f) [x] c s') (h2 : Ev (p.consts.map valV) (.ev (p.body.thr small s0).1 []) (mc0 f') [x'] c' t') (n1 : c ≠ 8) (n2 : c' ≠ 8) : c' = c ∧ t'.out = s'.out ∧ endV x' c' t' = endV x c s' := by
 have hK : ∀ x ∈ p.consts.map valV, ∀ (C : Clo → Clo → Prop) (B : Nat → Nat → Prop), VR C B x x := fun x hx C B => by
  obtain ⟨d, hd, rfl⟩ := List.mem_map.1 hx
  exact VR_datum d 0 (hR.2.1 d hd)
 have hI := (thr_in (cs := p.consts.length) (small := small) p.body [] noK s0 ⟨⟨0, hR.2.2.1⟩, hR.2.2.2.2.2, fun v _ hv => by cases hv⟩ (fun v hv => by cases hv) hk (fun v hv => by cases hv)).1
 obtain ⟨w0, hw0⟩ : ∃ w0 : Wd, w0 = ⟨fun _ _ => False, fun _ _ => False, fun _ _ => False, fun _ _ => False⟩ := ⟨_, rfl⟩
 have hV : Va ACi w0 (mc0 f) (mc0 f') := by
  rw [hw0]
  exact ⟨rfl, rfl, rfl, VR_zer, fun _ _ h => h.elim, fun _ _ h => h.elim, fun _ _ h => h.elim, fun _ _ _ _ h => h.elim, fun _ _ _ h => h.elim, fun _ _ _ h => h.elim, fun _ _ h => h.elim, fun _ _ _ h => h.elim, fun _ _ _ h => h.elim⟩
 obtain ⟨e1, w', g1, g2, _, g4⟩ := HSi.all hK f.toNat w0 p.body [] _ [] ⟨[], idN, noK, hI, fun v hv => by cases hv⟩ w0 w0.refl (mc0 f) (mc0 f') hV (by show f ≤ (f.toNat : Int); omega) _ _ _ h1 _ _ _ h2 n1 n2
 refine ⟨e1, g2.out, ?_⟩
 subst e1
 unfold endV
 by_cases h0 : c' = 0
 ·rw [if_pos h0, if_pos h0]
  exact VR_txtV (VRs_two.1 (g4 h0)).1
 ·rw [if_neg h0, if_neg h0]
  by_cases h7 : c' = 7
  ·rw [if_pos h7, if_pos h7]
   exact VR_txtV g2.val
  ·rw [if_neg h7, if_neg h7]
end Go.Cb
namespace Go.Cb
open Go.Proofs
set_option maxRecDepth 100000
set_option maxHeartbeats 4000000
def Nm.sh (k : Int) (s : Nm) : Nm := ⟨fun w => (s.map (w - k)).map (· + k), s.next + k⟩
def InS.sh (k : Int) (s : InS) : InS := ⟨s.next + k, s.budget, s.effort, fun w => (s.known (w - k)).map (Trm.sh k)⟩
end Go.Cb
namespace Go.Cb
open Go.Proofs
set_option maxRecDepth 100000
set_option maxHeartbeats 4000000
mutual
def Trm.shI : Trm → Prop
 | .mk op _ v t => ((op = 5 → t ≠ []) ∧ (op = 4 → t.length = 1) ∧ (op = 8 ∨ op = 9 → t.length = v.length + 1) ∧ (op = 9 → ∀ x ∈ t.dropLast, x.op = 4)) ∧ Trm.shIs t
def Trm.shIs : List Trm → Prop
 | [] => True
 | x :: xs => Trm.shI x ∧ Trm.shIs xs
end
theorem Trm.shI_eq (t : Trm) : t.shI ↔ ((t.op = 5 → t.t ≠ []) ∧ (t.op = 4 → t.t.length = 1) ∧ (t.op = 8 ∨ t.op = 9 → t.t.length = t.v.length + 1) ∧ (t.op = 9 → ∀ x ∈ t.t.dropLast, x.op = 4)) ∧ Trm.shIs t.t := by cases t; rw [Trm.shI]; rfl
theorem Trm.shIs_mem : ∀ {l : List Trm}, Trm.shIs l → ∀ x ∈ l, x.shI
 | [], _, x, hx => by cases hx
 | y :: l, h, x, hx => by
  rw [Trm.shIs] at h
  rcases List.mem_cons.1 hx with rfl | hx
  ·exact h.1
  ·exact Trm.shIs_mem h.2 x hx
theorem Trm.okT_shI {level c codes : Int} {free : Bool} (hl : level ≠ 3) (t : Trm) : ∀ {scope : List Int} {deep : Int}, t.okT level c codes free scope deep → t.shI := by
 induction t using Trm.ind with
 | h t ih =>
  intro scope deep h
  rw [Trm.okT_eq] at h
  rw [Trm.shI_eq]
  have key : ∀ (op : Int) (sc inner : List Int) (deep : Int) (l : List Trm), (∀ y ∈ l, ∀ {scope : List Int} {deep : Int}, y.okT level c codes free scope deep → y.shI) → Trm.okTs level c codes free op sc inner l deep → Trm.shIs l ∧ (op = 9 → ∀ x ∈ l.dropLast, x.op = 4) := by
   intro op sc inner deep l
   induction l with
   | nil => intro _ _; rw [Trm.shIs]; exact ⟨trivial, fun _ x hx => by cases hx⟩
   | cons x l ihl =>
    intro hy hk
    rw [Trm.okTs] at hk
    rw [Trm.shIs]
    obtain ⟨a1, a2⟩ := ihl (fun z hz => hy z (by simp [hz])) hk.2.2
    refine ⟨⟨hy x (by simp) hk.2.1, a1⟩, fun h9 y hy => ?_⟩
    cases l with
    | nil => simp at hy
    | cons z l =>
     rw [List.dropLast_cons_cons] at hy
     rcases List.mem_cons.1 hy with rfl | hy
     ·have h1 := hk.1
      unfold wantOp at h1
      rw [if_neg hl] at h1
      exact Classical.byContradiction fun h4 => h1 ⟨h9, by simp, h4⟩
     ·exact a2 h9 y hy
  obtain ⟨k1, k2⟩ := key _ _ _ _ _ ih h.2
  refine ⟨?_, k1⟩
  obtain ⟨⟨_, _, h3, h4⟩, _⟩ := h
  unfold countsL at h3
  refine ⟨fun e => ?_, fun e => ?_, fun e => ?_, k2⟩
  ·intro h0
   rw [h0, e] at h3
   simp [bindsB] at h3
  ·split at h3
   ·cases h3
   ·rw [if_neg (by omega), if_pos (by omega)] at h3
    have : (t.t.length : Int) = 1 := by simpa using h3
    omega
  ·split at h3
   ·cases h3
   ·rw [if_neg (by omega), if_neg (by omega), if_neg (by omega), if_neg (by omega), if_neg (by omega), if_pos (by omega)] at h3
    have : (t.t.length : Int) = (t.v.length : Int) + 1 := by simpa using h3
    omega
theorem renewN_bd : ∀ (l : List Int) (s : Nm), (renewN l s).1.length = l.length ∧ (renewN l s).2.next = s.next + l.length
 | [], s => ⟨rfl, by rw [renewN]; simp⟩
 | v :: l, s => by
  rw [renewN]
  obtain ⟨h1, h2⟩ := renewN_bd l ⟨fun k => if k = v then some s.next else s.map k, s.next + 1⟩
  refine ⟨by simp only [List.length_cons, h1], ?_⟩
  simp only [h2, List.length_cons]
  omega
theorem Trm.cpy_bd (t : Trm) : ∀ s : Nm, (t.cpy s).1.bulk = t.bulk ∧ s.next ≤ (t.cpy s).2.next ∧ (t.cpy s).2.next + 1 ≤ s.next + t.bulk := by
 induction t using Trm.ind with
 | h t ih =>
  intro s
  obtain ⟨op, n, v, l⟩ := t
  have key : ∀ (l : List Trm), (∀ y ∈ l, ∀ s : Nm, (y.cpy s).1.bulk = y.bulk ∧ s.next ≤ (y.cpy s).2.next ∧ (y.cpy s).2.next + 1 ≤ s.next + y.bulk) → ∀ s : Nm, Trm.bulks (Trm.cpys l s).1 = Trm.bulks l ∧ s.next ≤ (Trm.cpys l s).2.next ∧ (Trm.cpys l s).2.next ≤ s.next + Trm.bulks l := by
   intro l
   induction l with
   | nil => intro _ s; rw [Trm.cpys]; simp [Trm.bulks]
   | cons y l ihl =>
    intro h s
    obtain ⟨a1, a2, a3⟩ := h y (by simp) s
    obtain ⟨b1, b2, b3⟩ := ihl (fun z hz => h z (by simp [hz])) (y.cpy s).2
    rw [Trm.cpys, Trm.bulks]
    simp only [Trm.bulks, a1, b1]
    refine ⟨trivial, by omega, by omega⟩
  obtain ⟨r1, r2⟩ := renewN_bd v s
  obtain ⟨k1, k2, k3⟩ := key l ih (renewN v s).2
  rw [Trm.cpy]
  simp only [Trm.bulk, k1, r1]
  refine ⟨trivial, by omega, by omega⟩
structure GoodI (B : Nat) (s : InS) : Prop where
 ok : ∀ v x, s.known v = some x → x.op = 4 ∧ x.t.length = 1 ∧ x.bulk ≤ B
 n0 : 0 ≤ s.next
 nb : s.next + s.budget * B ≤ 900000000000
 b0 : 0 ≤ s.budget
 b1 : s.budget ≤ 1000
 e0 : 0 ≤ s.effort
 e1 : s.effort ≤ 9223372036854775807
theorem GoodI.next {B : Nat} {s : InS} (h : GoodI B s) : s.next ≤ 900000000000 := by
 have := h.nb
 have : 0 ≤ s.budget * B := Int.mul_nonneg h.b0 (by omega)
 omega
theorem GoodI.nextB {B : Nat} {s : InS} (h : GoodI B s) : s.next ≤ 900000000000 := h.next
theorem GoodI.eff {B : Nat} {s : InS} (h : GoodI B s) (h0 : s.effort ≠ 0) : GoodI B { s with effort := s.effort - 1 } :=
 ⟨h.ok, h.n0, h.nb, h.b0, h.b1, by have := h.e0; show 0 ≤ s.effort - 1; omega, by have := h.e1; show s.effort - 1 ≤ _; omega⟩
theorem learnI_eqs (op : Int) : ∀ (v : List Int) (l : List Trm) (s : InS), (learnI op v l s).next = s.next ∧ (learnI op v l s).budget = s.budget ∧ (learnI op v l s).effort = s.effort
 | [], l, s => by cases l <;> exact ⟨rfl, rfl, rfl⟩
 | v :: vs, [], s => ⟨rfl, rfl, rfl⟩
 | v :: vs, x :: xs, s => by
  rw [learnI]
  obtain ⟨h1, h2, h3⟩ := learnI_eqs op vs xs (if op = 9 ∨ op = 8 ∧ x.op = 4 then { s with known := fun k => if k = v then some x else s.known k } else s)
  rw [h1, h2, h3]
  split <;> exact ⟨rfl, rfl, rfl⟩
theorem GoodI.learn {B : Nat} {op : Int} : ∀ {v : List Int} {l : List Trm} {s : InS}, GoodI B s → (∀ x ∈ l.take v.length, (op = 9 ∨ op = 8 ∧ x.op = 4) → x.op = 4 ∧ x.t.length = 1 ∧ x.bulk ≤ B) → GoodI B (learnI op v l s)
 | [], l, s, h, _ => by cases l <;> exact h
 | v :: vs, [], s, h, _ => h
 | v :: vs, x :: xs, s, h, hx => by
  rw [learnI]
  refine GoodI.learn ?_ fun y hy => hx y (by rw [List.length_cons, List.take_succ_cons]; exact List.mem_cons_of_mem _ hy)
  split
  ·rename_i hc
   refine ⟨fun w y hw => ?_, h.n0, h.nb, h.b0, h.b1, h.e0, h.e1⟩
   dsimp only at hw
   split at hw
   ·cases hw
    exact hx x (by simp) hc
   ·exact h.ok w y hw
  ·exact h
theorem Trm.shI_learn {B : Nat} {t : Trm} (h : t.shI) (hb : t.bulk ≤ B) : ∀ x ∈ t.t.take t.v.length, (t.op = 9 ∨ t.op = 8 ∧ x.op = 4) → x.op = 4 ∧ x.t.length = 1 ∧ x.bulk ≤ B := by
 intro x hx hc
 rw [Trm.shI_eq] at h
 obtain ⟨⟨_, _, h3, h4⟩, h5⟩ := h
 have hm := List.mem_of_mem_take hx
 have hbe := t.bulk_eq
 have hbm := Trm.bulks_mem hm
 have hl := h3 (by omega)
 have ho : x.op = 4 := by
  rcases hc with hc | hc
  ·refine h4 hc x ?_
   rw [List.dropLast_eq_take, hl]
   exact hx
  ·exact hc.2
 have hs := (Trm.shI_eq x).1 (Trm.shIs_mem h5 x hm)
 exact ⟨ho, hs.1.2.1 ho, by omega⟩
theorem GoodI.learnT {B : Nat} {t : Trm} {s : InS} (h : GoodI B s) (hs : t.shI) (hb : t.bulk ≤ B) : GoodI B (learnI t.op t.v t.t s) := h.learn (t.shI_learn hs hb)
theorem szI_pos (t : Trm) : 1 ≤ szI t := by
 unfold szI Trm.all
 rw [Trm.met_eq, List.length_cons]
 omega
theorem calledI_some {small : Int} {t : Trm} {s : InS} {lam : Trm} (h : calledI small t s = some lam) : t.op = 5 ∧ (firstT t).op = 1 ∧ s.known (firstT t).n = some lam ∧ lam.op = 4 ∧ lam.n = 0 ∧ lam.v.length + 1 = t.t.length ∧ szI (firstT lam) ≤ small ∧ szI (firstT lam) ≤ s.budget := by
 unfold calledI at h
 split at h
 ·rename_i h1
  split at h
  ·rename_i l hk
   split at h
   ·rename_i h2
    cases h
    exact ⟨h1.1, h1.2, hk, h2⟩
   ·cases h
  ·cases h
 ·cases h
theorem one_of {l : List Trm} (h : l.length = 1) : ∃ x, l = [x] := List.length_eq_one_iff.1 h
theorem bud_le {b z : Int} {B : Nat} (hz : 1 ≤ z) : (b - z) * B + B ≤ b * B := by
 rw [Int.sub_mul]
 have : (1 : Int) * B ≤ z * B := Int.mul_le_mul_of_nonneg_right hz (by omega)
 omega
def BndI (B : Nat) (s : InS) (n : Nat) (m : Nat) (s' : InS) : Prop :=
 GoodI B s' ∧ s'.budget ≤ s.budget ∧ s.next ≤ s'.next ∧ s'.next + s'.budget * B ≤ s.next + s.budget * B ∧ (m : Int) + s'.budget * B ≤ n + s.budget * B
theorem Trm.thr_bd (small : Int) (B : Nat) (t : Trm) : t.shI → t.bulk ≤ B → ∀ s : InS, GoodI B s → BndI B s t.bulk (t.thr small s).1.bulk (t.thr small s).2 := by
 induction t using Trm.ind with
 | h t ih =>
  intro hs hb s hg
  have hlt := GoodI.learnT (s := s) hg hs hb
  have hlrn := t.shI_learn hs hb
  have hbe := t.bulk_eq
  rw [Trm.shI_eq] at hs
  obtain ⟨⟨s1, s2, s3, s4⟩, s5⟩ := hs
  obtain ⟨op, n, v, l⟩ := t
  simp only [Trm.op, Trm.v, Trm.t] at *
  have key : ∀ (l : List Trm), (∀ y ∈ l, y.shI ∧ y.bulk ≤ B) → (∀ y ∈ l, y.shI → y.bulk ≤ B → ∀ s : InS, GoodI B s → BndI B s y.bulk (y.thr small s).1.bulk (y.thr small s).2) → ∀ s : InS, GoodI B s → BndI B s (Trm.bulks l) (Trm.bulks (Trm.thrs small l s).1) (Trm.thrs small l s).2 := by
   intro l
   induction l with
   | nil => intro _ _ s hg; rw [Trm.thrs]; exact ⟨hg, Int.le_refl _, Int.le_refl _, Int.le_refl _, Int.le_refl _⟩
   | cons y l ihl =>
    intro hy h s hg
    obtain ⟨y1, y2⟩ := hy y (by simp)
    obtain ⟨a1, a2, a3, a4, a5⟩ := h y (by simp) y1 y2 s hg
    obtain ⟨b1, b2, b3, b4, b5⟩ := ihl (fun z hz => hy z (by simp [hz])) (fun z hz => h z (by simp [hz])) _ a1
    rw [Trm.thrs]
    simp only [Trm.bulks]
    refine ⟨b1, by omega, by omega, by omega, ?_⟩
    omega
  have keyL : ∀ (f : InS → InS), (∀ s, GoodI B s → GoodI B (f s) ∧ (f s).next = s.next ∧ (f s).budget = s.budget) → ∀ (l : List Trm), (∀ y ∈ l, y.shI ∧ y.bulk ≤ B) → (∀ y ∈ l, y.shI → y.bulk ≤ B → ∀ s : InS, GoodI B s → BndI B s y.bulk (y.thr small s).1.bulk (y.thr small s).2) → ∀ s : InS, GoodI B s → BndI B s (Trm.bulks l) (Trm.bulks (Trm.thrL small f l s).1) (Trm.thrL small f l s).2 := by
   intro f hf l
   induction l with
   | nil =>
    intro _ _ s hg
    obtain ⟨f1, f2, f3⟩ := hf s hg
    rw [Trm.thrL]
    exact ⟨f1, by rw [f3]; exact Int.le_refl _, by rw [f2]; exact Int.le_refl _, by rw [f2, f3]; exact Int.le_refl _, by simp only [f3]; exact Int.le_refl _⟩
   | cons y l ihl =>
    intro hy h s hg
    obtain ⟨y1, y2⟩ := hy y (by simp)
    rw [Trm.thrL]
    split
    ·rename_i hl
     obtain ⟨f1, f2, f3⟩ := hf s hg
     obtain ⟨a1, a2, a3, a4, a5⟩ := h y (by simp) y1 y2 _ f1
     rw [f3] at a2 a4 a5
     rw [f2] at a3 a4
     simp only [Trm.bulks, hl]
     exact ⟨a1, a2, a3, a4, by omega⟩
    ·obtain ⟨a1, a2, a3, a4, a5⟩ := h y (by simp) y1 y2 s hg
     obtain ⟨b1, b2, b3, b4, b5⟩ := ihl (fun z hz => hy z (by simp [hz])) (fun z hz => h z (by simp [hz])) _ a1
     simp only [Trm.bulks]
     exact ⟨b1, by omega, by omega, by omega, by omega⟩
  have hp : ∀ y ∈ l, y.shI ∧ y.bulk ≤ B := fun y hy => ⟨Trm.shIs_mem s5 y hy, by have := Trm.bulks_mem hy; omega⟩
  rw [Trm.thr]
  split
  ·exact ⟨hg, Int.le_refl _, Int.le_refl _, Int.le_refl _, Int.le_refl _⟩
  ·rename_i h0
   have hg1 := hg.eff h0
   split
   ·rename_i lam hc
    obtain ⟨c1, c2, c3, c4, c5, c6, c7, c8⟩ := calledI_some hc
    obtain ⟨o1, o2, o3⟩ := hg.ok _ _ c3
    cases l with
    | nil => exact absurd rfl (s1 c1)
    | cons x xs =>
     simp only
     have hz := szI_pos (firstT lam)
     have hbl := bud_le (b := s.budget) (B := B) hz
     simp only at c8
     have hg2 : GoodI B { s with effort := s.effort - 1, budget := s.budget - szI (firstT lam) } := by
      refine ⟨hg.ok, hg.n0, ?_, ?_, ?_, hg1.e0, hg1.e1⟩
      ·have := hg.nb; show s.next + (s.budget - szI (firstT lam)) * B ≤ _; omega
      ·show 0 ≤ s.budget - szI (firstT lam); omega
      ·have := hg.b1; show s.budget - szI (firstT lam) ≤ _; omega
     obtain ⟨a1, a2, a3, a4, a5⟩ := key xs (fun y hy => hp y (by simp [hy])) (fun y hy => ih y (by simp [hy])) _ hg2
     simp only at a2 a3 a4 a5
     generalize Trm.thrs small xs { s with effort := s.effort - 1, budget := s.budget - szI (firstT lam) } = a at *
     obtain ⟨bd, hbd⟩ := one_of o2
     have hft : firstT lam = bd := by unfold firstT; rw [hbd]; rfl
     have hlb := lam.bulk_eq
     rw [hbd] at hlb
     simp only [Trm.bulks] at hlb
     obtain ⟨r1, r2⟩ := renewN_bd lam.v ⟨fun _ => none, a.2.next⟩
     obtain ⟨q1, q2, q3⟩ := bd.cpy_bd (renewN lam.v ⟨fun _ => none, a.2.next⟩).2
     rw [hft] at *
     simp only at r2
     have hnx : ((bd.cpy (renewN lam.v ⟨fun _ => none, a.2.next⟩).2).2.next : Int) + a.2.budget * B ≤ s.next + s.budget * B := by omega
     have hxb := x.bulk_eq
     refine ⟨⟨a1.ok, ?_, ?_, a1.b0, a1.b1, a1.e0, a1.e1⟩, ?_, ?_, hnx, ?_⟩
     ·have := hg.n0; dsimp only; omega
     ·have := hg.nb; dsimp only; omega
     ·dsimp only; omega
     ·dsimp only; omega
     ·have e1 : Trm.bulk (.mk 8 0 (renewN lam.v ⟨fun _ => none, a.2.next⟩).1 (a.1 ++ [(bd.cpy (renewN lam.v ⟨fun _ => none, a.2.next⟩).2).1])) = 1 + lam.v.length + (Trm.bulks a.1 + bd.bulk) := by
       rw [Trm.bulk, Trm.bulks_append, r1]; simp only [Trm.bulks, q1]; omega
      rw [e1]
      simp only [Trm.bulk, Trm.bulks]
      omega
   ·split
    ·rename_i h9
     have hg2 := GoodI.learn hg1 hlrn
     obtain ⟨e1, e2, e3⟩ := learnI_eqs op v l { s with effort := s.effort - 1 }
     obtain ⟨a1, a2, a3, a4, a5⟩ := key l hp ih _ hg2
     rw [e2] at a2 a4 a5
     rw [e1] at a3 a4
     simp only at a2 a3 a4 a5
     refine ⟨a1, a2, a3, a4, ?_⟩
     simp only [Trm.bulk]
     omega
    ·obtain ⟨a1, a2, a3, a4, a5⟩ := keyL (learnI op v l) (fun s hg => ⟨GoodI.learn hg hlrn, (learnI_eqs op v l s).1, (learnI_eqs op v l s).2.1⟩) l hp ih _ hg1
     simp only at a2 a3 a4 a5
     refine ⟨a1, a2, a3, a4, ?_⟩
     simp only [Trm.bulk]
     omega
theorem Trm.thrs_bd (small : Int) (B : Nat) : ∀ (l : List Trm), (∀ y ∈ l, y.shI ∧ y.bulk ≤ B) → ∀ s : InS, GoodI B s → BndI B s (Trm.bulks l) (Trm.bulks (Trm.thrs small l s).1) (Trm.thrs small l s).2
 | [], _, s, hg => by rw [Trm.thrs]; exact ⟨hg, Int.le_refl _, Int.le_refl _, Int.le_refl _, Int.le_refl _⟩
 | y :: l, hy, s, hg => by
  obtain ⟨y1, y2⟩ := hy y (by simp)
  obtain ⟨a1, a2, a3, a4, a5⟩ := y.thr_bd small B y1 y2 s hg
  obtain ⟨b1, b2, b3, b4, b5⟩ := Trm.thrs_bd small B l (fun z hz => hy z (by simp [hz])) _ a1
  rw [Trm.thrs]
  simp only [Trm.bulks]
  exact ⟨b1, by omega, by omega, by omega, by omega⟩
theorem Trm.thrs_len (small : Int) : ∀ (l : List Trm) (s : InS), (Trm.thrs small l s).1.length = l.length
 | [], s => rfl
 | y :: l, s => by rw [Trm.thrs, List.length_cons, List.length_cons, Trm.thrs_len small l]
theorem Trm.thrL_last (small : Int) (f : InS → InS) : ∀ (l : List Trm) (x : Trm) (s : InS), Trm.thrL small f (l ++ [x]) s = ((Trm.thrs small l s).1 ++ [(x.thr small (f (Trm.thrs small l s).2)).1], (x.thr small (f (Trm.thrs small l s).2)).2)
 | [], x, s => by rw [List.nil_append, Trm.thrL, if_pos rfl, Trm.thrs]; rfl
 | y :: l, x, s => by
  rw [List.cons_append, Trm.thrL, if_neg (by simp), Trm.thrs]
  simp only [Trm.thrL_last small f l x]
  rfl
end Go.Cb
namespace Go.Cb
open Go.Proofs
set_option maxRecDepth 100000
set_option maxHeartbeats 4000000
theorem cloneInt_c (l : List Int) (hl : l.length ≤ 1000000000) : ACallP Tryz.prog 44 [slI l] (slI l) := by
 refine ACall.of_body tt_ok Tryz.func44 rfl rfl (n := 8) rfl rfl ?_
 conv => whnf
 repeat' (first|refine aA1 ?_|((intro _);conv=>whnf)|(refine zX (fun hc=>?_) (fun hc=>?_)<;>(try simp only [SY] at hc)<;>(conv=>whnf)))
 ·rename_i q hq
  have : l = [] := by simpa using hq hc
  subst this
  exact PRet.pure (Wk.nil' rfl)
 ·exact PRet.pure wA
theorem cloneDat_c (l : List Datum) (hl : l.length ≤ 1000000000) : ACallP Tryz.prog 25 [.sl 5 (l.map Datum.pv) none] (.sl 5 (l.map Datum.pv) none) := by
 refine ACall.of_body tt_ok Tryz.func25 rfl rfl (n := 8) rfl rfl ?_
 conv => whnf
 repeat' (first|refine aA1 ?_|((intro _);conv=>whnf)|(refine zX (fun hc=>?_) (fun hc=>?_)<;>(try simp only [SY] at hc)<;>(conv=>whnf)))
 ·rename_i q hq
  have : l = [] := by simpa using hq hc
  subst this
  exact PRet.pure (Wk.nil' rfl)
 ·exact PRet.pure wA
end Go.Cb
namespace Go.Cb
open Go.Proofs
set_option maxRecDepth 100000
set_option maxHeartbeats 4000000
def Trm.pa (x : Trm) : PV := .agg x.cells
abbrev inG (b r : Nat) (small : Int) (s : InS) : List Ent := [.box b [.int .i64 small, .int .i64 s.budget, .int .i64 s.effort, .int .i64 s.next, .mp r], .mp r (.int .i64) (mapM Trm.pa s.known) []]
theorem fresh_c (b r : Nat) (small : Int) (s : InS) (h0 : 0 ≤ s.next) (h1 : s.next ≤ 1000000000000) : ACall Tryz.prog 83 [.ptr b 0] (inG b r small s) (fun y Γ' => y = .int .i64 s.next ∧ Γ' = inG b r small { s with next := s.next + 1 }) := by
 refine ACall.of_body tt_ok Tryz.func83 rfl rfl (n := 15) rfl rfl ?_
 conv => whnf
 repeat' (first|refine aA2 ?_|(refine zX (fun hc=>?_) (fun hc=>?_)<;>(try simp only [SY] at hc)<;>omega))
 exact PRet.gen (Wk.int (by omega)) ⟨rfl, rfl⟩
theorem drInl12aa {p q : Prop} (k : q) (h : q → p := by intro hq; first | exact PDraw.sP (some 31) rfl [] [10] tt_ok mixed hq) : p := h k
theorem learn_c (b r : Nat) (small : Int) (t : Trm) (hs : t.op = 8 ∨ t.op = 9 → t.t.length = t.v.length + 1) (hb : t.bulk ≤ 1000000000) (s : InS) :
  ACall Tryz.prog 45 [.ptr b 0, .agg t.cells] (inG b r small s) (fun y Γ' => y = .tup [] ∧ Γ' = inG b r small (learnI t.op t.v t.t s)) := by
 have hbe := t.bulk_eq
 refine ACall.of_body tt_ok Tryz.func45 rfl rfl (n := 42) rfl rfl ?_
 conv => whnf
 repeat (first|refine aR2 ?_|((intro _);conv=>whnf))
 rename_i b1 hvl
 refine PLoop.over [4, 5, 9, 10, 11, 12, 13, 14, 15, 16, 17, 18, 19, 20, 21, 22, 23, 24, 25, 26, 27, 28, 29, 30, 31, 32, 33, 34, 35, 36, 37, 38, 39, 40, 41] (fun x : Nat × InS => [(9, .int .i64 x.1)]) (fun x : Nat × InS => .box b1 [.int .i64 t.op, .int .i64 t.n, .sl 1 (t.v.map (PV.int .i64)) none, .sl 4 (t.t.map Trm.pv) none] :: inG b r small x.2)
  (fun x => x.1 ≤ t.v.length ∧ learnI t.op (t.v.drop x.1) (t.t.drop x.1) x.2 = learnI t.op t.v t.t s) (fun x => t.v.length - x.1) (0, s) ⟨Nat.zero_le _, rfl⟩ wA ?_
 rintro ⟨i, s1⟩ ⟨hi, he⟩
 dsimp only at hi he ⊢
 conv => whnf
 repeat' (first|refine aA2 ?_|((refine drInl12aa ?_);conv=>whnf)|(refine zX (fun hc=>?_) (fun hc=>?_)<;>(try simp only [SY] at hc)<;>(conv=>whnf)))
 ·have hiv : i < t.v.length := by omega
  have hit : i < t.t.length := by have := hs (by omega); omega
  have e1 : t.t.getD i Dfl.d = t.t[i] := by rw [List.getD_eq_getElem?_getD, List.getElem?_eq_getElem hit]; rfl
  rw [e1] at hc
  rw [drop_at hiv, drop_at hit, learnI, if_pos (by omega)] at he
  refine PMapPut.num t.t[i] rfl ?_
  conv => whnf
  repeat' (first|refine aA2 ?_|(refine zX (fun hc=>?_) (fun hc=>?_)<;>(try simp only [SY] at hc)<;>omega))
  exact loopTo (i + 1, { s1 with known := upd s1.known t.v[i] t.t[i] }) ⟨by show i + 1 ≤ _; omega, he⟩ (by show t.v.length - (i + 1) < t.v.length - i; omega) wA
 ·have hiv : i < t.v.length := by omega
  refine loopTo (i + 1, s1) ⟨by show i + 1 ≤ _; omega, ?_⟩ (by show t.v.length - (i + 1) < t.v.length - i; omega) wA
  show learnI t.op (t.v.drop (i + 1)) (t.t.drop (i + 1)) s1 = _
  rw [← he]
  by_cases hit : i < t.t.length
  ·have e1 : t.t.getD i Dfl.d = t.t[i] := by rw [List.getD_eq_getElem?_getD, List.getElem?_eq_getElem hit]; rfl
   rw [e1] at hc
   rw [drop_at hiv, drop_at hit, learnI, if_neg (by omega)]
  ·rw [List.drop_of_length_le (show t.t.length ≤ i by omega), List.drop_of_length_le (show t.t.length ≤ i + 1 by omega), drop_at hiv]
   cases t.v.drop (i + 1) <;> rfl
 ·rw [List.drop_of_length_le (by omega)] at he
  have e : s1 = learnI t.op t.v t.t s := by rw [← he]; cases t.t.drop i <;> rfl
  rw [← e]
  exact PRet.gen (Γ' := inG b r small s1) (Wk.refl _) ⟨rfl, rfl⟩
theorem firstT_getD (t : Trm) : firstT t = t.t.getD 0 Dfl.d := by unfold firstT; cases t.t <;> rfl
theorem noT_wk : Wk (.tup [.agg [.int .i64 0, .int .i64 0, .nil, .nil], .bfalse]) (.tup [.agg (Trm.mk 0 0 [] []).cells, .bool false]) := Wk.tup (.cons (Wk.agg (.cons (Wk.refl _) (.cons (Wk.refl _) (.cons (Wk.nil' rfl) (.cons (Wk.nil' rfl) .nil))))) (.cons (Wk.ff rfl) .nil))
def calledQ (o : Option Trm) (y : PV) : Prop := match o with
 | some lam => y = .tup [.agg lam.cells, .bool true]
 | none => ∃ u : Trm, y = .tup [.agg u.cells, .bool false]
theorem drInl12ab {p q : Prop} (k : q) (h : q → p := by intro hq; first | exact PDraw.sP (some 22) rfl [13,14] [15] tt_ok mixed hq) : p := h k
theorem called_c (B b r : Nat) (small : Int) (t : Trm) (h5 : t.op = 5 → 1 ≤ t.t.length) (hb : t.bulk ≤ 1000000000) (hB : B ≤ 1000000000) (s : InS) (hk : GoodI B s) :
  ACall Tryz.prog 42 [.ptr b 0, .agg t.cells] (inG b r small s) (fun y Γ' => calledQ (calledI small t s) y ∧ Γ' = inG b r small s) := by
 have hbe := t.bulk_eq
 have hbs := Trm.bulks_length t.t
 refine ACall.of_body tt_ok Tryz.func42 rfl rfl (n := 74) rfl rfl ?_
 conv => whnf
 repeat (((intro _);conv=>whnf))
 rename_i b3 b4
 conv => whnf
 repeat' (first|refine aA2 ?_|((refine drInl12ab ?_);conv=>whnf)|(refine zX (fun hc=>?_) (fun hc=>?_)<;>(try simp only [SY] at hc)<;>(conv=>whnf)))
 ·have e : calledI small t s = none := by
   unfold calledI
   rw [if_neg]
   rw [← firstT_getD] at hc
   omega
  rw [e]
  exact PRet.gen (Γ' := inG b r small s) (y := .tup [.agg (Trm.mk 0 0 [] []).cells, .bool false]) noT_wk ⟨⟨.mk 0 0 [] [], rfl⟩, rfl⟩
 have hl : 0 < t.t.length := by omega
 have h0 : t.t[0] = firstT t := by rw [firstT_getD, List.getD_eq_getElem?_getD, List.getElem?_eq_getElem hl]; rfl
 rw [← firstT_getD] at hc
 cases hkn : s.known (t.t[0]).n with
 | none =>
  have e : calledI small t s = none := by
   unfold calledI
   rw [h0] at hkn
   rw [if_pos hc, hkn]
  rw [e]
  conv => whnf
  repeat' (first|refine aA2 ?_|((intro _);conv=>whnf)|(refine zX (fun hc=>?_) (fun hc=>?_)<;>(try simp only [SY] at hc)<;>(conv=>whnf)))
  ·exact PRet.gen (y := .tup [.agg (Trm.mk 0 0 [] []).cells, .bool false]) (Γ' := inG b r small s) noT_wk ⟨⟨.mk 0 0 [] [], rfl⟩, rfl⟩
 | some lam =>
  obtain ⟨o1, o2, o3⟩ := hk.ok _ _ hkn
  have hl2 : 0 < lam.t.length := by omega
  have h2 : lam.t[0] = firstT lam := by rw [firstT_getD, List.getD_eq_getElem?_getD, List.getElem?_eq_getElem hl2]; rfl
  have hlb := Trm.bulks_mem (List.getElem_mem hl2)
  have hlbe := lam.bulk_eq
  have hsz := size_c2 lam.t[0] (by omega)
  have hun : calledI small t s = if lam.op = 4 ∧ lam.n = 0 ∧ lam.v.length + 1 = t.t.length ∧ szI (firstT lam) ≤ small ∧ szI (firstT lam) ≤ s.budget then some lam else none := by
   unfold calledI
   rw [h0] at hkn
   rw [if_pos hc, hkn]
  conv => whnf
  repeat' (first|refine aA2 ?_|((first|refine pC (hsz) wR ?_|intro _);conv=>whnf)|(refine zX (fun hc=>?_) (fun hc=>?_)<;>(try simp only [SY] at hc)<;>(conv=>whnf)))
  ·rw [hun, if_neg (by omega)]
   exact PRet.gen (y := .tup [.agg (Trm.mk 0 0 [] []).cells, .bool false]) (Γ' := inG b r small s) noT_wk ⟨⟨.mk 0 0 [] [], rfl⟩, rfl⟩
  refine PDraw.sE [.box b4 [.int .i64 0, .int .i64 0, .nil, .nil]] [17] [18] tt_ok mixed ?_
  conv=>whnf
  repeat (refine aR2 ?_)
  have hz : ((lam.t[0].all.length : Nat) : Int) = szI (firstT lam) := by rw [← h2]; rfl
  rw [hun, hz]
  by_cases hf : szI (firstT lam) ≤ small ∧ szI (firstT lam) ≤ s.budget
  ·rw [if_pos ⟨o1, hc.1, by omega, hf⟩]
   exact PRet.gen (y := .tup [.agg lam.cells, .bool true]) (Γ' := inG b r small s) (Wk.tup (.cons (Wk.refl _) (.cons (Wk.bool (by simp [hf])) .nil))) ⟨rfl, rfl⟩
  ·rw [if_neg (fun h => hf ⟨h.2.2.2.1, h.2.2.2.2⟩)]
   exact PRet.gen (y := .tup [.agg lam.cells, .bool false]) (Γ' := inG b r small s) (Wk.tup (.cons (Wk.refl _) (.cons (Wk.bool (by simp only [Bool.and_eq_false_iff, decide_eq_false_iff_not]; exact Classical.not_and_iff_not_or_not.1 hf)) .nil))) ⟨⟨lam, rfl⟩, rfl⟩
end Go.Cb
namespace Go.Cb
open Go.Proofs
set_option maxRecDepth 100000
set_option maxHeartbeats 4000000
end Go.Cb





