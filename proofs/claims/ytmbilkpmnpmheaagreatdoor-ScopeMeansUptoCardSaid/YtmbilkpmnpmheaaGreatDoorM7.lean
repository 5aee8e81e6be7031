/-
 Contracts: the document's expander: cond.
 Contracts: the document's expander: case.
 Contracts: the document's expander: do.
 Contracts: the document's expander: forms.
 Plain law: how much a form counts.
 Contracts: the document's expander: expressions.
 Plain law: how much a body counts.
 Contracts: the document's expander: bodies.
 Contracts: the document's expander, whole.
 Plain law: how great data that are read are.
 Contracts: the laws of the maker of terms.
 The laws ScopeResolves and ScopeTexts, as contracts.
 Plain law: what is told of a core datum is right; within a lambda over all its names it has a program.
 The law ScopeFree, as a contract.
 The document's machine: its values and how they lie in memory.
 Plain: the texts of the document's machine's values.
 Plain law: the program of ((lambda (x) ((lambda (x) x) 'd)) '()).
 Contracts: the document's machine: values of data, places, lists.
 Contracts: the texts of the document's machine's values.
 Contracts: the document's machine: constants, names, procedures, calls of these.
 Contracts: the document's machine: a procedure is called; a call; a program runs.
-/
import Derived.Test.YtmbilkpmnpmheaaGreatDoorM6
set_option linter.unusedSimpArgs false
set_option linter.unusedVariables false
namespace Go.Cb
open Go.Proofs
set_option maxRecDepth 100000
set_option maxHeartbeats 4000000
theorem isKw_iff (d : Datum) (k : List UInt8) : isKw d k = true ↔ d.kind = 2 ∧ d.s = k := by unfold isKw; simp
theorem cndM_eq (ex : Datum → MkS → MkR) (l : List Datum) (s : MkS) (h : 0 < l.length) : cndM ex l s = (
  if itemsB l[0] = false ∨ l[0].its.1 = [] then failM s else
  if isKw (l[0].its.1.getD 0 nulD) kwElse = true then (if l.drop 1 ≠ [] then failM s else begM ex (l[0].its.1.drop 1) s) else
  if l[0].its.1.length = 1 then bndM ex (frsM s).1 (listD [symD kwIf, (frsM s).1, (frsM s).1, (cndM ex (l.drop 1) (frsM s).2).1]) (l[0].its.1.getD 0 nulD) (cndM ex (l.drop 1) (frsM s).2).2 else
  if isKw (l[0].its.1.getD 1 nulD) kwTo = true then
   if l[0].its.1.length ≠ 3 then failM s else
   bndM ex (frsM s).1 (listD [symD kwIf, (frsM s).1, listD [(ex (l[0].its.1.getD 2 nulD) (frsM s).2).1, (frsM s).1], (cndM ex (l.drop 1) (ex (l[0].its.1.getD 2 nulD) (frsM s).2).2).1]) (l[0].its.1.getD 0 nulD) (cndM ex (l.drop 1) (ex (l[0].its.1.getD 2 nulD) (frsM s).2).2).2
  else
  (listD [symD kwIf, (ex (l[0].its.1.getD 0 nulD) s).1, (begM ex (l[0].its.1.drop 1) (ex (l[0].its.1.getD 0 nulD) s).2).1, (cndM ex (l.drop 1) (begM ex (l[0].its.1.drop 1) (ex (l[0].its.1.getD 0 nulD) s).2).2).1], (cndM ex (l.drop 1) (begM ex (l[0].its.1.drop 1) (ex (l[0].its.1.getD 0 nulD) s).2).2).2)) := by
 match l, h with
 | x :: l, _ => rfl
theorem szs_getD {c : List Datum} {i : Nat} (h : i < c.length) : (c.getD i nulD).sz ≤ Datum.szs c := Datum.szs_mem (datD_mem h)
theorem szs_two_le {c : List Datum} (h : 1 < c.length) : (c.getD 0 nulD).sz + Datum.szs (c.drop 1) = Datum.szs c := by
 rw [datD_get (by omega), ← szs_cons_drop (by omega)]
theorem szs_three_le {c : List Datum} (h : c.length = 3) : (c.getD 0 nulD).sz + (c.getD 2 nulD).sz ≤ Datum.szs c := by
 match c, h with
 | [x, y, z], _ => simp [Datum.szs]
theorem cndM_grow (b : Nat) (ex : Datum → MkS → MkR) (M : Nat) (hx : ∀ x : Datum, x.pr = true → x.sz ≤ M → ExOk b ex x) : ∀ (n : Nat) (l : List Datum), l.length ≤ n → (∀ x ∈ l, x.pr = true ∧ x.sz ≤ M) → ∀ s : MkS, 0 ≤ s.n → s.n + Datum.szs l + l.length ≤ 1000000000000 →
  Grow (Datum.szs l + l.length) s (cndM ex l s).2
 | 0, l, hl, hp, s, h0, h1 => by
  have hl0 : l = [] := List.eq_nil_of_length_eq_zero (by omega)
  have hL : cndM ex l s = (voidD, s) := by rw [hl0]; rfl
  rw [hL]
  exact Grow.refl _ s
 | n + 1, l, hl, hp, s, h0, h1 => by
  by_cases h00 : l.length = 0
  ·exact cndM_grow b ex M hx n l (by omega) hp s h0 h1
  have hs := szs_cons_drop (show 0 < l.length by omega)
  have hm : l[0]'(by omega) ∈ l := List.getElem_mem _
  have hdl : (l.drop 1).length = l.length - 1 := List.length_drop
  have hpd : ∀ x ∈ l.drop 1, x.pr = true ∧ x.sz ≤ M := fun x h => hp x (List.mem_of_mem_drop h)
  have hpx := (hp _ hm).1
  have hsx := (hp _ hm).2
  have hcz := Datum.its_szs hpx
  have hcx : ∀ x ∈ (l[0]'(by omega)).its.1, ExOk b ex x := fun x hx' => by have := Datum.its_lt hpx hx'; exact hx x this.2 (by omega)
  have ih := cndM_grow b ex M hx n (l.drop 1) (by omega) hpd
  rw [cndM_eq ex l s (by omega)]
  generalize (l[0]'(by omega)).its.1 = c at *
  have hf : Grow 1 s (frsM s).2 := Grow.frs 0 s
  have hfn : (frsM s).2.n = s.n + 1 := rfl
  split
  ·exact Grow.fail _ s
  rename_i hbad
  have hc0 : 0 < c.length := by
   rcases Nat.eq_zero_or_pos c.length with h | h
   ·exact absurd (.inr (List.eq_nil_of_length_eq_zero h)) hbad
   ·exact h
  have hcd := Datum.szs_drop c 1
  split
  ·split
   ·exact Grow.fail _ s
   ·exact (begM_grow (fun x h => hcx x (List.mem_of_mem_drop h)) s h0 (by omega)).mono (by omega)
  split
  ·have g2 := ih (frsM s).2 (by omega) (by omega)
   have hz := szs_getD (c := c) hc0
   have g3 := (hcx _ (datD_mem hc0) (cndM ex (l.drop 1) (frsM s).2).2 (by unfold Grow at g2; omega) (by unfold Grow at g2; omega)).1
   exact ((hf.trans g2).trans g3).mono (by omega)
  split
  ·split
   ·exact Grow.fail _ s
   ·rename_i h3
    have h3' : c.length = 3 := by omega
    have hz := szs_three_le h3'
    have g1 := (hcx _ (datD_mem (i := 2) (by omega)) (frsM s).2 (by omega) (by omega)).1
    have g2 := ih (ex (c.getD 2 nulD) (frsM s).2).2 (by unfold Grow at g1; omega) (by unfold Grow at g1; omega)
    have g3 := (hcx _ (datD_mem (i := 0) (by omega)) (cndM ex (l.drop 1) (ex (c.getD 2 nulD) (frsM s).2).2).2 (by unfold Grow at g1 g2; omega) (by unfold Grow at g1 g2; omega)).1
    exact (((hf.trans g1).trans g2).trans g3).mono (by omega)
  ·rename_i h1' _
   have hz := szs_two_le (c := c) (by omega)
   have g1 := (hcx _ (datD_mem (i := 0) (by omega)) s (by omega) (by omega)).1
   have g2 := begM_grow (ex := ex) (l := c.drop 1) (fun x h => hcx x (List.mem_of_mem_drop h)) (ex (c.getD 0 nulD) s).2 (by unfold Grow at g1; omega) (by unfold Grow at g1; omega)
   have g3 := ih (begM ex (c.drop 1) (ex (c.getD 0 nulD) s).2).2 (by unfold Grow at g1 g2; omega) (by unfold Grow at g1 g2; omega)
   exact ((g1.trans g2).trans g3).mono (by omega)
theorem cond04_c (b : Nat) (ex : Datum → MkS → MkR) (M : Nat) (hM : M ≤ 1000000000) (hx : ∀ x : Datum, x.pr = true → x.sz ≤ M → ExOk b ex x) (n : Nat) (hn : n ≤ 1000000000) : ∀ (l : List Datum), l.length ≤ n → (∀ x ∈ l, x.pr = true ∧ x.sz ≤ M) → ∀ s : MkS, 0 ≤ s.n → s.n + Datum.szs l + l.length ≤ 1000000000000 →
  ACall Tryz.prog 177 [.ptr b 0, .sl 5 (l.map Datum.pv) none] [mkE b s] (fun y Γ' => y = .agg (cndM ex l s).1.cells ∧ Γ' = [mkE b (cndM ex l s).2]) := by
 induction n with
 | zero =>
  intro l hl hp s h0 h1
  have hl0 : l = [] := List.eq_nil_of_length_eq_zero (by omega)
  have hL : cndM ex l s = (voidD, s) := by rw [hl0]; rfl
  rw [hL]
  refine ACall.of_body tt_ok Tryz.func177 rfl rfl (n := 133) rfl rfl ?_
  conv => whnf
  repeat' (first|refine aA2 ?_|((first|refine pC (void04_c) wR ?_|intro _);conv=>whnf)|(refine zX (fun hc=>?_) (fun hc=>?_)<;>(try simp only [SY] at hc)<;>first|omega|(conv=>whnf)))
  all_goals first
   | (exfalso; omega)
   | exact PRet.gen (y := .agg voidD.cells) (Γ' := [mkE b s]) (Wk.refl _) (And.intro rfl rfl)
   | skip
  all_goals sorry
 | succ n ih =>
  intro l hl hp s h0 h1
  by_cases h00 : l.length = 0
  ·exact ih (by omega) l (by omega) hp s h0 h1
  have hL := cndM_eq ex l s (by omega)
  have hs := szs_cons_drop (show 0 < l.length by omega)
  have hm : l[0]'(by omega) ∈ l := List.getElem_mem _
  have hdl : (l.drop 1).length = l.length - 1 := List.length_drop
  have hpd : ∀ x ∈ l.drop 1, x.pr = true ∧ x.sz ≤ M := fun x h => hp x (List.mem_of_mem_drop h)
  have hpx := (hp _ hm).1
  have hsx := (hp _ hm).2
  have hI := items04_c _ hpx (by omega)
  have hcz := Datum.its_szs hpx
  have hcl := Datum.szs_len (l[0]'(by omega)).its.1
  have hcx : ∀ x ∈ (l[0]'(by omega)).its.1, ExOk b ex x := fun x hx' => by have := Datum.its_lt hpx hx'; exact hx x this.2 (by omega)
  have ihg := cndM_grow b ex M hx n (l.drop 1) (by omega) hpd
  have ihc := ih (by omega) (l.drop 1) (by omega) hpd
  generalize hit : itemsB (l[0]'(by omega)) = ib at *
  generalize hcc : (l[0]'(by omega)).its.1 = c at *
  refine ACall.of_body tt_ok Tryz.func177 rfl rfl (n := 133) rfl rfl ?_
  conv => whnf
  repeat' (first|refine aA2 ?_|((first|refine pC (hI) wR ?_|intro _);conv=>whnf)|(refine zX (fun hc=>?_) (fun hc=>?_)<;>(try simp only [SY] at hc)<;>first|omega|(conv=>whnf)))
  all_goals first
   | (exfalso; omega)
   | skip
  ·have hb : ib = false ∨ c = [] := by
    rcases hc with h | h
    ·exact .inl h
    ·exact .inr (List.eq_nil_of_length_eq_zero (by omega))
   rw [if_pos hb] at hL
   rw [hL]
   refine PCall.go (failM_c b s) (WkT.refl _) ?_
   rintro _ _ ⟨rfl, rfl⟩
   conv => whnf
   repeat' (first|refine aA2 ?_|(refine zX (fun hc=>?_) (fun hc=>?_)<;>(try simp only [SY] at hc)<;>omega))
   exact PRet.gen (y := .agg (failM s).1.cells) (Γ' := [mkE b (failM s).2]) (Wk.refl _) (And.intro rfl rfl)
  ·have hnb : ¬(ib = false ∨ c = []) := by
    have hq := ‹ib = true ∧ ¬((c.length : Int) = 0)›
    rintro (h | h)
    ·rw [h] at hq; cases hq.1
    ·rw [h] at hq; exact hq.2 rfl
   have hc0 : 0 < c.length := by have hq := ‹ib = true ∧ ¬((c.length : Int) = 0)›; omega
   rw [if_neg hnb, datD_get hc0] at hL
   rw [if_pos ((isKw_iff _ _).2 (by assumption)), if_pos (fun h => by rw [h] at hdl; simp at hdl; omega)] at hL
   rw [hL]
   refine PCall.go (failM_c b s) (WkT.refl _) ?_
   rintro _ _ ⟨rfl, rfl⟩
   conv => whnf
   repeat' (first|refine aA2 ?_|(refine zX (fun hc=>?_) (fun hc=>?_)<;>(try simp only [SY] at hc)<;>omega))
   exact PRet.gen (y := .agg (failM s).1.cells) (Γ' := [mkE b (failM s).2]) (Wk.refl _) (And.intro rfl rfl)
  ·have hnb : ¬(ib = false ∨ c = []) := by
    have hq := ‹ib = true ∧ ¬((c.length : Int) = 0)›
    rintro (h | h)
    ·rw [h] at hq; cases hq.1
    ·rw [h] at hq; exact hq.2 rfl
   have hc0 : 0 < c.length := by have hq := ‹ib = true ∧ ¬((c.length : Int) = 0)›; omega
   rw [if_neg hnb, datD_get hc0] at hL
   rw [if_pos ((isKw_iff _ _).2 (by assumption)), if_neg (fun h => h (List.eq_nil_of_length_eq_zero (by omega)))] at hL
   rw [hL]
   refine PCall.go (begin04_c b ex (c.drop 1) (fun x h => hcx x (List.mem_of_mem_drop h)) (by rw [List.length_drop]; omega) s h0 (by have := Datum.szs_drop c 1; omega)) (WkT.refl _) ?_
   rintro _ _ ⟨rfl, rfl⟩
   generalize begM ex (c.drop 1) s = r at *
   conv => whnf
   repeat' (first|refine aA2 ?_|(refine zX (fun hc=>?_) (fun hc=>?_)<;>(try simp only [SY] at hc)<;>omega))
   exact PRet.gen (y := .agg r.1.cells) (Γ' := [mkE b r.2]) (Wk.refl _) (And.intro rfl rfl)
  ·have hnb : ¬(ib = false ∨ c = []) := by
    have hq := ‹ib = true ∧ ¬((c.length : Int) = 0)›
    rintro (h | h)
    ·rw [h] at hq; cases hq.1
    ·rw [h] at hq; exact hq.2 rfl
   have hc0 : 0 < c.length := by have hq := ‹ib = true ∧ ¬((c.length : Int) = 0)›; omega
   rw [if_neg hnb, datD_get hc0] at hL
   have hne : ¬isKw (c[0]'hc0) kwElse = true := fun h => by
    obtain ⟨h1, h2⟩ := (isKw_iff _ _).1 h
    rcases ‹¬(c[0]'hc0).kind = 2 ∨ ¬(c[0]'hc0).s = [101, 108, 115, 101]› with h3 | h3
    ·exact h3 h1
    ·exact h3 h2
   rw [if_neg hne] at hL
   have hm0 : c[0]'hc0 ∈ c := List.getElem_mem _
   have hz0 := Datum.szs_mem hm0
   have hf : Grow 1 s (frsM s).2 := Grow.frs 0 s
   have hfn : (frsM s).2.n = s.n + 1 := rfl
   rw [if_pos (by omega)] at hL
   have hfc := fresh04_c b s h0 (by omega)
   generalize frsM s = x at *
   have g2 := ihg x.2 (by omega) (by omega)
   have hc2 := ihc x.2 (by omega) (by omega)
   generalize cndM ex (l.drop 1) x.2 = r at *
   have hbc := bound04_c b ex x.1 (listD [symD kwIf, x.1, x.1, r.1]) (c[0]'hc0) (hcx _ hm0) r.2 (by unfold Grow at g2; omega) (by unfold Grow at g2; omega)
   generalize bndM ex x.1 (listD [symD kwIf, x.1, x.1, r.1]) (c[0]'hc0) r.2 = q at *
   rw [hL]
   refine PCall.go hfc (WkT.refl _) ?_
   rintro _ _ ⟨rfl, rfl⟩
   conv => whnf
   repeat' (first|refine aA2 ?_|((intro _);conv=>whnf)|(refine zX (fun hc=>?_) (fun hc=>?_)<;>(try simp only [SY] at hc)<;>omega))
   refine PDraw.sE [mkE b x.2] [8,9,10] [14,15] tt_ok mixed ?_
   conv=>whnf
   repeat (first|refine aR2 ?_|((((apply zZ);(conv=>whnf);(repeat ((refine pC (sym04_c _) wR ?_);conv=>whnf));exact pZ));conv=>whnf))
   refine PCall.go hc2 (WkT.refl _) ?_
   rintro _ _ ⟨rfl, rfl⟩
   conv => whnf
   repeat' (first|refine aA2 ?_|((first|refine pC (list04_c) wR ?_|intro _);conv=>whnf)|(refine zX (fun hc=>?_) (fun hc=>?_)<;>(try simp only [SY] at hc)<;>omega))
   refine PCall.go hbc (WkT.refl _) ?_
   rintro _ _ ⟨rfl, rfl⟩
   conv => whnf
   repeat' (first|refine aA2 ?_|(refine zX (fun hc=>?_) (fun hc=>?_)<;>(try simp only [SY] at hc)<;>omega))
   exact PRet.gen (y := .agg q.1.cells) (Γ' := [mkE b q.2]) (Wk.refl _) (And.intro rfl rfl)
  ·have hnb : ¬(ib = false ∨ c = []) := by
    have hq := ‹ib = true ∧ ¬((c.length : Int) = 0)›
    rintro (h | h)
    ·rw [h] at hq; cases hq.1
    ·rw [h] at hq; exact hq.2 rfl
   have hc0 : 0 < c.length := by have hq := ‹ib = true ∧ ¬((c.length : Int) = 0)›; omega
   rw [if_neg hnb, datD_get hc0] at hL
   have hne : ¬isKw (c[0]'hc0) kwElse = true := fun h => by
    obtain ⟨h1, h2⟩ := (isKw_iff _ _).1 h
    rcases ‹¬(c[0]'hc0).kind = 2 ∨ ¬(c[0]'hc0).s = [101, 108, 115, 101]› with h3 | h3
    ·exact h3 h1
    ·exact h3 h2
   rw [if_neg hne] at hL
   have hm0 : c[0]'hc0 ∈ c := List.getElem_mem _
   have hz0 := Datum.szs_mem hm0
   have hf : Grow 1 s (frsM s).2 := Grow.frs 0 s
   have hfn : (frsM s).2.n = s.n + 1 := rfl
   rw [if_neg (by omega), datD_get (show 1 < c.length by omega), if_pos ((isKw_iff _ _).2 (by assumption)), if_pos (by omega)] at hL
   rw [hL]
   refine PCall.go (failM_c b s) (WkT.refl _) ?_
   rintro _ _ ⟨rfl, rfl⟩
   conv => whnf
   repeat' (first|refine aA2 ?_|(refine zX (fun hc=>?_) (fun hc=>?_)<;>(try simp only [SY] at hc)<;>omega))
   exact PRet.gen (y := .agg (failM s).1.cells) (Γ' := [mkE b (failM s).2]) (Wk.refl _) (And.intro rfl rfl)
  ·have hnb : ¬(ib = false ∨ c = []) := by
    have hq := ‹ib = true ∧ ¬((c.length : Int) = 0)›
    rintro (h | h)
    ·rw [h] at hq; cases hq.1
    ·rw [h] at hq; exact hq.2 rfl
   have hc0 : 0 < c.length := by have hq := ‹ib = true ∧ ¬((c.length : Int) = 0)›; omega
   rw [if_neg hnb, datD_get hc0] at hL
   have hne : ¬isKw (c[0]'hc0) kwElse = true := fun h => by
    obtain ⟨h1, h2⟩ := (isKw_iff _ _).1 h
    rcases ‹¬(c[0]'hc0).kind = 2 ∨ ¬(c[0]'hc0).s = [101, 108, 115, 101]› with h3 | h3
    ·exact h3 h1
    ·exact h3 h2
   rw [if_neg hne] at hL
   have hm0 : c[0]'hc0 ∈ c := List.getElem_mem _
   have hz0 := Datum.szs_mem hm0
   have hf : Grow 1 s (frsM s).2 := Grow.frs 0 s
   have hfn : (frsM s).2.n = s.n + 1 := rfl
   rw [if_neg (by omega), datD_get (show 1 < c.length by omega), if_pos ((isKw_iff _ _).2 (by assumption)), if_neg (by omega), datD_get (show 2 < c.length by omega)] at hL
   have h3' : c.length = 3 := by omega
   have hz := szs_three_le h3'
   rw [datD_get (show 0 < c.length by omega), datD_get (show 2 < c.length by omega)] at hz
   have hm2 : c[2]'(by omega) ∈ c := List.getElem_mem _
   have hfc := fresh04_c b s h0 (by omega)
   generalize frsM s = x at *
   obtain ⟨g1, hc1⟩ := hcx _ hm2 x.2 (by omega) (by omega)
   generalize ex (c[2]'(by omega)) x.2 = f at *
   have g2 := ihg f.2 (by unfold Grow at g1; omega) (by unfold Grow at g1; omega)
   have hc2 := ihc f.2 (by unfold Grow at g1; omega) (by unfold Grow at g1; omega)
   generalize cndM ex (l.drop 1) f.2 = r at *
   have hbc := bound04_c b ex x.1 (listD [symD kwIf, x.1, listD [f.1, x.1], r.1]) (c[0]'hc0) (hcx _ hm0) r.2 (by unfold Grow at g1 g2; omega) (by unfold Grow at g1 g2; omega)
   generalize bndM ex x.1 (listD [symD kwIf, x.1, listD [f.1, x.1], r.1]) (c[0]'hc0) r.2 = q at *
   rw [hL]
   refine PCall.go hfc (WkT.refl _) ?_
   rintro _ _ ⟨rfl, rfl⟩
   conv => whnf
   repeat' (first|refine aA2 ?_|((intro _);conv=>whnf)|(refine zX (fun hc=>?_) (fun hc=>?_)<;>(try simp only [SY] at hc)<;>omega))
   refine PCall.go hc1 (WkT.refl _) ?_
   rintro _ _ ⟨rfl, rfl⟩
   conv => whnf
   repeat' (first|refine aA2 ?_|((intro _);conv=>whnf)|(refine zX (fun hc=>?_) (fun hc=>?_)<;>(try simp only [SY] at hc)<;>omega))
   refine PDraw.sE [mkE b f.2] [11,12,13] [17,18] tt_ok mixed ?_
   conv=>whnf
   repeat (first|refine aR2 ?_|((((apply zZ);(conv=>whnf);(repeat ((first|refine pC (sym04_c _) wR ?_|refine pC (list04_c) wR ?_);conv=>whnf));exact pZ));conv=>whnf))
   refine PCall.go hc2 (WkT.refl _) ?_
   rintro _ _ ⟨rfl, rfl⟩
   conv => whnf
   repeat' (first|refine aA2 ?_|((first|refine pC (list04_c) wR ?_|intro _);conv=>whnf)|(refine zX (fun hc=>?_) (fun hc=>?_)<;>(try simp only [SY] at hc)<;>omega))
   refine PCall.go hbc (WkT.refl _) ?_
   rintro _ _ ⟨rfl, rfl⟩
   conv => whnf
   repeat' (first|refine aA2 ?_|(refine zX (fun hc=>?_) (fun hc=>?_)<;>(try simp only [SY] at hc)<;>omega))
   exact PRet.gen (y := .agg q.1.cells) (Γ' := [mkE b q.2]) (Wk.refl _) (And.intro rfl rfl)
  ·have hnb : ¬(ib = false ∨ c = []) := by
    have hq := ‹ib = true ∧ ¬((c.length : Int) = 0)›
    rintro (h | h)
    ·rw [h] at hq; cases hq.1
    ·rw [h] at hq; exact hq.2 rfl
   have hc0 : 0 < c.length := by have hq := ‹ib = true ∧ ¬((c.length : Int) = 0)›; omega
   rw [if_neg hnb, datD_get hc0] at hL
   have hne : ¬isKw (c[0]'hc0) kwElse = true := fun h => by
    obtain ⟨h1, h2⟩ := (isKw_iff _ _).1 h
    rcases ‹¬(c[0]'hc0).kind = 2 ∨ ¬(c[0]'hc0).s = [101, 108, 115, 101]› with h3 | h3
    ·exact h3 h1
    ·exact h3 h2
   rw [if_neg hne] at hL
   have hm0 : c[0]'hc0 ∈ c := List.getElem_mem _
   have hz0 := Datum.szs_mem hm0
   have hf : Grow 1 s (frsM s).2 := Grow.frs 0 s
   have hfn : (frsM s).2.n = s.n + 1 := rfl
   have hnt : ¬isKw (c[1]'(by omega)) kwTo = true := fun h => by
    obtain ⟨h1, h2⟩ := (isKw_iff _ _).1 h
    rcases hc with h3 | h3
    ·exact h3 h1
    ·exact h3 h2
   rw [if_neg (by omega), datD_get (show 1 < c.length by omega), if_neg hnt] at hL
   have hz := szs_two_le (c := c) (by omega)
   rw [datD_get hc0] at hz
   obtain ⟨g1, hc1⟩ := hcx _ hm0 s h0 (by omega)
   generalize ex (c[0]'hc0) s = a at *
   have hxd : ∀ x ∈ c.drop 1, ExOk b ex x := fun x h => hcx x (List.mem_of_mem_drop h)
   have g2 := begM_grow hxd a.2 (by unfold Grow at g1; omega) (by unfold Grow at g1; omega)
   have hc2 := begin04_c b ex (c.drop 1) hxd (by rw [List.length_drop]; omega) a.2 (by unfold Grow at g1; omega) (by unfold Grow at g1; omega)
   generalize begM ex (c.drop 1) a.2 = e at *
   have hc3 := ihc e.2 (by unfold Grow at g1 g2; omega) (by unfold Grow at g1 g2; omega)
   generalize cndM ex (l.drop 1) e.2 = r at *
   rw [hL]
   refine PCall.go hc1 (WkT.refl _) ?_
   rintro _ _ ⟨rfl, rfl⟩
   conv => whnf
   repeat' (first|refine aA2 ?_|((intro _);conv=>whnf)|(refine zX (fun hc=>?_) (fun hc=>?_)<;>(try simp only [SY] at hc)<;>omega))
   refine PCall.go hc2 (WkT.refl _) ?_
   rintro _ _ ⟨rfl, rfl⟩
   conv => whnf
   repeat' (first|refine aA2 ?_|((intro _);conv=>whnf)|(refine zX (fun hc=>?_) (fun hc=>?_)<;>(try simp only [SY] at hc)<;>omega))
   refine PDraw.sE [mkE b e.2] [6] [7,8,9] tt_ok mixed ?_
   conv=>whnf
   repeat (first|refine aR2 ?_|((((apply zZ);(conv=>whnf);(repeat ((refine pC (sym04_c _) wR ?_);conv=>whnf));exact pZ));conv=>whnf))
   refine PCall.go hc3 (WkT.refl _) ?_
   rintro _ _ ⟨rfl, rfl⟩
   conv => whnf
   repeat' (first|refine aA2 ?_|((first|refine pC (list04_c) wR ?_|intro _);conv=>whnf)|(refine zX (fun hc=>?_) (fun hc=>?_)<;>(try simp only [SY] at hc)<;>omega))
   exact PRet.gen (y := .agg (listD [symD kwIf, a.1, e.1, r.1]).cells) (Γ' := [mkE b r.2]) (Wk.refl _) (And.intro rfl rfl)
end Go.Cb
namespace Go.Cb
open Go.Proofs
set_option maxRecDepth 100000
set_option maxHeartbeats 4000000
theorem choM_eq (ex : Datum → MkS → MkR) (y : Datum) (l : List Datum) (s : MkS) (h : 0 < l.length) : choM ex y l s = (
  if itemsB l[0] = false ∨ l[0].its.1.length < 2 then failM s else
  if isKw (l[0].its.1.getD 0 nulD) kwElse = true then (if l.drop 1 ≠ [] then failM s else begM ex (l[0].its.1.drop 1) s) else
  if itemsB (l[0].its.1.getD 0 nulD) = false then failM s else
  (listD [symD kwIf, tstD y (l[0].its.1.getD 0 nulD).its.1, (begM ex (l[0].its.1.drop 1) s).1, (choM ex y (l.drop 1) (begM ex (l[0].its.1.drop 1) s).2).1], (choM ex y (l.drop 1) (begM ex (l[0].its.1.drop 1) s).2).2)) := by
 match l, h with
 | x :: l, _ => rfl
theorem choM_grow (b : Nat) (ex : Datum → MkS → MkR) (y : Datum) (M : Nat) (hx : ∀ x : Datum, x.pr = true → x.sz ≤ M → ExOk b ex x) : ∀ (n : Nat) (l : List Datum), l.length ≤ n → (∀ x ∈ l, x.pr = true ∧ x.sz ≤ M) → ∀ s : MkS, 0 ≤ s.n → s.n + Datum.szs l + l.length ≤ 1000000000000 →
  Grow (Datum.szs l + l.length) s (choM ex y l s).2
 | 0, l, hl, hp, s, h0, h1 => by
  have hl0 : l = [] := List.eq_nil_of_length_eq_zero (by omega)
  have hL : choM ex y l s = (voidD, s) := by rw [hl0]; rfl
  rw [hL]
  exact Grow.refl _ s
 | n + 1, l, hl, hp, s, h0, h1 => by
  by_cases h00 : l.length = 0
  ·exact choM_grow b ex y M hx n l (by omega) hp s h0 h1
  have hs := szs_cons_drop (show 0 < l.length by omega)
  have hm : l[0]'(by omega) ∈ l := List.getElem_mem _
  have hdl : (l.drop 1).length = l.length - 1 := List.length_drop
  have hpd : ∀ x ∈ l.drop 1, x.pr = true ∧ x.sz ≤ M := fun x h => hp x (List.mem_of_mem_drop h)
  have hpx := (hp _ hm).1
  have hsx := (hp _ hm).2
  have hcz := Datum.its_szs hpx
  have hcx : ∀ x ∈ (l[0]'(by omega)).its.1, ExOk b ex x := fun x hx' => by have := Datum.its_lt hpx hx'; exact hx x this.2 (by omega)
  have ih := choM_grow b ex y M hx n (l.drop 1) (by omega) hpd
  rw [choM_eq ex y l s (by omega)]
  generalize (l[0]'(by omega)).its.1 = c at *
  split
  ·exact Grow.fail _ s
  have hcd := Datum.szs_drop c 1
  have g1 := begM_grow (ex := ex) (l := c.drop 1) (fun x h => hcx x (List.mem_of_mem_drop h)) s h0 (by omega)
  split
  ·split
   ·exact Grow.fail _ s
   ·exact g1.mono (by omega)
  split
  ·exact Grow.fail _ s
  ·have g2 := ih (begM ex (c.drop 1) s).2 (by unfold Grow at g1; omega) (by unfold Grow at g1; omega)
   exact (g1.trans g2).mono (by omega)
theorem drExp04haa {p q : Prop} (k : q) (h : q → p := by intro hq; first | exact PDraw.sP (some 74) rfl [] [14] tt_ok mixed hq) : p := h k
theorem choice04_c (b : Nat) (ex : Datum → MkS → MkR) (y : Datum) (M : Nat) (hM : M ≤ 1000000000) (hx : ∀ x : Datum, x.pr = true → x.sz ≤ M → ExOk b ex x) (n : Nat) (hn : n ≤ 1000000000) : ∀ (l : List Datum), l.length ≤ n → (∀ x ∈ l, x.pr = true ∧ x.sz ≤ M) → ∀ s : MkS, 0 ≤ s.n → s.n + Datum.szs l + l.length ≤ 1000000000000 →
  ACall Tryz.prog 179 [.ptr b 0, .agg y.cells, .sl 5 (l.map Datum.pv) none] [mkE b s] (fun z Γ' => z = .agg (choM ex y l s).1.cells ∧ Γ' = [mkE b (choM ex y l s).2]) := by
 induction n with
 | zero =>
  intro l hl hp s h0 h1
  have hl0 : l = [] := List.eq_nil_of_length_eq_zero (by omega)
  have hL : choM ex y l s = (voidD, s) := by rw [hl0]; rfl
  rw [hL]
  refine ACall.of_body tt_ok Tryz.func179 rfl rfl (n := 102) rfl rfl ?_
  conv => whnf
  repeat' (first|refine aA2 ?_|((first|refine pC (void04_c) wR ?_|intro _);conv=>whnf)|(refine zX (fun hc=>?_) (fun hc=>?_)<;>(try simp only [SY] at hc)<;>first|omega|(conv=>whnf)))
  all_goals first
   | (exfalso; omega)
   | exact PRet.gen (y := .agg voidD.cells) (Γ' := [mkE b s]) (Wk.refl _) (And.intro rfl rfl)
   | skip
 | succ n ih =>
  intro l hl hp s h0 h1
  by_cases h00 : l.length = 0
  ·exact ih (by omega) l (by omega) hp s h0 h1
  have hL := choM_eq ex y l s (by omega)
  have hs := szs_cons_drop (show 0 < l.length by omega)
  have hm : l[0]'(by omega) ∈ l := List.getElem_mem _
  have hdl : (l.drop 1).length = l.length - 1 := List.length_drop
  have hpd : ∀ x ∈ l.drop 1, x.pr = true ∧ x.sz ≤ M := fun x h => hp x (List.mem_of_mem_drop h)
  have hpx := (hp _ hm).1
  have hsx := (hp _ hm).2
  have hI := items04_c _ hpx (by omega)
  have hcz := Datum.its_szs hpx
  have hcl := Datum.szs_len (l[0]'(by omega)).its.1
  have hcx : ∀ x ∈ (l[0]'(by omega)).its.1, ExOk b ex x := fun x hx' => by have := Datum.its_lt hpx hx'; exact hx x this.2 (by omega)
  have hcp : ∀ x ∈ (l[0]'(by omega)).its.1, x.pr = true ∧ x.sz ≤ 1000000000 := fun x hx' => by have := Datum.its_lt hpx hx'; exact ⟨this.2, by omega⟩
  have ihg := choM_grow b ex y M hx n (l.drop 1) (by omega) hpd
  have ihc := ih (by omega) (l.drop 1) (by omega) hpd
  generalize hit : itemsB (l[0]'(by omega)) = ib at *
  generalize hcc : (l[0]'(by omega)).its.1 = c at *
  refine ACall.of_body tt_ok Tryz.func179 rfl rfl (n := 102) rfl rfl ?_
  conv => whnf
  repeat (first|refine aR2 ?_|((intro _);conv=>whnf))
  rename_i b4 b6 hlv
  conv => whnf
  repeat' (first|refine aA2 ?_|((first|refine pC (hI) wR ?_|refine pC (items04_c _ (hcp _ (List.getElem_mem _)).1 (hcp _ (List.getElem_mem _)).2) wR ?_|refine pC (truth04_c _) wR ?_|intro _);conv=>whnf)|(refine zX (fun hc=>?_) (fun hc=>?_)<;>(try simp only [SY] at hc)<;>first|omega|(conv=>whnf)))
  all_goals first
   | (exfalso; omega)
   | skip
  ·have hb : ib = false ∨ c.length < 2 := by
    rcases hc with h | h
    ·exact .inl h
    ·exact .inr (by omega)
   rw [if_pos hb] at hL
   rw [hL]
   refine PCall.go (failM_c b s) (WkT.refl _) ?_
   rintro _ _ ⟨rfl, rfl⟩
   conv => whnf
   repeat' (first|refine aA2 ?_|(refine zX (fun hc=>?_) (fun hc=>?_)<;>(try simp only [SY] at hc)<;>omega))
   exact PRet.gen (y := .agg (failM s).1.cells) (Γ' := [mkE b (failM s).2]) (Wk.refl _) (And.intro rfl rfl)
  ·have hq := ‹ib = true ∧ 2 ≤ (c.length : Int)›
   have hnb : ¬(ib = false ∨ c.length < 2) := by
    rintro (h | h)
    ·rw [h] at hq; cases hq.1
    ·omega
   have hc0 : 0 < c.length := by omega
   rw [if_neg hnb, datD_get hc0] at hL
   rw [if_pos ((isKw_iff _ _).2 (by assumption)), if_pos (fun h => by rw [h] at hdl; simp at hdl; omega)] at hL
   rw [hL]
   refine PCall.go (failM_c b s) (WkT.refl _) ?_
   rintro _ _ ⟨rfl, rfl⟩
   conv => whnf
   repeat' (first|refine aA2 ?_|(refine zX (fun hc=>?_) (fun hc=>?_)<;>(try simp only [SY] at hc)<;>omega))
   exact PRet.gen (y := .agg (failM s).1.cells) (Γ' := [mkE b (failM s).2]) (Wk.refl _) (And.intro rfl rfl)
  ·have hq := ‹ib = true ∧ 2 ≤ (c.length : Int)›
   have hnb : ¬(ib = false ∨ c.length < 2) := by
    rintro (h | h)
    ·rw [h] at hq; cases hq.1
    ·omega
   have hc0 : 0 < c.length := by omega
   rw [if_neg hnb, datD_get hc0] at hL
   rw [if_pos ((isKw_iff _ _).2 (by assumption)), if_neg (fun h => h (List.eq_nil_of_length_eq_zero (by omega)))] at hL
   rw [hL]
   refine PCall.go (begin04_c b ex (c.drop 1) (fun x h => hcx x (List.mem_of_mem_drop h)) (by rw [List.length_drop]; omega) s h0 (by have := Datum.szs_drop c 1; omega)) (WkT.refl _) ?_
   rintro _ _ ⟨rfl, rfl⟩
   generalize begM ex (c.drop 1) s = r at *
   conv => whnf
   repeat' (first|refine aA2 ?_|(refine zX (fun hc=>?_) (fun hc=>?_)<;>(try simp only [SY] at hc)<;>omega))
   exact PRet.gen (y := .agg r.1.cells) (Γ' := [mkE b r.2]) (Wk.refl _) (And.intro rfl rfl)
  ·have hq := ‹ib = true ∧ 2 ≤ (c.length : Int)›
   have hnb : ¬(ib = false ∨ c.length < 2) := by
    rintro (h | h)
    ·rw [h] at hq; cases hq.1
    ·omega
   have hc0 : 0 < c.length := by omega
   rw [if_neg hnb, datD_get hc0] at hL
   have hne : ¬isKw (c[0]'hc0) kwElse = true := fun h => by
    obtain ⟨h1, h2⟩ := (isKw_iff _ _).1 h
    rcases ‹¬(c[0]'hc0).kind = 2 ∨ ¬(c[0]'hc0).s = [101, 108, 115, 101]› with h3 | h3
    ·exact h3 h1
    ·exact h3 h2
   rw [if_neg hne] at hL
   rw [if_pos (by assumption)] at hL
   rw [hL]
   refine PCall.go (failM_c b s) (WkT.refl _) ?_
   rintro _ _ ⟨rfl, rfl⟩
   conv => whnf
   repeat' (first|refine aA2 ?_|(refine zX (fun hc=>?_) (fun hc=>?_)<;>(try simp only [SY] at hc)<;>omega))
   exact PRet.gen (y := .agg (failM s).1.cells) (Γ' := [mkE b (failM s).2]) (Wk.refl _) (And.intro rfl rfl)
  ·have hq := ‹ib = true ∧ 2 ≤ (c.length : Int)›
   have hnb : ¬(ib = false ∨ c.length < 2) := by
    rintro (h | h)
    ·rw [h] at hq; cases hq.1
    ·omega
   have hc0 : 0 < c.length := by omega
   rw [if_neg hnb, datD_get hc0] at hL
   have hne : ¬isKw (c[0]'hc0) kwElse = true := fun h => by
    obtain ⟨h1, h2⟩ := (isKw_iff _ _).1 h
    rcases ‹¬(c[0]'hc0).kind = 2 ∨ ¬(c[0]'hc0).s = [101, 108, 115, 101]› with h3 | h3
    ·exact h3 h1
    ·exact h3 h2
   rw [if_neg hne] at hL
   rw [if_neg (by rw [hc]; simp)] at hL
   have hg1 := begM_grow (ex := ex) (l := c.drop 1) (fun x h => hcx x (List.mem_of_mem_drop h)) s h0 (by have := Datum.szs_drop c 1; omega)
   have hcd := Datum.szs_drop c 1
   have hc1 := begin04_c b ex (c.drop 1) (fun x h => hcx x (List.mem_of_mem_drop h)) (by rw [List.length_drop]; omega) s h0 (by omega)
   generalize begM ex (c.drop 1) s = e at *
   have hg2 := ihg e.2 (by unfold Grow at hg1; omega) (by unfold Grow at hg1; omega)
   have hc2 := ihc e.2 (by unfold Grow at hg1; omega) (by unfold Grow at hg1; omega)
   generalize choM ex y (l.drop 1) e.2 = r at *
   have hDl : (c[0]'hc0).its.1.length ≤ 1000000000 := by have := hcp _ (List.getElem_mem hc0); have h2 := Datum.its_szs this.1; have h3 := Datum.szs_len (c[0]'hc0).its.1; omega
   generalize (c[0]'hc0).its.1 = D at *
   rename_i b11 hlD
   rw [show ([.int .i64 (truD 0).kind, .int .i64 (truD 0).n, .int .i64 (truD 0).d, .str (truD 0).s, .sl 5 ((truD 0).l.map Datum.pv) none] : List PV) = datC (truD 0) from rfl]
   refine PLoop.over [12, 70, 71, 72, 73, 74, 75, 76, 77, 78, 79, 80, 81, 82, 83, 84, 85, 86, 87] (fun x : Nat × Datum => [(12, .int .i64 ((x.1 : Int) - 1))]) (fun x : Nat × Datum => [.box b11 (datC x.2), resE b6, .box b4 (datC y), mkE b s]) (fun x => x.1 ≤ D.length ∧ x.2 = tstD y (D.drop x.1)) (fun x => x.1) (D.length, truD 0) ⟨Nat.le_refl _, by rw [List.drop_of_length_le (Nat.le_refl _)]; rfl⟩ wA ?_
   rintro ⟨i, T⟩ ⟨hi, hT⟩
   dsimp only at hi hT ⊢
   conv => whnf
   repeat' (first|refine aA2 ?_|((first|((apply zZ);(conv=>whnf);(repeat ((first|refine pC (sym04_c _) wR ?_|refine pC (list04_c) wR ?_|refine pC (truth04_c _) wR ?_|refine pC (quoted04_c) wR ?_);conv=>whnf));exact pZ)|refine drExp04haa ?_);conv=>whnf)|(refine zX (fun hc=>?_) (fun hc=>?_)<;>(try simp only [SY] at hc)<;>(conv=>whnf)))
   ·have h1' : i - 1 < D.length := by omega
    have e1 : D.drop (i - 1) = D[i - 1] :: D.drop i := by rw [drop_at h1', show i - 1 + 1 = i by omega]
    exact loopTo (i - 1, listD [symD [105, 102], listD [symD [37, 101, 113, 63], y, quotD D[i - 1]], truD 1, T]) ⟨by show i - 1 ≤ _; omega, by show listD _ = _; rw [e1, hT]; rfl⟩ (by show i - 1 < i; omega) wA
   ·have e1 : T = tstD y D := by rw [hT, show i = 0 by omega]; rfl
    rw [← e1] at hL
    rw [hL]
    refine PCall.go hc1 (WkT.refl _) ?_
    rintro _ _ ⟨rfl, rfl⟩
    conv => whnf
    repeat' (first|refine aA2 ?_|((intro _);conv=>whnf)|(refine zX (fun hc=>?_) (fun hc=>?_)<;>(try simp only [SY] at hc)<;>omega))
    refine PDraw.sE [mkE b e.2] [7] [8,9,10] tt_ok mixed ?_
    conv=>whnf
    repeat (first|refine aR2 ?_|((((apply zZ);(conv=>whnf);(repeat ((refine pC (sym04_c _) wR ?_);conv=>whnf));exact pZ));conv=>whnf))
    refine PCall.go hc2 (WkT.refl _) ?_
    rintro _ _ ⟨rfl, rfl⟩
    conv => whnf
    repeat' (first|refine aA2 ?_|((first|refine pC (list04_c) wR ?_|intro _);conv=>whnf)|(refine zX (fun hc=>?_) (fun hc=>?_)<;>(try simp only [SY] at hc)<;>omega))
    exact PRet.gen (y := .agg (listD [symD kwIf, T, e.1, r.1]).cells) (Γ' := [mkE b r.2]) (Wk.refl _) (And.intro rfl rfl)
end Go.Cb
namespace Go.Cb
open Go.Proofs
set_option maxRecDepth 100000
set_option maxHeartbeats 4000000
theorem PRow.oneDat {e : TypeId} {d : Datum} {K : PV → Ent → Prop} (k : ∀ t : Tok, t.e = e → t.s = 5 → K (.ms t) (.row t ([d].map Datum.pv))) : PRow 5 [.agg (datC d)] e K := by
 refine ⟨by simp [PV.cellsOf], by simp [PV.cellular], .inr fun t h1 h2 => ?_⟩
 have := k t h1 h2
 rw [List.map_cons, List.map_nil, Datum.pv_eq] at this
 exact this
theorem ACall.weakD {P : Program} {f : FuncId} {args args' : List PV} {Γ Γ' : List Ent} {Q : PV → List Ent → Prop} (hg : Weak args Γ args' Γ') (h : ACall P f args' Γ' Q) : ACall P f args Γ Q :=
 ⟨h.1, fun w0 F M w vs hS hT => by
  obtain ⟨F1, a1, a2, a3⟩ := hg w0 F M w vs hS hT
  refine (h.2 w0 F1 M w vs a2 a3).mono ?_
  rintro e w' ⟨v, F', y, Γ2, e1, e2, e3⟩
  exact ⟨v, F', y, Γ2, e1, Fz.le_trans a1 e2, e3⟩⟩
theorem PCall.pureFzD {P : Program} {f : FuncId} {args args' : List PV} {y : PV} {Γ Γ0 : List Ent} {K : PV → List Ent → Prop} (t : Tok) (es : List PV) [hp : PickE Γ (.row t es) Γ0] (hw : WkFT t es args args') (h : ACallP P f args' y) (k : K y (.tok t :: Γ0)) : PCall P f args Γ K := by
 have h1 := ACall.frame h (Γ := .tok t :: Γ0) (Γ2 := .tok t :: Γ0) (List.Perm.refl _)
 refine ⟨.inl (ACall.weakD (Weak.freezeRow (hp := hp) hw) ⟨h1.1, fun w0 F M w vs hS hT => (h1.2 w0 F M w vs hS hT).mono ?_⟩)⟩
 rintro e w' ⟨v, F', y', Γ', e1, e2, e3, e4, Γ1', rfl, rfl⟩
 refine ⟨v, F', _, _, e1, e2, ?_, e4, k⟩
 refine e3.sub ?_
 rw [List.append_assoc]
 exact List.sublist_append_right _ _
theorem set_last {α : Type} : ∀ (l : List α) (a c : α) (k : Nat), k = l.length → (l ++ [a]).set k c = l ++ [c]
 | [], a, c, k, h => by subst h; rfl
 | x :: l, a, c, k, h => by
  subst h
  show x :: ((l ++ [a]).set l.length c) = _
  rw [set_last l a c _ rfl]
  rfl
theorem stpF_len : ∀ {l : List Datum} {b : List (Datum × Datum × Datum)}, stpF l = some b → b.length = l.length
 | [], b, h => by rw [stpF] at h; cases h; rfl
 | x :: xs, b, h => by
  rw [stpF] at h
  split at h
  ·cases hb : stpF xs with
   | none => rw [hb] at h; cases h
   | some b' =>
    rw [hb] at h
    cases h
    rw [List.length_cons, List.length_cons, stpF_len hb]
  ·cases h
def nstp (p : List Datum) : Datum := if p.length = 2 then p.getD 0 nulD else p.getD 2 nulD
theorem stp_one {p : List Datum} (h2 : 2 ≤ p.length) (h3 : p.length ≤ 3) : (p.getD 0 nulD).sz + (p.getD 1 nulD).sz ≤ Datum.szs p ∧ (nstp p).sz ≤ Datum.szs p := by
 unfold nstp
 match p, h2, h3 with
 | [a, b], _, _ => simp [Datum.szs]
 | [a, b, c], _, _ => simp [Datum.szs]; omega
theorem stp_two {p : List Datum} (h2 : 2 ≤ p.length) (h3 : p.length ≤ 3) : (nstp p).sz + (p.getD 1 nulD).sz ≤ Datum.szs p := by
 unfold nstp
 match p, h2, h3 with
 | [a, b], _, _ => simp [Datum.szs]
 | [a, b, c], _, _ => simp [Datum.szs]; omega
theorem stpF_two : ∀ {l : List Datum} {b : List (Datum × Datum × Datum)}, (∀ x ∈ l, x.pr = true) → stpF l = some b → Datum.szs (b.map fun p => p.2.2) + Datum.szs (b.map fun p => p.2.1) + 3 * b.length ≤ Datum.szs l
 | [], b, _, h => by rw [stpF] at h; cases h; simp [Datum.szs]
 | x :: xs, b, hp, h => by
  rw [stpF] at h
  split at h
  ·rename_i hc
   cases hb : stpF xs with
   | none => rw [hb] at h; cases h
   | some b' =>
    rw [hb] at h
    cases h
    have ih := stpF_two (fun y hy => hp y (by simp [hy])) hb
    have h1 := Datum.its_szs (hp x (by simp))
    have h2 := stp_two hc.2.1 hc.2.2
    unfold nstp at h2
    simp only [List.map_cons, Datum.szs, List.length_cons]
    omega
  ·cases h
theorem stpF_sz : ∀ {l : List Datum} {b : List (Datum × Datum × Datum)}, (∀ x ∈ l, x.pr = true) → stpF l = some b →
  Datum.szs (b.map fun p => p.1) + Datum.szs (b.map fun p => p.2.1) + 3 * b.length ≤ Datum.szs l ∧ Datum.szs (b.map fun p => p.2.2) + 4 * b.length ≤ Datum.szs l ∧ (∀ p ∈ b, p.1.pr = true ∧ p.2.1.pr = true ∧ p.2.2.pr = true)
 | [], b, _, h => by rw [stpF] at h; cases h; simp [Datum.szs]
 | x :: xs, b, hp, h => by
  rw [stpF] at h
  split at h
  ·rename_i hc
   cases hb : stpF xs with
   | none => rw [hb] at h; cases h
   | some b' =>
    rw [hb] at h
    cases h
    have ih := stpF_sz (fun y hy => hp y (by simp [hy])) hb
    have hx := hp x (by simp)
    have h1 := Datum.its_szs hx
    have h2 := stp_one hc.2.1 hc.2.2
    unfold nstp at h2
    have m0 := Datum.its_lt hx (datD_mem (i := 0) (show 0 < x.its.1.length by omega))
    have m1 := Datum.its_lt hx (datD_mem (i := 1) (show 1 < x.its.1.length by omega))
    have hz0 := (x.its.1.getD 0 nulD).sz_pos
    have hz1 := (x.its.1.getD 1 nulD).sz_pos
    simp only [List.map_cons, Datum.szs, List.length_cons]
    have h4 : (if x.its.1.length = 2 then x.its.1.getD 0 nulD else x.its.1.getD 2 nulD).sz + 4 ≤ x.sz ∧ (if x.its.1.length = 2 then x.its.1.getD 0 nulD else x.its.1.getD 2 nulD).pr = true := by
     split
     ·refine ⟨?_, m0.2⟩
      have := szs_two (by assumption : x.its.1.length = 2)
      omega
     ·have m2 := Datum.its_lt hx (datD_mem (i := 2) (show 2 < x.its.1.length by omega))
      refine ⟨?_, m2.2⟩
      have := szs_three_le (c := x.its.1) (by omega)
      omega
    refine ⟨by omega, by omega, ?_⟩
    intro p hp'
    rcases List.mem_cons.1 hp' with rfl | hp'
    ·exact ⟨m0.2, m1.2, h4.2⟩
    ·exact ih.2.2 p hp'
  ·cases h
theorem drExp04iaa {p q : Prop} (k : q) (h : q → p := by intro hq; first | exact PDraw.sP (some 139) rfl [11] [12] tt_ok mixed hq) : p := h k
set_option maxHeartbeats 40000000 in
theorem loop04_c (b : Nat) (ex : Datum → MkS → MkR) (l : List Datum) (M : Nat) (hM : M ≤ 1000000000) (hx : ∀ x : Datum, x.pr = true → x.sz ≤ M → ExOk b ex x) (hll : 2 ≤ l.length) (hp : ∀ x ∈ l, x.pr = true) (hls : Datum.szs l + 3 ≤ M) (s : MkS) (h0 : 0 ≤ s.n) (h1 : s.n + Datum.szs l + 3 ≤ 1000000000000) :
  Grow (Datum.szs l + 3) s (lopM ex l s).2 ∧
  ACall Tryz.prog 181 [.ptr b 0, .sl 5 (l.map Datum.pv) none] [mkE b s] (fun y Γ' => y = .agg (lopM ex l s).1.cells ∧ Γ' = [mkE b (lopM ex l s).2]) := by
 have hL : lopM ex l s = lopM ex l s := rfl
 conv at hL => rhs; unfold lopM; dsimp only
 have hm0 : l[0]'(by omega) ∈ l := List.getElem_mem _
 have hm1 : l[1]'(by omega) ∈ l := List.getElem_mem _
 have e2 : Datum.szs (l.drop 2) + (l[0]'(by omega)).sz + (l[1]'(by omega)).sz = Datum.szs l := by
  conv => rhs; rw [show l = l[0]'(by omega) :: l[1]'(by omega) :: l.drop 2 by rw [← List.drop_eq_getElem_cons, ← List.drop_eq_getElem_cons]; rfl]
  rw [Datum.szs, Datum.szs]; omega
 have hlen := Datum.szs_len l
 rw [datD_get (show 0 < l.length by omega), datD_get (show 1 < l.length by omega)] at hL
 have hI0 := items04_c (l[0]'(by omega)) (hp _ hm0) (by omega)
 have hI1 := items04_c (l[1]'(by omega)) (hp _ hm1) (by omega)
 have hz0 := Datum.its_szs (hp _ hm0)
 have hz1 := Datum.its_szs (hp _ hm1)
 have hB : ∀ x ∈ (l[0]'(by omega)).its.1, x.pr = true ∧ x.sz ≤ 1000000000 := fun x hx' => by have := Datum.its_lt (hp _ hm0) hx'; exact ⟨this.2, by omega⟩
 have hT : ∀ x ∈ (l[1]'(by omega)).its.1, x.pr = true := fun x hx' => (Datum.its_lt (hp _ hm1) hx').2
 generalize hb0 : itemsB (l[0]'(by omega)) = i0 at *
 generalize hb1 : itemsB (l[1]'(by omega)) = i1 at *
 generalize (l[0]'(by omega)).its.1 = B at *
 generalize (l[1]'(by omega)).its.1 = t at *
 have hBl := Datum.szs_len B
 have htl := Datum.szs_len t
 by_cases hbad : i0 = false ∨ i1 = false ∨ t = []
 ·rw [if_pos hbad] at hL
  rw [hL]
  refine ⟨Grow.fail _ s, ?_⟩
  refine ACall.of_body tt_ok Tryz.func181 rfl rfl (n := 166) rfl rfl ?_
  conv => whnf
  repeat' (first|refine aA2 ?_|((first|refine pC (hI0) wR ?_|refine pC (hI1) wR ?_|intro _);conv=>whnf)|(refine zX (fun hc=>?_) (fun hc=>?_)<;>(try simp only [SY] at hc)<;>(conv=>whnf)))
  ·refine PCall.go (failM_c b s) (WkT.refl _) ?_
   rintro _ _ ⟨rfl, rfl⟩
   conv => whnf
   repeat' (first|refine aA2 ?_|(refine zX (fun hc=>?_) (fun hc=>?_)<;>(try simp only [SY] at hc)<;>omega))
   exact PRet.gen (y := .agg (failM s).1.cells) (Γ' := [mkE b (failM s).2]) (Wk.refl _) (And.intro rfl rfl)
  ·exfalso
   rcases hbad with h | h | h
   ·rw [h] at hc; cases hc.1.1
   ·rw [h] at hc; cases hc.1.2
   ·rw [h] at hc; exact hc.2 rfl
 ·rw [if_neg hbad] at hL
  have hi0 : i0 = true := by cases i0 with
   | true => rfl
   | false => exact absurd (.inl rfl) hbad
  have hi1 : i1 = true := by cases i1 with
   | true => rfl
   | false => exact absurd (.inr (.inl rfl)) hbad
  have ht0 : 0 < t.length := by
   rcases Nat.eq_zero_or_pos t.length with h | h
   ·exact absurd (.inr (.inr (List.eq_nil_of_length_eq_zero h))) hbad
   ·exact h
  subst hi0 hi1
  have hf : Grow 1 s (frsM s).2 := Grow.frs 0 s
  have hfn : (frsM s).2.n = s.n + 1 := rfl
  have hfd : (frsM s).1.sz = 1 ∧ (frsM s).1.pr = true := ⟨rfl, rfl⟩
  have hfc := fresh04_c b s h0 (by omega)
  generalize frsM s = x at *
  cases hS : stpF B with
  | none =>
   rw [hS] at hL
   dsimp only at hL
   rw [hL]
   refine ⟨(hf.trans (Grow.fail 0 x.2)).mono (by omega), ?_⟩
   refine ACall.of_body tt_ok Tryz.func181 rfl rfl (n := 166) rfl rfl ?_
   conv => whnf
   repeat' (first|refine aA2 ?_|((first|refine pC (hI0) wR ?_|refine pC (hI1) wR ?_|intro _);conv=>whnf)|(refine zX (fun hc=>?_) (fun hc=>?_)<;>(try simp only [SY] at hc)<;>first|omega|(conv=>whnf)))
   refine PCall.go hfc (WkT.refl _) ?_
   rintro _ _ ⟨rfl, rfl⟩
   rename_i b4
   conv => whnf
   repeat' (first|((first|refine PRow.oneDat ?_|refine aM ?_|refine aF ?_|intro _);conv=>whnf)|(refine zX (fun hc=>?_) (fun hc=>?_)<;>(try simp only [SY] at hc)<;>omega))
   rename_i b9 t3 ht3 hs3
   refine PLoop.gh (Ghost.trans (Ghost.nil 5 24 _) (Ghost.nil 5 24 _)) ?_
   refine PLoop.over [10, 11, 12, 13, 14, 15, 51, 52, 53, 54, 55, 56, 57, 58, 59, 60, 61, 62, 63, 64, 65, 66, 67, 68, 69, 70, 71, 72, 73, 74, 75, 76, 77, 78, 79, 80, 81, 82, 83, 84, 85, 86, 87, 88, 89, 90, 91, 92, 93, 94, 95, 96, 97, 98, 99, 100, 101, 102, 103, 104, 105, 106, 107, 108, 109, 110] (fun z : Nat × List (Datum × Datum × Datum) × List Datum × Tok × Tok × Tok => [(10, .sl 5 ((z.2.1.map fun p => p.1).map Datum.pv) (some z.2.2.2.1)), (11, .sl 5 ((z.2.1.map fun p => p.2.1).map Datum.pv) (some z.2.2.2.2.1)), (12, .ms z.2.2.2.2.2), (13, .int .i64 z.1)])
    (fun z : Nat × List (Datum × Datum × Datum) × List Datum × Tok × Tok × Tok => [.tok z.2.2.2.1, .tok z.2.2.2.2.1, .row z.2.2.2.2.2 (z.2.2.1.map Datum.pv), .box b9 (datC x.1), resE b4, mkE b x.2])
    (fun z => z.1 ≤ B.length ∧ z.2.1.length = z.1 ∧ z.2.2.1 = x.1 :: (z.2.1.map fun p => p.2.2) ∧ z.2.2.2.1.e = 24 ∧ z.2.2.2.2.1.e = 24 ∧ (z.2.2.2.2.2.e = 24 ∧ z.2.2.2.2.2.s = 5) ∧ stpF B = (stpF (B.drop z.1)).map (z.2.1 ++ ·)) (fun z => B.length - z.1)
    (0, [], [x.1], nilTok 5 24, nilTok 5 24, t3) ⟨Nat.zero_le _, rfl, rfl, rfl, rfl, ⟨ht3, hs3⟩, by simp⟩ wA ?_
   rintro ⟨i, acc, st, u1, u2, u3⟩ ⟨hi, hal, hst, hu1, hu2, ⟨hu3, hus⟩, he⟩
   dsimp only at hi hal hst hu1 hu2 hu3 hus he ⊢
   have hsl : st.length = i + 1 := by rw [hst, List.length_cons, List.length_map, hal]
   have hla : (acc.map fun p => p.1).length = i := by rw [List.length_map, hal]
   have hlb : (acc.map fun p => p.2.1).length = i := by rw [List.length_map, hal]
   have hlc : (acc.map fun p => p.2.2).length = i := by rw [List.length_map, hal]
   conv => whnf
   repeat' (first|refine aA2 ?_|((first|refine pC (items04_c _ (hB _ (List.getElem_mem _)).1 (hB _ (List.getElem_mem _)).2) wR ?_|intro _);conv=>whnf)|(refine zX (fun hc=>?_) (fun hc=>?_)<;>(try simp only [SY] at hc)<;>(conv=>whnf)))
   ·have hlt : i < B.length := by omega
    have hn : stpF (B.drop i) = none := by
     rw [drop_at hlt, stpF, if_neg]
     rintro ⟨h1, h2, h3⟩
     rcases hc with (h | h) | h
     ·rw [h1] at h; cases h
     ·omega
     ·omega
    rw [hn] at he
    refine PCall.go (failM_c b x.2) (WkT.refl _) ?_
    rintro _ _ ⟨rfl, rfl⟩
    conv => whnf
    repeat' (first|refine aA2 ?_|(refine zX (fun hc=>?_) (fun hc=>?_)<;>(try simp only [SY] at hc)<;>omega))
    exact PRet.gen (y := .agg (failM x.2).1.cells) (Γ' := [mkE b (failM x.2).2]) (Wk.refl _) (And.intro rfl rfl)
   ·have hlt : i < B.length := by omega
    have hq := ‹(itemsB B[i] = true ∧ 2 ≤ (B[i].its.1.length : Int)) ∧ (B[i].its.1.length : Int) ≤ 3›
    have hst1 : stpF (B.drop i) = (stpF (B.drop (i + 1))).map ((B[i].its.1.getD 0 nulD, B[i].its.1.getD 1 nulD, nstp B[i].its.1) :: ·) := by
     rw [drop_at hlt, stpF, if_pos ⟨hq.1.1, by omega, by omega⟩]
     rfl
    have hp2 : B[i].its.1.length = 2 := by omega
    have hsl2 : (st ++ [B[i].its.1[B[i].its.1.length - 1]'(by omega)]).length = i + 2 := by rw [List.length_append, List.length_singleton, hsl]
    have hns : nstp B[i].its.1 = B[i].its.1[0]'(by omega) := by
     unfold nstp
     rw [if_pos hp2, datD_get (show 0 < B[i].its.1.length by omega)]
    refine PLenM.map fun _ => ?_
    conv => whnf
    repeat' (first|refine aA2 ?_|(refine zX (fun hc=>?_) (fun hc=>?_)<;>(try simp only [SY] at hc)<;>omega))
    have e1 : (acc.map fun p => p.1) ++ [B[i].its.1[0]'(by omega)] = (acc ++ [(B[i].its.1.getD 0 nulD, B[i].its.1.getD 1 nulD, nstp B[i].its.1)]).map fun p => p.1 := by rw [List.map_append, datD_get (show 0 < B[i].its.1.length by omega)]; rfl
    have e2 : (acc.map fun p => p.2.1) ++ [B[i].its.1[1]'(by omega)] = (acc ++ [(B[i].its.1.getD 0 nulD, B[i].its.1.getD 1 nulD, nstp B[i].its.1)]).map fun p => p.2.1 := by rw [List.map_append, datD_get (show 1 < B[i].its.1.length by omega)]; rfl
    have e3 : (st ++ [B[i].its.1[B[i].its.1.length - 1]'(by omega)]).set ((st ++ [B[i].its.1[B[i].its.1.length - 1]'(by omega)]).length - 1) (B[i].its.1[0]'(by omega)) = st ++ [nstp B[i].its.1] := by
     rw [hns, hsl2]
     exact set_last _ _ _ _ (by omega)
    rw [e1, e2, e3]
    rename_i z1 hz1 zl hzl y1 hy1 y2 y3 hy3 y4 y5 hy5 hs5 xx
    refine loopTo (i + 1, acc ++ [(B[i].its.1.getD 0 nulD, B[i].its.1.getD 1 nulD, nstp B[i].its.1)], st ++ [nstp B[i].its.1], z1, y1, y4) ⟨by show i + 1 ≤ _; omega, by simp; omega, by show st ++ _ = _; rw [hst, List.map_append]; rfl, hz1, hy1, ⟨y5, hy5⟩, ?_⟩ (by show B.length - (i + 1) < B.length - i; omega) wA
    rw [he, hst1]
    dsimp only
    cases stpF (B.drop (i + 1)) <;> simp
   ·have hlt : i < B.length := by omega
    have hq := ‹(itemsB B[i] = true ∧ 2 ≤ (B[i].its.1.length : Int)) ∧ (B[i].its.1.length : Int) ≤ 3›
    have hst1 : stpF (B.drop i) = (stpF (B.drop (i + 1))).map ((B[i].its.1.getD 0 nulD, B[i].its.1.getD 1 nulD, nstp B[i].its.1) :: ·) := by
     rw [drop_at hlt, stpF, if_pos ⟨hq.1.1, by omega, by omega⟩]
     rfl
    have hp3 : B[i].its.1.length = 3 := by omega
    have hns : nstp B[i].its.1 = B[i].its.1[B[i].its.1.length - 1]'(by omega) := by
     unfold nstp
     rw [if_neg (by omega), datD_get (show 2 < B[i].its.1.length by omega)]
     congr 1
     omega
    have e1 : (acc.map fun p => p.1) ++ [B[i].its.1[0]'(by omega)] = (acc ++ [(B[i].its.1.getD 0 nulD, B[i].its.1.getD 1 nulD, nstp B[i].its.1)]).map fun p => p.1 := by rw [List.map_append, datD_get (show 0 < B[i].its.1.length by omega)]; rfl
    have e2 : (acc.map fun p => p.2.1) ++ [B[i].its.1[1]'(by omega)] = (acc ++ [(B[i].its.1.getD 0 nulD, B[i].its.1.getD 1 nulD, nstp B[i].its.1)]).map fun p => p.2.1 := by rw [List.map_append, datD_get (show 1 < B[i].its.1.length by omega)]; rfl
    rw [e1, e2, ← hns]
    rename_i z1 hz1 zl hzl y1 hy1 y2 y3 hy3 y4 y5 hy5 hs5
    refine loopTo (i + 1, acc ++ [(B[i].its.1.getD 0 nulD, B[i].its.1.getD 1 nulD, nstp B[i].its.1)], st ++ [nstp B[i].its.1], z1, y1, y4) ⟨by show i + 1 ≤ _; omega, by simp; omega, by show st ++ _ = _; rw [hst, List.map_append]; rfl, hz1, hy1, ⟨y5, hy5⟩, ?_⟩ (by show B.length - (i + 1) < B.length - i; omega) wA
    rw [he, hst1]
    dsimp only
    cases stpF (B.drop (i + 1)) <;> simp
   ·rw [List.drop_of_length_le (by omega), stpF] at he
    have he' : stpF B = some acc := by rw [he]; simp
    rw [he'] at hS
    cases hS
  | some bs =>
   rw [hS] at hL
   dsimp only at hL
   have hln := stpF_len hS
   obtain ⟨hz2, hz3, hpp⟩ := stpF_sz (fun x hx => (hB x hx).1) hS
   have hz4 := stpF_two (fun x hx => (hB x hx).1) hS
   have hdc := distinct04_c (bs.map fun p => p.1) (by rw [List.length_map]; omega)
   by_cases hd : distB (bs.map fun p => p.1) [] = false
   ·rw [if_pos (show distB (bs.map Prod.fst) [] = false from hd)] at hL
    rw [hL]
    refine ⟨(hf.trans (Grow.fail 0 x.2)).mono (by omega), ?_⟩
    rw [hd] at hdc
    refine ACall.of_body tt_ok Tryz.func181 rfl rfl (n := 166) rfl rfl ?_
    conv => whnf
    repeat' (first|refine aA2 ?_|((first|refine pC (hI0) wR ?_|refine pC (hI1) wR ?_|intro _);conv=>whnf)|(refine zX (fun hc=>?_) (fun hc=>?_)<;>(try simp only [SY] at hc)<;>first|omega|(conv=>whnf)))
    refine PCall.go hfc (WkT.refl _) ?_
    rintro _ _ ⟨rfl, rfl⟩
    rename_i b4
    conv => whnf
    repeat' (first|((first|refine PRow.oneDat ?_|refine aM ?_|refine aF ?_|intro _);conv=>whnf)|(refine zX (fun hc=>?_) (fun hc=>?_)<;>(try simp only [SY] at hc)<;>omega))
    rename_i b9 t3 ht3 hs3
    refine PLoop.gh (Ghost.trans (Ghost.nil 5 24 _) (Ghost.nil 5 24 _)) ?_
    refine PLoop.over [10, 11, 12, 13, 14, 15, 51, 52, 53, 54, 55, 56, 57, 58, 59, 60, 61, 62, 63, 64, 65, 66, 67, 68, 69, 70, 71, 72, 73, 74, 75, 76, 77, 78, 79, 80, 81, 82, 83, 84, 85, 86, 87, 88, 89, 90, 91, 92, 93, 94, 95, 96, 97, 98, 99, 100, 101, 102, 103, 104, 105, 106, 107, 108, 109, 110] (fun z : Nat × List (Datum × Datum × Datum) × List Datum × Tok × Tok × Tok => [(10, .sl 5 ((z.2.1.map fun p => p.1).map Datum.pv) (some z.2.2.2.1)), (11, .sl 5 ((z.2.1.map fun p => p.2.1).map Datum.pv) (some z.2.2.2.2.1)), (12, .ms z.2.2.2.2.2), (13, .int .i64 z.1)])
     (fun z : Nat × List (Datum × Datum × Datum) × List Datum × Tok × Tok × Tok => [.tok z.2.2.2.1, .tok z.2.2.2.2.1, .row z.2.2.2.2.2 (z.2.2.1.map Datum.pv), .box b9 (datC x.1), resE b4, mkE b x.2])
     (fun z => z.1 ≤ B.length ∧ z.2.1.length = z.1 ∧ z.2.2.1 = x.1 :: (z.2.1.map fun p => p.2.2) ∧ z.2.2.2.1.e = 24 ∧ z.2.2.2.2.1.e = 24 ∧ (z.2.2.2.2.2.e = 24 ∧ z.2.2.2.2.2.s = 5) ∧ stpF B = (stpF (B.drop z.1)).map (z.2.1 ++ ·)) (fun z => B.length - z.1)
     (0, [], [x.1], nilTok 5 24, nilTok 5 24, t3) ⟨Nat.zero_le _, rfl, rfl, rfl, rfl, ⟨ht3, hs3⟩, by simp⟩ wA ?_
    rintro ⟨i, acc, st, u1, u2, u3⟩ ⟨hi, hal, hst, hu1, hu2, ⟨hu3, hus⟩, he⟩
    dsimp only at hi hal hst hu1 hu2 hu3 hus he ⊢
    have hsl : st.length = i + 1 := by rw [hst, List.length_cons, List.length_map, hal]
    have hla : (acc.map fun p => p.1).length = i := by rw [List.length_map, hal]
    have hlb : (acc.map fun p => p.2.1).length = i := by rw [List.length_map, hal]
    have hlc : (acc.map fun p => p.2.2).length = i := by rw [List.length_map, hal]
    conv => whnf
    repeat' (first|refine aA2 ?_|((first|refine pC (items04_c _ (hB _ (List.getElem_mem _)).1 (hB _ (List.getElem_mem _)).2) wR ?_|intro _);conv=>whnf)|(refine zX (fun hc=>?_) (fun hc=>?_)<;>(try simp only [SY] at hc)<;>(conv=>whnf)))
    ·have hlt : i < B.length := by omega
     have hn : stpF (B.drop i) = none := by
      rw [drop_at hlt, stpF, if_neg]
      rintro ⟨h1, h2, h3⟩
      rcases hc with (h | h) | h
      ·rw [h1] at h; cases h
      ·omega
      ·omega
     rw [hn] at he
     rw [hS] at he
     cases he
    ·have hlt : i < B.length := by omega
     have hq := ‹(itemsB B[i] = true ∧ 2 ≤ (B[i].its.1.length : Int)) ∧ (B[i].its.1.length : Int) ≤ 3›
     have hst1 : stpF (B.drop i) = (stpF (B.drop (i + 1))).map ((B[i].its.1.getD 0 nulD, B[i].its.1.getD 1 nulD, nstp B[i].its.1) :: ·) := by
      rw [drop_at hlt, stpF, if_pos ⟨hq.1.1, by omega, by omega⟩]
      rfl
     have hp2 : B[i].its.1.length = 2 := by omega
     have hsl2 : (st ++ [B[i].its.1[B[i].its.1.length - 1]'(by omega)]).length = i + 2 := by rw [List.length_append, List.length_singleton, hsl]
     have hns : nstp B[i].its.1 = B[i].its.1[0]'(by omega) := by
      unfold nstp
      rw [if_pos hp2, datD_get (show 0 < B[i].its.1.length by omega)]
     refine PLenM.map fun _ => ?_
     conv => whnf
     repeat' (first|refine aA2 ?_|(refine zX (fun hc=>?_) (fun hc=>?_)<;>(try simp only [SY] at hc)<;>omega))
     have e1 : (acc.map fun p => p.1) ++ [B[i].its.1[0]'(by omega)] = (acc ++ [(B[i].its.1.getD 0 nulD, B[i].its.1.getD 1 nulD, nstp B[i].its.1)]).map fun p => p.1 := by rw [List.map_append, datD_get (show 0 < B[i].its.1.length by omega)]; rfl
     have e2 : (acc.map fun p => p.2.1) ++ [B[i].its.1[1]'(by omega)] = (acc ++ [(B[i].its.1.getD 0 nulD, B[i].its.1.getD 1 nulD, nstp B[i].its.1)]).map fun p => p.2.1 := by rw [List.map_append, datD_get (show 1 < B[i].its.1.length by omega)]; rfl
     have e3 : (st ++ [B[i].its.1[B[i].its.1.length - 1]'(by omega)]).set ((st ++ [B[i].its.1[B[i].its.1.length - 1]'(by omega)]).length - 1) (B[i].its.1[0]'(by omega)) = st ++ [nstp B[i].its.1] := by
      rw [hns, hsl2]
      exact set_last _ _ _ _ (by omega)
     rw [e1, e2, e3]
     rename_i z1 hz1 zl hzl y1 hy1 y2 y3 hy3 y4 y5 hy5 hs5 xx
     refine loopTo (i + 1, acc ++ [(B[i].its.1.getD 0 nulD, B[i].its.1.getD 1 nulD, nstp B[i].its.1)], st ++ [nstp B[i].its.1], z1, y1, y4) ⟨by show i + 1 ≤ _; omega, by simp; omega, by show st ++ _ = _; rw [hst, List.map_append]; rfl, hz1, hy1, ⟨y5, hy5⟩, ?_⟩ (by show B.length - (i + 1) < B.length - i; omega) wA
     rw [he, hst1]
     dsimp only
     cases stpF (B.drop (i + 1)) <;> simp
    ·have hlt : i < B.length := by omega
     have hq := ‹(itemsB B[i] = true ∧ 2 ≤ (B[i].its.1.length : Int)) ∧ (B[i].its.1.length : Int) ≤ 3›
     have hst1 : stpF (B.drop i) = (stpF (B.drop (i + 1))).map ((B[i].its.1.getD 0 nulD, B[i].its.1.getD 1 nulD, nstp B[i].its.1) :: ·) := by
      rw [drop_at hlt, stpF, if_pos ⟨hq.1.1, by omega, by omega⟩]
      rfl
     have hp3 : B[i].its.1.length = 3 := by omega
     have hns : nstp B[i].its.1 = B[i].its.1[B[i].its.1.length - 1]'(by omega) := by
      unfold nstp
      rw [if_neg (by omega), datD_get (show 2 < B[i].its.1.length by omega)]
      congr 1
      omega
     have e1 : (acc.map fun p => p.1) ++ [B[i].its.1[0]'(by omega)] = (acc ++ [(B[i].its.1.getD 0 nulD, B[i].its.1.getD 1 nulD, nstp B[i].its.1)]).map fun p => p.1 := by rw [List.map_append, datD_get (show 0 < B[i].its.1.length by omega)]; rfl
     have e2 : (acc.map fun p => p.2.1) ++ [B[i].its.1[1]'(by omega)] = (acc ++ [(B[i].its.1.getD 0 nulD, B[i].its.1.getD 1 nulD, nstp B[i].its.1)]).map fun p => p.2.1 := by rw [List.map_append, datD_get (show 1 < B[i].its.1.length by omega)]; rfl
     rw [e1, e2, ← hns]
     rename_i z1 hz1 zl hzl y1 hy1 y2 y3 hy3 y4 y5 hy5 hs5
     refine loopTo (i + 1, acc ++ [(B[i].its.1.getD 0 nulD, B[i].its.1.getD 1 nulD, nstp B[i].its.1)], st ++ [nstp B[i].its.1], z1, y1, y4) ⟨by show i + 1 ≤ _; omega, by simp; omega, by show st ++ _ = _; rw [hst, List.map_append]; rfl, hz1, hy1, ⟨y5, hy5⟩, ?_⟩ (by show B.length - (i + 1) < B.length - i; omega) wA
     rw [he, hst1]
     dsimp only
     cases stpF (B.drop (i + 1)) <;> simp
    ·rw [List.drop_of_length_le (by omega), stpF] at he
     have he' : stpF B = some acc := by rw [he]; simp
     obtain rfl : bs = acc := Option.some.inj (hS.symm.trans he')
     refine pC hdc (.cons (Wk.tok _ _ _) .nil) ?_
     conv => whnf
     repeat' ((refine zX (fun hc=>?_) (fun hc=>?_)<;>(try simp only [SY] at hc)<;>(conv=>whnf)))
     refine PCall.go (failM_c b x.2) (WkT.refl _) ?_
     rintro _ _ ⟨rfl, rfl⟩
     conv => whnf
     repeat' (first|refine aA2 ?_|(refine zX (fun hc=>?_) (fun hc=>?_)<;>(try simp only [SY] at hc)<;>omega))
     exact PRet.gen (y := .agg (failM x.2).1.cells) (Γ' := [mkE b (failM x.2).2]) (Wk.refl _) (And.intro rfl rfl)
   ·rw [if_neg (show ¬distB (bs.map Prod.fst) [] = false from hd), datD_get ht0] at hL
    have hd' : distB (bs.map fun p => p.1) [] = true := by simpa using hd
    rw [hd'] at hdc
    have hzt := szs_cons_drop ht0
    have hxt : ∀ y ∈ t, ExOk b ex y := fun y hy => hx y (hT y hy) (by have := Datum.szs_mem hy; omega)
    obtain ⟨g1, hc1⟩ := hxt _ (List.getElem_mem ht0) x.2 (by omega) (by omega)
    generalize ex (t[0]'ht0) x.2 = te at *
    have hxd : ∀ y ∈ t.drop 1, ExOk b ex y := fun y hy => hxt y (List.mem_of_mem_drop hy)
    have g2 : Grow (Datum.szs (t.drop 1)) te.2 (if t.length > 1 then begM ex (t.drop 1) te.2 else (voidD, te.2)).2 := by
     split
     ·exact begM_grow hxd te.2 (by unfold Grow at g1; omega) (by unfold Grow at g1; omega)
     ·exact Grow.refl _ _
    have hc2 := begin04_c b ex (t.drop 1) hxd (by rw [List.length_drop]; omega) te.2 (by unfold Grow at g1; omega) (by unfold Grow at g1; omega)
    generalize hfi : (if t.length > 1 then begM ex (t.drop 1) te.2 else (voidD, te.2)) = fi at *
    have hsz : (listD (x.1 :: bs.map fun p => p.2.2)).sz = bs.length + 3 + Datum.szs (bs.map fun p => p.2.2) := by rw [listD_szE, List.length_cons, List.length_map, Datum.szs, hfd.1]; omega
    have hld : (l.drop 2).length = l.length - 2 := List.length_drop
    have hxb : ∀ y ∈ l.drop 2 ++ [listD (x.1 :: bs.map fun p => p.2.2)], ExOk b ex y := fun y hy => by
     rcases List.mem_append.1 hy with hy | hy
     ·have h3 := Datum.szs_mem hy
      exact hx y (hp y (List.mem_of_mem_drop hy)) (by omega)
     ·rw [List.mem_singleton] at hy
      subst hy
      refine hx _ (listD_pr fun z hz => ?_) (by omega)
      rcases List.mem_cons.1 hz with rfl | hz
      ·exact hfd.2
      ·obtain ⟨p, hp', rfl⟩ := List.mem_map.1 hz
       exact (hpp p hp').2.2
    have hszb : Datum.szs (l.drop 2 ++ [listD (x.1 :: bs.map fun p => p.2.2)]) = Datum.szs (l.drop 2) + (bs.length + 3 + Datum.szs (bs.map fun p => p.2.2)) := by rw [Datum.szs_append, Datum.szs, Datum.szs, hsz]; omega
    have g3 := begM_grow hxb fi.2 (by unfold Grow at g1 g2; omega) (by unfold Grow at g1 g2; omega)
    have hc3 := begin04_c b ex _ hxb (by rw [List.length_append, List.length_singleton]; omega) fi.2 (by unfold Grow at g1 g2; omega) (by unfold Grow at g1 g2; omega)
    generalize begM ex (l.drop 2 ++ [listD (x.1 :: bs.map fun p => p.2.2)]) fi.2 = bo at *
    have hxv : ∀ y ∈ bs.map fun p => p.2.1, ExOk b ex y := fun y hy => by
     have h3 := Datum.szs_mem hy
     obtain ⟨p, hp', rfl⟩ := List.mem_map.1 hy
     exact hx _ (hpp p hp').2.1 (by omega)
    have g4 := allM_grow hxv bo.2 (by unfold Grow at g1 g2 g3; omega) (by unfold Grow at g1 g2 g3; omega)
    have hc4 := all04_c b ex _ hxv (by rw [List.length_map]; omega) bo.2 (by unfold Grow at g1 g2 g3; omega) (by unfold Grow at g1 g2 g3; omega)
    have hal4 := allM_len (ex := ex) (bs.map fun p => p.2.1) bo.2
    generalize allM ex (bs.map fun p => p.2.1) bo.2 = r at *
    rw [hL]
    refine ⟨((((hf.trans g1).trans g2).trans g3).trans g4).mono (by omega), ?_⟩
    refine ACall.of_body tt_ok Tryz.func181 rfl rfl (n := 166) rfl rfl ?_
    conv => whnf
    repeat' (first|refine aA2 ?_|((first|refine pC (hI0) wR ?_|refine pC (hI1) wR ?_|intro _);conv=>whnf)|(refine zX (fun hc=>?_) (fun hc=>?_)<;>(try simp only [SY] at hc)<;>first|omega|(conv=>whnf)))
    refine PCall.go hfc (WkT.refl _) ?_
    rintro _ _ ⟨rfl, rfl⟩
    rename_i b4
    conv => whnf
    repeat' (first|((first|refine PRow.oneDat ?_|refine aM ?_|refine aF ?_|intro _);conv=>whnf)|(refine zX (fun hc=>?_) (fun hc=>?_)<;>(try simp only [SY] at hc)<;>omega))
    rename_i b9 t3 ht3 hs3
    refine PLoop.gh (Ghost.trans (Ghost.nil 5 24 _) (Ghost.nil 5 24 _)) ?_
    refine PLoop.over [10, 11, 12, 13, 14, 15, 51, 52, 53, 54, 55, 56, 57, 58, 59, 60, 61, 62, 63, 64, 65, 66, 67, 68, 69, 70, 71, 72, 73, 74, 75, 76, 77, 78, 79, 80, 81, 82, 83, 84, 85, 86, 87, 88, 89, 90, 91, 92, 93, 94, 95, 96, 97, 98, 99, 100, 101, 102, 103, 104, 105, 106, 107, 108, 109, 110] (fun z : Nat × List (Datum × Datum × Datum) × List Datum × Tok × Tok × Tok => [(10, .sl 5 ((z.2.1.map fun p => p.1).map Datum.pv) (some z.2.2.2.1)), (11, .sl 5 ((z.2.1.map fun p => p.2.1).map Datum.pv) (some z.2.2.2.2.1)), (12, .ms z.2.2.2.2.2), (13, .int .i64 z.1)])
     (fun z : Nat × List (Datum × Datum × Datum) × List Datum × Tok × Tok × Tok => [.tok z.2.2.2.1, .tok z.2.2.2.2.1, .row z.2.2.2.2.2 (z.2.2.1.map Datum.pv), .box b9 (datC x.1), resE b4, mkE b x.2])
     (fun z => z.1 ≤ B.length ∧ z.2.1.length = z.1 ∧ z.2.2.1 = x.1 :: (z.2.1.map fun p => p.2.2) ∧ z.2.2.2.1.e = 24 ∧ z.2.2.2.2.1.e = 24 ∧ (z.2.2.2.2.2.e = 24 ∧ z.2.2.2.2.2.s = 5) ∧ stpF B = (stpF (B.drop z.1)).map (z.2.1 ++ ·)) (fun z => B.length - z.1)
     (0, [], [x.1], nilTok 5 24, nilTok 5 24, t3) ⟨Nat.zero_le _, rfl, rfl, rfl, rfl, ⟨ht3, hs3⟩, by simp⟩ wA ?_
    rintro ⟨i, acc, st, u1, u2, u3⟩ ⟨hi, hal, hst, hu1, hu2, ⟨hu3, hus⟩, he⟩
    dsimp only at hi hal hst hu1 hu2 hu3 hus he ⊢
    have hsl : st.length = i + 1 := by rw [hst, List.length_cons, List.length_map, hal]
    have hla : (acc.map fun p => p.1).length = i := by rw [List.length_map, hal]
    have hlb : (acc.map fun p => p.2.1).length = i := by rw [List.length_map, hal]
    have hlc : (acc.map fun p => p.2.2).length = i := by rw [List.length_map, hal]
    conv => whnf
    repeat' (first|refine aA2 ?_|((first|refine pC (items04_c _ (hB _ (List.getElem_mem _)).1 (hB _ (List.getElem_mem _)).2) wR ?_|intro _);conv=>whnf)|(refine zX (fun hc=>?_) (fun hc=>?_)<;>(try simp only [SY] at hc)<;>(conv=>whnf)))
    ·have hlt : i < B.length := by omega
     have hn : stpF (B.drop i) = none := by
      rw [drop_at hlt, stpF, if_neg]
      rintro ⟨h1, h2, h3⟩
      rcases hc with (h | h) | h
      ·rw [h1] at h; cases h
      ·omega
      ·omega
     rw [hn] at he
     rw [hS] at he
     cases he
    ·have hlt : i < B.length := by omega
     have hq := ‹(itemsB B[i] = true ∧ 2 ≤ (B[i].its.1.length : Int)) ∧ (B[i].its.1.length : Int) ≤ 3›
     have hst1 : stpF (B.drop i) = (stpF (B.drop (i + 1))).map ((B[i].its.1.getD 0 nulD, B[i].its.1.getD 1 nulD, nstp B[i].its.1) :: ·) := by
      rw [drop_at hlt, stpF, if_pos ⟨hq.1.1, by omega, by omega⟩]
      rfl
     have hp2 : B[i].its.1.length = 2 := by omega
     have hsl2 : (st ++ [B[i].its.1[B[i].its.1.length - 1]'(by omega)]).length = i + 2 := by rw [List.length_append, List.length_singleton, hsl]
     have hns : nstp B[i].its.1 = B[i].its.1[0]'(by omega) := by
      unfold nstp
      rw [if_pos hp2, datD_get (show 0 < B[i].its.1.length by omega)]
     refine PLenM.map fun _ => ?_
     conv => whnf
     repeat' (first|refine aA2 ?_|(refine zX (fun hc=>?_) (fun hc=>?_)<;>(try simp only [SY] at hc)<;>omega))
     have e1 : (acc.map fun p => p.1) ++ [B[i].its.1[0]'(by omega)] = (acc ++ [(B[i].its.1.getD 0 nulD, B[i].its.1.getD 1 nulD, nstp B[i].its.1)]).map fun p => p.1 := by rw [List.map_append, datD_get (show 0 < B[i].its.1.length by omega)]; rfl
     have e2 : (acc.map fun p => p.2.1) ++ [B[i].its.1[1]'(by omega)] = (acc ++ [(B[i].its.1.getD 0 nulD, B[i].its.1.getD 1 nulD, nstp B[i].its.1)]).map fun p => p.2.1 := by rw [List.map_append, datD_get (show 1 < B[i].its.1.length by omega)]; rfl
     have e3 : (st ++ [B[i].its.1[B[i].its.1.length - 1]'(by omega)]).set ((st ++ [B[i].its.1[B[i].its.1.length - 1]'(by omega)]).length - 1) (B[i].its.1[0]'(by omega)) = st ++ [nstp B[i].its.1] := by
      rw [hns, hsl2]
      exact set_last _ _ _ _ (by omega)
     rw [e1, e2, e3]
     rename_i z1 hz1 zl hzl y1 hy1 y2 y3 hy3 y4 y5 hy5 hs5 xx
     refine loopTo (i + 1, acc ++ [(B[i].its.1.getD 0 nulD, B[i].its.1.getD 1 nulD, nstp B[i].its.1)], st ++ [nstp B[i].its.1], z1, y1, y4) ⟨by show i + 1 ≤ _; omega, by simp; omega, by show st ++ _ = _; rw [hst, List.map_append]; rfl, hz1, hy1, ⟨y5, hy5⟩, ?_⟩ (by show B.length - (i + 1) < B.length - i; omega) wA
     rw [he, hst1]
     dsimp only
     cases stpF (B.drop (i + 1)) <;> simp
    ·have hlt : i < B.length := by omega
     have hq := ‹(itemsB B[i] = true ∧ 2 ≤ (B[i].its.1.length : Int)) ∧ (B[i].its.1.length : Int) ≤ 3›
     have hst1 : stpF (B.drop i) = (stpF (B.drop (i + 1))).map ((B[i].its.1.getD 0 nulD, B[i].its.1.getD 1 nulD, nstp B[i].its.1) :: ·) := by
      rw [drop_at hlt, stpF, if_pos ⟨hq.1.1, by omega, by omega⟩]
      rfl
     have hp3 : B[i].its.1.length = 3 := by omega
     have hns : nstp B[i].its.1 = B[i].its.1[B[i].its.1.length - 1]'(by omega) := by
      unfold nstp
      rw [if_neg (by omega), datD_get (show 2 < B[i].its.1.length by omega)]
      congr 1
      omega
     have e1 : (acc.map fun p => p.1) ++ [B[i].its.1[0]'(by omega)] = (acc ++ [(B[i].its.1.getD 0 nulD, B[i].its.1.getD 1 nulD, nstp B[i].its.1)]).map fun p => p.1 := by rw [List.map_append, datD_get (show 0 < B[i].its.1.length by omega)]; rfl
     have e2 : (acc.map fun p => p.2.1) ++ [B[i].its.1[1]'(by omega)] = (acc ++ [(B[i].its.1.getD 0 nulD, B[i].its.1.getD 1 nulD, nstp B[i].its.1)]).map fun p => p.2.1 := by rw [List.map_append, datD_get (show 1 < B[i].its.1.length by omega)]; rfl
     rw [e1, e2, ← hns]
     rename_i z1 hz1 zl hzl y1 hy1 y2 y3 hy3 y4 y5 hy5 hs5
     refine loopTo (i + 1, acc ++ [(B[i].its.1.getD 0 nulD, B[i].its.1.getD 1 nulD, nstp B[i].its.1)], st ++ [nstp B[i].its.1], z1, y1, y4) ⟨by show i + 1 ≤ _; omega, by simp; omega, by show st ++ _ = _; rw [hst, List.map_append]; rfl, hz1, hy1, ⟨y5, hy5⟩, ?_⟩ (by show B.length - (i + 1) < B.length - i; omega) wA
     rw [he, hst1]
     dsimp only
     cases stpF (B.drop (i + 1)) <;> simp
    ·rw [List.drop_of_length_le (by omega), stpF] at he
     have he' : stpF B = some acc := by rw [he]; simp
     obtain rfl : bs = acc := Option.some.inj (hS.symm.trans he')
     refine pC hdc (.cons (Wk.tok _ _ _) .nil) ?_
     conv => whnf
     repeat' (first|refine aA2 ?_|(refine zX (fun hc=>?_) (fun hc=>?_)<;>(try simp only [SY] at hc)<;>(conv=>whnf)))
     refine PCall.go hc1 (WkT.refl _) ?_
     rintro _ _ ⟨rfl, rfl⟩
     conv => whnf
     repeat' (first|refine aA2 ?_|((first|refine pC (void04_c) wR ?_|intro _);conv=>whnf)|(refine zX (fun hc=>?_) (fun hc=>?_)<;>(try simp only [SY] at hc)<;>(conv=>whnf)))
     all_goals subst hst
     ·rw [if_pos (by omega)] at hfi
      rw [hfi] at hc2
      refine PCall.go hc2 (WkT.refl _) ?_
      rintro _ _ ⟨rfl, rfl⟩
      conv => whnf
      repeat' (first|refine aA2 ?_|((intro _);conv=>whnf)|(refine zX (fun hc=>?_) (fun hc=>?_)<;>(try simp only [SY] at hc)<;>omega))
      refine PCall.pureFzD u3 _ (args' := [.sl 5 ((x.1 :: bs.map fun p => p.2.2).map Datum.pv) none]) (.cons (WkF.ms' hus) .nil) list04_c ?_
      conv => whnf
      repeat' (first|refine aA2 ?_|((intro _);conv=>whnf)|(refine zX (fun hc=>?_) (fun hc=>?_)<;>(try simp only [SY] at hc)<;>omega))
      refine PCall.go hc3 (.cons (Wk.refl _) (.cons (Wk.tok _ _ _) .nil)) ?_
      rintro _ _ ⟨rfl, rfl⟩
      conv => whnf
      repeat' (first|refine aA2 ?_|((first|((apply zZ);(conv=>whnf);(repeat ((first|refine pC (list04_c) wR ?_|refine pC (sym04_c _) wR ?_);conv=>whnf));exact pZ)|refine drExp04iaa ?_|intro _);conv=>whnf)|(refine zX (fun hc=>?_) (fun hc=>?_)<;>(try simp only [SY] at hc)<;>omega))
      refine PDraw.sW [mkE b bo.2] 10 13 [14] [15] [16] tt_ok mixed ?_
      conv => whnf
      repeat (first|refine aR2 ?_|((((apply zZ);(conv=>whnf);(repeat ((first|refine pC (list04_c) wR ?_|refine pC (sym04_c _) wR ?_);conv=>whnf));exact pZ));conv=>whnf))
      refine ⟨?_, ?_⟩
      ·conv => whnf
       repeat (first|refine aR2 ?_|((intro _);conv=>whnf))
       refine PCall.go hc4 (.cons (Wk.refl _) (.cons (Wk.tok _ _ _) .nil)) ?_
       rintro _ _ ⟨rfl, rfl⟩
       conv => whnf
       skip
       refine PAppend.litD (l := [listD [symD [108, 101, 116, 114, 101, 99], listD [listD [x.1, listD [symD [108, 97, 109, 98, 100, 97], listD (bs.map fun p => p.1), listD [symD [105, 102], te.1, fi.1, bo.1]]]], x.1]]) (by simp only [List.map_cons, List.map_nil, Datum.pv_eq] <;> rfl) (by assumption) rfl (by rw [List.length_singleton, hal4, List.length_map]; omega) ?_
       intro v9 hv9
       conv => whnf
       repeat' (first|refine aA2 ?_|((((apply zZ);(conv=>whnf);(repeat ((refine pC (list04_c) wR ?_);conv=>whnf));exact pZ));conv=>whnf)|(refine zX (fun hc=>?_) (fun hc=>?_)<;>(try simp only [SY] at hc)<;>omega))
       exact PRet.gen (y := .agg (listD (listD [symD [108, 101, 116, 114, 101, 99], listD [listD [x.1, listD [symD [108, 97, 109, 98, 100, 97], listD (bs.map fun p => p.1), listD [symD [105, 102], te.1, fi.1, bo.1]]]], x.1] :: r.1)).cells) (Γ' := [mkE b r.2]) (Wk.refl _) (And.intro rfl rfl)
      ·conv => whnf
       skip
       refine PCall.go hc4 (.cons (Wk.refl _) (.cons (Wk.tok _ _ _) .nil)) ?_
       rintro _ _ ⟨rfl, rfl⟩
       conv => whnf
       repeat' (first|refine aA2 ?_|((intro _);conv=>whnf)|(refine zX (fun hc=>?_) (fun hc=>?_)<;>(try simp only [SY] at hc)<;>omega))
       refine PAppend.litD (l := [listD [symD [108, 101, 116, 114, 101, 99], listD [listD [x.1, listD [symD [108, 97, 109, 98, 100, 97], listD (bs.map fun p => p.1), listD [symD [105, 102], te.1, fi.1, bo.1]]]], x.1]]) (by simp only [List.map_cons, List.map_nil, Datum.pv_eq] <;> rfl) (by assumption) rfl (by rw [List.length_singleton, hal4, List.length_map]; omega) ?_
       intro v9 hv9
       conv => whnf
       repeat' (first|refine aA2 ?_|((((apply zZ);(conv=>whnf);(repeat ((refine pC (list04_c) wR ?_);conv=>whnf));exact pZ));conv=>whnf)|(refine zX (fun hc=>?_) (fun hc=>?_)<;>(try simp only [SY] at hc)<;>omega))
       exact PRet.gen (y := .agg (listD (listD [symD [108, 101, 116, 114, 101, 99], listD [listD [x.1, listD [symD [108, 97, 109, 98, 100, 97], listD (bs.map fun p => p.1), listD [symD [105, 102], te.1, fi.1, bo.1]]]], x.1] :: r.1)).cells) (Γ' := [mkE b r.2]) (Wk.refl _) (And.intro rfl rfl)
     ·rw [if_neg (by omega)] at hfi
      subst hfi
      refine PCall.pureFzD u3 _ (args' := [.sl 5 ((x.1 :: bs.map fun p => p.2.2).map Datum.pv) none]) (.cons (WkF.ms' hus) .nil) list04_c ?_
      conv => whnf
      repeat' (first|refine aA2 ?_|((intro _);conv=>whnf)|(refine zX (fun hc=>?_) (fun hc=>?_)<;>(try simp only [SY] at hc)<;>omega))
      refine PCall.go hc3 (.cons (Wk.refl _) (.cons (Wk.tok _ _ _) .nil)) ?_
      rintro _ _ ⟨rfl, rfl⟩
      conv => whnf
      repeat' (first|refine aA2 ?_|((first|((apply zZ);(conv=>whnf);(repeat ((first|refine pC (list04_c) wR ?_|refine pC (sym04_c _) wR ?_);conv=>whnf));exact pZ)|refine drExp04iaa ?_|intro _);conv=>whnf)|(refine zX (fun hc=>?_) (fun hc=>?_)<;>(try simp only [SY] at hc)<;>omega))
      refine PDraw.sW [mkE b bo.2] 10 13 [14] [15] [16] tt_ok mixed ?_
      conv => whnf
      repeat (first|refine aR2 ?_|((((apply zZ);(conv=>whnf);(repeat ((first|refine pC (list04_c) wR ?_|refine pC (sym04_c _) wR ?_);conv=>whnf));exact pZ));conv=>whnf))
      refine ⟨?_, ?_⟩
      ·conv => whnf
       repeat (first|refine aR2 ?_|((intro _);conv=>whnf))
       refine PCall.go hc4 (.cons (Wk.refl _) (.cons (Wk.tok _ _ _) .nil)) ?_
       rintro _ _ ⟨rfl, rfl⟩
       conv => whnf
       skip
       refine PAppend.litD (l := [listD [symD [108, 101, 116, 114, 101, 99], listD [listD [x.1, listD [symD [108, 97, 109, 98, 100, 97], listD (bs.map fun p => p.1), listD [symD [105, 102], te.1, voidD, bo.1]]]], x.1]]) (by simp only [List.map_cons, List.map_nil, Datum.pv_eq] <;> rfl) (by assumption) rfl (by rw [List.length_singleton, hal4, List.length_map]; omega) ?_
       intro v9 hv9
       conv => whnf
       repeat' (first|refine aA2 ?_|((((apply zZ);(conv=>whnf);(repeat ((refine pC (list04_c) wR ?_);conv=>whnf));exact pZ));conv=>whnf)|(refine zX (fun hc=>?_) (fun hc=>?_)<;>(try simp only [SY] at hc)<;>omega))
       exact PRet.gen (y := .agg (listD (listD [symD [108, 101, 116, 114, 101, 99], listD [listD [x.1, listD [symD [108, 97, 109, 98, 100, 97], listD (bs.map fun p => p.1), listD [symD [105, 102], te.1, voidD, bo.1]]]], x.1] :: r.1)).cells) (Γ' := [mkE b r.2]) (Wk.refl _) (And.intro rfl rfl)
      ·conv => whnf
       skip
       refine PCall.go hc4 (.cons (Wk.refl _) (.cons (Wk.tok _ _ _) .nil)) ?_
       rintro _ _ ⟨rfl, rfl⟩
       conv => whnf
       repeat' (first|refine aA2 ?_|((intro _);conv=>whnf)|(refine zX (fun hc=>?_) (fun hc=>?_)<;>(try simp only [SY] at hc)<;>omega))
       refine PAppend.litD (l := [listD [symD [108, 101, 116, 114, 101, 99], listD [listD [x.1, listD [symD [108, 97, 109, 98, 100, 97], listD (bs.map fun p => p.1), listD [symD [105, 102], te.1, voidD, bo.1]]]], x.1]]) (by simp only [List.map_cons, List.map_nil, Datum.pv_eq] <;> rfl) (by assumption) rfl (by rw [List.length_singleton, hal4, List.length_map]; omega) ?_
       intro v9 hv9
       conv => whnf
       repeat' (first|refine aA2 ?_|((((apply zZ);(conv=>whnf);(repeat ((refine pC (list04_c) wR ?_);conv=>whnf));exact pZ));conv=>whnf)|(refine zX (fun hc=>?_) (fun hc=>?_)<;>(try simp only [SY] at hc)<;>omega))
       exact PRet.gen (y := .agg (listD (listD [symD [108, 101, 116, 114, 101, 99], listD [listD [x.1, listD [symD [108, 97, 109, 98, 100, 97], listD (bs.map fun p => p.1), listD [symD [105, 102], te.1, voidD, bo.1]]]], x.1] :: r.1)).cells) (Γ' := [mkE b r.2]) (Wk.refl _) (And.intro rfl rfl)
end Go.Cb
namespace Go.Cb
open Go.Proofs
set_option maxRecDepth 100000
set_option maxHeartbeats 40000000
theorem szs_two_drop {l : List Datum} (h : 2 ≤ l.length) : Datum.szs (l.drop 2) + l[0].sz + l[1].sz = Datum.szs l := by
 match l, h with
 | x :: y :: l, _ => simp [Datum.szs]; omega
theorem drExp04jaa {p q : Prop} (k : q) (h : q → p := by intro hq; first | exact PDraw.sP (some 63) rfl [] [6,7] tt_ok mixed hq | exact PDraw.sP (some 101) rfl [] [7,8] tt_ok mixed hq | exact PDraw.sP (some 143) rfl [] [6,7] tt_ok mixed hq) : p := h k
theorem form04_c (b : Nat) (ex : Datum → MkS → MkR) (bd : List Datum → MkS → MkR) (key : List UInt8) (l : List Datum) (M : Nat) (hM : M ≤ 1000000000) (hx : ∀ x : Datum, x.pr = true → x.sz ≤ M → ExOk b ex x) (hbd : ∀ k, 1 ≤ k → BdOk b bd (l.drop k)) (hp : ∀ x ∈ l, x.pr = true) (hls : Datum.szs l + l.length + 1 ≤ M) (s : MkS) (h0 : 0 ≤ s.n) (h1 : s.n + Datum.szs l + l.length + 1 ≤ 1000000000000) :
  ACall Tryz.prog 148 [.ptr b 0, .str key, .sl 5 (l.map Datum.pv) none] [mkE b s] (fun y Γ' => y = .agg (frmM ex bd key l s).1.cells ∧ Γ' = [mkE b (frmM ex bd key l s).2]) := by
 have hL : frmM ex bd key l s = frmM ex bd key l s := rfl
 conv at hL => rhs; unfold frmM; dsimp only
 unfold kwQuote kwIf kwLambda kwSet kwBegin kwLetrec kwLetrecS kwLet kwLetS kwAnd kwOr kwWhen kwUnless kwCond kwCase kwDo at hL
 have hlen := Datum.szs_len l
 have hxl : ∀ x ∈ l, ExOk b ex x := fun x h => hx x (hp x h) (by have := Datum.szs_mem h; omega)
 refine ACall.of_body tt_ok Tryz.func148 rfl rfl (n := 159) rfl rfl ?_
 conv => whnf
 repeat' (first|refine aA2 ?_|((first|(((apply zY;intro hg));(conv=>whnf);(repeat ((first|refine pC (varD_c _) wR ?_|refine aH ?_);conv=>whnf));exact pZ)|refine pC (quoted04_c) wR ?_|refine drExp04jaa ?_|intro _);conv=>whnf)|(refine zX (fun hc=>?_) (fun hc=>?_)<;>(try simp only [SY] at hc)<;>(conv=>whnf)))
 all_goals try contradiction
 all_goals repeat (first|rw [if_neg (by assumption)] at hL|rw [if_pos (by assumption)] at hL|rw [if_neg (by omega)] at hL|rw [if_pos (by omega)] at hL|rw [if_pos (Or.inl (by assumption))] at hL|rw [if_pos (Or.inr (by assumption))] at hL|rw [if_neg (not_or.2 ⟨by assumption, by assumption⟩)] at hL)
 ·rw [datD_get (show 0 < l.length by omega)] at hL
  rw [hL]
  exact PRet.gen (y := .agg (quotD (l[0]'(by omega))).cells) (Γ' := [mkE b s]) (Wk.refl _) (And.intro rfl rfl)
 ·rw [hL]
  refine PCall.go (failM_c b s) (WkT.refl _) ?_
  rintro _ _ ⟨rfl, rfl⟩
  conv => whnf
  repeat' (first|refine aA2 ?_|(refine zX (fun hc=>?_) (fun hc=>?_)<;>(try simp only [SY] at hc)<;>omega))
  exact PRet.gen (y := .agg (failM s).1.cells) (Γ' := [mkE b (failM s).2]) (Wk.refl _) (And.intro rfl rfl)
 ·rw [datD_get (show 0 < l.length by omega), datD_get (show 1 < l.length by omega)] at hL
  have hm0 : l[0]'(by omega) ∈ l := List.getElem_mem _
  have hm1 : l[1]'(by omega) ∈ l := List.getElem_mem _
  have e2 : Datum.szs (l.drop 2) + (l[0]'(by omega)).sz + (l[1]'(by omega)).sz = Datum.szs l := szs_two_drop (by omega)
  obtain ⟨g1, hc1⟩ := hxl _ hm0 s h0 (by omega)
  generalize ex (l[0]'(by omega)) s = a1 at *
  obtain ⟨g2, hc2⟩ := hxl _ hm1 a1.2 (by unfold Grow at g1; omega) (by unfold Grow at g1; omega)
  generalize ex (l[1]'(by omega)) a1.2 = a2 at *
  rw [hL]
  refine PDraw.sE [mkE b s] [5] [10,11,12,13,14] tt_ok mixed ?_
  conv=>whnf
  repeat (first|refine aR2 ?_|((((apply zZ);(conv=>whnf);(repeat ((refine pC (sym04_c _) wR ?_);conv=>whnf));exact pZ));conv=>whnf))
  refine PCall.go hc1 (WkT.refl _) ?_
  rintro _ _ ⟨rfl, rfl⟩
  conv => whnf
  skip
  refine PCall.go hc2 (WkT.refl _) ?_
  rintro _ _ ⟨rfl, rfl⟩
  conv => whnf
  repeat' (first|refine aA2 ?_|((first|refine pC (list04_c) wR ?_|refine pC (void04_c) wR ?_|intro _);conv=>whnf)|(refine zX (fun hc=>?_) (fun hc=>?_)<;>(try simp only [SY] at hc)<;>omega))
  exact PRet.gen (y := .agg (listD [symD kwIf, a1.1, a2.1, voidD]).cells) (Γ' := [mkE b a2.2]) (Wk.refl _) (And.intro rfl rfl)
 ·rw [datD_get (show 0 < l.length by omega), datD_get (show 1 < l.length by omega), datD_get (show 2 < l.length by omega)] at hL
  have hm0 : l[0]'(by omega) ∈ l := List.getElem_mem _
  have hm1 : l[1]'(by omega) ∈ l := List.getElem_mem _
  have e2 : Datum.szs (l.drop 2) + (l[0]'(by omega)).sz + (l[1]'(by omega)).sz = Datum.szs l := szs_two_drop (by omega)
  have hm2 : l[2]'(by omega) ∈ l := List.getElem_mem _
  have e3 : (l[2]'(by omega)).sz ≤ Datum.szs (l.drop 2) := Datum.szs_mem (by rw [List.mem_drop_iff_getElem]; exact ⟨0, by omega, rfl⟩)
  obtain ⟨g1, hc1⟩ := hxl _ hm0 s h0 (by omega)
  generalize ex (l[0]'(by omega)) s = a1 at *
  obtain ⟨g2, hc2⟩ := hxl _ hm1 a1.2 (by unfold Grow at g1; omega) (by unfold Grow at g1; omega)
  generalize ex (l[1]'(by omega)) a1.2 = a2 at *
  obtain ⟨g3, hc3⟩ := hxl _ hm2 a2.2 (by unfold Grow at g1 g2; omega) (by unfold Grow at g1 g2; omega)
  generalize ex (l[2]'(by omega)) a2.2 = a3 at *
  rw [hL]
  refine PDraw.sE [mkE b s] [5,10] [15,16,17,18] tt_ok mixed ?_
  conv=>whnf
  repeat (first|refine aR2 ?_|((((apply zZ);(conv=>whnf);(repeat ((refine pC (sym04_c _) wR ?_);conv=>whnf));exact pZ));conv=>whnf))
  refine PCall.go hc1 (WkT.refl _) ?_
  rintro _ _ ⟨rfl, rfl⟩
  conv => whnf
  skip
  refine PCall.go hc2 (WkT.refl _) ?_
  rintro _ _ ⟨rfl, rfl⟩
  conv => whnf
  skip
  refine PCall.go hc3 (WkT.refl _) ?_
  rintro _ _ ⟨rfl, rfl⟩
  conv => whnf
  repeat' (first|refine aA2 ?_|((first|refine pC (list04_c) wR ?_|intro _);conv=>whnf)|(refine zX (fun hc=>?_) (fun hc=>?_)<;>(try simp only [SY] at hc)<;>omega))
  exact PRet.gen (y := .agg (listD [symD kwIf, a1.1, a2.1, a3.1]).cells) (Γ' := [mkE b a3.2]) (Wk.refl _) (And.intro rfl rfl)
 ·rw [hL]
  refine PCall.go (failM_c b s) (WkT.refl _) ?_
  rintro _ _ ⟨rfl, rfl⟩
  conv => whnf
  repeat' (first|refine aA2 ?_|(refine zX (fun hc=>?_) (fun hc=>?_)<;>(try simp only [SY] at hc)<;>omega))
  exact PRet.gen (y := .agg (failM s).1.cells) (Γ' := [mkE b (failM s).2]) (Wk.refl _) (And.intro rfl rfl)
 ·rw [datD_get (show 0 < l.length by omega)] at hL
  have hm0 : l[0]'(by omega) ∈ l := List.getElem_mem _
  have hz0 := Datum.szs_mem hm0
  have hzd := szs_cons_drop (show 0 < l.length by omega)
  rw [hL]
  refine PCall.go (lambda04_c b bd (l[0]'(by omega)) (l.drop 1) (hp _ hm0) (by omega) (hbd 1 (Nat.le_refl _)) s h0 (by omega)) (WkT.refl _) ?_
  rintro _ _ ⟨rfl, rfl⟩
  generalize lamM bd (l[0]'(by omega)) (l.drop 1) s = r at *
  conv => whnf
  repeat' (first|refine aA2 ?_|(refine zX (fun hc=>?_) (fun hc=>?_)<;>(try simp only [SY] at hc)<;>omega))
  exact PRet.gen (y := .agg r.1.cells) (Γ' := [mkE b r.2]) (Wk.refl _) (And.intro rfl rfl)
 ·rw [hL]
  refine PCall.go (failM_c b s) (WkT.refl _) ?_
  rintro _ _ ⟨rfl, rfl⟩
  conv => whnf
  repeat' (first|refine aA2 ?_|(refine zX (fun hc=>?_) (fun hc=>?_)<;>(try simp only [SY] at hc)<;>omega))
  exact PRet.gen (y := .agg (failM s).1.cells) (Γ' := [mkE b (failM s).2]) (Wk.refl _) (And.intro rfl rfl)
 ·rw [if_pos ⟨by omega, by rw [datD_get (show 0 < l.length by omega)]; have h2 := hc.2; rwa [show l.getD 0 (Dfl.d : Datum) = l[0]'(by omega) by simp [List.getD, show 0 < l.length by omega]] at h2⟩] at hL
  rw [datD_get (show 0 < l.length by omega), datD_get (show 1 < l.length by omega)] at hL
  have hm1 : l[1]'(by omega) ∈ l := List.getElem_mem _
  have hz1 := Datum.szs_mem hm1
  obtain ⟨g1, hc1⟩ := hxl _ hm1 s h0 (by omega)
  generalize ex (l[1]'(by omega)) s = a1 at *
  rw [hL]
  refine PDraw.sE [mkE b s] [8] [9,10,11] tt_ok mixed ?_
  conv=>whnf
  repeat (first|refine aR2 ?_|((((apply zZ);(conv=>whnf);(repeat ((refine pC (sym04_c _) wR ?_);conv=>whnf));exact pZ));conv=>whnf))
  refine PCall.go hc1 (WkT.refl _) ?_
  rintro _ _ ⟨rfl, rfl⟩
  conv => whnf
  repeat' (first|refine aA2 ?_|((first|refine pC (list04_c) wR ?_|intro _);conv=>whnf)|(refine zX (fun hc=>?_) (fun hc=>?_)<;>(try simp only [SY] at hc)<;>omega))
  exact PRet.gen (y := .agg (listD [symD kwSet, l[0]'(by omega), a1.1]).cells) (Γ' := [mkE b a1.2]) (Wk.refl _) (And.intro rfl rfl)
 ·rw [if_neg (fun ⟨h1, h2⟩ => by
   rw [datD_get (show 0 < l.length by omega)] at h2
   rcases hc with h | h
   ·omega
   ·rw [show l.getD 0 (Dfl.d : Datum) = l[0]'(by omega) by simp [List.getD, show 0 < l.length by omega], h2] at h; cases h)] at hL
  rw [hL]
  refine PCall.go (failM_c b s) (WkT.refl _) ?_
  rintro _ _ ⟨rfl, rfl⟩
  conv => whnf
  repeat' (first|refine aA2 ?_|(refine zX (fun hc=>?_) (fun hc=>?_)<;>(try simp only [SY] at hc)<;>omega))
  exact PRet.gen (y := .agg (failM s).1.cells) (Γ' := [mkE b (failM s).2]) (Wk.refl _) (And.intro rfl rfl)
 ·rw [hL]
  refine PCall.go (begin04_c b ex l hxl (by omega) s h0 (by omega)) (WkT.refl _) ?_
  rintro _ _ ⟨rfl, rfl⟩
  generalize begM ex l s = r at *
  conv => whnf
  repeat' (first|refine aA2 ?_|(refine zX (fun hc=>?_) (fun hc=>?_)<;>(try simp only [SY] at hc)<;>omega))
  exact PRet.gen (y := .agg r.1.cells) (Γ' := [mkE b r.2]) (Wk.refl _) (And.intro rfl rfl)
 ·rw [datD_get (show 0 < l.length by omega)] at hL
  have hm0 : l[0]'(by omega) ∈ l := List.getElem_mem _
  have hz0 := Datum.szs_mem hm0
  have hzd := szs_cons_drop (show 0 < l.length by omega)
  rw [hL]
  refine PCall.go ((rec04_c b ex bd key (l[0]'(by omega)) (l.drop 1) (hp _ hm0) (by omega) (fun x h2 h3 => hx x h2 (by omega)) (hbd 1 (Nat.le_refl _)) s h0 (by omega)).2) (WkT.refl _) ?_
  rintro _ _ ⟨rfl, rfl⟩
  generalize recM ex bd key (l[0]'(by omega)) (l.drop 1) s = r at *
  conv => whnf
  repeat' (first|refine aA2 ?_|(refine zX (fun hc=>?_) (fun hc=>?_)<;>(try simp only [SY] at hc)<;>omega))
  exact PRet.gen (y := .agg r.1.cells) (Γ' := [mkE b r.2]) (Wk.refl _) (And.intro rfl rfl)
 ·rw [hL]
  refine PCall.go (failM_c b s) (WkT.refl _) ?_
  rintro _ _ ⟨rfl, rfl⟩
  conv => whnf
  repeat' (first|refine aA2 ?_|(refine zX (fun hc=>?_) (fun hc=>?_)<;>(try simp only [SY] at hc)<;>omega))
  exact PRet.gen (y := .agg (failM s).1.cells) (Γ' := [mkE b (failM s).2]) (Wk.refl _) (And.intro rfl rfl)
 ·rw [datD_get (show 0 < l.length by omega)] at hL
  have hm0 : l[0]'(by omega) ∈ l := List.getElem_mem _
  have hz0 := Datum.szs_mem hm0
  have hzd := szs_cons_drop (show 0 < l.length by omega)
  rw [hL]
  refine PCall.go ((rec04_c b ex bd key (l[0]'(by omega)) (l.drop 1) (hp _ hm0) (by omega) (fun x h2 h3 => hx x h2 (by omega)) (hbd 1 (Nat.le_refl _)) s h0 (by omega)).2) (WkT.refl _) ?_
  rintro _ _ ⟨rfl, rfl⟩
  generalize recM ex bd key (l[0]'(by omega)) (l.drop 1) s = r at *
  conv => whnf
  repeat' (first|refine aA2 ?_|(refine zX (fun hc=>?_) (fun hc=>?_)<;>(try simp only [SY] at hc)<;>omega))
  exact PRet.gen (y := .agg r.1.cells) (Γ' := [mkE b r.2]) (Wk.refl _) (And.intro rfl rfl)
 ·rw [hL]
  refine PCall.go (failM_c b s) (WkT.refl _) ?_
  rintro _ _ ⟨rfl, rfl⟩
  conv => whnf
  repeat' (first|refine aA2 ?_|(refine zX (fun hc=>?_) (fun hc=>?_)<;>(try simp only [SY] at hc)<;>omega))
  exact PRet.gen (y := .agg (failM s).1.cells) (Γ' := [mkE b (failM s).2]) (Wk.refl _) (And.intro rfl rfl)
 ·rw [hL]
  refine PCall.go ((let04_c b ex bd key l (by omega) hp (by omega) (fun x h2 h3 => hx x h2 (by omega)) hbd s h0 (by omega)).2) (WkT.refl _) ?_
  rintro _ _ ⟨rfl, rfl⟩
  generalize letM ex bd key l s = r at *
  conv => whnf
  repeat' (first|refine aA2 ?_|(refine zX (fun hc=>?_) (fun hc=>?_)<;>(try simp only [SY] at hc)<;>omega))
  exact PRet.gen (y := .agg r.1.cells) (Γ' := [mkE b r.2]) (Wk.refl _) (And.intro rfl rfl)
 ·rw [hL]
  refine PCall.go (failM_c b s) (WkT.refl _) ?_
  rintro _ _ ⟨rfl, rfl⟩
  conv => whnf
  repeat' (first|refine aA2 ?_|(refine zX (fun hc=>?_) (fun hc=>?_)<;>(try simp only [SY] at hc)<;>omega))
  exact PRet.gen (y := .agg (failM s).1.cells) (Γ' := [mkE b (failM s).2]) (Wk.refl _) (And.intro rfl rfl)
 ·rw [hL]
  refine PCall.go ((let04_c b ex bd key l (by omega) hp (by omega) (fun x h2 h3 => hx x h2 (by omega)) hbd s h0 (by omega)).2) (WkT.refl _) ?_
  rintro _ _ ⟨rfl, rfl⟩
  generalize letM ex bd key l s = r at *
  conv => whnf
  repeat' (first|refine aA2 ?_|(refine zX (fun hc=>?_) (fun hc=>?_)<;>(try simp only [SY] at hc)<;>omega))
  exact PRet.gen (y := .agg r.1.cells) (Γ' := [mkE b r.2]) (Wk.refl _) (And.intro rfl rfl)
 ·rw [hL]
  refine PCall.go (failM_c b s) (WkT.refl _) ?_
  rintro _ _ ⟨rfl, rfl⟩
  conv => whnf
  repeat' (first|refine aA2 ?_|(refine zX (fun hc=>?_) (fun hc=>?_)<;>(try simp only [SY] at hc)<;>omega))
  exact PRet.gen (y := .agg (failM s).1.cells) (Γ' := [mkE b (failM s).2]) (Wk.refl _) (And.intro rfl rfl)
 ·rw [hL]
  obtain rfl : key = kwAnd := by assumption
  refine PCall.go ((and04_c b ex l.length (by omega) l (Nat.le_refl _) hxl s h0 (by omega)).2) (WkT.refl _) ?_
  rintro _ _ ⟨rfl, rfl⟩
  generalize andM ex l s = r at *
  conv => whnf
  repeat' (first|refine aA2 ?_|(refine zX (fun hc=>?_) (fun hc=>?_)<;>(try simp only [SY] at hc)<;>omega))
  exact PRet.gen (y := .agg r.1.cells) (Γ' := [mkE b r.2]) (Wk.refl _) (And.intro rfl rfl)
 ·rw [hL]
  obtain rfl : key = kwOr := by assumption
  refine PCall.go ((or04_c b ex l.length (by omega) l (Nat.le_refl _) hxl s h0 (by omega)).2) (WkT.refl _) ?_
  rintro _ _ ⟨rfl, rfl⟩
  generalize orM ex l s = r at *
  conv => whnf
  repeat' (first|refine aA2 ?_|(refine zX (fun hc=>?_) (fun hc=>?_)<;>(try simp only [SY] at hc)<;>omega))
  exact PRet.gen (y := .agg r.1.cells) (Γ' := [mkE b r.2]) (Wk.refl _) (And.intro rfl rfl)
 ·rw [hL]
  refine PCall.go ((when04_c b ex key (.inl (by assumption)) l hxl (by omega) s h0 (by omega)).2) (WkT.refl _) ?_
  rintro _ _ ⟨rfl, rfl⟩
  generalize whnM ex key l s = r at *
  conv => whnf
  repeat' (first|refine aA2 ?_|(refine zX (fun hc=>?_) (fun hc=>?_)<;>(try simp only [SY] at hc)<;>omega))
  exact PRet.gen (y := .agg r.1.cells) (Γ' := [mkE b r.2]) (Wk.refl _) (And.intro rfl rfl)
 ·rw [hL]
  refine PCall.go ((when04_c b ex key (.inr (by assumption)) l hxl (by omega) s h0 (by omega)).2) (WkT.refl _) ?_
  rintro _ _ ⟨rfl, rfl⟩
  generalize whnM ex key l s = r at *
  conv => whnf
  repeat' (first|refine aA2 ?_|(refine zX (fun hc=>?_) (fun hc=>?_)<;>(try simp only [SY] at hc)<;>omega))
  exact PRet.gen (y := .agg r.1.cells) (Γ' := [mkE b r.2]) (Wk.refl _) (And.intro rfl rfl)
 ·rw [hL]
  refine PCall.go (cond04_c b ex M hM hx l.length (by omega) l (Nat.le_refl _) (fun x h => ⟨hp x h, by have := Datum.szs_mem h; omega⟩) s h0 (by omega)) (WkT.refl _) ?_
  rintro _ _ ⟨rfl, rfl⟩
  generalize cndM ex l s = r at *
  conv => whnf
  repeat' (first|refine aA2 ?_|(refine zX (fun hc=>?_) (fun hc=>?_)<;>(try simp only [SY] at hc)<;>omega))
  exact PRet.gen (y := .agg r.1.cells) (Γ' := [mkE b r.2]) (Wk.refl _) (And.intro rfl rfl)
 ·rw [datD_get (show 0 < l.length by omega)] at hL
  have hm0 : l[0]'(by omega) ∈ l := List.getElem_mem _
  have hz0 := Datum.szs_mem hm0
  have hzd := szs_cons_drop (show 0 < l.length by omega)
  have hdl : (l.drop 1).length = l.length - 1 := List.length_drop
  have hf : Grow 1 s (frsM s).2 := Grow.frs 0 s
  have hfn : (frsM s).2.n = s.n + 1 := rfl
  have hfc := fresh04_c b s h0 (by omega)
  generalize frsM s = x at *
  have hpd : ∀ y ∈ l.drop 1, y.pr = true ∧ y.sz ≤ M := fun y h => ⟨hp y (List.mem_of_mem_drop h), by have := Datum.szs_mem (List.mem_of_mem_drop h); omega⟩
  have g2 := choM_grow b ex x.1 M hx (l.drop 1).length (l.drop 1) (Nat.le_refl _) hpd x.2 (by omega) (by omega)
  have hc2 := choice04_c b ex x.1 M hM hx (l.drop 1).length (by omega) (l.drop 1) (Nat.le_refl _) hpd x.2 (by omega) (by omega)
  generalize choM ex x.1 (l.drop 1) x.2 = r at *
  have hbc := bound04_c b ex x.1 r.1 (l[0]'(by omega)) (hxl _ hm0) r.2 (by unfold Grow at g2; omega) (by unfold Grow at g2; omega)
  generalize bndM ex x.1 r.1 (l[0]'(by omega)) r.2 = q at *
  rw [hL]
  refine PCall.go hfc (WkT.refl _) ?_
  rintro _ _ ⟨rfl, rfl⟩
  conv => whnf
  repeat' (first|refine aA2 ?_|((intro _);conv=>whnf)|(refine zX (fun hc=>?_) (fun hc=>?_)<;>(try simp only [SY] at hc)<;>omega))
  refine PDraw.sF (some 138) rfl [mkE b x.2] [4] [] [5] [6] tt_ok mixed ?_
  conv=>whnf
  repeat (refine aR2 ?_)
  refine PCall.go hc2 (WkT.refl _) ?_
  rintro _ _ ⟨rfl, rfl⟩
  conv => whnf
  repeat' (first|refine aA2 ?_|((first|refine drExp04jaa ?_|intro _);conv=>whnf)|(refine zX (fun hc=>?_) (fun hc=>?_)<;>(try simp only [SY] at hc)<;>omega))
  refine PCall.go hbc (WkT.refl _) ?_
  rintro _ _ ⟨rfl, rfl⟩
  conv => whnf
  repeat' (first|refine aA2 ?_|(refine zX (fun hc=>?_) (fun hc=>?_)<;>(try simp only [SY] at hc)<;>omega))
  exact PRet.gen (y := .agg q.1.cells) (Γ' := [mkE b q.2]) (Wk.refl _) (And.intro rfl rfl)
 ·rw [hL]
  refine PCall.go (failM_c b s) (WkT.refl _) ?_
  rintro _ _ ⟨rfl, rfl⟩
  conv => whnf
  repeat' (first|refine aA2 ?_|(refine zX (fun hc=>?_) (fun hc=>?_)<;>(try simp only [SY] at hc)<;>omega))
  exact PRet.gen (y := .agg (failM s).1.cells) (Γ' := [mkE b (failM s).2]) (Wk.refl _) (And.intro rfl rfl)
 ·rw [hL]
  refine PCall.go ((loop04_c b ex l M hM hx (by omega) hp (by omega) s h0 (by omega)).2) (WkT.refl _) ?_
  rintro _ _ ⟨rfl, rfl⟩
  generalize lopM ex l s = r at *
  conv => whnf
  repeat' (first|refine aA2 ?_|(refine zX (fun hc=>?_) (fun hc=>?_)<;>(try simp only [SY] at hc)<;>omega))
  exact PRet.gen (y := .agg r.1.cells) (Γ' := [mkE b r.2]) (Wk.refl _) (And.intro rfl rfl)
 ·rw [hL]
  refine PCall.go (failM_c b s) (WkT.refl _) ?_
  rintro _ _ ⟨rfl, rfl⟩
  conv => whnf
  repeat' (first|refine aA2 ?_|(refine zX (fun hc=>?_) (fun hc=>?_)<;>(try simp only [SY] at hc)<;>omega))
  exact PRet.gen (y := .agg (failM s).1.cells) (Γ' := [mkE b (failM s).2]) (Wk.refl _) (And.intro rfl rfl)
 ·rw [hL]
  refine PCall.go (failM_c b s) (WkT.refl _) ?_
  rintro _ _ ⟨rfl, rfl⟩
  conv => whnf
  repeat' (first|refine aA2 ?_|(refine zX (fun hc=>?_) (fun hc=>?_)<;>(try simp only [SY] at hc)<;>omega))
  exact PRet.gen (y := .agg (failM s).1.cells) (Γ' := [mkE b (failM s).2]) (Wk.refl _) (And.intro rfl rfl)
end Go.Cb
namespace Go.Cb
open Go.Proofs
set_option maxRecDepth 100000
set_option maxHeartbeats 4000000
theorem frmM_grow (b : Nat) (ex : Datum → MkS → MkR) (bd : List Datum → MkS → MkR) (key : List UInt8) (l : List Datum) (M : Nat) (hM : M ≤ 1000000000) (hx : ∀ x : Datum, x.pr = true → x.sz ≤ M → ExOk b ex x) (hbd : ∀ k, 1 ≤ k → BdOk b bd (l.drop k)) (hp : ∀ x ∈ l, x.pr = true) (hls : Datum.szs l + l.length + 1 ≤ M) (s : MkS) (h0 : 0 ≤ s.n) (h1 : s.n + Datum.szs l + l.length + 1 ≤ 1000000000000) :
  Grow (Datum.szs l + l.length + 1) s (frmM ex bd key l s).2 := by
 have hlen := Datum.szs_len l
 have hxl : ∀ x ∈ l, ExOk b ex x := fun x h => hx x (hp x h) (by have := Datum.szs_mem h; omega)
 have hx0 : ∀ i, i < l.length → ∀ s : MkS, 0 ≤ s.n → s.n + Datum.szs l ≤ 1000000000000 → Grow (l.getD i nulD).sz s (ex (l.getD i nulD) s).2 := fun i hi s h0 h1 => (hxl _ (datD_mem hi) s h0 (by have := szs_getD hi; omega)).1
 unfold frmM
 dsimp only
 by_cases hk1 : key = kwQuote
 ·rw [if_pos hk1]
  split
  ·exact Grow.refl _ s
  ·exact Grow.fail _ s
 rw [if_neg hk1]
 by_cases hk2 : key = kwIf
 ·rw [if_pos hk2]
  split
  ·rename_i h2
   have e := szs_two_drop (l := l) (by omega)
   rw [← datD_get (show 0 < l.length by omega), ← datD_get (show 1 < l.length by omega)] at e
   have g1 := hx0 0 (by omega) s h0 (by omega)
   have g2 := (hxl _ (datD_mem (i := 1) (by omega)) (ex (l.getD 0 nulD) s).2 (by unfold Grow at g1; omega) (by unfold Grow at g1; omega)).1
   exact (g1.trans g2).mono (by omega)
  ·split
   ·rename_i h3
    have e := szs_two_drop (l := l) (by omega)
    have e3 : (l[2]'(by omega)).sz ≤ Datum.szs (l.drop 2) := Datum.szs_mem (by rw [List.mem_drop_iff_getElem]; exact ⟨0, by omega, rfl⟩)
    rw [← datD_get (show 0 < l.length by omega), ← datD_get (show 1 < l.length by omega)] at e
    rw [← datD_get (show 2 < l.length by omega)] at e3
    have g1 := hx0 0 (by omega) s h0 (by omega)
    have g2 := (hxl _ (datD_mem (i := 1) (by omega)) (ex (l.getD 0 nulD) s).2 (by unfold Grow at g1; omega) (by unfold Grow at g1; omega)).1
    have g3 := (hxl _ (datD_mem (i := 2) (by omega)) (ex (l.getD 1 nulD) (ex (l.getD 0 nulD) s).2).2 (by unfold Grow at g1 g2; omega) (by unfold Grow at g1 g2; omega)).1
    exact ((g1.trans g2).trans g3).mono (by omega)
   ·exact Grow.fail _ s
 rw [if_neg hk2]
 by_cases hk3 : key = kwLambda
 ·rw [if_pos hk3]
  split
  ·exact (lamM_grow (hbd 1 (Nat.le_refl _)) s h0 (by have := Datum.szs_drop l 1; omega)).mono (by have := Datum.szs_drop l 1; omega)
  ·exact Grow.fail _ s
 rw [if_neg hk3]
 by_cases hk4 : key = kwSet
 ·rw [if_pos hk4]
  split
  ·rename_i h2
   have hz := szs_getD (c := l) (i := 1) (by omega)
   exact (hx0 1 (by omega) s h0 (by omega)).mono (by omega)
  ·exact Grow.fail _ s
 rw [if_neg hk4]
 by_cases hk5 : key = kwBegin
 ·rw [if_pos hk5]
  exact (begM_grow hxl s h0 (by omega)).mono (by omega)
 rw [if_neg hk5]
 by_cases hk6 : key = kwLetrec ∨ key = kwLetrecS
 ·rw [if_pos hk6]
  split
  ·rename_i h2
   have hzd := szs_cons_drop (show 0 < l.length by omega)
   rw [datD_get (show 0 < l.length by omega)]
   exact (rec04_c b ex bd key (l[0]'(by omega)) (l.drop 1) (hp _ (List.getElem_mem _)) (by omega) (fun x h2 h3 => hx x h2 (by omega)) (hbd 1 (Nat.le_refl _)) s h0 (by omega)).1.mono (by omega)
  ·exact Grow.fail _ s
 rw [if_neg hk6]
 by_cases hk7 : key = kwLet ∨ key = kwLetS
 ·rw [if_pos hk7]
  split
  ·rename_i h2
   exact (let04_c b ex bd key l h2 hp (by omega) (fun x h2 h3 => hx x h2 (by omega)) hbd s h0 (by omega)).1.mono (by omega)
  ·exact Grow.fail _ s
 rw [if_neg hk7]
 by_cases hk8 : key = kwAnd
 ·rw [if_pos hk8]
  exact (and04_c b ex l.length (by omega) l (Nat.le_refl _) hxl s h0 (by omega)).1.mono (by omega)
 rw [if_neg hk8]
 by_cases hk9 : key = kwOr
 ·rw [if_pos hk9]
  exact (or04_c b ex l.length (by omega) l (Nat.le_refl _) hxl s h0 (by omega)).1.mono (by omega)
 rw [if_neg hk9]
 by_cases hk10 : key = kwWhen ∨ key = kwUnless
 ·rw [if_pos hk10]
  exact (when04_c b ex key hk10 l hxl (by omega) s h0 (by omega)).1.mono (by omega)
 rw [if_neg hk10]
 by_cases hk11 : key = kwCond
 ·rw [if_pos hk11]
  exact (cndM_grow b ex M hx l.length l (Nat.le_refl _) (fun x h => ⟨hp x h, by have := Datum.szs_mem h; omega⟩) s h0 (by omega)).mono (by omega)
 rw [if_neg hk11]
 by_cases hk12 : key = kwCase
 ·rw [if_pos hk12]
  split
  ·rename_i h2
   have hzd := szs_cons_drop (show 0 < l.length by omega)
   have hdl : (l.drop 1).length = l.length - 1 := List.length_drop
   have hfn : (frsM s).2.n = s.n + 1 := rfl
   have hf : Grow 1 s (frsM s).2 := Grow.frs 0 s
   have g2 := choM_grow b ex (frsM s).1 M hx (l.drop 1).length (l.drop 1) (Nat.le_refl _) (fun y h => ⟨hp y (List.mem_of_mem_drop h), by have := Datum.szs_mem (List.mem_of_mem_drop h); omega⟩) (frsM s).2 (by omega) (by omega)
   have g3 := (hxl _ (datD_mem (i := 0) (by omega)) (choM ex (frsM s).1 (l.drop 1) (frsM s).2).2 (by unfold Grow at g2; omega) (by rw [datD_get (show 0 < l.length by omega)]; unfold Grow at g2; omega)).1
   rw [datD_get (show 0 < l.length by omega)] at g3 ⊢
   exact ((hf.trans g2).trans g3).mono (by omega)
  ·exact Grow.fail _ s
 rw [if_neg hk12]
 by_cases hk13 : key = kwDo
 ·rw [if_pos hk13]
  split
  ·rename_i h2
   exact (loop04_c b ex l M hM hx h2 hp (by omega) s h0 (by omega)).1.mono (by omega)
  ·exact Grow.fail _ s
 rw [if_neg hk13]
 exact Grow.fail _ s
end Go.Cb
namespace Go.Cb
open Go.Proofs
set_option maxRecDepth 100000
set_option maxHeartbeats 40000000
theorem drExp04laa {p q : Prop} (k : q) (h : q → p := by intro hq; first | exact PDraw.sP (some 49) rfl [] [7,8] tt_ok mixed hq) : p := h k
theorem expr04_c (b : Nat) (ex : Datum → MkS → MkR) (bd : List Datum → MkS → MkR) (d : Datum) (M : Nat) (hM : M < 1000000000) (hp : d.pr = true) (hds : d.sz ≤ M + 1) (hx : ∀ x : Datum, x.pr = true → x.sz ≤ M → ExOk b ex x) (hbd : ∀ l : List Datum, (∀ x ∈ l, x.pr = true) → Datum.szs l + 1 ≤ M → BdOk b bd l) : ExOk b (expM ex bd) d := by
 intro s h0 h1
 have hL : expM ex bd d s = expM ex bd d s := rfl
 conv at hL => rhs; unfold expM; dsimp only
 have hz := Datum.its_szs hp
 have hl := Datum.szs_len d.its.1
 have hdz := d.sz_pos
 have hpl : ∀ x ∈ d.its.1, x.pr = true := fun x h => (Datum.its_lt hp h).2
 have hxl : ∀ x ∈ d.its.1, ExOk b ex x := fun x h => by have := Datum.its_lt hp h; exact hx x this.2 (by omega)
 have hne : d.kind = 6 → 0 < d.its.1.length := fun h6 => by
  rw [d.its_pair h6 (Datum.pr_two hp h6)]
  simp
 have hdr := Datum.szs_drop d.its.1 1
 have hbl : 0 < d.its.1.length → ∀ k, 1 ≤ k → BdOk b bd ((d.its.1.drop 1).drop k) := fun hn k hk => hbd _ (fun x h => hpl x (List.mem_of_mem_drop (List.mem_of_mem_drop h))) (by have := Datum.szs_drop (d.its.1.drop 1) k; have h2 := szs_cons_drop hn; have h3 := (d.its.1[0]'hn).sz_pos; omega)
 have hI := items04_c d hp (by omega)
 refine ⟨?_, ?_⟩
 ·rw [hL]
  split
  ·exact Grow.refl _ s
  split
  ·split
   ·exact Grow.fail _ s
   ·exact Grow.refl _ s
  split
  ·exact Grow.fail _ s
  split
  ·rename_i h6
   have hn := hne h6
   have hdl : (d.its.1.drop 1).length = d.its.1.length - 1 := List.length_drop
   have hzc := szs_cons_drop hn
   have hz0 := (d.its.1[0]'hn).sz_pos
   split
   ·exact Grow.fail _ s
   ·split
    ·exact (frmM_grow b ex bd _ (d.its.1.drop 1) M (by omega) hx (hbl hn) (fun x h => hpl x (List.mem_of_mem_drop h)) (by omega) s h0 (by omega)).mono (by omega)
    ·exact (allM_grow hxl s h0 (by omega)).mono (by omega)
  ·exact Grow.refl _ s
 ·generalize d.its.1 = l at *
  refine ACall.of_body tt_ok Tryz.func121 rfl rfl (n := 63) rfl rfl ?_
  conv => whnf
  repeat' (first|refine aA2 ?_|((first|(((apply zY;intro hg));(conv=>whnf);(repeat ((first|refine pC (keyD_c _) wR ?_|refine aH ?_);conv=>whnf));exact pZ)|refine pC (keyD_c _) wR ?_|refine pC (hI) wR ?_|refine pC (quoted04_c) wR ?_|refine drExp04laa ?_|intro _);conv=>whnf)|(refine zX (fun hc=>?_) (fun hc=>?_)<;>(try simp only [SY] at hc)<;>(conv=>whnf)))
  all_goals try contradiction
  ·rw [if_pos (by assumption)] at hL
   rw [hL]
   exact PRet.gen (y := .agg d.cells) (Γ' := [mkE b s]) (Wk.refl _) (And.intro rfl rfl)
  ·rw [if_neg (show ¬s.bad = true by rw [‹s.bad = false›]; simp), if_pos (by assumption), if_pos (by assumption)] at hL
   rw [hL]
   refine PCall.go (failM_c b s) (WkT.refl _) ?_
   rintro _ _ ⟨rfl, rfl⟩
   conv => whnf
   repeat' (first|refine aA2 ?_|(refine zX (fun hc=>?_) (fun hc=>?_)<;>(try simp only [SY] at hc)<;>omega))
   exact PRet.gen (y := .agg (failM s).1.cells) (Γ' := [mkE b (failM s).2]) (Wk.refl _) (And.intro rfl rfl)
  ·rw [if_neg (show ¬s.bad = true by rw [‹s.bad = false›]; simp), if_pos (by assumption), if_neg (by rw [hc]; simp)] at hL
   rw [hL]
   exact PRet.gen (y := .agg d.cells) (Γ' := [mkE b s]) (Wk.refl _) (And.intro rfl rfl)
  ·rw [if_neg (show ¬s.bad = true by rw [‹s.bad = false›]; simp), if_neg (by assumption), if_pos (by assumption)] at hL
   rw [hL]
   refine PCall.go (failM_c b s) (WkT.refl _) ?_
   rintro _ _ ⟨rfl, rfl⟩
   conv => whnf
   repeat' (first|refine aA2 ?_|(refine zX (fun hc=>?_) (fun hc=>?_)<;>(try simp only [SY] at hc)<;>omega))
   exact PRet.gen (y := .agg (failM s).1.cells) (Γ' := [mkE b (failM s).2]) (Wk.refl _) (And.intro rfl rfl)
  ·rw [if_neg (show ¬s.bad = true by rw [‹s.bad = false›]; simp), if_neg (by assumption), if_neg (by assumption), if_pos (by assumption), if_pos (by assumption)] at hL
   rw [hL]
   refine PCall.go (failM_c b s) (WkT.refl _) ?_
   rintro _ _ ⟨rfl, rfl⟩
   conv => whnf
   repeat' (first|refine aA2 ?_|(refine zX (fun hc=>?_) (fun hc=>?_)<;>(try simp only [SY] at hc)<;>omega))
   exact PRet.gen (y := .agg (failM s).1.cells) (Γ' := [mkE b (failM s).2]) (Wk.refl _) (And.intro rfl rfl)
  ·have hn := hne ‹d.kind = 6›
   have hzc := szs_cons_drop hn
   have hz0 := (l[0]'hn).sz_pos
   have hdl : (l.drop 1).length = l.length - 1 := List.length_drop
   rw [if_neg (show ¬s.bad = true by rw [‹s.bad = false›]; simp), if_neg (by assumption), if_neg (by assumption), if_pos (by assumption), if_neg (by rw [‹itemsB d = true›]; simp), datD_get hn, if_pos (by assumption)] at hL
   have hfc := form04_c b ex bd (l[0]'hn).s (l.drop 1) M (by omega) hx (hbl hn) (fun x h => hpl x (List.mem_of_mem_drop h)) (by omega) s h0 (by omega)
   generalize frmM ex bd (l[0]'hn).s (l.drop 1) s = r at *
   rw [hL]
   refine PCall.go hfc (WkT.refl _) ?_
   rintro _ _ ⟨rfl, rfl⟩
   conv => whnf
   repeat' (first|refine aA2 ?_|(refine zX (fun hc=>?_) (fun hc=>?_)<;>(try simp only [SY] at hc)<;>omega))
   exact PRet.gen (y := .agg r.1.cells) (Γ' := [mkE b r.2]) (Wk.refl _) (And.intro rfl rfl)
  ·have hn := hne ‹d.kind = 6›
   rw [if_neg (show ¬s.bad = true by rw [‹s.bad = false›]; simp), if_neg (by assumption), if_neg (by assumption), if_pos (by assumption), if_neg (by rw [‹itemsB d = true›]; simp), datD_get hn, if_neg (fun ⟨h1, h2⟩ => by
    rcases hc with h | h
    ·exact h h1
    ·rw [h2] at h; cases h)] at hL
   have hac := all04_c b ex l hxl (by omega) s h0 (by omega)
   generalize allM ex l s = r at *
   rw [hL]
   refine PCall.go hac (WkT.refl _) ?_
   rintro _ _ ⟨rfl, rfl⟩
   conv => whnf
   repeat' (first|refine aA2 ?_|((refine pC (list04_c) wR ?_);conv=>whnf)|(refine zX (fun hc=>?_) (fun hc=>?_)<;>(try simp only [SY] at hc)<;>omega))
   exact PRet.gen (y := .agg (listD r.1).cells) (Γ' := [mkE b r.2]) (Wk.refl _) (And.intro rfl rfl)
  ·rw [if_neg (show ¬s.bad = true by rw [‹s.bad = false›]; simp), if_neg (by assumption), if_neg (by assumption), if_neg (by assumption)] at hL
   rw [hL]
   exact PRet.gen (y := .agg (quotD d).cells) (Γ' := [mkE b s]) (Wk.refl _) (And.intro rfl rfl)
end Go.Cb
namespace Go.Cb
open Go.Proofs
set_option maxRecDepth 100000
set_option maxHeartbeats 4000000
def DefG (l : List Datum) (acc : List (Datum × Datum)) (s : MkS) : (List (Datum × Datum) × List Datum × MkS) ⊕ MkR → Prop
 | .inl (acc', rest, s') => ∃ j, j ≤ l.length ∧ rest = l.drop j ∧ acc'.length = acc.length + j ∧ Grow (Datum.szs (l.take j)) s s'
 | .inr r => Grow (Datum.szs l) s r.2
theorem DefG.stop (l : List Datum) (acc : List (Datum × Datum)) (s : MkS) : DefG l acc s (.inl (acc, l, s)) := ⟨0, Nat.zero_le _, rfl, rfl, Grow.refl _ s⟩
theorem DefG.fail (l : List Datum) (acc : List (Datum × Datum)) (s : MkS) : DefG l acc s (.inr (failM s)) := Grow.fail _ s
theorem DefG.next {x : Datum} {l : List Datum} {acc : List (Datum × Datum)} {p : Datum × Datum} {s s1 : MkS} {R : (List (Datum × Datum) × List Datum × MkS) ⊕ MkR} (g : Grow x.sz s s1) (h : DefG l (acc ++ [p]) s1 R) : DefG (x :: l) acc s R := by
 match R, h with
 | .inl (acc', rest, s'), ⟨j, h1, h2, h3, h4⟩ =>
  refine ⟨j + 1, by simp; omega, by rw [h2]; rfl, by rw [h3]; simp; omega, ?_⟩
  rw [List.take_succ_cons, Datum.szs]
  exact g.trans h4
 | .inr r, h =>
  show Grow (Datum.szs (x :: l)) s r.2
  rw [Datum.szs]
  exact g.trans h
theorem defM_grow (b : Nat) (ex : Datum → MkS → MkR) (bd : List Datum → MkS → MkR) (M : Nat) (hx : ∀ x : Datum, x.pr = true → x.sz ≤ M → ExOk b ex x) (hbd : ∀ l : List Datum, (∀ x ∈ l, x.pr = true) → Datum.szs l + 1 ≤ M → BdOk b bd l) :
  ∀ (l : List Datum) (acc : List (Datum × Datum)) (s : MkS), (∀ x ∈ l, x.pr = true) → Datum.szs l ≤ M → 0 ≤ s.n → s.n + Datum.szs l ≤ 1000000000000 → DefG l acc s (defM ex bd l acc s)
 | [], acc, s, _, _, _, _ => DefG.stop [] acc s
 | x :: l, acc, s, hp, hl, h0, h1 => by
  have hxp := hp x (by simp)
  rw [Datum.szs] at hl h1
  have hc := Datum.its_szs hxp
  have hcm : ∀ y ∈ x.its.1, y.pr = true := fun y hy => (Datum.its_lt hxp hy).2
  have hd2 := Datum.szs_drop x.its.1 2
  rw [defM]
  dsimp only
  split
  ·exact DefG.stop _ _ _
  split
  ·exact DefG.stop _ _ _
  split
  ·exact DefG.fail _ _ _
  split
  ·split
   ·exact DefG.fail _ _ _
   ·have g := (hbd (x.its.1.drop 2) (fun y hy => hcm y (List.mem_of_mem_drop hy)) (by omega) s h0 (by omega)).1
    refine DefG.next (g.mono (by omega)) (defM_grow b ex bd M hx hbd l _ _ (fun y hy => hp y (List.mem_cons_of_mem _ hy)) (by omega) ?_ ?_)
    ·unfold Grow at g; omega
    ·unfold Grow at g; omega
  ·split
   ·exact DefG.fail _ _ _
   ·have hz := szs_getD (c := x.its.1) (i := 2) (by omega)
    have g := (hx _ (hcm _ (datD_mem (i := 2) (by omega))) (by omega) s h0 (by omega)).1
    refine DefG.next (g.mono (by omega)) (defM_grow b ex bd M hx hbd l _ _ (fun y hy => hp y (List.mem_cons_of_mem _ hy)) (by omega) ?_ ?_)
    ·unfold Grow at g; omega
    ·unfold Grow at g; omega
theorem bdyM_grow (b : Nat) (ex : Datum → MkS → MkR) (bd : List Datum → MkS → MkR) (M : Nat) (hx : ∀ x : Datum, x.pr = true → x.sz ≤ M → ExOk b ex x) (hbd : ∀ l : List Datum, (∀ x ∈ l, x.pr = true) → Datum.szs l + 1 ≤ M → BdOk b bd l)
  (l : List Datum) (s : MkS) (hp : ∀ x ∈ l, x.pr = true) (hl : Datum.szs l ≤ M) (h0 : 0 ≤ s.n) (h1 : s.n + Datum.szs l ≤ 1000000000000) : Grow (Datum.szs l) s (bdyM ex bd l s).2 := by
 have hg := defM_grow b ex bd M hx hbd l [] s hp hl h0 h1
 unfold bdyM
 generalize defM ex bd l [] s = R at *
 match R, hg with
 | .inr r, hg => exact hg
 | .inl (acc, rest, s1), ⟨j, e1, e2, e3, g⟩ =>
  dsimp only
  have hst := Datum.szs_take_drop l j
  have hm : ∀ y ∈ rest, y.pr = true ∧ y.sz ≤ Datum.szs (l.drop j) := fun y hy => by
   rw [e2] at hy
   exact ⟨hp y (List.mem_of_mem_drop hy), Datum.szs_mem hy⟩
  have hn1 : 0 ≤ s1.n ∧ s1.n + Datum.szs (l.drop j) ≤ 1000000000000 := by unfold Grow at g; omega
  split
  ·exact (g.trans (Grow.fail 0 s1)).mono (by omega)
  ·have hr : Grow (Datum.szs (l.drop j)) s1 (if rest.length = 1 then ex (rest.getD 0 nulD) s1 else begM ex rest s1).2 := by
    split
    ·have hm0 := hm _ (datD_mem (i := 0) (show 0 < rest.length by omega))
     exact ((hx _ hm0.1 (by omega) s1 hn1.1 (by omega)).1).mono hm0.2
    ·rw [← e2]
     rw [← e2] at hn1
     exact begM_grow (fun y hy => hx y (hm y hy).1 (by have := (hm y hy).2; omega)) s1 hn1.1 hn1.2
   split
   ·exact (g.trans hr).mono (by omega)
   ·exact (g.trans hr).mono (by omega)
end Go.Cb
namespace Go.Cb
open Go.Proofs
set_option maxRecDepth 100000
set_option maxHeartbeats 40000000
theorem its_part {x c y : Datum} (hx : x.pr = true) (hc : c ∈ x.its.1) (hy : y ∈ c.l) : y.pr = true ∧ y.sz + 3 ≤ x.sz := by
 obtain ⟨h1, h2⟩ := Datum.its_lt hx hc
 have h3 := Datum.szs_mem hy
 have h4 := c.sz_eq
 exact ⟨Datum.pr_mem h2 hy, by omega⟩
theorem dfl_getD {c : List Datum} {i : Nat} (h : i < c.length) : c.getD i (Dfl.d : Datum) = c.getD i nulD := by simp [List.getD, h]
theorem defM_stop {ex : Datum → MkS → MkR} {bd : List Datum → MkS → MkR} {x : Datum} {l : List Datum} {acc : List (Datum × Datum)} {s : MkS} (hb : s.bad = false)
  (h : ((itemsB x = false ∨ (x.its.1.length : Int) = 0) ∨ ¬(x.its.1.getD 0 (Dfl.d : Datum)).kind = 2) ∨ ¬(x.its.1.getD 0 (Dfl.d : Datum)).s = [100, 101, 102, 105, 110, 101]) : defM ex bd (x :: l) acc s = .inl (acc, x :: l, s) := by
 rw [defM, if_neg (by rw [hb]; simp)]
 dsimp only
 rw [if_pos ?_]
 by_cases h0 : x.its.1 = []
 ·exact .inr (.inl h0)
 have hl : 0 < x.its.1.length := by
  rcases Nat.eq_zero_or_pos x.its.1.length with h1 | h1
  ·exact absurd (List.eq_nil_of_length_eq_zero h1) h0
  ·exact h1
 rw [dfl_getD hl] at h
 rcases h with ((h | h) | h) | h
 ·exact .inl h
 ·omega
 ·exact .inr (.inr (by unfold isKw; rw [beq_eq_false_iff_ne.2 h]; rfl))
 ·exact .inr (.inr (by unfold isKw; rw [show ((x.its.1.getD 0 nulD).s == kwDefine) = false from beq_eq_false_iff_ne.2 h]; exact Bool.and_false _))
theorem defM_go {ex : Datum → MkS → MkR} {bd : List Datum → MkS → MkR} {x : Datum} {l : List Datum} {acc : List (Datum × Datum)} {s : MkS} (hb : s.bad = false)
  (h : ((itemsB x = true ∧ ¬(x.its.1.length : Int) = 0) ∧ (x.its.1.getD 0 (Dfl.d : Datum)).kind = 2) ∧ (x.its.1.getD 0 (Dfl.d : Datum)).s = [100, 101, 102, 105, 110, 101]) : defM ex bd (x :: l) acc s =
  (let c := x.its.1
  if c.length < 3 then .inr (failM s) else
  let h := c.getD 1 nulD
  if h.kind = 6 then
   if formalsB (h.l.getD 1 nulD) = false then .inr (failM s) else
   let r := bd (c.drop 2) s
   defM ex bd l (acc ++ [(h.l.getD 0 nulD, listD [symD kwLambda, h.l.getD 1 nulD, r.1])]) r.2
  else if c.length ≠ 3 then .inr (failM s) else
   let r := ex (c.getD 2 nulD) s
   defM ex bd l (acc ++ [(h, r.1)]) r.2) := by
 have hl : 0 < x.its.1.length := by omega
 rw [dfl_getD hl] at h
 rw [defM, if_neg (by rw [hb]; simp)]
 dsimp only
 rw [if_neg]
 rintro (h1 | h1 | h1)
 ·rw [h1] at h; cases h.1.1.1
 ·rw [h1] at hl; simp at hl
 ·unfold isKw at h1
  rw [h.1.2, h.2] at h1
  exact absurd h1 (by decide)
theorem drExp04naa {p q : Prop} (k : q) (h : q → p := by intro hq; first | exact PDraw.sP (some 148) rfl [] [7] tt_ok mixed hq) : p := h k
theorem body04_c (b : Nat) (ex : Datum → MkS → MkR) (bd : List Datum → MkS → MkR) (M : Nat) (hM : M < 1000000000) (hx : ∀ x : Datum, x.pr = true → x.sz ≤ M → ExOk b ex x) (hbd : ∀ l : List Datum, (∀ x ∈ l, x.pr = true) → Datum.szs l + 1 ≤ M → BdOk b bd l)
  (l : List Datum) (hp : ∀ x ∈ l, x.pr = true) (hl : Datum.szs l ≤ M) : BdOk b (bdyM ex bd) l := by
 intro s h0 h1
 refine ⟨bdyM_grow b ex bd M hx hbd l s hp hl h0 h1, ?_⟩
 have hlen := Datum.szs_len l
 have hin : ∀ x ∈ l, x.sz ≤ M := fun x h => by have := Datum.szs_mem h; omega
 have hI : ∀ x ∈ l, x.pr = true ∧ x.sz ≤ 1000000000 := fun x h => ⟨hp x h, by have := hin x h; omega⟩
 have hF : ∀ x ∈ l, ∀ c ∈ x.its.1, ∀ y ∈ c.l, y.pr = true ∧ y.sz ≤ 1000000000 := fun x h c h2 y h3 => by
  have h4 := its_part (hp x h) h2 h3
  have h5 := hin x h
  exact ⟨h4.1, by omega⟩
 generalize hR : bdyM ex bd l s = R
 unfold bdyM at hR
 refine ACall.of_body tt_ok Tryz.func69 rfl rfl (n := 155) rfl rfl ?_
 conv => whnf
 repeat' (first|((intro _);conv=>whnf)|(refine zX (fun hc=>?_) (fun hc=>?_)<;>(try simp only [SY] at hc)<;>omega))
 rename_i b4
 refine PLoop.gh (Ghost.trans (Ghost.nil 5 24 _) (Ghost.nil 5 24 _)) ?_
 refine PLoop.overJ 0 [5, 6, 7, 8, 9, 11, 12, 13, 14, 15, 16, 17, 18, 19, 20, 21, 22, 23, 24, 25, 26, 27, 28, 29, 30, 31, 32, 33, 34, 35, 36, 37, 38, 39, 40, 41, 42, 43, 44, 45, 46, 47, 48, 49, 50, 51, 52, 53, 54, 55, 56, 57, 58, 59, 60, 61, 62, 63, 64, 65, 66, 67, 68, 69, 70, 71, 72, 73, 74, 75, 76, 77, 78, 79, 80, 81, 82, 83, 84, 85, 86, 87, 88, 89, 90, 91, 92, 93, 94, 95, 96, 97, 98, 99, 100, 101, 102, 103, 104, 105, 106, 107, 108, 109, 110, 111, 112, 113, 114, 115, 116] (fun z : Nat × List (Datum × Datum) × Tok × Tok × MkS => [(5, .sl 5 ((z.2.1.map Prod.fst).map Datum.pv) (some z.2.2.1)), (6, .sl 5 ((z.2.1.map Prod.snd).map Datum.pv) (some z.2.2.2.1)), (7, .int .i64 z.1)])
  (fun z : Nat × List (Datum × Datum) × Tok × Tok × MkS => [.tok z.2.2.1, .tok z.2.2.2.1, resE b4, mkE b z.2.2.2.2])
  (fun z => z.1 ≤ l.length ∧ z.2.1.length = z.1 ∧ z.2.2.1.e = 24 ∧ z.2.2.2.1.e = 24 ∧ (0 ≤ z.2.2.2.2.n ∧ z.2.2.2.2.n + Datum.szs (l.drop z.1) ≤ 1000000000000) ∧ defM ex bd l [] s = defM ex bd (l.drop z.1) z.2.1 z.2.2.2.2) (fun z => l.length - z.1)
  (0, [], nilTok 5 24, nilTok 5 24, s)
  (fun z : Nat × List (Datum × Datum) × Tok × Tok × MkS => [(5, .sl 5 ((z.2.1.map Prod.fst).map Datum.pv) (some z.2.2.1)), (6, .sl 5 ((z.2.1.map Prod.snd).map Datum.pv) (some z.2.2.2.1)), (7, .int .i64 z.1)])
  (fun z : Nat × List (Datum × Datum) × Tok × Tok × MkS => [.tok z.2.2.1, .tok z.2.2.2.1, resE b4, mkE b z.2.2.2.2])
  (fun z => z.1 ≤ l.length ∧ z.2.1.length = z.1 ∧ z.2.2.1.e = 24 ∧ z.2.2.2.1.e = 24 ∧ (0 ≤ z.2.2.2.2.n ∧ z.2.2.2.2.n + Datum.szs (l.drop z.1) ≤ 1000000000000) ∧ defM ex bd l [] s = .inl (z.2.1, l.drop z.1, z.2.2.2.2))
  ⟨Nat.zero_le _, rfl, rfl, rfl, ⟨h0, h1⟩, rfl⟩ wA ?_ ?_
 ·rintro ⟨k, acc, u1, u2, s1⟩ ⟨hk, hal, hu1, hu2, hn, he⟩
  dsimp only at hk hal hu1 hu2 hn he ⊢
  have hla : (acc.map Prod.fst).length = k := by rw [List.length_map, hal]
  have hlb : (acc.map Prod.snd).length = k := by rw [List.length_map, hal]
  conv => whnf
  repeat' (first|refine aA2 ?_|((first|refine pC (items04_c _ (hI _ (List.getElem_mem _)).1 (hI _ (List.getElem_mem _)).2) wR ?_|intro _);conv=>whnf)|(refine zX (fun hc=>?_) (fun hc=>?_)<;>(try simp only [SY] at hc)<;>(conv=>whnf)))
  ·obtain ⟨hkl, hbad⟩ := ‹(k : Int) < l.length ∧ s1.bad = false›
   have hlt : k < l.length := by omega
   refine loopOut (k, acc, u1, u2, s1) ⟨hk, hal, hu1, hu2, hn, ?_⟩ wA
   dsimp only
   rw [he, drop_at hlt]
   exact defM_stop hbad hc
  ·obtain ⟨hkl, hbad⟩ := ‹(k : Int) < l.length ∧ s1.bad = false›
   have hlt : k < l.length := by omega
   rw [drop_at hlt, defM_go hbad (by assumption)] at he
   dsimp only at he
   rw [if_pos (by omega)] at he
   rw [he] at hR
   dsimp only at hR
   rw [← hR]
   refine PCall.go (failM_c b s1) (WkT.refl _) ?_
   rintro _ _ ⟨rfl, rfl⟩
   conv => whnf
   repeat' (first|refine aA2 ?_|(refine zX (fun hc=>?_) (fun hc=>?_)<;>(try simp only [SY] at hc)<;>omega))
   exact PRet.gen (y := .agg (failM s1).1.cells) (Γ' := [mkE b (failM s1).2]) (Wk.refl _) (And.intro rfl rfl)
  ·obtain ⟨hkl, hbad⟩ := ‹(k : Int) < l.length ∧ s1.bad = false›
   have hlt : k < l.length := by omega
   have h1n : 1 < l[k].its.1.length := by omega
   have hxp := hp _ (List.getElem_mem hlt)
   have hm1 := Datum.its_lt hxp (List.getElem_mem h1n)
   have h2l := Datum.pr_two hm1.2 hc
   rw [drop_at hlt, defM_go hbad (by assumption)] at he
   dsimp only at he
   rw [if_neg (by omega), datD_get h1n, if_pos hc, datD_get (show 0 < (l[k].its.1[1]'h1n).l.length by omega), datD_get (show 1 < (l[k].its.1[1]'h1n).l.length by omega)] at he
   rw [drop_at hlt, Datum.szs] at hn
   have hxs := Datum.its_szs hxp
   have hd2 := Datum.szs_drop l[k].its.1 2
   have hxM := hin _ (List.getElem_mem hlt)
   conv => whnf
   repeat' (first|refine aA2 ?_|((first|refine pC (formals04_c _ (hF _ (List.getElem_mem _) _ (List.getElem_mem _) _ (List.getElem_mem _)).1 (hF _ (List.getElem_mem _) _ (List.getElem_mem _) _ (List.getElem_mem _)).2) wR ?_|intro _);conv=>whnf)|(refine zX (fun hc=>?_) (fun hc=>?_)<;>(try simp only [SY] at hc)<;>(conv=>whnf)))
   ·rw [if_pos hc] at he
    rw [he] at hR
    dsimp only at hR
    rw [← hR]
    refine PCall.go (failM_c b s1) (WkT.refl _) ?_
    rintro _ _ ⟨rfl, rfl⟩
    conv => whnf
    repeat' (first|refine aA2 ?_|(refine zX (fun hc=>?_) (fun hc=>?_)<;>(try simp only [SY] at hc)<;>omega))
    exact PRet.gen (y := .agg (failM s1).1.cells) (Γ' := [mkE b (failM s1).2]) (Wk.refl _) (And.intro rfl rfl)
   ·rw [if_neg (by rw [hc]; simp)] at he
    obtain ⟨g, hcall⟩ := hbd (l[k].its.1.drop 2) (fun y hy => (Datum.its_lt hxp (List.mem_of_mem_drop hy)).2) (by omega) s1 hn.1 (by omega)
    generalize bd (l[k].its.1.drop 2) s1 = r at *
    refine PDraw.sE [.tok u2, mkE b s1] [11,12,13,14] [15,16] tt_ok mixed ?_
    conv=>whnf
    repeat (first|refine aR2 ?_|((((apply zZ);(conv=>whnf);(repeat ((refine pC (sym04_c _) wR ?_);conv=>whnf));exact pZ));conv=>whnf))
    refine PCall.go hcall (WkT.refl _) ?_
    rintro _ _ ⟨rfl, rfl⟩
    conv => whnf
    repeat' (first|refine aA2 ?_|((first|refine pC (list04_c) wR ?_|intro _);conv=>whnf)|(refine zX (fun hc=>?_) (fun hc=>?_)<;>(try simp only [SY] at hc)<;>omega))
    have e1 : acc.map Prod.fst ++ [(l[k].its.1[1]'h1n).l[0]'(by omega)] = (acc ++ [((l[k].its.1[1]'h1n).l[0]'(by omega), listD [symD [108, 97, 109, 98, 100, 97], (l[k].its.1[1]'h1n).l[1]'(by omega), r.1])]).map Prod.fst := by simp
    have e2 : acc.map Prod.snd ++ [listD [symD [108, 97, 109, 98, 100, 97], (l[k].its.1[1]'h1n).l[1]'(by omega), r.1]] = (acc ++ [((l[k].its.1[1]'h1n).l[0]'(by omega), listD [symD [108, 97, 109, 98, 100, 97], (l[k].its.1[1]'h1n).l[1]'(by omega), r.1])]).map Prod.snd := by simp
    rw [e1, e2]
    rename_i tn htn x1 hx1 x2 hx2 tv htv
    refine loopTo (k + 1, acc ++ [((l[k].its.1[1]'h1n).l[0]'(by omega), listD [symD [108, 97, 109, 98, 100, 97], (l[k].its.1[1]'h1n).l[1]'(by omega), r.1])], tn, tv, r.2) ⟨by show k + 1 ≤ _; omega, by simp; omega, htn, htv, ⟨by unfold Grow at g; show 0 ≤ r.2.n; omega, by unfold Grow at g; show r.2.n + Datum.szs (l.drop (k + 1)) ≤ 1000000000000; omega⟩, he⟩ (by show l.length - (k + 1) < l.length - k; omega) wA
  ·obtain ⟨hkl, hbad⟩ := ‹(k : Int) < l.length ∧ s1.bad = false›
   have hlt : k < l.length := by omega
   have h1n : 1 < l[k].its.1.length := by omega
   rw [drop_at hlt, defM_go hbad (by assumption)] at he
   dsimp only at he
   rw [if_neg (by omega), datD_get h1n, if_neg (by assumption), if_pos (by omega)] at he
   rw [he] at hR
   dsimp only at hR
   rw [← hR]
   refine PCall.go (failM_c b s1) (WkT.refl _) ?_
   rintro _ _ ⟨rfl, rfl⟩
   conv => whnf
   repeat' (first|refine aA2 ?_|(refine zX (fun hc=>?_) (fun hc=>?_)<;>(try simp only [SY] at hc)<;>omega))
   exact PRet.gen (y := .agg (failM s1).1.cells) (Γ' := [mkE b (failM s1).2]) (Wk.refl _) (And.intro rfl rfl)
  ·obtain ⟨hkl, hbad⟩ := ‹(k : Int) < l.length ∧ s1.bad = false›
   have hlt : k < l.length := by omega
   have h1n : 1 < l[k].its.1.length := by omega
   have h2n : 2 < l[k].its.1.length := by omega
   have hxp := hp _ (List.getElem_mem hlt)
   have hm2 := Datum.its_lt hxp (List.getElem_mem h2n)
   have hxM := hin _ (List.getElem_mem hlt)
   rw [drop_at hlt, defM_go hbad (by assumption)] at he
   dsimp only at he
   rw [if_neg (by omega), datD_get h1n, datD_get h2n, if_neg (by assumption), if_neg (by omega)] at he
   rw [drop_at hlt, Datum.szs] at hn
   obtain ⟨g, hcall⟩ := hx _ hm2.2 (by omega) s1 hn.1 (by omega)
   generalize ex (l[k].its.1[2]'h2n) s1 = r at *
   refine PCall.go hcall (WkT.refl _) ?_
   rintro _ _ ⟨rfl, rfl⟩
   conv => whnf
   repeat' (first|refine aA2 ?_|((intro _);conv=>whnf)|(refine zX (fun hc=>?_) (fun hc=>?_)<;>(try simp only [SY] at hc)<;>omega))
   have e1 : acc.map Prod.fst ++ [l[k].its.1[1]'h1n] = (acc ++ [(l[k].its.1[1]'h1n, r.1)]).map Prod.fst := by simp
   have e2 : acc.map Prod.snd ++ [r.1] = (acc ++ [(l[k].its.1[1]'h1n, r.1)]).map Prod.snd := by simp
   rw [e1, e2]
   rename_i tn htn x2 hx2 tv htv
   refine loopTo (k + 1, acc ++ [(l[k].its.1[1]'h1n, r.1)], tn, tv, r.2) ⟨by show k + 1 ≤ _; omega, by simp; omega, htn, htv, ⟨by unfold Grow at g; show 0 ≤ r.2.n; omega, by unfold Grow at g; show r.2.n + Datum.szs (l.drop (k + 1)) ≤ 1000000000000; omega⟩, he⟩ (by show l.length - (k + 1) < l.length - k; omega) wA
  ·refine loopOut (k, acc, u1, u2, s1) ⟨hk, hal, hu1, hu2, hn, ?_⟩ wA
   dsimp only
   rw [he]
   rcases Nat.lt_or_ge k l.length with hlt | hge
   ·have hb : s1.bad = true := by
     rcases hc with h | h
     ·omega
     ·exact h
    rw [drop_at hlt, defM, if_pos hb]
   ·rw [List.drop_of_length_le hge, defM]
 ·rintro ⟨k, acc, u1, u2, s1⟩ ⟨hk, hal, hu1, hu2, hn, he⟩
  dsimp only at hk hal hu1 hu2 hn he ⊢
  rw [he] at hR
  dsimp only at hR
  have hdc := distinct04_c (acc.map Prod.fst) (by rw [List.length_map]; omega)
  have hdl : (l.drop k).length = l.length - k := List.length_drop
  conv => whnf
  repeat' (first|refine aA2 ?_|(refine zX (fun hc=>?_) (fun hc=>?_)<;>(try simp only [SY] at hc)<;>omega))
  refine pC hdc (.cons (Wk.tok _ _ _) .nil) ?_
  conv => whnf
  repeat' (first|refine aA2 ?_|((intro _);conv=>whnf)|(refine zX (fun hc=>?_) (fun hc=>?_)<;>(try simp only [SY] at hc)<;>(conv=>whnf)))
  ·rw [if_pos (by
    rcases hc with h | h
    ·exact .inl h
    ·exact .inr (List.drop_of_length_le (by omega)))] at hR
   rw [← hR]
   refine PCall.go (failM_c b s1) (WkT.refl _) ?_
   rintro _ _ ⟨rfl, rfl⟩
   conv => whnf
   repeat' (first|refine aA2 ?_|(refine zX (fun hc=>?_) (fun hc=>?_)<;>(try simp only [SY] at hc)<;>omega))
   exact PRet.gen (y := .agg (failM s1).1.cells) (Γ' := [mkE b (failM s1).2]) (Wk.refl _) (And.intro rfl rfl)
  ·have hlt : k < l.length := by omega
   have hdb := (‹distB (acc.map Prod.fst) [] = true ∧ ¬(k : Int) = l.length›).1
   rw [if_neg (by
    rintro (h | h)
    ·rw [hdb] at h; cases h
    ·rw [h] at hdl; simp at hdl; omega), if_pos (show (l.drop k).length = 1 by omega), show (l.drop k).getD 0 nulD = l[k] by rw [drop_at hlt]; rfl] at hR
   rw [drop_at hlt, Datum.szs] at hn
   obtain ⟨g, hcall⟩ := hx _ (hp _ (List.getElem_mem hlt)) (hin _ (List.getElem_mem hlt)) s1 hn.1 (by omega)
   generalize ex l[k] s1 = r at *
   refine PCall.go hcall (WkT.refl _) ?_
   rintro _ _ ⟨rfl, rfl⟩
   conv => whnf
   repeat' (first|refine aA2 ?_|((first|((apply zZ);(conv=>whnf);(repeat ((first|refine pC (sym04_c _) wR ?_|refine pC (list04_c) wR ?_|refine pC (pairs04_c acc (by omega)) (by ((repeat' (first|exact WkT.nil|apply WkT.cons|exact Wk.refl _|exact Wk.int OA|exact Wk.tt rfl|exact Wk.ff rfl|exact Wk.nil' rfl|exact Wk.tok _ _ _)); first|done|fail)) ?_);conv=>whnf));exact pZ)|refine drExp04naa ?_);conv=>whnf)|(refine zX (fun hc=>?_) (fun hc=>?_)<;>(try simp only [SY] at hc)<;>(conv=>whnf)))
   ·rw [if_pos (List.eq_nil_of_length_eq_zero (by omega))] at hR
    rw [← hR]
    exact PRet.gen (y := .agg r.1.cells) (Γ' := [mkE b r.2]) (Wk.refl _) (And.intro rfl rfl)
   ·rw [if_neg (fun h => by rw [h] at hal; simp at hal; omega)] at hR
    rw [← hR]
    exact PRet.gen (y := .agg (listD [symD kwLetrecS, pairsD acc, r.1]).cells) (Γ' := [mkE b r.2]) (Wk.refl _) (And.intro rfl rfl)
  ·have hdb := (‹distB (acc.map Prod.fst) [] = true ∧ ¬(k : Int) = l.length›).1
   rw [if_neg (by
    rintro (h | h)
    ·rw [hdb] at h; cases h
    ·rw [h] at hdl; simp at hdl; omega), if_neg (show ¬(l.drop k).length = 1 by omega)] at hR
   have hcall := begin04_c b ex (l.drop k) (fun y hy => hx y (hp y (List.mem_of_mem_drop hy)) (hin y (List.mem_of_mem_drop hy))) (by omega) s1 hn.1 (by omega)
   generalize begM ex (l.drop k) s1 = r at *
   refine PCall.go hcall (WkT.refl _) ?_
   rintro _ _ ⟨rfl, rfl⟩
   conv => whnf
   repeat' (first|refine aA2 ?_|((first|((apply zZ);(conv=>whnf);(repeat ((first|refine pC (sym04_c _) wR ?_|refine pC (list04_c) wR ?_|refine pC (pairs04_c acc (by omega)) (by ((repeat' (first|exact WkT.nil|apply WkT.cons|exact Wk.refl _|exact Wk.int OA|exact Wk.tt rfl|exact Wk.ff rfl|exact Wk.nil' rfl|exact Wk.tok _ _ _)); first|done|fail)) ?_);conv=>whnf));exact pZ)|refine drExp04naa ?_);conv=>whnf)|(refine zX (fun hc=>?_) (fun hc=>?_)<;>(try simp only [SY] at hc)<;>(conv=>whnf)))
   ·rw [if_pos (List.eq_nil_of_length_eq_zero (by omega))] at hR
    rw [← hR]
    exact PRet.gen (y := .agg r.1.cells) (Γ' := [mkE b r.2]) (Wk.refl _) (And.intro rfl rfl)
   ·rw [if_neg (fun h => by rw [h] at hal; simp at hal; omega)] at hR
    rw [← hR]
    exact PRet.gen (y := .agg (listD [symD kwLetrecS, pairsD acc, r.1]).cells) (Γ' := [mkE b r.2]) (Wk.refl _) (And.intro rfl rfl)
end Go.Cb
namespace Go.Cb
open Go.Proofs
set_option maxRecDepth 100000
set_option maxHeartbeats 4000000
theorem EF_ok (b : Nat) : ∀ m : Nat, m ≤ 900000000 → (∀ d : Datum, d.pr = true → d.sz ≤ m → ExOk b (EF m).1 d) ∧ (∀ l : List Datum, (∀ x ∈ l, x.pr = true) → Datum.szs l + 1 ≤ m → BdOk b (EF m).2 l)
 | 0, _ => ⟨fun d _ h => by have := d.sz_pos; omega, fun l _ h => by omega⟩
 | m + 1, hm => by
  have ih := EF_ok b m (by omega)
  exact ⟨fun d hp hd => expr04_c b (EF m).1 (EF m).2 d m (by omega) hp hd ih.1 ih.2, fun l hp hl => body04_c b (EF m).1 (EF m).2 m (by omega) ih.1 ih.2 l hp (by omega)⟩
theorem rightDs_mem : ∀ {l : List Datum} {k : Int}, Datum.rightDs l k = true → ∀ x ∈ l, x.rightD k = true
 | [], _, _, x, hx => by cases hx
 | y :: l, k, h, x, hx => by
  rw [Datum.rightDs, Bool.and_eq_true] at h
  rcases List.mem_cons.1 hx with rfl | hx
  ·exact h.1
  ·exact rightDs_mem h.2 x hx
theorem rightD_name {d : Datum} {k : Int} (h : d.rightD k = true) (hk : d.kind = 2) : d.s.length ≤ 40 := by
 rw [Datum.rightD_eq, Bool.and_eq_true] at h
 have h1 := h.1
 unfold bareBad at h1
 simp only [Bool.not_eq_true', Bool.or_eq_false_iff] at h1
 have h2 := h1.1.1.2.1
 rw [hk] at h2
 simp [nameB] at h2
 exact h2.2.1
theorem marked04_c (d : Datum) : (∃ k : Int, d.rightD k = true) → ACallP Tryz.prog 68 [.agg d.cells] (.bool d.mkd) := by
 induction d using Datum.ind with
 | h d ih =>
  rintro ⟨kk, hr⟩
  have hnm := fun hk => rightD_name hr hk
  have hch : ∀ x ∈ d.l, ∃ k : Int, x.rightD k = true := fun x hx => by
   rw [Datum.rightD_eq, Bool.and_eq_true] at hr
   exact ⟨kk + 1, rightDs_mem hr.2 x hx⟩
  rw [Datum.mkd_eq]
  refine ACall.of_body tt_ok Tryz.func68 rfl rfl (n := 35) rfl rfl ?_
  conv => whnf
  repeat (((intro _);conv=>whnf))
  rename_i b1
  refine PLoop.keep [2, 3, 5, 6, 7, 8, 9, 10, 11, 12, 13, 14, 15, 16, 17, 18, 19, 20, 21] (fun i : Nat => [(3, .int .i64 i)]) (fun i => i ≤ d.s.length ∧ (d.kind = 2 → (d.s.drop i).contains 37 = d.s.contains 37)) (fun i => d.s.length - i) 0 ⟨by omega, fun _ => rfl⟩ wA ?_
  rintro i ⟨hi, he⟩
  conv => whnf
  repeat' (first|refine aA2 ?_|(refine zX (fun hc=>?_) (fun hc=>?_)<;>(try simp only [SY] at hc)<;>(conv=>whnf)))
  ·have hk := (‹d.kind = 2 ∧ (i : Int) < d.s.length›).1
   have hlt : i < d.s.length := by omega
   have hb : d.s.getD i 0 = 37 := by
    have h37 : ((37 : UInt8).toNat : Int) = 37 := rfl
    exact UInt8.toNat_inj.1 (by omega)
   have hcn : d.s.contains 37 = true := by
    rw [← he hk, drop_getD hlt, List.contains_cons, hb]
    rfl
   rw [hk, hcn]
   exact PRet.pure (Wk.tt rfl)
  ·have hk := (‹d.kind = 2 ∧ (i : Int) < d.s.length›).1
   have hlt : i < d.s.length := by omega
   have hb : ¬d.s.getD i 0 = 37 := fun h => by rw [h] at hc; exact hc rfl
   have hnm2 := hnm hk
   conv => whnf
   skip
   refine loopTo (i + 1) ⟨by omega, fun _ => ?_⟩ (by show d.s.length - (i + 1) < d.s.length - i; omega) wA
   rw [← he hk]
   conv => rhs; rw [drop_getD hlt, List.contains_cons]
   rw [show ((37 : UInt8) == d.s.getD i 0) = false from beq_eq_false_iff_ne.2 (fun h => hb h.symm), Bool.false_or]
  ·have hne : (d.kind == 2 && d.s.contains 37) = false := by
    rcases hc with h | h
    ·rw [show (d.kind == 2) = false from beq_eq_false_iff_ne.2 h]; rfl
    ·by_cases hk : d.kind = 2
     ·rw [← he hk, List.drop_of_length_le (by omega)]; simp
     ·rw [show (d.kind == 2) = false from beq_eq_false_iff_ne.2 hk]; rfl
   rw [hne, Bool.false_or]
   refine PLoop.keep [2, 4, 22, 23, 24, 25, 26, 27, 28, 29, 30, 31, 32, 33, 34] (fun j : Nat => [(4, .int .i64 j)]) (fun j => j ≤ d.l.length ∧ Datum.mkds (d.l.drop j) = Datum.mkds d.l) (fun j => d.l.length - j) 0 ⟨by omega, rfl⟩ wA ?_
   rintro j ⟨hj, he2⟩
   conv => whnf
   repeat' (first|refine aA2 ?_|((first|refine pC (ih _ (List.getElem_mem _) (hch _ (List.getElem_mem _))) wR ?_|intro _);conv=>whnf)|(refine zX (fun hc=>?_) (fun hc=>?_)<;>(try simp only [SY] at hc)<;>(conv=>whnf)))
   ·have hlt : j < d.l.length := by omega
    rw [drop_at hlt, Datum.mkds, hc, Bool.true_or] at he2
    exact PRet.pure (Wk.tt he2.symm)
   ·have hlt : j < d.l.length := by omega
    rw [drop_at hlt, Datum.mkds, hc, Bool.false_or] at he2
    exact loopTo (j + 1) ⟨by omega, he2⟩ (by show d.l.length - (j + 1) < d.l.length - j; omega) wA
   ·rw [List.drop_of_length_le (by omega), Datum.mkds] at he2
    exact PRet.pure (Wk.ff he2.symm)
theorem expand04_c (l : List Datum) (hs : Datum.szs l ≤ 800000000) : ACallP Tryz.prog 35 [.sl 5 (l.map Datum.pv) none] (expUP l) := by
 have hlen := Datum.szs_len l
 have hU : expU l = expU l := rfl
 conv at hU => rhs; unfold expU
 unfold expUP
 generalize expU l = R at *
 refine ACall.of_body tt_ok Tryz.func35 rfl rfl (n := 43) rfl rfl ?_
 conv => whnf
 repeat' (first|((intro _);conv=>whnf)|(refine zX (fun hc=>?_) (fun hc=>?_)<;>(try simp only [SY] at hc)<;>omega))
 rename_i b2
 refine PLoop.keep [3, 4, 7, 8, 9, 10, 11, 12, 13, 14, 15, 16, 17, 18, 19, 20, 21, 22, 23, 24, 25, 26] (fun i : Nat => [(4, .int .i64 i)]) (fun i => i ≤ l.length ∧ (l.drop i).any (fun d => !d.rightD 0 || d.mkd) = l.any (fun d => !d.rightD 0 || d.mkd)) (fun i => l.length - i) 0 ⟨by omega, rfl⟩ wA ?_
 rintro i ⟨hi, he⟩
 conv => whnf
 repeat' (first|refine aA2 ?_|((first|(((apply zY;intro hg));(conv=>whnf);(repeat ((first|refine pC (marked04_c _ ⟨0, by simpa using hg⟩) wR ?_|refine aH ?_);conv=>whnf));exact pZ)|refine pC (right2D_c _) wR ?_|intro _);conv=>whnf)|(refine zX (fun hc=>?_) (fun hc=>?_)<;>(try simp only [SY] at hc)<;>(conv=>whnf)))
 ·have hlt : i < l.length := by omega
  have hb : (!l[i].rightD 0 || l[i].mkd) = true := by
   rcases hc with h | h
   ·rw [h]; rfl
   ·rw [h]; exact Bool.or_true _
  rw [drop_at hlt, List.any_cons, hb, Bool.true_or] at he
  rw [if_pos he.symm] at hU
  rw [hU]
  exact PRet.pure wA
 ·have hlt : i < l.length := by omega
  rw [drop_at hlt, List.any_cons, hc.1, hc.2] at he
  exact loopTo (i + 1) ⟨by omega, he⟩ (by show l.length - (i + 1) < l.length - i; omega) wA
 ·rename_i b5
  rw [List.drop_of_length_le (by omega), List.any_nil] at he
  rw [if_neg (by rw [← he]; simp)] at hU
  have hpr : ∀ x ∈ l, x.pr = true := fun x hx => by
   have h1 := he.symm
   rw [List.any_eq_false] at h1
   have h2 := h1 x hx
   simp at h2
   exact rightD_pr x 0 h2.1
  obtain ⟨g, hcall⟩ := (EF_ok b5 (Datum.szs l + 1) (by omega)).2 l hpr (Nat.le_refl _) ⟨0, false⟩ (Int.le_refl _) (by show (0 : Int) + _ ≤ _; omega)
  generalize (EF (Datum.szs l + 1)).2 l ⟨0, false⟩ = r at *
  refine PCall.goG (Ghost.box (b := b5) (cs := [.int .i64 0, .bfalse]) (cs' := [.int .i64 0, .bool false]) (.cons (Wk.refl _) (.cons (Wk.ff rfl) .nil))) hcall (WkT.refl _) ?_
  rintro _ _ ⟨rfl, rfl⟩
  conv => whnf
  repeat' (first|refine aA2 ?_|((first|(((apply zY;intro hg));(conv=>whnf);(repeat ((first|refine pC (right2D_c _) wR ?_|refine aH ?_);conv=>whnf));exact pZ)|intro _);conv=>whnf)|(refine zX (fun hc=>?_) (fun hc=>?_)<;>(try simp only [SY] at hc)<;>(conv=>whnf)))
  ·rw [if_pos hc] at hU
   rw [hU]
   exact PRet.pure wA
  ·rw [if_neg (by rw [hc.1, hc.2]; simp)] at hU
   rw [hU]
   exact PRet.pure (Wk.refl _)
end Go.Cb
namespace Go.Cb
open Go.Proofs
set_option maxRecDepth 100000
set_option maxHeartbeats 4000000
theorem listD_sz : ∀ (l : List Datum) (e : Datum), (l.foldr pairD e).sz = l.length + Datum.szs l + e.sz
 | [], e => by simp [Datum.szs]
 | x :: l, e => by
  rw [List.foldr_cons, Datum.sz_eq]
  show 1 + Datum.szs [x, l.foldr pairD e] = _
  rw [Datum.szs, Datum.szs, Datum.szs, listD_sz l e, Datum.szs, List.length_cons]
  omega
def FitR (k : Nat) (r : RdR) : Prop := r.2.2 = -1 → r.1.sz + 1 + 5 * k ≤ 5 * r.2.1
def FitL (k : Nat) (l : List Datum) (e : Datum) (r : (List Datum × Datum) × Nat × Int) : Prop := r.2.2 = -1 → r.1.1.length + Datum.szs r.1.1 + r.1.2.sz + 5 + 5 * k ≤ 5 * r.2.1 + l.length + Datum.szs l + e.sz
theorem FitR.no {k j i : Nat} {d : Datum} : FitR k (d, j, (i : Int)) := fun h => by have h' : (i : Int) = -1 := h; omega
theorem FitL.no {k j i : Nat} {l : List Datum} {e : Datum} {x : List Datum × Datum} : FitL k l e (x, j, (i : Int)) := fun h => by have h' : (i : Int) = -1 := h; omega
theorem RF_fit (s : List UInt8) : ∀ n, (∀ k, k ≤ s.length → FitR k ((RF s n).1 k)) ∧ ∀ pair k l e, k ≤ s.length → FitL k l e ((RF s n).2 pair k l e)
 | 0 => ⟨fun k h => .no, fun pair k l e h => .no⟩
 | n + 1 => by
  obtain ⟨h1, h2⟩ := RF_fit s n
  obtain ⟨p1, p2⟩ := RF_pos s n
  constructor
  ·intro k hk
   rw [RF]
   dsimp only
   have hn : k ≤ nxtF s k ∧ nxtF s k ≤ s.length := nextF_le s (s.length + 1) k hk
   generalize nxtF s k = k' at *
   split
   ·exact .no
   have hl : k' < s.length := by omega
   have hb : byteF s k' = s.getD k' 0 := if_pos hl
   rw [hb]
   split
   ·rename_i hm
    intro h
    have hw := wordF_ok hl hm
    rcases hw.2 with ⟨_, hw⟩ | hw
    ·have : (wordF s k').1.sz = 1 := by unfold wordF; dsimp only; split; rfl; split <;> rfl
     omega
    ·omega
   split
   ·intro h
    have hw := textF_ok hl
    rcases hw.2 with ⟨_, hw⟩ | hw
    ·have : (textF s k').1.sz = 1 := by unfold textF; dsimp only; split <;> rfl
     omega
    ·omega
   split
   ·intro h
    have := h1 (k' + 1) (by omega) h
    show (List.foldr pairD nulD [symD [113, 117, 111, 116, 101], ((RF s n).1 (k' + 1)).1]).sz + 1 + 5 * k ≤ 5 * ((RF s n).1 (k' + 1)).2.1
    rw [listD_sz]
    simp only [Datum.szs, List.length_cons, List.length_nil, Datum.sz]
    omega
   split
   ·split
    ·exact .no
    split
    ·intro _; show 1 + 0 + 1 + 5 * k ≤ 5 * (k' + 2); omega
    split
    ·intro _; show 1 + 0 + 1 + 5 * k ≤ 5 * (k' + 2); omega
    split
    ·intro _; show 1 + 0 + 1 + 5 * k ≤ 5 * (k' + 2); omega
    split
    ·rename_i h4 h5 h6 h7 h8
     intro h
     have := h2 false (k' + 2) [] nulD (by omega) h
     show 1 + Datum.szs ((RF s n).2 false (k' + 2) [] nulD).1.1 + 1 + 5 * k ≤ 5 * ((RF s n).2 false (k' + 2) [] nulD).2.1
     simp only [Datum.szs, List.length_nil, Datum.sz] at this
     omega
    ·exact .no
   split
   ·intro h
    have := h2 true (k' + 1) [] nulD (by omega) h
    show (List.foldr pairD ((RF s n).2 true (k' + 1) [] nulD).1.2 ((RF s n).2 true (k' + 1) [] nulD).1.1).sz + 1 + 5 * k ≤ 5 * ((RF s n).2 true (k' + 1) [] nulD).2.1
    rw [listD_sz]
    simp only [Datum.szs, List.length_nil, Datum.sz] at this
    omega
   ·exact .no
  ·intro pair k l e hk
   rw [RF]
   dsimp only
   have hn : k ≤ nxtF s k ∧ nxtF s k ≤ s.length := nextF_le s (s.length + 1) k hk
   generalize nxtF s k = k' at *
   have hb : byteF s k' ≠ 0 → k' < s.length := fun h => by
    unfold byteF at h
    split at h
    ·assumption
    ·exact absurd rfl h
   split
   ·intro _
    show l.length + Datum.szs l + e.sz + 5 + 5 * k ≤ 5 * (k' + 1) + l.length + Datum.szs l + e.sz
    omega
   split
   ·rename_i h
    have := hb (by rw [h.1]; decide)
    have h3 := p1 (k' + 1) (by omega)
    have h4 := h1 (k' + 1) (by omega)
    split
    ·have h5 : ((RF s n).1 (k' + 1)).2.1 ≤ nxtF s ((RF s n).1 (k' + 1)).2.1 ∧ nxtF s ((RF s n).1 (k' + 1)).2.1 ≤ s.length := nextF_le s (s.length + 1) _ h3.1
     split
     ·intro hr
      have h6 := h2 pair _ l ((RF s n).1 (k' + 1)).1 h5.2 hr
      have h7 := h4 (by rcases h3.2 with h | h; exact h.1; omega)
      have h8 := e.sz_pos
      omega
     ·exact .no
    ·intro h
     exact absurd h (by show ¬((RF s n).1 (k' + 1)).2.2 = -1; omega)
   ·have h3 := p1 k' hn.2
    have h4 := h1 k' hn.2
    split
    ·intro hr
     have h6 := h2 pair _ (l ++ [((RF s n).1 k').1]) e h3.1 hr
     have h7 := h4 (by rcases h3.2 with h | h; exact h.1; omega)
     rw [List.length_append, Datum.szs_append, List.length_singleton, Datum.szs, Datum.szs] at h6
     omega
    ·intro h
     exact absurd h (by show ¬((RF s n).1 k').2.2 = -1; omega)
theorem topF_fit (s : List UInt8) : ∀ (n k : Nat) (l : List Datum), k ≤ s.length → Datum.szs l ≤ 5 * k → (∀ x ∈ l, x.rightD 0 = true) → (topF s n k l).2.2 = 0 → Datum.szs (topF s n k l).1 ≤ 5 * s.length ∧ ∀ x ∈ (topF s n k l).1, x.rightD 0 = true
 | 0, k, l, _, _, _, h => by rw [topF] at h; simp at h
 | n + 1, k, l, hk, hl, hr, h => by
  have hn : k ≤ nxtF s k ∧ nxtF s k ≤ s.length := nextF_le s (s.length + 1) k hk
  rw [topF] at h ⊢
  dsimp only at h ⊢
  generalize nxtF s k = k' at *
  split at h
  ·rename_i he
   rw [if_pos he]
   exact ⟨by show Datum.szs l ≤ _; omega, hr⟩
  ·rename_i he
   rw [if_neg he]
   have h3 := (RF_pos s (rdN s)).1 k' hn.2
   have h4 := (RF_fit s (rdN s)).1 k' hn.2
   split at h
   ·rename_i hb
    rw [if_pos hb]
    split at h
    ·rename_i hrt
     rw [if_pos hrt]
     have h5 := h4 (by rcases h3.2 with h | h; exact h.1; omega)
     refine topF_fit s n _ _ h3.1 ?_ ?_ h
     ·rw [Datum.szs_append, Datum.szs, Datum.szs]; omega
     ·intro x hx
      rcases List.mem_append.1 hx with hx | hx
      ·exact hr x hx
      ·rw [List.mem_singleton] at hx; rw [hx]; exact hrt
    ·simp at h
   ·simp at h
theorem readT_fit {s : List UInt8} (h : (readT s).2.2 = 0) : Datum.szs (readT s).1 ≤ 5 * s.length ∧ ∀ x ∈ (readT s).1, x.rightD 0 = true := by
 unfold readT at h ⊢
 split at h
 ·simp at h
 ·rename_i hs
  rw [if_neg hs]
  exact topF_fit s _ 0 [] (Nat.zero_le _) (by simp [Datum.szs]) (by simp) h
end Go.Cb
namespace Go.Cb
open Go.Proofs
set_option maxRecDepth 100000
set_option maxHeartbeats 4000000
def corT (s : List UInt8) : Datum × Bool := if (readT s).2.2 = 0 then ((expU (readT s).1).1, (expU (readT s).1).2 == 0) else (zerD, false)
theorem core07_c (s : List UInt8) (hs : s.length ≤ 100000) : ACallP Tryz.prog 14 [.str s] (.tup [.agg (corT s).1.cells, .bool (corT s).2]) := by
 have hr := read03_c s
 unfold readTP at hr
 unfold corT
 by_cases h : (readT s).2.2 = 0
 ·have hx := expand04_c (readT s).1 (by have := (readT_fit h).1; omega)
  unfold expUP at hx
  rw [if_pos h]
  generalize expU (readT s).1 = E at *
  generalize readT s = R at *
  refine ACall.of_body tt_ok Tryz.func14 rfl rfl (n := 25) rfl rfl ?_
  conv => whnf
  repeat' (first|refine aA2 ?_|((first|refine pC (hr) wR ?_|refine pC (hx) wR ?_|intro _);conv=>whnf)|(refine zX (fun hc=>?_) (fun hc=>?_)<;>(try simp only [SY] at hc)<;>first|omega|(conv=>whnf)))
  all_goals try exact absurd h (by assumption)
  exact PRet.pure (Wk.refl _)
 ·rw [if_neg h]
  generalize readT s = R at *
  refine ACall.of_body tt_ok Tryz.func14 rfl rfl (n := 25) rfl rfl ?_
  conv => whnf
  repeat' (first|refine aA2 ?_|((first|refine pC (hr) wR ?_|intro _);conv=>whnf)|(refine zX (fun hc=>?_) (fun hc=>?_)<;>(try simp only [SY] at hc)<;>first|omega|(conv=>whnf)))
  all_goals try exact absurd (by assumption) h
  exact PRet.pure wA
abbrev awS : List UInt8 := [40, 40, 108, 97, 109, 98, 100, 97, 32, 40, 120, 41, 32, 40, 43, 32, 120, 32, 49, 41, 41, 32, 50, 41]
def awD : Bool := (corT awS).1.sz ≤ 1000 && (resF rkD (-1) (corT awS).1).e == 0 && (resF rkD (-1) (corT awS).1).p.consts.length == 2 && (resF rkD (-1) (corT awS).1).p.body.op == 5 && (resF rkD (-1) (corT awS).1).p.body.t.map Trm.op == [4, 0]
theorem aw_ok : awD = true := by kernel_rfl
theorem awake07_c : ACallP Tryz.prog 9 [] (.bool true) := by
 have hcore := core07_c awS (by decide)
 have hok := aw_ok
 unfold awD at hok
 generalize (corT awS) = C at *
 obtain ⟨D, w⟩ := C
 dsimp only at hok hcore
 simp only [Bool.and_eq_true, beq_iff_eq, decide_eq_true_eq] at hok
 obtain ⟨⟨⟨⟨h1, h2⟩, h3⟩, h4⟩, h5⟩ := hok
 have hR := resolveP_d D (by omega)
 unfold resPV at hR
 generalize resF rkD (-1) D = O at *
 refine ACall.of_body tt_ok Tryz.func9 rfl rfl (n := 44) rfl rfl ?_
 conv => whnf
 repeat' (first|refine aA2 ?_|((first|refine pC (hcore) wR ?_|refine pC (hR) wR ?_|intro _);conv=>whnf)|(refine zX (fun hc=>?_) (fun hc=>?_)<;>(try simp only [SY] at hc)<;>omega))
 have hb : (O.e == 0 && (O.p.consts.length : Int) == 2 && O.p.body.op == 5 && (O.p.body.t.length : Int) == 2 && (O.p.body.t.getD 0 (Dfl.d : Trm)).op == 4) = true := by
  rw [h2, h3, h4]
  generalize O.p.body.t = T at *
  rcases T with _ | ⟨a, _ | ⟨b, _ | ⟨c, T⟩⟩⟩
  ·simp at h5
  ·simp at h5
  ·simp at h5
   simp [h5.1]
  ·simp at h5
 rw [hb]
 exact PRet.pure (Wk.refl _)
end Go.Cb
namespace Go.Cb
open Go.Proofs
set_option maxRecDepth 100000
set_option maxHeartbeats 4000000
mutual
theorem Datum.few_sz : ∀ (d : Datum) (n : Int), 0 ≤ d.few n → (d.sz : Int) + d.few n = n
 | .mk _ _ _ _ l, n, h => by
  rw [Datum.few] at h ⊢
  rw [Datum.sz]
  have := Datum.fews_sz l (n - 1) h
  omega
theorem Datum.fews_sz : ∀ (l : List Datum) (n : Int), 0 ≤ Datum.fews l n → (Datum.szs l : Int) + Datum.fews l n = n
 | [], n, h => by rw [Datum.szs, Datum.fews]; omega
 | x :: xs, n, h => by
  rw [Datum.fews] at h ⊢
  rw [Datum.szs]
  split at h
  ·rename_i hn
   rw [if_pos hn]
   have h2 := Datum.fews_sz xs (x.few n) h
   have := Datum.few_sz x n (by omega)
   omega
  ·omega
end
end Go.Cb
namespace Go.Cb
open Go.Proofs
set_option maxRecDepth 100000
set_option maxHeartbeats 4000000
end Go.Cb
namespace Go.Cb
open Go.Proofs
set_option maxRecDepth 100000
set_option maxHeartbeats 4000000
theorem sym07_c (s : List UInt8) : ACallP Tryz.prog 19 [.str s] (.agg (symD s).cells) := by
 refine ACall.of_body tt_ok Tryz.func19 rfl rfl (n := 5) rfl rfl ?_
 conv => whnf
 repeat' (first|refine aA2 ?_|((intro _);conv=>whnf)|(refine zX (fun hc=>?_) (fun hc=>?_)<;>(try simp only [SY] at hc)<;>omega))
 exact PRet.pure DatOf.wk
theorem list02_e {x : PV} {l : List Datum} [h : SlOf Datum.pv 5 x l] : ACallP Tryz.prog 18 [x] (.agg (listD l).cells) :=
 ACall.wk (args' := [.sl 5 (l.map Datum.pv) none]) (list02_c l) (.cons h.wk .nil)
end Go.Cb
namespace Go.Cb
open Go.Proofs
set_option maxRecDepth 100000
set_option maxHeartbeats 4000000
abbrev EnvM := List (Int × Nat)
structure Clo where
 v : List Int
 rest : Bool
 body : Trm
 env : EnvM
inductive Vl where
 | mk (k n d : Int) (s : List UInt8) (l : List Vl) (p : Option Clo) (c : Option Nat)
def Vl.k : Vl → Int | .mk k _ _ _ _ _ _ => k
def Vl.n : Vl → Int | .mk _ n _ _ _ _ _ => n
def Vl.d : Vl → Int | .mk _ _ d _ _ _ _ => d
def Vl.s : Vl → List UInt8 | .mk _ _ _ s _ _ _ => s
def Vl.l : Vl → List Vl | .mk _ _ _ _ l _ _ => l
def Vl.p : Vl → Option Clo | .mk _ _ _ _ _ p _ => p
def Vl.c : Vl → Option Nat | .mk _ _ _ _ _ _ c => c
def envPV : EnvM → PV
 | [] => .np
 | (v, a) :: e => .ep [.int .i64 v, .ptr a 0, envPV e]
abbrev Clo.cells (c : Clo) : List PV := [.sl 1 (c.v.map (PV.int .i64)) none, .bool c.rest, .int .i64 c.body.op, .int .i64 c.body.n, .sl 1 (c.body.v.map (PV.int .i64)) none, .sl 4 (c.body.t.map Trm.pv) none, envPV c.env, .int .i64 (-1), .nil]
def cloPV : Option Clo → PV
 | none => .np
 | some c => .ep c.cells
def cellPV : Option Nat → PV
 | none => .np
 | some a => .ptr a 0
mutual
def Vl.pv : Vl → PV
 | .mk k n d s l p c => .agg [.int .i64 k, .int .i64 n, .int .i64 d, .str s, .sl 7 (Vl.pvs l) none, cloPV p, cellPV c]
def Vl.pvs : List Vl → List PV
 | [] => []
 | x :: xs => Vl.pv x :: Vl.pvs xs
end
theorem Vl.pvs_eq : ∀ l : List Vl, Vl.pvs l = l.map Vl.pv
 | [] => rfl
 | x :: xs => by simp only [Vl.pvs, List.map_cons, Vl.pvs_eq xs]
def Vl.cells (x : Vl) : List PV := [.int .i64 x.k, .int .i64 x.n, .int .i64 x.d, .str x.s, .sl 7 (x.l.map Vl.pv) none, cloPV x.p, cellPV x.c]
abbrev valC (x : Vl) : List PV := [.int .i64 x.k, .int .i64 x.n, .int .i64 x.d, .str x.s, .sl 7 (x.l.map Vl.pv) none, cloPV x.p, cellPV x.c]
abbrev celC (x : Vl) (r : Bool) : List PV := [.int .i64 x.k, .int .i64 x.n, .int .i64 x.d, .str x.s, .sl 7 (x.l.map Vl.pv) none, cloPV x.p, cellPV x.c, .bool r]
theorem Vl.pv_eq (x : Vl) : x.pv = .agg x.cells := by
 cases x; simp only [Vl.pv, Vl.cells, Vl.pvs_eq, Vl.k, Vl.n, Vl.d, Vl.s, Vl.l, Vl.p, Vl.c]
instance : CellsOf Vl.pv Vl.cells := ⟨fun x => by rw [Vl.pv_eq]; rfl⟩
mutual
theorem Vl.ind_aux {p : Vl → Prop} (h : ∀ x : Vl, (∀ y ∈ x.l, p y) → p x) : ∀ d, p d
 | .mk k n d s l pr c => h (.mk k n d s l pr c) (Vl.ind_auxs h l)
theorem Vl.ind_auxs {p : Vl → Prop} (h : ∀ x : Vl, (∀ y ∈ x.l, p y) → p x) : ∀ (l : List Vl), ∀ x ∈ l, p x
 | [] => by simp
 | y :: ys => List.forall_mem_cons.2 ⟨Vl.ind_aux h y, Vl.ind_auxs h ys⟩
end
theorem Vl.ind {p : Vl → Prop} (h : ∀ x : Vl, (∀ y ∈ x.l, p y) → p x) (d : Vl) : p d := Vl.ind_aux h d
instance : Dfl Vl := ⟨.mk 0 0 0 [] [] none none⟩
instance (priority := high) ElOf.vsame (t : Vl) : ElOf Vl.pv (Vl.pv t) t := ⟨Wk.refl _, WkL.refl _⟩
instance (priority := high) ElOf.vcells (t : Vl) : ElOf Vl.pv (.agg t.cells) t := ⟨by rw [Vl.pv_eq]; exact Wk.refl _, by rw [Vl.pv_eq]; exact WkL.refl _⟩
theorem ElOf.ofV {x : List PV} {t : Vl} (h : WkL x t.cells) : ElOf Vl.pv (.agg x) t := ⟨by rw [Vl.pv_eq]; exact Wk.agg h, by rw [Vl.pv_eq]; exact h⟩
instance (priority := high) ElOf.vparts (t : Vl) (tk : Option Tok) : ElOf Vl.pv (.agg [.int .i64 (Vl.k t), .int .i64 (Vl.n t), .int .i64 (Vl.d t), .str (Vl.s t), .sl 7 ((Vl.l t).map Vl.pv) tk, cloPV (Vl.p t), cellPV (Vl.c t)]) t :=
 ElOf.ofV (.cons (Wk.refl _) (.cons (Wk.refl _) (.cons (Wk.refl _) (.cons (Wk.refl _) (.cons (Wk.tok _ _ _) (.cons (Wk.refl _) (.cons (Wk.refl _) .nil)))))))
class PtrOf {α : Type} (f : α → PV) (x : PV) (v : outParam α) : Prop where
 h : x = f v
instance PtrOf.none1 : PtrOf cloPV .np none := ⟨rfl⟩
instance PtrOf.none2 : PtrOf cellPV .np none := ⟨rfl⟩
instance PtrOf.some2 (a : Nat) : PtrOf cellPV (.ptr a 0) (some a) := ⟨rfl⟩
instance (priority := high) PtrOf.same {α : Type} (f : α → PV) (v : α) : PtrOf f (f v) v := ⟨rfl⟩
instance ElOf.vmk (a b c : Int) (s : List UInt8) (x y z : PV) (l : List Vl) (p : Option Clo) (q : Option Nat) [h : SlOf Vl.pv 7 x l] [hy : PtrOf cloPV y p] [hz : PtrOf cellPV z q] : ElOf Vl.pv (.agg [.int .i64 a, .int .i64 b, .int .i64 c, .str s, x, y, z]) (.mk a b c s l p q) :=
 ElOf.ofV (.cons (Wk.refl _) (.cons (Wk.refl _) (.cons (Wk.refl _) (.cons (Wk.refl _) (.cons h.wk (.cons (by rw [hy.h]; exact Wk.refl _) (.cons (by rw [hz.h]; exact Wk.refl _) .nil)))))))
theorem ValOf.wk {x : PV} {t : Vl} [h : ElOf Vl.pv x t] : Wk x (.agg t.cells) := by rw [← Vl.pv_eq]; exact h.wk
theorem normN {x : PV} {l : List PV} {K : List PV → Prop} (hx : normC x = x) (h : normK l fun r => K (x :: r)) : normK (x :: l) K := by
 rw [normK_eq] at h ⊢
 rw [List.map_cons, hx]
 exact h
theorem nC {p : Option Clo} : normC (cloPV p) = cloPV p := by cases p <;> rfl
theorem nD {c : Option Nat} : normC (cellPV c) = cellPV c := by cases c <;> rfl
abbrev zerV : Vl := .mk 0 0 0 [] [] none none
mutual
def valV : Datum → Vl
 | .mk k n d s l => .mk k n d s (valVs l) none none
def valVs : List Datum → List Vl
 | [] => []
 | x :: xs => valV x :: valVs xs
end
theorem valVs_eq : ∀ l : List Datum, valVs l = l.map valV
 | [] => rfl
 | x :: l => by rw [valVs, valVs_eq l]; rfl
theorem valV_eq (d : Datum) : valV d = .mk d.kind d.n d.d d.s (d.l.map valV) none none := by cases d; rw [valV, valVs_eq]; rfl
abbrev Hp := List (Nat × Vl × Bool)
def hpE (h : Hp) : List Ent := h.map fun c => .box c.1 (celC c.2.1 c.2.2)
def fndM : EnvM → Int → Option Nat
 | [], _ => none
 | (x, a) :: e, v => if x = v then some a else fndM e v
structure MSt where
 fuel : Int
 out : List UInt8
 alive : List Bool
 to : Int
 val : Vl
 h : Hp
abbrev mcB (K : List Vl) (t : Tok) (s : MSt) : List PV := [.sl 7 (K.map Vl.pv) none, .nil, .int .i64 s.fuel, .str s.out, .ms t, .int .i64 s.to, .int .i64 s.val.k, .int .i64 s.val.n, .int .i64 s.val.d, .str s.val.s, .sl 7 (s.val.l.map Vl.pv) none, cloPV s.val.p, cellPV s.val.c]
abbrev mcE (b : Nat) (K : List Vl) (t : Tok) (s : MSt) : List Ent := .box b (mcB K t s) :: .row t (s.alive.map PV.bool) :: hpE s.h
end Go.Cb
namespace Go.Cb
open Go.Proofs
set_option maxRecDepth 100000
set_option maxHeartbeats 4000000
def digT : Nat → Nat → List UInt8
 | 0, _ => []
 | f + 1, n => if n < 10 then [(48 + n).toUInt8] else digT f (n / 10) ++ [(48 + n % 10).toUInt8]
def numT (n d : Int) : List UInt8 := if numRight n d = false then [] else (if n < 0 then [45] else []) ++ digT 10 n.natAbs ++ (if d = 1 then [] else 47 :: digT 10 d.natAbs)
theorem digT_len : ∀ (f n : Nat), (digT f n).length ≤ f
 | 0, _ => Nat.le_refl _
 | f + 1, n => by
  rw [digT]
  split
  ·simp
  ·have := digT_len f (n / 10); simp; omega
theorem numT_len (n d : Int) : (numT n d).length ≤ 22 := by
 have h1 := digT_len 10 n.natAbs
 have h2 := digT_len 10 d.natAbs
 unfold numT
 split
 ·simp
 ·simp only [List.length_append]
  split <;> split <;> simp <;> omega
abbrev prcT : List UInt8 := [35, 60, 112, 114, 111, 99, 101, 100, 117, 114, 101, 62]
mutual
def wV (tail : Bool) : Vl → List UInt8 → List UInt8
 | .mk k n d s l _ _, out =>
  let core := fun (out : List UInt8) =>
   if 1000 ≤ out.length then out else
   if k = 0 then out ++ numT n d else
   if k = 1 then out ++ (if bitsOf .and .i64 n 1 = 0 then [35, 102] else [35, 116]) else
   if k = 2 then out ++ s else
   if k = 3 then out ++ [34] ++ s ++ [34] else
   if k = 4 then out ++ [40, 41] else
   if k = 5 then out ++ [35, 118] else
   if k = 11 then out ++ [35, 60, 98, 111, 120, 62] else
   if k = 12 then out ++ [35, 60, 117, 110, 115, 101, 116, 62] else
   if k = 8 ∨ k = 9 ∨ k = 10 then out ++ prcT else
   if k = 7 then wL true l (out ++ [35, 40]) ++ [41] else wP l (out ++ [40])
  if tail = false then core out else
  if k = 6 ∧ out.length < 1000 then wP l (out ++ [32]) else
  if k = 4 then out ++ [41] else core (out ++ [32, 46, 32]) ++ [41]
def wL (first : Bool) : List Vl → List UInt8 → List UInt8
 | [], out => out
 | x :: xs, out => if 1000 ≤ out.length then out else wL false xs (wV false x (if first = true then out else out ++ [32]))
def wP : List Vl → List UInt8 → List UInt8
 | [a, b], out => wV true b (wV false a out)
 | _, out => out
end
def coreT (x : Vl) (out : List UInt8) : List UInt8 :=
 if 1000 ≤ out.length then out else
 if x.k = 0 then out ++ numT x.n x.d else
 if x.k = 1 then out ++ (if bitsOf .and .i64 x.n 1 = 0 then [35, 102] else [35, 116]) else
 if x.k = 2 then out ++ x.s else
 if x.k = 3 then out ++ [34] ++ x.s ++ [34] else
 if x.k = 4 then out ++ [40, 41] else
 if x.k = 5 then out ++ [35, 118] else
 if x.k = 11 then out ++ [35, 60, 98, 111, 120, 62] else
 if x.k = 12 then out ++ [35, 60, 117, 110, 115, 101, 116, 62] else
 if x.k = 8 ∨ x.k = 9 ∨ x.k = 10 then out ++ prcT else
 if x.k = 7 then wL true x.l (out ++ [35, 40]) ++ [41] else wP x.l (out ++ [40])
theorem wV_false (x : Vl) (out : List UInt8) : wV false x out = coreT x out := by cases x; rw [wV]; rfl
theorem wV_true (x : Vl) (out : List UInt8) : wV true x out = if x.k = 6 ∧ out.length < 1000 then wP x.l (out ++ [32]) else if x.k = 4 then out ++ [41] else coreT x (out ++ [32, 46, 32]) ++ [41] := by cases x; rw [wV]; rfl
def txtV (x : Vl) : List UInt8 := (wV false x []).take 1000
mutual
def Vl.tx : Vl → Bool
 | .mk k _ _ s l _ _ => decide (0 ≤ k ∧ k ≤ 12) && (k != 6 || l.length == 2) && decide (s.length ≤ 1000000000) && Vl.txs l
def Vl.txs : List Vl → Bool
 | [] => true
 | x :: xs => Vl.tx x && Vl.txs xs
end
theorem Vl.txs_iff : ∀ {l : List Vl}, Vl.txs l = true ↔ ∀ x ∈ l, x.tx = true
 | [] => by simp [Vl.txs]
 | x :: l => by rw [Vl.txs, Bool.and_eq_true, Vl.txs_iff]; simp
theorem Vl.tx_eq (x : Vl) : x.tx = true ↔ (0 ≤ x.k ∧ x.k ≤ 12) ∧ (x.k = 6 → x.l.length = 2) ∧ x.s.length ≤ 1000000000 ∧ ∀ y ∈ x.l, y.tx = true := by
 cases x with
 | mk k n d s l p c =>
  rw [Vl.tx]
  simp only [Bool.and_eq_true, decide_eq_true_eq, Bool.or_eq_true, bne_iff_ne, ne_eq, beq_iff_eq, Vl.txs_iff]
  show _ ↔ (0 ≤ k ∧ k ≤ 12) ∧ (k = 6 → l.length = 2) ∧ s.length ≤ 1000000000 ∧ ∀ y ∈ l, y.tx = true
  constructor
  ·rintro ⟨⟨⟨h1, h2⟩, h3⟩, h4⟩
   exact ⟨h1, fun h => h2.resolve_left fun h' => h' h, h3, h4⟩
  ·rintro ⟨h1, h2, h3, h4⟩
   refine ⟨⟨⟨h1, ?_⟩, h3⟩, h4⟩
   by_cases h : k = 6
   ·exact .inr (h2 h)
   ·exact .inl h
def lenB (L : Nat) : Nat := if 1000 ≤ L then L else 1000002000 + 8 * (1000 - L)
def LenOk (x : Vl) : Prop := ∀ out : List UInt8, (out.length ≤ (wV false x out).length ∧ out.length ≤ (wV true x out).length) ∧
 (out.length < 1000 → (wV false x out).length ≤ lenB out.length ∧ (wV true x out).length ≤ lenB out.length) ∧
 (1000 ≤ out.length → wV false x out = out ∧ (wV true x out).length ≤ out.length + 4)
theorem lenB_mono {L M : Nat} (h : L ≤ M) (hM : M < 1000) : lenB M ≤ lenB L := by unfold lenB; rw [if_neg (by omega), if_neg (by omega)]; omega
theorem coreT_big {x : Vl} {out : List UInt8} (h : 1000 ≤ out.length) : coreT x out = out := by rw [coreT, if_pos h]
theorem wL_len : ∀ (l : List Vl) (first : Bool) (out : List UInt8), (∀ x ∈ l, LenOk x) → out.length ≤ (wL first l out).length ∧ (out.length < 1000 → (wL first l out).length ≤ lenB out.length) ∧ (1000 ≤ out.length → wL first l out = out)
 | [], first, out, _ => by
  rw [wL]
  exact ⟨Nat.le_refl _, fun h => by unfold lenB; rw [if_neg (by omega)]; omega, fun _ => rfl⟩
 | x :: xs, first, out, h => by
  rw [wL]
  by_cases hb : 1000 ≤ out.length
  ·rw [if_pos hb]
   exact ⟨Nat.le_refl _, fun h => by omega, fun _ => rfl⟩
  ·rw [if_neg hb]
   obtain ⟨O, hO⟩ : ∃ O, O = (if first = true then out else out ++ [32]) := ⟨_, rfl⟩
   rw [← hO]
   have hl : out.length ≤ O.length ∧ O.length ≤ out.length + 1 := by rw [hO]; split <;> simp
   have h1 := h x (by simp) O
   have h2 := wL_len xs false (wV false x O) fun y hy => h y (List.mem_cons_of_mem _ hy)
   have e0 : lenB out.length = 1000002000 + 8 * (1000 - out.length) := by unfold lenB; rw [if_neg hb]
   refine ⟨by omega, fun _ => ?_, fun h => by omega⟩
   by_cases hO2 : O.length < 1000
   ·have h3 := (h1.2.1 hO2).1
    have h4 := lenB_mono hl.1 hO2
    by_cases hw : (wV false x O).length < 1000
    ·have h5 := h2.2.1 hw
     have h6 := lenB_mono h1.1.1 hw
     omega
    ·rw [h2.2.2 (by omega)]; omega
   ·rw [(h1.2.2 (by omega)).1] at h2 ⊢
    rw [h2.2.2 (by omega)]; omega
theorem wP_other : ∀ (l : List Vl) (out : List UInt8), ¬l.length = 2 → wP l out = out
 | [], _, _ => by rw [wP]; intro a b h; cases h
 | [_], _, _ => by rw [wP]; intro a b h; cases h
 | [_, _], _, h => absurd rfl h
 | _ :: _ :: _ :: _, _, _ => by rw [wP]; intro a b h; cases h
theorem wP_len (l : List Vl) (out : List UInt8) (h : ∀ x ∈ l, LenOk x) : out.length ≤ (wP l out).length ∧ (out.length < 1000 → (wP l out).length ≤ lenB out.length + 4) ∧ (1000 ≤ out.length → (wP l out).length ≤ out.length + 4) := by
 have k : ∀ o : List UInt8, o.length ≤ o.length ∧ (o.length < 1000 → o.length ≤ lenB o.length + 4) ∧ (1000 ≤ o.length → o.length ≤ o.length + 4) := fun o => ⟨Nat.le_refl _, fun h => by unfold lenB; rw [if_neg (by omega)]; omega, fun _ => by omega⟩
 by_cases h2 : l.length = 2
 ·obtain ⟨a, b, rfl⟩ : ∃ a b, l = [a, b] := by
   rcases l with _ | ⟨a, _ | ⟨b, _ | ⟨c, l⟩⟩⟩
   ·simp at h2
   ·simp at h2
   ·exact ⟨a, b, rfl⟩
   ·simp at h2
  rw [wP]
  have h1 := h a (by simp) out
  have h2 := h b (by simp) (wV false a out)
  refine ⟨by omega, fun hb => ?_, fun hb => ?_⟩
  ·have h3 := (h1.2.1 hb).1
   by_cases hw : (wV false a out).length < 1000
   ·have h5 := (h2.2.1 hw).2
    have h6 := lenB_mono h1.1.1 hw
    omega
   ·have h5 := (h2.2.2 (by omega)).2
    omega
  ·rw [(h1.2.2 hb).1] at h2 ⊢
   exact (h2.2.2 hb).2
 ·rw [wP_other l out h2]
  exact k out
theorem lenOk (x : Vl) : x.tx = true → LenOk x := by
 induction x using Vl.ind with
 | h x ih =>
  intro ht
  rw [Vl.tx_eq] at ht
  have ih' : ∀ y ∈ x.l, LenOk y := fun y hy => ih y hy (ht.2.2.2 y hy)
  have hs := ht.2.2.1
  have core : ∀ out : List UInt8, out.length ≤ (coreT x out).length ∧ (out.length < 1000 → (coreT x out).length ≤ lenB out.length) := fun out => by
   by_cases hb : 1000 ≤ out.length
   ·rw [coreT_big hb]; exact ⟨Nat.le_refl _, fun h => by omega⟩
   have e0 : lenB out.length = 1000002000 + 8 * (1000 - out.length) := by unfold lenB; rw [if_neg hb]
   have hn := numT_len x.n x.d
   rw [coreT, if_neg hb]
   split
   ·simp only [List.length_append]; omega
   split
   ·split <;> simp <;> omega
   split
   ·simp only [List.length_append]; omega
   split
   ·simp only [List.length_append, List.length_cons, List.length_nil]; omega
   split
   ·simp; omega
   split
   ·simp; omega
   split
   ·simp; omega
   split
   ·simp; omega
   split
   ·unfold prcT; simp; omega
   split
   ·have h1 := wL_len x.l true (out ++ [35, 40]) ih'
    simp only [List.length_append, List.length_cons, List.length_nil] at h1 ⊢
    refine ⟨by omega, fun _ => ?_⟩
    by_cases h2 : out.length + 2 < 1000
    ·have h3 := h1.2.1 (by omega)
     have e1 : lenB (out.length + 2) = 1000002000 + 8 * (1000 - (out.length + 2)) := by unfold lenB; rw [if_neg (by omega)]
     simp only [Nat.zero_add, Nat.reduceAdd] at h3 ⊢
     omega
    ·rw [h1.2.2 (by omega)]; simp; omega
   ·have h1 := wP_len x.l (out ++ [40]) ih'
    simp only [List.length_append, List.length_cons, List.length_nil] at h1 ⊢
    refine ⟨by omega, fun _ => ?_⟩
    by_cases h2 : out.length + 1 < 1000
    ·have h3 := h1.2.1 (by omega)
     have e1 : lenB (out.length + 1) = 1000002000 + 8 * (1000 - (out.length + 1)) := by unfold lenB; rw [if_neg (by omega)]
     simp only [Nat.zero_add] at h3
     omega
    ·have h3 := h1.2.2 (by omega)
     omega
  intro out
  rw [wV_false, wV_true]
  have c0 := core out
  have c3 := core (out ++ [32, 46, 32])
  have p1 := wP_len x.l (out ++ [32]) ih'
  simp only [List.length_append, List.length_cons, List.length_nil, Nat.zero_add, Nat.reduceAdd] at c3 p1
  refine ⟨⟨c0.1, ?_⟩, fun hb => ⟨c0.2 hb, ?_⟩, fun hb => ⟨coreT_big hb, ?_⟩⟩
  ·split
   ·omega
   split
   ·simp
   ·simp; omega
  ·have e0 : lenB out.length = 1000002000 + 8 * (1000 - out.length) := by unfold lenB; rw [if_neg (by omega)]
   split
   ·by_cases h2 : out.length + 1 < 1000
    ·have h3 := p1.2.1 h2
     have e1 : lenB (out.length + 1) = 1000002000 + 8 * (1000 - (out.length + 1)) := by unfold lenB; rw [if_neg (by omega)]
     omega
    ·have h3 := p1.2.2 (by omega)
     omega
   split
   ·simp; omega
   ·rw [List.length_append]
    show _ + 1 ≤ _
    by_cases h2 : out.length + 3 < 1000
    ·have h3 := c3.2 h2
     have e1 : lenB (out.length + 3) = 1000002000 + 8 * (1000 - (out.length + 3)) := by unfold lenB; rw [if_neg (by omega)]
     omega
    ·rw [coreT_big (by simp; omega)]
     simp; omega
  ·rw [if_neg (by omega)]
   split
   ·simp
   ·rw [coreT_big (by simp; omega)]
    simp
mutual
def Vl.sz : Vl → Nat
 | .mk _ _ _ _ l _ _ => 1 + Vl.szs l
def Vl.szs : List Vl → Nat
 | [] => 0
 | x :: xs => Vl.sz x + Vl.szs xs
end
theorem Vl.szs_mem : ∀ {l : List Vl} {x : Vl}, x ∈ l → x.sz ≤ Vl.szs l
 | y :: l, x, h => by
  rw [Vl.szs]
  rcases List.mem_cons.1 h with h | h
  ·subst h; omega
  ·have := Vl.szs_mem h; omega
theorem Vl.sz_mem {x y : Vl} (h : y ∈ x.l) : y.sz < x.sz := by
 cases x with
 | mk k n d s l p c => rw [Vl.sz]; have := Vl.szs_mem (l := l) h; omega
theorem two_v {l : List Vl} (h : l.length = 2) : l = [l[0]'(by omega), l[1]'(by omega)] := by
 rcases l with _ | ⟨a, _ | ⟨b, _ | ⟨c, l⟩⟩⟩
 ·simp at h
 ·simp at h
 ·rfl
 ·simp at h
theorem wP_two {l : List Vl} (h : l.length = 2) (out : List UInt8) : wP l out = wV true (l[1]'(by omega)) (wV false (l[0]'(by omega)) out) := by
 conv => lhs; rw [two_v h]
 rw [wP]
end Go.Cb
namespace Go.Cb
open Go.Proofs
set_option maxRecDepth 100000
set_option maxHeartbeats 4000000
theorem TF_quote (nf : Int) (n : Nat) (d : Datum) (e : Env) (s : RsS) : TF nf (n + 1) (listD [symD kwQuote, d]) e s = (.mk 0 s.cs.length [] [], ⟨s.cs ++ [d], s.vars, s.lost⟩) := by
 have e1 : (listD [symD kwQuote, d]).kind = 6 := rfl
 have e2 : (listD [symD kwQuote, d]).its.1 = [symD kwQuote, d] := by rw [its_list]
 rw [TF, e1, e2]
 have e0 : ([symD kwQuote, d].getD 0 nulD) = symD kwQuote := rfl
 dsimp only
 rw [e0, if_neg (by decide), if_pos ⟨rfl, rfl⟩, if_pos (show (symD kwQuote).s = kwQuote from rfl)]
 rfl
theorem TF_lam1 (nf : Int) (n : Nat) (x : List UInt8) (d : Datum) (e : Env) (s : RsS) : TF nf (n + 1) (listD [symD kwLambda, listD [symD x], d]) e s =
  (.mk 4 0 [s.vars] [(TF nf n d ((x, s.vars) :: e) ⟨s.cs, s.vars + 1, s.lost⟩).1], (TF nf n d ((x, s.vars) :: e) ⟨s.cs, s.vars + 1, s.lost⟩).2) := by
 have e1 : (listD [symD kwLambda, listD [symD x], d]).kind = 6 := rfl
 have e2 : (listD [symD kwLambda, listD [symD x], d]).its.1 = [symD kwLambda, listD [symD x], d] := by rw [its_list]
 have e3 : (listD [symD x]).its = ([symD x], nulD) := its_list _
 rw [TF, e1, e2]
 have e0 : ([symD kwLambda, listD [symD x], d].getD 0 nulD) = symD kwLambda := rfl
 dsimp only
 rw [e0, if_neg (by decide), if_pos ⟨rfl, rfl⟩, if_neg (by decide), if_neg (by decide), if_neg (by decide), if_pos (show (symD kwLambda).s = kwLambda from rfl)]
 have e4 : formalsL (listD [symD x]) = [symD x] := by rw [formalsL, e3]; rfl
 dsimp only [List.getD, List.getElem?_cons_succ, List.getElem?_cons_zero, Option.getD_some]
 have e5 : (listD [symD x]).its.2.kind = 4 := by rw [e3]; rfl
 rw [e4]
 simp only [e5, ↓reduceIte]
 simp only [upE, List.length_cons, List.length_nil, List.range_succ, List.range_zero, List.nil_append, List.map_cons, List.map_nil, List.drop_succ_cons, List.drop_zero, allR, bndE]
 rw [show s.vars + ((0 : Nat) : Int) = s.vars by omega]
 rfl
theorem TF_app2 (nf : Int) (n : Nat) (f a : Datum) (hf : f.kind = 6) (e : Env) (s : RsS) : TF nf (n + 1) (listD [f, a]) e s =
  (.mk 5 0 [] [(TF nf n f e s).1, (TF nf n a e (TF nf n f e s).2).1], (TF nf n a e (TF nf n f e s).2).2) := by
 have e1 : (listD [f, a]).kind = 6 := rfl
 have e2 : (listD [f, a]).its.1 = [f, a] := by rw [its_list]
 rw [TF, e1, e2]
 have e0 : ([f, a].getD 0 nulD) = f := rfl
 dsimp only
 rw [e0, if_neg (by decide), if_neg (fun h => by omega)]
 rfl
theorem TF_ref (nf : Int) (n : Nat) (x : List UInt8) (v : Int) (e : Env) (s : RsS) : TF nf (n + 1) (symD x) ((x, v) :: e) s = (.mk 1 v [] [], s) := by
 rw [TF, if_pos (show (symD x).kind = 2 from rfl)]
 have : fndE ((x, v) :: e) (symD x).s = some v := by rw [fndE, if_pos (show x = (symD x).s from rfl)]
 rw [this]
def meaD (d : Datum) : Datum := listD [listD [symD kwLambda, listD [symD [120]], listD [listD [symD kwLambda, listD [symD [120]], symD [120]], listD [symD kwQuote, d]]], listD [symD kwQuote, nulD]]
abbrev meaB : Trm := .mk 5 0 [] [.mk 4 0 [1] [.mk 1 1 [] []], .mk 0 0 [] []]
abbrev meaT : Trm := .mk 5 0 [] [.mk 4 0 [0] [meaB], .mk 0 1 [] []]
theorem mea_TF (nf : Int) (n : Nat) (d : Datum) : TF nf (n + 5) (meaD d) [] ⟨[], 0, false⟩ = (meaT, ⟨[d, nulD], 2, false⟩) := by
 rw [meaD, TF_app2 _ _ _ _ rfl, TF_lam1, TF_app2 _ _ _ _ rfl, TF_lam1, TF_ref, TF_quote, TF_quote]
 rfl
theorem mea_sz (d : Datum) : ∃ n, (meaD d).sz = n + 5 ∧ n ≤ d.sz + 100 := by
 refine ⟨(meaD d).sz - 5, ?_, ?_⟩ <;> (unfold meaD; simp only [listD_szE, Datum.szs, List.length_cons, List.length_nil, symD, Datum.sz, nulD]; omega)
theorem mea_resF (ok : Prog → Bool) (nf : Int) (d : Datum) : ((resF ok nf (meaD d)).e = 0 ∧ (resF ok nf (meaD d)).p = ⟨[d, nulD], meaT⟩ ∧ ok ⟨[d, nulD], meaT⟩ = true) ∨ (resF ok nf (meaD d)).e = 3 := by
 obtain ⟨n, hn, _⟩ := mea_sz d
 unfold resF
 rw [hn, mea_TF]
 dsimp only
 by_cases h1 : coreD (meaD d) = false
 ·rw [if_pos h1]; exact .inr rfl
 ·rw [if_neg h1, if_neg (by decide)]
  by_cases h2 : ok ⟨[d, nulD], meaT⟩ = false
  ·rw [if_pos h2]; exact .inr rfl
  ·rw [if_neg h2]
   exact .inl ⟨rfl, rfl, by simpa using h2⟩
theorem rightD_tx (d : Datum) : ∀ deep : Int, d.rightD deep = true → d.bulk ≤ 1000000000 → (valV d).tx = true := by
 induction d using Datum.ind with
 | h d ih =>
  intro deep h hb
  rw [Datum.rightD_eq, Bool.and_eq_true] at h
  have key : ∀ l : List Datum, (∀ y ∈ l, ∀ deep : Int, y.rightD deep = true → y.bulk ≤ 1000000000 → (valV y).tx = true) → ∀ deep, Datum.rightDs l deep = true → Datum.bulks l ≤ 1000000000 → ∀ v ∈ l.map valV, v.tx = true := by
   intro l
   induction l with
   | nil => intro _ _ _ _ v hv; cases hv
   | cons x l ihl =>
    intro hy deep h hb v hv
    rw [Datum.rightDs, Bool.and_eq_true] at h
    rw [Datum.bulks] at hb
    rw [List.map_cons] at hv
    rcases List.mem_cons.1 hv with rfl | hv
    ·exact hy x (by simp) deep h.1 (by omega)
    ·exact ihl (fun y hm => hy y (List.mem_cons_of_mem _ hm)) deep h.2 (by omega) v hv
  have hbe := d.bulk_eq
  rw [Vl.tx_eq, valV_eq]
  have hk := key d.l ih _ h.2 (by omega)
  have h1 := h.1
  unfold bareBad at h1
  simp only [Bool.not_eq_true', Bool.or_eq_false_iff, decide_eq_false_iff_not] at h1
  refine ⟨?_, ?_, ?_, hk⟩
  ·show 0 ≤ d.kind ∧ d.kind ≤ 12
   have := h1.1.1.1.1.1
   omega
  ·intro h6
   have h6' : d.kind = 6 := h6
   have h7 := h1.2.1
   rw [h6'] at h7
   show (d.l.map valV).length = 2
   rw [List.length_map]
   simp at h7
   omega
  ·show d.s.length ≤ 1000000000
   omega
theorem rightD_kind (d : Datum) (h : d.rightD 0 = true) : ¬d.kind = 12 := by
 rw [Datum.rightD_eq, Bool.and_eq_true] at h
 have h1 := h.1
 unfold bareBad at h1
 simp only [Bool.not_eq_true', Bool.or_eq_false_iff, decide_eq_false_iff_not] at h1
 have := h1.1.1.1.1.1
 omega
end Go.Cb
namespace Go.Cb
open Go.Proofs
set_option maxRecDepth 100000
set_option maxHeartbeats 4000000
theorem drMc06baa {p q : Prop} (k : q) (h : q → p := by intro hq; first | exact PDraw.sP (some 21) rfl [] [9,10,11] tt_ok mixed hq) : p := h k
theorem value_c (d : Datum) : d.sz ≤ 1000000000 → ACallP Tryz.prog 23 [.agg d.cells] (.agg (valV d).cells) := by
 induction d using Datum.ind with
 | h d ih =>
  intro hb
  have hz := d.sz_eq
  have hlen := Datum.szs_len d.l
  have ih' : ∀ x ∈ d.l, ACallP Tryz.prog 23 [.agg x.cells] (.agg (valV x).cells) := fun x hx => ih x hx (by have := Datum.szs_mem hx; omega)
  refine ACall.of_body tt_ok Tryz.func23 rfl rfl (n := 33) rfl rfl ?_
  conv => whnf
  repeat (first|refine aR2 ?_|((intro _);conv=>whnf))
  rename_i b1 b2 b3
  refine PLoop.gh (Ghost.trans (Ghost.nil 7 53 _) (Ghost.box (b := b3) (cs := [.int .i64 d.kind, .int .i64 d.n, .int .i64 d.d, .str d.s, .nil, .np, .np]) (cs' := [.int .i64 d.kind, .int .i64 d.n, .int .i64 d.d, .str d.s, .sl 7 (([] : List Vl).map Vl.pv) (some (nilTok 7 53)), .np, .np]) wA)) ?_
  refine PLoop.over [4, 14, 15, 16, 17, 18, 19, 20, 21, 22, 23, 24, 25, 26, 27, 28, 29, 30, 31] (fun (x : Nat × List Vl × Tok) => [(4, .int .i64 x.1)])
   (fun (x : Nat × List Vl × Tok) => [.box b3 [.int .i64 d.kind, .int .i64 d.n, .int .i64 d.d, .str d.s, .sl 7 (x.2.1.map Vl.pv) (some x.2.2), .np, .np], .tok x.2.2, .box b2 [.int .i64 0, .int .i64 0, .int .i64 0, .str [], .nil, .np, .np], .box b1 (datC d)])
   (fun x => x.1 ≤ d.l.length ∧ x.2.2.e = 53 ∧ x.2.1 = (d.l.map valV).take x.1) (fun x => d.l.length - x.1) (0, [], nilTok 7 53) ⟨Nat.zero_le _, rfl, rfl⟩ wA ?_
  rintro ⟨i, m, tk⟩ ⟨hi, htk, hm⟩
  dsimp only at hi htk hm ⊢
  have hml : m.length ≤ 1000000000 := by rw [hm, List.length_take]; simp; omega
  conv => whnf
  repeat' (first|refine aA2 ?_|((first|((apply zZ);(conv=>whnf);(repeat ((refine pC (ih' _ (List.getElem_mem _)) wR ?_);conv=>whnf));exact pZ)|refine drMc06baa ?_|intro _);conv=>whnf)|(refine zX (fun hc=>?_) (fun hc=>?_)<;>(try simp only [SY] at hc)<;>(conv=>whnf)))
  ·rename_i tb htb
   exact loopTo (i + 1, m ++ [valV d.l[i]], tb) ⟨by show i + 1 ≤ _; omega, htb, by show m ++ [valV d.l[i]] = (d.l.map valV).take (i + 1); rw [List.take_succ_eq_append_getElem (by simp; omega), ← hm]; simp⟩ (by show d.l.length - (i + 1) < d.l.length - i; omega) wA
  ·rw [List.take_of_length_le (by simp; omega)] at hm
   subst hm
   rw [valV_eq]
   exact PRet.pure ValOf.wk
theorem bind_c (e : EnvM) (v : Int) (x : Vl) (r : Bool) : ACall Tryz.prog 153 [envPV e, .int .i64 v, .agg x.cells, .bool r] [] (fun y Γ' => ∃ a, y = envPV ((v, a) :: e) ∧ Γ' = [.box a (celC x r)]) := by
 rcases e with _ | ⟨⟨w, c⟩, e⟩
 all_goals
  refine ACall.of_body tt_ok Tryz.func153 rfl rfl (n := 17) rfl rfl ?_
  conv => whnf
  repeat' (first|refine aA2 ?_|((intro _);conv=>whnf)|(refine zX (fun hc=>?_) (fun hc=>?_)<;>(try simp only [SY] at hc)<;>omega))
  rename_i b1 b2 b3
  exact PRet.freeze (b := b3) (Γ' := [.box b2 (celC x r)]) (Wk.refl _) ⟨b2, rfl, rfl⟩
theorem place_c (e : EnvM) (v : Int) (a : Nat) (h : fndM e v = some a) : ACallP Tryz.prog 128 [envPV e, .int .i64 v] (.ptr a 0) := by
 refine ACall.of_body tt_ok Tryz.func128 rfl rfl (n := 28) rfl rfl ?_
 conv => whnf
 skip
 refine PLoop.keep [0, 5, 6, 7, 8, 9, 10, 11, 12, 13, 14, 15, 16, 17, 18] (fun x : EnvM => [(0, envPV x)]) (fun x => fndM x v = some a) (fun x => x.length) e h wA ?_
 intro x hx
 rcases x with _ | ⟨⟨w, c⟩, x⟩
 ·cases hx
 rw [fndM] at hx
 conv => whnf
 repeat' (first|refine aA2 ?_|(refine zX (fun hc=>?_) (fun hc=>?_)<;>(try simp only [SY] at hc)<;>(conv=>whnf)))
 ·rw [if_neg hc] at hx
  exact loopTo x hx (by show x.length < x.length + 1; omega) wA
 ·rw [if_pos hc] at hx
  obtain rfl := Option.some.inj hx
  exact PRet.pure (Wk.refl _)
end Go.Cb
namespace Go.Cb
open Go.Proofs
set_option maxRecDepth 100000
set_option maxHeartbeats 4000000
theorem zIL {p K : Prop} (k : K) (h : p := by unfold maxLen; first | omega | (simp only [List.length_append, List.length_cons, List.length_nil]; omega)) : PSide p K := ⟨h, k⟩
theorem digits_c (n : Nat) (h : n < 10000000000) : ACallP Tryz.prog 133 [.int .i64 n] (.str (digT 10 n)) := by
 have hbyte : ∀ k : Nat, k < 10 → ((48 + k).toUInt8.toNat : Int) = 48 + (k : Int) := fun k hk => by
  have : (48 + k).toUInt8.toNat = 48 + k := by
   show (48 + k) % 256 = 48 + k
   omega
  omega
 refine ACall.of_body tt_ok Tryz.func133 rfl rfl (n := 23) rfl rfl ?_
 conv => whnf
 skip
 refine PLoop.keep [0, 3, 4, 5, 6, 7, 8, 9, 10, 11, 12, 13, 14, 15] (fun x : Nat × Nat × List UInt8 => [(0, .int .i64 x.2.1), (3, .str x.2.2)]) (fun x => 1 ≤ x.1 ∧ x.2.1 < 10 ^ x.1 ∧ x.2.2.length + x.1 = 10 ∧ digT x.1 x.2.1 ++ x.2.2 = digT 10 n) (fun x => x.2.1) (10, n, []) ⟨by show 1 ≤ 10; omega, by dsimp only; omega, rfl, by simp⟩ wA ?_
 rintro ⟨f, k, ds⟩ ⟨hf1, hk, hf, he⟩
 dsimp only at hf1 hk hf he ⊢
 have hk9 : k < 10 ^ 10 := Nat.lt_of_lt_of_le hk (Nat.pow_le_pow_right (by decide) (by omega))
 obtain ⟨f, rfl⟩ : ∃ f', f = f' + 1 := ⟨f - 1, by omega⟩
 have ht : (k : Int).tmod 10 = ((k % 10 : Nat) : Int) := (Int.ofNat_tmod ..).symm
 have hq : (k : Int).tdiv 10 = ((k / 10 : Nat) : Int) := (Int.ofNat_tdiv ..).symm
 conv => whnf
 repeat' (first|refine aA2 ?_|((intro _);conv=>whnf)|(refine zX (fun hc=>?_) (fun hc=>?_)<;>(try simp only [SY] at hc)<;>(conv=>whnf)))
 ·have hb := hbyte (k % 10) (Nat.mod_lt _ (by decide))
  refine ⟨⟨[(48 + k % 10).toUInt8], by rw [ht, ← hb]; rfl, ?_⟩⟩
  conv => whnf
  repeat' (first|refine aA2 ?_|((refine zIL ?_);conv=>whnf)|(refine zX (fun hc=>?_) (fun hc=>?_)<;>(try simp only [SY] at hc)<;>omega))
  rw [digT, if_neg (by omega), List.append_assoc] at he
  exact loopTo (f, k / 10, (48 + k % 10).toUInt8 :: ds) ⟨Nat.pos_of_ne_zero (fun h0 => by have h0' : f = 0 := h0; rw [h0'] at hk; simp at hk; omega), by show k / 10 < 10 ^ f; rw [Nat.pow_succ] at hk; omega, by show ds.length + 1 + f = 10; omega, he⟩ (by show k / 10 < k; omega) wA
 ·have hb := hbyte k (by omega)
  refine ⟨⟨[(48 + k).toUInt8], by rw [← hb]; rfl, ?_⟩⟩
  conv => whnf
  repeat' (first|((refine zIL ?_);conv=>whnf)|(refine zX (fun hc=>?_) (fun hc=>?_)<;>(try simp only [SY] at hc)<;>omega))
  rw [digT, if_pos (by omega)] at he
  rw [← he]
  exact PRet.pure (Wk.refl _)
theorem text1_c (n d : Int) : ACallP Tryz.prog 77 [.int .i64 n, .int .i64 d] (.str (numT n d)) := by
 have hr := right1_c n d
 have hN : numT n d = numT n d := rfl
 conv at hN => rhs; unfold numT
 cases hb : numRight n d with
 | false =>
  rw [hb] at hr hN
  rw [hN]
  refine ACall.of_body tt_ok Tryz.func77 rfl rfl (n := 26) rfl rfl ?_
  conv => whnf
  repeat' (first|((refine pC (hr) wR ?_);conv=>whnf)|(refine zX (fun hc=>?_) (fun hc=>?_)<;>(try simp only [SY] at hc)<;>(conv=>whnf)))
  exact PRet.pure (Wk.refl _)
 | true =>
  rw [hb] at hr hN
  unfold numRight at hb
  simp only [Bool.and_eq_true, decide_eq_true_eq] at hb
  have l1 := digT_len 10 n.natAbs
  have l2 := digT_len 10 d.natAbs
  have d1 := digits_c n.natAbs (by omega)
  have d2 := digits_c d.natAbs (by omega)
  rw [show ((d.natAbs : Nat) : Int) = d by omega] at d2
  refine ACall.of_body tt_ok Tryz.func77 rfl rfl (n := 26) rfl rfl ?_
  conv => whnf
  repeat' (first|refine aA2 ?_|((first|refine zIL ?_|refine pC (hr) wR ?_|refine pC (size_c _ OA OA) wR ?_|refine pC (d1) wR ?_|refine pC (d2) wR ?_);conv=>whnf)|(refine zX (fun hc=>?_) (fun hc=>?_)<;>(try simp only [SY] at hc)<;>(conv=>whnf)))
  all_goals
   rename_i kn
   refine PRet.pure (Wk.str ?_)
   rw [hN, if_neg (by simp)]
   first | rw [if_pos kn] | rw [if_neg (Int.not_lt.2 kn)]
   first | rw [if_pos hc] | rw [if_neg hc]
   simp
theorem bit_one (a : Int) : bitsOf .and .i64 a 1 = 0 ∨ bitsOf .and .i64 a 1 = 1 := by
 have e : ∀ v : Nat, v ≤ 1 → IntKind.wrap .i64 (v : Int) = v := fun v hv => by
  simp [IntKind.wrap, IntKind.bits, IntKind.signed]; omega
 have h : (BitVec.ofInt IntKind.i64.bits a &&& BitVec.ofInt IntKind.i64.bits 1).toNat ≤ 1 := by
  rw [BitVec.toNat_and]
  exact Nat.le_trans Nat.and_le_right (by decide)
 unfold bitsOf
 simp only
 rw [e _ h]
 omega
abbrev outE (b : Nat) (s : List UInt8) : Ent := .box b [.str s]
def WrOk (x : Vl) : Prop := ∀ (b : Nat) (out : List UInt8), out.length ≤ 2000000000 → ACall Tryz.prog 40 [.agg x.cells, .ptr b 0] [outE b out] (fun _ Γ' => Γ' = [outE b (wV false x out)])
theorem drMc06xaa {p q : Prop} (k : q) (h : q → p := by intro hq; first | exact PDraw.sP (some 75) rfl [] [11] tt_ok mixed hq | exact PDraw.sP (some 88) rfl [] [12] tt_ok mixed hq | exact PDraw.sP (some 102) rfl [] [8] tt_ok mixed hq | exact PDraw.sP (some 112) rfl [] [10] tt_ok mixed hq) : p := h k
theorem write_n (n : Nat) : ∀ x : Vl, x.sz ≤ n → x.tx = true → WrOk x := by
 induction n with
 | zero => intro x hz; cases x; rw [Vl.sz] at hz; omega
 | succ n ihn =>
  intro x hz ht b out hl
  have ih : ∀ y : Vl, y.sz < x.sz → y.tx = true → WrOk y := fun y h => ihn y (by omega)
  have hlen := lenOk x ht
  rw [Vl.tx_eq] at ht
  obtain ⟨hk, h2, hs, hy⟩ := ht
  have ih' : ∀ y ∈ x.l, WrOk y := fun y hm => ih y (Vl.sz_mem hm) (hy y hm)
  rw [wV_false]
  have hn := numT_len x.n x.d
  have hC : coreT x out = coreT x out := rfl
  conv at hC => rhs; unfold coreT
  have hA1 : out.length + (numT x.n x.d).length ≤ maxLen := by unfold maxLen; omega
  have hA2 : out.length + x.s.length ≤ maxLen := by unfold maxLen; omega
  have hA3 : out.length + 1 ≤ maxLen := by unfold maxLen; omega
  have hA4 : out.length + 1 + x.s.length ≤ maxLen := by unfold maxLen; omega
  have hA5 : out.length + (x.s.length + 1) + 1 ≤ maxLen := by unfold maxLen; omega
  have hA6 : out.length + 2 ≤ maxLen := by unfold maxLen; omega
  have hbt := bit_one x.n
  refine ACall.of_body tt_ok Tryz.func40 rfl rfl (n := 207) rfl rfl ?_
  conv => whnf
  repeat' (first|refine aA2 ?_|((first|((apply zZ);(conv=>whnf);(repeat ((refine pC (text1_c x.n x.d) wR ?_);conv=>whnf));exact pZ)|refine zIL ?_|refine drMc06xaa ?_|intro _);conv=>whnf)|(refine zX (fun hc=>?_) (fun hc=>?_)<;>(try simp only [SY] at hc)<;>first|omega|(conv=>whnf)))
  ·rw [hC, if_pos (by omega)]
   exact PRet.gen (y := .tup []) (Γ' := [outE b out]) (Wk.refl _) rfl
  ·rw [hC, if_neg (by omega), if_pos hc]
   exact PRet.gen (y := .tup []) (Γ' := [outE b _]) (Wk.refl _) rfl
  ·rw [hC, if_neg (by omega), if_neg (by omega), if_pos hc]
   rcases hbt with h | h
   ·rw [h, if_pos rfl]
    conv => whnf
    repeat' (first|refine aA2 ?_|(refine zX (fun hc=>?_) (fun hc=>?_)<;>(try simp only [SY] at hc)<;>omega))
    exact PRet.gen (y := .tup []) (Γ' := [outE b _]) (Wk.refl _) rfl
   ·rw [h, if_neg (by decide)]
    conv => whnf
    repeat' (first|refine aA2 ?_|(refine zX (fun hc=>?_) (fun hc=>?_)<;>(try simp only [SY] at hc)<;>omega))
    exact PRet.gen (y := .tup []) (Γ' := [outE b _]) (Wk.refl _) rfl
  ·rw [hC, if_neg (by omega), if_neg (by omega), if_neg (by omega), if_pos hc]
   exact PRet.gen (y := .tup []) (Γ' := [outE b _]) (Wk.refl _) rfl
  ·rw [hC, if_neg (by omega), if_neg (by omega), if_neg (by omega), if_neg (by omega), if_pos hc]
   exact PRet.gen (y := .tup []) (Γ' := [outE b _]) (Wk.refl _) rfl
  ·rw [hC, if_neg (by omega), if_neg (by omega), if_neg (by omega), if_neg (by omega), if_neg (by omega), if_pos hc]
   exact PRet.gen (y := .tup []) (Γ' := [outE b _]) (Wk.refl _) rfl
  ·rw [hC, if_neg (by omega), if_neg (by omega), if_neg (by omega), if_neg (by omega), if_neg (by omega), if_neg (by omega), if_pos hc]
   exact PRet.gen (y := .tup []) (Γ' := [outE b _]) (Wk.refl _) rfl
  ·rw [hC, if_neg (by omega), if_neg (by omega), if_neg (by omega), if_neg (by omega), if_neg (by omega), if_neg (by omega), if_neg (by omega), if_pos hc]
   exact PRet.gen (y := .tup []) (Γ' := [outE b _]) (Wk.refl _) rfl
  ·rw [hC, if_neg (by omega), if_neg (by omega), if_neg (by omega), if_neg (by omega), if_neg (by omega), if_neg (by omega), if_neg (by omega), if_neg (by omega), if_pos hc]
   exact PRet.gen (y := .tup []) (Γ' := [outE b _]) (Wk.refl _) rfl
  ·rw [hC, if_neg (by omega), if_neg (by omega), if_neg (by omega), if_neg (by omega), if_neg (by omega), if_neg (by omega), if_neg (by omega), if_neg (by omega), if_neg (by omega), if_pos (by omega)]
   exact PRet.gen (y := .tup []) (Γ' := [outE b _]) (Wk.refl _) rfl
  ·rw [hC, if_neg (by omega), if_neg (by omega), if_neg (by omega), if_neg (by omega), if_neg (by omega), if_neg (by omega), if_neg (by omega), if_neg (by omega), if_neg (by omega), if_pos (by omega)]
   exact PRet.gen (y := .tup []) (Γ' := [outE b _]) (Wk.refl _) rfl
  ·rw [hC, if_neg (by omega), if_neg (by omega), if_neg (by omega), if_neg (by omega), if_neg (by omega), if_neg (by omega), if_neg (by omega), if_neg (by omega), if_neg (by omega), if_pos (by omega)]
   exact PRet.gen (y := .tup []) (Γ' := [outE b _]) (Wk.refl _) rfl
  ·have hpc : ¬1000 ≤ out.length := by omega
   rw [hC, if_neg hpc, if_neg (by omega), if_neg (by omega), if_neg (by omega), if_neg (by omega), if_neg (by omega), if_neg (by omega), if_neg (by omega), if_neg (by omega), if_neg (by omega), if_pos hc]
   rename_i b1 _ _ _ _ _ _ _ _ _ _ _ _ _
   have hl7 := wL_len x.l true (out ++ [35, 40]) fun y hm => lenOk y (hy y hm)
   have hlb : (wL true x.l (out ++ [35, 40])).length ≤ 1100000000 := by
    have e1 : (out ++ [35, 40]).length = out.length + 2 := by simp
    rw [e1] at hl7
    by_cases h2 : out.length + 2 < 1000
    ·have := hl7.2.1 h2
     unfold lenB at this
     rw [if_neg (by omega)] at this
     omega
    ·rw [hl7.2.2 (by omega)]; simp; omega
   obtain ⟨W, hW⟩ : ∃ W, W = wL true x.l (out ++ [35, 40]) := ⟨_, rfl⟩
   rw [← hW] at hlb ⊢
   refine PLoop.over [29, 30, 31, 32, 33, 34, 35, 36, 37, 38, 39, 40, 41, 42, 43, 44, 45, 46, 47, 48, 49, 50, 51, 52, 53, 54] (fun s : Nat × List UInt8 => [(4, .int .i64 s.1)]) (fun s => [outE b s.2, .box b1 (valC x)]) (fun s => s.1 ≤ x.l.length ∧ s.2.length ≤ 1100000000 ∧ wL (decide (s.1 = 0)) (x.l.drop s.1) s.2 = W) (fun s => x.l.length - s.1) (0, out ++ [35, 40]) ⟨Nat.zero_le _, by simp; omega, hW.symm⟩ wA ?_
   rintro ⟨i, o⟩ ⟨hi, ho, hw⟩
   dsimp only at hi ho hw ⊢
   have hA7 : o.length + 1 ≤ maxLen := by unfold maxLen; omega
   have step : ∀ (h : i < x.l.length) (_ : o.length < 1000) (o' : List UInt8), o' = (if i = 0 then o else o ++ [32]) → wL (decide (i + 1 = 0)) (x.l.drop (i + 1)) (wV false x.l[i] o') = W ∧ (wV false x.l[i] o').length ≤ 1100000000 := fun h h1 o' e => by
    rw [drop_at h, wL, if_neg (by omega)] at hw
    simp only [decide_eq_true_eq, ← e] at hw
    rw [show decide (i + 1 = 0) = false from rfl]
    refine ⟨hw, ?_⟩
    have := (wL_len (x.l.drop (i + 1)) false (wV false x.l[i] o') fun y hm => lenOk y (hy y (List.mem_of_mem_drop hm))).1
    rw [hw] at this
    omega
   conv => whnf
   repeat' (first|refine aA2 ?_|((first|refine zIL ?_|intro _);conv=>whnf)|(refine zX (fun hc=>?_) (fun hc=>?_)<;>(try simp only [SY] at hc)<;>(conv=>whnf)))
   ·have h1 : i < x.l.length := by omega
    obtain ⟨s1, s2⟩ := step h1 (by omega) (o ++ [32]) (by rw [if_neg (by omega)])
    refine PCall.go (ih' x.l[i] (List.getElem_mem _) b (o ++ [32]) (by simp; omega)) (WkT.refl _) ?_
    rintro _ _ rfl
    conv => whnf
    repeat' (first|refine aA2 ?_|(refine zX (fun hc=>?_) (fun hc=>?_)<;>(try simp only [SY] at hc)<;>omega))
    exact loopTo (i + 1, wV false x.l[i] (o ++ [32])) ⟨by show i + 1 ≤ _; omega, s2, s1⟩ (by show x.l.length - (i + 1) < x.l.length - i; omega) wA
   ·have h1 : i < x.l.length := by omega
    obtain ⟨s1, s2⟩ := step h1 (by omega) o (by rw [if_pos (by omega)])
    refine PCall.go (ih' x.l[i] (List.getElem_mem _) b o (by omega)) (WkT.refl _) ?_
    rintro _ _ rfl
    conv => whnf
    repeat' (first|refine aA2 ?_|(refine zX (fun hc=>?_) (fun hc=>?_)<;>(try simp only [SY] at hc)<;>omega))
    exact loopTo (i + 1, wV false x.l[i] o) ⟨by show i + 1 ≤ _; omega, s2, s1⟩ (by show x.l.length - (i + 1) < x.l.length - i; omega) wA
   ·obtain rfl : o = W := by
     rw [← hw]
     rcases hc with h | h
     ·rw [List.drop_of_length_le (by omega), wL]
     ·exact ((wL_len _ _ o fun y hm => lenOk y (hy y (List.mem_of_mem_drop hm))).2.2 (by omega)).symm
    exact PRet.gen (y := .tup []) (Γ' := [outE b _]) (Wk.refl _) rfl
  ·have h6 : x.k = 6 := by omega
   have hl2 := h2 h6
   have hpc : ¬1000 ≤ out.length := by omega
   rw [hC, if_neg hpc, if_neg (by omega), if_neg (by omega), if_neg (by omega), if_neg (by omega), if_neg (by omega), if_neg (by omega), if_neg (by omega), if_neg (by omega), if_neg (by omega), if_neg (by omega)]
   rename_i b1 _ _ _ _ _ _ _ _ _ _ _ _ _
   rw [wP_two hl2]
   have hm0 : x.l[0] ∈ x.l := List.getElem_mem _
   have hm1 : x.l[1] ∈ x.l := List.getElem_mem _
   have hWl := wP_len x.l (out ++ [40]) fun y hm => lenOk y (hy y hm)
   rw [wP_two hl2] at hWl
   obtain ⟨W, hW⟩ : ∃ W, W = wV true x.l[1] (wV false x.l[0] (out ++ [40])) := ⟨_, rfl⟩
   rw [← hW] at hWl ⊢
   have hlb : W.length ≤ 1100000000 := by
    have e1 : (out ++ [40]).length = out.length + 1 := by simp
    rw [e1] at hWl
    by_cases h2 : out.length + 1 < 1000
    ·have := hWl.2.1 h2
     unfold lenB at this
     rw [if_neg (by omega)] at this
     omega
    ·have := hWl.2.2 (by omega)
     omega
   refine PCall.go (ih' x.l[0] hm0 b (out ++ [40]) (by simp; omega)) (WkT.refl _) ?_
   rintro _ _ rfl
   conv => whnf
   repeat' (first|refine aA2 ?_|((first|refine normN nC ?_|refine normN nD ?_|intro _);conv=>whnf)|(refine zX (fun hc=>?_) (fun hc=>?_)<;>(try simp only [SY] at hc)<;>omega))
   rename_i b5
   have mono : ∀ (r : Vl) (o : List UInt8), r.tx = true → wV true r o = W → o.length ≤ 1100000000 := fun r o h1 h2 => by
    have := (lenOk r h1 o).1.2
    rw [h2] at this
    omega
   refine PLoop.over [4, 172, 173, 174, 175, 176, 177, 178, 179, 180, 181, 182, 183, 184, 185, 186, 187, 188, 189, 190, 191, 192, 193, 194, 195, 196, 197, 198, 199, 200] (fun s : Vl × List UInt8 => []) (fun s => [outE b s.2, .box b5 (valC s.1), .box b1 (valC x)]) (fun s => s.1.tx = true ∧ s.1.sz < x.sz ∧ wV true s.1 s.2 = W) (fun s => s.1.sz) (x.l[1], wV false x.l[0] (out ++ [40])) ⟨hy _ hm1, Vl.sz_mem hm1, hW.symm⟩ wA ?_
   rintro ⟨r, o⟩ ⟨hr, hrs, hw⟩
   dsimp only at hr hrs hw ⊢
   have ho := mono r o hr hw
   have hr' := hr
   rw [Vl.tx_eq] at hr'
   have hr2 := hr'.2.1
   have hA7 : o.length + 1 ≤ maxLen := by unfold maxLen; omega
   have hA8 : o.length + 3 ≤ maxLen := by unfold maxLen; omega
   rw [wV_true] at hw
   conv => whnf
   repeat' (first|refine aA2 ?_|((refine zIL ?_);conv=>whnf)|(refine zX (fun hc=>?_) (fun hc=>?_)<;>(try simp only [SY] at hc)<;>(conv=>whnf)))
   ·have h6' : r.k = 6 := by omega
    have hl2 := hr2 h6'
    have hm0 : r.l[0] ∈ r.l := List.getElem_mem _
    have hm1 : r.l[1] ∈ r.l := List.getElem_mem _
    have z0 := Vl.sz_mem hm0
    have z1 := Vl.sz_mem hm1
    rw [if_pos ⟨h6', by omega⟩, wP_two hl2] at hw
    refine PCall.go (ih r.l[0] (by omega) (hr'.2.2.2 _ hm0) b (o ++ [32]) (by simp; omega)) (WkT.refl _) ?_
    rintro _ _ rfl
    conv => whnf
    repeat' (first|refine aA2 ?_|((first|refine normN nC ?_|refine normN nD ?_);conv=>whnf)|(refine zX (fun hc=>?_) (fun hc=>?_)<;>(try simp only [SY] at hc)<;>omega))
    exact loopTo (r.l[1], wV false r.l[0] (o ++ [32])) ⟨hr'.2.2.2 _ hm1, by show r.l[1].sz < x.sz; omega, hw⟩ z1 wA
   ·rw [if_neg (by omega), if_neg (by omega), ← wV_false] at hw
    have hA9 : (wV false r (o ++ [32, 46, 32])).length + 1 ≤ 1100000000 := by
     have := congrArg List.length hw
     rw [List.length_append] at this
     simp at this
     omega
    refine PCall.go (ih r hrs hr b (o ++ [32, 46, 32]) (by simp; omega)) (WkT.refl _) ?_
    rintro _ _ rfl
    conv => whnf
    repeat' (first|refine aA2 ?_|((refine zIL ?_);conv=>whnf)|(refine zX (fun hc=>?_) (fun hc=>?_)<;>(try simp only [SY] at hc)<;>omega))
    rw [hw]
    exact PRet.gen (y := .tup []) (Γ' := [outE b W]) (Wk.refl _) rfl
   ·rw [if_neg (by omega), if_pos (by omega)] at hw
    rw [hw]
    exact PRet.gen (y := .tup []) (Γ' := [outE b W]) (Wk.refl _) rfl
theorem text6_c (x : Vl) (ht : x.tx = true) : ACallP Tryz.prog 22 [.agg x.cells] (.str (txtV x)) := by
 have hw := fun b => write_n x.sz x (Nat.le_refl _) ht b [] (by simp)
 refine ACall.of_body tt_ok Tryz.func22 rfl rfl (n := 11) rfl rfl ?_
 conv => whnf
 repeat' (first|refine aA2 ?_|((intro _);conv=>whnf)|(refine zX (fun hc=>?_) (fun hc=>?_)<;>(try simp only [SY] at hc)<;>omega))
 rename_i b1 b3
 refine PCall.go (hw b3) (WkT.refl _) ?_
 rintro _ _ rfl
 conv => whnf
 repeat' (first|refine aA2 ?_|((intro _);conv=>whnf)|(refine zX (fun hc=>?_) (fun hc=>?_)<;>(try simp only [SY] at hc)<;>omega))
 refine PRet.pure (Wk.str ?_)
 unfold txtV
 split
 ·rfl
 ·rw [List.take_of_length_le (by omega), List.take_of_length_le (by omega)]
end Go.Cb
namespace Go.Cb
open Go.Proofs
set_option maxRecDepth 100000
set_option maxHeartbeats 4000000
instance (priority := low) PickL.skipM (e : Ent) (Γ D r : List Ent) [h : PickL Γ D r] : PickL (e :: Γ) D (e :: r) := ⟨(h.p.cons e).trans List.perm_middle.symm⟩
theorem PLoad.mem {agg : Bool} {n a o : Nat} {all : List PV} {Γ : List Ent} {K : PV → Prop} (h : Ent.box a all ∈ Γ) (h1 : Nat.ble (o + n) all.length = true) (k : mkvK agg ((all.drop o).take n) K) : PLoad agg n (.ptr a o) Γ K :=
 ⟨_, ⟨all, h, Nat.le_of_ble_eq_true h1, rfl⟩, k⟩
theorem hpE_mem {h : Hp} {a : Nat} {x : Vl} {r : Bool} (hm : (a, x, r) ∈ h) : Ent.box a (celC x r) ∈ hpE h := List.mem_map_of_mem (f := fun c : Nat × Vl × Bool => Ent.box c.1 (celC c.2.1 c.2.2)) hm
def WkB (b : Nat) (cs : List PV) (x y : PV) : Prop := ∀ F v, (∀ o u, Rep F (.ptr b o) u → Rep F (.ep (cs.drop o)) u) → Rep F x v → Rep F y v
inductive WkBT (b : Nat) (cs : List PV) : List PV → List PV → Prop
 | nil : WkBT b cs [] []
 | cons {x y : PV} {xs ys : List PV} : WkB b cs x y → WkBT b cs xs ys → WkBT b cs (x :: xs) (y :: ys)
theorem WkB.of {b : Nat} {cs : List PV} {x y : PV} (h : Wk x y) : WkB b cs x y := fun F v _ r => h F v r
theorem WkB.ep {b : Nat} {cs : List PV} : WkB b cs (.ptr b 0) (.ep cs) := fun _ v h r => h 0 v r
theorem WkBT.rep {b : Nat} {cs : List PV} {F : Fz} (hF : ∀ o u, Rep F (.ptr b o) u → Rep F (.ep (cs.drop o)) u) : ∀ {xs ys : List PV} {vs : List Value}, WkBT b cs xs ys → RepT F xs vs → RepT F ys vs
 | _, _, [], .nil, h => h
 | _, _, _ :: _, .nil, h => h
 | _, _, [], .cons _ _, h => by simp only [RepT] at h
 | _, _, v :: vs, .cons h1 h2, h => by
  simp only [RepT] at h ⊢
  exact ⟨h1 _ _ hF h.1, WkBT.rep hF h2 h.2⟩
theorem WkBT.repL {b : Nat} {cs : List PV} {F : Fz} (hF : ∀ o u, Rep F (.ptr b o) u → Rep F (.ep (cs.drop o)) u) : ∀ {xs ys : List PV} {vs : List Value}, WkBT b cs xs ys → RepL F xs vs → RepL F ys vs
 | _, _, [], .nil, h => h
 | _, _, _ :: _, .nil, h => h
 | _, _, [], .cons _ _, h => by simp only [RepL] at h
 | _, _, v :: vs, .cons h1 h2, h => by
  simp only [RepL] at h ⊢
  exact ⟨⟨h.1.1, h1 _ _ hF h.1.2⟩, WkBT.repL hF h2 h.2⟩
theorem WkB.agg {b : Nat} {cs xs ys : List PV} (h : WkBT b cs xs ys) : WkB b cs (.agg xs) (.agg ys) := fun F v hF r => by
 simp only [Rep] at r ⊢
 obtain ⟨vs, h1, h2⟩ := r
 exact ⟨vs, h1, h.repL hF h2⟩
theorem WkB.tup {b : Nat} {cs xs ys : List PV} (h : WkBT b cs xs ys) : WkB b cs (.tup xs) (.tup ys) := fun F v hF r => by
 simp only [Rep] at r ⊢
 obtain ⟨vs, h1, h2⟩ := r
 exact ⟨vs, h1, h.rep hF h2⟩
theorem PRet.frz {b : Nat} {cs : List PV} {x y : PV} {Γ Γ1 Γ' Γ2 : List Ent} {Q : PV → List Ent → Prop} [hp : PickE Γ (.box b cs) Γ1] [hq : PickL Γ1 Γ' Γ2] (h : WkB b cs x y) (q : Q y Γ') : PRet x Γ Q :=
 ⟨y, Γ', Shift.trans (Γ' := Γ1) (y := y) (fun w0 F M w v hS hx => by
  have hS' := hS.perm (hp.p.append_right M)
  obtain ⟨F', h1, h2, h3⟩ := Sim.freeze (M := Γ1 ++ M) (by simpa using hS')
  refine ⟨F', h1, h2, h F' v (fun o u hu => ?_) (Rep.mono h1 _ _ hx)⟩
  simp only [Rep] at hu ⊢
  exact ⟨b, o, hu, h3 o⟩) (Shift.wk (Wk.refl _) hq.p), q⟩
theorem PCall.goT {P : Program} {f : FuncId} {args args' : List PV} {Γ Γ1 Γ2 : List Ent} {Q K : PV → List Ent → Prop} (h : ACall P f args' Γ1 Q) (hw : WkT args args') [hp : PickL Γ Γ1 Γ2]
  (k : ∀ y Γ1', Q y Γ1' → appE Γ2 Γ1' fun Γ' => K y Γ') : PCall P f args Γ K := by
 refine ⟨.inl (((h.wk hw).frame hp.p).shift ?_)⟩
 rintro y Γ' ⟨Γ1', rfl, hq⟩
 have := k y Γ1' hq
 rw [appE_eq] at this
 exact ⟨y, Γ2 ++ Γ1', Shift.wk (Wk.refl _) (Γ1 := []) (by rw [List.append_nil]; exact List.perm_append_comm), this⟩
theorem appN {Γ : List Ent} {K : List Ent → Prop} (h : K Γ) : appE Γ [] K := by rw [appE_eq, List.append_nil]; exact h
abbrev lessM (s : MSt) : MSt := ⟨s.fuel - 1, s.out, s.alive, s.to, s.val, s.h⟩
section
variable (b : Nat) (K : List Vl) (tk : Tok) (s : MSt) (t : Trm) (e : EnvM)
theorem drMc06caa {p q : Prop} (k : q) (h : q → p := by intro hq; first | exact PDraw.sP (some 32) rfl [] [8,9] tt_ok mixed hq | exact PDraw.sP (some 73) rfl [] [11,12,13,14] tt_ok mixed hq) : p := h k
theorem evConst_c (h0 : 0 < s.fuel ∧ s.fuel ≤ 1000000) (ho : t.op = 0) (hn : 0 ≤ t.n ∧ t.n < K.length) :
  ACall Tryz.prog 76 [.ptr b 0, .agg t.cells, envPV e, .nil] (mcE b K tk s) (fun y Γ' => y = .tup [.agg (valC (K[t.n.toNat]'(by omega))), .int .i64 0] ∧ Γ' = mcE b K tk (lessM s)) := by
 refine ACall.of_body tt_ok Tryz.func76 rfl rfl (n := 181) rfl rfl ?_
 conv => whnf
 repeat' (first|refine aA2 ?_|((first|refine normN nC ?_|refine normN nD ?_|refine drMc06caa ?_|intro _);conv=>whnf)|(refine zX (fun hc=>?_) (fun hc=>?_)<;>(try simp only [SY] at hc)<;>first|omega|(conv=>whnf)))
 exact PRet.gen (y := .tup [.agg (valC (K[t.n.toNat]'(by omega))), .int .i64 0]) (Γ' := mcE b K tk (lessM s)) (Wk.refl _) ⟨rfl, rfl⟩
theorem evLam_c (h0 : 0 < s.fuel ∧ s.fuel ≤ 1000000) (ho : t.op = 4) (hl : t.t.length = 1) :
  ACall Tryz.prog 76 [.ptr b 0, .agg t.cells, envPV e, .nil] (mcE b K tk s) (fun y Γ' => y = .tup [.agg (valC (.mk 8 0 0 [] [] (some ⟨t.v, t.n == 1, t.t[0], e⟩) none)), .int .i64 0] ∧ Γ' = mcE b K tk (lessM s)) := by
 rcases e with _ | ⟨⟨w, c⟩, e⟩
 all_goals
  refine ACall.of_body tt_ok Tryz.func76 rfl rfl (n := 181) rfl rfl ?_
  conv => whnf
  repeat' (first|refine aA2 ?_|((first|refine drMc06caa ?_|intro _);conv=>whnf)|(refine zX (fun hc=>?_) (fun hc=>?_)<;>(try simp only [SY] at hc)<;>first|omega|(conv=>whnf)))
  rename_i b3 b2 b1
  exact PRet.frz (b := b1) (y := .tup [.agg (valC (.mk 8 0 0 [] [] (some ⟨t.v, t.n == 1, t.t[0], _⟩) none)), .int .i64 0]) (Γ' := mcE b K tk (lessM s)) (WkB.tup (.cons (WkB.agg (.cons (.of (Wk.refl _)) (.cons (.of (Wk.refl _)) (.cons (.of (Wk.refl _)) (.cons (.of (Wk.refl _)) (.cons (.of (Wk.nil' rfl)) (.cons WkB.ep (.cons (.of (Wk.refl _)) .nil)))))))) (.cons (.of (Wk.refl _)) .nil))) ⟨rfl, rfl⟩
theorem evRef_c (h0 : 0 < s.fuel ∧ s.fuel ≤ 1000000) (ho : t.op = 1) (a : Nat) (hf : fndM e t.n = some a) (x : Vl) (r : Bool) (hx : (a, x, r) ∈ s.h) (hu : ¬x.k = 12) :
  ACall Tryz.prog 76 [.ptr b 0, .agg t.cells, envPV e, .nil] (mcE b K tk s) (fun y Γ' => y = .tup [.agg (valC x), .int .i64 0] ∧ Γ' = mcE b K tk (lessM s)) := by
 have hp := place_c e t.n a hf
 have hm := hpE_mem hx
 refine ACall.of_body tt_ok Tryz.func76 rfl rfl (n := 181) rfl rfl ?_
 conv => whnf
 repeat' (first|refine aA2 ?_|((first|(((apply zY;intro hg));(conv=>whnf);(repeat ((first|refine PLoad.mem (by simp only [List.mem_cons]; exact Or.inr (Or.inr (Or.inr (Or.inr hm)))) rfl ?_|refine aH ?_);conv=>whnf));exact pZ)|refine normN nC ?_|refine normN nD ?_|refine PLoad.mem (by simp only [List.mem_cons]; exact Or.inr (Or.inr (Or.inr (Or.inr hm)))) rfl ?_|refine pC (hp) wR ?_|intro _);conv=>whnf)|(refine zX (fun hc=>?_) (fun hc=>?_)<;>(try simp only [SY] at hc)<;>first|omega|(conv=>whnf)))
 exact PRet.gen (y := .tup [.agg (valC x), .int .i64 0]) (Γ' := mcE b K tk (lessM s)) (Wk.refl _) ⟨rfl, rfl⟩
theorem all6_c (l : List Trm) (hl : l.length ≤ 1000000) (X : List Vl) (hX : X.length = l.length) (S : Nat → MSt)
  (H : ∀ i (h : i < l.length), ACall Tryz.prog 76 [.ptr b 0, .agg l[i].cells, envPV e, .nil] (mcE b K tk (S i)) (fun y Γ' => y = .tup [.agg (valC (X[i]'(by omega))), .int .i64 0] ∧ Γ' = mcE b K tk (S (i + 1)))) :
  ACall Tryz.prog 131 [.ptr b 0, .sl 4 (l.map Trm.pv) none, envPV e, .nil] (mcE b K tk (S 0)) (fun y Γ' => y = .tup [.sl 7 (X.map Vl.pv) none, .int .i64 0] ∧ Γ' = mcE b K tk (S l.length)) := by
 refine ACall.of_body tt_ok Tryz.func131 rfl rfl (n := 39) rfl rfl ?_
 conv => whnf
 skip
 refine PLoop.gh (Ghost.nil 7 53 _) ?_
 refine PLoop.over [8, 9, 10, 11, 12, 13, 14, 15, 16, 17, 18, 19, 20, 21, 22, 23, 24, 25, 26, 27, 28, 29, 30, 31, 32, 33, 34, 35, 36, 37] (fun x : Nat × List Vl × Tok => [(10, .sl 7 (x.2.1.map Vl.pv) (some x.2.2)), (11, .int .i64 x.1)]) (fun x : Nat × List Vl × Tok => .tok x.2.2 :: mcE b K tk (S x.1))
  (fun x => x.1 ≤ l.length ∧ x.2.2.e = 53 ∧ x.2.1 = X.take x.1) (fun x => l.length - x.1) (0, [], nilTok 7 53) ⟨Nat.zero_le _, rfl, rfl⟩ wA ?_
 rintro ⟨i, m, t1⟩ ⟨hi, ht, hm⟩
 dsimp only at hi ht hm ⊢
 have hml : m.length ≤ 1000000 := by rw [hm, List.length_take]; omega
 conv => whnf
 repeat' (first|refine aA2 ?_|((intro _);conv=>whnf)|(refine zX (fun hc=>?_) (fun hc=>?_)<;>(try simp only [SY] at hc)<;>(conv=>whnf)))
 ·have h1 : i < l.length := by omega
  refine PCall.goT (H i h1) (WkT.refl _) ?_
  rintro _ _ ⟨rfl, rfl⟩
  conv => whnf
  repeat' (first|refine aA2 ?_|((first|refine normN nC ?_|refine normN nD ?_|intro _);conv=>whnf)|(refine zX (fun hc=>?_) (fun hc=>?_)<;>(try simp only [SY] at hc)<;>(conv=>whnf)))
  rename_i t2 ht2
  exact loopTo (i + 1, m ++ [X[i]'(by omega)], t2) ⟨by show i + 1 ≤ _; omega, ht2, by show m ++ [_] = X.take (i + 1); rw [List.take_succ_eq_append_getElem (by omega), ← hm]⟩ (by show l.length - (i + 1) < l.length - i; omega) wA
 ·obtain rfl : i = l.length := by omega
  rw [← hX, List.take_length] at hm
  subst hm
  exact PRet.gen (y := .tup [.sl 7 (m.map Vl.pv) none, .int .i64 0]) (Γ' := mcE b K tk (S l.length)) (Wk.tup (.cons (Wk.tok _ _ _) (.cons (Wk.refl _) .nil))) ⟨rfl, rfl⟩
theorem spread_c (l : List Vl) (k : Nat) (hk : k ≤ 1000000) : ACallP Tryz.prog 182 [.sl 7 (l.map Vl.pv) none, .int .i64 k, .bool false] (.tup [.sl 7 (l.map Vl.pv) none, .bool (decide (l.length = k))]) := by
 refine ACall.of_body tt_ok Tryz.func182 rfl rfl (n := 38) rfl rfl ?_
 conv => whnf
 repeat' (first|refine aA2 ?_|(refine zX (fun hc=>?_) (fun hc=>?_)<;>(try simp only [SY] at hc)<;>(conv=>whnf)))
 refine PRet.pure (Wk.tup (.cons (Wk.refl _) (.cons (Wk.bool ?_) .nil)))
 rw [Bool.eq_iff_iff]
 simp
 omega
end
end Go.Cb
namespace Go.Cb
open Go.Proofs
set_option maxRecDepth 100000
set_option maxHeartbeats 4000000
def extM : EnvM → List Int → List Nat → EnvM
 | e, v :: vs, a :: az => extM ((v, a) :: e) vs az
 | e, _, _ => e
def hpM : Hp → List Vl → List Nat → Hp
 | h, x :: xs, a :: az => hpM ((a, x, false) :: h) xs az
 | h, _, _ => h
theorem extM_snoc : ∀ (e : EnvM) (vs : List Int) (az : List Nat) (v : Int) (a : Nat), vs.length = az.length → extM e (vs ++ [v]) (az ++ [a]) = (v, a) :: extM e vs az
 | _, [], [], _, _, _ => rfl
 | e, w :: vs, c :: az, v, a, h => by
  rw [List.cons_append, List.cons_append, extM, extM_snoc _ vs az v a (by simpa using h), extM]
 | _, [], _ :: _, _, _, h => by simp at h
 | _, _ :: _, [], _, _, h => by simp at h
theorem hpM_snoc : ∀ (e : Hp) (vs : List Vl) (az : List Nat) (v : Vl) (a : Nat), vs.length = az.length → hpM e (vs ++ [v]) (az ++ [a]) = (a, v, false) :: hpM e vs az
 | _, [], [], _, _, _ => rfl
 | e, w :: vs, c :: az, v, a, h => by
  rw [List.cons_append, List.cons_append, hpM, hpM_snoc _ vs az v a (by simpa using h), hpM]
 | _, [], _ :: _, _, _, h => by simp at h
 | _, _ :: _, [], _, _, h => by simp at h
abbrev addM (s : MSt) (h : Hp) : MSt := ⟨s.fuel, s.out, s.alive, s.to, s.val, h⟩
section
variable (b : Nat) (K : List Vl) (tk : Tok) (s : MSt)
theorem drMc06daa {p q : Prop} (k : q) (h : q → p := by intro hq; first | exact PDraw.sP (some 31) rfl [] [] tt_ok mixed hq | exact PDraw.sP (some 84) rfl [] [12,13] tt_ok mixed hq) : p := h k
theorem call6_c (x : Vl) (hk : x.k = 8) (cl : Clo) (hp : x.p = some cl) (hr : cl.rest = false) (l : List Vl) (hlen : l.length = cl.v.length) (hz : l.length ≤ 1000000) (Q : PV → List Ent → Prop)
  (hev : ∀ az : List Nat, az.length = l.length → ACall Tryz.prog 76 [.ptr b 0, .agg cl.body.cells, envPV (extM cl.env cl.v az), .nil] (mcE b K tk (addM s (hpM s.h l az))) (fun y Γ' => ∃ x s', y = .tup [.agg (valC x), .int .i64 0] ∧ Γ' = mcE b K tk s' ∧ Q y Γ')) :
  ACall Tryz.prog 154 [.ptr b 0, .agg (valC x), .sl 7 (l.map Vl.pv) none] (mcE b K tk s) Q := by
 have hsp := spread_c l cl.v.length (by omega)
 rw [show PV.bool false = PV.bool cl.rest by rw [hr], show decide (l.length = cl.v.length) = true from decide_eq_true hlen] at hsp
 refine ACall.of_body tt_ok Tryz.func154 rfl rfl (n := 111) rfl rfl ?_
 conv => whnf
 repeat' (first|refine aA2 ?_|((intro _);conv=>whnf)|(refine zX (fun hc=>?_) (fun hc=>?_)<;>(try simp only [SY] at hc)<;>first|omega|(conv=>whnf)))
 rw [hp]
 conv => whnf
 repeat' (first|refine aA2 ?_|((first|refine pC (hsp) wR ?_|intro _);conv=>whnf)|(refine zX (fun hc=>?_) (fun hc=>?_)<;>(try simp only [SY] at hc)<;>(conv=>whnf)))
 rename_i b4 b6 _ _ _ _
 have hL : ∀ i (az : List Nat) (a : Nat) (_ : az.length = i) (h : i < l.length), hpE (hpM s.h (l.take (i + 1)) (az ++ [a])) = .box a (celC (l[i]'h) false) :: hpE (hpM s.h (l.take i) az) := fun i az a h1 h => by
  rw [List.take_succ_eq_append_getElem h, hpM_snoc _ _ _ _ _ (by rw [List.length_take]; omega)]
  rfl
 have e0 : mcE b K tk s = mcE b K tk (addM s (hpM s.h (l.take 0) [])) := rfl
 rw [e0]
 refine PLoop.over [12, 13, 79, 80, 81, 82, 83, 84, 85, 86, 87, 88, 89, 90, 91, 92, 93, 94, 95, 96] (fun x : Nat × List Nat => [(12, envPV (extM cl.env (cl.v.take x.1) x.2)), (13, .int .i64 x.1)]) (fun x : Nat × List Nat => .box b6 [.int .i64 0, .int .i64 0, .int .i64 0, .str [], .nil, .np, .np] :: mcE b K tk (addM s (hpM s.h (l.take x.1) x.2)))
  (fun x => x.1 ≤ l.length ∧ x.2.length = x.1) (fun x => l.length - x.1) (0, []) ⟨Nat.zero_le _, rfl⟩ wA ?_
 rintro ⟨i, az⟩ ⟨hi, ha⟩
 dsimp only at hi ha ⊢
 conv => whnf
 repeat' (first|refine aA2 ?_|((refine drMc06daa ?_);conv=>whnf)|(refine zX (fun hc=>?_) (fun hc=>?_)<;>(try simp only [SY] at hc)<;>(conv=>whnf)))
 ·have h1 : i < l.length := by omega
  refine PCall.go (Γ1 := []) (bind_c _ _ l[i] false) (.cons (Wk.refl _) (.cons (Wk.refl _) (.cons (Wk.refl _) (.cons (Wk.ff rfl) .nil)))) ?_
  rintro _ _ ⟨a, rfl, rfl⟩
  conv => whnf
  repeat' (first|refine aA2 ?_|(refine zX (fun hc=>?_) (fun hc=>?_)<;>(try simp only [SY] at hc)<;>omega))
  have e1 := hL i az a ha h1
  have e2 : (cl.v.take (i + 1)) = cl.v.take i ++ [cl.v[i]'(by omega)] := List.take_succ_eq_append_getElem (by omega)
  refine loopTo (i + 1, az ++ [a]) ⟨by show i + 1 ≤ _; omega, by show (az ++ [a]).length = i + 1; simp; omega⟩ (by show l.length - (i + 1) < l.length - i; omega) (by dsimp only; rw [e2, extM_snoc _ _ _ _ _ (by rw [List.length_take]; omega)]; exact wA) (hp := by dsimp only [mcE, addM]; rw [e1]; infer_instance)
 ·obtain rfl : i = l.length := by omega
  rw [List.take_length, List.take_of_length_le (by omega : cl.v.length ≤ l.length)]
  refine PDraw.tree tt_ok mixed [0, 0, 2, 6, 14, 0, 0, 64, 192, 448, 1023, 2047, 2047, 8191, 16383] [0, 1, 2, 3, 4, 5, 6, 7, 8, 9] [10, 11, 12, 13, 14] (.box b6 [.int .i64 0, .int .i64 0, .int .i64 0, .str [], .nil, .np, .np] :: mcE b K tk (addM s (hpM s.h l az))) ?_
  conv => whnf
  conv => whnf
  repeat' (first|((first|((apply zZ);exact tB)|(refine And.intro ?_ ?_));conv=>whnf)|(refine zX (fun hc=>?_) (fun hc=>?_)<;>(try simp only [SY] at hc)<;>omega))
  all_goals try exact trivial
  refine PCall.goT (hev az ha) (WkT.refl _) ?_
  rintro _ _ ⟨y, s', rfl, rfl, hq⟩
  conv => whnf
  repeat' (first|((first|refine aM ?_|(refine And.intro ?_ ?_)|refine normN nC ?_|refine normN nD ?_|refine appN ?_|refine aF ?_);conv=>whnf)|(refine zX (fun hc=>?_) (fun hc=>?_)<;>(try simp only [SY] at hc)<;>omega))
  all_goals try exact trivial
  all_goals exact PRet.gen (y := .tup [.agg (valC y), .int .i64 0]) (Γ' := mcE b K tk s') (Wk.refl _) hq
theorem strict5_c (t : Trm) (ho : t.op = 5) (e : EnvM) (l : List Vl) (hl : 0 < l.length) (Q : PV → List Ent → Prop)
  (hca : ACall Tryz.prog 154 [.ptr b 0, .agg (valC (l[0]'hl)), .sl 7 ((l.drop 1).map Vl.pv) none] (mcE b K tk s) (fun y Γ' => ∃ x s', y = .tup [.agg (valC x), .int .i64 0] ∧ Γ' = mcE b K tk s' ∧ Q y Γ')) :
  ACall Tryz.prog 132 [.ptr b 0, .agg t.cells, .sl 7 (l.map Vl.pv) none, envPV e] (mcE b K tk s) Q := by
 refine ACall.of_body tt_ok Tryz.func132 rfl rfl (n := 173) rfl rfl ?_
 conv => whnf
 repeat' (first|refine aA2 ?_|((intro _);conv=>whnf)|(refine zX (fun hc=>?_) (fun hc=>?_)<;>(try simp only [SY] at hc)<;>first|omega|(conv=>whnf)))
 rename_i b5 b8 b10 _ _ _ _ _ _ _ _ _
 refine PDraw.tree tt_ok mixed [0, 0, 2, 6, 0, 16, 63, 127, 127, 511, 1023] [0, 1, 2, 3, 4, 5] [6, 7, 8, 9, 10] (.box b8 [.int .i64 0, .int .i64 0, .int .i64 0, .str [], .nil, .np, .np] :: .box b10 [.int .i64 5, .int .i64 0, .int .i64 0, .str [], .nil, .np, .np] :: .box b5 [.int .i64 t.op, .int .i64 t.n, .sl 1 (t.v.map (PV.int .i64)) none, .sl 4 (t.t.map Trm.pv) none] :: mcE b K tk s) ?_
 conv => whnf
 conv => whnf
 repeat' (first|((first|((apply zZ);exact tB)|(refine And.intro ?_ ?_));conv=>whnf)|(refine zX (fun hc=>?_) (fun hc=>?_)<;>(try simp only [SY] at hc)<;>omega))
 all_goals try exact trivial
 refine PCall.goT hca (WkT.refl _) ?_
 rintro _ _ ⟨x, s', rfl, rfl, hq⟩
 conv => whnf
 repeat' (first|((first|refine aM ?_|(refine And.intro ?_ ?_)|refine normN nC ?_|refine normN nD ?_|refine appN ?_|refine aF ?_);conv=>whnf)|(refine zX (fun hc=>?_) (fun hc=>?_)<;>(try simp only [SY] at hc)<;>omega))
 all_goals try exact trivial
 all_goals exact PRet.gen (y := .tup [.agg (valC x), .int .i64 0]) (Γ' := mcE b K tk s') (Wk.refl _) hq
theorem evApp_c (t : Trm) (ho : t.op = 5) (e : EnvM) (h0 : 0 < s.fuel ∧ s.fuel ≤ 1000000) (l : List Vl) (s1 : MSt) (Q : PV → List Ent → Prop)
  (hal : ACall Tryz.prog 131 [.ptr b 0, .sl 4 (t.t.map Trm.pv) none, envPV e, .nil] (mcE b K tk (lessM s)) (fun y Γ' => y = .tup [.sl 7 (l.map Vl.pv) none, .int .i64 0] ∧ Γ' = mcE b K tk s1))
  (hst : ACall Tryz.prog 132 [.ptr b 0, .agg t.cells, .sl 7 (l.map Vl.pv) none, envPV e] (mcE b K tk s1) (fun y Γ' => ∃ x s', y = .tup [.agg (valC x), .int .i64 0] ∧ Γ' = mcE b K tk s' ∧ Q y Γ')) :
  ACall Tryz.prog 76 [.ptr b 0, .agg t.cells, envPV e, .nil] (mcE b K tk s) Q := by
 refine ACall.of_body tt_ok Tryz.func76 rfl rfl (n := 181) rfl rfl ?_
 conv => whnf
 repeat' (first|refine aA2 ?_|((intro _);conv=>whnf)|(refine zX (fun hc=>?_) (fun hc=>?_)<;>(try simp only [SY] at hc)<;>first|omega|(conv=>whnf)))
 refine PCall.goT (Γ1 := mcE b K tk (lessM s)) hal (WkT.refl _) ?_
 rintro _ _ ⟨rfl, rfl⟩
 conv => whnf
 repeat' (first|refine aA2 ?_|(refine zX (fun hc=>?_) (fun hc=>?_)<;>(try simp only [SY] at hc)<;>(conv=>whnf)))
 refine PCall.goT hst (WkT.refl _) ?_
 rintro _ _ ⟨x, s', rfl, rfl, hq⟩
 conv => whnf
 repeat' (first|refine aA2 ?_|((first|refine normN nC ?_|refine normN nD ?_);conv=>whnf)|(refine zX (fun hc=>?_) (fun hc=>?_)<;>(try simp only [SY] at hc)<;>omega))
 exact PRet.gen (y := .tup [.agg (valC x), .int .i64 0]) (Γ' := mcE b K tk s') (Wk.refl _) hq
end
theorem PCall.goGT {P : Program} {f : FuncId} {args args' : List PV} {Γ Γ0 Γ1 Γ2 : List Ent} {Q K : PV → List Ent → Prop} (hg : Ghost Γ Γ0) (h : ACall P f args' Γ1 Q) (hw : WkT args args') [hp : PickL Γ0 Γ1 Γ2]
  (k : ∀ y Γ1', Q y Γ1' → appE Γ2 Γ1' fun Γ' => K y Γ') : PCall P f args Γ K :=
 PCall.ghost hg (((h.wk hw).frame hp.p).shift fun y Γ' ⟨Γ1', e, hq⟩ => by
  have := k y Γ1' hq
  rw [appE_eq] at this
  rw [e]
  exact ⟨y, Γ2 ++ Γ1', Shift.wk (Wk.refl _) (Γ1 := []) (by rw [List.append_nil]; exact List.perm_append_comm), this⟩)
theorem Ghost.nilRowV (Γ : List Ent) : Ghost Γ (.row (nilTok 7 53) (([] : List Vl).map Vl.pv) :: Γ) := Ghost.nilRow _ _ _
theorem Ghost.nilRowB (Γ : List Ent) : Ghost Γ (.row (nilTok 1 4) (([] : List Bool).map PV.bool) :: Γ) := Ghost.nilRow _ _ _
theorem set_lastV {α : Type} : ∀ (l : List α) (a c : α), (l ++ [a]).set l.length c = l ++ [c]
 | [], a, c => rfl
 | x :: l, a, c => by
  show x :: ((l ++ [a]).set l.length c) = _
  rw [set_lastV l a c]
  rfl
abbrev mc0 (fuel : Int) : MSt := ⟨fuel, [], [], 0, zerV, []⟩
theorem run6_c (cs : List Datum) (hcs : ∀ d ∈ cs, d.sz ≤ 1000000000) (hlc : cs.length ≤ 1000000) (t : Trm) (fuel : Int) (R : Vl → MSt → Prop)
  (hev : ∀ b tk, ACall Tryz.prog 76 [.ptr b 0, .agg t.cells, .np, .nil] (mcE b (cs.map valV) tk (mc0 fuel)) (fun y Γ' => ∃ x s', y = .tup [.agg (valC x), .int .i64 0] ∧ Γ' = mcE b (cs.map valV) tk s' ∧ x.tx = true ∧ R x s')) :
  ACall Tryz.prog 39 [.sl 5 (cs.map Datum.pv) none, .nil, .agg t.cells, .int .i64 fuel] [] (fun y Γ' => ∃ x s', R x s' ∧ y = .agg [.str s'.out, .int .i64 0, .str (txtV x)] ∧ Γ' = []) := by
 refine ACall.of_body tt_ok Tryz.func39 rfl rfl (n := 65) rfl rfl ?_
 conv => whnf
 repeat' (first|((intro _);conv=>whnf)|(refine zX (fun hc=>?_) (fun hc=>?_)<;>(try simp only [SY] at hc)<;>omega))
 rename_i b6 b8 b9
 refine PLoop.gh (Ghost.trans (Ghost.nilRowV _) (Ghost.box (b := b9) (cs := [.nil, .nil, .int .i64 fuel, .str [], .nil, .int .i64 0, .int .i64 0, .int .i64 0, .int .i64 0, .str [], .nil, .np, .np]) (cs' := [.ms (nilTok 7 53), .nil, .int .i64 fuel, .str [], .nil, .int .i64 0, .int .i64 0, .int .i64 0, .int .i64 0, .str [], .nil, .np, .np]) (.cons (Wk.nilRow _ _) (WkL.refl _)))) ?_
 refine PLoop.over [10, 18, 19, 20, 21, 22, 23, 24, 25, 26, 27, 28, 29, 30, 31, 32, 33, 34, 35, 36, 37, 38] (fun x : Nat × List Vl × Tok => [(10, .int .i64 x.1)]) (fun x : Nat × List Vl × Tok => [.box b9 [.ms x.2.2, .nil, .int .i64 fuel, .str [], .nil, .int .i64 0, .int .i64 0, .int .i64 0, .int .i64 0, .str [], .nil, .np, .np], .row x.2.2 (x.2.1.map Vl.pv), .box b8 [.str [], .int .i64 0, .str []], .box b6 [.int .i64 t.op, .int .i64 t.n, .sl 1 (t.v.map (PV.int .i64)) none, .sl 4 (t.t.map Trm.pv) none]])
  (fun x => x.1 ≤ cs.length ∧ x.2.2.e = 53 ∧ x.2.2.s = 7 ∧ x.2.1 = (cs.map valV).take x.1) (fun x => cs.length - x.1) (0, [], nilTok 7 53) ⟨Nat.zero_le _, rfl, rfl, rfl⟩ wA ?_
 rintro ⟨i, m, tk⟩ ⟨hi, he, hs, hm⟩
 dsimp only at hi he hs hm ⊢
 have hml : m.length = i := by rw [hm, List.length_take]; simp; omega
 conv => whnf
 repeat' (first|refine aA2 ?_|((intro _);conv=>whnf)|(refine zX (fun hc=>?_) (fun hc=>?_)<;>(try simp only [SY] at hc)<;>(conv=>whnf)))
 ·have hlt : i < cs.length := by omega
  have hv := value_c _ (hcs _ (List.getElem_mem hlt))
  have hsl := set_lastV m (Vl.mk 0 0 0 [] [] none none) (valV cs[i])
  have hcl2 : (m ++ [(Vl.mk 0 0 0 [] [] none none)]).length = m.length + 1 := by simp
  refine PDraw.tree tt_ok mixed [0, 1, 3, 7, 0, 0, 48, 112, 240, 15, 0, 2047, 4095, 8191, 4095, 20479, 53247] [0, 1, 2, 4, 5, 6, 7, 8, 10] [3, 9, 11, 12, 13, 14, 15, 16] [.box b9 [.ms tk, .nil, .int .i64 fuel, .str [], .nil, .int .i64 0, .int .i64 0, .int .i64 0, .int .i64 0, .str [], .nil, .np, .np], .row tk (m.map Vl.pv)] ?_
  conv => whnf
  conv => whnf
  repeat' (first|((first|((apply zZ);first|exact tB|((conv=>whnf);(repeat ((refine pC (hv) wR ?_);conv=>whnf));exact pZ))|refine aM ?_|(refine And.intro ?_ ?_)|(refine PLenM.map fun _ => ?_)|refine aF ?_|intro _);conv=>whnf)|(refine zX (fun hc=>?_) (fun hc=>?_)<;>(try simp only [SY] at hc)<;>omega))
  all_goals try exact trivial
  all_goals
   rw [hsl]
   have hmm : m ++ [valV cs[i]] = (cs.map valV).take (i + 1) := by rw [List.take_succ_eq_append_getElem (by simp; omega), ← hm]; simp
   rename_i tk2 e2 s2
   exact loopTo (i + 1, m ++ [valV cs[i]], tk2) ⟨by show i + 1 ≤ _; omega, e2, s2, hmm⟩ (by show cs.length - (i + 1) < cs.length - i; omega) wA
 ·obtain rfl : i = cs.length := by omega
  rw [List.take_of_length_le (by simp)] at hm
  subst hm
  refine PCall.goGT (Γ1 := [.box b9 (mcB (cs.map valV) (nilTok 1 4) (mc0 fuel)), .row (nilTok 1 4) (([] : List Bool).map PV.bool)]) (Ghost.trans (Ghost.freezeRow (t := tk) (es := (cs.map valV).map Vl.pv) (b := b9) (cs := [.ms tk, .nil, .int .i64 fuel, .str [], .nil, .int .i64 0, .int .i64 0, .int .i64 0, .int .i64 0, .str [], .nil, .np, .np]) (cs' := [.sl 7 ((cs.map valV).map Vl.pv) none, .nil, .int .i64 fuel, .str [], .nil, .int .i64 0, .int .i64 0, .int .i64 0, .int .i64 0, .str [], .nil, .np, .np])
    (.cons (WkF.ms' hs) (.cons (.of (Wk.refl _)) (.cons (.of (Wk.refl _)) (.cons (.of (Wk.refl _)) (.cons (.of (Wk.refl _)) (.cons (.of (Wk.refl _)) (.cons (.of (Wk.refl _)) (.cons (.of (Wk.refl _)) (.cons (.of (Wk.refl _)) (.cons (.of (Wk.refl _)) (.cons (.of (Wk.refl _)) (.cons (.of (Wk.refl _)) (.cons (.of (Wk.refl _)) .nil))))))))))))))
   (Ghost.trans (Ghost.nilRowB _) (Ghost.box (b := b9) (cs := [.sl 7 ((cs.map valV).map Vl.pv) none, .nil, .int .i64 fuel, .str [], .nil, .int .i64 0, .int .i64 0, .int .i64 0, .int .i64 0, .str [], .nil, .np, .np]) (cs' := mcB (cs.map valV) (nilTok 1 4) (mc0 fuel))
    (.cons (Wk.refl _) (.cons (Wk.refl _) (.cons (Wk.refl _) (.cons (Wk.refl _) (.cons (Wk.nilRow _ _) (.cons (Wk.refl _) (.cons (Wk.refl _) (.cons (Wk.refl _) (.cons (Wk.refl _) (.cons (Wk.refl _) (.cons (Wk.nil' rfl) (.cons (Wk.refl _) (.cons (Wk.refl _) .nil))))))))))))))))
   (hev b9 (nilTok 1 4)) (WkT.refl _) ?_
  rintro _ _ ⟨x, s', rfl, rfl, htx, hR⟩
  have htx6 := text6_c x htx
  conv => whnf
  repeat' (first|refine aA2 ?_|((first|refine normN nC ?_|refine normN nD ?_|refine pC (htx6) wR ?_|intro _);conv=>whnf)|(refine zX (fun hc=>?_) (fun hc=>?_)<;>(try simp only [SY] at hc)<;>first|omega|(conv=>whnf)))
  exact PRet.gen (y := .agg [.str s'.out, .int .i64 0, .str (txtV x)]) (Γ' := []) (Wk.refl _) ⟨x, s', hR, rfl, rfl⟩
theorem Run6_c (p : Prog) (hcs : ∀ d ∈ p.consts, d.sz ≤ 1000000000) (hlc : p.consts.length ≤ 1000000) (fuel : Int) (R : Vl → MSt → Prop)
  (hev : ∀ b tk, ACall Tryz.prog 76 [.ptr b 0, .agg p.body.cells, .np, .nil] (mcE b (p.consts.map valV) tk (mc0 fuel)) (fun y Γ' => ∃ x s', y = .tup [.agg (valC x), .int .i64 0] ∧ Γ' = mcE b (p.consts.map valV) tk s' ∧ x.tx = true ∧ R x s')) :
  ACall Tryz.prog 21 [.agg p.cells, .int .i64 fuel] [] (fun y Γ' => ∃ x s', R x s' ∧ y = .agg [.str s'.out, .int .i64 0, .str (txtV x)] ∧ Γ' = []) := by
 have hr := run6_c p.consts hcs hlc p.body fuel R hev
 refine ACall.of_body tt_ok Tryz.func21 rfl rfl (n := 11) rfl rfl ?_
 conv => whnf
 repeat' (first|refine aA2 ?_|((intro _);conv=>whnf)|(refine zX (fun hc=>?_) (fun hc=>?_)<;>(try simp only [SY] at hc)<;>omega))
 refine PCall.go (Γ1 := []) hr (WkT.refl _) ?_
 rintro _ _ ⟨x, s', hR, rfl, rfl⟩
 conv => whnf
 repeat' (first|refine aA2 ?_|(refine zX (fun hc=>?_) (fun hc=>?_)<;>(try simp only [SY] at hc)<;>omega))
 exact PRet.gen (y := .agg [.str s'.out, .int .i64 0, .str (txtV x)]) (Γ' := []) (Wk.refl _) ⟨x, s', hR, rfl, rfl⟩
end Go.Cb

