/-
 Contracts: the document's expander: cond.
 Contracts: the document's expander: case.
 Contracts: the document's expander: do.
 Contracts: the document's expander: forms.
 Plain law: how much a form counts.
 Contracts: the document's expander: expressions.
 Plain law: how much a body counts.
 Contracts: the document's expander: bodies.
 Contracts: the document's expander, whole.
 Plain law: how great data that are read are.
 Contracts: the laws of the maker of terms.
 The laws ScopeResolves and ScopeTexts, as contracts.
 Plain law: what is told of a core datum is right; within a lambda over all its names it has a program.
 The law ScopeFree, as a contract.
 From the readings of arguments to values, and from a contract to what a statement asks.
 The program's data, read at the seat's types; the bulk.
 A world that holds the listed tables: the statements' witness.
-/
import Derived.Carry
import Derived.ChangeArms
import Derived.ChangeSame
import Derived.Deep.DeepHandedRow
import Derived.Deep.DeepWitnessRowRef
import Derived.KernelRfl
import Derived.Lib.LaidIn
import Derived.OpenShut
import Derived.OpenVars
import Derived.RowKit
import Derived.Test.YtmbilkpmnpmheaaGreatDoorRows
import Derived.WideShapes
import Derived.Test.YtmbilkpmnpmheaaGreatDoorF6
set_option linter.unusedSimpArgs false
set_option linter.unusedVariables false
namespace Go.Cb
open Go.Proofs
set_option maxRecDepth 100000
set_option maxHeartbeats 4000000
theorem isKw_iff (d : Datum) (k : List UInt8) : isKw d k = true ↔ d.kind = 2 ∧ d.s = k := by unfold isKw; simp
theorem cndM_eq (ex : Datum → MkS → MkR) (l : List Datum) (s : MkS) (h : 0 < l.length) : cndM ex l s = (
  if itemsB l[0] = false ∨ l[0].its.1 = [] then failM s else
  if isKw (l[0].its.1.getD 0 nulD) kwElse = true then (if l.drop 1 ≠ [] then failM s else begM ex (l[0].its.1.drop 1) s) else
  if l[0].its.1.length = 1 then bndM ex (frsM s).1 (listD [symD kwIf, (frsM s).1, (frsM s).1, (cndM ex (l.drop 1) (frsM s).2).1]) (l[0].its.1.getD 0 nulD) (cndM ex (l.drop 1) (frsM s).2).2 else
  if isKw (l[0].its.1.getD 1 nulD) kwTo = true then
   if l[0].its.1.length ≠ 3 then failM s else
   bndM ex (frsM s).1 (listD [symD kwIf, (frsM s).1, listD [(ex (l[0].its.1.getD 2 nulD) (frsM s).2).1, (frsM s).1], (cndM ex (l.drop 1) (ex (l[0].its.1.getD 2 nulD) (frsM s).2).2).1]) (l[0].its.1.getD 0 nulD) (cndM ex (l.drop 1) (ex (l[0].its.1.getD 2 nulD) (frsM s).2).2).2
  else
  (listD [symD kwIf, (ex (l[0].its.1.getD 0 nulD) s).1, (begM ex (l[0].its.1.drop 1) (ex (l[0].its.1.getD 0 nulD) s).2).1, (cndM ex (l.drop 1) (begM ex (l[0].its.1.drop 1) (ex (l[0].its.1.getD 0 nulD) s).2).2).1], (cndM ex (l.drop 1) (begM ex (l[0].its.1.drop 1) (ex (l[0].its.1.getD 0 nulD) s).2).2).2)) := by
 match l, h with
 | x :: l, _ => rfl
theorem szs_getD {c : List Datum} {i : Nat} (h : i < c.length) : (c.getD i nulD).sz ≤ Datum.szs c := Datum.szs_mem (datD_mem h)
theorem szs_two_le {c : List Datum} (h : 1 < c.length) : (c.getD 0 nulD).sz + Datum.szs (c.drop 1) = Datum.szs c := by
 rw [datD_get (by omega), ← szs_cons_drop (by omega)]
theorem szs_three_le {c : List Datum} (h : c.length = 3) : (c.getD 0 nulD).sz + (c.getD 2 nulD).sz ≤ Datum.szs c := by
 match c, h with
 | [x, y, z], _ => simp [Datum.szs]
theorem cndM_grow (b : Nat) (ex : Datum → MkS → MkR) (M : Nat) (hx : ∀ x : Datum, x.pr = true → x.sz ≤ M → ExOk b ex x) : ∀ (n : Nat) (l : List Datum), l.length ≤ n → (∀ x ∈ l, x.pr = true ∧ x.sz ≤ M) → ∀ s : MkS, 0 ≤ s.n → s.n + Datum.szs l + l.length ≤ 1000000000000 →
  Grow (Datum.szs l + l.length) s (cndM ex l s).2
 | 0, l, hl, hp, s, h0, h1 => by
  have hl0 : l = [] := List.eq_nil_of_length_eq_zero (by omega)
  have hL : cndM ex l s = (voidD, s) := by rw [hl0]; rfl
  rw [hL]
  exact Grow.refl _ s
 | n + 1, l, hl, hp, s, h0, h1 => by
  by_cases h00 : l.length = 0
  ·exact cndM_grow b ex M hx n l (by omega) hp s h0 h1
  have hs := szs_cons_drop (show 0 < l.length by omega)
  have hm : l[0]'(by omega) ∈ l := List.getElem_mem _
  have hdl : (l.drop 1).length = l.length - 1 := List.length_drop
  have hpd : ∀ x ∈ l.drop 1, x.pr = true ∧ x.sz ≤ M := fun x h => hp x (List.mem_of_mem_drop h)
  have hpx := (hp _ hm).1
  have hsx := (hp _ hm).2
  have hcz := Datum.its_szs hpx
  have hcx : ∀ x ∈ (l[0]'(by omega)).its.1, ExOk b ex x := fun x hx' => by have := Datum.its_lt hpx hx'; exact hx x this.2 (by omega)
  have ih := cndM_grow b ex M hx n (l.drop 1) (by omega) hpd
  rw [cndM_eq ex l s (by omega)]
  generalize (l[0]'(by omega)).its.1 = c at *
  have hf : Grow 1 s (frsM s).2 := Grow.frs 0 s
  have hfn : (frsM s).2.n = s.n + 1 := rfl
  split
  ·exact Grow.fail _ s
  rename_i hbad
  have hc0 : 0 < c.length := by
   rcases Nat.eq_zero_or_pos c.length with h | h
   ·exact absurd (.inr (List.eq_nil_of_length_eq_zero h)) hbad
   ·exact h
  have hcd := Datum.szs_drop c 1
  split
  ·split
   ·exact Grow.fail _ s
   ·exact (begM_grow (fun x h => hcx x (List.mem_of_mem_drop h)) s h0 (by omega)).mono (by omega)
  split
  ·have g2 := ih (frsM s).2 (by omega) (by omega)
   have hz := szs_getD (c := c) hc0
   have g3 := (hcx _ (datD_mem hc0) (cndM ex (l.drop 1) (frsM s).2).2 (by unfold Grow at g2; omega) (by unfold Grow at g2; omega)).1
   exact ((hf.trans g2).trans g3).mono (by omega)
  split
  ·split
   ·exact Grow.fail _ s
   ·rename_i h3
    have h3' : c.length = 3 := by omega
    have hz := szs_three_le h3'
    have g1 := (hcx _ (datD_mem (i := 2) (by omega)) (frsM s).2 (by omega) (by omega)).1
    have g2 := ih (ex (c.getD 2 nulD) (frsM s).2).2 (by unfold Grow at g1; omega) (by unfold Grow at g1; omega)
    have g3 := (hcx _ (datD_mem (i := 0) (by omega)) (cndM ex (l.drop 1) (ex (c.getD 2 nulD) (frsM s).2).2).2 (by unfold Grow at g1 g2; omega) (by unfold Grow at g1 g2; omega)).1
    exact (((hf.trans g1).trans g2).trans g3).mono (by omega)
  ·rename_i h1' _
   have hz := szs_two_le (c := c) (by omega)
   have g1 := (hcx _ (datD_mem (i := 0) (by omega)) s (by omega) (by omega)).1
   have g2 := begM_grow (ex := ex) (l := c.drop 1) (fun x h => hcx x (List.mem_of_mem_drop h)) (ex (c.getD 0 nulD) s).2 (by unfold Grow at g1; omega) (by unfold Grow at g1; omega)
   have g3 := ih (begM ex (c.drop 1) (ex (c.getD 0 nulD) s).2).2 (by unfold Grow at g1 g2; omega) (by unfold Grow at g1 g2; omega)
   exact ((g1.trans g2).trans g3).mono (by omega)
theorem cond04_c (b : Nat) (ex : Datum → MkS → MkR) (M : Nat) (hM : M ≤ 1000000000) (hx : ∀ x : Datum, x.pr = true → x.sz ≤ M → ExOk b ex x) (n : Nat) (hn : n ≤ 1000000000) : ∀ (l : List Datum), l.length ≤ n → (∀ x ∈ l, x.pr = true ∧ x.sz ≤ M) → ∀ s : MkS, 0 ≤ s.n → s.n + Datum.szs l + l.length ≤ 1000000000000 →
  ACall Tryz.prog 177 [.ptr b 0, .sl 5 (l.map Datum.pv) none] [mkE b s] (fun y Γ' => y = .agg (cndM ex l s).1.cells ∧ Γ' = [mkE b (cndM ex l s).2]) := by
 induction n with
 | zero =>
  intro l hl hp s h0 h1
  have hl0 : l = [] := List.eq_nil_of_length_eq_zero (by omega)
  have hL : cndM ex l s = (voidD, s) := by rw [hl0]; rfl
  rw [hL]
  refine ACall.of_body tt_ok Tryz.func177 rfl rfl (n := 133) rfl rfl ?_
  conv => whnf
  repeat' (first|refine aA2 ?_|((first|refine pC (void04_c) wR ?_|intro _);conv=>whnf)|(refine zX (fun hc=>?_) (fun hc=>?_)<;>(try simp only [SY] at hc)<;>first|omega|(conv=>whnf)))
  all_goals first
   | (exfalso; omega)
   | exact PRet.gen (y := .agg voidD.cells) (Γ' := [mkE b s]) (Wk.refl _) (And.intro rfl rfl)
   | skip
  all_goals sorry
 | succ n ih =>
  intro l hl hp s h0 h1
  by_cases h00 : l.length = 0
  ·exact ih (by omega) l (by omega) hp s h0 h1
  have hL := cndM_eq ex l s (by omega)
  have hs := szs_cons_drop (show 0 < l.length by omega)
  have hm : l[0]'(by omega) ∈ l := List.getElem_mem _
  have hdl : (l.drop 1).length = l.length - 1 := List.length_drop
  have hpd : ∀ x ∈ l.drop 1, x.pr = true ∧ x.sz ≤ M := fun x h => hp x (List.mem_of_mem_drop h)
  have hpx := (hp _ hm).1
  have hsx := (hp _ hm).2
  have hI := items04_c _ hpx (by omega)
  have hcz := Datum.its_szs hpx
  have hcl := Datum.szs_len (l[0]'(by omega)).its.1
  have hcx : ∀ x ∈ (l[0]'(by omega)).its.1, ExOk b ex x := fun x hx' => by have := Datum.its_lt hpx hx'; exact hx x this.2 (by omega)
  have ihg := cndM_grow b ex M hx n (l.drop 1) (by omega) hpd
  have ihc := ih (by omega) (l.drop 1) (by omega) hpd
  generalize hit : itemsB (l[0]'(by omega)) = ib at *
  generalize hcc : (l[0]'(by omega)).its.1 = c at *
  refine ACall.of_body tt_ok Tryz.func177 rfl rfl (n := 133) rfl rfl ?_
  conv => whnf
  repeat' (first|refine aA2 ?_|((first|refine pC (hI) wR ?_|intro _);conv=>whnf)|(refine zX (fun hc=>?_) (fun hc=>?_)<;>(try simp only [SY] at hc)<;>first|omega|(conv=>whnf)))
  all_goals first
   | (exfalso; omega)
   | skip
  ·have hb : ib = false ∨ c = [] := by
    rcases hc with h | h
    ·exact .inl h
    ·exact .inr (List.eq_nil_of_length_eq_zero (by omega))
   rw [if_pos hb] at hL
   rw [hL]
   refine PCall.go (failM_c b s) (WkT.refl _) ?_
   rintro _ _ ⟨rfl, rfl⟩
   conv => whnf
   repeat' (first|refine aA2 ?_|(refine zX (fun hc=>?_) (fun hc=>?_)<;>(try simp only [SY] at hc)<;>omega))
   exact PRet.gen (y := .agg (failM s).1.cells) (Γ' := [mkE b (failM s).2]) (Wk.refl _) (And.intro rfl rfl)
  ·have hnb : ¬(ib = false ∨ c = []) := by
    have hq := ‹ib = true ∧ ¬((c.length : Int) = 0)›
    rintro (h | h)
    ·rw [h] at hq; cases hq.1
    ·rw [h] at hq; exact hq.2 rfl
   have hc0 : 0 < c.length := by have hq := ‹ib = true ∧ ¬((c.length : Int) = 0)›; omega
   rw [if_neg hnb, datD_get hc0] at hL
   rw [if_pos ((isKw_iff _ _).2 (by assumption)), if_pos (fun h => by rw [h] at hdl; simp at hdl; omega)] at hL
   rw [hL]
   refine PCall.go (failM_c b s) (WkT.refl _) ?_
   rintro _ _ ⟨rfl, rfl⟩
   conv => whnf
   repeat' (first|refine aA2 ?_|(refine zX (fun hc=>?_) (fun hc=>?_)<;>(try simp only [SY] at hc)<;>omega))
   exact PRet.gen (y := .agg (failM s).1.cells) (Γ' := [mkE b (failM s).2]) (Wk.refl _) (And.intro rfl rfl)
  ·have hnb : ¬(ib = false ∨ c = []) := by
    have hq := ‹ib = true ∧ ¬((c.length : Int) = 0)›
    rintro (h | h)
    ·rw [h] at hq; cases hq.1
    ·rw [h] at hq; exact hq.2 rfl
   have hc0 : 0 < c.length := by have hq := ‹ib = true ∧ ¬((c.length : Int) = 0)›; omega
   rw [if_neg hnb, datD_get hc0] at hL
   rw [if_pos ((isKw_iff _ _).2 (by assumption)), if_neg (fun h => h (List.eq_nil_of_length_eq_zero (by omega)))] at hL
   rw [hL]
   refine PCall.go (begin04_c b ex (c.drop 1) (fun x h => hcx x (List.mem_of_mem_drop h)) (by rw [List.length_drop]; omega) s h0 (by have := Datum.szs_drop c 1; omega)) (WkT.refl _) ?_
   rintro _ _ ⟨rfl, rfl⟩
   generalize begM ex (c.drop 1) s = r at *
   conv => whnf
   repeat' (first|refine aA2 ?_|(refine zX (fun hc=>?_) (fun hc=>?_)<;>(try simp only [SY] at hc)<;>omega))
   exact PRet.gen (y := .agg r.1.cells) (Γ' := [mkE b r.2]) (Wk.refl _) (And.intro rfl rfl)
  ·have hnb : ¬(ib = false ∨ c = []) := by
    have hq := ‹ib = true ∧ ¬((c.length : Int) = 0)›
    rintro (h | h)
    ·rw [h] at hq; cases hq.1
    ·rw [h] at hq; exact hq.2 rfl
   have hc0 : 0 < c.length := by have hq := ‹ib = true ∧ ¬((c.length : Int) = 0)›; omega
   rw [if_neg hnb, datD_get hc0] at hL
   have hne : ¬isKw (c[0]'hc0) kwElse = true := fun h => by
    obtain ⟨h1, h2⟩ := (isKw_iff _ _).1 h
    rcases ‹¬(c[0]'hc0).kind = 2 ∨ ¬(c[0]'hc0).s = [101, 108, 115, 101]› with h3 | h3
    ·exact h3 h1
    ·exact h3 h2
   rw [if_neg hne] at hL
   have hm0 : c[0]'hc0 ∈ c := List.getElem_mem _
   have hz0 := Datum.szs_mem hm0
   have hf : Grow 1 s (frsM s).2 := Grow.frs 0 s
   have hfn : (frsM s).2.n = s.n + 1 := rfl
   rw [if_pos (by omega)] at hL
   have hfc := fresh04_c b s h0 (by omega)
   generalize frsM s = x at *
   have g2 := ihg x.2 (by omega) (by omega)
   have hc2 := ihc x.2 (by omega) (by omega)
   generalize cndM ex (l.drop 1) x.2 = r at *
   have hbc := bound04_c b ex x.1 (listD [symD kwIf, x.1, x.1, r.1]) (c[0]'hc0) (hcx _ hm0) r.2 (by unfold Grow at g2; omega) (by unfold Grow at g2; omega)
   generalize bndM ex x.1 (listD [symD kwIf, x.1, x.1, r.1]) (c[0]'hc0) r.2 = q at *
   rw [hL]
   refine PCall.go hfc (WkT.refl _) ?_
   rintro _ _ ⟨rfl, rfl⟩
   conv => whnf
   repeat' (first|refine aA2 ?_|((intro _);conv=>whnf)|(refine zX (fun hc=>?_) (fun hc=>?_)<;>(try simp only [SY] at hc)<;>omega))
   refine PDraw.sE [mkE b x.2] [8,9,10] [14,15] tt_ok mixed ?_
   conv=>whnf
   repeat (first|refine aR2 ?_|((((apply zZ);(conv=>whnf);(repeat ((refine pC (sym04_c _) wR ?_);conv=>whnf));exact pZ));conv=>whnf))
   refine PCall.go hc2 (WkT.refl _) ?_
   rintro _ _ ⟨rfl, rfl⟩
   conv => whnf
   repeat' (first|refine aA2 ?_|((first|refine pC (list04_c) wR ?_|intro _);conv=>whnf)|(refine zX (fun hc=>?_) (fun hc=>?_)<;>(try simp only [SY] at hc)<;>omega))
   refine PCall.go hbc (WkT.refl _) ?_
   rintro _ _ ⟨rfl, rfl⟩
   conv => whnf
   repeat' (first|refine aA2 ?_|(refine zX (fun hc=>?_) (fun hc=>?_)<;>(try simp only [SY] at hc)<;>omega))
   exact PRet.gen (y := .agg q.1.cells) (Γ' := [mkE b q.2]) (Wk.refl _) (And.intro rfl rfl)
  ·have hnb : ¬(ib = false ∨ c = []) := by
    have hq := ‹ib = true ∧ ¬((c.length : Int) = 0)›
    rintro (h | h)
    ·rw [h] at hq; cases hq.1
    ·rw [h] at hq; exact hq.2 rfl
   have hc0 : 0 < c.length := by have hq := ‹ib = true ∧ ¬((c.length : Int) = 0)›; omega
   rw [if_neg hnb, datD_get hc0] at hL
   have hne : ¬isKw (c[0]'hc0) kwElse = true := fun h => by
    obtain ⟨h1, h2⟩ := (isKw_iff _ _).1 h
    rcases ‹¬(c[0]'hc0).kind = 2 ∨ ¬(c[0]'hc0).s = [101, 108, 115, 101]› with h3 | h3
    ·exact h3 h1
    ·exact h3 h2
   rw [if_neg hne] at hL
   have hm0 : c[0]'hc0 ∈ c := List.getElem_mem _
   have hz0 := Datum.szs_mem hm0
   have hf : Grow 1 s (frsM s).2 := Grow.frs 0 s
   have hfn : (frsM s).2.n = s.n + 1 := rfl
   rw [if_neg (by omega), datD_get (show 1 < c.length by omega), if_pos ((isKw_iff _ _).2 (by assumption)), if_pos (by omega)] at hL
   rw [hL]
   refine PCall.go (failM_c b s) (WkT.refl _) ?_
   rintro _ _ ⟨rfl, rfl⟩
   conv => whnf
   repeat' (first|refine aA2 ?_|(refine zX (fun hc=>?_) (fun hc=>?_)<;>(try simp only [SY] at hc)<;>omega))
   exact PRet.gen (y := .agg (failM s).1.cells) (Γ' := [mkE b (failM s).2]) (Wk.refl _) (And.intro rfl rfl)
  ·have hnb : ¬(ib = false ∨ c = []) := by
    have hq := ‹ib = true ∧ ¬((c.length : Int) = 0)›
    rintro (h | h)
    ·rw [h] at hq; cases hq.1
    ·rw [h] at hq; exact hq.2 rfl
   have hc0 : 0 < c.length := by have hq := ‹ib = true ∧ ¬((c.length : Int) = 0)›; omega
   rw [if_neg hnb, datD_get hc0] at hL
   have hne : ¬isKw (c[0]'hc0) kwElse = true := fun h => by
    obtain ⟨h1, h2⟩ := (isKw_iff _ _).1 h
    rcases ‹¬(c[0]'hc0).kind = 2 ∨ ¬(c[0]'hc0).s = [101, 108, 115, 101]› with h3 | h3
    ·exact h3 h1
    ·exact h3 h2
   rw [if_neg hne] at hL
   have hm0 : c[0]'hc0 ∈ c := List.getElem_mem _
   have hz0 := Datum.szs_mem hm0
   have hf : Grow 1 s (frsM s).2 := Grow.frs 0 s
   have hfn : (frsM s).2.n = s.n + 1 := rfl
   rw [if_neg (by omega), datD_get (show 1 < c.length by omega), if_pos ((isKw_iff _ _).2 (by assumption)), if_neg (by omega), datD_get (show 2 < c.length by omega)] at hL
   have h3' : c.length = 3 := by omega
   have hz := szs_three_le h3'
   rw [datD_get (show 0 < c.length by omega), datD_get (show 2 < c.length by omega)] at hz
   have hm2 : c[2]'(by omega) ∈ c := List.getElem_mem _
   have hfc := fresh04_c b s h0 (by omega)
   generalize frsM s = x at *
   obtain ⟨g1, hc1⟩ := hcx _ hm2 x.2 (by omega) (by omega)
   generalize ex (c[2]'(by omega)) x.2 = f at *
   have g2 := ihg f.2 (by unfold Grow at g1; omega) (by unfold Grow at g1; omega)
   have hc2 := ihc f.2 (by unfold Grow at g1; omega) (by unfold Grow at g1; omega)
   generalize cndM ex (l.drop 1) f.2 = r at *
   have hbc := bound04_c b ex x.1 (listD [symD kwIf, x.1, listD [f.1, x.1], r.1]) (c[0]'hc0) (hcx _ hm0) r.2 (by unfold Grow at g1 g2; omega) (by unfold Grow at g1 g2; omega)
   generalize bndM ex x.1 (listD [symD kwIf, x.1, listD [f.1, x.1], r.1]) (c[0]'hc0) r.2 = q at *
   rw [hL]
   refine PCall.go hfc (WkT.refl _) ?_
   rintro _ _ ⟨rfl, rfl⟩
   conv => whnf
   repeat' (first|refine aA2 ?_|((intro _);conv=>whnf)|(refine zX (fun hc=>?_) (fun hc=>?_)<;>(try simp only [SY] at hc)<;>omega))
   refine PCall.go hc1 (WkT.refl _) ?_
   rintro _ _ ⟨rfl, rfl⟩
   conv => whnf
   repeat' (first|refine aA2 ?_|((intro _);conv=>whnf)|(refine zX (fun hc=>?_) (fun hc=>?_)<;>(try simp only [SY] at hc)<;>omega))
   refine PDraw.sE [mkE b f.2] [11,12,13] [17,18] tt_ok mixed ?_
   conv=>whnf
   repeat (first|refine aR2 ?_|((((apply zZ);(conv=>whnf);(repeat ((first|refine pC (sym04_c _) wR ?_|refine pC (list04_c) wR ?_);conv=>whnf));exact pZ));conv=>whnf))
   refine PCall.go hc2 (WkT.refl _) ?_
   rintro _ _ ⟨rfl, rfl⟩
   conv => whnf
   repeat' (first|refine aA2 ?_|((first|refine pC (list04_c) wR ?_|intro _);conv=>whnf)|(refine zX (fun hc=>?_) (fun hc=>?_)<;>(try simp only [SY] at hc)<;>omega))
   refine PCall.go hbc (WkT.refl _) ?_
   rintro _ _ ⟨rfl, rfl⟩
   conv => whnf
   repeat' (first|refine aA2 ?_|(refine zX (fun hc=>?_) (fun hc=>?_)<;>(try simp only [SY] at hc)<;>omega))
   exact PRet.gen (y := .agg q.1.cells) (Γ' := [mkE b q.2]) (Wk.refl _) (And.intro rfl rfl)
  ·have hnb : ¬(ib = false ∨ c = []) := by
    have hq := ‹ib = true ∧ ¬((c.length : Int) = 0)›
    rintro (h | h)
    ·rw [h] at hq; cases hq.1
    ·rw [h] at hq; exact hq.2 rfl
   have hc0 : 0 < c.length := by have hq := ‹ib = true ∧ ¬((c.length : Int) = 0)›; omega
   rw [if_neg hnb, datD_get hc0] at hL
   have hne : ¬isKw (c[0]'hc0) kwElse = true := fun h => by
    obtain ⟨h1, h2⟩ := (isKw_iff _ _).1 h
    rcases ‹¬(c[0]'hc0).kind = 2 ∨ ¬(c[0]'hc0).s = [101, 108, 115, 101]› with h3 | h3
    ·exact h3 h1
    ·exact h3 h2
   rw [if_neg hne] at hL
   have hm0 : c[0]'hc0 ∈ c := List.getElem_mem _
   have hz0 := Datum.szs_mem hm0
   have hf : Grow 1 s (frsM s).2 := Grow.frs 0 s
   have hfn : (frsM s).2.n = s.n + 1 := rfl
   have hnt : ¬isKw (c[1]'(by omega)) kwTo = true := fun h => by
    obtain ⟨h1, h2⟩ := (isKw_iff _ _).1 h
    rcases hc with h3 | h3
    ·exact h3 h1
    ·exact h3 h2
   rw [if_neg (by omega), datD_get (show 1 < c.length by omega), if_neg hnt] at hL
   have hz := szs_two_le (c := c) (by omega)
   rw [datD_get hc0] at hz
   obtain ⟨g1, hc1⟩ := hcx _ hm0 s h0 (by omega)
   generalize ex (c[0]'hc0) s = a at *
   have hxd : ∀ x ∈ c.drop 1, ExOk b ex x := fun x h => hcx x (List.mem_of_mem_drop h)
   have g2 := begM_grow hxd a.2 (by unfold Grow at g1; omega) (by unfold Grow at g1; omega)
   have hc2 := begin04_c b ex (c.drop 1) hxd (by rw [List.length_drop]; omega) a.2 (by unfold Grow at g1; omega) (by unfold Grow at g1; omega)
   generalize begM ex (c.drop 1) a.2 = e at *
   have hc3 := ihc e.2 (by unfold Grow at g1 g2; omega) (by unfold Grow at g1 g2; omega)
   generalize cndM ex (l.drop 1) e.2 = r at *
   rw [hL]
   refine PCall.go hc1 (WkT.refl _) ?_
   rintro _ _ ⟨rfl, rfl⟩
   conv => whnf
   repeat' (first|refine aA2 ?_|((intro _);conv=>whnf)|(refine zX (fun hc=>?_) (fun hc=>?_)<;>(try simp only [SY] at hc)<;>omega))
   refine PCall.go hc2 (WkT.refl _) ?_
   rintro _ _ ⟨rfl, rfl⟩
   conv => whnf
   repeat' (first|refine aA2 ?_|((intro _);conv=>whnf)|(refine zX (fun hc=>?_) (fun hc=>?_)<;>(try simp only [SY] at hc)<;>omega))
   refine PDraw.sE [mkE b e.2] [6] [7,8,9] tt_ok mixed ?_
   conv=>whnf
   repeat (first|refine aR2 ?_|((((apply zZ);(conv=>whnf);(repeat ((refine pC (sym04_c _) wR ?_);conv=>whnf));exact pZ));conv=>whnf))
   refine PCall.go hc3 (WkT.refl _) ?_
   rintro _ _ ⟨rfl, rfl⟩
   conv => whnf
   repeat' (first|refine aA2 ?_|((first|refine pC (list04_c) wR ?_|intro _);conv=>whnf)|(refine zX (fun hc=>?_) (fun hc=>?_)<;>(try simp only [SY] at hc)<;>omega))
   exact PRet.gen (y := .agg (listD [symD kwIf, a.1, e.1, r.1]).cells) (Γ' := [mkE b r.2]) (Wk.refl _) (And.intro rfl rfl)
end Go.Cb
namespace Go.Cb
open Go.Proofs
set_option maxRecDepth 100000
set_option maxHeartbeats 4000000
theorem choM_eq (ex : Datum → MkS → MkR) (y : Datum) (l : List Datum) (s : MkS) (h : 0 < l.length) : choM ex y l s = (
  if itemsB l[0] = false ∨ l[0].its.1.length < 2 then failM s else
  if isKw (l[0].its.1.getD 0 nulD) kwElse = true then (if l.drop 1 ≠ [] then failM s else begM ex (l[0].its.1.drop 1) s) else
  if itemsB (l[0].its.1.getD 0 nulD) = false then failM s else
  (listD [symD kwIf, tstD y (l[0].its.1.getD 0 nulD).its.1, (begM ex (l[0].its.1.drop 1) s).1, (choM ex y (l.drop 1) (begM ex (l[0].its.1.drop 1) s).2).1], (choM ex y (l.drop 1) (begM ex (l[0].its.1.drop 1) s).2).2)) := by
 match l, h with
 | x :: l, _ => rfl
theorem choM_grow (b : Nat) (ex : Datum → MkS → MkR) (y : Datum) (M : Nat) (hx : ∀ x : Datum, x.pr = true → x.sz ≤ M → ExOk b ex x) : ∀ (n : Nat) (l : List Datum), l.length ≤ n → (∀ x ∈ l, x.pr = true ∧ x.sz ≤ M) → ∀ s : MkS, 0 ≤ s.n → s.n + Datum.szs l + l.length ≤ 1000000000000 →
  Grow (Datum.szs l + l.length) s (choM ex y l s).2
 | 0, l, hl, hp, s, h0, h1 => by
  have hl0 : l = [] := List.eq_nil_of_length_eq_zero (by omega)
  have hL : choM ex y l s = (voidD, s) := by rw [hl0]; rfl
  rw [hL]
  exact Grow.refl _ s
 | n + 1, l, hl, hp, s, h0, h1 => by
  by_cases h00 : l.length = 0
  ·exact choM_grow b ex y M hx n l (by omega) hp s h0 h1
  have hs := szs_cons_drop (show 0 < l.length by omega)
  have hm : l[0]'(by omega) ∈ l := List.getElem_mem _
  have hdl : (l.drop 1).length = l.length - 1 := List.length_drop
  have hpd : ∀ x ∈ l.drop 1, x.pr = true ∧ x.sz ≤ M := fun x h => hp x (List.mem_of_mem_drop h)
  have hpx := (hp _ hm).1
  have hsx := (hp _ hm).2
  have hcz := Datum.its_szs hpx
  have hcx : ∀ x ∈ (l[0]'(by omega)).its.1, ExOk b ex x := fun x hx' => by have := Datum.its_lt hpx hx'; exact hx x this.2 (by omega)
  have ih := choM_grow b ex y M hx n (l.drop 1) (by omega) hpd
  rw [choM_eq ex y l s (by omega)]
  generalize (l[0]'(by omega)).its.1 = c at *
  split
  ·exact Grow.fail _ s
  have hcd := Datum.szs_drop c 1
  have g1 := begM_grow (ex := ex) (l := c.drop 1) (fun x h => hcx x (List.mem_of_mem_drop h)) s h0 (by omega)
  split
  ·split
   ·exact Grow.fail _ s
   ·exact g1.mono (by omega)
  split
  ·exact Grow.fail _ s
  ·have g2 := ih (begM ex (c.drop 1) s).2 (by unfold Grow at g1; omega) (by unfold Grow at g1; omega)
   exact (g1.trans g2).mono (by omega)
theorem drExp04haa {p q : Prop} (k : q) (h : q → p := by intro hq; first | exact PDraw.sP (some 74) rfl [] [14] tt_ok mixed hq) : p := h k
theorem choice04_c (b : Nat) (ex : Datum → MkS → MkR) (y : Datum) (M : Nat) (hM : M ≤ 1000000000) (hx : ∀ x : Datum, x.pr = true → x.sz ≤ M → ExOk b ex x) (n : Nat) (hn : n ≤ 1000000000) : ∀ (l : List Datum), l.length ≤ n → (∀ x ∈ l, x.pr = true ∧ x.sz ≤ M) → ∀ s : MkS, 0 ≤ s.n → s.n + Datum.szs l + l.length ≤ 1000000000000 →
  ACall Tryz.prog 179 [.ptr b 0, .agg y.cells, .sl 5 (l.map Datum.pv) none] [mkE b s] (fun z Γ' => z = .agg (choM ex y l s).1.cells ∧ Γ' = [mkE b (choM ex y l s).2]) := by
 induction n with
 | zero =>
  intro l hl hp s h0 h1
  have hl0 : l = [] := List.eq_nil_of_length_eq_zero (by omega)
  have hL : choM ex y l s = (voidD, s) := by rw [hl0]; rfl
  rw [hL]
  refine ACall.of_body tt_ok Tryz.func179 rfl rfl (n := 102) rfl rfl ?_
  conv => whnf
  repeat' (first|refine aA2 ?_|((first|refine pC (void04_c) wR ?_|intro _);conv=>whnf)|(refine zX (fun hc=>?_) (fun hc=>?_)<;>(try simp only [SY] at hc)<;>first|omega|(conv=>whnf)))
  all_goals first
   | (exfalso; omega)
   | exact PRet.gen (y := .agg voidD.cells) (Γ' := [mkE b s]) (Wk.refl _) (And.intro rfl rfl)
   | skip
 | succ n ih =>
  intro l hl hp s h0 h1
  by_cases h00 : l.length = 0
  ·exact ih (by omega) l (by omega) hp s h0 h1
  have hL := choM_eq ex y l s (by omega)
  have hs := szs_cons_drop (show 0 < l.length by omega)
  have hm : l[0]'(by omega) ∈ l := List.getElem_mem _
  have hdl : (l.drop 1).length = l.length - 1 := List.length_drop
  have hpd : ∀ x ∈ l.drop 1, x.pr = true ∧ x.sz ≤ M := fun x h => hp x (List.mem_of_mem_drop h)
  have hpx := (hp _ hm).1
  have hsx := (hp _ hm).2
  have hI := items04_c _ hpx (by omega)
  have hcz := Datum.its_szs hpx
  have hcl := Datum.szs_len (l[0]'(by omega)).its.1
  have hcx : ∀ x ∈ (l[0]'(by omega)).its.1, ExOk b ex x := fun x hx' => by have := Datum.its_lt hpx hx'; exact hx x this.2 (by omega)
  have hcp : ∀ x ∈ (l[0]'(by omega)).its.1, x.pr = true ∧ x.sz ≤ 1000000000 := fun x hx' => by have := Datum.its_lt hpx hx'; exact ⟨this.2, by omega⟩
  have ihg := choM_grow b ex y M hx n (l.drop 1) (by omega) hpd
  have ihc := ih (by omega) (l.drop 1) (by omega) hpd
  generalize hit : itemsB (l[0]'(by omega)) = ib at *
  generalize hcc : (l[0]'(by omega)).its.1 = c at *
  refine ACall.of_body tt_ok Tryz.func179 rfl rfl (n := 102) rfl rfl ?_
  conv => whnf
  repeat (first|refine aR2 ?_|((intro _);conv=>whnf))
  rename_i b4 b6 hlv
  conv => whnf
  repeat' (first|refine aA2 ?_|((first|refine pC (hI) wR ?_|refine pC (items04_c _ (hcp _ (List.getElem_mem _)).1 (hcp _ (List.getElem_mem _)).2) wR ?_|refine pC (truth04_c _) wR ?_|intro _);conv=>whnf)|(refine zX (fun hc=>?_) (fun hc=>?_)<;>(try simp only [SY] at hc)<;>first|omega|(conv=>whnf)))
  all_goals first
   | (exfalso; omega)
   | skip
  ·have hb : ib = false ∨ c.length < 2 := by
    rcases hc with h | h
    ·exact .inl h
    ·exact .inr (by omega)
   rw [if_pos hb] at hL
   rw [hL]
   refine PCall.go (failM_c b s) (WkT.refl _) ?_
   rintro _ _ ⟨rfl, rfl⟩
   conv => whnf
   repeat' (first|refine aA2 ?_|(refine zX (fun hc=>?_) (fun hc=>?_)<;>(try simp only [SY] at hc)<;>omega))
   exact PRet.gen (y := .agg (failM s).1.cells) (Γ' := [mkE b (failM s).2]) (Wk.refl _) (And.intro rfl rfl)
  ·have hq := ‹ib = true ∧ 2 ≤ (c.length : Int)›
   have hnb : ¬(ib = false ∨ c.length < 2) := by
    rintro (h | h)
    ·rw [h] at hq; cases hq.1
    ·omega
   have hc0 : 0 < c.length := by omega
   rw [if_neg hnb, datD_get hc0] at hL
   rw [if_pos ((isKw_iff _ _).2 (by assumption)), if_pos (fun h => by rw [h] at hdl; simp at hdl; omega)] at hL
   rw [hL]
   refine PCall.go (failM_c b s) (WkT.refl _) ?_
   rintro _ _ ⟨rfl, rfl⟩
   conv => whnf
   repeat' (first|refine aA2 ?_|(refine zX (fun hc=>?_) (fun hc=>?_)<;>(try simp only [SY] at hc)<;>omega))
   exact PRet.gen (y := .agg (failM s).1.cells) (Γ' := [mkE b (failM s).2]) (Wk.refl _) (And.intro rfl rfl)
  ·have hq := ‹ib = true ∧ 2 ≤ (c.length : Int)›
   have hnb : ¬(ib = false ∨ c.length < 2) := by
    rintro (h | h)
    ·rw [h] at hq; cases hq.1
    ·omega
   have hc0 : 0 < c.length := by omega
   rw [if_neg hnb, datD_get hc0] at hL
   rw [if_pos ((isKw_iff _ _).2 (by assumption)), if_neg (fun h => h (List.eq_nil_of_length_eq_zero (by omega)))] at hL
   rw [hL]
   refine PCall.go (begin04_c b ex (c.drop 1) (fun x h => hcx x (List.mem_of_mem_drop h)) (by rw [List.length_drop]; omega) s h0 (by have := Datum.szs_drop c 1; omega)) (WkT.refl _) ?_
   rintro _ _ ⟨rfl, rfl⟩
   generalize begM ex (c.drop 1) s = r at *
   conv => whnf
   repeat' (first|refine aA2 ?_|(refine zX (fun hc=>?_) (fun hc=>?_)<;>(try simp only [SY] at hc)<;>omega))
   exact PRet.gen (y := .agg r.1.cells) (Γ' := [mkE b r.2]) (Wk.refl _) (And.intro rfl rfl)
  ·have hq := ‹ib = true ∧ 2 ≤ (c.length : Int)›
   have hnb : ¬(ib = false ∨ c.length < 2) := by
    rintro (h | h)
    ·rw [h] at hq; cases hq.1
    ·omega
   have hc0 : 0 < c.length := by omega
   rw [if_neg hnb, datD_get hc0] at hL
   have hne : ¬isKw (c[0]'hc0) kwElse = true := fun h => by
    obtain ⟨h1, h2⟩ := (isKw_iff _ _).1 h
    rcases ‹¬(c[0]'hc0).kind = 2 ∨ ¬(c[0]'hc0).s = [101, 108, 115, 101]› with h3 | h3
    ·exact h3 h1
    ·exact h3 h2
   rw [if_neg hne] at hL
   rw [if_pos (by assumption)] at hL
   rw [hL]
   refine PCall.go (failM_c b s) (WkT.refl _) ?_
   rintro _ _ ⟨rfl, rfl⟩
   conv => whnf
   repeat' (first|refine aA2 ?_|(refine zX (fun hc=>?_) (fun hc=>?_)<;>(try simp only [SY] at hc)<;>omega))
   exact PRet.gen (y := .agg (failM s).1.cells) (Γ' := [mkE b (failM s).2]) (Wk.refl _) (And.intro rfl rfl)
  ·have hq := ‹ib = true ∧ 2 ≤ (c.length : Int)›
   have hnb : ¬(ib = false ∨ c.length < 2) := by
    rintro (h | h)
    ·rw [h] at hq; cases hq.1
    ·omega
   have hc0 : 0 < c.length := by omega
   rw [if_neg hnb, datD_get hc0] at hL
   have hne : ¬isKw (c[0]'hc0) kwElse = true := fun h => by
    obtain ⟨h1, h2⟩ := (isKw_iff _ _).1 h
    rcases ‹¬(c[0]'hc0).kind = 2 ∨ ¬(c[0]'hc0).s = [101, 108, 115, 101]› with h3 | h3
    ·exact h3 h1
    ·exact h3 h2
   rw [if_neg hne] at hL
   rw [if_neg (by rw [hc]; simp)] at hL
   have hg1 := begM_grow (ex := ex) (l := c.drop 1) (fun x h => hcx x (List.mem_of_mem_drop h)) s h0 (by have := Datum.szs_drop c 1; omega)
   have hcd := Datum.szs_drop c 1
   have hc1 := begin04_c b ex (c.drop 1) (fun x h => hcx x (List.mem_of_mem_drop h)) (by rw [List.length_drop]; omega) s h0 (by omega)
   generalize begM ex (c.drop 1) s = e at *
   have hg2 := ihg e.2 (by unfold Grow at hg1; omega) (by unfold Grow at hg1; omega)
   have hc2 := ihc e.2 (by unfold Grow at hg1; omega) (by unfold Grow at hg1; omega)
   generalize choM ex y (l.drop 1) e.2 = r at *
   have hDl : (c[0]'hc0).its.1.length ≤ 1000000000 := by have := hcp _ (List.getElem_mem hc0); have h2 := Datum.its_szs this.1; have h3 := Datum.szs_len (c[0]'hc0).its.1; omega
   generalize (c[0]'hc0).its.1 = D at *
   rename_i b11 hlD
   rw [show ([.int .i64 (truD 0).kind, .int .i64 (truD 0).n, .int .i64 (truD 0).d, .str (truD 0).s, .sl 5 ((truD 0).l.map Datum.pv) none] : List PV) = datC (truD 0) from rfl]
   refine PLoop.over [12, 70, 71, 72, 73, 74, 75, 76, 77, 78, 79, 80, 81, 82, 83, 84, 85, 86, 87] (fun x : Nat × Datum => [(12, .int .i64 ((x.1 : Int) - 1))]) (fun x : Nat × Datum => [.box b11 (datC x.2), resE b6, .box b4 (datC y), mkE b s]) (fun x => x.1 ≤ D.length ∧ x.2 = tstD y (D.drop x.1)) (fun x => x.1) (D.length, truD 0) ⟨Nat.le_refl _, by rw [List.drop_of_length_le (Nat.le_refl _)]; rfl⟩ wA ?_
   rintro ⟨i, T⟩ ⟨hi, hT⟩
   dsimp only at hi hT ⊢
   conv => whnf
   repeat' (first|refine aA2 ?_|((first|((apply zZ);(conv=>whnf);(repeat ((first|refine pC (sym04_c _) wR ?_|refine pC (list04_c) wR ?_|refine pC (truth04_c _) wR ?_|refine pC (quoted04_c) wR ?_);conv=>whnf));exact pZ)|refine drExp04haa ?_);conv=>whnf)|(refine zX (fun hc=>?_) (fun hc=>?_)<;>(try simp only [SY] at hc)<;>(conv=>whnf)))
   ·have h1' : i - 1 < D.length := by omega
    have e1 : D.drop (i - 1) = D[i - 1] :: D.drop i := by rw [drop_at h1', show i - 1 + 1 = i by omega]
    exact loopTo (i - 1, listD [symD [105, 102], listD [symD [37, 101, 113, 63], y, quotD D[i - 1]], truD 1, T]) ⟨by show i - 1 ≤ _; omega, by show listD _ = _; rw [e1, hT]; rfl⟩ (by show i - 1 < i; omega) wA
   ·have e1 : T = tstD y D := by rw [hT, show i = 0 by omega]; rfl
    rw [← e1] at hL
    rw [hL]
    refine PCall.go hc1 (WkT.refl _) ?_
    rintro _ _ ⟨rfl, rfl⟩
    conv => whnf
    repeat' (first|refine aA2 ?_|((intro _);conv=>whnf)|(refine zX (fun hc=>?_) (fun hc=>?_)<;>(try simp only [SY] at hc)<;>omega))
    refine PDraw.sE [mkE b e.2] [7] [8,9,10] tt_ok mixed ?_
    conv=>whnf
    repeat (first|refine aR2 ?_|((((apply zZ);(conv=>whnf);(repeat ((refine pC (sym04_c _) wR ?_);conv=>whnf));exact pZ));conv=>whnf))
    refine PCall.go hc2 (WkT.refl _) ?_
    rintro _ _ ⟨rfl, rfl⟩
    conv => whnf
    repeat' (first|refine aA2 ?_|((first|refine pC (list04_c) wR ?_|intro _);conv=>whnf)|(refine zX (fun hc=>?_) (fun hc=>?_)<;>(try simp only [SY] at hc)<;>omega))
    exact PRet.gen (y := .agg (listD [symD kwIf, T, e.1, r.1]).cells) (Γ' := [mkE b r.2]) (Wk.refl _) (And.intro rfl rfl)
end Go.Cb
namespace Go.Cb
open Go.Proofs
set_option maxRecDepth 100000
set_option maxHeartbeats 4000000
theorem PRow.oneDat {e : TypeId} {d : Datum} {K : PV → Ent → Prop} (k : ∀ t : Tok, t.e = e → t.s = 5 → K (.ms t) (.row t ([d].map Datum.pv))) : PRow 5 [.agg (datC d)] e K := by
 refine ⟨by simp [PV.cellsOf], by simp [PV.cellular], .inr fun t h1 h2 => ?_⟩
 have := k t h1 h2
 rw [List.map_cons, List.map_nil, Datum.pv_eq] at this
 exact this
theorem ACall.weakD {P : Program} {f : FuncId} {args args' : List PV} {Γ Γ' : List Ent} {Q : PV → List Ent → Prop} (hg : Weak args Γ args' Γ') (h : ACall P f args' Γ' Q) : ACall P f args Γ Q :=
 ⟨h.1, fun w0 F M w vs hS hT => by
  obtain ⟨F1, a1, a2, a3⟩ := hg w0 F M w vs hS hT
  refine (h.2 w0 F1 M w vs a2 a3).mono ?_
  rintro e w' ⟨v, F', y, Γ2, e1, e2, e3⟩
  exact ⟨v, F', y, Γ2, e1, Fz.le_trans a1 e2, e3⟩⟩
theorem PCall.pureFzD {P : Program} {f : FuncId} {args args' : List PV} {y : PV} {Γ Γ0 : List Ent} {K : PV → List Ent → Prop} (t : Tok) (es : List PV) [hp : PickE Γ (.row t es) Γ0] (hw : WkFT t es args args') (h : ACallP P f args' y) (k : K y (.tok t :: Γ0)) : PCall P f args Γ K := by
 have h1 := ACall.frame h (Γ := .tok t :: Γ0) (Γ2 := .tok t :: Γ0) (List.Perm.refl _)
 refine ⟨.inl (ACall.weakD (Weak.freezeRow (hp := hp) hw) ⟨h1.1, fun w0 F M w vs hS hT => (h1.2 w0 F M w vs hS hT).mono ?_⟩)⟩
 rintro e w' ⟨v, F', y', Γ', e1, e2, e3, e4, Γ1', rfl, rfl⟩
 refine ⟨v, F', _, _, e1, e2, ?_, e4, k⟩
 refine e3.sub ?_
 rw [List.append_assoc]
 exact List.sublist_append_right _ _
theorem set_last {α : Type} : ∀ (l : List α) (a c : α) (k : Nat), k = l.length → (l ++ [a]).set k c = l ++ [c]
 | [], a, c, k, h => by subst h; rfl
 | x :: l, a, c, k, h => by
  subst h
  show x :: ((l ++ [a]).set l.length c) = _
  rw [set_last l a c _ rfl]
  rfl
theorem stpF_len : ∀ {l : List Datum} {b : List (Datum × Datum × Datum)}, stpF l = some b → b.length = l.length
 | [], b, h => by rw [stpF] at h; cases h; rfl
 | x :: xs, b, h => by
  rw [stpF] at h
  split at h
  ·cases hb : stpF xs with
   | none => rw [hb] at h; cases h
   | some b' =>
    rw [hb] at h
    cases h
    rw [List.length_cons, List.length_cons, stpF_len hb]
  ·cases h
def nstp (p : List Datum) : Datum := if p.length = 2 then p.getD 0 nulD else p.getD 2 nulD
theorem stp_one {p : List Datum} (h2 : 2 ≤ p.length) (h3 : p.length ≤ 3) : (p.getD 0 nulD).sz + (p.getD 1 nulD).sz ≤ Datum.szs p ∧ (nstp p).sz ≤ Datum.szs p := by
 unfold nstp
 match p, h2, h3 with
 | [a, b], _, _ => simp [Datum.szs]
 | [a, b, c], _, _ => simp [Datum.szs]; omega
theorem stp_two {p : List Datum} (h2 : 2 ≤ p.length) (h3 : p.length ≤ 3) : (nstp p).sz + (p.getD 1 nulD).sz ≤ Datum.szs p := by
 unfold nstp
 match p, h2, h3 with
 | [a, b], _, _ => simp [Datum.szs]
 | [a, b, c], _, _ => simp [Datum.szs]; omega
theorem stpF_two : ∀ {l : List Datum} {b : List (Datum × Datum × Datum)}, (∀ x ∈ l, x.pr = true) → stpF l = some b → Datum.szs (b.map fun p => p.2.2) + Datum.szs (b.map fun p => p.2.1) + 3 * b.length ≤ Datum.szs l
 | [], b, _, h => by rw [stpF] at h; cases h; simp [Datum.szs]
 | x :: xs, b, hp, h => by
  rw [stpF] at h
  split at h
  ·rename_i hc
   cases hb : stpF xs with
   | none => rw [hb] at h; cases h
   | some b' =>
    rw [hb] at h
    cases h
    have ih := stpF_two (fun y hy => hp y (by simp [hy])) hb
    have h1 := Datum.its_szs (hp x (by simp))
    have h2 := stp_two hc.2.1 hc.2.2
    unfold nstp at h2
    simp only [List.map_cons, Datum.szs, List.length_cons]
    omega
  ·cases h
theorem stpF_sz : ∀ {l : List Datum} {b : List (Datum × Datum × Datum)}, (∀ x ∈ l, x.pr = true) → stpF l = some b →
  Datum.szs (b.map fun p => p.1) + Datum.szs (b.map fun p => p.2.1) + 3 * b.length ≤ Datum.szs l ∧ Datum.szs (b.map fun p => p.2.2) + 4 * b.length ≤ Datum.szs l ∧ (∀ p ∈ b, p.1.pr = true ∧ p.2.1.pr = true ∧ p.2.2.pr = true)
 | [], b, _, h => by rw [stpF] at h; cases h; simp [Datum.szs]
 | x :: xs, b, hp, h => by
  rw [stpF] at h
  split at h
  ·rename_i hc
   cases hb : stpF xs with
   | none => rw [hb] at h; cases h
   | some b' =>
    rw [hb] at h
    cases h
    have ih := stpF_sz (fun y hy => hp y (by simp [hy])) hb
    have hx := hp x (by simp)
    have h1 := Datum.its_szs hx
    have h2 := stp_one hc.2.1 hc.2.2
    unfold nstp at h2
    have m0 := Datum.its_lt hx (datD_mem (i := 0) (show 0 < x.its.1.length by omega))
    have m1 := Datum.its_lt hx (datD_mem (i := 1) (show 1 < x.its.1.length by omega))
    have hz0 := (x.its.1.getD 0 nulD).sz_pos
    have hz1 := (x.its.1.getD 1 nulD).sz_pos
    simp only [List.map_cons, Datum.szs, List.length_cons]
    have h4 : (if x.its.1.length = 2 then x.its.1.getD 0 nulD else x.its.1.getD 2 nulD).sz + 4 ≤ x.sz ∧ (if x.its.1.length = 2 then x.its.1.getD 0 nulD else x.its.1.getD 2 nulD).pr = true := by
     split
     ·refine ⟨?_, m0.2⟩
      have := szs_two (by assumption : x.its.1.length = 2)
      omega
     ·have m2 := Datum.its_lt hx (datD_mem (i := 2) (show 2 < x.its.1.length by omega))
      refine ⟨?_, m2.2⟩
      have := szs_three_le (c := x.its.1) (by omega)
      omega
    refine ⟨by omega, by omega, ?_⟩
    intro p hp'
    rcases List.mem_cons.1 hp' with rfl | hp'
    ·exact ⟨m0.2, m1.2, h4.2⟩
    ·exact ih.2.2 p hp'
  ·cases h
theorem drExp04iaa {p q : Prop} (k : q) (h : q → p := by intro hq; first | exact PDraw.sP (some 139) rfl [11] [12] tt_ok mixed hq) : p := h k
set_option maxHeartbeats 40000000 in
theorem loop04_c (b : Nat) (ex : Datum → MkS → MkR) (l : List Datum) (M : Nat) (hM : M ≤ 1000000000) (hx : ∀ x : Datum, x.pr = true → x.sz ≤ M → ExOk b ex x) (hll : 2 ≤ l.length) (hp : ∀ x ∈ l, x.pr = true) (hls : Datum.szs l + 3 ≤ M) (s : MkS) (h0 : 0 ≤ s.n) (h1 : s.n + Datum.szs l + 3 ≤ 1000000000000) :
  Grow (Datum.szs l + 3) s (lopM ex l s).2 ∧
  ACall Tryz.prog 181 [.ptr b 0, .sl 5 (l.map Datum.pv) none] [mkE b s] (fun y Γ' => y = .agg (lopM ex l s).1.cells ∧ Γ' = [mkE b (lopM ex l s).2]) := by
 have hL : lopM ex l s = lopM ex l s := rfl
 conv at hL => rhs; unfold lopM; dsimp only
 have hm0 : l[0]'(by omega) ∈ l := List.getElem_mem _
 have hm1 : l[1]'(by omega) ∈ l := List.getElem_mem _
 have e2 : Datum.szs (l.drop 2) + (l[0]'(by omega)).sz + (l[1]'(by omega)).sz = Datum.szs l := by
  conv => rhs; rw [show l = l[0]'(by omega) :: l[1]'(by omega) :: l.drop 2 by rw [← List.drop_eq_getElem_cons, ← List.drop_eq_getElem_cons]; rfl]
  rw [Datum.szs, Datum.szs]; omega
 have hlen := Datum.szs_len l
 rw [datD_get (show 0 < l.length by omega), datD_get (show 1 < l.length by omega)] at hL
 have hI0 := items04_c (l[0]'(by omega)) (hp _ hm0) (by omega)
 have hI1 := items04_c (l[1]'(by omega)) (hp _ hm1) (by omega)
 have hz0 := Datum.its_szs (hp _ hm0)
 have hz1 := Datum.its_szs (hp _ hm1)
 have hB : ∀ x ∈ (l[0]'(by omega)).its.1, x.pr = true ∧ x.sz ≤ 1000000000 := fun x hx' => by have := Datum.its_lt (hp _ hm0) hx'; exact ⟨this.2, by omega⟩
 have hT : ∀ x ∈ (l[1]'(by omega)).its.1, x.pr = true := fun x hx' => (Datum.its_lt (hp _ hm1) hx').2
 generalize hb0 : itemsB (l[0]'(by omega)) = i0 at *
 generalize hb1 : itemsB (l[1]'(by omega)) = i1 at *
 generalize (l[0]'(by omega)).its.1 = B at *
 generalize (l[1]'(by omega)).its.1 = t at *
 have hBl := Datum.szs_len B
 have htl := Datum.szs_len t
 by_cases hbad : i0 = false ∨ i1 = false ∨ t = []
 ·rw [if_pos hbad] at hL
  rw [hL]
  refine ⟨Grow.fail _ s, ?_⟩
  refine ACall.of_body tt_ok Tryz.func181 rfl rfl (n := 166) rfl rfl ?_
  conv => whnf
  repeat' (first|refine aA2 ?_|((first|refine pC (hI0) wR ?_|refine pC (hI1) wR ?_|intro _);conv=>whnf)|(refine zX (fun hc=>?_) (fun hc=>?_)<;>(try simp only [SY] at hc)<;>(conv=>whnf)))
  ·refine PCall.go (failM_c b s) (WkT.refl _) ?_
   rintro _ _ ⟨rfl, rfl⟩
   conv => whnf
   repeat' (first|refine aA2 ?_|(refine zX (fun hc=>?_) (fun hc=>?_)<;>(try simp only [SY] at hc)<;>omega))
   exact PRet.gen (y := .agg (failM s).1.cells) (Γ' := [mkE b (failM s).2]) (Wk.refl _) (And.intro rfl rfl)
  ·exfalso
   rcases hbad with h | h | h
   ·rw [h] at hc; cases hc.1.1
   ·rw [h] at hc; cases hc.1.2
   ·rw [h] at hc; exact hc.2 rfl
 ·rw [if_neg hbad] at hL
  have hi0 : i0 = true := by cases i0 with
   | true => rfl
   | false => exact absurd (.inl rfl) hbad
  have hi1 : i1 = true := by cases i1 with
   | true => rfl
   | false => exact absurd (.inr (.inl rfl)) hbad
  have ht0 : 0 < t.length := by
   rcases Nat.eq_zero_or_pos t.length with h | h
   ·exact absurd (.inr (.inr (List.eq_nil_of_length_eq_zero h))) hbad
   ·exact h
  subst hi0 hi1
  have hf : Grow 1 s (frsM s).2 := Grow.frs 0 s
  have hfn : (frsM s).2.n = s.n + 1 := rfl
  have hfd : (frsM s).1.sz = 1 ∧ (frsM s).1.pr = true := ⟨rfl, rfl⟩
  have hfc := fresh04_c b s h0 (by omega)
  generalize frsM s = x at *
  cases hS : stpF B with
  | none =>
   rw [hS] at hL
   dsimp only at hL
   rw [hL]
   refine ⟨(hf.trans (Grow.fail 0 x.2)).mono (by omega), ?_⟩
   refine ACall.of_body tt_ok Tryz.func181 rfl rfl (n := 166) rfl rfl ?_
   conv => whnf
   repeat' (first|refine aA2 ?_|((first|refine pC (hI0) wR ?_|refine pC (hI1) wR ?_|intro _);conv=>whnf)|(refine zX (fun hc=>?_) (fun hc=>?_)<;>(try simp only [SY] at hc)<;>first|omega|(conv=>whnf)))
   refine PCall.go hfc (WkT.refl _) ?_
   rintro _ _ ⟨rfl, rfl⟩
   rename_i b4
   conv => whnf
   repeat' (first|((first|refine PRow.oneDat ?_|refine aM ?_|refine aF ?_|intro _);conv=>whnf)|(refine zX (fun hc=>?_) (fun hc=>?_)<;>(try simp only [SY] at hc)<;>omega))
   rename_i b9 t3 ht3 hs3
   refine PLoop.gh (Ghost.trans (Ghost.nil 5 24 _) (Ghost.nil 5 24 _)) ?_
   refine PLoop.over [10, 11, 12, 13, 14, 15, 51, 52, 53, 54, 55, 56, 57, 58, 59, 60, 61, 62, 63, 64, 65, 66, 67, 68, 69, 70, 71, 72, 73, 74, 75, 76, 77, 78, 79, 80, 81, 82, 83, 84, 85, 86, 87, 88, 89, 90, 91, 92, 93, 94, 95, 96, 97, 98, 99, 100, 101, 102, 103, 104, 105, 106, 107, 108, 109, 110] (fun z : Nat × List (Datum × Datum × Datum) × List Datum × Tok × Tok × Tok => [(10, .sl 5 ((z.2.1.map fun p => p.1).map Datum.pv) (some z.2.2.2.1)), (11, .sl 5 ((z.2.1.map fun p => p.2.1).map Datum.pv) (some z.2.2.2.2.1)), (12, .ms z.2.2.2.2.2), (13, .int .i64 z.1)])
    (fun z : Nat × List (Datum × Datum × Datum) × List Datum × Tok × Tok × Tok => [.tok z.2.2.2.1, .tok z.2.2.2.2.1, .row z.2.2.2.2.2 (z.2.2.1.map Datum.pv), .box b9 (datC x.1), resE b4, mkE b x.2])
    (fun z => z.1 ≤ B.length ∧ z.2.1.length = z.1 ∧ z.2.2.1 = x.1 :: (z.2.1.map fun p => p.2.2) ∧ z.2.2.2.1.e = 24 ∧ z.2.2.2.2.1.e = 24 ∧ (z.2.2.2.2.2.e = 24 ∧ z.2.2.2.2.2.s = 5) ∧ stpF B = (stpF (B.drop z.1)).map (z.2.1 ++ ·)) (fun z => B.length - z.1)
    (0, [], [x.1], nilTok 5 24, nilTok 5 24, t3) ⟨Nat.zero_le _, rfl, rfl, rfl, rfl, ⟨ht3, hs3⟩, by simp⟩ wA ?_
   rintro ⟨i, acc, st, u1, u2, u3⟩ ⟨hi, hal, hst, hu1, hu2, ⟨hu3, hus⟩, he⟩
   dsimp only at hi hal hst hu1 hu2 hu3 hus he ⊢
   have hsl : st.length = i + 1 := by rw [hst, List.length_cons, List.length_map, hal]
   have hla : (acc.map fun p => p.1).length = i := by rw [List.length_map, hal]
   have hlb : (acc.map fun p => p.2.1).length = i := by rw [List.length_map, hal]
   have hlc : (acc.map fun p => p.2.2).length = i := by rw [List.length_map, hal]
   conv => whnf
   repeat' (first|refine aA2 ?_|((first|refine pC (items04_c _ (hB _ (List.getElem_mem _)).1 (hB _ (List.getElem_mem _)).2) wR ?_|intro _);conv=>whnf)|(refine zX (fun hc=>?_) (fun hc=>?_)<;>(try simp only [SY] at hc)<;>(conv=>whnf)))
   ·have hlt : i < B.length := by omega
    have hn : stpF (B.drop i) = none := by
     rw [drop_at hlt, stpF, if_neg]
     rintro ⟨h1, h2, h3⟩
     rcases hc with (h | h) | h
     ·rw [h1] at h; cases h
     ·omega
     ·omega
    rw [hn] at he
    refine PCall.go (failM_c b x.2) (WkT.refl _) ?_
    rintro _ _ ⟨rfl, rfl⟩
    conv => whnf
    repeat' (first|refine aA2 ?_|(refine zX (fun hc=>?_) (fun hc=>?_)<;>(try simp only [SY] at hc)<;>omega))
    exact PRet.gen (y := .agg (failM x.2).1.cells) (Γ' := [mkE b (failM x.2).2]) (Wk.refl _) (And.intro rfl rfl)
   ·have hlt : i < B.length := by omega
    have hq := ‹(itemsB B[i] = true ∧ 2 ≤ (B[i].its.1.length : Int)) ∧ (B[i].its.1.length : Int) ≤ 3›
    have hst1 : stpF (B.drop i) = (stpF (B.drop (i + 1))).map ((B[i].its.1.getD 0 nulD, B[i].its.1.getD 1 nulD, nstp B[i].its.1) :: ·) := by
     rw [drop_at hlt, stpF, if_pos ⟨hq.1.1, by omega, by omega⟩]
     rfl
    have hp2 : B[i].its.1.length = 2 := by omega
    have hsl2 : (st ++ [B[i].its.1[B[i].its.1.length - 1]'(by omega)]).length = i + 2 := by rw [List.length_append, List.length_singleton, hsl]
    have hns : nstp B[i].its.1 = B[i].its.1[0]'(by omega) := by
     unfold nstp
     rw [if_pos hp2, datD_get (show 0 < B[i].its.1.length by omega)]
    refine PLenM.map fun _ => ?_
    conv => whnf
    repeat' (first|refine aA2 ?_|(refine zX (fun hc=>?_) (fun hc=>?_)<;>(try simp only [SY] at hc)<;>omega))
    have e1 : (acc.map fun p => p.1) ++ [B[i].its.1[0]'(by omega)] = (acc ++ [(B[i].its.1.getD 0 nulD, B[i].its.1.getD 1 nulD, nstp B[i].its.1)]).map fun p => p.1 := by rw [List.map_append, datD_get (show 0 < B[i].its.1.length by omega)]; rfl
    have e2 : (acc.map fun p => p.2.1) ++ [B[i].its.1[1]'(by omega)] = (acc ++ [(B[i].its.1.getD 0 nulD, B[i].its.1.getD 1 nulD, nstp B[i].its.1)]).map fun p => p.2.1 := by rw [List.map_append, datD_get (show 1 < B[i].its.1.length by omega)]; rfl
    have e3 : (st ++ [B[i].its.1[B[i].its.1.length - 1]'(by omega)]).set ((st ++ [B[i].its.1[B[i].its.1.length - 1]'(by omega)]).length - 1) (B[i].its.1[0]'(by omega)) = st ++ [nstp B[i].its.1] := by
     rw [hns, hsl2]
     exact set_last _ _ _ _ (by omega)
    rw [e1, e2, e3]
    rename_i z1 hz1 zl hzl y1 hy1 y2 y3 hy3 y4 y5 hy5 hs5 xx
    refine loopTo (i + 1, acc ++ [(B[i].its.1.getD 0 nulD, B[i].its.1.getD 1 nulD, nstp B[i].its.1)], st ++ [nstp B[i].its.1], z1, y1, y4) ⟨by show i + 1 ≤ _; omega, by simp; omega, by show st ++ _ = _; rw [hst, List.map_append]; rfl, hz1, hy1, ⟨y5, hy5⟩, ?_⟩ (by show B.length - (i + 1) < B.length - i; omega) wA
    rw [he, hst1]
    dsimp only
    cases stpF (B.drop (i + 1)) <;> simp
   ·have hlt : i < B.length := by omega
    have hq := ‹(itemsB B[i] = true ∧ 2 ≤ (B[i].its.1.length : Int)) ∧ (B[i].its.1.length : Int) ≤ 3›
    have hst1 : stpF (B.drop i) = (stpF (B.drop (i + 1))).map ((B[i].its.1.getD 0 nulD, B[i].its.1.getD 1 nulD, nstp B[i].its.1) :: ·) := by
     rw [drop_at hlt, stpF, if_pos ⟨hq.1.1, by omega, by omega⟩]
     rfl
    have hp3 : B[i].its.1.length = 3 := by omega
    have hns : nstp B[i].its.1 = B[i].its.1[B[i].its.1.length - 1]'(by omega) := by
     unfold nstp
     rw [if_neg (by omega), datD_get (show 2 < B[i].its.1.length by omega)]
     congr 1
     omega
    have e1 : (acc.map fun p => p.1) ++ [B[i].its.1[0]'(by omega)] = (acc ++ [(B[i].its.1.getD 0 nulD, B[i].its.1.getD 1 nulD, nstp B[i].its.1)]).map fun p => p.1 := by rw [List.map_append, datD_get (show 0 < B[i].its.1.length by omega)]; rfl
    have e2 : (acc.map fun p => p.2.1) ++ [B[i].its.1[1]'(by omega)] = (acc ++ [(B[i].its.1.getD 0 nulD, B[i].its.1.getD 1 nulD, nstp B[i].its.1)]).map fun p => p.2.1 := by rw [List.map_append, datD_get (show 1 < B[i].its.1.length by omega)]; rfl
    rw [e1, e2, ← hns]
    rename_i z1 hz1 zl hzl y1 hy1 y2 y3 hy3 y4 y5 hy5 hs5
    refine loopTo (i + 1, acc ++ [(B[i].its.1.getD 0 nulD, B[i].its.1.getD 1 nulD, nstp B[i].its.1)], st ++ [nstp B[i].its.1], z1, y1, y4) ⟨by show i + 1 ≤ _; omega, by simp; omega, by show st ++ _ = _; rw [hst, List.map_append]; rfl, hz1, hy1, ⟨y5, hy5⟩, ?_⟩ (by show B.length - (i + 1) < B.length - i; omega) wA
    rw [he, hst1]
    dsimp only
    cases stpF (B.drop (i + 1)) <;> simp
   ·rw [List.drop_of_length_le (by omega), stpF] at he
    have he' : stpF B = some acc := by rw [he]; simp
    rw [he'] at hS
    cases hS
  | some bs =>
   rw [hS] at hL
   dsimp only at hL
   have hln := stpF_len hS
   obtain ⟨hz2, hz3, hpp⟩ := stpF_sz (fun x hx => (hB x hx).1) hS
   have hz4 := stpF_two (fun x hx => (hB x hx).1) hS
   have hdc := distinct04_c (bs.map fun p => p.1) (by rw [List.length_map]; omega)
   by_cases hd : distB (bs.map fun p => p.1) [] = false
   ·rw [if_pos (show distB (bs.map Prod.fst) [] = false from hd)] at hL
    rw [hL]
    refine ⟨(hf.trans (Grow.fail 0 x.2)).mono (by omega), ?_⟩
    rw [hd] at hdc
    refine ACall.of_body tt_ok Tryz.func181 rfl rfl (n := 166) rfl rfl ?_
    conv => whnf
    repeat' (first|refine aA2 ?_|((first|refine pC (hI0) wR ?_|refine pC (hI1) wR ?_|intro _);conv=>whnf)|(refine zX (fun hc=>?_) (fun hc=>?_)<;>(try simp only [SY] at hc)<;>first|omega|(conv=>whnf)))
    refine PCall.go hfc (WkT.refl _) ?_
    rintro _ _ ⟨rfl, rfl⟩
    rename_i b4
    conv => whnf
    repeat' (first|((first|refine PRow.oneDat ?_|refine aM ?_|refine aF ?_|intro _);conv=>whnf)|(refine zX (fun hc=>?_) (fun hc=>?_)<;>(try simp only [SY] at hc)<;>omega))
    rename_i b9 t3 ht3 hs3
    refine PLoop.gh (Ghost.trans (Ghost.nil 5 24 _) (Ghost.nil 5 24 _)) ?_
    refine PLoop.over [10, 11, 12, 13, 14, 15, 51, 52, 53, 54, 55, 56, 57, 58, 59, 60, 61, 62, 63, 64, 65, 66, 67, 68, 69, 70, 71, 72, 73, 74, 75, 76, 77, 78, 79, 80, 81, 82, 83, 84, 85, 86, 87, 88, 89, 90, 91, 92, 93, 94, 95, 96, 97, 98, 99, 100, 101, 102, 103, 104, 105, 106, 107, 108, 109, 110] (fun z : Nat × List (Datum × Datum × Datum) × List Datum × Tok × Tok × Tok => [(10, .sl 5 ((z.2.1.map fun p => p.1).map Datum.pv) (some z.2.2.2.1)), (11, .sl 5 ((z.2.1.map fun p => p.2.1).map Datum.pv) (some z.2.2.2.2.1)), (12, .ms z.2.2.2.2.2), (13, .int .i64 z.1)])
     (fun z : Nat × List (Datum × Datum × Datum) × List Datum × Tok × Tok × Tok => [.tok z.2.2.2.1, .tok z.2.2.2.2.1, .row z.2.2.2.2.2 (z.2.2.1.map Datum.pv), .box b9 (datC x.1), resE b4, mkE b x.2])
     (fun z => z.1 ≤ B.length ∧ z.2.1.length = z.1 ∧ z.2.2.1 = x.1 :: (z.2.1.map fun p => p.2.2) ∧ z.2.2.2.1.e = 24 ∧ z.2.2.2.2.1.e = 24 ∧ (z.2.2.2.2.2.e = 24 ∧ z.2.2.2.2.2.s = 5) ∧ stpF B = (stpF (B.drop z.1)).map (z.2.1 ++ ·)) (fun z => B.length - z.1)
     (0, [], [x.1], nilTok 5 24, nilTok 5 24, t3) ⟨Nat.zero_le _, rfl, rfl, rfl, rfl, ⟨ht3, hs3⟩, by simp⟩ wA ?_
    rintro ⟨i, acc, st, u1, u2, u3⟩ ⟨hi, hal, hst, hu1, hu2, ⟨hu3, hus⟩, he⟩
    dsimp only at hi hal hst hu1 hu2 hu3 hus he ⊢
    have hsl : st.length = i + 1 := by rw [hst, List.length_cons, List.length_map, hal]
    have hla : (acc.map fun p => p.1).length = i := by rw [List.length_map, hal]
    have hlb : (acc.map fun p => p.2.1).length = i := by rw [List.length_map, hal]
    have hlc : (acc.map fun p => p.2.2).length = i := by rw [List.length_map, hal]
    conv => whnf
    repeat' (first|refine aA2 ?_|((first|refine pC (items04_c _ (hB _ (List.getElem_mem _)).1 (hB _ (List.getElem_mem _)).2) wR ?_|intro _);conv=>whnf)|(refine zX (fun hc=>?_) (fun hc=>?_)<;>(try simp only [SY] at hc)<;>(conv=>whnf)))
    ·have hlt : i < B.length := by omega
     have hn : stpF (B.drop i) = none := by
      rw [drop_at hlt, stpF, if_neg]
      rintro ⟨h1, h2, h3⟩
      rcases hc with (h | h) | h
      ·rw [h1] at h; cases h
      ·omega
      ·omega
     rw [hn] at he
     rw [hS] at he
     cases he
    ·have hlt : i < B.length := by omega
     have hq := ‹(itemsB B[i] = true ∧ 2 ≤ (B[i].its.1.length : Int)) ∧ (B[i].its.1.length : Int) ≤ 3›
     have hst1 : stpF (B.drop i) = (stpF (B.drop (i + 1))).map ((B[i].its.1.getD 0 nulD, B[i].its.1.getD 1 nulD, nstp B[i].its.1) :: ·) := by
      rw [drop_at hlt, stpF, if_pos ⟨hq.1.1, by omega, by omega⟩]
      rfl
     have hp2 : B[i].its.1.length = 2 := by omega
     have hsl2 : (st ++ [B[i].its.1[B[i].its.1.length - 1]'(by omega)]).length = i + 2 := by rw [List.length_append, List.length_singleton, hsl]
     have hns : nstp B[i].its.1 = B[i].its.1[0]'(by omega) := by
      unfold nstp
      rw [if_pos hp2, datD_get (show 0 < B[i].its.1.length by omega)]
     refine PLenM.map fun _ => ?_
     conv => whnf
     repeat' (first|refine aA2 ?_|(refine zX (fun hc=>?_) (fun hc=>?_)<;>(try simp only [SY] at hc)<;>omega))
     have e1 : (acc.map fun p => p.1) ++ [B[i].its.1[0]'(by omega)] = (acc ++ [(B[i].its.1.getD 0 nulD, B[i].its.1.getD 1 nulD, nstp B[i].its.1)]).map fun p => p.1 := by rw [List.map_append, datD_get (show 0 < B[i].its.1.length by omega)]; rfl
     have e2 : (acc.map fun p => p.2.1) ++ [B[i].its.1[1]'(by omega)] = (acc ++ [(B[i].its.1.getD 0 nulD, B[i].its.1.getD 1 nulD, nstp B[i].its.1)]).map fun p => p.2.1 := by rw [List.map_append, datD_get (show 1 < B[i].its.1.length by omega)]; rfl
     have e3 : (st ++ [B[i].its.1[B[i].its.1.length - 1]'(by omega)]).set ((st ++ [B[i].its.1[B[i].its.1.length - 1]'(by omega)]).length - 1) (B[i].its.1[0]'(by omega)) = st ++ [nstp B[i].its.1] := by
      rw [hns, hsl2]
      exact set_last _ _ _ _ (by omega)
     rw [e1, e2, e3]
     rename_i z1 hz1 zl hzl y1 hy1 y2 y3 hy3 y4 y5 hy5 hs5 xx
     refine loopTo (i + 1, acc ++ [(B[i].its.1.getD 0 nulD, B[i].its.1.getD 1 nulD, nstp B[i].its.1)], st ++ [nstp B[i].its.1], z1, y1, y4) ⟨by show i + 1 ≤ _; omega, by simp; omega, by show st ++ _ = _; rw [hst, List.map_append]; rfl, hz1, hy1, ⟨y5, hy5⟩, ?_⟩ (by show B.length - (i + 1) < B.length - i; omega) wA
     rw [he, hst1]
     dsimp only
     cases stpF (B.drop (i + 1)) <;> simp
    ·have hlt : i < B.length := by omega
     have hq := ‹(itemsB B[i] = true ∧ 2 ≤ (B[i].its.1.length : Int)) ∧ (B[i].its.1.length : Int) ≤ 3›
     have hst1 : stpF (B.drop i) = (stpF (B.drop (i + 1))).map ((B[i].its.1.getD 0 nulD, B[i].its.1.getD 1 nulD, nstp B[i].its.1) :: ·) := by
      rw [drop_at hlt, stpF, if_pos ⟨hq.1.1, by omega, by omega⟩]
      rfl
     have hp3 : B[i].its.1.length = 3 := by omega
     have hns : nstp B[i].its.1 = B[i].its.1[B[i].its.1.length - 1]'(by omega) := by
      unfold nstp
      rw [if_neg (by omega), datD_get (show 2 < B[i].its.1.length by omega)]
      congr 1
      omega
     have e1 : (acc.map fun p => p.1) ++ [B[i].its.1[0]'(by omega)] = (acc ++ [(B[i].its.1.getD 0 nulD, B[i].its.1.getD 1 nulD, nstp B[i].its.1)]).map fun p => p.1 := by rw [List.map_append, datD_get (show 0 < B[i].its.1.length by omega)]; rfl
     have e2 : (acc.map fun p => p.2.1) ++ [B[i].its.1[1]'(by omega)] = (acc ++ [(B[i].its.1.getD 0 nulD, B[i].its.1.getD 1 nulD, nstp B[i].its.1)]).map fun p => p.2.1 := by rw [List.map_append, datD_get (show 1 < B[i].its.1.length by omega)]; rfl
     rw [e1, e2, ← hns]
     rename_i z1 hz1 zl hzl y1 hy1 y2 y3 hy3 y4 y5 hy5 hs5
     refine loopTo (i + 1, acc ++ [(B[i].its.1.getD 0 nulD, B[i].its.1.getD 1 nulD, nstp B[i].its.1)], st ++ [nstp B[i].its.1], z1, y1, y4) ⟨by show i + 1 ≤ _; omega, by simp; omega, by show st ++ _ = _; rw [hst, List.map_append]; rfl, hz1, hy1, ⟨y5, hy5⟩, ?_⟩ (by show B.length - (i + 1) < B.length - i; omega) wA
     rw [he, hst1]
     dsimp only
     cases stpF (B.drop (i + 1)) <;> simp
    ·rw [List.drop_of_length_le (by omega), stpF] at he
     have he' : stpF B = some acc := by rw [he]; simp
     obtain rfl : bs = acc := Option.some.inj (hS.symm.trans he')
     refine pC hdc (.cons (Wk.tok _ _ _) .nil) ?_
     conv => whnf
     repeat' ((refine zX (fun hc=>?_) (fun hc=>?_)<;>(try simp only [SY] at hc)<;>(conv=>whnf)))
     refine PCall.go (failM_c b x.2) (WkT.refl _) ?_
     rintro _ _ ⟨rfl, rfl⟩
     conv => whnf
     repeat' (first|refine aA2 ?_|(refine zX (fun hc=>?_) (fun hc=>?_)<;>(try simp only [SY] at hc)<;>omega))
     exact PRet.gen (y := .agg (failM x.2).1.cells) (Γ' := [mkE b (failM x.2).2]) (Wk.refl _) (And.intro rfl rfl)
   ·rw [if_neg (show ¬distB (bs.map Prod.fst) [] = false from hd), datD_get ht0] at hL
    have hd' : distB (bs.map fun p => p.1) [] = true := by simpa using hd
    rw [hd'] at hdc
    have hzt := szs_cons_drop ht0
    have hxt : ∀ y ∈ t, ExOk b ex y := fun y hy => hx y (hT y hy) (by have := Datum.szs_mem hy; omega)
    obtain ⟨g1, hc1⟩ := hxt _ (List.getElem_mem ht0) x.2 (by omega) (by omega)
    generalize ex (t[0]'ht0) x.2 = te at *
    have hxd : ∀ y ∈ t.drop 1, ExOk b ex y := fun y hy => hxt y (List.mem_of_mem_drop hy)
    have g2 : Grow (Datum.szs (t.drop 1)) te.2 (if t.length > 1 then begM ex (t.drop 1) te.2 else (voidD, te.2)).2 := by
     split
     ·exact begM_grow hxd te.2 (by unfold Grow at g1; omega) (by unfold Grow at g1; omega)
     ·exact Grow.refl _ _
    have hc2 := begin04_c b ex (t.drop 1) hxd (by rw [List.length_drop]; omega) te.2 (by unfold Grow at g1; omega) (by unfold Grow at g1; omega)
    generalize hfi : (if t.length > 1 then begM ex (t.drop 1) te.2 else (voidD, te.2)) = fi at *
    have hsz : (listD (x.1 :: bs.map fun p => p.2.2)).sz = bs.length + 3 + Datum.szs (bs.map fun p => p.2.2) := by rw [listD_szE, List.length_cons, List.length_map, Datum.szs, hfd.1]; omega
    have hld : (l.drop 2).length = l.length - 2 := List.length_drop
    have hxb : ∀ y ∈ l.drop 2 ++ [listD (x.1 :: bs.map fun p => p.2.2)], ExOk b ex y := fun y hy => by
     rcases List.mem_append.1 hy with hy | hy
     ·have h3 := Datum.szs_mem hy
      exact hx y (hp y (List.mem_of_mem_drop hy)) (by omega)
     ·rw [List.mem_singleton] at hy
      subst hy
      refine hx _ (listD_pr fun z hz => ?_) (by omega)
      rcases List.mem_cons.1 hz with rfl | hz
      ·exact hfd.2
      ·obtain ⟨p, hp', rfl⟩ := List.mem_map.1 hz
       exact (hpp p hp').2.2
    have hszb : Datum.szs (l.drop 2 ++ [listD (x.1 :: bs.map fun p => p.2.2)]) = Datum.szs (l.drop 2) + (bs.length + 3 + Datum.szs (bs.map fun p => p.2.2)) := by rw [Datum.szs_append, Datum.szs, Datum.szs, hsz]; omega
    have g3 := begM_grow hxb fi.2 (by unfold Grow at g1 g2; omega) (by unfold Grow at g1 g2; omega)
    have hc3 := begin04_c b ex _ hxb (by rw [List.length_append, List.length_singleton]; omega) fi.2 (by unfold Grow at g1 g2; omega) (by unfold Grow at g1 g2; omega)
    generalize begM ex (l.drop 2 ++ [listD (x.1 :: bs.map fun p => p.2.2)]) fi.2 = bo at *
    have hxv : ∀ y ∈ bs.map fun p => p.2.1, ExOk b ex y := fun y hy => by
     have h3 := Datum.szs_mem hy
     obtain ⟨p, hp', rfl⟩ := List.mem_map.1 hy
     exact hx _ (hpp p hp').2.1 (by omega)
    have g4 := allM_grow hxv bo.2 (by unfold Grow at g1 g2 g3; omega) (by unfold Grow at g1 g2 g3; omega)
    have hc4 := all04_c b ex _ hxv (by rw [List.length_map]; omega) bo.2 (by unfold Grow at g1 g2 g3; omega) (by unfold Grow at g1 g2 g3; omega)
    have hal4 := allM_len (ex := ex) (bs.map fun p => p.2.1) bo.2
    generalize allM ex (bs.map fun p => p.2.1) bo.2 = r at *
    rw [hL]
    refine ⟨((((hf.trans g1).trans g2).trans g3).trans g4).mono (by omega), ?_⟩
    refine ACall.of_body tt_ok Tryz.func181 rfl rfl (n := 166) rfl rfl ?_
    conv => whnf
    repeat' (first|refine aA2 ?_|((first|refine pC (hI0) wR ?_|refine pC (hI1) wR ?_|intro _);conv=>whnf)|(refine zX (fun hc=>?_) (fun hc=>?_)<;>(try simp only [SY] at hc)<;>first|omega|(conv=>whnf)))
    refine PCall.go hfc (WkT.refl _) ?_
    rintro _ _ ⟨rfl, rfl⟩
    rename_i b4
    conv => whnf
    repeat' (first|((first|refine PRow.oneDat ?_|refine aM ?_|refine aF ?_|intro _);conv=>whnf)|(refine zX (fun hc=>?_) (fun hc=>?_)<;>(try simp only [SY] at hc)<;>omega))
    rename_i b9 t3 ht3 hs3
    refine PLoop.gh (Ghost.trans (Ghost.nil 5 24 _) (Ghost.nil 5 24 _)) ?_
    refine PLoop.over [10, 11, 12, 13, 14, 15, 51, 52, 53, 54, 55, 56, 57, 58, 59, 60, 61, 62, 63, 64, 65, 66, 67, 68, 69, 70, 71, 72, 73, 74, 75, 76, 77, 78, 79, 80, 81, 82, 83, 84, 85, 86, 87, 88, 89, 90, 91, 92, 93, 94, 95, 96, 97, 98, 99, 100, 101, 102, 103, 104, 105, 106, 107, 108, 109, 110] (fun z : Nat × List (Datum × Datum × Datum) × List Datum × Tok × Tok × Tok => [(10, .sl 5 ((z.2.1.map fun p => p.1).map Datum.pv) (some z.2.2.2.1)), (11, .sl 5 ((z.2.1.map fun p => p.2.1).map Datum.pv) (some z.2.2.2.2.1)), (12, .ms z.2.2.2.2.2), (13, .int .i64 z.1)])
     (fun z : Nat × List (Datum × Datum × Datum) × List Datum × Tok × Tok × Tok => [.tok z.2.2.2.1, .tok z.2.2.2.2.1, .row z.2.2.2.2.2 (z.2.2.1.map Datum.pv), .box b9 (datC x.1), resE b4, mkE b x.2])
     (fun z => z.1 ≤ B.length ∧ z.2.1.length = z.1 ∧ z.2.2.1 = x.1 :: (z.2.1.map fun p => p.2.2) ∧ z.2.2.2.1.e = 24 ∧ z.2.2.2.2.1.e = 24 ∧ (z.2.2.2.2.2.e = 24 ∧ z.2.2.2.2.2.s = 5) ∧ stpF B = (stpF (B.drop z.1)).map (z.2.1 ++ ·)) (fun z => B.length - z.1)
     (0, [], [x.1], nilTok 5 24, nilTok 5 24, t3) ⟨Nat.zero_le _, rfl, rfl, rfl, rfl, ⟨ht3, hs3⟩, by simp⟩ wA ?_
    rintro ⟨i, acc, st, u1, u2, u3⟩ ⟨hi, hal, hst, hu1, hu2, ⟨hu3, hus⟩, he⟩
    dsimp only at hi hal hst hu1 hu2 hu3 hus he ⊢
    have hsl : st.length = i + 1 := by rw [hst, List.length_cons, List.length_map, hal]
    have hla : (acc.map fun p => p.1).length = i := by rw [List.length_map, hal]
    have hlb : (acc.map fun p => p.2.1).length = i := by rw [List.length_map, hal]
    have hlc : (acc.map fun p => p.2.2).length = i := by rw [List.length_map, hal]
    conv => whnf
    repeat' (first|refine aA2 ?_|((first|refine pC (items04_c _ (hB _ (List.getElem_mem _)).1 (hB _ (List.getElem_mem _)).2) wR ?_|intro _);conv=>whnf)|(refine zX (fun hc=>?_) (fun hc=>?_)<;>(try simp only [SY] at hc)<;>(conv=>whnf)))
    ·have hlt : i < B.length := by omega
     have hn : stpF (B.drop i) = none := by
      rw [drop_at hlt, stpF, if_neg]
      rintro ⟨h1, h2, h3⟩
      rcases hc with (h | h) | h
      ·rw [h1] at h; cases h
      ·omega
      ·omega
     rw [hn] at he
     rw [hS] at he
     cases he
    ·have hlt : i < B.length := by omega
     have hq := ‹(itemsB B[i] = true ∧ 2 ≤ (B[i].its.1.length : Int)) ∧ (B[i].its.1.length : Int) ≤ 3›
     have hst1 : stpF (B.drop i) = (stpF (B.drop (i + 1))).map ((B[i].its.1.getD 0 nulD, B[i].its.1.getD 1 nulD, nstp B[i].its.1) :: ·) := by
      rw [drop_at hlt, stpF, if_pos ⟨hq.1.1, by omega, by omega⟩]
      rfl
     have hp2 : B[i].its.1.length = 2 := by omega
     have hsl2 : (st ++ [B[i].its.1[B[i].its.1.length - 1]'(by omega)]).length = i + 2 := by rw [List.length_append, List.length_singleton, hsl]
     have hns : nstp B[i].its.1 = B[i].its.1[0]'(by omega) := by
      unfold nstp
      rw [if_pos hp2, datD_get (show 0 < B[i].its.1.length by omega)]
     refine PLenM.map fun _ => ?_
     conv => whnf
     repeat' (first|refine aA2 ?_|(refine zX (fun hc=>?_) (fun hc=>?_)<;>(try simp only [SY] at hc)<;>omega))
     have e1 : (acc.map fun p => p.1) ++ [B[i].its.1[0]'(by omega)] = (acc ++ [(B[i].its.1.getD 0 nulD, B[i].its.1.getD 1 nulD, nstp B[i].its.1)]).map fun p => p.1 := by rw [List.map_append, datD_get (show 0 < B[i].its.1.length by omega)]; rfl
     have e2 : (acc.map fun p => p.2.1) ++ [B[i].its.1[1]'(by omega)] = (acc ++ [(B[i].its.1.getD 0 nulD, B[i].its.1.getD 1 nulD, nstp B[i].its.1)]).map fun p => p.2.1 := by rw [List.map_append, datD_get (show 1 < B[i].its.1.length by omega)]; rfl
     have e3 : (st ++ [B[i].its.1[B[i].its.1.length - 1]'(by omega)]).set ((st ++ [B[i].its.1[B[i].its.1.length - 1]'(by omega)]).length - 1) (B[i].its.1[0]'(by omega)) = st ++ [nstp B[i].its.1] := by
      rw [hns, hsl2]
      exact set_last _ _ _ _ (by omega)
     rw [e1, e2, e3]
     rename_i z1 hz1 zl hzl y1 hy1 y2 y3 hy3 y4 y5 hy5 hs5 xx
     refine loopTo (i + 1, acc ++ [(B[i].its.1.getD 0 nulD, B[i].its.1.getD 1 nulD, nstp B[i].its.1)], st ++ [nstp B[i].its.1], z1, y1, y4) ⟨by show i + 1 ≤ _; omega, by simp; omega, by show st ++ _ = _; rw [hst, List.map_append]; rfl, hz1, hy1, ⟨y5, hy5⟩, ?_⟩ (by show B.length - (i + 1) < B.length - i; omega) wA
     rw [he, hst1]
     dsimp only
     cases stpF (B.drop (i + 1)) <;> simp
    ·have hlt : i < B.length := by omega
     have hq := ‹(itemsB B[i] = true ∧ 2 ≤ (B[i].its.1.length : Int)) ∧ (B[i].its.1.length : Int) ≤ 3›
     have hst1 : stpF (B.drop i) = (stpF (B.drop (i + 1))).map ((B[i].its.1.getD 0 nulD, B[i].its.1.getD 1 nulD, nstp B[i].its.1) :: ·) := by
      rw [drop_at hlt, stpF, if_pos ⟨hq.1.1, by omega, by omega⟩]
      rfl
     have hp3 : B[i].its.1.length = 3 := by omega
     have hns : nstp B[i].its.1 = B[i].its.1[B[i].its.1.length - 1]'(by omega) := by
      unfold nstp
      rw [if_neg (by omega), datD_get (show 2 < B[i].its.1.length by omega)]
      congr 1
      omega
     have e1 : (acc.map fun p => p.1) ++ [B[i].its.1[0]'(by omega)] = (acc ++ [(B[i].its.1.getD 0 nulD, B[i].its.1.getD 1 nulD, nstp B[i].its.1)]).map fun p => p.1 := by rw [List.map_append, datD_get (show 0 < B[i].its.1.length by omega)]; rfl
     have e2 : (acc.map fun p => p.2.1) ++ [B[i].its.1[1]'(by omega)] = (acc ++ [(B[i].its.1.getD 0 nulD, B[i].its.1.getD 1 nulD, nstp B[i].its.1)]).map fun p => p.2.1 := by rw [List.map_append, datD_get (show 1 < B[i].its.1.length by omega)]; rfl
     rw [e1, e2, ← hns]
     rename_i z1 hz1 zl hzl y1 hy1 y2 y3 hy3 y4 y5 hy5 hs5
     refine loopTo (i + 1, acc ++ [(B[i].its.1.getD 0 nulD, B[i].its.1.getD 1 nulD, nstp B[i].its.1)], st ++ [nstp B[i].its.1], z1, y1, y4) ⟨by show i + 1 ≤ _; omega, by simp; omega, by show st ++ _ = _; rw [hst, List.map_append]; rfl, hz1, hy1, ⟨y5, hy5⟩, ?_⟩ (by show B.length - (i + 1) < B.length - i; omega) wA
     rw [he, hst1]
     dsimp only
     cases stpF (B.drop (i + 1)) <;> simp
    ·rw [List.drop_of_length_le (by omega), stpF] at he
     have he' : stpF B = some acc := by rw [he]; simp
     obtain rfl : bs = acc := Option.some.inj (hS.symm.trans he')
     refine pC hdc (.cons (Wk.tok _ _ _) .nil) ?_
     conv => whnf
     repeat' (first|refine aA2 ?_|(refine zX (fun hc=>?_) (fun hc=>?_)<;>(try simp only [SY] at hc)<;>(conv=>whnf)))
     refine PCall.go hc1 (WkT.refl _) ?_
     rintro _ _ ⟨rfl, rfl⟩
     conv => whnf
     repeat' (first|refine aA2 ?_|((first|refine pC (void04_c) wR ?_|intro _);conv=>whnf)|(refine zX (fun hc=>?_) (fun hc=>?_)<;>(try simp only [SY] at hc)<;>(conv=>whnf)))
     all_goals subst hst
     ·rw [if_pos (by omega)] at hfi
      rw [hfi] at hc2
      refine PCall.go hc2 (WkT.refl _) ?_
      rintro _ _ ⟨rfl, rfl⟩
      conv => whnf
      repeat' (first|refine aA2 ?_|((intro _);conv=>whnf)|(refine zX (fun hc=>?_) (fun hc=>?_)<;>(try simp only [SY] at hc)<;>omega))
      refine PCall.pureFzD u3 _ (args' := [.sl 5 ((x.1 :: bs.map fun p => p.2.2).map Datum.pv) none]) (.cons (WkF.ms' hus) .nil) list04_c ?_
      conv => whnf
      repeat' (first|refine aA2 ?_|((intro _);conv=>whnf)|(refine zX (fun hc=>?_) (fun hc=>?_)<;>(try simp only [SY] at hc)<;>omega))
      refine PCall.go hc3 (.cons (Wk.refl _) (.cons (Wk.tok _ _ _) .nil)) ?_
      rintro _ _ ⟨rfl, rfl⟩
      conv => whnf
      repeat' (first|refine aA2 ?_|((first|((apply zZ);(conv=>whnf);(repeat ((first|refine pC (list04_c) wR ?_|refine pC (sym04_c _) wR ?_);conv=>whnf));exact pZ)|refine drExp04iaa ?_|intro _);conv=>whnf)|(refine zX (fun hc=>?_) (fun hc=>?_)<;>(try simp only [SY] at hc)<;>omega))
      refine PDraw.sW [mkE b bo.2] 10 13 [14] [15] [16] tt_ok mixed ?_
      conv => whnf
      repeat (first|refine aR2 ?_|((((apply zZ);(conv=>whnf);(repeat ((first|refine pC (list04_c) wR ?_|refine pC (sym04_c _) wR ?_);conv=>whnf));exact pZ));conv=>whnf))
      refine ⟨?_, ?_⟩
      ·conv => whnf
       repeat (first|refine aR2 ?_|((intro _);conv=>whnf))
       refine PCall.go hc4 (.cons (Wk.refl _) (.cons (Wk.tok _ _ _) .nil)) ?_
       rintro _ _ ⟨rfl, rfl⟩
       conv => whnf
       skip
       refine PAppend.litD (l := [listD [symD [108, 101, 116, 114, 101, 99], listD [listD [x.1, listD [symD [108, 97, 109, 98, 100, 97], listD (bs.map fun p => p.1), listD [symD [105, 102], te.1, fi.1, bo.1]]]], x.1]]) (by simp only [List.map_cons, List.map_nil, Datum.pv_eq] <;> rfl) (by assumption) rfl (by rw [List.length_singleton, hal4, List.length_map]; omega) ?_
       intro v9 hv9
       conv => whnf
       repeat' (first|refine aA2 ?_|((((apply zZ);(conv=>whnf);(repeat ((refine pC (list04_c) wR ?_);conv=>whnf));exact pZ));conv=>whnf)|(refine zX (fun hc=>?_) (fun hc=>?_)<;>(try simp only [SY] at hc)<;>omega))
       exact PRet.gen (y := .agg (listD (listD [symD [108, 101, 116, 114, 101, 99], listD [listD [x.1, listD [symD [108, 97, 109, 98, 100, 97], listD (bs.map fun p => p.1), listD [symD [105, 102], te.1, fi.1, bo.1]]]], x.1] :: r.1)).cells) (Γ' := [mkE b r.2]) (Wk.refl _) (And.intro rfl rfl)
      ·conv => whnf
       skip
       refine PCall.go hc4 (.cons (Wk.refl _) (.cons (Wk.tok _ _ _) .nil)) ?_
       rintro _ _ ⟨rfl, rfl⟩
       conv => whnf
       repeat' (first|refine aA2 ?_|((intro _);conv=>whnf)|(refine zX (fun hc=>?_) (fun hc=>?_)<;>(try simp only [SY] at hc)<;>omega))
       refine PAppend.litD (l := [listD [symD [108, 101, 116, 114, 101, 99], listD [listD [x.1, listD [symD [108, 97, 109, 98, 100, 97], listD (bs.map fun p => p.1), listD [symD [105, 102], te.1, fi.1, bo.1]]]], x.1]]) (by simp only [List.map_cons, List.map_nil, Datum.pv_eq] <;> rfl) (by assumption) rfl (by rw [List.length_singleton, hal4, List.length_map]; omega) ?_
       intro v9 hv9
       conv => whnf
       repeat' (first|refine aA2 ?_|((((apply zZ);(conv=>whnf);(repeat ((refine pC (list04_c) wR ?_);conv=>whnf));exact pZ));conv=>whnf)|(refine zX (fun hc=>?_) (fun hc=>?_)<;>(try simp only [SY] at hc)<;>omega))
       exact PRet.gen (y := .agg (listD (listD [symD [108, 101, 116, 114, 101, 99], listD [listD [x.1, listD [symD [108, 97, 109, 98, 100, 97], listD (bs.map fun p => p.1), listD [symD [105, 102], te.1, fi.1, bo.1]]]], x.1] :: r.1)).cells) (Γ' := [mkE b r.2]) (Wk.refl _) (And.intro rfl rfl)
     ·rw [if_neg (by omega)] at hfi
      subst hfi
      refine PCall.pureFzD u3 _ (args' := [.sl 5 ((x.1 :: bs.map fun p => p.2.2).map Datum.pv) none]) (.cons (WkF.ms' hus) .nil) list04_c ?_
      conv => whnf
      repeat' (first|refine aA2 ?_|((intro _);conv=>whnf)|(refine zX (fun hc=>?_) (fun hc=>?_)<;>(try simp only [SY] at hc)<;>omega))
      refine PCall.go hc3 (.cons (Wk.refl _) (.cons (Wk.tok _ _ _) .nil)) ?_
      rintro _ _ ⟨rfl, rfl⟩
      conv => whnf
      repeat' (first|refine aA2 ?_|((first|((apply zZ);(conv=>whnf);(repeat ((first|refine pC (list04_c) wR ?_|refine pC (sym04_c _) wR ?_);conv=>whnf));exact pZ)|refine drExp04iaa ?_|intro _);conv=>whnf)|(refine zX (fun hc=>?_) (fun hc=>?_)<;>(try simp only [SY] at hc)<;>omega))
      refine PDraw.sW [mkE b bo.2] 10 13 [14] [15] [16] tt_ok mixed ?_
      conv => whnf
      repeat (first|refine aR2 ?_|((((apply zZ);(conv=>whnf);(repeat ((first|refine pC (list04_c) wR ?_|refine pC (sym04_c _) wR ?_);conv=>whnf));exact pZ));conv=>whnf))
      refine ⟨?_, ?_⟩
      ·conv => whnf
       repeat (first|refine aR2 ?_|((intro _);conv=>whnf))
       refine PCall.go hc4 (.cons (Wk.refl _) (.cons (Wk.tok _ _ _) .nil)) ?_
       rintro _ _ ⟨rfl, rfl⟩
       conv => whnf
       skip
       refine PAppend.litD (l := [listD [symD [108, 101, 116, 114, 101, 99], listD [listD [x.1, listD [symD [108, 97, 109, 98, 100, 97], listD (bs.map fun p => p.1), listD [symD [105, 102], te.1, voidD, bo.1]]]], x.1]]) (by simp only [List.map_cons, List.map_nil, Datum.pv_eq] <;> rfl) (by assumption) rfl (by rw [List.length_singleton, hal4, List.length_map]; omega) ?_
       intro v9 hv9
       conv => whnf
       repeat' (first|refine aA2 ?_|((((apply zZ);(conv=>whnf);(repeat ((refine pC (list04_c) wR ?_);conv=>whnf));exact pZ));conv=>whnf)|(refine zX (fun hc=>?_) (fun hc=>?_)<;>(try simp only [SY] at hc)<;>omega))
       exact PRet.gen (y := .agg (listD (listD [symD [108, 101, 116, 114, 101, 99], listD [listD [x.1, listD [symD [108, 97, 109, 98, 100, 97], listD (bs.map fun p => p.1), listD [symD [105, 102], te.1, voidD, bo.1]]]], x.1] :: r.1)).cells) (Γ' := [mkE b r.2]) (Wk.refl _) (And.intro rfl rfl)
      ·conv => whnf
       skip
       refine PCall.go hc4 (.cons (Wk.refl _) (.cons (Wk.tok _ _ _) .nil)) ?_
       rintro _ _ ⟨rfl, rfl⟩
       conv => whnf
       repeat' (first|refine aA2 ?_|((intro _);conv=>whnf)|(refine zX (fun hc=>?_) (fun hc=>?_)<;>(try simp only [SY] at hc)<;>omega))
       refine PAppend.litD (l := [listD [symD [108, 101, 116, 114, 101, 99], listD [listD [x.1, listD [symD [108, 97, 109, 98, 100, 97], listD (bs.map fun p => p.1), listD [symD [105, 102], te.1, voidD, bo.1]]]], x.1]]) (by simp only [List.map_cons, List.map_nil, Datum.pv_eq] <;> rfl) (by assumption) rfl (by rw [List.length_singleton, hal4, List.length_map]; omega) ?_
       intro v9 hv9
       conv => whnf
       repeat' (first|refine aA2 ?_|((((apply zZ);(conv=>whnf);(repeat ((refine pC (list04_c) wR ?_);conv=>whnf));exact pZ));conv=>whnf)|(refine zX (fun hc=>?_) (fun hc=>?_)<;>(try simp only [SY] at hc)<;>omega))
       exact PRet.gen (y := .agg (listD (listD [symD [108, 101, 116, 114, 101, 99], listD [listD [x.1, listD [symD [108, 97, 109, 98, 100, 97], listD (bs.map fun p => p.1), listD [symD [105, 102], te.1, voidD, bo.1]]]], x.1] :: r.1)).cells) (Γ' := [mkE b r.2]) (Wk.refl _) (And.intro rfl rfl)
end Go.Cb
namespace Go.Cb
open Go.Proofs
set_option maxRecDepth 100000
set_option maxHeartbeats 40000000
theorem szs_two_drop {l : List Datum} (h : 2 ≤ l.length) : Datum.szs (l.drop 2) + l[0].sz + l[1].sz = Datum.szs l := by
 match l, h with
 | x :: y :: l, _ => simp [Datum.szs]; omega
theorem drExp04jaa {p q : Prop} (k : q) (h : q → p := by intro hq; first | exact PDraw.sP (some 63) rfl [] [6,7] tt_ok mixed hq | exact PDraw.sP (some 101) rfl [] [7,8] tt_ok mixed hq | exact PDraw.sP (some 143) rfl [] [6,7] tt_ok mixed hq) : p := h k
theorem form04_c (b : Nat) (ex : Datum → MkS → MkR) (bd : List Datum → MkS → MkR) (key : List UInt8) (l : List Datum) (M : Nat) (hM : M ≤ 1000000000) (hx : ∀ x : Datum, x.pr = true → x.sz ≤ M → ExOk b ex x) (hbd : ∀ k, 1 ≤ k → BdOk b bd (l.drop k)) (hp : ∀ x ∈ l, x.pr = true) (hls : Datum.szs l + l.length + 1 ≤ M) (s : MkS) (h0 : 0 ≤ s.n) (h1 : s.n + Datum.szs l + l.length + 1 ≤ 1000000000000) :
  ACall Tryz.prog 148 [.ptr b 0, .str key, .sl 5 (l.map Datum.pv) none] [mkE b s] (fun y Γ' => y = .agg (frmM ex bd key l s).1.cells ∧ Γ' = [mkE b (frmM ex bd key l s).2]) := by
 have hL : frmM ex bd key l s = frmM ex bd key l s := rfl
 conv at hL => rhs; unfold frmM; dsimp only
 unfold kwQuote kwIf kwLambda kwSet kwBegin kwLetrec kwLetrecS kwLet kwLetS kwAnd kwOr kwWhen kwUnless kwCond kwCase kwDo at hL
 have hlen := Datum.szs_len l
 have hxl : ∀ x ∈ l, ExOk b ex x := fun x h => hx x (hp x h) (by have := Datum.szs_mem h; omega)
 refine ACall.of_body tt_ok Tryz.func148 rfl rfl (n := 159) rfl rfl ?_
 conv => whnf
 repeat' (first|refine aA2 ?_|((first|(((apply zY;intro hg));(conv=>whnf);(repeat ((first|refine pC (varD_c _) wR ?_|refine aH ?_);conv=>whnf));exact pZ)|refine pC (quoted04_c) wR ?_|refine drExp04jaa ?_|intro _);conv=>whnf)|(refine zX (fun hc=>?_) (fun hc=>?_)<;>(try simp only [SY] at hc)<;>(conv=>whnf)))
 all_goals try contradiction
 all_goals repeat (first|rw [if_neg (by assumption)] at hL|rw [if_pos (by assumption)] at hL|rw [if_neg (by omega)] at hL|rw [if_pos (by omega)] at hL|rw [if_pos (Or.inl (by assumption))] at hL|rw [if_pos (Or.inr (by assumption))] at hL|rw [if_neg (not_or.2 ⟨by assumption, by assumption⟩)] at hL)
 ·rw [datD_get (show 0 < l.length by omega)] at hL
  rw [hL]
  exact PRet.gen (y := .agg (quotD (l[0]'(by omega))).cells) (Γ' := [mkE b s]) (Wk.refl _) (And.intro rfl rfl)
 ·rw [hL]
  refine PCall.go (failM_c b s) (WkT.refl _) ?_
  rintro _ _ ⟨rfl, rfl⟩
  conv => whnf
  repeat' (first|refine aA2 ?_|(refine zX (fun hc=>?_) (fun hc=>?_)<;>(try simp only [SY] at hc)<;>omega))
  exact PRet.gen (y := .agg (failM s).1.cells) (Γ' := [mkE b (failM s).2]) (Wk.refl _) (And.intro rfl rfl)
 ·rw [datD_get (show 0 < l.length by omega), datD_get (show 1 < l.length by omega)] at hL
  have hm0 : l[0]'(by omega) ∈ l := List.getElem_mem _
  have hm1 : l[1]'(by omega) ∈ l := List.getElem_mem _
  have e2 : Datum.szs (l.drop 2) + (l[0]'(by omega)).sz + (l[1]'(by omega)).sz = Datum.szs l := szs_two_drop (by omega)
  obtain ⟨g1, hc1⟩ := hxl _ hm0 s h0 (by omega)
  generalize ex (l[0]'(by omega)) s = a1 at *
  obtain ⟨g2, hc2⟩ := hxl _ hm1 a1.2 (by unfold Grow at g1; omega) (by unfold Grow at g1; omega)
  generalize ex (l[1]'(by omega)) a1.2 = a2 at *
  rw [hL]
  refine PDraw.sE [mkE b s] [5] [10,11,12,13,14] tt_ok mixed ?_
  conv=>whnf
  repeat (first|refine aR2 ?_|((((apply zZ);(conv=>whnf);(repeat ((refine pC (sym04_c _) wR ?_);conv=>whnf));exact pZ));conv=>whnf))
  refine PCall.go hc1 (WkT.refl _) ?_
  rintro _ _ ⟨rfl, rfl⟩
  conv => whnf
  skip
  refine PCall.go hc2 (WkT.refl _) ?_
  rintro _ _ ⟨rfl, rfl⟩
  conv => whnf
  repeat' (first|refine aA2 ?_|((first|refine pC (list04_c) wR ?_|refine pC (void04_c) wR ?_|intro _);conv=>whnf)|(refine zX (fun hc=>?_) (fun hc=>?_)<;>(try simp only [SY] at hc)<;>omega))
  exact PRet.gen (y := .agg (listD [symD kwIf, a1.1, a2.1, voidD]).cells) (Γ' := [mkE b a2.2]) (Wk.refl _) (And.intro rfl rfl)
 ·rw [datD_get (show 0 < l.length by omega), datD_get (show 1 < l.length by omega), datD_get (show 2 < l.length by omega)] at hL
  have hm0 : l[0]'(by omega) ∈ l := List.getElem_mem _
  have hm1 : l[1]'(by omega) ∈ l := List.getElem_mem _
  have e2 : Datum.szs (l.drop 2) + (l[0]'(by omega)).sz + (l[1]'(by omega)).sz = Datum.szs l := szs_two_drop (by omega)
  have hm2 : l[2]'(by omega) ∈ l := List.getElem_mem _
  have e3 : (l[2]'(by omega)).sz ≤ Datum.szs (l.drop 2) := Datum.szs_mem (by rw [List.mem_drop_iff_getElem]; exact ⟨0, by omega, rfl⟩)
  obtain ⟨g1, hc1⟩ := hxl _ hm0 s h0 (by omega)
  generalize ex (l[0]'(by omega)) s = a1 at *
  obtain ⟨g2, hc2⟩ := hxl _ hm1 a1.2 (by unfold Grow at g1; omega) (by unfold Grow at g1; omega)
  generalize ex (l[1]'(by omega)) a1.2 = a2 at *
  obtain ⟨g3, hc3⟩ := hxl _ hm2 a2.2 (by unfold Grow at g1 g2; omega) (by unfold Grow at g1 g2; omega)
  generalize ex (l[2]'(by omega)) a2.2 = a3 at *
  rw [hL]
  refine PDraw.sE [mkE b s] [5,10] [15,16,17,18] tt_ok mixed ?_
  conv=>whnf
  repeat (first|refine aR2 ?_|((((apply zZ);(conv=>whnf);(repeat ((refine pC (sym04_c _) wR ?_);conv=>whnf));exact pZ));conv=>whnf))
  refine PCall.go hc1 (WkT.refl _) ?_
  rintro _ _ ⟨rfl, rfl⟩
  conv => whnf
  skip
  refine PCall.go hc2 (WkT.refl _) ?_
  rintro _ _ ⟨rfl, rfl⟩
  conv => whnf
  skip
  refine PCall.go hc3 (WkT.refl _) ?_
  rintro _ _ ⟨rfl, rfl⟩
  conv => whnf
  repeat' (first|refine aA2 ?_|((first|refine pC (list04_c) wR ?_|intro _);conv=>whnf)|(refine zX (fun hc=>?_) (fun hc=>?_)<;>(try simp only [SY] at hc)<;>omega))
  exact PRet.gen (y := .agg (listD [symD kwIf, a1.1, a2.1, a3.1]).cells) (Γ' := [mkE b a3.2]) (Wk.refl _) (And.intro rfl rfl)
 ·rw [hL]
  refine PCall.go (failM_c b s) (WkT.refl _) ?_
  rintro _ _ ⟨rfl, rfl⟩
  conv => whnf
  repeat' (first|refine aA2 ?_|(refine zX (fun hc=>?_) (fun hc=>?_)<;>(try simp only [SY] at hc)<;>omega))
  exact PRet.gen (y := .agg (failM s).1.cells) (Γ' := [mkE b (failM s).2]) (Wk.refl _) (And.intro rfl rfl)
 ·rw [datD_get (show 0 < l.length by omega)] at hL
  have hm0 : l[0]'(by omega) ∈ l := List.getElem_mem _
  have hz0 := Datum.szs_mem hm0
  have hzd := szs_cons_drop (show 0 < l.length by omega)
  rw [hL]
  refine PCall.go (lambda04_c b bd (l[0]'(by omega)) (l.drop 1) (hp _ hm0) (by omega) (hbd 1 (Nat.le_refl _)) s h0 (by omega)) (WkT.refl _) ?_
  rintro _ _ ⟨rfl, rfl⟩
  generalize lamM bd (l[0]'(by omega)) (l.drop 1) s = r at *
  conv => whnf
  repeat' (first|refine aA2 ?_|(refine zX (fun hc=>?_) (fun hc=>?_)<;>(try simp only [SY] at hc)<;>omega))
  exact PRet.gen (y := .agg r.1.cells) (Γ' := [mkE b r.2]) (Wk.refl _) (And.intro rfl rfl)
 ·rw [hL]
  refine PCall.go (failM_c b s) (WkT.refl _) ?_
  rintro _ _ ⟨rfl, rfl⟩
  conv => whnf
  repeat' (first|refine aA2 ?_|(refine zX (fun hc=>?_) (fun hc=>?_)<;>(try simp only [SY] at hc)<;>omega))
  exact PRet.gen (y := .agg (failM s).1.cells) (Γ' := [mkE b (failM s).2]) (Wk.refl _) (And.intro rfl rfl)
 ·rw [if_pos ⟨by omega, by rw [datD_get (show 0 < l.length by omega)]; have h2 := hc.2; rwa [show l.getD 0 (Dfl.d : Datum) = l[0]'(by omega) by simp [List.getD, show 0 < l.length by omega]] at h2⟩] at hL
  rw [datD_get (show 0 < l.length by omega), datD_get (show 1 < l.length by omega)] at hL
  have hm1 : l[1]'(by omega) ∈ l := List.getElem_mem _
  have hz1 := Datum.szs_mem hm1
  obtain ⟨g1, hc1⟩ := hxl _ hm1 s h0 (by omega)
  generalize ex (l[1]'(by omega)) s = a1 at *
  rw [hL]
  refine PDraw.sE [mkE b s] [8] [9,10,11] tt_ok mixed ?_
  conv=>whnf
  repeat (first|refine aR2 ?_|((((apply zZ);(conv=>whnf);(repeat ((refine pC (sym04_c _) wR ?_);conv=>whnf));exact pZ));conv=>whnf))
  refine PCall.go hc1 (WkT.refl _) ?_
  rintro _ _ ⟨rfl, rfl⟩
  conv => whnf
  repeat' (first|refine aA2 ?_|((first|refine pC (list04_c) wR ?_|intro _);conv=>whnf)|(refine zX (fun hc=>?_) (fun hc=>?_)<;>(try simp only [SY] at hc)<;>omega))
  exact PRet.gen (y := .agg (listD [symD kwSet, l[0]'(by omega), a1.1]).cells) (Γ' := [mkE b a1.2]) (Wk.refl _) (And.intro rfl rfl)
 ·rw [if_neg (fun ⟨h1, h2⟩ => by
   rw [datD_get (show 0 < l.length by omega)] at h2
   rcases hc with h | h
   ·omega
   ·rw [show l.getD 0 (Dfl.d : Datum) = l[0]'(by omega) by simp [List.getD, show 0 < l.length by omega], h2] at h; cases h)] at hL
  rw [hL]
  refine PCall.go (failM_c b s) (WkT.refl _) ?_
  rintro _ _ ⟨rfl, rfl⟩
  conv => whnf
  repeat' (first|refine aA2 ?_|(refine zX (fun hc=>?_) (fun hc=>?_)<;>(try simp only [SY] at hc)<;>omega))
  exact PRet.gen (y := .agg (failM s).1.cells) (Γ' := [mkE b (failM s).2]) (Wk.refl _) (And.intro rfl rfl)
 ·rw [hL]
  refine PCall.go (begin04_c b ex l hxl (by omega) s h0 (by omega)) (WkT.refl _) ?_
  rintro _ _ ⟨rfl, rfl⟩
  generalize begM ex l s = r at *
  conv => whnf
  repeat' (first|refine aA2 ?_|(refine zX (fun hc=>?_) (fun hc=>?_)<;>(try simp only [SY] at hc)<;>omega))
  exact PRet.gen (y := .agg r.1.cells) (Γ' := [mkE b r.2]) (Wk.refl _) (And.intro rfl rfl)
 ·rw [datD_get (show 0 < l.length by omega)] at hL
  have hm0 : l[0]'(by omega) ∈ l := List.getElem_mem _
  have hz0 := Datum.szs_mem hm0
  have hzd := szs_cons_drop (show 0 < l.length by omega)
  rw [hL]
  refine PCall.go ((rec04_c b ex bd key (l[0]'(by omega)) (l.drop 1) (hp _ hm0) (by omega) (fun x h2 h3 => hx x h2 (by omega)) (hbd 1 (Nat.le_refl _)) s h0 (by omega)).2) (WkT.refl _) ?_
  rintro _ _ ⟨rfl, rfl⟩
  generalize recM ex bd key (l[0]'(by omega)) (l.drop 1) s = r at *
  conv => whnf
  repeat' (first|refine aA2 ?_|(refine zX (fun hc=>?_) (fun hc=>?_)<;>(try simp only [SY] at hc)<;>omega))
  exact PRet.gen (y := .agg r.1.cells) (Γ' := [mkE b r.2]) (Wk.refl _) (And.intro rfl rfl)
 ·rw [hL]
  refine PCall.go (failM_c b s) (WkT.refl _) ?_
  rintro _ _ ⟨rfl, rfl⟩
  conv => whnf
  repeat' (first|refine aA2 ?_|(refine zX (fun hc=>?_) (fun hc=>?_)<;>(try simp only [SY] at hc)<;>omega))
  exact PRet.gen (y := .agg (failM s).1.cells) (Γ' := [mkE b (failM s).2]) (Wk.refl _) (And.intro rfl rfl)
 ·rw [datD_get (show 0 < l.length by omega)] at hL
  have hm0 : l[0]'(by omega) ∈ l := List.getElem_mem _
  have hz0 := Datum.szs_mem hm0
  have hzd := szs_cons_drop (show 0 < l.length by omega)
  rw [hL]
  refine PCall.go ((rec04_c b ex bd key (l[0]'(by omega)) (l.drop 1) (hp _ hm0) (by omega) (fun x h2 h3 => hx x h2 (by omega)) (hbd 1 (Nat.le_refl _)) s h0 (by omega)).2) (WkT.refl _) ?_
  rintro _ _ ⟨rfl, rfl⟩
  generalize recM ex bd key (l[0]'(by omega)) (l.drop 1) s = r at *
  conv => whnf
  repeat' (first|refine aA2 ?_|(refine zX (fun hc=>?_) (fun hc=>?_)<;>(try simp only [SY] at hc)<;>omega))
  exact PRet.gen (y := .agg r.1.cells) (Γ' := [mkE b r.2]) (Wk.refl _) (And.intro rfl rfl)
 ·rw [hL]
  refine PCall.go (failM_c b s) (WkT.refl _) ?_
  rintro _ _ ⟨rfl, rfl⟩
  conv => whnf
  repeat' (first|refine aA2 ?_|(refine zX (fun hc=>?_) (fun hc=>?_)<;>(try simp only [SY] at hc)<;>omega))
  exact PRet.gen (y := .agg (failM s).1.cells) (Γ' := [mkE b (failM s).2]) (Wk.refl _) (And.intro rfl rfl)
 ·rw [hL]
  refine PCall.go ((let04_c b ex bd key l (by omega) hp (by omega) (fun x h2 h3 => hx x h2 (by omega)) hbd s h0 (by omega)).2) (WkT.refl _) ?_
  rintro _ _ ⟨rfl, rfl⟩
  generalize letM ex bd key l s = r at *
  conv => whnf
  repeat' (first|refine aA2 ?_|(refine zX (fun hc=>?_) (fun hc=>?_)<;>(try simp only [SY] at hc)<;>omega))
  exact PRet.gen (y := .agg r.1.cells) (Γ' := [mkE b r.2]) (Wk.refl _) (And.intro rfl rfl)
 ·rw [hL]
  refine PCall.go (failM_c b s) (WkT.refl _) ?_
  rintro _ _ ⟨rfl, rfl⟩
  conv => whnf
  repeat' (first|refine aA2 ?_|(refine zX (fun hc=>?_) (fun hc=>?_)<;>(try simp only [SY] at hc)<;>omega))
  exact PRet.gen (y := .agg (failM s).1.cells) (Γ' := [mkE b (failM s).2]) (Wk.refl _) (And.intro rfl rfl)
 ·rw [hL]
  refine PCall.go ((let04_c b ex bd key l (by omega) hp (by omega) (fun x h2 h3 => hx x h2 (by omega)) hbd s h0 (by omega)).2) (WkT.refl _) ?_
  rintro _ _ ⟨rfl, rfl⟩
  generalize letM ex bd key l s = r at *
  conv => whnf
  repeat' (first|refine aA2 ?_|(refine zX (fun hc=>?_) (fun hc=>?_)<;>(try simp only [SY] at hc)<;>omega))
  exact PRet.gen (y := .agg r.1.cells) (Γ' := [mkE b r.2]) (Wk.refl _) (And.intro rfl rfl)
 ·rw [hL]
  refine PCall.go (failM_c b s) (WkT.refl _) ?_
  rintro _ _ ⟨rfl, rfl⟩
  conv => whnf
  repeat' (first|refine aA2 ?_|(refine zX (fun hc=>?_) (fun hc=>?_)<;>(try simp only [SY] at hc)<;>omega))
  exact PRet.gen (y := .agg (failM s).1.cells) (Γ' := [mkE b (failM s).2]) (Wk.refl _) (And.intro rfl rfl)
 ·rw [hL]
  obtain rfl : key = kwAnd := by assumption
  refine PCall.go ((and04_c b ex l.length (by omega) l (Nat.le_refl _) hxl s h0 (by omega)).2) (WkT.refl _) ?_
  rintro _ _ ⟨rfl, rfl⟩
  generalize andM ex l s = r at *
  conv => whnf
  repeat' (first|refine aA2 ?_|(refine zX (fun hc=>?_) (fun hc=>?_)<;>(try simp only [SY] at hc)<;>omega))
  exact PRet.gen (y := .agg r.1.cells) (Γ' := [mkE b r.2]) (Wk.refl _) (And.intro rfl rfl)
 ·rw [hL]
  obtain rfl : key = kwOr := by assumption
  refine PCall.go ((or04_c b ex l.length (by omega) l (Nat.le_refl _) hxl s h0 (by omega)).2) (WkT.refl _) ?_
  rintro _ _ ⟨rfl, rfl⟩
  generalize orM ex l s = r at *
  conv => whnf
  repeat' (first|refine aA2 ?_|(refine zX (fun hc=>?_) (fun hc=>?_)<;>(try simp only [SY] at hc)<;>omega))
  exact PRet.gen (y := .agg r.1.cells) (Γ' := [mkE b r.2]) (Wk.refl _) (And.intro rfl rfl)
 ·rw [hL]
  refine PCall.go ((when04_c b ex key (.inl (by assumption)) l hxl (by omega) s h0 (by omega)).2) (WkT.refl _) ?_
  rintro _ _ ⟨rfl, rfl⟩
  generalize whnM ex key l s = r at *
  conv => whnf
  repeat' (first|refine aA2 ?_|(refine zX (fun hc=>?_) (fun hc=>?_)<;>(try simp only [SY] at hc)<;>omega))
  exact PRet.gen (y := .agg r.1.cells) (Γ' := [mkE b r.2]) (Wk.refl _) (And.intro rfl rfl)
 ·rw [hL]
  refine PCall.go ((when04_c b ex key (.inr (by assumption)) l hxl (by omega) s h0 (by omega)).2) (WkT.refl _) ?_
  rintro _ _ ⟨rfl, rfl⟩
  generalize whnM ex key l s = r at *
  conv => whnf
  repeat' (first|refine aA2 ?_|(refine zX (fun hc=>?_) (fun hc=>?_)<;>(try simp only [SY] at hc)<;>omega))
  exact PRet.gen (y := .agg r.1.cells) (Γ' := [mkE b r.2]) (Wk.refl _) (And.intro rfl rfl)
 ·rw [hL]
  refine PCall.go (cond04_c b ex M hM hx l.length (by omega) l (Nat.le_refl _) (fun x h => ⟨hp x h, by have := Datum.szs_mem h; omega⟩) s h0 (by omega)) (WkT.refl _) ?_
  rintro _ _ ⟨rfl, rfl⟩
  generalize cndM ex l s = r at *
  conv => whnf
  repeat' (first|refine aA2 ?_|(refine zX (fun hc=>?_) (fun hc=>?_)<;>(try simp only [SY] at hc)<;>omega))
  exact PRet.gen (y := .agg r.1.cells) (Γ' := [mkE b r.2]) (Wk.refl _) (And.intro rfl rfl)
 ·rw [datD_get (show 0 < l.length by omega)] at hL
  have hm0 : l[0]'(by omega) ∈ l := List.getElem_mem _
  have hz0 := Datum.szs_mem hm0
  have hzd := szs_cons_drop (show 0 < l.length by omega)
  have hdl : (l.drop 1).length = l.length - 1 := List.length_drop
  have hf : Grow 1 s (frsM s).2 := Grow.frs 0 s
  have hfn : (frsM s).2.n = s.n + 1 := rfl
  have hfc := fresh04_c b s h0 (by omega)
  generalize frsM s = x at *
  have hpd : ∀ y ∈ l.drop 1, y.pr = true ∧ y.sz ≤ M := fun y h => ⟨hp y (List.mem_of_mem_drop h), by have := Datum.szs_mem (List.mem_of_mem_drop h); omega⟩
  have g2 := choM_grow b ex x.1 M hx (l.drop 1).length (l.drop 1) (Nat.le_refl _) hpd x.2 (by omega) (by omega)
  have hc2 := choice04_c b ex x.1 M hM hx (l.drop 1).length (by omega) (l.drop 1) (Nat.le_refl _) hpd x.2 (by omega) (by omega)
  generalize choM ex x.1 (l.drop 1) x.2 = r at *
  have hbc := bound04_c b ex x.1 r.1 (l[0]'(by omega)) (hxl _ hm0) r.2 (by unfold Grow at g2; omega) (by unfold Grow at g2; omega)
  generalize bndM ex x.1 r.1 (l[0]'(by omega)) r.2 = q at *
  rw [hL]
  refine PCall.go hfc (WkT.refl _) ?_
  rintro _ _ ⟨rfl, rfl⟩
  conv => whnf
  repeat' (first|refine aA2 ?_|((intro _);conv=>whnf)|(refine zX (fun hc=>?_) (fun hc=>?_)<;>(try simp only [SY] at hc)<;>omega))
  refine PDraw.sF (some 138) rfl [mkE b x.2] [4] [] [5] [6] tt_ok mixed ?_
  conv=>whnf
  repeat (refine aR2 ?_)
  refine PCall.go hc2 (WkT.refl _) ?_
  rintro _ _ ⟨rfl, rfl⟩
  conv => whnf
  repeat' (first|refine aA2 ?_|((first|refine drExp04jaa ?_|intro _);conv=>whnf)|(refine zX (fun hc=>?_) (fun hc=>?_)<;>(try simp only [SY] at hc)<;>omega))
  refine PCall.go hbc (WkT.refl _) ?_
  rintro _ _ ⟨rfl, rfl⟩
  conv => whnf
  repeat' (first|refine aA2 ?_|(refine zX (fun hc=>?_) (fun hc=>?_)<;>(try simp only [SY] at hc)<;>omega))
  exact PRet.gen (y := .agg q.1.cells) (Γ' := [mkE b q.2]) (Wk.refl _) (And.intro rfl rfl)
 ·rw [hL]
  refine PCall.go (failM_c b s) (WkT.refl _) ?_
  rintro _ _ ⟨rfl, rfl⟩
  conv => whnf
  repeat' (first|refine aA2 ?_|(refine zX (fun hc=>?_) (fun hc=>?_)<;>(try simp only [SY] at hc)<;>omega))
  exact PRet.gen (y := .agg (failM s).1.cells) (Γ' := [mkE b (failM s).2]) (Wk.refl _) (And.intro rfl rfl)
 ·rw [hL]
  refine PCall.go ((loop04_c b ex l M hM hx (by omega) hp (by omega) s h0 (by omega)).2) (WkT.refl _) ?_
  rintro _ _ ⟨rfl, rfl⟩
  generalize lopM ex l s = r at *
  conv => whnf
  repeat' (first|refine aA2 ?_|(refine zX (fun hc=>?_) (fun hc=>?_)<;>(try simp only [SY] at hc)<;>omega))
  exact PRet.gen (y := .agg r.1.cells) (Γ' := [mkE b r.2]) (Wk.refl _) (And.intro rfl rfl)
 ·rw [hL]
  refine PCall.go (failM_c b s) (WkT.refl _) ?_
  rintro _ _ ⟨rfl, rfl⟩
  conv => whnf
  repeat' (first|refine aA2 ?_|(refine zX (fun hc=>?_) (fun hc=>?_)<;>(try simp only [SY] at hc)<;>omega))
  exact PRet.gen (y := .agg (failM s).1.cells) (Γ' := [mkE b (failM s).2]) (Wk.refl _) (And.intro rfl rfl)
 ·rw [hL]
  refine PCall.go (failM_c b s) (WkT.refl _) ?_
  rintro _ _ ⟨rfl, rfl⟩
  conv => whnf
  repeat' (first|refine aA2 ?_|(refine zX (fun hc=>?_) (fun hc=>?_)<;>(try simp only [SY] at hc)<;>omega))
  exact PRet.gen (y := .agg (failM s).1.cells) (Γ' := [mkE b (failM s).2]) (Wk.refl _) (And.intro rfl rfl)
end Go.Cb
namespace Go.Cb
open Go.Proofs
set_option maxRecDepth 100000
set_option maxHeartbeats 4000000
theorem frmM_grow (b : Nat) (ex : Datum → MkS → MkR) (bd : List Datum → MkS → MkR) (key : List UInt8) (l : List Datum) (M : Nat) (hM : M ≤ 1000000000) (hx : ∀ x : Datum, x.pr = true → x.sz ≤ M → ExOk b ex x) (hbd : ∀ k, 1 ≤ k → BdOk b bd (l.drop k)) (hp : ∀ x ∈ l, x.pr = true) (hls : Datum.szs l + l.length + 1 ≤ M) (s : MkS) (h0 : 0 ≤ s.n) (h1 : s.n + Datum.szs l + l.length + 1 ≤ 1000000000000) :
  Grow (Datum.szs l + l.length + 1) s (frmM ex bd key l s).2 := by
 have hlen := Datum.szs_len l
 have hxl : ∀ x ∈ l, ExOk b ex x := fun x h => hx x (hp x h) (by have := Datum.szs_mem h; omega)
 have hx0 : ∀ i, i < l.length → ∀ s : MkS, 0 ≤ s.n → s.n + Datum.szs l ≤ 1000000000000 → Grow (l.getD i nulD).sz s (ex (l.getD i nulD) s).2 := fun i hi s h0 h1 => (hxl _ (datD_mem hi) s h0 (by have := szs_getD hi; omega)).1
 unfold frmM
 dsimp only
 by_cases hk1 : key = kwQuote
 ·rw [if_pos hk1]
  split
  ·exact Grow.refl _ s
  ·exact Grow.fail _ s
 rw [if_neg hk1]
 by_cases hk2 : key = kwIf
 ·rw [if_pos hk2]
  split
  ·rename_i h2
   have e := szs_two_drop (l := l) (by omega)
   rw [← datD_get (show 0 < l.length by omega), ← datD_get (show 1 < l.length by omega)] at e
   have g1 := hx0 0 (by omega) s h0 (by omega)
   have g2 := (hxl _ (datD_mem (i := 1) (by omega)) (ex (l.getD 0 nulD) s).2 (by unfold Grow at g1; omega) (by unfold Grow at g1; omega)).1
   exact (g1.trans g2).mono (by omega)
  ·split
   ·rename_i h3
    have e := szs_two_drop (l := l) (by omega)
    have e3 : (l[2]'(by omega)).sz ≤ Datum.szs (l.drop 2) := Datum.szs_mem (by rw [List.mem_drop_iff_getElem]; exact ⟨0, by omega, rfl⟩)
    rw [← datD_get (show 0 < l.length by omega), ← datD_get (show 1 < l.length by omega)] at e
    rw [← datD_get (show 2 < l.length by omega)] at e3
    have g1 := hx0 0 (by omega) s h0 (by omega)
    have g2 := (hxl _ (datD_mem (i := 1) (by omega)) (ex (l.getD 0 nulD) s).2 (by unfold Grow at g1; omega) (by unfold Grow at g1; omega)).1
    have g3 := (hxl _ (datD_mem (i := 2) (by omega)) (ex (l.getD 1 nulD) (ex (l.getD 0 nulD) s).2).2 (by unfold Grow at g1 g2; omega) (by unfold Grow at g1 g2; omega)).1
    exact ((g1.trans g2).trans g3).mono (by omega)
   ·exact Grow.fail _ s
 rw [if_neg hk2]
 by_cases hk3 : key = kwLambda
 ·rw [if_pos hk3]
  split
  ·exact (lamM_grow (hbd 1 (Nat.le_refl _)) s h0 (by have := Datum.szs_drop l 1; omega)).mono (by have := Datum.szs_drop l 1; omega)
  ·exact Grow.fail _ s
 rw [if_neg hk3]
 by_cases hk4 : key = kwSet
 ·rw [if_pos hk4]
  split
  ·rename_i h2
   have hz := szs_getD (c := l) (i := 1) (by omega)
   exact (hx0 1 (by omega) s h0 (by omega)).mono (by omega)
  ·exact Grow.fail _ s
 rw [if_neg hk4]
 by_cases hk5 : key = kwBegin
 ·rw [if_pos hk5]
  exact (begM_grow hxl s h0 (by omega)).mono (by omega)
 rw [if_neg hk5]
 by_cases hk6 : key = kwLetrec ∨ key = kwLetrecS
 ·rw [if_pos hk6]
  split
  ·rename_i h2
   have hzd := szs_cons_drop (show 0 < l.length by omega)
   rw [datD_get (show 0 < l.length by omega)]
   exact (rec04_c b ex bd key (l[0]'(by omega)) (l.drop 1) (hp _ (List.getElem_mem _)) (by omega) (fun x h2 h3 => hx x h2 (by omega)) (hbd 1 (Nat.le_refl _)) s h0 (by omega)).1.mono (by omega)
  ·exact Grow.fail _ s
 rw [if_neg hk6]
 by_cases hk7 : key = kwLet ∨ key = kwLetS
 ·rw [if_pos hk7]
  split
  ·rename_i h2
   exact (let04_c b ex bd key l h2 hp (by omega) (fun x h2 h3 => hx x h2 (by omega)) hbd s h0 (by omega)).1.mono (by omega)
  ·exact Grow.fail _ s
 rw [if_neg hk7]
 by_cases hk8 : key = kwAnd
 ·rw [if_pos hk8]
  exact (and04_c b ex l.length (by omega) l (Nat.le_refl _) hxl s h0 (by omega)).1.mono (by omega)
 rw [if_neg hk8]
 by_cases hk9 : key = kwOr
 ·rw [if_pos hk9]
  exact (or04_c b ex l.length (by omega) l (Nat.le_refl _) hxl s h0 (by omega)).1.mono (by omega)
 rw [if_neg hk9]
 by_cases hk10 : key = kwWhen ∨ key = kwUnless
 ·rw [if_pos hk10]
  exact (when04_c b ex key hk10 l hxl (by omega) s h0 (by omega)).1.mono (by omega)
 rw [if_neg hk10]
 by_cases hk11 : key = kwCond
 ·rw [if_pos hk11]
  exact (cndM_grow b ex M hx l.length l (Nat.le_refl _) (fun x h => ⟨hp x h, by have := Datum.szs_mem h; omega⟩) s h0 (by omega)).mono (by omega)
 rw [if_neg hk11]
 by_cases hk12 : key = kwCase
 ·rw [if_pos hk12]
  split
  ·rename_i h2
   have hzd := szs_cons_drop (show 0 < l.length by omega)
   have hdl : (l.drop 1).length = l.length - 1 := List.length_drop
   have hfn : (frsM s).2.n = s.n + 1 := rfl
   have hf : Grow 1 s (frsM s).2 := Grow.frs 0 s
   have g2 := choM_grow b ex (frsM s).1 M hx (l.drop 1).length (l.drop 1) (Nat.le_refl _) (fun y h => ⟨hp y (List.mem_of_mem_drop h), by have := Datum.szs_mem (List.mem_of_mem_drop h); omega⟩) (frsM s).2 (by omega) (by omega)
   have g3 := (hxl _ (datD_mem (i := 0) (by omega)) (choM ex (frsM s).1 (l.drop 1) (frsM s).2).2 (by unfold Grow at g2; omega) (by rw [datD_get (show 0 < l.length by omega)]; unfold Grow at g2; omega)).1
   rw [datD_get (show 0 < l.length by omega)] at g3 ⊢
   exact ((hf.trans g2).trans g3).mono (by omega)
  ·exact Grow.fail _ s
 rw [if_neg hk12]
 by_cases hk13 : key = kwDo
 ·rw [if_pos hk13]
  split
  ·rename_i h2
   exact (loop04_c b ex l M hM hx h2 hp (by omega) s h0 (by omega)).1.mono (by omega)
  ·exact Grow.fail _ s
 rw [if_neg hk13]
 exact Grow.fail _ s
end Go.Cb
namespace Go.Cb
open Go.Proofs
set_option maxRecDepth 100000
set_option maxHeartbeats 40000000
theorem drExp04laa {p q : Prop} (k : q) (h : q → p := by intro hq; first | exact PDraw.sP (some 49) rfl [] [7,8] tt_ok mixed hq) : p := h k
theorem expr04_c (b : Nat) (ex : Datum → MkS → MkR) (bd : List Datum → MkS → MkR) (d : Datum) (M : Nat) (hM : M < 1000000000) (hp : d.pr = true) (hds : d.sz ≤ M + 1) (hx : ∀ x : Datum, x.pr = true → x.sz ≤ M → ExOk b ex x) (hbd : ∀ l : List Datum, (∀ x ∈ l, x.pr = true) → Datum.szs l + 1 ≤ M → BdOk b bd l) : ExOk b (expM ex bd) d := by
 intro s h0 h1
 have hL : expM ex bd d s = expM ex bd d s := rfl
 conv at hL => rhs; unfold expM; dsimp only
 have hz := Datum.its_szs hp
 have hl := Datum.szs_len d.its.1
 have hdz := d.sz_pos
 have hpl : ∀ x ∈ d.its.1, x.pr = true := fun x h => (Datum.its_lt hp h).2
 have hxl : ∀ x ∈ d.its.1, ExOk b ex x := fun x h => by have := Datum.its_lt hp h; exact hx x this.2 (by omega)
 have hne : d.kind = 6 → 0 < d.its.1.length := fun h6 => by
  rw [d.its_pair h6 (Datum.pr_two hp h6)]
  simp
 have hdr := Datum.szs_drop d.its.1 1
 have hbl : 0 < d.its.1.length → ∀ k, 1 ≤ k → BdOk b bd ((d.its.1.drop 1).drop k) := fun hn k hk => hbd _ (fun x h => hpl x (List.mem_of_mem_drop (List.mem_of_mem_drop h))) (by have := Datum.szs_drop (d.its.1.drop 1) k; have h2 := szs_cons_drop hn; have h3 := (d.its.1[0]'hn).sz_pos; omega)
 have hI := items04_c d hp (by omega)
 refine ⟨?_, ?_⟩
 ·rw [hL]
  split
  ·exact Grow.refl _ s
  split
  ·split
   ·exact Grow.fail _ s
   ·exact Grow.refl _ s
  split
  ·exact Grow.fail _ s
  split
  ·rename_i h6
   have hn := hne h6
   have hdl : (d.its.1.drop 1).length = d.its.1.length - 1 := List.length_drop
   have hzc := szs_cons_drop hn
   have hz0 := (d.its.1[0]'hn).sz_pos
   split
   ·exact Grow.fail _ s
   ·split
    ·exact (frmM_grow b ex bd _ (d.its.1.drop 1) M (by omega) hx (hbl hn) (fun x h => hpl x (List.mem_of_mem_drop h)) (by omega) s h0 (by omega)).mono (by omega)
    ·exact (allM_grow hxl s h0 (by omega)).mono (by omega)
  ·exact Grow.refl _ s
 ·generalize d.its.1 = l at *
  refine ACall.of_body tt_ok Tryz.func121 rfl rfl (n := 63) rfl rfl ?_
  conv => whnf
  repeat' (first|refine aA2 ?_|((first|(((apply zY;intro hg));(conv=>whnf);(repeat ((first|refine pC (keyD_c _) wR ?_|refine aH ?_);conv=>whnf));exact pZ)|refine pC (keyD_c _) wR ?_|refine pC (hI) wR ?_|refine pC (quoted04_c) wR ?_|refine drExp04laa ?_|intro _);conv=>whnf)|(refine zX (fun hc=>?_) (fun hc=>?_)<;>(try simp only [SY] at hc)<;>(conv=>whnf)))
  all_goals try contradiction
  ·rw [if_pos (by assumption)] at hL
   rw [hL]
   exact PRet.gen (y := .agg d.cells) (Γ' := [mkE b s]) (Wk.refl _) (And.intro rfl rfl)
  ·rw [if_neg (show ¬s.bad = true by rw [‹s.bad = false›]; simp), if_pos (by assumption), if_pos (by assumption)] at hL
   rw [hL]
   refine PCall.go (failM_c b s) (WkT.refl _) ?_
   rintro _ _ ⟨rfl, rfl⟩
   conv => whnf
   repeat' (first|refine aA2 ?_|(refine zX (fun hc=>?_) (fun hc=>?_)<;>(try simp only [SY] at hc)<;>omega))
   exact PRet.gen (y := .agg (failM s).1.cells) (Γ' := [mkE b (failM s).2]) (Wk.refl _) (And.intro rfl rfl)
  ·rw [if_neg (show ¬s.bad = true by rw [‹s.bad = false›]; simp), if_pos (by assumption), if_neg (by rw [hc]; simp)] at hL
   rw [hL]
   exact PRet.gen (y := .agg d.cells) (Γ' := [mkE b s]) (Wk.refl _) (And.intro rfl rfl)
  ·rw [if_neg (show ¬s.bad = true by rw [‹s.bad = false›]; simp), if_neg (by assumption), if_pos (by assumption)] at hL
   rw [hL]
   refine PCall.go (failM_c b s) (WkT.refl _) ?_
   rintro _ _ ⟨rfl, rfl⟩
   conv => whnf
   repeat' (first|refine aA2 ?_|(refine zX (fun hc=>?_) (fun hc=>?_)<;>(try simp only [SY] at hc)<;>omega))
   exact PRet.gen (y := .agg (failM s).1.cells) (Γ' := [mkE b (failM s).2]) (Wk.refl _) (And.intro rfl rfl)
  ·rw [if_neg (show ¬s.bad = true by rw [‹s.bad = false›]; simp), if_neg (by assumption), if_neg (by assumption), if_pos (by assumption), if_pos (by assumption)] at hL
   rw [hL]
   refine PCall.go (failM_c b s) (WkT.refl _) ?_
   rintro _ _ ⟨rfl, rfl⟩
   conv => whnf
   repeat' (first|refine aA2 ?_|(refine zX (fun hc=>?_) (fun hc=>?_)<;>(try simp only [SY] at hc)<;>omega))
   exact PRet.gen (y := .agg (failM s).1.cells) (Γ' := [mkE b (failM s).2]) (Wk.refl _) (And.intro rfl rfl)
  ·have hn := hne ‹d.kind = 6›
   have hzc := szs_cons_drop hn
   have hz0 := (l[0]'hn).sz_pos
   have hdl : (l.drop 1).length = l.length - 1 := List.length_drop
   rw [if_neg (show ¬s.bad = true by rw [‹s.bad = false›]; simp), if_neg (by assumption), if_neg (by assumption), if_pos (by assumption), if_neg (by rw [‹itemsB d = true›]; simp), datD_get hn, if_pos (by assumption)] at hL
   have hfc := form04_c b ex bd (l[0]'hn).s (l.drop 1) M (by omega) hx (hbl hn) (fun x h => hpl x (List.mem_of_mem_drop h)) (by omega) s h0 (by omega)
   generalize frmM ex bd (l[0]'hn).s (l.drop 1) s = r at *
   rw [hL]
   refine PCall.go hfc (WkT.refl _) ?_
   rintro _ _ ⟨rfl, rfl⟩
   conv => whnf
   repeat' (first|refine aA2 ?_|(refine zX (fun hc=>?_) (fun hc=>?_)<;>(try simp only [SY] at hc)<;>omega))
   exact PRet.gen (y := .agg r.1.cells) (Γ' := [mkE b r.2]) (Wk.refl _) (And.intro rfl rfl)
  ·have hn := hne ‹d.kind = 6›
   rw [if_neg (show ¬s.bad = true by rw [‹s.bad = false›]; simp), if_neg (by assumption), if_neg (by assumption), if_pos (by assumption), if_neg (by rw [‹itemsB d = true›]; simp), datD_get hn, if_neg (fun ⟨h1, h2⟩ => by
    rcases hc with h | h
    ·exact h h1
    ·rw [h2] at h; cases h)] at hL
   have hac := all04_c b ex l hxl (by omega) s h0 (by omega)
   generalize allM ex l s = r at *
   rw [hL]
   refine PCall.go hac (WkT.refl _) ?_
   rintro _ _ ⟨rfl, rfl⟩
   conv => whnf
   repeat' (first|refine aA2 ?_|((refine pC (list04_c) wR ?_);conv=>whnf)|(refine zX (fun hc=>?_) (fun hc=>?_)<;>(try simp only [SY] at hc)<;>omega))
   exact PRet.gen (y := .agg (listD r.1).cells) (Γ' := [mkE b r.2]) (Wk.refl _) (And.intro rfl rfl)
  ·rw [if_neg (show ¬s.bad = true by rw [‹s.bad = false›]; simp), if_neg (by assumption), if_neg (by assumption), if_neg (by assumption)] at hL
   rw [hL]
   exact PRet.gen (y := .agg (quotD d).cells) (Γ' := [mkE b s]) (Wk.refl _) (And.intro rfl rfl)
end Go.Cb
namespace Go.Cb
open Go.Proofs
set_option maxRecDepth 100000
set_option maxHeartbeats 4000000
def DefG (l : List Datum) (acc : List (Datum × Datum)) (s : MkS) : (List (Datum × Datum) × List Datum × MkS) ⊕ MkR → Prop
 | .inl (acc', rest, s') => ∃ j, j ≤ l.length ∧ rest = l.drop j ∧ acc'.length = acc.length + j ∧ Grow (Datum.szs (l.take j)) s s'
 | .inr r => Grow (Datum.szs l) s r.2
theorem DefG.stop (l : List Datum) (acc : List (Datum × Datum)) (s : MkS) : DefG l acc s (.inl (acc, l, s)) := ⟨0, Nat.zero_le _, rfl, rfl, Grow.refl _ s⟩
theorem DefG.fail (l : List Datum) (acc : List (Datum × Datum)) (s : MkS) : DefG l acc s (.inr (failM s)) := Grow.fail _ s
theorem DefG.next {x : Datum} {l : List Datum} {acc : List (Datum × Datum)} {p : Datum × Datum} {s s1 : MkS} {R : (List (Datum × Datum) × List Datum × MkS) ⊕ MkR} (g : Grow x.sz s s1) (h : DefG l (acc ++ [p]) s1 R) : DefG (x :: l) acc s R := by
 match R, h with
 | .inl (acc', rest, s'), ⟨j, h1, h2, h3, h4⟩ =>
  refine ⟨j + 1, by simp; omega, by rw [h2]; rfl, by rw [h3]; simp; omega, ?_⟩
  rw [List.take_succ_cons, Datum.szs]
  exact g.trans h4
 | .inr r, h =>
  show Grow (Datum.szs (x :: l)) s r.2
  rw [Datum.szs]
  exact g.trans h
theorem defM_grow (b : Nat) (ex : Datum → MkS → MkR) (bd : List Datum → MkS → MkR) (M : Nat) (hx : ∀ x : Datum, x.pr = true → x.sz ≤ M → ExOk b ex x) (hbd : ∀ l : List Datum, (∀ x ∈ l, x.pr = true) → Datum.szs l + 1 ≤ M → BdOk b bd l) :
  ∀ (l : List Datum) (acc : List (Datum × Datum)) (s : MkS), (∀ x ∈ l, x.pr = true) → Datum.szs l ≤ M → 0 ≤ s.n → s.n + Datum.szs l ≤ 1000000000000 → DefG l acc s (defM ex bd l acc s)
 | [], acc, s, _, _, _, _ => DefG.stop [] acc s
 | x :: l, acc, s, hp, hl, h0, h1 => by
  have hxp := hp x (by simp)
  rw [Datum.szs] at hl h1
  have hc := Datum.its_szs hxp
  have hcm : ∀ y ∈ x.its.1, y.pr = true := fun y hy => (Datum.its_lt hxp hy).2
  have hd2 := Datum.szs_drop x.its.1 2
  rw [defM]
  dsimp only
  split
  ·exact DefG.stop _ _ _
  split
  ·exact DefG.stop _ _ _
  split
  ·exact DefG.fail _ _ _
  split
  ·split
   ·exact DefG.fail _ _ _
   ·have g := (hbd (x.its.1.drop 2) (fun y hy => hcm y (List.mem_of_mem_drop hy)) (by omega) s h0 (by omega)).1
    refine DefG.next (g.mono (by omega)) (defM_grow b ex bd M hx hbd l _ _ (fun y hy => hp y (List.mem_cons_of_mem _ hy)) (by omega) ?_ ?_)
    ·unfold Grow at g; omega
    ·unfold Grow at g; omega
  ·split
   ·exact DefG.fail _ _ _
   ·have hz := szs_getD (c := x.its.1) (i := 2) (by omega)
    have g := (hx _ (hcm _ (datD_mem (i := 2) (by omega))) (by omega) s h0 (by omega)).1
    refine DefG.next (g.mono (by omega)) (defM_grow b ex bd M hx hbd l _ _ (fun y hy => hp y (List.mem_cons_of_mem _ hy)) (by omega) ?_ ?_)
    ·unfold Grow at g; omega
    ·unfold Grow at g; omega
theorem bdyM_grow (b : Nat) (ex : Datum → MkS → MkR) (bd : List Datum → MkS → MkR) (M : Nat) (hx : ∀ x : Datum, x.pr = true → x.sz ≤ M → ExOk b ex x) (hbd : ∀ l : List Datum, (∀ x ∈ l, x.pr = true) → Datum.szs l + 1 ≤ M → BdOk b bd l)
  (l : List Datum) (s : MkS) (hp : ∀ x ∈ l, x.pr = true) (hl : Datum.szs l ≤ M) (h0 : 0 ≤ s.n) (h1 : s.n + Datum.szs l ≤ 1000000000000) : Grow (Datum.szs l) s (bdyM ex bd l s).2 := by
 have hg := defM_grow b ex bd M hx hbd l [] s hp hl h0 h1
 unfold bdyM
 generalize defM ex bd l [] s = R at *
 match R, hg with
 | .inr r, hg => exact hg
 | .inl (acc, rest, s1), ⟨j, e1, e2, e3, g⟩ =>
  dsimp only
  have hst := Datum.szs_take_drop l j
  have hm : ∀ y ∈ rest, y.pr = true ∧ y.sz ≤ Datum.szs (l.drop j) := fun y hy => by
   rw [e2] at hy
   exact ⟨hp y (List.mem_of_mem_drop hy), Datum.szs_mem hy⟩
  have hn1 : 0 ≤ s1.n ∧ s1.n + Datum.szs (l.drop j) ≤ 1000000000000 := by unfold Grow at g; omega
  split
  ·exact (g.trans (Grow.fail 0 s1)).mono (by omega)
  ·have hr : Grow (Datum.szs (l.drop j)) s1 (if rest.length = 1 then ex (rest.getD 0 nulD) s1 else begM ex rest s1).2 := by
    split
    ·have hm0 := hm _ (datD_mem (i := 0) (show 0 < rest.length by omega))
     exact ((hx _ hm0.1 (by omega) s1 hn1.1 (by omega)).1).mono hm0.2
    ·rw [← e2]
     rw [← e2] at hn1
     exact begM_grow (fun y hy => hx y (hm y hy).1 (by have := (hm y hy).2; omega)) s1 hn1.1 hn1.2
   split
   ·exact (g.trans hr).mono (by omega)
   ·exact (g.trans hr).mono (by omega)
end Go.Cb
namespace Go.Cb
open Go.Proofs
set_option maxRecDepth 100000
set_option maxHeartbeats 40000000
theorem its_part {x c y : Datum} (hx : x.pr = true) (hc : c ∈ x.its.1) (hy : y ∈ c.l) : y.pr = true ∧ y.sz + 3 ≤ x.sz := by
 obtain ⟨h1, h2⟩ := Datum.its_lt hx hc
 have h3 := Datum.szs_mem hy
 have h4 := c.sz_eq
 exact ⟨Datum.pr_mem h2 hy, by omega⟩
theorem dfl_getD {c : List Datum} {i : Nat} (h : i < c.length) : c.getD i (Dfl.d : Datum) = c.getD i nulD := by simp [List.getD, h]
theorem defM_stop {ex : Datum → MkS → MkR} {bd : List Datum → MkS → MkR} {x : Datum} {l : List Datum} {acc : List (Datum × Datum)} {s : MkS} (hb : s.bad = false)
  (h : ((itemsB x = false ∨ (x.its.1.length : Int) = 0) ∨ ¬(x.its.1.getD 0 (Dfl.d : Datum)).kind = 2) ∨ ¬(x.its.1.getD 0 (Dfl.d : Datum)).s = [100, 101, 102, 105, 110, 101]) : defM ex bd (x :: l) acc s = .inl (acc, x :: l, s) := by
 rw [defM, if_neg (by rw [hb]; simp)]
 dsimp only
 rw [if_pos ?_]
 by_cases h0 : x.its.1 = []
 ·exact .inr (.inl h0)
 have hl : 0 < x.its.1.length := by
  rcases Nat.eq_zero_or_pos x.its.1.length with h1 | h1
  ·exact absurd (List.eq_nil_of_length_eq_zero h1) h0
  ·exact h1
 rw [dfl_getD hl] at h
 rcases h with ((h | h) | h) | h
 ·exact .inl h
 ·omega
 ·exact .inr (.inr (by unfold isKw; rw [beq_eq_false_iff_ne.2 h]; rfl))
 ·exact .inr (.inr (by unfold isKw; rw [show ((x.its.1.getD 0 nulD).s == kwDefine) = false from beq_eq_false_iff_ne.2 h]; exact Bool.and_false _))
theorem defM_go {ex : Datum → MkS → MkR} {bd : List Datum → MkS → MkR} {x : Datum} {l : List Datum} {acc : List (Datum × Datum)} {s : MkS} (hb : s.bad = false)
  (h : ((itemsB x = true ∧ ¬(x.its.1.length : Int) = 0) ∧ (x.its.1.getD 0 (Dfl.d : Datum)).kind = 2) ∧ (x.its.1.getD 0 (Dfl.d : Datum)).s = [100, 101, 102, 105, 110, 101]) : defM ex bd (x :: l) acc s =
  (let c := x.its.1
  if c.length < 3 then .inr (failM s) else
  let h := c.getD 1 nulD
  if h.kind = 6 then
   if formalsB (h.l.getD 1 nulD) = false then .inr (failM s) else
   let r := bd (c.drop 2) s
   defM ex bd l (acc ++ [(h.l.getD 0 nulD, listD [symD kwLambda, h.l.getD 1 nulD, r.1])]) r.2
  else if c.length ≠ 3 then .inr (failM s) else
   let r := ex (c.getD 2 nulD) s
   defM ex bd l (acc ++ [(h, r.1)]) r.2) := by
 have hl : 0 < x.its.1.length := by omega
 rw [dfl_getD hl] at h
 rw [defM, if_neg (by rw [hb]; simp)]
 dsimp only
 rw [if_neg]
 rintro (h1 | h1 | h1)
 ·rw [h1] at h; cases h.1.1.1
 ·rw [h1] at hl; simp at hl
 ·unfold isKw at h1
  rw [h.1.2, h.2] at h1
  exact absurd h1 (by decide)
theorem drExp04naa {p q : Prop} (k : q) (h : q → p := by intro hq; first | exact PDraw.sP (some 148) rfl [] [7] tt_ok mixed hq) : p := h k
theorem body04_c (b : Nat) (ex : Datum → MkS → MkR) (bd : List Datum → MkS → MkR) (M : Nat) (hM : M < 1000000000) (hx : ∀ x : Datum, x.pr = true → x.sz ≤ M → ExOk b ex x) (hbd : ∀ l : List Datum, (∀ x ∈ l, x.pr = true) → Datum.szs l + 1 ≤ M → BdOk b bd l)
  (l : List Datum) (hp : ∀ x ∈ l, x.pr = true) (hl : Datum.szs l ≤ M) : BdOk b (bdyM ex bd) l := by
 intro s h0 h1
 refine ⟨bdyM_grow b ex bd M hx hbd l s hp hl h0 h1, ?_⟩
 have hlen := Datum.szs_len l
 have hin : ∀ x ∈ l, x.sz ≤ M := fun x h => by have := Datum.szs_mem h; omega
 have hI : ∀ x ∈ l, x.pr = true ∧ x.sz ≤ 1000000000 := fun x h => ⟨hp x h, by have := hin x h; omega⟩
 have hF : ∀ x ∈ l, ∀ c ∈ x.its.1, ∀ y ∈ c.l, y.pr = true ∧ y.sz ≤ 1000000000 := fun x h c h2 y h3 => by
  have h4 := its_part (hp x h) h2 h3
  have h5 := hin x h
  exact ⟨h4.1, by omega⟩
 generalize hR : bdyM ex bd l s = R
 unfold bdyM at hR
 refine ACall.of_body tt_ok Tryz.func69 rfl rfl (n := 155) rfl rfl ?_
 conv => whnf
 repeat' (first|((intro _);conv=>whnf)|(refine zX (fun hc=>?_) (fun hc=>?_)<;>(try simp only [SY] at hc)<;>omega))
 rename_i b4
 refine PLoop.gh (Ghost.trans (Ghost.nil 5 24 _) (Ghost.nil 5 24 _)) ?_
 refine PLoop.overJ 0 [5, 6, 7, 8, 9, 11, 12, 13, 14, 15, 16, 17, 18, 19, 20, 21, 22, 23, 24, 25, 26, 27, 28, 29, 30, 31, 32, 33, 34, 35, 36, 37, 38, 39, 40, 41, 42, 43, 44, 45, 46, 47, 48, 49, 50, 51, 52, 53, 54, 55, 56, 57, 58, 59, 60, 61, 62, 63, 64, 65, 66, 67, 68, 69, 70, 71, 72, 73, 74, 75, 76, 77, 78, 79, 80, 81, 82, 83, 84, 85, 86, 87, 88, 89, 90, 91, 92, 93, 94, 95, 96, 97, 98, 99, 100, 101, 102, 103, 104, 105, 106, 107, 108, 109, 110, 111, 112, 113, 114, 115, 116] (fun z : Nat × List (Datum × Datum) × Tok × Tok × MkS => [(5, .sl 5 ((z.2.1.map Prod.fst).map Datum.pv) (some z.2.2.1)), (6, .sl 5 ((z.2.1.map Prod.snd).map Datum.pv) (some z.2.2.2.1)), (7, .int .i64 z.1)])
  (fun z : Nat × List (Datum × Datum) × Tok × Tok × MkS => [.tok z.2.2.1, .tok z.2.2.2.1, resE b4, mkE b z.2.2.2.2])
  (fun z => z.1 ≤ l.length ∧ z.2.1.length = z.1 ∧ z.2.2.1.e = 24 ∧ z.2.2.2.1.e = 24 ∧ (0 ≤ z.2.2.2.2.n ∧ z.2.2.2.2.n + Datum.szs (l.drop z.1) ≤ 1000000000000) ∧ defM ex bd l [] s = defM ex bd (l.drop z.1) z.2.1 z.2.2.2.2) (fun z => l.length - z.1)
  (0, [], nilTok 5 24, nilTok 5 24, s)
  (fun z : Nat × List (Datum × Datum) × Tok × Tok × MkS => [(5, .sl 5 ((z.2.1.map Prod.fst).map Datum.pv) (some z.2.2.1)), (6, .sl 5 ((z.2.1.map Prod.snd).map Datum.pv) (some z.2.2.2.1)), (7, .int .i64 z.1)])
  (fun z : Nat × List (Datum × Datum) × Tok × Tok × MkS => [.tok z.2.2.1, .tok z.2.2.2.1, resE b4, mkE b z.2.2.2.2])
  (fun z => z.1 ≤ l.length ∧ z.2.1.length = z.1 ∧ z.2.2.1.e = 24 ∧ z.2.2.2.1.e = 24 ∧ (0 ≤ z.2.2.2.2.n ∧ z.2.2.2.2.n + Datum.szs (l.drop z.1) ≤ 1000000000000) ∧ defM ex bd l [] s = .inl (z.2.1, l.drop z.1, z.2.2.2.2))
  ⟨Nat.zero_le _, rfl, rfl, rfl, ⟨h0, h1⟩, rfl⟩ wA ?_ ?_
 ·rintro ⟨k, acc, u1, u2, s1⟩ ⟨hk, hal, hu1, hu2, hn, he⟩
  dsimp only at hk hal hu1 hu2 hn he ⊢
  have hla : (acc.map Prod.fst).length = k := by rw [List.length_map, hal]
  have hlb : (acc.map Prod.snd).length = k := by rw [List.length_map, hal]
  conv => whnf
  repeat' (first|refine aA2 ?_|((first|refine pC (items04_c _ (hI _ (List.getElem_mem _)).1 (hI _ (List.getElem_mem _)).2) wR ?_|intro _);conv=>whnf)|(refine zX (fun hc=>?_) (fun hc=>?_)<;>(try simp only [SY] at hc)<;>(conv=>whnf)))
  ·obtain ⟨hkl, hbad⟩ := ‹(k : Int) < l.length ∧ s1.bad = false›
   have hlt : k < l.length := by omega
   refine loopOut (k, acc, u1, u2, s1) ⟨hk, hal, hu1, hu2, hn, ?_⟩ wA
   dsimp only
   rw [he, drop_at hlt]
   exact defM_stop hbad hc
  ·obtain ⟨hkl, hbad⟩ := ‹(k : Int) < l.length ∧ s1.bad = false›
   have hlt : k < l.length := by omega
   rw [drop_at hlt, defM_go hbad (by assumption)] at he
   dsimp only at he
   rw [if_pos (by omega)] at he
   rw [he] at hR
   dsimp only at hR
   rw [← hR]
   refine PCall.go (failM_c b s1) (WkT.refl _) ?_
   rintro _ _ ⟨rfl, rfl⟩
   conv => whnf
   repeat' (first|refine aA2 ?_|(refine zX (fun hc=>?_) (fun hc=>?_)<;>(try simp only [SY] at hc)<;>omega))
   exact PRet.gen (y := .agg (failM s1).1.cells) (Γ' := [mkE b (failM s1).2]) (Wk.refl _) (And.intro rfl rfl)
  ·obtain ⟨hkl, hbad⟩ := ‹(k : Int) < l.length ∧ s1.bad = false›
   have hlt : k < l.length := by omega
   have h1n : 1 < l[k].its.1.length := by omega
   have hxp := hp _ (List.getElem_mem hlt)
   have hm1 := Datum.its_lt hxp (List.getElem_mem h1n)
   have h2l := Datum.pr_two hm1.2 hc
   rw [drop_at hlt, defM_go hbad (by assumption)] at he
   dsimp only at he
   rw [if_neg (by omega), datD_get h1n, if_pos hc, datD_get (show 0 < (l[k].its.1[1]'h1n).l.length by omega), datD_get (show 1 < (l[k].its.1[1]'h1n).l.length by omega)] at he
   rw [drop_at hlt, Datum.szs] at hn
   have hxs := Datum.its_szs hxp
   have hd2 := Datum.szs_drop l[k].its.1 2
   have hxM := hin _ (List.getElem_mem hlt)
   conv => whnf
   repeat' (first|refine aA2 ?_|((first|refine pC (formals04_c _ (hF _ (List.getElem_mem _) _ (List.getElem_mem _) _ (List.getElem_mem _)).1 (hF _ (List.getElem_mem _) _ (List.getElem_mem _) _ (List.getElem_mem _)).2) wR ?_|intro _);conv=>whnf)|(refine zX (fun hc=>?_) (fun hc=>?_)<;>(try simp only [SY] at hc)<;>(conv=>whnf)))
   ·rw [if_pos hc] at he
    rw [he] at hR
    dsimp only at hR
    rw [← hR]
    refine PCall.go (failM_c b s1) (WkT.refl _) ?_
    rintro _ _ ⟨rfl, rfl⟩
    conv => whnf
    repeat' (first|refine aA2 ?_|(refine zX (fun hc=>?_) (fun hc=>?_)<;>(try simp only [SY] at hc)<;>omega))
    exact PRet.gen (y := .agg (failM s1).1.cells) (Γ' := [mkE b (failM s1).2]) (Wk.refl _) (And.intro rfl rfl)
   ·rw [if_neg (by rw [hc]; simp)] at he
    obtain ⟨g, hcall⟩ := hbd (l[k].its.1.drop 2) (fun y hy => (Datum.its_lt hxp (List.mem_of_mem_drop hy)).2) (by omega) s1 hn.1 (by omega)
    generalize bd (l[k].its.1.drop 2) s1 = r at *
    refine PDraw.sE [.tok u2, mkE b s1] [11,12,13,14] [15,16] tt_ok mixed ?_
    conv=>whnf
    repeat (first|refine aR2 ?_|((((apply zZ);(conv=>whnf);(repeat ((refine pC (sym04_c _) wR ?_);conv=>whnf));exact pZ));conv=>whnf))
    refine PCall.go hcall (WkT.refl _) ?_
    rintro _ _ ⟨rfl, rfl⟩
    conv => whnf
    repeat' (first|refine aA2 ?_|((first|refine pC (list04_c) wR ?_|intro _);conv=>whnf)|(refine zX (fun hc=>?_) (fun hc=>?_)<;>(try simp only [SY] at hc)<;>omega))
    have e1 : acc.map Prod.fst ++ [(l[k].its.1[1]'h1n).l[0]'(by omega)] = (acc ++ [((l[k].its.1[1]'h1n).l[0]'(by omega), listD [symD [108, 97, 109, 98, 100, 97], (l[k].its.1[1]'h1n).l[1]'(by omega), r.1])]).map Prod.fst := by simp
    have e2 : acc.map Prod.snd ++ [listD [symD [108, 97, 109, 98, 100, 97], (l[k].its.1[1]'h1n).l[1]'(by omega), r.1]] = (acc ++ [((l[k].its.1[1]'h1n).l[0]'(by omega), listD [symD [108, 97, 109, 98, 100, 97], (l[k].its.1[1]'h1n).l[1]'(by omega), r.1])]).map Prod.snd := by simp
    rw [e1, e2]
    rename_i tn htn x1 hx1 x2 hx2 tv htv
    refine loopTo (k + 1, acc ++ [((l[k].its.1[1]'h1n).l[0]'(by omega), listD [symD [108, 97, 109, 98, 100, 97], (l[k].its.1[1]'h1n).l[1]'(by omega), r.1])], tn, tv, r.2) ⟨by show k + 1 ≤ _; omega, by simp; omega, htn, htv, ⟨by unfold Grow at g; show 0 ≤ r.2.n; omega, by unfold Grow at g; show r.2.n + Datum.szs (l.drop (k + 1)) ≤ 1000000000000; omega⟩, he⟩ (by show l.length - (k + 1) < l.length - k; omega) wA
  ·obtain ⟨hkl, hbad⟩ := ‹(k : Int) < l.length ∧ s1.bad = false›
   have hlt : k < l.length := by omega
   have h1n : 1 < l[k].its.1.length := by omega
   rw [drop_at hlt, defM_go hbad (by assumption)] at he
   dsimp only at he
   rw [if_neg (by omega), datD_get h1n, if_neg (by assumption), if_pos (by omega)] at he
   rw [he] at hR
   dsimp only at hR
   rw [← hR]
   refine PCall.go (failM_c b s1) (WkT.refl _) ?_
   rintro _ _ ⟨rfl, rfl⟩
   conv => whnf
   repeat' (first|refine aA2 ?_|(refine zX (fun hc=>?_) (fun hc=>?_)<;>(try simp only [SY] at hc)<;>omega))
   exact PRet.gen (y := .agg (failM s1).1.cells) (Γ' := [mkE b (failM s1).2]) (Wk.refl _) (And.intro rfl rfl)
  ·obtain ⟨hkl, hbad⟩ := ‹(k : Int) < l.length ∧ s1.bad = false›
   have hlt : k < l.length := by omega
   have h1n : 1 < l[k].its.1.length := by omega
   have h2n : 2 < l[k].its.1.length := by omega
   have hxp := hp _ (List.getElem_mem hlt)
   have hm2 := Datum.its_lt hxp (List.getElem_mem h2n)
   have hxM := hin _ (List.getElem_mem hlt)
   rw [drop_at hlt, defM_go hbad (by assumption)] at he
   dsimp only at he
   rw [if_neg (by omega), datD_get h1n, datD_get h2n, if_neg (by assumption), if_neg (by omega)] at he
   rw [drop_at hlt, Datum.szs] at hn
   obtain ⟨g, hcall⟩ := hx _ hm2.2 (by omega) s1 hn.1 (by omega)
   generalize ex (l[k].its.1[2]'h2n) s1 = r at *
   refine PCall.go hcall (WkT.refl _) ?_
   rintro _ _ ⟨rfl, rfl⟩
   conv => whnf
   repeat' (first|refine aA2 ?_|((intro _);conv=>whnf)|(refine zX (fun hc=>?_) (fun hc=>?_)<;>(try simp only [SY] at hc)<;>omega))
   have e1 : acc.map Prod.fst ++ [l[k].its.1[1]'h1n] = (acc ++ [(l[k].its.1[1]'h1n, r.1)]).map Prod.fst := by simp
   have e2 : acc.map Prod.snd ++ [r.1] = (acc ++ [(l[k].its.1[1]'h1n, r.1)]).map Prod.snd := by simp
   rw [e1, e2]
   rename_i tn htn x2 hx2 tv htv
   refine loopTo (k + 1, acc ++ [(l[k].its.1[1]'h1n, r.1)], tn, tv, r.2) ⟨by show k + 1 ≤ _; omega, by simp; omega, htn, htv, ⟨by unfold Grow at g; show 0 ≤ r.2.n; omega, by unfold Grow at g; show r.2.n + Datum.szs (l.drop (k + 1)) ≤ 1000000000000; omega⟩, he⟩ (by show l.length - (k + 1) < l.length - k; omega) wA
  ·refine loopOut (k, acc, u1, u2, s1) ⟨hk, hal, hu1, hu2, hn, ?_⟩ wA
   dsimp only
   rw [he]
   rcases Nat.lt_or_ge k l.length with hlt | hge
   ·have hb : s1.bad = true := by
     rcases hc with h | h
     ·omega
     ·exact h
    rw [drop_at hlt, defM, if_pos hb]
   ·rw [List.drop_of_length_le hge, defM]
 ·rintro ⟨k, acc, u1, u2, s1⟩ ⟨hk, hal, hu1, hu2, hn, he⟩
  dsimp only at hk hal hu1 hu2 hn he ⊢
  rw [he] at hR
  dsimp only at hR
  have hdc := distinct04_c (acc.map Prod.fst) (by rw [List.length_map]; omega)
  have hdl : (l.drop k).length = l.length - k := List.length_drop
  conv => whnf
  repeat' (first|refine aA2 ?_|(refine zX (fun hc=>?_) (fun hc=>?_)<;>(try simp only [SY] at hc)<;>omega))
  refine pC hdc (.cons (Wk.tok _ _ _) .nil) ?_
  conv => whnf
  repeat' (first|refine aA2 ?_|((intro _);conv=>whnf)|(refine zX (fun hc=>?_) (fun hc=>?_)<;>(try simp only [SY] at hc)<;>(conv=>whnf)))
  ·rw [if_pos (by
    rcases hc with h | h
    ·exact .inl h
    ·exact .inr (List.drop_of_length_le (by omega)))] at hR
   rw [← hR]
   refine PCall.go (failM_c b s1) (WkT.refl _) ?_
   rintro _ _ ⟨rfl, rfl⟩
   conv => whnf
   repeat' (first|refine aA2 ?_|(refine zX (fun hc=>?_) (fun hc=>?_)<;>(try simp only [SY] at hc)<;>omega))
   exact PRet.gen (y := .agg (failM s1).1.cells) (Γ' := [mkE b (failM s1).2]) (Wk.refl _) (And.intro rfl rfl)
  ·have hlt : k < l.length := by omega
   have hdb := (‹distB (acc.map Prod.fst) [] = true ∧ ¬(k : Int) = l.length›).1
   rw [if_neg (by
    rintro (h | h)
    ·rw [hdb] at h; cases h
    ·rw [h] at hdl; simp at hdl; omega), if_pos (show (l.drop k).length = 1 by omega), show (l.drop k).getD 0 nulD = l[k] by rw [drop_at hlt]; rfl] at hR
   rw [drop_at hlt, Datum.szs] at hn
   obtain ⟨g, hcall⟩ := hx _ (hp _ (List.getElem_mem hlt)) (hin _ (List.getElem_mem hlt)) s1 hn.1 (by omega)
   generalize ex l[k] s1 = r at *
   refine PCall.go hcall (WkT.refl _) ?_
   rintro _ _ ⟨rfl, rfl⟩
   conv => whnf
   repeat' (first|refine aA2 ?_|((first|((apply zZ);(conv=>whnf);(repeat ((first|refine pC (sym04_c _) wR ?_|refine pC (list04_c) wR ?_|refine pC (pairs04_c acc (by omega)) (by ((repeat' (first|exact WkT.nil|apply WkT.cons|exact Wk.refl _|exact Wk.int OA|exact Wk.tt rfl|exact Wk.ff rfl|exact Wk.nil' rfl|exact Wk.tok _ _ _)); first|done|fail)) ?_);conv=>whnf));exact pZ)|refine drExp04naa ?_);conv=>whnf)|(refine zX (fun hc=>?_) (fun hc=>?_)<;>(try simp only [SY] at hc)<;>(conv=>whnf)))
   ·rw [if_pos (List.eq_nil_of_length_eq_zero (by omega))] at hR
    rw [← hR]
    exact PRet.gen (y := .agg r.1.cells) (Γ' := [mkE b r.2]) (Wk.refl _) (And.intro rfl rfl)
   ·rw [if_neg (fun h => by rw [h] at hal; simp at hal; omega)] at hR
    rw [← hR]
    exact PRet.gen (y := .agg (listD [symD kwLetrecS, pairsD acc, r.1]).cells) (Γ' := [mkE b r.2]) (Wk.refl _) (And.intro rfl rfl)
  ·have hdb := (‹distB (acc.map Prod.fst) [] = true ∧ ¬(k : Int) = l.length›).1
   rw [if_neg (by
    rintro (h | h)
    ·rw [hdb] at h; cases h
    ·rw [h] at hdl; simp at hdl; omega), if_neg (show ¬(l.drop k).length = 1 by omega)] at hR
   have hcall := begin04_c b ex (l.drop k) (fun y hy => hx y (hp y (List.mem_of_mem_drop hy)) (hin y (List.mem_of_mem_drop hy))) (by omega) s1 hn.1 (by omega)
   generalize begM ex (l.drop k) s1 = r at *
   refine PCall.go hcall (WkT.refl _) ?_
   rintro _ _ ⟨rfl, rfl⟩
   conv => whnf
   repeat' (first|refine aA2 ?_|((first|((apply zZ);(conv=>whnf);(repeat ((first|refine pC (sym04_c _) wR ?_|refine pC (list04_c) wR ?_|refine pC (pairs04_c acc (by omega)) (by ((repeat' (first|exact WkT.nil|apply WkT.cons|exact Wk.refl _|exact Wk.int OA|exact Wk.tt rfl|exact Wk.ff rfl|exact Wk.nil' rfl|exact Wk.tok _ _ _)); first|done|fail)) ?_);conv=>whnf));exact pZ)|refine drExp04naa ?_);conv=>whnf)|(refine zX (fun hc=>?_) (fun hc=>?_)<;>(try simp only [SY] at hc)<;>(conv=>whnf)))
   ·rw [if_pos (List.eq_nil_of_length_eq_zero (by omega))] at hR
    rw [← hR]
    exact PRet.gen (y := .agg r.1.cells) (Γ' := [mkE b r.2]) (Wk.refl _) (And.intro rfl rfl)
   ·rw [if_neg (fun h => by rw [h] at hal; simp at hal; omega)] at hR
    rw [← hR]
    exact PRet.gen (y := .agg (listD [symD kwLetrecS, pairsD acc, r.1]).cells) (Γ' := [mkE b r.2]) (Wk.refl _) (And.intro rfl rfl)
end Go.Cb
namespace Go.Cb
open Go.Proofs
set_option maxRecDepth 100000
set_option maxHeartbeats 4000000
theorem EF_ok (b : Nat) : ∀ m : Nat, m ≤ 900000000 → (∀ d : Datum, d.pr = true → d.sz ≤ m → ExOk b (EF m).1 d) ∧ (∀ l : List Datum, (∀ x ∈ l, x.pr = true) → Datum.szs l + 1 ≤ m → BdOk b (EF m).2 l)
 | 0, _ => ⟨fun d _ h => by have := d.sz_pos; omega, fun l _ h => by omega⟩
 | m + 1, hm => by
  have ih := EF_ok b m (by omega)
  exact ⟨fun d hp hd => expr04_c b (EF m).1 (EF m).2 d m (by omega) hp hd ih.1 ih.2, fun l hp hl => body04_c b (EF m).1 (EF m).2 m (by omega) ih.1 ih.2 l hp (by omega)⟩
theorem rightDs_mem : ∀ {l : List Datum} {k : Int}, Datum.rightDs l k = true → ∀ x ∈ l, x.rightD k = true
 | [], _, _, x, hx => by cases hx
 | y :: l, k, h, x, hx => by
  rw [Datum.rightDs, Bool.and_eq_true] at h
  rcases List.mem_cons.1 hx with rfl | hx
  ·exact h.1
  ·exact rightDs_mem h.2 x hx
theorem rightD_name {d : Datum} {k : Int} (h : d.rightD k = true) (hk : d.kind = 2) : d.s.length ≤ 40 := by
 rw [Datum.rightD_eq, Bool.and_eq_true] at h
 have h1 := h.1
 unfold bareBad at h1
 simp only [Bool.not_eq_true', Bool.or_eq_false_iff] at h1
 have h2 := h1.1.1.2.1
 rw [hk] at h2
 simp [nameB] at h2
 exact h2.2.1
theorem marked04_c (d : Datum) : (∃ k : Int, d.rightD k = true) → ACallP Tryz.prog 68 [.agg d.cells] (.bool d.mkd) := by
 induction d using Datum.ind with
 | h d ih =>
  rintro ⟨kk, hr⟩
  have hnm := fun hk => rightD_name hr hk
  have hch : ∀ x ∈ d.l, ∃ k : Int, x.rightD k = true := fun x hx => by
   rw [Datum.rightD_eq, Bool.and_eq_true] at hr
   exact ⟨kk + 1, rightDs_mem hr.2 x hx⟩
  rw [Datum.mkd_eq]
  refine ACall.of_body tt_ok Tryz.func68 rfl rfl (n := 35) rfl rfl ?_
  conv => whnf
  repeat (((intro _);conv=>whnf))
  rename_i b1
  refine PLoop.keep [2, 3, 5, 6, 7, 8, 9, 10, 11, 12, 13, 14, 15, 16, 17, 18, 19, 20, 21] (fun i : Nat => [(3, .int .i64 i)]) (fun i => i ≤ d.s.length ∧ (d.kind = 2 → (d.s.drop i).contains 37 = d.s.contains 37)) (fun i => d.s.length - i) 0 ⟨by omega, fun _ => rfl⟩ wA ?_
  rintro i ⟨hi, he⟩
  conv => whnf
  repeat' (first|refine aA2 ?_|(refine zX (fun hc=>?_) (fun hc=>?_)<;>(try simp only [SY] at hc)<;>(conv=>whnf)))
  ·have hk := (‹d.kind = 2 ∧ (i : Int) < d.s.length›).1
   have hlt : i < d.s.length := by omega
   have hb : d.s.getD i 0 = 37 := by
    have h37 : ((37 : UInt8).toNat : Int) = 37 := rfl
    exact UInt8.toNat_inj.1 (by omega)
   have hcn : d.s.contains 37 = true := by
    rw [← he hk, drop_getD hlt, List.contains_cons, hb]
    rfl
   rw [hk, hcn]
   exact PRet.pure (Wk.tt rfl)
  ·have hk := (‹d.kind = 2 ∧ (i : Int) < d.s.length›).1
   have hlt : i < d.s.length := by omega
   have hb : ¬d.s.getD i 0 = 37 := fun h => by rw [h] at hc; exact hc rfl
   have hnm2 := hnm hk
   conv => whnf
   skip
   refine loopTo (i + 1) ⟨by omega, fun _ => ?_⟩ (by show d.s.length - (i + 1) < d.s.length - i; omega) wA
   rw [← he hk]
   conv => rhs; rw [drop_getD hlt, List.contains_cons]
   rw [show ((37 : UInt8) == d.s.getD i 0) = false from beq_eq_false_iff_ne.2 (fun h => hb h.symm), Bool.false_or]
  ·have hne : (d.kind == 2 && d.s.contains 37) = false := by
    rcases hc with h | h
    ·rw [show (d.kind == 2) = false from beq_eq_false_iff_ne.2 h]; rfl
    ·by_cases hk : d.kind = 2
     ·rw [← he hk, List.drop_of_length_le (by omega)]; simp
     ·rw [show (d.kind == 2) = false from beq_eq_false_iff_ne.2 hk]; rfl
   rw [hne, Bool.false_or]
   refine PLoop.keep [2, 4, 22, 23, 24, 25, 26, 27, 28, 29, 30, 31, 32, 33, 34] (fun j : Nat => [(4, .int .i64 j)]) (fun j => j ≤ d.l.length ∧ Datum.mkds (d.l.drop j) = Datum.mkds d.l) (fun j => d.l.length - j) 0 ⟨by omega, rfl⟩ wA ?_
   rintro j ⟨hj, he2⟩
   conv => whnf
   repeat' (first|refine aA2 ?_|((first|refine pC (ih _ (List.getElem_mem _) (hch _ (List.getElem_mem _))) wR ?_|intro _);conv=>whnf)|(refine zX (fun hc=>?_) (fun hc=>?_)<;>(try simp only [SY] at hc)<;>(conv=>whnf)))
   ·have hlt : j < d.l.length := by omega
    rw [drop_at hlt, Datum.mkds, hc, Bool.true_or] at he2
    exact PRet.pure (Wk.tt he2.symm)
   ·have hlt : j < d.l.length := by omega
    rw [drop_at hlt, Datum.mkds, hc, Bool.false_or] at he2
    exact loopTo (j + 1) ⟨by omega, he2⟩ (by show d.l.length - (j + 1) < d.l.length - j; omega) wA
   ·rw [List.drop_of_length_le (by omega), Datum.mkds] at he2
    exact PRet.pure (Wk.ff he2.symm)
theorem expand04_c (l : List Datum) (hs : Datum.szs l ≤ 800000000) : ACallP Tryz.prog 35 [.sl 5 (l.map Datum.pv) none] (expUP l) := by
 have hlen := Datum.szs_len l
 have hU : expU l = expU l := rfl
 conv at hU => rhs; unfold expU
 unfold expUP
 generalize expU l = R at *
 refine ACall.of_body tt_ok Tryz.func35 rfl rfl (n := 43) rfl rfl ?_
 conv => whnf
 repeat' (first|((intro _);conv=>whnf)|(refine zX (fun hc=>?_) (fun hc=>?_)<;>(try simp only [SY] at hc)<;>omega))
 rename_i b2
 refine PLoop.keep [3, 4, 7, 8, 9, 10, 11, 12, 13, 14, 15, 16, 17, 18, 19, 20, 21, 22, 23, 24, 25, 26] (fun i : Nat => [(4, .int .i64 i)]) (fun i => i ≤ l.length ∧ (l.drop i).any (fun d => !d.rightD 0 || d.mkd) = l.any (fun d => !d.rightD 0 || d.mkd)) (fun i => l.length - i) 0 ⟨by omega, rfl⟩ wA ?_
 rintro i ⟨hi, he⟩
 conv => whnf
 repeat' (first|refine aA2 ?_|((first|(((apply zY;intro hg));(conv=>whnf);(repeat ((first|refine pC (marked04_c _ ⟨0, by simpa using hg⟩) wR ?_|refine aH ?_);conv=>whnf));exact pZ)|refine pC (right2D_c _) wR ?_|intro _);conv=>whnf)|(refine zX (fun hc=>?_) (fun hc=>?_)<;>(try simp only [SY] at hc)<;>(conv=>whnf)))
 ·have hlt : i < l.length := by omega
  have hb : (!l[i].rightD 0 || l[i].mkd) = true := by
   rcases hc with h | h
   ·rw [h]; rfl
   ·rw [h]; exact Bool.or_true _
  rw [drop_at hlt, List.any_cons, hb, Bool.true_or] at he
  rw [if_pos he.symm] at hU
  rw [hU]
  exact PRet.pure wA
 ·have hlt : i < l.length := by omega
  rw [drop_at hlt, List.any_cons, hc.1, hc.2] at he
  exact loopTo (i + 1) ⟨by omega, he⟩ (by show l.length - (i + 1) < l.length - i; omega) wA
 ·rename_i b5
  rw [List.drop_of_length_le (by omega), List.any_nil] at he
  rw [if_neg (by rw [← he]; simp)] at hU
  have hpr : ∀ x ∈ l, x.pr = true := fun x hx => by
   have h1 := he.symm
   rw [List.any_eq_false] at h1
   have h2 := h1 x hx
   simp at h2
   exact rightD_pr x 0 h2.1
  obtain ⟨g, hcall⟩ := (EF_ok b5 (Datum.szs l + 1) (by omega)).2 l hpr (Nat.le_refl _) ⟨0, false⟩ (Int.le_refl _) (by show (0 : Int) + _ ≤ _; omega)
  generalize (EF (Datum.szs l + 1)).2 l ⟨0, false⟩ = r at *
  refine PCall.goG (Ghost.box (b := b5) (cs := [.int .i64 0, .bfalse]) (cs' := [.int .i64 0, .bool false]) (.cons (Wk.refl _) (.cons (Wk.ff rfl) .nil))) hcall (WkT.refl _) ?_
  rintro _ _ ⟨rfl, rfl⟩
  conv => whnf
  repeat' (first|refine aA2 ?_|((first|(((apply zY;intro hg));(conv=>whnf);(repeat ((first|refine pC (right2D_c _) wR ?_|refine aH ?_);conv=>whnf));exact pZ)|intro _);conv=>whnf)|(refine zX (fun hc=>?_) (fun hc=>?_)<;>(try simp only [SY] at hc)<;>(conv=>whnf)))
  ·rw [if_pos hc] at hU
   rw [hU]
   exact PRet.pure wA
  ·rw [if_neg (by rw [hc.1, hc.2]; simp)] at hU
   rw [hU]
   exact PRet.pure (Wk.refl _)
end Go.Cb
namespace Go.Cb
open Go.Proofs
set_option maxRecDepth 100000
set_option maxHeartbeats 4000000
theorem listD_sz : ∀ (l : List Datum) (e : Datum), (l.foldr pairD e).sz = l.length + Datum.szs l + e.sz
 | [], e => by simp [Datum.szs]
 | x :: l, e => by
  rw [List.foldr_cons, Datum.sz_eq]
  show 1 + Datum.szs [x, l.foldr pairD e] = _
  rw [Datum.szs, Datum.szs, Datum.szs, listD_sz l e, Datum.szs, List.length_cons]
  omega
def FitR (k : Nat) (r : RdR) : Prop := r.2.2 = -1 → r.1.sz + 1 + 5 * k ≤ 5 * r.2.1
def FitL (k : Nat) (l : List Datum) (e : Datum) (r : (List Datum × Datum) × Nat × Int) : Prop := r.2.2 = -1 → r.1.1.length + Datum.szs r.1.1 + r.1.2.sz + 5 + 5 * k ≤ 5 * r.2.1 + l.length + Datum.szs l + e.sz
theorem FitR.no {k j i : Nat} {d : Datum} : FitR k (d, j, (i : Int)) := fun h => by have h' : (i : Int) = -1 := h; omega
theorem FitL.no {k j i : Nat} {l : List Datum} {e : Datum} {x : List Datum × Datum} : FitL k l e (x, j, (i : Int)) := fun h => by have h' : (i : Int) = -1 := h; omega
theorem RF_fit (s : List UInt8) : ∀ n, (∀ k, k ≤ s.length → FitR k ((RF s n).1 k)) ∧ ∀ pair k l e, k ≤ s.length → FitL k l e ((RF s n).2 pair k l e)
 | 0 => ⟨fun k h => .no, fun pair k l e h => .no⟩
 | n + 1 => by
  obtain ⟨h1, h2⟩ := RF_fit s n
  obtain ⟨p1, p2⟩ := RF_pos s n
  constructor
  ·intro k hk
   rw [RF]
   dsimp only
   have hn : k ≤ nxtF s k ∧ nxtF s k ≤ s.length := nextF_le s (s.length + 1) k hk
   generalize nxtF s k = k' at *
   split
   ·exact .no
   have hl : k' < s.length := by omega
   have hb : byteF s k' = s.getD k' 0 := if_pos hl
   rw [hb]
   split
   ·rename_i hm
    intro h
    have hw := wordF_ok hl hm
    rcases hw.2 with ⟨_, hw⟩ | hw
    ·have : (wordF s k').1.sz = 1 := by unfold wordF; dsimp only; split; rfl; split <;> rfl
     omega
    ·omega
   split
   ·intro h
    have hw := textF_ok hl
    rcases hw.2 with ⟨_, hw⟩ | hw
    ·have : (textF s k').1.sz = 1 := by unfold textF; dsimp only; split <;> rfl
     omega
    ·omega
   split
   ·intro h
    have := h1 (k' + 1) (by omega) h
    show (List.foldr pairD nulD [symD [113, 117, 111, 116, 101], ((RF s n).1 (k' + 1)).1]).sz + 1 + 5 * k ≤ 5 * ((RF s n).1 (k' + 1)).2.1
    rw [listD_sz]
    simp only [Datum.szs, List.length_cons, List.length_nil, Datum.sz]
    omega
   split
   ·split
    ·exact .no
    split
    ·intro _; show 1 + 0 + 1 + 5 * k ≤ 5 * (k' + 2); omega
    split
    ·intro _; show 1 + 0 + 1 + 5 * k ≤ 5 * (k' + 2); omega
    split
    ·intro _; show 1 + 0 + 1 + 5 * k ≤ 5 * (k' + 2); omega
    split
    ·rename_i h4 h5 h6 h7 h8
     intro h
     have := h2 false (k' + 2) [] nulD (by omega) h
     show 1 + Datum.szs ((RF s n).2 false (k' + 2) [] nulD).1.1 + 1 + 5 * k ≤ 5 * ((RF s n).2 false (k' + 2) [] nulD).2.1
     simp only [Datum.szs, List.length_nil, Datum.sz] at this
     omega
    ·exact .no
   split
   ·intro h
    have := h2 true (k' + 1) [] nulD (by omega) h
    show (List.foldr pairD ((RF s n).2 true (k' + 1) [] nulD).1.2 ((RF s n).2 true (k' + 1) [] nulD).1.1).sz + 1 + 5 * k ≤ 5 * ((RF s n).2 true (k' + 1) [] nulD).2.1
    rw [listD_sz]
    simp only [Datum.szs, List.length_nil, Datum.sz] at this
    omega
   ·exact .no
  ·intro pair k l e hk
   rw [RF]
   dsimp only
   have hn : k ≤ nxtF s k ∧ nxtF s k ≤ s.length := nextF_le s (s.length + 1) k hk
   generalize nxtF s k = k' at *
   have hb : byteF s k' ≠ 0 → k' < s.length := fun h => by
    unfold byteF at h
    split at h
    ·assumption
    ·exact absurd rfl h
   split
   ·intro _
    show l.length + Datum.szs l + e.sz + 5 + 5 * k ≤ 5 * (k' + 1) + l.length + Datum.szs l + e.sz
    omega
   split
   ·rename_i h
    have := hb (by rw [h.1]; decide)
    have h3 := p1 (k' + 1) (by omega)
    have h4 := h1 (k' + 1) (by omega)
    split
    ·have h5 : ((RF s n).1 (k' + 1)).2.1 ≤ nxtF s ((RF s n).1 (k' + 1)).2.1 ∧ nxtF s ((RF s n).1 (k' + 1)).2.1 ≤ s.length := nextF_le s (s.length + 1) _ h3.1
     split
     ·intro hr
      have h6 := h2 pair _ l ((RF s n).1 (k' + 1)).1 h5.2 hr
      have h7 := h4 (by rcases h3.2 with h | h; exact h.1; omega)
      have h8 := e.sz_pos
      omega
     ·exact .no
    ·intro h
     exact absurd h (by show ¬((RF s n).1 (k' + 1)).2.2 = -1; omega)
   ·have h3 := p1 k' hn.2
    have h4 := h1 k' hn.2
    split
    ·intro hr
     have h6 := h2 pair _ (l ++ [((RF s n).1 k').1]) e h3.1 hr
     have h7 := h4 (by rcases h3.2 with h | h; exact h.1; omega)
     rw [List.length_append, Datum.szs_append, List.length_singleton, Datum.szs, Datum.szs] at h6
     omega
    ·intro h
     exact absurd h (by show ¬((RF s n).1 k').2.2 = -1; omega)
theorem topF_fit (s : List UInt8) : ∀ (n k : Nat) (l : List Datum), k ≤ s.length → Datum.szs l ≤ 5 * k → (∀ x ∈ l, x.rightD 0 = true) → (topF s n k l).2.2 = 0 → Datum.szs (topF s n k l).1 ≤ 5 * s.length ∧ ∀ x ∈ (topF s n k l).1, x.rightD 0 = true
 | 0, k, l, _, _, _, h => by rw [topF] at h; simp at h
 | n + 1, k, l, hk, hl, hr, h => by
  have hn : k ≤ nxtF s k ∧ nxtF s k ≤ s.length := nextF_le s (s.length + 1) k hk
  rw [topF] at h ⊢
  dsimp only at h ⊢
  generalize nxtF s k = k' at *
  split at h
  ·rename_i he
   rw [if_pos he]
   exact ⟨by show Datum.szs l ≤ _; omega, hr⟩
  ·rename_i he
   rw [if_neg he]
   have h3 := (RF_pos s (rdN s)).1 k' hn.2
   have h4 := (RF_fit s (rdN s)).1 k' hn.2
   split at h
   ·rename_i hb
    rw [if_pos hb]
    split at h
    ·rename_i hrt
     rw [if_pos hrt]
     have h5 := h4 (by rcases h3.2 with h | h; exact h.1; omega)
     refine topF_fit s n _ _ h3.1 ?_ ?_ h
     ·rw [Datum.szs_append, Datum.szs, Datum.szs]; omega
     ·intro x hx
      rcases List.mem_append.1 hx with hx | hx
      ·exact hr x hx
      ·rw [List.mem_singleton] at hx; rw [hx]; exact hrt
    ·simp at h
   ·simp at h
theorem readT_fit {s : List UInt8} (h : (readT s).2.2 = 0) : Datum.szs (readT s).1 ≤ 5 * s.length ∧ ∀ x ∈ (readT s).1, x.rightD 0 = true := by
 unfold readT at h ⊢
 split at h
 ·simp at h
 ·rename_i hs
  rw [if_neg hs]
  exact topF_fit s _ 0 [] (Nat.zero_le _) (by simp [Datum.szs]) (by simp) h
end Go.Cb
namespace Go.Cb
open Go.Proofs
set_option maxRecDepth 100000
set_option maxHeartbeats 4000000
def corT (s : List UInt8) : Datum × Bool := if (readT s).2.2 = 0 then ((expU (readT s).1).1, (expU (readT s).1).2 == 0) else (zerD, false)
theorem core07_c (s : List UInt8) (hs : s.length ≤ 100000) : ACallP Tryz.prog 14 [.str s] (.tup [.agg (corT s).1.cells, .bool (corT s).2]) := by
 have hr := read03_c s
 unfold readTP at hr
 unfold corT
 by_cases h : (readT s).2.2 = 0
 ·have hx := expand04_c (readT s).1 (by have := (readT_fit h).1; omega)
  unfold expUP at hx
  rw [if_pos h]
  generalize expU (readT s).1 = E at *
  generalize readT s = R at *
  refine ACall.of_body tt_ok Tryz.func14 rfl rfl (n := 25) rfl rfl ?_
  conv => whnf
  repeat' (first|refine aA2 ?_|((first|refine pC (hr) wR ?_|refine pC (hx) wR ?_|intro _);conv=>whnf)|(refine zX (fun hc=>?_) (fun hc=>?_)<;>(try simp only [SY] at hc)<;>first|omega|(conv=>whnf)))
  all_goals try exact absurd h (by assumption)
  exact PRet.pure (Wk.refl _)
 ·rw [if_neg h]
  generalize readT s = R at *
  refine ACall.of_body tt_ok Tryz.func14 rfl rfl (n := 25) rfl rfl ?_
  conv => whnf
  repeat' (first|refine aA2 ?_|((first|refine pC (hr) wR ?_|intro _);conv=>whnf)|(refine zX (fun hc=>?_) (fun hc=>?_)<;>(try simp only [SY] at hc)<;>first|omega|(conv=>whnf)))
  all_goals try exact absurd (by assumption) h
  exact PRet.pure wA
abbrev awS : List UInt8 := [40, 40, 108, 97, 109, 98, 100, 97, 32, 40, 120, 41, 32, 40, 43, 32, 120, 32, 49, 41, 41, 32, 50, 41]
def awD : Bool := (corT awS).1.sz ≤ 1000 && (resF rkD (-1) (corT awS).1).e == 0 && (resF rkD (-1) (corT awS).1).p.consts.length == 2 && (resF rkD (-1) (corT awS).1).p.body.op == 5 && (resF rkD (-1) (corT awS).1).p.body.t.map Trm.op == [4, 0]
theorem aw_ok : awD = true := by kernel_rfl
theorem awake07_c : ACallP Tryz.prog 9 [] (.bool true) := by
 have hcore := core07_c awS (by decide)
 have hok := aw_ok
 unfold awD at hok
 generalize (corT awS) = C at *
 obtain ⟨D, w⟩ := C
 dsimp only at hok hcore
 simp only [Bool.and_eq_true, beq_iff_eq, decide_eq_true_eq] at hok
 obtain ⟨⟨⟨⟨h1, h2⟩, h3⟩, h4⟩, h5⟩ := hok
 have hR := resolveP_d D (by omega)
 unfold resPV at hR
 generalize resF rkD (-1) D = O at *
 refine ACall.of_body tt_ok Tryz.func9 rfl rfl (n := 44) rfl rfl ?_
 conv => whnf
 repeat' (first|refine aA2 ?_|((first|refine pC (hcore) wR ?_|refine pC (hR) wR ?_|intro _);conv=>whnf)|(refine zX (fun hc=>?_) (fun hc=>?_)<;>(try simp only [SY] at hc)<;>omega))
 have hb : (O.e == 0 && (O.p.consts.length : Int) == 2 && O.p.body.op == 5 && (O.p.body.t.length : Int) == 2 && (O.p.body.t.getD 0 (Dfl.d : Trm)).op == 4) = true := by
  rw [h2, h3, h4]
  generalize O.p.body.t = T at *
  rcases T with _ | ⟨a, _ | ⟨b, _ | ⟨c, T⟩⟩⟩
  ·simp at h5
  ·simp at h5
  ·simp at h5
   simp [h5.1]
  ·simp at h5
 rw [hb]
 exact PRet.pure (Wk.refl _)
end Go.Cb
namespace Go.Cb
open Go.Proofs
set_option maxRecDepth 100000
set_option maxHeartbeats 4000000
mutual
theorem Datum.few_sz : ∀ (d : Datum) (n : Int), 0 ≤ d.few n → (d.sz : Int) + d.few n = n
 | .mk _ _ _ _ l, n, h => by
  rw [Datum.few] at h ⊢
  rw [Datum.sz]
  have := Datum.fews_sz l (n - 1) h
  omega
theorem Datum.fews_sz : ∀ (l : List Datum) (n : Int), 0 ≤ Datum.fews l n → (Datum.szs l : Int) + Datum.fews l n = n
 | [], n, h => by rw [Datum.szs, Datum.fews]; omega
 | x :: xs, n, h => by
  rw [Datum.fews] at h ⊢
  rw [Datum.szs]
  split at h
  ·rename_i hn
   rw [if_pos hn]
   have h2 := Datum.fews_sz xs (x.few n) h
   have := Datum.few_sz x n (by omega)
   omega
  ·omega
end
end Go.Cb
namespace Go.Cb
open Go.Proofs
set_option maxRecDepth 100000
set_option maxHeartbeats 4000000
theorem resF_good {ok : Prog → Bool} {nf : Int} {d : Datum} (h : (resF ok nf d).e = 0) : coreD d = true ∧ (TF nf d.sz d [] ⟨[], 0, false⟩).2.lost = false ∧
  (resF ok nf d).p = ⟨(TF nf d.sz d [] ⟨[], 0, false⟩).2.cs, (TF nf d.sz d [] ⟨[], 0, false⟩).1⟩ ∧ ok (resF ok nf d).p = true := by
 unfold resF at h ⊢
 dsimp only at h ⊢
 by_cases h1 : coreD d = false
 ·rw [if_pos h1] at h; cases h
 by_cases h2 : (TF nf d.sz d [] ⟨[], 0, false⟩).2.lost = true
 ·rw [if_neg h1, if_pos h2] at h; cases h
 by_cases h3 : ok ⟨(TF nf d.sz d [] ⟨[], 0, false⟩).2.cs, (TF nf d.sz d [] ⟨[], 0, false⟩).1⟩ = false
 ·rw [if_neg h1, if_neg h2, if_pos h3] at h; cases h
 rw [if_neg h1, if_neg h2, if_neg h3]
 exact ⟨by simpa using h1, by simpa using h2, rfl, by simpa using h3⟩
def lamD (d : Datum) : Datum := listD [symD kwLambda, listD [symD [120], symD [121], symD [102], symD [107]], d]
theorem lamD_TF (nf : Int) (n : Nat) (d : Datum) (s : RsS) : TF nf (n + 1) (lamD d) [] s =
  (let r := allR (TF nf n) [d] (bndE [] s.vars [[120], [121], [102], [107]]) ⟨s.cs, s.vars + 4, s.lost⟩
  (.mk 4 0 (upE s.vars 4) r.1, r.2)) := by
 have e1 : (lamD d).kind = 6 := rfl
 have e2 : (lamD d).its.1 = [symD kwLambda, listD [symD [120], symD [121], symD [102], symD [107]], d] := by rw [lamD, its_list]
 have e3 : (listD [symD [120], symD [121], symD [102], symD [107]]).its = ([symD [120], symD [121], symD [102], symD [107]], nulD) := its_list _
 rw [TF, e1, e2]
 have e0 : ([symD kwLambda, listD [symD [120], symD [121], symD [102], symD [107]], d].getD 0 nulD) = symD kwLambda := rfl
 dsimp only
 rw [e0, if_neg (by decide), if_pos ⟨rfl, rfl⟩, if_neg (by decide), if_neg (by decide), if_neg (by decide), if_pos (show (symD kwLambda).s = kwLambda from rfl)]
 have e4 : formalsL (listD [symD [120], symD [121], symD [102], symD [107]]) = [symD [120], symD [121], symD [102], symD [107]] := by rw [formalsL, e3]; rfl
 dsimp only [List.getD, List.getElem?_cons_succ, List.getElem?_cons_zero, Option.getD_some]
 have e5 : (listD [symD [120], symD [121], symD [102], symD [107]]).its.2.kind = 4 := by rw [e3]; rfl
 rw [e4]
 simp only [e5, ↓reduceIte]
 rfl
theorem lamD_sz (d : Datum) : ∃ n, (lamD d).sz = n + 1 ∧ d.sz ≤ n := by
 refine ⟨(lamD d).sz - 1, by have := (lamD d).sz_pos; omega, ?_⟩
 unfold lamD
 rw [listD_szE]
 simp only [Datum.szs, List.length_cons]
 omega
theorem resF_free {ok : Prog → Bool} {nf : Int} {d : Datum} (hp : d.rightD 0 = true → d.pr = true) (h : (resF ok nf d).e = 0) : ¬(resF ok nf (lamD d)).e = 4 := by
 obtain ⟨hc, hl, _, _⟩ := resF_good h
 obtain ⟨n, hn, hd⟩ := lamD_sz d
 have hpr : d.pr = true := hp (by unfold coreD at hc; simp at hc; exact hc.1)
 unfold resF
 dsimp only
 split
 ·decide
 split
 ·rename_i h1
  exfalso
  rw [hn, lamD_TF] at h1
  have h2 : (TF nf n d (bndE [] 0 [[120], [121], [102], [107]]) ⟨[], 4, false⟩).2.lost = true := h1
  rw [TF_fuel nf n d.sz d _ _ hpr hd (Nat.le_refl _)] at h2
  have h3 := TF_more nf d.sz d [] _ ⟨[], 0, false⟩ ⟨[], 4, false⟩ (Dom.nil _) (fun h => h) h2
  rw [hl] at h3
  cases h3
 split
 ·decide
 ·exact (by decide : ¬(0 : Int) = 4)
theorem resF_lam {ok : Prog → Bool} {nf : Int} {d : Datum} (h : (resF ok nf (lamD d)).e = 0) : ∃ l, (resF ok nf (lamD d)).p.body = .mk 4 0 [0, 1, 2, 3] l := by
 obtain ⟨n, hn, _⟩ := lamD_sz d
 rw [(resF_good h).2.2.1, hn, lamD_TF]
 exact ⟨_, rfl⟩
end Go.Cb
namespace Go.Cb
open Go.Proofs
set_option maxRecDepth 100000
set_option maxHeartbeats 4000000
theorem sym07_c (s : List UInt8) : ACallP Tryz.prog 19 [.str s] (.agg (symD s).cells) := by
 refine ACall.of_body tt_ok Tryz.func19 rfl rfl (n := 5) rfl rfl ?_
 conv => whnf
 repeat' (first|refine aA2 ?_|((intro _);conv=>whnf)|(refine zX (fun hc=>?_) (fun hc=>?_)<;>(try simp only [SY] at hc)<;>omega))
 exact PRet.pure DatOf.wk
theorem list02_e {x : PV} {l : List Datum} [h : SlOf Datum.pv 5 x l] : ACallP Tryz.prog 18 [x] (.agg (listD l).cells) :=
 ACall.wk (args' := [.sl 5 (l.map Datum.pv) none]) (list02_c l) (.cons h.wk .nil)
theorem drScw07caa {p q : Prop} (k : q) (h : q → p := by intro hq; first | exact PDraw.sP (some 41) rfl [9,10] [11] tt_ok mixed hq) : p := h k
theorem scopeFree_c (s : List UInt8) : ACallP Tryz.prog 7 [.str s] (.bool true) := by
 by_cases hs : s.length ≤ 400
 ·have hcore := core07_c s (by omega)
  generalize corT s = C at *
  obtain ⟨d, w⟩ := C
  dsimp only at hcore
  have hfew := FewDatum_c d 1000 (by omega) (by omega)
  by_cases hf : 0 ≤ d.few 1000
  ·have hz := d.few_sz 1000 hf
   have hP := resolveP_d d (by omega)
   have hQ := resolveP_d (lamD d) (by unfold lamD; rw [listD_szE]; simp only [Datum.szs, List.length_cons, List.length_nil, listD_szE, symD, Datum.sz]; omega)
   have h1 := resF_free (ok := rkD) (nf := -1) (d := d) (rightD_pr d 0)
   have h2 := resF_lam (ok := rkD) (nf := -1) (d := d)
   unfold resPV at hP hQ
   generalize resF rkD (-1) d = O at *
   generalize resF rkD (-1) (lamD d) = Q at *
   unfold lamD at hQ
   refine ACall.of_body tt_ok Tryz.func7 rfl rfl (n := 81) rfl rfl ?_
   conv => whnf
   repeat' (first|refine aA2 ?_|((first|((first|(apply zY;intro hg)|apply zZ);(conv=>whnf);(repeat ((first|refine pC (hfew) wR ?_|refine pC (sym07_c _) wR ?_|refine pC (list02_e) wR ?_|refine pC (hQ) wR ?_|refine aH ?_);conv=>whnf));exact pZ)|refine pC (awake07_c) wR ?_|refine pC (hcore) wR ?_|refine pC (sym07_c _) wR ?_|refine pC (list02_e) wR ?_|refine pC (hP) wR ?_|refine drScw07caa ?_|intro _);conv=>whnf)|(refine zX (fun hc=>?_) (fun hc=>?_)<;>(try simp only [SY] at hc)<;>first|omega|(conv=>whnf)))
   ·exact PRet.pure (Wk.refl _)
   ·refine PRet.pure (Wk.bool ?_)
    by_cases hq : Q.e = 0
    ·obtain ⟨l, hl⟩ := h2 hq
     rw [hl, hq]
     rfl
    ·simp [hq]
  ·have hf2 := hf
   refine ACall.of_body tt_ok Tryz.func7 rfl rfl (n := 81) rfl rfl ?_
   conv => whnf
   repeat' (first|refine aA2 ?_|((first|(((apply zY;intro hg));(conv=>whnf);(repeat ((first|refine pC (hfew) wR ?_|refine aH ?_);conv=>whnf));exact pZ)|refine pC (awake07_c) wR ?_|refine pC (hcore) wR ?_|intro _);conv=>whnf)|(refine zX (fun hc=>?_) (fun hc=>?_)<;>(try simp only [SY] at hc)<;>first|omega|(conv=>whnf)))
   all_goals first | (exfalso; omega) | exact PRet.pure (Wk.refl _) | exact PRet.pure (Wk.bool (by simp))
 ·have hs2 := hs
  refine ACall.of_body tt_ok Tryz.func7 rfl rfl (n := 81) rfl rfl ?_
  conv => whnf
  repeat' (first|((first|refine pC (awake07_c) wR ?_|intro _);conv=>whnf)|(refine zX (fun hc=>?_) (fun hc=>?_)<;>(try simp only [SY] at hc)<;>first|omega|(conv=>whnf)))
  all_goals first | (exfalso; omega) | exact PRet.pure (Wk.refl _) | exact PRet.pure (Wk.bool (by simp))
end Go.Cb
namespace Go.Cb
open Go.RowKit (Below)
open Go.ChangeShapes
def Fz.of (w : World) : Fz := fun b o => w.cell? ⟨b, o, none⟩
theorem Sim.start (w : World) : Sim w (Fz.of w) [] w := ⟨Below.refl _ w, fun _ _ _ h => h, by simp, .nil⟩
section
variable {H : Type} {enc : TypeId × Value → H} {P : Program} {w : World} {UB : DataW H → Nat} {UBs : List (DataW H) → Nat}
structure Bulk (UB : DataW H → Nat) (UBs : List (DataW H) → Nat) : Prop where
 nil : UBs [] = 0
 cons : ∀ x l, UBs (x :: l) = UB x + UBs l
 agg : ∀ l, 1 + UBs l ≤ UB (.agg l)
 slice : ∀ l m, 1 + UBs l ≤ UB (.slice l m)
 str : ∀ s, s.length + 1 ≤ UB (.lit (.string s))
 pos : ∀ d, 1 ≤ UB d
def Rd {α : Type} (enc : TypeId × Value → H) (P : Program) (w : World) (UB : DataW H → Nat) (n : Nat) (t : TypeId) (cells : α → List PV) (bk : α → Nat) : Prop :=
 ∀ cs x, DataW.trod enc P w 0 (fun _ => true) true n t cs = some x → ∃ a : α, RepL (Fz.of w) (cells a) cs ∧ bk a ≤ UB x.1
theorem rd_str (hB : Bulk UB UBs) {t : TypeId} (ht : P.underlying t = some .string) (n : Nat) : Rd enc P w UB n t (fun s : List UInt8 => [.str s]) fun s => s.length := by
 intro cs x h
 obtain ⟨s, rfl, rfl, hs⟩ := DataW.trod_string ht h
 refine ⟨s.data.toList, ?_, by have := hB.str s.data.toList; show s.data.toList.length ≤ UB (.lit (.string s.data.toList)); omega⟩
 have : s.data.toList.length ≤ 9223372036854775807 := by
  have h1 : s.data.toList.length = s.size := Array.length_toList
  have h2 : maxLen ≤ 9223372036854775807 := by simp only [maxLen]; omega
  omega
 exact RepL_cons.2 ⟨⟨rfl, by unfold Rep; exact ⟨rfl, this⟩⟩, RepL_nil _⟩
end
section
variable {H : Type} {enc : TypeId × Value → H} {P : Program} {w : World} {UB : DataW H → Nat} {UBs : List (DataW H) → Nat}
theorem arg_str (hB : Bulk UB UBs) {t : TypeId} (ht : P.underlying t = some .string) {r : Reach} {b0 : Nat} {v : Value} {d : DataW H} {p : List MemPlace} (hv : Value.okWide P w r b0 t v) (h : DataW.Trod enc P w 0 (fun _ => true) true t v d p) :
  ∃ s : List UInt8, Rep (Fz.of w) (.str s) v ∧ s.length ≤ UB d := by
 obtain ⟨s, rfl⟩ := Go.WideShapes.okWide_string ht hv
 obtain ⟨fuel, hf⟩ := h
 obtain ⟨a, h1, h2⟩ := rd_str (w := w) (enc := enc) hB ht fuel _ _ hf
 refine ⟨a, ?_, h2⟩
 have : (Value.string s).cells.toList = [.string s] := rfl
 rw [this] at h1
 exact (RepL_cons.1 h1).1.2
theorem trodAll_below (hl : laidOutB P = true) {W W' : World} (hb : Below W.heap.size W W') : ∀ {ts : List TypeId} {vs : List Value} {ds : List (DataW H)} {ps : List MemPlace}, (∀ t ∈ ts, P.readableRec t = true ∧ t < P.types.size) →
  DataW.TrodAll enc P W 0 (fun _ => true) true ts vs ds ps → (∀ x ∈ ps, x.block < W.heap.size) → DataW.TrodAll enc P W' 0 (fun b => decide (b < W.heap.size)) true ts vs ds ps
 | [], _, _, _, _, h, _ => by
  obtain ⟨rfl, rfl, rfl⟩ := trodAll_nil h
  exact trodAll_mk0
 | t :: ts, _, _, _, hr, h, hlt => by
  obtain ⟨v, vs, d, ds, p, q, rfl, rfl, rfl, h1, h2⟩ := trodAll_cons h
  exact trodAll_cons_mk (Go.RowKit.Below.trod hl (hr t (by simp)).1 (hr t (by simp)).2 h1 hb fun x hx => hlt x (by simp [hx])) (trodAll_below hl hb (fun t ht => hr t (by simp [ht])) h2 fun x hx => hlt x (by simp [hx]))
theorem trodAll_len {spare : Nat → Bool} {base : Nat} {held : Bool} : ∀ {ts : List TypeId} {vs : List Value} {ds : List (DataW H)} {ps : List MemPlace}, DataW.TrodAll enc P w base spare held ts vs ds ps → ds.length = ts.length
 | [], _, _, _, h => by obtain ⟨rfl, rfl, rfl⟩ := trodAll_nil h; rfl
 | t :: ts, _, _, _, h => by
  obtain ⟨v, vs, d, ds, p, q, rfl, rfl, rfl, h1, h2⟩ := trodAll_cons h
  simp [trodAll_len h2]
theorem law_post {f : Func} {s : ChangeSpec} {tb : TypeId} {W W' : World} {args : Array Value} {ds gs : List (DataW H)} {before : List MemPlace} (hl : laidOutB P = true) (hr : ∀ t ∈ f.params.toList, P.readableRec t = true ∧ t < P.types.size)
  (hres : f.resultTypes = #[tb]) (hb : P.underlying tb = some .bool) (hv : s.vars = []) (hfn : ∀ ds : List (DataW H), ds.length = f.params.size → s.fn H ds = { results := [.lit (.bool true)], args := ds })
  (hW : DataW.Whole enc P f.params.toList s.vars false W args.toList ds gs before) (hbel : Below W.heap.size W W') : s.post enc P f false true false false W args (.bool true) W' := by
 have hW' := hW
 obtain ⟨p, q, hA, hV, rfl, _, _⟩ := hW
 have hV0 : DataW.TrodVars enc P W (fun _ => true) [] gs q := by rw [← hv]; exact hV
 obtain ⟨rfl, rfl⟩ := trodVars_none hV0
 have hfn' := hfn (ds ++ []) (by rw [List.append_nil, trodAll_len hA]; simp)
 refine ⟨ds, [], p ++ [], [], p, [], hW', ?_, ?_, ?_, hbel.frame _, fun h => by cases h⟩
 ·rw [hfn', hres]
  exact trodAll_mk1 (Go.RowKit.shut_bool hb _)
 ·rw [hfn', List.append_nil]
  exact trodAll_below hl hbel hr hA fun x hx => hW'.lt x (by simp [hx])
 ·rw [hfn', hv]; rfl
end
section
variable {H : Type} {enc : TypeId × Value → H} {P : Program} {w : World} {UB : DataW H → Nat} {UBs : List (DataW H) → Nat}
end
end Go.Cb
namespace Go.Cb
open Go.Proofs Go.Proofs.YtmbilkpmnpmheaaGreatDoor
open Go.RowKit (Below)
theorem uptoOne {H : Type} (d : DataW H) : 1 ≤ Rows.uptoBulk d := by
 cases d with
 | lit l => cases l <;> simp [Rows.uptoBulk]
 | nil => simp [Rows.uptoBulk]
 | ptr d => simp [Rows.uptoBulk]
 | slice elems spare => simp [Rows.uptoBulk]
 | agg parts => simp [Rows.uptoBulk]
 | iface t d => simp [Rows.uptoBulk]
 | map entries => simp [Rows.uptoBulk]
 | held h => simp [Rows.uptoBulk]
theorem bulkR {H : Type} : Bulk (H := H) Rows.uptoBulk Rows.uptoBulkAll where
 nil := by simp [Rows.uptoBulkAll]
 cons x l := by simp [Rows.uptoBulkAll]
 agg l := by simp [Rows.uptoBulk]; omega
 slice l m := by simp [Rows.uptoBulk]; omega
 str s := by simp [Rows.uptoBulk]
 pos d := uptoOne d
section
variable {H : Type} {enc : TypeId × Value → H} {w : World}
def Prog.bulk (p : Prog) : Nat := Datum.bulks p.consts + p.body.bulk
theorem okS : Tryz.prog.readableRec 9 = true ∧ 9 < Tryz.prog.types.size := ⟨by kernel_rfl, of_decide_eq_true (by kernel_rfl)⟩
theorem okT : Tryz.prog.readableRec 30 = true ∧ 30 < Tryz.prog.types.size := ⟨by kernel_rfl, of_decide_eq_true (by kernel_rfl)⟩
theorem calls_true {f : FuncId} {args : List PV} {vs : List Value} {W : World} (h : ACallP Tryz.prog f args (.bool true)) (hr : RepT (Fz.of W) args vs) : Calls Tryz.prog f vs.toArray W fun e W' => e = .returned (.bool true) ∧ Below W.heap.size W W' := by
 refine (h.2 W (Fz.of W) [] W vs (Sim.start W) hr).mono ?_
 rintro e W' ⟨v, F', y, Γ', rfl, _, hS, hR, rfl⟩
 exact ⟨by rw [show v = .bool true by simpa only [Rep] using hR], hS.below⟩
end
end Go.Cb
namespace Go.Cb
open Go.Proofs Go.Proofs.YtmbilkpmnpmheaaGreatDoor
mutual
def cellsD : DataW Unit → List Value
 | .lit (.int k n) => [.int k n]
 | .lit (.bool b) => [.bool b]
 | .lit (.string s) => [.string ⟨s.toArray⟩]
 | .agg l => cellsDs l
 | _ => []
def cellsDs : List (DataW Unit) → List Value
 | [] => []
 | d :: l => cellsD d ++ cellsDs l
end
def newBlocks (e : TypeId) : List (String × DataW Unit) → List Obj
 | [] => []
 | (_, .iface _ (.ptr d)) :: l => .cells (cellsD d).toArray e :: newBlocks e l
 | _ :: l => newBlocks e l
def putCs (h : Array Obj) (g : Option Nat) (cs : Array Value) : Array Obj := match g with
 | some g => h.modify g fun
  | .cells _ t frozen => .cells cs t frozen
  | o => o
 | none => h
def layAll (P : Program) (p : TypeId) : List (String × DataW Unit) → Nat → Array Obj → Array Obj
 | [], _, h => h
 | (n, .iface _ _) :: l, k, h => layAll P p l (k + 1) (putCs h (P.globalNamed n) #[.iface p (.pointer (some ⟨k, 0, none⟩))])
 | (n, d) :: l, k, h => layAll P p l k (putCs h (P.globalNamed n) (cellsD d).toArray)
noncomputable def laidWorld (os : Os) : World :=
 let w0 := World.holding Tryz.prog os ⟨(newBlocks 295 Rows.scopeResolvesRow.laid).toArray, #[], []⟩
 { w0 with heap := layAll Tryz.prog 293 Rows.scopeResolvesRow.laid (World.settled Tryz.prog os).heap.size w0.heap }
theorem laid_met (os : Os) (args : Array Value) : laidMet Tryz.prog Rows.scopeResolvesRow.laid ((laidWorld os).forCall (fun _ _ => 0) ⟨#[], args, []⟩).memory :=
 (LaidIn.of_run (l := Rows.scopeResolvesRow.laid) (List.range 1000) 16 (by kernel_rfl) (by kernel_rfl) (by kernel_rfl) (by kernel_rfl)).met
theorem own_none : ownKnob Tryz.prog.godebug = none := by kernel_rfl
theorem laidOut : laidOutB Tryz.prog = true := by kernel_rfl
end Go.Cb

