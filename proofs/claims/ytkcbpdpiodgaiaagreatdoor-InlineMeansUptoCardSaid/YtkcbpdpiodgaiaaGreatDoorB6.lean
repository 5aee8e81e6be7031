/-
 Contracts: package slices: Grow, Concat, Index, Contains, of numbers.
 Contracts: all terms of a term, one by one.
 Contracts: how many terms.
 Contracts: what is sorted already: one number.
 Contracts: what is named and not bound: one variable.
 Plain laws: what a term names, binds; how deep it lies.
 Plain laws: numbers in order, each once.
 Plain laws: a term and its parts.
 Layings of the library's contracts at this seat (written by the kit's tools).
 Contracts: numbers sorted by the library, equal neighbours struck.
 Contracts: what a term names and does not bind, what it binds, how often a variable is named and assigned.
 Plain laws: all variables greater by the same.
 Plain laws: assigned variables become boxes.
 Plain laws: chapter 10, sizes of what is converted.
 Plain: assigned variables in boxes mean the same: scopes, places, what Lams and boxes come to.
 Plain: assigned variables in boxes mean the same: calls of procedures, Lets.
 Plain: assigned variables in boxes mean the same: Lets; Fixes begun.
 Plain: assigned variables in boxes mean the same: Fixes.
 Plain laws: chapter 10, what is right; the document's counts; programs.
 Plain law: procedures' bodies in the place of their calls, as a function.
 Plain: bodies in the place of calls: what goes together with what, by the terms alone.
 Plain: bodies in the place of calls: what the inliner makes goes together with what it was.
-/
import Derived.Lib.SlicesCompact
import Derived.Shelf.Slices.CompactI
import Derived.Shelf.Slices.In.SortNone
import Derived.Shelf.Sort.Plain
import Derived.Sort.OwnSortedInts
import Derived.Test.YtkcbpdpiodgaiaaGreatDoorProg
import Derived.Test.YtkcbpdpiodgaiaaGreatDoorB5
set_option linter.unusedSimpArgs false
set_option linter.unusedVariables false
namespace Go.Cb
open Go.Proofs
set_option maxRecDepth 100000
set_option maxHeartbeats 4000000
theorem growNil0_c (n : Int) (h0 : 0 ≤ n) (h1 : n ≤ 1000000000) : ACall Tryz.prog 106 [.nil, .int .i64 n] [] (fun y Γ' => (∃ t : Tok, t.e = 3 ∧ t.s = 1 ∧ y = .ms t ∧ Γ' = [.row t []]) ∨ (y = .nil ∧ Γ' = [])) := by
 refine ACall.of_body tt_ok Tryz.func106 rfl rfl (n := 27) rfl rfl ?_
 conv => whnf
 repeat' (first|refine aA0 ?_|(refine zX (fun hc=>?_) (fun hc=>?_)<;>(try simp only [SY] at hc)<;>first|omega|(conv=>whnf)))
 ·refine PSide.of ⟨by simp [boundIs], by simp [boundIs]⟩ ?_
  conv => whnf
  skip
  refine PZeros.mk ⟨by omega, by omega, by show _ * 8 ≤ _; omega, rfl, fun t he hs => ?_⟩
  conv => whnf
  skip
  refine PSliceM.hi hs (by omega) (by simp; omega) (fun t2 he2 hs2 => ?_)
  conv => whnf
  skip
  show PRet _ [.row t2 []] _
  exact PRet.gen (Wk.refl _) (.inl ⟨t2, he2.trans he, hs2.trans hs, rfl, rfl⟩)
 ·exact PRet.gen (Wk.refl _) (.inr ⟨rfl, rfl⟩)
theorem Shift.nilRow (s : Nat) (e : TypeId) (Γ : List Ent) : Shift .nil Γ (.ms (nilTok s e)) (.row (nilTok s e) [] :: Γ) := fun w0 F M w v hS hx =>
 let ⟨F', h1, h2⟩ := Ghost.nilRow s e Γ w0 F M w hS
 ⟨F', h1, h2, Wk.nilRow s e F' v (Rep.mono h1 _ _ hx)⟩
theorem Shift.refl (x : PV) (Γ : List Ent) : Shift x Γ x Γ := fun _ F _ _ _ hS hx => ⟨F, Fz.le_refl F, hS, hx⟩
theorem growNil_c (n : Int) (h0 : 0 ≤ n) (h1 : n ≤ 1000000000) : ACall Tryz.prog 106 [.nil, .int .i64 n] [] (fun y Γ' => ∃ t : Tok, t.e = 3 ∧ t.s = 1 ∧ y = .ms t ∧ Γ' = [.row t (([] : List Int).map (PV.int .i64))]) :=
 (growNil0_c n h0 h1).shift fun y Γ' h => by
  rcases h with ⟨t, h1, h2, rfl, rfl⟩ | ⟨rfl, rfl⟩
  ·exact ⟨_, _, Shift.refl _ _, t, h1, h2, rfl, rfl⟩
  ·exact ⟨_, _, Shift.nilRow 1 3 _, _, rfl, rfl, rfl, rfl⟩
abbrev slI (l : List Int) : PV := .sl 1 (l.map (PV.int .i64)) none
instance : CellsOf slI (fun l => [slI l]) := ⟨fun _ => rfl⟩
def sumL (ls : List (List Int)) : Nat := (ls.map List.length).sum
theorem sumL_append (a b : List (List Int)) : sumL (a ++ b) = sumL a + sumL b := by simp [sumL]
theorem sumL_le (ls : List (List Int)) (k : Nat) : sumL (ls.take k) ≤ sumL ls := by
 have := sumL_append (ls.take k) (ls.drop k)
 rw [List.take_append_drop] at this
 omega
theorem sumL_step (ls : List (List Int)) {k : Nat} (hk : k < ls.length) : sumL (ls.take (k + 1)) = sumL (ls.take k) + (ls[k]).length := by
 rw [List.take_succ_eq_append_getElem hk, sumL_append]; simp [sumL]
theorem sumL_flatten (ls : List (List Int)) : ls.flatten.length = sumL ls := by simp [sumL, List.length_flatten]
theorem concatInt0_c (ls : List (List Int)) (h : sumL ls ≤ 1000000000) (hl : ls.length ≤ 1000000000) : ACall Tryz.prog 78 [.sl 1 (ls.map slI) none] [] (fun y Γ' => ∃ t : Tok, t.e = 3 ∧ t.s = 1 ∧ y = .ms t ∧ Γ' = [.row t (ls.flatten.map (PV.int .i64))]) := by
 refine ACall.of_body tt_ok Tryz.func78 rfl rfl (n := 36) rfl rfl ?_
 conv => whnf
 repeat (first|refine aR0 ?_|((intro _);conv=>whnf))
 refine PLoop.keep [3, 5, 11, 12, 13, 14, 15, 16, 17, 18, 19, 20, 21, 22] (fun x : Nat × Int => [(11, .int .i64 x.1), (3, .int .i64 x.2)]) (fun x => x.1 ≤ ls.length ∧ x.2 = sumL (ls.take x.1)) (fun x => ls.length - x.1) (0, 0) ⟨by omega, rfl⟩ wA ?_
 rintro ⟨i, n⟩ ⟨h1, h2⟩
 dsimp only at h1 h2 ⊢
 have hle := sumL_le ls
 conv => whnf
 repeat' (first|refine aA0 ?_|((intro _);conv=>whnf)|(refine zX (fun hc=>?_) (fun hc=>?_)<;>(try simp only [SY] at hc)<;>(conv=>whnf)))
 ·have hlt : i < ls.length := by omega
  have g1 := hle (i + 1)
  have g2 := sumL_step ls hlt
  conv => whnf
  repeat' (first|refine aA0 ?_|(refine zX (fun hc=>?_) (fun hc=>?_)<;>(try simp only [SY] at hc)<;>first|omega|(conv=>whnf)))
  exact loopTo (i + 1, n + ls[i].length) ⟨by omega, by show n + _ = ((sumL (ls.take (i + 1)) : Nat) : Int); omega⟩ (by show ls.length - (i + 1) < ls.length - i; omega) wA
 ·refine PCall.go (growNil_c n (by omega) (by have := hle i; omega)) (WkT.refl _) ?_
  rintro _ _ ⟨t, ht, hs, rfl, rfl⟩
  conv => whnf
  repeat' (first|refine aA0 ?_|((intro _);conv=>whnf)|(refine zX (fun hc=>?_) (fun hc=>?_)<;>(try simp only [SY] at hc)<;>omega))
  refine PLoop.over [6, 8, 27, 28, 29, 30, 31, 32, 33, 34] (fun x : Nat × Tok × List Int => [(27, .int .i64 x.1), (6, .ms x.2.1)]) (fun x : Nat × Tok × List Int => [.row x.2.1 (x.2.2.map (PV.int .i64))]) (fun x => x.1 ≤ ls.length ∧ x.2.1.e = 3 ∧ x.2.1.s = 1 ∧ x.2.2 = (ls.take x.1).flatten) (fun x => ls.length - x.1) (0, t, []) ⟨by omega, ht, hs, rfl⟩ wA ?_
  rintro ⟨k, t2, l⟩ ⟨k1, k2, k3, k4⟩
  dsimp only at k1 k2 k3 k4 ⊢
  conv => whnf
  repeat' (first|refine aA0 ?_|(refine zX (fun hc=>?_) (fun hc=>?_)<;>(try simp only [SY] at hc)<;>(conv=>whnf)))
  ·have hlt : k < ls.length := by omega
   have g1 := hle (k + 1)
   have g2 := sumL_step ls hlt
   have g3 := sumL_flatten (ls.take k)
   rw [← k4] at g3
   refine PAppend.rowList (f := PV.int .i64) (l := l) (m := ls[k]) k2 k3 (Wk.refl _) (by omega) (by show _ * 8 ≤ _; omega) (fun t3 e3 s3 => ?_)
   conv => whnf
   repeat (refine aR0 ?_)
   exact loopTo (k + 1, t3, l ++ ls[k]) ⟨by omega, e3, s3, by show l ++ ls[k] = (ls.take (k + 1)).flatten; rw [k4, List.take_succ_eq_append_getElem hlt, List.flatten_append, List.flatten_singleton]⟩ (by show ls.length - (k + 1) < ls.length - k; omega) wA
  ·have hk : ls.take k = ls := List.take_of_length_le (by omega)
   rw [hk] at k4
   rw [k4]
   exact PRet.gen (Wk.refl _) ⟨t2, k2, k3, rfl, rfl⟩
theorem concatInt_c (ls : List (List Int)) (h : sumL ls ≤ 1000000000) (hl : ls.length ≤ 1000000000) : ACallP Tryz.prog 78 [.sl 1 (ls.map slI) none] (slI ls.flatten) :=
 ACallP.of_any ((concatInt0_c ls h hl).shift fun y Γ' hq => by
  obtain ⟨t, h1, h2, rfl, rfl⟩ := hq
  exact ⟨slI ls.flatten, _, Shift.freezeRow (WkF.ms' h2), rfl⟩)
end Go.Cb
namespace Go.Cb
open Go.Proofs
set_option maxRecDepth 100000
set_option maxHeartbeats 4000000
mutual
def Trm.met : Trm → List Int → Int → List (Trm × List Int)
 | .mk op n v t, sc, deep => (.mk op n v t, sc) :: if deep ≥ 1000 then [] else Trm.mets op sc (sc ++ v) t (deep + 1)
def Trm.mets (op : Int) (sc inner : List Int) : List Trm → Int → List (Trm × List Int)
 | [], _ => []
 | x :: xs, deep => Trm.met x (if groupB op = true ∨ xs = [] then inner else sc) deep ++ Trm.mets op sc inner xs deep
end
theorem Trm.met_eq (t : Trm) (sc : List Int) (deep : Int) : t.met sc deep = (t, sc) :: if deep ≥ 1000 then [] else Trm.mets t.op sc (sc ++ t.v) t.t (deep + 1) := by
 cases t; rw [Trm.met]; rfl
abbrev metP (x : Trm × List Int) : PV := .agg [.int .i64 x.1.op, .int .i64 x.1.n, .sl 1 (x.1.v.map (PV.int .i64)) none, .sl 4 (x.1.t.map Trm.pv) none, slI x.2]
def From (xs : List (List PV)) (i : Nat) (l : List (Trm × List Int)) : Prop := ∀ j (h : j < l.length), xs[i + j]? = some [metP l[j]]
theorem From.left {xs : List (List PV)} {i : Nat} {l m : List (Trm × List Int)} (h : From xs i (l ++ m)) : From xs i l := fun j hj => by
 have := h j (by rw [List.length_append]; omega)
 rwa [List.getElem_append_left hj] at this
theorem From.right {xs : List (List PV)} {i : Nat} {l m : List (Trm × List Int)} (h : From xs i (l ++ m)) : From xs (i + l.length) m := fun j hj => by
 have := h (l.length + j) (by rw [List.length_append]; omega)
 rw [List.getElem_append_right (by omega)] at this
 simpa [Nat.add_assoc] using this
theorem From.head {xs : List (List PV)} {i : Nat} {x : Trm × List Int} {m : List (Trm × List Int)} (h : From xs i (x :: m)) : From xs (i + 1) m := From.right (l := [x]) h
theorem walk_c (l yb wb : Nat) (xs : List (List PV)) (J : Nat → List Ent → Prop) (X : List Ent → Prop)
  (hy : ∀ k ys Γ, xs[k]? = some ys → J k Γ → AYield Tryz.prog l ys Γ fun y Γ' => (y = .btrue ∧ J (k + 1) Γ') ∨ (y = .bfalse ∧ X Γ')) (t : Trm) :
  ∀ (sc : List Int) (deep : Int) (i : Nat) (Γ : List Ent), 0 ≤ deep → deep ≤ 1000 → sc.length + t.bulk ≤ 1000000000 → From xs i (t.met sc deep) → J i Γ →
   ACall Tryz.prog 77 [.agg t.cells, slI sc, .int .i64 deep, .ptr yb 0, .ptr wb 0] (.box yb [.fn (.yield l) []] :: .box wb [.fn (.func 77) [.ptr yb 0, .ptr wb 0]] :: Γ)
    (fun y Γ' => ∃ Γ1, Γ' = .box yb [.fn (.yield l) []] :: .box wb [.fn (.func 77) [.ptr yb 0, .ptr wb 0]] :: Γ1 ∧ ((y = .btrue ∧ J (i + (t.met sc deep).length) Γ1) ∨ (y = .bfalse ∧ X Γ1))) := by
 induction t using Trm.ind with
 | h t ih =>
  intro sc deep i Γ hd0 hd1 hsc hfr hJ
  have hbe := t.bulk_eq
  have hlv := Trm.bulks_length t.t
  rw [Trm.met_eq] at hfr ⊢
  have hsum : sumL [sc, t.v] ≤ 1000000000 := by simp [sumL]; omega
  have h0 := hfr 0 (by simp)
  refine ACall.of_body tt_ok Tryz.func77 rfl rfl (n := 54) rfl rfl ?_
  conv => whnf
  repeat' (first|refine aA0 ?_|((intro _);conv=>whnf)|(refine zX (fun hc=>?_) (fun hc=>?_)<;>(try simp only [SY] at hc)<;>omega))
  rename_i b5
  refine PYield.goR [.box b5 [.int .i64 t.op, .int .i64 t.n, .sl 1 (t.v.map (PV.int .i64)) none, .sl 4 (t.t.map Trm.pv) none], .box yb [.fn (.yield l) []], .box wb [.fn (.func 77) [.ptr yb 0, .ptr wb 0]]] (hy (i + 0) _ Γ h0 hJ) (WkT.refl _) (List.Perm.refl _) ?_
  rintro _ Γ1 (⟨rfl, hJ1⟩ | ⟨rfl, hX⟩)
  ·conv => whnf
   repeat' (first|refine aA0 ?_|((intro _);conv=>whnf)|(refine zX (fun hc=>?_) (fun hc=>?_)<;>(try simp only [SY] at hc)<;>(conv=>whnf)))
   ·exact PRet.gen (y := .btrue) (Γ' := .box yb [.fn (.yield l) []] :: .box wb [.fn (.func 77) [.ptr yb 0, .ptr wb 0]] :: Γ1) (hp := ⟨(List.perm_append_singleton _ _).symm⟩) (Wk.refl _) ⟨Γ1, rfl, .inl ⟨rfl, by rw [if_pos hc]; exact hJ1⟩⟩
   ·rw [if_neg (by omega)] at hfr ⊢
    rename_i tk htk
    refine PCall.pure (concatInt_c [sc, t.v] hsum (by simp)) (WkT.cons (Wk.tok _ _ _) WkT.nil) ?_
    rw [show [sc, t.v].flatten = sc ++ t.v by simp]
    conv => whnf
    repeat' (first|refine aA0 ?_|((intro _);conv=>whnf)|(refine zX (fun hc=>?_) (fun hc=>?_)<;>(try simp only [SY] at hc)<;>omega))
    have hfr1 := hfr.head
    refine PLoop.over [8, 10, 11, 12, 29, 30, 31, 32, 33, 34, 35, 36, 37, 38, 39, 40, 41, 42, 43, 44, 45, 46, 47, 48, 49, 50, 51, 52, 53] (fun x : Nat × Nat × List Ent => [(29, .int .i64 x.1)])
     (fun x : Nat × Nat × List Ent => .tok tk :: .box b5 [.int .i64 t.op, .int .i64 t.n, .sl 1 (t.v.map (PV.int .i64)) none, .sl 4 (t.t.map Trm.pv) none] :: .box yb [.fn (.yield l) []] :: .box wb [.fn (.func 77) [.ptr yb 0, .ptr wb 0]] :: x.2.2)
     (fun x => x.1 ≤ t.t.length ∧ J x.2.1 x.2.2 ∧ From xs x.2.1 (Trm.mets t.op sc (sc ++ t.v) (t.t.drop x.1) (deep + 1)) ∧ x.2.1 + (Trm.mets t.op sc (sc ++ t.v) (t.t.drop x.1) (deep + 1)).length = i + 1 + (Trm.mets t.op sc (sc ++ t.v) t.t (deep + 1)).length)
     (fun x => t.t.length - x.1) (0, i + 1, Γ1) ⟨by omega, hJ1, hfr1, rfl⟩ wA ?_
    rintro ⟨k, p, Γ2⟩ ⟨k1, k2, k3, k4⟩
    dsimp only at k1 k2 k3 k4 ⊢
    conv => whnf
    repeat' (first|refine aA0 ?_|((first|refine pC (group_c t) wR ?_|intro _);conv=>whnf)|(refine zX (fun hc=>?_) (fun hc=>?_)<;>(try simp only [SY] at hc)<;>(conv=>whnf)))
    rotate_right
    ·rw [List.drop_of_length_le (by omega), Trm.mets] at k4
     exact PRet.gen (y := .btrue) (Γ' := .box yb [.fn (.yield l) []] :: .box wb [.fn (.func 77) [.ptr yb 0, .ptr wb 0]] :: Γ2) (hp := ⟨List.perm_append_comm (l₁ := [_, _])⟩) (Wk.refl _) ⟨Γ2, rfl, .inl ⟨rfl, by
      rw [List.length_cons, show i + ((Trm.mets t.op sc (sc ++ t.v) t.t (deep + 1)).length + 1) = p by simp only [List.length_nil] at k4; omega]; exact k2⟩⟩
    all_goals
     rename_i b11
     have hlt : k < t.t.length := by omega
     have hbm := Trm.bulks_mem (List.getElem_mem hlt)
     have hdr : t.t.drop (k + 1) = [] ↔ k + 1 = t.t.length := by rw [List.drop_eq_nil_iff]; omega
     rw [drop_at hlt, Trm.mets] at k3 k4
    ·rw [if_pos (show groupB t.op = true ∨ t.t.drop (k + 1) = [] by rw [hdr]; exact hc.imp id fun h => by omega)] at k3 k4
     have k3l := k3.left
     have k3r := k3.right
     rw [List.length_append] at k4
     refine PCall.goR [.box b11 [.int .i64 t.t[k].op, .int .i64 t.t[k].n, .sl 1 (t.t[k].v.map (PV.int .i64)) none, .sl 4 (t.t[k].t.map Trm.pv) none], .tok tk, .box b5 [.int .i64 t.op, .int .i64 t.n, .sl 1 (t.v.map (PV.int .i64)) none, .sl 4 (t.t.map Trm.pv) none]]
      (ih t.t[k] (List.getElem_mem _) (sc ++ t.v) (deep + 1) p Γ2 (by omega) (by omega) (by first | omega | (simp; omega)) k3l k2) (WkT.refl _) (List.Perm.refl _) ?_
     rintro _ _ ⟨Γ3, rfl, ⟨rfl, g1⟩ | ⟨rfl, g1⟩⟩
     ·conv => whnf
      repeat' (first|refine aA0 ?_|(refine zX (fun hc=>?_) (fun hc=>?_)<;>(try simp only [SY] at hc)<;>omega))
      exact loopTo (k + 1, p + (t.t[k].met (sc ++ t.v) (deep + 1)).length, Γ3) (hp := ⟨(List.perm_append_singleton _ _).symm⟩) ⟨by omega, g1, k3r, by dsimp only; omega⟩ (by show t.t.length - (k + 1) < t.t.length - k; omega) wA
     ·conv => whnf
      skip
      exact PRet.gen (y := .bfalse) (Γ' := .box yb [.fn (.yield l) []] :: .box wb [.fn (.func 77) [.ptr yb 0, .ptr wb 0]] :: Γ3) (hp := ⟨List.perm_append_comm (l₁ := [_, _, _])⟩) (Wk.refl _) ⟨Γ3, rfl, .inr ⟨rfl, g1⟩⟩
    ·rw [if_neg (show ¬(groupB t.op = true ∨ t.t.drop (k + 1) = []) by rw [hdr]; rintro (h | h); rw [hc.1] at h; cases h; exact hc.2 (by omega))] at k3 k4
     have k3l := k3.left
     have k3r := k3.right
     rw [List.length_append] at k4
     refine PCall.goR [.box b11 [.int .i64 t.t[k].op, .int .i64 t.t[k].n, .sl 1 (t.t[k].v.map (PV.int .i64)) none, .sl 4 (t.t[k].t.map Trm.pv) none], .tok tk, .box b5 [.int .i64 t.op, .int .i64 t.n, .sl 1 (t.v.map (PV.int .i64)) none, .sl 4 (t.t.map Trm.pv) none]]
      (ih t.t[k] (List.getElem_mem _) (sc) (deep + 1) p Γ2 (by omega) (by omega) (by first | omega | (simp; omega)) k3l k2) (WkT.refl _) (List.Perm.refl _) ?_
     rintro _ _ ⟨Γ3, rfl, ⟨rfl, g1⟩ | ⟨rfl, g1⟩⟩
     ·conv => whnf
      repeat' (first|refine aA0 ?_|(refine zX (fun hc=>?_) (fun hc=>?_)<;>(try simp only [SY] at hc)<;>omega))
      exact loopTo (k + 1, p + (t.t[k].met (sc) (deep + 1)).length, Γ3) (hp := ⟨(List.perm_append_singleton _ _).symm⟩) ⟨by omega, g1, k3r, by dsimp only; omega⟩ (by show t.t.length - (k + 1) < t.t.length - k; omega) wA
     ·conv => whnf
      skip
      exact PRet.gen (y := .bfalse) (Γ' := .box yb [.fn (.yield l) []] :: .box wb [.fn (.func 77) [.ptr yb 0, .ptr wb 0]] :: Γ3) (hp := ⟨List.perm_append_comm (l₁ := [_, _, _])⟩) (Wk.refl _) ⟨Γ3, rfl, .inr ⟨rfl, g1⟩⟩
  ·conv => whnf
   skip
   exact PRet.gen (y := .bfalse) (Γ' := .box yb [.fn (.yield l) []] :: .box wb [.fn (.func 77) [.ptr yb 0, .ptr wb 0]] :: Γ1) (hp := ⟨(List.perm_append_singleton _ _).symm⟩) (Wk.refl _) ⟨Γ1, rfl, .inr ⟨rfl, hX⟩⟩
def Trm.all (t : Trm) : List (Trm × List Int) := t.met [] 0
theorem all1_c (b : Nat) (t : Trm) (hb : t.bulk ≤ 1000000000) : AIter Tryz.prog 76 [.ptr b 0] [.box b t.cells] (t.all.map fun m => [metP m]) := by
 intro l J X hy Γ hJ
 refine ACall.ghost (Ghost.drop (Γ' := .box b t.cells :: Γ) (Γ1 := []) (by rw [List.append_nil]; exact List.perm_append_singleton _ _)) ?_
 refine ACall.of_body tt_ok Tryz.func76 rfl rfl (n := 8) rfl rfl ?_
 conv => whnf
 repeat' (first|refine aA0 ?_|((intro _);conv=>whnf)|(refine zX (fun hc=>?_) (fun hc=>?_)<;>(try simp only [SY] at hc)<;>omega))
 rename_i yb wb
 refine PCall.goR [.box b t.cells] (walk_c l yb wb _ J X hy t [] 0 0 Γ (by omega) (by omega) (by simp; omega) (fun j hj => by rw [Nat.zero_add, List.getElem?_map]; show Option.map _ (t.met [] 0)[j]? = _; rw [List.getElem?_eq_getElem hj]; rfl) hJ) (WkT.cons (Wk.refl _) (WkT.cons (Wk.nil' rfl) (WkT.refl _))) ((List.Perm.swap _ _ _).trans (((List.Perm.swap _ _ _).cons _).trans (List.Perm.swap _ _ _))) ?_
 rintro _ _ ⟨Γ1, rfl, h1⟩
 conv => whnf
 skip
 refine PRet.gen (Γ' := Γ1) (hp := ⟨List.perm_append_comm (l₁ := [_, _, _])⟩) (Wk.refl _) ?_
 rw [List.length_map]
 rcases h1 with ⟨_, h⟩ | ⟨_, h⟩
 ·exact .inl (by rw [Nat.zero_add] at h; exact h)
 ·exact .inr h
theorem all_c (t : Trm) : ACall Tryz.prog 40 [.agg t.cells] [] (fun y Γ' => ∃ b, y = .fn (.func 76) [.ptr b 0] ∧ Γ' = [.box b t.cells]) := by
 refine ACall.of_body tt_ok Tryz.func40 rfl rfl (n := 4) rfl rfl ?_
 conv => whnf
 repeat' (first|((intro _);conv=>whnf)|(refine zX (fun hc=>?_) (fun hc=>?_)<;>(try simp only [SY] at hc)<;>omega))
 rename_i b
 exact PRet.gen (y := .fn (.func 76) [.ptr b 0]) (Γ' := [.box b t.cells]) (hp := PickL.self _) (Wk.refl _) ⟨b, rfl, rfl⟩
end Go.Cb
namespace Go.Cb
open Go.Proofs
set_option maxRecDepth 100000
set_option maxHeartbeats 4000000
theorem Trm.met_len (t : Trm) : ∀ (sc : List Int) (deep : Int), (t.met sc deep).length ≤ t.bulk := by
 induction t using Trm.ind with
 | h t ih =>
  intro sc deep
  rw [Trm.met_eq, t.bulk_eq, List.length_cons]
  split
  ·simp; omega
  ·have : ∀ (l : List Trm), (∀ y ∈ l, ∀ (sc : List Int) (deep : Int), (y.met sc deep).length ≤ y.bulk) → ∀ sc inner deep, (Trm.mets t.op sc inner l deep).length ≤ Trm.bulks l := by
    intro l
    induction l with
    | nil => intro _ _ _ _; simp [Trm.mets]
    | cons x l ihl =>
     intro hy sc inner deep
     rw [Trm.mets, Trm.bulks, List.length_append]
     have := hy x (by simp) (if groupB t.op = true ∨ l = [] then inner else sc) deep
     have := ihl (fun y h => hy y (by simp [h])) sc inner deep
     omega
   have := this t.t ih sc (sc ++ t.v) (deep + 1)
   omega
theorem size_c2 (t : Trm) (hb : t.bulk ≤ 1000000000) : ACallP Tryz.prog 81 [.agg t.cells] (.int .i64 t.all.length) := by
 have hlen : t.all.length ≤ t.bulk := t.met_len [] 0
 refine ACall.of_body tt_ok Tryz.func81 rfl rfl (n := 10) rfl rfl ?_
 conv => whnf
 repeat' (first|refine aA0 ?_|((intro _);conv=>whnf)|(refine zX (fun hc=>?_) (fun hc=>?_)<;>(try simp only [SY] at hc)<;>omega))
 rename_i bt bn
 refine PCall.go (all_c t) (WkT.refl _) ?_
 rintro _ _ ⟨b, rfl, rfl⟩
 conv => whnf
 skip
 refine PRange.go (t.all.map fun m => [metP m]) (fun n : Int => [.box bn [.int .i64 n]]) (fun k n => n = k) (fun _ _ => False) 0 (all1_c b t hb) rfl (hp := (inferInstance : PickL _ [.box bn [.int .i64 0], .box b t.cells] _)) (by intro ys hy; obtain ⟨m, _, rfl⟩ := List.mem_map.1 hy; rfl) ?_ ?_ (fun _ _ _ h => h.elim)
 ·rintro k ys _ hk rfl
  obtain ⟨m, hm, rfl⟩ : ∃ m, t.all[k]? = some m ∧ ys = [metP m] := by
   rw [List.getElem?_map] at hk
   cases h : t.all[k]? with
   | none => rw [h] at hk; cases hk
   | some m => rw [h] at hk; cases hk; exact ⟨m, rfl, rfl⟩
  have hlt := (List.getElem?_eq_some_iff.1 hm).1
  conv => whnf
  skip
  refine ⟨rfl, ?_⟩
  conv => whnf
  repeat' (first|refine aA0 ?_|(refine zX (fun hc=>?_) (fun hc=>?_)<;>(try simp only [SY] at hc)<;>omega))
  exact roundEnd (k := k) (G := fun n : Int => [.box bn [.int .i64 n]]) (I := fun k n => n = ((k : Nat) : Int)) (X := fun _ _ => False) ((k : Int) + 1) (by show (k : Int) + 1 = ((k + 1 : Nat) : Int); omega) (hp := PickL.self _)
 ·rintro bd _ rfl
  conv => whnf
  repeat' (first|refine aA0 ?_|(refine zX (fun hc=>?_) (fun hc=>?_)<;>(try simp only [SY] at hc)<;>omega))
  refine PMark.at_ rfl ?_
  conv => whnf
  exact PRet.pure (Wk.int (by rw [List.length_map]))
end Go.Cb
namespace Go.Cb
open Go.Proofs
set_option maxRecDepth 100000
set_option maxHeartbeats 4000000
end Go.Cb
namespace Go.Cb
open Go.Proofs
set_option maxRecDepth 100000
set_option maxHeartbeats 4000000
def namesB (op : Int) : Bool := op == 1 || op == 2 || op == 14
end Go.Cb
namespace Go.Cb
open Go.Proofs
set_option maxRecDepth 100000
set_option maxHeartbeats 4000000
mutual
def Trm.dep : Trm → Int
 | .mk _ _ _ t => Trm.deps t 0
def Trm.deps : List Trm → Int → Int
 | [], d => d
 | x :: xs, d => Trm.deps xs (max d (1 + Trm.dep x))
end
theorem Trm.dep_eq (t : Trm) : t.dep = Trm.deps t.t 0 := by cases t; rfl
theorem Trm.deps_le (c : Int) : ∀ (l : List Trm) (d : Int), Trm.deps l d ≤ c ↔ d ≤ c ∧ ∀ x ∈ l, 1 + x.dep ≤ c
 | [], d => by simp [Trm.deps]
 | x :: l, d => by
  rw [Trm.deps, Trm.deps_le c l]
  simp only [List.forall_mem_cons]
  constructor
  ·rintro ⟨h1, h2⟩; exact ⟨by omega, by omega, h2⟩
  ·rintro ⟨h1, h2, h3⟩; exact ⟨by omega, h3⟩
theorem Trm.deps_ge : ∀ (l : List Trm) (d : Int), d ≤ Trm.deps l d
 | [], d => by simp [Trm.deps]
 | x :: l, d => by rw [Trm.deps]; have := Trm.deps_ge l (max d (1 + x.dep)); omega
theorem Trm.met_all (t : Trm) : ∀ (sc : List Int) (deep : Int), deep + t.dep < 1000 → (t.met sc deep).length = t.cnt ∧ (t.met sc deep).flatMap (fun m => m.1.v) = t.vars := by
 induction t using Trm.ind with
 | h t ih =>
  intro sc deep h
  rw [Trm.dep_eq] at h
  have hd := (Trm.deps_le (999 - deep) t.t 0).1 (by omega)
  have key : ∀ (op : Int) (l : List Trm), (∀ y ∈ l, ∀ (sc : List Int) (deep : Int), deep + y.dep < 1000 → (y.met sc deep).length = y.cnt ∧ (y.met sc deep).flatMap (fun m => m.1.v) = y.vars) →
    ∀ (sc inner : List Int) (deep : Int), (∀ x ∈ l, deep + x.dep < 1000) → (Trm.mets op sc inner l deep).length = Trm.cnts l ∧ (Trm.mets op sc inner l deep).flatMap (fun m => m.1.v) = Trm.varss l := by
   intro op l
   induction l with
   | nil => intro _ _ _ _ _; simp [Trm.mets, Trm.cnts, Trm.varss]
   | cons x l ihl =>
    intro hy sc inner deep hx
    have h1 := hy x (by simp) (if groupB op = true ∨ l = [] then inner else sc) deep (hx x (by simp))
    have h2 := ihl (fun y hh => hy y (by simp [hh])) sc inner deep fun y hh => hx y (by simp [hh])
    rw [Trm.mets, Trm.cnts, Trm.varss, List.flatMap_append, h1.2, h2.2, List.length_append]
    exact ⟨by have := h1.1; have := h2.1; omega, rfl⟩
  have h1 := key t.op t.t ih sc (sc ++ t.v) (deep + 1) fun x hx => by have := hd.2 x hx; omega
  have hlt : ¬ deep ≥ 1000 := by have := Trm.deps_ge t.t 0; omega
  rw [Trm.met_eq, if_neg hlt, Trm.cnt_eq, Trm.vars_eq, List.flatMap_cons, List.length_cons, h1.2]
  exact ⟨by have := h1.1; omega, rfl⟩
theorem Trm.okT_deep {level c codes : Int} {free : Bool} (t : Trm) : ∀ {scope : List Int} {deep : Int}, t.okT level c codes free scope deep → deep + t.dep ≤ 400 := by
 induction t using Trm.ind with
 | h t ih =>
  intro scope deep h
  rw [Trm.okT_eq] at h
  have key : ∀ (op : Int) (sc inner : List Int) (deep : Int) (l : List Trm), (∀ y ∈ l, ∀ {scope : List Int} {deep : Int}, y.okT level c codes free scope deep → deep + y.dep ≤ 400) → Trm.okTs level c codes free op sc inner l deep → ∀ x ∈ l, deep + x.dep ≤ 400 := by
   intro op sc inner deep l
   induction l with
   | nil => intro _ _; simp
   | cons x l ihl =>
    intro hy hk y hm
    rw [Trm.okTs] at hk
    rcases List.mem_cons.1 hm with rfl | hm
    ·exact hy y (by simp) hk.2.1
    ·exact ihl (fun z hz => hy z (by simp [hz])) hk.2.2 y hm
  have h1 := key _ _ _ _ _ ih h.2
  have := (Trm.deps_le (400 - deep) t.t 0).2 ⟨by have := h.1.1; omega, fun x hx => by have := h1 x hx; omega⟩
  rw [Trm.dep_eq]; omega
end Go.Cb
namespace Go.Cb
open Go.Lib
def riseL (l : List Int) : List Int := compact (l.mergeSort fun x y => decide (x ≤ y))
theorem arr_get! {α : Type} [Inhabited α] {l : List α} {j : Nat} (h : j < l.length) : l.toArray[j]! = l[j] := by
 rw [getElem!_pos _ j (by simpa using h)]; simp
theorem mem_compact (l : List Int) (x : Int) : x ∈ compact l ↔ x ∈ l := by
 unfold compact compactUpTo
 simp only [List.mem_map, List.mem_filter, List.mem_range]
 constructor
 ·rintro ⟨j, ⟨hj, _⟩, rfl⟩
  rw [arr_get! hj]
  exact List.getElem_mem hj
 ·intro hx
  have key : ∀ n (j : Nat) (hj : j < l.length), j ≤ n → l[j] = x → ∃ i, (i < l.length ∧ keeps l.toArray i = true) ∧ l.toArray[i]! = x := by
   intro n
   induction n with
   | zero =>
    intro j hj hn e
    obtain rfl : j = 0 := by omega
    exact ⟨0, ⟨hj, keeps_lt_one _ 0 (by omega)⟩, by rw [arr_get! hj, e]⟩
   | succ n ih =>
    intro j hj hn e
    by_cases h0 : j = 0
    ·subst h0
     exact ⟨0, ⟨hj, keeps_lt_one _ 0 (by omega)⟩, by rw [arr_get! hj, e]⟩
    by_cases hp : l[j - 1] = x
    ·exact ih (j - 1) (by omega) (by omega) hp
    ·refine ⟨j, ⟨hj, keeps_pos ?_⟩, by rw [arr_get! hj, e]⟩
     rw [arr_get! hj, arr_get! (show j - 1 < l.length by omega), e]
     exact fun h => hp h.symm
  obtain ⟨j, hj, e⟩ := List.getElem_of_mem hx
  exact key j j hj (Nat.le_refl _) e
theorem keeps_ne {l : List Int} {j : Nat} (h0 : 0 < j) (hj : j < l.length) (h : keeps l.toArray j = true) : l[j] ≠ l[j - 1] := by
 intro e
 have := keeps_neg (d := l.toArray) h0 (by rw [arr_get! hj, arr_get! (show j - 1 < l.length by omega)]; exact e)
 rw [this] at h; cases h
theorem compact_lt {l : List Int} (h : l.Pairwise (· ≤ ·)) : (compact l).Pairwise (· < ·) := by
 unfold compact compactUpTo
 rw [List.pairwise_map]
 refine List.Pairwise.imp_of_mem ?_ (List.Pairwise.filter _ List.pairwise_lt_range)
 intro i j hi hj hij
 simp only [List.mem_filter, List.mem_range] at hi hj
 rw [arr_get! hi.1, arr_get! hj.1]
 have h1 := keeps_ne (by omega) hj.1 hj.2
 have hp := List.pairwise_iff_getElem.1 h
 have h2 : l[j - 1] ≤ l[j] := hp (j - 1) j (by omega) hj.1 (by omega)
 have h3 : l[i] ≤ l[j - 1] := by
  by_cases e : i = j - 1
  ·subst e; omega
  ·exact hp i (j - 1) hi.1 (by omega) (by omega)
 omega
theorem mem_rise (l : List Int) (x : Int) : x ∈ riseL l ↔ x ∈ l := by
 unfold riseL
 rw [mem_compact, List.mem_mergeSort]
theorem sorted_le (l : List Int) : (l.mergeSort fun x y => decide (x ≤ y)).Pairwise (· ≤ ·) := by
 have := List.pairwise_mergeSort (le := fun x y : Int => decide (x ≤ y)) (by intro a b c; simp; omega) (by intro a b; simp; omega) l
 simpa using this
theorem rise_lt (l : List Int) : (riseL l).Pairwise (· < ·) := compact_lt (sorted_le l)
theorem lt_ext : ∀ {l m : List Int}, l.Pairwise (· < ·) → m.Pairwise (· < ·) → (∀ x, x ∈ l ↔ x ∈ m) → l = m
 | [], [], _, _, _ => rfl
 | [], y :: m, _, _, h => by have := (h y).2 (by simp); cases this
 | x :: l, [], _, _, h => by have := (h x).1 (by simp); cases this
 | x :: l, y :: m, hl, hm, h => by
  rw [List.pairwise_cons] at hl hm
  have hxy : x = y := by
   have h1 := (h x).1 (by simp)
   have h2 := (h y).2 (by simp)
   rw [List.mem_cons] at h1 h2
   rcases h1 with h1 | h1
   ·exact h1
   ·rcases h2 with h2 | h2
    ·exact h2.symm
    ·have := hl.1 _ h2; have := hm.1 _ h1; omega
  subst hxy
  rw [lt_ext hl.2 hm.2 fun z => ?_]
  have := h z
  simp only [List.mem_cons] at this
  constructor
  ·intro hz
   have hlt := hl.1 z hz
   exact (this.1 (.inr hz)).resolve_left (by omega)
  ·intro hz
   have hlt := hm.1 z hz
   exact (this.2 (.inr hz)).resolve_left (by omega)
theorem rise_len {l : List Int} (h : l.Nodup) : (riseL l).length = l.length := by
 have h1 : (riseL l).Nodup := (rise_lt l).imp fun h => by omega
 have : (riseL l).Perm l := (List.perm_ext_iff_of_nodup h1 h).2 (mem_rise l)
 exact this.length_eq
end Go.Cb
namespace Go.Cb
open Go.Proofs
set_option maxRecDepth 100000
set_option maxHeartbeats 4000000
end Go.Cb
namespace Go.Proofs
open Go.Shelf
def Tryz.lays189_ren : Go.Shelf.Ren := ⟨fun | 189 => 79 | 125 => 108 | 257 => 107 | 128 => 134 | 129 => 135 | 294 => 125 | 295 => 126 | 296 => 127 | 297 => 128 | 298 => 129 | 299 => 130 | 216 => 131 | 300 => 132 | 301 => 133 | 328 => 149 | 329 => 150 | 330 => 151 | 331 => 152 | 332 => 153 | 215 => 154 | 343 => 175 | n => n, fun | 28 => 23 | 3 => 3 | 46 => 165 | 0 => 0 | 51 => 190 | 53 => 192 | 4 => 4 | 183 => 184 | 182 => 183 | 131 => 132 | 5 => 5 | 9 => 9 | 218 => 206 | 222 => 210 | 228 => 235 | 229 => 212 | n => n, fun | n => n⟩
theorem Tryz.lays189 : Go.Proofs.Lays.n189 Tryz.prog Tryz.lays189_ren := {
 mixed := by kernel_rfl
 f125 := Tryz.func108.trans (congrArg some (by kernel_rfl))
 f128 := Tryz.func134.trans (congrArg some (by kernel_rfl))
 f129 := Tryz.func135.trans (congrArg some (by kernel_rfl))
 f189 := Tryz.func79.trans (congrArg some (by kernel_rfl))
 f215 := Tryz.func154.trans (congrArg some (by kernel_rfl))
 f216 := Tryz.func131.trans (congrArg some (by kernel_rfl))
 f257 := Tryz.func107.trans (congrArg some (by kernel_rfl))
 f294 := Tryz.func125.trans (congrArg some (by kernel_rfl))
 f295 := Tryz.func126.trans (congrArg some (by kernel_rfl))
 f296 := Tryz.func127.trans (congrArg some (by kernel_rfl))
 f297 := Tryz.func128.trans (congrArg some (by kernel_rfl))
 f298 := Tryz.func129.trans (congrArg some (by kernel_rfl))
 f299 := Tryz.func130.trans (congrArg some (by kernel_rfl))
 f300 := Tryz.func132.trans (congrArg some (by kernel_rfl))
 f301 := Tryz.func133.trans (congrArg some (by kernel_rfl))
 f328 := Tryz.func149.trans (congrArg some (by kernel_rfl))
 f329 := Tryz.func150.trans (congrArg some (by kernel_rfl))
 f330 := Tryz.func151.trans (congrArg some (by kernel_rfl))
 f331 := Tryz.func152.trans (congrArg some (by kernel_rfl))
 f332 := Tryz.func153.trans (congrArg some (by kernel_rfl))
 f343 := Tryz.func175.trans (congrArg some (by kernel_rfl))
 t0 := Tryz.underlying0
 a0 := Tryz.isAgg0
 z0 := Tryz.sizeOf0
 v0 := Tryz.zeroValue0
 t3 := Tryz.underlying3
 a3 := Tryz.isAgg3
 z3 := Tryz.sizeOf3
 v3 := Tryz.zeroValue3
 t4 := Tryz.underlying4
 a4 := Tryz.isAgg4
 z4 := Tryz.sizeOf4
 v4 := Tryz.zeroValue4
 t5 := Tryz.underlying5
 a5 := Tryz.isAgg5
 z5 := Tryz.sizeOf5
 v5 := Tryz.zeroValue5
 t9 := Tryz.underlying9
 a9 := Tryz.isAgg9
 z9 := Tryz.sizeOf9
 v9 := Tryz.zeroValue9
 t28 := Tryz.underlying23
 a28 := Tryz.isAgg23
 z28 := Tryz.sizeOf23
 v28 := Tryz.zeroValue23
 t46 := Tryz.underlying165
 a46 := Tryz.isAgg165
 z46 := Tryz.sizeOf165
 v46 := Tryz.zeroValue165
 t51 := Tryz.underlying190
 a51 := Tryz.isAgg190
 z51 := Tryz.sizeOf190
 v51 := Tryz.zeroValue190
 t53 := Tryz.underlying192
 a53 := Tryz.isAgg192
 z53 := Tryz.sizeOf192
 v53 := Tryz.zeroValue192
 t131 := Tryz.underlying132
 a131 := Tryz.isAgg132
 z131 := Tryz.sizeOf132
 v131 := Tryz.zeroValue132
 t182 := Tryz.underlying183
 a182 := Tryz.isAgg183
 z182 := Tryz.sizeOf183
 v182 := Tryz.zeroValue183
 t183 := Tryz.underlying184
 a183 := Tryz.isAgg184
 z183 := Tryz.sizeOf184
 v183 := Tryz.zeroValue184
 t218 := Tryz.underlying206
 a218 := Tryz.isAgg206
 z218 := Tryz.sizeOf206
 v218 := Tryz.zeroValue206
 t222 := Tryz.underlying210
 a222 := Tryz.isAgg210
 z222 := Tryz.sizeOf210
 v222 := Tryz.zeroValue210
 t228 := Tryz.underlying235
 a228 := Tryz.isAgg235
 z228 := Tryz.sizeOf235
 v228 := Tryz.zeroValue235
 t229 := Tryz.underlying212
 a229 := Tryz.isAgg212
 z229 := Tryz.sizeOf212
 v229 := Tryz.zeroValue212 }
def Tryz.laysNm220_ren : Go.Shelf.Ren := ⟨fun | 20 => 80 | n => n, fun | 22 => 23 | 3 => 3 | 4 => 4 | 0 => 0 | n => n, fun | n => n⟩
theorem Tryz.laysNm220 : Go.Proofs.Lays2.n20 Tryz.prog Tryz.laysNm220_ren := {
 mixed := by kernel_rfl
 f20 := Tryz.func80.trans (congrArg some (by kernel_rfl))
 t0 := Tryz.underlying0
 a0 := Tryz.isAgg0
 z0 := Tryz.sizeOf0
 v0 := Tryz.zeroValue0
 t3 := Tryz.underlying3
 a3 := Tryz.isAgg3
 z3 := Tryz.sizeOf3
 v3 := Tryz.zeroValue3
 t4 := Tryz.underlying4
 a4 := Tryz.isAgg4
 z4 := Tryz.sizeOf4
 v4 := Tryz.zeroValue4
 t22 := Tryz.underlying23
 a22 := Tryz.isAgg23
 z22 := Tryz.sizeOf23
 v22 := Tryz.zeroValue23
 i3 := by kernel_rfl }
end Go.Proofs
namespace Go.Cb
open Go.Proofs Go.Sort
open Go.RowKit (Below)
set_option maxRecDepth 100000
set_option maxHeartbeats 4000000
theorem flat_ints : ∀ l : List Int, flat (l.map (PV.int .i64)) = l.map (PV.int .i64)
 | [] => rfl
 | x :: l => by
  have := flat_ints l
  simp only [flat, List.map_cons, List.flatMap_cons, PV.cellsOf] at this ⊢
  rw [this]; rfl
theorem repL_ints (F : Fz) : ∀ l : List Int, RepL F (l.map (PV.int .i64)) (l.map (Value.int .i64))
 | [] => RepL_nil F
 | x :: l => RepL_cons.2 ⟨⟨rfl, by simp only [Rep]⟩, repL_ints F l⟩
theorem repL_ints_eq {F : Fz} : ∀ {l : List Int} {xs : List Value}, RepL F (l.map (PV.int .i64)) xs → xs = l.map (Value.int .i64)
 | [], [], _ => rfl
 | [], _ :: _, h => by simp only [List.map_nil, RepL] at h
 | _ :: _, [], h => by simp only [List.map_cons, RepL] at h
 | x :: l, v :: xs, h => by
  have h := RepL_cons.1 h
  have h1 : v = .int .i64 x := by simpa only [Rep] using h.1.2
  rw [h1, repL_ints_eq h.2]; rfl
theorem Sim.putInts {w0 : World} {F : Fz} {M : List Ent} {w : World} {t : Tok} {l ts : List Int} (h : Sim w0 F (.row t (l.map (PV.int .i64)) :: M) w) (hs : t.s = 1) (hlen : ts.length = l.length) {g : Nat} (hg : t.b = some g) (q : Nat) (os : Array Obj) :
  Sim w0 F (.row t (ts.map (PV.int .i64)) :: M) (grow (putRow (Value.int .i64) (Sort.ahead w q) g 0 ts.toArray) os) := by
 obtain ⟨⟨xs, hown, hr⟩, hes, e2, hfree⟩ := h.ent _ (List.mem_cons_self ..)
 rcases hown.2 with ⟨h1, _⟩ | ⟨g', cap, cur, hb, hv, hB, hh, hnc, hcm, hsz, htake⟩
 ·rw [h1] at hg; cases hg
 obtain rfl : g' = g := by rw [hb] at hg; simpa using hg
 have hsep := List.pairwise_cons.1 h.sep
 have hgr : w.grownBy (grow (putRow (Value.int .i64) (Sort.ahead w q) g' 0 ts.toArray) os) (some g') := grownBy_sortedI ts.toArray
 have hn : l.length = t.n := by simpa using e2
 have hfl : flat (ts.map (PV.int .i64)) = ts.map (PV.int .i64) := flat_ints ts
 refine Sim.rowE (t := t) (ys := ts.map (PV.int .i64)) (xs := ts.map (Value.int .i64)) h.tail ((Below.refl _ w).grown hgr h.below.size fun k hk => by simp at hk; omega) ?_ (by simp [hs, PV.cellsOf]) (by simp; omega) (by rw [hfl]; exact repL_ints F ts) ?_ ?_ hfree
 ·refine ⟨by simp [hs]; omega, .inr ⟨g', cap, _, hb, hv, hB, heap_sortedI ts.toArray hh, hnc, hcm, by simp [putCells, hsz], ?_⟩⟩
  have : t.n * t.s = ts.length := by rw [hs]; omega
  rw [this]
  exact take_putCellsI cur ts (by rw [hsz, hs]; omega)
 ·intro b o u x
  have hne : b ≠ g' := fun e => by rw [e, hfree g' hb o] at x; cases x
  have hlt := World.block_lt_of_cell? w _ (h.fz b o u x)
  rw [World.cell?_of_block (w := w) (hgr.block b hlt (by simp; omega))]
  exact h.fz b o u x
 ·intro e he k hk
  have hne : t.b ≠ some k := by
   rcases hsep.1 e he with hh | hh
   ·simp only [Ent.blk] at hh; rw [hh]; simp
   ·intro hx; exact hh (by rw [hk]; exact hx)
  have hlt := (Ent.blk_lt (h.ent e (List.mem_cons_of_mem _ he)) hk).2
  exact ⟨hgr.block k hlt (by rw [hb] at hne; exact fun e => hne e.symm), hne⟩
theorem compact_len (l : List Int) : (Lib.compact l).length ≤ l.length := by
 unfold Lib.compact Lib.compactUpTo
 rw [List.length_map]
 exact Nat.le_trans (List.length_filter_le _ _) (by simp)
theorem row_ints {w0 : World} {F : Fz} {M : List Ent} {w : World} {t : Tok} {l : List Int} (h : Sim w0 F (.row t (l.map (PV.int .i64)) :: M) w) (hs : t.s = 1) :
  (l = [] ∧ ∃ p, t.v = .slice p 0 0) ∨ ∃ g cap, t.b = some g ∧ t.v = .slice (some ⟨g, 0, none⟩) l.length cap ∧ Holds (Value.int .i64) w g 0 l.toArray ∧ g < w.heap.size ∧ l.length ≤ cap ∧ t.n = l.length := by
 obtain ⟨⟨xs, hown, hr⟩, hes, e2, hfree⟩ := h.ent _ (List.mem_cons_self ..)
 have hn : l.length = t.n := by simpa using e2
 rcases hown.2 with ⟨h1, h2, h3⟩ | ⟨g, cap, cur, hb, hv, hB, hh, hnc, hcm, hsz, htake⟩
 ·refine .inl ⟨List.eq_nil_of_length_eq_zero (by omega), ?_⟩
  rcases h3 with h3 | ⟨a, h3⟩
  ·exact ⟨none, h3⟩
  ·exact ⟨some a, h3⟩
 ·rw [flat_ints] at hr
  have hx := repL_ints_eq hr
  refine .inr ⟨g, cap, hb, by rw [hn]; exact hv, holds_of_blockI (e := t.e) (cur := cur) hh (by rw [← hx, ← htake, hs, hn, Nat.mul_one]), (Array.getElem?_eq_some_iff.1 hh).1, by omega, hn.symm⟩
theorem sort_c (t : Tok) (l : List Int) (hs : t.s = 1) (hl : l.length ≤ 1000000000) :
  ACall Tryz.prog 79 [.ms t] [.row t (l.map (PV.int .i64))] (fun y Γ' => y = .tup [] ∧ Γ' = [.row t ((l.mergeSort fun x y => decide (x ≤ y)).map (PV.int .i64))]) := by
 refine ⟨⟨_, Tryz.func79, rfl, rfl⟩, fun w0 F M w vs hS hT => ?_⟩
 obtain rfl : vs = [t.v] := by
  match vs, hT with
  | [v], hT => simp only [RepT, Rep, and_true] at hT; rw [hT.1]
 rcases row_ints hS hs with ⟨rfl, p, hv⟩ | ⟨g, cap, hb, hv, hH, hg, hc, hn⟩
 ·rw [hv]
  refine (Any.slices_Sort_int_none Tryz.lays189 p 0 w).mono ?_
  rintro e w' ⟨rfl, rfl⟩
  exact ⟨_, F, .tup [], _, rfl, Fz.le_refl F, hS, by simp only [Rep]; exact ⟨[], rfl, by simp [RepT]⟩, rfl, by simp⟩
 ·rw [hv]
  refine (Any.slices_Sort_int Tryz.lays189 g 0 cap l w hH hg (by omega)).mono ?_
  rintro e w' ⟨rfl, q, os, rfl⟩
  exact ⟨_, F, .tup [], _, rfl, Fz.le_refl F, hS.putInts hs (by simp) hb q os, by simp only [Rep]; exact ⟨[], rfl, by simp [RepT]⟩, rfl, rfl⟩
theorem compact_c (t : Tok) (l : List Int) (hs : t.s = 1) (hl : l.length ≤ 1000000000) :
  ACall Tryz.prog 80 [.ms t] [.row t (l.map (PV.int .i64))] (fun y Γ' => ∃ t' : Tok, t'.e = t.e ∧ t'.s = 1 ∧ y = .ms t' ∧ Γ' = [.row t' ((Lib.compact l).map (PV.int .i64))]) := by
 refine ⟨⟨_, Tryz.func80, rfl, rfl⟩, fun w0 F M w vs hS hT => ?_⟩
 obtain ⟨rfl, h1⟩ : vs = [t.v] ∧ t.v.oneCell' = true := by
  match vs, hT with
  | [v], hT => simp only [RepT, Rep, and_true] at hT; rw [hT.1]; exact ⟨rfl, hT.2⟩
 rcases row_ints hS hs with ⟨rfl, p, hv⟩ | ⟨g, cap, hb, hv, hH, hg, hc, hn⟩
 ·rw [hv]
  refine (Any.slices_Compact_int_empty Tryz.laysNm220 p 0 w).mono ?_
  rintro e w' ⟨rfl, rfl⟩
  exact ⟨_, F, .ms t, _, rfl, Fz.le_refl F, hS, by simp only [Rep]; exact ⟨hv.symm, h1⟩, t, rfl, hs, rfl, by simp [Lib.compact, Lib.compactUpTo]⟩
 ·rw [hv]
  refine (Any.slices_Compact_int Tryz.laysNm220 g 0 cap l w hH (by omega) hc).mono ?_
  rintro e w' ⟨rfl, q, rfl⟩
  have hle := compact_len l
  have h2 := hS.putInts (ts := Lib.compact l ++ List.replicate (l.length - (Lib.compact l).length) 0) hs (by simp; omega) hb q #[]
  rw [grow_empty] at h2
  have h3 := Sim.take_row (M1 := []) h2 hb (by rw [hn]; exact hv) (Lib.compact l).length (by simp)
  have fin : ∀ T : Tok, T = ⟨.slice (some ⟨g, 0, none⟩) (Lib.compact l).length cap, (Lib.compact l).length, t.s, t.e, some g⟩ → ∃ v F' y Γ', (Ending.returned (.slice (some ⟨g, 0, none⟩) (Lib.compact l).length cap)) = .returned v ∧ F.le F' ∧ Sim w0 F' (Γ' ++ M) (putRow (Value.int .i64) (Sort.ahead w q) g 0 (Lib.compact l ++ List.replicate (l.length - (Lib.compact l).length) 0).toArray) ∧ Rep F' y v ∧ ∃ t' : Tok, t'.e = t.e ∧ t'.s = 1 ∧ y = .ms t' ∧ Γ' = [.row t' ((Lib.compact l).map (PV.int .i64))] := by
   intro T hT
   subst hT
   refine ⟨_, F, .ms ⟨.slice (some ⟨g, 0, none⟩) (Lib.compact l).length cap, (Lib.compact l).length, t.s, t.e, some g⟩, [.row ⟨.slice (some ⟨g, 0, none⟩) (Lib.compact l).length cap, (Lib.compact l).length, t.s, t.e, some g⟩ ((Lib.compact l).map (PV.int .i64))], rfl, Fz.le_refl F, ?_, by unfold Rep; exact ⟨rfl, rfl⟩, ⟨.slice (some ⟨g, 0, none⟩) (Lib.compact l).length cap, (Lib.compact l).length, t.s, t.e, some g⟩, rfl, hs, rfl, rfl⟩
   simpa using h3
  exact fin _ rfl
end Go.Cb
namespace Go.Cb
open Go.Proofs
set_option maxRecDepth 100000
set_option maxHeartbeats 4000000
theorem rising_c (t : Tok) (l : List Int) (hs : t.s = 1) (hl : l.length ≤ 1000000000) :
  ACall Tryz.prog 41 [.ms t] [.row t (l.map (PV.int .i64))] (fun y Γ' => ∃ t' : Tok, t'.e = t.e ∧ t'.s = 1 ∧ y = .ms t' ∧ Γ' = [.row t' ((riseL l).map (PV.int .i64))]) := by
 refine ACall.of_body tt_ok Tryz.func41 rfl rfl (n := 7) rfl rfl ?_
 conv => whnf
 skip
 refine PCall.go (sort_c t l hs hl) (WkT.refl _) ?_
 rintro _ _ ⟨rfl, rfl⟩
 conv => whnf
 skip
 refine PCall.go (compact_c t (l.mergeSort fun x y => decide (x ≤ y)) hs (by simp; omega)) (WkT.refl _) ?_
 rintro _ _ ⟨t2, e2, s2, rfl, rfl⟩
 conv => whnf
 skip
 have e : Lib.compact (l.mergeSort fun x y => decide (x ≤ y)) = riseL l := rfl
 rw [e]
 exact PRet.gen (Wk.refl _) ⟨t2, e2, s2, rfl, rfl⟩
def bindsOf (l : List (Trm × List Int)) : List Int := l.flatMap fun m => m.1.v
theorem bindsOf_take (l : List (Trm × List Int)) (k : Nat) : (bindsOf (l.take k)).length ≤ (bindsOf l).length := by
 have := congrArg List.length (congrArg bindsOf (List.take_append_drop k l))
 unfold bindsOf at this ⊢
 rw [List.flatMap_append, List.length_append] at this
 omega
theorem Trm.met_vlen (t : Trm) : ∀ (sc : List Int) (deep : Int), (bindsOf (t.met sc deep)).length ≤ t.bulk := by
 induction t using Trm.ind with
 | h t ih =>
  intro sc deep
  rw [Trm.met_eq, t.bulk_eq]
  have key : ∀ (l : List Trm), (∀ y ∈ l, ∀ (sc : List Int) (deep : Int), (bindsOf (y.met sc deep)).length ≤ y.bulk) → ∀ sc inner deep, (bindsOf (Trm.mets t.op sc inner l deep)).length ≤ Trm.bulks l := by
   intro l
   induction l with
   | nil => intro _ _ _ _; simp [Trm.mets, bindsOf]
   | cons x l ihl =>
    intro hy sc inner deep
    have h1 := hy x (by simp) (if groupB t.op = true ∨ l = [] then inner else sc) deep
    have h2 := ihl (fun y h => hy y (by simp [h])) sc inner deep
    unfold bindsOf at h1 h2 ⊢
    rw [Trm.mets, Trm.bulks, List.flatMap_append, List.length_append]
    omega
  have := key t.t ih sc (sc ++ t.v) (deep + 1)
  unfold bindsOf at this ⊢
  rw [List.flatMap_cons, List.length_append]
  split
  ·simp; omega
  ·show t.v.length + _ ≤ _
   omega
theorem binds_c0 (t : Trm) (hb : t.bulk ≤ 1000000000) : ACall Tryz.prog 24 [.agg t.cells] [] (fun y Γ' => ∃ tk : Tok, tk.e = 3 ∧ tk.s = 1 ∧ y = .ms tk ∧ Γ' = [.row tk ((riseL (bindsOf t.all)).map (PV.int .i64))]) := by
 have hlen : (bindsOf t.all).length ≤ t.bulk := t.met_vlen [] 0
 refine ACall.of_body tt_ok Tryz.func24 rfl rfl (n := 15) rfl rfl ?_
 conv => whnf
 repeat' (first|refine aA0 ?_|((intro _);conv=>whnf)|(refine zX (fun hc=>?_) (fun hc=>?_)<;>(try simp only [SY] at hc)<;>omega))
 rename_i bt bo
 refine PCall.goG (Ghost.trans (Ghost.nilRow 1 3 _) (Ghost.box (b := bo) (cs := [.nil]) (cs' := [.ms (nilTok 1 3)]) (.cons (Wk.nilRow 1 3) .nil))) (all_c t) (WkT.refl _) ?_
 rintro _ _ ⟨b, rfl, rfl⟩
 conv => whnf
 skip
 refine PRange.go (t.all.map fun m => [metP m]) (fun s : Tok × List Int => [.box bo [.ms s.1], .row s.1 (s.2.map (PV.int .i64))]) (fun k s => s.1.e = 3 ∧ s.1.s = 1 ∧ s.2 = bindsOf (t.all.take k)) (fun _ _ => False) (nilTok 1 3, []) (all1_c b t hb) ⟨rfl, rfl, rfl⟩
  (hp := (inferInstance : PickL _ [.box bo [.ms (nilTok 1 3)], .row (nilTok 1 3) [], .box b t.cells] _)) (by intro ys hy; obtain ⟨m, _, rfl⟩ := List.mem_map.1 hy; rfl) ?_ ?_ (fun _ _ _ h => h.elim)
 ·rintro k ys ⟨tk, l⟩ hk ⟨k1, k2, k3⟩
  dsimp only at k1 k2 k3 ⊢
  obtain ⟨m, hm, rfl⟩ : ∃ m, t.all[k]? = some m ∧ ys = [metP m] := by
   rw [List.getElem?_map] at hk
   cases h : t.all[k]? with
   | none => rw [h] at hk; cases hk
   | some m => rw [h] at hk; cases hk; exact ⟨m, rfl, rfl⟩
  obtain ⟨hlt, hmg⟩ := List.getElem?_eq_some_iff.1 hm
  have hst : bindsOf (t.all.take (k + 1)) = bindsOf (t.all.take k) ++ m.1.v := by
   rw [List.take_succ_eq_append_getElem hlt, bindsOf, List.flatMap_append, hmg]
   simp [bindsOf]
  have hll : l.length + m.1.v.length ≤ 1000000000 := by
   have h1 : (bindsOf (t.all.take (k + 1))).length ≤ (bindsOf t.all).length := bindsOf_take _ _
   rw [hst, List.length_append, ← k3] at h1
   omega
  conv => whnf
  repeat' (first|refine aA0 ?_|((intro _);conv=>whnf)|(refine zX (fun hc=>?_) (fun hc=>?_)<;>(try simp only [SY] at hc)<;>omega))
  refine ⟨rfl, ?_⟩
  conv => whnf
  repeat' (first|refine aA0 ?_|(refine zX (fun hc=>?_) (fun hc=>?_)<;>(try simp only [SY] at hc)<;>omega))
  refine PAppend.rowList (f := PV.int .i64) (l := l) (m := m.1.v) k1 k2 (Wk.tok _ _ _) (by omega) (by show _ * 8 ≤ _; omega) (fun t3 e3 s3 => ?_)
  conv => whnf
  repeat (refine aR0 ?_)
  exact roundEnd (k := k) (G := fun s : Tok × List Int => [.box bo [.ms s.1], .row s.1 (s.2.map (PV.int .i64))]) (I := fun k s => s.1.e = 3 ∧ s.1.s = 1 ∧ s.2 = bindsOf (t.all.take k)) (X := fun _ _ => False) (t3, l ++ m.1.v) ⟨e3, s3, by show l ++ m.1.v = bindsOf (t.all.take (k + 1)); rw [hst, k3]⟩ (hp := (inferInstance : PickL _ [.box bo [.ms t3], .row t3 ((l ++ m.1.v).map (PV.int .i64))] _))
 ·rintro bd ⟨tk, l⟩ ⟨k1, k2, k3⟩
  dsimp only at k1 k2 k3 ⊢
  rw [List.length_map, List.take_length] at k3
  subst k3
  have hfl : (bindsOf t.all).length ≤ 1000000000 := by omega
  conv => whnf
  repeat' (first|refine aA0 ?_|(refine zX (fun hc=>?_) (fun hc=>?_)<;>(try simp only [SY] at hc)<;>omega))
  refine PCall.goR [.ob bd dfrO [] [], .box bo [.ms tk]] (rising_c tk (bindsOf t.all) k2 hfl) (WkT.refl _) (List.Perm.refl _) ?_
  rintro _ _ ⟨t4, e4, s4, rfl, rfl⟩
  conv => whnf
  skip
  refine PMark.at_ rfl ?_
  conv => whnf
  exact PRet.gen (y := .ms t4) (Wk.refl _) ⟨t4, e4.trans k1, s4, rfl, rfl⟩
theorem binds_c (t : Trm) (hb : t.bulk ≤ 1000000000) : ACallP Tryz.prog 24 [.agg t.cells] (slI (riseL (bindsOf t.all))) :=
 ACallP.of_any ((binds_c0 t hb).shift fun y Γ' hq => by
  obtain ⟨tk, h1, h2, rfl, rfl⟩ := hq
  exact ⟨_, _, Shift.freezeRow (es := (riseL (bindsOf t.all)).map (PV.int .i64)) (WkF.ms' h2), rfl⟩)
end Go.Cb
namespace Go.Cb
open Go.Proofs
set_option maxRecDepth 100000
set_option maxHeartbeats 4000000
mutual
def Trm.sh (k : Int) : Trm → Trm
 | .mk op n v t => .mk op (if namesB op = true then n + k else n) (v.map (· + k)) (Trm.shs k t)
def Trm.shs (k : Int) : List Trm → List Trm
 | [] => []
 | x :: xs => Trm.sh k x :: Trm.shs k xs
end
end Go.Cb
namespace Go.Cb
open Go.Proofs
set_option maxRecDepth 100000
set_option maxHeartbeats 4000000
mutual
def Trm.asg : Trm → List Int
 | .mk op n _ t => (if op = 2 ∨ op = 14 then [n] else []) ++ Trm.asgs t
def Trm.asgs : List Trm → List Int
 | [] => []
 | x :: xs => Trm.asg x ++ Trm.asgs xs
end
theorem Trm.asg_eq (t : Trm) : t.asg = (if t.op = 2 ∨ t.op = 14 then [t.n] else []) ++ Trm.asgs t.t := by cases t; rw [Trm.asg]; rfl
theorem Trm.asgs_flat : ∀ l : List Trm, Trm.asgs l = l.flatMap Trm.asg
 | [] => by simp [Trm.asgs]
 | x :: l => by rw [Trm.asgs, Trm.asgs_flat l]; rfl
def refT (v : Int) : Trm := .mk 1 v [] []
def boxT (t : Trm) : Trm := .mk 15 0 [] [t]
def lamV (A : Int → Bool) : List Int → Int → List Int
 | [], _ => []
 | x :: xs, k => if A x = true then k :: lamV A xs (k + 1) else x :: lamV A xs k
def lamT (A : Int → Bool) : List Int → Int → List Trm
 | [], _ => []
 | x :: xs, k => if A x = true then boxT (refT k) :: lamT A xs (k + 1) else lamT A xs k
def lamN (A : Int → Bool) (l : List Int) : Int := ((l.filter A).length : Int)
def boxAll (A : Int → Bool) : List Int → List Trm → List Trm
 | v :: vs, x :: xs => (if A v = true then boxT x else x) :: boxAll A vs xs
 | _, l => l
def fixT (A : Int → Bool) : List Int → List Trm → List Trm
 | v :: vs, x :: xs => if A v = true then fixT A vs xs else x :: fixT A vs xs
 | _, _ => []
def fixO (A : Int → Bool) : List Int → List Trm → Trm → Trm
 | v :: vs, x :: xs, o => if A v = true then .mk 6 0 [] [.mk 17 0 [] [refT v, x], fixO A vs xs o] else fixO A vs xs o
 | _, _, o => o
def fixE (A : Int → Bool) (vs : List Int) (l : List Trm) : Trm :=
 let o := fixO A vs l (l.getD vs.length (refT 0))
 if vs.filter (fun v => !A v) = [] then o else .mk 9 0 (vs.filter fun v => !A v) (fixT A vs l ++ [o])
def fixR (A : Int → Bool) (vs : List Int) (l : List Trm) : Trm :=
 .mk 8 0 (vs.filter A) ((vs.filter A).map (fun _ => boxT (.mk 13 0 [] [])) ++ [fixE A vs l])
mutual
def Trm.fr (A : Int → Bool) : Trm → Int
 | .mk op _ v t => (if op = 4 then lamN A v else 0) + Trm.frs A t
def Trm.frs (A : Int → Bool) : List Trm → Int
 | [] => 0
 | x :: xs => Trm.fr A x + Trm.frs A xs
end
mutual
def Trm.cv (A : Int → Bool) : Trm → Int → Trm
 | .mk op n v t, k =>
  if op = 1 ∧ A n = true then .mk 16 0 [] [.mk op n v t]
  else if op = 2 then .mk 17 0 [] (refT n :: Trm.cvs A t k)
  else if op = 14 then .mk 18 0 [] (refT n :: Trm.cvs A t k)
  else if op = 4 then .mk 4 n (lamV A v k) (if v.filter A = [] then Trm.cvs A t (k + lamN A v) else [.mk 8 0 (v.filter A) (lamT A v k ++ Trm.cvs A t (k + lamN A v))])
  else if op = 9 ∧ v.any A = true then fixR A v (Trm.cvs A t k)
  else .mk op n v (if op = 8 then boxAll A v (Trm.cvs A t k) else Trm.cvs A t k)
def Trm.cvs (A : Int → Bool) : List Trm → Int → List Trm
 | [], _ => []
 | x :: xs, k => Trm.cv A x k :: Trm.cvs A xs (k + Trm.fr A x)
end
mutual
def Trm.shp : Trm → Prop
 | .mk op n v t => ((op = 1 → v = [] ∧ t = []) ∧ (op = 2 ∨ op = 14 ∨ op = 4 → t.length = 1) ∧ (op = 8 ∨ op = 9 → t.length = v.length + 1) ∧ (op = 9 → n = 0)) ∧ Trm.shps t
def Trm.shps : List Trm → Prop
 | [] => True
 | x :: xs => Trm.shp x ∧ Trm.shps xs
end
theorem Trm.shp_eq (t : Trm) : t.shp ↔ ((t.op = 1 → t.v = [] ∧ t.t = []) ∧ (t.op = 2 ∨ t.op = 14 ∨ t.op = 4 → t.t.length = 1) ∧ (t.op = 8 ∨ t.op = 9 → t.t.length = t.v.length + 1) ∧ (t.op = 9 → t.n = 0)) ∧ Trm.shps t.t := by
 cases t; rw [Trm.shp]; rfl
mutual
def Trm.nam : Trm → List Int
 | .mk op n v t => (if op = 1 then [n] else []) ++ v ++ Trm.nams t
def Trm.nams : List Trm → List Int
 | [] => []
 | x :: xs => Trm.nam x ++ Trm.nams xs
end
def Trm.sz (l : List Trm) : Int := Trm.cnts l
def Szs : List Trm → List Trm → Prop
 | [], [] => True
 | x :: l, y :: m => x.cnt = y.cnt ∧ Szs l m
 | _, _ => False
theorem Szs.getD : ∀ {l m : List Trm} (i : Nat) (d : Trm), Szs l m → (l.getD i d).cnt = (m.getD i d).cnt
 | [], [], _, _, _ => rfl
 | x :: l, y :: m, 0, d, h => by simpa using h.1
 | x :: l, y :: m, i + 1, d, h => by simpa using h.2.getD i d
 | [], _ :: _, _, _, h => h.elim
 | _ :: _, [], _, _, h => h.elim
section
variable {A B : Int → Bool} {s : Int} (hAB : ∀ v, B (v + s) = A v)
include hAB
end
end Go.Cb
namespace Go.Cb
open Go.Proofs
set_option maxRecDepth 100000
set_option maxHeartbeats 4000000
theorem Trm.bulks_append : ∀ l m : List Trm, Trm.bulks (l ++ m) = Trm.bulks l + Trm.bulks m
 | [], m => by simp [Trm.bulks]
 | x :: l, m => by rw [List.cons_append, Trm.bulks, Trm.bulks, Trm.bulks_append l m]; omega
end Go.Cb
namespace Go.Cb
open Go.Proofs
set_option maxRecDepth 100000
set_option maxHeartbeats 4000000
abbrev boxV (c : Nat) : Vl := .mk 11 0 0 [] [] none (some c)
def ERa (A : Int → Bool) (w : Wd) (e e' : EnvM) (scope : List Int) : Prop :=
 ∀ v ∈ scope, ∃ a b, fndM e v = some a ∧ fndM e' v = some b ∧ (A v = true → ∃ c, w.f b (boxV c) ∧ w.m a c) ∧ (A v = false → w.m a b)
theorem ERa.up {A : Int → Bool} {w w' : Wd} {e e' : EnvM} {scope : List Int} (hw : w.le w') (h : ERa A w e e' scope) : ERa A w' e e' scope := fun v hv => by
 obtain ⟨a, b, h1, h2, h3, h4⟩ := h v hv
 exact ⟨a, b, h1, h2, fun hA => (by obtain ⟨c, k1, k2⟩ := h3 hA; exact ⟨c, hw.2.1 _ _ k1, hw.1 _ _ k2⟩), fun hA => hw.1 _ _ (h4 hA)⟩
structure TOa (A : Int → Bool) (cs k : Int) (t : Trm) (scope : List Int) : Prop where
 ok : ∃ deep, Trm.okT 1 cs 0 false t scope deep
 sk : ∀ v ∈ scope, v < k
 vk : ∀ v ∈ t.vars, v < k
 nd : t.vars.Nodup
 ap : ∀ v ∈ t.vars, v ∉ scope
 ag : ∀ v ∈ t.asg, A v = true
theorem TOa.up {A : Int → Bool} {cs k k' : Int} {t : Trm} {scope : List Int} (hk : k ≤ k') (h : TOa A cs k t scope) : TOa A cs k' t scope :=
 ⟨h.ok, fun v hv => by have := h.sk v hv; omega, fun v hv => by have := h.vk v hv; omega, h.nd, h.ap, h.ag⟩
theorem varss_sub : ∀ {l : List Trm} {x : Trm}, x ∈ l → x.vars.Sublist (Trm.varss l)
 | y :: l, x, h => by
  rw [Trm.varss]
  rcases List.mem_cons.1 h with rfl | h
  ·exact List.sublist_append_left _ _
  ·exact (varss_sub h).trans (List.sublist_append_right _ _)
theorem TOa.sub {A : Int → Bool} {cs k : Int} {t : Trm} {scope : List Int} (h : TOa A cs k t scope) {i : Nat} (hi : i < t.t.length) : TOa A cs k t.t[i] (if i + 1 = t.t.length ∨ t.op = 7 ∨ t.op = 9 then scope ++ t.v else scope) := by
 obtain ⟨deep, hok⟩ := h.ok
 have hm := List.getElem_mem hi
 have hs := varss_sub hm
 have hv := t.vars_eq
 have hnd := h.nd
 rw [hv] at hnd
 have hnd' := List.nodup_append.1 hnd
 rw [Trm.okT_eq] at hok
 have hx : ∀ v ∈ (t.t[i]).vars, v ∈ t.vars := fun v hv' => by rw [hv]; exact List.mem_append_right _ (hs.subset hv')
 refine ⟨⟨_, (okTs_get hok.2 i hi).1⟩, fun v hv' => ?_, fun v hv' => h.vk v (hx v hv'), hnd'.2.1.sublist hs, fun v hv' hsc => ?_, fun v hv' => h.ag v ?_⟩
 ·split at hv'
  ·rcases List.mem_append.1 hv' with h1 | h1
   ·exact h.sk v h1
   ·exact h.vk v (by rw [hv]; exact List.mem_append_left _ h1)
  ·exact h.sk v hv'
 ·split at hsc
  ·rcases List.mem_append.1 hsc with h1 | h1
   ·exact h.ap v (hx v hv') h1
   ·exact hnd'.2.2 v h1 v (hs.subset hv') rfl
  ·exact h.ap v (hx v hv') hsc
 ·rw [Trm.asg_eq, Trm.asgs_flat]
  exact List.mem_append_right _ (List.mem_flatMap.2 ⟨_, hm, hv'⟩)
def lamB (A : Int → Bool) (v : List Int) (k : Int) (b : Trm) : Trm := if v.filter A = [] then b.cv A (k + lamN A v) else .mk 8 0 (v.filter A) (lamT A v k ++ [b.cv A (k + lamN A v)])
def ACa (A : Int → Bool) (cs : Int) : CR := fun w f g => ∃ L b scope k, L.op = 4 ∧ L.t = [b] ∧ TOa A cs k L scope ∧ f.v = L.v ∧ f.rest = (L.n == 1) ∧ f.body = b ∧ g.v = lamV A L.v k ∧ g.rest = (L.n == 1) ∧ g.body = lamB A L.v k b ∧ ERa A w f.env g.env scope
theorem ACa.mono {A : Int → Bool} {cs : Int} : (ACa A cs).mono := fun w w' hw f g => by
 rintro ⟨L, b, scope, k, h1, h2, h3, h4, h5, h6, h7, h8, h9, h10⟩
 exact ⟨L, b, scope, k, h1, h2, h3, h4, h5, h6, h7, h8, h9, h10.up hw⟩
theorem ext_other : ∀ {us : List Int} {bz : List Nat} {e : EnvM} {w : Int}, w ∉ us → fndM (extM e us bz) w = fndM e w
 | [], bz, e, w, _ => by cases bz <;> rfl
 | u :: us, [], e, w, _ => rfl
 | u :: us, c :: bz, e, w, hn => by
  rw [extM, ext_other fun h => hn (List.mem_cons_of_mem _ h), fndM, if_neg fun h => hn (by rw [h]; exact List.mem_cons_self ..)]
theorem ext_get : ∀ {us : List Int} {bz : List Nat} {e : EnvM}, us.Nodup → bz.length = us.length → ∀ i (h : i < us.length) (h' : i < bz.length), fndM (extM e us bz) us[i] = some bz[i]
 | u :: us, c :: bz, e, hd, hl, i, h, h' => by
  rw [List.nodup_cons] at hd
  rw [extM]
  match i, h, h' with
  | 0, _, _ =>
   rw [List.getElem_cons_zero, List.getElem_cons_zero, ext_other hd.1, fndM, if_pos rfl]
  | i + 1, h, h' => exact ext_get hd.2 (by simpa using hl) i (by simpa using h) (by simpa using h')
theorem hpM_dom : ∀ {xs : List Vl} {az : List Nat} {h : Hp}, az.length = xs.length → (hpM h xs az).map (fun c => c.1) = az.reverse ++ h.map (fun c => c.1)
 | [], az, h, hl => by rw [List.eq_nil_of_length_eq_zero hl]; rfl
 | x :: xs, [], h, hl => by simp at hl
 | x :: xs, a :: az, h, hl => by rw [hpM, hpM_dom (by simpa using hl), List.reverse_cons, List.append_assoc]; rfl
theorem hpM_new : ∀ {xs : List Vl} {az : List Nat} {h : Hp}, az.length = xs.length → ndH (hpM h xs az) → HLe h (hpM h xs az) ∧ az.Nodup ∧ (∀ a ∈ az, hget h a = none) ∧ ∀ i (hi : i < xs.length) (ha : i < az.length), hget (hpM h xs az) az[i] = some (xs[i], false)
 | [], az, h, hl, _ => by
  rw [List.eq_nil_of_length_eq_zero hl]
  exact ⟨HLe.refl h, List.nodup_nil, fun a ha => (by cases ha), fun i hi => absurd hi (Nat.not_lt_zero _)⟩
 | x :: xs, [], h, hl, _ => by simp at hl
 | x :: xs, a :: az, h, hl, hd => by
  have hl' : az.length = xs.length := by simpa using hl
  rw [hpM] at hd ⊢
  obtain ⟨h1, h2, h3, h4⟩ := hpM_new hl' hd
  unfold ndH at hd
  rw [hpM_dom hl', List.nodup_append] at hd
  have hd2 := hd.2.1
  rw [List.map_cons, List.nodup_cons] at hd2
  have hc := HLe.cons (x := x) (r := false) hd2.1
  refine ⟨hc.trans h1, ?_, ?_, ?_⟩
  ·rw [List.nodup_cons]
   exact ⟨fun ha => hd.2.2 a (List.mem_reverse.2 ha) a (List.mem_cons_self ..) rfl, h2⟩
  ·intro b hb
   rcases List.mem_cons.1 hb with rfl | hb
   ·exact hget_none hd2.1
   ·exact hc.dom (h3 b hb)
  ·intro i hi ha
   match i, hi, ha with
   | 0, _, _ => exact h1 _ _ _ (by show hget ((a, x, false) :: h) a = some (x, false); rw [hget, if_pos rfl])
   | i + 1, hi, ha => exact h4 i (by simpa using hi) (by simpa using ha)
end Go.Cb
namespace Go.Cb
open Go.Proofs
set_option maxRecDepth 100000
set_option maxHeartbeats 4000000
theorem HLe.get {h h' : Hp} (k : HLe h h') {a : Nat} {x : Vl} {r : Bool} (e : hget h a = some (x, r)) : hget h' a = some (x, r) := k a x r e
theorem Sam.less (s : MSt) : Sam s (lessM s) := ⟨rfl, rfl, rfl, rfl⟩
theorem Ev.let_inv {K : List Vl} {t : Trm} {e : EnvM} {s : MSt} {vs : List Vl} {c : Int} {s' : MSt} (h : Ev K (.go t e) s vs c s') (ho : t.op = 8) {l : List Trm} {b : Trm} (ht : t.t = l ++ [b]) : (c ≠ 0 ∧ vs = [zerV] ∧ ∃ us, Ev K (.all l e) s us c s') ∨
  ∃ v us s1 az, vs = [v] ∧ Ev K (.all l e) s us 0 s1 ∧ l.length = t.v.length ∧ az.length = t.v.length ∧ Ev K (.ev b (extM e t.v az)) (addM s1 (hpM s1.h us az)) [v] c s' := by
 cases h with
 | ltE _ ht' hl ha hc =>
  rw [ht] at ht'
  obtain ⟨rfl, e2⟩ := List.append_inj' ht' rfl
  exact .inl ⟨hc, rfl, _, ha⟩
 | ltC _ ht' hl ha haz hb =>
  rw [ht] at ht'
  obtain ⟨rfl, e2⟩ := List.append_inj' ht' rfl
  cases e2
  exact .inr ⟨_, _, _, _, rfl, ha, hl, haz, hb⟩
 | _ => exfalso; omega
end Go.Cb
namespace Go.Cb
open Go.Proofs
set_option maxRecDepth 100000
set_option maxHeartbeats 4000000
structure BxR (A : Int → Bool) (C : CR) (w : Wd) (g0 g1 : Hp) (vs : List Int) (xs us : List Vl) (cz : List Nat) : Prop where
 lx : xs.length = vs.length
 lu : us.length = vs.length
 lc : cz.length = vs.length
 no : ∀ i (hi : i < vs.length), A vs[i] = false → VW C w (xs[i]'(by omega)) (us[i]'(by omega))
 yes : ∀ i (hi : i < vs.length), A vs[i] = true → us[i]'(by omega) = boxV (cz[i]'(by omega)) ∧ (∃ y, hget g1 (cz[i]'(by omega)) = some (y, false) ∧ VW C w (xs[i]'(by omega)) y) ∧ unT w (cz[i]'(by omega)) ∧ hget g0 (cz[i]'(by omega)) = none
 dj : ∀ i j (hi : i < vs.length) (hj : j < vs.length), A vs[i] = true → A vs[j] = true → cz[i]'(by omega) = cz[j]'(by omega) → i = j
theorem getD_at {α : Type} {l : List α} {d : α} {i : Nat} (h : i < l.length) : l.getD i d = l[i] := by rw [List.getD_eq_getElem?_getD, List.getElem?_eq_getElem h]; rfl
end Go.Cb
namespace Go.Cb
open Go.Proofs
set_option maxRecDepth 100000
set_option maxHeartbeats 4000000
def cloV (e : EnvM) (L : Trm) : Vl := .mk 8 0 0 [] [] (some ⟨L.v, L.n == 1, L.t.headD (refT 0), e⟩) none
def isL (x : Trm) : Prop := x.op = 4 ∧ ∃ b, x.t = [b]
theorem Ev.evL_inv {K : List Vl} {t : Trm} {e : EnvM} {s : MSt} {vs : List Vl} {c : Int} {s' : MSt} (h : Ev K (.ev t e) s vs c s') (hc : c ≠ 8) (ht : isL t) : vs = [cloV e t] ∧ c = 0 ∧ s' = lessM s := by
 obtain ⟨ho, b, hb⟩ := ht
 have := h.evLam_inv hc ho hb
 unfold cloV
 rw [hb]
 exact this
theorem Ev.rc_inv {K : List Vl} {v : Int} {vs : List Int} {t : Trm} {l : List Trm} {e : EnvM} {s : MSt} {us : List Vl} {c : Int} {s' : MSt} (h : Ev K (.rc true (v :: vs) (t :: l) e) s us c s') :
  (c ≠ 0 ∧ ∃ y, Ev K (.ev t e) s [y] c s') ∨ ∃ x s1 us1, Ev K (.ev t e) s [x] 0 s1 ∧ Ev K (.rc true vs l e) (stoM s1 e v x) us1 c s' ∧ (c = 0 → us = x :: us1) := by
 cases h with
 | rcE h1 h0 => exact .inl ⟨h0, _, h1⟩
 | rcC h1 h2 => exact .inr ⟨_, _, _, h1, by simpa using h2, fun _ => rfl⟩
 | rcX h1 h2 h0 => exact .inr ⟨_, _, _, h1, by simpa using h2, fun h => absurd h h0⟩
theorem hpU_hpM : ∀ {az : List Nat} {h : Hp}, hpU h false az = hpM h (az.map fun _ => kndV 12) az
 | [], h => rfl
 | a :: az, h => by rw [hpU, List.map_cons, hpM, hpU_hpM]
theorem rcLam_inv {K : List Vl} {e : EnvM} : ∀ (vs : List Int) (ls : List Trm) (s : MSt) (us : List Vl) (c : Int) (s' : MSt), (∀ x ∈ ls, isL x) → Ev K (.rc true vs ls e) s us c s' → c ≠ 8 → c = 0 ∧ Sam s s' ∧ s'.h.map (fun c => c.1) = s.h.map (fun c => c.1) ∧
  ∀ az : List Nat, ∀ (hl : az.length = vs.length) (hl2 : ls.length = vs.length), (∀ i (hi : i < vs.length), fndM e vs[i] = some (az[i]'(by omega))) → az.Nodup → (∀ a ∈ az, ∃ y, hget s.h a = some (y, false)) →
   (∀ a, a ∉ az → hget s'.h a = hget s.h a) ∧ ∀ i (hi : i < vs.length), hget s'.h (az[i]'(by omega)) = some (cloV e (ls[i]'(by omega)), false)
 | [], [], s, us, c, s', _, h, _ => by
  cases h
  exact ⟨rfl, Sam.refl _, rfl, fun az hl _ _ _ _ => ⟨fun _ _ => rfl, fun i hi => absurd hi (Nat.not_lt_zero _)⟩⟩
 | [], x :: ls, s, us, c, s', _, h, _ => by cases h
 | v :: vs, [], s, us, c, s', _, h, _ => by cases h
 | v :: vs, x :: ls, s, us, c, s', hL, h, hc => by
  have hx := hL x (List.mem_cons_self ..)
  rcases h.rc_inv with ⟨h0, y, h1⟩ | ⟨x1, s1, us1, h1, h2, h3⟩
  ·exact absurd (h1.evL_inv hc hx).2.1 h0
  ·obtain ⟨e1, _, rfl⟩ := h1.evL_inv (by decide) hx
   injection e1 with e1 _
   subst e1
   obtain ⟨rfl, k1, k2, k3⟩ := rcLam_inv vs ls _ us1 c s' (fun y hy => hL y (List.mem_cons_of_mem _ hy)) h2 hc
   have hS : Sam s (stoM (lessM s) e v (cloV e x)) := by
    unfold stoM
    split <;> exact ⟨rfl, rfl, rfl, rfl⟩
   refine ⟨rfl, hS.trans k1, k2.trans ?_, fun az hl hl2 hf hd hy => ?_⟩
   ·unfold stoM
    split
    ·rfl
    ·exact hput_dom _ _ _
   match az, hl, hf, hd, hy with
   | a :: az, hl, hf, hd, hy =>
   rw [List.nodup_cons] at hd
   have f0 : fndM e v = some a := hf 0 (by simp)
   have hst : (stoM (lessM s) e v (cloV e x)).h = hput s.h a (cloV e x) := by
    unfold stoM
    rw [f0]
   obtain ⟨y0, hy0⟩ := hy a (List.mem_cons_self ..)
   obtain ⟨k4, k5⟩ := k3 az (by simpa using hl) (by simpa using hl2) (fun i hi => hf (i + 1) (by simpa using hi)) hd.2 (fun b hb => by
    obtain ⟨y, hy1⟩ := hy b (List.mem_cons_of_mem _ hb)
    refine ⟨y, ?_⟩
    rw [hst, hget_put_other (fun (e : b = a) => hd.1 (by rw [← e]; exact hb))]
    exact hy1)
   refine ⟨fun b hb => ?_, fun i hi => ?_⟩
   ·rw [k4 b fun h => hb (List.mem_cons_of_mem _ h), hst]
    exact hget_put_other fun e => hb (by rw [e]; exact List.mem_cons_self ..)
   ·match i, hi with
    | 0, _ =>
     rw [List.getElem_cons_zero, List.getElem_cons_zero, k4 a hd.1, hst]
     exact hget_put_same hy0
    | i + 1, hi => exact k5 i (by simpa using hi)
theorem fix_inv {K : List Vl} {t : Trm} {e : EnvM} {s : MSt} {vs : List Vl} {c : Int} {s' : MSt} (h : Ev K (.go t e) s vs c s') (hc : c ≠ 8) (ho : t.op = 9) {l : List Trm} {b : Trm} (ht : t.t = l ++ [b]) (hL : ∀ x ∈ l, isL x) (hnd : t.v.Nodup) :
  ∃ az v s1, ∃ (haz : az.length = t.v.length) (hll : l.length = t.v.length), vs = [v] ∧ Ev K (.ev b (extM e t.v az)) s1 [v] c s' ∧ s1.fuel ≤ s.fuel ∧ Sam s s1 ∧ HLe s.h s1.h ∧ az.Nodup ∧ (∀ a ∈ az, hget s.h a = none) ∧ ∀ i (hi : i < t.v.length), hget s1.h (az[i]'(by omega)) = some (cloV (extM e t.v az) (l[i]'(by omega)), false) := by
 have hnow : (t.op == 9 || t.n == 1) = true := by rw [ho]; rfl
 have h7 : (t.op == 7) = false := by rw [ho]; rfl
 cases h with
 | fxE _ ht' hl ha hr h0 =>
  rw [ht] at ht'
  obtain ⟨rfl, e2⟩ := List.append_inj' ht' rfl
  rw [hnow] at hr
  exact absurd (rcLam_inv _ _ _ _ _ _ hL hr hc).1 h0
 | @fxC _ _ _ l' b' az us s1 v _ _ _ ht' hl ha hr hb =>
  rw [ht] at ht'
  obtain ⟨rfl, e2⟩ := List.append_inj' ht' rfl
  cases e2
  rw [hnow, h7] at hr
  rw [if_neg (by omega)] at hb
  obtain ⟨_, k1, k2, k3⟩ := rcLam_inv _ _ _ _ _ _ hL hr (by decide)
  obtain ⟨_, _, hd, _⟩ := hb.ev_inv hc
  have hd' : ndH (hpU s.h false az) := by
   unfold ndH at *
   rw [k2] at hd
   exact hd
  rw [hpU_hpM] at hd'
  obtain ⟨n1, n2, n3, n4⟩ := hpM_new (by simp) hd'
  rw [← hpU_hpM] at n1 n4
  obtain ⟨k4, k5⟩ := k3 az ha hl (fun i hi => ext_get hnd ha i hi (by omega)) n2 (fun a hm => by
   obtain ⟨i, hi, rfl⟩ := List.mem_iff_getElem.1 hm
   exact ⟨_, n4 i (by simpa using hi) hi⟩)
  refine ⟨az, v, s1, ha, hl, rfl, hb, hr.grow.2.2, Sam.trans ⟨rfl, rfl, rfl, rfl⟩ k1, fun a x r hg => ?_, n2, n3, k5⟩
  rw [k4 a fun hm => by rw [n3 a hm] at hg; cases hg]
  exact n1.get hg
 | _ => exfalso; omega
end Go.Cb
namespace Go.Cb
open Go.Proofs
set_option maxRecDepth 100000
set_option maxHeartbeats 4000000
theorem Trm.okT_shp {level c codes : Int} {free : Bool} (t : Trm) : ∀ {scope : List Int} {deep : Int}, t.okT level c codes free scope deep → t.shp := by
 induction t using Trm.ind with
 | h t ih =>
  intro scope deep h
  rw [Trm.okT_eq] at h
  rw [Trm.shp_eq]
  have key : ∀ (op : Int) (sc inner : List Int) (deep : Int) (l : List Trm), (∀ y ∈ l, ∀ {scope : List Int} {deep : Int}, y.okT level c codes free scope deep → y.shp) → Trm.okTs level c codes free op sc inner l deep → Trm.shps l := by
   intro op sc inner deep l
   induction l with
   | nil => intro _ _; rw [Trm.shps]; trivial
   | cons x l ihl =>
    intro hy hk
    rw [Trm.okTs] at hk
    rw [Trm.shps]
    exact ⟨hy x (by simp) hk.2.1, ihl (fun z hz => hy z (by simp [hz])) hk.2.2⟩
  refine ⟨?_, key _ _ _ _ _ ih h.2⟩
  obtain ⟨⟨_, _, h3, h4⟩, _⟩ := h
  unfold countsL at h3
  refine ⟨fun e => ?_, fun e => ?_, fun e => ?_, fun e => ?_⟩
  ·rw [e] at h3
   simp [bindsB] at h3
   exact h3
  ·split at h3
   ·cases h3
   ·rw [if_neg (by omega), if_pos (by omega)] at h3
    have : (t.t.length : Int) = 1 := by simpa using h3
    omega
  ·split at h3
   ·cases h3
   ·rw [if_neg (by omega), if_neg (by omega), if_neg (by omega), if_neg (by omega), if_neg (by omega), if_pos (by omega)] at h3
    have : (t.t.length : Int) = (t.v.length : Int) + 1 := by simpa using h3
    omega
  ·unfold numberL at h4
   rw [if_neg (by omega), if_neg (by omega), if_neg (by omega), if_neg (by omega), if_neg (by omega), if_neg (by omega), if_neg (by omega)] at h4
   simpa using h4
mutual
def Trm.uC (P : Int → Int → Bool) : Trm → Int → Int
 | .mk op n _ t, deep => (if P op n = true then 1 else 0) + (if deep < 1000 then Trm.uCs P t (deep + 1) else 0)
def Trm.uCs (P : Int → Int → Bool) : List Trm → Int → Int
 | [], _ => 0
 | x :: xs, deep => Trm.uC P x deep + Trm.uCs P xs deep
end
def putI (l : List Int) (v : Int) : List Int := l.takeWhile (fun x => decide (x < v)) ++ (if (l.dropWhile fun x => decide (x < v)).head? = some v then l.dropWhile (fun x => decide (x < v)) else v :: l.dropWhile fun x => decide (x < v))
theorem putI_cons (x : Int) (l : List Int) (v : Int) : putI (x :: l) v = if x < v then x :: putI l v else if x = v then x :: l else v :: x :: l := by
 unfold putI
 by_cases h : x < v
 ·simp [List.takeWhile_cons, List.dropWhile_cons, h]
 ·simp [List.takeWhile_cons, List.dropWhile_cons, h]
theorem mem_putI (v x : Int) : ∀ l : List Int, x ∈ putI l v ↔ x = v ∨ x ∈ l
 | [] => by simp [putI]
 | y :: l => by
  rw [putI_cons]
  split
  ·rw [List.mem_cons, mem_putI v x l, List.mem_cons]
   constructor
   ·rintro (h | h | h)
    ·exact .inr (.inl h)
    ·exact .inl h
    ·exact .inr (.inr h)
   ·rintro (h | h | h)
    ·exact .inr (.inl h)
    ·exact .inl h
    ·exact .inr (.inr h)
  ·split
   ·rename_i e; rw [List.mem_cons, e]
    constructor
    ·rintro (h | h)
     ·exact .inl h
     ·exact .inr (.inr h)
    ·rintro (h | h | h)
     ·exact .inl h
     ·exact .inl h
     ·exact .inr h
   ·rw [List.mem_cons]
theorem putI_lt (v : Int) : ∀ {l : List Int}, l.Pairwise (· < ·) → (putI l v).Pairwise (· < ·)
 | [], _ => by simp [putI]
 | y :: l, h => by
  rw [List.pairwise_cons] at h
  rw [putI_cons]
  split
  ·rw [List.pairwise_cons]
   refine ⟨fun z hz => ?_, putI_lt v h.2⟩
   rcases (mem_putI v z l).1 hz with rfl | hz
   ·assumption
   ·exact h.1 z hz
  ·split
   ·exact List.pairwise_cons.2 h
   ·rw [List.pairwise_cons]
    refine ⟨fun z hz => ?_, List.pairwise_cons.2 h⟩
    rcases List.mem_cons.1 hz with rfl | hz
    ·omega
    ·have := h.1 z hz; omega
theorem putI_len (v : Int) : ∀ l : List Int, (putI l v).length ≤ l.length + 1
 | [] => by simp [putI]
 | y :: l => by
  rw [putI_cons]
  have := putI_len v l
  split
  ·simp; omega
  ·split <;> simp
mutual
def Trm.bD : Trm → Int → List Int → List Int
 | .mk _ _ v t, deep, out => if deep < 1000 then Trm.bDs t (deep + 1) (v.foldl putI out) else v.foldl putI out
def Trm.bDs : List Trm → Int → List Int → List Int
 | [], _, out => out
 | x :: xs, deep, out => Trm.bDs xs deep (Trm.bD x deep out)
end
theorem Trm.bD_eq (t : Trm) (deep : Int) (out : List Int) : t.bD deep out = if deep < 1000 then Trm.bDs t.t (deep + 1) (t.v.foldl putI out) else t.v.foldl putI out := by cases t; rw [Trm.bD]; rfl
theorem foldl_putI_lt : ∀ (v out : List Int), out.Pairwise (· < ·) → (v.foldl putI out).Pairwise (· < ·)
 | [], _, h => h
 | x :: v, out, h => foldl_putI_lt v _ (putI_lt x h)
theorem mem_foldl_putI (x : Int) : ∀ (v out : List Int), x ∈ v.foldl putI out ↔ x ∈ out ∨ x ∈ v
 | [], _ => by simp
 | y :: v, out => by
  rw [List.foldl_cons, mem_foldl_putI x v, mem_putI, List.mem_cons]
  constructor
  ·rintro ((h | h) | h)
   ·exact .inr (.inl h)
   ·exact .inl h
   ·exact .inr (.inr h)
  ·rintro (h | h | h)
   ·exact .inl (.inr h)
   ·exact .inl (.inl h)
   ·exact .inr h
theorem foldl_putI_len : ∀ (v out : List Int), (v.foldl putI out).length ≤ out.length + v.length
 | [], _ => by simp
 | x :: v, out => by
  rw [List.foldl_cons, List.length_cons]
  have := foldl_putI_len v (putI out x)
  have := putI_len x out
  omega
theorem Trm.bD_spec (t : Trm) : ∀ (deep : Int) (out : List Int), out.Pairwise (· < ·) → (t.bD deep out).Pairwise (· < ·) ∧ (t.bD deep out).length ≤ out.length + t.bulk ∧ (deep + t.dep < 1000 → ∀ x, x ∈ t.bD deep out ↔ x ∈ out ∨ x ∈ t.vars) := by
 induction t using Trm.ind with
 | h t ih =>
  intro deep out ho
  have hge := Trm.deps_ge t.t 0
  have hbe := t.bulk_eq
  have key : ∀ l : List Trm, (∀ y ∈ l, ∀ (deep : Int) (out : List Int), out.Pairwise (· < ·) → (y.bD deep out).Pairwise (· < ·) ∧ (y.bD deep out).length ≤ out.length + y.bulk ∧ (deep + y.dep < 1000 → ∀ x, x ∈ y.bD deep out ↔ x ∈ out ∨ x ∈ y.vars)) →
    ∀ (deep : Int) (out : List Int), out.Pairwise (· < ·) → (Trm.bDs l deep out).Pairwise (· < ·) ∧ (Trm.bDs l deep out).length ≤ out.length + Trm.bulks l ∧ ((∀ x ∈ l, deep + x.dep < 1000) → ∀ x, x ∈ Trm.bDs l deep out ↔ x ∈ out ∨ x ∈ Trm.varss l) := by
   intro l
   induction l with
   | nil => intro _ deep out ho; rw [Trm.bDs, Trm.varss]; exact ⟨ho, by omega, by simp⟩
   | cons x l ihl =>
    intro hy deep out ho
    obtain ⟨a1, a2, a3⟩ := hy x (by simp) deep out ho
    obtain ⟨b1, b2, b3⟩ := ihl (fun z hz => hy z (by simp [hz])) deep (x.bD deep out) a1
    rw [Trm.bDs, Trm.varss, Trm.bulks]
    refine ⟨b1, by omega, fun hd z => ?_⟩
    rw [b3 (fun y hz => hd y (by simp [hz])), a3 (hd x (by simp)), List.mem_append, or_assoc]
  have hf := foldl_putI_lt t.v out ho
  have hl := foldl_putI_len t.v out
  obtain ⟨b1, b2, b3⟩ := key t.t ih (deep + 1) _ hf
  rw [Trm.bD_eq]
  split
  ·refine ⟨b1, by omega, fun hd z => ?_⟩
   rw [Trm.dep_eq] at hd
   have hd2 := (Trm.deps_le (999 - deep) t.t 0).1 (by omega)
   rw [b3 fun x hx => by have := hd2.2 x hx; omega]
   rw [mem_foldl_putI, Trm.vars_eq, List.mem_append, or_assoc]
  ·exact ⟨hf, by omega, fun hd => by rw [Trm.dep_eq] at hd; omega⟩
def bndL (t : Trm) : List Int := riseL t.vars
theorem Trm.bD_rise (t : Trm) (h : t.dep < 1000) : t.bD 0 [] = bndL t := by
 obtain ⟨h1, _, h3⟩ := t.bD_spec 0 [] List.Pairwise.nil
 exact lt_ext h1 (rise_lt _) fun x => by rw [h3 (by omega), bndL, mem_rise]; simp
theorem Trm.binds_rise (t : Trm) (h : t.dep < 1000) : riseL (bindsOf t.all) = bndL t := by
 have := (t.met_all [] 0 (by omega)).2
 unfold bndL bindsOf
 exact congrArg riseL this
def nextT (t : Trm) : Int := if bndL t = [] then 0 else (bndL t).getD ((bndL t).length - 1) 0 + 1
def noP : Prog := ⟨[], .mk 0 0 [] []⟩
end Go.Cb
namespace Go.Cb
open Go.Proofs
set_option maxRecDepth 100000
set_option maxHeartbeats 4000000
structure Nm where
 map : Int → Option Int
 next : Int
def renewN : List Int → Nm → List Int × Nm
 | [], s => ([], s)
 | v :: vs, s =>
  let r := renewN vs ⟨fun k => if k = v then some s.next else s.map k, s.next + 1⟩
  (s.next :: r.1, r.2)
mutual
def Trm.cpy : Trm → Nm → Trm × Nm
 | .mk op n v t, s =>
  let a := renewN v s
  let b := Trm.cpys t a.2
  (.mk op (if op = 1 then (a.2.map n).getD n else n) a.1 b.1, b.2)
def Trm.cpys : List Trm → Nm → List Trm × Nm
 | [], s => ([], s)
 | x :: xs, s =>
  let a := Trm.cpy x s
  let b := Trm.cpys xs a.2
  (a.1 :: b.1, b.2)
end
structure InS where
 next : Int
 budget : Int
 effort : Int
 known : Int → Option Trm
def szI (t : Trm) : Int := (t.all.length : Int)
def firstT (t : Trm) : Trm := t.t.headD (.mk 0 0 [] [])
def calledI (small : Int) (t : Trm) (s : InS) : Option Trm :=
 if t.op = 5 ∧ (firstT t).op = 1 then
  match s.known (firstT t).n with
  | some lam => if lam.op = 4 ∧ lam.n = 0 ∧ lam.v.length + 1 = t.t.length ∧ szI (firstT lam) ≤ small ∧ szI (firstT lam) ≤ s.budget then some lam else none
  | none => none
 else none
def learnI : Int → List Int → List Trm → InS → InS
 | op, v :: vs, x :: xs, s => learnI op vs xs (if op = 9 ∨ op = 8 ∧ x.op = 4 then { s with known := fun k => if k = v then some x else s.known k } else s)
 | _, _, _, s => s
mutual
def Trm.thr (small : Int) : Trm → InS → Trm × InS
 | .mk op n v t, s =>
  if s.effort = 0 then (.mk op n v t, s) else
  match calledI small (.mk op n v t) { s with effort := s.effort - 1 } with
  | some lam =>
   match t with
   | [] => (.mk op n v t, s)
   | _ :: xs =>
    let a := Trm.thrs small xs { s with effort := s.effort - 1, budget := s.budget - szI (firstT lam) }
    let b := renewN lam.v ⟨fun _ => none, a.2.next⟩
    let c := (firstT lam).cpy b.2
    (.mk 8 0 b.1 (a.1 ++ [c.1]), { a.2 with next := c.2.next })
  | none =>
   if op = 9 then
    let a := Trm.thrs small t (learnI op v t { s with effort := s.effort - 1 })
    (.mk op n v a.1, a.2)
   else
    let a := Trm.thrL small (learnI op v t) t { s with effort := s.effort - 1 }
    (.mk op n v a.1, a.2)
def Trm.thrs (small : Int) : List Trm → InS → List Trm × InS
 | [], s => ([], s)
 | x :: xs, s =>
  let a := Trm.thr small x s
  let b := Trm.thrs small xs a.2
  (a.1 :: b.1, b.2)
def Trm.thrL (small : Int) (lrn : InS → InS) : List Trm → InS → List Trm × InS
 | [], s => ([], lrn s)
 | x :: xs, s =>
  if xs = [] then
   let a := Trm.thr small x (lrn s)
   ([a.1], a.2)
  else
   let a := Trm.thr small x s
   let b := Trm.thrL small lrn xs a.2
   (a.1 :: b.1, b.2)
end
end Go.Cb
namespace Go.Cb
open Go.Proofs
set_option maxRecDepth 100000
set_option maxHeartbeats 4000000
def uvN (ρ : Int → Int) : List Int → List Int → Int → Int
 | v :: vs, v' :: vs' => uvN (fun k => if k = v then v' else ρ k) vs vs'
 | _, _ => ρ
theorem uvN_other : ∀ {vs vs' : List Int} {ρ : Int → Int} {v : Int}, v ∉ vs → uvN ρ vs vs' v = ρ v
 | [], vs', ρ, v, _ => by cases vs' <;> rfl
 | x :: vs, [], ρ, v, _ => rfl
 | x :: vs, y :: vs', ρ, v, hn => by
  rw [uvN, uvN_other fun h => hn (List.mem_cons_of_mem _ h), if_neg fun h => hn (by rw [h]; exact List.mem_cons_self ..)]
theorem uvN_at : ∀ {vs vs' : List Int} {ρ : Int → Int}, vs.Nodup → vs'.length = vs.length → ∀ i (h : i < vs.length) (h' : i < vs'.length), uvN ρ vs vs' vs[i] = vs'[i]
 | x :: vs, [], ρ, _, hl, i, h, h' => by simp at hl
 | x :: vs, y :: vs', ρ, hd, hl, i, h, h' => by
  rw [List.nodup_cons] at hd
  rw [uvN]
  match i, h, h' with
  | 0, _, _ =>
   rw [List.getElem_cons_zero, List.getElem_cons_zero, uvN_other hd.1, if_pos rfl]
  | i + 1, h, h' => exact uvN_at hd.2 (by simpa using hl) i (by simpa using h) (by simpa using h')
abbrev Kno := Int → Option (Trm × List Int)
structure Bd (S : List Int) (ρ : Int → Int) (vs vs' : List Int) : Prop where
 len : vs'.length = vs.length
 nd : vs.Nodup
 nd' : vs'.Nodup
 ap : ∀ v ∈ vs, v ∉ S
 ap' : ∀ v ∈ S, ρ v ∉ vs'
def ibB (op : Int) : Prop := op = 0 ∨ op = 1 ∨ op = 3 ∨ op = 5 ∨ op = 6 ∨ op = 10 ∨ op = 11 ∨ op = 12 ∨ op = 13 ∨ (15 ≤ op ∧ op ≤ 18)
inductive In : List Int → (Int → Int) → Kno → Trm → Trm → Prop
 | cong {S : List Int} {ρ : Int → Int} {κ : Kno} {t : Trm} {ts : List Trm} {v' : List Int} (ho : ibB t.op) (hr : t.op = 1 → t.n ∈ S) (hl : ts.length = t.t.length) (h : ∀ i (hi : i < t.t.length), In S ρ κ t.t[i] (ts[i]'(by omega))) : In S ρ κ t (.mk t.op (if t.op = 1 then ρ t.n else t.n) v' ts)
 | lam {S : List Int} {ρ : Int → Int} {κ κ2 : Kno} {t b : Trm} {vs' : List Int} {b' : Trm} (ho : t.op = 4) (ht : t.t = [b]) (hr : t.n = 1 → 0 < t.v.length) (hb : Bd S ρ t.v vs') (hk : ∀ v ∈ S ++ t.v, ∀ q, κ2 v = some q → v ∈ S ∧ κ v = some q) (h : In (S ++ t.v) (uvN ρ t.v vs') κ2 b b') : In S ρ κ t (.mk 4 t.n vs' [b'])
 | lt {S : List Int} {ρ : Int → Int} {κ κ2 : Kno} {t : Trm} {l : List Trm} {b : Trm} {n' : Int} {vs' : List Int} {l' : List Trm} {b' : Trm} (ho : t.op = 8) (ht : t.t = l ++ [b]) (hv : l.length = t.v.length) (hb : Bd S ρ t.v vs') (hl : l'.length = l.length) (h : ∀ i (hi : i < l.length), In S ρ κ l[i] (l'[i]'(by omega)))
   (hk : ∀ v ∈ S ++ t.v, ∀ q, κ2 v = some q → (v ∈ S ∧ κ v = some q) ∨ ∃ i, ∃ hi : i < t.v.length, t.v[i] = v ∧ q = (l[i]'(by omega), S) ∧ isL (l[i]'(by omega))) (h2 : In (S ++ t.v) (uvN ρ t.v vs') κ2 b b') : In S ρ κ t (.mk 8 n' vs' (l' ++ [b']))
 | fx {S : List Int} {ρ : Int → Int} {κ κ2 : Kno} {t : Trm} {l : List Trm} {b : Trm} {n' : Int} {vs' : List Int} {l' : List Trm} {b' : Trm} (ho : t.op = 9) (ht : t.t = l ++ [b]) (hv : l.length = t.v.length) (hL : ∀ x ∈ l, isL x) (hb : Bd S ρ t.v vs') (hl : l'.length = l.length) (h : ∀ i (hi : i < l.length), In (S ++ t.v) (uvN ρ t.v vs') κ2 l[i] (l'[i]'(by omega)))
   (hk : ∀ v ∈ S ++ t.v, ∀ q, κ2 v = some q → (v ∈ S ∧ κ v = some q) ∨ ∃ i, ∃ hi : i < t.v.length, t.v[i] = v ∧ q = (l[i]'(by omega), S ++ t.v)) (h2 : In (S ++ t.v) (uvN ρ t.v vs') κ2 b b') : In S ρ κ t (.mk 9 n' vs' (l' ++ [b']))
 | inl {S : List Int} {ρ : Int → Int} {κ : Kno} {t f : Trm} {args : List Trm} {lam : Trm} {S0 : List Int} {body : Trm} {args' : List Trm} {vs' : List Int} {body' : Trm} (ho : t.op = 5) (ht : t.t = f :: args) (hf : f.op = 1) (hfs : f.n ∈ S) (hk : κ f.n = some (lam, S0)) (hlo : lam.op = 4) (hln : lam.n = 0) (hlt : lam.t = [body]) (hla : args.length = lam.v.length)
   (hl : args'.length = args.length) (h : ∀ i (hi : i < args.length), In S ρ κ args[i] (args'[i]'(by omega))) (hb : Bd S0 ρ lam.v vs') (h2 : In (S0 ++ lam.v) (uvN ρ lam.v vs') (fun _ => none) body body') : In S ρ κ t (.mk 8 0 vs' (args' ++ [body']))
theorem In.mono {S : List Int} {ρ : Int → Int} {κ : Kno} {t t' : Trm} (h : In S ρ κ t t') : ∀ κ0 : Kno, (∀ v ∈ S, ∀ q, κ v = some q → κ0 v = some q) → In S ρ κ0 t t' := by
 induction h with
 | cong ho hr hl _ ih => exact fun κ0 hk => .cong ho hr hl fun i hi => ih i hi κ0 hk
 | lam ho ht hr hb hk h _ => exact fun κ0 hk0 => .lam ho ht hr hb (fun v hv q hq => ⟨(hk v hv q hq).1, hk0 v (hk v hv q hq).1 q (hk v hv q hq).2⟩) h
 | lt ho ht hv hb hl _ hk h2 ih _ => exact fun κ0 hk0 => .lt ho ht hv hb hl (fun i hi => ih i hi κ0 hk0) (fun v hv q hq => (hk v hv q hq).imp (fun h => ⟨h.1, hk0 v h.1 q h.2⟩) id) h2
 | fx ho ht hv hL hb hl h hk h2 => exact fun κ0 hk0 => .fx ho ht hv hL hb hl h (fun v hv q hq => (hk v hv q hq).imp (fun h => ⟨h.1, hk0 v h.1 q h.2⟩) id) h2
 | inl ho ht hf hfs hk hlo hln hlt hla hl _ hb h2 ih _ => exact fun κ0 hk0 => .inl ho ht hf hfs (hk0 _ hfs _ hk) hlo hln hlt hla hl (fun i hi => ih i hi κ0 hk0) hb h2
theorem oneL : ∀ {l : List Trm}, l.length = 1 → ∃ x, l = [x]
 | [x], _ => ⟨x, rfl⟩
structure TOi (cs : Int) (t : Trm) (S : List Int) : Prop where
 ok : ∃ deep, Trm.okT 2 cs 0 false t S deep
 nd : t.vars.Nodup
 ap : ∀ v ∈ t.vars, v ∉ S
section
variable {cs : Int} {t : Trm} {S : List Int} (h : TOi cs t S)
include h
theorem TOi.sub {i : Nat} (hi : i < t.t.length) : TOi cs t.t[i] (if i + 1 = t.t.length ∨ t.op = 7 ∨ t.op = 9 then S ++ t.v else S) := by
 obtain ⟨deep, hok⟩ := h.ok
 have hm := List.getElem_mem hi
 have hs := varss_sub hm
 have hv := t.vars_eq
 have hnd := h.nd
 rw [hv] at hnd
 have hnd' := List.nodup_append.1 hnd
 rw [Trm.okT_eq] at hok
 refine ⟨⟨_, (okTs_get hok.2 i hi).1⟩, hnd'.2.1.sublist hs, fun v hv' hsc => ?_⟩
 split at hsc
 ·rcases List.mem_append.1 hsc with h1 | h1
  ·exact h.ap v (by rw [hv]; exact List.mem_append_right _ (hs.subset hv')) h1
  ·exact hnd'.2.2 v h1 v (hs.subset hv') rfl
 ·exact h.ap v (by rw [hv]; exact List.mem_append_right _ (hs.subset hv')) hsc
theorem TOi.op : ibB t.op ∨ t.op = 4 ∨ t.op = 8 ∨ t.op = 9 := by
 obtain ⟨deep, h1⟩ := h.ok
 rw [Trm.okT_eq] at h1
 have hs := h1.1.2.1
 unfold sortsL at hs
 unfold ibB
 repeat' split at hs
 all_goals simp_all
 all_goals omega
theorem TOi.cnt : ((t.op = 0 ∨ t.op = 1 ∨ t.op = 11 ∨ t.op = 13) → t.t = []) ∧ ((t.op = 4 ∨ t.op = 12 ∨ t.op = 15 ∨ t.op = 16) → ∃ x, t.t = [x]) ∧ (t.op = 3 → t.t.length = 3) ∧ (t.op = 5 ∨ t.op = 6 → 0 < t.t.length) ∧ (t.op = 8 ∨ t.op = 9 → t.t.length = t.v.length + 1) ∧ (ibB t.op → t.v = []) := by
 obtain ⟨deep, h1⟩ := h.ok
 rw [Trm.okT_eq] at h1
 have hs := h1.1.2.2.1
 unfold countsL at hs
 split at hs
 ·cases hs
 rename_i hb
 refine ⟨fun ho => ?_, fun ho => ?_, fun ho => ?_, fun ho => ?_, fun ho => ?_, fun ho => ?_⟩
 ·rw [if_pos (by omega)] at hs
  exact List.eq_nil_of_length_eq_zero (by simpa using hs)
 ·rw [if_neg (by omega), if_pos (by omega)] at hs
  simp at hs
  exact oneL (by omega)
 ·rw [if_neg (by omega), if_neg (by omega), if_pos ho] at hs
  simp at hs
  omega
 ·rw [if_neg (by omega), if_neg (by omega), if_neg (by omega), if_neg (by omega), if_pos (by omega)] at hs
  simp at hs
  omega
 ·rw [if_neg (by omega), if_neg (by omega), if_neg (by omega), if_neg (by omega), if_neg (by omega), if_pos (by omega)] at hs
  simp at hs
  omega
 ·unfold bindsB at hb
  rw [Bool.and_eq_true] at hb
  apply List.eq_nil_of_length_eq_zero
  apply Decidable.byContradiction
  intro hn
  unfold ibB at ho
  exact hb ⟨by simp; omega, by simp; omega⟩
theorem TOi.ref (ho : t.op = 1) : t.n ∈ S := by
 obtain ⟨deep, h1⟩ := h.ok
 rw [Trm.okT_eq] at h1
 have hs := h1.1.2.2.2
 unfold numberL at hs
 rw [if_neg (by omega), if_pos (by omega)] at hs
 simpa using hs
theorem TOi.rest (ho : t.op = 4) : t.n = 1 → 0 < t.v.length := fun hr => by
 obtain ⟨deep, h1⟩ := h.ok
 rw [Trm.okT_eq] at h1
 have hs := h1.1.2.2.2
 unfold numberL at hs
 rw [if_neg (by omega), if_neg (by omega), if_neg (by omega), if_pos ho] at hs
 simp at hs
 omega
theorem TOi.vnd : t.v.Nodup ∧ ∀ v ∈ t.v, v ∉ S := by
 have hnd := h.nd
 rw [t.vars_eq] at hnd
 exact ⟨(List.nodup_append.1 hnd).1, fun v hv => h.ap v (by rw [t.vars_eq]; exact List.mem_append_left _ hv)⟩
theorem TOi.parts (ho : ibB t.op) {i : Nat} (hi : i < t.t.length) : TOi cs t.t[i] S := by
 have := h.sub hi
 rwa [h.cnt.2.2.2.2.2 ho, List.append_nil, ite_self] at this
theorem TOi.lams (ho : t.op = 9) {i : Nat} (hi : i < t.v.length) (hi' : i < t.t.length) : isL t.t[i] := by
 obtain ⟨deep, h1⟩ := h.ok
 rw [Trm.okT_eq] at h1
 have hc := h.cnt.2.2.2.2.1 (.inr ho)
 have h4 : t.t[i].op = 4 := (okTs_get h1.2 i hi').2 ho (by omega)
 exact ⟨h4, (h.sub hi').cnt.2.1 (.inl h4)⟩
theorem TOi.split (ho : t.op = 8 ∨ t.op = 9) : ∃ l b, t.t = l ++ [b] ∧ l.length = t.v.length ∧ TOi cs b (S ++ t.v) ∧ (∀ i (hi : i < l.length), TOi cs l[i] (if t.op = 9 then S ++ t.v else S)) ∧ (t.op = 9 → ∀ x ∈ l, isL x) := by
 have hc := h.cnt.2.2.2.2.1 ho
 have hsp : t.t = t.t.take t.v.length ++ [t.t[t.v.length]'(by omega)] := by
  have : t.t.take (t.v.length + 1) = t.t := List.take_of_length_le (by omega)
  rw [← List.take_succ_eq_append_getElem (by omega), this]
 have hll : (t.t.take t.v.length).length = t.v.length := by rw [List.length_take]; omega
 refine ⟨_, _, hsp, hll, ?_, fun i hi => ?_, fun h9 x hx => ?_⟩
 ·have := h.sub (i := t.v.length) (by omega)
  rwa [if_pos (.inl (by omega))] at this
 ·rw [List.getElem_take]
  have := h.sub (i := i) (by omega)
  by_cases h9 : t.op = 9
  ·rw [if_pos h9]
   rwa [if_pos (.inr (.inr h9))] at this
  ·rw [if_neg h9]
   rwa [if_neg (by omega)] at this
 ·obtain ⟨i, hi, rfl⟩ := List.mem_iff_getElem.1 hx
  rw [List.getElem_take]
  exact h.lams h9 (by omega) (by omega)
end
end Go.Cb
namespace Go.Cb
open Go.Proofs
set_option maxRecDepth 100000
set_option maxHeartbeats 4000000
abbrev idN : Int → Int := fun v => v
abbrev noK : Kno := fun _ => none
theorem uvN_id : ∀ {vs : List Int} {ρ : Int → Int}, (∀ k, ρ k = k) → uvN ρ vs vs = ρ
 | [], ρ, _ => rfl
 | v :: vs, ρ, h => by
  have e : (fun k => if k = v then v else ρ k) = ρ := funext fun k => by
   split
   ·rename_i hk; rw [hk, h]
   ·rfl
  rw [uvN, e, uvN_id h]
theorem lastG {l : List Trm} {b : Trm} {t : List Trm} (h : t = l ++ [b]) (hl : l.length < t.length) : t[l.length] = b := by
 subst h
 rw [List.getElem_append_right (Nat.le_refl _)]
 simp
theorem headG {l : List Trm} {b : Trm} {t : List Trm} (h : t = l ++ [b]) {i : Nat} (hi : i < l.length) (hl : i < t.length) : t[i] = l[i] := by
 subst h
 rw [List.getElem_append_left hi]
theorem Trm.eta (t : Trm) : Trm.mk t.op t.n t.v t.t = t := by cases t; rfl
theorem TOi.bd {cs : Int} {t : Trm} {S : List Int} (h : TOi cs t S) : Bd S idN t.v t.v := ⟨rfl, h.vnd.1, h.vnd.1, h.vnd.2, fun v hv hv' => h.vnd.2 v hv' hv⟩
theorem In.refl {cs : Int} (t : Trm) : ∀ {S : List Int}, TOi cs t S → In S idN noK t t := by
 induction t using Trm.ind with
 | h t ih =>
  intro S h
  rcases h.op with ho | ho | ho | ho
  ·have := In.cong (S := S) (ρ := idN) (κ := noK) (t := t) (ts := t.t) (v' := t.v) ho (fun h1 => h.ref h1) rfl fun i hi => ih _ (List.getElem_mem hi) (h.parts ho hi)
   rwa [ite_self, Trm.eta] at this
  ·obtain ⟨b, hb⟩ := h.cnt.2.1 (.inl ho)
   have hs := h.sub (i := 0) (by rw [hb]; simp)
   rw [if_pos (.inl (by rw [hb]; rfl))] at hs
   have e0 : t.t[0]'(by rw [hb]; simp) = b := by simp only [hb, List.getElem_cons_zero]
   rw [e0] at hs
   have := In.lam (S := S) (ρ := idN) (κ := noK) (κ2 := noK) (t := t) (vs' := t.v) (b' := b) ho hb (h.rest ho) h.bd (fun v _ q hq => by cases hq) (by rw [uvN_id fun _ => rfl]; exact ih b (by rw [hb]; simp) hs)
   rwa [← ho, ← hb, Trm.eta] at this
  ·obtain ⟨l, b, ht, hl, hTb, hTl, _⟩ := h.split (.inl ho)
   rw [if_neg (by omega)] at hTl
   have := In.lt (S := S) (ρ := idN) (κ := noK) (κ2 := noK) (t := t) (l := l) (b := b) (n' := t.n) (vs' := t.v) (l' := l) (b' := b) ho ht hl h.bd rfl (fun i hi => ih _ (by rw [ht]; exact List.mem_append_left _ (List.getElem_mem hi)) (hTl i hi)) (fun v _ q hq => by cases hq) (by rw [uvN_id fun _ => rfl]; exact ih b (by rw [ht]; simp) hTb)
   rwa [← ho, ← ht, Trm.eta] at this
  ·obtain ⟨l, b, ht, hl, hTb, hTl, hL⟩ := h.split (.inr ho)
   rw [if_pos ho] at hTl
   have := In.fx (S := S) (ρ := idN) (κ := noK) (κ2 := noK) (t := t) (l := l) (b := b) (n' := t.n) (vs' := t.v) (l' := l) (b' := b) ho ht hl (hL ho) h.bd rfl (fun i hi => by rw [uvN_id fun _ => rfl]; exact ih _ (by rw [ht]; exact List.mem_append_left _ (List.getElem_mem hi)) (hTl i hi)) (fun v _ q hq => by cases hq) (by rw [uvN_id fun _ => rfl]; exact ih b (by rw [ht]; simp) hTb)
   rwa [← ho, ← ht, Trm.eta] at this
theorem renewN_at : ∀ (vs : List Int) (s : Nm), (renewN vs s).1.length = vs.length ∧ (renewN vs s).1.Nodup ∧ (∀ x ∈ (renewN vs s).1, s.next ≤ x ∧ x < (renewN vs s).2.next) ∧ s.next ≤ (renewN vs s).2.next ∧ (∀ v, v ∉ vs → (renewN vs s).2.map v = s.map v) ∧
  (vs.Nodup → ∀ i (hi : i < vs.length) (hi' : i < (renewN vs s).1.length), (renewN vs s).2.map vs[i] = some (renewN vs s).1[i])
 | [], s => ⟨rfl, List.nodup_nil, fun x hx => (by cases hx), Int.le_refl _, fun _ _ => rfl, fun _ i hi => absurd hi (Nat.not_lt_zero _)⟩
 | v :: vs, s => by
  obtain ⟨h1, h2, h3, h4, h5, h6⟩ := renewN_at vs ⟨fun k => if k = v then some s.next else s.map k, s.next + 1⟩
  dsimp only at h3 h4 h5
  rw [renewN]
  dsimp only
  refine ⟨by rw [List.length_cons, List.length_cons, h1], ?_, fun x hx => ?_, by omega, fun u hu => ?_, fun hd i hi hi' => ?_⟩
  ·rw [List.nodup_cons]
   exact ⟨fun h => by have := (h3 _ h).1; omega, h2⟩
  ·rcases List.mem_cons.1 hx with rfl | hx
   ·omega
   ·have := h3 x hx
    omega
  ·rw [h5 u fun h => hu (List.mem_cons_of_mem _ h), if_neg fun h => hu (by rw [h]; exact List.mem_cons_self ..)]
  ·rw [List.nodup_cons] at hd
   match i, hi, hi' with
   | 0, _, _ =>
    rw [List.getElem_cons_zero, List.getElem_cons_zero, h5 v hd.1, if_pos rfl]
   | i + 1, hi, hi' => exact h6 hd.2 i (by simpa using hi) (by simpa using hi')
theorem cpy_eq (t : Trm) (s : Nm) : t.cpy s = (.mk t.op (if t.op = 1 then ((renewN t.v s).2.map t.n).getD t.n else t.n) (renewN t.v s).1 (Trm.cpys t.t (renewN t.v s).2).1, (Trm.cpys t.t (renewN t.v s).2).2) := by cases t; rw [Trm.cpy]; rfl
theorem cpys_len : ∀ (l : List Trm) (s : Nm), (Trm.cpys l s).1.length = l.length
 | [], s => by rw [Trm.cpys]
 | x :: l, s => by rw [Trm.cpys]; dsimp only; rw [List.length_cons, List.length_cons, cpys_len l]
theorem snocP {α : Type} {l : List α} {k : Nat} (h : l.length = k + 1) : l = l.take k ++ [l[k]'(by omega)] := by
 have : l.take (k + 1) = l := List.take_of_length_le (by omega)
 rw [← List.take_succ_eq_append_getElem (by omega), this]
theorem cpy_in {cs : Int} (t : Trm) : ∀ (S : List Int) (ρ : Int → Int) (nm : Nm), TOi cs t S → (∀ v ∈ S, ρ v = (nm.map v).getD v ∧ ρ v < nm.next) → In S ρ noK t (t.cpy nm).1 ∧ nm.next ≤ (t.cpy nm).2.next ∧ ∀ v, v ∉ t.vars → (t.cpy nm).2.map v = nm.map v := by
 induction t using Trm.ind with
 | h t ih =>
  have key : ∀ l : List Trm, (∀ y ∈ l, ∀ (S : List Int) (ρ : Int → Int) (nm : Nm), TOi cs y S → (∀ v ∈ S, ρ v = (nm.map v).getD v ∧ ρ v < nm.next) → In S ρ noK y (y.cpy nm).1 ∧ nm.next ≤ (y.cpy nm).2.next ∧ ∀ v, v ∉ y.vars → (y.cpy nm).2.map v = nm.map v) →
    ∀ (Sf : Nat → List Int) (ρf : Nat → Int → Int) (nm : Nm), (Trm.varss l).Nodup → (∀ i (hi : i < l.length), TOi cs l[i] (Sf i) ∧ ∀ v ∈ Sf i, (ρf i v = (nm.map v).getD v ∧ ρf i v < nm.next) ∧ v ∉ Trm.varss l) →
    (∀ i (hi : i < l.length) (hi' : i < (Trm.cpys l nm).1.length), In (Sf i) (ρf i) noK l[i] (Trm.cpys l nm).1[i]) ∧ nm.next ≤ (Trm.cpys l nm).2.next ∧ ∀ v, v ∉ Trm.varss l → (Trm.cpys l nm).2.map v = nm.map v := by
   intro l
   induction l with
   | nil =>
    intro _ Sf ρf nm _ _
    exact ⟨fun i hi => absurd hi (Nat.not_lt_zero _), by rw [Trm.cpys]; exact Int.le_refl _, fun v _ => by rw [Trm.cpys]⟩
   | cons x l ihl =>
    intro hx Sf ρf nm hd hT
    rw [Trm.varss] at hd
    have hd' := List.nodup_append.1 hd
    obtain ⟨t0, s0⟩ := hT 0 (by simp)
    obtain ⟨a1, a2, a3⟩ := hx x (List.mem_cons_self ..) (Sf 0) (ρf 0) nm t0 fun v hv => (s0 v hv).1
    obtain ⟨b1, b2, b3⟩ := ihl (fun y hy => hx y (List.mem_cons_of_mem _ hy)) (fun i => Sf (i + 1)) (fun i => ρf (i + 1)) (x.cpy nm).2 hd'.2.1 fun i hi => by
     obtain ⟨t1, s1⟩ := hT (i + 1) (by simpa using hi)
     refine ⟨t1, fun v hv => ?_⟩
     obtain ⟨⟨c1, c2⟩, c3⟩ := s1 v hv
     rw [Trm.varss, List.mem_append, not_or] at c3
     exact ⟨⟨by rw [a3 v c3.1]; exact c1, by omega⟩, c3.2⟩
    have e1 : (Trm.cpys (x :: l) nm).1 = (x.cpy nm).1 :: (Trm.cpys l (x.cpy nm).2).1 := by rw [Trm.cpys]
    have e2 : (Trm.cpys (x :: l) nm).2 = (Trm.cpys l (x.cpy nm).2).2 := by rw [Trm.cpys]
    refine ⟨fun i hi hi' => ?_, by rw [e2]; omega, fun v hv => ?_⟩
    ·match i, hi, hi' with
     | 0, _, _ => simp only [e1, List.getElem_cons_zero]; exact a1
     | i + 1, hi, hi' => simp only [e1, List.getElem_cons_succ]; exact b1 i (by simpa using hi) _
    ·rw [Trm.varss, List.mem_append, not_or] at hv
     rw [e2, b3 v hv.2, a3 v hv.1]
  intro S ρ nm h hρ
  obtain ⟨r1, r2, r3, r4, r5, r6⟩ := renewN_at t.v nm
  rw [cpy_eq]
  generalize hnv : (renewN t.v nm).1 = nv at *
  generalize hnm2 : (renewN t.v nm).2 = nm2 at *
  have hnd := h.nd
  rw [t.vars_eq] at hnd
  have hnd' := List.nodup_append.1 hnd
  have hvS := h.vnd.2
  have hap := h.ap
  rw [t.vars_eq] at hap
  have hS2 : ∀ v ∈ S, (ρ v = (nm2.map v).getD v ∧ ρ v < nm2.next) ∧ v ∉ Trm.varss t.t := fun v hv => by
   obtain ⟨g1, g2⟩ := hρ v hv
   refine ⟨⟨by rw [r5 v fun h => hvS v h hv]; exact g1, by omega⟩, fun h => hap v (List.mem_append_right _ h) hv⟩
  have hS3 : ∀ v ∈ S ++ t.v, (uvN ρ t.v nv v = (nm2.map v).getD v ∧ uvN ρ t.v nv v < nm2.next) ∧ v ∉ Trm.varss t.t := fun v hv => by
   rcases List.mem_append.1 hv with hv | hv
   ·rw [uvN_other fun h => hvS v h hv]
    exact hS2 v hv
   ·obtain ⟨i, hi, rfl⟩ := List.mem_iff_getElem.1 hv
    have e1 := uvN_at (ρ := ρ) h.vnd.1 r1 i hi (by omega)
    have e2 := r6 h.vnd.1 i hi (by omega)
    rw [e1, e2]
    exact ⟨⟨rfl, (r3 _ (List.getElem_mem _)).2⟩, fun h => hnd'.2.2 _ (List.getElem_mem hi) _ h rfl⟩
  have hB : Bd S ρ t.v nv := ⟨r1, h.vnd.1, r2, hvS, fun v hv hm => by have := (r3 _ hm).1; have := (hρ v hv).2; omega⟩
  have hln := cpys_len t.t nm2
  have fin : ∀ (Sf : Nat → List Int) (ρf : Nat → Int → Int), (∀ i (hi : i < t.t.length), TOi cs t.t[i] (Sf i) ∧ ∀ v ∈ Sf i, (ρf i v = (nm2.map v).getD v ∧ ρf i v < nm2.next) ∧ v ∉ Trm.varss t.t) →
    (∀ i (hi : i < t.t.length) (hi' : i < (Trm.cpys t.t nm2).1.length), In (Sf i) (ρf i) noK t.t[i] (Trm.cpys t.t nm2).1[i]) ∧ nm.next ≤ (Trm.cpys t.t nm2).2.next ∧ ∀ v, v ∉ t.vars → (Trm.cpys t.t nm2).2.map v = nm.map v := fun Sf ρf hT => by
   obtain ⟨k1, k2, k3⟩ := key t.t ih Sf ρf nm2 hnd'.2.1 hT
   refine ⟨k1, by omega, fun v hv => ?_⟩
   rw [t.vars_eq, List.mem_append, not_or] at hv
   rw [k3 v hv.2, r5 v hv.1]
  rcases h.op with ho | ho | ho | ho
  ·obtain ⟨k1, k2, k3⟩ := fin (fun _ => S) (fun _ => ρ) fun i hi => ⟨h.parts ho hi, hS2⟩
   refine ⟨?_, k2, k3⟩
   have := In.cong (S := S) (ρ := ρ) (κ := noK) (t := t) (ts := (Trm.cpys t.t nm2).1) (v' := nv) ho (fun h1 => h.ref h1) hln fun i hi => k1 i hi (by omega)
   have e : (if t.op = 1 then ρ t.n else t.n) = if t.op = 1 then (nm2.map t.n).getD t.n else t.n := by
    by_cases h1 : t.op = 1
    ·rw [if_pos h1, if_pos h1]
     exact (hS2 _ (h.ref h1)).1.1
    ·rw [if_neg h1, if_neg h1]
   rw [e] at this
   exact this
  ·obtain ⟨b, hb⟩ := h.cnt.2.1 (.inl ho)
   obtain ⟨k1, k2, k3⟩ := fin (fun _ => S ++ t.v) (fun _ => uvN ρ t.v nv) fun i hi => by
    have := h.sub hi
    rw [hb] at hi
    have hi0 : i = 0 := by simpa using hi
    subst hi0
    rw [if_pos (.inl (by rw [hb]; rfl))] at this
    exact ⟨this, hS3⟩
   refine ⟨?_, k2, k3⟩
   obtain ⟨b', hb'⟩ := oneL (show (Trm.cpys t.t nm2).1.length = 1 by rw [hln, hb]; rfl)
   have k0 := k1 0 (by rw [hb]; simp) (by rw [hb']; simp)
   have e0 : t.t[0]'(by rw [hb]; simp) = b := by simp only [hb, List.getElem_cons_zero]
   have e1 : (Trm.cpys t.t nm2).1[0]'(by rw [hb']; simp) = b' := by simp only [hb', List.getElem_cons_zero]
   rw [e0, e1] at k0
   have := In.lam (S := S) (ρ := ρ) (κ := noK) (κ2 := noK) (t := t) (vs' := nv) (b' := b') ho hb (h.rest ho) hB (fun v _ q hq => by cases hq) k0
   rw [hb', if_neg (by omega), ho]
   exact this
  ·obtain ⟨l, b, ht, hl, hTb, hTl, _⟩ := h.split (.inl ho)
   rw [if_neg (by omega)] at hTl
   have htl : t.t.length = l.length + 1 := by rw [ht, List.length_append]; rfl
   obtain ⟨k1, k2, k3⟩ := fin (fun i => if i < l.length then S else S ++ t.v) (fun i => if i < l.length then ρ else uvN ρ t.v nv) fun i hi => by
    by_cases hil : i < l.length
    ·rw [if_pos hil, if_pos hil, headG ht hil hi]
     exact ⟨hTl i hil, hS2⟩
    ·have : i = l.length := by omega
     subst this
     rw [if_neg hil, if_neg hil, lastG ht hi]
     exact ⟨hTb, hS3⟩
   refine ⟨?_, k2, k3⟩
   obtain ⟨Cs, hC⟩ : ∃ Cs, Cs = (Trm.cpys t.t nm2).1 := ⟨_, rfl⟩
   rw [← hC] at k1 hln ⊢
   have hsp := snocP (show Cs.length = l.length + 1 by omega)
   have hcl : (Cs.take l.length).length = l.length := by rw [List.length_take]; omega
   have := In.lt (S := S) (ρ := ρ) (κ := noK) (κ2 := noK) (t := t) (l := l) (b := b) (n' := t.n) (vs' := nv) (l' := Cs.take l.length) (b' := Cs[l.length]'(by omega)) ho ht hl hB hcl (fun i hi => by
    have := k1 i (by omega) (by omega)
    rw [if_pos hi, if_pos hi, headG ht hi] at this
    rw [List.getElem_take]
    exact this) (fun v _ q hq => by cases hq) (by
    have := k1 l.length (by omega) (by omega)
    rw [if_neg (Nat.lt_irrefl _), if_neg (Nat.lt_irrefl _), lastG ht] at this
    exact this)
   rw [← hsp] at this
   rw [if_neg (by omega), ho]
   exact this
  ·obtain ⟨l, b, ht, hl, hTb, hTl, hL⟩ := h.split (.inr ho)
   rw [if_pos ho] at hTl
   have htl : t.t.length = l.length + 1 := by rw [ht, List.length_append]; rfl
   obtain ⟨k1, k2, k3⟩ := fin (fun _ => S ++ t.v) (fun _ => uvN ρ t.v nv) fun i hi => by
    by_cases hil : i < l.length
    ·rw [headG ht hil hi]
     exact ⟨hTl i hil, hS3⟩
    ·have : i = l.length := by omega
     subst this
     rw [lastG ht hi]
     exact ⟨hTb, hS3⟩
   refine ⟨?_, k2, k3⟩
   obtain ⟨Cs, hC⟩ : ∃ Cs, Cs = (Trm.cpys t.t nm2).1 := ⟨_, rfl⟩
   rw [← hC] at k1 hln ⊢
   have hsp := snocP (show Cs.length = l.length + 1 by omega)
   have hcl : (Cs.take l.length).length = l.length := by rw [List.length_take]; omega
   have := In.fx (S := S) (ρ := ρ) (κ := noK) (κ2 := noK) (t := t) (l := l) (b := b) (n' := t.n) (vs' := nv) (l' := Cs.take l.length) (b' := Cs[l.length]'(by omega)) ho ht hl (hL ho) hB hcl (fun i hi => by
    have := k1 i (by omega) (by omega)
    rw [headG ht hi] at this
    rw [List.getElem_take]
    exact this) (fun v _ q hq => by cases hq) (by
    have := k1 l.length (by omega) (by omega)
    rw [lastG ht] at this
    exact this)
   rw [← hsp] at this
   rw [if_neg (by omega), ho]
   exact this
end Go.Cb





