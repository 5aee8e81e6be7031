/-
 Contracts: package slices: Grow, Concat, Index, Contains, of numbers.
 Contracts: all terms of a term, one by one.
 Contracts: how many terms.
 Contracts: what is sorted already: one number.
 Contracts: what is named and not bound: one variable.
 Plain laws: what a term names, binds; how deep it lies.
 Plain laws: numbers in order, each once.
 Plain laws: a term and its parts.
 Layings of the library's contracts at this seat (written by the kit's tools).
 Contracts: numbers sorted by the library, equal neighbours struck.
 Contracts: what a term names and does not bind, what it binds, how often a variable is named and assigned.
 Plain laws: all variables greater by the same.
 Plain laws: assigned variables become boxes.
 Plain laws: chapter 10, sizes of what is converted.
 Plain: assigned variables in boxes mean the same: scopes, places, what Lams and boxes come to.
 Plain: assigned variables in boxes mean the same: calls of procedures, Lets.
 Plain: assigned variables in boxes mean the same: Lets; Fixes begun.
 Plain: assigned variables in boxes mean the same: Fixes.
 Plain: assigned variables in boxes mean the same: Fixes, ended.
 Contracts: the document's machine: strict terms.
 Contracts: the document's machine: calls.
-/
import Derived.Lib.SlicesCompact
import Derived.Shelf.Slices.CompactI
import Derived.Shelf.Slices.In.SortNone
import Derived.Shelf.Sort.Plain
import Derived.Sort.OwnSortedInts
import Derived.Test.YtkcbpdpiodgaiaaGreatDoorProg
import Derived.Test.YtkcbpdpiodgaiaaGreatDoorA5
set_option linter.unusedSimpArgs false
set_option linter.unusedVariables false
namespace Go.Cb
open Go.Proofs
set_option maxRecDepth 100000
set_option maxHeartbeats 4000000
theorem growNil0_c (n : Int) (h0 : 0 ≤ n) (h1 : n ≤ 1000000000) : ACall Tryz.prog 106 [.nil, .int .i64 n] [] (fun y Γ' => (∃ t : Tok, t.e = 3 ∧ t.s = 1 ∧ y = .ms t ∧ Γ' = [.row t []]) ∨ (y = .nil ∧ Γ' = [])) := by
 refine ACall.of_body tt_ok Tryz.func106 rfl rfl (n := 27) rfl rfl ?_
 conv => whnf
 repeat' (first|refine aA0 ?_|(refine zX (fun hc=>?_) (fun hc=>?_)<;>(try simp only [SY] at hc)<;>first|omega|(conv=>whnf)))
 ·refine PSide.of ⟨by simp [boundIs], by simp [boundIs]⟩ ?_
  conv => whnf
  skip
  refine PZeros.mk ⟨by omega, by omega, by show _ * 8 ≤ _; omega, rfl, fun t he hs => ?_⟩
  conv => whnf
  skip
  refine PSliceM.hi hs (by omega) (by simp; omega) (fun t2 he2 hs2 => ?_)
  conv => whnf
  skip
  show PRet _ [.row t2 []] _
  exact PRet.gen (Wk.refl _) (.inl ⟨t2, he2.trans he, hs2.trans hs, rfl, rfl⟩)
 ·exact PRet.gen (Wk.refl _) (.inr ⟨rfl, rfl⟩)
theorem Shift.nilRow (s : Nat) (e : TypeId) (Γ : List Ent) : Shift .nil Γ (.ms (nilTok s e)) (.row (nilTok s e) [] :: Γ) := fun w0 F M w v hS hx =>
 let ⟨F', h1, h2⟩ := Ghost.nilRow s e Γ w0 F M w hS
 ⟨F', h1, h2, Wk.nilRow s e F' v (Rep.mono h1 _ _ hx)⟩
theorem Shift.refl (x : PV) (Γ : List Ent) : Shift x Γ x Γ := fun _ F _ _ _ hS hx => ⟨F, Fz.le_refl F, hS, hx⟩
theorem growNil_c (n : Int) (h0 : 0 ≤ n) (h1 : n ≤ 1000000000) : ACall Tryz.prog 106 [.nil, .int .i64 n] [] (fun y Γ' => ∃ t : Tok, t.e = 3 ∧ t.s = 1 ∧ y = .ms t ∧ Γ' = [.row t (([] : List Int).map (PV.int .i64))]) :=
 (growNil0_c n h0 h1).shift fun y Γ' h => by
  rcases h with ⟨t, h1, h2, rfl, rfl⟩ | ⟨rfl, rfl⟩
  ·exact ⟨_, _, Shift.refl _ _, t, h1, h2, rfl, rfl⟩
  ·exact ⟨_, _, Shift.nilRow 1 3 _, _, rfl, rfl, rfl, rfl⟩
abbrev slI (l : List Int) : PV := .sl 1 (l.map (PV.int .i64)) none
instance : CellsOf slI (fun l => [slI l]) := ⟨fun _ => rfl⟩
def sumL (ls : List (List Int)) : Nat := (ls.map List.length).sum
theorem sumL_append (a b : List (List Int)) : sumL (a ++ b) = sumL a + sumL b := by simp [sumL]
theorem sumL_le (ls : List (List Int)) (k : Nat) : sumL (ls.take k) ≤ sumL ls := by
 have := sumL_append (ls.take k) (ls.drop k)
 rw [List.take_append_drop] at this
 omega
theorem sumL_step (ls : List (List Int)) {k : Nat} (hk : k < ls.length) : sumL (ls.take (k + 1)) = sumL (ls.take k) + (ls[k]).length := by
 rw [List.take_succ_eq_append_getElem hk, sumL_append]; simp [sumL]
theorem sumL_flatten (ls : List (List Int)) : ls.flatten.length = sumL ls := by simp [sumL, List.length_flatten]
theorem concatInt0_c (ls : List (List Int)) (h : sumL ls ≤ 1000000000) (hl : ls.length ≤ 1000000000) : ACall Tryz.prog 78 [.sl 1 (ls.map slI) none] [] (fun y Γ' => ∃ t : Tok, t.e = 3 ∧ t.s = 1 ∧ y = .ms t ∧ Γ' = [.row t (ls.flatten.map (PV.int .i64))]) := by
 refine ACall.of_body tt_ok Tryz.func78 rfl rfl (n := 36) rfl rfl ?_
 conv => whnf
 repeat (first|refine aR0 ?_|((intro _);conv=>whnf))
 refine PLoop.keep [3, 5, 11, 12, 13, 14, 15, 16, 17, 18, 19, 20, 21, 22] (fun x : Nat × Int => [(11, .int .i64 x.1), (3, .int .i64 x.2)]) (fun x => x.1 ≤ ls.length ∧ x.2 = sumL (ls.take x.1)) (fun x => ls.length - x.1) (0, 0) ⟨by omega, rfl⟩ wA ?_
 rintro ⟨i, n⟩ ⟨h1, h2⟩
 dsimp only at h1 h2 ⊢
 have hle := sumL_le ls
 conv => whnf
 repeat' (first|refine aA0 ?_|((intro _);conv=>whnf)|(refine zX (fun hc=>?_) (fun hc=>?_)<;>(try simp only [SY] at hc)<;>(conv=>whnf)))
 ·have hlt : i < ls.length := by omega
  have g1 := hle (i + 1)
  have g2 := sumL_step ls hlt
  conv => whnf
  repeat' (first|refine aA0 ?_|(refine zX (fun hc=>?_) (fun hc=>?_)<;>(try simp only [SY] at hc)<;>first|omega|(conv=>whnf)))
  exact loopTo (i + 1, n + ls[i].length) ⟨by omega, by show n + _ = ((sumL (ls.take (i + 1)) : Nat) : Int); omega⟩ (by show ls.length - (i + 1) < ls.length - i; omega) wA
 ·refine PCall.go (growNil_c n (by omega) (by have := hle i; omega)) (WkT.refl _) ?_
  rintro _ _ ⟨t, ht, hs, rfl, rfl⟩
  conv => whnf
  repeat' (first|refine aA0 ?_|((intro _);conv=>whnf)|(refine zX (fun hc=>?_) (fun hc=>?_)<;>(try simp only [SY] at hc)<;>omega))
  refine PLoop.over [6, 8, 27, 28, 29, 30, 31, 32, 33, 34] (fun x : Nat × Tok × List Int => [(27, .int .i64 x.1), (6, .ms x.2.1)]) (fun x : Nat × Tok × List Int => [.row x.2.1 (x.2.2.map (PV.int .i64))]) (fun x => x.1 ≤ ls.length ∧ x.2.1.e = 3 ∧ x.2.1.s = 1 ∧ x.2.2 = (ls.take x.1).flatten) (fun x => ls.length - x.1) (0, t, []) ⟨by omega, ht, hs, rfl⟩ wA ?_
  rintro ⟨k, t2, l⟩ ⟨k1, k2, k3, k4⟩
  dsimp only at k1 k2 k3 k4 ⊢
  conv => whnf
  repeat' (first|refine aA0 ?_|(refine zX (fun hc=>?_) (fun hc=>?_)<;>(try simp only [SY] at hc)<;>(conv=>whnf)))
  ·have hlt : k < ls.length := by omega
   have g1 := hle (k + 1)
   have g2 := sumL_step ls hlt
   have g3 := sumL_flatten (ls.take k)
   rw [← k4] at g3
   refine PAppend.rowList (f := PV.int .i64) (l := l) (m := ls[k]) k2 k3 (Wk.refl _) (by omega) (by show _ * 8 ≤ _; omega) (fun t3 e3 s3 => ?_)
   conv => whnf
   repeat (refine aR0 ?_)
   exact loopTo (k + 1, t3, l ++ ls[k]) ⟨by omega, e3, s3, by show l ++ ls[k] = (ls.take (k + 1)).flatten; rw [k4, List.take_succ_eq_append_getElem hlt, List.flatten_append, List.flatten_singleton]⟩ (by show ls.length - (k + 1) < ls.length - k; omega) wA
  ·have hk : ls.take k = ls := List.take_of_length_le (by omega)
   rw [hk] at k4
   rw [k4]
   exact PRet.gen (Wk.refl _) ⟨t2, k2, k3, rfl, rfl⟩
theorem concatInt_c (ls : List (List Int)) (h : sumL ls ≤ 1000000000) (hl : ls.length ≤ 1000000000) : ACallP Tryz.prog 78 [.sl 1 (ls.map slI) none] (slI ls.flatten) :=
 ACallP.of_any ((concatInt0_c ls h hl).shift fun y Γ' hq => by
  obtain ⟨t, h1, h2, rfl, rfl⟩ := hq
  exact ⟨slI ls.flatten, _, Shift.freezeRow (WkF.ms' h2), rfl⟩)
end Go.Cb
namespace Go.Cb
open Go.Proofs
set_option maxRecDepth 100000
set_option maxHeartbeats 4000000
mutual
def Trm.met : Trm → List Int → Int → List (Trm × List Int)
 | .mk op n v t, sc, deep => (.mk op n v t, sc) :: if deep ≥ 1000 then [] else Trm.mets op sc (sc ++ v) t (deep + 1)
def Trm.mets (op : Int) (sc inner : List Int) : List Trm → Int → List (Trm × List Int)
 | [], _ => []
 | x :: xs, deep => Trm.met x (if groupB op = true ∨ xs = [] then inner else sc) deep ++ Trm.mets op sc inner xs deep
end
theorem Trm.met_eq (t : Trm) (sc : List Int) (deep : Int) : t.met sc deep = (t, sc) :: if deep ≥ 1000 then [] else Trm.mets t.op sc (sc ++ t.v) t.t (deep + 1) := by
 cases t; rw [Trm.met]; rfl
abbrev metP (x : Trm × List Int) : PV := .agg [.int .i64 x.1.op, .int .i64 x.1.n, .sl 1 (x.1.v.map (PV.int .i64)) none, .sl 4 (x.1.t.map Trm.pv) none, slI x.2]
def From (xs : List (List PV)) (i : Nat) (l : List (Trm × List Int)) : Prop := ∀ j (h : j < l.length), xs[i + j]? = some [metP l[j]]
theorem From.left {xs : List (List PV)} {i : Nat} {l m : List (Trm × List Int)} (h : From xs i (l ++ m)) : From xs i l := fun j hj => by
 have := h j (by rw [List.length_append]; omega)
 rwa [List.getElem_append_left hj] at this
theorem From.right {xs : List (List PV)} {i : Nat} {l m : List (Trm × List Int)} (h : From xs i (l ++ m)) : From xs (i + l.length) m := fun j hj => by
 have := h (l.length + j) (by rw [List.length_append]; omega)
 rw [List.getElem_append_right (by omega)] at this
 simpa [Nat.add_assoc] using this
theorem From.head {xs : List (List PV)} {i : Nat} {x : Trm × List Int} {m : List (Trm × List Int)} (h : From xs i (x :: m)) : From xs (i + 1) m := From.right (l := [x]) h
theorem walk_c (l yb wb : Nat) (xs : List (List PV)) (J : Nat → List Ent → Prop) (X : List Ent → Prop)
  (hy : ∀ k ys Γ, xs[k]? = some ys → J k Γ → AYield Tryz.prog l ys Γ fun y Γ' => (y = .btrue ∧ J (k + 1) Γ') ∨ (y = .bfalse ∧ X Γ')) (t : Trm) :
  ∀ (sc : List Int) (deep : Int) (i : Nat) (Γ : List Ent), 0 ≤ deep → deep ≤ 1000 → sc.length + t.bulk ≤ 1000000000 → From xs i (t.met sc deep) → J i Γ →
   ACall Tryz.prog 77 [.agg t.cells, slI sc, .int .i64 deep, .ptr yb 0, .ptr wb 0] (.box yb [.fn (.yield l) []] :: .box wb [.fn (.func 77) [.ptr yb 0, .ptr wb 0]] :: Γ)
    (fun y Γ' => ∃ Γ1, Γ' = .box yb [.fn (.yield l) []] :: .box wb [.fn (.func 77) [.ptr yb 0, .ptr wb 0]] :: Γ1 ∧ ((y = .btrue ∧ J (i + (t.met sc deep).length) Γ1) ∨ (y = .bfalse ∧ X Γ1))) := by
 induction t using Trm.ind with
 | h t ih =>
  intro sc deep i Γ hd0 hd1 hsc hfr hJ
  have hbe := t.bulk_eq
  have hlv := Trm.bulks_length t.t
  rw [Trm.met_eq] at hfr ⊢
  have hsum : sumL [sc, t.v] ≤ 1000000000 := by simp [sumL]; omega
  have h0 := hfr 0 (by simp)
  refine ACall.of_body tt_ok Tryz.func77 rfl rfl (n := 54) rfl rfl ?_
  conv => whnf
  repeat' (first|refine aA0 ?_|((intro _);conv=>whnf)|(refine zX (fun hc=>?_) (fun hc=>?_)<;>(try simp only [SY] at hc)<;>omega))
  rename_i b5
  refine PYield.goR [.box b5 [.int .i64 t.op, .int .i64 t.n, .sl 1 (t.v.map (PV.int .i64)) none, .sl 4 (t.t.map Trm.pv) none], .box yb [.fn (.yield l) []], .box wb [.fn (.func 77) [.ptr yb 0, .ptr wb 0]]] (hy (i + 0) _ Γ h0 hJ) (WkT.refl _) (List.Perm.refl _) ?_
  rintro _ Γ1 (⟨rfl, hJ1⟩ | ⟨rfl, hX⟩)
  ·conv => whnf
   repeat' (first|refine aA0 ?_|((intro _);conv=>whnf)|(refine zX (fun hc=>?_) (fun hc=>?_)<;>(try simp only [SY] at hc)<;>(conv=>whnf)))
   ·exact PRet.gen (y := .btrue) (Γ' := .box yb [.fn (.yield l) []] :: .box wb [.fn (.func 77) [.ptr yb 0, .ptr wb 0]] :: Γ1) (hp := ⟨(List.perm_append_singleton _ _).symm⟩) (Wk.refl _) ⟨Γ1, rfl, .inl ⟨rfl, by rw [if_pos hc]; exact hJ1⟩⟩
   ·rw [if_neg (by omega)] at hfr ⊢
    rename_i tk htk
    refine PCall.pure (concatInt_c [sc, t.v] hsum (by simp)) (WkT.cons (Wk.tok _ _ _) WkT.nil) ?_
    rw [show [sc, t.v].flatten = sc ++ t.v by simp]
    conv => whnf
    repeat' (first|refine aA0 ?_|((intro _);conv=>whnf)|(refine zX (fun hc=>?_) (fun hc=>?_)<;>(try simp only [SY] at hc)<;>omega))
    have hfr1 := hfr.head
    refine PLoop.over [8, 10, 11, 12, 29, 30, 31, 32, 33, 34, 35, 36, 37, 38, 39, 40, 41, 42, 43, 44, 45, 46, 47, 48, 49, 50, 51, 52, 53] (fun x : Nat × Nat × List Ent => [(29, .int .i64 x.1)])
     (fun x : Nat × Nat × List Ent => .tok tk :: .box b5 [.int .i64 t.op, .int .i64 t.n, .sl 1 (t.v.map (PV.int .i64)) none, .sl 4 (t.t.map Trm.pv) none] :: .box yb [.fn (.yield l) []] :: .box wb [.fn (.func 77) [.ptr yb 0, .ptr wb 0]] :: x.2.2)
     (fun x => x.1 ≤ t.t.length ∧ J x.2.1 x.2.2 ∧ From xs x.2.1 (Trm.mets t.op sc (sc ++ t.v) (t.t.drop x.1) (deep + 1)) ∧ x.2.1 + (Trm.mets t.op sc (sc ++ t.v) (t.t.drop x.1) (deep + 1)).length = i + 1 + (Trm.mets t.op sc (sc ++ t.v) t.t (deep + 1)).length)
     (fun x => t.t.length - x.1) (0, i + 1, Γ1) ⟨by omega, hJ1, hfr1, rfl⟩ wA ?_
    rintro ⟨k, p, Γ2⟩ ⟨k1, k2, k3, k4⟩
    dsimp only at k1 k2 k3 k4 ⊢
    conv => whnf
    repeat' (first|refine aA0 ?_|((first|refine pC (group_c t) wR ?_|intro _);conv=>whnf)|(refine zX (fun hc=>?_) (fun hc=>?_)<;>(try simp only [SY] at hc)<;>(conv=>whnf)))
    rotate_right
    ·rw [List.drop_of_length_le (by omega), Trm.mets] at k4
     exact PRet.gen (y := .btrue) (Γ' := .box yb [.fn (.yield l) []] :: .box wb [.fn (.func 77) [.ptr yb 0, .ptr wb 0]] :: Γ2) (hp := ⟨List.perm_append_comm (l₁ := [_, _])⟩) (Wk.refl _) ⟨Γ2, rfl, .inl ⟨rfl, by
      rw [List.length_cons, show i + ((Trm.mets t.op sc (sc ++ t.v) t.t (deep + 1)).length + 1) = p by simp only [List.length_nil] at k4; omega]; exact k2⟩⟩
    all_goals
     rename_i b11
     have hlt : k < t.t.length := by omega
     have hbm := Trm.bulks_mem (List.getElem_mem hlt)
     have hdr : t.t.drop (k + 1) = [] ↔ k + 1 = t.t.length := by rw [List.drop_eq_nil_iff]; omega
     rw [drop_at hlt, Trm.mets] at k3 k4
    ·rw [if_pos (show groupB t.op = true ∨ t.t.drop (k + 1) = [] by rw [hdr]; exact hc.imp id fun h => by omega)] at k3 k4
     have k3l := k3.left
     have k3r := k3.right
     rw [List.length_append] at k4
     refine PCall.goR [.box b11 [.int .i64 t.t[k].op, .int .i64 t.t[k].n, .sl 1 (t.t[k].v.map (PV.int .i64)) none, .sl 4 (t.t[k].t.map Trm.pv) none], .tok tk, .box b5 [.int .i64 t.op, .int .i64 t.n, .sl 1 (t.v.map (PV.int .i64)) none, .sl 4 (t.t.map Trm.pv) none]]
      (ih t.t[k] (List.getElem_mem _) (sc ++ t.v) (deep + 1) p Γ2 (by omega) (by omega) (by first | omega | (simp; omega)) k3l k2) (WkT.refl _) (List.Perm.refl _) ?_
     rintro _ _ ⟨Γ3, rfl, ⟨rfl, g1⟩ | ⟨rfl, g1⟩⟩
     ·conv => whnf
      repeat' (first|refine aA0 ?_|(refine zX (fun hc=>?_) (fun hc=>?_)<;>(try simp only [SY] at hc)<;>omega))
      exact loopTo (k + 1, p + (t.t[k].met (sc ++ t.v) (deep + 1)).length, Γ3) (hp := ⟨(List.perm_append_singleton _ _).symm⟩) ⟨by omega, g1, k3r, by dsimp only; omega⟩ (by show t.t.length - (k + 1) < t.t.length - k; omega) wA
     ·conv => whnf
      skip
      exact PRet.gen (y := .bfalse) (Γ' := .box yb [.fn (.yield l) []] :: .box wb [.fn (.func 77) [.ptr yb 0, .ptr wb 0]] :: Γ3) (hp := ⟨List.perm_append_comm (l₁ := [_, _, _])⟩) (Wk.refl _) ⟨Γ3, rfl, .inr ⟨rfl, g1⟩⟩
    ·rw [if_neg (show ¬(groupB t.op = true ∨ t.t.drop (k + 1) = []) by rw [hdr]; rintro (h | h); rw [hc.1] at h; cases h; exact hc.2 (by omega))] at k3 k4
     have k3l := k3.left
     have k3r := k3.right
     rw [List.length_append] at k4
     refine PCall.goR [.box b11 [.int .i64 t.t[k].op, .int .i64 t.t[k].n, .sl 1 (t.t[k].v.map (PV.int .i64)) none, .sl 4 (t.t[k].t.map Trm.pv) none], .tok tk, .box b5 [.int .i64 t.op, .int .i64 t.n, .sl 1 (t.v.map (PV.int .i64)) none, .sl 4 (t.t.map Trm.pv) none]]
      (ih t.t[k] (List.getElem_mem _) (sc) (deep + 1) p Γ2 (by omega) (by omega) (by first | omega | (simp; omega)) k3l k2) (WkT.refl _) (List.Perm.refl _) ?_
     rintro _ _ ⟨Γ3, rfl, ⟨rfl, g1⟩ | ⟨rfl, g1⟩⟩
     ·conv => whnf
      repeat' (first|refine aA0 ?_|(refine zX (fun hc=>?_) (fun hc=>?_)<;>(try simp only [SY] at hc)<;>omega))
      exact loopTo (k + 1, p + (t.t[k].met (sc) (deep + 1)).length, Γ3) (hp := ⟨(List.perm_append_singleton _ _).symm⟩) ⟨by omega, g1, k3r, by dsimp only; omega⟩ (by show t.t.length - (k + 1) < t.t.length - k; omega) wA
     ·conv => whnf
      skip
      exact PRet.gen (y := .bfalse) (Γ' := .box yb [.fn (.yield l) []] :: .box wb [.fn (.func 77) [.ptr yb 0, .ptr wb 0]] :: Γ3) (hp := ⟨List.perm_append_comm (l₁ := [_, _, _])⟩) (Wk.refl _) ⟨Γ3, rfl, .inr ⟨rfl, g1⟩⟩
  ·conv => whnf
   skip
   exact PRet.gen (y := .bfalse) (Γ' := .box yb [.fn (.yield l) []] :: .box wb [.fn (.func 77) [.ptr yb 0, .ptr wb 0]] :: Γ1) (hp := ⟨(List.perm_append_singleton _ _).symm⟩) (Wk.refl _) ⟨Γ1, rfl, .inr ⟨rfl, hX⟩⟩
def Trm.all (t : Trm) : List (Trm × List Int) := t.met [] 0
theorem all1_c (b : Nat) (t : Trm) (hb : t.bulk ≤ 1000000000) : AIter Tryz.prog 76 [.ptr b 0] [.box b t.cells] (t.all.map fun m => [metP m]) := by
 intro l J X hy Γ hJ
 refine ACall.ghost (Ghost.drop (Γ' := .box b t.cells :: Γ) (Γ1 := []) (by rw [List.append_nil]; exact List.perm_append_singleton _ _)) ?_
 refine ACall.of_body tt_ok Tryz.func76 rfl rfl (n := 8) rfl rfl ?_
 conv => whnf
 repeat' (first|refine aA0 ?_|((intro _);conv=>whnf)|(refine zX (fun hc=>?_) (fun hc=>?_)<;>(try simp only [SY] at hc)<;>omega))
 rename_i yb wb
 refine PCall.goR [.box b t.cells] (walk_c l yb wb _ J X hy t [] 0 0 Γ (by omega) (by omega) (by simp; omega) (fun j hj => by rw [Nat.zero_add, List.getElem?_map]; show Option.map _ (t.met [] 0)[j]? = _; rw [List.getElem?_eq_getElem hj]; rfl) hJ) (WkT.cons (Wk.refl _) (WkT.cons (Wk.nil' rfl) (WkT.refl _))) ((List.Perm.swap _ _ _).trans (((List.Perm.swap _ _ _).cons _).trans (List.Perm.swap _ _ _))) ?_
 rintro _ _ ⟨Γ1, rfl, h1⟩
 conv => whnf
 skip
 refine PRet.gen (Γ' := Γ1) (hp := ⟨List.perm_append_comm (l₁ := [_, _, _])⟩) (Wk.refl _) ?_
 rw [List.length_map]
 rcases h1 with ⟨_, h⟩ | ⟨_, h⟩
 ·exact .inl (by rw [Nat.zero_add] at h; exact h)
 ·exact .inr h
theorem all_c (t : Trm) : ACall Tryz.prog 40 [.agg t.cells] [] (fun y Γ' => ∃ b, y = .fn (.func 76) [.ptr b 0] ∧ Γ' = [.box b t.cells]) := by
 refine ACall.of_body tt_ok Tryz.func40 rfl rfl (n := 4) rfl rfl ?_
 conv => whnf
 repeat' (first|((intro _);conv=>whnf)|(refine zX (fun hc=>?_) (fun hc=>?_)<;>(try simp only [SY] at hc)<;>omega))
 rename_i b
 exact PRet.gen (y := .fn (.func 76) [.ptr b 0]) (Γ' := [.box b t.cells]) (hp := PickL.self _) (Wk.refl _) ⟨b, rfl, rfl⟩
end Go.Cb
namespace Go.Cb
open Go.Proofs
set_option maxRecDepth 100000
set_option maxHeartbeats 4000000
end Go.Cb
namespace Go.Cb
open Go.Proofs
set_option maxRecDepth 100000
set_option maxHeartbeats 4000000
theorem PLenM.one {x : PV} {Γ : List Ent} {t : Tok} {put : Tok → List PV → List Ent} [hp : PickRow Γ t [x] put] {K : Nat → Prop} (k : K 1) : PLenM t Γ K := PLenM.at_ (hp := hp) (fun _ => k)
end Go.Cb
namespace Go.Cb
open Go.Proofs
set_option maxRecDepth 100000
set_option maxHeartbeats 4000000
def namesB (op : Int) : Bool := op == 1 || op == 2 || op == 14
def freeOf (l : List (Trm × List Int)) : List Int := (l.filter fun m => namesB m.1.op && !m.2.contains m.1.n).map fun m => m.1.n
end Go.Cb
namespace Go.Cb
open Go.Proofs
set_option maxRecDepth 100000
set_option maxHeartbeats 4000000
mutual
def Trm.dep : Trm → Int
 | .mk _ _ _ t => Trm.deps t 0
def Trm.deps : List Trm → Int → Int
 | [], d => d
 | x :: xs, d => Trm.deps xs (max d (1 + Trm.dep x))
end
theorem Trm.dep_eq (t : Trm) : t.dep = Trm.deps t.t 0 := by cases t; rfl
theorem Trm.deps_le (c : Int) : ∀ (l : List Trm) (d : Int), Trm.deps l d ≤ c ↔ d ≤ c ∧ ∀ x ∈ l, 1 + x.dep ≤ c
 | [], d => by simp [Trm.deps]
 | x :: l, d => by
  rw [Trm.deps, Trm.deps_le c l]
  simp only [List.forall_mem_cons]
  constructor
  ·rintro ⟨h1, h2⟩; exact ⟨by omega, by omega, h2⟩
  ·rintro ⟨h1, h2, h3⟩; exact ⟨by omega, h3⟩
theorem Trm.deps_ge : ∀ (l : List Trm) (d : Int), d ≤ Trm.deps l d
 | [], d => by simp [Trm.deps]
 | x :: l, d => by rw [Trm.deps]; have := Trm.deps_ge l (max d (1 + x.dep)); omega
theorem Trm.met_all (t : Trm) : ∀ (sc : List Int) (deep : Int), deep + t.dep < 1000 → (t.met sc deep).length = t.cnt ∧ (t.met sc deep).flatMap (fun m => m.1.v) = t.vars := by
 induction t using Trm.ind with
 | h t ih =>
  intro sc deep h
  rw [Trm.dep_eq] at h
  have hd := (Trm.deps_le (999 - deep) t.t 0).1 (by omega)
  have key : ∀ (op : Int) (l : List Trm), (∀ y ∈ l, ∀ (sc : List Int) (deep : Int), deep + y.dep < 1000 → (y.met sc deep).length = y.cnt ∧ (y.met sc deep).flatMap (fun m => m.1.v) = y.vars) →
    ∀ (sc inner : List Int) (deep : Int), (∀ x ∈ l, deep + x.dep < 1000) → (Trm.mets op sc inner l deep).length = Trm.cnts l ∧ (Trm.mets op sc inner l deep).flatMap (fun m => m.1.v) = Trm.varss l := by
   intro op l
   induction l with
   | nil => intro _ _ _ _ _; simp [Trm.mets, Trm.cnts, Trm.varss]
   | cons x l ihl =>
    intro hy sc inner deep hx
    have h1 := hy x (by simp) (if groupB op = true ∨ l = [] then inner else sc) deep (hx x (by simp))
    have h2 := ihl (fun y hh => hy y (by simp [hh])) sc inner deep fun y hh => hx y (by simp [hh])
    rw [Trm.mets, Trm.cnts, Trm.varss, List.flatMap_append, h1.2, h2.2, List.length_append]
    exact ⟨by have := h1.1; have := h2.1; omega, rfl⟩
  have h1 := key t.op t.t ih sc (sc ++ t.v) (deep + 1) fun x hx => by have := hd.2 x hx; omega
  have hlt : ¬ deep ≥ 1000 := by have := Trm.deps_ge t.t 0; omega
  rw [Trm.met_eq, if_neg hlt, Trm.cnt_eq, Trm.vars_eq, List.flatMap_cons, List.length_cons, h1.2]
  exact ⟨by have := h1.1; omega, rfl⟩
theorem Trm.okT_deep {level c codes : Int} {free : Bool} (t : Trm) : ∀ {scope : List Int} {deep : Int}, t.okT level c codes free scope deep → deep + t.dep ≤ 400 := by
 induction t using Trm.ind with
 | h t ih =>
  intro scope deep h
  rw [Trm.okT_eq] at h
  have key : ∀ (op : Int) (sc inner : List Int) (deep : Int) (l : List Trm), (∀ y ∈ l, ∀ {scope : List Int} {deep : Int}, y.okT level c codes free scope deep → deep + y.dep ≤ 400) → Trm.okTs level c codes free op sc inner l deep → ∀ x ∈ l, deep + x.dep ≤ 400 := by
   intro op sc inner deep l
   induction l with
   | nil => intro _ _; simp
   | cons x l ihl =>
    intro hy hk y hm
    rw [Trm.okTs] at hk
    rcases List.mem_cons.1 hm with rfl | hm
    ·exact hy y (by simp) hk.2.1
    ·exact ihl (fun z hz => hy z (by simp [hz])) hk.2.2 y hm
  have h1 := key _ _ _ _ _ ih h.2
  have := (Trm.deps_le (400 - deep) t.t 0).2 ⟨by have := h.1.1; omega, fun x hx => by have := h1 x hx; omega⟩
  rw [Trm.dep_eq]; omega
theorem Trm.okT_move {level c codes : Int} {free : Bool} (t : Trm) : ∀ {scope : List Int} {deep deep2 : Int}, t.okT level c codes free scope deep → deep2 + t.dep ≤ 400 → t.okT level c codes free scope deep2 := by
 induction t using Trm.ind with
 | h t ih =>
  intro scope deep deep2 h hd
  rw [Trm.okT_eq] at h ⊢
  rw [Trm.dep_eq] at hd
  have hd2 := (Trm.deps_le (400 - deep2) t.t 0).1 (by omega)
  have key : ∀ (op : Int) (sc inner : List Int) (deep deep2 : Int) (l : List Trm), (∀ y ∈ l, ∀ {scope : List Int} {deep deep2 : Int}, y.okT level c codes free scope deep → deep2 + y.dep ≤ 400 → y.okT level c codes free scope deep2) → (∀ x ∈ l, deep2 + x.dep ≤ 400) →
    Trm.okTs level c codes free op sc inner l deep → Trm.okTs level c codes free op sc inner l deep2 := by
   intro op sc inner deep deep2 l
   induction l with
   | nil => intro _ _ _; simp [Trm.okTs]
   | cons x l ihl =>
    intro hy hx hk
    rw [Trm.okTs] at hk ⊢
    exact ⟨hk.1, hy x (by simp) hk.2.1 (hx x (by simp)), ihl (fun z hz => hy z (by simp [hz])) (fun z hz => hx z (by simp [hz])) hk.2.2⟩
  exact ⟨⟨by have := Trm.deps_ge t.t 0; omega, h.1.2⟩, key _ _ _ _ _ _ ih (fun x hx => by have := hd2.2 x hx; omega) h.2⟩
theorem Trm.okT_names {level c codes : Int} {free : Bool} (t : Trm) : ∀ {scope : List Int} {deep : Int} (deep2 : Int), t.okT level c codes free scope deep → ∀ m ∈ t.met scope deep2, namesB m.1.op = true → m.2.contains m.1.n = true := by
 induction t using Trm.ind with
 | h t ih =>
  intro scope deep deep2 h
  rw [Trm.okT_eq] at h
  have key : ∀ (op : Int) (sc inner : List Int) (deep deep2 : Int) (l : List Trm), (∀ y ∈ l, ∀ {scope : List Int} {deep : Int} (deep2 : Int), y.okT level c codes free scope deep → ∀ m ∈ y.met scope deep2, namesB m.1.op = true → m.2.contains m.1.n = true) →
    Trm.okTs level c codes free op sc inner l deep → ∀ m ∈ Trm.mets op sc inner l deep2, namesB m.1.op = true → m.2.contains m.1.n = true := by
   intro op sc inner deep deep2 l
   induction l with
   | nil => intro _ _; simp [Trm.mets]
   | cons x l ihl =>
    intro hy hk m hm
    rw [Trm.okTs] at hk
    rw [Trm.mets, List.mem_append] at hm
    rcases hm with hm | hm
    ·have e : (if groupB op = true ∨ l = [] then inner else sc) = (if l = [] ∨ op = 7 ∨ op = 9 then inner else sc) := by
      by_cases h1 : l = [] <;> by_cases h2 : op = 7 <;> by_cases h3 : op = 9 <;> simp [groupB, h1, h2, h3]
     rw [e] at hm
     exact hy x (by simp) deep2 hk.2.1 m hm
    ·exact ihl (fun z hz => hy z (by simp [hz])) hk.2.2 m hm
  intro m hm
  rw [Trm.met_eq] at hm
  rcases List.mem_cons.1 hm with rfl | hm
  ·intro hn
   have h4 := h.1.2.2.2
   have ho : t.op = 1 ∨ t.op = 2 ∨ t.op = 14 := by simp [namesB] at hn; omega
   unfold numberL at h4
   rw [if_neg (by omega), if_pos ho] at h4
   exact h4
  ·split at hm
   ·cases hm
   ·exact key _ _ _ _ _ _ ih h.2 m hm
theorem RightP.free {p : Prog} {level : Int} (h : RightP p level) : freeOf p.body.all = [] := by
 unfold freeOf
 rw [List.map_eq_nil_iff, List.filter_eq_nil_iff]
 intro m hm
 have := p.body.okT_names 0 h.2.2.1 m hm
 simp
 simpa using this
theorem RightP.seq {p : Prog} {level : Int} (h : RightP p level) (hd : p.body.dep < 400) (hc : p.body.cnt ≤ 300) : RightP ⟨p.consts, .mk 6 0 [] [p.body]⟩ level := by
 obtain ⟨h1, h2, h3, h4, h5⟩ := h
 refine ⟨h1, h2, ?_, ?_, ?_⟩
 ·rw [Trm.okT, Trm.okTs, Trm.okTs]
  refine ⟨⟨by omega, ?_, ?_, ?_⟩, ⟨by simp, ?_, trivial⟩⟩
  ·simp [sortsL]
  ·simp [countsL, Trm.op, Trm.t, Trm.v]
  ·simp [numberL, Trm.op, Trm.n]
  ·rw [if_pos (.inl rfl)]
   exact Trm.okT_move _ h3 (by omega)
 ·show Trm.cnt (.mk 6 0 [] [p.body]) ≤ 20000
  rw [Trm.cnt_eq]
  show 1 + Trm.cnts [p.body] ≤ 20000
  rw [Trm.cnts, Trm.cnts]; omega
 ·show Dist (Trm.vars (.mk 6 0 [] [p.body])) []
  rw [Trm.vars_eq]
  show Dist ([] ++ Trm.varss [p.body]) []
  rw [Trm.varss, Trm.varss]
  simpa using h5
end Go.Cb
namespace Go.Cb
open Go.Lib
def riseL (l : List Int) : List Int := compact (l.mergeSort fun x y => decide (x ≤ y))
theorem arr_get! {α : Type} [Inhabited α] {l : List α} {j : Nat} (h : j < l.length) : l.toArray[j]! = l[j] := by
 rw [getElem!_pos _ j (by simpa using h)]; simp
theorem mem_compact (l : List Int) (x : Int) : x ∈ compact l ↔ x ∈ l := by
 unfold compact compactUpTo
 simp only [List.mem_map, List.mem_filter, List.mem_range]
 constructor
 ·rintro ⟨j, ⟨hj, _⟩, rfl⟩
  rw [arr_get! hj]
  exact List.getElem_mem hj
 ·intro hx
  have key : ∀ n (j : Nat) (hj : j < l.length), j ≤ n → l[j] = x → ∃ i, (i < l.length ∧ keeps l.toArray i = true) ∧ l.toArray[i]! = x := by
   intro n
   induction n with
   | zero =>
    intro j hj hn e
    obtain rfl : j = 0 := by omega
    exact ⟨0, ⟨hj, keeps_lt_one _ 0 (by omega)⟩, by rw [arr_get! hj, e]⟩
   | succ n ih =>
    intro j hj hn e
    by_cases h0 : j = 0
    ·subst h0
     exact ⟨0, ⟨hj, keeps_lt_one _ 0 (by omega)⟩, by rw [arr_get! hj, e]⟩
    by_cases hp : l[j - 1] = x
    ·exact ih (j - 1) (by omega) (by omega) hp
    ·refine ⟨j, ⟨hj, keeps_pos ?_⟩, by rw [arr_get! hj, e]⟩
     rw [arr_get! hj, arr_get! (show j - 1 < l.length by omega), e]
     exact fun h => hp h.symm
  obtain ⟨j, hj, e⟩ := List.getElem_of_mem hx
  exact key j j hj (Nat.le_refl _) e
theorem keeps_ne {l : List Int} {j : Nat} (h0 : 0 < j) (hj : j < l.length) (h : keeps l.toArray j = true) : l[j] ≠ l[j - 1] := by
 intro e
 have := keeps_neg (d := l.toArray) h0 (by rw [arr_get! hj, arr_get! (show j - 1 < l.length by omega)]; exact e)
 rw [this] at h; cases h
theorem compact_lt {l : List Int} (h : l.Pairwise (· ≤ ·)) : (compact l).Pairwise (· < ·) := by
 unfold compact compactUpTo
 rw [List.pairwise_map]
 refine List.Pairwise.imp_of_mem ?_ (List.Pairwise.filter _ List.pairwise_lt_range)
 intro i j hi hj hij
 simp only [List.mem_filter, List.mem_range] at hi hj
 rw [arr_get! hi.1, arr_get! hj.1]
 have h1 := keeps_ne (by omega) hj.1 hj.2
 have hp := List.pairwise_iff_getElem.1 h
 have h2 : l[j - 1] ≤ l[j] := hp (j - 1) j (by omega) hj.1 (by omega)
 have h3 : l[i] ≤ l[j - 1] := by
  by_cases e : i = j - 1
  ·subst e; omega
  ·exact hp i (j - 1) hi.1 (by omega) (by omega)
 omega
theorem mem_rise (l : List Int) (x : Int) : x ∈ riseL l ↔ x ∈ l := by
 unfold riseL
 rw [mem_compact, List.mem_mergeSort]
theorem sorted_le (l : List Int) : (l.mergeSort fun x y => decide (x ≤ y)).Pairwise (· ≤ ·) := by
 have := List.pairwise_mergeSort (le := fun x y : Int => decide (x ≤ y)) (by intro a b c; simp; omega) (by intro a b; simp; omega) l
 simpa using this
theorem rise_lt (l : List Int) : (riseL l).Pairwise (· < ·) := compact_lt (sorted_le l)
theorem lt_ext : ∀ {l m : List Int}, l.Pairwise (· < ·) → m.Pairwise (· < ·) → (∀ x, x ∈ l ↔ x ∈ m) → l = m
 | [], [], _, _, _ => rfl
 | [], y :: m, _, _, h => by have := (h y).2 (by simp); cases this
 | x :: l, [], _, _, h => by have := (h x).1 (by simp); cases this
 | x :: l, y :: m, hl, hm, h => by
  rw [List.pairwise_cons] at hl hm
  have hxy : x = y := by
   have h1 := (h x).1 (by simp)
   have h2 := (h y).2 (by simp)
   rw [List.mem_cons] at h1 h2
   rcases h1 with h1 | h1
   ·exact h1
   ·rcases h2 with h2 | h2
    ·exact h2.symm
    ·have := hl.1 _ h2; have := hm.1 _ h1; omega
  subst hxy
  rw [lt_ext hl.2 hm.2 fun z => ?_]
  have := h z
  simp only [List.mem_cons] at this
  constructor
  ·intro hz
   have hlt := hl.1 z hz
   exact (this.1 (.inr hz)).resolve_left (by omega)
  ·intro hz
   have hlt := hm.1 z hz
   exact (this.2 (.inr hz)).resolve_left (by omega)
theorem rise_len {l : List Int} (h : l.Nodup) : (riseL l).length = l.length := by
 have h1 : (riseL l).Nodup := (rise_lt l).imp fun h => by omega
 have : (riseL l).Perm l := (List.perm_ext_iff_of_nodup h1 h).2 (mem_rise l)
 exact this.length_eq
end Go.Cb
namespace Go.Cb
open Go.Proofs
set_option maxRecDepth 100000
set_option maxHeartbeats 4000000
end Go.Cb
namespace Go.Proofs
open Go.Shelf
def Tryz.lays189_ren : Go.Shelf.Ren := ⟨fun | 189 => 79 | 125 => 108 | 257 => 107 | 128 => 134 | 129 => 135 | 294 => 125 | 295 => 126 | 296 => 127 | 297 => 128 | 298 => 129 | 299 => 130 | 216 => 131 | 300 => 132 | 301 => 133 | 328 => 149 | 329 => 150 | 330 => 151 | 331 => 152 | 332 => 153 | 215 => 154 | 343 => 175 | n => n, fun | 28 => 23 | 3 => 3 | 46 => 165 | 0 => 0 | 51 => 190 | 53 => 192 | 4 => 4 | 183 => 184 | 182 => 183 | 131 => 132 | 5 => 5 | 9 => 9 | 218 => 206 | 222 => 210 | 228 => 235 | 229 => 212 | n => n, fun | n => n⟩
theorem Tryz.lays189 : Go.Proofs.Lays.n189 Tryz.prog Tryz.lays189_ren := {
 mixed := by kernel_rfl
 f125 := Tryz.func108.trans (congrArg some (by kernel_rfl))
 f128 := Tryz.func134.trans (congrArg some (by kernel_rfl))
 f129 := Tryz.func135.trans (congrArg some (by kernel_rfl))
 f189 := Tryz.func79.trans (congrArg some (by kernel_rfl))
 f215 := Tryz.func154.trans (congrArg some (by kernel_rfl))
 f216 := Tryz.func131.trans (congrArg some (by kernel_rfl))
 f257 := Tryz.func107.trans (congrArg some (by kernel_rfl))
 f294 := Tryz.func125.trans (congrArg some (by kernel_rfl))
 f295 := Tryz.func126.trans (congrArg some (by kernel_rfl))
 f296 := Tryz.func127.trans (congrArg some (by kernel_rfl))
 f297 := Tryz.func128.trans (congrArg some (by kernel_rfl))
 f298 := Tryz.func129.trans (congrArg some (by kernel_rfl))
 f299 := Tryz.func130.trans (congrArg some (by kernel_rfl))
 f300 := Tryz.func132.trans (congrArg some (by kernel_rfl))
 f301 := Tryz.func133.trans (congrArg some (by kernel_rfl))
 f328 := Tryz.func149.trans (congrArg some (by kernel_rfl))
 f329 := Tryz.func150.trans (congrArg some (by kernel_rfl))
 f330 := Tryz.func151.trans (congrArg some (by kernel_rfl))
 f331 := Tryz.func152.trans (congrArg some (by kernel_rfl))
 f332 := Tryz.func153.trans (congrArg some (by kernel_rfl))
 f343 := Tryz.func175.trans (congrArg some (by kernel_rfl))
 t0 := Tryz.underlying0
 a0 := Tryz.isAgg0
 z0 := Tryz.sizeOf0
 v0 := Tryz.zeroValue0
 t3 := Tryz.underlying3
 a3 := Tryz.isAgg3
 z3 := Tryz.sizeOf3
 v3 := Tryz.zeroValue3
 t4 := Tryz.underlying4
 a4 := Tryz.isAgg4
 z4 := Tryz.sizeOf4
 v4 := Tryz.zeroValue4
 t5 := Tryz.underlying5
 a5 := Tryz.isAgg5
 z5 := Tryz.sizeOf5
 v5 := Tryz.zeroValue5
 t9 := Tryz.underlying9
 a9 := Tryz.isAgg9
 z9 := Tryz.sizeOf9
 v9 := Tryz.zeroValue9
 t28 := Tryz.underlying23
 a28 := Tryz.isAgg23
 z28 := Tryz.sizeOf23
 v28 := Tryz.zeroValue23
 t46 := Tryz.underlying165
 a46 := Tryz.isAgg165
 z46 := Tryz.sizeOf165
 v46 := Tryz.zeroValue165
 t51 := Tryz.underlying190
 a51 := Tryz.isAgg190
 z51 := Tryz.sizeOf190
 v51 := Tryz.zeroValue190
 t53 := Tryz.underlying192
 a53 := Tryz.isAgg192
 z53 := Tryz.sizeOf192
 v53 := Tryz.zeroValue192
 t131 := Tryz.underlying132
 a131 := Tryz.isAgg132
 z131 := Tryz.sizeOf132
 v131 := Tryz.zeroValue132
 t182 := Tryz.underlying183
 a182 := Tryz.isAgg183
 z182 := Tryz.sizeOf183
 v182 := Tryz.zeroValue183
 t183 := Tryz.underlying184
 a183 := Tryz.isAgg184
 z183 := Tryz.sizeOf184
 v183 := Tryz.zeroValue184
 t218 := Tryz.underlying206
 a218 := Tryz.isAgg206
 z218 := Tryz.sizeOf206
 v218 := Tryz.zeroValue206
 t222 := Tryz.underlying210
 a222 := Tryz.isAgg210
 z222 := Tryz.sizeOf210
 v222 := Tryz.zeroValue210
 t228 := Tryz.underlying235
 a228 := Tryz.isAgg235
 z228 := Tryz.sizeOf235
 v228 := Tryz.zeroValue235
 t229 := Tryz.underlying212
 a229 := Tryz.isAgg212
 z229 := Tryz.sizeOf212
 v229 := Tryz.zeroValue212 }
def Tryz.laysNm220_ren : Go.Shelf.Ren := ⟨fun | 20 => 80 | n => n, fun | 22 => 23 | 3 => 3 | 4 => 4 | 0 => 0 | n => n, fun | n => n⟩
theorem Tryz.laysNm220 : Go.Proofs.Lays2.n20 Tryz.prog Tryz.laysNm220_ren := {
 mixed := by kernel_rfl
 f20 := Tryz.func80.trans (congrArg some (by kernel_rfl))
 t0 := Tryz.underlying0
 a0 := Tryz.isAgg0
 z0 := Tryz.sizeOf0
 v0 := Tryz.zeroValue0
 t3 := Tryz.underlying3
 a3 := Tryz.isAgg3
 z3 := Tryz.sizeOf3
 v3 := Tryz.zeroValue3
 t4 := Tryz.underlying4
 a4 := Tryz.isAgg4
 z4 := Tryz.sizeOf4
 v4 := Tryz.zeroValue4
 t22 := Tryz.underlying23
 a22 := Tryz.isAgg23
 z22 := Tryz.sizeOf23
 v22 := Tryz.zeroValue23
 i3 := by kernel_rfl }
end Go.Proofs
namespace Go.Cb
open Go.Proofs Go.Sort
open Go.RowKit (Below)
set_option maxRecDepth 100000
set_option maxHeartbeats 4000000
theorem flat_ints : ∀ l : List Int, flat (l.map (PV.int .i64)) = l.map (PV.int .i64)
 | [] => rfl
 | x :: l => by
  have := flat_ints l
  simp only [flat, List.map_cons, List.flatMap_cons, PV.cellsOf] at this ⊢
  rw [this]; rfl
theorem repL_ints (F : Fz) : ∀ l : List Int, RepL F (l.map (PV.int .i64)) (l.map (Value.int .i64))
 | [] => RepL_nil F
 | x :: l => RepL_cons.2 ⟨⟨rfl, by simp only [Rep]⟩, repL_ints F l⟩
theorem repL_ints_eq {F : Fz} : ∀ {l : List Int} {xs : List Value}, RepL F (l.map (PV.int .i64)) xs → xs = l.map (Value.int .i64)
 | [], [], _ => rfl
 | [], _ :: _, h => by simp only [List.map_nil, RepL] at h
 | _ :: _, [], h => by simp only [List.map_cons, RepL] at h
 | x :: l, v :: xs, h => by
  have h := RepL_cons.1 h
  have h1 : v = .int .i64 x := by simpa only [Rep] using h.1.2
  rw [h1, repL_ints_eq h.2]; rfl
theorem Sim.putInts {w0 : World} {F : Fz} {M : List Ent} {w : World} {t : Tok} {l ts : List Int} (h : Sim w0 F (.row t (l.map (PV.int .i64)) :: M) w) (hs : t.s = 1) (hlen : ts.length = l.length) {g : Nat} (hg : t.b = some g) (q : Nat) (os : Array Obj) :
  Sim w0 F (.row t (ts.map (PV.int .i64)) :: M) (grow (putRow (Value.int .i64) (Sort.ahead w q) g 0 ts.toArray) os) := by
 obtain ⟨⟨xs, hown, hr⟩, hes, e2, hfree⟩ := h.ent _ (List.mem_cons_self ..)
 rcases hown.2 with ⟨h1, _⟩ | ⟨g', cap, cur, hb, hv, hB, hh, hnc, hcm, hsz, htake⟩
 ·rw [h1] at hg; cases hg
 obtain rfl : g' = g := by rw [hb] at hg; simpa using hg
 have hsep := List.pairwise_cons.1 h.sep
 have hgr : w.grownBy (grow (putRow (Value.int .i64) (Sort.ahead w q) g' 0 ts.toArray) os) (some g') := grownBy_sortedI ts.toArray
 have hn : l.length = t.n := by simpa using e2
 have hfl : flat (ts.map (PV.int .i64)) = ts.map (PV.int .i64) := flat_ints ts
 refine Sim.rowE (t := t) (ys := ts.map (PV.int .i64)) (xs := ts.map (Value.int .i64)) h.tail ((Below.refl _ w).grown hgr h.below.size fun k hk => by simp at hk; omega) ?_ (by simp [hs, PV.cellsOf]) (by simp; omega) (by rw [hfl]; exact repL_ints F ts) ?_ ?_ hfree
 ·refine ⟨by simp [hs]; omega, .inr ⟨g', cap, _, hb, hv, hB, heap_sortedI ts.toArray hh, hnc, hcm, by simp [putCells, hsz], ?_⟩⟩
  have : t.n * t.s = ts.length := by rw [hs]; omega
  rw [this]
  exact take_putCellsI cur ts (by rw [hsz, hs]; omega)
 ·intro b o u x
  have hne : b ≠ g' := fun e => by rw [e, hfree g' hb o] at x; cases x
  have hlt := World.block_lt_of_cell? w _ (h.fz b o u x)
  rw [World.cell?_of_block (w := w) (hgr.block b hlt (by simp; omega))]
  exact h.fz b o u x
 ·intro e he k hk
  have hne : t.b ≠ some k := by
   rcases hsep.1 e he with hh | hh
   ·simp only [Ent.blk] at hh; rw [hh]; simp
   ·intro hx; exact hh (by rw [hk]; exact hx)
  have hlt := (Ent.blk_lt (h.ent e (List.mem_cons_of_mem _ he)) hk).2
  exact ⟨hgr.block k hlt (by rw [hb] at hne; exact fun e => hne e.symm), hne⟩
theorem compact_len (l : List Int) : (Lib.compact l).length ≤ l.length := by
 unfold Lib.compact Lib.compactUpTo
 rw [List.length_map]
 exact Nat.le_trans (List.length_filter_le _ _) (by simp)
theorem row_ints {w0 : World} {F : Fz} {M : List Ent} {w : World} {t : Tok} {l : List Int} (h : Sim w0 F (.row t (l.map (PV.int .i64)) :: M) w) (hs : t.s = 1) :
  (l = [] ∧ ∃ p, t.v = .slice p 0 0) ∨ ∃ g cap, t.b = some g ∧ t.v = .slice (some ⟨g, 0, none⟩) l.length cap ∧ Holds (Value.int .i64) w g 0 l.toArray ∧ g < w.heap.size ∧ l.length ≤ cap ∧ t.n = l.length := by
 obtain ⟨⟨xs, hown, hr⟩, hes, e2, hfree⟩ := h.ent _ (List.mem_cons_self ..)
 have hn : l.length = t.n := by simpa using e2
 rcases hown.2 with ⟨h1, h2, h3⟩ | ⟨g, cap, cur, hb, hv, hB, hh, hnc, hcm, hsz, htake⟩
 ·refine .inl ⟨List.eq_nil_of_length_eq_zero (by omega), ?_⟩
  rcases h3 with h3 | ⟨a, h3⟩
  ·exact ⟨none, h3⟩
  ·exact ⟨some a, h3⟩
 ·rw [flat_ints] at hr
  have hx := repL_ints_eq hr
  refine .inr ⟨g, cap, hb, by rw [hn]; exact hv, holds_of_blockI (e := t.e) (cur := cur) hh (by rw [← hx, ← htake, hs, hn, Nat.mul_one]), (Array.getElem?_eq_some_iff.1 hh).1, by omega, hn.symm⟩
theorem sort_c (t : Tok) (l : List Int) (hs : t.s = 1) (hl : l.length ≤ 1000000000) :
  ACall Tryz.prog 79 [.ms t] [.row t (l.map (PV.int .i64))] (fun y Γ' => y = .tup [] ∧ Γ' = [.row t ((l.mergeSort fun x y => decide (x ≤ y)).map (PV.int .i64))]) := by
 refine ⟨⟨_, Tryz.func79, rfl, rfl⟩, fun w0 F M w vs hS hT => ?_⟩
 obtain rfl : vs = [t.v] := by
  match vs, hT with
  | [v], hT => simp only [RepT, Rep, and_true] at hT; rw [hT.1]
 rcases row_ints hS hs with ⟨rfl, p, hv⟩ | ⟨g, cap, hb, hv, hH, hg, hc, hn⟩
 ·rw [hv]
  refine (Any.slices_Sort_int_none Tryz.lays189 p 0 w).mono ?_
  rintro e w' ⟨rfl, rfl⟩
  exact ⟨_, F, .tup [], _, rfl, Fz.le_refl F, hS, by simp only [Rep]; exact ⟨[], rfl, by simp [RepT]⟩, rfl, by simp⟩
 ·rw [hv]
  refine (Any.slices_Sort_int Tryz.lays189 g 0 cap l w hH hg (by omega)).mono ?_
  rintro e w' ⟨rfl, q, os, rfl⟩
  exact ⟨_, F, .tup [], _, rfl, Fz.le_refl F, hS.putInts hs (by simp) hb q os, by simp only [Rep]; exact ⟨[], rfl, by simp [RepT]⟩, rfl, rfl⟩
theorem compact_c (t : Tok) (l : List Int) (hs : t.s = 1) (hl : l.length ≤ 1000000000) :
  ACall Tryz.prog 80 [.ms t] [.row t (l.map (PV.int .i64))] (fun y Γ' => ∃ t' : Tok, t'.e = t.e ∧ t'.s = 1 ∧ y = .ms t' ∧ Γ' = [.row t' ((Lib.compact l).map (PV.int .i64))]) := by
 refine ⟨⟨_, Tryz.func80, rfl, rfl⟩, fun w0 F M w vs hS hT => ?_⟩
 obtain ⟨rfl, h1⟩ : vs = [t.v] ∧ t.v.oneCell' = true := by
  match vs, hT with
  | [v], hT => simp only [RepT, Rep, and_true] at hT; rw [hT.1]; exact ⟨rfl, hT.2⟩
 rcases row_ints hS hs with ⟨rfl, p, hv⟩ | ⟨g, cap, hb, hv, hH, hg, hc, hn⟩
 ·rw [hv]
  refine (Any.slices_Compact_int_empty Tryz.laysNm220 p 0 w).mono ?_
  rintro e w' ⟨rfl, rfl⟩
  exact ⟨_, F, .ms t, _, rfl, Fz.le_refl F, hS, by simp only [Rep]; exact ⟨hv.symm, h1⟩, t, rfl, hs, rfl, by simp [Lib.compact, Lib.compactUpTo]⟩
 ·rw [hv]
  refine (Any.slices_Compact_int Tryz.laysNm220 g 0 cap l w hH (by omega) hc).mono ?_
  rintro e w' ⟨rfl, q, rfl⟩
  have hle := compact_len l
  have h2 := hS.putInts (ts := Lib.compact l ++ List.replicate (l.length - (Lib.compact l).length) 0) hs (by simp; omega) hb q #[]
  rw [grow_empty] at h2
  have h3 := Sim.take_row (M1 := []) h2 hb (by rw [hn]; exact hv) (Lib.compact l).length (by simp)
  have fin : ∀ T : Tok, T = ⟨.slice (some ⟨g, 0, none⟩) (Lib.compact l).length cap, (Lib.compact l).length, t.s, t.e, some g⟩ → ∃ v F' y Γ', (Ending.returned (.slice (some ⟨g, 0, none⟩) (Lib.compact l).length cap)) = .returned v ∧ F.le F' ∧ Sim w0 F' (Γ' ++ M) (putRow (Value.int .i64) (Sort.ahead w q) g 0 (Lib.compact l ++ List.replicate (l.length - (Lib.compact l).length) 0).toArray) ∧ Rep F' y v ∧ ∃ t' : Tok, t'.e = t.e ∧ t'.s = 1 ∧ y = .ms t' ∧ Γ' = [.row t' ((Lib.compact l).map (PV.int .i64))] := by
   intro T hT
   subst hT
   refine ⟨_, F, .ms ⟨.slice (some ⟨g, 0, none⟩) (Lib.compact l).length cap, (Lib.compact l).length, t.s, t.e, some g⟩, [.row ⟨.slice (some ⟨g, 0, none⟩) (Lib.compact l).length cap, (Lib.compact l).length, t.s, t.e, some g⟩ ((Lib.compact l).map (PV.int .i64))], rfl, Fz.le_refl F, ?_, by unfold Rep; exact ⟨rfl, rfl⟩, ⟨.slice (some ⟨g, 0, none⟩) (Lib.compact l).length cap, (Lib.compact l).length, t.s, t.e, some g⟩, rfl, hs, rfl, rfl⟩
   simpa using h3
  exact fin _ rfl
end Go.Cb
namespace Go.Cb
open Go.Proofs
set_option maxRecDepth 100000
set_option maxHeartbeats 4000000
theorem rising_c (t : Tok) (l : List Int) (hs : t.s = 1) (hl : l.length ≤ 1000000000) :
  ACall Tryz.prog 41 [.ms t] [.row t (l.map (PV.int .i64))] (fun y Γ' => ∃ t' : Tok, t'.e = t.e ∧ t'.s = 1 ∧ y = .ms t' ∧ Γ' = [.row t' ((riseL l).map (PV.int .i64))]) := by
 refine ACall.of_body tt_ok Tryz.func41 rfl rfl (n := 7) rfl rfl ?_
 conv => whnf
 skip
 refine PCall.go (sort_c t l hs hl) (WkT.refl _) ?_
 rintro _ _ ⟨rfl, rfl⟩
 conv => whnf
 skip
 refine PCall.go (compact_c t (l.mergeSort fun x y => decide (x ≤ y)) hs (by simp; omega)) (WkT.refl _) ?_
 rintro _ _ ⟨t2, e2, s2, rfl, rfl⟩
 conv => whnf
 skip
 have e : Lib.compact (l.mergeSort fun x y => decide (x ≤ y)) = riseL l := rfl
 rw [e]
 exact PRet.gen (Wk.refl _) ⟨t2, e2, s2, rfl, rfl⟩
def bindsOf (l : List (Trm × List Int)) : List Int := l.flatMap fun m => m.1.v
theorem bindsOf_take (l : List (Trm × List Int)) (k : Nat) : (bindsOf (l.take k)).length ≤ (bindsOf l).length := by
 have := congrArg List.length (congrArg bindsOf (List.take_append_drop k l))
 unfold bindsOf at this ⊢
 rw [List.flatMap_append, List.length_append] at this
 omega
theorem Trm.met_vlen (t : Trm) : ∀ (sc : List Int) (deep : Int), (bindsOf (t.met sc deep)).length ≤ t.bulk := by
 induction t using Trm.ind with
 | h t ih =>
  intro sc deep
  rw [Trm.met_eq, t.bulk_eq]
  have key : ∀ (l : List Trm), (∀ y ∈ l, ∀ (sc : List Int) (deep : Int), (bindsOf (y.met sc deep)).length ≤ y.bulk) → ∀ sc inner deep, (bindsOf (Trm.mets t.op sc inner l deep)).length ≤ Trm.bulks l := by
   intro l
   induction l with
   | nil => intro _ _ _ _; simp [Trm.mets, bindsOf]
   | cons x l ihl =>
    intro hy sc inner deep
    have h1 := hy x (by simp) (if groupB t.op = true ∨ l = [] then inner else sc) deep
    have h2 := ihl (fun y h => hy y (by simp [h])) sc inner deep
    unfold bindsOf at h1 h2 ⊢
    rw [Trm.mets, Trm.bulks, List.flatMap_append, List.length_append]
    omega
  have := key t.t ih sc (sc ++ t.v) (deep + 1)
  unfold bindsOf at this ⊢
  rw [List.flatMap_cons, List.length_append]
  split
  ·simp; omega
  ·show t.v.length + _ ≤ _
   omega
theorem binds_c0 (t : Trm) (hb : t.bulk ≤ 1000000000) : ACall Tryz.prog 24 [.agg t.cells] [] (fun y Γ' => ∃ tk : Tok, tk.e = 3 ∧ tk.s = 1 ∧ y = .ms tk ∧ Γ' = [.row tk ((riseL (bindsOf t.all)).map (PV.int .i64))]) := by
 have hlen : (bindsOf t.all).length ≤ t.bulk := t.met_vlen [] 0
 refine ACall.of_body tt_ok Tryz.func24 rfl rfl (n := 15) rfl rfl ?_
 conv => whnf
 repeat' (first|refine aA0 ?_|((intro _);conv=>whnf)|(refine zX (fun hc=>?_) (fun hc=>?_)<;>(try simp only [SY] at hc)<;>omega))
 rename_i bt bo
 refine PCall.goG (Ghost.trans (Ghost.nilRow 1 3 _) (Ghost.box (b := bo) (cs := [.nil]) (cs' := [.ms (nilTok 1 3)]) (.cons (Wk.nilRow 1 3) .nil))) (all_c t) (WkT.refl _) ?_
 rintro _ _ ⟨b, rfl, rfl⟩
 conv => whnf
 skip
 refine PRange.go (t.all.map fun m => [metP m]) (fun s : Tok × List Int => [.box bo [.ms s.1], .row s.1 (s.2.map (PV.int .i64))]) (fun k s => s.1.e = 3 ∧ s.1.s = 1 ∧ s.2 = bindsOf (t.all.take k)) (fun _ _ => False) (nilTok 1 3, []) (all1_c b t hb) ⟨rfl, rfl, rfl⟩
  (hp := (inferInstance : PickL _ [.box bo [.ms (nilTok 1 3)], .row (nilTok 1 3) [], .box b t.cells] _)) (by intro ys hy; obtain ⟨m, _, rfl⟩ := List.mem_map.1 hy; rfl) ?_ ?_ (fun _ _ _ h => h.elim)
 ·rintro k ys ⟨tk, l⟩ hk ⟨k1, k2, k3⟩
  dsimp only at k1 k2 k3 ⊢
  obtain ⟨m, hm, rfl⟩ : ∃ m, t.all[k]? = some m ∧ ys = [metP m] := by
   rw [List.getElem?_map] at hk
   cases h : t.all[k]? with
   | none => rw [h] at hk; cases hk
   | some m => rw [h] at hk; cases hk; exact ⟨m, rfl, rfl⟩
  obtain ⟨hlt, hmg⟩ := List.getElem?_eq_some_iff.1 hm
  have hst : bindsOf (t.all.take (k + 1)) = bindsOf (t.all.take k) ++ m.1.v := by
   rw [List.take_succ_eq_append_getElem hlt, bindsOf, List.flatMap_append, hmg]
   simp [bindsOf]
  have hll : l.length + m.1.v.length ≤ 1000000000 := by
   have h1 : (bindsOf (t.all.take (k + 1))).length ≤ (bindsOf t.all).length := bindsOf_take _ _
   rw [hst, List.length_append, ← k3] at h1
   omega
  conv => whnf
  repeat' (first|refine aA0 ?_|((intro _);conv=>whnf)|(refine zX (fun hc=>?_) (fun hc=>?_)<;>(try simp only [SY] at hc)<;>omega))
  refine ⟨rfl, ?_⟩
  conv => whnf
  repeat' (first|refine aA0 ?_|(refine zX (fun hc=>?_) (fun hc=>?_)<;>(try simp only [SY] at hc)<;>omega))
  refine PAppend.rowList (f := PV.int .i64) (l := l) (m := m.1.v) k1 k2 (Wk.tok _ _ _) (by omega) (by show _ * 8 ≤ _; omega) (fun t3 e3 s3 => ?_)
  conv => whnf
  repeat (refine aR0 ?_)
  exact roundEnd (k := k) (G := fun s : Tok × List Int => [.box bo [.ms s.1], .row s.1 (s.2.map (PV.int .i64))]) (I := fun k s => s.1.e = 3 ∧ s.1.s = 1 ∧ s.2 = bindsOf (t.all.take k)) (X := fun _ _ => False) (t3, l ++ m.1.v) ⟨e3, s3, by show l ++ m.1.v = bindsOf (t.all.take (k + 1)); rw [hst, k3]⟩ (hp := (inferInstance : PickL _ [.box bo [.ms t3], .row t3 ((l ++ m.1.v).map (PV.int .i64))] _))
 ·rintro bd ⟨tk, l⟩ ⟨k1, k2, k3⟩
  dsimp only at k1 k2 k3 ⊢
  rw [List.length_map, List.take_length] at k3
  subst k3
  have hfl : (bindsOf t.all).length ≤ 1000000000 := by omega
  conv => whnf
  repeat' (first|refine aA0 ?_|(refine zX (fun hc=>?_) (fun hc=>?_)<;>(try simp only [SY] at hc)<;>omega))
  refine PCall.goR [.ob bd dfrO [] [], .box bo [.ms tk]] (rising_c tk (bindsOf t.all) k2 hfl) (WkT.refl _) (List.Perm.refl _) ?_
  rintro _ _ ⟨t4, e4, s4, rfl, rfl⟩
  conv => whnf
  skip
  refine PMark.at_ rfl ?_
  conv => whnf
  exact PRet.gen (y := .ms t4) (Wk.refl _) ⟨t4, e4.trans k1, s4, rfl, rfl⟩
theorem binds_c (t : Trm) (hb : t.bulk ≤ 1000000000) : ACallP Tryz.prog 24 [.agg t.cells] (slI (riseL (bindsOf t.all))) :=
 ACallP.of_any ((binds_c0 t hb).shift fun y Γ' hq => by
  obtain ⟨tk, h1, h2, rfl, rfl⟩ := hq
  exact ⟨_, _, Shift.freezeRow (es := (riseL (bindsOf t.all)).map (PV.int .i64)) (WkF.ms' h2), rfl⟩)
end Go.Cb
namespace Go.Cb
open Go.Proofs
set_option maxRecDepth 100000
set_option maxHeartbeats 4000000
mutual
def Trm.sh (k : Int) : Trm → Trm
 | .mk op n v t => .mk op (if namesB op = true then n + k else n) (v.map (· + k)) (Trm.shs k t)
def Trm.shs (k : Int) : List Trm → List Trm
 | [] => []
 | x :: xs => Trm.sh k x :: Trm.shs k xs
end
theorem Trm.shs_eq (k : Int) : ∀ l : List Trm, Trm.shs k l = l.map (Trm.sh k)
 | [] => rfl
 | x :: l => by rw [Trm.shs, List.map_cons, Trm.shs_eq k l]
theorem Trm.sh_op (k : Int) (t : Trm) : (t.sh k).op = t.op := by cases t; rw [Trm.sh]; rfl
theorem Trm.sh_n (k : Int) (t : Trm) : (t.sh k).n = if namesB t.op = true then t.n + k else t.n := by cases t; rw [Trm.sh]; rfl
theorem Trm.sh_v (k : Int) (t : Trm) : (t.sh k).v = t.v.map (· + k) := by cases t; rw [Trm.sh]; rfl
theorem Trm.sh_t (k : Int) (t : Trm) : (t.sh k).t = t.t.map (Trm.sh k) := by cases t; rw [Trm.sh, ← Trm.shs_eq]; rfl
theorem Trm.sh_cnt (k : Int) (t : Trm) : (t.sh k).cnt = t.cnt := by
 induction t using Trm.ind with
 | h t ih =>
  have : ∀ l : List Trm, (∀ x ∈ l, (x.sh k).cnt = x.cnt) → Trm.cnts (l.map (Trm.sh k)) = Trm.cnts l := by
   intro l
   induction l with
   | nil => intro _; rfl
   | cons y l ihl => intro h; rw [List.map_cons, Trm.cnts, Trm.cnts, h y (by simp), ihl fun x hx => h x (by simp [hx])]
  rw [Trm.cnt_eq, Trm.cnt_eq, Trm.sh_t, this t.t ih]
theorem Trm.sh_vars (k : Int) (t : Trm) : (t.sh k).vars = t.vars.map (· + k) := by
 induction t using Trm.ind with
 | h t ih =>
  have : ∀ l : List Trm, (∀ x ∈ l, (x.sh k).vars = x.vars.map (· + k)) → Trm.varss (l.map (Trm.sh k)) = (Trm.varss l).map (· + k) := by
   intro l
   induction l with
   | nil => intro _; rfl
   | cons y l ihl => intro h; rw [List.map_cons, Trm.varss, Trm.varss, h y (by simp), ihl fun x hx => h x (by simp [hx]), List.map_append]
  rw [Trm.vars_eq, Trm.vars_eq, Trm.sh_t, Trm.sh_v, this t.t ih, List.map_append]
theorem sh_number (k c codes : Int) (free : Bool) (t : Trm) (scope : List Int) (h : numberL c codes free t scope = true) : numberL c codes free (t.sh k) (scope.map (· + k)) = true := by
 unfold numberL at h ⊢
 rw [Trm.sh_op, Trm.sh_n, Trm.sh_v, List.length_map]
 by_cases hn : t.op = 1 ∨ t.op = 2 ∨ t.op = 14
 ·rw [if_neg (by omega), if_pos hn] at h ⊢
  have : namesB t.op = true := by simp [namesB]; omega
  rw [if_pos this]
  simp at h ⊢
  exact h
 ·have : ¬ namesB t.op = true := by simp [namesB]; omega
  rw [if_neg this, if_neg hn]
  rw [if_neg hn] at h
  exact h
theorem Trm.sh_ok {level c codes : Int} {free : Bool} (k : Int) (t : Trm) : ∀ {scope : List Int} {deep : Int}, t.okT level c codes free scope deep → (t.sh k).okT level c codes free (scope.map (· + k)) deep := by
 induction t using Trm.ind with
 | h t ih =>
  intro scope deep h
  rw [Trm.okT_eq] at h ⊢
  have key : ∀ (op : Int) (sc inner : List Int) (deep : Int) (l : List Trm), (∀ y ∈ l, ∀ {scope : List Int} {deep : Int}, y.okT level c codes free scope deep → (y.sh k).okT level c codes free (scope.map (· + k)) deep) →
    Trm.okTs level c codes free op sc inner l deep → Trm.okTs level c codes free op (sc.map (· + k)) (inner.map (· + k)) (l.map (Trm.sh k)) deep := by
   intro op sc inner deep l
   induction l with
   | nil => intro _ _; simp [Trm.okTs]
   | cons x l ihl =>
    intro hy hk
    rw [Trm.okTs] at hk
    rw [List.map_cons, Trm.okTs, Trm.sh_op]
    have e : l.map (Trm.sh k) = [] ↔ l = [] := by simp
    refine ⟨fun hh => hk.1 ⟨hh.1, fun h2 => hh.2.1 (e.2 h2), hh.2.2⟩, ?_, ihl (fun z hz => hy z (by simp [hz])) hk.2.2⟩
    have h2 := hy x (by simp) hk.2.1
    by_cases h3 : l = [] ∨ op = 7 ∨ op = 9
    ·rw [if_pos h3] at h2
     rw [if_pos (h3.imp_left e.2)]
     exact h2
    ·rw [if_neg h3] at h2
     rw [if_neg (fun h4 => h3 (h4.imp_left e.1))]
     exact h2
  rw [Trm.sh_op, Trm.sh_v, Trm.sh_t, ← List.map_append]
  refine ⟨⟨h.1.1, h.1.2.1, ?_, sh_number k _ _ _ _ _ h.1.2.2.2⟩, key _ _ _ _ _ ih h.2⟩
  have := h.1.2.2.1
  unfold countsL at this ⊢
  simp only [Trm.sh_op, Trm.sh_v, Trm.sh_t, List.length_map]
  exact this
theorem RightP.sh {p : Prog} {level : Int} (h : RightP p level) (k : Int) (h0 : 0 ≤ k) (hk : ∀ x ∈ p.body.vars, x + k ≤ 1000000) : RightP ⟨p.consts, p.body.sh k⟩ level := by
 obtain ⟨h1, h2, h3, h4, h5⟩ := h
 refine ⟨h1, h2, p.body.sh_ok k h3, by rw [show (⟨p.consts, p.body.sh k⟩ : Prog).body = p.body.sh k from rfl, Trm.sh_cnt]; exact h4, ?_⟩
 show Dist (p.body.sh k).vars []
 rw [Trm.sh_vars]
 refine ⟨fun x hx => ?_, ?_⟩
 ·obtain ⟨y, hy, rfl⟩ := List.mem_map.1 hx
  have := h5.1 y hy
  have := hk y hy
  exact ⟨by omega, by omega, by simp⟩
 ·exact List.Pairwise.map _ (fun a b hab => by omega) h5.2
end Go.Cb
namespace Go.Cb
open Go.Proofs
set_option maxRecDepth 100000
set_option maxHeartbeats 4000000
mutual
def Trm.asg : Trm → List Int
 | .mk op n _ t => (if op = 2 ∨ op = 14 then [n] else []) ++ Trm.asgs t
def Trm.asgs : List Trm → List Int
 | [] => []
 | x :: xs => Trm.asg x ++ Trm.asgs xs
end
theorem Trm.asg_eq (t : Trm) : t.asg = (if t.op = 2 ∨ t.op = 14 then [t.n] else []) ++ Trm.asgs t.t := by cases t; rw [Trm.asg]; rfl
theorem Trm.asgs_flat : ∀ l : List Trm, Trm.asgs l = l.flatMap Trm.asg
 | [] => by simp [Trm.asgs]
 | x :: l => by rw [Trm.asgs, Trm.asgs_flat l]; rfl
def refT (v : Int) : Trm := .mk 1 v [] []
def boxT (t : Trm) : Trm := .mk 15 0 [] [t]
def lamV (A : Int → Bool) : List Int → Int → List Int
 | [], _ => []
 | x :: xs, k => if A x = true then k :: lamV A xs (k + 1) else x :: lamV A xs k
def lamT (A : Int → Bool) : List Int → Int → List Trm
 | [], _ => []
 | x :: xs, k => if A x = true then boxT (refT k) :: lamT A xs (k + 1) else lamT A xs k
def lamN (A : Int → Bool) (l : List Int) : Int := ((l.filter A).length : Int)
def boxAll (A : Int → Bool) : List Int → List Trm → List Trm
 | v :: vs, x :: xs => (if A v = true then boxT x else x) :: boxAll A vs xs
 | _, l => l
def fixT (A : Int → Bool) : List Int → List Trm → List Trm
 | v :: vs, x :: xs => if A v = true then fixT A vs xs else x :: fixT A vs xs
 | _, _ => []
def fixO (A : Int → Bool) : List Int → List Trm → Trm → Trm
 | v :: vs, x :: xs, o => if A v = true then .mk 6 0 [] [.mk 17 0 [] [refT v, x], fixO A vs xs o] else fixO A vs xs o
 | _, _, o => o
def fixE (A : Int → Bool) (vs : List Int) (l : List Trm) : Trm :=
 let o := fixO A vs l (l.getD vs.length (refT 0))
 if vs.filter (fun v => !A v) = [] then o else .mk 9 0 (vs.filter fun v => !A v) (fixT A vs l ++ [o])
def fixR (A : Int → Bool) (vs : List Int) (l : List Trm) : Trm :=
 .mk 8 0 (vs.filter A) ((vs.filter A).map (fun _ => boxT (.mk 13 0 [] [])) ++ [fixE A vs l])
mutual
def Trm.fr (A : Int → Bool) : Trm → Int
 | .mk op _ v t => (if op = 4 then lamN A v else 0) + Trm.frs A t
def Trm.frs (A : Int → Bool) : List Trm → Int
 | [] => 0
 | x :: xs => Trm.fr A x + Trm.frs A xs
end
theorem Trm.fr_eq (A : Int → Bool) (t : Trm) : t.fr A = (if t.op = 4 then lamN A t.v else 0) + Trm.frs A t.t := by cases t; rw [Trm.fr]; rfl
mutual
def Trm.cv (A : Int → Bool) : Trm → Int → Trm
 | .mk op n v t, k =>
  if op = 1 ∧ A n = true then .mk 16 0 [] [.mk op n v t]
  else if op = 2 then .mk 17 0 [] (refT n :: Trm.cvs A t k)
  else if op = 14 then .mk 18 0 [] (refT n :: Trm.cvs A t k)
  else if op = 4 then .mk 4 n (lamV A v k) (if v.filter A = [] then Trm.cvs A t (k + lamN A v) else [.mk 8 0 (v.filter A) (lamT A v k ++ Trm.cvs A t (k + lamN A v))])
  else if op = 9 ∧ v.any A = true then fixR A v (Trm.cvs A t k)
  else .mk op n v (if op = 8 then boxAll A v (Trm.cvs A t k) else Trm.cvs A t k)
def Trm.cvs (A : Int → Bool) : List Trm → Int → List Trm
 | [], _ => []
 | x :: xs, k => Trm.cv A x k :: Trm.cvs A xs (k + Trm.fr A x)
end
theorem Trm.cv_eq (A : Int → Bool) (t : Trm) (k : Int) : t.cv A k =
  if t.op = 1 ∧ A t.n = true then .mk 16 0 [] [t]
  else if t.op = 2 then .mk 17 0 [] (refT t.n :: Trm.cvs A t.t k)
  else if t.op = 14 then .mk 18 0 [] (refT t.n :: Trm.cvs A t.t k)
  else if t.op = 4 then .mk 4 t.n (lamV A t.v k) (if t.v.filter A = [] then Trm.cvs A t.t (k + lamN A t.v) else [.mk 8 0 (t.v.filter A) (lamT A t.v k ++ Trm.cvs A t.t (k + lamN A t.v))])
  else if t.op = 9 ∧ t.v.any A = true then fixR A t.v (Trm.cvs A t.t k)
  else .mk t.op t.n t.v (if t.op = 8 then boxAll A t.v (Trm.cvs A t.t k) else Trm.cvs A t.t k) := by cases t; rw [Trm.cv]; rfl
theorem Trm.cvs_length (A : Int → Bool) : ∀ (l : List Trm) (k : Int), (Trm.cvs A l k).length = l.length
 | [], _ => by rw [Trm.cvs]
 | x :: l, k => by rw [Trm.cvs, List.length_cons, List.length_cons, Trm.cvs_length A l]
mutual
def Trm.shp : Trm → Prop
 | .mk op n v t => ((op = 1 → v = [] ∧ t = []) ∧ (op = 2 ∨ op = 14 ∨ op = 4 → t.length = 1) ∧ (op = 8 ∨ op = 9 → t.length = v.length + 1) ∧ (op = 9 → n = 0)) ∧ Trm.shps t
def Trm.shps : List Trm → Prop
 | [] => True
 | x :: xs => Trm.shp x ∧ Trm.shps xs
end
theorem Trm.shp_eq (t : Trm) : t.shp ↔ ((t.op = 1 → t.v = [] ∧ t.t = []) ∧ (t.op = 2 ∨ t.op = 14 ∨ t.op = 4 → t.t.length = 1) ∧ (t.op = 8 ∨ t.op = 9 → t.t.length = t.v.length + 1) ∧ (t.op = 9 → t.n = 0)) ∧ Trm.shps t.t := by
 cases t; rw [Trm.shp]; rfl
theorem Trm.shps_mem : ∀ {l : List Trm}, Trm.shps l → ∀ x ∈ l, x.shp
 | [], _, x, h => by cases h
 | y :: l, hs, x, h => by
  rw [Trm.shps] at hs
  rcases List.mem_cons.1 h with rfl | h
  ·exact hs.1
  ·exact Trm.shps_mem hs.2 x h
mutual
def Trm.nam : Trm → List Int
 | .mk op n v t => (if op = 1 then [n] else []) ++ v ++ Trm.nams t
def Trm.nams : List Trm → List Int
 | [] => []
 | x :: xs => Trm.nam x ++ Trm.nams xs
end
theorem Trm.nam_eq (t : Trm) : t.nam = (if t.op = 1 then [t.n] else []) ++ t.v ++ Trm.nams t.t := by cases t; rw [Trm.nam]; rfl
theorem lamV_congr {A B : Int → Bool} : ∀ (l : List Int) (k : Int), (∀ v ∈ l, A v = B v) → lamV A l k = lamV B l k
 | [], _, _ => rfl
 | v :: l, k, h => by
  rw [List.forall_mem_cons] at h
  rw [lamV, lamV, h.1, lamV_congr l _ h.2, lamV_congr l _ h.2]
theorem lamT_congr {A B : Int → Bool} : ∀ (l : List Int) (k : Int), (∀ v ∈ l, A v = B v) → lamT A l k = lamT B l k
 | [], _, _ => rfl
 | v :: l, k, h => by
  rw [List.forall_mem_cons] at h
  rw [lamT, lamT, h.1, lamT_congr l _ h.2, lamT_congr l _ h.2]
theorem boxAll_congr {A B : Int → Bool} : ∀ (vs : List Int) (l : List Trm), (∀ v ∈ vs, A v = B v) → boxAll A vs l = boxAll B vs l
 | [], l, _ => by simp [boxAll]
 | _ :: _, [], _ => by simp [boxAll]
 | v :: vs, x :: l, h => by
  rw [List.forall_mem_cons] at h
  rw [boxAll, boxAll, h.1, boxAll_congr vs l h.2]
theorem fixT_congr {A B : Int → Bool} : ∀ (vs : List Int) (l : List Trm), (∀ v ∈ vs, A v = B v) → fixT A vs l = fixT B vs l
 | [], l, _ => by simp [fixT]
 | _ :: _, [], _ => by simp [fixT]
 | v :: vs, x :: l, h => by
  rw [List.forall_mem_cons] at h
  rw [fixT, fixT, h.1, fixT_congr vs l h.2]
theorem fixO_congr {A B : Int → Bool} : ∀ (vs : List Int) (l : List Trm) (o : Trm), (∀ v ∈ vs, A v = B v) → fixO A vs l o = fixO B vs l o
 | [], l, o, _ => by simp [fixO]
 | _ :: _, [], o, _ => by simp [fixO]
 | v :: vs, x :: l, o, h => by
  rw [List.forall_mem_cons] at h
  rw [fixO, fixO, h.1, fixO_congr vs l o h.2]
theorem filter_congr' {A B : Int → Bool} {l : List Int} (h : ∀ v ∈ l, A v = B v) : l.filter A = l.filter B := List.filter_congr h
theorem any_congr' {A B : Int → Bool} : ∀ {l : List Int}, (∀ v ∈ l, A v = B v) → l.any A = l.any B
 | [], _ => rfl
 | v :: l, h => by
  rw [List.forall_mem_cons] at h
  rw [List.any_cons, List.any_cons, h.1, any_congr' h.2]
theorem fixR_congr {A B : Int → Bool} {vs : List Int} {l : List Trm} (h : ∀ v ∈ vs, A v = B v) : fixR A vs l = fixR B vs l := by
 have hn : vs.filter (fun v => !A v) = vs.filter (fun v => !B v) := List.filter_congr fun v hv => by rw [h v hv]
 unfold fixR fixE
 simp only [filter_congr' h, hn, fixO_congr vs l _ h, fixT_congr vs l h]
theorem Trm.fr_congr {A B : Int → Bool} (t : Trm) : (∀ v ∈ t.nam, A v = B v) → t.fr A = t.fr B := by
 induction t using Trm.ind with
 | h t ih =>
  intro h
  rw [Trm.nam_eq] at h
  have key : ∀ l : List Trm, (∀ y ∈ l, (∀ v ∈ y.nam, A v = B v) → y.fr A = y.fr B) → (∀ v ∈ Trm.nams l, A v = B v) → Trm.frs A l = Trm.frs B l := by
   intro l
   induction l with
   | nil => intro _ _; rw [Trm.frs, Trm.frs]
   | cons y l ihl =>
    intro h1 h2
    rw [Trm.nams] at h2
    rw [Trm.frs, Trm.frs, h1 y (by simp) (fun v hv => h2 v (by simp [hv])), ihl (fun z hz => h1 z (by simp [hz])) (fun v hv => h2 v (by simp [hv]))]
  rw [Trm.fr_eq, Trm.fr_eq, key t.t ih (fun v hv => h v (by simp [hv]))]
  unfold lamN
  rw [filter_congr' (fun v hv => h v (by simp [hv]))]
theorem Trm.cv_congr {A B : Int → Bool} (t : Trm) : ∀ k : Int, (∀ v ∈ t.nam, A v = B v) → t.cv A k = t.cv B k := by
 induction t using Trm.ind with
 | h t ih =>
  intro k h
  rw [Trm.nam_eq] at h
  have key : ∀ l : List Trm, (∀ y ∈ l, ∀ k : Int, (∀ v ∈ y.nam, A v = B v) → y.cv A k = y.cv B k) → (∀ v ∈ Trm.nams l, A v = B v) → ∀ k, Trm.cvs A l k = Trm.cvs B l k := by
   intro l
   induction l with
   | nil => intro _ _ k; rw [Trm.cvs, Trm.cvs]
   | cons y l ihl =>
    intro h1 h2 k
    rw [Trm.nams] at h2
    rw [Trm.cvs, Trm.cvs, h1 y (by simp) k (fun v hv => h2 v (by simp [hv])), y.fr_congr (fun v hv => h2 v (by simp [hv])), ihl (fun z hz => h1 z (by simp [hz])) (fun v hv => h2 v (by simp [hv]))]
  have hk := key t.t ih (fun v hv => h v (by simp [hv]))
  have hv : ∀ v ∈ t.v, A v = B v := fun v hv => h v (by simp [hv])
  have hn : t.op = 1 → A t.n = B t.n := fun e => h _ (by simp [e])
  have h1 : (t.op = 1 ∧ A t.n = true) ↔ (t.op = 1 ∧ B t.n = true) := ⟨fun ⟨a, b⟩ => ⟨a, by rw [← hn a]; exact b⟩, fun ⟨a, b⟩ => ⟨a, by rw [hn a]; exact b⟩⟩
  rw [Trm.cv_eq, Trm.cv_eq]
  simp only [hk, lamV_congr _ _ hv, lamT_congr _ _ hv, filter_congr' hv, any_congr' hv, boxAll_congr _ _ hv, fixR_congr hv, lamN, h1]
def Trm.sz (l : List Trm) : Int := Trm.cnts l
theorem Trm.cnts_append : ∀ l m : List Trm, Trm.cnts (l ++ m) = Trm.cnts l + Trm.cnts m
 | [], m => by simp [Trm.cnts]
 | x :: l, m => by rw [List.cons_append, Trm.cnts, Trm.cnts, Trm.cnts_append l m]; omega
theorem boxT_cnt (t : Trm) : (boxT t).cnt = 1 + t.cnt := by rw [boxT, Trm.cnt, Trm.cnts, Trm.cnts]; omega
def Szs : List Trm → List Trm → Prop
 | [], [] => True
 | x :: l, y :: m => x.cnt = y.cnt ∧ Szs l m
 | _, _ => False
theorem Szs.cnts : ∀ {l m : List Trm}, Szs l m → Trm.cnts l = Trm.cnts m
 | [], [], _ => rfl
 | x :: l, y :: m, h => by rw [Trm.cnts, Trm.cnts, h.1, h.2.cnts]
 | [], _ :: _, h => h.elim
 | _ :: _, [], h => h.elim
theorem Szs.getD : ∀ {l m : List Trm} (i : Nat) (d : Trm), Szs l m → (l.getD i d).cnt = (m.getD i d).cnt
 | [], [], _, _, _ => rfl
 | x :: l, y :: m, 0, d, h => by simpa using h.1
 | x :: l, y :: m, i + 1, d, h => by simpa using h.2.getD i d
 | [], _ :: _, _, _, h => h.elim
 | _ :: _, [], _, _, h => h.elim
theorem Szs.boxAll (A : Int → Bool) : ∀ (vs : List Int) {l m : List Trm}, Szs l m → Szs (boxAll A vs l) (boxAll A vs m)
 | [], l, m, h => by simpa [Go.Cb.boxAll] using h
 | _ :: _, [], [], h => by simp [Go.Cb.boxAll, Szs]
 | v :: vs, x :: l, y :: m, h => by
  rw [Go.Cb.boxAll, Go.Cb.boxAll]
  refine ⟨?_, h.2.boxAll A vs⟩
  split
  ·rw [boxT_cnt, boxT_cnt, h.1]
  ·exact h.1
 | _ :: _, [], _ :: _, h => h.elim
 | _ :: _, _ :: _, [], h => h.elim
theorem Szs.fixT (A : Int → Bool) : ∀ (vs : List Int) {l m : List Trm}, Szs l m → Szs (fixT A vs l) (fixT A vs m)
 | [], l, m, h => by simp [Go.Cb.fixT, Szs]
 | _ :: _, [], [], h => by simp [Go.Cb.fixT, Szs]
 | v :: vs, x :: l, y :: m, h => by
  rw [Go.Cb.fixT, Go.Cb.fixT]
  split
  ·exact h.2.fixT A vs
  ·exact ⟨h.1, h.2.fixT A vs⟩
 | _ :: _, [], _ :: _, h => h.elim
 | _ :: _, _ :: _, [], h => h.elim
theorem Szs.fixO (A : Int → Bool) : ∀ (vs : List Int) {l m : List Trm} {o u : Trm}, Szs l m → o.cnt = u.cnt → (fixO A vs l o).cnt = (fixO A vs m u).cnt
 | [], l, m, o, u, h, ho => by simpa [Go.Cb.fixO] using ho
 | _ :: _, [], [], o, u, h, ho => by simpa [Go.Cb.fixO] using ho
 | v :: vs, x :: l, y :: m, o, u, h, ho => by
  rw [Go.Cb.fixO, Go.Cb.fixO]
  have ih := h.2.fixO A vs ho
  split
  ·simp only [Trm.cnt, Trm.cnts, h.1, ih]
  ·exact ih
 | _ :: _, [], _ :: _, _, _, h, _ => h.elim
 | _ :: _, _ :: _, [], _, _, h, _ => h.elim
theorem Szs.fixR (A : Int → Bool) (vs : List Int) {l m : List Trm} (h : Szs l m) : (fixR A vs l).cnt = (fixR A vs m).cnt := by
 have ho := h.fixO A vs (h.getD vs.length (refT 0))
 have ht := (h.fixT A vs).cnts
 unfold Go.Cb.fixR fixE
 simp only
 split
 ·simp only [Trm.cnt, Trm.cnts_append, Trm.cnts, ho]
 ·simp only [Trm.cnt, Trm.cnts_append, Trm.cnts, ho, ht]
section
variable {A B : Int → Bool} {s : Int} (hAB : ∀ v, B (v + s) = A v)
include hAB
end
end Go.Cb
namespace Go.Cb
open Go.Proofs
set_option maxRecDepth 100000
set_option maxHeartbeats 4000000
theorem Trm.frs_append (A : Int → Bool) : ∀ l m : List Trm, Trm.frs A (l ++ m) = Trm.frs A l + Trm.frs A m
 | [], m => by simp [Trm.frs]
 | x :: l, m => by rw [List.cons_append, Trm.frs, Trm.frs, Trm.frs_append A l m]; omega
theorem Trm.frs_take (A : Int → Bool) {l : List Trm} {i : Nat} (h : i < l.length) : Trm.frs A (l.take (i + 1)) = Trm.frs A (l.take i) + (l[i]).fr A := by
 rw [List.take_succ_eq_append_getElem h, Trm.frs_append, Trm.frs, Trm.frs]; omega
theorem Trm.cvs_get (A : Int → Bool) : ∀ (l : List Trm) (k : Int) (i : Nat) (h : i < l.length), (Trm.cvs A l k)[i]'(by rw [Trm.cvs_length]; exact h) = (l[i]).cv A (k + Trm.frs A (l.take i))
 | x :: l, k, 0, _ => by simp [Trm.cvs, Trm.frs]
 | x :: l, k, i + 1, h => by
  have ih := Trm.cvs_get A l (k + x.fr A) i (by simpa using h)
  simp only [Trm.cvs, List.getElem_cons_succ, List.take_succ_cons, Trm.frs]
  rw [ih]
  congr 1; omega
theorem lamN_bd (A : Int → Bool) (l : List Int) : 0 ≤ lamN A l ∧ lamN A l ≤ l.length := by
 unfold lamN
 have := List.length_filter_le A l
 omega
theorem Trm.fr_bd (A : Int → Bool) (t : Trm) : 0 ≤ t.fr A ∧ t.fr A ≤ t.bulk := by
 induction t using Trm.ind with
 | h t ih =>
  have key : ∀ l : List Trm, (∀ x ∈ l, 0 ≤ x.fr A ∧ x.fr A ≤ x.bulk) → 0 ≤ Trm.frs A l ∧ Trm.frs A l ≤ Trm.bulks l := by
   intro l
   induction l with
   | nil => intro _; rw [Trm.frs, Trm.bulks]; omega
   | cons y l ihl => intro h; rw [Trm.frs, Trm.bulks]; have := h y (by simp); have := ihl fun z hz => h z (by simp [hz]); omega
  have := key t.t ih
  have := lamN_bd A t.v
  rw [Trm.fr_eq, Trm.bulk_eq]
  split <;> omega
theorem Trm.frs_bd (A : Int → Bool) : ∀ l : List Trm, 0 ≤ Trm.frs A l ∧ Trm.frs A l ≤ Trm.bulks l
 | [] => by rw [Trm.frs, Trm.bulks]; omega
 | y :: l => by rw [Trm.frs, Trm.bulks]; have := y.fr_bd A; have := Trm.frs_bd A l; omega
theorem Trm.bulks_append : ∀ l m : List Trm, Trm.bulks (l ++ m) = Trm.bulks l + Trm.bulks m
 | [], m => by simp [Trm.bulks]
 | x :: l, m => by rw [List.cons_append, Trm.bulks, Trm.bulks, Trm.bulks_append l m]; omega
theorem lamV_len (A : Int → Bool) : ∀ (l : List Int) (k : Int), (lamV A l k).length = l.length
 | [], _ => rfl
 | v :: l, k => by rw [lamV]; split <;> rw [List.length_cons, List.length_cons, lamV_len A l]
theorem lamT_bulk (A : Int → Bool) : ∀ (l : List Int) (k : Int), Trm.bulks (lamT A l k) ≤ 2 * l.length
 | [], _ => by simp [lamT, Trm.bulks]
 | v :: l, k => by
  have := lamT_bulk A l k
  have := lamT_bulk A l (k + 1)
  rw [lamT, List.length_cons]
  split
  ·simp only [Trm.bulks, boxT, refT, Trm.bulk, List.length_nil]; omega
  ·omega
theorem boxT_bulk (t : Trm) : (boxT t).bulk = 1 + t.bulk := by rw [boxT, Trm.bulk, Trm.bulks, Trm.bulks]; simp
theorem boxAll_bulk (A : Int → Bool) : ∀ (vs : List Int) (l : List Trm), Trm.bulks (boxAll A vs l) ≤ vs.length + Trm.bulks l
 | [], l => by simp [boxAll]
 | _ :: _, [] => by simp [boxAll, Trm.bulks]
 | v :: vs, x :: l => by
  have := boxAll_bulk A vs l
  rw [boxAll, Trm.bulks, Trm.bulks, List.length_cons]
  split
  ·rw [boxT_bulk]; omega
  ·omega
theorem fix_bulk (A : Int → Bool) : ∀ (vs : List Int) (l : List Trm) (o : Trm), Trm.bulks (fixT A vs l) + (fixO A vs l o).bulk ≤ 3 * vs.length + Trm.bulks (l.take vs.length) + o.bulk
 | [], l, o => by simp [fixT, fixO, Trm.bulks]
 | v :: vs, [], o => by simp only [fixT, fixO, Trm.bulks, List.take_nil]; omega
 | v :: vs, x :: l, o => by
  have := fix_bulk A vs l o
  rw [fixT, fixO, List.length_cons, List.take_succ_cons, Trm.bulks]
  split
  ·simp only [Trm.bulk, Trm.bulks, refT, List.length_nil]; omega
  ·rw [Trm.bulks]; omega
theorem getD_bulk : ∀ (l : List Trm) (i : Nat), Trm.bulks (l.take i) + (l.getD i (refT 0)).bulk ≤ 1 + Trm.bulks l
 | [], _ => by simp [refT, Trm.bulk, Trm.bulks]
 | x :: l, 0 => by simp [Trm.bulks]; omega
 | x :: l, i + 1 => by
  have := getD_bulk l i
  rw [List.take_succ_cons, Trm.bulks, Trm.bulks]
  simp only [List.getD_cons_succ]
  omega
theorem boxes_bulk (l : List Int) : Trm.bulks (l.map fun _ => boxT (.mk 13 0 [] [])) = 2 * l.length := by
 induction l with
 | nil => rfl
 | cons v l ih => rw [List.map_cons, Trm.bulks, ih, boxT_bulk, Trm.bulk, Trm.bulks, List.length_cons, List.length_nil]; omega
theorem fixR_bulk (A : Int → Bool) (vs : List Int) (l : List Trm) : (fixR A vs l).bulk ≤ 4 + 7 * vs.length + Trm.bulks l := by
 have h1 := fix_bulk A vs l (l.getD vs.length (refT 0))
 have h2 := getD_bulk l vs.length
 have h4 := List.length_filter_le A vs
 have h5 := List.length_filter_le (fun v => !A v) vs
 have hE : (fixE A vs l).bulk ≤ 2 + 4 * vs.length + Trm.bulks l := by
  unfold fixE
  simp only
  split
  ·omega
  ·rw [Trm.bulk, Trm.bulks_append, Trm.bulks, Trm.bulks]; omega
 unfold fixR
 rw [Trm.bulk, Trm.bulks_append, boxes_bulk, Trm.bulks, Trm.bulks]
 omega
theorem Trm.cv_bulk (A : Int → Bool) (t : Trm) : ∀ k : Int, (t.cv A k).bulk ≤ 8 * t.bulk := by
 induction t using Trm.ind with
 | h t ih =>
  intro k
  have hb := t.bulk_eq
  have key : ∀ l : List Trm, (∀ x ∈ l, ∀ k : Int, (x.cv A k).bulk ≤ 8 * x.bulk) → ∀ k, Trm.bulks (Trm.cvs A l k) ≤ 8 * Trm.bulks l := by
   intro l
   induction l with
   | nil => intro _ k; rw [Trm.cvs, Trm.bulks]; omega
   | cons y l ihl => intro h k; rw [Trm.cvs, Trm.bulks, Trm.bulks]; have := h y (by simp) k; have := ihl (fun z hz => h z (by simp [hz])) (k + y.fr A); omega
  have hk := key t.t ih
  have h4 := List.length_filter_le A t.v
  rw [Trm.cv_eq]
  split
  ·simp only [Trm.bulk, Trm.bulks, List.length_nil]; omega
  split
  ·have := hk k; simp only [Trm.bulk, Trm.bulks, refT, List.length_nil]; omega
  split
  ·have := hk k; simp only [Trm.bulk, Trm.bulks, refT, List.length_nil]; omega
  split
  ·have := hk (k + lamN A t.v)
   have := lamV_len A t.v k
   have := lamT_bulk A t.v k
   split
   ·simp only [Trm.bulk]; omega
   ·simp only [Trm.bulk, Trm.bulks, Trm.bulks_append]; omega
  split
  ·have := hk k; have := fixR_bulk A t.v (Trm.cvs A t.t k); omega
  ·have := hk k
   have := boxAll_bulk A t.v (Trm.cvs A t.t k)
   split
   ·simp only [Trm.bulk]; omega
   ·simp only [Trm.bulk]; omega
end Go.Cb
namespace Go.Cb
open Go.Proofs
set_option maxRecDepth 100000
set_option maxHeartbeats 4000000
abbrev boxV (c : Nat) : Vl := .mk 11 0 0 [] [] none (some c)
def ERa (A : Int → Bool) (w : Wd) (e e' : EnvM) (scope : List Int) : Prop :=
 ∀ v ∈ scope, ∃ a b, fndM e v = some a ∧ fndM e' v = some b ∧ (A v = true → ∃ c, w.f b (boxV c) ∧ w.m a c) ∧ (A v = false → w.m a b)
theorem ERa.up {A : Int → Bool} {w w' : Wd} {e e' : EnvM} {scope : List Int} (hw : w.le w') (h : ERa A w e e' scope) : ERa A w' e e' scope := fun v hv => by
 obtain ⟨a, b, h1, h2, h3, h4⟩ := h v hv
 exact ⟨a, b, h1, h2, fun hA => (by obtain ⟨c, k1, k2⟩ := h3 hA; exact ⟨c, hw.2.1 _ _ k1, hw.1 _ _ k2⟩), fun hA => hw.1 _ _ (h4 hA)⟩
structure TOa (A : Int → Bool) (cs k : Int) (t : Trm) (scope : List Int) : Prop where
 ok : ∃ deep, Trm.okT 1 cs 0 false t scope deep
 sk : ∀ v ∈ scope, v < k
 vk : ∀ v ∈ t.vars, v < k
 nd : t.vars.Nodup
 ap : ∀ v ∈ t.vars, v ∉ scope
 ag : ∀ v ∈ t.asg, A v = true
theorem TOa.up {A : Int → Bool} {cs k k' : Int} {t : Trm} {scope : List Int} (hk : k ≤ k') (h : TOa A cs k t scope) : TOa A cs k' t scope :=
 ⟨h.ok, fun v hv => by have := h.sk v hv; omega, fun v hv => by have := h.vk v hv; omega, h.nd, h.ap, h.ag⟩
theorem varss_sub : ∀ {l : List Trm} {x : Trm}, x ∈ l → x.vars.Sublist (Trm.varss l)
 | y :: l, x, h => by
  rw [Trm.varss]
  rcases List.mem_cons.1 h with rfl | h
  ·exact List.sublist_append_left _ _
  ·exact (varss_sub h).trans (List.sublist_append_right _ _)
theorem TOa.sub {A : Int → Bool} {cs k : Int} {t : Trm} {scope : List Int} (h : TOa A cs k t scope) {i : Nat} (hi : i < t.t.length) : TOa A cs k t.t[i] (if i + 1 = t.t.length ∨ t.op = 7 ∨ t.op = 9 then scope ++ t.v else scope) := by
 obtain ⟨deep, hok⟩ := h.ok
 have hm := List.getElem_mem hi
 have hs := varss_sub hm
 have hv := t.vars_eq
 have hnd := h.nd
 rw [hv] at hnd
 have hnd' := List.nodup_append.1 hnd
 rw [Trm.okT_eq] at hok
 have hx : ∀ v ∈ (t.t[i]).vars, v ∈ t.vars := fun v hv' => by rw [hv]; exact List.mem_append_right _ (hs.subset hv')
 refine ⟨⟨_, (okTs_get hok.2 i hi).1⟩, fun v hv' => ?_, fun v hv' => h.vk v (hx v hv'), hnd'.2.1.sublist hs, fun v hv' hsc => ?_, fun v hv' => h.ag v ?_⟩
 ·split at hv'
  ·rcases List.mem_append.1 hv' with h1 | h1
   ·exact h.sk v h1
   ·exact h.vk v (by rw [hv]; exact List.mem_append_left _ h1)
  ·exact h.sk v hv'
 ·split at hsc
  ·rcases List.mem_append.1 hsc with h1 | h1
   ·exact h.ap v (hx v hv') h1
   ·exact hnd'.2.2 v h1 v (hs.subset hv') rfl
  ·exact h.ap v (hx v hv') hsc
 ·rw [Trm.asg_eq, Trm.asgs_flat]
  exact List.mem_append_right _ (List.mem_flatMap.2 ⟨_, hm, hv'⟩)
def lamB (A : Int → Bool) (v : List Int) (k : Int) (b : Trm) : Trm := if v.filter A = [] then b.cv A (k + lamN A v) else .mk 8 0 (v.filter A) (lamT A v k ++ [b.cv A (k + lamN A v)])
theorem cv_lam {A : Int → Bool} {L b : Trm} (ho : L.op = 4) (hb : L.t = [b]) (k : Int) : L.cv A k = .mk 4 L.n (lamV A L.v k) [lamB A L.v k b] := by
 rw [Trm.cv_eq, if_neg (by omega), if_neg (by omega), if_neg (by omega), if_pos ho, hb]
 unfold lamB
 rw [Trm.cvs, Trm.cvs]
 split <;> rfl
def ACa (A : Int → Bool) (cs : Int) : CR := fun w f g => ∃ L b scope k, L.op = 4 ∧ L.t = [b] ∧ TOa A cs k L scope ∧ f.v = L.v ∧ f.rest = (L.n == 1) ∧ f.body = b ∧ g.v = lamV A L.v k ∧ g.rest = (L.n == 1) ∧ g.body = lamB A L.v k b ∧ ERa A w f.env g.env scope
theorem ACa.mono {A : Int → Bool} {cs : Int} : (ACa A cs).mono := fun w w' hw f g => by
 rintro ⟨L, b, scope, k, h1, h2, h3, h4, h5, h6, h7, h8, h9, h10⟩
 exact ⟨L, b, scope, k, h1, h2, h3, h4, h5, h6, h7, h8, h9, h10.up hw⟩
def EVa (A : Int → Bool) (cs : Int) (w : Wd) (t : Trm) (e : EnvM) (t' : Trm) (e' : EnvM) : Prop := ∃ scope k, TOa A cs k t scope ∧ t' = t.cv A k ∧ ERa A w e e' scope
def HSa (A : Int → Bool) (cs : Int) (K : List Vl) (n : Int) : Prop := ∀ w t e t' e', EVa A cs w t e t' e' → Sm (ACa A cs) K n w (.ev t e) (.ev t' e')
theorem HSa.list {A : Int → Bool} {cs : Int} {K : List Vl} {n : Int} (HS : HSa A cs K n) {w : Wd} {e e' : EnvM} {scope : List Int} (hE : ERa A w e e' scope) : ∀ (l : List Trm) (k : Int), (∀ x ∈ l, TOa A cs k x scope) → SmL (ACa A cs) K n w e e' l (Trm.cvs A l k)
 | [], k, _ => by rw [Trm.cvs]; exact rfl
 | x :: l, k, h => by
  rw [Trm.cvs]
  have hx := h x (List.mem_cons_self ..)
  exact ⟨_, _, rfl, HS w x e _ e' ⟨scope, k, hx, rfl, hE⟩, HS.list hE l _ fun y hy => (h y (List.mem_cons_of_mem _ hy)).up (by have := (x.fr_bd A).1; omega)⟩
theorem ext_other : ∀ {us : List Int} {bz : List Nat} {e : EnvM} {w : Int}, w ∉ us → fndM (extM e us bz) w = fndM e w
 | [], bz, e, w, _ => by cases bz <;> rfl
 | u :: us, [], e, w, _ => rfl
 | u :: us, c :: bz, e, w, hn => by
  rw [extM, ext_other fun h => hn (List.mem_cons_of_mem _ h), fndM, if_neg fun h => hn (by rw [h]; exact List.mem_cons_self ..)]
theorem ext_get : ∀ {us : List Int} {bz : List Nat} {e : EnvM}, us.Nodup → bz.length = us.length → ∀ i (h : i < us.length) (h' : i < bz.length), fndM (extM e us bz) us[i] = some bz[i]
 | u :: us, c :: bz, e, hd, hl, i, h, h' => by
  rw [List.nodup_cons] at hd
  rw [extM]
  match i, h, h' with
  | 0, _, _ =>
   rw [List.getElem_cons_zero, List.getElem_cons_zero, ext_other hd.1, fndM, if_pos rfl]
  | i + 1, h, h' => exact ext_get hd.2 (by simpa using hl) i (by simpa using h) (by simpa using h')
theorem hpM_dom : ∀ {xs : List Vl} {az : List Nat} {h : Hp}, az.length = xs.length → (hpM h xs az).map (fun c => c.1) = az.reverse ++ h.map (fun c => c.1)
 | [], az, h, hl => by rw [List.eq_nil_of_length_eq_zero hl]; rfl
 | x :: xs, [], h, hl => by simp at hl
 | x :: xs, a :: az, h, hl => by rw [hpM, hpM_dom (by simpa using hl), List.reverse_cons, List.append_assoc]; rfl
theorem hpM_new : ∀ {xs : List Vl} {az : List Nat} {h : Hp}, az.length = xs.length → ndH (hpM h xs az) → HLe h (hpM h xs az) ∧ az.Nodup ∧ (∀ a ∈ az, hget h a = none) ∧ ∀ i (hi : i < xs.length) (ha : i < az.length), hget (hpM h xs az) az[i] = some (xs[i], false)
 | [], az, h, hl, _ => by
  rw [List.eq_nil_of_length_eq_zero hl]
  exact ⟨HLe.refl h, List.nodup_nil, fun a ha => (by cases ha), fun i hi => absurd hi (Nat.not_lt_zero _)⟩
 | x :: xs, [], h, hl, _ => by simp at hl
 | x :: xs, a :: az, h, hl, hd => by
  have hl' : az.length = xs.length := by simpa using hl
  rw [hpM] at hd ⊢
  obtain ⟨h1, h2, h3, h4⟩ := hpM_new hl' hd
  unfold ndH at hd
  rw [hpM_dom hl', List.nodup_append] at hd
  have hd2 := hd.2.1
  rw [List.map_cons, List.nodup_cons] at hd2
  have hc := HLe.cons (x := x) (r := false) hd2.1
  refine ⟨hc.trans h1, ?_, ?_, ?_⟩
  ·rw [List.nodup_cons]
   exact ⟨fun ha => hd.2.2 a (List.mem_reverse.2 ha) a (List.mem_cons_self ..) rfl, h2⟩
  ·intro b hb
   rcases List.mem_cons.1 hb with rfl | hb
   ·exact hget_none hd2.1
   ·exact hc.dom (h3 b hb)
  ·intro i hi ha
   match i, hi, ha with
   | 0, _, _ => exact h1 _ _ _ (by show hget ((a, x, false) :: h) a = some (x, false); rw [hget, if_pos rfl])
   | i + 1, hi, ha => exact h4 i (by simpa using hi) (by simpa using ha)
theorem linkA {A : Int → Bool} {cs : Int} {w0 w : Wd} {h0 g0 : Hp} {s0 t0 s t : MSt} (hV : Va (ACa A cs) w s0 t0) (hF : Fr w0 w h0 g0 s0.h t0.h) (ps : Sam s0 s) (pt : Sam t0 t) (h1 : HLe s0.h s.h) (h2 : HLe t0.h t.h) {e e' e1 e2 : EnvM} {scope vs : List Int} (hE : ERa A w e e' scope)
  (az : List Nat) (haz : az.length = vs.length) (had : az.Nodup) (xs : List Vl) (hxs : xs.length = vs.length) (tg ds : Nat → Nat) (y : Nat → Vl)
  (hs : ∀ i (hi : i < vs.length), hget s.h (az[i]'(by omega)) = some (xs[i]'(by omega), false) ∧ hget s0.h (az[i]'(by omega)) = none)
  (ht : ∀ i, i < vs.length → hget t.h (tg i) = some (y i, false) ∧ hget g0 (tg i) = none ∧ (∀ a, ¬w.m a (tg i)) ∧ ∀ z, ¬w.f (tg i) z) (htd : ∀ i j, i < vs.length → j < vs.length → tg i = tg j → i = j)
  (hd : ∀ i (hi : i < vs.length), A vs[i] = true → hget t.h (ds i) = some (boxV (tg i), false) ∧ hget t0.h (ds i) = none ∧ ∀ j, j < vs.length → ds i ≠ tg j)
  (l1 : ∀ i (hi : i < vs.length), fndM e1 vs[i] = some (az[i]'(by omega))) (l2 : ∀ v ∈ scope, fndM e1 v = fndM e v)
  (l3 : ∀ i (hi : i < vs.length), A vs[i] = false → fndM e2 vs[i] = some (tg i)) (l4 : ∀ i (hi : i < vs.length), A vs[i] = true → fndM e2 vs[i] = some (ds i)) (l5 : ∀ v ∈ scope, fndM e2 v = fndM e' v)
  (hc : ∀ w', w.le w' → ERa A w' e1 e2 (scope ++ vs) → ∀ i (hi : i < vs.length), VW (ACa A cs) w' (xs[i]'(by omega)) (y i)) :
  ∃ w', w.le w' ∧ Va (ACa A cs) w' s t ∧ Fr w0 w' h0 g0 s.h t.h ∧ ERa A w' e1 e2 (scope ++ vs) := by
 have hV' := hV.sam ps pt h1 h2
 obtain ⟨p, hp⟩ : ∃ p : Nat → Nat → Prop, p = fun a b => ∃ i, ∃ hi : i < vs.length, a = az[i]'(by omega) ∧ b = tg i := ⟨_, rfl⟩
 obtain ⟨q, hq⟩ : ∃ q : Nat → Vl → Prop, q = fun b z => ∃ i, ∃ hi : i < vs.length, A vs[i] = true ∧ b = ds i ∧ z = boxV (tg i) := ⟨_, rfl⟩
 have hER : ERa A (w.plus p q fun _ _ => False) e1 e2 (scope ++ vs) := fun v hv => by
  rcases List.mem_append.1 hv with hv | hv
  ·rw [l2 v hv, l5 v hv]
   exact hE.up (w.le_plus _ _ _) v hv
  ·obtain ⟨i, hi, rfl⟩ := List.mem_iff_getElem.1 hv
   cases hA : A vs[i] with
   | true => exact ⟨_, _, l1 i hi, l4 i hi hA, fun _ => ⟨tg i, .inr (by rw [hq]; exact ⟨i, hi, hA, rfl, rfl⟩), .inr (by rw [hp]; exact ⟨i, hi, rfl, rfl⟩)⟩, fun h => by cases h⟩
   | false => exact ⟨_, _, l1 i hi, l3 i hi hA, fun h => (by cases h), fun _ => .inr (by rw [hp]; exact ⟨i, hi, rfl, rfl⟩)⟩
 have hle := w.le_plus p q fun _ _ => False
 refine ⟨_, hle, hV'.link ACa.mono ?_ ?_ ?_ ?_ ?_ (fun _ _ h => h.elim), ⟨fun a x r e hn => h1 _ _ _ (hF.hs a x r e hn), fun b x r e hn => h2 _ _ _ (hF.ht b x r e hn), ?_, ?_, fun a x hm => hm.elim (hF.ng a x) fun h => h.elim, fun a e => hF.ds a (h1.dom e), fun b e => hF.dt b (h2.dom e)⟩, hER⟩
 ·intro a b hab
  rw [hp] at hab
  obtain ⟨i, hi, rfl, rfl⟩ := hab
  exact ⟨_, _, (hs i hi).1, (ht i hi).1, hc _ hle hER i hi⟩
 ·intro a b a' b' hab hab'
  rw [hp] at hab hab'
  obtain ⟨i, hi, rfl, rfl⟩ := hab
  obtain ⟨j, hj, rfl, rfl⟩ := hab'
  constructor
  ·intro h
   have := (List.getElem_inj had).1 h
   subst this
   rfl
  ·intro h
   have := htd i j hi hj h
   subst this
   rfl
 ·intro a b hab
  rw [hp] at hab
  obtain ⟨i, hi, rfl, rfl⟩ := hab
  exact ⟨hV.noS (hs i hi).2, fun _ h => h⟩
 ·intro a b hab
  rw [hp] at hab
  obtain ⟨i, hi, rfl, rfl⟩ := hab
  refine ⟨(ht i hi).2.2, fun z hz => ?_⟩
  rw [hq] at hz
  obtain ⟨j, hj, hA, e1, _⟩ := hz
  exact (hd j hj hA).2.2 i hi e1.symm
 ·intro b z hz
  rw [hq] at hz
  obtain ⟨i, hi, hA, rfl, rfl⟩ := hz
  exact ⟨(hd i hi hA).1, (hV.noT (hd i hi hA).2.1).1⟩
 ·intro a b hab
  rcases hab with hab | hab
  ·exact hF.ns a b hab
  ·rw [hp] at hab
   obtain ⟨i, hi, rfl, rfl⟩ := hab
   exact .inr ⟨hF.ds _ (hs i hi).2, (ht i hi).2.1⟩
 ·intro b z hz
  rcases hz with hz | hz
  ·exact hF.nf b z hz
  ·rw [hq] at hz
   obtain ⟨i, hi, hA, rfl, rfl⟩ := hz
   exact .inr (hF.dt _ (hd i hi hA).2.1)
end Go.Cb
namespace Go.Cb
open Go.Proofs
set_option maxRecDepth 100000
set_option maxHeartbeats 4000000
theorem HLe.get {h h' : Hp} (k : HLe h h') {a : Nat} {x : Vl} {r : Bool} (e : hget h a = some (x, r)) : hget h' a = some (x, r) := k a x r e
theorem Ev.box_inv {K : List Vl} {x : Trm} {e : EnvM} {t : MSt} {us : List Vl} {c : Int} {t1 : MSt} (h : Ev K (.ev (boxT x) e) t us c t1) (hc : c ≠ 8) :
  (c ≠ 0 ∧ ∃ v, Ev K (.ev x e) (lessM t) [v] c t1) ∨ ∃ z s1 a, Ev K (.ev x e) (lessM t) [z] 0 s1 ∧ us = [boxV a] ∧ c = 0 ∧ ndH ((a, z, false) :: s1.h) ∧ t1 = addM s1 ((a, z, false) :: s1.h) := by
 obtain ⟨v, rfl, _, hg⟩ := h.ev_inv hc
 rcases hg.st_inv (by have ho : (boxT x).op = 15 := rfl; omega) with ⟨h0, _, vs, ha⟩ | ⟨v', vs, s1, e1, ha, hs⟩
 ·rcases Ev.all_inv ha with ⟨_, v1, h1⟩ | ⟨x1, s2, us2, h1, h2, _⟩
  ·exact .inl ⟨h0, v1, h1⟩
  ·have := h2.nil_inv
   exact absurd this.2.1 h0
 ·rcases Ev.all_inv ha with ⟨h0, _⟩ | ⟨x1, s2, us2, h1, h2, h3⟩
  ·exact absurd rfl h0
  ·obtain ⟨rfl, _, rfl⟩ := h2.nil_inv
   obtain rfl := h3 rfl
   injection e1 with e1 _
   subst e1
   have ho : (boxT x).op = 15 := rfl
   generalize hL : [x1] = L at hs
   cases hs with
   | box _ hd =>
    cases hL
    exact .inr ⟨_, _, _, h1, rfl, rfl, hd, rfl⟩
   | prm o => exact absurd (ho.symm.trans o) (by decide)
   | app o => exact absurd (ho.symm.trans o) (by decide)
   | chk o => exact absurd (ho.symm.trans o) (by decide)
   | chkE o => exact absurd (ho.symm.trans o) (by decide)
   | bad o => rw [ho] at o; exact absurd o (by decide)
   | get o => exact absurd (ho.symm.trans o) (by decide)
   | put o => rw [ho] at o; exact absurd o (by decide)
   | putE o => exact absurd (ho.symm.trans o) (by decide)
   | stC o => rw [ho] at o; exact absurd o (by decide)
   | stX o => rw [ho] at o; exact absurd o (by decide)
   | seq o => exact absurd (ho.symm.trans o) (by decide)
def bxs (A : Int → Bool) : List Int → List Nat → List Vl
 | v :: vs, c :: cz => if A v = true then boxV c :: bxs A vs cz else bxs A vs cz
 | _, _ => []
theorem bxs_at {A : Int → Bool} : ∀ {vs : List Int} {cz : List Nat}, cz.length = vs.length → (bxs A vs cz).length = (vs.filter A).length ∧ ∀ i (hi : i < vs.length) (hc : i < cz.length), A vs[i] = true → ∃ j, ∃ hj : j < (vs.filter A).length, ∃ hb : j < (bxs A vs cz).length, (vs.filter A)[j] = vs[i] ∧ (bxs A vs cz)[j] = boxV cz[i]
 | [], [], _ => ⟨rfl, fun i hi => absurd hi (Nat.not_lt_zero _)⟩
 | v :: vs, c :: cz, hl => by
  obtain ⟨h1, h2⟩ := bxs_at (A := A) (vs := vs) (cz := cz) (by simpa using hl)
  rw [bxs]
  by_cases hA : A v = true
  ·rw [if_pos hA, List.filter_cons_of_pos hA]
   refine ⟨by rw [List.length_cons, List.length_cons, h1], fun i hi hc hAi => ?_⟩
   match i, hi, hc, hAi with
   | 0, _, _, _ => exact ⟨0, by simp, by simp, rfl, rfl⟩
   | i + 1, hi, hc, hAi =>
    obtain ⟨j, hj, hb, e1, e2⟩ := h2 i (by simpa using hi) (by simpa using hc) hAi
    exact ⟨j + 1, by simpa using hj, by simpa using hb, e1, e2⟩
  ·rw [if_neg hA, List.filter_cons_of_neg hA]
   refine ⟨h1, fun i hi hc hAi => ?_⟩
   match i, hi, hc, hAi with
   | 0, _, _, hAi => exact absurd hAi hA
   | i + 1, hi, hc, hAi => exact h2 i (by simpa using hi) (by simpa using hc) hAi
theorem Sam.less (s : MSt) : Sam s (lessM s) := ⟨rfl, rfl, rfl, rfl⟩
theorem boxes_inv {A : Int → Bool} {K : List Vl} {e : EnvM} : ∀ (vs : List Int) (k : Int) (bz : List Nat) (ys : List Vl) (t : MSt) (us : List Vl) (c : Int) (t1 : MSt) (hb : bz.length = vs.length) (hy : ys.length = vs.length),
  (∀ i (h : i < (lamV A vs k).length) (h' : i < bz.length), fndM e (lamV A vs k)[i] = some bz[i]) → (∀ i (h : i < bz.length) (h' : i < ys.length), hget t.h bz[i] = some (ys[i], false)) →
  Ev K (.all (lamT A vs k) e) t us c t1 → c ≠ 8 → c = 0 ∧ Sam t t1 ∧ HLe t.h t1.h ∧ ∃ cz : List Nat, ∃ hcz : cz.length = vs.length, us = bxs A vs cz ∧
   (∀ i (hi : i < vs.length), (A vs[i] = false → cz[i]'(by omega) = bz[i]'(by omega)) ∧ (A vs[i] = true → hget t.h (cz[i]'(by omega)) = none ∧ hget t1.h (cz[i]'(by omega)) = some (ys[i]'(by omega), false))) ∧
   ∀ i j (hi : i < vs.length) (hj : j < vs.length), A vs[i] = true → A vs[j] = true → cz[i]'(by omega) = cz[j]'(by omega) → i = j
 | [], k, bz, ys, t, us, c, t1, hb, hy, _, _, h, hc => by
  rw [lamT] at h
  obtain ⟨rfl, rfl, rfl⟩ := h.nil_inv
  exact ⟨rfl, Sam.refl _, HLe.refl _, [], rfl, rfl, fun i hi => absurd hi (Nat.not_lt_zero _), fun i j hi => absurd hi (Nat.not_lt_zero _)⟩
 | v :: vs, k, [], ys, t, us, c, t1, hb, hy, _, _, h, hc => by simp at hb
 | v :: vs, k, b :: bz, [], t, us, c, t1, hb, hy, _, _, h, hc => by simp at hy
 | v :: vs, k, b :: bz, y :: ys, t, us, c, t1, hb, hy, hf, hg, h, hc => by
  have hb' : bz.length = vs.length := by simpa using hb
  have hy' : ys.length = vs.length := by simpa using hy
  have g0 := hg 0 (by simp) (by simp)
  have gs : ∀ {h' : Hp}, HLe t.h h' → ∀ i (h : i < bz.length) (h'' : i < ys.length), hget h' bz[i] = some (ys[i], false) := fun hle i h1 h2 => hle.get (hg (i + 1) (by simpa using h1) (by simpa using h2))
  rw [lamT] at h
  have hlV : lamV A (v :: vs) k = if A v = true then k :: lamV A vs (k + 1) else v :: lamV A vs k := by rw [lamV]
  by_cases hA : A v = true
  ·rw [if_pos hA] at h
   rw [if_pos hA] at hlV
   have f0 : fndM e k = some b := by
    have := hf 0 (by rw [hlV]; simp) (by simp)
    simpa only [hlV, List.getElem_cons_zero] using this
   have fs : ∀ i (h : i < (lamV A vs (k + 1)).length) (h' : i < bz.length), fndM e (lamV A vs (k + 1))[i] = some bz[i] := fun i h1 h2 => by
    have := hf (i + 1) (by rw [hlV]; simpa using h1) (by simpa using h2)
    simpa only [hlV, List.getElem_cons_succ] using this
   have hbx : ∀ {v' : List Vl} {c' : Int} {t' : MSt}, Ev K (.ev (boxT (refT k)) e) t v' c' t' → c' ≠ 8 → ∃ a, v' = [boxV a] ∧ c' = 0 ∧ Sam t t' ∧ HLe t.h t'.h ∧ hget t.h a = none ∧ hget t'.h a = some (y, false) := fun {v' c' t'} h1 hc1 => by
    rcases h1.box_inv hc1 with ⟨h0, v1, h2⟩ | ⟨z, s1, a, h2, rfl, rfl, hd, rfl⟩
    ·exact absurd (h2.evRef_inv hc1 rfl f0 g0).2.1 h0
    ·obtain ⟨e1, _, rfl⟩ := h2.evRef_inv (by decide) rfl f0 g0
     injection e1 with e1 _
     subst e1
     have hn := (List.nodup_cons.1 hd).1
     exact ⟨a, rfl, rfl, ⟨rfl, rfl, rfl, rfl⟩, HLe.cons hn, hget_none hn, by show hget ((a, z, false) :: t.h) a = _; rw [hget, if_pos rfl]⟩
   rcases h.all_inv with ⟨h0, v1, h1⟩ | ⟨x1, s1, us1, h1, h2, h3⟩
   ·obtain ⟨a, _, hc0, _⟩ := hbx h1 hc
    exact absurd hc0 h0
   ·obtain ⟨a, ea, _, k1, k2, k3, k4⟩ := hbx h1 (by decide)
    injection ea with ea _
    subst ea
    obtain ⟨rfl, k5, k6, cz, hcz, rfl, k7, k8⟩ := boxes_inv vs (k + 1) bz ys s1 us1 c t1 hb' hy' fs (gs k2) h2 hc
    obtain rfl := h3 rfl
    refine ⟨rfl, k1.trans k5, k2.trans k6, a :: cz, by simpa using hcz, by rw [bxs, if_pos hA], fun i hi => ?_, fun i j hi hj hAi hAj hij => ?_⟩
    ·match i, hi with
     | 0, _ => exact ⟨fun h => absurd hA (by rw [List.getElem_cons_zero] at h; rw [h]; decide), fun _ => ⟨k3, k6.get k4⟩⟩
     | i + 1, hi =>
      obtain ⟨m1, m2⟩ := k7 i (by simpa using hi)
      exact ⟨m1, fun h => ⟨k2.dom (m2 h).1, (m2 h).2⟩⟩
    ·match i, j, hi, hj with
     | 0, 0, _, _ => rfl
     | 0, j + 1, _, hj =>
      have := ((k7 j (by simpa using hj)).2 hAj).1
      rw [List.getElem_cons_zero, List.getElem_cons_succ] at hij
      rw [← hij, k4] at this
      cases this
     | i + 1, 0, hi, _ =>
      have := ((k7 i (by simpa using hi)).2 hAi).1
      rw [List.getElem_cons_zero, List.getElem_cons_succ] at hij
      rw [hij, k4] at this
      cases this
     | i + 1, j + 1, hi, hj => rw [k8 i j (by simpa using hi) (by simpa using hj) hAi hAj hij]
  ·rw [if_neg hA] at h
   rw [if_neg hA] at hlV
   have fs : ∀ i (h : i < (lamV A vs k).length) (h' : i < bz.length), fndM e (lamV A vs k)[i] = some bz[i] := fun i h1 h2 => by
    have := hf (i + 1) (by rw [hlV]; simpa using h1) (by simpa using h2)
    simpa only [hlV, List.getElem_cons_succ] using this
   obtain ⟨rfl, k5, k6, cz, hcz, rfl, k7, k8⟩ := boxes_inv vs k bz ys t us c t1 hb' hy' fs (gs (HLe.refl _)) h hc
   refine ⟨rfl, k5, k6, b :: cz, by simpa using hcz, by rw [bxs, if_neg hA], fun i hi => ?_, fun i j hi hj hAi hAj hij => ?_⟩
   ·match i, hi with
    | 0, _ => exact ⟨fun _ => rfl, fun h => absurd h hA⟩
    | i + 1, hi => exact k7 i (by simpa using hi)
   ·match i, j, hi, hj with
    | 0, _, _, _ => exact absurd hAi hA
    | _ + 1, 0, _, _ => exact absurd hAj hA
    | i + 1, j + 1, hi, hj => rw [k8 i j (by simpa using hi) (by simpa using hj) hAi hAj hij]
theorem Ev.let_inv {K : List Vl} {t : Trm} {e : EnvM} {s : MSt} {vs : List Vl} {c : Int} {s' : MSt} (h : Ev K (.go t e) s vs c s') (ho : t.op = 8) {l : List Trm} {b : Trm} (ht : t.t = l ++ [b]) : (c ≠ 0 ∧ vs = [zerV] ∧ ∃ us, Ev K (.all l e) s us c s') ∨
  ∃ v us s1 az, vs = [v] ∧ Ev K (.all l e) s us 0 s1 ∧ l.length = t.v.length ∧ az.length = t.v.length ∧ Ev K (.ev b (extM e t.v az)) (addM s1 (hpM s1.h us az)) [v] c s' := by
 cases h with
 | ltE _ ht' hl ha hc =>
  rw [ht] at ht'
  obtain ⟨rfl, e2⟩ := List.append_inj' ht' rfl
  exact .inl ⟨hc, rfl, _, ha⟩
 | ltC _ ht' hl ha haz hb =>
  rw [ht] at ht'
  obtain ⟨rfl, e2⟩ := List.append_inj' ht' rfl
  cases e2
  exact .inr ⟨_, _, _, _, rfl, ha, hl, haz, hb⟩
 | _ => exfalso; omega
theorem lamV_mem {A : Int → Bool} : ∀ {vs : List Int} {k x : Int}, x ∈ lamV A vs k → k ≤ x ∨ (x ∈ vs ∧ A x = false)
 | v :: vs, k, x, h => by
  rw [lamV] at h
  split at h
  ·rcases List.mem_cons.1 h with rfl | h
   ·exact .inl (Int.le_refl _)
   ·rcases lamV_mem h with h1 | h1
    ·exact .inl (by omega)
    ·exact .inr ⟨List.mem_cons_of_mem _ h1.1, h1.2⟩
  ·rename_i hA
   rcases List.mem_cons.1 h with rfl | h
   ·exact .inr ⟨List.mem_cons_self .., by simpa using hA⟩
   ·rcases lamV_mem h with h1 | h1
    ·exact .inl h1
    ·exact .inr ⟨List.mem_cons_of_mem _ h1.1, h1.2⟩
theorem lamV_at {A : Int → Bool} : ∀ {vs : List Int} {k : Int} (i : Nat) (h : i < vs.length) (h' : i < (lamV A vs k).length), A vs[i] = false → (lamV A vs k)[i] = vs[i]
 | v :: vs, k, i, h, h', hA => by
  have hlV : lamV A (v :: vs) k = if A v = true then k :: lamV A vs (k + 1) else v :: lamV A vs k := by rw [lamV]
  match i, h, h', hA with
  | 0, _, h', hA =>
   have hA' : A v = false := hA
   simp only [hlV, hA', Bool.false_eq_true, if_false, List.getElem_cons_zero]
  | i + 1, h, h', hA =>
   by_cases hv : A v = true
   ·simp only [hlV, if_pos hv, List.getElem_cons_succ]
    exact lamV_at i (by simpa using h) (by rw [lamV_len]; simpa using h) hA
   ·simp only [hlV, if_neg hv, List.getElem_cons_succ]
    exact lamV_at i (by simpa using h) (by rw [lamV_len]; simpa using h) hA
theorem lamV_nodup {A : Int → Bool} : ∀ {vs : List Int} {k : Int}, vs.Nodup → (∀ v ∈ vs, v < k) → (lamV A vs k).Nodup
 | [], k, _, _ => by rw [lamV]; exact List.nodup_nil
 | v :: vs, k, hd, hk => by
  rw [List.nodup_cons] at hd
  rw [lamV]
  split
  ·rw [List.nodup_cons]
   refine ⟨fun h => ?_, lamV_nodup hd.2 fun x hx => by have := hk x (List.mem_cons_of_mem _ hx); omega⟩
   rcases lamV_mem h with h1 | h1
   ·omega
   ·have := hk k (List.mem_cons_of_mem _ h1.1)
    omega
  ·rw [List.nodup_cons]
   refine ⟨fun h => ?_, lamV_nodup hd.2 fun x hx => hk x (List.mem_cons_of_mem _ hx)⟩
   rcases lamV_mem h with h1 | h1
   ·have := hk v (List.mem_cons_self ..)
    omega
   ·exact hd.1 h1.1
theorem lamB_inv {A : Int → Bool} {K : List Vl} {e : EnvM} {vs : List Int} {k : Int} {b : Trm} {bz : List Nat} {ys : List Vl} {t : MSt} {us : List Vl} {c : Int} {t' : MSt} (hnd : vs.Nodup) (hb : bz.length = vs.length) (hy : ys.length = vs.length)
  (hf : ∀ i (h : i < (lamV A vs k).length) (h' : i < bz.length), fndM e (lamV A vs k)[i] = some bz[i]) (hg : ∀ i (h : i < bz.length) (h' : i < ys.length), hget t.h bz[i] = some (ys[i], false))
  (h : Ev K (.ev (lamB A vs k b) e) t us c t') (hc : c ≠ 8) : ∃ e3 t3 v, ∃ (cz : List Nat) (hcz : cz.length = vs.length) (ds : Nat → Nat), Ev K (.ev (b.cv A (k + lamN A vs)) e3) t3 [v] c t' ∧ us = [v] ∧ Sam t t3 ∧ HLe t.h t3.h ∧
   (∀ u, u ∉ vs → fndM e3 u = fndM e u) ∧ (∀ i (hi : i < vs.length), A vs[i] = false → fndM e3 vs[i] = fndM e vs[i]) ∧
   (∀ i (hi : i < vs.length), A vs[i] = true → fndM e3 vs[i] = some (ds i) ∧ hget t3.h (ds i) = some (boxV (cz[i]'(by omega)), false) ∧ hget t.h (ds i) = none ∧ ∀ j (hj : j < vs.length), ds i ≠ cz[j]'(by omega)) ∧
   (∀ i (hi : i < vs.length), (A vs[i] = false → cz[i]'(by omega) = bz[i]'(by omega)) ∧ (A vs[i] = true → hget t.h (cz[i]'(by omega)) = none) ∧ hget t3.h (cz[i]'(by omega)) = some (ys[i]'(by omega), false)) ∧
   ∀ i j (hi : i < vs.length) (hj : j < vs.length), A vs[i] = true → A vs[j] = true → cz[i]'(by omega) = cz[j]'(by omega) → i = j := by
 unfold lamB at h
 by_cases hfl : vs.filter A = []
 ·rw [if_pos hfl] at h
  have hn : ∀ i (hi : i < vs.length), ¬A vs[i] = true := fun i hi hA => by
   have : vs[i] ∈ vs.filter A := List.mem_filter.2 ⟨List.getElem_mem _, hA⟩
   rw [hfl] at this
   cases this
  obtain ⟨v, rfl, _⟩ := h.ev_inv hc
  exact ⟨e, t, v, bz, hb, fun _ => 0, h, rfl, Sam.refl _, HLe.refl _, fun _ _ => rfl, fun _ _ _ => rfl, fun i hi hA => absurd hA (hn i hi), fun i hi => ⟨fun _ => rfl, fun hA => absurd hA (hn i hi), hg i (by omega) (by omega)⟩, fun i j hi hj hA => absurd hA (hn i hi)⟩
 ·rw [if_neg hfl] at h
  obtain ⟨v, rfl, _, hgo⟩ := h.ev_inv hc
  rcases hgo.let_inv rfl (l := lamT A vs k) (b := b.cv A (k + lamN A vs)) rfl with ⟨h0, _, us1, ha⟩ | ⟨v', us1, s1, dz, e1, ha, hll, hdz, hbd⟩
  ·exact absurd (boxes_inv vs k bz ys (lessM t) us1 c t' hb hy hf hg ha hc).1 h0
  ·injection e1 with e1 _
   subst e1
   obtain ⟨_, k1, k2, cz, hcz, rfl, k3, k4⟩ := boxes_inv vs k bz ys (lessM t) us1 0 s1 hb hy hf hg ha (by decide)
   obtain ⟨b1, b2⟩ := bxs_at (A := A) hcz
   have hdz' : dz.length = (vs.filter A).length := hdz
   have hdl : dz.length = (bxs A vs cz).length := by omega
   obtain ⟨_, _, hnd3, _⟩ := hbd.ev_inv hc
   obtain ⟨n1, n2, n3, n4⟩ := hpM_new hdl hnd3
   have hds : ∀ i (hi : i < vs.length), A vs[i] = true → ∃ j, ∃ hj : j < dz.length, fndM (extM e (vs.filter A) dz) vs[i] = some dz[j] ∧ hget (hpM s1.h (bxs A vs cz) dz) dz[j] = some (boxV (cz[i]'(by omega)), false) := fun i hi hA => by
    obtain ⟨j, hj, hb', e1, e2⟩ := b2 i hi (by omega) hA
    refine ⟨j, by omega, ?_, ?_⟩
    ·rw [← e1]
     exact ext_get (hnd.filter A) hdz' j hj (by omega)
    ·rw [← e2]
     exact n4 j hb' (by omega)
   have hcc : ∀ i (hi : i < vs.length), hget s1.h (cz[i]'(by omega)) = some (ys[i]'(by omega), false) := fun i hi => by
    cases hA : A vs[i] with
    | true => exact ((k3 i hi).2 hA).2
    | false =>
     rw [(k3 i hi).1 hA]
     exact k2.get (hg i (by omega) (by omega))
   have hfe : ∀ i (hi : i < vs.length), A vs[i] = true → fndM (extM e (vs.filter A) dz) vs[i] = some ((fndM (extM e (vs.filter A) dz) (vs.getD i 0)).getD 0) := fun i hi hA => by
    obtain ⟨j, hj, e1, _⟩ := hds i hi hA
    rw [List.getD_eq_getElem?_getD, List.getElem?_eq_getElem hi, Option.getD_some, e1]
    rfl
   refine ⟨extM e (vs.filter A) dz, addM s1 (hpM s1.h (bxs A vs cz) dz), v, cz, hcz, fun i => (fndM (extM e (vs.filter A) dz) (vs.getD i 0)).getD 0, hbd, rfl, (Sam.less t).trans k1, k2.trans n1, fun u hu => ext_other fun h => hu (List.mem_filter.1 h).1, fun i hi hA => ext_other fun h => ?_, fun i hi hA => ?_, fun i hi => ⟨(k3 i hi).1, fun hA => ((k3 i hi).2 hA).1, n1.get (hcc i hi)⟩, k4⟩
   ·have := (List.mem_filter.1 h).2
    rw [hA] at this
    cases this
   ·obtain ⟨j, hj, e1, e2⟩ := hds i hi hA
    have e3 := hfe i hi hA
    rw [e1] at e3
    have e4 := Option.some.inj e3
    refine ⟨hfe i hi hA, ?_⟩
    dsimp only
    rw [← e4]
    have hfr := n3 dz[j] (List.getElem_mem _)
    refine ⟨e2, k2.dom hfr, fun j' hj' e5 => ?_⟩
    rw [e5, hcc j' hj'] at hfr
    cases hfr
theorem callA {A : Int → Bool} {cs : Int} {K : List Vl} {n : Int} (HS : HSa A cs K n) : ∀ w f g, ACa A cs w f g → CallSm (ACa A cs) K n w f g := by
 rintro w f g ⟨L, b, scope, k, hop, hLt, hT, f1, f2, f3, g1, g2, g3, hE⟩
 have hLv : L.vars = L.v ++ (b.vars ++ []) := by rw [L.vars_eq, hLt]; rfl
 have hnd : L.v.Nodup := by
  have := hT.nd
  rw [hLv] at this
  exact (List.nodup_append.1 this).1
 have hvk : ∀ v ∈ L.v, v < k := fun v hv => hT.vk v (by rw [hLv]; exact List.mem_append_left _ hv)
 have hvs : ∀ v ∈ L.v, v ∉ scope := fun v hv => hT.ap v (by rw [hLv]; exact List.mem_append_left _ hv)
 refine ⟨g2.trans f2.symm, by rw [g1, f1, lamV_len], fun hr => ?_, ?_⟩
 ·obtain ⟨deep, hok⟩ := hT.ok
  rw [Trm.okT_eq] at hok
  have hs := hok.1.2.2.2
  unfold numberL at hs
  rw [if_neg (by omega), if_neg (by omega), if_neg (by omega), if_pos hop] at hs
  rw [f2] at hr
  rw [f1]
  simp at hr hs
  omega
 intro w1 hw s t hV hn xs ys hxy hlen az bz ha hb v c s' h1 v' c' t' h2 n1 n2
 rw [f3, f1] at h1
 rw [g3, g1] at h2
 have hlen' : ys.length = L.v.length := by rw [VRs_len hxy, hlen, f1]
 rw [f1] at hlen ha
 rw [g1, lamV_len] at hb
 obtain ⟨_, _, hd1, _⟩ := h1.ev_inv n1
 obtain ⟨_, _, hd2, _⟩ := h2.ev_inv n2
 obtain ⟨p1, p2, p3, p4⟩ := hpM_new (xs := xs) (az := az) (by omega) hd1
 obtain ⟨q1, q2, q3, q4⟩ := hpM_new (xs := ys) (az := bz) (by omega) hd2
 have hnV := lamV_nodup (A := A) hnd hvk
 obtain ⟨e3, t3, v3, cz, hcz, ds, h3, rfl, m1, m2, m3, m4, m5, m6, m7⟩ := lamB_inv (e := extM g.env (lamV A L.v k) bz) hnd hb hlen' (fun i hi hi' => ext_get hnV (by rw [lamV_len]; exact hb) i hi hi') (fun i hi hi' => q4 i hi' hi) h2 n2
 have hTb := hT.sub (i := 0) (by rw [hLt]; simp)
 rw [if_pos (.inl (by rw [hLt]; rfl))] at hTb
 have hb0 : L.t[0]'(by rw [hLt]; simp) = b := by simp only [hLt, List.getElem_cons_zero]
 rw [hb0] at hTb
 have hEu : ∀ u ∈ scope, fndM e3 u = fndM g.env u := fun u hu => by
  rw [m3 u fun h => hvs u h hu]
  refine ext_other fun h => ?_
  rcases lamV_mem h with h4 | h4
  ·have := hT.sk u hu
   omega
  ·exact hvs u h4.1 hu
 obtain ⟨w', l1, l2, l3, l4⟩ := linkA (e1 := extM f.env L.v az) (e2 := e3) (vs := L.v) hV (Fr.refl _ _ _) (s := addM s (hpM s.h xs az)) (t := t3) ⟨rfl, rfl, rfl, rfl⟩ (Sam.trans ⟨rfl, rfl, rfl, rfl⟩ m1) p1 (q1.trans m2) (hE.up hw) az ha p2 xs hlen (fun i => cz.getD i 0) ds (fun i => ys.getD i zerV)
  (fun i hi => ⟨p4 i (by omega) (by omega), p3 _ (List.getElem_mem _)⟩)
  (fun i hi => by
   have e1 : cz.getD i 0 = cz[i]'(by omega) := by rw [List.getD_eq_getElem?_getD, List.getElem?_eq_getElem (by omega)]; rfl
   have e2 : ys.getD i zerV = ys[i]'(by omega) := by rw [List.getD_eq_getElem?_getD, List.getElem?_eq_getElem (by omega)]; rfl
   simp only [e1, e2]
   have hfr : hget t.h (cz[i]'(by omega)) = none := by
    cases hA : A L.v[i] with
    | true => exact q1.dom ((m6 i hi).2.1 hA)
    | false => rw [(m6 i hi).1 hA]; exact q3 _ (List.getElem_mem _)
   exact ⟨(m6 i hi).2.2, hfr, hV.noT hfr⟩)
  (fun i j hi hj e => by
   have e1 : cz.getD i 0 = cz[i]'(by omega) := by rw [List.getD_eq_getElem?_getD, List.getElem?_eq_getElem (by omega)]; rfl
   have e2 : cz.getD j 0 = cz[j]'(by omega) := by rw [List.getD_eq_getElem?_getD, List.getElem?_eq_getElem (by omega)]; rfl
   simp only [e1, e2] at e
   have hbz : ∀ i (hi : i < L.v.length) (hi' : i < bz.length), hget (addM t (hpM t.h ys bz)).h bz[i] = some (ys[i]'(by omega), false) := fun i hi hi' => q4 i (by omega) hi'
   cases hA : A L.v[i] with
   | true =>
    cases hB : A L.v[j] with
    | true => exact m7 i j hi hj hA hB e
    | false =>
     have := (m6 i hi).2.1 hA
     rw [e, (m6 j hj).1 hB, hbz j hj (by omega)] at this
     cases this
   | false =>
    cases hB : A L.v[j] with
    | true =>
     have := (m6 j hj).2.1 hB
     rw [← e, (m6 i hi).1 hA, hbz i hi (by omega)] at this
     cases this
    | false =>
     rw [(m6 i hi).1 hA, (m6 j hj).1 hB] at e
     exact (List.getElem_inj q2).1 e)
  (fun i hi hA => by
   have e1 : cz.getD i 0 = cz[i]'(by omega) := by rw [List.getD_eq_getElem?_getD, List.getElem?_eq_getElem (by omega)]; rfl
   obtain ⟨_, o2, o3, o4⟩ := m5 i hi hA
   simp only [e1]
   refine ⟨o2, q1.dom o3, fun j hj => ?_⟩
   have e2 : cz.getD j 0 = cz[j]'(by omega) := by rw [List.getD_eq_getElem?_getD, List.getElem?_eq_getElem (by omega)]; rfl
   rw [e2]
   exact o4 j hj)
  (fun i hi => ext_get hnd ha i hi (by omega)) (fun u hu => ext_other fun h => hvs u h hu)
  (fun i hi hA => by
   have e1 : cz.getD i 0 = cz[i]'(by omega) := by rw [List.getD_eq_getElem?_getD, List.getElem?_eq_getElem (by omega)]; rfl
   rw [m4 i hi hA, e1, (m6 i hi).1 hA]
   have := ext_get (e := g.env) hnV (by rw [lamV_len]; exact hb) i (by rw [lamV_len]; exact hi) (by omega)
   rw [lamV_at i hi (by rw [lamV_len]; exact hi) hA] at this
   exact this)
  (fun i hi hA => (m5 i hi hA).1) hEu
  (fun w' hw' _ i hi => by
   have e2 : ys.getD i zerV = ys[i]'(by omega) := by rw [List.getD_eq_getElem?_getD, List.getElem?_eq_getElem (by omega)]; rfl
   rw [e2]
   exact VW.up ACa.mono hw' (VRs_get hxy i (by omega) (by omega)))
 exact Rs.back l1 l3 (HS w' b _ _ e3 ⟨scope ++ L.v, k + lamN A L.v, hTb.up (by have := (lamN_bd A L.v).1; omega), rfl, l4⟩ w' w'.refl _ _ l2 hn _ _ _ h1 _ _ _ h3 n1 n2)
end Go.Cb
namespace Go.Cb
open Go.Proofs
set_option maxRecDepth 100000
set_option maxHeartbeats 4000000
structure BxR (A : Int → Bool) (C : CR) (w : Wd) (g0 g1 : Hp) (vs : List Int) (xs us : List Vl) (cz : List Nat) : Prop where
 lx : xs.length = vs.length
 lu : us.length = vs.length
 lc : cz.length = vs.length
 no : ∀ i (hi : i < vs.length), A vs[i] = false → VW C w (xs[i]'(by omega)) (us[i]'(by omega))
 yes : ∀ i (hi : i < vs.length), A vs[i] = true → us[i]'(by omega) = boxV (cz[i]'(by omega)) ∧ (∃ y, hget g1 (cz[i]'(by omega)) = some (y, false) ∧ VW C w (xs[i]'(by omega)) y) ∧ (∀ a, ¬w.m a (cz[i]'(by omega))) ∧ (∀ y, ¬w.f (cz[i]'(by omega)) y) ∧ hget g0 (cz[i]'(by omega)) = none
 dj : ∀ i j (hi : i < vs.length) (hj : j < vs.length), A vs[i] = true → A vs[j] = true → cz[i]'(by omega) = cz[j]'(by omega) → i = j
theorem boxAll_nil {A : Int → Bool} (l : List Trm) : boxAll A [] l = l := by cases l <;> rfl
theorem boxAll_sm {A : Int → Bool} {C : CR} (hC : C.mono) {K : List Vl} {n : Int} {e e' : EnvM} : ∀ (vs : List Int) (l l' : List Trm) (w : Wd), l.length = vs.length → SmL C K n w e e' l l' → ∀ w1, w.le w1 → ∀ s t, Va C w1 s t → s.fuel ≤ n → ∀ xs c s', Ev K (.all l e) s xs c s' → ∀ us c' t', Ev K (.all (boxAll A vs l') e') t us c' t' → c ≠ 8 → c' ≠ 8 →
  c' = c ∧ ∃ w', w1.le w' ∧ Va C w' s' t' ∧ Fr w1 w' s.h t.h s'.h t'.h ∧ (c = 0 → ∃ cz, BxR A C w' t.h t'.h vs xs us cz)
 | [], l, l', w, hl, hS => by
  have hl0 := List.eq_nil_of_length_eq_zero hl
  subst hl0
  rw [show l' = [] from hS]
  intro w1 hw s t hV hn xs c s' h1 us c' t' h2 n1 n2
  rw [boxAll_nil] at h2
  obtain ⟨rfl, rfl, rfl⟩ := h1.nil_inv
  obtain ⟨rfl, rfl, rfl⟩ := h2.nil_inv
  exact ⟨rfl, w1, w1.refl, hV, Fr.refl _ _ _, fun _ => ⟨[], rfl, rfl, rfl, fun i hi => absurd hi (Nat.not_lt_zero _), fun i hi => absurd hi (Nat.not_lt_zero _), fun i j hi => absurd hi (Nat.not_lt_zero _)⟩⟩
 | v :: vs, [], l', w, hl, hS => by simp at hl
 | v :: vs, x :: l, l', w, hl, hS => by
  obtain ⟨x', m, rfl, hx, hS'⟩ := hS
  intro w1 hw s t hV hn xs c s' h1 us c' t' h2 n1 n2
  have hl' : l.length = vs.length := by simpa using hl
  rw [boxAll] at h2
  have first : ∀ {v1 : List Vl} {c1 : Int} {s1 : MSt} {v2 : List Vl} {c2 : Int} {t1 : MSt}, Ev K (.ev x e) s v1 c1 s1 → Ev K (.ev (if A v = true then boxT x' else x') e') t v2 c2 t1 → c1 ≠ 8 → c2 ≠ 8 →
    c2 = c1 ∧ ∃ w2, w1.le w2 ∧ Va C w2 s1 t1 ∧ Fr w1 w2 s.h t.h s1.h t1.h ∧ (c1 = 0 → ∃ a1 b1 d1, v1 = [a1] ∧ v2 = [b1] ∧ (A v = false → VW C w2 a1 b1) ∧ (A v = true → b1 = boxV d1 ∧ (∃ y, hget t1.h d1 = some (y, false) ∧ VW C w2 a1 y) ∧ (∀ a, ¬w2.m a d1) ∧ (∀ y, ¬w2.f d1 y) ∧ hget t.h d1 = none)) := by
   intro v1 c1 s1 v2 c2 t1 k1 k2 m1 m2
   by_cases hA : A v = true
   ·rw [if_pos hA] at k2
    rcases k2.box_inv m2 with ⟨h0, v3, k3⟩ | ⟨z, s2, a, k3, rfl, rfl, hd, rfl⟩
    ·obtain ⟨e1, w2, g1, g2, g3, _⟩ := hx w1 hw s (lessM t) (hV.sam (Sam.refl _) (Sam.less t) (HLe.refl _) (HLe.refl _)) hn _ _ _ k1 _ _ _ k3 m1 m2
     exact ⟨e1, w2, g1, g2, g3, fun h => absurd (e1.trans h) h0⟩
    ·obtain ⟨e1, w2, g1, g2, g3, g4⟩ := hx w1 hw s (lessM t) (hV.sam (Sam.refl _) (Sam.less t) (HLe.refl _) (HLe.refl _)) hn _ _ _ k1 _ _ _ k3 m1 (by decide)
     have hnn := (List.nodup_cons.1 hd).1
     have hH := HLe.cons (x := z) (r := false) hnn
     subst e1
     obtain ⟨a1, rfl, _⟩ := k1.ev_inv (by decide)
     have hno := g2.noT (hget_none hnn)
     refine ⟨rfl, w2, g1, g2.sam (Sam.refl _) ⟨rfl, rfl, rfl, rfl⟩ (HLe.refl _) hH, g3.trans (Fr.same (HLe.refl _) hH), fun _ => ⟨a1, _, a, rfl, rfl, fun h => absurd hA (by rw [h]; decide), fun _ => ⟨rfl, ⟨z, by show hget ((a, z, false) :: s2.h) a = _; rw [hget, if_pos rfl], (VRs_two.1 (g4 rfl)).1⟩, hno.1, hno.2, g3.dt a (hget_none hnn)⟩⟩⟩
   ·rw [if_neg hA] at k2
    obtain ⟨e1, w2, g1, g2, g3, g4⟩ := hx w1 hw s t hV hn _ _ _ k1 _ _ _ k2 m1 m2
    refine ⟨e1, w2, g1, g2, g3, fun h => ?_⟩
    subst h
    obtain ⟨a1, rfl, _⟩ := k1.ev_inv m1
    obtain ⟨b1, rfl, _⟩ := k2.ev_inv m2
    exact ⟨a1, b1, 0, rfl, rfl, fun _ => (VRs_two.1 (g4 rfl)).1, fun h => absurd h hA⟩
  rcases h1.all_inv with ⟨h0, v1, k1⟩ | ⟨x1, s1, xs1, k1, k2, k3⟩
  ·rcases h2.all_inv with ⟨h0', v2, q1⟩ | ⟨y1, t1, us1, q1, q2, q3⟩
   ·obtain ⟨e1, w2, g1, g2, g3, _⟩ := first k1 q1 n1 n2
    exact ⟨e1, w2, g1, g2, g3, fun h => absurd h h0⟩
   ·exact absurd (first k1 q1 n1 (by decide)).1.symm h0
  ·rcases h2.all_inv with ⟨h0', v2, q1⟩ | ⟨y1, t1, us1, q1, q2, q3⟩
   ·exact absurd (first k1 q1 (by decide) n2).1 h0'
   ·obtain ⟨_, w2, g1, g2, g3, g4⟩ := first k1 q1 (by decide) (by decide)
    obtain ⟨e1, w3, r1, r2, r3, r4⟩ := boxAll_sm hC vs l m w hl' hS' w2 (Wd.trans hw g1) s1 t1 g2 (Int.le_trans k1.grow.2.2 hn) xs1 c s' k2 us1 c' t' q2 n1 n2
    refine ⟨e1, w3, Wd.trans g1 r1, r2, g3.trans r3, fun h => ?_⟩
    subst h
    obtain rfl := e1
    obtain rfl := k3 rfl
    obtain rfl := q3 rfl
    obtain ⟨cz, hB⟩ := r4 rfl
    obtain ⟨a1, b1, d1, ea, eb, j1, j2⟩ := g4 rfl
    injection ea with ea _
    injection eb with eb _
    subst ea eb
    have old : ∀ {d : Nat}, hget t1.h d = none → hget t.h d = none := fun h => g3.dt _ h
    refine ⟨d1 :: cz, by simp [hB.lx], by simp [hB.lu], by simp [hB.lc], fun i hi hA => ?_, fun i hi hA => ?_, fun i j hi hj hAi hAj hij => ?_⟩
    ·match i, hi, hA with
     | 0, _, hA => exact VW.up hC r1 (j1 hA)
     | i + 1, hi, hA => exact hB.no i (by simpa using hi) hA
    ·match i, hi, hA with
     | 0, _, hA =>
      obtain ⟨o1, ⟨y, o2, o3⟩, o4, o5, o6⟩ := j2 hA
      refine ⟨o1, ⟨y, r3.ht _ _ _ o2 o4, VW.up hC r1 o3⟩, fun a ha => ?_, fun z hz => ?_, o6⟩
      ·rcases r3.ns _ _ ha with h | ⟨_, h⟩
       ·exact o4 a h
       ·exact absurd (o2.symm.trans h) (by simp)
      ·rcases r3.nf _ _ hz with h | h
       ·exact o5 z h
       ·exact absurd (o2.symm.trans h) (by simp)
     | i + 1, hi, hA =>
      obtain ⟨o1, o2, o4, o5, o6⟩ := hB.yes i (by simpa using hi) hA
      exact ⟨o1, o2, o4, o5, old o6⟩
    ·match i, j, hi, hj with
     | 0, 0, _, _ => rfl
     | 0, j + 1, _, hj =>
      have o6 := (hB.yes j (by simpa using hj) hAj).2.2.2.2
      obtain ⟨_, ⟨y, o2, _⟩, _⟩ := j2 hAi
      rw [List.getElem_cons_zero, List.getElem_cons_succ] at hij
      rw [← hij, o2] at o6
      cases o6
     | i + 1, 0, hi, _ =>
      have o6 := (hB.yes i (by simpa using hi) hAi).2.2.2.2
      obtain ⟨_, ⟨y, o2, _⟩, _⟩ := j2 hAj
      rw [List.getElem_cons_zero, List.getElem_cons_succ] at hij
      rw [hij, o2] at o6
      cases o6
     | i + 1, j + 1, hi, hj => rw [hB.dj i j (by simpa using hi) (by simpa using hj) hAi hAj hij]
theorem boxAll_snoc {A : Int → Bool} : ∀ (vs : List Int) (l : List Trm) (b : Trm), l.length = vs.length → boxAll A vs (l ++ [b]) = boxAll A vs l ++ [b]
 | [], l, b, h => by
  rw [boxAll_nil, boxAll_nil]
 | v :: vs, [], b, h => by simp at h
 | v :: vs, x :: l, b, h => by rw [List.cons_append, boxAll, boxAll, boxAll_snoc vs l b (by simpa using h), List.cons_append]
theorem cvs_snoc (A : Int → Bool) : ∀ (l : List Trm) (b : Trm) (k : Int), Trm.cvs A (l ++ [b]) k = Trm.cvs A l k ++ [b.cv A (k + Trm.frs A l)]
 | [], b, k => by rw [List.nil_append, Trm.cvs, Trm.cvs, Trm.cvs, Trm.frs, Int.add_zero]; rfl
 | x :: l, b, k => by rw [List.cons_append, Trm.cvs, cvs_snoc A l, Trm.cvs, Trm.frs, List.cons_append, Int.add_assoc]
theorem getD_at {α : Type} {l : List α} {d : α} {i : Nat} (h : i < l.length) : l.getD i d = l[i] := by rw [List.getD_eq_getElem?_getD, List.getElem?_eq_getElem h]; rfl
theorem letA {A : Int → Bool} {cs : Int} {K : List Vl} {n : Int} (HS : HSa A cs K n) {w : Wd} {t : Trm} {e e' : EnvM} {scope : List Int} {k : Int} (hT : TOa A cs k t scope) (hE : ERa A w e e' scope) (ho : t.op = 8) : Sm (ACa A cs) K n w (.go t e) (.go (t.cv A k) e') := by
 intro w1 hw s r hV hn v c s' h1 v' c' r' h2 n1 n2
 have hcn : t.t.length = t.v.length + 1 := by
  obtain ⟨deep, hok⟩ := hT.ok
  rw [Trm.okT_eq] at hok
  have hs := hok.1.2.2.1
  unfold countsL at hs
  split at hs
  ·cases hs
  ·rw [if_neg (by omega), if_neg (by omega), if_neg (by omega), if_neg (by omega), if_neg (by omega), if_pos (by omega)] at hs
   simp at hs
   omega
 have hsp : t.t = t.t.take t.v.length ++ [t.t[t.v.length]'(by omega)] := by
  have : t.t.take (t.v.length + 1) = t.t := List.take_of_length_le (by omega)
  rw [← List.take_succ_eq_append_getElem (by omega), this]
 obtain ⟨l, hl⟩ : ∃ l, l = t.t.take t.v.length := ⟨_, rfl⟩
 obtain ⟨b, hb⟩ : ∃ b, b = t.t[t.v.length]'(by omega) := ⟨_, rfl⟩
 have hll : l.length = t.v.length := by rw [hl, List.length_take]; omega
 rw [← hl, ← hb] at hsp
 have hTl : ∀ x ∈ l, TOa A cs k x scope := fun x hx => by
  obtain ⟨i, hi, rfl⟩ := List.mem_iff_getElem.1 hx
  have hi' : i < t.t.length := by rw [hsp, List.length_append]; omega
  have := hT.sub hi'
  rw [if_neg (by omega)] at this
  have e1 : t.t[i] = l[i] := by simp only [hsp, List.getElem_append_left hi]
  rwa [e1] at this
 have hTb : TOa A cs k b (scope ++ t.v) := by
  have := hT.sub (i := t.v.length) (by omega)
  rwa [if_pos (.inl (by omega)), ← hb] at this
 have hvv := t.vars_eq
 have hnd : t.v.Nodup := by
  have := hT.nd
  rw [hvv] at this
  exact (List.nodup_append.1 this).1
 have hvs : ∀ v ∈ t.v, v ∉ scope := fun v hv => hT.ap v (by rw [hvv]; exact List.mem_append_left _ hv)
 have hcv : t.cv A k = .mk 8 t.n t.v (boxAll A t.v (Trm.cvs A l k) ++ [b.cv A (k + Trm.frs A l)]) := by
  rw [Trm.cv_eq, if_neg (by omega), if_neg (by omega), if_neg (by omega), if_neg (by omega), if_neg (by omega), if_pos ho, ho, hsp, cvs_snoc, boxAll_snoc _ _ _ (by rw [Trm.cvs_length]; exact hll)]
 rw [hcv] at h2
 have hSl := HS.list (w := w1) (hE.up hw) l k hTl
 rcases h1.let_inv ho hsp with ⟨h0, rfl, us, k1⟩ | ⟨v1, xs, s1, az, rfl, k1, _, haz, k2⟩
 ·rcases h2.let_inv rfl rfl with ⟨h0', rfl, us', q1⟩ | ⟨v2, us', r1, bz, rfl, q1, _, hbz, q2⟩
  ·obtain ⟨e1, w2, g1, g2, g3, _⟩ := boxAll_sm ACa.mono t.v l _ w1 hll hSl w1 w1.refl s r hV hn _ _ _ k1 _ _ _ q1 n1 n2
   exact ⟨e1, w2, g1, g2, g3, fun h => absurd h h0⟩
  ·exact absurd (boxAll_sm ACa.mono t.v l _ w1 hll hSl w1 w1.refl s r hV hn _ _ _ k1 _ _ _ q1 n1 (by decide)).1.symm h0
 ·rcases h2.let_inv rfl rfl with ⟨h0', rfl, us', q1⟩ | ⟨v2, us', r1, bz, rfl, q1, _, hbz, q2⟩
  ·exact absurd (boxAll_sm ACa.mono t.v l _ w1 hll hSl w1 w1.refl s r hV hn _ _ _ k1 _ _ _ q1 (by decide) n2).1 h0'
  ·obtain ⟨_, w2, g1, g2, g3, g4⟩ := boxAll_sm ACa.mono t.v l _ w1 hll hSl w1 w1.refl s r hV hn _ _ _ k1 _ _ _ q1 (by decide) (by decide)
   obtain ⟨cz, hB⟩ := g4 rfl
   have hbz' : bz.length = t.v.length := hbz
   obtain ⟨_, _, hd1, _⟩ := k2.ev_inv n1
   obtain ⟨_, _, hd2, _⟩ := q2.ev_inv n2
   obtain ⟨p1, p2, p3, p4⟩ := hpM_new (xs := xs) (az := az) (by rw [hB.lx]; exact haz) hd1
   obtain ⟨o1, o2, o3, o4⟩ := hpM_new (xs := us') (az := bz) (by rw [hB.lu]; exact hbz') hd2
   obtain ⟨w3, l1, l2, l3, l4⟩ := linkA (e1 := extM e t.v az) (e2 := extM e' t.v bz) (vs := t.v) (s := addM s1 (hpM s1.h xs az)) (t := addM r1 (hpM r1.h us' bz)) g2 g3 ⟨rfl, rfl, rfl, rfl⟩ ⟨rfl, rfl, rfl, rfl⟩ p1 o1 (hE.up (Wd.trans hw g1)) az haz p2 xs hB.lx
    (fun i => if A (t.v.getD i 0) = true then cz.getD i 0 else bz.getD i 0) (fun i => bz.getD i 0) (fun i => if A (t.v.getD i 0) = true then ((hget r1.h (cz.getD i 0)).getD (zerV, false)).1 else us'.getD i zerV)
    (fun i hi => ⟨p4 i (by rw [hB.lx]; exact hi) (by omega), p3 _ (List.getElem_mem _)⟩)
    (fun i hi => by
     have hc := hB.lc
     have hu := hB.lu
     rw [getD_at hi, getD_at (by omega), getD_at (by omega), getD_at (by omega)]
     cases hA : A t.v[i] with
     | true =>
      obtain ⟨_, ⟨y, y1, _⟩, y3, y4, y5⟩ := hB.yes i hi hA
      rw [if_pos rfl, if_pos rfl, y1]
      exact ⟨o1.get y1, y5, y3, y4⟩
     | false =>
      rw [if_neg (by decide), if_neg (by decide)]
      have hfr := o3 (bz[i]'(by omega)) (List.getElem_mem _)
      exact ⟨o4 i (by omega) (by omega), g3.dt _ hfr, g2.noT hfr⟩)
    (fun i j hi hj he => by
     have hc := hB.lc
     rw [getD_at hi, getD_at hj, getD_at (by omega), getD_at (by omega), getD_at (by omega), getD_at (by omega)] at he
     cases hA : A t.v[i] with
     | true =>
      cases hA' : A t.v[j] with
      | true =>
       rw [hA, hA', if_pos rfl, if_pos rfl] at he
       exact hB.dj i j hi hj hA hA' he
      | false =>
       rw [hA, hA', if_pos rfl, if_neg (by decide)] at he
       obtain ⟨_, ⟨y, y1, _⟩, _⟩ := hB.yes i hi hA
       have hfr := o3 (bz[j]'(by omega)) (List.getElem_mem _)
       rw [← he, y1] at hfr
       cases hfr
     | false =>
      cases hA' : A t.v[j] with
      | true =>
       rw [hA, hA', if_pos rfl, if_neg (by decide)] at he
       obtain ⟨_, ⟨y, y1, _⟩, _⟩ := hB.yes j hj hA'
       have hfr := o3 (bz[i]'(by omega)) (List.getElem_mem _)
       rw [he, y1] at hfr
       cases hfr
      | false =>
       rw [hA, hA', if_neg (by decide), if_neg (by decide)] at he
       exact (List.getElem_inj o2).1 he)
    (fun i hi hA => by
     have hc := hB.lc
     have hu := hB.lu
     rw [getD_at hi, getD_at (by omega), hA, if_pos rfl, getD_at (by omega)]
     obtain ⟨y0, ⟨y, y1, _⟩, _⟩ := hB.yes i hi hA
     have hfr := o3 (bz[i]'(by omega)) (List.getElem_mem _)
     have h4 := o4 i (by omega) (by omega)
     rw [y0] at h4
     refine ⟨h4, hfr, fun j hj => ?_⟩
     rw [getD_at hj, getD_at (by omega), getD_at (by omega)]
     cases hA' : A t.v[j] with
     | true =>
      rw [if_pos rfl]
      obtain ⟨_, ⟨z, z1, _⟩, _⟩ := hB.yes j hj hA'
      intro he
      rw [he, z1] at hfr
      cases hfr
     | false =>
      rw [if_neg (by decide)]
      intro he
      have := (List.getElem_inj o2).1 he
      subst this
      rw [hA] at hA'
      cases hA')
    (fun i hi => ext_get hnd haz i hi (by omega)) (fun u hu => ext_other fun h => hvs u h hu)
    (fun i hi hA => by
     rw [getD_at hi, hA, if_neg (by decide), getD_at (by omega)]
     exact ext_get hnd hbz' i hi (by omega))
    (fun i hi hA => by
     rw [getD_at (by omega)]
     exact ext_get hnd hbz' i hi (by omega))
    (fun u hu => ext_other fun h => hvs u h hu)
    (fun w' hw' _ i hi => by
     have hc := hB.lc
     have hu := hB.lu
     rw [getD_at hi, getD_at (by omega), getD_at (by omega)]
     cases hA : A t.v[i] with
     | true =>
      obtain ⟨_, ⟨y, y1, y2⟩, _⟩ := hB.yes i hi hA
      rw [if_pos rfl, y1]
      exact VW.up ACa.mono hw' y2
     | false =>
      rw [if_neg (by decide)]
      exact VW.up ACa.mono hw' (hB.no i hi hA))
   exact Rs.back (Wd.trans g1 l1) l3 (HS w3 b _ _ _ ⟨scope ++ t.v, k + Trm.frs A l, hTb.up (by have := (Trm.frs_bd A l).1; omega), rfl, l4⟩ w3 w3.refl _ _ l2 (Int.le_trans k1.grow.2.2 hn) _ _ _ k2 _ _ _ q2 n1 n2)
end Go.Cb
namespace Go.Cb
open Go.Proofs
set_option maxRecDepth 100000
set_option maxHeartbeats 4000000
def cloV (e : EnvM) (L : Trm) : Vl := .mk 8 0 0 [] [] (some ⟨L.v, L.n == 1, L.t.headD (refT 0), e⟩) none
def isL (x : Trm) : Prop := x.op = 4 ∧ ∃ b, x.t = [b]
theorem Ev.evL_inv {K : List Vl} {t : Trm} {e : EnvM} {s : MSt} {vs : List Vl} {c : Int} {s' : MSt} (h : Ev K (.ev t e) s vs c s') (hc : c ≠ 8) (ht : isL t) : vs = [cloV e t] ∧ c = 0 ∧ s' = lessM s := by
 obtain ⟨ho, b, hb⟩ := ht
 have := h.evLam_inv hc ho hb
 unfold cloV
 rw [hb]
 exact this
theorem Ev.rc_inv {K : List Vl} {v : Int} {vs : List Int} {t : Trm} {l : List Trm} {e : EnvM} {s : MSt} {us : List Vl} {c : Int} {s' : MSt} (h : Ev K (.rc true (v :: vs) (t :: l) e) s us c s') :
  (c ≠ 0 ∧ ∃ y, Ev K (.ev t e) s [y] c s') ∨ ∃ x s1 us1, Ev K (.ev t e) s [x] 0 s1 ∧ Ev K (.rc true vs l e) (stoM s1 e v x) us1 c s' ∧ (c = 0 → us = x :: us1) := by
 cases h with
 | rcE h1 h0 => exact .inl ⟨h0, _, h1⟩
 | rcC h1 h2 => exact .inr ⟨_, _, _, h1, by simpa using h2, fun _ => rfl⟩
 | rcX h1 h2 h0 => exact .inr ⟨_, _, _, h1, by simpa using h2, fun h => absurd h h0⟩
theorem hpU_hpM : ∀ {az : List Nat} {h : Hp}, hpU h false az = hpM h (az.map fun _ => kndV 12) az
 | [], h => rfl
 | a :: az, h => by rw [hpU, List.map_cons, hpM, hpU_hpM]
theorem rcLam_inv {K : List Vl} {e : EnvM} : ∀ (vs : List Int) (ls : List Trm) (s : MSt) (us : List Vl) (c : Int) (s' : MSt), (∀ x ∈ ls, isL x) → Ev K (.rc true vs ls e) s us c s' → c ≠ 8 → c = 0 ∧ Sam s s' ∧ s'.h.map (fun c => c.1) = s.h.map (fun c => c.1) ∧
  ∀ az : List Nat, ∀ (hl : az.length = vs.length) (hl2 : ls.length = vs.length), (∀ i (hi : i < vs.length), fndM e vs[i] = some (az[i]'(by omega))) → az.Nodup → (∀ a ∈ az, ∃ y, hget s.h a = some (y, false)) →
   (∀ a, a ∉ az → hget s'.h a = hget s.h a) ∧ ∀ i (hi : i < vs.length), hget s'.h (az[i]'(by omega)) = some (cloV e (ls[i]'(by omega)), false)
 | [], [], s, us, c, s', _, h, _ => by
  cases h
  exact ⟨rfl, Sam.refl _, rfl, fun az hl _ _ _ _ => ⟨fun _ _ => rfl, fun i hi => absurd hi (Nat.not_lt_zero _)⟩⟩
 | [], x :: ls, s, us, c, s', _, h, _ => by cases h
 | v :: vs, [], s, us, c, s', _, h, _ => by cases h
 | v :: vs, x :: ls, s, us, c, s', hL, h, hc => by
  have hx := hL x (List.mem_cons_self ..)
  rcases h.rc_inv with ⟨h0, y, h1⟩ | ⟨x1, s1, us1, h1, h2, h3⟩
  ·exact absurd (h1.evL_inv hc hx).2.1 h0
  ·obtain ⟨e1, _, rfl⟩ := h1.evL_inv (by decide) hx
   injection e1 with e1 _
   subst e1
   obtain ⟨rfl, k1, k2, k3⟩ := rcLam_inv vs ls _ us1 c s' (fun y hy => hL y (List.mem_cons_of_mem _ hy)) h2 hc
   have hS : Sam s (stoM (lessM s) e v (cloV e x)) := by
    unfold stoM
    split <;> exact ⟨rfl, rfl, rfl, rfl⟩
   refine ⟨rfl, hS.trans k1, k2.trans ?_, fun az hl hl2 hf hd hy => ?_⟩
   ·unfold stoM
    split
    ·rfl
    ·exact hput_dom _ _ _
   match az, hl, hf, hd, hy with
   | a :: az, hl, hf, hd, hy =>
   rw [List.nodup_cons] at hd
   have f0 : fndM e v = some a := hf 0 (by simp)
   have hst : (stoM (lessM s) e v (cloV e x)).h = hput s.h a (cloV e x) := by
    unfold stoM
    rw [f0]
   obtain ⟨y0, hy0⟩ := hy a (List.mem_cons_self ..)
   obtain ⟨k4, k5⟩ := k3 az (by simpa using hl) (by simpa using hl2) (fun i hi => hf (i + 1) (by simpa using hi)) hd.2 (fun b hb => by
    obtain ⟨y, hy1⟩ := hy b (List.mem_cons_of_mem _ hb)
    refine ⟨y, ?_⟩
    rw [hst, hget_put_other (fun (e : b = a) => hd.1 (by rw [← e]; exact hb))]
    exact hy1)
   refine ⟨fun b hb => ?_, fun i hi => ?_⟩
   ·rw [k4 b fun h => hb (List.mem_cons_of_mem _ h), hst]
    exact hget_put_other fun e => hb (by rw [e]; exact List.mem_cons_self ..)
   ·match i, hi with
    | 0, _ =>
     rw [List.getElem_cons_zero, List.getElem_cons_zero, k4 a hd.1, hst]
     exact hget_put_same hy0
    | i + 1, hi => exact k5 i (by simpa using hi)
theorem fix_inv {K : List Vl} {t : Trm} {e : EnvM} {s : MSt} {vs : List Vl} {c : Int} {s' : MSt} (h : Ev K (.go t e) s vs c s') (hc : c ≠ 8) (ho : t.op = 9) {l : List Trm} {b : Trm} (ht : t.t = l ++ [b]) (hL : ∀ x ∈ l, isL x) (hnd : t.v.Nodup) :
  ∃ az v s1, ∃ (haz : az.length = t.v.length) (hll : l.length = t.v.length), vs = [v] ∧ Ev K (.ev b (extM e t.v az)) s1 [v] c s' ∧ s1.fuel ≤ s.fuel ∧ Sam s s1 ∧ HLe s.h s1.h ∧ az.Nodup ∧ (∀ a ∈ az, hget s.h a = none) ∧ ∀ i (hi : i < t.v.length), hget s1.h (az[i]'(by omega)) = some (cloV (extM e t.v az) (l[i]'(by omega)), false) := by
 have hnow : (t.op == 9 || t.n == 1) = true := by rw [ho]; rfl
 have h7 : (t.op == 7) = false := by rw [ho]; rfl
 cases h with
 | fxE _ ht' hl ha hr h0 =>
  rw [ht] at ht'
  obtain ⟨rfl, e2⟩ := List.append_inj' ht' rfl
  rw [hnow] at hr
  exact absurd (rcLam_inv _ _ _ _ _ _ hL hr hc).1 h0
 | @fxC _ _ _ l' b' az us s1 v _ _ _ ht' hl ha hr hb =>
  rw [ht] at ht'
  obtain ⟨rfl, e2⟩ := List.append_inj' ht' rfl
  cases e2
  rw [hnow, h7] at hr
  rw [if_neg (by omega)] at hb
  obtain ⟨_, k1, k2, k3⟩ := rcLam_inv _ _ _ _ _ _ hL hr (by decide)
  obtain ⟨_, _, hd, _⟩ := hb.ev_inv hc
  have hd' : ndH (hpU s.h false az) := by
   unfold ndH at *
   rw [k2] at hd
   exact hd
  rw [hpU_hpM] at hd'
  obtain ⟨n1, n2, n3, n4⟩ := hpM_new (by simp) hd'
  rw [← hpU_hpM] at n1 n4
  obtain ⟨k4, k5⟩ := k3 az ha hl (fun i hi => ext_get hnd ha i hi (by omega)) n2 (fun a hm => by
   obtain ⟨i, hi, rfl⟩ := List.mem_iff_getElem.1 hm
   exact ⟨_, n4 i (by simpa using hi) hi⟩)
  refine ⟨az, v, s1, ha, hl, rfl, hb, hr.grow.2.2, Sam.trans ⟨rfl, rfl, rfl, rfl⟩ k1, fun a x r hg => ?_, n2, n3, k5⟩
  rw [k4 a fun hm => by rw [n3 a hm] at hg; cases hg]
  exact n1.get hg
 | _ => exfalso; omega
theorem uns_inv {K : List Vl} {e : EnvM} : ∀ (l : List Int) (t : MSt) (us : List Vl) (c : Int) (t1 : MSt), Ev K (.all (l.map fun _ => boxT (.mk 13 0 [] [])) e) t us c t1 → c ≠ 8 → c = 0 ∧ Sam t t1 ∧ HLe t.h t1.h ∧ ∃ cz : List Nat, cz.length = l.length ∧ us = cz.map boxV ∧ cz.Nodup ∧ ∀ a ∈ cz, hget t.h a = none ∧ hget t1.h a = some (kndV 12, false)
 | [], t, us, c, t1, h, _ => by
  obtain ⟨rfl, rfl, rfl⟩ := h.nil_inv
  exact ⟨rfl, Sam.refl _, HLe.refl _, [], rfl, rfl, List.nodup_nil, fun a ha => by cases ha⟩
 | v :: l, t, us, c, t1, h, hc => by
  have hu : ∀ {v' : List Vl} {c' : Int} {s' t' : MSt}, Ev K (.ev (.mk 13 0 [] []) e) s' v' c' t' → c' ≠ 8 → v' = [kndV 12] ∧ c' = 0 ∧ t' = lessM s' := fun {v' c' s' t'} h1 hc1 => by
   obtain ⟨v1, rfl, _, h2⟩ := h1.ev_inv hc1
   have ho : (Trm.mk 13 0 [] []).op = 13 := rfl
   cases h2 with
   | uns => exact ⟨rfl, rfl, rfl⟩
   | con o => exact absurd (ho.symm.trans o) (by decide)
   | ref o => exact absurd (ho.symm.trans o) (by decide)
   | refE o => exact absurd (ho.symm.trans o) (by decide)
   | prf o => exact absurd (ho.symm.trans o) (by decide)
   | lam o => exact absurd (ho.symm.trans o) (by decide)
   | ifE o => exact absurd (ho.symm.trans o) (by decide)
   | ifF o => exact absurd (ho.symm.trans o) (by decide)
   | ifT o => exact absurd (ho.symm.trans o) (by decide)
   | ltE o => exact absurd (ho.symm.trans o) (by decide)
   | ltC o => exact absurd (ho.symm.trans o) (by decide)
   | fxE o => rw [ho] at o; exact absurd o (by decide)
   | fxC o => rw [ho] at o; exact absurd o (by decide)
   | stE o => rw [ho] at o; exact absurd o (by decide)
   | st o => rw [ho] at o; exact absurd o (by decide)
  rw [List.map_cons] at h
  rcases h.all_inv with ⟨h0, v1, h1⟩ | ⟨x1, s1, us1, h1, h2, h3⟩
  ·rcases h1.box_inv hc with ⟨_, v2, h2⟩ | ⟨z, s1, a, h2, _, h0', _⟩
   ·exact absurd (hu h2 hc).2.1 h0
   ·exact absurd h0' h0
  ·rcases h1.box_inv (by decide) with ⟨h0, _⟩ | ⟨z, s2, a, h4, ea, _, hd, rfl⟩
   ·exact absurd rfl h0
   ·injection ea with ea _
    subst ea
    obtain ⟨ez, _, rfl⟩ := hu h4 (by decide)
    injection ez with ez _
    subst ez
    have hn := (List.nodup_cons.1 hd).1
    have hH := HLe.cons (x := kndV 12) (r := false) hn
    obtain ⟨rfl, k1, k2, cz, k3, rfl, k4, k5⟩ := uns_inv l _ us1 c t1 h2 hc
    obtain rfl := h3 rfl
    have ha1 : hget ((a, kndV 12, false) :: t.h) a = some (kndV 12, false) := by rw [hget, if_pos rfl]
    refine ⟨rfl, Sam.trans ⟨rfl, rfl, rfl, rfl⟩ k1, hH.trans k2, a :: cz, by simpa using k3, rfl, ?_, fun b hb => ?_⟩
    ·rw [List.nodup_cons]
     refine ⟨fun hm => ?_, k4⟩
     have := (k5 a hm).1
     rw [show (addM (lessM (lessM t)) ((a, kndV 12, false) :: (lessM (lessM t)).h)).h = (a, kndV 12, false) :: t.h from rfl, ha1] at this
     cases this
    ·rcases List.mem_cons.1 hb with rfl | hb
     ·exact ⟨hget_none hn, k2.get ha1⟩
     ·exact ⟨hH.dom (k5 b hb).1, (k5 b hb).2⟩
theorem put_inv {K : List Vl} {e : EnvM} {v : Int} {x : Trm} {t : MSt} {us : List Vl} {c : Int} {t' : MSt} (h : Ev K (.ev (.mk 17 0 [] [refT v, x]) e) t us c t') (hc : c ≠ 8) (hx : isL x) {d a : Nat} {y : Vl} (hf : fndM e v = some d) (hd : hget t.h d = some (boxV a, false)) (ha : hget t.h a = some (y, false)) :
  c = 0 ∧ Sam t t' ∧ t'.h = hput t.h a (cloV e x) := by
 obtain ⟨v1, rfl, _, hg⟩ := h.ev_inv hc
 have ho : (Trm.mk 17 0 [] [refT v, x]).op = 17 := rfl
 have hall : ∀ {us : List Vl} {c : Int} {t1 : MSt}, Ev K (.all [refT v, x] e) (lessM t) us c t1 → c ≠ 8 → c = 0 ∧ us = [boxV a, cloV e x] ∧ t1 = lessM (lessM (lessM t)) := fun {us c t1} h1 hc1 => by
  rcases h1.all_inv with ⟨h0, _, h2⟩ | ⟨x1, s1, us1, h2, h3, h4⟩
  ·exact absurd (h2.evRef_inv hc1 rfl hf hd).2.1 h0
  ·obtain ⟨e1, _, rfl⟩ := h2.evRef_inv (by decide) rfl hf hd
   injection e1 with e1 _
   subst e1
   rcases h3.all_inv with ⟨h0, _, h5⟩ | ⟨x2, s2, us2, h5, h6, h7⟩
   ·exact absurd (h5.evL_inv hc1 hx).2.1 h0
   ·obtain ⟨e1, _, rfl⟩ := h5.evL_inv (by decide) hx
    injection e1 with e1 _
    subst e1
    obtain ⟨rfl, rfl, rfl⟩ := h6.nil_inv
    exact ⟨rfl, by rw [h4 rfl, h7 rfl], rfl⟩
 rcases hg.st_inv (by omega) with ⟨h0, _, us, h1⟩ | ⟨v', us, s1, e1, h1, h2⟩
 ·exact absurd (hall h1 hc).1 h0
 ·obtain ⟨_, rfl, rfl⟩ := hall h1 (by decide)
  generalize hL : [boxV a, cloV e x] = L at h2
  cases h2 with
  | put _ _ hxc =>
   cases hL
   cases hxc
   exact ⟨rfl, ⟨rfl, rfl, rfl, rfl⟩, rfl⟩
  | bad _ hk =>
   cases hL
   exact absurd rfl hk
  | putE o => exact absurd (ho.symm.trans o) (by decide)
  | box o => exact absurd (ho.symm.trans o) (by decide)
  | prm o => exact absurd (ho.symm.trans o) (by decide)
  | app o => exact absurd (ho.symm.trans o) (by decide)
  | chk o => exact absurd (ho.symm.trans o) (by decide)
  | chkE o => exact absurd (ho.symm.trans o) (by decide)
  | get o => exact absurd (ho.symm.trans o) (by decide)
  | stC o => rw [ho] at o; exact absurd o (by decide)
  | stX o => rw [ho] at o; exact absurd o (by decide)
  | seq o => exact absurd (ho.symm.trans o) (by decide)
theorem fixO_inv {A : Int → Bool} {K : List Vl} {e : EnvM} {o : Trm} {ds cz : Int → Nat} : ∀ (vs : List Int) (ls : List Trm) (t : MSt) (us : List Vl) (c : Int) (t' : MSt) (hl : vs.length ≤ ls.length), vs.Nodup → (∀ i (hi : i < vs.length), isL (ls[i]'(by omega))) →
  (∀ v ∈ vs, A v = true → fndM e v = some (ds v) ∧ hget t.h (ds v) = some (boxV (cz v), false) ∧ ∃ y, hget t.h (cz v) = some (y, false)) → (∀ u ∈ vs, ∀ v ∈ vs, A u = true → A v = true → ds u ≠ cz v) → (∀ u ∈ vs, ∀ v ∈ vs, A u = true → A v = true → cz u = cz v → u = v) →
  Ev K (.ev (fixO A vs ls o) e) t us c t' → c ≠ 8 → ∃ t1 us1, Ev K (.ev o e) t1 us1 c t' ∧ (c = 0 → us = us1) ∧ Sam t t1 ∧ (∀ a, (∀ v ∈ vs, A v = true → a ≠ cz v) → hget t1.h a = hget t.h a) ∧ (∀ a, hget t1.h a = none → hget t.h a = none) ∧ ∀ i (hi : i < vs.length), A vs[i] = true → hget t1.h (cz vs[i]) = some (cloV e (ls[i]'(by omega)), false)
 | [], ls, t, us, c, t', hl, _, _, _, _, _, h, _ => by
  have : fixO A [] ls o = o := by cases ls <;> rfl
  rw [this] at h
  exact ⟨t, us, h, fun _ => rfl, Sam.refl _, fun _ _ => rfl, fun _ h => h, fun i hi => absurd hi (Nat.not_lt_zero _)⟩
 | v :: vs, [], t, us, c, t', hl, _, _, _, _, _, h, _ => by simp at hl
 | v :: vs, x :: ls, t, us, c, t', hl, hnd, hL, hD, hdc, hci, h, hc => by
  rw [List.nodup_cons] at hnd
  have hl' : vs.length ≤ ls.length := by simpa using hl
  have hL' : ∀ i (hi : i < vs.length), isL (ls[i]'(by omega)) := fun i hi => hL (i + 1) (by simpa using hi)
  have hdc' : ∀ u ∈ vs, ∀ v ∈ vs, A u = true → A v = true → ds u ≠ cz v := fun u hu v hv => hdc u (List.mem_cons_of_mem _ hu) v (List.mem_cons_of_mem _ hv)
  have hci' : ∀ u ∈ vs, ∀ v ∈ vs, A u = true → A v = true → cz u = cz v → u = v := fun u hu v hv => hci u (List.mem_cons_of_mem _ hu) v (List.mem_cons_of_mem _ hv)
  rw [fixO] at h
  by_cases hA : A v = true
  ·rw [if_pos hA] at h
   obtain ⟨d1, d2, y, d3⟩ := hD v (List.mem_cons_self ..) hA
   have hx : isL x := hL 0 (by simp)
   obtain ⟨v1, rfl, _, hg⟩ := h.ev_inv hc
   have key : ∀ {t1 : MSt} {us1 : List Vl} {c1 : Int} {t2 : MSt}, t1.h = hput t.h (cz v) (cloV e x) → Sam t t1 → Ev K (.ev (fixO A vs ls o) e) t1 us1 c1 t2 → c1 ≠ 8 → ∃ t3 us3, Ev K (.ev o e) t3 us3 c1 t2 ∧ (c1 = 0 → us1 = us3) ∧ Sam t t3 ∧ (∀ a, (∀ u ∈ v :: vs, A u = true → a ≠ cz u) → hget t3.h a = hget t.h a) ∧ (∀ a, hget t3.h a = none → hget t.h a = none) ∧ ∀ i (hi : i < (v :: vs).length), A (v :: vs)[i] = true → hget t3.h (cz (v :: vs)[i]) = some (cloV e ((x :: ls)[i]'(by omega)), false) := by
    intro t1 us1 c1 t2 ht1 hS h1 hc1
    obtain ⟨t3, us3, k1, k2, k3, k4, k6, k5⟩ := fixO_inv vs ls t1 us1 c1 t2 hl' hnd.2 hL' (fun u hu hAu => by
     obtain ⟨g1, g2, z, g3⟩ := hD u (List.mem_cons_of_mem _ hu) hAu
     refine ⟨g1, ?_, z, ?_⟩
     ·rw [ht1, hget_put_other (hdc u (List.mem_cons_of_mem _ hu) v (List.mem_cons_self ..) hAu hA)]
      exact g2
     ·rw [ht1, hget_put_other fun e => hnd.1 ((hci u (List.mem_cons_of_mem _ hu) v (List.mem_cons_self ..) hAu hA e) ▸ hu)]
      exact g3) hdc' hci' h1 hc1
    refine ⟨t3, us3, k1, k2, hS.trans k3, fun a ha => ?_, fun a ha => ?_, fun i hi hAi => ?_⟩
    ·rw [k4 a fun u hu => ha u (List.mem_cons_of_mem _ hu), ht1]
     exact hget_put_other (ha v (List.mem_cons_self ..) hA)
    ·have := k6 a ha
     rw [ht1] at this
     exact hput_none this
    ·match i, hi, hAi with
     | 0, _, _ =>
      rw [List.getElem_cons_zero, List.getElem_cons_zero, k4 _ fun u hu hAu e => hnd.1 ((hci v (List.mem_cons_self ..) u (List.mem_cons_of_mem _ hu) hA hAu e) ▸ hu), ht1]
      exact hget_put_same d3
     | i + 1, hi, hAi => exact k5 i (by simpa using hi) hAi
   have ho : (Trm.mk 6 0 [] [.mk 17 0 [] [refT v, x], fixO A vs ls o]).op = 6 := rfl
   have hall : ∀ {us1 : List Vl} {c1 : Int} {t2 : MSt}, Ev K (.all [.mk 17 0 [] [refT v, x], fixO A vs ls o] e) (lessM t) us1 c1 t2 → c1 ≠ 8 → ∃ t1 z, t1.h = hput t.h (cz v) (cloV e x) ∧ Sam t t1 ∧ ∃ us2, Ev K (.ev (fixO A vs ls o) e) t1 us2 c1 t2 ∧ (c1 = 0 → ∃ q, us2 = [q] ∧ us1 = [z, q]) := fun {us1 c1 t2} h1 hc1 => by
    rcases h1.all_inv with ⟨h0, _, h2⟩ | ⟨x1, s1, us2, h2, h3, h4⟩
    ·exact absurd (put_inv h2 hc1 hx d1 d2 d3).1 h0
    ·obtain ⟨_, p2, p3⟩ := put_inv h2 (by decide) hx d1 d2 d3
     have p2' : Sam t s1 := p2
     refine ⟨s1, x1, p3, p2', ?_⟩
     rcases h3.all_inv with ⟨h0, z, h5⟩ | ⟨x2, s2, us3, h5, h6, h7⟩
     ·exact ⟨_, h5, fun h => absurd h h0⟩
     ·obtain ⟨rfl, rfl, rfl⟩ := h6.nil_inv
      exact ⟨_, h5, fun _ => ⟨x2, rfl, by rw [h4 rfl, h7 rfl]⟩⟩
   rcases hg.st_inv (by omega) with ⟨h0, e1, us1, h1⟩ | ⟨v', us1, s1, e1, h1, h2⟩
   ·obtain ⟨t1, z, m1, m2, us2, m3, _⟩ := hall h1 hc
    obtain ⟨t3, us3, k1, _, k⟩ := key m1 m2 m3 hc
    exact ⟨t3, us3, k1, fun h => absurd h h0, k⟩
   ·injection e1 with e1 _
    subst e1
    obtain ⟨t1, z, m1, m2, us2, m3, m4⟩ := hall h1 (by decide)
    obtain ⟨q, rfl, rfl⟩ := m4 rfl
    generalize hLL : [z, q] = LL at h2
    cases h2 with
    | seq o' =>
     have e3 := (List.append_inj' (s₁ := [z]) (t₁ := [q]) hLL rfl).2
     injection e3 with e3 _
     subst e3
     obtain ⟨t3, us3, k1, k2, k⟩ := key m1 m2 m3 (by decide)
     exact ⟨t3, us3, k1, k2, k⟩
    | put o => rw [ho] at o; exact absurd o (by decide)
    | bad o => rw [ho] at o; exact absurd o (by decide)
    | putE o => exact absurd (ho.symm.trans o) (by decide)
    | box o => exact absurd (ho.symm.trans o) (by decide)
    | prm o => exact absurd (ho.symm.trans o) (by decide)
    | app o => exact absurd (ho.symm.trans o) (by decide)
    | chk o => exact absurd (ho.symm.trans o) (by decide)
    | chkE o => exact absurd (ho.symm.trans o) (by decide)
    | get o => exact absurd (ho.symm.trans o) (by decide)
    | stC o => rw [ho] at o; exact absurd o (by decide)
    | stX o => rw [ho] at o; exact absurd o (by decide)
  ·rw [if_neg hA] at h
   obtain ⟨t3, us3, k1, k2, k3, k4, k6, k5⟩ := fixO_inv vs ls t us c t' hl' hnd.2 hL' (fun u hu => hD u (List.mem_cons_of_mem _ hu)) hdc' hci' h hc
   refine ⟨t3, us3, k1, k2, k3, fun a ha => k4 a fun u hu => ha u (List.mem_cons_of_mem _ hu), k6, fun i hi hAi => ?_⟩
   match i, hi, hAi with
   | 0, _, hAi => exact absurd hAi hA
   | i + 1, hi, hAi => exact k5 i (by simpa using hi) hAi
end Go.Cb
namespace Go.Cb
open Go.Proofs
set_option maxRecDepth 100000
set_option maxHeartbeats 4000000
theorem fixT_at {A : Int → Bool} : ∀ {vs : List Int} {ls : List Trm}, vs.length ≤ ls.length → (fixT A vs ls).length = (vs.filter fun v => !A v).length ∧ (∀ x ∈ fixT A vs ls, x ∈ ls.take vs.length) ∧
  ∀ i (hi : i < vs.length) (hl : i < ls.length), A vs[i] = false → ∃ j, ∃ hj : j < (vs.filter fun v => !A v).length, ∃ hb : j < (fixT A vs ls).length, (vs.filter fun v => !A v)[j] = vs[i] ∧ (fixT A vs ls)[j] = ls[i]
 | [], ls, _ => by
  have : fixT A [] ls = [] := by cases ls <;> rfl
  rw [this]
  exact ⟨rfl, fun x hx => (by cases hx), fun i hi => absurd hi (Nat.not_lt_zero _)⟩
 | v :: vs, [], hl => by simp at hl
 | v :: vs, x :: ls, hl => by
  obtain ⟨h1, h2, h3⟩ := fixT_at (A := A) (vs := vs) (ls := ls) (by simpa using hl)
  rw [fixT]
  by_cases hA : A v = true
  ·rw [if_pos hA, List.filter_cons_of_neg (by simp [hA])]
   refine ⟨h1, fun y hy => ?_, fun i hi hl hAi => ?_⟩
   ·rw [List.length_cons, List.take_succ_cons]
    exact List.mem_cons_of_mem _ (h2 y hy)
   ·match i, hi, hl, hAi with
    | 0, _, _, hAi => exact absurd hA (by rw [show A v = false from hAi]; decide)
    | i + 1, hi, hl, hAi => exact h3 i (by simpa using hi) (by simpa using hl) hAi
  ·rw [if_neg hA, List.filter_cons_of_pos (by simpa using hA)]
   refine ⟨by rw [List.length_cons, List.length_cons, h1], fun y hy => ?_, fun i hi hl hAi => ?_⟩
   ·rw [List.length_cons, List.take_succ_cons]
    rcases List.mem_cons.1 hy with rfl | hy
    ·exact List.mem_cons_self ..
    ·exact List.mem_cons_of_mem _ (h2 y hy)
   ·match i, hi, hl, hAi with
    | 0, _, _, _ => exact ⟨0, by simp, by simp, rfl, rfl⟩
    | i + 1, hi, hl, hAi =>
     obtain ⟨j, hj, hb, e1, e2⟩ := h3 i (by simpa using hi) (by simpa using hl) hAi
     exact ⟨j + 1, by simpa using hj, by simpa using hb, e1, e2⟩
structure FixR (A : Int → Bool) (e' E2 : EnvM) (g0 : Hp) (R : Hp) (vs : List Int) (ls : List Trm) (D cz : Int → Nat) : Prop where
 ll : vs.length ≤ ls.length
 out : ∀ u, u ∉ vs → fndM E2 u = fndM e' u
 fnd : ∀ v ∈ vs, fndM E2 v = some (D v) ∧ hget g0 (D v) = none
 no : ∀ i (hi : i < vs.length), A vs[i] = false → hget R (D vs[i]) = some (cloV E2 (ls[i]'(by omega)), false)
 yes : ∀ i (hi : i < vs.length), A vs[i] = true → hget R (D vs[i]) = some (boxV (cz vs[i]), false) ∧ hget R (cz vs[i]) = some (cloV E2 (ls[i]'(by omega)), false) ∧ hget g0 (cz vs[i]) = none
 dD : ∀ u ∈ vs, ∀ v ∈ vs, D u = D v → u = v
 dc : ∀ u ∈ vs, ∀ v ∈ vs, A u = true → A v = true → cz u = cz v → u = v
 dx : ∀ u ∈ vs, ∀ v ∈ vs, A v = true → D u ≠ cz v
theorem fixT_inv {A : Int → Bool} {K : List Vl} {e' : EnvM} {vs : List Int} {n : Int} {l : List Trm} {b : Trm} {r : MSt} {us : List Vl} {c : Int} {r' : MSt} (hnd : vs.Nodup) (hl : l.length = vs.length) (hL : ∀ x ∈ l, isL x) (hc : c ≠ 8) (hA : vs.any A = true)
  (h : Ev K (.go (fixR A vs (l ++ [b])) e') r us c r') : ∃ E2 r3 us3 D cz, Ev K (.ev b E2) r3 us3 c r' ∧ (c = 0 → us = us3) ∧ Sam r r3 ∧ HLe r.h r3.h ∧ FixR A e' E2 r.h r3.h vs l D cz := by
 unfold fixR at h
 have hfx := fixT_at (A := A) (vs := vs) (ls := l ++ [b]) (by rw [List.length_append]; omega)
 obtain ⟨f1, f2, f3⟩ := hfx
 have hLx : ∀ x ∈ fixT A vs (l ++ [b]), isL x := fun x hx => by
  have := f2 x hx
  rw [List.take_left' hl] at this
  exact hL x this
 obtain ⟨nN, hnN⟩ : ∃ nN, nN = vs.filter fun v => !A v := ⟨_, rfl⟩
 have hAd : (vs.filter A).Nodup := hnd.filter A
 have hNd : nN.Nodup := by rw [hnN]; exact hnd.filter _
 rcases h.let_inv rfl rfl with ⟨h0, _, us1, h1⟩ | ⟨v1, us1, r1, dz, rfl, h1, _, hdz, h2⟩
 ·exact absurd (uns_inv _ _ _ _ _ h1 hc).1 h0
 have hdz' : dz.length = (vs.filter A).length := hdz
 obtain ⟨_, k1, k2, cl, k3, rfl, k4, k5⟩ := uns_inv _ _ _ _ _ h1 (by decide)
 have hdl : dz.length = (cl.map boxV).length := by rw [List.length_map, k3]; exact hdz'
 obtain ⟨_, _, hd2, _⟩ := h2.ev_inv hc
 obtain ⟨n1, n2, n3, n4⟩ := hpM_new hdl hd2
 obtain ⟨e2, he2⟩ : ∃ e2, e2 = extM e' (vs.filter A) dz := ⟨_, rfl⟩
 obtain ⟨r2, hr2⟩ : ∃ r2, r2 = addM r1 (hpM r1.h (cl.map boxV) dz) := ⟨_, rfl⟩
 have hr2h : r2.h = hpM r1.h (cl.map boxV) dz := by rw [hr2]
 have k12 : Sam r r2 := by rw [hr2]; exact k1.trans ⟨rfl, rfl, rfl, rfl⟩
 have hH2 : HLe r.h r2.h := by rw [hr2h]; exact k2.trans n1
 have mid : ∃ E2 r3 us3, Ev K (.ev (fixO A vs (l ++ [b]) b) E2) r3 us3 c r' ∧ (c = 0 → [v1] = us3) ∧ Sam r2 r3 ∧ HLe r2.h r3.h ∧ (∀ u, u ∉ nN → fndM E2 u = fndM e2 u) ∧ ∃ bz : List Nat, ∃ hbz : bz.length = nN.length, bz.Nodup ∧ (∀ a ∈ bz, hget r2.h a = none) ∧
   ∀ j (hj : j < nN.length) (hj' : j < (fixT A vs (l ++ [b])).length), fndM E2 nN[j] = some (bz[j]'(by omega)) ∧ hget r3.h (bz[j]'(by omega)) = some (cloV E2 (fixT A vs (l ++ [b]))[j], false) := by
  have hg : (l ++ [b]).getD vs.length (refT 0) = b := by
   rw [getD_at (by rw [List.length_append, hl]; exact Nat.lt_succ_self _), List.getElem_append_right (by omega)]
   simp [hl]
  have h2' : Ev K (.ev (fixE A vs (l ++ [b])) e2) r2 [v1] c r' := by rw [he2, hr2]; exact h2
  unfold fixE at h2'
  dsimp only at h2'
  rw [hg, ← hnN] at h2'
  by_cases h0 : nN = []
  ·rw [if_pos h0] at h2'
   exact ⟨e2, r2, _, h2', fun _ => rfl, Sam.refl _, HLe.refl _, fun _ _ => rfl, [], by rw [h0]; rfl, List.nodup_nil, fun a ha => (by cases ha), fun j hj => by rw [h0] at hj; exact absurd hj (Nat.not_lt_zero _)⟩
  ·rw [if_neg h0] at h2'
   obtain ⟨v2, e3, _, hgo⟩ := h2'.ev_inv hc
   injection e3 with e3 _
   subst e3
   obtain ⟨bz, v3, r3, hbz, _, e4, h3, _, m1, m2, m3, m4, m5⟩ := fix_inv hgo hc rfl (l := fixT A vs (l ++ [b])) rfl hLx hNd
   have hbz' : bz.length = nN.length := hbz
   exact ⟨_, r3, _, h3, fun _ => e4, (Sam.less r2).trans m1, m2, fun u hu => ext_other hu, bz, hbz', m3, m4, fun j hj hj' => ⟨ext_get hNd hbz' j hj (by omega), m5 j hj⟩⟩
 obtain ⟨E2, r3, us3, h3, hus, q1, q2, q3, bz, hbz, q4, q5, q6⟩ := mid
 obtain ⟨D, hD⟩ : ∃ D : Int → Nat, D = fun v => (fndM E2 v).getD 0 := ⟨_, rfl⟩
 obtain ⟨cz, hcz⟩ : ∃ cz : Int → Nat, cz = fun v => (((hget r3.h (D v)).getD (zerV, false)).1.c).getD 0 := ⟨_, rfl⟩
 have asg : ∀ v ∈ vs, A v = true → ∃ j, ∃ hj : j < dz.length, ∃ hk : j < cl.length, fndM E2 v = some dz[j] ∧ D v = dz[j] ∧ cz v = cl[j] ∧ hget r3.h dz[j] = some (boxV cl[j], false) ∧ hget r3.h cl[j] = some (kndV 12, false) ∧ hget r.h dz[j] = none ∧ hget r.h cl[j] = none ∧ hget r1.h dz[j] = none ∧ hget r1.h cl[j] = some (kndV 12, false) ∧ hget r2.h dz[j] = some (boxV cl[j], false) ∧ ∃ hf : j < (vs.filter A).length, (vs.filter A)[j] = v := fun v hv hAv => by
  obtain ⟨j, hj, e1⟩ := List.mem_iff_getElem.1 (List.mem_filter.2 ⟨hv, hAv⟩)
  have hnv : v ∉ nN := fun h => by rw [hnN] at h; have := (List.mem_filter.1 h).2; rw [hAv] at this; cases this
  have f0 : fndM E2 v = some (dz[j]'(by omega)) := by
   rw [q3 v hnv, he2, ← e1]
   exact ext_get hAd hdz' j hj (by omega)
  have g0 : hget r2.h (dz[j]'(by omega)) = some (boxV (cl[j]'(by omega)), false) := by
   rw [hr2h, n4 j (by rw [List.length_map]; omega) (by omega), List.getElem_map]
  have d0 : D v = dz[j]'(by omega) := by rw [hD]; dsimp only; rw [f0]; rfl
  have c0 : cz v = cl[j]'(by omega) := by rw [hcz]; dsimp only; rw [d0, q2.get g0]; rfl
  obtain ⟨u1, u2⟩ := k5 (cl[j]'(by omega)) (List.getElem_mem _)
  have fr := n3 (dz[j]'(by omega)) (List.getElem_mem _)
  exact ⟨j, by omega, by omega, f0, d0, c0, q2.get g0, q2.get (by rw [hr2h]; exact n1.get u2), k2.dom fr, u1, fr, u2, g0, hj, e1⟩
 have una : ∀ i (hi : i < vs.length), A vs[i] = false → ∃ j, ∃ hj : j < bz.length, fndM E2 vs[i] = some bz[j] ∧ D vs[i] = bz[j] ∧ hget r3.h bz[j] = some (cloV E2 (l[i]'(by omega)), false) ∧ hget r2.h bz[j] = none ∧ ∃ hf : j < nN.length, nN[j] = vs[i] := fun i hi hAi => by
  obtain ⟨j, hj, hb, e1, e2⟩ := f3 i hi (by rw [List.length_append]; omega) hAi
  have hj' : j < nN.length := by rw [hnN]; exact hj
  have e1' : nN[j] = vs[i] := by simp only [hnN]; exact e1
  obtain ⟨u1, u2⟩ := q6 j hj' hb
  rw [e1'] at u1
  rw [e2, List.getElem_append_left (by omega)] at u2
  refine ⟨j, by omega, u1, ?_, u2, q5 _ (List.getElem_mem _), hj', e1'⟩
  rw [hD]
  dsimp only
  rw [u1]
  rfl
 have unv : ∀ v ∈ vs, A v = false → ∃ j, ∃ hj : j < bz.length, fndM E2 v = some bz[j] ∧ D v = bz[j] ∧ hget r2.h bz[j] = none ∧ ∃ hf : j < nN.length, nN[j] = v := fun v hv hAv => by
  obtain ⟨i, hi, rfl⟩ := List.mem_iff_getElem.1 hv
  obtain ⟨j, hj, a1, a2, _, a4, a5⟩ := una i hi hAv
  exact ⟨j, hj, a1, a2, a4, a5⟩
 have dD : ∀ u ∈ vs, ∀ v ∈ vs, D u = D v → u = v := fun u hu v hv he => by
  cases hAu : A u with
  | true =>
   obtain ⟨j, hj, hk, _, a2, _, _, _, _, _, _, _, a8, hf, a9⟩ := asg u hu hAu
   cases hAv : A v with
   | true =>
    obtain ⟨j', hj', hk', _, b2, _, _, _, _, _, _, _, _, hf', b9⟩ := asg v hv hAv
    rw [a2, b2] at he
    have := (List.getElem_inj n2).1 he
    subst this
    exact a9.symm.trans b9
   | false =>
    obtain ⟨j', hj', _, b2, b3, _⟩ := unv v hv hAv
    rw [← b2, ← he, a2, a8] at b3
    cases b3
  | false =>
   obtain ⟨j, hj, _, a2, a3, hf, a9⟩ := unv u hu hAu
   cases hAv : A v with
   | true =>
    obtain ⟨j', hj', hk', _, b2, _, _, _, _, _, _, _, b8, _⟩ := asg v hv hAv
    rw [← a2, he, b2, b8] at a3
    cases a3
   | false =>
    obtain ⟨j', hj', _, b2, _, hf', b9⟩ := unv v hv hAv
    rw [a2, b2] at he
    have := (List.getElem_inj q4).1 he
    subst this
    exact a9.symm.trans b9
 have dc : ∀ u ∈ vs, ∀ v ∈ vs, A u = true → A v = true → cz u = cz v → u = v := fun u hu v hv hAu hAv he => by
  obtain ⟨j, hj, hk, _, _, a3, _, _, _, _, _, _, _, hf, a9⟩ := asg u hu hAu
  obtain ⟨j', hj', hk', _, _, b3, _, _, _, _, _, _, _, hf', b9⟩ := asg v hv hAv
  rw [a3, b3] at he
  have := (List.getElem_inj k4).1 he
  subst this
  exact a9.symm.trans b9
 have dx : ∀ u ∈ vs, ∀ v ∈ vs, A v = true → D u ≠ cz v := fun u hu v hv hAv he => by
  obtain ⟨j', hj', hk', _, b2, b3, _, _, _, _, b7, b8, _⟩ := asg v hv hAv
  cases hAu : A u with
  | true =>
   obtain ⟨j, hj, hk, _, a2, _, _, _, _, _, a7, _⟩ := asg u hu hAu
   rw [a2, b3] at he
   rw [he, b8] at a7
   cases a7
  | false =>
   obtain ⟨j, hj, _, a2, a3, _⟩ := unv u hu hAu
   rw [a2, b3] at he
   rw [he, hr2h, n1.get b8] at a3
   cases a3
 have hlb : vs.length ≤ (l ++ [b]).length := by rw [List.length_append]; omega
 obtain ⟨r4, us4, h4, p1, p2, p3, p5, p4⟩ := fixO_inv (ds := D) (cz := cz) vs (l ++ [b]) r3 us3 c r' hlb hnd (fun i hi => by rw [List.getElem_append_left (by omega)]; exact hL _ (List.getElem_mem _))
  (fun v hv hAv => by
   obtain ⟨j, hj, hk, a1, a2, a3, a4, a5, _⟩ := asg v hv hAv
   rw [a2, a3]
   exact ⟨a1, a4, _, a5⟩) (fun u hu v hv _ hAv => dx u hu v hv hAv) dc h3 hc
 have hnew : ∀ v ∈ vs, A v = true → hget r.h (cz v) = none := fun v hv hAv => by
  obtain ⟨j, hj, hk, _, _, a3, _, _, _, a6, _⟩ := asg v hv hAv
  rw [a3]
  exact a6
 refine ⟨E2, r4, us4, D, cz, h4, fun h0 => (hus h0).trans (p1 h0), (k12.trans q1).trans p2, fun a x q hq => ?_, ?_⟩
 ·rw [p3 a fun v hv hAv e => by rw [e, hnew v hv hAv] at hq; cases hq]
  exact q2.get (hH2.get hq)
 refine ⟨by omega, fun u hu => ?_, fun v hv => ?_, fun i hi hAi => ?_, fun i hi hAi => ?_, dD, dc, dx⟩
 ·rw [q3 u fun h => hu (by rw [hnN] at h; exact (List.mem_filter.1 h).1), he2]
  exact ext_other fun h => hu (List.mem_filter.1 h).1
 ·cases hAv : A v with
  | true =>
   obtain ⟨j, hj, hk, a1, a2, _, _, _, a5, _⟩ := asg v hv hAv
   rw [a2]
   exact ⟨a1, a5⟩
  | false =>
   obtain ⟨j, hj, a1, a2, a3, _⟩ := unv v hv hAv
   rw [a2]
   exact ⟨a1, hH2.dom a3⟩
 ·obtain ⟨j, hj, a1, a2, a3, _⟩ := una i hi hAi
  rw [p3 _ fun v hv hAv => dx _ (List.getElem_mem _) v hv hAv, a2]
  exact a3
 ·obtain ⟨j, hj, hk, a1, a2, a3, a4, _⟩ := asg _ (List.getElem_mem hi) hAi
  have h5 := p4 i hi hAi
  rw [List.getElem_append_left (by omega)] at h5
  refine ⟨?_, h5, hnew _ (List.getElem_mem _) hAi⟩
  rw [p3 _ fun v hv hAv => dx _ (List.getElem_mem _) v hv hAv, a2, a3]
  exact a4
theorem fixP_inv {A : Int → Bool} {K : List Vl} {e' : EnvM} {vs : List Int} {n : Int} {l : List Trm} {b : Trm} {r : MSt} {us : List Vl} {c : Int} {r' : MSt} (hnd : vs.Nodup) (hl : l.length = vs.length) (hL : ∀ x ∈ l, isL x) (hc : c ≠ 8) (hA : ∀ v ∈ vs, A v = false)
  (h : Ev K (.go (.mk 9 n vs (l ++ [b])) e') r us c r') : ∃ E2 r3 us3 D cz, Ev K (.ev b E2) r3 us3 c r' ∧ (c = 0 → us = us3) ∧ Sam r r3 ∧ HLe r.h r3.h ∧ FixR A e' E2 r.h r3.h vs l D cz := by
 obtain ⟨bz, v3, r3, hbz, _, e4, h3, _, m1, m2, m3, m4, m5⟩ := fix_inv h hc rfl rfl hL hnd
 have hbz' : bz.length = vs.length := hbz
 have hg : ∀ i (hi : i < vs.length), fndM (extM e' vs bz) vs[i] = some (bz[i]'(by omega)) := fun i hi => ext_get hnd hbz' i hi (by omega)
 have hD : ∀ i (hi : i < vs.length), (fndM (extM e' vs bz) vs[i]).getD 0 = bz[i]'(by omega) := fun i hi => by rw [hg i hi]; rfl
 refine ⟨extM e' vs bz, r3, _, fun v => (fndM (extM e' vs bz) v).getD 0, fun _ => 0, h3, fun _ => e4, m1, m2, by omega, fun u hu => ext_other hu, fun v hv => ?_, fun i hi _ => ?_, fun i hi hAi => ?_, fun u hu v hv he => ?_, fun u hu v hv hAu => ?_, fun u hu v hv hAv => ?_⟩
 ·obtain ⟨i, hi, rfl⟩ := List.mem_iff_getElem.1 hv
  rw [hD i hi]
  exact ⟨hg i hi, m4 _ (List.getElem_mem _)⟩
 ·rw [hD i hi]
  exact m5 i hi
 ·rw [hA _ (List.getElem_mem _)] at hAi
  cases hAi
 ·obtain ⟨i, hi, rfl⟩ := List.mem_iff_getElem.1 hu
  obtain ⟨j, hj, rfl⟩ := List.mem_iff_getElem.1 hv
  rw [hD i hi, hD j hj] at he
  have := (List.getElem_inj m3).1 he
  subst this
  rfl
 ·rw [hA _ hu] at hAu
  cases hAu
 ·rw [hA _ hv] at hAv
  cases hAv
theorem oneT : ∀ {l : List Trm}, l.length = 1 → ∃ x, l = [x]
 | [x], _ => ⟨x, rfl⟩
theorem fixA {A : Int → Bool} {cs : Int} {K : List Vl} {n : Int} (HS : HSa A cs K n) {w : Wd} {t : Trm} {e e' : EnvM} {scope : List Int} {k : Int} (hT : TOa A cs k t scope) (hE : ERa A w e e' scope) (ho : t.op = 9) : Sm (ACa A cs) K n w (.go t e) (.go (t.cv A k) e') := by
 intro w1 hw s r hV hn v c s' h1 v' c' r' h2 n1 n2
 have hcn : t.t.length = t.v.length + 1 := by
  obtain ⟨deep, hok⟩ := hT.ok
  rw [Trm.okT_eq] at hok
  have hs := hok.1.2.2.1
  unfold countsL at hs
  split at hs
  ·cases hs
  ·rw [if_neg (by omega), if_neg (by omega), if_neg (by omega), if_neg (by omega), if_neg (by omega), if_pos (by omega)] at hs
   simp at hs
   omega
 have hsp : t.t = t.t.take t.v.length ++ [t.t[t.v.length]'(by omega)] := by
  have : t.t.take (t.v.length + 1) = t.t := List.take_of_length_le (by omega)
  rw [← List.take_succ_eq_append_getElem (by omega), this]
 obtain ⟨l, hl⟩ : ∃ l, l = t.t.take t.v.length := ⟨_, rfl⟩
 obtain ⟨b, hb⟩ : ∃ b, b = t.t[t.v.length]'(by omega) := ⟨_, rfl⟩
 have hll : l.length = t.v.length := by rw [hl, List.length_take]; omega
 rw [← hl, ← hb] at hsp
 have hTb : TOa A cs k b (scope ++ t.v) := by
  have := hT.sub (i := t.v.length) (by omega)
  rwa [if_pos (.inr (.inr ho)), ← hb] at this
 have hTl : ∀ i (hi : i < l.length), TOa A cs k l[i] (scope ++ t.v) ∧ isL l[i] := fun i hi => by
  have hi' : i < t.t.length := by rw [hsp, List.length_append]; omega
  have := hT.sub hi'
  rw [if_pos (.inr (.inr ho))] at this
  have e1 : t.t[i] = l[i] := by simp only [hsp, List.getElem_append_left hi]
  rw [e1] at this
  refine ⟨this, ?_⟩
  obtain ⟨deep, hok⟩ := hT.ok
  rw [Trm.okT_eq] at hok
  have h4 := (okTs_get hok.2 i hi').2 ho (by omega)
  rw [e1] at h4
  have h4' : l[i].op = 4 := h4
  refine ⟨h4', ?_⟩
  obtain ⟨deep', hok'⟩ := this.ok
  rw [Trm.okT_eq] at hok'
  have hs := hok'.1.2.2.1
  unfold countsL at hs
  split at hs
  ·cases hs
  ·rw [if_neg (by omega), if_pos (by omega)] at hs
   simp at hs
   exact oneT (by omega)
 have hvv := t.vars_eq
 have hnd : t.v.Nodup := by
  have := hT.nd
  rw [hvv] at this
  exact (List.nodup_append.1 this).1
 have hvs : ∀ v ∈ t.v, v ∉ scope := fun v hv => hT.ap v (by rw [hvv]; exact List.mem_append_left _ hv)
 have hLs : ∀ x ∈ l, isL x := fun x hx => by
  obtain ⟨i, hi, rfl⟩ := List.mem_iff_getElem.1 hx
  exact (hTl i hi).2
 have hcl : (Trm.cvs A l k).length = t.v.length := by rw [Trm.cvs_length, hll]
 have hget' : ∀ i (hi : i < l.length), (Trm.cvs A l k)[i]'(by omega) = (l[i]).cv A (k + Trm.frs A (l.take i)) := fun i hi => Trm.cvs_get A l k i hi
 have hLt : ∀ x ∈ Trm.cvs A l k, isL x := fun x hx => by
  obtain ⟨i, hi, rfl⟩ := List.mem_iff_getElem.1 hx
  have hi' : i < l.length := by omega
  obtain ⟨h4, b1, hb1⟩ := (hTl i hi').2
  rw [hget' i hi', cv_lam h4 hb1]
  exact ⟨rfl, _, rfl⟩
 have hcvs : Trm.cvs A t.t k = Trm.cvs A l k ++ [b.cv A (k + Trm.frs A l)] := by rw [hsp, cvs_snoc]
 have tgt : ∃ E2 r3 us3 D cz, Ev K (.ev (b.cv A (k + Trm.frs A l)) E2) r3 us3 c' r' ∧ (c' = 0 → v' = us3) ∧ Sam r r3 ∧ HLe r.h r3.h ∧ FixR A e' E2 r.h r3.h t.v (Trm.cvs A l k) D cz := by
  rw [Trm.cv_eq, if_neg (by omega), if_neg (by omega), if_neg (by omega), if_neg (by omega)] at h2
  by_cases hA : t.v.any A = true
  ·rw [if_pos ⟨ho, hA⟩, hcvs] at h2
   exact fixT_inv (n := 0) hnd hcl hLt n2 hA h2
  ·rw [if_neg (fun h => hA h.2), if_neg (by omega), hcvs, ho] at h2
   refine fixP_inv hnd hcl hLt n2 (fun v hv => ?_) h2
   simp only [List.any_eq_true, not_exists, not_and] at hA
   simpa using hA v hv
 obtain ⟨E2, r3, us3, D, cz, h3, hus, m1, m2, hF⟩ := tgt
 obtain ⟨az, v3, s3, haz, _, rfl, h4, p0, p1, p2, p3, p4, p5⟩ := fix_inv h1 n1 ho hsp hLs hnd
 have hDm : ∀ i (hi : i < t.v.length), t.v.getD i 0 = t.v[i] := fun i hi => getD_at hi
 obtain ⟨w3, l1, l2, l3, l4⟩ := linkA (e1 := extM e t.v az) (e2 := E2) (vs := t.v) (s := s3) (t := r3) hV (Fr.refl _ _ _) p1 m1 p2 m2 (hE.up hw) az haz p3 (l.map fun x => cloV (extM e t.v az) x) (by rw [List.length_map]; exact hll)
  (fun i => if A (t.v.getD i 0) = true then cz (t.v.getD i 0) else D (t.v.getD i 0)) (fun i => D (t.v.getD i 0)) (fun i => cloV E2 ((Trm.cvs A l k).getD i (refT 0)))
  (fun i hi => by
   rw [List.getElem_map]
   exact ⟨p5 i hi, p4 _ (List.getElem_mem _)⟩)
  (fun i hi => by
   rw [hDm i hi, getD_at (by omega)]
   cases hA : A t.v[i] with
   | true =>
    rw [if_pos rfl]
    obtain ⟨_, y2, y3⟩ := hF.yes i hi hA
    exact ⟨y2, y3, hV.noT y3⟩
   | false =>
    rw [if_neg (by decide)]
    have y1 := hF.no i hi hA
    have y3 := (hF.fnd _ (List.getElem_mem hi)).2
    exact ⟨y1, y3, hV.noT y3⟩)
  (fun i j hi hj he => by
   rw [hDm i hi, hDm j hj] at he
   have hm := List.getElem_mem hi
   have hm' := List.getElem_mem hj
   have : t.v[i] = t.v[j] := by
    cases hA : A t.v[i] with
    | true =>
     cases hA' : A t.v[j] with
     | true => rw [hA, hA', if_pos rfl, if_pos rfl] at he; exact hF.dc _ hm _ hm' hA hA' he
     | false => rw [hA, hA', if_pos rfl, if_neg (by decide)] at he; exact absurd he.symm (hF.dx _ hm' _ hm hA)
    | false =>
     cases hA' : A t.v[j] with
     | true => rw [hA, hA', if_pos rfl, if_neg (by decide)] at he; exact absurd he (hF.dx _ hm _ hm' hA')
     | false => rw [hA, hA', if_neg (by decide), if_neg (by decide)] at he; exact hF.dD _ hm _ hm' he
   exact (List.getElem_inj hnd).1 this)
  (fun i hi hA => by
   rw [hDm i hi, hA, if_pos rfl]
   obtain ⟨y1, _, _⟩ := hF.yes i hi hA
   refine ⟨y1, (hF.fnd _ (List.getElem_mem hi)).2, fun j hj => ?_⟩
   rw [hDm j hj]
   cases hA' : A t.v[j] with
   | true => rw [if_pos rfl]; exact hF.dx _ (List.getElem_mem hi) _ (List.getElem_mem hj) hA'
   | false =>
    rw [if_neg (by decide)]
    intro he
    have := hF.dD _ (List.getElem_mem hi) _ (List.getElem_mem hj) he
    rw [← this, hA] at hA'
    cases hA')
  (fun i hi => ext_get hnd haz i hi (by omega)) (fun u hu => ext_other fun h => hvs u h hu)
  (fun i hi hA => by
   rw [hDm i hi, hA, if_neg (by decide)]
   exact (hF.fnd _ (List.getElem_mem hi)).1)
  (fun i hi hA => by
   rw [hDm i hi]
   exact (hF.fnd _ (List.getElem_mem hi)).1)
  (fun u hu => hF.out u fun h => hvs u h hu)
  (fun w' hw' hE' i hi => by
   have hi' : i < l.length := by omega
   rw [List.getElem_map, getD_at (by omega), hget' i hi']
   obtain ⟨hTi, h4, b1, hb1⟩ := hTl i hi'
   rw [cv_lam h4 hb1]
   unfold cloV
   refine (VR_eq _ _).2 ⟨⟨rfl, rfl, rfl, rfl⟩, VRs_nil.2 rfl, fun _ => ⟨_, _, rfl, rfl, ?_⟩, fun h => absurd (show (8 : Int) = 11 from h) (by decide)⟩
   refine ⟨l[i], b1, scope ++ t.v, k + Trm.frs A (l.take i), h4, hb1, hTi.up (by have := (Trm.frs_bd A (l.take i)).1; omega), rfl, rfl, ?_, rfl, rfl, rfl, hE'⟩
   dsimp only
   rw [hb1]
   rfl)
 obtain ⟨r1, r2, r3, r4, r5⟩ := Rs.back l1 l3 (HS w3 b _ _ _ ⟨scope ++ t.v, k + Trm.frs A l, hTb.up (by have := (Trm.frs_bd A l).1; omega), rfl, l4⟩ w3 w3.refl _ _ l2 (Int.le_trans p0 hn) _ _ _ h4 _ _ _ h3 n1 n2)
 exact ⟨r1, r2, r3, r4, r5.1, fun h0 => by rw [hus (r1.trans h0)]; exact r5.2 h0⟩
end Go.Cb
namespace Go.Cb
open Go.Proofs
set_option maxRecDepth 100000
set_option maxHeartbeats 4000000
theorem hpE_box {h : Hp} {a : Nat} {x : Vl} {r : Bool} (hg : hget h a = some (x, r)) : ∃ put, PickBox (hpE h) a (celC x r) put ∧ ∀ y, put (celC y r) = hpE (hput h a y) := by
 obtain ⟨h1, h2, e1, e2⟩ := hget_split hg
 refine ⟨fun cs' => hpE h1 ++ .box a cs' :: hpE h2, ⟨hpE h1, hpE h2, by rw [e1, hpE, List.map_append]; rfl, fun _ => rfl⟩, fun y => ?_⟩
 rw [e2]
 simp only [hpE, List.map_append, List.map_cons]
theorem hpE_cons (a : Nat) (x : Vl) (r : Bool) (h : Hp) : hpE ((a, x, r) :: h) = .box a (celC x r) :: hpE h := rfl
theorem noE {p q : Prop} {r : Bool} (hu : r = true ∨ p) (hk : q) (hc : r = false ∧ ¬p ∨ ¬q) : False := by
 rcases hc with ⟨h3, h4⟩ | h3
 ·rcases hu with h1 | h1
  ·rw [h1] at h3
   cases h3
  ·exact h4 h1
 ·exact h3 hk
theorem PRet.ghM {x : PV} {Γ Γ' : List Ent} {Q : PV → List Ent → Prop} (hg : Ghost Γ Γ') (h : PRet x Γ' Q) : PRet x Γ Q := by
 obtain ⟨y, Γ2, h1, h2⟩ := h
 exact ⟨y, Γ2, Shift.trans (fun w0 F M w v hS hx => by
  obtain ⟨F', g1, g2⟩ := hg w0 F M w hS
  exact ⟨F', g1, g2, Rep.mono g1 x v hx⟩) h1, h2⟩
section
variable (b : Nat) (K : List Vl) (tk : Tok) (s : MSt) (t : Trm) (e : EnvM)
theorem drMr07aa {p q : Prop} (k : q) (h : q → p := by intro hq; first | exact PDraw.sP (some 109) rfl [] [9] tt_ok mixed hq | exact PDraw.sP (some 139) rfl [] [] tt_ok mixed hq) : p := h k
theorem str6_c (ho : t.op = 6) (l : List Vl) (hl : 0 < l.length) (hm : l.length ≤ 1000000000) :
  ACall Tryz.prog 115 [.ptr b 0, .agg t.cells, .sl 7 (l.map Vl.pv) none, envPV e] (mcE b K tk s) (fun y Γ' => y = .tup [.agg (valC (l[l.length - 1]'(by omega))), .int .i64 0] ∧ Γ' = mcE b K tk s) := by
 refine ACall.of_body tt_ok Tryz.func115 rfl rfl (n := 173) rfl rfl ?_
 conv => whnf
 repeat' (first|refine aA2 ?_|((first|refine normN nC ?_|refine normN nD ?_|intro _);conv=>whnf)|(refine zX (fun hc=>?_) (fun hc=>?_)<;>(try simp only [SY] at hc)<;>first|omega|(conv=>whnf)))
 exact PRet.gen (y := .tup [.agg (valC (l[l.length - 1]'(by omega))), .int .i64 0]) (Γ' := mcE b K tk s) (Wk.refl _) ⟨rfl, rfl⟩
theorem str12_c (ho : t.op = 12) (l : List Vl) (hl : l.length = 1) (hx : ¬l[0].k = 12) :
  ACall Tryz.prog 115 [.ptr b 0, .agg t.cells, .sl 7 (l.map Vl.pv) none, envPV e] (mcE b K tk s) (fun y Γ' => y = .tup [.agg (valC (l[0]'(by omega))), .int .i64 0] ∧ Γ' = mcE b K tk s) := by
 refine ACall.of_body tt_ok Tryz.func115 rfl rfl (n := 173) rfl rfl ?_
 conv => whnf
 repeat' (first|refine aA2 ?_|((first|refine normN nC ?_|refine normN nD ?_|intro _);conv=>whnf)|(refine zX (fun hc=>?_) (fun hc=>?_)<;>(try simp only [SY] at hc)<;>first|omega|(conv=>whnf)))
 exact PRet.gen (y := .tup [.agg (valC (l[0]'(by omega))), .int .i64 0]) (Γ' := mcE b K tk s) (Wk.refl _) ⟨rfl, rfl⟩
theorem str12E_c (ho : t.op = 12) (l : List Vl) (hl : l.length = 1) (hx : l[0].k = 12) :
  ACall Tryz.prog 115 [.ptr b 0, .agg t.cells, .sl 7 (l.map Vl.pv) none, envPV e] (mcE b K tk s) (fun y Γ' => y = .tup [.agg (valC zerV), .int .i64 5] ∧ Γ' = mcE b K tk s) := by
 refine ACall.of_body tt_ok Tryz.func115 rfl rfl (n := 173) rfl rfl ?_
 conv => whnf
 repeat' (first|refine aA2 ?_|((intro _);conv=>whnf)|(refine zX (fun hc=>?_) (fun hc=>?_)<;>(try simp only [SY] at hc)<;>first|omega|(conv=>whnf)))
 exact PRet.gen (y := .tup [.agg (valC zerV), .int .i64 5]) (Γ' := mcE b K tk s) WkR.res ⟨rfl, rfl⟩
theorem strS_c (ho : t.op = 2 ∨ t.op = 14) (l : List Vl) (hl : l.length = 1) (y : Vl) (a : Nat) (r : Bool) (hf : fndM e t.n = some a) (hg : hget s.h a = some (y, r)) (hu : ¬((r = true ∨ t.op = 14) ∧ y.k = 12)) :
  ACall Tryz.prog 115 [.ptr b 0, .agg t.cells, .sl 7 (l.map Vl.pv) none, envPV e] (mcE b K tk s) (fun y Γ' => y = .tup [.agg (valC (kndV 5)), .int .i64 0] ∧ Γ' = mcE b K tk (addM s (hput s.h a (l[0]'(by omega))))) := by
 have hp := place_c e t.n a hf
 obtain ⟨put, hpb, hpu⟩ := hpE_box hg
 refine ACall.of_body tt_ok Tryz.func115 rfl rfl (n := 173) rfl rfl ?_
 conv => whnf
 repeat' (first|refine aA2 ?_|((first|refine normN nC ?_|refine normN nD ?_|refine pC (hp) wR ?_|intro _);conv=>whnf)|(refine zX (fun hc=>?_) (fun hc=>?_)<;>(try simp only [SY] at hc)<;>first|omega|(conv=>whnf)))
 all_goals first
  | exact absurd hc hu
  | (rw [hpu l[0]]; exact PRet.gen (y := .tup [.agg (valC (kndV 5)), .int .i64 0]) (Γ' := mcE b K tk (addM s (hput s.h a (l[0]'(by omega))))) WkR.res ⟨rfl, rfl⟩)
theorem strSE_c (ho : t.op = 2 ∨ t.op = 14) (l : List Vl) (hl : l.length = 1) (y : Vl) (a : Nat) (r : Bool) (hf : fndM e t.n = some a) (hg : hget s.h a = some (y, r)) (hu : r = true ∨ t.op = 14) (hk : y.k = 12) :
  ACall Tryz.prog 115 [.ptr b 0, .agg t.cells, .sl 7 (l.map Vl.pv) none, envPV e] (mcE b K tk s) (fun y Γ' => y = .tup [.agg (valC zerV), .int .i64 5] ∧ Γ' = mcE b K tk s) := by
 have hp := place_c e t.n a hf
 obtain ⟨put, hpb, hpu⟩ := hpE_box hg
 refine ACall.of_body tt_ok Tryz.func115 rfl rfl (n := 173) rfl rfl ?_
 conv => whnf
 repeat' (first|refine aA2 ?_|((first|refine normN nC ?_|refine normN nD ?_|refine pC (hp) wR ?_|intro _);conv=>whnf)|(refine zX (fun hc=>?_) (fun hc=>?_)<;>(try simp only [SY] at hc)<;>first|omega|(conv=>whnf)))
 all_goals first
  | exact (noE hu hk hc).elim
  | exact PRet.gen (y := .tup [.agg (valC zerV), .int .i64 5]) (Γ' := mcE b K tk s) WkR.res ⟨rfl, rfl⟩
theorem strB_c (ho : 16 ≤ t.op ∧ t.op ≤ 18) (l : List Vl) (hl : 0 < l.length) (hk : ¬l[0].k = 11) :
  ACall Tryz.prog 115 [.ptr b 0, .agg t.cells, .sl 7 (l.map Vl.pv) none, envPV e] (mcE b K tk s) (fun y Γ' => y = .tup [.agg (valC zerV), .int .i64 1] ∧ Γ' = mcE b K tk s) := by
 refine ACall.of_body tt_ok Tryz.func115 rfl rfl (n := 173) rfl rfl ?_
 conv => whnf
 repeat' (first|refine aA2 ?_|((intro _);conv=>whnf)|(refine zX (fun hc=>?_) (fun hc=>?_)<;>(try simp only [SY] at hc)<;>first|omega|(conv=>whnf)))
 all_goals exact PRet.gen (y := .tup [.agg (valC zerV), .int .i64 1]) (Γ' := mcE b K tk s) WkR.res ⟨rfl, rfl⟩
theorem strG_c (ho : t.op = 16) (l : List Vl) (hl : l.length = 1) (hk : l[0].k = 11) (y : Vl) (a : Nat) (r : Bool) (hf : l[0].c = some a) (hg : hget s.h a = some (y, r)) :
  ACall Tryz.prog 115 [.ptr b 0, .agg t.cells, .sl 7 (l.map Vl.pv) none, envPV e] (mcE b K tk s) (fun z Γ' => z = .tup [.agg (valC y), .int .i64 0] ∧ Γ' = mcE b K tk s) := by
 obtain ⟨put, hpb, hpu⟩ := hpE_box hg
 refine ACall.of_body tt_ok Tryz.func115 rfl rfl (n := 173) rfl rfl ?_
 conv => whnf
 repeat' (first|refine aA2 ?_|((intro _);conv=>whnf)|(refine zX (fun hc=>?_) (fun hc=>?_)<;>(try simp only [SY] at hc)<;>first|omega|(conv=>whnf)))
 rw [hf]
 conv => whnf
 repeat' (first|refine aA2 ?_|((first|refine normN nC ?_|refine normN nD ?_);conv=>whnf)|(refine zX (fun hc=>?_) (fun hc=>?_)<;>(try simp only [SY] at hc)<;>omega))
 all_goals exact PRet.gen (y := .tup [.agg (valC y), .int .i64 0]) (Γ' := mcE b K tk s) WkR.res ⟨rfl, rfl⟩
theorem strP_c (ho : t.op = 17 ∨ t.op = 18) (l : List Vl) (hl : l.length = 2) (hk : l[0].k = 11) (y : Vl) (a : Nat) (r : Bool) (hf : l[0].c = some a) (hg : hget s.h a = some (y, r)) (hu : ¬(t.op = 18 ∧ y.k = 12)) :
  ACall Tryz.prog 115 [.ptr b 0, .agg t.cells, .sl 7 (l.map Vl.pv) none, envPV e] (mcE b K tk s) (fun y Γ' => y = .tup [.agg (valC (kndV 5)), .int .i64 0] ∧ Γ' = mcE b K tk (addM s (hput s.h a (l[1]'(by omega))))) := by
 obtain ⟨put, hpb, hpu⟩ := hpE_box hg
 refine ACall.of_body tt_ok Tryz.func115 rfl rfl (n := 173) rfl rfl ?_
 conv => whnf
 repeat' (first|refine aA2 ?_|((intro _);conv=>whnf)|(refine zX (fun hc=>?_) (fun hc=>?_)<;>(try simp only [SY] at hc)<;>first|omega|(conv=>whnf)))
 all_goals
  rw [hf]
  conv => whnf
  repeat' (first|refine aA2 ?_|((refine drMr07aa ?_);conv=>whnf)|(refine zX (fun hc=>?_) (fun hc=>?_)<;>(try simp only [SY] at hc)<;>first|omega|(conv=>whnf)))
 all_goals try
  rw [hf]
  conv => whnf
  repeat' (first|refine aA2 ?_|((first|refine normN nC ?_|refine normN nD ?_);conv=>whnf)|(refine zX (fun hc=>?_) (fun hc=>?_)<;>(try simp only [SY] at hc)<;>omega))
 all_goals first
  | exact absurd hc hu
  | (rw [hpu l[1]]; exact PRet.gen (y := .tup [.agg (valC (kndV 5)), .int .i64 0]) (Γ' := mcE b K tk (addM s (hput s.h a (l[1]'(by omega))))) WkR.res ⟨rfl, rfl⟩)
theorem strX_c (ho : t.op = 15) (l : List Vl) (hl : l.length = 1) :
  ACall Tryz.prog 115 [.ptr b 0, .agg t.cells, .sl 7 (l.map Vl.pv) none, envPV e] (mcE b K tk s) (fun y Γ' => ∃ a, y = .tup [.agg (valC (.mk 11 0 0 [] [] none (some a))), .int .i64 0] ∧ Γ' = mcE b K tk (addM s ((a, l[0]'(by omega), false) :: s.h))) := by
 refine ACall.of_body tt_ok Tryz.func115 rfl rfl (n := 173) rfl rfl ?_
 conv => whnf
 repeat' (first|refine aA2 ?_|((intro _);conv=>whnf)|(refine zX (fun hc=>?_) (fun hc=>?_)<;>(try simp only [SY] at hc)<;>first|omega|(conv=>whnf)))
 all_goals
  rename_i b1
  refine PRet.ghM (Ghost.box (b := b1) (cs := [.int .i64 l[0].k, .int .i64 l[0].n, .int .i64 l[0].d, .str l[0].s, .sl 7 (l[0].l.map Vl.pv) none, cloPV l[0].p, cellPV l[0].c, .bfalse]) (cs' := celC l[0] false) wA) ?_
  exact PRet.gen (y := .tup [.agg (valC (.mk 11 0 0 [] [] none (some b1))), .int .i64 0]) (Γ' := mcE b K tk (addM s ((b1, l[0], false) :: s.h))) (hp := by dsimp only [mcE, addM]; rw [hpE_cons]; infer_instance) WkR.res ⟨b1, rfl, rfl⟩
end
end Go.Cb
namespace Go.Cb
open Go.Proofs
set_option maxRecDepth 100000
set_option maxHeartbeats 4000000
def RetR (b : Nat) (K : List Vl) (R : Vl → Int → MSt → Tok → Prop) (y : PV) (Γ' : List Ent) : Prop := ∃ x c s' tk', y = .tup [.agg (valC x), .int .i64 c] ∧ Γ' = mcE b K tk' s' ∧ R x c s' tk'
section
variable (b : Nat) (K : List Vl) (tk : Tok) (s : MSt) (R : Vl → Int → MSt → Tok → Prop)
theorem strA_c (t : Trm) (ho : t.op = 5) (e : EnvM) (l : List Vl) (hl : 0 < l.length)
  (hca : ACall Tryz.prog 140 [.ptr b 0, .agg (valC (l[0]'hl)), .sl 7 ((l.drop 1).map Vl.pv) none] (mcE b K tk s) (RetR b K R)) :
  ACall Tryz.prog 115 [.ptr b 0, .agg t.cells, .sl 7 (l.map Vl.pv) none, envPV e] (mcE b K tk s) (RetR b K R) := by
 refine ACall.of_body tt_ok Tryz.func115 rfl rfl (n := 173) rfl rfl ?_
 conv => whnf
 repeat' (first|refine aA2 ?_|((intro _);conv=>whnf)|(refine zX (fun hc=>?_) (fun hc=>?_)<;>(try simp only [SY] at hc)<;>first|omega|(conv=>whnf)))
 rename_i b5 b8 b10 _ _ _ _ _ _ _ _ _
 refine PDraw.tree tt_ok mixed [0, 0, 2, 6, 0, 16, 63, 127, 127, 511, 1023] [0, 1, 2, 3, 4, 5] [6, 7, 8, 9, 10] (.box b8 [.int .i64 0, .int .i64 0, .int .i64 0, .str [], .nil, .np, .np] :: .box b10 [.int .i64 5, .int .i64 0, .int .i64 0, .str [], .nil, .np, .np] :: .box b5 [.int .i64 t.op, .int .i64 t.n, .sl 1 (t.v.map (PV.int .i64)) none, .sl 4 (t.t.map Trm.pv) none] :: mcE b K tk s) ?_
 conv => whnf
 conv => whnf
 repeat' (first|((first|((apply zZ);exact tB)|(refine And.intro ?_ ?_));conv=>whnf)|(refine zX (fun hc=>?_) (fun hc=>?_)<;>(try simp only [SY] at hc)<;>omega))
 all_goals try exact trivial
 refine PCall.goT hca (WkT.refl _) ?_
 rintro _ _ ⟨x, c, s', tk', rfl, rfl, hq⟩
 conv => whnf
 repeat' (first|((first|refine aM ?_|(refine And.intro ?_ ?_)|refine normN nC ?_|refine normN nD ?_|refine appN ?_|refine aF ?_);conv=>whnf)|(refine zX (fun hc=>?_) (fun hc=>?_)<;>(try simp only [SY] at hc)<;>omega))
 all_goals try exact trivial
 all_goals exact PRet.gen (y := .tup [.agg (valC x), .int .i64 c]) (Γ' := mcE b K tk' s') (Wk.refl _) ⟨x, c, s', tk', rfl, rfl, hq⟩
theorem strM_c (t : Trm) (ho : t.op = 10) (e : EnvM) (l : List Vl)
  (hca : ACall Tryz.prog 141 [.ptr b 0, .int .i64 t.n, .sl 7 (l.map Vl.pv) none] (mcE b K tk s) (RetR b K R)) :
  ACall Tryz.prog 115 [.ptr b 0, .agg t.cells, .sl 7 (l.map Vl.pv) none, envPV e] (mcE b K tk s) (RetR b K R) := by
 refine ACall.of_body tt_ok Tryz.func115 rfl rfl (n := 173) rfl rfl ?_
 conv => whnf
 repeat' (first|refine aA2 ?_|((intro _);conv=>whnf)|(refine zX (fun hc=>?_) (fun hc=>?_)<;>(try simp only [SY] at hc)<;>first|omega|(conv=>whnf)))
 refine PCall.goT hca (WkT.refl _) ?_
 rintro _ _ ⟨x, c, s', tk', rfl, rfl, hq⟩
 conv => whnf
 repeat' (first|refine aA2 ?_|((first|refine normN nC ?_|refine normN nD ?_);conv=>whnf)|(refine zX (fun hc=>?_) (fun hc=>?_)<;>(try simp only [SY] at hc)<;>omega))
 all_goals try exact trivial
 all_goals exact PRet.gen (y := .tup [.agg (valC x), .int .i64 c]) (Γ' := mcE b K tk' s') (Wk.refl _) ⟨x, c, s', tk', rfl, rfl, hq⟩
theorem drMr07bab {p q : Prop} (k : q) (h : q → p := by intro hq; first | exact PDraw.sP (some 31) rfl [] [] tt_ok mixed hq | exact PDraw.sP (some 84) rfl [] [12,13] tt_ok mixed hq) : p := h k
theorem calP_c (f : Vl) (hk : f.k = 9) (l : List Vl)
  (hca : ACall Tryz.prog 141 [.ptr b 0, .int .i64 f.n, .sl 7 (l.map Vl.pv) none] (mcE b K tk s) (RetR b K R)) :
  ACall Tryz.prog 140 [.ptr b 0, .agg (valC f), .sl 7 (l.map Vl.pv) none] (mcE b K tk s) (RetR b K R) := by
 refine ACall.of_body tt_ok Tryz.func140 rfl rfl (n := 111) rfl rfl ?_
 conv => whnf
 repeat' (first|refine aA2 ?_|((intro _);conv=>whnf)|(refine zX (fun hc=>?_) (fun hc=>?_)<;>(try simp only [SY] at hc)<;>first|omega|(conv=>whnf)))
 refine PCall.goT hca (WkT.refl _) ?_
 rintro _ _ ⟨x, c, s', tk', rfl, rfl, hq⟩
 conv => whnf
 repeat' (first|refine aA2 ?_|((first|refine normN nC ?_|refine normN nD ?_);conv=>whnf)|(refine zX (fun hc=>?_) (fun hc=>?_)<;>(try simp only [SY] at hc)<;>omega))
 all_goals try exact trivial
 all_goals exact PRet.gen (y := .tup [.agg (valC x), .int .i64 c]) (Γ' := mcE b K tk' s') (Wk.refl _) ⟨x, c, s', tk', rfl, rfl, hq⟩
theorem calN_c (f : Vl) (hk : f.k = 10) (l : List Vl) (hl : ¬l.length = 1) :
  ACall Tryz.prog 140 [.ptr b 0, .agg (valC f), .sl 7 (l.map Vl.pv) none] (mcE b K tk s) (fun y Γ' => y = .tup [.agg (valC zerV), .int .i64 2] ∧ Γ' = mcE b K tk s) := by
 refine ACall.of_body tt_ok Tryz.func140 rfl rfl (n := 111) rfl rfl ?_
 conv => whnf
 repeat' (first|refine aA2 ?_|((intro _);conv=>whnf)|(refine zX (fun hc=>?_) (fun hc=>?_)<;>(try simp only [SY] at hc)<;>first|omega|(conv=>whnf)))
 all_goals exact PRet.gen (y := .tup [.agg (valC zerV), .int .i64 2]) (Γ' := mcE b K tk s) WkR.res ⟨rfl, rfl⟩
theorem calE_c (f : Vl) (hk : f.k = 10) (l : List Vl) (hl : l.length = 1) (hn : 0 ≤ f.n ∧ f.n < s.alive.length) (ht : tk.s = 1) :
  ACall Tryz.prog 140 [.ptr b 0, .agg (valC f), .sl 7 (l.map Vl.pv) none] (mcE b K tk s) (fun y Γ' => (s.alive[f.n.toNat]'(by omega) = false ∧ y = .tup [.agg (valC zerV), .int .i64 6] ∧ Γ' = mcE b K tk s) ∨ (s.alive[f.n.toNat]'(by omega) = true ∧ y = .tup [.agg (valC zerV), .int .i64 100] ∧ Γ' = mcE b K tk ⟨s.fuel, s.out, s.alive, f.n, l[0], s.h⟩)) := by
 refine ACall.of_body tt_ok Tryz.func140 rfl rfl (n := 111) rfl rfl ?_
 conv => whnf
 repeat' (first|refine aA2 ?_|((first|refine normN nC ?_|refine normN nD ?_|refine drMr07bab ?_|intro _);conv=>whnf)|(refine zX (fun hc=>?_) (fun hc=>?_)<;>(try simp only [SY] at hc)<;>first|omega|(conv=>whnf)))
 ·exact PRet.gen (y := .tup [.agg (valC zerV), .int .i64 6]) (Γ' := mcE b K tk s) WkR.res (Or.inl ⟨by simpa using hc, rfl, rfl⟩)
 ·exact PRet.gen (y := .tup [.agg (valC zerV), .int .i64 100]) (Γ' := mcE b K tk ⟨s.fuel, s.out, s.alive, f.n, l[0], s.h⟩) WkR.res (Or.inr ⟨by simpa using hc, rfl, rfl⟩)
theorem calB_c (f : Vl) (hk : ¬f.k = 8 ∧ ¬f.k = 9 ∧ ¬f.k = 10) (l : List Vl) :
  ACall Tryz.prog 140 [.ptr b 0, .agg (valC f), .sl 7 (l.map Vl.pv) none] (mcE b K tk s) (fun y Γ' => y = .tup [.agg (valC zerV), .int .i64 1] ∧ Γ' = mcE b K tk s) := by
 refine ACall.of_body tt_ok Tryz.func140 rfl rfl (n := 111) rfl rfl ?_
 conv => whnf
 repeat' (first|refine aA2 ?_|((intro _);conv=>whnf)|(refine zX (fun hc=>?_) (fun hc=>?_)<;>(try simp only [SY] at hc)<;>first|omega|(conv=>whnf)))
 all_goals exact PRet.gen (y := .tup [.agg (valC zerV), .int .i64 1]) (Γ' := mcE b K tk s) WkR.res ⟨rfl, rfl⟩
theorem drMr07bac {p q : Prop} (k : q) (h : q → p := by intro hq; first | exact PDraw.sT (some 16) rfl [0,5] [10,11,12,13,14] tt_ok mixed hq) : p := h k
theorem spreadT_c (l : List Vl) (k : Nat) (hk : k ≤ 1000000000) (r : Bool) (h1 : r = true → 1 ≤ k) (hl : l.length ≤ 1000000000) : ACallP Tryz.prog 157 [.sl 7 (l.map Vl.pv) none, .int .i64 k, .bool r] (.tup [.sl 7 (((sprV l k r).getD l).map Vl.pv) none, .bool (sprV l k r).isSome]) := by
 rcases r with _ | _
 ·have e : sprV l k false = if l.length = k then some l else none := by unfold sprV; rw [if_neg (by simp)]; simp
  refine ACall.of_body tt_ok Tryz.func157 rfl rfl (n := 38) rfl rfl ?_
  conv => whnf
  repeat' (first|refine aA2 ?_|(refine zX (fun hc=>?_) (fun hc=>?_)<;>(try simp only [SY] at hc)<;>(conv=>whnf)))
  refine PRet.pure (Wk.tup (.cons ?_ (.cons (Wk.bool ?_) .nil)))
  ·rw [e]
   split <;> exact Wk.refl _
  ·rw [e, Bool.eq_iff_iff]
   split <;> simp <;> omega
 ·have hk1 := h1 rfl
  have e : sprV l k true = if k ≤ l.length + 1 then some (l.take (k - 1) ++ [lstV (l.drop (k - 1))]) else none := by
   unfold sprV
   simp
  have hls := list6_c (l.drop (k - 1))
  refine ACall.of_body tt_ok Tryz.func157 rfl rfl (n := 38) rfl rfl ?_
  conv => whnf
  repeat' (first|refine aA2 ?_|((first|refine pC (hls) wR ?_|refine drMr07bac ?_|intro _);conv=>whnf)|(refine zX (fun hc=>?_) (fun hc=>?_)<;>(try simp only [SY] at hc)<;>(conv=>whnf)))
  ·rw [e, if_pos (by omega)]
   exact PRet.pure (Wk.tup (.cons (Wk.tok _ _ _) (.cons (Wk.tt rfl) .nil)))
  ·rw [e, if_neg (by omega)]
   exact PRet.pure (Wk.tup (.cons (Wk.refl _) (.cons (Wk.bool (by simp)) .nil)))
theorem sprV_len {l xs : List Vl} {k : Nat} {r : Bool} (h1 : r = true → 1 ≤ k) (h : sprV l k r = some xs) : xs.length = k := by
 unfold sprV at h
 split at h
 ·rename_i hc
  have := h1 hc.1
  rw [← Option.some.inj h]
  simp
  omega
 ·split at h
  ·rename_i hc
   rw [← Option.some.inj h, hc.2]
  ·cases h
theorem calK_c (f : Vl) (hk : f.k = 8) (cl : Clo) (hp : f.p = some cl) (l : List Vl) (hl : l.length ≤ 1000000000) (hz : cl.v.length ≤ 1000000000) (hr : cl.rest = true → 1 ≤ cl.v.length) (hx : sprV l cl.v.length cl.rest = none) :
  ACall Tryz.prog 140 [.ptr b 0, .agg (valC f), .sl 7 (l.map Vl.pv) none] (mcE b K tk s) (fun y Γ' => y = .tup [.agg (valC zerV), .int .i64 2] ∧ Γ' = mcE b K tk s) := by
 have hsp := spreadT_c l cl.v.length hz cl.rest hr hl
 rw [hx] at hsp
 simp only [Option.getD_none, Option.isSome_none] at hsp
 refine ACall.of_body tt_ok Tryz.func140 rfl rfl (n := 111) rfl rfl ?_
 conv => whnf
 repeat' (first|refine aA2 ?_|((intro _);conv=>whnf)|(refine zX (fun hc=>?_) (fun hc=>?_)<;>(try simp only [SY] at hc)<;>first|omega|(conv=>whnf)))
 rw [hp]
 conv => whnf
 repeat' (first|refine aA2 ?_|((first|refine pC (hsp) wR ?_|intro _);conv=>whnf)|(refine zX (fun hc=>?_) (fun hc=>?_)<;>(try simp only [SY] at hc)<;>(conv=>whnf)))
 all_goals exact PRet.gen (y := .tup [.agg (valC zerV), .int .i64 2]) (Γ' := mcE b K tk s) WkR.res ⟨rfl, rfl⟩
theorem cal_c (x : Vl) (hk : x.k = 8) (cl : Clo) (hp : x.p = some cl) (l0 l : List Vl) (hl0 : l0.length ≤ 1000000000) (hz : cl.v.length ≤ 1000000000) (hr : cl.rest = true → 1 ≤ cl.v.length) (hx : sprV l0 cl.v.length cl.rest = some l)
  (hev : ∀ az : List Nat, az.length = cl.v.length → ACall Tryz.prog 87 [.ptr b 0, .agg cl.body.cells, envPV (extM cl.env cl.v az), .nil] (mcE b K tk (addM s (hpM s.h l az))) (RetR b K R)) :
  ACall Tryz.prog 140 [.ptr b 0, .agg (valC x), .sl 7 (l0.map Vl.pv) none] (mcE b K tk s) (RetR b K R) := by
 have hlen := sprV_len hr hx
 have hsp := spreadT_c l0 cl.v.length hz cl.rest hr hl0
 rw [hx] at hsp
 simp only [Option.getD_some, Option.isSome_some] at hsp
 refine ACall.of_body tt_ok Tryz.func140 rfl rfl (n := 111) rfl rfl ?_
 conv => whnf
 repeat' (first|refine aA2 ?_|((intro _);conv=>whnf)|(refine zX (fun hc=>?_) (fun hc=>?_)<;>(try simp only [SY] at hc)<;>first|omega|(conv=>whnf)))
 rw [hp]
 conv => whnf
 repeat' (first|refine aA2 ?_|((first|refine pC (hsp) wR ?_|intro _);conv=>whnf)|(refine zX (fun hc=>?_) (fun hc=>?_)<;>(try simp only [SY] at hc)<;>(conv=>whnf)))
 rename_i b4 b6 _ _ _ _
 have hL : ∀ i (az : List Nat) (a : Nat) (_ : az.length = i) (h : i < l.length), hpE (hpM s.h (l.take (i + 1)) (az ++ [a])) = .box a (celC (l[i]'h) false) :: hpE (hpM s.h (l.take i) az) := fun i az a h1 h => by
  rw [List.take_succ_eq_append_getElem h, hpM_snoc _ _ _ _ _ (by rw [List.length_take]; omega)]
  rfl
 have e0 : mcE b K tk s = mcE b K tk (addM s (hpM s.h (l.take 0) [])) := rfl
 rw [e0]
 refine PLoop.over [12, 13, 79, 80, 81, 82, 83, 84, 85, 86, 87, 88, 89, 90, 91, 92, 93, 94, 95, 96] (fun x : Nat × List Nat => [(12, envPV (extM cl.env (cl.v.take x.1) x.2)), (13, .int .i64 x.1)]) (fun x : Nat × List Nat => .box b6 [.int .i64 0, .int .i64 0, .int .i64 0, .str [], .nil, .np, .np] :: mcE b K tk (addM s (hpM s.h (l.take x.1) x.2)))
  (fun x => x.1 ≤ l.length ∧ x.2.length = x.1) (fun x => l.length - x.1) (0, []) ⟨Nat.zero_le _, rfl⟩ wA ?_
 rintro ⟨i, az⟩ ⟨hi, ha⟩
 dsimp only at hi ha ⊢
 conv => whnf
 repeat' (first|refine aA2 ?_|((refine drMr07bab ?_);conv=>whnf)|(refine zX (fun hc=>?_) (fun hc=>?_)<;>(try simp only [SY] at hc)<;>(conv=>whnf)))
 ·have h1 : i < l.length := by omega
  refine PCall.go (Γ1 := []) (bind_c _ _ l[i] false) (.cons (Wk.refl _) (.cons (Wk.refl _) (.cons (Wk.refl _) (.cons (Wk.ff rfl) .nil)))) ?_
  rintro _ _ ⟨a, rfl, rfl⟩
  conv => whnf
  repeat' (first|refine aA2 ?_|(refine zX (fun hc=>?_) (fun hc=>?_)<;>(try simp only [SY] at hc)<;>omega))
  have e1 := hL i az a ha h1
  have e2 : (cl.v.take (i + 1)) = cl.v.take i ++ [cl.v[i]'(by omega)] := List.take_succ_eq_append_getElem (by omega)
  refine loopTo (i + 1, az ++ [a]) ⟨by show i + 1 ≤ _; omega, by show (az ++ [a]).length = i + 1; simp; omega⟩ (by show l.length - (i + 1) < l.length - i; omega) (by dsimp only; rw [e2, extM_snoc _ _ _ _ _ (by rw [List.length_take]; omega)]; exact wA) (hp := by dsimp only [mcE, addM]; rw [e1]; infer_instance)
 ·obtain rfl : i = l.length := by omega
  rw [List.take_length, List.take_of_length_le (by omega : cl.v.length ≤ l.length)]
  refine PDraw.tree tt_ok mixed [0, 0, 2, 6, 14, 0, 0, 64, 192, 448, 1023, 2047, 2047, 8191, 16383] [0, 1, 2, 3, 4, 5, 6, 7, 8, 9] [10, 11, 12, 13, 14] (.box b6 [.int .i64 0, .int .i64 0, .int .i64 0, .str [], .nil, .np, .np] :: mcE b K tk (addM s (hpM s.h l az))) ?_
  conv => whnf
  conv => whnf
  repeat' (first|((first|((apply zZ);exact tB)|(refine And.intro ?_ ?_));conv=>whnf)|(refine zX (fun hc=>?_) (fun hc=>?_)<;>(try simp only [SY] at hc)<;>omega))
  all_goals try exact trivial
  refine PCall.goT (hev az (by omega)) (WkT.refl _) ?_
  rintro _ _ ⟨y, c, s', tk', rfl, rfl, hq⟩
  conv => whnf
  repeat' (first|((first|refine aM ?_|(refine And.intro ?_ ?_)|refine normN nC ?_|refine normN nD ?_|refine appN ?_|refine aF ?_);conv=>whnf)|(refine zX (fun hc=>?_) (fun hc=>?_)<;>(try simp only [SY] at hc)<;>omega))
  all_goals try exact trivial
  all_goals exact PRet.gen (y := .tup [.agg (valC y), .int .i64 c]) (Γ' := mcE b K tk' s') (Wk.refl _) ⟨y, c, s', tk', rfl, rfl, hq⟩
end
end Go.Cb

