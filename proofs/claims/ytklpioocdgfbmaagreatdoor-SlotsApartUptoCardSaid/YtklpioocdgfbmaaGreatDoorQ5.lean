/-
 Contracts: the document's check of terms, within a scope.
 Contracts: the document's check of programs.
 Plain law: the program's check of a term and the document's answer alike.
 Plain law: the program's data and the document's are right alike.
 Contracts: the program's check of programs.
 Plain law: the program's check of programs and the document's answer alike.
 Plain law: what a check says of a program, and how it leans on the number of constants.
 Contracts: all terms of a term, one by one.
 Contracts: how many terms.
 Contracts: what is sorted already: one number.
 Contracts: what is named and not bound: one variable.
 Plain laws: what a term names, binds; how deep it lies.
 Plain laws: numbers in order, each once.
 Plain laws: a term and its parts.
 Layings of the library's contracts at this seat (written by the kit's tools).
 Contracts: numbers sorted by the library, equal neighbours struck.
 Contracts: what a term names and does not bind, what it binds, how often a variable is named and assigned.
 Plain laws: all variables greater by the same.
 Plain laws: assigned variables become boxes.
 Plain laws: chapter 10, what is right; the document's counts; programs.
-/
import Derived.Lib.SlicesCompact
import Derived.Shelf.Slices.CompactI
import Derived.Shelf.Slices.In.SortNone
import Derived.Shelf.Sort.Plain
import Derived.Sort.OwnSortedInts
import Derived.Test.YtklpioocdgfbmaaGreatDoorProg
import Derived.Test.YtklpioocdgfbmaaGreatDoorQ4
set_option linter.unusedSimpArgs false
set_option linter.unusedVariables false
namespace Go.Cb
open Go.Proofs
set_option maxRecDepth 100000
set_option maxHeartbeats 4000000
def wantOp (level : Int) : Int := if level = 3 then 19 else 4
mutual
def Trm.ckD (level consts codes : Int) (free : Bool) : Trm → List Int → Int → Int → List Int → Option (Int × List Int)
 | .mk op n v t, scope, deep, size, bound =>
  if (decide (deep > 400) || decide (size + 1 > 20000) || !sortsL op level || !countsL (.mk op n v t) || !numberL consts codes free (.mk op n v t) scope) = true then none else
  if (bindR v bound).1 = true then Trm.cksD level consts codes free op scope (scope ++ v) t (deep + 1) (size + 1) (bindR v bound).2 else none
def Trm.cksD (level consts codes : Int) (free : Bool) (op : Int) (scope inner : List Int) : List Trm → Int → Int → List Int → Option (Int × List Int)
 | [], _, size, bound => some (size, bound)
 | x :: xs, deep, size, bound =>
  if op = 9 ∧ xs ≠ [] ∧ x.op ≠ wantOp level then none else
  match Trm.ckD level consts codes free x (if xs = [] ∨ op = 7 ∨ op = 9 then inner else scope) deep size bound with
  | none => none
  | some (s, b) => Trm.cksD level consts codes free op scope inner xs deep s b
end
end Go.Cb
namespace Go.Cb
open Go.Proofs
set_option maxRecDepth 100000
set_option maxHeartbeats 4000000
structure Prog where
 consts : List Datum
 body : Trm
def Prog.cells (p : Prog) : List PV := .sl 5 (p.consts.map Datum.pv) none :: p.body.cells
end Go.Cb
namespace Go.Cb
open Go.Proofs
set_option maxRecDepth 100000
set_option maxHeartbeats 4000000
def Dist (l bound : List Int) : Prop := (∀ x ∈ l, 0 ≤ x ∧ x ≤ 1000000 ∧ x ∉ bound) ∧ l.Nodup
theorem Dist.congr {l b c : List Int} (h : ∀ x, x ∈ b ↔ x ∈ c) : Dist l b ↔ Dist l c := by
 unfold Dist
 simp only [h]
theorem Dist.perm {l m b : List Int} (h : l.Perm m) : Dist l b ↔ Dist m b := by
 unfold Dist
 rw [h.nodup_iff]
 simp only [h.mem_iff]
theorem Dist.append {l m b c : List Int} (h : ∀ x, x ∈ c ↔ x ∈ b ∨ x ∈ l) : Dist (l ++ m) b ↔ Dist l b ∧ Dist m c := by
 unfold Dist
 simp only [List.mem_append, List.nodup_append, h]
 constructor
 ·rintro ⟨h1, h2, h3, h4⟩
  exact ⟨⟨fun x hx => h1 x (.inl hx), h2⟩, fun x hx => ⟨(h1 x (.inr hx)).1, (h1 x (.inr hx)).2.1, by rintro (h | h); exact (h1 x (.inr hx)).2.2 h; exact h4 x h x hx rfl⟩, h3⟩
 ·rintro ⟨⟨h1, h2⟩, h3, h4⟩
  refine ⟨?_, h2, h4, ?_⟩
  ·rintro x (hx | hx)
   ·exact h1 x hx
   ·exact ⟨(h3 x hx).1, (h3 x hx).2.1, fun h => (h3 x hx).2.2 (.inl h)⟩
  ·rintro x hx y hy rfl
   exact (h3 x hy).2.2 (.inr hx)
def Sp (r : Option (Int × List Int)) (c : Prop) (n : Int) (V : List Int) (size : Int) (bound : List Int) : Prop :=
 (r = none ∧ ¬(c ∧ size + n ≤ 20000 ∧ Dist V bound)) ∨ (∃ b, r = some (size + n, b) ∧ (c ∧ size + n ≤ 20000 ∧ Dist V bound) ∧ ∀ x, x ∈ b ↔ x ∈ bound ∨ x ∈ V)
theorem Sp.perm {r c n V W size bound} (h : Sp r c n V size bound) (hp : V.Perm W) : Sp r c n W size bound := by
 unfold Sp at h ⊢; simpa only [Dist.perm hp, hp.mem_iff] using h
theorem Sp.nil {size : Int} {bound : List Int} (h : size ≤ 20000) : Sp (some (size, bound)) True 0 [] size bound :=
 .inr ⟨bound, by simp, ⟨trivial, by omega, by simp [Dist]⟩, by simp⟩
theorem Sp.seq {r1 : Option (Int × List Int)} {f : Int → List Int → Option (Int × List Int)} {c1 c2 : Prop} {n1 n2 : Int} {V1 V2 : List Int} {size : Int} {bound : List Int} (h1 : Sp r1 c1 n1 V1 size bound) (hn : 0 ≤ n2)
  (h2 : ∀ b, size + n1 ≤ 20000 → Sp (f (size + n1) b) c2 n2 V2 (size + n1) b) : Sp (match (generalizing := false) r1 with | none => none | some (s, b) => f s b) (c1 ∧ c2) (n1 + n2) (V1 ++ V2) size bound := by
 rcases h1 with ⟨rfl, h⟩ | ⟨b, rfl, ⟨k1, k2, k3⟩, hb⟩
 ·exact .inl ⟨rfl, fun ⟨⟨g1, g2⟩, g3, g4⟩ => h ⟨g1, by omega, ((Dist.append (c := bound ++ V1) (by simp)).1 g4).1⟩⟩
 ·rcases h2 b k2 with ⟨e, h⟩ | ⟨b', e, ⟨g1, g2, g3⟩, hb'⟩
  ·exact .inl ⟨e, fun ⟨⟨g1, g2⟩, g3, g4⟩ => h ⟨g2, by omega, ((Dist.append hb).1 g4).2⟩⟩
  ·exact .inr ⟨b', by rw [← Int.add_assoc]; exact e, ⟨⟨k1, g1⟩, by omega, (Dist.append hb).2 ⟨k3, g3⟩⟩, fun x => by rw [hb', hb, List.mem_append, or_assoc]⟩
theorem bindR_dist : ∀ (l bound : List Int), (bindR l bound).1 = true ↔ Dist l bound
 | [], bound => by simp [bindR, Dist]
 | v :: l, bound => by
  rw [bindR]
  split
  ·rename_i hv
   rw [bindR_dist l, show v :: l = [v] ++ l from rfl, Dist.append (l := [v]) (c := bound ++ [v]) (by simp)]
   simp [vOk] at hv
   simp [Dist]
   intro _ _
   exact ⟨by omega, by omega, hv.2⟩
  ·rename_i hv
   simp only [Bool.false_eq_true, false_iff]
   rintro ⟨h, _⟩
   have := h v (by simp)
   apply hv
   simp [vOk]
   exact ⟨by omega, this.2.2⟩
theorem Sp.bind {v bound : List Int} {size : Int} {r : Option (Int × List Int)} {c : Prop} {n : Int} {V : List Int} (h : (bindR v bound).1 = true → Sp r c n V size (bound ++ v)) : Sp (if (bindR v bound).1 = true then r else none) c n (v ++ V) size bound := by
 have ha : Dist (v ++ V) bound ↔ Dist v bound ∧ Dist V (bound ++ v) := Dist.append (by simp)
 by_cases hb : (bindR v bound).1 = true
 ·have hd := (bindR_dist _ _).1 hb
  rw [if_pos hb]
  rcases h hb with ⟨rfl, hh⟩ | ⟨b, rfl, ⟨k1, k2, k3⟩, hm⟩
  ·exact .inl ⟨rfl, fun ⟨g1, g2, g3⟩ => hh ⟨g1, g2, (ha.1 g3).2⟩⟩
  ·exact .inr ⟨b, rfl, ⟨k1, k2, ha.2 ⟨hd, k3⟩⟩, fun x => by rw [hm, List.mem_append, List.mem_append, or_assoc]⟩
 ·rw [if_neg hb]
  exact .inl ⟨rfl, fun ⟨_, _, g3⟩ => hb ((bindR_dist _ _).2 (ha.1 g3).1)⟩
mutual
def Trm.cnt : Trm → Int
 | .mk _ _ _ t => 1 + Trm.cnts t
def Trm.cnts : List Trm → Int
 | [] => 0
 | x :: xs => Trm.cnt x + Trm.cnts xs
end
mutual
def Trm.vars : Trm → List Int
 | .mk _ _ v t => v ++ Trm.varss t
def Trm.varss : List Trm → List Int
 | [] => []
 | x :: xs => Trm.vars x ++ Trm.varss xs
end
theorem Trm.cnt_eq (t : Trm) : t.cnt = 1 + Trm.cnts t.t := by cases t; rfl
theorem Trm.vars_eq (t : Trm) : t.vars = t.v ++ Trm.varss t.t := by cases t; rfl
mutual
def Trm.okT (level consts codes : Int) (free : Bool) : Trm → List Int → Int → Prop
 | .mk op n v t, scope, deep => (deep ≤ 400 ∧ sortsL op level = true ∧ countsL (.mk op n v t) = true ∧ numberL consts codes free (.mk op n v t) scope = true) ∧ Trm.okTs level consts codes free op scope (scope ++ v) t (deep + 1)
def Trm.okTs (level consts codes : Int) (free : Bool) (op : Int) (scope inner : List Int) : List Trm → Int → Prop
 | [], _ => True
 | x :: xs, deep => (¬(op = 9 ∧ xs ≠ [] ∧ x.op ≠ wantOp level)) ∧ Trm.okT level consts codes free x (if xs = [] ∨ op = 7 ∨ op = 9 then inner else scope) deep ∧ Trm.okTs level consts codes free op scope inner xs deep
end
theorem Trm.okT_eq (level consts codes : Int) (free : Bool) (t : Trm) (scope : List Int) (deep : Int) : t.okT level consts codes free scope deep ↔
  (deep ≤ 400 ∧ sortsL t.op level = true ∧ countsL t = true ∧ numberL consts codes free t scope = true) ∧ Trm.okTs level consts codes free t.op scope (scope ++ t.v) t.t (deep + 1) := by cases t; rw [Trm.okT]; rfl
end Go.Cb
namespace Go.Cb
open Go.Proofs
set_option maxRecDepth 100000
set_option maxHeartbeats 4000000
theorem digN_all {a : List UInt8} (r : List UInt8) (h : a.all isDig = true) : digN (a ++ r) = a.length + digN r := by
 induction a with
 | nil => simp
 | cons c a ih =>
  simp only [List.all_cons, Bool.and_eq_true] at h
  rw [List.cons_append, digN, if_pos h.1, ih h.2, List.length_cons]; omega
theorem digN_not {a : List UInt8} (r : List UInt8) (h : a.all isDig = false) : ∃ c, a[digN (a ++ r)]? = some c ∧ isDig c = false ∧ digN (a ++ r) < a.length := by
 induction a with
 | nil => simp at h
 | cons c a ih =>
  rw [List.cons_append, digN]
  by_cases hc : isDig c = true
  ·rw [List.all_cons, hc, Bool.true_and] at h
   obtain ⟨x, h1, h2, h3⟩ := ih h
   rw [if_pos hc]
   exact ⟨x, by simpa using h1, h2, by simp; exact h3⟩
  ·rw [if_neg hc]
   exact ⟨c, by simp, by simpa using hc, by simp⟩
theorem natB_part (a : List UInt8) : natB a = true ↔ ((partN a).2 ≠ 0 ∧ (partN a).2 = a.length) := by
 unfold natB partN
 cases h : a.all isDig
 ·obtain ⟨c, h1, h2, h3⟩ := digN_not [] h
  rw [List.append_nil] at h3
  simp only [Bool.and_false, Bool.false_eq_true, false_iff]
  split
  ·simp
  ·rintro ⟨_, h⟩; simp only at h; omega
 ·have hd := digN_all [] h
  rw [List.append_nil] at hd
  simp only [digN] at hd
  simp only [Bool.and_true, Bool.and_eq_true, decide_eq_true_eq]
  split
  ·simp; omega
  ·simp; omega
theorem natV_part {a : List UInt8} (h : natB a = true) : natV a = (partN a).1 := by
 have h2 := (natB_part a).1 h
 unfold natV
 rw [if_pos h]
 unfold partN at h2 ⊢
 split at h2
 ·simp at h2
 ·rename_i hd
  rw [if_neg hd]
  simp only at h2
  rw [h2.2, List.take_length]
theorem cut_cases (u : List UInt8) : (Go.Lib.indexByte u 47 < 0 ∧ cutA u 47 = u ∧ (47 : UInt8) ∉ u) ∨ (∃ a b, u = a ++ 47 :: b ∧ 0 ≤ Go.Lib.indexByte u 47 ∧ cutA u 47 = a ∧ cutB u 47 = b ∧ (47 : UInt8) ∉ a) := by
 induction u with
 | nil => left; simp [Go.Lib.indexByte, cutA]
 | cons c u ih =>
  by_cases h : c = 47
  ·subst h
   right
   have e : Go.Lib.indexByte (47 :: u) 47 = 0 := by simp [Go.Lib.indexByte]
   exact ⟨[], u, rfl, by omega, by simp [cutA, e], by simp [cutB, e], by simp⟩
  ·have h1 : (c == 47) = false := by simp [h]
   rcases ih with ⟨h2, h3, h4⟩ | ⟨a, b, rfl, h2, h3, h4, h5⟩
   ·have e : Go.Lib.indexByte (c :: u) 47 = -1 := by have := Go.Lib.indexByte_ge u 47; rw [Go.Lib.indexByte, h1]; simp; omega
    exact .inl ⟨by omega, by simp [cutA, e], by simp; exact ⟨fun e => h e.symm, h4⟩⟩
   ·have e : Go.Lib.indexByte (c :: (a ++ 47 :: b)) 47 = Go.Lib.indexByte (a ++ 47 :: b) 47 + 1 := by rw [Go.Lib.indexByte, h1]; simp; omega
    refine .inr ⟨c :: a, b, rfl, by omega, ?_, ?_, by simp; exact ⟨fun e => h e.symm, h5⟩⟩
    ·unfold cutA at h3 ⊢
     rw [if_pos h2] at h3
     rw [if_pos (by omega), e, show (Go.Lib.indexByte (a ++ 47 :: b) 47 + 1).toNat = (Go.Lib.indexByte (a ++ 47 :: b) 47).toNat + 1 by omega, List.take_succ_cons, h3]
    ·unfold cutB at h4 ⊢
     rw [if_pos h2] at h4
     rw [if_pos (by omega), e, show (Go.Lib.indexByte (a ++ 47 :: b) 47 + 1).toNat = (Go.Lib.indexByte (a ++ 47 :: b) 47).toNat + 1 by omega, List.drop_succ_cons, h4]
theorem isDig47 : isDig 47 = false := by decide
theorem parse_eq (s : List UInt8) : parseP s = parseN s := by
 have hu : (if negB s = true then s.drop 1 else s) = unneg s := rfl
 unfold parseP
 simp only [hu]
 rw [parseN_eq]
 generalize unneg s = u
 rcases cut_cases u with ⟨hi, ha, hn⟩ | ⟨a, b, rfl, hi, ha, hb, hn⟩
 ·rw [ha, if_neg (show ¬(0 ≤ Go.Lib.indexByte u 47) by omega)]
  have h49 : natB [49] = true := by decide
  have h49v : natV [49] = 1 := by decide
  rw [h49, h49v, Bool.and_true]
  cases hall : u.all isDig
  ·obtain ⟨c, h1, h2, h3⟩ := digN_not [] hall
   rw [List.append_nil] at h1 h3
   have hnb : natB u = false := by unfold natB; rw [hall]; simp
   rw [hnb]
   simp only [Bool.false_eq_true, if_false]
   unfold partN
   split
   ·rfl
   ·rename_i h10
    simp only
    split
    ·rfl
    ·have : lowerN u (digN u) = none := by
      unfold lowerN
      rw [if_pos h3, if_neg]
      rintro ⟨h, _⟩
      rw [h1] at h
      cases h
      exact hn (List.mem_of_getElem? h1)
     rw [this]
  ·have hd := digN_all [] hall
   rw [List.append_nil] at hd
   simp only [digN, Nat.add_zero] at hd
   by_cases hnb : natB u = true
   ·have hp := (natB_part u).1 hnb
    rw [hnb, if_pos rfl, if_neg hp.1, natV_part hnb]
    have : lowerN u (partN u).2 = some 1 := by unfold lowerN; rw [if_neg (by omega)]
    rw [this]
   ·have : (partN u).2 = 0 := by
     have := mt (natB_part u).2 hnb
     unfold partN at this ⊢
     split at this
     ·rename_i h; rw [if_pos h]
     ·rename_i h; rw [if_neg h]; simp only at this ⊢; omega
    rw [if_neg hnb, if_pos this]
 ·rw [ha, hb, if_pos hi]
  have h47 : digN (47 :: b) = 0 := by rw [digN, isDig47]; rfl
  cases hall : a.all isDig
  ·obtain ⟨c, h1, h2, h3⟩ := digN_not (47 :: b) hall
   have hnb : natB a = false := by unfold natB; rw [hall]; simp
   rw [hnb]
   simp only [Bool.false_and, Bool.false_eq_true, if_false]
   unfold partN
   split
   ·rfl
   ·simp only
    split
    ·rfl
    ·have : lowerN (a ++ 47 :: b) (digN (a ++ 47 :: b)) = none := by
      unfold lowerN
      rw [if_pos (by simp; omega), if_neg]
      rintro ⟨h, _⟩
      rw [List.getElem?_append_left h3, h1] at h
      cases h
      exact hn (List.mem_of_getElem? h1)
     rw [this]
  ·have hd := digN_all (47 :: b) hall
   rw [h47, Nat.add_zero] at hd
   by_cases hnb : natB a = true
   ·have hp := (natB_part a).1 hnb
    have hl : 1 ≤ a.length ∧ a.length ≤ 10 := by
     unfold natB at hnb; simp only [Bool.and_eq_true, decide_eq_true_eq] at hnb; exact ⟨hnb.1, hnb.2.1⟩
    have hpu : partN (a ++ 47 :: b) = (natV a, a.length) := by
     unfold partN natV
     rw [hd, if_neg (by omega), if_pos hnb, List.take_left]
    rw [hpu]
    simp only
    rw [if_neg (show ¬(a.length = 0) by omega), hnb, Bool.true_and]
    have hlo : lowerN (a ++ 47 :: b) a.length = if natB b = true then some (natV b) else none := by
     unfold lowerN
     rw [if_pos (by simp)]
     have e1 : (a ++ 47 :: b)[a.length]? = some 47 := by simp
     have e2 : (a ++ 47 :: b).drop (a.length + 1) = b := by rw [List.drop_append]; simp
     rw [e1, e2]
     by_cases hb' : natB b = true
     ·have := (natB_part b).1 hb'
      rw [if_pos hb', natV_part hb', if_pos ⟨rfl, this.1, by simp; omega⟩]
     ·rw [if_neg hb', if_neg]
      rintro ⟨_, g1, g2⟩
      exact hb' ((natB_part b).2 ⟨g1, by simp at g2; omega⟩)
    rw [hlo]
    by_cases hb' : natB b = true
    ·rw [if_pos hb', if_pos hb']
    ·rw [if_neg hb', if_neg hb']
   ·have : (partN (a ++ 47 :: b)).2 = 0 := by
     unfold partN
     rw [hd]
     split
     ·rfl
     ·simp only
      unfold natB at hnb
      rw [hall] at hnb
      simp only [Bool.and_true, Bool.and_eq_true, decide_eq_true_eq] at hnb
      omega
    rw [if_pos this, show natB a = false by simpa using hnb]
    rfl
theorem marks_eq : marksPL.contains = markB := by
 funext c
 simp only [markB, baseB, marksL, marksPL, List.contains_cons, List.contains_nil, Bool.or_false]
 rw [Bool.eq_iff_iff]
 simp only [Bool.or_eq_true, beq_iff_eq, Bool.and_eq_true, decide_eq_true_eq, ← UInt8.toNat_inj]
 simp
 omega
theorem name_eq (s : List UInt8) : namePB s = nameB s := by
 unfold namePB nameB
 rw [parse_eq, marks_eq]
 have ht : ((trimR markB s).dropWhile markB == []) = s.all markB := by
  rw [Bool.eq_iff_iff, beq_iff_eq, trim_nil]
 rw [ht]
 by_cases hs : s = []
 ·subst hs; simp
 ·have hl := List.length_pos_iff.2 hs
  cases s.all markB <;> cases (parseN s).2.2 <;> rw [Bool.eq_iff_iff] <;> simp [hs] <;> omega
theorem name_str {s : List UInt8} (h : nameB s = true) : s.any strB = false := by
 simp only [nameB, Bool.and_eq_true] at h
 rw [List.any_eq_false]
 intro c hc
 have hm := List.all_eq_true.1 h.2.2.1 c hc
 rw [← marks_eq] at hm
 simp only [marksPL, List.contains_cons, List.contains_nil, Bool.or_false, Bool.or_eq_true, beq_iff_eq, ← UInt8.toNat_inj] at hm
 simp only [strB, Bool.or_eq_true, decide_eq_true_eq]
 simp at hm ⊢
 omega
theorem bare_eq (d : Datum) (deep : Int) : bareBadP d deep = bareBad d deep := by
 obtain ⟨k, n, e, s, l⟩ := d
 have hn := name_eq s
 have hs := @name_str s
 have hz : s = [] → s.any strB = false := fun h => by rw [h]; rfl
 unfold bareBadP bareBad
 simp only [Datum.kind, Datum.n, Datum.d, Datum.s, Datum.l, bareL]
 generalize s.any strB = B at *
 have hc : k < 0 ∨ k > 7 ∨ k = 0 ∨ k = 1 ∨ k = 2 ∨ k = 3 ∨ k = 4 ∨ k = 5 ∨ k = 6 ∨ k = 7 := by omega
 rcases hc with h | h | h | h | h | h | h | h | h | h
 ·simp [h, show ¬k = 0 by omega, show ¬k = 1 by omega, show ¬k = 2 by omega, show ¬k = 3 by omega, show ¬k = 4 by omega, show ¬k = 5 by omega, show ¬k = 6 by omega, show ¬k = 7 by omega]
 ·simp [h, show ¬k = 0 by omega, show ¬k = 1 by omega, show ¬k = 2 by omega, show ¬k = 3 by omega, show ¬k = 4 by omega, show ¬k = 5 by omega, show ¬k = 6 by omega, show ¬k = 7 by omega]
 all_goals
  subst h
  rw [Bool.eq_iff_iff]
  simp
  grind
theorem right_eq (d : Datum) : ∀ deep : Int, d.rightP deep = d.rightD deep := by
 induction d using Datum.ind with
 | h d ih =>
  intro deep
  rw [Datum.rightP_eq, Datum.rightD_eq, bare_eq]
  congr 1
  have : ∀ l : List Datum, (∀ y ∈ l, ∀ deep : Int, y.rightP deep = y.rightD deep) → ∀ deep, Datum.rightPs l deep = Datum.rightDs l deep := by
   intro l
   induction l with
   | nil => intro _ deep; rw [Datum.rightPs, Datum.rightDs]
   | cons x l ihl => intro hy deep; rw [Datum.rightPs, Datum.rightDs, hy x (by simp), ihl fun y h => hy y (by simp [h])]
  exact this d.l ih _
end Go.Cb
namespace Go.Cb
open Go.Proofs
set_option maxRecDepth 100000
set_option maxHeartbeats 4000000
end Go.Cb
namespace Go.Cb
open Go.Proofs
set_option maxRecDepth 100000
set_option maxHeartbeats 4000000
end Go.Cb
namespace Go.Cb
open Go.Proofs
set_option maxRecDepth 100000
set_option maxHeartbeats 4000000
def RightP (p : Prog) (level : Int) : Prop :=
 (0 ≤ level ∧ level ≤ 2) ∧ (∀ d ∈ p.consts, d.rightD 0 = true) ∧ p.body.okT level p.consts.length 0 false [] 0 ∧ p.body.cnt ≤ 20000 ∧ Dist p.body.vars []
mutual
def Trm.gre : Trm → Int
 | .mk op n _ t => Trm.gres t (if op = 0 then n else -1)
def Trm.gres : List Trm → Int → Int
 | [], m => m
 | x :: xs, m => Trm.gres xs (max m (Trm.gre x))
end
theorem Trm.gre_eq (t : Trm) : t.gre = Trm.gres t.t (if t.op = 0 then t.n else -1) := by cases t; rw [Trm.gre]; rfl
theorem Trm.gres_lt (c : Int) : ∀ (l : List Trm) (m : Int), Trm.gres l m < c ↔ m < c ∧ ∀ x ∈ l, x.gre < c
 | [], m => by simp [Trm.gres]
 | x :: l, m => by
  rw [Trm.gres, Trm.gres_lt c l]
  simp only [List.forall_mem_cons]
  constructor
  ·rintro ⟨h1, h2⟩; exact ⟨by omega, by omega, h2⟩
  ·rintro ⟨h1, h2, h3⟩; exact ⟨by omega, h3⟩
theorem numberL_other (c1 c2 codes : Int) (free : Bool) (t : Trm) (scope : List Int) (h : t.op ≠ 0) : numberL c1 codes free t scope = numberL c2 codes free t scope := by
 unfold numberL
 rw [if_neg h, if_neg h]
theorem Trm.okT_consts (level codes : Int) (free : Bool) (c1 c2 : Int) (h2 : 0 ≤ c2) (t : Trm) : ∀ (scope : List Int) (deep : Int), t.okT level c1 codes free scope deep → (t.okT level c2 codes free scope deep ↔ t.gre < c2) := by
 induction t using Trm.ind with
 | h t ih =>
  intro scope deep h
  have key : ∀ (op : Int) (sc inner : List Int) (deep : Int) (l : List Trm), (∀ y ∈ l, ∀ (scope : List Int) (deep : Int), y.okT level c1 codes free scope deep → (y.okT level c2 codes free scope deep ↔ y.gre < c2)) →
    Trm.okTs level c1 codes free op sc inner l deep → (Trm.okTs level c2 codes free op sc inner l deep ↔ ∀ x ∈ l, x.gre < c2) := by
   intro op sc inner deep l
   induction l with
   | nil => intro _ _; simp [Trm.okTs]
   | cons x l ihl =>
    intro hy hk
    rw [Trm.okTs] at hk
    rw [Trm.okTs, List.forall_mem_cons, hy x (by simp) _ _ hk.2.1, ihl (fun y hh => hy y (by simp [hh])) hk.2.2]
    simp only [hk.1, not_false_eq_true, true_and]
  rw [Trm.okT_eq] at h
  rw [Trm.okT_eq, Trm.gre_eq, Trm.gres_lt, key _ _ _ _ _ ih h.2]
  obtain ⟨⟨g1, g2, g3, g4⟩, _⟩ := h
  have hn : numberL c2 codes free t scope = true ↔ (if t.op = 0 then t.n else -1) < c2 := by
   by_cases h0 : t.op = 0
   ·rw [if_pos h0]
    unfold numberL at g4 ⊢
    rw [if_pos h0] at g4 ⊢
    simp at g4 ⊢
    omega
   ·rw [if_neg h0, numberL_other c2 c1 codes free t scope h0]
    simp only [g4, true_iff]
    omega
  rw [hn]
  simp only [g1, g2, g3, true_and]
theorem RightP.consts {p : Prog} {level : Int} (h : RightP p level) (cs : List Datum) (hc : ∀ d ∈ cs, d.rightD 0 = true) : RightP ⟨cs, p.body⟩ level ↔ p.body.gre < cs.length := by
 obtain ⟨h1, h2, h3, h4, h5⟩ := h
 unfold RightP
 simp only [h1, true_and, h4, h5, and_true]
 rw [Trm.okT_consts level 0 false p.consts.length cs.length (by omega) p.body [] 0 h3]
 simp [h1.1, h1.2]
 exact fun _ => hc
theorem RightP.gre {p : Prog} {level : Int} (h : RightP p level) : p.body.gre < p.consts.length := (h.consts p.consts h.2.1).1 h
end Go.Cb
namespace Go.Cb
open Go.Proofs
set_option maxRecDepth 100000
set_option maxHeartbeats 4000000
mutual
def Trm.met : Trm → List Int → Int → List (Trm × List Int)
 | .mk op n v t, sc, deep => (.mk op n v t, sc) :: if deep ≥ 1000 then [] else Trm.mets op sc (sc ++ v) t (deep + 1)
def Trm.mets (op : Int) (sc inner : List Int) : List Trm → Int → List (Trm × List Int)
 | [], _ => []
 | x :: xs, deep => Trm.met x (if groupB op = true ∨ xs = [] then inner else sc) deep ++ Trm.mets op sc inner xs deep
end
theorem Trm.met_eq (t : Trm) (sc : List Int) (deep : Int) : t.met sc deep = (t, sc) :: if deep ≥ 1000 then [] else Trm.mets t.op sc (sc ++ t.v) t.t (deep + 1) := by
 cases t; rw [Trm.met]; rfl
abbrev metP (x : Trm × List Int) : PV := .agg [.int .i64 x.1.op, .int .i64 x.1.n, .sl 1 (x.1.v.map (PV.int .i64)) none, .sl 4 (x.1.t.map Trm.pv) none, slI x.2]
def From (xs : List (List PV)) (i : Nat) (l : List (Trm × List Int)) : Prop := ∀ j (h : j < l.length), xs[i + j]? = some [metP l[j]]
theorem From.left {xs : List (List PV)} {i : Nat} {l m : List (Trm × List Int)} (h : From xs i (l ++ m)) : From xs i l := fun j hj => by
 have := h j (by rw [List.length_append]; omega)
 rwa [List.getElem_append_left hj] at this
theorem From.right {xs : List (List PV)} {i : Nat} {l m : List (Trm × List Int)} (h : From xs i (l ++ m)) : From xs (i + l.length) m := fun j hj => by
 have := h (l.length + j) (by rw [List.length_append]; omega)
 rw [List.getElem_append_right (by omega)] at this
 simpa [Nat.add_assoc] using this
theorem From.head {xs : List (List PV)} {i : Nat} {x : Trm × List Int} {m : List (Trm × List Int)} (h : From xs i (x :: m)) : From xs (i + 1) m := From.right (l := [x]) h
def Trm.all (t : Trm) : List (Trm × List Int) := t.met [] 0
end Go.Cb
namespace Go.Cb
open Go.Proofs
set_option maxRecDepth 100000
set_option maxHeartbeats 4000000
end Go.Cb
namespace Go.Cb
open Go.Proofs
set_option maxRecDepth 100000
set_option maxHeartbeats 4000000
theorem PLenM.one {x : PV} {Γ : List Ent} {t : Tok} {put : Tok → List PV → List Ent} [hp : PickRow Γ t [x] put] {K : Nat → Prop} (k : K 1) : PLenM t Γ K := PLenM.at_ (hp := hp) (fun _ => k)
end Go.Cb
namespace Go.Cb
open Go.Proofs
set_option maxRecDepth 100000
set_option maxHeartbeats 4000000
def namesB (op : Int) : Bool := op == 1 || op == 2 || op == 14
def freeOf (l : List (Trm × List Int)) : List Int := (l.filter fun m => namesB m.1.op && !m.2.contains m.1.n).map fun m => m.1.n
end Go.Cb
namespace Go.Cb
open Go.Proofs
set_option maxRecDepth 100000
set_option maxHeartbeats 4000000
mutual
def Trm.dep : Trm → Int
 | .mk _ _ _ t => Trm.deps t 0
def Trm.deps : List Trm → Int → Int
 | [], d => d
 | x :: xs, d => Trm.deps xs (max d (1 + Trm.dep x))
end
theorem Trm.dep_eq (t : Trm) : t.dep = Trm.deps t.t 0 := by cases t; rfl
theorem Trm.deps_le (c : Int) : ∀ (l : List Trm) (d : Int), Trm.deps l d ≤ c ↔ d ≤ c ∧ ∀ x ∈ l, 1 + x.dep ≤ c
 | [], d => by simp [Trm.deps]
 | x :: l, d => by
  rw [Trm.deps, Trm.deps_le c l]
  simp only [List.forall_mem_cons]
  constructor
  ·rintro ⟨h1, h2⟩; exact ⟨by omega, by omega, h2⟩
  ·rintro ⟨h1, h2, h3⟩; exact ⟨by omega, h3⟩
theorem Trm.deps_ge : ∀ (l : List Trm) (d : Int), d ≤ Trm.deps l d
 | [], d => by simp [Trm.deps]
 | x :: l, d => by rw [Trm.deps]; have := Trm.deps_ge l (max d (1 + x.dep)); omega
theorem Trm.okT_move {level c codes : Int} {free : Bool} (t : Trm) : ∀ {scope : List Int} {deep deep2 : Int}, t.okT level c codes free scope deep → deep2 + t.dep ≤ 400 → t.okT level c codes free scope deep2 := by
 induction t using Trm.ind with
 | h t ih =>
  intro scope deep deep2 h hd
  rw [Trm.okT_eq] at h ⊢
  rw [Trm.dep_eq] at hd
  have hd2 := (Trm.deps_le (400 - deep2) t.t 0).1 (by omega)
  have key : ∀ (op : Int) (sc inner : List Int) (deep deep2 : Int) (l : List Trm), (∀ y ∈ l, ∀ {scope : List Int} {deep deep2 : Int}, y.okT level c codes free scope deep → deep2 + y.dep ≤ 400 → y.okT level c codes free scope deep2) → (∀ x ∈ l, deep2 + x.dep ≤ 400) →
    Trm.okTs level c codes free op sc inner l deep → Trm.okTs level c codes free op sc inner l deep2 := by
   intro op sc inner deep deep2 l
   induction l with
   | nil => intro _ _ _; simp [Trm.okTs]
   | cons x l ihl =>
    intro hy hx hk
    rw [Trm.okTs] at hk ⊢
    exact ⟨hk.1, hy x (by simp) hk.2.1 (hx x (by simp)), ihl (fun z hz => hy z (by simp [hz])) (fun z hz => hx z (by simp [hz])) hk.2.2⟩
  exact ⟨⟨by have := Trm.deps_ge t.t 0; omega, h.1.2⟩, key _ _ _ _ _ _ ih (fun x hx => by have := hd2.2 x hx; omega) h.2⟩
theorem Trm.okT_names {level c codes : Int} {free : Bool} (t : Trm) : ∀ {scope : List Int} {deep : Int} (deep2 : Int), t.okT level c codes free scope deep → ∀ m ∈ t.met scope deep2, namesB m.1.op = true → m.2.contains m.1.n = true := by
 induction t using Trm.ind with
 | h t ih =>
  intro scope deep deep2 h
  rw [Trm.okT_eq] at h
  have key : ∀ (op : Int) (sc inner : List Int) (deep deep2 : Int) (l : List Trm), (∀ y ∈ l, ∀ {scope : List Int} {deep : Int} (deep2 : Int), y.okT level c codes free scope deep → ∀ m ∈ y.met scope deep2, namesB m.1.op = true → m.2.contains m.1.n = true) →
    Trm.okTs level c codes free op sc inner l deep → ∀ m ∈ Trm.mets op sc inner l deep2, namesB m.1.op = true → m.2.contains m.1.n = true := by
   intro op sc inner deep deep2 l
   induction l with
   | nil => intro _ _; simp [Trm.mets]
   | cons x l ihl =>
    intro hy hk m hm
    rw [Trm.okTs] at hk
    rw [Trm.mets, List.mem_append] at hm
    rcases hm with hm | hm
    ·have e : (if groupB op = true ∨ l = [] then inner else sc) = (if l = [] ∨ op = 7 ∨ op = 9 then inner else sc) := by
      by_cases h1 : l = [] <;> by_cases h2 : op = 7 <;> by_cases h3 : op = 9 <;> simp [groupB, h1, h2, h3]
     rw [e] at hm
     exact hy x (by simp) deep2 hk.2.1 m hm
    ·exact ihl (fun z hz => hy z (by simp [hz])) hk.2.2 m hm
  intro m hm
  rw [Trm.met_eq] at hm
  rcases List.mem_cons.1 hm with rfl | hm
  ·intro hn
   have h4 := h.1.2.2.2
   have ho : t.op = 1 ∨ t.op = 2 ∨ t.op = 14 := by simp [namesB] at hn; omega
   unfold numberL at h4
   rw [if_neg (by omega), if_pos ho] at h4
   exact h4
  ·split at hm
   ·cases hm
   ·exact key _ _ _ _ _ _ ih h.2 m hm
theorem RightP.free {p : Prog} {level : Int} (h : RightP p level) : freeOf p.body.all = [] := by
 unfold freeOf
 rw [List.map_eq_nil_iff, List.filter_eq_nil_iff]
 intro m hm
 have := p.body.okT_names 0 h.2.2.1 m hm
 simp
 simpa using this
theorem RightP.seq {p : Prog} {level : Int} (h : RightP p level) (hd : p.body.dep < 400) (hc : p.body.cnt ≤ 300) : RightP ⟨p.consts, .mk 6 0 [] [p.body]⟩ level := by
 obtain ⟨h1, h2, h3, h4, h5⟩ := h
 refine ⟨h1, h2, ?_, ?_, ?_⟩
 ·rw [Trm.okT, Trm.okTs, Trm.okTs]
  refine ⟨⟨by omega, ?_, ?_, ?_⟩, ⟨by simp, ?_, trivial⟩⟩
  ·simp [sortsL]
  ·simp [countsL, Trm.op, Trm.t, Trm.v]
  ·simp [numberL, Trm.op, Trm.n]
  ·rw [if_pos (.inl rfl)]
   exact Trm.okT_move _ h3 (by omega)
 ·show Trm.cnt (.mk 6 0 [] [p.body]) ≤ 20000
  rw [Trm.cnt_eq]
  show 1 + Trm.cnts [p.body] ≤ 20000
  rw [Trm.cnts, Trm.cnts]; omega
 ·show Dist (Trm.vars (.mk 6 0 [] [p.body])) []
  rw [Trm.vars_eq]
  show Dist ([] ++ Trm.varss [p.body]) []
  rw [Trm.varss, Trm.varss]
  simpa using h5
end Go.Cb
namespace Go.Cb
open Go.Lib
def riseL (l : List Int) : List Int := compact (l.mergeSort fun x y => decide (x ≤ y))
theorem arr_get! {α : Type} [Inhabited α] {l : List α} {j : Nat} (h : j < l.length) : l.toArray[j]! = l[j] := by
 rw [getElem!_pos _ j (by simpa using h)]; simp
theorem mem_compact (l : List Int) (x : Int) : x ∈ compact l ↔ x ∈ l := by
 unfold compact compactUpTo
 simp only [List.mem_map, List.mem_filter, List.mem_range]
 constructor
 ·rintro ⟨j, ⟨hj, _⟩, rfl⟩
  rw [arr_get! hj]
  exact List.getElem_mem hj
 ·intro hx
  have key : ∀ n (j : Nat) (hj : j < l.length), j ≤ n → l[j] = x → ∃ i, (i < l.length ∧ keeps l.toArray i = true) ∧ l.toArray[i]! = x := by
   intro n
   induction n with
   | zero =>
    intro j hj hn e
    obtain rfl : j = 0 := by omega
    exact ⟨0, ⟨hj, keeps_lt_one _ 0 (by omega)⟩, by rw [arr_get! hj, e]⟩
   | succ n ih =>
    intro j hj hn e
    by_cases h0 : j = 0
    ·subst h0
     exact ⟨0, ⟨hj, keeps_lt_one _ 0 (by omega)⟩, by rw [arr_get! hj, e]⟩
    by_cases hp : l[j - 1] = x
    ·exact ih (j - 1) (by omega) (by omega) hp
    ·refine ⟨j, ⟨hj, keeps_pos ?_⟩, by rw [arr_get! hj, e]⟩
     rw [arr_get! hj, arr_get! (show j - 1 < l.length by omega), e]
     exact fun h => hp h.symm
  obtain ⟨j, hj, e⟩ := List.getElem_of_mem hx
  exact key j j hj (Nat.le_refl _) e
theorem keeps_ne {l : List Int} {j : Nat} (h0 : 0 < j) (hj : j < l.length) (h : keeps l.toArray j = true) : l[j] ≠ l[j - 1] := by
 intro e
 have := keeps_neg (d := l.toArray) h0 (by rw [arr_get! hj, arr_get! (show j - 1 < l.length by omega)]; exact e)
 rw [this] at h; cases h
theorem compact_lt {l : List Int} (h : l.Pairwise (· ≤ ·)) : (compact l).Pairwise (· < ·) := by
 unfold compact compactUpTo
 rw [List.pairwise_map]
 refine List.Pairwise.imp_of_mem ?_ (List.Pairwise.filter _ List.pairwise_lt_range)
 intro i j hi hj hij
 simp only [List.mem_filter, List.mem_range] at hi hj
 rw [arr_get! hi.1, arr_get! hj.1]
 have h1 := keeps_ne (by omega) hj.1 hj.2
 have hp := List.pairwise_iff_getElem.1 h
 have h2 : l[j - 1] ≤ l[j] := hp (j - 1) j (by omega) hj.1 (by omega)
 have h3 : l[i] ≤ l[j - 1] := by
  by_cases e : i = j - 1
  ·subst e; omega
  ·exact hp i (j - 1) hi.1 (by omega) (by omega)
 omega
theorem mem_rise (l : List Int) (x : Int) : x ∈ riseL l ↔ x ∈ l := by
 unfold riseL
 rw [mem_compact, List.mem_mergeSort]
theorem sorted_le (l : List Int) : (l.mergeSort fun x y => decide (x ≤ y)).Pairwise (· ≤ ·) := by
 have := List.pairwise_mergeSort (le := fun x y : Int => decide (x ≤ y)) (by intro a b c; simp; omega) (by intro a b; simp; omega) l
 simpa using this
theorem rise_lt (l : List Int) : (riseL l).Pairwise (· < ·) := compact_lt (sorted_le l)
theorem lt_ext : ∀ {l m : List Int}, l.Pairwise (· < ·) → m.Pairwise (· < ·) → (∀ x, x ∈ l ↔ x ∈ m) → l = m
 | [], [], _, _, _ => rfl
 | [], y :: m, _, _, h => by have := (h y).2 (by simp); cases this
 | x :: l, [], _, _, h => by have := (h x).1 (by simp); cases this
 | x :: l, y :: m, hl, hm, h => by
  rw [List.pairwise_cons] at hl hm
  have hxy : x = y := by
   have h1 := (h x).1 (by simp)
   have h2 := (h y).2 (by simp)
   rw [List.mem_cons] at h1 h2
   rcases h1 with h1 | h1
   ·exact h1
   ·rcases h2 with h2 | h2
    ·exact h2.symm
    ·have := hl.1 _ h2; have := hm.1 _ h1; omega
  subst hxy
  rw [lt_ext hl.2 hm.2 fun z => ?_]
  have := h z
  simp only [List.mem_cons] at this
  constructor
  ·intro hz
   have hlt := hl.1 z hz
   exact (this.1 (.inr hz)).resolve_left (by omega)
  ·intro hz
   have hlt := hm.1 z hz
   exact (this.2 (.inr hz)).resolve_left (by omega)
end Go.Cb
namespace Go.Cb
open Go.Proofs
set_option maxRecDepth 100000
set_option maxHeartbeats 4000000
end Go.Cb
namespace Go.Proofs
open Go.Shelf
def Tryz.lays189_ren : Go.Shelf.Ren := ⟨fun | 189 => 119 | 125 => 171 | 257 => 170 | 128 => 195 | 129 => 196 | 294 => 186 | 295 => 187 | 296 => 188 | 297 => 189 | 298 => 190 | 299 => 191 | 216 => 192 | 300 => 193 | 301 => 194 | 328 => 209 | 329 => 210 | 330 => 211 | 331 => 212 | 332 => 213 | 215 => 214 | 343 => 236 | n => n, fun | 28 => 23 | 3 => 3 | 46 => 224 | 0 => 0 | 51 => 244 | 53 => 229 | 4 => 4 | 183 => 238 | 182 => 237 | 131 => 157 | 5 => 5 | 9 => 9 | 218 => 262 | 222 => 156 | 228 => 287 | 229 => 288 | n => n, fun | n => n⟩
theorem Tryz.lays189 : Go.Proofs.Lays.n189 Tryz.prog Tryz.lays189_ren := {
 mixed := by kernel_rfl
 f125 := Tryz.func171.trans (congrArg some (by kernel_rfl))
 f128 := Tryz.func195.trans (congrArg some (by kernel_rfl))
 f129 := Tryz.func196.trans (congrArg some (by kernel_rfl))
 f189 := Tryz.func119.trans (congrArg some (by kernel_rfl))
 f215 := Tryz.func214.trans (congrArg some (by kernel_rfl))
 f216 := Tryz.func192.trans (congrArg some (by kernel_rfl))
 f257 := Tryz.func170.trans (congrArg some (by kernel_rfl))
 f294 := Tryz.func186.trans (congrArg some (by kernel_rfl))
 f295 := Tryz.func187.trans (congrArg some (by kernel_rfl))
 f296 := Tryz.func188.trans (congrArg some (by kernel_rfl))
 f297 := Tryz.func189.trans (congrArg some (by kernel_rfl))
 f298 := Tryz.func190.trans (congrArg some (by kernel_rfl))
 f299 := Tryz.func191.trans (congrArg some (by kernel_rfl))
 f300 := Tryz.func193.trans (congrArg some (by kernel_rfl))
 f301 := Tryz.func194.trans (congrArg some (by kernel_rfl))
 f328 := Tryz.func209.trans (congrArg some (by kernel_rfl))
 f329 := Tryz.func210.trans (congrArg some (by kernel_rfl))
 f330 := Tryz.func211.trans (congrArg some (by kernel_rfl))
 f331 := Tryz.func212.trans (congrArg some (by kernel_rfl))
 f332 := Tryz.func213.trans (congrArg some (by kernel_rfl))
 f343 := Tryz.func236.trans (congrArg some (by kernel_rfl))
 t0 := Tryz.underlying0
 a0 := Tryz.isAgg0
 z0 := Tryz.sizeOf0
 v0 := Tryz.zeroValue0
 t3 := Tryz.underlying3
 a3 := Tryz.isAgg3
 z3 := Tryz.sizeOf3
 v3 := Tryz.zeroValue3
 t4 := Tryz.underlying4
 a4 := Tryz.isAgg4
 z4 := Tryz.sizeOf4
 v4 := Tryz.zeroValue4
 t5 := Tryz.underlying5
 a5 := Tryz.isAgg5
 z5 := Tryz.sizeOf5
 v5 := Tryz.zeroValue5
 t9 := Tryz.underlying9
 a9 := Tryz.isAgg9
 z9 := Tryz.sizeOf9
 v9 := Tryz.zeroValue9
 t28 := Tryz.underlying23
 a28 := Tryz.isAgg23
 z28 := Tryz.sizeOf23
 v28 := Tryz.zeroValue23
 t46 := Tryz.underlying224
 a46 := Tryz.isAgg224
 z46 := Tryz.sizeOf224
 v46 := Tryz.zeroValue224
 t51 := Tryz.underlying244
 a51 := Tryz.isAgg244
 z51 := Tryz.sizeOf244
 v51 := Tryz.zeroValue244
 t53 := Tryz.underlying229
 a53 := Tryz.isAgg229
 z53 := Tryz.sizeOf229
 v53 := Tryz.zeroValue229
 t131 := Tryz.underlying157
 a131 := Tryz.isAgg157
 z131 := Tryz.sizeOf157
 v131 := Tryz.zeroValue157
 t182 := Tryz.underlying237
 a182 := Tryz.isAgg237
 z182 := Tryz.sizeOf237
 v182 := Tryz.zeroValue237
 t183 := Tryz.underlying238
 a183 := Tryz.isAgg238
 z183 := Tryz.sizeOf238
 v183 := Tryz.zeroValue238
 t218 := Tryz.underlying262
 a218 := Tryz.isAgg262
 z218 := Tryz.sizeOf262
 v218 := Tryz.zeroValue262
 t222 := Tryz.underlying156
 a222 := Tryz.isAgg156
 z222 := Tryz.sizeOf156
 v222 := Tryz.zeroValue156
 t228 := Tryz.underlying287
 a228 := Tryz.isAgg287
 z228 := Tryz.sizeOf287
 v228 := Tryz.zeroValue287
 t229 := Tryz.underlying288
 a229 := Tryz.isAgg288
 z229 := Tryz.sizeOf288
 v229 := Tryz.zeroValue288 }
def Tryz.laysNm220_ren : Go.Shelf.Ren := ⟨fun | 20 => 120 | n => n, fun | 22 => 23 | 3 => 3 | 4 => 4 | 0 => 0 | n => n, fun | n => n⟩
theorem Tryz.laysNm220 : Go.Proofs.Lays2.n20 Tryz.prog Tryz.laysNm220_ren := {
 mixed := by kernel_rfl
 f20 := Tryz.func120.trans (congrArg some (by kernel_rfl))
 t0 := Tryz.underlying0
 a0 := Tryz.isAgg0
 z0 := Tryz.sizeOf0
 v0 := Tryz.zeroValue0
 t3 := Tryz.underlying3
 a3 := Tryz.isAgg3
 z3 := Tryz.sizeOf3
 v3 := Tryz.zeroValue3
 t4 := Tryz.underlying4
 a4 := Tryz.isAgg4
 z4 := Tryz.sizeOf4
 v4 := Tryz.zeroValue4
 t22 := Tryz.underlying23
 a22 := Tryz.isAgg23
 z22 := Tryz.sizeOf23
 v22 := Tryz.zeroValue23
 i3 := by kernel_rfl }
end Go.Proofs
namespace Go.Cb
open Go.Proofs Go.Sort
open Go.RowKit (Below)
set_option maxRecDepth 100000
set_option maxHeartbeats 4000000
theorem flat_ints : ∀ l : List Int, flat (l.map (PV.int .i64)) = l.map (PV.int .i64)
 | [] => rfl
 | x :: l => by
  have := flat_ints l
  simp only [flat, List.map_cons, List.flatMap_cons, PV.cellsOf] at this ⊢
  rw [this]; rfl
theorem repL_ints (F : Fz) : ∀ l : List Int, RepL F (l.map (PV.int .i64)) (l.map (Value.int .i64))
 | [] => RepL_nil F
 | x :: l => RepL_cons.2 ⟨⟨rfl, by simp only [Rep]⟩, repL_ints F l⟩
theorem repL_ints_eq {F : Fz} : ∀ {l : List Int} {xs : List Value}, RepL F (l.map (PV.int .i64)) xs → xs = l.map (Value.int .i64)
 | [], [], _ => rfl
 | [], _ :: _, h => by simp only [List.map_nil, RepL] at h
 | _ :: _, [], h => by simp only [List.map_cons, RepL] at h
 | x :: l, v :: xs, h => by
  have h := RepL_cons.1 h
  have h1 : v = .int .i64 x := by simpa only [Rep] using h.1.2
  rw [h1, repL_ints_eq h.2]; rfl
theorem Sim.putInts {w0 : World} {F : Fz} {M : List Ent} {w : World} {t : Tok} {l ts : List Int} (h : Sim w0 F (.row t (l.map (PV.int .i64)) :: M) w) (hs : t.s = 1) (hlen : ts.length = l.length) {g : Nat} (hg : t.b = some g) (q : Nat) (os : Array Obj) :
  Sim w0 F (.row t (ts.map (PV.int .i64)) :: M) (grow (putRow (Value.int .i64) (Sort.ahead w q) g 0 ts.toArray) os) := by
 obtain ⟨⟨xs, hown, hr⟩, hes, e2, hfree⟩ := h.ent _ (List.mem_cons_self ..)
 rcases hown.2 with ⟨h1, _⟩ | ⟨g', cap, cur, hb, hv, hB, hh, hnc, hcm, hsz, htake⟩
 ·rw [h1] at hg; cases hg
 obtain rfl : g' = g := by rw [hb] at hg; simpa using hg
 have hsep := List.pairwise_cons.1 h.sep
 have hgr : w.grownBy (grow (putRow (Value.int .i64) (Sort.ahead w q) g' 0 ts.toArray) os) (some g') := grownBy_sortedI ts.toArray
 have hn : l.length = t.n := by simpa using e2
 have hfl : flat (ts.map (PV.int .i64)) = ts.map (PV.int .i64) := flat_ints ts
 refine Sim.rowE (t := t) (ys := ts.map (PV.int .i64)) (xs := ts.map (Value.int .i64)) h.tail ((Below.refl _ w).grown hgr h.below.size fun k hk => by simp at hk; omega) ?_ (by simp [hs, PV.cellsOf]) (by simp; omega) (by rw [hfl]; exact repL_ints F ts) ?_ ?_ hfree
 ·refine ⟨by simp [hs]; omega, .inr ⟨g', cap, _, hb, hv, hB, heap_sortedI ts.toArray hh, hnc, hcm, by simp [putCells, hsz], ?_⟩⟩
  have : t.n * t.s = ts.length := by rw [hs]; omega
  rw [this]
  exact take_putCellsI cur ts (by rw [hsz, hs]; omega)
 ·intro b o u x
  have hne : b ≠ g' := fun e => by rw [e, hfree g' hb o] at x; cases x
  have hlt := World.block_lt_of_cell? w _ (h.fz b o u x)
  rw [World.cell?_of_block (w := w) (hgr.block b hlt (by simp; omega))]
  exact h.fz b o u x
 ·intro e he k hk
  have hne : t.b ≠ some k := by
   rcases hsep.1 e he with hh | hh
   ·simp only [Ent.blk] at hh; rw [hh]; simp
   ·intro hx; exact hh (by rw [hk]; exact hx)
  have hlt := (Ent.blk_lt (h.ent e (List.mem_cons_of_mem _ he)) hk).2
  exact ⟨hgr.block k hlt (by rw [hb] at hne; exact fun e => hne e.symm), hne⟩
theorem compact_len (l : List Int) : (Lib.compact l).length ≤ l.length := by
 unfold Lib.compact Lib.compactUpTo
 rw [List.length_map]
 exact Nat.le_trans (List.length_filter_le _ _) (by simp)
theorem row_ints {w0 : World} {F : Fz} {M : List Ent} {w : World} {t : Tok} {l : List Int} (h : Sim w0 F (.row t (l.map (PV.int .i64)) :: M) w) (hs : t.s = 1) :
  (l = [] ∧ ∃ p, t.v = .slice p 0 0) ∨ ∃ g cap, t.b = some g ∧ t.v = .slice (some ⟨g, 0, none⟩) l.length cap ∧ Holds (Value.int .i64) w g 0 l.toArray ∧ g < w.heap.size ∧ l.length ≤ cap ∧ t.n = l.length := by
 obtain ⟨⟨xs, hown, hr⟩, hes, e2, hfree⟩ := h.ent _ (List.mem_cons_self ..)
 have hn : l.length = t.n := by simpa using e2
 rcases hown.2 with ⟨h1, h2, h3⟩ | ⟨g, cap, cur, hb, hv, hB, hh, hnc, hcm, hsz, htake⟩
 ·refine .inl ⟨List.eq_nil_of_length_eq_zero (by omega), ?_⟩
  rcases h3 with h3 | ⟨a, h3⟩
  ·exact ⟨none, h3⟩
  ·exact ⟨some a, h3⟩
 ·rw [flat_ints] at hr
  have hx := repL_ints_eq hr
  refine .inr ⟨g, cap, hb, by rw [hn]; exact hv, holds_of_blockI (e := t.e) (cur := cur) hh (by rw [← hx, ← htake, hs, hn, Nat.mul_one]), (Array.getElem?_eq_some_iff.1 hh).1, by omega, hn.symm⟩
theorem sort_c (t : Tok) (l : List Int) (hs : t.s = 1) (hl : l.length ≤ 1000000000) :
  ACall Tryz.prog 119 [.ms t] [.row t (l.map (PV.int .i64))] (fun y Γ' => y = .tup [] ∧ Γ' = [.row t ((l.mergeSort fun x y => decide (x ≤ y)).map (PV.int .i64))]) := by
 refine ⟨⟨_, Tryz.func119, rfl, rfl⟩, fun w0 F M w vs hS hT => ?_⟩
 obtain rfl : vs = [t.v] := by
  match vs, hT with
  | [v], hT => simp only [RepT, Rep, and_true] at hT; rw [hT.1]
 rcases row_ints hS hs with ⟨rfl, p, hv⟩ | ⟨g, cap, hb, hv, hH, hg, hc, hn⟩
 ·rw [hv]
  refine (Any.slices_Sort_int_none Tryz.lays189 p 0 w).mono ?_
  rintro e w' ⟨rfl, rfl⟩
  exact ⟨_, F, .tup [], _, rfl, Fz.le_refl F, hS, by simp only [Rep]; exact ⟨[], rfl, by simp [RepT]⟩, rfl, by simp⟩
 ·rw [hv]
  refine (Any.slices_Sort_int Tryz.lays189 g 0 cap l w hH hg (by omega)).mono ?_
  rintro e w' ⟨rfl, q, os, rfl⟩
  exact ⟨_, F, .tup [], _, rfl, Fz.le_refl F, hS.putInts hs (by simp) hb q os, by simp only [Rep]; exact ⟨[], rfl, by simp [RepT]⟩, rfl, rfl⟩
theorem compact_c (t : Tok) (l : List Int) (hs : t.s = 1) (hl : l.length ≤ 1000000000) :
  ACall Tryz.prog 120 [.ms t] [.row t (l.map (PV.int .i64))] (fun y Γ' => ∃ t' : Tok, t'.e = t.e ∧ t'.s = 1 ∧ y = .ms t' ∧ Γ' = [.row t' ((Lib.compact l).map (PV.int .i64))]) := by
 refine ⟨⟨_, Tryz.func120, rfl, rfl⟩, fun w0 F M w vs hS hT => ?_⟩
 obtain ⟨rfl, h1⟩ : vs = [t.v] ∧ t.v.oneCell' = true := by
  match vs, hT with
  | [v], hT => simp only [RepT, Rep, and_true] at hT; rw [hT.1]; exact ⟨rfl, hT.2⟩
 rcases row_ints hS hs with ⟨rfl, p, hv⟩ | ⟨g, cap, hb, hv, hH, hg, hc, hn⟩
 ·rw [hv]
  refine (Any.slices_Compact_int_empty Tryz.laysNm220 p 0 w).mono ?_
  rintro e w' ⟨rfl, rfl⟩
  exact ⟨_, F, .ms t, _, rfl, Fz.le_refl F, hS, by simp only [Rep]; exact ⟨hv.symm, h1⟩, t, rfl, hs, rfl, by simp [Lib.compact, Lib.compactUpTo]⟩
 ·rw [hv]
  refine (Any.slices_Compact_int Tryz.laysNm220 g 0 cap l w hH (by omega) hc).mono ?_
  rintro e w' ⟨rfl, q, rfl⟩
  have hle := compact_len l
  have h2 := hS.putInts (ts := Lib.compact l ++ List.replicate (l.length - (Lib.compact l).length) 0) hs (by simp; omega) hb q #[]
  rw [grow_empty] at h2
  have h3 := Sim.take_row (M1 := []) h2 hb (by rw [hn]; exact hv) (Lib.compact l).length (by simp)
  have fin : ∀ T : Tok, T = ⟨.slice (some ⟨g, 0, none⟩) (Lib.compact l).length cap, (Lib.compact l).length, t.s, t.e, some g⟩ → ∃ v F' y Γ', (Ending.returned (.slice (some ⟨g, 0, none⟩) (Lib.compact l).length cap)) = .returned v ∧ F.le F' ∧ Sim w0 F' (Γ' ++ M) (putRow (Value.int .i64) (Sort.ahead w q) g 0 (Lib.compact l ++ List.replicate (l.length - (Lib.compact l).length) 0).toArray) ∧ Rep F' y v ∧ ∃ t' : Tok, t'.e = t.e ∧ t'.s = 1 ∧ y = .ms t' ∧ Γ' = [.row t' ((Lib.compact l).map (PV.int .i64))] := by
   intro T hT
   subst hT
   refine ⟨_, F, .ms ⟨.slice (some ⟨g, 0, none⟩) (Lib.compact l).length cap, (Lib.compact l).length, t.s, t.e, some g⟩, [.row ⟨.slice (some ⟨g, 0, none⟩) (Lib.compact l).length cap, (Lib.compact l).length, t.s, t.e, some g⟩ ((Lib.compact l).map (PV.int .i64))], rfl, Fz.le_refl F, ?_, by unfold Rep; exact ⟨rfl, rfl⟩, ⟨.slice (some ⟨g, 0, none⟩) (Lib.compact l).length cap, (Lib.compact l).length, t.s, t.e, some g⟩, rfl, hs, rfl, rfl⟩
   simpa using h3
  exact fin _ rfl
end Go.Cb
namespace Go.Cb
open Go.Proofs
set_option maxRecDepth 100000
set_option maxHeartbeats 4000000
end Go.Cb
namespace Go.Cb
open Go.Proofs
set_option maxRecDepth 100000
set_option maxHeartbeats 4000000
mutual
def Trm.sh (k : Int) : Trm → Trm
 | .mk op n v t => .mk op (if namesB op = true then n + k else n) (v.map (· + k)) (Trm.shs k t)
def Trm.shs (k : Int) : List Trm → List Trm
 | [] => []
 | x :: xs => Trm.sh k x :: Trm.shs k xs
end
theorem Trm.shs_eq (k : Int) : ∀ l : List Trm, Trm.shs k l = l.map (Trm.sh k)
 | [] => rfl
 | x :: l => by rw [Trm.shs, List.map_cons, Trm.shs_eq k l]
theorem Trm.sh_op (k : Int) (t : Trm) : (t.sh k).op = t.op := by cases t; rw [Trm.sh]; rfl
theorem Trm.sh_n (k : Int) (t : Trm) : (t.sh k).n = if namesB t.op = true then t.n + k else t.n := by cases t; rw [Trm.sh]; rfl
theorem Trm.sh_v (k : Int) (t : Trm) : (t.sh k).v = t.v.map (· + k) := by cases t; rw [Trm.sh]; rfl
theorem Trm.sh_t (k : Int) (t : Trm) : (t.sh k).t = t.t.map (Trm.sh k) := by cases t; rw [Trm.sh, ← Trm.shs_eq]; rfl
theorem Trm.sh_cnt (k : Int) (t : Trm) : (t.sh k).cnt = t.cnt := by
 induction t using Trm.ind with
 | h t ih =>
  have : ∀ l : List Trm, (∀ x ∈ l, (x.sh k).cnt = x.cnt) → Trm.cnts (l.map (Trm.sh k)) = Trm.cnts l := by
   intro l
   induction l with
   | nil => intro _; rfl
   | cons y l ihl => intro h; rw [List.map_cons, Trm.cnts, Trm.cnts, h y (by simp), ihl fun x hx => h x (by simp [hx])]
  rw [Trm.cnt_eq, Trm.cnt_eq, Trm.sh_t, this t.t ih]
theorem Trm.sh_vars (k : Int) (t : Trm) : (t.sh k).vars = t.vars.map (· + k) := by
 induction t using Trm.ind with
 | h t ih =>
  have : ∀ l : List Trm, (∀ x ∈ l, (x.sh k).vars = x.vars.map (· + k)) → Trm.varss (l.map (Trm.sh k)) = (Trm.varss l).map (· + k) := by
   intro l
   induction l with
   | nil => intro _; rfl
   | cons y l ihl => intro h; rw [List.map_cons, Trm.varss, Trm.varss, h y (by simp), ihl fun x hx => h x (by simp [hx]), List.map_append]
  rw [Trm.vars_eq, Trm.vars_eq, Trm.sh_t, Trm.sh_v, this t.t ih, List.map_append]
theorem sh_number (k c codes : Int) (free : Bool) (t : Trm) (scope : List Int) (h : numberL c codes free t scope = true) : numberL c codes free (t.sh k) (scope.map (· + k)) = true := by
 unfold numberL at h ⊢
 rw [Trm.sh_op, Trm.sh_n, Trm.sh_v, List.length_map]
 by_cases hn : t.op = 1 ∨ t.op = 2 ∨ t.op = 14
 ·rw [if_neg (by omega), if_pos hn] at h ⊢
  have : namesB t.op = true := by simp [namesB]; omega
  rw [if_pos this]
  simp at h ⊢
  exact h
 ·have : ¬ namesB t.op = true := by simp [namesB]; omega
  rw [if_neg this, if_neg hn]
  rw [if_neg hn] at h
  exact h
theorem Trm.sh_ok {level c codes : Int} {free : Bool} (k : Int) (t : Trm) : ∀ {scope : List Int} {deep : Int}, t.okT level c codes free scope deep → (t.sh k).okT level c codes free (scope.map (· + k)) deep := by
 induction t using Trm.ind with
 | h t ih =>
  intro scope deep h
  rw [Trm.okT_eq] at h ⊢
  have key : ∀ (op : Int) (sc inner : List Int) (deep : Int) (l : List Trm), (∀ y ∈ l, ∀ {scope : List Int} {deep : Int}, y.okT level c codes free scope deep → (y.sh k).okT level c codes free (scope.map (· + k)) deep) →
    Trm.okTs level c codes free op sc inner l deep → Trm.okTs level c codes free op (sc.map (· + k)) (inner.map (· + k)) (l.map (Trm.sh k)) deep := by
   intro op sc inner deep l
   induction l with
   | nil => intro _ _; simp [Trm.okTs]
   | cons x l ihl =>
    intro hy hk
    rw [Trm.okTs] at hk
    rw [List.map_cons, Trm.okTs, Trm.sh_op]
    have e : l.map (Trm.sh k) = [] ↔ l = [] := by simp
    refine ⟨fun hh => hk.1 ⟨hh.1, fun h2 => hh.2.1 (e.2 h2), hh.2.2⟩, ?_, ihl (fun z hz => hy z (by simp [hz])) hk.2.2⟩
    have h2 := hy x (by simp) hk.2.1
    by_cases h3 : l = [] ∨ op = 7 ∨ op = 9
    ·rw [if_pos h3] at h2
     rw [if_pos (h3.imp_left e.2)]
     exact h2
    ·rw [if_neg h3] at h2
     rw [if_neg (fun h4 => h3 (h4.imp_left e.1))]
     exact h2
  rw [Trm.sh_op, Trm.sh_v, Trm.sh_t, ← List.map_append]
  refine ⟨⟨h.1.1, h.1.2.1, ?_, sh_number k _ _ _ _ _ h.1.2.2.2⟩, key _ _ _ _ _ ih h.2⟩
  have := h.1.2.2.1
  unfold countsL at this ⊢
  simp only [Trm.sh_op, Trm.sh_v, Trm.sh_t, List.length_map]
  exact this
theorem RightP.sh {p : Prog} {level : Int} (h : RightP p level) (k : Int) (h0 : 0 ≤ k) (hk : ∀ x ∈ p.body.vars, x + k ≤ 1000000) : RightP ⟨p.consts, p.body.sh k⟩ level := by
 obtain ⟨h1, h2, h3, h4, h5⟩ := h
 refine ⟨h1, h2, p.body.sh_ok k h3, by rw [show (⟨p.consts, p.body.sh k⟩ : Prog).body = p.body.sh k from rfl, Trm.sh_cnt]; exact h4, ?_⟩
 show Dist (p.body.sh k).vars []
 rw [Trm.sh_vars]
 refine ⟨fun x hx => ?_, ?_⟩
 ·obtain ⟨y, hy, rfl⟩ := List.mem_map.1 hx
  have := h5.1 y hy
  have := hk y hy
  exact ⟨by omega, by omega, by simp⟩
 ·exact List.Pairwise.map _ (fun a b hab => by omega) h5.2
end Go.Cb
namespace Go.Cb
open Go.Proofs
set_option maxRecDepth 100000
set_option maxHeartbeats 4000000
mutual
def Trm.asg : Trm → List Int
 | .mk op n _ t => (if op = 2 ∨ op = 14 then [n] else []) ++ Trm.asgs t
def Trm.asgs : List Trm → List Int
 | [] => []
 | x :: xs => Trm.asg x ++ Trm.asgs xs
end
def refT (v : Int) : Trm := .mk 1 v [] []
def boxT (t : Trm) : Trm := .mk 15 0 [] [t]
def lamV (A : Int → Bool) : List Int → Int → List Int
 | [], _ => []
 | x :: xs, k => if A x = true then k :: lamV A xs (k + 1) else x :: lamV A xs k
def lamT (A : Int → Bool) : List Int → Int → List Trm
 | [], _ => []
 | x :: xs, k => if A x = true then boxT (refT k) :: lamT A xs (k + 1) else lamT A xs k
def lamN (A : Int → Bool) (l : List Int) : Int := ((l.filter A).length : Int)
def boxAll (A : Int → Bool) : List Int → List Trm → List Trm
 | v :: vs, x :: xs => (if A v = true then boxT x else x) :: boxAll A vs xs
 | _, l => l
def fixT (A : Int → Bool) : List Int → List Trm → List Trm
 | v :: vs, x :: xs => if A v = true then fixT A vs xs else x :: fixT A vs xs
 | _, _ => []
def fixO (A : Int → Bool) : List Int → List Trm → Trm → Trm
 | v :: vs, x :: xs, o => if A v = true then .mk 6 0 [] [.mk 17 0 [] [refT v, x], fixO A vs xs o] else fixO A vs xs o
 | _, _, o => o
def fixE (A : Int → Bool) (vs : List Int) (l : List Trm) : Trm :=
 let o := fixO A vs l (l.getD vs.length (refT 0))
 if vs.filter (fun v => !A v) = [] then o else .mk 9 0 (vs.filter fun v => !A v) (fixT A vs l ++ [o])
def fixR (A : Int → Bool) (vs : List Int) (l : List Trm) : Trm :=
 .mk 8 0 (vs.filter A) ((vs.filter A).map (fun _ => boxT (.mk 13 0 [] [])) ++ [fixE A vs l])
mutual
def Trm.fr (A : Int → Bool) : Trm → Int
 | .mk op _ v t => (if op = 4 then lamN A v else 0) + Trm.frs A t
def Trm.frs (A : Int → Bool) : List Trm → Int
 | [] => 0
 | x :: xs => Trm.fr A x + Trm.frs A xs
end
mutual
def Trm.cv (A : Int → Bool) : Trm → Int → Trm
 | .mk op n v t, k =>
  if op = 1 ∧ A n = true then .mk 16 0 [] [.mk op n v t]
  else if op = 2 then .mk 17 0 [] (refT n :: Trm.cvs A t k)
  else if op = 14 then .mk 18 0 [] (refT n :: Trm.cvs A t k)
  else if op = 4 then .mk 4 n (lamV A v k) (if v.filter A = [] then Trm.cvs A t (k + lamN A v) else [.mk 8 0 (v.filter A) (lamT A v k ++ Trm.cvs A t (k + lamN A v))])
  else if op = 9 ∧ v.any A = true then fixR A v (Trm.cvs A t k)
  else .mk op n v (if op = 8 then boxAll A v (Trm.cvs A t k) else Trm.cvs A t k)
def Trm.cvs (A : Int → Bool) : List Trm → Int → List Trm
 | [], _ => []
 | x :: xs, k => Trm.cv A x k :: Trm.cvs A xs (k + Trm.fr A x)
end
mutual
def Trm.shp : Trm → Prop
 | .mk op n v t => ((op = 1 → v = [] ∧ t = []) ∧ (op = 2 ∨ op = 14 ∨ op = 4 → t.length = 1) ∧ (op = 8 ∨ op = 9 → t.length = v.length + 1) ∧ (op = 9 → n = 0)) ∧ Trm.shps t
def Trm.shps : List Trm → Prop
 | [] => True
 | x :: xs => Trm.shp x ∧ Trm.shps xs
end
mutual
def Trm.nam : Trm → List Int
 | .mk op n v t => (if op = 1 then [n] else []) ++ v ++ Trm.nams t
def Trm.nams : List Trm → List Int
 | [] => []
 | x :: xs => Trm.nam x ++ Trm.nams xs
end
def Trm.sz (l : List Trm) : Int := Trm.cnts l
theorem Trm.cnts_append : ∀ l m : List Trm, Trm.cnts (l ++ m) = Trm.cnts l + Trm.cnts m
 | [], m => by simp [Trm.cnts]
 | x :: l, m => by rw [List.cons_append, Trm.cnts, Trm.cnts, Trm.cnts_append l m]; omega
theorem boxT_cnt (t : Trm) : (boxT t).cnt = 1 + t.cnt := by rw [boxT, Trm.cnt, Trm.cnts, Trm.cnts]; omega
def Szs : List Trm → List Trm → Prop
 | [], [] => True
 | x :: l, y :: m => x.cnt = y.cnt ∧ Szs l m
 | _, _ => False
theorem Szs.cnts : ∀ {l m : List Trm}, Szs l m → Trm.cnts l = Trm.cnts m
 | [], [], _ => rfl
 | x :: l, y :: m, h => by rw [Trm.cnts, Trm.cnts, h.1, h.2.cnts]
 | [], _ :: _, h => h.elim
 | _ :: _, [], h => h.elim
theorem Szs.getD : ∀ {l m : List Trm} (i : Nat) (d : Trm), Szs l m → (l.getD i d).cnt = (m.getD i d).cnt
 | [], [], _, _, _ => rfl
 | x :: l, y :: m, 0, d, h => by simpa using h.1
 | x :: l, y :: m, i + 1, d, h => by simpa using h.2.getD i d
 | [], _ :: _, _, _, h => h.elim
 | _ :: _, [], _, _, h => h.elim
theorem Szs.boxAll (A : Int → Bool) : ∀ (vs : List Int) {l m : List Trm}, Szs l m → Szs (boxAll A vs l) (boxAll A vs m)
 | [], l, m, h => by simpa [Go.Cb.boxAll] using h
 | _ :: _, [], [], h => by simp [Go.Cb.boxAll, Szs]
 | v :: vs, x :: l, y :: m, h => by
  rw [Go.Cb.boxAll, Go.Cb.boxAll]
  refine ⟨?_, h.2.boxAll A vs⟩
  split
  ·rw [boxT_cnt, boxT_cnt, h.1]
  ·exact h.1
 | _ :: _, [], _ :: _, h => h.elim
 | _ :: _, _ :: _, [], h => h.elim
theorem Szs.fixT (A : Int → Bool) : ∀ (vs : List Int) {l m : List Trm}, Szs l m → Szs (fixT A vs l) (fixT A vs m)
 | [], l, m, h => by simp [Go.Cb.fixT, Szs]
 | _ :: _, [], [], h => by simp [Go.Cb.fixT, Szs]
 | v :: vs, x :: l, y :: m, h => by
  rw [Go.Cb.fixT, Go.Cb.fixT]
  split
  ·exact h.2.fixT A vs
  ·exact ⟨h.1, h.2.fixT A vs⟩
 | _ :: _, [], _ :: _, h => h.elim
 | _ :: _, _ :: _, [], h => h.elim
theorem Szs.fixO (A : Int → Bool) : ∀ (vs : List Int) {l m : List Trm} {o u : Trm}, Szs l m → o.cnt = u.cnt → (fixO A vs l o).cnt = (fixO A vs m u).cnt
 | [], l, m, o, u, h, ho => by simpa [Go.Cb.fixO] using ho
 | _ :: _, [], [], o, u, h, ho => by simpa [Go.Cb.fixO] using ho
 | v :: vs, x :: l, y :: m, o, u, h, ho => by
  rw [Go.Cb.fixO, Go.Cb.fixO]
  have ih := h.2.fixO A vs ho
  split
  ·simp only [Trm.cnt, Trm.cnts, h.1, ih]
  ·exact ih
 | _ :: _, [], _ :: _, _, _, h, _ => h.elim
 | _ :: _, _ :: _, [], _, _, h, _ => h.elim
theorem Szs.fixR (A : Int → Bool) (vs : List Int) {l m : List Trm} (h : Szs l m) : (fixR A vs l).cnt = (fixR A vs m).cnt := by
 have ho := h.fixO A vs (h.getD vs.length (refT 0))
 have ht := (h.fixT A vs).cnts
 unfold Go.Cb.fixR fixE
 simp only
 split
 ·simp only [Trm.cnt, Trm.cnts_append, Trm.cnts, ho]
 ·simp only [Trm.cnt, Trm.cnts_append, Trm.cnts, ho, ht]
section
variable {A B : Int → Bool} {s : Int} (hAB : ∀ v, B (v + s) = A v)
include hAB
end
end Go.Cb
namespace Go.Cb
open Go.Proofs
set_option maxRecDepth 100000
set_option maxHeartbeats 4000000
mutual
def Trm.uC (P : Int → Int → Bool) : Trm → Int → Int
 | .mk op n _ t, deep => (if P op n = true then 1 else 0) + (if deep < 1000 then Trm.uCs P t (deep + 1) else 0)
def Trm.uCs (P : Int → Int → Bool) : List Trm → Int → Int
 | [], _ => 0
 | x :: xs, deep => Trm.uC P x deep + Trm.uCs P xs deep
end
def putI (l : List Int) (v : Int) : List Int := l.takeWhile (fun x => decide (x < v)) ++ (if (l.dropWhile fun x => decide (x < v)).head? = some v then l.dropWhile (fun x => decide (x < v)) else v :: l.dropWhile fun x => decide (x < v))
mutual
def Trm.bD : Trm → Int → List Int → List Int
 | .mk _ _ v t, deep, out => if deep < 1000 then Trm.bDs t (deep + 1) (v.foldl putI out) else v.foldl putI out
def Trm.bDs : List Trm → Int → List Int → List Int
 | [], _, out => out
 | x :: xs, deep, out => Trm.bDs xs deep (Trm.bD x deep out)
end
end Go.Cb

