/-
 Contracts: the document's reader of images: a procedure's code.
 Contracts: many moves at once, one by one.
 Contracts: moves, told one by one.
 Contracts: moves that happen at once, in an order.
 Contracts: a call that ends its procedure, as words; the moves are given.
 Contracts: the image of a unit, its calls moved.
 Contracts: the document's reader of images: procedures.
 Contracts: emission's laws: the document's example; procedures that are the same; the procedures of any words.
 Contracts: few; alike what is alike.
 From the readings of arguments to values, and from a contract to what a statement asks.
 The program's data, read at the seat's types; the bulk.
 Lists of numbers, read at the seat's types.
 Units, read at the seat's types.
 A world that holds the listed tables: the statements' witness.
-/
import Derived.Carry
import Derived.ChangeArms
import Derived.ChangeSame
import Derived.Deep.DeepHandedRow
import Derived.Deep.DeepWitnessRowRef
import Derived.KernelRfl
import Derived.Lib.LaidIn
import Derived.OpenShut
import Derived.OpenVars
import Derived.RowKit
import Derived.Test.YtklpioocdgfbmaaGreatDoorRows
import Derived.WideShapes
import Derived.Test.YtklpioocdgfbmaaGreatDoorS6
set_option linter.unusedSimpArgs false
set_option linter.unusedVariables false
namespace Go.Cb
open Go.Proofs
set_option maxRecDepth 100000
set_option maxHeartbeats 4000000
end Go.Cb
namespace Go.Cb
open Go.Proofs
set_option maxRecDepth 100000
set_option maxHeartbeats 4000000
theorem sorted_keys {A : List Int} {s : Lft} (hn : A.Nodup) (h : ∀ z, z ∈ A ↔ z ∈ keysL s) : (A.mergeSort fun x y => decide (x ≤ y)) = keysL s := by
 have h1 : (A.mergeSort fun x y => decide (x ≤ y)).Pairwise (fun x y => decide (x ≤ y) = true) := List.pairwise_mergeSort (by intro a b c; simp; omega) (by intro a b; simp; omega) A
 have h2 : (keysL s).Pairwise (fun x y => decide (x ≤ y) = true) := by
  unfold keysL
  rw [List.pairwise_map]
  exact (keyN_sorted s).imp fun {a b} h => by simp; omega
 have hk : (keysL s).Nodup := by
  unfold keysL
  rw [List.Nodup, List.pairwise_map]
  exact (keyN_sorted s).imp fun {a b} h => by simp; omega
 have hp : (A.mergeSort fun x y => decide (x ≤ y)).Perm (keysL s) := (List.mergeSort_perm A _).trans ((List.perm_ext_iff_of_nodup hn hk).2 h)
 exact hp.eq_of_pairwise (fun a b _ _ h1 h2 => by simp at h1 h2; omega) h1 h2
abbrev frR (s : Lft) : PV := match freeF s with
 | some i => .tup [.int .i64 i, .btrue]
 | none => .tup [.int .i64 (hdN s), .bfalse]
theorem nodup_le15 : ∀ {A B : List Int}, A.Nodup → (∀ z ∈ A, z ∈ B) → A.length ≤ B.length
 | [], _, _, _ => Nat.zero_le _
 | a :: A, B, h, hs => by
  rw [List.nodup_cons] at h
  have := nodup_le15 (A := A) (B := B.erase a) h.2 fun z hz => (List.mem_erase_of_ne (by rintro rfl; exact h.1 hz)).2 (hs z (by simp [hz]))
  rw [List.length_erase_of_mem (hs a (by simp))] at this
  have h0 : 0 < B.length := List.length_pos_of_mem (hs a (by simp))
  rw [List.length_cons]
  omega
theorem Shift.ghost {x : PV} {Γ Γ' : List Ent} (hg : Ghost Γ Γ') : Shift x Γ x Γ' := fun w0 F M w v hS hx => by
 obtain ⟨F', h1, h2⟩ := hg w0 F M w hS
 exact ⟨F', h1, h2, Rep.mono h1 x v hx⟩
theorem PRet.ghost {x : PV} {Γ Γ' : List Ent} {Q : PV → List Ent → Prop} (hg : Ghost Γ Γ') (h : PRet x Γ' Q) : PRet x Γ Q := by
 obtain ⟨y, Γ2, h1, h2⟩ := h
 exact ⟨y, Γ2, Shift.trans (Shift.ghost hg) h1, h2⟩
theorem Ghost.nilRowN (Γ : List Ent) : Ghost Γ (.row (nilTok 1 3) (([] : List Int).map (PV.int .i64)) :: Γ) := Ghost.nilRow _ _ _
theorem find_at {α : Type} {p : α → Bool} : ∀ (l : List α) (j : Nat) (hj : j < l.length), (∀ i (h : i < j), p (l[i]'(by omega)) = false) → p l[j] = true → l.find? p = some l[j]
 | [], j, hj, _, _ => absurd hj (by simp)
 | x :: l, 0, hj, _, hp => by rw [List.getElem_cons_zero, List.find?_cons_of_pos (by simpa using hp)]
 | x :: l, j + 1, hj, h, hp => by
  rw [List.find?_cons_of_neg (by have := h 0 (by omega); simpa using this), List.getElem_cons_succ]
  exact find_at l j (by simpa using hj) (fun i hi => by have := h (i + 1) (by omega); simpa using this) (by simpa using hp)
theorem keysL_get {s : Lft} {j : Nat} (h : j < (keysL s).length) : (keysL s)[j] = ((keyN s)[j]'(by simpa [keysL] using h) : Nat) := by simp [keysL]
theorem filt_lt15 {α : Type} {p q : α → Bool} (h : ∀ x, q x = true → p x = true) : ∀ l : List α, (∃ x ∈ l, p x = true ∧ q x = false) → (l.filter q).length < (l.filter p).length
 | [], ⟨x, hx, _⟩ => by cases hx
 | y :: l, ⟨x, hx, h1, h2⟩ => by
  have hle : ∀ l : List α, (l.filter q).length ≤ (l.filter p).length := by
   intro l
   induction l with
   | nil => simp
   | cons z l ih =>
    by_cases hq : q z = true
    ·rw [List.filter_cons_of_pos hq, List.filter_cons_of_pos (h z hq)]; simp; exact ih
    ·rw [List.filter_cons_of_neg hq]
     by_cases hp : p z = true
     ·rw [List.filter_cons_of_pos hp]; simp; omega
     ·rw [List.filter_cons_of_neg hp]; exact ih
  rcases List.mem_cons.1 hx with rfl | hx
  ·rw [List.filter_cons_of_neg (by simp [h2]), List.filter_cons_of_pos h1]
   have := hle l
   simp; omega
  ·have ih := filt_lt15 h l ⟨x, hx, h1, h2⟩
   by_cases hq : q y = true
   ·rw [List.filter_cons_of_pos hq, List.filter_cons_of_pos (h y hq)]; simp; exact ih
   ·rw [List.filter_cons_of_neg hq]
    by_cases hp : p y = true
    ·rw [List.filter_cons_of_pos hp]; simp; omega
    ·rw [List.filter_cons_of_neg hp]; exact ih
theorem free15_c (r : Nat) (s : Lft) (hk : keyN s ≠ []) (hl : s.length ≤ 1000) : ACall Tryz.prog 235 [.mp r] [.mp r (.int .i64) (mapM (PV.int .i64) (mvM s)) []]
  (fun y Γ' => y = frR s ∧ Γ' = [.mp r (.int .i64) (mapM (PV.int .i64) (mvM s)) []]) := by
 have hkl : (keysL s).length = (keyN s).length := by simp [keysL]
 have hkn := keyN_len s
 have hk0 : 0 < (keyN s).length := List.length_pos_iff.2 hk
 refine ACall.of_body tt_ok Tryz.func235 rfl rfl (n := 41) rfl rfl ?_
 conv => whnf
 repeat' (first|((first|((first|(apply zY;intro hg)|apply zZ);first|exact stA|exact stB|exact stC)|(refine zW ?_ ?_;exact gA)|refine zH rfl ?_|refine zA ?_|refine zI bA ?_|refine zI rfl ?_|refine sB ?_|(refine zO ?_ ?_ ?_;omega;omega)|(refine zP ?_ ?_ ?_;omega;omega)|refine zM rfl ?_|(refine zQ ?_ ?_ ?_;omega;omega)|(refine zR ?_ ?_;omega)|(refine zI ?_ ?_;exact nA)|refine sS ?_|refine sF ?_|refine n0 ?_|refine sD ?_|intro _|refine zG ?_);conv=>whnf)|(refine zX (fun hc => ?_) (fun hc => ?_)<;>(try simp only [SY] at hc)<;>first|omega|(conv=>whnf)))
 rename_i r2
 rw [setM_nil]
 refine PRangeM.num fun bI all cl hAll hcl => ?_
 conv => whnf
 repeat' (first|((first|((first|(apply zY;intro hg)|apply zZ);first|exact stA|exact stB|exact stC)|(refine zW ?_ ?_;exact gA)|refine zH rfl ?_|refine zA ?_|refine zI bA ?_|refine zI rfl ?_|refine sB ?_|(refine zO ?_ ?_ ?_;omega;omega)|(refine zP ?_ ?_ ?_;omega;omega)|refine zM rfl ?_|(refine zQ ?_ ?_ ?_;omega;omega)|(refine zR ?_ ?_;omega)|(refine zI ?_ ?_;exact nA)|refine sS ?_|refine sF ?_|refine n0 ?_|refine sD ?_|intro _|refine zG ?_);conv=>whnf)|(refine zX (fun hc => ?_) (fun hc => ?_)<;>(try simp only [SY] at hc)<;>first|omega|(conv=>whnf)))
 refine PLoop.ghost (Ghost.nilRowN _) ?_
 refine PLoop.over [5, 6, 7, 13, 14, 15, 16, 17, 18, 19, 20, 21, 22, 23] (fun x : Array Nat × List Int × List Int × Tok => [(5, .ms x.2.2.2)])
  (fun x => .ob bI (itO r cl x.1) [] [] :: .mp r (.int .i64) (mapM (PV.int .i64) (mvM s)) (pdI cl all) :: .mp r2 (.int .i64) (setM x.2.1) [] :: .row x.2.2.2 (x.2.2.1.map (PV.int .i64)) :: [])
  (fun x => x.2.2.2.e = 3 ∧ x.2.2.2.s = 1 ∧ x.2.2.1.Nodup ∧ (∀ z, z ∈ x.2.2.1 ↔ ∃ n, n ∈ x.1.toList ∧ (n, z) ∈ all) ∧ (∀ z, z ∈ x.2.1 ↔ ∃ n k, n ∈ x.1.toList ∧ (n, k) ∈ all ∧ mvM s k = some z)) (fun x => (all.filter fun q => decide (q.1 ∉ x.1.toList)).length) (#[], [], [], nilTok 1 3) ⟨rfl, rfl, by simp, by simp, by simp⟩ (by repeat' (first|exact trivial|refine And.intro ?_ ?_|exact Wk.nilRow _ _|exact Wk.nilTok _ _|exact Wk.refl _)) ?_
 rintro ⟨seen, W, A, ta⟩ ⟨ha1, ha2, hnd, hA, hW⟩
 dsimp only at ha1 ha2 hnd hA hW ⊢
 have hsub : ∀ z ∈ A, z ∈ keysL s := fun z hz => by
  obtain ⟨n, _, hn⟩ := (hA z).1 hz
  exact mvM_dom.1 ((hAll.dom z).2 ⟨n, hn⟩)
 have hAl : A.length ≤ 1000 := by
  have := nodup_le15 hnd hsub
  omega
 conv => whnf
 repeat' (first|((first|((first|(apply zY;intro hg)|apply zZ);first|exact stA|exact stB|exact stC)|(refine zW ?_ ?_;exact gA)|refine zH rfl ?_|refine zA ?_|refine zI bA ?_|refine zI rfl ?_|refine sB ?_|(refine zO ?_ ?_ ?_;omega;omega)|(refine zP ?_ ?_ ?_;omega;omega)|refine zM rfl ?_|(refine zQ ?_ ?_ ?_;omega;omega)|(refine zR ?_ ?_;omega)|(refine zI ?_ ?_;exact nA)|refine sS ?_|refine sF ?_|refine n0 ?_|refine sD ?_|intro _|refine zG ?_);conv=>whnf)|(refine zX (fun hc => ?_) (fun hc => ?_)<;>(try simp only [SY] at hc)<;>first|omega|(conv=>whnf)))
 refine PNextM.num hAll hcl (fun n z y hn hz hs => ?_) (fun hs => ?_)
 ·conv => whnf
  repeat' (first|((first|((first|(apply zY;intro hg)|apply zZ);first|exact stA|exact stB|exact stC)|(refine zW ?_ ?_;exact gA)|refine zH rfl ?_|refine zA ?_|refine zI bA ?_|refine zI rfl ?_|refine sB ?_|(refine zO ?_ ?_ ?_;omega;omega)|(refine zP ?_ ?_ ?_;omega;omega)|refine zM rfl ?_|(refine zQ ?_ ?_ ?_;omega;omega)|(refine zR ?_ ?_;omega)|(refine zI ?_ ?_;exact nA)|refine sS ?_|refine sF ?_|refine n0 ?_|refine sD ?_|intro _|refine zG ?_);conv=>whnf)|(refine zX (fun hc => ?_) (fun hc => ?_)<;>(try simp only [SY] at hc)<;>first|omega|(conv=>whnf)))
  refine PEntryM.num z y hn hz ?_
  conv => whnf
  repeat' (first|((first|((first|(apply zY;intro hg)|apply zZ);first|exact stA|exact stB|exact stC)|(refine zW ?_ ?_;exact gA)|refine zH rfl ?_|refine zA ?_|refine zI bA ?_|refine zI rfl ?_|refine sB ?_|(refine zO ?_ ?_ ?_;omega;omega)|(refine zP ?_ ?_ ?_;omega;omega)|refine zM rfl ?_|(refine zQ ?_ ?_ ?_;omega;omega)|(refine zR ?_ ?_;omega)|(refine zI ?_ ?_;exact nA)|refine sS ?_|refine sF ?_|refine n0 ?_|refine sD ?_|intro _|refine zG ?_);conv=>whnf)|(refine zX (fun hc => ?_) (fun hc => ?_)<;>(try simp only [SY] at hc)<;>first|omega|(conv=>whnf)))
  rename_i t2 ht2 hs2
  refine loopTo (seen.push n, y :: W, A ++ [z], t2) ⟨ht2, hs2, ?_, fun k => ?_, fun k => ?_⟩ ?_ wA
  ·show (A ++ [z]).Nodup
   rw [List.nodup_append]
   refine ⟨hnd, by simp, ?_⟩
   rintro a ha b hb rfl
   rw [List.mem_singleton] at hb
   subst hb
   obtain ⟨n2, q1, q2⟩ := (hA a).1 ha
   have := nodup_inj hAll.nk hn q2 rfl
   cases this
   exact hs q1
  ·show k ∈ A ++ [z] ↔ _
   rw [List.mem_append, List.mem_singleton, hA]
   simp only [Array.toList_push, List.mem_append, List.mem_singleton]
   constructor
   ·rintro (⟨n2, q1, q2⟩ | rfl)
    ·exact ⟨n2, .inl q1, q2⟩
    ·exact ⟨n, .inr rfl, hn⟩
   ·rintro ⟨n2, q1 | rfl, q2⟩
    ·exact .inl ⟨n2, q1, q2⟩
    ·have := nodup_inj hAll.nb hn q2 rfl
     cases this
     exact .inr rfl
  ·show k ∈ y :: W ↔ _
   rw [List.mem_cons, hW]
   simp only [Array.toList_push, List.mem_append, List.mem_singleton]
   constructor
   ·rintro (rfl | ⟨n2, k2, q1, q2, q3⟩)
    ·exact ⟨n, z, .inr rfl, hn, hz⟩
    ·exact ⟨n2, k2, .inl q1, q2, q3⟩
   ·rintro ⟨n2, k2, q1 | rfl, q2, q3⟩
    ·exact .inr ⟨n2, k2, q1, q2, q3⟩
    ·have := nodup_inj hAll.nb hn q2 rfl
     cases this
     rw [hz] at q3
     cases q3
     exact .inl rfl
  ·refine filt_lt15 (fun q hq => ?_) all ⟨(n, z), hn, by simpa using hs, by simp⟩
   simp only [Array.toList_push, List.mem_append, List.mem_singleton, not_or, decide_eq_true_eq] at hq ⊢
   exact hq.1
 ·have hAk : ∀ z, z ∈ A ↔ z ∈ keysL s := fun z => by
   rw [hA, ← mvM_dom, hAll.dom]
   exact ⟨fun ⟨n, _, h⟩ => ⟨n, h⟩, fun ⟨n, h⟩ => ⟨n, hs _ h, h⟩⟩
  have hWk : ∀ z, W.contains z = usedB s z := fun z => by
   rw [Bool.eq_iff_iff, List.contains_iff_mem, hW, used_iff]
   constructor
   ·rintro ⟨n, k, _, _, h⟩
    exact ⟨k, h⟩
   ·rintro ⟨k, h⟩
    obtain ⟨n, hn⟩ := (hAll.dom k).1 (by rw [h]; simp)
    exact ⟨n, k, hs _ hn, hn, h⟩
  conv => whnf
  repeat' (first|((first|((first|(apply zY;intro hg)|apply zZ);first|exact stA|exact stB|exact stC)|(refine zW ?_ ?_;exact gA)|refine zH rfl ?_|refine zA ?_|refine zI bA ?_|refine zI rfl ?_|refine sB ?_|(refine zO ?_ ?_ ?_;omega;omega)|(refine zP ?_ ?_ ?_;omega;omega)|refine zM rfl ?_|(refine zQ ?_ ?_ ?_;omega;omega)|(refine zR ?_ ?_;omega)|(refine zI ?_ ?_;exact nA)|refine sS ?_|refine sF ?_|refine n0 ?_|refine sD ?_|intro _|refine zG ?_);conv=>whnf)|(refine zX (fun hc => ?_) (fun hc => ?_)<;>(try simp only [SY] at hc)<;>first|omega|(conv=>whnf)))
  refine PCall.go (sort_c ta A ha2 (by omega)) (WkT.refl _) ?_
  rintro _ _ ⟨rfl, rfl⟩
  rw [sorted_keys hnd hAk]
  conv => whnf
  repeat' (first|((first|((first|(apply zY;intro hg)|apply zZ);first|exact stA|exact stB|exact stC)|(refine zW ?_ ?_;exact gA)|refine zH rfl ?_|refine zA ?_|refine zI bA ?_|refine zI rfl ?_|refine sB ?_|(refine zO ?_ ?_ ?_;omega;omega)|(refine zP ?_ ?_ ?_;omega;omega)|refine zM rfl ?_|(refine zQ ?_ ?_ ?_;omega;omega)|(refine zR ?_ ?_;omega)|(refine zI ?_ ?_;exact nA)|refine sS ?_|refine sF ?_|refine n0 ?_|refine sD ?_|intro _|refine zG ?_);conv=>whnf)|(refine zX (fun hc => ?_) (fun hc => ?_)<;>(try simp only [SY] at hc)<;>first|omega|(conv=>whnf)))
  refine PLenM.map fun _ => ?_
  conv => whnf
  repeat' (first|((first|((first|(apply zY;intro hg)|apply zZ);first|exact stA|exact stB|exact stC)|(refine zW ?_ ?_;exact gA)|refine zH rfl ?_|refine zA ?_|refine zI bA ?_|refine zI rfl ?_|refine sB ?_|(refine zO ?_ ?_ ?_;omega;omega)|(refine zP ?_ ?_ ?_;omega;omega)|refine zM rfl ?_|(refine zQ ?_ ?_ ?_;omega;omega)|(refine zR ?_ ?_;omega)|(refine zI ?_ ?_;exact nA)|refine sS ?_|refine sF ?_|refine n0 ?_|refine sD ?_|intro _|refine zG ?_);conv=>whnf)|(refine zX (fun hc => ?_) (fun hc => ?_)<;>(try simp only [SY] at hc)<;>first|omega|(conv=>whnf)))
  refine PLoop.over [2, 3, 9, 28, 29, 30, 31, 32, 33, 34, 35, 36, 37] (fun x : Nat => [(28, .int .i64 x)])
   (fun x => .row ta ((keysL s).map (PV.int .i64)) :: .mp r2 (.int .i64) (setM W) [] :: .mp r (.int .i64) (mapM (PV.int .i64) (mvM s)) (pdI cl all) :: [])
   (fun x => x ≤ (keysL s).length ∧ ∀ i (h : i < x) (h2 : i < (keyN s).length), usedB s ((keyN s)[i] : Nat) = true) (fun x => (keysL s).length - x) 0 ⟨Nat.zero_le _, fun i h => absurd h (by omega)⟩ wA ?_
  rintro j ⟨hj, hu⟩
  conv => whnf
  repeat' (first|((first|((first|(apply zY;intro hg)|apply zZ);first|exact stA|exact stB|exact stC)|(refine zW ?_ ?_;exact gA)|refine zH rfl ?_|refine zA ?_|refine zI bA ?_|refine zI rfl ?_|refine sB ?_|(refine zO ?_ ?_ ?_;omega;omega)|(refine zP ?_ ?_ ?_;omega;omega)|refine zM rfl ?_|(refine zQ ?_ ?_ ?_;omega;omega)|(refine zR ?_ ?_;omega)|(refine zI ?_ ?_;exact nA)|refine sS ?_|refine sF ?_|refine n0 ?_|refine sD ?_|intro _|refine zG ?_);conv=>whnf)|(refine zX (fun hc => ?_) (fun hc => ?_)<;>(try simp only [SY] at hc)<;>first|omega|(conv=>whnf)))
  ·have hjn : j < (keyN s).length := by omega
   rw [hWk, keysL_get] at hc
   refine PRet.ghost (Γ' := [.row ta ((keysL s).map (PV.int .i64)), .mp r2 (.int .i64) (setM W) [], .mp r (.int .i64) (mapM (PV.int .i64) (mvM s)) []]) (Ghost.pendE r) ?_
   have hf : freeF s = some (keyN s)[j] := find_at _ j hjn (fun i hi => by rw [hu i hi (by omega)]; rfl) (by rw [hc]; rfl)
   rw [keysL_get]
   exact PRet.gen (y := frR s) (by rw [frR, hf]; exact Wk.refl _) ⟨rfl, rfl⟩
  ·rw [hWk, keysL_get] at hc
   exact loopTo (j + 1) ⟨by omega, fun i hi h2 => by
    rcases Nat.lt_succ_iff_lt_or_eq.1 hi with hi | rfl
    ·exact hu i hi h2
    ·exact hc⟩ (by show (keysL s).length - (j + 1) < (keysL s).length - j; omega) wA
  ·refine PRet.ghost (Γ' := [.row ta ((keysL s).map (PV.int .i64)), .mp r2 (.int .i64) (setM W) [], .mp r (.int .i64) (mapM (PV.int .i64) (mvM s)) []]) (Ghost.pendE r) ?_
   have hf : freeF s = none := by
    unfold freeF
    rw [List.find?_eq_none]
    intro x hx
    obtain ⟨i, hi, rfl⟩ := List.getElem_of_mem hx
    rw [hu i (by omega) hi]
    simp
   rw [keysL_get]
   have hh : (keyN s)[0] = hdN s := by
    unfold hdN
    generalize keyN s = l at hk0
    cases l with
    | nil => simp at hk0
    | cons a l => rfl
   rw [hh]
   exact PRet.gen (y := frR s) (by rw [frR, hf]; exact Wk.refl _) ⟨rfl, rfl⟩
end Go.Cb
namespace Go.Cb
open Go.Proofs
set_option maxRecDepth 100000
set_option maxHeartbeats 4000000
abbrev mvE (r : Nat) (s : Lft) : Ent := .mp r (.int .i64) (mapM (PV.int .i64) (mvM s)) []
abbrev movP (m : Mov) : PV := .agg m.cells
theorem mvM_set {s : Lft} {i : Nat} (z : Int) : mvM (s.set i none) z = if z = (i : Int) then none else mvM s z := by
 unfold mvM
 by_cases e : z = (i : Int)
 ·subst e
  rw [if_pos rfl, if_pos (by omega), Int.toNat_natCast, List.getD_eq_getElem?_getD, List.getElem?_set, if_pos rfl]
  split <;> rfl
 ·rw [if_neg e]
  by_cases h : 0 ≤ z
  ·rw [if_pos h, if_pos h, List.getD_eq_getElem?_getD, List.getElem?_set, if_neg (by omega), List.getD_eq_getElem?_getD]
  ·rw [if_neg h, if_neg h]
theorem mvM_put (sp h : Int) (s : Lft) (z : Int) : mvM (putL sp h s) z = if mvM s z = some h then some sp else mvM s z := by
 unfold mvM putL
 split
 ·rw [List.getD_eq_getElem?_getD, List.getElem?_map, List.getD_eq_getElem?_getD]
  cases s[z.toNat]? with
  | none => simp
  | some o => simp
 ·simp
theorem PMapDel.mv {r : Nat} {s : Lft} {i : Nat} {Γ : List Ent} {pend : List (Int × Value)} {put : (Value → Option PV) → List (Int × Value) → List Ent} [hp : PickMp Γ r (.int .i64) (mapM (PV.int .i64) (mvM s)) pend put] {K : List Ent → Prop} (h : K (put (mapM (PV.int .i64) (mvM (s.set i none))) [])) :
  PMapDel r (.int .i64) (some (.int .i64 (i : Int))) Γ K :=
 PMapDel.at_ (hp := hp) (mapM (PV.int .i64) (mvM (s.set i none))) (by simp [MapKept.IsKey]) (by simp [mapM, mvM_set]) (fun k hk => by
  unfold mapM
  split
  ·rename_i z
   rw [mvM_set, if_neg (fun e => hk (by rw [e]))]
  ·rfl) h
theorem PYield.ghost {P : Program} {l : Nat} {args : List PV} {Γ Γ' : List Ent} {K : PV → List Ent → Prop} (hg : Ghost Γ Γ') (h : PYield P l args Γ' K) : PYield P l args Γ K :=
 ⟨fun w0 F M w vs hS hT => by
  obtain ⟨F1, a1, a2⟩ := hg w0 F M w hS
  obtain ⟨fn, tmps, asg, bd, e1, e2⟩ := h.h w0 F1 M w vs a2 (RepT.mono a1 _ _ hT)
  refine ⟨fn, tmps, asg, bd, e1, e2.mono ?_⟩
  rintro e w' ⟨v, F', y, Γ2, e1, e2, e3⟩
  exact ⟨v, F', y, Γ2, e1, Fz.le_trans a1 e2, e3⟩⟩
theorem come_step {α : Type} {m : Int → Option α} {all : List (Nat × Int)} (hAll : AllI m all) {seen : Array Nat} {n2 : Nat} {z : Int} (hn2 : (n2, z) ∈ all) {m1 m2 F m3 : Int → Option Int} (h1 : ∀ k, (∃ n, n ∈ seen.toList ∧ (n, k) ∈ all) → m2 k = F k) (h2 : ∀ k, (¬∃ n, n ∈ seen.toList ∧ (n, k) ∈ all) → m2 k = m1 k) (h3 : m3 z = F z) (h4 : ∀ k, k ≠ z → m3 k = m2 k) :
  (∀ k, (∃ n, n ∈ (seen.push n2).toList ∧ (n, k) ∈ all) → m3 k = F k) ∧ (∀ k, (¬∃ n, n ∈ (seen.push n2).toList ∧ (n, k) ∈ all) → m3 k = m1 k) := by
 refine ⟨fun k hk => ?_, fun k hk => ?_⟩
 ·by_cases e : k = z
  ·rw [e, h3]
  ·rw [h4 k e]
   obtain ⟨n, q1, q2⟩ := hk
   refine h1 k ⟨n, ?_, q2⟩
   simp only [Array.toList_push, List.mem_append, List.mem_singleton] at q1
   rcases q1 with q1 | q1
   ·exact q1
   ·exfalso
    have := nodup_inj hAll.nb hn2 q2 q1.symm
    exact e (congrArg Prod.snd this).symm
 ·have e : k ≠ z := fun e => hk ⟨n2, by simp, by rw [e]; exact hn2⟩
  rw [h4 k e]
  exact h2 k fun ⟨n, q1, q2⟩ => hk ⟨n, by simp only [Array.toList_push, List.mem_append]; exact .inl q1, q2⟩
theorem come_less {all : List (Nat × Int)} {seen : Array Nat} {n2 : Nat} {z : Int} (hn2 : (n2, z) ∈ all) (hs : n2 ∉ seen.toList) : (all.filter fun q => decide (q.1 ∉ (seen.push n2).toList)).length < (all.filter fun q => decide (q.1 ∉ seen.toList)).length := by
 refine filt_lt15 (fun q hq => ?_) all ⟨(n2, z), hn2, by simpa using hs, by simp⟩
 simp only [Array.toList_push, List.mem_append, List.mem_singleton, not_or, decide_eq_true_eq] at hq ⊢
 exact hq.1
theorem told1_c (b1 b2 r : Nat) (n : Nat) (sp : Int) (s : Lft) (hsp : (s.length : Int) ≤ sp) (hl : s.length ≤ 1000) (hm : measL s ≤ n) (hn : n ≤ 1000000) :
  AIter Tryz.prog 234 [.ptr b1 0, .ptr b2 0] [.box b1 [.mp r], .box b2 [.int .i64 sp], mvE r s] ((movL n sp s).map fun m => [movP m]) := by
 intro l J X hy Γ hJ
 refine ACall.ghost (Ghost.drop (Γ' := .box b1 [.mp r] :: .box b2 [.int .i64 sp] :: mvE r s :: Γ) (Γ1 := []) (by rw [List.append_nil]; exact List.perm_append_comm (l₂ := [_, _, _]))) ?_
 refine ACall.of_body tt_ok Tryz.func234 rfl rfl (n := 45) rfl rfl ?_
 conv => whnf
 repeat' (first|((first|((first|(apply zY;intro hg)|apply zZ);first|exact stA|exact stB|exact stC)|(refine zW ?_ ?_;exact gA)|refine zH rfl ?_|refine zA ?_|refine zI bA ?_|refine zI rfl ?_|refine sB ?_|(refine zO ?_ ?_ ?_;omega;omega)|(refine zP ?_ ?_ ?_;omega;omega)|refine zM rfl ?_|(refine zQ ?_ ?_ ?_;omega;omega)|(refine zR ?_ ?_;omega)|(refine zI ?_ ?_;exact nA)|refine sS ?_|refine sF ?_|refine n0 ?_|refine sD ?_|intro _|refine zG ?_);conv=>whnf)|(refine zX (fun hc => ?_) (fun hc => ?_)<;>(try simp only [SY] at hc)<;>first|omega|(conv=>whnf)))
 refine PLoop.over [4, 5, 6, 7, 8, 9, 10, 11, 12, 13, 14, 15, 16, 17, 18, 19, 20, 21, 22, 23, 24, 25, 26, 27, 28, 29, 30, 31, 32, 33, 34, 35, 36, 37, 38, 39, 40, 41, 42, 43, 44] (fun x : Nat × Nat × Lft × List Ent => [])
  (fun x => .box b1 [.mp r] :: .box b2 [.int .i64 sp] :: mvE r x.2.2.1 :: x.2.2.2)
  (fun x => x.2.2.1.length = s.length ∧ measL x.2.2.1 ≤ x.2.1 ∧ J x.1 x.2.2.2 ∧ (movL n sp s).drop x.1 = movL x.2.1 sp x.2.2.1 ∧ x.1 + (movL x.2.1 sp x.2.2.1).length = (movL n sp s).length) (fun x => measL x.2.2.1) (0, n, s, Γ) ⟨rfl, hm, hJ, rfl, by simp⟩ wA ?_
 rintro ⟨k, f, s1, Γ1⟩ ⟨h1, h2, h3, h4, h5⟩
 dsimp only at h1 h2 h3 h4 h5 ⊢
 conv => whnf
 repeat' (first|((first|((first|(apply zY;intro hg)|apply zZ);first|exact stA|exact stB|exact stC)|(refine zW ?_ ?_;exact gA)|refine zH rfl ?_|refine zA ?_|refine zI bA ?_|refine zI rfl ?_|refine sB ?_|(refine zO ?_ ?_ ?_;omega;omega)|(refine zP ?_ ?_ ?_;omega;omega)|refine zM rfl ?_|(refine zQ ?_ ?_ ?_;omega;omega)|(refine zR ?_ ?_;omega)|(refine zI ?_ ?_;exact nA)|refine sS ?_|refine sF ?_|refine n0 ?_|refine sD ?_|intro _|refine zG ?_);conv=>whnf)|(refine zX (fun hc => ?_) (fun hc => ?_)<;>(try simp only [SY] at hc)<;>first|omega|(conv=>whnf)))
 refine PLenP.num fun c hcn => ?_
 conv => whnf
 repeat' (first|((first|((first|(apply zY;intro hg)|apply zZ);first|exact stA|exact stB|exact stC)|(refine zW ?_ ?_;exact gA)|refine zH rfl ?_|refine zA ?_|refine zI bA ?_|refine zI rfl ?_|refine sB ?_|(refine zO ?_ ?_ ?_;omega;omega)|(refine zP ?_ ?_ ?_;omega;omega)|refine zM rfl ?_|(refine zQ ?_ ?_ ?_;omega;omega)|(refine zR ?_ ?_;omega)|(refine zI ?_ ?_;exact nA)|refine sS ?_|refine sF ?_|refine n0 ?_|refine sD ?_|intro _|refine zG ?_);conv=>whnf)|(refine zX (fun hc => ?_) (fun hc => ?_)<;>(try simp only [SY] at hc)<;>first|omega|(conv=>whnf)))
 ·have hk : keyN s1 ≠ [] := fun h => by rw [(hcn.2 (mvM_none.2 h))] at hc; omega
  have hms := meas_step (sp := sp) (s := s1) (by omega) hk
  have hf : 0 < f := by omega
  obtain ⟨f, rfl⟩ : ∃ g, f = g + 1 := ⟨f - 1, by omega⟩
  rw [movL, if_neg hk] at h4 h5
  have hkey := keyN_len s1
  have hml := movL_len n sp s
  have hkt : k < (movL n sp s).length := by rw [List.length_cons] at h5; omega
  rw [drop_at hkt, List.cons.injEq] at h4
  have hyk := hy k [movP (movL n sp s)[k]]
  rw [h4.1] at hyk
  refine PCall.read (free15_c r s1 hk (by omega)) (WkT.refl _) ?_
  unfold stepM at h4 h5 hms hyk
  rw [frR]
  cases hfr : freeF s1 with
  | some i =>
   rw [hfr] at h4 h5 hms hyk
   have hik : i ∈ keyN s1 := List.mem_of_find?_eq_some hfr
   have hil := keyN_lt hik
   have hv := keyN_mem.1 hik
   obtain ⟨x, hx⟩ := Option.isSome_iff_exists.1 hv
   have hmx : mvM s1 i = some x := by rw [mvM, if_pos (by omega), Int.toNat_natCast, hx]
   dsimp only at h4 h5 hms hyk ⊢
   rw [hx] at hyk
   conv => whnf
   repeat' (first|((first|((first|(apply zY;intro hg)|apply zZ);first|exact stA|exact stB|exact stC)|(refine zW ?_ ?_;exact gA)|refine zH rfl ?_|refine zA ?_|refine zI bA ?_|refine zI rfl ?_|refine sB ?_|(refine zO ?_ ?_ ?_;omega;omega)|(refine zP ?_ ?_ ?_;omega;omega)|refine zM rfl ?_|(refine zQ ?_ ?_ ?_;omega;omega)|(refine zR ?_ ?_;omega)|(refine zI ?_ ?_;exact nA)|refine sS ?_|refine sF ?_|refine n0 ?_|refine sD ?_|intro _|refine zG ?_);conv=>whnf)|(refine zX (fun hc => ?_) (fun hc => ?_)<;>(try simp only [SY] at hc)<;>first|omega|(conv=>whnf)))
   refine PMapDel.mv ?_
   conv => whnf
   repeat' (first|((first|((first|(apply zY;intro hg)|apply zZ);first|exact stA|exact stB|exact stC)|(refine zW ?_ ?_;exact gA)|refine zH rfl ?_|refine zA ?_|refine zI bA ?_|refine zI rfl ?_|refine sB ?_|(refine zO ?_ ?_ ?_;omega;omega)|(refine zP ?_ ?_ ?_;omega;omega)|refine zM rfl ?_|(refine zQ ?_ ?_ ?_;omega;omega)|(refine zR ?_ ?_;omega)|(refine zI ?_ ?_;exact nA)|refine sS ?_|refine sF ?_|refine n0 ?_|refine sD ?_|intro _|refine zG ?_);conv=>whnf)|(refine zX (fun hc => ?_) (fun hc => ?_)<;>(try simp only [SY] at hc)<;>first|omega|(conv=>whnf)))
   rename_i bm
   refine PYield.goR [.box bm [.int .i64 i, .int .i64 x], .box b1 [.mp r], .box b2 [.int .i64 sp], mvE r (s1.set i none)] (hyk Γ1 (by rw [List.getElem?_map, List.getElem?_eq_getElem hkt, h4.1, hx]; rfl) h3) (WkT.refl _) (List.Perm.refl _) ?_
   rintro _ Γ2 (⟨rfl, hJ2⟩ | ⟨rfl, hX⟩)
   ·conv => whnf
    repeat' (first|((first|((first|(apply zY;intro hg)|apply zZ);first|exact stA|exact stB|exact stC)|(refine zW ?_ ?_;exact gA)|refine zH rfl ?_|refine zA ?_|refine zI bA ?_|refine zI rfl ?_|refine sB ?_|(refine zO ?_ ?_ ?_;omega;omega)|(refine zP ?_ ?_ ?_;omega;omega)|refine zM rfl ?_|(refine zQ ?_ ?_ ?_;omega;omega)|(refine zR ?_ ?_;omega)|(refine zI ?_ ?_;exact nA)|refine sS ?_|refine sF ?_|refine n0 ?_|refine sD ?_|intro _|refine zG ?_);conv=>whnf)|(refine zX (fun hc => ?_) (fun hc => ?_)<;>(try simp only [SY] at hc)<;>first|omega|(conv=>whnf)))
    rw [List.length_cons] at h5
    exact loopTo (k + 1, f, s1.set i none, Γ2) (hp := ⟨(List.perm_append_singleton _ _).symm⟩) ⟨by dsimp only; rw [List.length_set, h1], by show measL (s1.set i none) ≤ f; omega, hJ2, h4.2, by show k + 1 + (movL f sp (s1.set i none)).length = _; omega⟩ (by show measL (s1.set i none) < measL s1; omega) wA
   ·conv => whnf
    repeat' (first|((first|((first|(apply zY;intro hg)|apply zZ);first|exact stA|exact stB|exact stC)|(refine zW ?_ ?_;exact gA)|refine zH rfl ?_|refine zA ?_|refine zI bA ?_|refine zI rfl ?_|refine sB ?_|(refine zO ?_ ?_ ?_;omega;omega)|(refine zP ?_ ?_ ?_;omega;omega)|refine zM rfl ?_|(refine zQ ?_ ?_ ?_;omega;omega)|(refine zR ?_ ?_;omega)|(refine zI ?_ ?_;exact nA)|refine sS ?_|refine sF ?_|refine n0 ?_|refine sD ?_|intro _|refine zG ?_);conv=>whnf)|(refine zX (fun hc => ?_) (fun hc => ?_)<;>(try simp only [SY] at hc)<;>first|omega|(conv=>whnf)))
    exact PRet.gen (y := .tup []) (Γ' := Γ2) (hp := ⟨List.perm_append_comm (l₁ := [_, _, _, _])⟩) (Wk.refl _) (.inr hX)
  | none =>
   rw [hfr] at h4 h5 hms hyk
   dsimp only at h4 h5 hms hyk ⊢
   have hhk := hdN_mem hk
   obtain ⟨x, hx⟩ := Option.isSome_iff_exists.1 (keyN_mem.1 hhk)
   have hmx : mvM s1 (hdN s1) = some x := by rw [mvM, if_pos (by omega), Int.toNat_natCast, hx]
   conv => whnf
   repeat' (first|((first|((first|(apply zY;intro hg)|apply zZ);first|exact stA|exact stB|exact stC)|(refine zW ?_ ?_;exact gA)|refine zH rfl ?_|refine zA ?_|refine zI bA ?_|refine zI rfl ?_|refine sB ?_|(refine zO ?_ ?_ ?_;omega;omega)|(refine zP ?_ ?_ ?_;omega;omega)|refine zM rfl ?_|(refine zQ ?_ ?_ ?_;omega;omega)|(refine zR ?_ ?_;omega)|(refine zI ?_ ?_;exact nA)|refine sS ?_|refine sF ?_|refine n0 ?_|refine sD ?_|intro _|refine zG ?_);conv=>whnf)|(refine zX (fun hc => ?_) (fun hc => ?_)<;>(try simp only [SY] at hc)<;>first|omega|(conv=>whnf)))
   rename_i bm
   refine PRangeM.num fun bI all cl hAll hcl => ?_
   conv => whnf
   repeat' (first|((first|((first|(apply zY;intro hg)|apply zZ);first|exact stA|exact stB|exact stC)|(refine zW ?_ ?_;exact gA)|refine zH rfl ?_|refine zA ?_|refine zI bA ?_|refine zI rfl ?_|refine sB ?_|(refine zO ?_ ?_ ?_;omega;omega)|(refine zP ?_ ?_ ?_;omega;omega)|refine zM rfl ?_|(refine zQ ?_ ?_ ?_;omega;omega)|(refine zR ?_ ?_;omega)|(refine zI ?_ ?_;exact nA)|refine sS ?_|refine sF ?_|refine n0 ?_|refine sD ?_|intro _|refine zG ?_);conv=>whnf)|(refine zX (fun hc => ?_) (fun hc => ?_)<;>(try simp only [SY] at hc)<;>first|omega|(conv=>whnf)))
   have hA2 : ∀ m2 : Int → Option Int, (∀ z, m2 z ≠ none ↔ mvM s1 z ≠ none) → AllI m2 all := fun m2 h => ⟨fun z => by rw [h z]; exact hAll.dom z, hAll.nk, hAll.nb⟩
   refine PLoop.over [7, 8, 30, 31, 32, 33, 34, 35, 36, 37, 38, 39, 40] (fun x : Array Nat × (Int → Option Int) => [])
    (fun x => .ob bI (itO r cl x.1) [] [] :: .box bm [.int .i64 sp, .int .i64 (hdN s1)] :: .box b1 [.mp r] :: .box b2 [.int .i64 sp] :: .mp r (.int .i64) (mapM (PV.int .i64) x.2) (pdI cl all) :: Γ1)
    (fun x => (∀ k, (∃ n, n ∈ x.1.toList ∧ (n, k) ∈ all) → x.2 k = if mvM s1 k = some (hdN s1 : Int) then some sp else mvM s1 k) ∧ (∀ k, (¬∃ n, n ∈ x.1.toList ∧ (n, k) ∈ all) → x.2 k = mvM s1 k)) (fun x => (all.filter fun q => decide (q.1 ∉ x.1.toList)).length) (#[], mvM s1) ⟨fun k h => by simp at h, fun k _ => rfl⟩ wA ?_
   rintro ⟨seen, m2⟩ ⟨hs1, hs2⟩
   dsimp only at hs1 hs2 ⊢
   have hdm : ∀ z, m2 z ≠ none ↔ mvM s1 z ≠ none := fun z => by
    by_cases hz : ∃ n, n ∈ seen.toList ∧ (n, z) ∈ all
    ·rw [hs1 z hz]
     split
     ·rename_i e; rw [e]; simp
     ·exact Iff.rfl
    ·rw [hs2 z hz]
   conv => whnf
   repeat' (first|((first|((first|(apply zY;intro hg)|apply zZ);first|exact stA|exact stB|exact stC)|(refine zW ?_ ?_;exact gA)|refine zH rfl ?_|refine zA ?_|refine zI bA ?_|refine zI rfl ?_|refine sB ?_|(refine zO ?_ ?_ ?_;omega;omega)|(refine zP ?_ ?_ ?_;omega;omega)|refine zM rfl ?_|(refine zQ ?_ ?_ ?_;omega;omega)|(refine zR ?_ ?_;omega)|(refine zI ?_ ?_;exact nA)|refine sS ?_|refine sF ?_|refine n0 ?_|refine sD ?_|intro _|refine zG ?_);conv=>whnf)|(refine zX (fun hc => ?_) (fun hc => ?_)<;>(try simp only [SY] at hc)<;>first|omega|(conv=>whnf)))
   refine PNextM.num (hA2 m2 hdm) hcl (fun n2 z y hn2 hz hs => ?_) (fun hs => ?_)
   ·have hzn : ¬∃ n, n ∈ seen.toList ∧ (n, z) ∈ all := by
     rintro ⟨n3, q1, q2⟩
     have := nodup_inj hAll.nk hn2 q2 rfl
     cases this
     exact hs q1
    have hyz : mvM s1 z = some y := by rw [← hs2 z hzn]; exact hz
    conv => whnf
    repeat' (first|((first|((first|(apply zY;intro hg)|apply zZ);first|exact stA|exact stB|exact stC)|(refine zW ?_ ?_;exact gA)|refine zH rfl ?_|refine zA ?_|refine zI bA ?_|refine zI rfl ?_|refine sB ?_|(refine zO ?_ ?_ ?_;omega;omega)|(refine zP ?_ ?_ ?_;omega;omega)|refine zM rfl ?_|(refine zQ ?_ ?_ ?_;omega;omega)|(refine zR ?_ ?_;omega)|(refine zI ?_ ?_;exact nA)|refine sS ?_|refine sF ?_|refine n0 ?_|refine sD ?_|intro _|refine zG ?_);conv=>whnf)|(refine zX (fun hc => ?_) (fun hc => ?_)<;>(try simp only [SY] at hc)<;>first|omega|(conv=>whnf)))
    refine PEntryM.num z y hn2 hz ?_
    conv => whnf
    repeat' (first|((first|((first|(apply zY;intro hg)|apply zZ);first|exact stA|exact stB|exact stC)|(refine zW ?_ ?_;exact gA)|refine zH rfl ?_|refine zA ?_|refine zI bA ?_|refine zI rfl ?_|refine sB ?_|(refine zO ?_ ?_ ?_;omega;omega)|(refine zP ?_ ?_ ?_;omega;omega)|refine zM rfl ?_|(refine zQ ?_ ?_ ?_;omega;omega)|(refine zR ?_ ?_;omega)|(refine zI ?_ ?_;exact nA)|refine sS ?_|refine sF ?_|refine n0 ?_|refine sD ?_|intro _|refine zG ?_);conv=>whnf)|(refine zX (fun hc => ?_) (fun hc => ?_)<;>(try simp only [SY] at hc)<;>first|omega|(conv=>whnf)))
    ·refine PMapPut.num (f := PV.int .i64) sp rfl ?_ (.inl (by simp [mapM, hz]))
     conv => whnf
     repeat' (first|((first|((first|(apply zY;intro hg)|apply zZ);first|exact stA|exact stB|exact stC)|(refine zW ?_ ?_;exact gA)|refine zH rfl ?_|refine zA ?_|refine zI bA ?_|refine zI rfl ?_|refine sB ?_|(refine zO ?_ ?_ ?_;omega;omega)|(refine zP ?_ ?_ ?_;omega;omega)|refine zM rfl ?_|(refine zQ ?_ ?_ ?_;omega;omega)|(refine zR ?_ ?_;omega)|(refine zI ?_ ?_;exact nA)|refine sS ?_|refine sF ?_|refine n0 ?_|refine sD ?_|intro _|refine zG ?_);conv=>whnf)|(refine zX (fun hc => ?_) (fun hc => ?_)<;>(try simp only [SY] at hc)<;>first|omega|(conv=>whnf)))
     have hst := come_step hAll hn2 (F := fun k => if mvM s1 k = some (hdN s1 : Int) then some sp else mvM s1 k) (m3 := upd m2 z sp) hs1 hs2 (by rw [upd, if_pos rfl, hyz, if_pos (by rw [hc])]) (fun k hk => by rw [upd, if_neg hk])
     exact loopTo (seen.push n2, upd m2 z sp) hst (come_less hn2 hs) wA
    ·have hst := come_step hAll hn2 (F := fun k => if mvM s1 k = some (hdN s1 : Int) then some sp else mvM s1 k) (m3 := m2) hs1 hs2 (by rw [hz, hyz, if_neg (fun e => hc (by cases e; rfl))]) (fun k hk => rfl)
     exact loopTo (seen.push n2, m2) hst (come_less hn2 hs) wA
   ·have hm2 : m2 = mvM (putL sp (hdN s1) s1) := by
     funext z
     rw [mvM_put]
     by_cases hz : ∃ n, n ∈ seen.toList ∧ (n, z) ∈ all
     ·exact hs1 z hz
     ·rw [hs2 z hz, if_neg]
      intro e
      obtain ⟨n3, q⟩ := (hAll.dom z).1 (by rw [e]; simp)
      exact hz ⟨n3, hs _ q, q⟩
    subst hm2
    conv => whnf
    repeat' (first|((first|((first|(apply zY;intro hg)|apply zZ);first|exact stA|exact stB|exact stC)|(refine zW ?_ ?_;exact gA)|refine zH rfl ?_|refine zA ?_|refine zI bA ?_|refine zI rfl ?_|refine sB ?_|(refine zO ?_ ?_ ?_;omega;omega)|(refine zP ?_ ?_ ?_;omega;omega)|refine zM rfl ?_|(refine zQ ?_ ?_ ?_;omega;omega)|(refine zR ?_ ?_;omega)|(refine zI ?_ ?_;exact nA)|refine sS ?_|refine sF ?_|refine n0 ?_|refine sD ?_|intro _|refine zG ?_);conv=>whnf)|(refine zX (fun hc => ?_) (fun hc => ?_)<;>(try simp only [SY] at hc)<;>first|omega|(conv=>whnf)))
    refine PYield.ghost (Γ' := .ob bI (itO r cl seen) [] [] :: .box bm [.int .i64 sp, .int .i64 (hdN s1)] :: .box b1 [.mp r] :: .box b2 [.int .i64 sp] :: mvE r (putL sp (hdN s1) s1) :: Γ1) (Ghost.pendE r) ?_
    refine PYield.goR [.ob bI (itO r cl seen) [] [], .box bm [.int .i64 sp, .int .i64 (hdN s1)], .box b1 [.mp r], .box b2 [.int .i64 sp], mvE r (putL sp (hdN s1) s1)] (hyk Γ1 (by rw [List.getElem?_map, List.getElem?_eq_getElem hkt, h4.1]; rfl) h3) (WkT.refl _) (List.Perm.refl _) ?_
    rintro _ Γ2 (⟨rfl, hJ2⟩ | ⟨rfl, hX⟩)
    ·conv => whnf
     repeat' (first|((first|((first|(apply zY;intro hg)|apply zZ);first|exact stA|exact stB|exact stC)|(refine zW ?_ ?_;exact gA)|refine zH rfl ?_|refine zA ?_|refine zI bA ?_|refine zI rfl ?_|refine sB ?_|(refine zO ?_ ?_ ?_;omega;omega)|(refine zP ?_ ?_ ?_;omega;omega)|refine zM rfl ?_|(refine zQ ?_ ?_ ?_;omega;omega)|(refine zR ?_ ?_;omega)|(refine zI ?_ ?_;exact nA)|refine sS ?_|refine sF ?_|refine n0 ?_|refine sD ?_|intro _|refine zG ?_);conv=>whnf)|(refine zX (fun hc => ?_) (fun hc => ?_)<;>(try simp only [SY] at hc)<;>first|omega|(conv=>whnf)))
     rw [List.length_cons] at h5
     exact loopTo (k + 1, f, putL sp (hdN s1) s1, Γ2) (hp := ⟨List.perm_append_comm (l₁ := [_, _])⟩) ⟨by dsimp only; rw [putL, List.length_map, h1], by show measL (putL sp (hdN s1) s1) ≤ f; omega, hJ2, h4.2, by show k + 1 + (movL f sp (putL sp (hdN s1) s1)).length = _; omega⟩ (by show measL (putL sp (hdN s1) s1) < measL s1; omega) wA
    ·conv => whnf
     repeat' (first|((first|((first|(apply zY;intro hg)|apply zZ);first|exact stA|exact stB|exact stC)|(refine zW ?_ ?_;exact gA)|refine zH rfl ?_|refine zA ?_|refine zI bA ?_|refine zI rfl ?_|refine sB ?_|(refine zO ?_ ?_ ?_;omega;omega)|(refine zP ?_ ?_ ?_;omega;omega)|refine zM rfl ?_|(refine zQ ?_ ?_ ?_;omega;omega)|(refine zR ?_ ?_;omega)|(refine zI ?_ ?_;exact nA)|refine sS ?_|refine sF ?_|refine n0 ?_|refine sD ?_|intro _|refine zG ?_);conv=>whnf)|(refine zX (fun hc => ?_) (fun hc => ?_)<;>(try simp only [SY] at hc)<;>first|omega|(conv=>whnf)))
     exact PRet.gen (y := .tup []) (Γ' := Γ2) (hp := ⟨List.perm_append_comm (l₁ := [_, _, _, _, _])⟩) (Wk.refl _) (.inr hX)
 ·have hk : keyN s1 = [] := mvM_none.1 (hcn.1 (by omega))
  have h0 : movL f sp s1 = [] := by
   cases f with
   | zero => rfl
   | succ f => rw [movL, if_pos hk]
  rw [h0] at h5
  refine PRet.gen (y := .tup []) (Γ' := Γ1) (hp := ⟨List.perm_append_comm (l₁ := [_, _, _])⟩) (Wk.refl _) (.inl ?_)
  rw [List.length_map, ← h5]
  exact h3
end Go.Cb
namespace Go.Cb
open Go.Proofs
set_option maxRecDepth 100000
set_option maxHeartbeats 4000000
instance {m : Mov} : ElOf Mov.pv (.agg [.int .i64 m.to, .int .i64 m.frm]) m := ⟨Wk.refl _, WkL.refl _⟩
theorem told_c (r : Nat) (sp : Int) : ACall Tryz.prog 208 [.mp r, .int .i64 sp] [] (fun y Γ' => ∃ b1 b2, y = .fn (.func 234) [.ptr b1 0, .ptr b2 0] ∧ Γ' = [.box b1 [.mp r], .box b2 [.int .i64 sp]]) := by
 refine ACall.of_body tt_ok Tryz.func208 rfl rfl (n := 6) rfl rfl ?_
 conv => whnf
 repeat' (first|((first|((first|(apply zY;intro hg)|apply zZ);first|exact stA|exact stB|exact stC)|(refine zW ?_ ?_;exact gA)|refine zH rfl ?_|refine zA ?_|refine zI bA ?_|refine zI rfl ?_|refine sB ?_|(refine zO ?_ ?_ ?_;omega;omega)|(refine zP ?_ ?_ ?_;omega;omega)|refine zM rfl ?_|(refine zQ ?_ ?_ ?_;omega;omega)|(refine zR ?_ ?_;omega)|(refine zI ?_ ?_;exact nA)|refine sS ?_|refine sF ?_|refine n0 ?_|refine sD ?_|intro _|refine zG ?_);conv=>whnf)|(refine zX (fun hc => ?_) (fun hc => ?_)<;>(try simp only [SY] at hc)<;>first|omega|(conv=>whnf)))
 rename_i b1 b2
 exact PRet.gen (y := .fn (.func 234) [.ptr b1 0, .ptr b2 0]) (Γ' := [.box b1 [.mp r], .box b2 [.int .i64 sp]]) (Wk.refl _) ⟨b1, b2, rfl, rfl⟩
theorem mvM_nil : (fun _ => none : Value → Option PV) = mapM (PV.int .i64) (mvM []) := by
 funext v
 unfold mapM mvM
 split
 ·split <;> rfl
 ·rfl
theorem mvM_snoc (s : Lft) (o : Option Int) (z : Int) : mvM (s ++ [o]) z = if z = s.length then o else mvM s z := by
 unfold mvM
 by_cases e : z = s.length
 ·subst e
  rw [if_pos rfl, if_pos (by omega), Int.toNat_natCast, List.getD_eq_getElem?_getD, List.getElem?_append_right (Nat.le_refl _), Nat.sub_self]
  rfl
 ·rw [if_neg e]
  by_cases h : 0 ≤ z
  ·rw [if_pos h, if_pos h, List.getD_eq_getElem?_getD, List.getD_eq_getElem?_getD]
   by_cases hl : z.toNat < s.length
   ·rw [List.getElem?_append_left hl]
   ·rw [List.getElem?_eq_none (by simp; omega), List.getElem?_eq_none (by omega)]
  ·rw [if_neg h, if_neg h]
abbrev ordPV (l : List Int) (sp : Int) : PV := .tup [.sl 2 ((ordF l sp).1.map Mov.pv) none, .int .i64 (ordF l sp).2]
theorem leftL_take {l : List Int} {i : Nat} (h : i < l.length) : leftL (l.take (i + 1)) 0 = leftL (l.take i) 0 ++ [if l[i] = (i : Int) then none else some l[i]] := by
 rw [List.take_succ_eq_append_getElem h, leftL_app, List.length_take, leftL, leftL, Nat.zero_add, Nat.min_eq_left (by omega)]
theorem order_c (l : List Int) (sp : Int) : ACallP Tryz.prog 185 [slI l, .int .i64 sp] (ordPV l sp) := by
 unfold ordPV ordF
 refine ACall.of_body tt_ok Tryz.func185 rfl rfl (n := 59) rfl rfl ?_
 conv => whnf
 repeat' (first|((first|((first|(apply zY;intro hg)|apply zZ);first|exact stA|exact stB|exact stC)|(refine zW ?_ ?_;exact gA)|refine zH rfl ?_|refine zA ?_|refine zI bA ?_|refine zI rfl ?_|refine sB ?_|(refine zO ?_ ?_ ?_;omega;omega)|(refine zP ?_ ?_ ?_;omega;omega)|refine zM rfl ?_|(refine zQ ?_ ?_ ?_;omega;omega)|(refine zR ?_ ?_;omega)|(refine zI ?_ ?_;exact nA)|refine sS ?_|refine sF ?_|refine n0 ?_|refine sD ?_|intro _|refine zG ?_);conv=>whnf)|(refine zX (fun hc => ?_) (fun hc => ?_)<;>(try simp only [SY] at hc)<;>first|omega|(conv=>whnf)))
 ·have hi : illM l sp = true := by
   unfold illM
   simp only [Bool.or_eq_true, decide_eq_true_eq]
   omega
  rw [hi, Bool.true_or, if_pos rfl]
  exact PRet.pure (Wk.tup (.cons (Wk.nil' rfl) (.cons (Wk.refl _) .nil)))
 have hi : illM l sp = false := by
  unfold illM
  simp only [Bool.or_eq_false_iff, decide_eq_false_iff_not]
  omega
 rw [hi, Bool.false_or]
 rename_i r _
 rw [mvM_nil]
 refine PLoop.over [4, 5, 7, 8, 27, 28, 29, 30, 31, 32, 33, 34, 35, 36, 37, 38, 39, 40, 41, 42, 43, 44, 45, 46, 47, 48, 49] (fun x : Nat × Lft => [(27, .int .i64 x.1)]) (fun x => [mvE r x.2]) (fun x => x.1 ≤ l.length ∧ x.2 = leftL (l.take x.1) 0 ∧ badM (l.take x.1) sp = false) (fun x => l.length - x.1) (0, []) ⟨Nat.zero_le _, by rw [List.take_zero, leftL.eq_1], rfl⟩ wA ?_
 rintro ⟨i, s⟩ ⟨h1, h2, h3⟩
 dsimp only at h1 h2 h3 ⊢
 have hsl : s.length = i := by rw [h2, leftL_len, List.length_take]; omega
 conv => whnf
 repeat' (first|((first|((first|(apply zY;intro hg)|apply zZ);first|exact stA|exact stB|exact stC)|(refine zW ?_ ?_;exact gA)|refine zH rfl ?_|refine zA ?_|refine zI bA ?_|refine zI rfl ?_|refine sB ?_|(refine zO ?_ ?_ ?_;omega;omega)|(refine zP ?_ ?_ ?_;omega;omega)|refine zM rfl ?_|(refine zQ ?_ ?_ ?_;omega;omega)|(refine zR ?_ ?_;omega)|(refine zI ?_ ?_;exact nA)|refine sS ?_|refine sF ?_|refine n0 ?_|refine sD ?_|intro _|refine zG ?_);conv=>whnf)|(refine zX (fun hc => ?_) (fun hc => ?_)<;>(try simp only [SY] at hc)<;>first|omega|(conv=>whnf)))
 ·have hb : badM l sp = true := by
   unfold badM
   rw [List.any_eq_true]
   exact ⟨l[i], List.getElem_mem _, by simp only [Bool.or_eq_true, decide_eq_true_eq, beq_iff_eq]; omega⟩
  rw [if_pos hb]
  exact PRet.pure (Wk.tup (.cons (Wk.nil' rfl) (.cons (Wk.refl _) .nil)))
 ·have hit : i < l.length := by omega
  have hu : upd (mvM s) i l[i] = mvM (leftL (l.take (i + 1)) 0) := by
   funext z
   rw [leftL_take hit, ← h2, if_neg hc, mvM_snoc, hsl]
   rfl
  have hb : badM (l.take (i + 1)) sp = false := by
   rw [List.take_succ_eq_append_getElem hit, badM, List.any_append, ← badM, h3, Bool.false_or, List.any_cons, List.any_nil, Bool.or_false]
   simp only [Bool.or_eq_false_iff, decide_eq_false_iff_not, beq_eq_false_iff_ne]
   omega
  refine PMapPut.num (f := PV.int .i64) l[i] rfl ?_
  rw [hu]
  conv => whnf
  repeat' (first|((first|((first|(apply zY;intro hg)|apply zZ);first|exact stA|exact stB|exact stC)|(refine zW ?_ ?_;exact gA)|refine zH rfl ?_|refine zA ?_|refine zI bA ?_|refine zI rfl ?_|refine sB ?_|(refine zO ?_ ?_ ?_;omega;omega)|(refine zP ?_ ?_ ?_;omega;omega)|refine zM rfl ?_|(refine zQ ?_ ?_ ?_;omega;omega)|(refine zR ?_ ?_;omega)|(refine zI ?_ ?_;exact nA)|refine sS ?_|refine sF ?_|refine n0 ?_|refine sD ?_|intro _|refine zG ?_);conv=>whnf)|(refine zX (fun hc => ?_) (fun hc => ?_)<;>(try simp only [SY] at hc)<;>first|omega|(conv=>whnf)))
  exact loopTo (i + 1, leftL (l.take (i + 1)) 0) ⟨by show i + 1 ≤ _; omega, rfl, hb⟩ (by show l.length - (i + 1) < l.length - i; omega) wA
 ·have hit : i < l.length := by omega
  have hu : mvM s = mvM (leftL (l.take (i + 1)) 0) := by
   funext z
   rw [leftL_take hit, ← h2, if_pos hc, mvM_snoc, hsl]
   split
   ·rename_i e
    rw [e, mvM, if_pos (by omega), Int.toNat_natCast, List.getD_eq_getElem?_getD, List.getElem?_eq_none (by omega)]
    rfl
   ·rfl
  have hb : badM (l.take (i + 1)) sp = false := by
   rw [List.take_succ_eq_append_getElem hit, badM, List.any_append, ← badM, h3, Bool.false_or, List.any_cons, List.any_nil, Bool.or_false]
   simp only [Bool.or_eq_false_iff, decide_eq_false_iff_not, beq_eq_false_iff_ne]
   omega
  have he : mvE r s = mvE r (leftL (l.take (i + 1)) 0) := by unfold mvE; rw [hu]
  rw [he]
  exact loopTo (i + 1, leftL (l.take (i + 1)) 0) ⟨by show i + 1 ≤ _; omega, rfl, hb⟩ (by show l.length - (i + 1) < l.length - i; omega) wA
 ·obtain rfl : i = l.length := by omega
  rw [List.take_length] at h2 h3
  subst h2
  rw [if_neg (by rw [h3]; simp)]
  rename_i bo
  refine PCall.goG (Ghost.trans (Ghost.nil 2 235 _) (Ghost.box (b := bo) (cs := [.nil]) (cs' := [.sl 2 (([] : List Mov).map Mov.pv) (some (nilTok 2 235))]) (.cons (Wk.nilTok 2 235) .nil))) (told_c r sp) (WkT.refl _) ?_
  rintro _ _ ⟨b1, b2, rfl, rfl⟩
  conv => whnf
  repeat ((first|((first|(apply zY;intro hg)|apply zZ);first|exact stA|exact stB|exact stC)|(refine zW ?_ ?_;exact gA)|refine zH rfl ?_|refine zA ?_|refine zI bA ?_|refine zI rfl ?_|refine sB ?_|(refine zO ?_ ?_ ?_;omega;omega)|(refine zP ?_ ?_ ?_;omega;omega)|refine zM rfl ?_|(refine zQ ?_ ?_ ?_;omega;omega)|(refine zR ?_ ?_;omega)|(refine zI ?_ ?_;exact nA)|refine sS ?_|refine sF ?_|refine n0 ?_|refine sD ?_|intro _);conv=>whnf)
  refine PRange.go ((movL (2 * l.length + 1) sp (leftL l 0)).map fun m => [movP m]) (fun s : Tok × List Mov => [.box bo [.sl 2 (s.2.map Mov.pv) (some s.1)], .tok s.1]) (fun k s => s.1.e = 235 ∧ s.2 = (movL (2 * l.length + 1) sp (leftL l 0)).take k) (fun _ _ => False) (nilTok 2 235, []) (told1_c b1 b2 r (2 * l.length + 1) sp (leftL l 0) (by rw [leftL_len]; omega) (by rw [leftL_len]; omega) (by have := meas_le (leftL l 0); rw [leftL_len] at this; exact this) (by omega)) ⟨rfl, rfl⟩
   (hp := (inferInstance : PickL _ [.box bo [.sl 2 (([] : List Mov).map Mov.pv) (some (nilTok 2 235))], .tok (nilTok 2 235), .box b1 [.mp r], .box b2 [.int .i64 sp], mvE r (leftL l 0)] _)) (by intro ys hy; obtain ⟨m, _, rfl⟩ := List.mem_map.1 hy; rfl) ?_ ?_ (fun _ _ _ h => h.elim)
  ·rintro k ys ⟨tk, ms⟩ hk ⟨k1, k2⟩
   dsimp only at k1 k2 ⊢
   generalize hML : movL (2 * l.length + 1) sp (leftL l 0) = ML at *
   have hmll : ML.length ≤ 2 * l.length + 1 := by rw [← hML]; exact movL_len ..
   obtain ⟨m, hm, rfl⟩ : ∃ m, ML[k]? = some m ∧ ys = [movP m] := by
    rw [List.getElem?_map] at hk
    cases h : ML[k]? with
    | none => rw [h] at hk; cases hk
    | some m => rw [h] at hk; cases hk; exact ⟨m, rfl, rfl⟩
   obtain ⟨hlt, hmg⟩ := List.getElem?_eq_some_iff.1 hm
   have hst : ML.take (k + 1) = ms ++ [m] := by rw [List.take_succ_eq_append_getElem hlt, hmg, ← k2]
   have hll : ms.length ≤ 2001 := by
    rw [k2, List.length_take]; omega
   conv => whnf
   repeat' (first|((first|((first|(apply zY;intro hg)|apply zZ);first|exact stA|exact stB|exact stC)|(refine zW ?_ ?_;exact gA)|refine zH rfl ?_|refine zA ?_|refine zI bA ?_|refine zI rfl ?_|refine sB ?_|(refine zO ?_ ?_ ?_;omega;omega)|(refine zP ?_ ?_ ?_;omega;omega)|refine zM rfl ?_|(refine zQ ?_ ?_ ?_;omega;omega)|(refine zR ?_ ?_;omega)|(refine zI ?_ ?_;exact nA)|refine sS ?_|refine sF ?_|refine n0 ?_|refine sD ?_|intro _|refine zG ?_);conv=>whnf)|(refine zX (fun hc => ?_) (fun hc => ?_)<;>(try simp only [SY] at hc)<;>first|omega|(conv=>whnf)))
   refine ⟨rfl, ?_⟩
   conv => whnf
   repeat' (first|((first|((first|(apply zY;intro hg)|apply zZ);first|exact stA|exact stB|exact stC)|(refine zW ?_ ?_;exact gA)|refine zH rfl ?_|refine zA ?_|refine zI bA ?_|refine zI rfl ?_|refine sB ?_|(refine zO ?_ ?_ ?_;omega;omega)|(refine zP ?_ ?_ ?_;omega;omega)|refine zM rfl ?_|(refine zQ ?_ ?_ ?_;omega;omega)|(refine zR ?_ ?_;omega)|(refine zI ?_ ?_;exact nA)|refine sS ?_|refine sF ?_|refine n0 ?_|refine sD ?_|intro _|refine zG ?_);conv=>whnf)|(refine zX (fun hc => ?_) (fun hc => ?_)<;>(try simp only [SY] at hc)<;>first|omega|(conv=>whnf)))
   rename_i t3 ht3
   exact roundEnd (k := k) (G := fun s : Tok × List Mov => [.box bo [.sl 2 (s.2.map Mov.pv) (some s.1)], .tok s.1]) (I := fun k s => s.1.e = 235 ∧ s.2 = ML.take k) (X := fun _ _ => False) (t3, ms ++ [m]) ⟨ht3, hst.symm⟩
  ·rintro bd ⟨tk, ms⟩ ⟨k1, k2⟩
   dsimp only at k1 k2 ⊢
   rw [List.length_map, List.take_length] at k2
   subst k2
   conv => whnf
   repeat' (first|((first|((first|(apply zY;intro hg)|apply zZ);first|exact stA|exact stB|exact stC)|(refine zW ?_ ?_;exact gA)|refine zH rfl ?_|refine zA ?_|refine zI bA ?_|refine zI rfl ?_|refine sB ?_|(refine zO ?_ ?_ ?_;omega;omega)|(refine zP ?_ ?_ ?_;omega;omega)|refine zM rfl ?_|(refine zQ ?_ ?_ ?_;omega;omega)|(refine zR ?_ ?_;omega)|(refine zI ?_ ?_;exact nA)|refine sS ?_|refine sF ?_|refine n0 ?_|refine sD ?_|intro _|refine zG ?_);conv=>whnf)|(refine zX (fun hc => ?_) (fun hc => ?_)<;>(try simp only [SY] at hc)<;>first|omega|(conv=>whnf)))
   refine PMark.at_ rfl ?_
   conv => whnf
   exact PRet.pure (Wk.tup (.cons (Wk.tok _ _ _) (.cons (Wk.refl _) .nil)))
end Go.Cb
namespace Go.Cb
open Go.Proofs
set_option maxRecDepth 100000
set_option maxHeartbeats 4000000
theorem ACall.weak {P : Program} {f : FuncId} {args args' : List PV} {Γ Γ' : List Ent} {Q : PV → List Ent → Prop} (hg : Weak args Γ args' Γ') (h : ACall P f args' Γ' Q) : ACall P f args Γ Q :=
 ⟨h.1, fun w0 F M w vs hS hT => by
  obtain ⟨F1, a1, a2, a3⟩ := hg w0 F M w vs hS hT
  refine (h.2 w0 F1 M w vs a2 a3).mono ?_
  rintro e w' ⟨v, F', y, Γ2, e1, e2, e3⟩
  exact ⟨v, F', y, Γ2, e1, Fz.le_trans a1 e2, e3⟩⟩
theorem PCall.goFz {P : Program} {f : FuncId} {args args' : List PV} {Γ Γ0 Γ1 Γ2 : List Ent} {Q K : PV → List Ent → Prop} (t : Tok) (es : List PV) [hp : PickE Γ (.row t es) Γ0] (hw : WkFT t es args args') (h : ACall P f args' Γ1 Q) [hq : PickL (.tok t :: Γ0) Γ1 Γ2]
  (k : ∀ y Γ1', Q y Γ1' → appE Γ1' Γ2 fun Γ' => K y Γ') : PCall P f args Γ K :=
 ⟨.inl (ACall.weak (Weak.freezeRow (hp := hp) hw) ((h.frame hq.p).mono fun y Γ' ⟨Γ1', e, hq⟩ => by have := k y Γ1' hq; rw [appE_eq] at this; rw [e]; exact this))⟩
def movI (m : Mov) : Ins := ⟨1, m.to, m.frm, 0, []⟩
def movW (ms : List Mov) : List Int := ms.flatMap fun m => insW (movI m) []
def upTo (n : Nat) : List Int := (List.range n).map Int.ofNat
def endI (x : Ins) : Ins := ⟨x.op, x.d, if x.op = 19 then x.l.length else x.a, if x.op = 20 then x.l.length else x.b, upTo x.l.length⟩
theorem movW_len (ms : List Mov) : (movW ms).length = 6 * ms.length := by
 induction ms with
 | nil => rfl
 | cons m ms ih => rw [movW, List.flatMap_cons, ← movW, List.length_append, ih, List.length_cons]; simp [insW, movI]; omega
theorem call_c (ms : List Mov) (e sp : Int) (x : Ins) (al : List Int) (hxl : x.l.length ≤ 1000000)
  (hO : ACallP Tryz.prog 185 [slI (takF x), .int .i64 sp] (.tup [.sl 2 (ms.map Mov.pv) none, .int .i64 e])) : CwOk sp x al (movW ms ++ insW (endI x) al) := by
 intro b out t ht hl
 have hml := movW_len ms
 have hul : (upTo x.l.length).length = x.l.length := by simp [upTo]
 have hel : (insW (endI x) al).length = 6 + x.l.length + al.length := by simp [insW, endI, hul]; omega
 rw [List.length_append, hml, hel] at hl
 have htl := takF_len x
 refine ACall.of_body tt_ok Tryz.func163 rfl rfl (n := 69) rfl rfl ?_
 conv => whnf
 repeat' (first|((first|((first|(apply zY;intro hg)|apply zZ);first|exact stA|exact stB|((conv=>whnf);(repeat ((first|(refine zW ?_ ?_;exact gA)|refine pC (takes_c x (by omega)) wR ?_|refine pC (hO) wR ?_|refine zA ?_|refine zH rfl ?_|refine zB ?_|refine sG ?_|intro _);conv=>whnf));first|exact pS|exact pL|exact pE))|(refine zW ?_ ?_;exact gA)|refine zH rfl ?_|refine zA ?_|refine zI bA ?_|refine zI rfl ?_|refine sB ?_|(refine zO ?_ ?_ ?_;omega;omega)|(refine zP ?_ ?_ ?_;omega;omega)|refine zM rfl ?_|(refine zQ ?_ ?_ ?_;omega;omega)|(refine zR ?_ ?_;omega)|(refine zI ?_ ?_;exact nA)|refine sS ?_|refine pC (takes_c x (by omega)) wR ?_|refine pC (hO) wR ?_|refine sF ?_|refine n0 ?_|refine sD ?_|intro _|refine zG ?_);conv=>whnf)|(refine zX (fun hc => ?_) (fun hc => ?_)<;>(try simp only [SY] at hc)<;>first|omega|(conv=>whnf)))
 rename_i b5 _
 refine PLoop.over [11, 22, 23, 24, 25, 26, 27, 28, 29, 30, 31, 32, 33] (fun x : Nat × List Int × Tok => [(22, .int .i64 x.1)]) (fun y => .box b5 [.int .i64 x.op, .int .i64 x.d, .int .i64 x.a, .int .i64 x.b, slI x.l] :: wrE b y.2.1 y.2.2)
  (fun y => y.1 ≤ ms.length ∧ y.2.2.e = 3 ∧ y.2.1 ++ movW (ms.drop y.1) = out ++ movW ms) (fun y => ms.length - y.1) (0, out, t) ⟨Nat.zero_le _, ht, rfl⟩ wA ?_
 rintro ⟨i, o, t1⟩ ⟨hi, ht1, ho⟩
 dsimp only at hi ht1 ho ⊢
 have hol := congrArg List.length ho
 simp only [List.length_append, movW_len, List.length_drop] at hol
 conv => whnf
 repeat' (first|((first|((first|(apply zY;intro hg)|apply zZ);first|exact stA|exact stB|((conv=>whnf);(repeat ((first|(refine zW ?_ ?_;exact gA)|refine pC (takes_c x (by omega)) wR ?_|refine pC (hO) wR ?_|refine zA ?_|refine zH rfl ?_|refine zB ?_|refine sG ?_|intro _);conv=>whnf));first|exact pS|exact pL|exact pE))|(refine zW ?_ ?_;exact gA)|refine zH rfl ?_|refine zA ?_|refine zI bA ?_|refine zI rfl ?_|refine sB ?_|(refine zO ?_ ?_ ?_;omega;omega)|(refine zP ?_ ?_ ?_;omega;omega)|refine zM rfl ?_|(refine zQ ?_ ?_ ?_;omega;omega)|(refine zR ?_ ?_;omega)|(refine zI ?_ ?_;exact nA)|refine sS ?_|refine pC (takes_c x (by omega)) wR ?_|refine pC (hO) wR ?_|refine sF ?_|refine n0 ?_|refine sD ?_|intro _|refine zG ?_);conv=>whnf)|(refine zX (fun hc => ?_) (fun hc => ?_)<;>(try simp only [SY] at hc)<;>first|omega|(conv=>whnf)))
 ·have hlt : i < ms.length := by omega
  rw [drop_at hlt, movW, List.flatMap_cons, ← movW] at ho
  refine PCall.go (insw_c b o t1 (movI ms[i]) [] ht1 (by show o.length + 0 + 0 ≤ _; omega)) (.cons (Wk.refl _) (.cons (Wk.agg (.cons (Wk.refl _) (.cons (Wk.refl _) (.cons (Wk.refl _) (.cons (Wk.refl _) (.cons (Wk.nil' rfl) .nil)))))) (.cons slI_nil .nil))) ?_
  rintro _ _ ⟨t2, ht2, rfl, rfl⟩
  conv => whnf
  repeat' (first|((first|((first|(apply zY;intro hg)|apply zZ);first|exact stA|exact stB|((conv=>whnf);(repeat ((first|(refine zW ?_ ?_;exact gA)|refine pC (takes_c x (by omega)) wR ?_|refine pC (hO) wR ?_|refine zA ?_|refine zH rfl ?_|refine zB ?_|refine sG ?_|intro _);conv=>whnf));first|exact pS|exact pL|exact pE))|(refine zW ?_ ?_;exact gA)|refine zH rfl ?_|refine zA ?_|refine zI bA ?_|refine zI rfl ?_|refine sB ?_|(refine zO ?_ ?_ ?_;omega;omega)|(refine zP ?_ ?_ ?_;omega;omega)|refine zM rfl ?_|(refine zQ ?_ ?_ ?_;omega;omega)|(refine zR ?_ ?_;omega)|(refine zI ?_ ?_;exact nA)|refine sS ?_|refine pC (takes_c x (by omega)) wR ?_|refine pC (hO) wR ?_|refine sF ?_|refine n0 ?_|refine sD ?_|intro _|refine zG ?_);conv=>whnf)|(refine zX (fun hc => ?_) (fun hc => ?_)<;>(try simp only [SY] at hc)<;>first|omega|(conv=>whnf)))
  exact loopTo (i + 1, o ++ insW (movI ms[i]) [], t2) ⟨by show i + 1 ≤ _; omega, ht2, by dsimp only; rw [List.append_assoc]; exact ho⟩ (by show ms.length - (i + 1) < ms.length - i; omega) wA
 rw [List.drop_of_length_le (by omega), show movW [] = [] from rfl, List.append_nil] at ho
 subst ho
 refine PMake.row (by omega) (by omega) (by omega) (by show _ * 8 ≤ _; omega) rfl fun ts hte hts => ?_
 rw [Int.toNat_natCast, show List.replicate x.l.length (PV.int .i64 0) = (List.replicate x.l.length (0 : Int)).map (PV.int .i64) by rw [List.map_replicate]]
 have hrp0 : (List.replicate x.l.length (0 : Int)).length = x.l.length := List.length_replicate ..
 conv => whnf
 repeat' (first|((first|((first|(apply zY;intro hg)|apply zZ);first|exact stA|exact stB|((conv=>whnf);(repeat ((first|(refine zW ?_ ?_;exact gA)|refine pC (takes_c x (by omega)) wR ?_|refine pC (hO) wR ?_|refine zA ?_|refine zH rfl ?_|refine zB ?_|refine sG ?_|intro _);conv=>whnf));first|exact pS|exact pL|exact pE))|(refine zW ?_ ?_;exact gA)|refine zH rfl ?_|refine zA ?_|refine zI bA ?_|refine zI rfl ?_|refine sB ?_|(refine zO ?_ ?_ ?_;omega;omega)|(refine zP ?_ ?_ ?_;omega;omega)|refine zM rfl ?_|(refine zQ ?_ ?_ ?_;omega;omega)|(refine zR ?_ ?_;omega)|(refine zI ?_ ?_;exact nA)|refine sS ?_|refine pC (takes_c x (by omega)) wR ?_|refine pC (hO) wR ?_|refine sF ?_|refine n0 ?_|refine sD ?_|intro _|refine zG ?_);conv=>whnf)|(refine zX (fun hc => ?_) (fun hc => ?_)<;>(try simp only [SY] at hc)<;>first|omega|(conv=>whnf)))
 refine PLenM.map fun _ => ?_
 conv => whnf
 repeat' (first|((first|((first|(apply zY;intro hg)|apply zZ);first|exact stA|exact stB|((conv=>whnf);(repeat ((first|(refine zW ?_ ?_;exact gA)|refine pC (takes_c x (by omega)) wR ?_|refine pC (hO) wR ?_|refine zA ?_|refine zH rfl ?_|refine zB ?_|refine sG ?_|intro _);conv=>whnf));first|exact pS|exact pL|exact pE))|(refine zW ?_ ?_;exact gA)|refine zH rfl ?_|refine zA ?_|refine zI bA ?_|refine zI rfl ?_|refine sB ?_|(refine zO ?_ ?_ ?_;omega;omega)|(refine zP ?_ ?_ ?_;omega;omega)|refine zM rfl ?_|(refine zQ ?_ ?_ ?_;omega;omega)|(refine zR ?_ ?_;omega)|(refine zI ?_ ?_;exact nA)|refine sS ?_|refine pC (takes_c x (by omega)) wR ?_|refine pC (hO) wR ?_|refine sF ?_|refine n0 ?_|refine sD ?_|intro _|refine zG ?_);conv=>whnf)|(refine zX (fun hc => ?_) (fun hc => ?_)<;>(try simp only [SY] at hc)<;>first|omega|(conv=>whnf)))
 refine PLoop.over [12, 42, 43, 44, 45, 46, 47, 48, 49, 50] (fun y : Nat × List Int => [(42, .int .i64 y.1)]) (fun y => .row ts (y.2.map (PV.int .i64)) :: .box b5 [.int .i64 x.op, .int .i64 x.d, .int .i64 x.a, .int .i64 x.b, .ms ts] :: wrE b (out ++ movW ms) t1)
  (fun y => y.1 ≤ x.l.length ∧ y.2 = upTo y.1 ++ List.replicate (x.l.length - y.1) (0 : Int)) (fun y => x.l.length - y.1) (0, List.replicate x.l.length 0) ⟨Nat.zero_le _, by simp [upTo]⟩ wA ?_
 rintro ⟨j, r⟩ ⟨hj, hr⟩
 dsimp only at hj hr ⊢
 have hrl : r.length = x.l.length := by rw [hr]; simp [upTo]; omega
 have hrp : (List.replicate x.l.length (0 : Int)).length = x.l.length := List.length_replicate ..
 conv => whnf
 repeat' (first|((first|((first|(apply zY;intro hg)|apply zZ);first|exact stA|exact stB|((conv=>whnf);(repeat ((first|(refine zW ?_ ?_;exact gA)|refine pC (takes_c x (by omega)) wR ?_|refine pC (hO) wR ?_|refine zA ?_|refine zH rfl ?_|refine zB ?_|refine sG ?_|intro _);conv=>whnf));first|exact pS|exact pL|exact pE))|(refine zW ?_ ?_;exact gA)|refine zH rfl ?_|refine zA ?_|refine zI bA ?_|refine zI rfl ?_|refine sB ?_|(refine zO ?_ ?_ ?_;omega;omega)|(refine zP ?_ ?_ ?_;omega;omega)|refine zM rfl ?_|(refine zQ ?_ ?_ ?_;omega;omega)|(refine zR ?_ ?_;omega)|(refine zI ?_ ?_;exact nA)|refine sS ?_|refine pC (takes_c x (by omega)) wR ?_|refine pC (hO) wR ?_|refine sF ?_|refine n0 ?_|refine sD ?_|intro _|refine zG ?_);conv=>whnf)|(refine zX (fun hc => ?_) (fun hc => ?_)<;>(try simp only [SY] at hc)<;>first|omega|(conv=>whnf)))
 ·have hjl : j < r.length := by omega
  have hs2 : r.set j (j : Int) = upTo (j + 1) ++ List.replicate (x.l.length - (j + 1)) (0 : Int) := by
   rw [hr, List.set_append_right _ _ (by simp [upTo]), show (upTo j).length = j by simp [upTo], Nat.sub_self, show x.l.length - j = (x.l.length - (j + 1)) + 1 by omega, List.replicate_succ, List.set_cons_zero]
   simp [upTo, List.range_succ]
  conv => whnf
  repeat' (first|((first|((first|(apply zY;intro hg)|apply zZ);first|exact stA|exact stB|((conv=>whnf);(repeat ((first|(refine zW ?_ ?_;exact gA)|refine pC (takes_c x (by omega)) wR ?_|refine pC (hO) wR ?_|refine zA ?_|refine zH rfl ?_|refine zB ?_|refine sG ?_|intro _);conv=>whnf));first|exact pS|exact pL|exact pE))|(refine zW ?_ ?_;exact gA)|refine zH rfl ?_|refine zA ?_|refine zI bA ?_|refine zI rfl ?_|refine sB ?_|(refine zO ?_ ?_ ?_;omega;omega)|(refine zP ?_ ?_ ?_;omega;omega)|refine zM rfl ?_|(refine zQ ?_ ?_ ?_;omega;omega)|(refine zR ?_ ?_;omega)|(refine zI ?_ ?_;exact nA)|refine sS ?_|refine pC (takes_c x (by omega)) wR ?_|refine pC (hO) wR ?_|refine sF ?_|refine n0 ?_|refine sD ?_|intro _|refine zG ?_);conv=>whnf)|(refine zX (fun hc => ?_) (fun hc => ?_)<;>(try simp only [SY] at hc)<;>first|omega|(conv=>whnf)))
  exact loopTo (j + 1, r.set j (j : Int)) ⟨by show j + 1 ≤ _; omega, hs2⟩ (by show x.l.length - (j + 1) < x.l.length - j; omega) wA
 ·have hop := hc
  have hj2 : j = x.l.length := by omega
  subst hj2
  rw [Nat.sub_self, List.replicate_zero, List.append_nil] at hr
  have hE : endI x = ⟨x.op, x.d, x.l.length, x.b, upTo x.l.length⟩ := by unfold endI; rw [if_pos hop, if_neg (by omega)]
  rw [hE, ← hr]
  refine PLenM.map fun _ => ?_
  conv => whnf
  repeat' (first|((first|((first|(apply zY;intro hg)|apply zZ);first|exact stA|exact stB|((conv=>whnf);(repeat ((first|(refine zW ?_ ?_;exact gA)|refine pC (takes_c x (by omega)) wR ?_|refine pC (hO) wR ?_|refine zA ?_|refine zH rfl ?_|refine zB ?_|refine sG ?_|intro _);conv=>whnf));first|exact pS|exact pL|exact pE))|(refine zW ?_ ?_;exact gA)|refine zH rfl ?_|refine zA ?_|refine zI bA ?_|refine zI rfl ?_|refine sB ?_|(refine zO ?_ ?_ ?_;omega;omega)|(refine zP ?_ ?_ ?_;omega;omega)|refine zM rfl ?_|(refine zQ ?_ ?_ ?_;omega;omega)|(refine zR ?_ ?_;omega)|(refine zI ?_ ?_;exact nA)|refine sS ?_|refine pC (takes_c x (by omega)) wR ?_|refine pC (hO) wR ?_|refine sF ?_|refine n0 ?_|refine sD ?_|intro _|refine zG ?_);conv=>whnf)|(refine zX (fun hc => ?_) (fun hc => ?_)<;>(try simp only [SY] at hc)<;>first|omega|(conv=>whnf)))
  refine PCall.goFz ts (r.map (PV.int .i64)) (args' := [.ptr b 0, .agg (⟨x.op, x.d, x.l.length, x.b, r⟩ : Ins).cells, slI al]) (.cons (WkF.of (Wk.refl _)) (.cons (WkF.agg (.cons (WkF.of (Wk.refl _)) (.cons (WkF.of (Wk.refl _)) (.cons (WkF.of (Wk.int (by show (r.length : Int) = x.l.length; omega))) (.cons (WkF.of (Wk.refl _)) (.cons (WkF.ms' hts) .nil)))))) (.cons (WkF.of (Wk.refl _)) .nil)))
   (insw_c b (out ++ movW ms) t1 (⟨x.op, x.d, x.l.length, x.b, r⟩) al ht1 (by show (out ++ movW ms).length + r.length + _ ≤ _; rw [List.length_append, hml]; omega)) ?_
  rintro _ _ ⟨t2, ht2, rfl, rfl⟩
  rw [List.append_assoc]
  conv => whnf
  repeat' (first|((first|((first|(apply zY;intro hg)|apply zZ);first|exact stA|exact stB|((conv=>whnf);(repeat ((first|(refine zW ?_ ?_;exact gA)|refine pC (takes_c x (by omega)) wR ?_|refine pC (hO) wR ?_|refine zA ?_|refine zH rfl ?_|refine zB ?_|refine sG ?_|intro _);conv=>whnf));first|exact pS|exact pL|exact pE))|(refine zW ?_ ?_;exact gA)|refine zH rfl ?_|refine zA ?_|refine zI bA ?_|refine zI rfl ?_|refine sB ?_|(refine zO ?_ ?_ ?_;omega;omega)|(refine zP ?_ ?_ ?_;omega;omega)|refine zM rfl ?_|(refine zQ ?_ ?_ ?_;omega;omega)|(refine zR ?_ ?_;omega)|(refine zI ?_ ?_;exact nA)|refine sS ?_|refine pC (takes_c x (by omega)) wR ?_|refine pC (hO) wR ?_|refine sF ?_|refine n0 ?_|refine sD ?_|intro _|refine zG ?_);conv=>whnf)|(refine zX (fun hc => ?_) (fun hc => ?_)<;>(try simp only [SY] at hc)<;>first|omega|(conv=>whnf)))
  exact PRet.gen (y := .tup []) (Γ' := wrE b (out ++ (movW ms ++ insW (⟨x.op, x.d, x.l.length, x.b, r⟩) al)) t2) (Wk.refl _) ⟨t2, ht2, rfl, rfl⟩
 ·have hop := hc
  have hj2 : j = x.l.length := by omega
  subst hj2
  rw [Nat.sub_self, List.replicate_zero, List.append_nil] at hr
  have hE : endI x = ⟨x.op, x.d, x.a, x.l.length, upTo x.l.length⟩ := by unfold endI; rw [if_neg (by omega), if_pos hop]
  rw [hE, ← hr]
  refine PLenM.map fun _ => ?_
  conv => whnf
  repeat' (first|((first|((first|(apply zY;intro hg)|apply zZ);first|exact stA|exact stB|((conv=>whnf);(repeat ((first|(refine zW ?_ ?_;exact gA)|refine pC (takes_c x (by omega)) wR ?_|refine pC (hO) wR ?_|refine zA ?_|refine zH rfl ?_|refine zB ?_|refine sG ?_|intro _);conv=>whnf));first|exact pS|exact pL|exact pE))|(refine zW ?_ ?_;exact gA)|refine zH rfl ?_|refine zA ?_|refine zI bA ?_|refine zI rfl ?_|refine sB ?_|(refine zO ?_ ?_ ?_;omega;omega)|(refine zP ?_ ?_ ?_;omega;omega)|refine zM rfl ?_|(refine zQ ?_ ?_ ?_;omega;omega)|(refine zR ?_ ?_;omega)|(refine zI ?_ ?_;exact nA)|refine sS ?_|refine pC (takes_c x (by omega)) wR ?_|refine pC (hO) wR ?_|refine sF ?_|refine n0 ?_|refine sD ?_|intro _|refine zG ?_);conv=>whnf)|(refine zX (fun hc => ?_) (fun hc => ?_)<;>(try simp only [SY] at hc)<;>first|omega|(conv=>whnf)))
  refine PCall.goFz ts (r.map (PV.int .i64)) (args' := [.ptr b 0, .agg (⟨x.op, x.d, x.a, x.l.length, r⟩ : Ins).cells, slI al]) (.cons (WkF.of (Wk.refl _)) (.cons (WkF.agg (.cons (WkF.of (Wk.refl _)) (.cons (WkF.of (Wk.refl _)) (.cons (WkF.of (Wk.refl _)) (.cons (WkF.of (Wk.int (by show (r.length : Int) = x.l.length; omega))) (.cons (WkF.ms' hts) .nil)))))) (.cons (WkF.of (Wk.refl _)) .nil)))
   (insw_c b (out ++ movW ms) t1 (⟨x.op, x.d, x.a, x.l.length, r⟩) al ht1 (by show (out ++ movW ms).length + r.length + _ ≤ _; rw [List.length_append, hml]; omega)) ?_
  rintro _ _ ⟨t2, ht2, rfl, rfl⟩
  rw [List.append_assoc]
  conv => whnf
  repeat' (first|((first|((first|(apply zY;intro hg)|apply zZ);first|exact stA|exact stB|((conv=>whnf);(repeat ((first|(refine zW ?_ ?_;exact gA)|refine pC (takes_c x (by omega)) wR ?_|refine pC (hO) wR ?_|refine zA ?_|refine zH rfl ?_|refine zB ?_|refine sG ?_|intro _);conv=>whnf));first|exact pS|exact pL|exact pE))|(refine zW ?_ ?_;exact gA)|refine zH rfl ?_|refine zA ?_|refine zI bA ?_|refine zI rfl ?_|refine sB ?_|(refine zO ?_ ?_ ?_;omega;omega)|(refine zP ?_ ?_ ?_;omega;omega)|refine zM rfl ?_|(refine zQ ?_ ?_ ?_;omega;omega)|(refine zR ?_ ?_;omega)|(refine zI ?_ ?_;exact nA)|refine sS ?_|refine pC (takes_c x (by omega)) wR ?_|refine pC (hO) wR ?_|refine sF ?_|refine n0 ?_|refine sD ?_|intro _|refine zG ?_);conv=>whnf)|(refine zX (fun hc => ?_) (fun hc => ?_)<;>(try simp only [SY] at hc)<;>first|omega|(conv=>whnf)))
  exact PRet.gen (y := .tup []) (Γ' := wrE b (out ++ (movW ms ++ insW (⟨x.op, x.d, x.a, x.l.length, r⟩) al)) t2) (Wk.refl _) ⟨t2, ht2, rfl, rfl⟩
 ·have hop := hc
  have hj2 : j = x.l.length := by omega
  subst hj2
  rw [Nat.sub_self, List.replicate_zero, List.append_nil] at hr
  have hE : endI x = ⟨x.op, x.d, x.a, x.b, upTo x.l.length⟩ := by unfold endI; rw [if_neg (by omega), if_neg (by omega)]
  rw [hE, ← hr]
  refine PCall.goFz ts (r.map (PV.int .i64)) (args' := [.ptr b 0, .agg (⟨x.op, x.d, x.a, x.b, r⟩ : Ins).cells, slI al]) (.cons (WkF.of (Wk.refl _)) (.cons (WkF.agg (.cons (WkF.of (Wk.refl _)) (.cons (WkF.of (Wk.refl _)) (.cons (WkF.of (Wk.refl _)) (.cons (WkF.of (Wk.refl _)) (.cons (WkF.ms' hts) .nil)))))) (.cons (WkF.of (Wk.refl _)) .nil)))
   (insw_c b (out ++ movW ms) t1 (⟨x.op, x.d, x.a, x.b, r⟩) al ht1 (by show (out ++ movW ms).length + r.length + _ ≤ _; rw [List.length_append, hml]; omega)) ?_
  rintro _ _ ⟨t2, ht2, rfl, rfl⟩
  rw [List.append_assoc]
  conv => whnf
  repeat' (first|((first|((first|(apply zY;intro hg)|apply zZ);first|exact stA|exact stB|((conv=>whnf);(repeat ((first|(refine zW ?_ ?_;exact gA)|refine pC (takes_c x (by omega)) wR ?_|refine pC (hO) wR ?_|refine zA ?_|refine zH rfl ?_|refine zB ?_|refine sG ?_|intro _);conv=>whnf));first|exact pS|exact pL|exact pE))|(refine zW ?_ ?_;exact gA)|refine zH rfl ?_|refine zA ?_|refine zI bA ?_|refine zI rfl ?_|refine sB ?_|(refine zO ?_ ?_ ?_;omega;omega)|(refine zP ?_ ?_ ?_;omega;omega)|refine zM rfl ?_|(refine zQ ?_ ?_ ?_;omega;omega)|(refine zR ?_ ?_;omega)|(refine zI ?_ ?_;exact nA)|refine sS ?_|refine pC (takes_c x (by omega)) wR ?_|refine pC (hO) wR ?_|refine sF ?_|refine n0 ?_|refine sD ?_|intro _|refine zG ?_);conv=>whnf)|(refine zX (fun hc => ?_) (fun hc => ?_)<;>(try simp only [SY] at hc)<;>first|omega|(conv=>whnf)))
  exact PRet.gen (y := .tup []) (Γ' := wrE b (out ++ (movW ms ++ insW (⟨x.op, x.d, x.a, x.b, r⟩) al)) t2) (Wk.refl _) ⟨t2, ht2, rfl, rfl⟩
end Go.Cb
namespace Go.Cb
open Go.Proofs
set_option maxRecDepth 100000
set_option maxHeartbeats 4000000
def cwM : CwF := fun sp x al => movW (ordF (takF x) sp).1 ++ insW (endI x) al
theorem chksU_mem (u : Unt) : ∀ (ps : List Prc) (all : Int), chksU u ps all = true → ∀ p ∈ ps, headB p = false ∧ endB p = false ∧ ∀ x ∈ p.code, fitB x p u = true
 | [], _, _, _, h => by cases h
 | q :: ps, all, hc, p, hp => by
  rw [chksU] at hc
  split at hc
  ·cases hc
  rename_i h1
  split at hc
  ·cases hc
  rename_i h2
  split at hc
  ·cases hc
  rename_i h3
  rcases List.mem_cons.1 hp with rfl | hp
  ·refine ⟨by simpa using h1, ?_, fun x hx => ?_⟩
   ·rw [Bool.or_eq_true, not_or] at h2
    simpa using h2.2
   ·rw [Bool.not_eq_true, List.any_eq_false] at h3
    simpa using h3 x hx
  ·exact chksU_mem u ps _ hc p hp
theorem illB_no {u : Unt} (h : illB u = false) : ∀ p ∈ u.procs, headB p = false ∧ endB p = false ∧ (∀ x ∈ p.code, fitB x p u = true) ∧ fitsE p = true := by
 unfold illB at h
 rw [Bool.or_eq_false_iff] at h
 have h0 : chkU u = 0 := by simpa using h.1
 have h1 : chksU u u.procs 0 = true := by
  unfold chkU at h0
  split at h0
  ·cases h0
  ·split at h0
   ·assumption
   ·cases h0
 intro p hp
 obtain ⟨a, b, c⟩ := chksU_mem u u.procs 0 h1 p hp
 refine ⟨a, b, c, ?_⟩
 have := List.any_eq_false.1 h.2 p hp
 simpa using this
theorem risB_len (regs : Int) : ∀ (l : List Int) (last : Int), risB regs l last = true → (l.length : Int) ≤ max 0 (regs - last - 1)
 | [], _, _ => by simp; omega
 | s :: l, last, h => by
  rw [risB] at h
  split at h
  ·cases h
  ·rename_i hc
   simp only [Bool.or_eq_true, decide_eq_true_eq, not_or] at hc
   have := risB_len regs l s h
   rw [List.length_cons]
   omega
theorem alvB_mem (regs : Int) : ∀ (c : List Ins) (al : List (List Int)), al.length = c.length → alvB regs c al = true → ∀ a ∈ al, risB regs a (-1) = true
 | x :: c, a :: al, hl, h, b, hb => by
  rw [alvB] at h
  split at h
  ·cases h
  ·split at h
   ·rename_i h2
    rcases List.mem_cons.1 hb with rfl | hb
    ·exact h2
    ·exact alvB_mem regs c al (by simpa using hl) h b hb
   ·cases h
 | [], [], _, _, b, hb => by cases hb
 | [], _ :: _, hl, _, _, _ => by simp at hl
 | _ :: _, [], hl, _, _, _ => by simp at hl
theorem insW_len (x : Ins) (al : List Int) : (insW x al).length = 6 + x.l.length + al.length := by
 simp [insW]; omega
theorem upTo_len (n : Nat) : (upTo n).length = n := by simp [upTo]
theorem ordF_len (l : List Int) (sp : Int) : (ordF l sp).1.length ≤ 2 * l.length + 1 := by
 unfold ordF
 split
 ·simp
 ·exact movL_len ..
theorem cwM_len (sp : Int) (x : Ins) (al : List Int) : (cwM sp x al).length ≤ 24 + 13 * x.l.length + al.length := by
 unfold cwM
 rw [List.length_append, movW_len, insW_len]
 have h1 := ordF_len (takF x) sp
 have h2 := takF_len x
 have h3 : (endI x).l.length = x.l.length := upTo_len _
 omega
theorem allW_len (cw : Ins → List Int → List Int) (f : Ins → Ins) (B : Nat) : ∀ (c : List Ins) (al : List (List Int)), (∀ x ∈ c, ∀ a ∈ al, (oneW cw (f x) a).length ≤ B) → (allW cw f c al).length ≤ c.length * B
 | x :: c, a :: al, h => by
  rw [allW, List.length_append, List.length_cons, Nat.succ_mul]
  have h1 := h x (by simp) a (by simp)
  have h2 := allW_len cw f B c al fun y hy b hb => h y (by simp [hy]) b (by simp [hb])
  omega
 | [], _, _ => by simp [allW]
 | _ :: _, [], _ => by simp [allW]
def Lim (u : Unt) : Prop := u.procs.length ≤ 30 ∧ ∀ p ∈ u.procs, p.code.length ≤ 200 ∧ ∀ x ∈ p.code, x.l.length ≤ 1000
theorem jmpT_l (pl : List Int) (x : Ins) : (jmpT pl x).l = x.l := by unfold jmpT; split; rfl; split <;> rfl
theorem one_len {sp : Int} {x : Ins} {a : List Int} (hx : x.l.length ≤ 1000) (ha : a.length ≤ 20000) : (oneW (cwM sp) x a).length ≤ 40000 := by
 unfold oneW
 split
 ·have := cwM_len sp x a
  omega
 ·rw [insW_len]; omega
theorem alive_len {u : Unt} (hi : illB u = false) {p : Prc} (hp : p ∈ u.procs) : p.alive.length = p.code.length ∧ 0 < p.code.length ∧ 0 ≤ p.regs ∧ p.regs ≤ 20000 ∧ (∀ a ∈ p.alive, a.length ≤ 20000 ∧ risB p.regs a (-1) = true) ∧ 0 ≤ p.args ∧ p.args ≤ p.regs := by
 obtain ⟨h1, h2, h3, h4⟩ := illB_no hi p hp
 unfold headB at h1
 simp only [Bool.or_eq_false_iff, decide_eq_false_iff_not, beq_eq_false_iff_ne, Bool.and_eq_false_imp] at h1
 unfold fitsE at h4
 split at h4
 ·rename_i hl
  refine ⟨hl, by omega, by omega, by omega, fun a ha => ?_, by omega, by omega⟩
  have h5 := alvB_mem p.regs p.code p.alive hl h4 a ha
  have := risB_len p.regs a (-1) h5
  exact ⟨by omega, h5⟩
 ·cases h4
theorem prcOk {u : Unt} (hi : illB u = false) (hb : Lim u) : ∀ p ∈ u.procs, PrcOk cwM p := by
 intro p hp
 obtain ⟨hl, hn, hr0, hr1, ha, _, _⟩ := alive_len hi hp
 obtain ⟨h1, h2, h3, h4⟩ := illB_no hi p hp
 obtain ⟨hcl, hxl⟩ := hb.2 p hp
 refine ⟨hl, hn, by omega, fun x hx => ?_, fun x hx => by have := hxl x hx; omega, ⟨hr0, hr1⟩, fun x hx hv al => ?_, ?_, ?_⟩
 ·have hf := h3 x hx
  unfold fitB at hf
  rw [Bool.and_eq_true] at hf
  have hf2 := hf.2
  unfold fitN at hf2
  refine ⟨fun e => ?_, fun e => ?_⟩
  ·repeat (first|rw [if_neg (by omega)] at hf2|rw [if_pos (by omega)] at hf2)
   unfold belB at hf2
   rw [Bool.and_eq_true, decide_eq_true_eq, decide_eq_true_eq] at hf2
   omega
  ·repeat (first|rw [if_neg (by omega)] at hf2|rw [if_pos (by omega)] at hf2)
   unfold belB at hf2
   rw [Bool.and_eq_true, decide_eq_true_eq, decide_eq_true_eq] at hf2
   omega
 ·have := hxl x hx
  exact call_c _ _ _ x al (by omega) (order_c (takF x) (spareL p.code p.regs))
 ·have := allW_len (cwM (spareL p.code p.regs)) id 40000 p.code p.alive fun x hx a ha2 => one_len (hxl x hx) (ha a ha2).1
  have h5 : p.code.length * 40000 ≤ 200 * 40000 := Nat.mul_le_mul_right _ hcl
  omega
 ·have := allW_len (cwM (spareL p.code p.regs)) (jmpT (stsP cwM p)) 40000 p.code p.alive fun x hx a ha2 => one_len (by rw [jmpT_l]; exact hxl x hx) (ha a ha2).1
  have h5 : p.code.length * 40000 ≤ 200 * 40000 := Nat.mul_le_mul_right _ hcl
  show (allW _ _ _ _).length ≤ _
  omega
theorem wrd_len {u : Unt} (hi : illB u = false) (hb : Lim u) {p : Prc} (hp : p ∈ u.procs) : (wrdP cwM p).length ≤ 8000000 := by
 obtain ⟨hl, hn, hr0, hr1, ha, _, _⟩ := alive_len hi hp
 obtain ⟨hcl, hxl⟩ := hb.2 p hp
 have := allW_len (cwM (spareL p.code p.regs)) (jmpT (stsP cwM p)) 40000 p.code p.alive fun x hx a ha2 => one_len (by rw [jmpT_l]; exact hxl x hx) (ha a ha2).1
 have h5 : p.code.length * 40000 ≤ 200 * 40000 := Nat.mul_le_mul_right _ hcl
 show (allW _ _ _ _).length ≤ _
 omega
theorem body_len (B : Nat) : ∀ (l : List Prc), (∀ p ∈ l, (wrdP cwM p).length ≤ B) → (bodyW cwM l).length ≤ l.length * (B + 4)
 | [], _ => by simp [bodyW]
 | p :: l, h => by
  have h1 := h p (by simp)
  have h2 := body_len B l fun q hq => h q (by simp [hq])
  have h3 : (procW cwM p).length = 4 + (wrdP cwM p).length := by simp [procW]; omega
  rw [bodyW, List.flatMap_cons, ← bodyW, List.length_append, List.length_cons, Nat.succ_mul, h3]
  omega
theorem bodyZ {u : Unt} (hi : illB u = false) (hb : Lim u) : (bodyW cwM u.procs).length ≤ 900000000 := by
 have := body_len 8000000 u.procs fun p hp => wrd_len hi hb hp
 have h5 : u.procs.length * (8000000 + 4) ≤ 30 * (8000000 + 4) := Nat.mul_le_mul_right _ hb.1
 omega
theorem emitM_c (u : Unt) (hb : Lim u) : ACallP Tryz.prog 24 [.agg u.cells] (emitPV cwM u) := emit_c u cwM (fun hi => prcOk hi hb) (fun hi => bodyZ hi hb)
def fewPs (n : Int) : List Prc → Int → Bool
 | [], _ => true
 | p :: ps, k => if (p.code.length : Int) > n ∨ p.regs > 10 * n then false else if (p.code.any fun x => decide ((x.l.length : Int) > 60)) = true then false else if k + p.code.length > n then false else fewPs n ps (k + p.code.length)
def fewU (u : Unt) (n : Int) : Bool := if u.procs.length > 30 ∨ decide (0 ≤ Datum.fews u.consts 2000) = false then false else fewPs n u.procs 0
theorem fewPs_mem (n : Int) : ∀ (ps : List Prc) (k : Int), fewPs n ps k = true → ∀ p ∈ ps, (p.code.length : Int) ≤ n ∧ p.regs ≤ 10 * n ∧ ∀ x ∈ p.code, x.l.length ≤ 60
 | [], _, _, _, h => by cases h
 | q :: ps, k, hc, p, hp => by
  rw [fewPs] at hc
  split at hc
  ·cases hc
  rename_i h1
  split at hc
  ·cases hc
  rename_i h2
  split at hc
  ·cases hc
  rcases List.mem_cons.1 hp with rfl | hp
  ·refine ⟨by omega, by omega, fun x hx => ?_⟩
   rw [Bool.not_eq_true, List.any_eq_false] at h2
   have := h2 x hx
   simp only [decide_eq_true_eq] at this
   omega
  ·exact fewPs_mem n ps _ hc p hp
theorem fewU_lim {u : Unt} {n : Int} (h : fewU u n = true) (hn : n ≤ 200) : Lim u := by
 unfold fewU at h
 split at h
 ·cases h
 ·rename_i h1
  refine ⟨by omega, fun p hp => ?_⟩
  obtain ⟨a, _, c⟩ := fewPs_mem n _ _ h p hp
  exact ⟨by omega, fun x hx => by have := c x hx; omega⟩
end Go.Cb
namespace Go.Cb
open Go.Proofs
set_option maxRecDepth 100000
set_option maxHeartbeats 4000000
end Go.Cb
namespace Go.Cb
open Go.Proofs
set_option maxRecDepth 100000
set_option maxHeartbeats 4000000
theorem ints19_self (l : List Int) : ACallP Tryz.prog 26 [slI l, slI l] (.bool true) := by
 refine ACall.of_body tt_ok Tryz.func26 rfl rfl (n := 26) rfl rfl ?_
 conv => whnf
 repeat' (first|((first|((first|(apply zY;intro hg)|apply zZ);first|exact stA|exact stB)|(refine zW ?_ ?_;exact gA)|refine zH rfl ?_|refine zA ?_|refine zI bA ?_|refine zI rfl ?_|refine sB ?_|(refine zO ?_ ?_ ?_;omega;omega)|(refine zP ?_ ?_ ?_;omega;omega)|refine zM rfl ?_|(refine zQ ?_ ?_ ?_;omega;omega)|(refine zR ?_ ?_;omega)|(refine zI ?_ ?_;exact nA)|refine sS ?_|refine sE ?_|refine n0 ?_|refine sD ?_|refine PDraw.sP (some 17) rfl [] [] tt_ok mixed ?_|intro _|refine zG ?_);conv=>whnf)|(refine zX (fun hc => ?_) (fun hc => ?_)<;>(try simp only [SY] at hc)<;>first|omega|(conv=>whnf)))
 refine PLoop.keep [4, 5, 11, 12, 13, 14, 15, 16, 17, 18, 19, 20, 21, 22, 23, 24, 25] (fun i : Nat => [(5, .int .i64 i)]) (fun i => i ≤ l.length) (fun i => l.length - i) 0 (Nat.zero_le _) wA ?_
 rintro i hi
 conv => whnf
 repeat' (first|((first|((first|(apply zY;intro hg)|apply zZ);first|exact stA|exact stB)|(refine zW ?_ ?_;exact gA)|refine zH rfl ?_|refine zA ?_|refine zI bA ?_|refine zI rfl ?_|refine sB ?_|(refine zO ?_ ?_ ?_;omega;omega)|(refine zP ?_ ?_ ?_;omega;omega)|refine zM rfl ?_|(refine zQ ?_ ?_ ?_;omega;omega)|(refine zR ?_ ?_;omega)|(refine zI ?_ ?_;exact nA)|refine sS ?_|refine sE ?_|refine n0 ?_|refine sD ?_|refine PDraw.sP (some 17) rfl [] [] tt_ok mixed ?_|intro _|refine zG ?_);conv=>whnf)|(refine zX (fun hc => ?_) (fun hc => ?_)<;>(try simp only [SY] at hc)<;>first|omega|(conv=>whnf)))
 ·exact loopTo (i + 1) (by show i + 1 ≤ _; omega) (by show l.length - (i + 1) < l.length - i; omega) wA
 ·exact PRet.pure (Wk.tt rfl)
theorem sameIns_self (x : Ins) : ACallP Tryz.prog 101 [.agg x.cells, .agg x.cells] (.bool true) := by
 refine ACall.of_body tt_ok Tryz.func101 rfl rfl (n := 38) rfl rfl ?_
 conv => whnf
 repeat' (first|((first|((first|(apply zY;intro hg)|apply zZ);first|exact stA|exact stB|((conv=>whnf);(repeat ((first|(refine zW ?_ ?_;exact gA)|refine pC (ints19_self x.l) wR ?_|intro _);conv=>whnf));first|exact pS|exact pL|exact pE))|(refine zW ?_ ?_;exact gA)|refine zH rfl ?_|refine zA ?_|refine zI bA ?_|refine zI rfl ?_|refine sB ?_|(refine zO ?_ ?_ ?_;omega;omega)|(refine zP ?_ ?_ ?_;omega;omega)|refine zM rfl ?_|(refine zQ ?_ ?_ ?_;omega;omega)|(refine zR ?_ ?_;omega)|(refine zI ?_ ?_;exact nA)|refine sS ?_|refine pC (ints19_self x.l) wR ?_|refine sE ?_|refine n0 ?_|refine sD ?_|intro _|refine zG ?_);conv=>whnf)|(refine zX (fun hc => ?_) (fun hc => ?_)<;>(try simp only [SY] at hc)<;>first|omega|(conv=>whnf)))
 exact PRet.pure (Wk.bool (by simp))
theorem sameProc_self (p : Prc) : ACallP Tryz.prog 54 [.agg p.cells, .agg p.cells] (.bool true) := by
 refine ACall.of_body tt_ok Tryz.func54 rfl rfl (n := 82) rfl rfl ?_
 conv => whnf
 repeat' (first|((first|((first|(apply zY;intro hg)|apply zZ);first|exact stA|exact stB|((conv=>whnf);(repeat ((first|(refine zW ?_ ?_;exact gA)|refine pC (sameIns_self _) wR ?_|refine pC (ints19_self _) wR ?_|intro _);conv=>whnf));first|exact pS|exact pL|exact pE))|(refine zW ?_ ?_;exact gA)|refine zH rfl ?_|refine zA ?_|refine zI bA ?_|refine zI rfl ?_|refine sB ?_|(refine zO ?_ ?_ ?_;omega;omega)|(refine zP ?_ ?_ ?_;omega;omega)|refine zM rfl ?_|(refine zQ ?_ ?_ ?_;omega;omega)|(refine zR ?_ ?_;omega)|(refine zI ?_ ?_;exact nA)|refine sS ?_|refine pC (sameIns_self _) wR ?_|refine pC (ints19_self _) wR ?_|refine sE ?_|refine n0 ?_|refine sD ?_|refine PDraw.sP (some 51) rfl [] [] tt_ok mixed ?_|refine PDraw.sP (some 70) rfl [] [] tt_ok mixed ?_|intro _|refine zG ?_);conv=>whnf)|(refine zX (fun hc => ?_) (fun hc => ?_)<;>(try simp only [SY] at hc)<;>first|omega|(conv=>whnf)))
 ·exfalso; simp at hc
 refine PLoop.keep [4, 5, 44, 45, 46, 47, 48, 49, 50, 51, 52, 53, 54, 55, 56, 57, 58, 59, 60, 61, 62] (fun i : Nat => [(5, .int .i64 i)]) (fun i => i ≤ p.code.length) (fun i => p.code.length - i) 0 (Nat.zero_le _) wA ?_
 rintro i hi
 conv => whnf
 repeat' (first|((first|((first|(apply zY;intro hg)|apply zZ);first|exact stA|exact stB|((conv=>whnf);(repeat ((first|(refine zW ?_ ?_;exact gA)|refine pC (sameIns_self _) wR ?_|refine pC (ints19_self _) wR ?_|intro _);conv=>whnf));first|exact pS|exact pL|exact pE))|(refine zW ?_ ?_;exact gA)|refine zH rfl ?_|refine zA ?_|refine zI bA ?_|refine zI rfl ?_|refine sB ?_|(refine zO ?_ ?_ ?_;omega;omega)|(refine zP ?_ ?_ ?_;omega;omega)|refine zM rfl ?_|(refine zQ ?_ ?_ ?_;omega;omega)|(refine zR ?_ ?_;omega)|(refine zI ?_ ?_;exact nA)|refine sS ?_|refine pC (sameIns_self _) wR ?_|refine pC (ints19_self _) wR ?_|refine sE ?_|refine n0 ?_|refine sD ?_|refine PDraw.sP (some 51) rfl [] [] tt_ok mixed ?_|refine PDraw.sP (some 70) rfl [] [] tt_ok mixed ?_|intro _|refine zG ?_);conv=>whnf)|(refine zX (fun hc => ?_) (fun hc => ?_)<;>(try simp only [SY] at hc)<;>first|omega|(conv=>whnf)))
 ·exact loopTo (i + 1) (by show i + 1 ≤ _; omega) (by show p.code.length - (i + 1) < p.code.length - i; omega) wA
 refine PLoop.keep [4, 6, 63, 64, 65, 66, 67, 68, 69, 70, 71, 72, 73, 74, 75, 76, 77, 78, 79, 80, 81] (fun i : Nat => [(6, .int .i64 i)]) (fun i => i ≤ p.alive.length) (fun i => p.alive.length - i) 0 (Nat.zero_le _) wA ?_
 rintro j hj
 conv => whnf
 repeat' (first|((first|((first|(apply zY;intro hg)|apply zZ);first|exact stA|exact stB|((conv=>whnf);(repeat ((first|(refine zW ?_ ?_;exact gA)|refine pC (sameIns_self _) wR ?_|refine pC (ints19_self _) wR ?_|intro _);conv=>whnf));first|exact pS|exact pL|exact pE))|(refine zW ?_ ?_;exact gA)|refine zH rfl ?_|refine zA ?_|refine zI bA ?_|refine zI rfl ?_|refine sB ?_|(refine zO ?_ ?_ ?_;omega;omega)|(refine zP ?_ ?_ ?_;omega;omega)|refine zM rfl ?_|(refine zQ ?_ ?_ ?_;omega;omega)|(refine zR ?_ ?_;omega)|(refine zI ?_ ?_;exact nA)|refine sS ?_|refine pC (sameIns_self _) wR ?_|refine pC (ints19_self _) wR ?_|refine sE ?_|refine n0 ?_|refine sD ?_|refine PDraw.sP (some 51) rfl [] [] tt_ok mixed ?_|refine PDraw.sP (some 70) rfl [] [] tt_ok mixed ?_|intro _|refine zG ?_);conv=>whnf)|(refine zX (fun hc => ?_) (fun hc => ?_)<;>(try simp only [SY] at hc)<;>first|omega|(conv=>whnf)))
 ·exact loopTo (j + 1) (by show j + 1 ≤ _; omega) (by show p.alive.length - (j + 1) < p.alive.length - j; omega) wA
 ·exact PRet.pure (Wk.tt rfl)
theorem same19_self (l : List Prc) : ACallP Tryz.prog 22 [.sl 5 (l.map Prc.pv) none, .sl 5 (l.map Prc.pv) none] (.bool true) := by
 refine ACall.of_body tt_ok Tryz.func22 rfl rfl (n := 27) rfl rfl ?_
 conv => whnf
 repeat' (first|((first|((first|(apply zY;intro hg)|apply zZ);first|exact stA|exact stB|((conv=>whnf);(repeat ((first|(refine zW ?_ ?_;exact gA)|refine pC (sameProc_self _) wR ?_|intro _);conv=>whnf));first|exact pS|exact pL|exact pE))|(refine zW ?_ ?_;exact gA)|refine zH rfl ?_|refine zA ?_|refine zI bA ?_|refine zI rfl ?_|refine sB ?_|(refine zO ?_ ?_ ?_;omega;omega)|(refine zP ?_ ?_ ?_;omega;omega)|refine zM rfl ?_|(refine zQ ?_ ?_ ?_;omega;omega)|(refine zR ?_ ?_;omega)|(refine zI ?_ ?_;exact nA)|refine sS ?_|refine pC (sameProc_self _) wR ?_|refine sE ?_|refine n0 ?_|refine sD ?_|refine PDraw.sP (some 17) rfl [] [] tt_ok mixed ?_|intro _|refine zG ?_);conv=>whnf)|(refine zX (fun hc => ?_) (fun hc => ?_)<;>(try simp only [SY] at hc)<;>first|omega|(conv=>whnf)))
 refine PLoop.keep [4, 5, 11, 12, 13, 14, 15, 16, 17, 18, 19, 20, 21, 22, 23, 24, 25, 26] (fun i : Nat => [(5, .int .i64 i)]) (fun i => i ≤ l.length) (fun i => l.length - i) 0 (Nat.zero_le _) wA ?_
 rintro i hi
 conv => whnf
 repeat' (first|((first|((first|(apply zY;intro hg)|apply zZ);first|exact stA|exact stB|((conv=>whnf);(repeat ((first|(refine zW ?_ ?_;exact gA)|refine pC (sameProc_self _) wR ?_|intro _);conv=>whnf));first|exact pS|exact pL|exact pE))|(refine zW ?_ ?_;exact gA)|refine zH rfl ?_|refine zA ?_|refine zI bA ?_|refine zI rfl ?_|refine sB ?_|(refine zO ?_ ?_ ?_;omega;omega)|(refine zP ?_ ?_ ?_;omega;omega)|refine zM rfl ?_|(refine zQ ?_ ?_ ?_;omega;omega)|(refine zR ?_ ?_;omega)|(refine zI ?_ ?_;exact nA)|refine sS ?_|refine pC (sameProc_self _) wR ?_|refine sE ?_|refine n0 ?_|refine sD ?_|refine PDraw.sP (some 17) rfl [] [] tt_ok mixed ?_|intro _|refine zG ?_);conv=>whnf)|(refine zX (fun hc => ?_) (fun hc => ?_)<;>(try simp only [SY] at hc)<;>first|omega|(conv=>whnf)))
 ·exact loopTo (i + 1) (by show i + 1 ≤ _; omega) (by show l.length - (i + 1) < l.length - i; omega) wA
 ·exact PRet.pure (Wk.tt rfl)
def u0 : Unt := ⟨[], [⟨1, false, 1, [⟨22, 0, 0, 0, []⟩], [[]]⟩]⟩
def L0 : List Int := [6516594, 1, 3, 1, 0, 2, 6, 22, 0, 0, 0, 0, 0]
def p0 : Prc := ⟨1, false, 2, [⟨22, 0, 0, 0, []⟩], [[]]⟩
def cw0 : CwF := fun _ _ _ => []
theorem emit_u0 : emitR cw0 u0 = (L0, 0) := by kernel_rfl
theorem read_L0 : readR L0 = ([p0], 0) := by kernel_rfl
theorem u0_ok : ∀ p ∈ u0.procs, PrcOk cw0 p := by
 intro p hp
 simp only [u0, List.mem_singleton] at hp
 subst hp
 refine ⟨rfl, by decide, by decide, ?_, ?_, by decide, ?_, by decide, by decide⟩
 ·intro x hx
  simp only [List.mem_singleton] at hx
  subst hx
  exact ⟨fun h => by simp at h, fun h => by simp at h⟩
 ·intro x hx
  simp only [List.mem_singleton] at hx
  subst hx
  simp
 ·intro x hx h
  simp only [List.mem_singleton] at hx
  subst hx
  simp [lvsB] at h
theorem Wk.rowT {s : Nat} {xs ys : List PV} {tk : Option Tok} (h : WkR xs ys) : Wk (.sl s xs tk) (.sl s ys none) := Wk.trans (Wk.tok _ _ _) (Wk.row h)
theorem u0_wk (t1 t2 t3 : Option Tok) : Wk (.agg [.nil, .sl 5 [.agg [.int .i64 1, .bfalse, .int .i64 1, .sl 5 [.agg [.int .i64 22, .int .i64 0, .int .i64 0, .int .i64 0, .nil]] t1, .sl 1 [.nil] t2]] t3]) (.agg u0.cells) :=
 Wk.agg (.cons (Wk.nil' rfl) (.cons (Wk.rowT (.cons (.cons (Wk.refl _) (.cons (Wk.ff rfl) (.cons (Wk.refl _) (.cons (Wk.rowT (.cons (.cons (Wk.refl _) (.cons (Wk.refl _) (.cons (Wk.refl _) (.cons (Wk.refl _) (.cons (Wk.nil' rfl) .nil))))) .nil)) (.cons (Wk.rowT (.cons (.cons (Wk.nil' rfl) .nil) .nil)) .nil))))) .nil)) .nil))
theorem awake19_c : ACallP Tryz.prog 19 [] (.bool true) := by
 have he := emit_c u0 cw0 (fun _ => u0_ok) (fun _ => by decide)
 rw [emitPV, emit_u0] at he
 have hr := read_c L0 (by decide)
 rw [readPV, read_L0] at hr
 refine ACall.of_body tt_ok Tryz.func19 rfl rfl (n := 45) rfl rfl ?_
 conv => whnf
 repeat' (first|((first|((first|(apply zY;intro hg)|apply zZ);first|exact stA|exact stB|((conv=>whnf);(repeat ((first|(refine zW ?_ ?_;exact gA)|refine pC (hr) wR ?_|refine pC (ints19_self L0) wR ?_|intro _);conv=>whnf));first|exact pS|exact pL|exact pE))|(refine zW ?_ ?_;exact gA)|refine zH rfl ?_|refine zA ?_|refine zI bA ?_|refine zI rfl ?_|refine sB ?_|(refine zO ?_ ?_ ?_;omega;omega)|(refine zP ?_ ?_ ?_;omega;omega)|refine zM rfl ?_|(refine zQ ?_ ?_ ?_;omega;omega)|(refine zR ?_ ?_;omega)|(refine zI ?_ ?_;exact nA)|refine sS ?_|refine pC (hr) wR ?_|refine pC (ints19_self L0) wR ?_|refine sE ?_|refine n0 ?_|refine sD ?_|intro _|refine zG ?_);conv=>whnf)|(refine zX (fun hc => ?_) (fun hc => ?_)<;>(try simp only [SY] at hc)<;>first|omega|(conv=>whnf)))
 refine PCall.pure he (.cons (u0_wk _ _ _) .nil) ?_
 conv => whnf
 repeat' (first|((first|((first|(apply zY;intro hg)|apply zZ);first|exact stA|exact stB|((conv=>whnf);(repeat ((first|(refine zW ?_ ?_;exact gA)|refine pC (hr) wR ?_|refine pC (ints19_self L0) wR ?_|intro _);conv=>whnf));first|exact pS|exact pL|exact pE))|(refine zW ?_ ?_;exact gA)|refine zH rfl ?_|refine zA ?_|refine zI bA ?_|refine zI rfl ?_|refine sB ?_|(refine zO ?_ ?_ ?_;omega;omega)|(refine zP ?_ ?_ ?_;omega;omega)|refine zM rfl ?_|(refine zQ ?_ ?_ ?_;omega;omega)|(refine zR ?_ ?_;omega)|(refine zI ?_ ?_;exact nA)|refine sS ?_|refine pC (hr) wR ?_|refine pC (ints19_self L0) wR ?_|refine sE ?_|refine n0 ?_|refine sD ?_|intro _|refine zG ?_);conv=>whnf)|(refine zX (fun hc => ?_) (fun hc => ?_)<;>(try simp only [SY] at hc)<;>first|omega|(conv=>whnf)))
 exact PRet.pure (Wk.bool rfl)
end Go.Cb
namespace Go.Cb
open Go.Proofs
set_option maxRecDepth 100000
set_option maxHeartbeats 4000000
theorem few19_c (u : Unt) (n : Int) (h0 : 0 ≤ n) (h1 : n ≤ 1000000000) : ACallP Tryz.prog 23 [.agg u.cells, .int .i64 n] (.bool (fewU u n)) := by
 refine ACall.of_body tt_ok Tryz.func23 rfl rfl (n := 80) rfl rfl ?_
 conv => whnf
 repeat' (first|((first|((first|(apply zY;intro hg)|apply zZ);first|exact stA|exact stB|((conv=>whnf);(repeat ((first|(refine zW ?_ ?_;exact gA)|refine pC (FewAll_c u.consts 2000 (by omega) (by omega)) wR ?_|intro _);conv=>whnf));first|exact pS|exact pL|exact pE))|(refine zW ?_ ?_;exact gA)|refine zH rfl ?_|refine zA ?_|refine zI bA ?_|refine zI rfl ?_|refine sB ?_|(refine zO ?_ ?_ ?_;omega;omega)|(refine zP ?_ ?_ ?_;omega;omega)|refine zM rfl ?_|(refine zQ ?_ ?_ ?_;omega;omega)|(refine zR ?_ ?_;omega)|(refine zI ?_ ?_;exact nA)|refine sS ?_|refine pC (FewAll_c u.consts 2000 (by omega) (by omega)) wR ?_|refine sE ?_|refine n0 ?_|refine sD ?_|intro _|refine zG ?_);conv=>whnf)|(refine zX (fun hc => ?_) (fun hc => ?_)<;>(try simp only [SY] at hc)<;>first|omega|(conv=>whnf)))
 ·rw [fewU, if_pos (by rw [decide_eq_false_iff_not]; omega)]
  exact PRet.pure (Wk.ff rfl)
 rw [fewU, if_neg (by rw [decide_eq_false_iff_not]; omega)]
 refine PLoop.keep [4, 5, 6, 7, 18, 19, 20, 21, 22, 23, 24, 25, 26, 27, 28, 29, 30, 31, 32, 33, 34, 35, 36, 37, 38, 39, 40, 41, 42, 43, 44, 45, 46, 47, 48, 49, 50, 51, 52, 53, 54, 55, 56, 57, 58, 59, 60, 61, 62, 63, 64, 65, 66, 67, 68, 69, 70, 71, 72, 73, 74, 75, 76, 77, 78, 79] (fun x : Nat × Int => [(5, .int .i64 x.2), (6, .int .i64 x.1)]) (fun x => x.1 ≤ u.procs.length ∧ 0 ≤ x.2 ∧ x.2 ≤ n ∧ fewPs n u.procs 0 = fewPs n (u.procs.drop x.1) x.2) (fun x => u.procs.length - x.1) (0, 0) ⟨Nat.zero_le _, by omega, by omega, rfl⟩ wA ?_
 rintro ⟨i, k⟩ ⟨hi, hk, hkn, he⟩
 dsimp only at hi hk hkn he ⊢
 conv => whnf
 repeat' (first|((first|((first|(apply zY;intro hg)|apply zZ);first|exact stA|exact stB|((conv=>whnf);(repeat ((first|(refine zW ?_ ?_;exact gA)|refine pC (FewAll_c u.consts 2000 (by omega) (by omega)) wR ?_|intro _);conv=>whnf));first|exact pS|exact pL|exact pE))|(refine zW ?_ ?_;exact gA)|refine zH rfl ?_|refine zA ?_|refine zI bA ?_|refine zI rfl ?_|refine sB ?_|(refine zO ?_ ?_ ?_;omega;omega)|(refine zP ?_ ?_ ?_;omega;omega)|refine zM rfl ?_|(refine zQ ?_ ?_ ?_;omega;omega)|(refine zR ?_ ?_;omega)|(refine zI ?_ ?_;exact nA)|refine sS ?_|refine pC (FewAll_c u.consts 2000 (by omega) (by omega)) wR ?_|refine sE ?_|refine n0 ?_|refine sD ?_|intro _|refine zG ?_);conv=>whnf)|(refine zX (fun hc => ?_) (fun hc => ?_)<;>(try simp only [SY] at hc)<;>first|omega|(conv=>whnf)))
 ·have hip : i < u.procs.length := by omega
  rw [drop_at hip, fewPs, if_pos (by omega)] at he
  rw [he]
  exact PRet.pure (Wk.ff rfl)
 ·have hip : i < u.procs.length := by omega
  rw [drop_at hip, fewPs, if_neg (by omega)] at he
  refine PLoop.keep [4, 7, 54, 55, 56, 57, 58, 59, 60, 61, 62, 63, 64, 65, 66, 67, 68, 69, 70, 71, 72, 73, 74, 75, 76] (fun j : Nat => [(7, .int .i64 j)]) (fun j => j ≤ u.procs[i].code.length ∧ (u.procs[i].code.any fun x => decide ((x.l.length : Int) > 60)) = (u.procs[i].code.drop j).any fun x => decide ((x.l.length : Int) > 60)) (fun j => u.procs[i].code.length - j) 0 ⟨Nat.zero_le _, rfl⟩ wA ?_
  rintro j ⟨hj, hja⟩
  conv => whnf
  repeat' (first|((first|((first|(apply zY;intro hg)|apply zZ);first|exact stA|exact stB|((conv=>whnf);(repeat ((first|(refine zW ?_ ?_;exact gA)|refine pC (FewAll_c u.consts 2000 (by omega) (by omega)) wR ?_|intro _);conv=>whnf));first|exact pS|exact pL|exact pE))|(refine zW ?_ ?_;exact gA)|refine zH rfl ?_|refine zA ?_|refine zI bA ?_|refine zI rfl ?_|refine sB ?_|(refine zO ?_ ?_ ?_;omega;omega)|(refine zP ?_ ?_ ?_;omega;omega)|refine zM rfl ?_|(refine zQ ?_ ?_ ?_;omega;omega)|(refine zR ?_ ?_;omega)|(refine zI ?_ ?_;exact nA)|refine sS ?_|refine pC (FewAll_c u.consts 2000 (by omega) (by omega)) wR ?_|refine sE ?_|refine n0 ?_|refine sD ?_|intro _|refine zG ?_);conv=>whnf)|(refine zX (fun hc => ?_) (fun hc => ?_)<;>(try simp only [SY] at hc)<;>first|omega|(conv=>whnf)))
  ·have hjc : j < u.procs[i].code.length := by omega
   rw [drop_at hjc, List.any_cons, decide_eq_true (by omega : (u.procs[i].code[j].l.length : Int) > 60), Bool.true_or] at hja
   rw [if_pos hja] at he
   rw [he]
   exact PRet.pure (Wk.ff rfl)
  ·have hjc : j < u.procs[i].code.length := by omega
   rw [drop_at hjc, List.any_cons, decide_eq_false (by omega : ¬(u.procs[i].code[j].l.length : Int) > 60), Bool.false_or] at hja
   exact loopTo (j + 1) ⟨by omega, hja⟩ (by show u.procs[i].code.length - (j + 1) < u.procs[i].code.length - j; omega) wA
  ·rw [List.drop_of_length_le (by omega), List.any_nil] at hja
   rw [if_neg (by rw [hja]; simp), if_pos (by omega)] at he
   rw [he]
   exact PRet.pure (Wk.ff rfl)
  ·rw [List.drop_of_length_le (by omega), List.any_nil] at hja
   rw [if_neg (by rw [hja]; simp), if_neg (by omega)] at he
   exact loopTo (i + 1, k + u.procs[i].code.length) ⟨by show i + 1 ≤ _; omega, by dsimp only; omega, by dsimp only; omega, he⟩ (by show u.procs.length - (i + 1) < u.procs.length - i; omega) wA
 ·rw [List.drop_of_length_le (by omega), fewPs] at he
  rw [he]
  exact PRet.pure (Wk.tt rfl)
theorem emitSame_c (u : Unt) (l : List Int) (hl : l.length ≤ 1048576) : ACallP Tryz.prog 6 [.agg u.cells, slI l] (.bool true) := by
 have hr := read_c l (by omega)
 rw [readPV] at hr
 have hf := few19_c u 100 (by omega) (by omega)
 by_cases hfw : fewU u 100 = true
 ·have he := emitM_c u (fewU_lim hfw (by omega))
  rw [emitPV] at he
  have hz : (emitR cwM u).2 ≠ 0 → (emitR cwM u).1 = [] := by
   unfold emitR
   split
   ·intro; rfl
   ·intro h; exact absurd rfl h
  rw [hfw] at hf
  generalize emitR cwM u = r at *
  obtain ⟨ws, e⟩ := r
  dsimp only at he hz
  refine ACall.of_body tt_ok Tryz.func6 rfl rfl (n := 76) rfl rfl ?_
  conv => whnf
  repeat' (first|((first|((first|(apply zY;intro hg)|apply zZ);first|exact stA|exact stB|((conv=>whnf);(repeat ((first|(refine zW ?_ ?_;exact gA)|refine pC (awake19_c) wR ?_|refine pC (hf) wR ?_|refine pC (he) wR ?_|refine pC (hr) wR ?_|refine pC (same19_self (readR l).1) wR ?_|refine pC (ints19_self ws) wR ?_|intro _);conv=>whnf));first|exact pS|exact pL|exact pE))|(refine zW ?_ ?_;exact gA)|refine zH rfl ?_|refine zA ?_|refine zI bA ?_|refine zI rfl ?_|refine sB ?_|(refine zO ?_ ?_ ?_;omega;omega)|(refine zP ?_ ?_ ?_;omega;omega)|refine zM rfl ?_|(refine zQ ?_ ?_ ?_;omega;omega)|(refine zR ?_ ?_;omega)|(refine zI ?_ ?_;exact nA)|refine sS ?_|refine pC (awake19_c) wR ?_|refine pC (hf) wR ?_|refine pC (he) wR ?_|refine pC (hr) wR ?_|refine pC (same19_self (readR l).1) wR ?_|refine pC (ints19_self ws) wR ?_|refine sE ?_|refine n0 ?_|refine sD ?_|intro _|refine zG ?_);conv=>whnf)|(refine zX (fun hc => ?_) (fun hc => ?_)<;>(try simp only [SY] at hc)<;>first|omega|(conv=>whnf)))
  ·exact PRet.pure (Wk.refl _)
  ·refine PCall.pure hr (.cons (Wk.tok _ _ _) .nil) ?_
   conv => whnf
   repeat' (first|((first|((first|(apply zY;intro hg)|apply zZ);first|exact stA|exact stB|((conv=>whnf);(repeat ((first|(refine zW ?_ ?_;exact gA)|refine pC (awake19_c) wR ?_|refine pC (hf) wR ?_|refine pC (he) wR ?_|refine pC (hr) wR ?_|refine pC (same19_self (readR l).1) wR ?_|refine pC (ints19_self ws) wR ?_|intro _);conv=>whnf));first|exact pS|exact pL|exact pE))|(refine zW ?_ ?_;exact gA)|refine zH rfl ?_|refine zA ?_|refine zI bA ?_|refine zI rfl ?_|refine sB ?_|(refine zO ?_ ?_ ?_;omega;omega)|(refine zP ?_ ?_ ?_;omega;omega)|refine zM rfl ?_|(refine zQ ?_ ?_ ?_;omega;omega)|(refine zR ?_ ?_;omega)|(refine zI ?_ ?_;exact nA)|refine sS ?_|refine pC (awake19_c) wR ?_|refine pC (hf) wR ?_|refine pC (he) wR ?_|refine pC (hr) wR ?_|refine pC (same19_self (readR l).1) wR ?_|refine pC (ints19_self ws) wR ?_|refine sE ?_|refine n0 ?_|refine sD ?_|intro _|refine zG ?_);conv=>whnf)|(refine zX (fun hc => ?_) (fun hc => ?_)<;>(try simp only [SY] at hc)<;>first|omega|(conv=>whnf)))
   exact PRet.pure (Wk.bool (by
    by_cases h0 : e = 0
    ·subst h0; simp
    ·rw [hz h0]; simp))
 ·rw [Bool.not_eq_true] at hfw
  rw [hfw] at hf
  refine ACall.of_body tt_ok Tryz.func6 rfl rfl (n := 76) rfl rfl ?_
  conv => whnf
  repeat' (first|((first|((first|(apply zY;intro hg)|apply zZ);first|exact stA|exact stB|((conv=>whnf);(repeat ((first|(refine zW ?_ ?_;exact gA)|refine pC (awake19_c) wR ?_|refine pC (hf) wR ?_|intro _);conv=>whnf));first|exact pS|exact pL|exact pE))|(refine zW ?_ ?_;exact gA)|refine zH rfl ?_|refine zA ?_|refine zI bA ?_|refine zI rfl ?_|refine sB ?_|(refine zO ?_ ?_ ?_;omega;omega)|(refine zP ?_ ?_ ?_;omega;omega)|refine zM rfl ?_|(refine zQ ?_ ?_ ?_;omega;omega)|(refine zR ?_ ?_;omega)|(refine zI ?_ ?_;exact nA)|refine sS ?_|refine pC (awake19_c) wR ?_|refine pC (hf) wR ?_|refine sE ?_|refine n0 ?_|refine sD ?_|intro _|refine zG ?_);conv=>whnf)|(refine zX (fun hc => ?_) (fun hc => ?_)<;>(try simp only [SY] at hc)<;>first|omega|(conv=>whnf)))
  ·exact PRet.pure (Wk.refl _)
end Go.Cb
namespace Go.Cb
open Go.RowKit (Below)
open Go.ChangeShapes
def Fz.of (w : World) : Fz := fun b o => w.cell? ⟨b, o, none⟩
theorem Sim.start (w : World) : Sim w (Fz.of w) [] w := ⟨Below.refl _ w, fun _ _ _ h => h, by simp, .nil⟩
theorem choose_list {α : Type} {p : Nat → α → Prop} : ∀ {n : Nat}, (∀ i, i < n → ∃ a, p i a) → ∃ l : List α, l.length = n ∧ ∀ i a, l[i]? = some a → p i a
 | 0, _ => ⟨[], rfl, by simp⟩
 | n + 1, h => by
  obtain ⟨l, h1, h2⟩ := choose_list (n := n) fun i hi => h i (by omega)
  obtain ⟨a, ha⟩ := h n (by omega)
  refine ⟨l ++ [a], by simp [h1], fun i b hb => ?_⟩
  by_cases hi : i < l.length
  ·rw [List.getElem?_append_left hi] at hb; exact h2 i b hb
  ·rw [List.getElem?_append_right (by omega)] at hb
   have h0 : i - l.length = 0 := by
    rcases Nat.eq_zero_or_pos (i - l.length) with h | h
    ·exact h
    ·rw [List.getElem?_eq_none (by simp; omega)] at hb; cases hb
   rw [h0] at hb
   simp at hb
   obtain rfl : i = n := by omega
   rwa [← hb]
section
variable {H : Type} {enc : TypeId × Value → H} {P : Program} {w : World} {UB : DataW H → Nat} {UBs : List (DataW H) → Nat}
structure Bulk (UB : DataW H → Nat) (UBs : List (DataW H) → Nat) : Prop where
 nil : UBs [] = 0
 cons : ∀ x l, UBs (x :: l) = UB x + UBs l
 agg : ∀ l, 1 + UBs l ≤ UB (.agg l)
 slice : ∀ l m, 1 + UBs l ≤ UB (.slice l m)
 str : ∀ s, s.length + 1 ≤ UB (.lit (.string s))
 pos : ∀ d, 1 ≤ UB d
def Rd {α : Type} (enc : TypeId × Value → H) (P : Program) (w : World) (UB : DataW H → Nat) (n : Nat) (t : TypeId) (cells : α → List PV) (bk : α → Nat) : Prop :=
 ∀ cs x, DataW.trod enc P w 0 (fun _ => true) true n t cs = some x → ∃ a : α, RepL (Fz.of w) (cells a) cs ∧ bk a ≤ UB x.1
theorem rd_int (hB : Bulk UB UBs) {t : TypeId} {k : IntKind} (ht : P.underlying t = some (.int k)) (n : Nat) : Rd enc P w UB n t (fun n : Int => [.int k n]) fun _ => 1 := by
 intro cs x h
 obtain ⟨m, rfl, rfl, _⟩ := DataW.trod_int ht h
 exact ⟨m, by simp only [RepL, Rep, and_true]; exact rfl, hB.pos _⟩
theorem rd_bool (hB : Bulk UB UBs) {t : TypeId} (ht : P.underlying t = some .bool) (n : Nat) : Rd enc P w UB n t (fun n : Bool => [.bool n]) fun _ => 1 := by
 intro cs x h
 obtain ⟨m, rfl, rfl⟩ := DataW.trod_bool ht h
 exact ⟨m, by simp only [RepL, Rep, and_true]; exact rfl, hB.pos _⟩
theorem rd_str (hB : Bulk UB UBs) {t : TypeId} (ht : P.underlying t = some .string) (n : Nat) : Rd enc P w UB n t (fun s : List UInt8 => [.str s]) fun s => s.length := by
 intro cs x h
 obtain ⟨s, rfl, rfl, hs⟩ := DataW.trod_string ht h
 refine ⟨s.data.toList, ?_, by have := hB.str s.data.toList; show s.data.toList.length ≤ UB (.lit (.string s.data.toList)); omega⟩
 have : s.data.toList.length ≤ 9223372036854775807 := by
  have h1 : s.data.toList.length = s.size := Array.length_toList
  have h2 : maxLen ≤ 9223372036854775807 := by simp only [maxLen]; omega
  omega
 exact RepL_cons.2 ⟨⟨rfl, by unfold Rep; exact ⟨rfl, this⟩⟩, RepL_nil _⟩
theorem rep_row {α : Type} {pv : α → PV} {cells : α → List PV} [c : CellsOf pv cells] {s b o : Nat} (hs : ∀ a, (cells a).length = s) : ∀ (l : List α) (i : Nat),
  (∀ j a, l[j]? = some a → ∃ cs, w.cells? 0 ((⟨b, o, none⟩ : Addr).add ((i + j) * s)) s = some cs ∧ RepL (Fz.of w) (cells a) cs) → RepRow (Fz.of w) s b (o + i * s) (l.map pv)
 | [], _, _ => by simp [RepRow]
 | a :: l, i, h => by
  rw [List.map_cons, RepRow_cons]
  obtain ⟨cs, h1, h2⟩ := h 0 a rfl
  obtain ⟨_, h3, h4⟩ := World.cells?_some h1
  refine ⟨⟨by rw [c.eq]; exact hs a, ?_⟩, ?_⟩
  ·rw [c.eq, RepCells_iff]
   refine ⟨cs, h2, fun j u hu => ?_⟩
   have hj : j < cs.length := by
    rcases Nat.lt_or_ge j cs.length with h | h
    ·exact h
    ·rw [List.getElem?_eq_none h] at hu; cases hu
   have := h4 j (by omega)
   rw [hu, Addr.add_lit, Addr.add_lit] at this
   simpa [Fz.of] using this
  ·have := rep_row (pv := pv) hs l (i + 1) fun j a ha => by
    have := h (j + 1) a (by simpa using ha)
    rwa [show i + (j + 1) = i + 1 + j by omega] at this
   rwa [show o + (i + 1) * s = o + i * s + s by rw [Nat.succ_mul]; omega] at this
def sumBk {α : Type} (bk : α → Nat) : List α → Nat
 | [] => 0
 | a :: l => bk a + sumBk bk l
theorem sumBk_le (hB : Bulk UB UBs) {α : Type} {bk : α → Nat} : ∀ (l : List α) (ds : List (DataW H)), l.length ≤ ds.length → (∀ (i : Nat) (a : α) (d : DataW H), l[i]? = some a → ds[i]? = some d → bk a ≤ UB d) → sumBk bk l ≤ UBs ds
 | [], _, _, _ => by simp [sumBk]
 | a :: l, [], h, _ => by simp at h
 | a :: l, d :: ds, h, k => by
  rw [sumBk, hB.cons]
  have h1 := k 0 a d rfl rfl
  have h2 := sumBk_le hB l ds (by simpa using h) fun i a d ha hd => k (i + 1) a d (by simpa using ha) (by simpa using hd)
  omega
theorem rd_slice (hB : Bulk UB UBs) {n : Nat} {t e : TypeId} (ht : P.underlying t = some (.slice e)) {s : Nat} (hs : P.cellsOf e = s) (hp : 0 < s) {α : Type} {pv : α → PV} {cells : α → List PV} [c : CellsOf pv cells] {bk : α → Nat}
  (hc : ∀ a, (cells a).length = s) (he : ∀ m, m < n → Rd enc P w UB m e cells bk) : Rd enc P w UB n t (fun l : List α => [.sl s (l.map pv) none]) fun l => 1 + sumBk bk l := by
 intro cs x h
 rcases DataW.trod_slice ht h with ⟨rfl, rfl⟩ | ⟨a, len, cap, elems, rest, m, rfl, rfl, rfl, _, hlc, hcm, hel, hx, hr, _⟩
 ·refine ⟨[], ?_, by have := hB.pos (DataW.nil : DataW H); simpa [sumBk] using this⟩
  exact RepL_cons.2 ⟨⟨rfl, by unfold Rep; exact ⟨by simp, .inl ⟨rfl, rfl⟩⟩⟩, RepL_nil _⟩
 ·have hx' : ∀ i, i < len → ∃ a' : α, ∃ cs d, elems[i]? = some d ∧ w.cells? 0 (a.add (i * s)) s = some cs ∧ RepL (Fz.of w) (cells a') cs ∧ bk a' ≤ UB d.1 := by
   intro i hi
   have h1 := hx i hi
   have h2 : elems[i]? = some elems[i] := List.getElem?_eq_getElem (by omega)
   rw [h2, hs] at h1
   obtain ⟨cs, h3, h4⟩ := Option.bind_eq_some_iff.1 h1
   obtain ⟨a', h5, h6⟩ := he m (by omega) cs _ h4
   exact ⟨a', cs, _, h2, h3, h5, h6⟩
  obtain ⟨l, hl, hl2⟩ := choose_list hx'
  have hcount : 1 + sumBk bk l ≤ UB (.slice (elems.map (·.1)) (rest.map (·.1))) := by
   have := sumBk_le hB (bk := bk) l (elems.map (·.1)) (by simp; omega) (by
    intro i a' d ha hd
    obtain ⟨_, d', h2, _, _, h5⟩ := hl2 i a' ha
    rw [List.getElem?_map, h2] at hd
    simp at hd
    rw [← hd]; exact h5)
   have := hB.slice (elems.map (·.1)) (rest.map (·.1))
   omega
  refine ⟨l, ?_, hcount⟩
  refine RepL_cons.2 ⟨⟨rfl, ?_⟩, RepL_nil _⟩
  unfold Rep
  refine ⟨fun t ht => (by cases ht), ?_⟩
  by_cases h0 : cap = 0
  ·subst h0
   obtain rfl : len = 0 := by omega
   have : l = [] := List.eq_nil_of_length_eq_zero hl
   subst this
   exact .inr (.inr ⟨rfl, a, rfl⟩)
  ·
   have hsp : a.spot = none := by
    have h1 : ∃ cs, w.cells? 0 a s = some cs := by
     by_cases h2 : 0 < len
     ·obtain ⟨_, cs, _, _, h3, _⟩ := hx' 0 h2
      exact ⟨cs, by simpa [Addr.add] using h3⟩
     ·obtain ⟨h3, h4⟩ := hr rfl
      have h5 := h4 0 (by omega)
      have h6 : rest[0]? = some (rest[0]'(by omega)) := List.getElem?_eq_getElem (by omega)
      rw [h6, hs] at h5
      obtain ⟨cs, h7, _⟩ := Option.bind_eq_some_iff.1 h5
      have : len = 0 := by omega
      subst this
      exact ⟨cs, by simpa [Addr.add] using h7⟩
    obtain ⟨cs, h1⟩ := h1
    obtain ⟨_, h3, h4⟩ := World.cells?_some h1
    have h5 := h4 0 hp
    have h6 : cs[0]? = some (cs[0]'(by omega)) := List.getElem?_eq_getElem (by omega)
    rw [h6] at h5
    simp only [Addr.add, if_true, World.cell?] at h5
    split at h5
    ·split at h5
     ·cases h5
     ·rename_i hn; simpa using hn
    ·cases h5
   obtain ⟨b, o, sp⟩ := a
   simp only at hsp
   subst hsp
   refine .inr (.inl ⟨b, o, cap, by simp [hl], by simp; omega, hcm, by simp, ?_⟩)
   have := rep_row (pv := pv) (w := w) (b := b) (o := o) hc l 0 fun j a' ha => by
    obtain ⟨cs, _, _, h3, h4, _⟩ := hl2 j a' ha
    exact ⟨cs, by simpa using h3, h4⟩
   simpa using this
end
section
variable {H : Type} {enc : TypeId × Value → H} {P : Program} {w : World} {UB : DataW H → Nat} {UBs : List (DataW H) → Nat}
theorem repL_cat {F : Fz} {ps bs : List PV} {cs : List Value} {o s : Nat} (h1 : RepL F ps ((cs.drop o).take s)) (h2 : RepL F bs (cs.drop (o + s))) : RepL F (ps ++ bs) (cs.drop o) := by
 have := RepL_append h1 h2
 rwa [← List.drop_drop, List.take_append_drop] at this
theorem rd_field {α : Type} {n o s : Nat} {t : TypeId} {cells : α → List PV} {bk : α → Nat} (hR : Rd enc P w UB n t cells bk) {fs : Array Field} {cs : List Value} {xs : List (DataW H × List MemPlace)} (hlen : xs.length = fs.size)
  (hf : ∀ (i : Nat) (f : Field), fs[i]? = some f → DataW.trod enc P w 0 (fun _ => true) true n f.type ((cs.drop f.offset).take (P.cellsOf f.type)) = xs[i]?) (i : Nat) (h : (fs.toList.map fun f => (f.type, f.offset))[i]? = some (t, o)) (hs : P.cellsOf t = s) :
  ∃ a y, xs[i]? = some y ∧ RepL (Fz.of w) (cells a) ((cs.drop o).take s) ∧ bk a ≤ UB y.1 := by
 rw [List.getElem?_map] at h
 obtain ⟨f, hfi, hft⟩ := Option.map_eq_some_iff.1 h
 rw [Array.getElem?_toList] at hfi
 simp only [Prod.mk.injEq] at hft
 obtain ⟨rfl, rfl⟩ := hft
 have h1 := hf i f hfi
 have hi : i < xs.length := by rw [hlen]; exact (Array.getElem?_eq_some_iff.1 hfi).1
 have h2 : xs[i]? = some xs[i] := List.getElem?_eq_getElem hi
 rw [h2] at h1
 obtain ⟨a, h3, h4⟩ := hR _ _ h1
 exact ⟨a, _, h2, by rw [← hs]; exact h3, h4⟩
theorem arg_struct {α : Type} {t : TypeId} {cells : α → List PV} {bk : α → Nat} {fs : Array Field} (hs : P.underlying t = some (.struct fs)) (hR : ∀ n, Rd enc P w UB n t cells bk) {r : Reach} {b0 : Nat} {v : Value} {d : DataW H} {p : List MemPlace}
  (hv : Value.okWide P w r b0 t v) (h : DataW.Trod enc P w 0 (fun _ => true) true t v d p) : ∃ a, Rep (Fz.of w) (.agg (cells a)) v ∧ bk a ≤ UB d := by
 obtain ⟨cs, rfl, _⟩ := Go.WideShapes.okWide_struct hs hv
 obtain ⟨fuel, hf⟩ := h
 obtain ⟨a, h1, h2⟩ := hR fuel _ _ hf
 refine ⟨a, ?_, h2⟩
 simp only [Rep]
 exact ⟨cs.toList, by simp, by simpa [Value.cells] using h1⟩
theorem trodAll_below (hl : laidOutB P = true) {W W' : World} (hb : Below W.heap.size W W') : ∀ {ts : List TypeId} {vs : List Value} {ds : List (DataW H)} {ps : List MemPlace}, (∀ t ∈ ts, P.readableRec t = true ∧ t < P.types.size) →
  DataW.TrodAll enc P W 0 (fun _ => true) true ts vs ds ps → (∀ x ∈ ps, x.block < W.heap.size) → DataW.TrodAll enc P W' 0 (fun b => decide (b < W.heap.size)) true ts vs ds ps
 | [], _, _, _, _, h, _ => by
  obtain ⟨rfl, rfl, rfl⟩ := trodAll_nil h
  exact trodAll_mk0
 | t :: ts, _, _, _, hr, h, hlt => by
  obtain ⟨v, vs, d, ds, p, q, rfl, rfl, rfl, h1, h2⟩ := trodAll_cons h
  exact trodAll_cons_mk (Go.RowKit.Below.trod hl (hr t (by simp)).1 (hr t (by simp)).2 h1 hb fun x hx => hlt x (by simp [hx])) (trodAll_below hl hb (fun t ht => hr t (by simp [ht])) h2 fun x hx => hlt x (by simp [hx]))
theorem trodAll_len {spare : Nat → Bool} {base : Nat} {held : Bool} : ∀ {ts : List TypeId} {vs : List Value} {ds : List (DataW H)} {ps : List MemPlace}, DataW.TrodAll enc P w base spare held ts vs ds ps → ds.length = ts.length
 | [], _, _, _, h => by obtain ⟨rfl, rfl, rfl⟩ := trodAll_nil h; rfl
 | t :: ts, _, _, _, h => by
  obtain ⟨v, vs, d, ds, p, q, rfl, rfl, rfl, h1, h2⟩ := trodAll_cons h
  simp [trodAll_len h2]
theorem law_post {f : Func} {s : ChangeSpec} {tb : TypeId} {W W' : World} {args : Array Value} {ds gs : List (DataW H)} {before : List MemPlace} (hl : laidOutB P = true) (hr : ∀ t ∈ f.params.toList, P.readableRec t = true ∧ t < P.types.size)
  (hres : f.resultTypes = #[tb]) (hb : P.underlying tb = some .bool) (hv : s.vars = []) (hfn : ∀ ds : List (DataW H), ds.length = f.params.size → s.fn H ds = { results := [.lit (.bool true)], args := ds })
  (hW : DataW.Whole enc P f.params.toList s.vars false W args.toList ds gs before) (hbel : Below W.heap.size W W') : s.post enc P f false true false false W args (.bool true) W' := by
 have hW' := hW
 obtain ⟨p, q, hA, hV, rfl, _, _⟩ := hW
 have hV0 : DataW.TrodVars enc P W (fun _ => true) [] gs q := by rw [← hv]; exact hV
 obtain ⟨rfl, rfl⟩ := trodVars_none hV0
 have hfn' := hfn (ds ++ []) (by rw [List.append_nil, trodAll_len hA]; simp)
 refine ⟨ds, [], p ++ [], [], p, [], hW', ?_, ?_, ?_, hbel.frame _, fun h => by cases h⟩
 ·rw [hfn', hres]
  exact trodAll_mk1 (Go.RowKit.shut_bool hb _)
 ·rw [hfn', List.append_nil]
  exact trodAll_below hl hbel hr hA fun x hx => hW'.lt x (by simp [hx])
 ·rw [hfn', hv]; rfl
end
theorem sumBk_datum : ∀ l : List Datum, sumBk Datum.bulk l = Datum.bulks l
 | [] => rfl
 | x :: l => by rw [sumBk, Datum.bulks, sumBk_datum l]
theorem sumBk_one {α : Type} : ∀ l : List α, sumBk (fun _ => 1) l = l.length
 | [] => rfl
 | x :: l => by rw [sumBk, sumBk_one l, List.length_cons]; omega
section
variable {H : Type} {enc : TypeId × Value → H} {P : Program} {w : World} {UB : DataW H → Nat} {UBs : List (DataW H) → Nat}
theorem repL_end {F : Fz} {cs : List Value} {n : Nat} (h : cs.length = n) : RepL F [] (cs.drop n) := by
 rw [List.drop_of_length_le (by omega)]; exact RepL_nil F
theorem rd_datum (hB : Bulk UB UBs) {tI tS tL tD : TypeId} (hI : P.underlying tI = some (.int .i64)) (hS : P.underlying tS = some .string) (hL : P.underlying tL = some (.slice tD)) {fs : Array Field} (hD : P.underlying tD = some (.struct fs))
  (hfs : (fs.toList.map fun f => (f.type, f.offset)) = [(tI, 0), (tI, 1), (tI, 2), (tS, 3), (tL, 4)]) (cI : P.cellsOf tI = 1) (cS : P.cellsOf tS = 1) (cL : P.cellsOf tL = 1) (cD : P.cellsOf tD = 5) : ∀ n, Rd enc P w UB n tD Datum.cells Datum.bulk := by
 intro n
 induction n using Nat.strongRecOn with
 | ind n ih =>
  intro cs x h
  obtain ⟨xs, m, rfl, rfl, hl, hlen, hf⟩ := DataW.trod_struct hD h
  obtain ⟨a0, y0, e0, r0, _⟩ := rd_field (rd_int (w := w) (enc := enc) hB hI m) hlen hf 0 (by rw [hfs]; rfl) cI
  obtain ⟨a1, y1, e1, r1, _⟩ := rd_field (rd_int (w := w) (enc := enc) hB hI m) hlen hf 1 (by rw [hfs]; rfl) cI
  obtain ⟨a2, y2, e2, r2, _⟩ := rd_field (rd_int (w := w) (enc := enc) hB hI m) hlen hf 2 (by rw [hfs]; rfl) cI
  obtain ⟨a3, y3, e3, r3, b3⟩ := rd_field (rd_str (w := w) (enc := enc) hB hS m) hlen hf 3 (by rw [hfs]; rfl) cS
  obtain ⟨a4, y4, e4, r4, b4⟩ := rd_field (rd_slice (pv := Datum.pv) hB hL cD (by omega) (fun a => rfl) (fun k hk => ih k (by omega))) hlen hf 4 (by rw [hfs]; rfl) cL
  refine ⟨.mk a0 a1 a2 a3 a4, ?_, ?_⟩
  ·exact repL_cat r0 (repL_cat r1 (repL_cat r2 (repL_cat r3 (repL_cat r4 (repL_end (hl.trans cD))))))
  ·have h5 : xs.length = 5 := by
    have := congrArg List.length hfs
    simp at this; omega
   match xs, h5 with
   | [z0, z1, z2, z3, z4], _ =>
    simp at e3 e4
    subst e3 e4
    have := hB.agg ([z0, z1, z2, z3, z4].map (·.1))
    simp only [List.map_cons, List.map_nil, hB.cons, hB.nil] at this
    rw [sumBk_datum] at b4
    rw [Datum.bulk_eq]
    show 1 + a3.length + Datum.bulks a4 ≤ _
    simp only [List.map_cons, List.map_nil]
    omega
theorem rd_ints (hB : Bulk UB UBs) {tI tV : TypeId} (hI : P.underlying tI = some (.int .i64)) (hV : P.underlying tV = some (.slice tI)) (cI : P.cellsOf tI = 1) (n : Nat) : Rd enc P w UB n tV (fun l : List Int => [.sl 1 (l.map (PV.int .i64)) none]) fun l => 1 + l.length := by
 intro cs x h
 obtain ⟨a, h1, h2⟩ := rd_slice (pv := PV.int .i64) hB hV cI (by omega) (fun a => rfl) (fun k hk => rd_int (w := w) (enc := enc) hB hI k) cs x h
 exact ⟨a, h1, by have := sumBk_one a; show 1 + a.length ≤ _; have h3 : 1 + sumBk (fun _ => 1) a ≤ UB x.1 := h2; omega⟩
end
end Go.Cb
namespace Go.Cb
open Go.Proofs Go.Proofs.YtklpioocdgfbmaaGreatDoor
open Go.RowKit (Below)
theorem uptoOne {H : Type} (d : DataW H) : 1 ≤ Rows.uptoBulk d := by
 cases d with
 | lit l => cases l <;> simp [Rows.uptoBulk]
 | nil => simp [Rows.uptoBulk]
 | ptr d => simp [Rows.uptoBulk]
 | slice elems spare => simp [Rows.uptoBulk]
 | agg parts => simp [Rows.uptoBulk]
 | iface t d => simp [Rows.uptoBulk]
 | map entries => simp [Rows.uptoBulk]
 | held h => simp [Rows.uptoBulk]
theorem bulkR {H : Type} : Bulk (H := H) Rows.uptoBulk Rows.uptoBulkAll where
 nil := by simp [Rows.uptoBulkAll]
 cons x l := by simp [Rows.uptoBulkAll]
 agg l := by simp [Rows.uptoBulk]; omega
 slice l m := by simp [Rows.uptoBulk]; omega
 str s := by simp [Rows.uptoBulk]
 pos d := uptoOne d
section
variable {H : Type} {enc : TypeId × Value → H} {w : World}
theorem cInt : Tryz.prog.cellsOf 3 = 1 := by kernel_rfl
theorem cStr : Tryz.prog.cellsOf 9 = 1 := by kernel_rfl
theorem cBool : Tryz.prog.cellsOf 4 = 1 := by kernel_rfl
theorem cInts : Tryz.prog.cellsOf 23 = 1 := by kernel_rfl
theorem cDs : Tryz.prog.cellsOf 22 = 1 := by kernel_rfl
theorem cD : Tryz.prog.cellsOf 70 = 5 := by kernel_rfl
theorem rdD (n : Nat) : Rd enc Tryz.prog w Rows.uptoBulk n 70 Datum.cells Datum.bulk :=
 rd_datum bulkR Tryz.underlying3 Tryz.underlying9 Tryz.underlying22 Tryz.underlying70 rfl cInt cStr cDs cD n
theorem rdDs (n : Nat) : Rd enc Tryz.prog w Rows.uptoBulk n 22 (fun l : List Datum => [.sl 5 (l.map Datum.pv) none]) fun l => 1 + Datum.bulks l := by
 intro cs x h
 obtain ⟨a, h1, h2⟩ := rd_slice (pv := Datum.pv) bulkR Tryz.underlying22 cD (by omega) (fun a => rfl) (fun k hk => rdD (w := w) (enc := enc) k) cs x h
 have h3 : 1 + sumBk Datum.bulk a ≤ Rows.uptoBulk x.1 := h2
 rw [sumBk_datum] at h3
 exact ⟨a, h1, h3⟩
def Prog.bulk (p : Prog) : Nat := Datum.bulks p.consts + p.body.bulk
theorem okT : Tryz.prog.readableRec 26 = true ∧ 26 < Tryz.prog.types.size := ⟨by kernel_rfl, of_decide_eq_true (by kernel_rfl)⟩
theorem calls_true {f : FuncId} {args : List PV} {vs : List Value} {W : World} (h : ACallP Tryz.prog f args (.bool true)) (hr : RepT (Fz.of W) args vs) : Calls Tryz.prog f vs.toArray W fun e W' => e = .returned (.bool true) ∧ Below W.heap.size W W' := by
 refine (h.2 W (Fz.of W) [] W vs (Sim.start W) hr).mono ?_
 rintro e W' ⟨v, F', y, Γ', rfl, _, hS, hR, rfl⟩
 exact ⟨by rw [show v = .bool true by simpa only [Rep] using hR], hS.below⟩
end
end Go.Cb
namespace Go.Cb
open Go.Proofs Go.Proofs.YtklpioocdgfbmaaGreatDoor
open Go.RowKit (Below)
section
variable {H : Type} {enc : TypeId × Value → H} {w : World}
theorem rdL (n : Nat) : Rd enc Tryz.prog w Rows.uptoBulk n 23 (fun l : List Int => [.sl 1 (l.map (PV.int .i64)) none]) fun l => 1 + l.length :=
 rd_ints bulkR Tryz.underlying3 Tryz.underlying23 cInt n
theorem okL : Tryz.prog.readableRec 23 = true ∧ 23 < Tryz.prog.types.size := ⟨by kernel_rfl, of_decide_eq_true (by kernel_rfl)⟩
theorem arg_row {P : Program} {UB : DataW H → Nat} {α : Type} {t e : TypeId} (ht : P.underlying t = some (.slice e)) {f : α → PV} {bk : α → Nat} (hR : ∀ n, Rd enc P w UB n t (fun a => [f a]) bk) {r : Reach} {b0 : Nat} {v : Value} {d : DataW H} {p : List MemPlace}
  (hv : Value.okWide P w r b0 t v) (h : DataW.Trod enc P w 0 (fun _ => true) true t v d p) : ∃ a, Rep (Fz.of w) (f a) v ∧ bk a ≤ UB d := by
 obtain ⟨q, len, cap, rfl⟩ : ∃ q len cap, v = .slice q len cap := Go.WideShapes.okWide_slice ht hv
 obtain ⟨fuel, hf⟩ := h
 obtain ⟨a, h1, h2⟩ := hR fuel _ _ hf
 refine ⟨a, ?_, h2⟩
 have : (Value.slice q len cap).cells.toList = [.slice q len cap] := rfl
 rw [this] at h1
 exact (RepL_cons.1 h1).1.2
end
end Go.Cb
namespace Go.Cb
open Go.Proofs Go.Proofs.YtklpioocdgfbmaaGreatDoor
section
variable {H : Type} {enc : TypeId × Value → H} {w : World}
instance : CellsOf slI (fun l => [slI l]) := ⟨fun _ => rfl⟩
theorem cU : Tryz.prog.cellsOf 45 = 2 := by kernel_rfl
theorem cPr : Tryz.prog.cellsOf 57 = 5 := by kernel_rfl
theorem cPrs : Tryz.prog.cellsOf 39 = 1 := by kernel_rfl
theorem cIn : Tryz.prog.cellsOf 59 = 5 := by kernel_rfl
theorem cIns : Tryz.prog.cellsOf 54 = 1 := by kernel_rfl
theorem cII : Tryz.prog.cellsOf 55 = 1 := by kernel_rfl
def Ins.bulk (x : Ins) : Nat := x.l.length
theorem rdIn (n : Nat) : Rd enc Tryz.prog w Rows.uptoBulk n 59 Ins.cells Ins.bulk := by
 intro cs x h
 obtain ⟨xs, m, rfl, rfl, hl, hlen, hf⟩ := DataW.trod_struct Tryz.underlying59 h
 obtain ⟨a0, y0, e0, r0, b0⟩ := rd_field (rd_int (w := w) (enc := enc) bulkR Tryz.underlying3 m) hlen hf 0 rfl cInt
 obtain ⟨a1, y1, e1, r1, b1⟩ := rd_field (rd_int (w := w) (enc := enc) bulkR Tryz.underlying3 m) hlen hf 1 rfl cInt
 obtain ⟨a2, y2, e2, r2, b2⟩ := rd_field (rd_int (w := w) (enc := enc) bulkR Tryz.underlying3 m) hlen hf 2 rfl cInt
 obtain ⟨a3, y3, e3, r3, b3⟩ := rd_field (rd_int (w := w) (enc := enc) bulkR Tryz.underlying3 m) hlen hf 3 rfl cInt
 obtain ⟨a4, y4, e4, r4, b4⟩ := rd_field (rd_ints (w := w) (enc := enc) bulkR Tryz.underlying3 Tryz.underlying23 cInt m) hlen hf 4 rfl cInts
 refine ⟨⟨a0, a1, a2, a3, a4⟩, ?_, ?_⟩
 ·have := repL_cat r0 (repL_cat r1 (repL_cat r2 (repL_cat r3 (repL_cat r4 (repL_end (hl.trans cIn))))))
  rwa [List.append_nil] at this
 ·match xs, hlen with
  | [z0, z1, z2, z3, z4], _ =>
   simp at e4
   subst e4
   have := (bulkR (H := H)).agg ([z0, z1, z2, z3, z4].map (·.1))
   simp only [List.map_cons, List.map_nil, (bulkR (H := H)).cons, (bulkR (H := H)).nil] at this
   show a4.length ≤ _
   simp only [List.map_cons, List.map_nil]
   omega
theorem rdIns (n : Nat) : Rd enc Tryz.prog w Rows.uptoBulk n 54 (fun l : List Ins => [.sl 5 (l.map Ins.pv) none]) fun l => 1 + sumBk Ins.bulk l :=
 rd_slice (pv := Ins.pv) bulkR Tryz.underlying54 cIn (by omega) (fun a => rfl) (fun k hk => rdIn (w := w) (enc := enc) k)
theorem rdII (n : Nat) : Rd enc Tryz.prog w Rows.uptoBulk n 55 (fun l : List (List Int) => [.sl 1 (l.map slI) none]) fun l => 1 + sumBk (fun a => 1 + a.length) l :=
 rd_slice (pv := slI) bulkR Tryz.underlying55 cInts (by omega) (fun a => rfl) (fun k hk => rd_ints (w := w) (enc := enc) bulkR Tryz.underlying3 Tryz.underlying23 cInt k)
theorem sumBk_len {α : Type} {bk : α → Nat} (h : ∀ a, 1 ≤ bk a) : ∀ l : List α, l.length ≤ sumBk bk l
 | [] => Nat.zero_le _
 | a :: l => by rw [sumBk, List.length_cons]; have := h a; have := sumBk_len h l; omega
theorem rdPr (n : Nat) : Rd enc Tryz.prog w Rows.uptoBulk n 57 Prc.cells fun _ => 1 := by
 intro cs x h
 obtain ⟨xs, m, rfl, rfl, hl, hlen, hf⟩ := DataW.trod_struct Tryz.underlying57 h
 obtain ⟨a0, y0, e0, r0, b0⟩ := rd_field (rd_int (w := w) (enc := enc) bulkR Tryz.underlying3 m) hlen hf 0 rfl cInt
 obtain ⟨a1, y1, e1, r1, b1⟩ := rd_field (rd_bool (w := w) (enc := enc) bulkR Tryz.underlying4 m) hlen hf 1 rfl cBool
 obtain ⟨a2, y2, e2, r2, b2⟩ := rd_field (rd_int (w := w) (enc := enc) bulkR Tryz.underlying3 m) hlen hf 2 rfl cInt
 obtain ⟨a3, y3, e3, r3, b3⟩ := rd_field (rdIns (w := w) (enc := enc) m) hlen hf 3 rfl cIns
 obtain ⟨a4, y4, e4, r4, b4⟩ := rd_field (rdII (w := w) (enc := enc) m) hlen hf 4 rfl cII
 refine ⟨⟨a0, a1, a2, a3, a4⟩, ?_, bulkR.pos _⟩
 have := repL_cat r0 (repL_cat r1 (repL_cat r2 (repL_cat r3 (repL_cat r4 (repL_end (hl.trans cPr))))))
 rwa [List.append_nil] at this
theorem rdU (n : Nat) : Rd enc Tryz.prog w Rows.uptoBulk n 45 Unt.cells fun u => Datum.bulks u.consts + u.procs.length := by
 intro cs x h
 obtain ⟨xs, m, rfl, rfl, hl, hlen, hf⟩ := DataW.trod_struct Tryz.underlying45 h
 obtain ⟨a0, y0, e0, r0, b0⟩ := rd_field (rdDs (w := w) (enc := enc) m) hlen hf 0 rfl cDs
 obtain ⟨a1, y1, e1, r1, b1⟩ := rd_field (rd_slice (pv := Prc.pv) bulkR Tryz.underlying39 cPr (by omega) (fun a => rfl) (fun k hk => rdPr (w := w) (enc := enc) k)) hlen hf 1 rfl cPrs
 refine ⟨⟨a0, a1⟩, ?_, ?_⟩
 ·have := repL_cat r0 (repL_cat r1 (repL_end (hl.trans cU)))
  rwa [List.append_nil] at this
 ·match xs, hlen with
  | [z0, z1], _ =>
   simp at e0 e1
   subst e0 e1
   have := (bulkR (H := H)).agg ([z0, z1].map (·.1))
   simp only [List.map_cons, List.map_nil, (bulkR (H := H)).cons, (bulkR (H := H)).nil] at this
   have h1 : a1.length ≤ sumBk (fun _ : Prc => 1) a1 := sumBk_len (fun _ => Nat.le_refl _) a1
   show Datum.bulks a0 + a1.length ≤ _
   simp only [List.map_cons, List.map_nil]
   omega
theorem okU : Tryz.prog.readableRec 45 = true ∧ 45 < Tryz.prog.types.size := ⟨by kernel_rfl, of_decide_eq_true (by kernel_rfl)⟩
end
end Go.Cb
namespace Go.Cb
open Go.Proofs Go.Proofs.YtklpioocdgfbmaaGreatDoor
mutual
def cellsD : DataW Unit → List Value
 | .lit (.int k n) => [.int k n]
 | .lit (.bool b) => [.bool b]
 | .lit (.string s) => [.string ⟨s.toArray⟩]
 | .agg l => cellsDs l
 | _ => []
def cellsDs : List (DataW Unit) → List Value
 | [] => []
 | d :: l => cellsD d ++ cellsDs l
end
def newBlocks (e : TypeId) : List (String × DataW Unit) → List Obj
 | [] => []
 | (_, .iface _ (.ptr d)) :: l => .cells (cellsD d).toArray e :: newBlocks e l
 | _ :: l => newBlocks e l
def putCs (h : Array Obj) (g : Option Nat) (cs : Array Value) : Array Obj := match g with
 | some g => h.modify g fun
  | .cells _ t frozen => .cells cs t frozen
  | o => o
 | none => h
def layAll (P : Program) (p : TypeId) : List (String × DataW Unit) → Nat → Array Obj → Array Obj
 | [], _, h => h
 | (n, .iface _ _) :: l, k, h => layAll P p l (k + 1) (putCs h (P.globalNamed n) #[.iface p (.pointer (some ⟨k, 0, none⟩))])
 | (n, d) :: l, k, h => layAll P p l k (putCs h (P.globalNamed n) (cellsD d).toArray)
noncomputable def laidWorld (os : Os) : World :=
 let w0 := World.holding Tryz.prog os ⟨(newBlocks 327 Rows.closureConvertsRow.laid).toArray, #[], []⟩
 { w0 with heap := layAll Tryz.prog 325 Rows.closureConvertsRow.laid (World.settled Tryz.prog os).heap.size w0.heap }
theorem laid_met (os : Os) (args : Array Value) : laidMet Tryz.prog Rows.closureConvertsRow.laid ((laidWorld os).forCall (fun _ _ => 0) ⟨#[], args, []⟩).memory :=
 (LaidIn.of_run (l := Rows.closureConvertsRow.laid) (List.range 1000) 16 (by kernel_rfl) (by kernel_rfl) (by kernel_rfl) (by kernel_rfl)).met
theorem own_none : ownKnob Tryz.prog.godebug = none := by kernel_rfl
theorem laidOut : laidOutB Tryz.prog = true := by kernel_rfl
end Go.Cb

