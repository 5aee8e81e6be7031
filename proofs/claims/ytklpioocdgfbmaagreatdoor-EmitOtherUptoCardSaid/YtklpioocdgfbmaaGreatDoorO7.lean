/-
 Contracts: the document's reader of images: a procedure's code.
 Contracts: many moves at once, one by one.
 Contracts: moves, told one by one.
 Contracts: moves that happen at once, in an order.
 Contracts: a call that ends its procedure, as words; the moves are given.
 Contracts: the image of a unit, its calls moved.
 Plain law: what is written of a unit is read.
 Plain law: other words, other procedures; a word more is too much.
 Plain law: where an image's procedures stand; what is read of each, place by place.
 Plain law: the document's check of an instruction is the program's.
 Plain law: what is needed of a procedure's registers, and its slots, as the document finds them: as functions.
 Plain law: what a checked unit's procedures are.
 Contracts: the document's check of a unit.
 Contracts: the document's check of an instruction.
 Contracts: the document's check of a unit is the program's.
 Plain law: moves at once, as the document finds them.
 Contracts: moves at once, the document's.
-/
import Derived.Test.YtklpioocdgfbmaaGreatDoorO6
set_option linter.unusedSimpArgs false
set_option linter.unusedVariables false
namespace Go.Cb
open Go.Proofs
set_option maxRecDepth 100000
set_option maxHeartbeats 4000000
end Go.Cb
namespace Go.Cb
open Go.Proofs
set_option maxRecDepth 100000
set_option maxHeartbeats 4000000
theorem sorted_keys {A : List Int} {s : Lft} (hn : A.Nodup) (h : ∀ z, z ∈ A ↔ z ∈ keysL s) : (A.mergeSort fun x y => decide (x ≤ y)) = keysL s := by
 have h1 : (A.mergeSort fun x y => decide (x ≤ y)).Pairwise (fun x y => decide (x ≤ y) = true) := List.pairwise_mergeSort (by intro a b c; simp; omega) (by intro a b; simp; omega) A
 have h2 : (keysL s).Pairwise (fun x y => decide (x ≤ y) = true) := by
  unfold keysL
  rw [List.pairwise_map]
  exact (keyN_sorted s).imp fun {a b} h => by simp; omega
 have hk : (keysL s).Nodup := by
  unfold keysL
  rw [List.Nodup, List.pairwise_map]
  exact (keyN_sorted s).imp fun {a b} h => by simp; omega
 have hp : (A.mergeSort fun x y => decide (x ≤ y)).Perm (keysL s) := (List.mergeSort_perm A _).trans ((List.perm_ext_iff_of_nodup hn hk).2 h)
 exact hp.eq_of_pairwise (fun a b _ _ h1 h2 => by simp at h1 h2; omega) h1 h2
abbrev frR (s : Lft) : PV := match freeF s with
 | some i => .tup [.int .i64 i, .btrue]
 | none => .tup [.int .i64 (hdN s), .bfalse]
theorem nodup_le15 : ∀ {A B : List Int}, A.Nodup → (∀ z ∈ A, z ∈ B) → A.length ≤ B.length
 | [], _, _, _ => Nat.zero_le _
 | a :: A, B, h, hs => by
  rw [List.nodup_cons] at h
  have := nodup_le15 (A := A) (B := B.erase a) h.2 fun z hz => (List.mem_erase_of_ne (by rintro rfl; exact h.1 hz)).2 (hs z (by simp [hz]))
  rw [List.length_erase_of_mem (hs a (by simp))] at this
  have h0 : 0 < B.length := List.length_pos_of_mem (hs a (by simp))
  rw [List.length_cons]
  omega
theorem Shift.ghost {x : PV} {Γ Γ' : List Ent} (hg : Ghost Γ Γ') : Shift x Γ x Γ' := fun w0 F M w v hS hx => by
 obtain ⟨F', h1, h2⟩ := hg w0 F M w hS
 exact ⟨F', h1, h2, Rep.mono h1 x v hx⟩
theorem PRet.ghost {x : PV} {Γ Γ' : List Ent} {Q : PV → List Ent → Prop} (hg : Ghost Γ Γ') (h : PRet x Γ' Q) : PRet x Γ Q := by
 obtain ⟨y, Γ2, h1, h2⟩ := h
 exact ⟨y, Γ2, Shift.trans (Shift.ghost hg) h1, h2⟩
theorem Ghost.nilRowN (Γ : List Ent) : Ghost Γ (.row (nilTok 1 3) (([] : List Int).map (PV.int .i64)) :: Γ) := Ghost.nilRow _ _ _
theorem find_at {α : Type} {p : α → Bool} : ∀ (l : List α) (j : Nat) (hj : j < l.length), (∀ i (h : i < j), p (l[i]'(by omega)) = false) → p l[j] = true → l.find? p = some l[j]
 | [], j, hj, _, _ => absurd hj (by simp)
 | x :: l, 0, hj, _, hp => by rw [List.getElem_cons_zero, List.find?_cons_of_pos (by simpa using hp)]
 | x :: l, j + 1, hj, h, hp => by
  rw [List.find?_cons_of_neg (by have := h 0 (by omega); simpa using this), List.getElem_cons_succ]
  exact find_at l j (by simpa using hj) (fun i hi => by have := h (i + 1) (by omega); simpa using this) (by simpa using hp)
theorem keysL_get {s : Lft} {j : Nat} (h : j < (keysL s).length) : (keysL s)[j] = ((keyN s)[j]'(by simpa [keysL] using h) : Nat) := by simp [keysL]
theorem filt_lt15 {α : Type} {p q : α → Bool} (h : ∀ x, q x = true → p x = true) : ∀ l : List α, (∃ x ∈ l, p x = true ∧ q x = false) → (l.filter q).length < (l.filter p).length
 | [], ⟨x, hx, _⟩ => by cases hx
 | y :: l, ⟨x, hx, h1, h2⟩ => by
  have hle : ∀ l : List α, (l.filter q).length ≤ (l.filter p).length := by
   intro l
   induction l with
   | nil => simp
   | cons z l ih =>
    by_cases hq : q z = true
    ·rw [List.filter_cons_of_pos hq, List.filter_cons_of_pos (h z hq)]; simp; exact ih
    ·rw [List.filter_cons_of_neg hq]
     by_cases hp : p z = true
     ·rw [List.filter_cons_of_pos hp]; simp; omega
     ·rw [List.filter_cons_of_neg hp]; exact ih
  rcases List.mem_cons.1 hx with rfl | hx
  ·rw [List.filter_cons_of_neg (by simp [h2]), List.filter_cons_of_pos h1]
   have := hle l
   simp; omega
  ·have ih := filt_lt15 h l ⟨x, hx, h1, h2⟩
   by_cases hq : q y = true
   ·rw [List.filter_cons_of_pos hq, List.filter_cons_of_pos (h y hq)]; simp; exact ih
   ·rw [List.filter_cons_of_neg hq]
    by_cases hp : p y = true
    ·rw [List.filter_cons_of_pos hp]; simp; omega
    ·rw [List.filter_cons_of_neg hp]; exact ih
theorem free15_c (r : Nat) (s : Lft) (hk : keyN s ≠ []) (hl : s.length ≤ 1000) : ACall Tryz.prog 235 [.mp r] [.mp r (.int .i64) (mapM (PV.int .i64) (mvM s)) []]
  (fun y Γ' => y = frR s ∧ Γ' = [.mp r (.int .i64) (mapM (PV.int .i64) (mvM s)) []]) := by
 have hkl : (keysL s).length = (keyN s).length := by simp [keysL]
 have hkn := keyN_len s
 have hk0 : 0 < (keyN s).length := List.length_pos_iff.2 hk
 refine ACall.of_body tt_ok Tryz.func235 rfl rfl (n := 41) rfl rfl ?_
 conv => whnf
 repeat' (first|((first|((first|(apply zY;intro hg)|apply zZ);first|exact stA|exact stB|exact stC)|(refine zW ?_ ?_;exact gA)|refine zH rfl ?_|refine zA ?_|refine zI bA ?_|refine zI rfl ?_|refine sB ?_|(refine zO ?_ ?_ ?_;omega;omega)|(refine zP ?_ ?_ ?_;omega;omega)|refine zM rfl ?_|(refine zQ ?_ ?_ ?_;omega;omega)|(refine zR ?_ ?_;omega)|(refine zI ?_ ?_;exact nA)|refine sS ?_|refine sF ?_|refine n0 ?_|refine sD ?_|intro _|refine zG ?_);conv=>whnf)|(refine zX (fun hc => ?_) (fun hc => ?_)<;>(try simp only [SY] at hc)<;>first|omega|(conv=>whnf)))
 rename_i r2
 rw [setM_nil]
 refine PRangeM.num fun bI all cl hAll hcl => ?_
 conv => whnf
 repeat' (first|((first|((first|(apply zY;intro hg)|apply zZ);first|exact stA|exact stB|exact stC)|(refine zW ?_ ?_;exact gA)|refine zH rfl ?_|refine zA ?_|refine zI bA ?_|refine zI rfl ?_|refine sB ?_|(refine zO ?_ ?_ ?_;omega;omega)|(refine zP ?_ ?_ ?_;omega;omega)|refine zM rfl ?_|(refine zQ ?_ ?_ ?_;omega;omega)|(refine zR ?_ ?_;omega)|(refine zI ?_ ?_;exact nA)|refine sS ?_|refine sF ?_|refine n0 ?_|refine sD ?_|intro _|refine zG ?_);conv=>whnf)|(refine zX (fun hc => ?_) (fun hc => ?_)<;>(try simp only [SY] at hc)<;>first|omega|(conv=>whnf)))
 refine PLoop.ghost (Ghost.nilRowN _) ?_
 refine PLoop.over [5, 6, 7, 13, 14, 15, 16, 17, 18, 19, 20, 21, 22, 23] (fun x : Array Nat × List Int × List Int × Tok => [(5, .ms x.2.2.2)])
  (fun x => .ob bI (itO r cl x.1) [] [] :: .mp r (.int .i64) (mapM (PV.int .i64) (mvM s)) (pdI cl all) :: .mp r2 (.int .i64) (setM x.2.1) [] :: .row x.2.2.2 (x.2.2.1.map (PV.int .i64)) :: [])
  (fun x => x.2.2.2.e = 3 ∧ x.2.2.2.s = 1 ∧ x.2.2.1.Nodup ∧ (∀ z, z ∈ x.2.2.1 ↔ ∃ n, n ∈ x.1.toList ∧ (n, z) ∈ all) ∧ (∀ z, z ∈ x.2.1 ↔ ∃ n k, n ∈ x.1.toList ∧ (n, k) ∈ all ∧ mvM s k = some z)) (fun x => (all.filter fun q => decide (q.1 ∉ x.1.toList)).length) (#[], [], [], nilTok 1 3) ⟨rfl, rfl, by simp, by simp, by simp⟩ (by repeat' (first|exact trivial|refine And.intro ?_ ?_|exact Wk.nilRow _ _|exact Wk.nilTok _ _|exact Wk.refl _)) ?_
 rintro ⟨seen, W, A, ta⟩ ⟨ha1, ha2, hnd, hA, hW⟩
 dsimp only at ha1 ha2 hnd hA hW ⊢
 have hsub : ∀ z ∈ A, z ∈ keysL s := fun z hz => by
  obtain ⟨n, _, hn⟩ := (hA z).1 hz
  exact mvM_dom.1 ((hAll.dom z).2 ⟨n, hn⟩)
 have hAl : A.length ≤ 1000 := by
  have := nodup_le15 hnd hsub
  omega
 conv => whnf
 repeat' (first|((first|((first|(apply zY;intro hg)|apply zZ);first|exact stA|exact stB|exact stC)|(refine zW ?_ ?_;exact gA)|refine zH rfl ?_|refine zA ?_|refine zI bA ?_|refine zI rfl ?_|refine sB ?_|(refine zO ?_ ?_ ?_;omega;omega)|(refine zP ?_ ?_ ?_;omega;omega)|refine zM rfl ?_|(refine zQ ?_ ?_ ?_;omega;omega)|(refine zR ?_ ?_;omega)|(refine zI ?_ ?_;exact nA)|refine sS ?_|refine sF ?_|refine n0 ?_|refine sD ?_|intro _|refine zG ?_);conv=>whnf)|(refine zX (fun hc => ?_) (fun hc => ?_)<;>(try simp only [SY] at hc)<;>first|omega|(conv=>whnf)))
 refine PNextM.num hAll hcl (fun n z y hn hz hs => ?_) (fun hs => ?_)
 ·conv => whnf
  repeat' (first|((first|((first|(apply zY;intro hg)|apply zZ);first|exact stA|exact stB|exact stC)|(refine zW ?_ ?_;exact gA)|refine zH rfl ?_|refine zA ?_|refine zI bA ?_|refine zI rfl ?_|refine sB ?_|(refine zO ?_ ?_ ?_;omega;omega)|(refine zP ?_ ?_ ?_;omega;omega)|refine zM rfl ?_|(refine zQ ?_ ?_ ?_;omega;omega)|(refine zR ?_ ?_;omega)|(refine zI ?_ ?_;exact nA)|refine sS ?_|refine sF ?_|refine n0 ?_|refine sD ?_|intro _|refine zG ?_);conv=>whnf)|(refine zX (fun hc => ?_) (fun hc => ?_)<;>(try simp only [SY] at hc)<;>first|omega|(conv=>whnf)))
  refine PEntryM.num z y hn hz ?_
  conv => whnf
  repeat' (first|((first|((first|(apply zY;intro hg)|apply zZ);first|exact stA|exact stB|exact stC)|(refine zW ?_ ?_;exact gA)|refine zH rfl ?_|refine zA ?_|refine zI bA ?_|refine zI rfl ?_|refine sB ?_|(refine zO ?_ ?_ ?_;omega;omega)|(refine zP ?_ ?_ ?_;omega;omega)|refine zM rfl ?_|(refine zQ ?_ ?_ ?_;omega;omega)|(refine zR ?_ ?_;omega)|(refine zI ?_ ?_;exact nA)|refine sS ?_|refine sF ?_|refine n0 ?_|refine sD ?_|intro _|refine zG ?_);conv=>whnf)|(refine zX (fun hc => ?_) (fun hc => ?_)<;>(try simp only [SY] at hc)<;>first|omega|(conv=>whnf)))
  rename_i t2 ht2 hs2
  refine loopTo (seen.push n, y :: W, A ++ [z], t2) ⟨ht2, hs2, ?_, fun k => ?_, fun k => ?_⟩ ?_ wA
  ·show (A ++ [z]).Nodup
   rw [List.nodup_append]
   refine ⟨hnd, by simp, ?_⟩
   rintro a ha b hb rfl
   rw [List.mem_singleton] at hb
   subst hb
   obtain ⟨n2, q1, q2⟩ := (hA a).1 ha
   have := nodup_inj hAll.nk hn q2 rfl
   cases this
   exact hs q1
  ·show k ∈ A ++ [z] ↔ _
   rw [List.mem_append, List.mem_singleton, hA]
   simp only [Array.toList_push, List.mem_append, List.mem_singleton]
   constructor
   ·rintro (⟨n2, q1, q2⟩ | rfl)
    ·exact ⟨n2, .inl q1, q2⟩
    ·exact ⟨n, .inr rfl, hn⟩
   ·rintro ⟨n2, q1 | rfl, q2⟩
    ·exact .inl ⟨n2, q1, q2⟩
    ·have := nodup_inj hAll.nb hn q2 rfl
     cases this
     exact .inr rfl
  ·show k ∈ y :: W ↔ _
   rw [List.mem_cons, hW]
   simp only [Array.toList_push, List.mem_append, List.mem_singleton]
   constructor
   ·rintro (rfl | ⟨n2, k2, q1, q2, q3⟩)
    ·exact ⟨n, z, .inr rfl, hn, hz⟩
    ·exact ⟨n2, k2, .inl q1, q2, q3⟩
   ·rintro ⟨n2, k2, q1 | rfl, q2, q3⟩
    ·exact .inr ⟨n2, k2, q1, q2, q3⟩
    ·have := nodup_inj hAll.nb hn q2 rfl
     cases this
     rw [hz] at q3
     cases q3
     exact .inl rfl
  ·refine filt_lt15 (fun q hq => ?_) all ⟨(n, z), hn, by simpa using hs, by simp⟩
   simp only [Array.toList_push, List.mem_append, List.mem_singleton, not_or, decide_eq_true_eq] at hq ⊢
   exact hq.1
 ·have hAk : ∀ z, z ∈ A ↔ z ∈ keysL s := fun z => by
   rw [hA, ← mvM_dom, hAll.dom]
   exact ⟨fun ⟨n, _, h⟩ => ⟨n, h⟩, fun ⟨n, h⟩ => ⟨n, hs _ h, h⟩⟩
  have hWk : ∀ z, W.contains z = usedB s z := fun z => by
   rw [Bool.eq_iff_iff, List.contains_iff_mem, hW, used_iff]
   constructor
   ·rintro ⟨n, k, _, _, h⟩
    exact ⟨k, h⟩
   ·rintro ⟨k, h⟩
    obtain ⟨n, hn⟩ := (hAll.dom k).1 (by rw [h]; simp)
    exact ⟨n, k, hs _ hn, hn, h⟩
  conv => whnf
  repeat' (first|((first|((first|(apply zY;intro hg)|apply zZ);first|exact stA|exact stB|exact stC)|(refine zW ?_ ?_;exact gA)|refine zH rfl ?_|refine zA ?_|refine zI bA ?_|refine zI rfl ?_|refine sB ?_|(refine zO ?_ ?_ ?_;omega;omega)|(refine zP ?_ ?_ ?_;omega;omega)|refine zM rfl ?_|(refine zQ ?_ ?_ ?_;omega;omega)|(refine zR ?_ ?_;omega)|(refine zI ?_ ?_;exact nA)|refine sS ?_|refine sF ?_|refine n0 ?_|refine sD ?_|intro _|refine zG ?_);conv=>whnf)|(refine zX (fun hc => ?_) (fun hc => ?_)<;>(try simp only [SY] at hc)<;>first|omega|(conv=>whnf)))
  refine PCall.go (sort_c ta A ha2 (by omega)) (WkT.refl _) ?_
  rintro _ _ ⟨rfl, rfl⟩
  rw [sorted_keys hnd hAk]
  conv => whnf
  repeat' (first|((first|((first|(apply zY;intro hg)|apply zZ);first|exact stA|exact stB|exact stC)|(refine zW ?_ ?_;exact gA)|refine zH rfl ?_|refine zA ?_|refine zI bA ?_|refine zI rfl ?_|refine sB ?_|(refine zO ?_ ?_ ?_;omega;omega)|(refine zP ?_ ?_ ?_;omega;omega)|refine zM rfl ?_|(refine zQ ?_ ?_ ?_;omega;omega)|(refine zR ?_ ?_;omega)|(refine zI ?_ ?_;exact nA)|refine sS ?_|refine sF ?_|refine n0 ?_|refine sD ?_|intro _|refine zG ?_);conv=>whnf)|(refine zX (fun hc => ?_) (fun hc => ?_)<;>(try simp only [SY] at hc)<;>first|omega|(conv=>whnf)))
  refine PLenM.map fun _ => ?_
  conv => whnf
  repeat' (first|((first|((first|(apply zY;intro hg)|apply zZ);first|exact stA|exact stB|exact stC)|(refine zW ?_ ?_;exact gA)|refine zH rfl ?_|refine zA ?_|refine zI bA ?_|refine zI rfl ?_|refine sB ?_|(refine zO ?_ ?_ ?_;omega;omega)|(refine zP ?_ ?_ ?_;omega;omega)|refine zM rfl ?_|(refine zQ ?_ ?_ ?_;omega;omega)|(refine zR ?_ ?_;omega)|(refine zI ?_ ?_;exact nA)|refine sS ?_|refine sF ?_|refine n0 ?_|refine sD ?_|intro _|refine zG ?_);conv=>whnf)|(refine zX (fun hc => ?_) (fun hc => ?_)<;>(try simp only [SY] at hc)<;>first|omega|(conv=>whnf)))
  refine PLoop.over [2, 3, 9, 28, 29, 30, 31, 32, 33, 34, 35, 36, 37] (fun x : Nat => [(28, .int .i64 x)])
   (fun x => .row ta ((keysL s).map (PV.int .i64)) :: .mp r2 (.int .i64) (setM W) [] :: .mp r (.int .i64) (mapM (PV.int .i64) (mvM s)) (pdI cl all) :: [])
   (fun x => x ≤ (keysL s).length ∧ ∀ i (h : i < x) (h2 : i < (keyN s).length), usedB s ((keyN s)[i] : Nat) = true) (fun x => (keysL s).length - x) 0 ⟨Nat.zero_le _, fun i h => absurd h (by omega)⟩ wA ?_
  rintro j ⟨hj, hu⟩
  conv => whnf
  repeat' (first|((first|((first|(apply zY;intro hg)|apply zZ);first|exact stA|exact stB|exact stC)|(refine zW ?_ ?_;exact gA)|refine zH rfl ?_|refine zA ?_|refine zI bA ?_|refine zI rfl ?_|refine sB ?_|(refine zO ?_ ?_ ?_;omega;omega)|(refine zP ?_ ?_ ?_;omega;omega)|refine zM rfl ?_|(refine zQ ?_ ?_ ?_;omega;omega)|(refine zR ?_ ?_;omega)|(refine zI ?_ ?_;exact nA)|refine sS ?_|refine sF ?_|refine n0 ?_|refine sD ?_|intro _|refine zG ?_);conv=>whnf)|(refine zX (fun hc => ?_) (fun hc => ?_)<;>(try simp only [SY] at hc)<;>first|omega|(conv=>whnf)))
  ·have hjn : j < (keyN s).length := by omega
   rw [hWk, keysL_get] at hc
   refine PRet.ghost (Γ' := [.row ta ((keysL s).map (PV.int .i64)), .mp r2 (.int .i64) (setM W) [], .mp r (.int .i64) (mapM (PV.int .i64) (mvM s)) []]) (Ghost.pendE r) ?_
   have hf : freeF s = some (keyN s)[j] := find_at _ j hjn (fun i hi => by rw [hu i hi (by omega)]; rfl) (by rw [hc]; rfl)
   rw [keysL_get]
   exact PRet.gen (y := frR s) (by rw [frR, hf]; exact Wk.refl _) ⟨rfl, rfl⟩
  ·rw [hWk, keysL_get] at hc
   exact loopTo (j + 1) ⟨by omega, fun i hi h2 => by
    rcases Nat.lt_succ_iff_lt_or_eq.1 hi with hi | rfl
    ·exact hu i hi h2
    ·exact hc⟩ (by show (keysL s).length - (j + 1) < (keysL s).length - j; omega) wA
  ·refine PRet.ghost (Γ' := [.row ta ((keysL s).map (PV.int .i64)), .mp r2 (.int .i64) (setM W) [], .mp r (.int .i64) (mapM (PV.int .i64) (mvM s)) []]) (Ghost.pendE r) ?_
   have hf : freeF s = none := by
    unfold freeF
    rw [List.find?_eq_none]
    intro x hx
    obtain ⟨i, hi, rfl⟩ := List.getElem_of_mem hx
    rw [hu i (by omega) hi]
    simp
   rw [keysL_get]
   have hh : (keyN s)[0] = hdN s := by
    unfold hdN
    generalize keyN s = l at hk0
    cases l with
    | nil => simp at hk0
    | cons a l => rfl
   rw [hh]
   exact PRet.gen (y := frR s) (by rw [frR, hf]; exact Wk.refl _) ⟨rfl, rfl⟩
end Go.Cb
namespace Go.Cb
open Go.Proofs
set_option maxRecDepth 100000
set_option maxHeartbeats 4000000
abbrev mvE (r : Nat) (s : Lft) : Ent := .mp r (.int .i64) (mapM (PV.int .i64) (mvM s)) []
abbrev movP (m : Mov) : PV := .agg m.cells
theorem mvM_set {s : Lft} {i : Nat} (z : Int) : mvM (s.set i none) z = if z = (i : Int) then none else mvM s z := by
 unfold mvM
 by_cases e : z = (i : Int)
 ·subst e
  rw [if_pos rfl, if_pos (by omega), Int.toNat_natCast, List.getD_eq_getElem?_getD, List.getElem?_set, if_pos rfl]
  split <;> rfl
 ·rw [if_neg e]
  by_cases h : 0 ≤ z
  ·rw [if_pos h, if_pos h, List.getD_eq_getElem?_getD, List.getElem?_set, if_neg (by omega), List.getD_eq_getElem?_getD]
  ·rw [if_neg h, if_neg h]
theorem mvM_put (sp h : Int) (s : Lft) (z : Int) : mvM (putL sp h s) z = if mvM s z = some h then some sp else mvM s z := by
 unfold mvM putL
 split
 ·rw [List.getD_eq_getElem?_getD, List.getElem?_map, List.getD_eq_getElem?_getD]
  cases s[z.toNat]? with
  | none => simp
  | some o => simp
 ·simp
theorem PMapDel.mv {r : Nat} {s : Lft} {i : Nat} {Γ : List Ent} {pend : List (Int × Value)} {put : (Value → Option PV) → List (Int × Value) → List Ent} [hp : PickMp Γ r (.int .i64) (mapM (PV.int .i64) (mvM s)) pend put] {K : List Ent → Prop} (h : K (put (mapM (PV.int .i64) (mvM (s.set i none))) [])) :
  PMapDel r (.int .i64) (some (.int .i64 (i : Int))) Γ K :=
 PMapDel.at_ (hp := hp) (mapM (PV.int .i64) (mvM (s.set i none))) (by simp [MapKept.IsKey]) (by simp [mapM, mvM_set]) (fun k hk => by
  unfold mapM
  split
  ·rename_i z
   rw [mvM_set, if_neg (fun e => hk (by rw [e]))]
  ·rfl) h
theorem PYield.ghost {P : Program} {l : Nat} {args : List PV} {Γ Γ' : List Ent} {K : PV → List Ent → Prop} (hg : Ghost Γ Γ') (h : PYield P l args Γ' K) : PYield P l args Γ K :=
 ⟨fun w0 F M w vs hS hT => by
  obtain ⟨F1, a1, a2⟩ := hg w0 F M w hS
  obtain ⟨fn, tmps, asg, bd, e1, e2⟩ := h.h w0 F1 M w vs a2 (RepT.mono a1 _ _ hT)
  refine ⟨fn, tmps, asg, bd, e1, e2.mono ?_⟩
  rintro e w' ⟨v, F', y, Γ2, e1, e2, e3⟩
  exact ⟨v, F', y, Γ2, e1, Fz.le_trans a1 e2, e3⟩⟩
theorem come_step {α : Type} {m : Int → Option α} {all : List (Nat × Int)} (hAll : AllI m all) {seen : Array Nat} {n2 : Nat} {z : Int} (hn2 : (n2, z) ∈ all) {m1 m2 F m3 : Int → Option Int} (h1 : ∀ k, (∃ n, n ∈ seen.toList ∧ (n, k) ∈ all) → m2 k = F k) (h2 : ∀ k, (¬∃ n, n ∈ seen.toList ∧ (n, k) ∈ all) → m2 k = m1 k) (h3 : m3 z = F z) (h4 : ∀ k, k ≠ z → m3 k = m2 k) :
  (∀ k, (∃ n, n ∈ (seen.push n2).toList ∧ (n, k) ∈ all) → m3 k = F k) ∧ (∀ k, (¬∃ n, n ∈ (seen.push n2).toList ∧ (n, k) ∈ all) → m3 k = m1 k) := by
 refine ⟨fun k hk => ?_, fun k hk => ?_⟩
 ·by_cases e : k = z
  ·rw [e, h3]
  ·rw [h4 k e]
   obtain ⟨n, q1, q2⟩ := hk
   refine h1 k ⟨n, ?_, q2⟩
   simp only [Array.toList_push, List.mem_append, List.mem_singleton] at q1
   rcases q1 with q1 | q1
   ·exact q1
   ·exfalso
    have := nodup_inj hAll.nb hn2 q2 q1.symm
    exact e (congrArg Prod.snd this).symm
 ·have e : k ≠ z := fun e => hk ⟨n2, by simp, by rw [e]; exact hn2⟩
  rw [h4 k e]
  exact h2 k fun ⟨n, q1, q2⟩ => hk ⟨n, by simp only [Array.toList_push, List.mem_append]; exact .inl q1, q2⟩
theorem come_less {all : List (Nat × Int)} {seen : Array Nat} {n2 : Nat} {z : Int} (hn2 : (n2, z) ∈ all) (hs : n2 ∉ seen.toList) : (all.filter fun q => decide (q.1 ∉ (seen.push n2).toList)).length < (all.filter fun q => decide (q.1 ∉ seen.toList)).length := by
 refine filt_lt15 (fun q hq => ?_) all ⟨(n2, z), hn2, by simpa using hs, by simp⟩
 simp only [Array.toList_push, List.mem_append, List.mem_singleton, not_or, decide_eq_true_eq] at hq ⊢
 exact hq.1
theorem told1_c (b1 b2 r : Nat) (n : Nat) (sp : Int) (s : Lft) (hsp : (s.length : Int) ≤ sp) (hl : s.length ≤ 1000) (hm : measL s ≤ n) (hn : n ≤ 1000000) :
  AIter Tryz.prog 234 [.ptr b1 0, .ptr b2 0] [.box b1 [.mp r], .box b2 [.int .i64 sp], mvE r s] ((movL n sp s).map fun m => [movP m]) := by
 intro l J X hy Γ hJ
 refine ACall.ghost (Ghost.drop (Γ' := .box b1 [.mp r] :: .box b2 [.int .i64 sp] :: mvE r s :: Γ) (Γ1 := []) (by rw [List.append_nil]; exact List.perm_append_comm (l₂ := [_, _, _]))) ?_
 refine ACall.of_body tt_ok Tryz.func234 rfl rfl (n := 45) rfl rfl ?_
 conv => whnf
 repeat' (first|((first|((first|(apply zY;intro hg)|apply zZ);first|exact stA|exact stB|exact stC)|(refine zW ?_ ?_;exact gA)|refine zH rfl ?_|refine zA ?_|refine zI bA ?_|refine zI rfl ?_|refine sB ?_|(refine zO ?_ ?_ ?_;omega;omega)|(refine zP ?_ ?_ ?_;omega;omega)|refine zM rfl ?_|(refine zQ ?_ ?_ ?_;omega;omega)|(refine zR ?_ ?_;omega)|(refine zI ?_ ?_;exact nA)|refine sS ?_|refine sF ?_|refine n0 ?_|refine sD ?_|intro _|refine zG ?_);conv=>whnf)|(refine zX (fun hc => ?_) (fun hc => ?_)<;>(try simp only [SY] at hc)<;>first|omega|(conv=>whnf)))
 refine PLoop.over [4, 5, 6, 7, 8, 9, 10, 11, 12, 13, 14, 15, 16, 17, 18, 19, 20, 21, 22, 23, 24, 25, 26, 27, 28, 29, 30, 31, 32, 33, 34, 35, 36, 37, 38, 39, 40, 41, 42, 43, 44] (fun x : Nat × Nat × Lft × List Ent => [])
  (fun x => .box b1 [.mp r] :: .box b2 [.int .i64 sp] :: mvE r x.2.2.1 :: x.2.2.2)
  (fun x => x.2.2.1.length = s.length ∧ measL x.2.2.1 ≤ x.2.1 ∧ J x.1 x.2.2.2 ∧ (movL n sp s).drop x.1 = movL x.2.1 sp x.2.2.1 ∧ x.1 + (movL x.2.1 sp x.2.2.1).length = (movL n sp s).length) (fun x => measL x.2.2.1) (0, n, s, Γ) ⟨rfl, hm, hJ, rfl, by simp⟩ wA ?_
 rintro ⟨k, f, s1, Γ1⟩ ⟨h1, h2, h3, h4, h5⟩
 dsimp only at h1 h2 h3 h4 h5 ⊢
 conv => whnf
 repeat' (first|((first|((first|(apply zY;intro hg)|apply zZ);first|exact stA|exact stB|exact stC)|(refine zW ?_ ?_;exact gA)|refine zH rfl ?_|refine zA ?_|refine zI bA ?_|refine zI rfl ?_|refine sB ?_|(refine zO ?_ ?_ ?_;omega;omega)|(refine zP ?_ ?_ ?_;omega;omega)|refine zM rfl ?_|(refine zQ ?_ ?_ ?_;omega;omega)|(refine zR ?_ ?_;omega)|(refine zI ?_ ?_;exact nA)|refine sS ?_|refine sF ?_|refine n0 ?_|refine sD ?_|intro _|refine zG ?_);conv=>whnf)|(refine zX (fun hc => ?_) (fun hc => ?_)<;>(try simp only [SY] at hc)<;>first|omega|(conv=>whnf)))
 refine PLenP.num fun c hcn => ?_
 conv => whnf
 repeat' (first|((first|((first|(apply zY;intro hg)|apply zZ);first|exact stA|exact stB|exact stC)|(refine zW ?_ ?_;exact gA)|refine zH rfl ?_|refine zA ?_|refine zI bA ?_|refine zI rfl ?_|refine sB ?_|(refine zO ?_ ?_ ?_;omega;omega)|(refine zP ?_ ?_ ?_;omega;omega)|refine zM rfl ?_|(refine zQ ?_ ?_ ?_;omega;omega)|(refine zR ?_ ?_;omega)|(refine zI ?_ ?_;exact nA)|refine sS ?_|refine sF ?_|refine n0 ?_|refine sD ?_|intro _|refine zG ?_);conv=>whnf)|(refine zX (fun hc => ?_) (fun hc => ?_)<;>(try simp only [SY] at hc)<;>first|omega|(conv=>whnf)))
 ·have hk : keyN s1 ≠ [] := fun h => by rw [(hcn.2 (mvM_none.2 h))] at hc; omega
  have hms := meas_step (sp := sp) (s := s1) (by omega) hk
  have hf : 0 < f := by omega
  obtain ⟨f, rfl⟩ : ∃ g, f = g + 1 := ⟨f - 1, by omega⟩
  rw [movL, if_neg hk] at h4 h5
  have hkey := keyN_len s1
  have hml := movL_len n sp s
  have hkt : k < (movL n sp s).length := by rw [List.length_cons] at h5; omega
  rw [drop_at hkt, List.cons.injEq] at h4
  have hyk := hy k [movP (movL n sp s)[k]]
  rw [h4.1] at hyk
  refine PCall.read (free15_c r s1 hk (by omega)) (WkT.refl _) ?_
  unfold stepM at h4 h5 hms hyk
  rw [frR]
  cases hfr : freeF s1 with
  | some i =>
   rw [hfr] at h4 h5 hms hyk
   have hik : i ∈ keyN s1 := List.mem_of_find?_eq_some hfr
   have hil := keyN_lt hik
   have hv := keyN_mem.1 hik
   obtain ⟨x, hx⟩ := Option.isSome_iff_exists.1 hv
   have hmx : mvM s1 i = some x := by rw [mvM, if_pos (by omega), Int.toNat_natCast, hx]
   dsimp only at h4 h5 hms hyk ⊢
   rw [hx] at hyk
   conv => whnf
   repeat' (first|((first|((first|(apply zY;intro hg)|apply zZ);first|exact stA|exact stB|exact stC)|(refine zW ?_ ?_;exact gA)|refine zH rfl ?_|refine zA ?_|refine zI bA ?_|refine zI rfl ?_|refine sB ?_|(refine zO ?_ ?_ ?_;omega;omega)|(refine zP ?_ ?_ ?_;omega;omega)|refine zM rfl ?_|(refine zQ ?_ ?_ ?_;omega;omega)|(refine zR ?_ ?_;omega)|(refine zI ?_ ?_;exact nA)|refine sS ?_|refine sF ?_|refine n0 ?_|refine sD ?_|intro _|refine zG ?_);conv=>whnf)|(refine zX (fun hc => ?_) (fun hc => ?_)<;>(try simp only [SY] at hc)<;>first|omega|(conv=>whnf)))
   refine PMapDel.mv ?_
   conv => whnf
   repeat' (first|((first|((first|(apply zY;intro hg)|apply zZ);first|exact stA|exact stB|exact stC)|(refine zW ?_ ?_;exact gA)|refine zH rfl ?_|refine zA ?_|refine zI bA ?_|refine zI rfl ?_|refine sB ?_|(refine zO ?_ ?_ ?_;omega;omega)|(refine zP ?_ ?_ ?_;omega;omega)|refine zM rfl ?_|(refine zQ ?_ ?_ ?_;omega;omega)|(refine zR ?_ ?_;omega)|(refine zI ?_ ?_;exact nA)|refine sS ?_|refine sF ?_|refine n0 ?_|refine sD ?_|intro _|refine zG ?_);conv=>whnf)|(refine zX (fun hc => ?_) (fun hc => ?_)<;>(try simp only [SY] at hc)<;>first|omega|(conv=>whnf)))
   rename_i bm
   refine PYield.goR [.box bm [.int .i64 i, .int .i64 x], .box b1 [.mp r], .box b2 [.int .i64 sp], mvE r (s1.set i none)] (hyk Γ1 (by rw [List.getElem?_map, List.getElem?_eq_getElem hkt, h4.1, hx]; rfl) h3) (WkT.refl _) (List.Perm.refl _) ?_
   rintro _ Γ2 (⟨rfl, hJ2⟩ | ⟨rfl, hX⟩)
   ·conv => whnf
    repeat' (first|((first|((first|(apply zY;intro hg)|apply zZ);first|exact stA|exact stB|exact stC)|(refine zW ?_ ?_;exact gA)|refine zH rfl ?_|refine zA ?_|refine zI bA ?_|refine zI rfl ?_|refine sB ?_|(refine zO ?_ ?_ ?_;omega;omega)|(refine zP ?_ ?_ ?_;omega;omega)|refine zM rfl ?_|(refine zQ ?_ ?_ ?_;omega;omega)|(refine zR ?_ ?_;omega)|(refine zI ?_ ?_;exact nA)|refine sS ?_|refine sF ?_|refine n0 ?_|refine sD ?_|intro _|refine zG ?_);conv=>whnf)|(refine zX (fun hc => ?_) (fun hc => ?_)<;>(try simp only [SY] at hc)<;>first|omega|(conv=>whnf)))
    rw [List.length_cons] at h5
    exact loopTo (k + 1, f, s1.set i none, Γ2) (hp := ⟨(List.perm_append_singleton _ _).symm⟩) ⟨by dsimp only; rw [List.length_set, h1], by show measL (s1.set i none) ≤ f; omega, hJ2, h4.2, by show k + 1 + (movL f sp (s1.set i none)).length = _; omega⟩ (by show measL (s1.set i none) < measL s1; omega) wA
   ·conv => whnf
    repeat' (first|((first|((first|(apply zY;intro hg)|apply zZ);first|exact stA|exact stB|exact stC)|(refine zW ?_ ?_;exact gA)|refine zH rfl ?_|refine zA ?_|refine zI bA ?_|refine zI rfl ?_|refine sB ?_|(refine zO ?_ ?_ ?_;omega;omega)|(refine zP ?_ ?_ ?_;omega;omega)|refine zM rfl ?_|(refine zQ ?_ ?_ ?_;omega;omega)|(refine zR ?_ ?_;omega)|(refine zI ?_ ?_;exact nA)|refine sS ?_|refine sF ?_|refine n0 ?_|refine sD ?_|intro _|refine zG ?_);conv=>whnf)|(refine zX (fun hc => ?_) (fun hc => ?_)<;>(try simp only [SY] at hc)<;>first|omega|(conv=>whnf)))
    exact PRet.gen (y := .tup []) (Γ' := Γ2) (hp := ⟨List.perm_append_comm (l₁ := [_, _, _, _])⟩) (Wk.refl _) (.inr hX)
  | none =>
   rw [hfr] at h4 h5 hms hyk
   dsimp only at h4 h5 hms hyk ⊢
   have hhk := hdN_mem hk
   obtain ⟨x, hx⟩ := Option.isSome_iff_exists.1 (keyN_mem.1 hhk)
   have hmx : mvM s1 (hdN s1) = some x := by rw [mvM, if_pos (by omega), Int.toNat_natCast, hx]
   conv => whnf
   repeat' (first|((first|((first|(apply zY;intro hg)|apply zZ);first|exact stA|exact stB|exact stC)|(refine zW ?_ ?_;exact gA)|refine zH rfl ?_|refine zA ?_|refine zI bA ?_|refine zI rfl ?_|refine sB ?_|(refine zO ?_ ?_ ?_;omega;omega)|(refine zP ?_ ?_ ?_;omega;omega)|refine zM rfl ?_|(refine zQ ?_ ?_ ?_;omega;omega)|(refine zR ?_ ?_;omega)|(refine zI ?_ ?_;exact nA)|refine sS ?_|refine sF ?_|refine n0 ?_|refine sD ?_|intro _|refine zG ?_);conv=>whnf)|(refine zX (fun hc => ?_) (fun hc => ?_)<;>(try simp only [SY] at hc)<;>first|omega|(conv=>whnf)))
   rename_i bm
   refine PRangeM.num fun bI all cl hAll hcl => ?_
   conv => whnf
   repeat' (first|((first|((first|(apply zY;intro hg)|apply zZ);first|exact stA|exact stB|exact stC)|(refine zW ?_ ?_;exact gA)|refine zH rfl ?_|refine zA ?_|refine zI bA ?_|refine zI rfl ?_|refine sB ?_|(refine zO ?_ ?_ ?_;omega;omega)|(refine zP ?_ ?_ ?_;omega;omega)|refine zM rfl ?_|(refine zQ ?_ ?_ ?_;omega;omega)|(refine zR ?_ ?_;omega)|(refine zI ?_ ?_;exact nA)|refine sS ?_|refine sF ?_|refine n0 ?_|refine sD ?_|intro _|refine zG ?_);conv=>whnf)|(refine zX (fun hc => ?_) (fun hc => ?_)<;>(try simp only [SY] at hc)<;>first|omega|(conv=>whnf)))
   have hA2 : ∀ m2 : Int → Option Int, (∀ z, m2 z ≠ none ↔ mvM s1 z ≠ none) → AllI m2 all := fun m2 h => ⟨fun z => by rw [h z]; exact hAll.dom z, hAll.nk, hAll.nb⟩
   refine PLoop.over [7, 8, 30, 31, 32, 33, 34, 35, 36, 37, 38, 39, 40] (fun x : Array Nat × (Int → Option Int) => [])
    (fun x => .ob bI (itO r cl x.1) [] [] :: .box bm [.int .i64 sp, .int .i64 (hdN s1)] :: .box b1 [.mp r] :: .box b2 [.int .i64 sp] :: .mp r (.int .i64) (mapM (PV.int .i64) x.2) (pdI cl all) :: Γ1)
    (fun x => (∀ k, (∃ n, n ∈ x.1.toList ∧ (n, k) ∈ all) → x.2 k = if mvM s1 k = some (hdN s1 : Int) then some sp else mvM s1 k) ∧ (∀ k, (¬∃ n, n ∈ x.1.toList ∧ (n, k) ∈ all) → x.2 k = mvM s1 k)) (fun x => (all.filter fun q => decide (q.1 ∉ x.1.toList)).length) (#[], mvM s1) ⟨fun k h => by simp at h, fun k _ => rfl⟩ wA ?_
   rintro ⟨seen, m2⟩ ⟨hs1, hs2⟩
   dsimp only at hs1 hs2 ⊢
   have hdm : ∀ z, m2 z ≠ none ↔ mvM s1 z ≠ none := fun z => by
    by_cases hz : ∃ n, n ∈ seen.toList ∧ (n, z) ∈ all
    ·rw [hs1 z hz]
     split
     ·rename_i e; rw [e]; simp
     ·exact Iff.rfl
    ·rw [hs2 z hz]
   conv => whnf
   repeat' (first|((first|((first|(apply zY;intro hg)|apply zZ);first|exact stA|exact stB|exact stC)|(refine zW ?_ ?_;exact gA)|refine zH rfl ?_|refine zA ?_|refine zI bA ?_|refine zI rfl ?_|refine sB ?_|(refine zO ?_ ?_ ?_;omega;omega)|(refine zP ?_ ?_ ?_;omega;omega)|refine zM rfl ?_|(refine zQ ?_ ?_ ?_;omega;omega)|(refine zR ?_ ?_;omega)|(refine zI ?_ ?_;exact nA)|refine sS ?_|refine sF ?_|refine n0 ?_|refine sD ?_|intro _|refine zG ?_);conv=>whnf)|(refine zX (fun hc => ?_) (fun hc => ?_)<;>(try simp only [SY] at hc)<;>first|omega|(conv=>whnf)))
   refine PNextM.num (hA2 m2 hdm) hcl (fun n2 z y hn2 hz hs => ?_) (fun hs => ?_)
   ·have hzn : ¬∃ n, n ∈ seen.toList ∧ (n, z) ∈ all := by
     rintro ⟨n3, q1, q2⟩
     have := nodup_inj hAll.nk hn2 q2 rfl
     cases this
     exact hs q1
    have hyz : mvM s1 z = some y := by rw [← hs2 z hzn]; exact hz
    conv => whnf
    repeat' (first|((first|((first|(apply zY;intro hg)|apply zZ);first|exact stA|exact stB|exact stC)|(refine zW ?_ ?_;exact gA)|refine zH rfl ?_|refine zA ?_|refine zI bA ?_|refine zI rfl ?_|refine sB ?_|(refine zO ?_ ?_ ?_;omega;omega)|(refine zP ?_ ?_ ?_;omega;omega)|refine zM rfl ?_|(refine zQ ?_ ?_ ?_;omega;omega)|(refine zR ?_ ?_;omega)|(refine zI ?_ ?_;exact nA)|refine sS ?_|refine sF ?_|refine n0 ?_|refine sD ?_|intro _|refine zG ?_);conv=>whnf)|(refine zX (fun hc => ?_) (fun hc => ?_)<;>(try simp only [SY] at hc)<;>first|omega|(conv=>whnf)))
    refine PEntryM.num z y hn2 hz ?_
    conv => whnf
    repeat' (first|((first|((first|(apply zY;intro hg)|apply zZ);first|exact stA|exact stB|exact stC)|(refine zW ?_ ?_;exact gA)|refine zH rfl ?_|refine zA ?_|refine zI bA ?_|refine zI rfl ?_|refine sB ?_|(refine zO ?_ ?_ ?_;omega;omega)|(refine zP ?_ ?_ ?_;omega;omega)|refine zM rfl ?_|(refine zQ ?_ ?_ ?_;omega;omega)|(refine zR ?_ ?_;omega)|(refine zI ?_ ?_;exact nA)|refine sS ?_|refine sF ?_|refine n0 ?_|refine sD ?_|intro _|refine zG ?_);conv=>whnf)|(refine zX (fun hc => ?_) (fun hc => ?_)<;>(try simp only [SY] at hc)<;>first|omega|(conv=>whnf)))
    ·refine PMapPut.num (f := PV.int .i64) sp rfl ?_ (.inl (by simp [mapM, hz]))
     conv => whnf
     repeat' (first|((first|((first|(apply zY;intro hg)|apply zZ);first|exact stA|exact stB|exact stC)|(refine zW ?_ ?_;exact gA)|refine zH rfl ?_|refine zA ?_|refine zI bA ?_|refine zI rfl ?_|refine sB ?_|(refine zO ?_ ?_ ?_;omega;omega)|(refine zP ?_ ?_ ?_;omega;omega)|refine zM rfl ?_|(refine zQ ?_ ?_ ?_;omega;omega)|(refine zR ?_ ?_;omega)|(refine zI ?_ ?_;exact nA)|refine sS ?_|refine sF ?_|refine n0 ?_|refine sD ?_|intro _|refine zG ?_);conv=>whnf)|(refine zX (fun hc => ?_) (fun hc => ?_)<;>(try simp only [SY] at hc)<;>first|omega|(conv=>whnf)))
     have hst := come_step hAll hn2 (F := fun k => if mvM s1 k = some (hdN s1 : Int) then some sp else mvM s1 k) (m3 := upd m2 z sp) hs1 hs2 (by rw [upd, if_pos rfl, hyz, if_pos (by rw [hc])]) (fun k hk => by rw [upd, if_neg hk])
     exact loopTo (seen.push n2, upd m2 z sp) hst (come_less hn2 hs) wA
    ·have hst := come_step hAll hn2 (F := fun k => if mvM s1 k = some (hdN s1 : Int) then some sp else mvM s1 k) (m3 := m2) hs1 hs2 (by rw [hz, hyz, if_neg (fun e => hc (by cases e; rfl))]) (fun k hk => rfl)
     exact loopTo (seen.push n2, m2) hst (come_less hn2 hs) wA
   ·have hm2 : m2 = mvM (putL sp (hdN s1) s1) := by
     funext z
     rw [mvM_put]
     by_cases hz : ∃ n, n ∈ seen.toList ∧ (n, z) ∈ all
     ·exact hs1 z hz
     ·rw [hs2 z hz, if_neg]
      intro e
      obtain ⟨n3, q⟩ := (hAll.dom z).1 (by rw [e]; simp)
      exact hz ⟨n3, hs _ q, q⟩
    subst hm2
    conv => whnf
    repeat' (first|((first|((first|(apply zY;intro hg)|apply zZ);first|exact stA|exact stB|exact stC)|(refine zW ?_ ?_;exact gA)|refine zH rfl ?_|refine zA ?_|refine zI bA ?_|refine zI rfl ?_|refine sB ?_|(refine zO ?_ ?_ ?_;omega;omega)|(refine zP ?_ ?_ ?_;omega;omega)|refine zM rfl ?_|(refine zQ ?_ ?_ ?_;omega;omega)|(refine zR ?_ ?_;omega)|(refine zI ?_ ?_;exact nA)|refine sS ?_|refine sF ?_|refine n0 ?_|refine sD ?_|intro _|refine zG ?_);conv=>whnf)|(refine zX (fun hc => ?_) (fun hc => ?_)<;>(try simp only [SY] at hc)<;>first|omega|(conv=>whnf)))
    refine PYield.ghost (Γ' := .ob bI (itO r cl seen) [] [] :: .box bm [.int .i64 sp, .int .i64 (hdN s1)] :: .box b1 [.mp r] :: .box b2 [.int .i64 sp] :: mvE r (putL sp (hdN s1) s1) :: Γ1) (Ghost.pendE r) ?_
    refine PYield.goR [.ob bI (itO r cl seen) [] [], .box bm [.int .i64 sp, .int .i64 (hdN s1)], .box b1 [.mp r], .box b2 [.int .i64 sp], mvE r (putL sp (hdN s1) s1)] (hyk Γ1 (by rw [List.getElem?_map, List.getElem?_eq_getElem hkt, h4.1]; rfl) h3) (WkT.refl _) (List.Perm.refl _) ?_
    rintro _ Γ2 (⟨rfl, hJ2⟩ | ⟨rfl, hX⟩)
    ·conv => whnf
     repeat' (first|((first|((first|(apply zY;intro hg)|apply zZ);first|exact stA|exact stB|exact stC)|(refine zW ?_ ?_;exact gA)|refine zH rfl ?_|refine zA ?_|refine zI bA ?_|refine zI rfl ?_|refine sB ?_|(refine zO ?_ ?_ ?_;omega;omega)|(refine zP ?_ ?_ ?_;omega;omega)|refine zM rfl ?_|(refine zQ ?_ ?_ ?_;omega;omega)|(refine zR ?_ ?_;omega)|(refine zI ?_ ?_;exact nA)|refine sS ?_|refine sF ?_|refine n0 ?_|refine sD ?_|intro _|refine zG ?_);conv=>whnf)|(refine zX (fun hc => ?_) (fun hc => ?_)<;>(try simp only [SY] at hc)<;>first|omega|(conv=>whnf)))
     rw [List.length_cons] at h5
     exact loopTo (k + 1, f, putL sp (hdN s1) s1, Γ2) (hp := ⟨List.perm_append_comm (l₁ := [_, _])⟩) ⟨by dsimp only; rw [putL, List.length_map, h1], by show measL (putL sp (hdN s1) s1) ≤ f; omega, hJ2, h4.2, by show k + 1 + (movL f sp (putL sp (hdN s1) s1)).length = _; omega⟩ (by show measL (putL sp (hdN s1) s1) < measL s1; omega) wA
    ·conv => whnf
     repeat' (first|((first|((first|(apply zY;intro hg)|apply zZ);first|exact stA|exact stB|exact stC)|(refine zW ?_ ?_;exact gA)|refine zH rfl ?_|refine zA ?_|refine zI bA ?_|refine zI rfl ?_|refine sB ?_|(refine zO ?_ ?_ ?_;omega;omega)|(refine zP ?_ ?_ ?_;omega;omega)|refine zM rfl ?_|(refine zQ ?_ ?_ ?_;omega;omega)|(refine zR ?_ ?_;omega)|(refine zI ?_ ?_;exact nA)|refine sS ?_|refine sF ?_|refine n0 ?_|refine sD ?_|intro _|refine zG ?_);conv=>whnf)|(refine zX (fun hc => ?_) (fun hc => ?_)<;>(try simp only [SY] at hc)<;>first|omega|(conv=>whnf)))
     exact PRet.gen (y := .tup []) (Γ' := Γ2) (hp := ⟨List.perm_append_comm (l₁ := [_, _, _, _, _])⟩) (Wk.refl _) (.inr hX)
 ·have hk : keyN s1 = [] := mvM_none.1 (hcn.1 (by omega))
  have h0 : movL f sp s1 = [] := by
   cases f with
   | zero => rfl
   | succ f => rw [movL, if_pos hk]
  rw [h0] at h5
  refine PRet.gen (y := .tup []) (Γ' := Γ1) (hp := ⟨List.perm_append_comm (l₁ := [_, _, _])⟩) (Wk.refl _) (.inl ?_)
  rw [List.length_map, ← h5]
  exact h3
end Go.Cb
namespace Go.Cb
open Go.Proofs
set_option maxRecDepth 100000
set_option maxHeartbeats 4000000
instance {m : Mov} : ElOf Mov.pv (.agg [.int .i64 m.to, .int .i64 m.frm]) m := ⟨Wk.refl _, WkL.refl _⟩
theorem told_c (r : Nat) (sp : Int) : ACall Tryz.prog 208 [.mp r, .int .i64 sp] [] (fun y Γ' => ∃ b1 b2, y = .fn (.func 234) [.ptr b1 0, .ptr b2 0] ∧ Γ' = [.box b1 [.mp r], .box b2 [.int .i64 sp]]) := by
 refine ACall.of_body tt_ok Tryz.func208 rfl rfl (n := 6) rfl rfl ?_
 conv => whnf
 repeat' (first|((first|((first|(apply zY;intro hg)|apply zZ);first|exact stA|exact stB|exact stC)|(refine zW ?_ ?_;exact gA)|refine zH rfl ?_|refine zA ?_|refine zI bA ?_|refine zI rfl ?_|refine sB ?_|(refine zO ?_ ?_ ?_;omega;omega)|(refine zP ?_ ?_ ?_;omega;omega)|refine zM rfl ?_|(refine zQ ?_ ?_ ?_;omega;omega)|(refine zR ?_ ?_;omega)|(refine zI ?_ ?_;exact nA)|refine sS ?_|refine sF ?_|refine n0 ?_|refine sD ?_|intro _|refine zG ?_);conv=>whnf)|(refine zX (fun hc => ?_) (fun hc => ?_)<;>(try simp only [SY] at hc)<;>first|omega|(conv=>whnf)))
 rename_i b1 b2
 exact PRet.gen (y := .fn (.func 234) [.ptr b1 0, .ptr b2 0]) (Γ' := [.box b1 [.mp r], .box b2 [.int .i64 sp]]) (Wk.refl _) ⟨b1, b2, rfl, rfl⟩
theorem mvM_nil : (fun _ => none : Value → Option PV) = mapM (PV.int .i64) (mvM []) := by
 funext v
 unfold mapM mvM
 split
 ·split <;> rfl
 ·rfl
theorem mvM_snoc (s : Lft) (o : Option Int) (z : Int) : mvM (s ++ [o]) z = if z = s.length then o else mvM s z := by
 unfold mvM
 by_cases e : z = s.length
 ·subst e
  rw [if_pos rfl, if_pos (by omega), Int.toNat_natCast, List.getD_eq_getElem?_getD, List.getElem?_append_right (Nat.le_refl _), Nat.sub_self]
  rfl
 ·rw [if_neg e]
  by_cases h : 0 ≤ z
  ·rw [if_pos h, if_pos h, List.getD_eq_getElem?_getD, List.getD_eq_getElem?_getD]
   by_cases hl : z.toNat < s.length
   ·rw [List.getElem?_append_left hl]
   ·rw [List.getElem?_eq_none (by simp; omega), List.getElem?_eq_none (by omega)]
  ·rw [if_neg h, if_neg h]
abbrev ordPV (l : List Int) (sp : Int) : PV := .tup [.sl 2 ((ordF l sp).1.map Mov.pv) none, .int .i64 (ordF l sp).2]
theorem leftL_take {l : List Int} {i : Nat} (h : i < l.length) : leftL (l.take (i + 1)) 0 = leftL (l.take i) 0 ++ [if l[i] = (i : Int) then none else some l[i]] := by
 rw [List.take_succ_eq_append_getElem h, leftL_app, List.length_take, leftL, leftL, Nat.zero_add, Nat.min_eq_left (by omega)]
theorem order_c (l : List Int) (sp : Int) : ACallP Tryz.prog 185 [slI l, .int .i64 sp] (ordPV l sp) := by
 unfold ordPV ordF
 refine ACall.of_body tt_ok Tryz.func185 rfl rfl (n := 59) rfl rfl ?_
 conv => whnf
 repeat' (first|((first|((first|(apply zY;intro hg)|apply zZ);first|exact stA|exact stB|exact stC)|(refine zW ?_ ?_;exact gA)|refine zH rfl ?_|refine zA ?_|refine zI bA ?_|refine zI rfl ?_|refine sB ?_|(refine zO ?_ ?_ ?_;omega;omega)|(refine zP ?_ ?_ ?_;omega;omega)|refine zM rfl ?_|(refine zQ ?_ ?_ ?_;omega;omega)|(refine zR ?_ ?_;omega)|(refine zI ?_ ?_;exact nA)|refine sS ?_|refine sF ?_|refine n0 ?_|refine sD ?_|intro _|refine zG ?_);conv=>whnf)|(refine zX (fun hc => ?_) (fun hc => ?_)<;>(try simp only [SY] at hc)<;>first|omega|(conv=>whnf)))
 ·have hi : illM l sp = true := by
   unfold illM
   simp only [Bool.or_eq_true, decide_eq_true_eq]
   omega
  rw [hi, Bool.true_or, if_pos rfl]
  exact PRet.pure (Wk.tup (.cons (Wk.nil' rfl) (.cons (Wk.refl _) .nil)))
 have hi : illM l sp = false := by
  unfold illM
  simp only [Bool.or_eq_false_iff, decide_eq_false_iff_not]
  omega
 rw [hi, Bool.false_or]
 rename_i r _
 rw [mvM_nil]
 refine PLoop.over [4, 5, 7, 8, 27, 28, 29, 30, 31, 32, 33, 34, 35, 36, 37, 38, 39, 40, 41, 42, 43, 44, 45, 46, 47, 48, 49] (fun x : Nat × Lft => [(27, .int .i64 x.1)]) (fun x => [mvE r x.2]) (fun x => x.1 ≤ l.length ∧ x.2 = leftL (l.take x.1) 0 ∧ badM (l.take x.1) sp = false) (fun x => l.length - x.1) (0, []) ⟨Nat.zero_le _, by rw [List.take_zero, leftL.eq_1], rfl⟩ wA ?_
 rintro ⟨i, s⟩ ⟨h1, h2, h3⟩
 dsimp only at h1 h2 h3 ⊢
 have hsl : s.length = i := by rw [h2, leftL_len, List.length_take]; omega
 conv => whnf
 repeat' (first|((first|((first|(apply zY;intro hg)|apply zZ);first|exact stA|exact stB|exact stC)|(refine zW ?_ ?_;exact gA)|refine zH rfl ?_|refine zA ?_|refine zI bA ?_|refine zI rfl ?_|refine sB ?_|(refine zO ?_ ?_ ?_;omega;omega)|(refine zP ?_ ?_ ?_;omega;omega)|refine zM rfl ?_|(refine zQ ?_ ?_ ?_;omega;omega)|(refine zR ?_ ?_;omega)|(refine zI ?_ ?_;exact nA)|refine sS ?_|refine sF ?_|refine n0 ?_|refine sD ?_|intro _|refine zG ?_);conv=>whnf)|(refine zX (fun hc => ?_) (fun hc => ?_)<;>(try simp only [SY] at hc)<;>first|omega|(conv=>whnf)))
 ·have hb : badM l sp = true := by
   unfold badM
   rw [List.any_eq_true]
   exact ⟨l[i], List.getElem_mem _, by simp only [Bool.or_eq_true, decide_eq_true_eq, beq_iff_eq]; omega⟩
  rw [if_pos hb]
  exact PRet.pure (Wk.tup (.cons (Wk.nil' rfl) (.cons (Wk.refl _) .nil)))
 ·have hit : i < l.length := by omega
  have hu : upd (mvM s) i l[i] = mvM (leftL (l.take (i + 1)) 0) := by
   funext z
   rw [leftL_take hit, ← h2, if_neg hc, mvM_snoc, hsl]
   rfl
  have hb : badM (l.take (i + 1)) sp = false := by
   rw [List.take_succ_eq_append_getElem hit, badM, List.any_append, ← badM, h3, Bool.false_or, List.any_cons, List.any_nil, Bool.or_false]
   simp only [Bool.or_eq_false_iff, decide_eq_false_iff_not, beq_eq_false_iff_ne]
   omega
  refine PMapPut.num (f := PV.int .i64) l[i] rfl ?_
  rw [hu]
  conv => whnf
  repeat' (first|((first|((first|(apply zY;intro hg)|apply zZ);first|exact stA|exact stB|exact stC)|(refine zW ?_ ?_;exact gA)|refine zH rfl ?_|refine zA ?_|refine zI bA ?_|refine zI rfl ?_|refine sB ?_|(refine zO ?_ ?_ ?_;omega;omega)|(refine zP ?_ ?_ ?_;omega;omega)|refine zM rfl ?_|(refine zQ ?_ ?_ ?_;omega;omega)|(refine zR ?_ ?_;omega)|(refine zI ?_ ?_;exact nA)|refine sS ?_|refine sF ?_|refine n0 ?_|refine sD ?_|intro _|refine zG ?_);conv=>whnf)|(refine zX (fun hc => ?_) (fun hc => ?_)<;>(try simp only [SY] at hc)<;>first|omega|(conv=>whnf)))
  exact loopTo (i + 1, leftL (l.take (i + 1)) 0) ⟨by show i + 1 ≤ _; omega, rfl, hb⟩ (by show l.length - (i + 1) < l.length - i; omega) wA
 ·have hit : i < l.length := by omega
  have hu : mvM s = mvM (leftL (l.take (i + 1)) 0) := by
   funext z
   rw [leftL_take hit, ← h2, if_pos hc, mvM_snoc, hsl]
   split
   ·rename_i e
    rw [e, mvM, if_pos (by omega), Int.toNat_natCast, List.getD_eq_getElem?_getD, List.getElem?_eq_none (by omega)]
    rfl
   ·rfl
  have hb : badM (l.take (i + 1)) sp = false := by
   rw [List.take_succ_eq_append_getElem hit, badM, List.any_append, ← badM, h3, Bool.false_or, List.any_cons, List.any_nil, Bool.or_false]
   simp only [Bool.or_eq_false_iff, decide_eq_false_iff_not, beq_eq_false_iff_ne]
   omega
  have he : mvE r s = mvE r (leftL (l.take (i + 1)) 0) := by unfold mvE; rw [hu]
  rw [he]
  exact loopTo (i + 1, leftL (l.take (i + 1)) 0) ⟨by show i + 1 ≤ _; omega, rfl, hb⟩ (by show l.length - (i + 1) < l.length - i; omega) wA
 ·obtain rfl : i = l.length := by omega
  rw [List.take_length] at h2 h3
  subst h2
  rw [if_neg (by rw [h3]; simp)]
  rename_i bo
  refine PCall.goG (Ghost.trans (Ghost.nil 2 235 _) (Ghost.box (b := bo) (cs := [.nil]) (cs' := [.sl 2 (([] : List Mov).map Mov.pv) (some (nilTok 2 235))]) (.cons (Wk.nilTok 2 235) .nil))) (told_c r sp) (WkT.refl _) ?_
  rintro _ _ ⟨b1, b2, rfl, rfl⟩
  conv => whnf
  repeat ((first|((first|(apply zY;intro hg)|apply zZ);first|exact stA|exact stB|exact stC)|(refine zW ?_ ?_;exact gA)|refine zH rfl ?_|refine zA ?_|refine zI bA ?_|refine zI rfl ?_|refine sB ?_|(refine zO ?_ ?_ ?_;omega;omega)|(refine zP ?_ ?_ ?_;omega;omega)|refine zM rfl ?_|(refine zQ ?_ ?_ ?_;omega;omega)|(refine zR ?_ ?_;omega)|(refine zI ?_ ?_;exact nA)|refine sS ?_|refine sF ?_|refine n0 ?_|refine sD ?_|intro _);conv=>whnf)
  refine PRange.go ((movL (2 * l.length + 1) sp (leftL l 0)).map fun m => [movP m]) (fun s : Tok × List Mov => [.box bo [.sl 2 (s.2.map Mov.pv) (some s.1)], .tok s.1]) (fun k s => s.1.e = 235 ∧ s.2 = (movL (2 * l.length + 1) sp (leftL l 0)).take k) (fun _ _ => False) (nilTok 2 235, []) (told1_c b1 b2 r (2 * l.length + 1) sp (leftL l 0) (by rw [leftL_len]; omega) (by rw [leftL_len]; omega) (by have := meas_le (leftL l 0); rw [leftL_len] at this; exact this) (by omega)) ⟨rfl, rfl⟩
   (hp := (inferInstance : PickL _ [.box bo [.sl 2 (([] : List Mov).map Mov.pv) (some (nilTok 2 235))], .tok (nilTok 2 235), .box b1 [.mp r], .box b2 [.int .i64 sp], mvE r (leftL l 0)] _)) (by intro ys hy; obtain ⟨m, _, rfl⟩ := List.mem_map.1 hy; rfl) ?_ ?_ (fun _ _ _ h => h.elim)
  ·rintro k ys ⟨tk, ms⟩ hk ⟨k1, k2⟩
   dsimp only at k1 k2 ⊢
   generalize hML : movL (2 * l.length + 1) sp (leftL l 0) = ML at *
   have hmll : ML.length ≤ 2 * l.length + 1 := by rw [← hML]; exact movL_len ..
   obtain ⟨m, hm, rfl⟩ : ∃ m, ML[k]? = some m ∧ ys = [movP m] := by
    rw [List.getElem?_map] at hk
    cases h : ML[k]? with
    | none => rw [h] at hk; cases hk
    | some m => rw [h] at hk; cases hk; exact ⟨m, rfl, rfl⟩
   obtain ⟨hlt, hmg⟩ := List.getElem?_eq_some_iff.1 hm
   have hst : ML.take (k + 1) = ms ++ [m] := by rw [List.take_succ_eq_append_getElem hlt, hmg, ← k2]
   have hll : ms.length ≤ 2001 := by
    rw [k2, List.length_take]; omega
   conv => whnf
   repeat' (first|((first|((first|(apply zY;intro hg)|apply zZ);first|exact stA|exact stB|exact stC)|(refine zW ?_ ?_;exact gA)|refine zH rfl ?_|refine zA ?_|refine zI bA ?_|refine zI rfl ?_|refine sB ?_|(refine zO ?_ ?_ ?_;omega;omega)|(refine zP ?_ ?_ ?_;omega;omega)|refine zM rfl ?_|(refine zQ ?_ ?_ ?_;omega;omega)|(refine zR ?_ ?_;omega)|(refine zI ?_ ?_;exact nA)|refine sS ?_|refine sF ?_|refine n0 ?_|refine sD ?_|intro _|refine zG ?_);conv=>whnf)|(refine zX (fun hc => ?_) (fun hc => ?_)<;>(try simp only [SY] at hc)<;>first|omega|(conv=>whnf)))
   refine ⟨rfl, ?_⟩
   conv => whnf
   repeat' (first|((first|((first|(apply zY;intro hg)|apply zZ);first|exact stA|exact stB|exact stC)|(refine zW ?_ ?_;exact gA)|refine zH rfl ?_|refine zA ?_|refine zI bA ?_|refine zI rfl ?_|refine sB ?_|(refine zO ?_ ?_ ?_;omega;omega)|(refine zP ?_ ?_ ?_;omega;omega)|refine zM rfl ?_|(refine zQ ?_ ?_ ?_;omega;omega)|(refine zR ?_ ?_;omega)|(refine zI ?_ ?_;exact nA)|refine sS ?_|refine sF ?_|refine n0 ?_|refine sD ?_|intro _|refine zG ?_);conv=>whnf)|(refine zX (fun hc => ?_) (fun hc => ?_)<;>(try simp only [SY] at hc)<;>first|omega|(conv=>whnf)))
   rename_i t3 ht3
   exact roundEnd (k := k) (G := fun s : Tok × List Mov => [.box bo [.sl 2 (s.2.map Mov.pv) (some s.1)], .tok s.1]) (I := fun k s => s.1.e = 235 ∧ s.2 = ML.take k) (X := fun _ _ => False) (t3, ms ++ [m]) ⟨ht3, hst.symm⟩
  ·rintro bd ⟨tk, ms⟩ ⟨k1, k2⟩
   dsimp only at k1 k2 ⊢
   rw [List.length_map, List.take_length] at k2
   subst k2
   conv => whnf
   repeat' (first|((first|((first|(apply zY;intro hg)|apply zZ);first|exact stA|exact stB|exact stC)|(refine zW ?_ ?_;exact gA)|refine zH rfl ?_|refine zA ?_|refine zI bA ?_|refine zI rfl ?_|refine sB ?_|(refine zO ?_ ?_ ?_;omega;omega)|(refine zP ?_ ?_ ?_;omega;omega)|refine zM rfl ?_|(refine zQ ?_ ?_ ?_;omega;omega)|(refine zR ?_ ?_;omega)|(refine zI ?_ ?_;exact nA)|refine sS ?_|refine sF ?_|refine n0 ?_|refine sD ?_|intro _|refine zG ?_);conv=>whnf)|(refine zX (fun hc => ?_) (fun hc => ?_)<;>(try simp only [SY] at hc)<;>first|omega|(conv=>whnf)))
   refine PMark.at_ rfl ?_
   conv => whnf
   exact PRet.pure (Wk.tup (.cons (Wk.tok _ _ _) (.cons (Wk.refl _) .nil)))
end Go.Cb
namespace Go.Cb
open Go.Proofs
set_option maxRecDepth 100000
set_option maxHeartbeats 4000000
theorem ACall.weak {P : Program} {f : FuncId} {args args' : List PV} {Γ Γ' : List Ent} {Q : PV → List Ent → Prop} (hg : Weak args Γ args' Γ') (h : ACall P f args' Γ' Q) : ACall P f args Γ Q :=
 ⟨h.1, fun w0 F M w vs hS hT => by
  obtain ⟨F1, a1, a2, a3⟩ := hg w0 F M w vs hS hT
  refine (h.2 w0 F1 M w vs a2 a3).mono ?_
  rintro e w' ⟨v, F', y, Γ2, e1, e2, e3⟩
  exact ⟨v, F', y, Γ2, e1, Fz.le_trans a1 e2, e3⟩⟩
theorem PCall.goFz {P : Program} {f : FuncId} {args args' : List PV} {Γ Γ0 Γ1 Γ2 : List Ent} {Q K : PV → List Ent → Prop} (t : Tok) (es : List PV) [hp : PickE Γ (.row t es) Γ0] (hw : WkFT t es args args') (h : ACall P f args' Γ1 Q) [hq : PickL (.tok t :: Γ0) Γ1 Γ2]
  (k : ∀ y Γ1', Q y Γ1' → appE Γ1' Γ2 fun Γ' => K y Γ') : PCall P f args Γ K :=
 ⟨.inl (ACall.weak (Weak.freezeRow (hp := hp) hw) ((h.frame hq.p).mono fun y Γ' ⟨Γ1', e, hq⟩ => by have := k y Γ1' hq; rw [appE_eq] at this; rw [e]; exact this))⟩
def movI (m : Mov) : Ins := ⟨1, m.to, m.frm, 0, []⟩
def movW (ms : List Mov) : List Int := ms.flatMap fun m => insW (movI m) []
def upTo (n : Nat) : List Int := (List.range n).map Int.ofNat
def endI (x : Ins) : Ins := ⟨x.op, x.d, if x.op = 19 then x.l.length else x.a, if x.op = 20 then x.l.length else x.b, upTo x.l.length⟩
theorem movW_len (ms : List Mov) : (movW ms).length = 6 * ms.length := by
 induction ms with
 | nil => rfl
 | cons m ms ih => rw [movW, List.flatMap_cons, ← movW, List.length_append, ih, List.length_cons]; simp [insW, movI]; omega
theorem call_c (ms : List Mov) (e sp : Int) (x : Ins) (al : List Int) (hxl : x.l.length ≤ 1000000)
  (hO : ACallP Tryz.prog 185 [slI (takF x), .int .i64 sp] (.tup [.sl 2 (ms.map Mov.pv) none, .int .i64 e])) : CwOk sp x al (movW ms ++ insW (endI x) al) := by
 intro b out t ht hl
 have hml := movW_len ms
 have hul : (upTo x.l.length).length = x.l.length := by simp [upTo]
 have hel : (insW (endI x) al).length = 6 + x.l.length + al.length := by simp [insW, endI, hul]; omega
 rw [List.length_append, hml, hel] at hl
 have htl := takF_len x
 refine ACall.of_body tt_ok Tryz.func163 rfl rfl (n := 69) rfl rfl ?_
 conv => whnf
 repeat' (first|((first|((first|(apply zY;intro hg)|apply zZ);first|exact stA|exact stB|((conv=>whnf);(repeat ((first|(refine zW ?_ ?_;exact gA)|refine pC (takes_c x (by omega)) wR ?_|refine pC (hO) wR ?_|refine zA ?_|refine zH rfl ?_|refine zB ?_|refine sG ?_|intro _);conv=>whnf));first|exact pS|exact pL|exact pE))|(refine zW ?_ ?_;exact gA)|refine zH rfl ?_|refine zA ?_|refine zI bA ?_|refine zI rfl ?_|refine sB ?_|(refine zO ?_ ?_ ?_;omega;omega)|(refine zP ?_ ?_ ?_;omega;omega)|refine zM rfl ?_|(refine zQ ?_ ?_ ?_;omega;omega)|(refine zR ?_ ?_;omega)|(refine zI ?_ ?_;exact nA)|refine sS ?_|refine pC (takes_c x (by omega)) wR ?_|refine pC (hO) wR ?_|refine sF ?_|refine n0 ?_|refine sD ?_|intro _|refine zG ?_);conv=>whnf)|(refine zX (fun hc => ?_) (fun hc => ?_)<;>(try simp only [SY] at hc)<;>first|omega|(conv=>whnf)))
 rename_i b5 _
 refine PLoop.over [11, 22, 23, 24, 25, 26, 27, 28, 29, 30, 31, 32, 33] (fun x : Nat × List Int × Tok => [(22, .int .i64 x.1)]) (fun y => .box b5 [.int .i64 x.op, .int .i64 x.d, .int .i64 x.a, .int .i64 x.b, slI x.l] :: wrE b y.2.1 y.2.2)
  (fun y => y.1 ≤ ms.length ∧ y.2.2.e = 3 ∧ y.2.1 ++ movW (ms.drop y.1) = out ++ movW ms) (fun y => ms.length - y.1) (0, out, t) ⟨Nat.zero_le _, ht, rfl⟩ wA ?_
 rintro ⟨i, o, t1⟩ ⟨hi, ht1, ho⟩
 dsimp only at hi ht1 ho ⊢
 have hol := congrArg List.length ho
 simp only [List.length_append, movW_len, List.length_drop] at hol
 conv => whnf
 repeat' (first|((first|((first|(apply zY;intro hg)|apply zZ);first|exact stA|exact stB|((conv=>whnf);(repeat ((first|(refine zW ?_ ?_;exact gA)|refine pC (takes_c x (by omega)) wR ?_|refine pC (hO) wR ?_|refine zA ?_|refine zH rfl ?_|refine zB ?_|refine sG ?_|intro _);conv=>whnf));first|exact pS|exact pL|exact pE))|(refine zW ?_ ?_;exact gA)|refine zH rfl ?_|refine zA ?_|refine zI bA ?_|refine zI rfl ?_|refine sB ?_|(refine zO ?_ ?_ ?_;omega;omega)|(refine zP ?_ ?_ ?_;omega;omega)|refine zM rfl ?_|(refine zQ ?_ ?_ ?_;omega;omega)|(refine zR ?_ ?_;omega)|(refine zI ?_ ?_;exact nA)|refine sS ?_|refine pC (takes_c x (by omega)) wR ?_|refine pC (hO) wR ?_|refine sF ?_|refine n0 ?_|refine sD ?_|intro _|refine zG ?_);conv=>whnf)|(refine zX (fun hc => ?_) (fun hc => ?_)<;>(try simp only [SY] at hc)<;>first|omega|(conv=>whnf)))
 ·have hlt : i < ms.length := by omega
  rw [drop_at hlt, movW, List.flatMap_cons, ← movW] at ho
  refine PCall.go (insw_c b o t1 (movI ms[i]) [] ht1 (by show o.length + 0 + 0 ≤ _; omega)) (.cons (Wk.refl _) (.cons (Wk.agg (.cons (Wk.refl _) (.cons (Wk.refl _) (.cons (Wk.refl _) (.cons (Wk.refl _) (.cons (Wk.nil' rfl) .nil)))))) (.cons slI_nil .nil))) ?_
  rintro _ _ ⟨t2, ht2, rfl, rfl⟩
  conv => whnf
  repeat' (first|((first|((first|(apply zY;intro hg)|apply zZ);first|exact stA|exact stB|((conv=>whnf);(repeat ((first|(refine zW ?_ ?_;exact gA)|refine pC (takes_c x (by omega)) wR ?_|refine pC (hO) wR ?_|refine zA ?_|refine zH rfl ?_|refine zB ?_|refine sG ?_|intro _);conv=>whnf));first|exact pS|exact pL|exact pE))|(refine zW ?_ ?_;exact gA)|refine zH rfl ?_|refine zA ?_|refine zI bA ?_|refine zI rfl ?_|refine sB ?_|(refine zO ?_ ?_ ?_;omega;omega)|(refine zP ?_ ?_ ?_;omega;omega)|refine zM rfl ?_|(refine zQ ?_ ?_ ?_;omega;omega)|(refine zR ?_ ?_;omega)|(refine zI ?_ ?_;exact nA)|refine sS ?_|refine pC (takes_c x (by omega)) wR ?_|refine pC (hO) wR ?_|refine sF ?_|refine n0 ?_|refine sD ?_|intro _|refine zG ?_);conv=>whnf)|(refine zX (fun hc => ?_) (fun hc => ?_)<;>(try simp only [SY] at hc)<;>first|omega|(conv=>whnf)))
  exact loopTo (i + 1, o ++ insW (movI ms[i]) [], t2) ⟨by show i + 1 ≤ _; omega, ht2, by dsimp only; rw [List.append_assoc]; exact ho⟩ (by show ms.length - (i + 1) < ms.length - i; omega) wA
 rw [List.drop_of_length_le (by omega), show movW [] = [] from rfl, List.append_nil] at ho
 subst ho
 refine PMake.row (by omega) (by omega) (by omega) (by show _ * 8 ≤ _; omega) rfl fun ts hte hts => ?_
 rw [Int.toNat_natCast, show List.replicate x.l.length (PV.int .i64 0) = (List.replicate x.l.length (0 : Int)).map (PV.int .i64) by rw [List.map_replicate]]
 have hrp0 : (List.replicate x.l.length (0 : Int)).length = x.l.length := List.length_replicate ..
 conv => whnf
 repeat' (first|((first|((first|(apply zY;intro hg)|apply zZ);first|exact stA|exact stB|((conv=>whnf);(repeat ((first|(refine zW ?_ ?_;exact gA)|refine pC (takes_c x (by omega)) wR ?_|refine pC (hO) wR ?_|refine zA ?_|refine zH rfl ?_|refine zB ?_|refine sG ?_|intro _);conv=>whnf));first|exact pS|exact pL|exact pE))|(refine zW ?_ ?_;exact gA)|refine zH rfl ?_|refine zA ?_|refine zI bA ?_|refine zI rfl ?_|refine sB ?_|(refine zO ?_ ?_ ?_;omega;omega)|(refine zP ?_ ?_ ?_;omega;omega)|refine zM rfl ?_|(refine zQ ?_ ?_ ?_;omega;omega)|(refine zR ?_ ?_;omega)|(refine zI ?_ ?_;exact nA)|refine sS ?_|refine pC (takes_c x (by omega)) wR ?_|refine pC (hO) wR ?_|refine sF ?_|refine n0 ?_|refine sD ?_|intro _|refine zG ?_);conv=>whnf)|(refine zX (fun hc => ?_) (fun hc => ?_)<;>(try simp only [SY] at hc)<;>first|omega|(conv=>whnf)))
 refine PLenM.map fun _ => ?_
 conv => whnf
 repeat' (first|((first|((first|(apply zY;intro hg)|apply zZ);first|exact stA|exact stB|((conv=>whnf);(repeat ((first|(refine zW ?_ ?_;exact gA)|refine pC (takes_c x (by omega)) wR ?_|refine pC (hO) wR ?_|refine zA ?_|refine zH rfl ?_|refine zB ?_|refine sG ?_|intro _);conv=>whnf));first|exact pS|exact pL|exact pE))|(refine zW ?_ ?_;exact gA)|refine zH rfl ?_|refine zA ?_|refine zI bA ?_|refine zI rfl ?_|refine sB ?_|(refine zO ?_ ?_ ?_;omega;omega)|(refine zP ?_ ?_ ?_;omega;omega)|refine zM rfl ?_|(refine zQ ?_ ?_ ?_;omega;omega)|(refine zR ?_ ?_;omega)|(refine zI ?_ ?_;exact nA)|refine sS ?_|refine pC (takes_c x (by omega)) wR ?_|refine pC (hO) wR ?_|refine sF ?_|refine n0 ?_|refine sD ?_|intro _|refine zG ?_);conv=>whnf)|(refine zX (fun hc => ?_) (fun hc => ?_)<;>(try simp only [SY] at hc)<;>first|omega|(conv=>whnf)))
 refine PLoop.over [12, 42, 43, 44, 45, 46, 47, 48, 49, 50] (fun y : Nat × List Int => [(42, .int .i64 y.1)]) (fun y => .row ts (y.2.map (PV.int .i64)) :: .box b5 [.int .i64 x.op, .int .i64 x.d, .int .i64 x.a, .int .i64 x.b, .ms ts] :: wrE b (out ++ movW ms) t1)
  (fun y => y.1 ≤ x.l.length ∧ y.2 = upTo y.1 ++ List.replicate (x.l.length - y.1) (0 : Int)) (fun y => x.l.length - y.1) (0, List.replicate x.l.length 0) ⟨Nat.zero_le _, by simp [upTo]⟩ wA ?_
 rintro ⟨j, r⟩ ⟨hj, hr⟩
 dsimp only at hj hr ⊢
 have hrl : r.length = x.l.length := by rw [hr]; simp [upTo]; omega
 have hrp : (List.replicate x.l.length (0 : Int)).length = x.l.length := List.length_replicate ..
 conv => whnf
 repeat' (first|((first|((first|(apply zY;intro hg)|apply zZ);first|exact stA|exact stB|((conv=>whnf);(repeat ((first|(refine zW ?_ ?_;exact gA)|refine pC (takes_c x (by omega)) wR ?_|refine pC (hO) wR ?_|refine zA ?_|refine zH rfl ?_|refine zB ?_|refine sG ?_|intro _);conv=>whnf));first|exact pS|exact pL|exact pE))|(refine zW ?_ ?_;exact gA)|refine zH rfl ?_|refine zA ?_|refine zI bA ?_|refine zI rfl ?_|refine sB ?_|(refine zO ?_ ?_ ?_;omega;omega)|(refine zP ?_ ?_ ?_;omega;omega)|refine zM rfl ?_|(refine zQ ?_ ?_ ?_;omega;omega)|(refine zR ?_ ?_;omega)|(refine zI ?_ ?_;exact nA)|refine sS ?_|refine pC (takes_c x (by omega)) wR ?_|refine pC (hO) wR ?_|refine sF ?_|refine n0 ?_|refine sD ?_|intro _|refine zG ?_);conv=>whnf)|(refine zX (fun hc => ?_) (fun hc => ?_)<;>(try simp only [SY] at hc)<;>first|omega|(conv=>whnf)))
 ·have hjl : j < r.length := by omega
  have hs2 : r.set j (j : Int) = upTo (j + 1) ++ List.replicate (x.l.length - (j + 1)) (0 : Int) := by
   rw [hr, List.set_append_right _ _ (by simp [upTo]), show (upTo j).length = j by simp [upTo], Nat.sub_self, show x.l.length - j = (x.l.length - (j + 1)) + 1 by omega, List.replicate_succ, List.set_cons_zero]
   simp [upTo, List.range_succ]
  conv => whnf
  repeat' (first|((first|((first|(apply zY;intro hg)|apply zZ);first|exact stA|exact stB|((conv=>whnf);(repeat ((first|(refine zW ?_ ?_;exact gA)|refine pC (takes_c x (by omega)) wR ?_|refine pC (hO) wR ?_|refine zA ?_|refine zH rfl ?_|refine zB ?_|refine sG ?_|intro _);conv=>whnf));first|exact pS|exact pL|exact pE))|(refine zW ?_ ?_;exact gA)|refine zH rfl ?_|refine zA ?_|refine zI bA ?_|refine zI rfl ?_|refine sB ?_|(refine zO ?_ ?_ ?_;omega;omega)|(refine zP ?_ ?_ ?_;omega;omega)|refine zM rfl ?_|(refine zQ ?_ ?_ ?_;omega;omega)|(refine zR ?_ ?_;omega)|(refine zI ?_ ?_;exact nA)|refine sS ?_|refine pC (takes_c x (by omega)) wR ?_|refine pC (hO) wR ?_|refine sF ?_|refine n0 ?_|refine sD ?_|intro _|refine zG ?_);conv=>whnf)|(refine zX (fun hc => ?_) (fun hc => ?_)<;>(try simp only [SY] at hc)<;>first|omega|(conv=>whnf)))
  exact loopTo (j + 1, r.set j (j : Int)) ⟨by show j + 1 ≤ _; omega, hs2⟩ (by show x.l.length - (j + 1) < x.l.length - j; omega) wA
 ·have hop := hc
  have hj2 : j = x.l.length := by omega
  subst hj2
  rw [Nat.sub_self, List.replicate_zero, List.append_nil] at hr
  have hE : endI x = ⟨x.op, x.d, x.l.length, x.b, upTo x.l.length⟩ := by unfold endI; rw [if_pos hop, if_neg (by omega)]
  rw [hE, ← hr]
  refine PLenM.map fun _ => ?_
  conv => whnf
  repeat' (first|((first|((first|(apply zY;intro hg)|apply zZ);first|exact stA|exact stB|((conv=>whnf);(repeat ((first|(refine zW ?_ ?_;exact gA)|refine pC (takes_c x (by omega)) wR ?_|refine pC (hO) wR ?_|refine zA ?_|refine zH rfl ?_|refine zB ?_|refine sG ?_|intro _);conv=>whnf));first|exact pS|exact pL|exact pE))|(refine zW ?_ ?_;exact gA)|refine zH rfl ?_|refine zA ?_|refine zI bA ?_|refine zI rfl ?_|refine sB ?_|(refine zO ?_ ?_ ?_;omega;omega)|(refine zP ?_ ?_ ?_;omega;omega)|refine zM rfl ?_|(refine zQ ?_ ?_ ?_;omega;omega)|(refine zR ?_ ?_;omega)|(refine zI ?_ ?_;exact nA)|refine sS ?_|refine pC (takes_c x (by omega)) wR ?_|refine pC (hO) wR ?_|refine sF ?_|refine n0 ?_|refine sD ?_|intro _|refine zG ?_);conv=>whnf)|(refine zX (fun hc => ?_) (fun hc => ?_)<;>(try simp only [SY] at hc)<;>first|omega|(conv=>whnf)))
  refine PCall.goFz ts (r.map (PV.int .i64)) (args' := [.ptr b 0, .agg (⟨x.op, x.d, x.l.length, x.b, r⟩ : Ins).cells, slI al]) (.cons (WkF.of (Wk.refl _)) (.cons (WkF.agg (.cons (WkF.of (Wk.refl _)) (.cons (WkF.of (Wk.refl _)) (.cons (WkF.of (Wk.int (by show (r.length : Int) = x.l.length; omega))) (.cons (WkF.of (Wk.refl _)) (.cons (WkF.ms' hts) .nil)))))) (.cons (WkF.of (Wk.refl _)) .nil)))
   (insw_c b (out ++ movW ms) t1 (⟨x.op, x.d, x.l.length, x.b, r⟩) al ht1 (by show (out ++ movW ms).length + r.length + _ ≤ _; rw [List.length_append, hml]; omega)) ?_
  rintro _ _ ⟨t2, ht2, rfl, rfl⟩
  rw [List.append_assoc]
  conv => whnf
  repeat' (first|((first|((first|(apply zY;intro hg)|apply zZ);first|exact stA|exact stB|((conv=>whnf);(repeat ((first|(refine zW ?_ ?_;exact gA)|refine pC (takes_c x (by omega)) wR ?_|refine pC (hO) wR ?_|refine zA ?_|refine zH rfl ?_|refine zB ?_|refine sG ?_|intro _);conv=>whnf));first|exact pS|exact pL|exact pE))|(refine zW ?_ ?_;exact gA)|refine zH rfl ?_|refine zA ?_|refine zI bA ?_|refine zI rfl ?_|refine sB ?_|(refine zO ?_ ?_ ?_;omega;omega)|(refine zP ?_ ?_ ?_;omega;omega)|refine zM rfl ?_|(refine zQ ?_ ?_ ?_;omega;omega)|(refine zR ?_ ?_;omega)|(refine zI ?_ ?_;exact nA)|refine sS ?_|refine pC (takes_c x (by omega)) wR ?_|refine pC (hO) wR ?_|refine sF ?_|refine n0 ?_|refine sD ?_|intro _|refine zG ?_);conv=>whnf)|(refine zX (fun hc => ?_) (fun hc => ?_)<;>(try simp only [SY] at hc)<;>first|omega|(conv=>whnf)))
  exact PRet.gen (y := .tup []) (Γ' := wrE b (out ++ (movW ms ++ insW (⟨x.op, x.d, x.l.length, x.b, r⟩) al)) t2) (Wk.refl _) ⟨t2, ht2, rfl, rfl⟩
 ·have hop := hc
  have hj2 : j = x.l.length := by omega
  subst hj2
  rw [Nat.sub_self, List.replicate_zero, List.append_nil] at hr
  have hE : endI x = ⟨x.op, x.d, x.a, x.l.length, upTo x.l.length⟩ := by unfold endI; rw [if_neg (by omega), if_pos hop]
  rw [hE, ← hr]
  refine PLenM.map fun _ => ?_
  conv => whnf
  repeat' (first|((first|((first|(apply zY;intro hg)|apply zZ);first|exact stA|exact stB|((conv=>whnf);(repeat ((first|(refine zW ?_ ?_;exact gA)|refine pC (takes_c x (by omega)) wR ?_|refine pC (hO) wR ?_|refine zA ?_|refine zH rfl ?_|refine zB ?_|refine sG ?_|intro _);conv=>whnf));first|exact pS|exact pL|exact pE))|(refine zW ?_ ?_;exact gA)|refine zH rfl ?_|refine zA ?_|refine zI bA ?_|refine zI rfl ?_|refine sB ?_|(refine zO ?_ ?_ ?_;omega;omega)|(refine zP ?_ ?_ ?_;omega;omega)|refine zM rfl ?_|(refine zQ ?_ ?_ ?_;omega;omega)|(refine zR ?_ ?_;omega)|(refine zI ?_ ?_;exact nA)|refine sS ?_|refine pC (takes_c x (by omega)) wR ?_|refine pC (hO) wR ?_|refine sF ?_|refine n0 ?_|refine sD ?_|intro _|refine zG ?_);conv=>whnf)|(refine zX (fun hc => ?_) (fun hc => ?_)<;>(try simp only [SY] at hc)<;>first|omega|(conv=>whnf)))
  refine PCall.goFz ts (r.map (PV.int .i64)) (args' := [.ptr b 0, .agg (⟨x.op, x.d, x.a, x.l.length, r⟩ : Ins).cells, slI al]) (.cons (WkF.of (Wk.refl _)) (.cons (WkF.agg (.cons (WkF.of (Wk.refl _)) (.cons (WkF.of (Wk.refl _)) (.cons (WkF.of (Wk.refl _)) (.cons (WkF.of (Wk.int (by show (r.length : Int) = x.l.length; omega))) (.cons (WkF.ms' hts) .nil)))))) (.cons (WkF.of (Wk.refl _)) .nil)))
   (insw_c b (out ++ movW ms) t1 (⟨x.op, x.d, x.a, x.l.length, r⟩) al ht1 (by show (out ++ movW ms).length + r.length + _ ≤ _; rw [List.length_append, hml]; omega)) ?_
  rintro _ _ ⟨t2, ht2, rfl, rfl⟩
  rw [List.append_assoc]
  conv => whnf
  repeat' (first|((first|((first|(apply zY;intro hg)|apply zZ);first|exact stA|exact stB|((conv=>whnf);(repeat ((first|(refine zW ?_ ?_;exact gA)|refine pC (takes_c x (by omega)) wR ?_|refine pC (hO) wR ?_|refine zA ?_|refine zH rfl ?_|refine zB ?_|refine sG ?_|intro _);conv=>whnf));first|exact pS|exact pL|exact pE))|(refine zW ?_ ?_;exact gA)|refine zH rfl ?_|refine zA ?_|refine zI bA ?_|refine zI rfl ?_|refine sB ?_|(refine zO ?_ ?_ ?_;omega;omega)|(refine zP ?_ ?_ ?_;omega;omega)|refine zM rfl ?_|(refine zQ ?_ ?_ ?_;omega;omega)|(refine zR ?_ ?_;omega)|(refine zI ?_ ?_;exact nA)|refine sS ?_|refine pC (takes_c x (by omega)) wR ?_|refine pC (hO) wR ?_|refine sF ?_|refine n0 ?_|refine sD ?_|intro _|refine zG ?_);conv=>whnf)|(refine zX (fun hc => ?_) (fun hc => ?_)<;>(try simp only [SY] at hc)<;>first|omega|(conv=>whnf)))
  exact PRet.gen (y := .tup []) (Γ' := wrE b (out ++ (movW ms ++ insW (⟨x.op, x.d, x.a, x.l.length, r⟩) al)) t2) (Wk.refl _) ⟨t2, ht2, rfl, rfl⟩
 ·have hop := hc
  have hj2 : j = x.l.length := by omega
  subst hj2
  rw [Nat.sub_self, List.replicate_zero, List.append_nil] at hr
  have hE : endI x = ⟨x.op, x.d, x.a, x.b, upTo x.l.length⟩ := by unfold endI; rw [if_neg (by omega), if_neg (by omega)]
  rw [hE, ← hr]
  refine PCall.goFz ts (r.map (PV.int .i64)) (args' := [.ptr b 0, .agg (⟨x.op, x.d, x.a, x.b, r⟩ : Ins).cells, slI al]) (.cons (WkF.of (Wk.refl _)) (.cons (WkF.agg (.cons (WkF.of (Wk.refl _)) (.cons (WkF.of (Wk.refl _)) (.cons (WkF.of (Wk.refl _)) (.cons (WkF.of (Wk.refl _)) (.cons (WkF.ms' hts) .nil)))))) (.cons (WkF.of (Wk.refl _)) .nil)))
   (insw_c b (out ++ movW ms) t1 (⟨x.op, x.d, x.a, x.b, r⟩) al ht1 (by show (out ++ movW ms).length + r.length + _ ≤ _; rw [List.length_append, hml]; omega)) ?_
  rintro _ _ ⟨t2, ht2, rfl, rfl⟩
  rw [List.append_assoc]
  conv => whnf
  repeat' (first|((first|((first|(apply zY;intro hg)|apply zZ);first|exact stA|exact stB|((conv=>whnf);(repeat ((first|(refine zW ?_ ?_;exact gA)|refine pC (takes_c x (by omega)) wR ?_|refine pC (hO) wR ?_|refine zA ?_|refine zH rfl ?_|refine zB ?_|refine sG ?_|intro _);conv=>whnf));first|exact pS|exact pL|exact pE))|(refine zW ?_ ?_;exact gA)|refine zH rfl ?_|refine zA ?_|refine zI bA ?_|refine zI rfl ?_|refine sB ?_|(refine zO ?_ ?_ ?_;omega;omega)|(refine zP ?_ ?_ ?_;omega;omega)|refine zM rfl ?_|(refine zQ ?_ ?_ ?_;omega;omega)|(refine zR ?_ ?_;omega)|(refine zI ?_ ?_;exact nA)|refine sS ?_|refine pC (takes_c x (by omega)) wR ?_|refine pC (hO) wR ?_|refine sF ?_|refine n0 ?_|refine sD ?_|intro _|refine zG ?_);conv=>whnf)|(refine zX (fun hc => ?_) (fun hc => ?_)<;>(try simp only [SY] at hc)<;>first|omega|(conv=>whnf)))
  exact PRet.gen (y := .tup []) (Γ' := wrE b (out ++ (movW ms ++ insW (⟨x.op, x.d, x.a, x.b, r⟩) al)) t2) (Wk.refl _) ⟨t2, ht2, rfl, rfl⟩
end Go.Cb
namespace Go.Cb
open Go.Proofs
set_option maxRecDepth 100000
set_option maxHeartbeats 4000000
def cwM : CwF := fun sp x al => movW (ordF (takF x) sp).1 ++ insW (endI x) al
theorem chksU_mem (u : Unt) : ∀ (ps : List Prc) (all : Int), chksU u ps all = true → ∀ p ∈ ps, headB p = false ∧ endB p = false ∧ ∀ x ∈ p.code, fitB x p u = true
 | [], _, _, _, h => by cases h
 | q :: ps, all, hc, p, hp => by
  rw [chksU] at hc
  split at hc
  ·cases hc
  rename_i h1
  split at hc
  ·cases hc
  rename_i h2
  split at hc
  ·cases hc
  rename_i h3
  rcases List.mem_cons.1 hp with rfl | hp
  ·refine ⟨by simpa using h1, ?_, fun x hx => ?_⟩
   ·rw [Bool.or_eq_true, not_or] at h2
    simpa using h2.2
   ·rw [Bool.not_eq_true, List.any_eq_false] at h3
    simpa using h3 x hx
  ·exact chksU_mem u ps _ hc p hp
theorem illB_no {u : Unt} (h : illB u = false) : ∀ p ∈ u.procs, headB p = false ∧ endB p = false ∧ (∀ x ∈ p.code, fitB x p u = true) ∧ fitsE p = true := by
 unfold illB at h
 rw [Bool.or_eq_false_iff] at h
 have h0 : chkU u = 0 := by simpa using h.1
 have h1 : chksU u u.procs 0 = true := by
  unfold chkU at h0
  split at h0
  ·cases h0
  ·split at h0
   ·assumption
   ·cases h0
 intro p hp
 obtain ⟨a, b, c⟩ := chksU_mem u u.procs 0 h1 p hp
 refine ⟨a, b, c, ?_⟩
 have := List.any_eq_false.1 h.2 p hp
 simpa using this
theorem risB_len (regs : Int) : ∀ (l : List Int) (last : Int), risB regs l last = true → (l.length : Int) ≤ max 0 (regs - last - 1)
 | [], _, _ => by simp; omega
 | s :: l, last, h => by
  rw [risB] at h
  split at h
  ·cases h
  ·rename_i hc
   simp only [Bool.or_eq_true, decide_eq_true_eq, not_or] at hc
   have := risB_len regs l s h
   rw [List.length_cons]
   omega
theorem alvB_mem (regs : Int) : ∀ (c : List Ins) (al : List (List Int)), al.length = c.length → alvB regs c al = true → ∀ a ∈ al, risB regs a (-1) = true
 | x :: c, a :: al, hl, h, b, hb => by
  rw [alvB] at h
  split at h
  ·cases h
  ·split at h
   ·rename_i h2
    rcases List.mem_cons.1 hb with rfl | hb
    ·exact h2
    ·exact alvB_mem regs c al (by simpa using hl) h b hb
   ·cases h
 | [], [], _, _, b, hb => by cases hb
 | [], _ :: _, hl, _, _, _ => by simp at hl
 | _ :: _, [], hl, _, _, _ => by simp at hl
theorem insW_len (x : Ins) (al : List Int) : (insW x al).length = 6 + x.l.length + al.length := by
 simp [insW]; omega
theorem upTo_len (n : Nat) : (upTo n).length = n := by simp [upTo]
theorem ordF_len (l : List Int) (sp : Int) : (ordF l sp).1.length ≤ 2 * l.length + 1 := by
 unfold ordF
 split
 ·simp
 ·exact movL_len ..
theorem cwM_len (sp : Int) (x : Ins) (al : List Int) : (cwM sp x al).length ≤ 24 + 13 * x.l.length + al.length := by
 unfold cwM
 rw [List.length_append, movW_len, insW_len]
 have h1 := ordF_len (takF x) sp
 have h2 := takF_len x
 have h3 : (endI x).l.length = x.l.length := upTo_len _
 omega
theorem allW_len (cw : Ins → List Int → List Int) (f : Ins → Ins) (B : Nat) : ∀ (c : List Ins) (al : List (List Int)), (∀ x ∈ c, ∀ a ∈ al, (oneW cw (f x) a).length ≤ B) → (allW cw f c al).length ≤ c.length * B
 | x :: c, a :: al, h => by
  rw [allW, List.length_append, List.length_cons, Nat.succ_mul]
  have h1 := h x (by simp) a (by simp)
  have h2 := allW_len cw f B c al fun y hy b hb => h y (by simp [hy]) b (by simp [hb])
  omega
 | [], _, _ => by simp [allW]
 | _ :: _, [], _ => by simp [allW]
def Lim (u : Unt) : Prop := u.procs.length ≤ 30 ∧ ∀ p ∈ u.procs, p.code.length ≤ 200 ∧ ∀ x ∈ p.code, x.l.length ≤ 1000
theorem jmpT_l (pl : List Int) (x : Ins) : (jmpT pl x).l = x.l := by unfold jmpT; split; rfl; split <;> rfl
theorem one_len {sp : Int} {x : Ins} {a : List Int} (hx : x.l.length ≤ 1000) (ha : a.length ≤ 20000) : (oneW (cwM sp) x a).length ≤ 40000 := by
 unfold oneW
 split
 ·have := cwM_len sp x a
  omega
 ·rw [insW_len]; omega
theorem alive_len {u : Unt} (hi : illB u = false) {p : Prc} (hp : p ∈ u.procs) : p.alive.length = p.code.length ∧ 0 < p.code.length ∧ 0 ≤ p.regs ∧ p.regs ≤ 20000 ∧ (∀ a ∈ p.alive, a.length ≤ 20000 ∧ risB p.regs a (-1) = true) ∧ 0 ≤ p.args ∧ p.args ≤ p.regs := by
 obtain ⟨h1, h2, h3, h4⟩ := illB_no hi p hp
 unfold headB at h1
 simp only [Bool.or_eq_false_iff, decide_eq_false_iff_not, beq_eq_false_iff_ne, Bool.and_eq_false_imp] at h1
 unfold fitsE at h4
 split at h4
 ·rename_i hl
  refine ⟨hl, by omega, by omega, by omega, fun a ha => ?_, by omega, by omega⟩
  have h5 := alvB_mem p.regs p.code p.alive hl h4 a ha
  have := risB_len p.regs a (-1) h5
  exact ⟨by omega, h5⟩
 ·cases h4
theorem prcOk {u : Unt} (hi : illB u = false) (hb : Lim u) : ∀ p ∈ u.procs, PrcOk cwM p := by
 intro p hp
 obtain ⟨hl, hn, hr0, hr1, ha, _, _⟩ := alive_len hi hp
 obtain ⟨h1, h2, h3, h4⟩ := illB_no hi p hp
 obtain ⟨hcl, hxl⟩ := hb.2 p hp
 refine ⟨hl, hn, by omega, fun x hx => ?_, fun x hx => by have := hxl x hx; omega, ⟨hr0, hr1⟩, fun x hx hv al => ?_, ?_, ?_⟩
 ·have hf := h3 x hx
  unfold fitB at hf
  rw [Bool.and_eq_true] at hf
  have hf2 := hf.2
  unfold fitN at hf2
  refine ⟨fun e => ?_, fun e => ?_⟩
  ·repeat (first|rw [if_neg (by omega)] at hf2|rw [if_pos (by omega)] at hf2)
   unfold belB at hf2
   rw [Bool.and_eq_true, decide_eq_true_eq, decide_eq_true_eq] at hf2
   omega
  ·repeat (first|rw [if_neg (by omega)] at hf2|rw [if_pos (by omega)] at hf2)
   unfold belB at hf2
   rw [Bool.and_eq_true, decide_eq_true_eq, decide_eq_true_eq] at hf2
   omega
 ·have := hxl x hx
  exact call_c _ _ _ x al (by omega) (order_c (takF x) (spareL p.code p.regs))
 ·have := allW_len (cwM (spareL p.code p.regs)) id 40000 p.code p.alive fun x hx a ha2 => one_len (hxl x hx) (ha a ha2).1
  have h5 : p.code.length * 40000 ≤ 200 * 40000 := Nat.mul_le_mul_right _ hcl
  omega
 ·have := allW_len (cwM (spareL p.code p.regs)) (jmpT (stsP cwM p)) 40000 p.code p.alive fun x hx a ha2 => one_len (by rw [jmpT_l]; exact hxl x hx) (ha a ha2).1
  have h5 : p.code.length * 40000 ≤ 200 * 40000 := Nat.mul_le_mul_right _ hcl
  show (allW _ _ _ _).length ≤ _
  omega
theorem wrd_len {u : Unt} (hi : illB u = false) (hb : Lim u) {p : Prc} (hp : p ∈ u.procs) : (wrdP cwM p).length ≤ 8000000 := by
 obtain ⟨hl, hn, hr0, hr1, ha, _, _⟩ := alive_len hi hp
 obtain ⟨hcl, hxl⟩ := hb.2 p hp
 have := allW_len (cwM (spareL p.code p.regs)) (jmpT (stsP cwM p)) 40000 p.code p.alive fun x hx a ha2 => one_len (by rw [jmpT_l]; exact hxl x hx) (ha a ha2).1
 have h5 : p.code.length * 40000 ≤ 200 * 40000 := Nat.mul_le_mul_right _ hcl
 show (allW _ _ _ _).length ≤ _
 omega
theorem body_len (B : Nat) : ∀ (l : List Prc), (∀ p ∈ l, (wrdP cwM p).length ≤ B) → (bodyW cwM l).length ≤ l.length * (B + 4)
 | [], _ => by simp [bodyW]
 | p :: l, h => by
  have h1 := h p (by simp)
  have h2 := body_len B l fun q hq => h q (by simp [hq])
  have h3 : (procW cwM p).length = 4 + (wrdP cwM p).length := by simp [procW]; omega
  rw [bodyW, List.flatMap_cons, ← bodyW, List.length_append, List.length_cons, Nat.succ_mul, h3]
  omega
theorem bodyZ {u : Unt} (hi : illB u = false) (hb : Lim u) : (bodyW cwM u.procs).length ≤ 900000000 := by
 have := body_len 8000000 u.procs fun p hp => wrd_len hi hb hp
 have h5 : u.procs.length * (8000000 + 4) ≤ 30 * (8000000 + 4) := Nat.mul_le_mul_right _ hb.1
 omega
theorem emitM_c (u : Unt) (hb : Lim u) : ACallP Tryz.prog 24 [.agg u.cells] (emitPV cwM u) := emit_c u cwM (fun hi => prcOk hi hb) (fun hi => bodyZ hi hb)
def fewPs (n : Int) : List Prc → Int → Bool
 | [], _ => true
 | p :: ps, k => if (p.code.length : Int) > n ∨ p.regs > 10 * n then false else if (p.code.any fun x => decide ((x.l.length : Int) > 60)) = true then false else if k + p.code.length > n then false else fewPs n ps (k + p.code.length)
def fewU (u : Unt) (n : Int) : Bool := if u.procs.length > 30 ∨ decide (0 ≤ Datum.fews u.consts 2000) = false then false else fewPs n u.procs 0
theorem fewPs_mem (n : Int) : ∀ (ps : List Prc) (k : Int), fewPs n ps k = true → ∀ p ∈ ps, (p.code.length : Int) ≤ n ∧ p.regs ≤ 10 * n ∧ ∀ x ∈ p.code, x.l.length ≤ 60
 | [], _, _, _, h => by cases h
 | q :: ps, k, hc, p, hp => by
  rw [fewPs] at hc
  split at hc
  ·cases hc
  rename_i h1
  split at hc
  ·cases hc
  rename_i h2
  split at hc
  ·cases hc
  rcases List.mem_cons.1 hp with rfl | hp
  ·refine ⟨by omega, by omega, fun x hx => ?_⟩
   rw [Bool.not_eq_true, List.any_eq_false] at h2
   have := h2 x hx
   simp only [decide_eq_true_eq] at this
   omega
  ·exact fewPs_mem n ps _ hc p hp
theorem fewU_lim {u : Unt} {n : Int} (h : fewU u n = true) (hn : n ≤ 200) : Lim u := by
 unfold fewU at h
 split at h
 ·cases h
 ·rename_i h1
  refine ⟨by omega, fun p hp => ?_⟩
  obtain ⟨a, _, c⟩ := fewPs_mem n _ _ h p hp
  exact ⟨by omega, fun x hx => by have := c x hx; omega⟩
end Go.Cb
namespace Go.Cb
open Go.Proofs
set_option maxRecDepth 100000
set_option maxHeartbeats 4000000
def AtW (l : List Int) (k : Nat) (s : List Int) : Prop := ∃ r, l.drop k = s ++ r
theorem AtW.fst {l : List Int} {k : Nat} {s t : List Int} (h : AtW l k (s ++ t)) : AtW l k s := by
 obtain ⟨r, h⟩ := h
 exact ⟨t ++ r, by rw [h, List.append_assoc]⟩
theorem AtW.snd {l : List Int} {k : Nat} {s t : List Int} (h : AtW l k (s ++ t)) : AtW l (k + s.length) t := by
 obtain ⟨r, h⟩ := h
 exact ⟨r, by rw [← List.drop_drop, h, List.append_assoc, List.drop_left]⟩
theorem AtW.cons {l : List Int} {k : Nat} {a : Int} {s : List Int} (h : AtW l k (a :: s)) : k < l.length ∧ l.getD k 0 = a ∧ AtW l (k + 1) s := by
 obtain ⟨r, h⟩ := h
 have hk : k < l.length := by
  refine Nat.lt_of_not_le fun hk => ?_
  rw [List.drop_of_length_le hk] at h
  cases h
 rw [drop_at hk, List.cons_append, List.cons.injEq] at h
 refine ⟨hk, ?_, ⟨r, h.2⟩⟩
 rw [List.getD_eq_getElem?_getD, List.getElem?_eq_getElem hk]
 exact h.1
theorem AtW.len {l : List Int} {k : Nat} {s : List Int} (h : AtW l k s) (hs : s ≠ []) : k + s.length ≤ l.length := by
 obtain ⟨r, h⟩ := h
 have h2 := congrArg List.length h
 rw [List.length_drop, List.length_append] at h2
 have := List.length_pos_iff.2 hs
 omega
theorem listAt_at {l : List Int} {k : Nat} {s : List Int} (h : AtW l k ((s.length : Int) :: s)) : listAt l k = some (s, k + 1 + s.length) := by
 obtain ⟨h1, h2, r, h4⟩ := h.cons
 have h5 := congrArg List.length h4
 rw [List.length_drop, List.length_append] at h5
 unfold listAt
 rw [if_pos ⟨h1, by omega, by omega⟩, h2, Int.toNat_natCast, h4, List.take_left]
theorem insAt_at {l : List Int} {k : Nat} {x : Ins} {al : List Int} (h : AtW l k (insW x al)) : insAt l k = some (x, al, k + (insW x al).length) := by
 have h0 : insW x al = x.op :: x.d :: x.a :: x.b :: (((x.l.length : Int) :: x.l) ++ ((al.length : Int) :: al)) := rfl
 have hl := h.len (by rw [h0]; simp)
 rw [insW_len] at hl
 rw [h0] at h
 obtain ⟨h1, e1, h⟩ := h.cons
 obtain ⟨h2, e2, h⟩ := h.cons
 obtain ⟨h3, e3, h⟩ := h.cons
 obtain ⟨h4, e4, h⟩ := h.cons
 have q1 := listAt_at h.fst
 have q2 := listAt_at h.snd
 rw [insAt, if_pos (by omega), q1]
 dsimp only
 rw [show k + 4 + 1 + x.l.length = k + 1 + 1 + 1 + 1 + ((x.l.length : Int) :: x.l).length by rw [List.length_cons]; omega, q2]
 dsimp only
 rw [e1, e2, e3, e4, insW_len, List.length_cons]
 rw [show k + 1 + 1 + 1 + 1 + (x.l.length + 1) + 1 + al.length = k + (6 + x.l.length + al.length) by omega]
abbrev InE := Ins × List Int
def wrdE (E : List InE) : List Int := E.flatMap fun q => insW q.1 q.2
def posE : List InE → Nat → List InA
 | [], _ => []
 | q :: E, k => (k, q.1, q.2) :: posE E (k + (insW q.1 q.2).length)
theorem posE_ins : ∀ (E : List InE) (k : Nat), insL (posE E k) = E.map Prod.fst
 | [], _ => rfl
 | q :: E, k => by rw [posE, insL, List.map_cons, ← insL, posE_ins E, List.map_cons]
theorem posE_alv : ∀ (E : List InE) (k : Nat), alvL (posE E k) = E.map Prod.snd
 | [], _ => rfl
 | q :: E, k => by rw [posE, alvL, List.map_cons, ← alvL, posE_alv E, List.map_cons]
theorem wrdE_cons (q : InE) (E : List InE) : wrdE (q :: E) = insW q.1 q.2 ++ wrdE E := by rw [wrdE, List.flatMap_cons]; rfl
theorem wrdE_app (E F : List InE) : wrdE (E ++ F) = wrdE E ++ wrdE F := by rw [wrdE, List.flatMap_append]; rfl
theorem wrdE_len : ∀ E : List InE, 6 * E.length ≤ (wrdE E).length
 | [] => Nat.zero_le _
 | q :: E => by
  have := wrdE_len E
  rw [wrdE_cons, List.length_append, insW_len, List.length_cons]
  omega
theorem codeAt_at {l : List Int} : ∀ (E : List InE) (n k : Nat), l.drop k = wrdE E → E.length ≤ n → codeAt l n k = some (posE E k)
 | [], n, k, h, _ => by
  have h2 := congrArg List.length h
  rw [List.length_drop] at h2
  cases n with
  | zero => rfl
  | succ n => rw [codeAt, if_neg (by simp [wrdE] at h2; omega)]; rfl
 | q :: E, 0, _, _, hn => by simp at hn
 | q :: E, n + 1, k, h, hn => by
  rw [wrdE_cons] at h
  have hat : AtW l k (insW q.1 q.2) := ⟨_, h⟩
  have hl := hat.len (by simp [insW])
  have hl2 := insW_len q.1 q.2
  rw [codeAt, if_pos (by omega), insAt_at hat]
  dsimp only
  rw [codeAt_at E n _ (by rw [← List.drop_drop, h, List.drop_left]) (by simpa using hn)]
  rfl
theorem decF_at (E : List InE) : decF (wrdE E) = (jmpsF (posL (posE E 0)) (E.map Prod.fst)).map fun x => (x, E.map Prod.snd) := by
 have := wrdE_len E
 rw [decF, codeAt_at (l := wrdE E) E _ 0 rfl (by omega)]
 dsimp only
 rw [posE_ins, posE_alv]
theorem idxL_ge (l : List Int) (v : Int) (i : Nat) : idxL l v i ≥ 0 ↔ v ∈ l := by
 rw [← List.contains_iff_mem, ← idxL_mem l v i, decide_eq_true_eq]
theorem jmpsF_some (ps : List Int) : ∀ xs : List Ins, (∀ x ∈ xs, (x.op = 15 → x.a ∈ ps) ∧ (x.op = 16 → x.b ∈ ps)) → ∃ ys, jmpsF ps xs = some ys ∧ ys.map (fun x => (x.op, x.l)) = xs.map fun x => (x.op, x.l)
 | [], _ => ⟨[], rfl, rfl⟩
 | x :: xs, h => by
  obtain ⟨ys, e, k⟩ := jmpsF_some ps xs fun y hy => h y (by simp [hy])
  have hx := h x (by simp)
  have : ∃ y, jmpF ps x = some y ∧ (y.op, y.l) = (x.op, x.l) := by
   unfold jmpF
   split
   ·rename_i h15
    rw [if_pos ((idxL_ge _ _ _).2 (hx.1 h15))]
    exact ⟨_, rfl, rfl⟩
   ·split
    ·rename_i h16
     rw [if_pos ((idxL_ge _ _ _).2 (hx.2 h16))]
     exact ⟨_, rfl, rfl⟩
    ·exact ⟨_, rfl, rfl⟩
  obtain ⟨y, ey, ky⟩ := this
  refine ⟨y :: ys, ?_, ?_⟩
  ·rw [jmpsF, ey, e]; rfl
  ·rw [List.map_cons, List.map_cons, ky, k]
def expE (sp : Int) (x : Ins) (al : List Int) : List InE := if lvsB x = true then ((ordF (takF x) sp).1.map fun m => (movI m, [])) ++ [(endI x, al)] else [(x, al)]
def allE (sp : Int) (f : Ins → Ins) : List Ins → List (List Int) → List InE
 | x :: xs, a :: al => expE sp (f x) a ++ allE sp f xs al
 | _, _ => []
theorem expE_w (sp : Int) (x : Ins) (al : List Int) : wrdE (expE sp x al) = oneW (cwM sp) x al := by
 unfold expE oneW
 split
 ·rw [wrdE_app, wrdE_cons, cwM, movW]
  congr 1
  ·rw [wrdE, List.flatMap_map]
  ·show insW (endI x) al ++ [] = _
   rw [List.append_nil]
 ·show insW x al ++ [] = _
  rw [List.append_nil]
theorem allE_w (sp : Int) (f : Ins → Ins) : ∀ (c : List Ins) (al : List (List Int)), wrdE (allE sp f c al) = allW (cwM sp) f c al
 | [], _ => by simp [allE, allW, wrdE]
 | _ :: _, [] => by simp [allE, allW, wrdE]
 | x :: c, a :: al => by rw [allE, allW, wrdE_app, expE_w, allE_w]
theorem jmpT_lvs (pl : List Int) (x : Ins) : lvsB (jmpT pl x) = lvsB x := by
 unfold jmpT
 split
 ·rfl
 ·split <;> rfl
theorem jmpT_end {pl : List Int} {x : Ins} (h : lvsB x = true) : jmpT pl x = x := by
 simp only [lvsB, Bool.and_eq_true, decide_eq_true_eq] at h
 unfold jmpT
 rw [if_neg (by omega), if_neg (by omega)]
def lensE (E : List InE) : List Nat := E.map fun q => (insW q.1 q.2).length
theorem posE_lens : ∀ (E F : List InE) (k : Nat), lensE E = lensE F → posL (posE E k) = posL (posE F k)
 | [], [], _, _ => rfl
 | [], _ :: _, _, h => by cases h
 | _ :: _, [], _, h => by cases h
 | q :: E, r :: F, k, h => by
  rw [lensE, lensE, List.map_cons, List.map_cons, List.cons.injEq] at h
  rw [posE, posE, posL, posL, List.map_cons, List.map_cons, ← posL, ← posL, h.1, posE_lens E F _ h.2]
theorem expE_lens (sp : Int) (pl : List Int) (x : Ins) (al : List Int) : lensE (expE sp (jmpT pl x) al) = lensE (expE sp x al) := by
 by_cases h : lvsB x = true
 ·rw [jmpT_end h]
 ·unfold expE
  rw [jmpT_lvs, if_neg h, if_neg h]
  show [(insW (jmpT pl x) al).length] = [(insW x al).length]
  rw [insW_len, insW_len, jmpT_l]
theorem allE_lens (sp : Int) (pl : List Int) : ∀ (c : List Ins) (al : List (List Int)), lensE (allE sp (jmpT pl) c al) = lensE (allE sp id c al)
 | [], _ => by simp [allE]
 | _ :: _, [] => by simp [allE]
 | x :: c, a :: al => by
  rw [allE, allE, lensE, lensE, List.map_append, List.map_append, ← lensE, ← lensE, ← lensE, ← lensE, allE_lens sp pl c al, expE_lens]
  rfl
theorem posE_app : ∀ (E F : List InE) (k : Nat), posE (E ++ F) k = posE E k ++ posE F (k + (wrdE E).length)
 | [], F, k => by simp [posE, wrdE]
 | q :: E, F, k => by
  rw [List.cons_append, posE, posE, posE_app E F, wrdE_cons, List.length_append, Nat.add_assoc]
  rfl
theorem sts_pos (sp : Int) : ∀ (c : List Ins) (al : List (List Int)) (k : Nat), ∀ v ∈ stsW (cwM sp) id c al k, v ∈ posL (posE (allE sp id c al) k)
 | [], _, _, v, hv => by simp [stsW] at hv
 | _ :: _, [], _, v, hv => by simp [stsW] at hv
 | x :: c, a :: al, k, v, hv => by
  have hne : ∃ q E, expE sp x a = q :: E := by
   unfold expE
   split
   ·cases hm : (ordF (takF x) sp).1 with
    | nil => exact ⟨_, _, rfl⟩
    | cons m ms => exact ⟨_, _, rfl⟩
   ·exact ⟨_, _, rfl⟩
  rw [stsW, List.mem_cons] at hv
  rw [allE, posE_app, posL, List.map_append, List.mem_append, ← posL, ← posL]
  rcases hv with rfl | hv
  ·obtain ⟨q, E, e⟩ := hne
   left
   show (k : Int) ∈ posL (posE (expE sp x a) k)
   rw [e, posE, posL, List.map_cons]
   exact List.mem_cons_self ..
  ·right
   refine sts_pos sp c al _ v ?_
   have := expE_w sp x a
   show v ∈ stsW (cwM sp) id c al ((k + (wrdE (expE sp x a)).length : Nat) : Int)
   rw [this]
   exact hv
abbrev cdE (p : Prc) : List InE := allE (spareL p.code p.regs) (jmpT (stsP cwM p)) p.code p.alive
theorem allE_mem (sp : Int) (f : Ins → Ins) : ∀ (c : List Ins) (al : List (List Int)), ∀ q ∈ allE sp f c al, q.1.op ≠ 15 ∧ q.1.op ≠ 16 ∨ ∃ x ∈ c, q.1 = f x
 | [], _, q, hq => by simp [allE] at hq
 | _ :: _, [], q, hq => by simp [allE] at hq
 | x :: c, a :: al, q, hq => by
  rw [allE, List.mem_append] at hq
  rcases hq with hq | hq
  ·unfold expE at hq
   split at hq
   ·rename_i h
    simp only [lvsB, Bool.and_eq_true, decide_eq_true_eq] at h
    rw [List.mem_append, List.mem_map, List.mem_singleton] at hq
    left
    rcases hq with ⟨m, _, rfl⟩ | rfl
    ·exact ⟨by simp [movI], by simp [movI]⟩
    ·have : (endI (f x)).op = (f x).op := rfl
     exact ⟨by show (endI (f x)).op ≠ 15; omega, by show (endI (f x)).op ≠ 16; omega⟩
   ·rw [List.mem_singleton] at hq
    right
    exact ⟨x, by simp, by rw [hq]⟩
  ·rcases allE_mem sp f c al q hq with h | ⟨y, hy, e⟩
   ·exact .inl h
   ·exact .inr ⟨y, by simp [hy], e⟩
theorem prc_read {u : Unt} (hi : illB u = false) {p : Prc} (hp : p ∈ u.procs) : ∃ c, decF (wrdP cwM p) = some (c, (cdE p).map Prod.snd) ∧ c.map (fun x => (x.op, x.l)) = (cdE p).map fun q => (q.1.op, q.1.l) := by
 have hal := alive_len hi hp
 have hno := illB_no hi p hp
 have hsl : (stsP cwM p).length = p.code.length := stsW_len (cwM (spareL p.code p.regs)) id p.code p.alive 0 hal.1
 have hw : wrdP cwM p = wrdE (cdE p) := (allE_w _ _ _ _).symm
 rw [hw, decF_at]
 have hpos : posL (posE (cdE p) 0) = posL (posE (allE (spareL p.code p.regs) id p.code p.alive) 0) := posE_lens _ _ _ (allE_lens _ _ _ _)
 have hin : ∀ i : Nat, i < p.code.length → (stsP cwM p).getD i 0 ∈ posL (posE (cdE p) 0) := fun i hlt => by
  rw [hpos]
  refine sts_pos _ _ _ 0 _ ?_
  rw [List.getD_eq_getElem?_getD, List.getElem?_eq_getElem (by omega)]
  exact List.getElem_mem _
 obtain ⟨ys, e, k⟩ := jmpsF_some (posL (posE (cdE p) 0)) ((cdE p).map Prod.fst) (by
  intro y hy
  obtain ⟨q, hq, rfl⟩ := List.mem_map.1 hy
  rcases allE_mem _ _ _ _ q hq with h | ⟨x, hx, e⟩
  ·exact ⟨fun g => absurd g h.1, fun g => absurd g h.2⟩
  ·have hfit := hno.2.2.1 x hx
   unfold fitB at hfit
   rw [Bool.and_eq_true] at hfit
   have hn := hfit.2
   rw [e]
   constructor
   ·intro g
    by_cases h15 : x.op = 15
    ·unfold fitN belB at hn
     rw [if_neg (by omega), if_neg (by omega), if_neg (by omega), if_neg (by omega), if_pos h15] at hn
     simp only [Bool.and_eq_true, decide_eq_true_eq] at hn
     unfold jmpT
     rw [if_pos h15]
     exact hin _ (by omega)
    ·exfalso
     unfold jmpT at g
     rw [if_neg h15] at g
     split at g <;> exact h15 g
   ·intro g
    by_cases h15 : x.op = 15
    ·exfalso
     unfold jmpT at g
     rw [if_pos h15] at g
     have : x.op = 16 := g
     omega
    ·by_cases h16 : x.op = 16
     ·unfold fitN belB at hn
      rw [if_neg (by omega), if_neg (by omega), if_neg (by omega), if_neg (by omega), if_neg h15, if_pos h16] at hn
      simp only [Bool.and_eq_true, decide_eq_true_eq] at hn
      unfold jmpT
      rw [if_neg h15, if_pos h16]
      exact hin _ (by omega)
     ·exfalso
      unfold jmpT at g
      rw [if_neg h15, if_neg h16] at g
      exact h16 g)
 refine ⟨ys, by rw [e]; rfl, ?_⟩
 rw [k, List.map_map]
 rfl
theorem procAt_at {l : List Int} {k : Nat} {p : Prc} {c : List Ins} {a : List (List Int)} (h : AtW l k (procW cwM p)) (hd : decF (wrdP cwM p) = some (c, a)) : procAt l k = some (⟨p.args, p.rest, spareL p.code p.regs + 1, c, a⟩, k + (procW cwM p).length) := by
 have h0 : procW cwM p = p.args :: (if p.rest = true then 1 else 0) :: (spareL p.code p.regs + 1) :: (((wrdP cwM p).length : Int) :: wrdP cwM p) := rfl
 have hl := h.len (by rw [h0]; simp)
 have hl2 : (procW cwM p).length = (wrdP cwM p).length + 4 := by rw [h0]; simp
 rw [h0] at h
 obtain ⟨h1, e1, h⟩ := h.cons
 obtain ⟨h2, e2, h⟩ := h.cons
 obtain ⟨h3, e3, h⟩ := h.cons
 have q1 := listAt_at h
 rw [procAt, if_pos ⟨by omega, by rw [e2]; split <;> simp⟩, show k + 3 = k + 1 + 1 + 1 from rfl, q1]
 dsimp only
 rw [hd]
 dsimp only
 rw [e1, e2, show k + 2 = k + 1 + 1 from rfl, e3, hl2]
 refine congrArg some (Prod.ext ?_ ?_)
 ·dsimp only
  congr 1
  cases p.rest <;> rfl
 ·dsimp only
  omega
def RdOf (p q : Prc) : Prop := q.args = p.args ∧ q.rest = p.rest ∧ q.regs = spareL p.code p.regs + 1 ∧ q.alive = (cdE p).map Prod.snd ∧ q.code.map (fun x => (x.op, x.l)) = (cdE p).map fun x => (x.1.op, x.1.l)
inductive RdsOf : List Prc → List Prc → Prop
 | nil : RdsOf [] []
 | cons {p q ps qs} : RdOf p q → RdsOf ps qs → RdsOf (p :: ps) (q :: qs)
theorem RdsOf.length {ps qs : List Prc} (h : RdsOf ps qs) : qs.length = ps.length := by
 induction h with
 | nil => rfl
 | cons _ _ ih => rw [List.length_cons, List.length_cons, ih]
theorem RdsOf.at_ {ps qs : List Prc} (h : RdsOf ps qs) : ∀ {i : Nat} (h1 : i < ps.length) (h2 : i < qs.length), RdOf ps[i] qs[i] := by
 induction h with
 | nil => intro i h1; cases h1
 | cons a _ ih =>
  intro i h1 h2
  cases i with
  | zero => exact a
  | succ i => exact ih (by simpa using h1) (by simpa using h2)
theorem procsAt_at {l : List Int} (n : Nat) : ∀ (ps : List Prc) (k : Nat), (∀ p ∈ ps, ∃ c, decF (wrdP cwM p) = some (c, (cdE p).map Prod.snd) ∧ c.map (fun x => (x.op, x.l)) = (cdE p).map fun q => (q.1.op, q.1.l)) → l.drop (2 + n + k) = bodyW cwM ps →
  2 + n + k ≤ l.length → ∃ qs, procsAt l (offW cwM n ps k) (2 + n + k) = some (qs, l.length) ∧ RdsOf ps qs
 | [], k, _, hl, hk => by
  have h2 := congrArg List.length hl
  rw [List.length_drop, bodyW, List.flatMap_nil, List.length_nil] at h2
  exact ⟨[], by rw [offW, procsAt]; congr 2; omega, .nil⟩
 | p :: ps, k, hd, hl, hk => by
  obtain ⟨c, e, ec⟩ := hd p (by simp)
  have hb : bodyW cwM (p :: ps) = procW cwM p ++ bodyW cwM ps := by rw [bodyW, List.flatMap_cons]; rfl
  rw [hb] at hl
  have hat : AtW l (2 + n + k) (procW cwM p) := ⟨_, hl⟩
  have hle := hat.len (by simp [procW])
  obtain ⟨qs, e2, k2⟩ := procsAt_at n ps (k + (procW cwM p).length) (fun q hq => hd q (by simp [hq])) (by rw [show 2 + n + (k + (procW cwM p).length) = 2 + n + k + (procW cwM p).length by omega, ← List.drop_drop, hl, List.drop_left]) (by omega)
  refine ⟨⟨p.args, p.rest, spareL p.code p.regs + 1, c, (cdE p).map Prod.snd⟩ :: qs, ?_, .cons ⟨rfl, rfl, rfl, rfl, ec⟩ k2⟩
  rw [offW, procsAt, if_pos (by omega), procAt_at hat e]
  dsimp only
  rw [show 2 + n + k + (procW cwM p).length = 2 + n + (k + (procW cwM p).length) by omega]
  have hcast : ((k : Int) + ((procW cwM p).length : Int)) = ((k + (procW cwM p).length : Nat) : Int) := by omega
  rw [hcast, e2]
  rfl
theorem image_read {u : Unt} (hi : illB u = false) : ∃ qs, readF (headW cwM u.procs ++ bodyW cwM u.procs) = some qs ∧ RdsOf u.procs qs := by
 have h0 : headW cwM u.procs ++ bodyW cwM u.procs = 6516594 :: (((offW cwM u.procs.length u.procs 0).length : Int) :: (offW cwM u.procs.length u.procs 0 ++ bodyW cwM u.procs)) := by
  rw [offW_len]
  rfl
 have hat : AtW (headW cwM u.procs ++ bodyW cwM u.procs) 0 (headW cwM u.procs ++ bodyW cwM u.procs) := ⟨[], by rw [List.drop_zero, List.append_nil]⟩
 have hhl : (headW cwM u.procs).length = 2 + u.procs.length := by
  show ([6516594, (u.procs.length : Int)] ++ offW cwM u.procs.length u.procs 0).length = _
  rw [List.length_append, offW_len]
  rfl
 have hlen : (headW cwM u.procs ++ bodyW cwM u.procs).length = (headW cwM u.procs).length + (bodyW cwM u.procs).length := List.length_append
 conv at hat => arg 3; rw [h0]
 obtain ⟨g1, e1, hat⟩ := hat.cons
 have q1 := listAt_at (l := headW cwM u.procs ++ bodyW cwM u.procs) (k := 0 + 1) (s := offW cwM u.procs.length u.procs 0) (AtW.fst (t := bodyW cwM u.procs) hat)
 obtain ⟨qs, e2, k2⟩ := procsAt_at (l := headW cwM u.procs ++ bodyW cwM u.procs) u.procs.length u.procs 0 (fun p hp => prc_read hi hp) (by rw [Nat.add_zero, ← hhl, List.drop_left]) (by omega)
 refine ⟨qs, ?_, k2⟩
 rw [readF, if_pos ⟨by omega, e1⟩, q1]
 dsimp only
 rw [offW_len, show 0 + 1 + 1 + u.procs.length = 2 + u.procs.length + 0 by omega]
 have hz : ((0 : Nat) : Int) = 0 := rfl
 rw [hz] at e2
 rw [e2]
 dsimp only
 rw [if_pos rfl]
end Go.Cb
namespace Go.Cb
open Go.Proofs
set_option maxRecDepth 100000
set_option maxHeartbeats 4000000
theorem AtW.mk {l : List Int} {k : Nat} (h : k < l.length) {s : List Int} (hs : AtW l (k + 1) s) : AtW l k (l.getD k 0 :: s) := by
 obtain ⟨r, hr⟩ := hs
 refine ⟨r, ?_⟩
 rw [drop_at h, hr, List.getD_eq_getElem?_getD, List.getElem?_eq_getElem h]
 rfl
theorem AtW.app {l : List Int} {k : Nat} {s t : List Int} (h : AtW l k s) (g : AtW l (k + s.length) t) : AtW l k (s ++ t) := by
 obtain ⟨r, h⟩ := h
 obtain ⟨q, g⟩ := g
 rw [← List.drop_drop, h, List.drop_left] at g
 exact ⟨q, by rw [h, g, List.append_assoc]⟩
theorem listAt_inv {l : List Int} {k bh : Nat} {v : List Int} (h : listAt l k = some (v, bh)) : bh = k + 1 + v.length ∧ AtW l k ((v.length : Int) :: v) := by
 obtain ⟨g1, g2, g3, g4, g5, g6⟩ := listAt_gt h
 refine ⟨by omega, ?_⟩
 rw [← g6]
 refine AtW.mk g1 ⟨(l.drop (k + 1)).drop v.length, ?_⟩
 conv => rhs; arg 1; rw [g5]
 rw [List.take_append_drop]
theorem insAt_inv {l : List Int} {k bh : Nat} {x : Ins} {al : List Int} (h : insAt l k = some (x, al, bh)) : bh = k + (insW x al).length ∧ AtW l k (insW x al) := by
 unfold insAt at h
 split at h
 ·rename_i hc
  cases h1 : listAt l (k + 4) with
  | none => rw [h1] at h; cases h
  | some q =>
   obtain ⟨r, nx⟩ := q
   rw [h1] at h
   dsimp only at h
   obtain ⟨rfl, g2⟩ := listAt_inv h1
   cases h2 : listAt l (k + 4 + 1 + r.length) with
   | none => rw [h2] at h; cases h
   | some q =>
    obtain ⟨a, b⟩ := q
    rw [h2] at h
    obtain ⟨rfl, f2⟩ := listAt_inv h2
    cases h
    refine ⟨by rw [insW_len]; dsimp only; omega, ?_⟩
    refine AtW.mk (by omega) (AtW.mk (by omega) (AtW.mk (by omega) (AtW.mk (by omega) ?_)))
    refine AtW.app (s := (r.length : Int) :: r) (t := (al.length : Int) :: al) g2 ?_
    rw [List.length_cons, show k + 1 + 1 + 1 + 1 + (r.length + 1) = k + 4 + 1 + r.length by omega]
    exact f2
 ·cases h
theorem codeAt_inv {l : List Int} : ∀ (n k : Nat) (c : List InA), codeAt l n k = some c → l.length ≤ n + k → k ≤ l.length → l.drop k = wrdE (c.map Prod.snd) ∧ c = posE (c.map Prod.snd) k
 | 0, k, c, h, hn, hk => by
  cases h
  exact ⟨List.drop_of_length_le (by omega), rfl⟩
 | n + 1, k, c, h, hn, hk => by
  rw [codeAt] at h
  split at h
  ·cases h1 : insAt l k with
   | none => rw [h1] at h; cases h
   | some q =>
    obtain ⟨x, al, bh⟩ := q
    rw [h1] at h
    dsimp only at h
    obtain ⟨hg1, hg2⟩ := insAt_gt h1
    obtain ⟨rfl, r, hr⟩ := insAt_inv h1
    cases h2 : codeAt l n (k + (insW x al).length) with
    | none => rw [h2] at h; cases h
    | some c2 =>
     rw [h2] at h
     cases h
     obtain ⟨e1, e2⟩ := codeAt_inv n _ c2 h2 (by omega) (by omega)
     rw [List.map_cons, wrdE_cons, posE]
     dsimp only
     refine ⟨?_, by rw [← e2]⟩
     rw [← List.drop_drop, hr, List.drop_left] at e1
     rw [hr, e1]
  ·cases h
   exact ⟨List.drop_of_length_le (by omega), rfl⟩
theorem jmpF_inj {ps : List Int} {x y z : Ins} (h : jmpF ps x = some z) (g : jmpF ps y = some z) : x = y := by
 have hi : ∀ (l : List Int) (v w : Int) (i : Nat), idxL l v i ≥ 0 → idxL l v i = idxL l w i → v = w := by
  intro l
  induction l with
  | nil => intro v w i h; simp [idxL] at h
  | cons a l ih =>
   intro v w i h e
   have hge : ∀ (l : List Int) (v : Int) (i : Nat), idxL l v i ≥ 0 → (i : Int) ≤ idxL l v i := by
    intro l
    induction l with
    | nil => intro v i h; simp [idxL] at h
    | cons a l ih =>
     intro v i h
     rw [idxL] at h ⊢
     split
     ·omega
     ·rename_i hc
      rw [if_neg hc] at h
      have := ih v (i + 1) h
      omega
   rw [idxL] at h e
   rw [idxL] at e
   by_cases h1 : v = a
   ·rw [if_pos h1] at h e
    by_cases h2 : w = a
    ·exact h1.trans h2.symm
    ·rw [if_neg h2] at e
     have := hge l w (i + 1) (by omega)
     omega
   ·rw [if_neg h1] at h e
    by_cases h2 : w = a
    ·rw [if_pos h2] at e
     have := hge l v (i + 1) h
     omega
    ·rw [if_neg h2] at e
     exact ih v w (i + 1) h e
 obtain ⟨xo, xd, xa, xb, xl⟩ := x
 obtain ⟨yo, yd, ya, yb, yl⟩ := y
 unfold jmpF at h g
 dsimp only at h g
 by_cases h15 : xo = 15
 ·rw [if_pos h15] at h
  split at h
  ·rename_i q1
   cases h
   by_cases g15 : yo = 15
   ·rw [if_pos g15] at g
    split at g
    ·simp only [Option.some.injEq, Ins.mk.injEq] at g
     obtain ⟨rfl, rfl, e, rfl, rfl⟩ := g
     rw [hi ps xa ya 0 q1 e.symm]
    ·cases g
   ·rw [if_neg g15] at g
    split at g
    ·split at g
     ·simp only [Option.some.injEq, Ins.mk.injEq] at g
      omega
     ·cases g
    ·simp only [Option.some.injEq, Ins.mk.injEq] at g
     omega
  ·cases h
 ·rw [if_neg h15] at h
  by_cases h16 : xo = 16
  ·rw [if_pos h16] at h
   split at h
   ·rename_i q1
    cases h
    by_cases g15 : yo = 15
    ·rw [if_pos g15] at g
     split at g
     ·simp only [Option.some.injEq, Ins.mk.injEq] at g
      omega
     ·cases g
    ·rw [if_neg g15] at g
     split at g
     ·split at g
      ·simp only [Option.some.injEq, Ins.mk.injEq] at g
       obtain ⟨rfl, rfl, rfl, e, rfl⟩ := g
       rw [hi ps xb yb 0 q1 e.symm]
      ·cases g
     ·simp only [Option.some.injEq, Ins.mk.injEq] at g
      omega
   ·cases h
  ·rw [if_neg h16] at h
   cases h
   split at g
   ·split at g
    ·simp only [Option.some.injEq, Ins.mk.injEq] at g
     omega
    ·cases g
   ·split at g
    ·split at g
     ·simp only [Option.some.injEq, Ins.mk.injEq] at g
      omega
     ·cases g
    ·exact (Option.some.inj g).symm
theorem jmpF_dl {ps : List Int} {x z : Ins} (h : jmpF ps x = some z) : z.l = x.l := by
 unfold jmpF at h
 split at h
 ·split at h
  ·cases h; rfl
  ·cases h
 ·split at h
  ·split at h
   ·cases h; rfl
   ·cases h
  ·cases h; rfl
theorem jmpsF_l {ps : List Int} : ∀ {xs zs : List Ins}, jmpsF ps xs = some zs → xs.map Ins.l = zs.map Ins.l
 | [], zs, h => by cases h; rfl
 | x :: xs, zs, h => by
  rw [jmpsF] at h
  cases h1 : jmpF ps x with
  | none => rw [h1] at h; cases h
  | some y =>
   rw [h1] at h
   dsimp only at h
   cases h2 : jmpsF ps xs with
   | none => rw [h2] at h; cases h
   | some ys =>
    rw [h2] at h
    cases h
    rw [List.map_cons, List.map_cons, jmpsF_l h2, jmpF_dl h1]
theorem jmpsF_inj {ps : List Int} : ∀ {xs ys zs : List Ins}, jmpsF ps xs = some zs → jmpsF ps ys = some zs → xs = ys
 | [], [], _, _, _ => rfl
 | [], y :: ys, zs, h, g => by
  cases h
  have := jmpsF_l g
  cases this
 | x :: xs, [], zs, h, g => by
  cases g
  have := jmpsF_l h
  cases this
 | x :: xs, y :: ys, zs, h, g => by
  rw [jmpsF] at h g
  cases h1 : jmpF ps x with
  | none => rw [h1] at h; cases h
  | some a =>
   cases g1 : jmpF ps y with
   | none => rw [g1] at g; cases g
   | some b =>
    rw [h1] at h
    rw [g1] at g
    dsimp only at h g
    cases h2 : jmpsF ps xs with
    | none => rw [h2] at h; cases h
    | some us =>
     cases g2 : jmpsF ps ys with
     | none => rw [g2] at g; cases g
     | some bs =>
      rw [h2] at h
      rw [g2] at g
      cases h
      simp only [Option.map_some, Option.some.injEq, List.cons.injEq] at g
      obtain ⟨rfl, rfl⟩ := g
      rw [jmpF_inj h1 g1, jmpsF_inj h2 g2]
theorem decF_inv {ws : List Int} {c : List Ins} {al : List (List Int)} (h : decF ws = some (c, al)) : ∃ E : List InE, ws = wrdE E ∧ jmpsF (posL (posE E 0)) (E.map Prod.fst) = some c ∧ E.map Prod.snd = al := by
 unfold decF at h
 cases h1 : codeAt ws ws.length 0 with
 | none => rw [h1] at h; cases h
 | some q =>
  rw [h1] at h
  dsimp only at h
  obtain ⟨e1, e2⟩ := codeAt_inv _ _ q h1 (by omega) (Nat.zero_le _)
  rw [List.drop_zero] at e1
  refine ⟨q.map Prod.snd, e1, ?_⟩
  rw [← e2]
  cases h2 : jmpsF (posL q) (insL q) with
  | none => rw [h2] at h; cases h
  | some ys =>
   rw [h2] at h
   cases h
   refine ⟨?_, ?_⟩
   ·rw [← h2, List.map_map]
    rfl
   ·rw [List.map_map]
    rfl
theorem lens_of : ∀ {E F : List InE}, (E.map Prod.fst).map Ins.l = (F.map Prod.fst).map Ins.l → E.map Prod.snd = F.map Prod.snd → lensE E = lensE F
 | [], [], _, _ => rfl
 | [], _ :: _, _, h => by cases h
 | _ :: _, [], _, h => by cases h
 | q :: E, r :: F, h, g => by
  simp only [List.map_cons, List.cons.injEq] at h g
  have := lens_of h.2 g.2
  unfold lensE at this ⊢
  rw [List.map_cons, List.map_cons, this, insW_len, insW_len, h.1, g.1]
theorem decF_inj {ws vs : List Int} {r : List Ins × List (List Int)} (h : decF ws = some r) (g : decF vs = some r) : ws = vs := by
 obtain ⟨c, al⟩ := r
 obtain ⟨E, rfl, h1, h2⟩ := decF_inv h
 obtain ⟨F, rfl, g1, g2⟩ := decF_inv g
 have hl : lensE E = lensE F := lens_of ((jmpsF_l h1).trans (jmpsF_l g1).symm) (h2.trans g2.symm)
 rw [← posE_lens E F 0 hl] at g1
 have e1 := jmpsF_inj h1 g1
 have e2 := h2.trans g2.symm
 have : E = F := by
  have hz : ∀ E : List InE, E = List.zip (E.map Prod.fst) (E.map Prod.snd) := fun E => by
   induction E with
   | nil => rfl
   | cons q E ih => rw [List.map_cons, List.map_cons, List.zip_cons_cons, ← ih]
  rw [hz E, hz F, e1, e2]
 rw [this]
theorem procAt_inv {l : List Int} {k bh : Nat} {x : Prc} (h : procAt l k = some (x, bh)) : ∃ ws, bh = k + 4 + ws.length ∧ AtW l k (x.args :: (if x.rest = true then 1 else 0) :: x.regs :: ((ws.length : Int) :: ws)) ∧ decF ws = some (x.code, x.alive) := by
 unfold procAt at h
 split at h
 ·rename_i hc
  cases h1 : listAt l (k + 3) with
  | none => rw [h1] at h; cases h
  | some q =>
   obtain ⟨ws, b⟩ := q
   rw [h1] at h
   dsimp only at h
   obtain ⟨rfl, g2⟩ := listAt_inv h1
   cases h2 : decF ws with
   | none => rw [h2] at h; cases h
   | some q =>
    obtain ⟨c, al⟩ := q
    rw [h2] at h
    cases h
    refine ⟨ws, by omega, ?_, h2⟩
    dsimp only
    have hr : (if (l.getD (k + 1) 0 == 1) = true then (1 : Int) else 0) = l.getD (k + 1) 0 := by
     rcases hc.2 with e | e <;> rw [e] <;> rfl
    rw [hr]
    exact AtW.mk (by omega) (AtW.mk (by omega) (AtW.mk (by omega) g2))
 ·cases h
theorem procsAt_inv {l m : List Int} : ∀ (ps ps' : List Int) (k : Nat) {q : List Prc} {e e' : Nat}, procsAt l ps k = some (q, e) → procsAt m ps' k = some (q, e') → e = l.length → e' = m.length → k ≤ l.length → k ≤ m.length → l.drop k = m.drop k ∧ ps = ps'
 | [], [], k, q, e, e', h, g, hl, hm, _, _ => by
  cases h
  cases g
  exact ⟨by rw [List.drop_of_length_le (by omega), List.drop_of_length_le (by omega)], rfl⟩
 | [], p :: ps, k, q, e, e', h, g, _, _, _, _ => by
  cases h
  rw [procsAt] at g
  split at g
  ·cases g1 : procAt m k with
   | none => rw [g1] at g; cases g
   | some y =>
    rw [g1] at g
    dsimp only at g
    cases g2 : procsAt m ps y.2 with
    | none => rw [g2] at g; cases g
    | some z => rw [g2] at g; cases g
  ·cases g
 | p :: ps, [], k, q, e, e', h, g, _, _, _, _ => by
  cases g
  rw [procsAt] at h
  split at h
  ·cases g1 : procAt l k with
   | none => rw [g1] at h; cases h
   | some y =>
    rw [g1] at h
    dsimp only at h
    cases g2 : procsAt l ps y.2 with
    | none => rw [g2] at h; cases h
    | some z => rw [g2] at h; cases h
  ·cases h
 | p :: ps, p' :: ps', k, q, e, e', h, g, hl, hm, hkl, hkm => by
  rw [procsAt] at h g
  split at h
  ·rename_i hp
   split at g
   ·rename_i hp'
    cases h1 : procAt l k with
    | none => rw [h1] at h; cases h
    | some y =>
     cases g1 : procAt m k with
     | none => rw [g1] at g; cases g
     | some y' =>
      obtain ⟨x, bh⟩ := y
      obtain ⟨x', bh'⟩ := y'
      rw [h1] at h
      rw [g1] at g
      dsimp only at h g
      cases h2 : procsAt l ps bh with
      | none => rw [h2] at h; cases h
      | some z =>
       cases g2 : procsAt m ps' bh' with
       | none => rw [g2] at g; cases g
       | some z' =>
        rw [h2] at h
        rw [g2] at g
        obtain ⟨q1, e1⟩ := z
        obtain ⟨q2, e2⟩ := z'
        cases h
        simp only [Option.map_some, Option.some.injEq, Prod.mk.injEq, List.cons.injEq] at g
        obtain ⟨⟨rfl, rfl⟩, rfl⟩ := g
        obtain ⟨ws, rfl, hat, hd⟩ := procAt_inv h1
        obtain ⟨vs, rfl, gat, gd⟩ := procAt_inv g1
        obtain rfl := decF_inj hd gd
        have hle := hat.len (by simp)
        have gle := gat.len (by simp)
        simp only [List.length_cons] at hle gle
        obtain ⟨f1, rfl⟩ := procsAt_inv ps ps' _ h2 g2 hl hm (by omega) (by omega)
        obtain ⟨r1, hr1⟩ := hat
        obtain ⟨r2, hr2⟩ := gat
        have k4 : k + 4 + ws.length = k + (x'.args :: (if x'.rest = true then 1 else 0) :: x'.regs :: ((ws.length : Int) :: ws)).length := by simp only [List.length_cons]; omega
        rw [k4, ← List.drop_drop, ← List.drop_drop, hr1, hr2, List.drop_left, List.drop_left] at f1
        exact ⟨by rw [hr1, hr2, f1], by rw [hp, hp']⟩
   ·cases g
  ·cases h
theorem readF_inj {l m : List Int} {q : List Prc} (h : readF l = some q) (g : readF m = some q) : l = m := by
 unfold readF at h g
 split at h
 ·rename_i hc
  split at g
  ·rename_i gc
   cases h1 : listAt l 1 with
   | none => rw [h1] at h; cases h
   | some y =>
    cases g1 : listAt m 1 with
    | none => rw [g1] at g; cases g
    | some y' =>
     obtain ⟨ps, k⟩ := y
     obtain ⟨ps', k'⟩ := y'
     rw [h1] at h
     rw [g1] at g
     dsimp only at h g
     cases h2 : procsAt l ps k with
     | none => rw [h2] at h; cases h
     | some z =>
      cases g2 : procsAt m ps' k' with
      | none => rw [g2] at g; cases g
      | some z' =>
       obtain ⟨q1, e1⟩ := z
       obtain ⟨q2, e2⟩ := z'
       rw [h2] at h
       rw [g2] at g
       dsimp only at h g
       split at h
       ·rename_i el
        split at g
        ·rename_i em
         cases h
         obtain rfl := Option.some.inj g
         have hplen : ∀ {l : List Int} {ps : List Int} {k : Nat} {q : List Prc} {e : Nat}, procsAt l ps k = some (q, e) → q.length = ps.length := by
          intro l ps
          induction ps with
          | nil => intro k q e h; cases h; rfl
          | cons p ps ih =>
           intro k q e h
           rw [procsAt] at h
           split at h
           ·cases h3 : procAt l k with
            | none => rw [h3] at h; cases h
            | some y =>
             rw [h3] at h
             dsimp only at h
             cases h4 : procsAt l ps y.2 with
             | none => rw [h4] at h; cases h
             | some z =>
              rw [h4] at h
              cases h
              rw [List.length_cons, List.length_cons, ih h4]
           ·cases h
         have hpl : ps.length = ps'.length := (hplen h2).symm.trans (hplen g2)
         obtain ⟨rfl, hat⟩ := listAt_inv h1
         obtain ⟨rfl, gat⟩ := listAt_inv g1
         have hle := hat.len (by simp)
         have gle := gat.len (by simp)
         rw [List.length_cons] at hle gle
         rw [← hpl] at g2
         obtain ⟨f1, rfl⟩ := procsAt_inv ps ps' _ h2 g2 el em (by omega) (by omega)
         have h3 : AtW l 0 (6516594 :: ((ps.length : Int) :: ps)) := by
          have := AtW.mk (l := l) (k := 0) (by omega) hat
          rwa [hc.2] at this
         have g3 : AtW m 0 (6516594 :: ((ps.length : Int) :: ps)) := by
          have := AtW.mk (l := m) (k := 0) (by omega) gat
          rwa [gc.2] at this
         obtain ⟨r1, hr1⟩ := h3
         obtain ⟨r2, hr2⟩ := g3
         have k4 : 1 + 1 + ps.length = 0 + ((6516594 : Int) :: ((ps.length : Int) :: ps)).length := by simp only [List.length_cons]; omega
         rw [k4, ← List.drop_drop, ← List.drop_drop, hr1, hr2, List.drop_left, List.drop_left] at f1
         rw [List.drop_zero] at hr1 hr2
         rw [hr1, hr2, f1]
        ·cases g
       ·cases h
  ·cases g
 ·cases h
theorem listAt_more {l s : List Int} {k : Nat} {r : List Int × Nat} (h : listAt l k = some r) : listAt (l ++ s) k = some r := by
 obtain ⟨v, bh⟩ := r
 obtain ⟨rfl, q, hq⟩ := listAt_inv h
 have hk := (listAt_gt h).1
 exact listAt_at ⟨q ++ s, by rw [List.drop_append_of_le_length (by omega), hq, List.append_assoc]⟩
theorem getD_more {l s : List Int} {k : Nat} (h : k < l.length) : (l ++ s).getD k 0 = l.getD k 0 := by
 rw [List.getD_eq_getElem?_getD, List.getD_eq_getElem?_getD, List.getElem?_append_left h]
theorem procAt_more {l s : List Int} {k : Nat} {r : Prc × Nat} (h : procAt l k = some r) : procAt (l ++ s) k = some r := by
 unfold procAt at h ⊢
 split at h
 ·rename_i hc
  rw [getD_more (by omega), getD_more (by omega), getD_more (by omega), if_pos ⟨by rw [List.length_append]; omega, hc.2⟩]
  cases h1 : listAt l (k + 3) with
  | none => rw [h1] at h; cases h
  | some q =>
   rw [listAt_more h1]
   rw [h1] at h
   exact h
 ·cases h
theorem procsAt_more {l s : List Int} : ∀ (ps : List Int) (k : Nat) {r : List Prc × Nat}, procsAt l ps k = some r → procsAt (l ++ s) ps k = some r
 | [], k, r, h => h
 | p :: ps, k, r, h => by
  rw [procsAt] at h ⊢
  split at h
  ·rename_i hp
   rw [if_pos hp]
   cases h1 : procAt l k with
   | none => rw [h1] at h; cases h
   | some y =>
    rw [procAt_more h1]
    rw [h1] at h
    dsimp only at h ⊢
    cases h2 : procsAt l ps y.2 with
    | none => rw [h2] at h; cases h
    | some z =>
     rw [procsAt_more ps y.2 h2]
     rw [h2] at h
     exact h
  ·cases h
theorem readF_more {l : List Int} {q : List Prc} (x : Int) (h : readF l = some q) : readF (l ++ [x]) = none := by
 unfold readF at h ⊢
 split at h
 ·rename_i hc
  rw [getD_more (by omega), if_pos ⟨by rw [List.length_append]; omega, hc.2⟩]
  cases h1 : listAt l 1 with
  | none => rw [h1] at h; cases h
  | some y =>
   rw [listAt_more h1]
   rw [h1] at h
   dsimp only at h ⊢
   cases h2 : procsAt l y.1 y.2 with
   | none => rw [h2] at h; cases h
   | some z =>
    rw [procsAt_more _ _ h2]
    rw [h2] at h
    dsimp only at h ⊢
    split at h
    ·rename_i he
     rw [if_neg (by rw [List.length_append, List.length_singleton]; omega)]
    ·cases h
 ·cases h
theorem readF_less {l : List Int} {q : List Prc} (h : readF l = some q) : readF (l.take (l.length - 1)) = none := by
 have hl : 2 ≤ l.length := by
  unfold readF at h
  split at h
  ·rename_i hc; exact hc.1
  ·cases h
 cases h1 : readF (l.take (l.length - 1)) with
 | none => rfl
 | some p =>
  have := readF_more (l[l.length - 1]'(by omega)) h1
  rw [← List.take_succ_eq_append_getElem (by omega), List.take_of_length_le (by omega), h] at this
  cases this
end Go.Cb
namespace Go.Cb
open Go.Proofs
set_option maxRecDepth 100000
set_option maxHeartbeats 4000000
theorem offW_get (cw : CwF) (n : Int) : ∀ (ps : List Prc) (k : Nat) (i : Nat), i < ps.length → (offW cw n ps k).getD i 0 = 2 + n + k + (bodyW cw (ps.take i)).length
 | [], _, _, h => by simp at h
 | p :: ps, k, 0, _ => by rw [offW, List.take_zero]; simp [bodyW]
 | p :: ps, k, i + 1, h => by
  have ih := offW_get cw n ps (k + (procW cw p).length) i (by simpa using h)
  rw [offW, List.getD_cons_succ, List.take_succ_cons, bodyW, List.flatMap_cons, ← bodyW, List.length_append]
  rw [show ((k : Int) + ((procW cw p).length : Int)) = ((k + (procW cw p).length : Nat) : Int) by omega, ih]
  omega
abbrev imgW (ps : List Prc) : List Int := headW cwM ps ++ bodyW cwM ps
def atP (ps : List Prc) (i : Nat) : Nat := 2 + ps.length + (bodyW cwM (ps.take i)).length
theorem headW_len (ps : List Prc) : (headW cwM ps).length = 2 + ps.length := by
 show ([6516594, (ps.length : Int)] ++ offW cwM ps.length ps 0).length = _
 rw [List.length_append, offW_len]
 rfl
theorem imgW_len (ps : List Prc) : (imgW ps).length = 2 + ps.length + (bodyW cwM ps).length := by
 rw [imgW, List.length_append, headW_len]
theorem atP_succ {ps : List Prc} {i : Nat} (h : i < ps.length) : atP ps (i + 1) = atP ps i + (procW cwM ps[i]).length := by
 rw [atP, atP, List.take_succ_eq_append_getElem h, bodyW, List.flatMap_append, List.length_append, ← bodyW]
 have : List.flatMap (procW cwM) [ps[i]] = procW cwM ps[i] := by simp
 rw [this]
 omega
theorem procW_len (p : Prc) : (procW cwM p).length = 4 + (wrdP cwM p).length := by
 rw [procW, List.length_append, List.length_cons]
 simp only [List.length_cons, List.length_nil]
 omega
theorem imgW_head {ps : List Prc} {i : Nat} (h : i < ps.length) : (imgW ps).getD (2 + i) 0 = (atP ps i : Int) := by
 have h0 : imgW ps = 6516594 :: (ps.length : Int) :: (offW cwM ps.length ps 0 ++ bodyW cwM ps) := rfl
 rw [h0, show 2 + i = i + 1 + 1 by omega, List.getD_cons_succ, List.getD_cons_succ, List.getD_eq_getElem?_getD, List.getElem?_append_left (by rw [offW_len]; exact h), ← List.getD_eq_getElem?_getD]
 have := offW_get cwM ps.length ps 0 i h
 rw [show (((0 : Nat) : Int)) = 0 from rfl] at this
 rw [this, atP]
 omega
theorem imgW_at {ps : List Prc} {i : Nat} (h : i < ps.length) : AtW (imgW ps) (atP ps i) (procW cwM ps[i]) := by
 refine ⟨bodyW cwM (ps.drop (i + 1)), ?_⟩
 rw [imgW, atP, ← headW_len, List.drop_append, List.drop_of_length_le (by omega), List.nil_append, Nat.add_sub_cancel_left]
 have h1 : bodyW cwM ps = bodyW cwM (ps.take i) ++ bodyW cwM (ps.drop i) := by
  rw [bodyW, bodyW, bodyW, ← List.flatMap_append, List.take_append_drop]
 rw [h1, List.drop_left, drop_at h, bodyW, List.flatMap_cons]
 rfl
theorem allE_len (sp : Int) (f : Ins → Ins) : ∀ (c : List Ins) (al : List (List Int)), al.length = c.length → c.length ≤ (allE sp f c al).length
 | [], _, _ => Nat.zero_le _
 | _ :: _, [], h => by simp at h
 | x :: c, a :: al, h => by
  have := allE_len sp f c al (by simpa using h)
  rw [allE, List.length_append, List.length_cons]
  have h1 : 1 ≤ (expE sp (f x) a).length := by
   unfold expE
   split
   ·rw [List.length_append, List.length_singleton]; omega
   ·exact Nat.le_refl 1
  omega
theorem wrdP_ge {p : Prc} (h : p.alive.length = p.code.length) : 6 * p.code.length ≤ (wrdP cwM p).length := by
 have h1 : wrdP cwM p = wrdE (cdE p) := (allE_w _ _ _ _).symm
 have h2 := wrdE_len (cdE p)
 have h3 := allE_len (spareL p.code p.regs) (jmpT (stsP cwM p)) p.code p.alive h
 rw [h1]
 have h4 : p.code.length ≤ (cdE p).length := h3
 omega
theorem place {ps : List Prc} {i : Nat} (h : i < ps.length) (ha : ps[i].alive.length = ps[i].code.length) :
  (imgW ps).getD (2 + i) 0 = (atP ps i : Int) ∧ atP ps i + 3 < (imgW ps).length ∧ (imgW ps).getD (atP ps i) 0 = ps[i].args ∧ (imgW ps).getD (atP ps i + 2) 0 > ps[i].regs ∧ (imgW ps).getD (atP ps i + 3) 0 ≥ 6 * (ps[i].code.length : Int) ∧
   (atP ps i : Int) + 4 + (imgW ps).getD (atP ps i + 3) 0 = (atP ps (i + 1) : Int) ∧ atP ps (i + 1) ≤ (imgW ps).length := by
 have h0 := imgW_at h
 have hle := h0.len (by simp [procW])
 have hpl := procW_len ps[i]
 have hs := atP_succ h
 have h1 : procW cwM ps[i] = ps[i].args :: (if ps[i].rest = true then 1 else 0) :: (spareL ps[i].code ps[i].regs + 1) :: (((wrdP cwM ps[i]).length : Int) :: wrdP cwM ps[i]) := rfl
 rw [h1] at h0
 obtain ⟨_, e1, h0⟩ := h0.cons
 obtain ⟨_, e2, h0⟩ := h0.cons
 obtain ⟨_, e3, h0⟩ := h0.cons
 obtain ⟨_, e4, h0⟩ := h0.cons
 have g := wrdP_ge ha
 have g2 := spareL_ge ps[i].code ps[i].regs
 refine ⟨imgW_head h, by omega, e1, ?_, ?_, ?_, by omega⟩
 ·rw [show atP ps i + 2 = atP ps i + 1 + 1 by omega, e3]; omega
 ·rw [show atP ps i + 3 = atP ps i + 1 + 1 + 1 by omega, e4]; omega
 ·rw [show atP ps i + 3 = atP ps i + 1 + 1 + 1 by omega, e4]; omega
def kkE (sp : Int) (f : Ins → Ins) (c : List Ins) (al : List (List Int)) (i : Nat) : Nat := (allE sp f (c.take i) (al.take i)).length
def mvN (sp : Int) (x : Ins) : Nat := if lvsB x = true then (ordF (takF x) sp).1.length else 0
structure RdAt (p q : Prc) : Prop where
 args : q.args = p.args
 rest : q.rest = p.rest
 len : q.alive.length = q.code.length
 all : kkE (spareL p.code p.regs) (jmpT (stsP cwM p)) p.code p.alive p.code.length = q.code.length
 mv : ∀ (i : Nat) (_ : i < p.code.length) (j : Nat), j < mvN (spareL p.code p.regs) p.code[i] → ∃ (h1 : kkE (spareL p.code p.regs) (jmpT (stsP cwM p)) p.code p.alive i + j < q.code.length) (h2 : kkE (spareL p.code p.regs) (jmpT (stsP cwM p)) p.code p.alive i + j < q.alive.length),
  q.code[kkE (spareL p.code p.regs) (jmpT (stsP cwM p)) p.code p.alive i + j].op = 1 ∧ q.alive[kkE (spareL p.code p.regs) (jmpT (stsP cwM p)) p.code p.alive i + j] = []
 en : ∀ (i : Nat) (_ : i < p.code.length) (h0 : i < p.alive.length), ∃ (h1 : kkE (spareL p.code p.regs) (jmpT (stsP cwM p)) p.code p.alive i + mvN (spareL p.code p.regs) p.code[i] < q.code.length) (h2 : kkE (spareL p.code p.regs) (jmpT (stsP cwM p)) p.code p.alive i + mvN (spareL p.code p.regs) p.code[i] < q.alive.length),
  q.code[kkE (spareL p.code p.regs) (jmpT (stsP cwM p)) p.code p.alive i + mvN (spareL p.code p.regs) p.code[i]].op = p.code[i].op ∧
  q.code[kkE (spareL p.code p.regs) (jmpT (stsP cwM p)) p.code p.alive i + mvN (spareL p.code p.regs) p.code[i]].l = (if lvsB p.code[i] = true then upTo p.code[i].l.length else p.code[i].l) ∧
  q.alive[kkE (spareL p.code p.regs) (jmpT (stsP cwM p)) p.code p.alive i + mvN (spareL p.code p.regs) p.code[i]] = p.alive[i]
theorem word_wrap (x : Int) : BitVec.ofInt 64 (IntKind.i64.wrap x) = BitVec.ofInt 64 x := by
 apply BitVec.eq_of_toNat_eq
 rw [BitVec.toNat_ofInt, BitVec.toNat_ofInt]
 have h : IntKind.i64.wrap x = if x % (2 ^ 64 : Int) ≥ 2 ^ 63 then x % 2 ^ 64 - 2 ^ 64 else x % 2 ^ 64 := by
  show (if (true && decide (x % (2 ^ 64 : Int) ≥ (2 ^ 63 : Int))) = true then x % (2 ^ 64 : Int) - (2 ^ 64 : Int) else x % (2 ^ 64 : Int)) = _
  by_cases h : x % (2 ^ 64 : Int) ≥ 2 ^ 63
  ·rw [if_pos h, if_pos (by rw [decide_eq_true h]; rfl)]
  ·rw [if_neg h, if_neg (by rw [decide_eq_false h]; simp)]
 rw [h]
 split <;> omega
theorem xor_ne {a b : Int} (hb : -(2 ^ 63) ≤ b ∧ b < 2 ^ 63) (h : bitsOf .xor .i64 a b = a) : b = 0 := by
 have h1 := congrArg (BitVec.ofInt 64) h
 rw [show bitsOf .xor .i64 a b = IntKind.i64.wrap ((BitVec.ofInt 64 a ^^^ BitVec.ofInt 64 b).toNat : Nat) from rfl, word_wrap] at h1
 have h2 : BitVec.ofInt 64 (((BitVec.ofInt 64 a ^^^ BitVec.ofInt 64 b).toNat : Nat) : Int) = BitVec.ofInt 64 a ^^^ BitVec.ofInt 64 b := by
  apply BitVec.eq_of_toNat_eq
  rw [BitVec.toNat_ofInt]
  have := (BitVec.ofInt 64 a ^^^ BitVec.ofInt 64 b).isLt
  omega
 rw [h2] at h1
 have h3 : BitVec.ofInt 64 b = 0#64 := by
  have := congrArg (BitVec.ofInt 64 a ^^^ ·) h1
  simp only [← BitVec.xor_assoc, BitVec.xor_self, BitVec.zero_xor] at this
  exact this
 have h4 := congrArg BitVec.toNat h3
 rw [BitVec.toNat_ofInt] at h4
 simp only [BitVec.toNat_ofNat] at h4
 omega
theorem and_le (a : Int) : 0 ≤ bitsOf .and .i64 a 65535 ∧ bitsOf .and .i64 a 65535 ≤ 65535 := by
 have h0 : (BitVec.ofInt 64 a &&& BitVec.ofInt 64 65535).toNat ≤ 65535 := by
  rw [BitVec.toNat_and]
  exact Nat.le_trans Nat.and_le_right (by decide)
 have h : bitsOf .and .i64 a 65535 = IntKind.i64.wrap (((BitVec.ofInt 64 a &&& BitVec.ofInt 64 65535).toNat : Nat) : Int) := rfl
 rw [h]
 generalize (BitVec.ofInt 64 a &&& BitVec.ofInt 64 65535).toNat = n at *
 have h2 : IntKind.i64.wrap (n : Int) = n := by
  show (if (true && decide ((n : Int) % (2 ^ 64 : Int) ≥ (2 ^ 63 : Int))) = true then (n : Int) % (2 ^ 64 : Int) - (2 ^ 64 : Int) else (n : Int) % (2 ^ 64 : Int)) = _
  rw [if_neg (by rw [decide_eq_false (by omega)]; simp)]
  omega
 rw [h2]
 omega
end Go.Cb
namespace Go.Cb
open Go.Proofs
set_option maxRecDepth 100000
set_option maxHeartbeats 4000000
def namedL (x : Ins) : List Int :=
 if x.op = 1 ∨ x.op = 10 ∨ x.op = 11 ∨ x.op = 14 then [x.a] else if x.op = 12 ∨ x.op = 13 then [x.a, x.b] else if x.op = 7 ∨ x.op = 9 ∨ x.op = 21 then x.l else
 if x.op = 8 ∨ x.op = 17 ∨ x.op = 19 then x.a :: x.l else if x.op = 18 ∨ x.op = 20 then x.b :: x.l else if x.op = 16 ∨ x.op = 22 then [x.a] else []
def givesI (x : Ins) : Int := if x.op ≤ 7 ∨ (9 ≤ x.op ∧ x.op ≤ 11) ∨ x.op = 14 ∨ x.op = 17 ∨ x.op = 18 then x.d else -1
def bareB (x : Ins) : Bool :=
 if givesI x < 0 ∧ x.d ≠ 0 then false else if x.a ≠ 0 ∧ (x.op = 3 ∨ x.op = 4) then false else
 if x.b ≠ 0 ∧ x.op ≠ 12 ∧ x.op ≠ 13 ∧ x.op ≠ 16 ∧ x.op ≠ 18 ∧ x.op ≠ 20 then false else
 decide ((x.l.length : Int) = 0) || (decide (7 ≤ x.op) && decide (x.op ≤ 9)) || (decide (17 ≤ x.op) && decide (x.op ≤ 21))
def outB (regs n : Int) : Bool := decide (n < 0) || decide (n ≥ regs)
def preD (x : Ins) (regs : Int) : Bool := if x.op < 0 ∨ x.op > 22 ∨ bareB x = false then false else if (namedL x).any (outB regs) = true then false else if givesI x ≥ regs ∨ givesI x < -1 ∨ x.d < 0 then false else true
theorem any_outB (regs : Int) (l : List Int) : l.any (outB regs) = l.any fun n => !belB n regs := by
 congr 1
 funext n
 unfold outB belB
 rw [Bool.eq_iff_iff]
 simp only [Bool.or_eq_true, decide_eq_true_eq, Bool.not_eq_true', Bool.and_eq_false_imp, decide_eq_false_iff_not]
 omega
theorem preD_fitA (x : Ins) (regs : Int) (h0 : 0 ≤ regs) : preD x regs = fitA x regs := by
 obtain ⟨op, d, a, b, l⟩ := x
 by_cases hop : op < 0 ∨ op > 22
 ·have e1 : preD ⟨op, d, a, b, l⟩ regs = false := by
   unfold preD
   rw [if_pos (by rcases hop with h | h; exact .inl h; exact .inr (.inl h))]
  have e2 : (partsL op).2 = false := by
   unfold partsL
   repeat (first|rw [if_neg (by omega)])
  rw [e1, fitA]
  show false = ((partsL op).2 && _ && _)
  rw [e2]
  rfl
 ·unfold preD fitA
  rw [← any_outB]
  rcases (by omega : op = 0 ∨ op = 1 ∨ op = 2 ∨ op = 3 ∨ op = 4 ∨ op = 5 ∨ op = 6 ∨ op = 7 ∨ op = 8 ∨ op = 9 ∨ op = 10 ∨ op = 11 ∨ op = 12 ∨ op = 13 ∨ op = 14 ∨ op = 15 ∨ op = 16 ∨ op = 17 ∨ op = 18 ∨ op = 19 ∨ op = 20 ∨ op = 21 ∨ op = 22) with
   rfl | rfl | rfl | rfl | rfl | rfl | rfl | rfl | rfl | rfl | rfl | rfl | rfl | rfl | rfl | rfl | rfl | rfl | rfl | rfl | rfl | rfl | rfl
  all_goals
   simp only [bareB, namedL, givesI, partsL, regB, belB]
   rw [Bool.eq_iff_iff]
   by_cases hl : l = []
   ·subst hl
    simp [outB]
    try omega
   ·by_cases ho : l.any (outB regs) = true
    ·simp [ho, outB, hl]
     try omega
    ·simp [ho, outB, hl]
     try omega
end Go.Cb
namespace Go.Cb
open Go.Proofs
set_option maxRecDepth 100000
set_option maxHeartbeats 4000000
def nxtL (x : Ins) (k : Int) : List Int := (if x.op ≠ 15 ∧ x.op < 19 then [k + 1] else []) ++ ((if x.op = 15 then [x.a] else []) ++ (if x.op = 16 then [x.b] else []))
def insD (c : List Ins) (k : Int) : Ins := c.getD k.toNat Dfl.d
def needF (c : List Ins) (r : Int) : Nat → List Bool → List Int → Bool
 | 0, _, _ => false
 | n + 1, met, todo => if todo = [] then false else
  if met.getD (todo.getLastD 0).toNat false = true then needF c r n met todo.dropLast else
  if (namedL (insD c (todo.getLastD 0))).contains r = true then true else
  needF c r n (met.set (todo.getLastD 0).toNat true) (if givesI (insD c (todo.getLastD 0)) ≠ r then todo.dropLast ++ nxtL (insD c (todo.getLastD 0)) (todo.getLastD 0) else todo.dropLast)
def unmet (met : List Bool) : Nat := met.count false
theorem unmet_set {met : List Bool} {i : Nat} (h : i < met.length) (hm : met.getD i false = false) : unmet (met.set i true) + 1 = unmet met := by
 have h0 : met[i] = false := by rw [List.getD_eq_getElem?_getD, List.getElem?_eq_getElem h] at hm; exact hm
 have hc : 0 < met.count false := List.count_pos_iff.2 (by rw [← h0]; exact List.getElem_mem h)
 unfold unmet
 rw [List.count_set h, h0]
 simp
 omega
def needU (c : List Ins) (r : Int) (frm : List Int) : Bool := needF c r (3 * c.length + frm.length + 1) (List.replicate c.length false) frm
def liveF (c : List Ins) (regs : Nat) (frm : List Int) : List Int := ((List.range regs).map Int.ofNat).filter fun r => needU c r frm
theorem liveF_succ (c : List Ins) (n : Nat) (frm : List Int) : liveF c (n + 1) frm = if needU c n frm = true then liveF c n frm ++ [(n : Int)] else liveF c n frm := by
 unfold liveF
 rw [List.range_succ, List.map_append, List.filter_append]
 by_cases h : needU c n frm = true
 ·rw [if_pos h]
  congr 1
  exact List.filter_cons_of_pos h
 ·rw [if_neg h]
  have : List.filter (fun r => needU c r frm) (List.map Int.ofNat [n]) = [] := List.filter_cons_of_neg h
  rw [this, List.append_nil]
theorem liveF_len (c : List Ins) (n : Nat) (frm : List Int) : (liveF c n frm).length ≤ n := by
 refine Nat.le_trans (List.length_filter_le ..) ?_
 simp
theorem liveF_mem {c : List Ins} {n : Nat} {frm : List Int} {r : Int} (h : r ∈ liveF c n frm) : 0 ≤ r ∧ r < n := by
 unfold liveF at h
 obtain ⟨i, hi, rfl⟩ := List.mem_map.1 (List.mem_filter.1 h).1
 rw [List.mem_range] at hi
 exact ⟨Int.natCast_nonneg i, by show (i : Int) < n; omega⟩
def aftF (c : List Ins) (regs n : Nat) : List (List Int) := (List.range n).map fun k : Nat => liveF c regs (nxtL (insD c k) k)
theorem aftF_succ (c : List Ins) (regs n : Nat) : aftF c regs (n + 1) = aftF c regs n ++ [liveF c regs (nxtL (insD c n) n)] := by
 unfold aftF
 rw [List.range_succ, List.map_append]
 rfl
theorem aftF_len (c : List Ins) (regs n : Nat) : (aftF c regs n).length = n := by simp [aftF]
abbrev aftP (p : Prc) : List (List Int) := aftF p.code p.regs.toNat p.code.length
def begP (p : Prc) : List Int := liveF p.code p.regs.toNat [0]
def begB (p : Prc) : Bool := decide (((begP p).length : Int) > 0) && decide ((begP p).getLastD 0 ≥ p.args)
def sndB (u : Unt) : Bool := chkU u == 0 && !u.procs.any begB
def itfB (c : List Ins) (af : List (List Int)) (a b : Int) : Bool := (c.zip af).any fun q => (givesI q.1 == a && q.2.contains b) || (givesI q.1 == b && q.2.contains a)
def nmdB (c : List Ins) (r : Int) : Bool := c.any fun x => givesI x == r || (namedL x).contains r
def clsB (c : List Ins) (af : List (List Int)) (out : List Int) (r : Nat) (s : Int) : Bool := (List.range r).any fun q => out.getD q 0 == s && itfB c af q r
def srcF (f : Int → Bool) : Nat → Int → Int
 | 0, s => s
 | n + 1, s => if f s = true then srcF f n (s + 1) else s
def sltF (args : Int) (c : List Ins) (af : List (List Int)) : Nat → List Int
 | 0 => []
 | r + 1 => sltF args c af r ++ [if (r : Int) < args then (r : Int) else if nmdB c r = true then srcF (clsB c af (sltF args c af r) r) (r + 1) 0 else -1]
theorem sltF_len (args : Int) (c : List Ins) (af : List (List Int)) : ∀ r, (sltF args c af r).length = r
 | 0 => rfl
 | r + 1 => by rw [sltF, List.length_append, sltF_len args c af r]; rfl
theorem sltF_le (args : Int) (c : List Ins) (af : List (List Int)) : ∀ (r q : Nat), q < r → -1 ≤ (sltF args c af r).getD q 0 ∧ (sltF args c af r).getD q 0 ≤ q
 | 0, q, h => by omega
 | r + 1, q, h => by
  rw [sltF, List.getD_eq_getElem?_getD]
  by_cases hq : q < r
  ·rw [List.getElem?_append_left (by rw [sltF_len]; exact hq), ← List.getD_eq_getElem?_getD]
   exact sltF_le args c af r q hq
  ·obtain rfl : q = r := by omega
   rw [List.getElem?_append_right (by rw [sltF_len]; omega), sltF_len, Nat.sub_self]
   rw [List.getElem?_cons_zero, Option.getD_some]
   show -1 ≤ (if (q : Int) < args then (q : Int) else if nmdB c q = true then srcF (clsB c af (sltF args c af q) q) (q + 1) 0 else -1) ∧ (if (q : Int) < args then (q : Int) else if nmdB c q = true then srcF (clsB c af (sltF args c af q) q) (q + 1) 0 else -1) ≤ (q : Int)
   split
   ·omega
   ·split
    ·have hin : ∀ s : Int, clsB c af (sltF args c af q) q s = true → s < q := fun s hs => by
      unfold clsB at hs
      obtain ⟨i, hi, hb⟩ := List.any_eq_true.1 hs
      rw [List.mem_range] at hi
      rw [Bool.and_eq_true, beq_iff_eq] at hb
      have := sltF_le args c af q i hi
      omega
     have key : ∀ (n : Nat) (s : Int), 0 ≤ s → s ≤ q → srcF (clsB c af (sltF args c af q) q) n s ≤ q ∧ 0 ≤ srcF (clsB c af (sltF args c af q) q) n s := by
      intro n
      induction n with
      | zero => intro s h0 h1; rw [srcF]; exact ⟨h1, h0⟩
      | succ n ih =>
       intro s h0 h1
       rw [srcF]
       split
       ·rename_i hs
        have := hin s hs
        exact ih (s + 1) (by omega) (by omega)
       ·exact ⟨h1, h0⟩
     have := key (q + 1) 0 (by omega) (by omega)
     omega
    ·omega
def renI (x : Ins) (at_ : List Int) : Ins :=
 ⟨x.op, if givesI x ≥ 0 then at_.getD (givesI x).toNat 0 else x.d,
  if x.op = 1 ∨ x.op = 8 ∨ x.op = 10 ∨ x.op = 11 ∨ x.op = 14 ∨ x.op = 16 ∨ x.op = 17 ∨ x.op = 19 ∨ x.op = 22 ∨ x.op = 12 ∨ x.op = 13 then at_.getD x.a.toNat 0 else x.a,
  if x.op = 12 ∨ x.op = 13 ∨ x.op = 18 ∨ x.op = 20 then at_.getD x.b.toNat 0 else x.b, x.l.map fun n => at_.getD n.toNat 0⟩
def putR (l : List Int) (v : Int) : List Int := l.takeWhile (fun x => decide (x < v)) ++ (if (l.dropWhile fun x => decide (x < v)).head? = some v then l.dropWhile (fun x => decide (x < v)) else v :: l.dropWhile fun x => decide (x < v))
theorem putR_len (l : List Int) (v : Int) : (putR l v).length ≤ l.length + 1 := by
 have h := congrArg List.length (List.takeWhile_append_dropWhile (p := fun x => decide (x < v)) (l := l))
 rw [List.length_append] at h
 unfold putR
 rw [List.length_append]
 split
 ·omega
 ·rw [List.length_cons]; omega
theorem takeWhile_r {p : Int → Bool} : ∀ {l : List Int} {k : Nat}, k ≤ l.length → (∀ j (h : j < l.length), j < k → p l[j] = true) → (∀ h : k < l.length, p (l[k]) = false) → l.takeWhile p = l.take k ∧ l.dropWhile p = l.drop k
 | [], k, _, _, _ => by simp
 | x :: l, 0, _, _, h => by
  have := h (by simp)
  simp at this
  simp [List.takeWhile_cons, List.dropWhile_cons, this]
 | x :: l, k + 1, hk, h1, h2 => by
  have h0 := h1 0 (by simp) (by omega)
  simp at h0
  have ih := takeWhile_r (p := p) (l := l) (k := k) (by simpa using hk) (fun j hj hjk => h1 (j + 1) (by simpa using hj) (by omega)) (fun h => h2 (by simpa using h))
  simp [List.takeWhile_cons, List.dropWhile_cons, h0, ih]
def alvF (at_ : List Int) (d : Int) : List Int → List Int → List Int
 | [], out => out
 | a :: l, out => alvF at_ d l (if a ≠ d then putR out (at_.getD a.toNat 0) else out)
abbrev sltP (p : Prc) : List Int := sltF p.args p.code (aftP p) p.regs.toNat
def regsF (at_ : List Int) (s : Int) : Int := at_.foldl (fun s x => max s (x + 1)) s
def colP (p : Prc) : Prc := ⟨p.args, p.rest, regsF (sltP p) p.args, p.code.map fun x => renI x (sltP p), (p.code.zip (aftP p)).map fun q => alvF (sltP p) (givesI q.1) q.2 []⟩
def colU (u : Unt) : Unt := ⟨u.consts, u.procs.map colP⟩
def colR (u : Unt) : Unt × Int := if sndB u = true then (colU u, 0) else (⟨[], []⟩, 5)
def colPV (u : Unt) : PV := .tup [.agg (colR u).1.cells, .int .i64 (colR u).2]
end Go.Cb
namespace Go.Cb
open Go.Proofs
set_option maxRecDepth 100000
set_option maxHeartbeats 4000000
theorem chk_no {u : Unt} (h0 : chkU u = 0) : ∀ p ∈ u.procs, headB p = false ∧ endB p = false ∧ ∀ x ∈ p.code, fitB x p u = true := by
 have h1 : chksU u u.procs 0 = true := by
  unfold chkU at h0
  split at h0
  ·cases h0
  ·split at h0
   ·assumption
   ·cases h0
 exact fun p hp => chksU_mem u u.procs 0 h1 p hp
structure PrF (p : Prc) : Prop where
 rg : 0 ≤ p.regs ∧ p.regs ≤ 20000
 ag : 0 ≤ p.args ∧ p.args ≤ p.regs
 ln : 0 < p.code.length ∧ p.code.length ≤ 50000
 nx : ∀ (k : Nat) (h : k < p.code.length), ∀ j ∈ nxtL p.code[k] k, 0 ≤ j ∧ j < p.code.length
 nm : ∀ x ∈ p.code, ∀ n ∈ namedL x, 0 ≤ n ∧ n < p.regs
 gv : ∀ x ∈ p.code, -1 ≤ givesI x ∧ givesI x < p.regs
 ls : ∀ x ∈ p.code, ∀ n ∈ x.l, 0 ≤ n ∧ n < p.regs
theorem prF {u : Unt} (h0 : chkU u = 0) : ∀ p ∈ u.procs, PrF p := by
 intro p hp
 obtain ⟨h1, h2, h3⟩ := chk_no h0 p hp
 unfold headB at h1
 simp only [Bool.or_eq_false_iff, decide_eq_false_iff_not, beq_eq_false_iff_ne, Bool.and_eq_false_imp] at h1
 have hrg : 0 ≤ p.regs := by omega
 have hpre : ∀ x ∈ p.code, fitA x p.regs = true ∧ fitN x p.code.length u.consts.length u.procs.length = true := fun x hx => by
  have := h3 x hx
  unfold fitB at this
  rwa [Bool.and_eq_true] at this
 have hA : ∀ x ∈ p.code, (namedL x).any (outB p.regs) = false ∧ -1 ≤ givesI x ∧ givesI x < p.regs := fun x hx => by
  have h4 := (hpre x hx).1
  rw [← preD_fitA x p.regs hrg] at h4
  unfold preD at h4
  split at h4
  ·cases h4
  ·split at h4
   ·cases h4
   ·rename_i hq
    split at h4
    ·cases h4
    ·exact ⟨by simpa using hq, by omega, by omega⟩
 refine ⟨⟨hrg, by omega⟩, ⟨by omega, by omega⟩, ⟨by omega, by omega⟩, ?_, ?_, fun x hx => (hA x hx).2, ?_⟩
 ·intro k hk j hj
  have hN := (hpre p.code[k] (List.getElem_mem hk)).2
  unfold endB at h2
  rw [Bool.and_eq_false_imp] at h2
  have hlo : lastOp p = (p.code[p.code.length - 1]'(by omega)).op := by unfold lastOp; rw [List.getD_eq_getElem?_getD, List.getElem?_eq_getElem (by omega)]; rfl
  rw [hlo] at h2
  simp only [bne_iff_ne, Bool.or_eq_false_iff, decide_eq_false_iff_not] at h2
  unfold nxtL at hj
  rw [List.mem_append, List.mem_append] at hj
  rcases hj with hj | hj | hj
  ·split at hj
   ·rename_i hc
    rw [List.mem_singleton] at hj
    subst hj
    by_cases e : k = p.code.length - 1
    ·subst e
     have := h2 hc.1
     omega
    ·omega
   ·cases hj
  ·split at hj
   ·rename_i hc
    rw [List.mem_singleton] at hj
    subst hj
    unfold fitN at hN
    repeat (first|rw [if_neg (by omega)] at hN|rw [if_pos (by omega)] at hN)
    unfold belB at hN
    rw [Bool.and_eq_true, decide_eq_true_eq, decide_eq_true_eq] at hN
    omega
   ·cases hj
  ·split at hj
   ·rename_i hc
    rw [List.mem_singleton] at hj
    subst hj
    unfold fitN at hN
    repeat (first|rw [if_neg (by omega)] at hN|rw [if_pos (by omega)] at hN)
    unfold belB at hN
    rw [Bool.and_eq_true, decide_eq_true_eq, decide_eq_true_eq] at hN
    omega
   ·cases hj
 ·intro x hx n hn
  have := List.any_eq_false.1 (hA x hx).1 n hn
  unfold outB at this
  simp only [Bool.or_eq_true, decide_eq_true_eq, not_or] at this
  omega
 ·intro x hx n hn
  have h4 := (hpre x hx).1
  unfold fitA at h4
  rw [Bool.and_eq_true, Bool.not_eq_true', List.any_eq_false] at h4
  have := h4.2 n hn
  unfold belB at this
  simp only [Bool.not_eq_true', Bool.not_eq_false, Bool.and_eq_true, decide_eq_true_eq] at this
  omega
theorem colU_lim {u : Unt} (h : Lim u) : Lim (colU u) := by
 refine ⟨by show (u.procs.map colP).length ≤ 30; rw [List.length_map]; exact h.1, fun p hp => ?_⟩
 obtain ⟨q, hq, rfl⟩ := List.mem_map.1 hp
 obtain ⟨h1, h2⟩ := h.2 q hq
 refine ⟨by show (q.code.map _).length ≤ 200; rw [List.length_map]; exact h1, fun x hx => ?_⟩
 obtain ⟨y, hy, rfl⟩ := List.mem_map.1 hx
 show (y.l.map _).length ≤ 1000
 rw [List.length_map]
 exact h2 y hy
end Go.Cb
namespace Go.Cb
open Go.Proofs
set_option maxRecDepth 100000
set_option maxHeartbeats 4000000
theorem PAppend.lit {α : Type} {f : α → PV} {l m : List α} {es es2 : List PV} {s by_ : Nat} {e : TypeId} {tk : Option Tok} {t : Tok} {Γ : List Ent} {put : Tok → List Ent} [hp : PickTok Γ t put] [hl : RowOf f es l] [hm : RowOf f es2 m] {K : PV → List Ent → Prop} (hes : es = l.map f) (he : t.e = e)
  (hb : Nat.ble by_ 4096 = true) (h1 : l.length + m.length ≤ 34359738368)
  (k : ∀ t' : Tok, t'.e = e → K (.sl s ((l ++ m).map f) (some t')) (put t')) : PAppend s by_ e (.sl s es (some t)) (.sl s es2 tk) Γ K := by
 subst hes
 exact PAppend.more he hb h1 k
theorem named_c (x : Ins) (hl : x.l.length ≤ 1000000) : ACallP Tryz.prog 34 [.agg x.cells] (.tup [slI (namedL x), .int .i64 (givesI x)]) := by
 have h1 : namedL x = namedL x := rfl
 have h2 : givesI x = givesI x := rfl
 conv at h1 => rhs; unfold namedL
 conv at h2 => rhs; unfold givesI
 refine ACall.of_body tt_ok Tryz.func34 rfl rfl (n := 87) rfl rfl ?_
 conv => whnf
 repeat' (first|((first|((first|(apply zY;intro hg)|apply zZ);first|exact stA|exact stB)|(refine zW ?_ ?_;exact gA)|refine zH rfl ?_|refine zA ?_|refine zI bA ?_|refine zI rfl ?_|refine sB ?_|(refine zO ?_ ?_ ?_;omega;omega)|(refine zP ?_ ?_ ?_;omega;omega)|refine zM rfl ?_|(refine zQ ?_ ?_ ?_;omega;omega)|(refine zR ?_ ?_;omega)|(refine zI ?_ ?_;exact nA)|refine sS ?_|refine sE ?_|refine n0 ?_|refine sD ?_|intro _|refine zG ?_);conv=>whnf)|(refine zX (fun hc => ?_) (fun hc => ?_)<;>(try simp only [SY] at hc)<;>first|omega|(conv=>whnf)))
 all_goals first
  | (refine PAppend.lit (f := PV.int .i64) rfl (by assumption) rfl (by simp only [List.length_cons, List.length_nil]; omega) ?_; intro t9 ht9)
  | skip
 conv => whnf
 repeat' (first|((first|((first|(apply zY;intro hg)|apply zZ);first|exact stA|exact stB)|(refine zW ?_ ?_;exact gA)|refine zH rfl ?_|refine zA ?_|refine zI bA ?_|refine zI rfl ?_|refine sB ?_|(refine zO ?_ ?_ ?_;omega;omega)|(refine zP ?_ ?_ ?_;omega;omega)|refine zM rfl ?_|(refine zQ ?_ ?_ ?_;omega;omega)|(refine zR ?_ ?_;omega)|(refine zI ?_ ?_;exact nA)|refine sS ?_|refine sE ?_|refine n0 ?_|refine sD ?_|intro _|refine zG ?_);conv=>whnf)|(refine zX (fun hc => ?_) (fun hc => ?_)<;>(try simp only [SY] at hc)<;>first|omega|(conv=>whnf)))
 all_goals
  repeat (first|rw [if_neg (by omega)] at h1|rw [if_pos (by omega)] at h1)
  repeat (first|rw [if_neg (by omega)] at h2|rw [if_pos (by omega)] at h2)
  rw [h1, h2]
 all_goals first
  | exact PRet.pure (Wk.tup (.cons (Wk.tok _ _ _) (.cons (Wk.refl _) .nil)))
  | exact PRet.pure (Wk.tup (.cons (Wk.refl _) (.cons (Wk.refl _) .nil)))
  | exact PRet.pure (Wk.tup (.cons slI_nil (.cons (Wk.refl _) .nil)))
theorem bare14_c (x : Ins) (hl : x.l.length ≤ 1000000) : ACallP Tryz.prog 173 [.agg x.cells] (.bool (bareB x)) := by
 have hb : bareB x = bareB x := rfl
 conv at hb => rhs; unfold bareB
 generalize hg : givesI x = g at *
 have hn := named_c x hl
 rw [hg] at hn
 refine ACall.of_body tt_ok Tryz.func173 rfl rfl (n := 82) rfl rfl ?_
 conv => whnf
 repeat' (first|((first|((first|(apply zY;intro hg)|apply zZ);first|exact stA|exact stB|((conv=>whnf);(repeat ((first|(refine zW ?_ ?_;exact gA)|refine pC (hn) wR ?_|intro _);conv=>whnf));first|exact pS|exact pL|exact pE))|(refine zW ?_ ?_;exact gA)|refine zH rfl ?_|refine zA ?_|refine zI bA ?_|refine zI rfl ?_|refine sB ?_|(refine zO ?_ ?_ ?_;omega;omega)|(refine zP ?_ ?_ ?_;omega;omega)|refine zM rfl ?_|(refine zQ ?_ ?_ ?_;omega;omega)|(refine zR ?_ ?_;omega)|(refine zI ?_ ?_;exact nA)|refine sS ?_|refine pC (hn) wR ?_|refine sE ?_|refine n0 ?_|refine sD ?_|intro _|refine zG ?_);conv=>whnf)|(refine zX (fun hc => ?_) (fun hc => ?_)<;>(try simp only [SY] at hc)<;>first|omega|(conv=>whnf)))
 all_goals
  repeat (first|rw [if_neg (by omega)] at hb|rw [if_pos (by omega)] at hb)
  rw [hb]
 all_goals first
  | exact PRet.pure (Wk.ff rfl)
  | exact PRet.pure (Wk.refl _)
end Go.Cb
namespace Go.Cb
open Go.Proofs
set_option maxRecDepth 100000
set_option maxHeartbeats 4000000
theorem namedL_len (x : Ins) : (namedL x).length ≤ x.l.length + 2 := by
 unfold namedL
 repeat (first|(split; simp))
 simp
def insD14 (x : Ins) (p : Prc) (u : Unt) : Bool := preD x p.regs && fitN x p.code.length u.consts.length u.procs.length
theorem ins14_c (x : Ins) (p : Prc) (u : Unt) (hl : x.l.length ≤ 1000000) : ACallP Tryz.prog 122 [.agg x.cells, .agg p.cells, .agg u.cells] (.bool (insD14 x p u)) := by
 have hn : fitN x p.code.length u.consts.length u.procs.length = fitN x p.code.length u.consts.length u.procs.length := rfl
 conv at hn => rhs; unfold fitN
 have hp : preD x p.regs = preD x p.regs := rfl
 conv at hp => rhs; unfold preD
 have hnl := namedL_len x
 have hnm := named_c x hl
 have hbr := bare14_c x hl
 generalize hN : namedL x = nl at *
 generalize hG : givesI x = g at *
 generalize hB : bareB x = bb at *
 refine ACall.of_body tt_ok Tryz.func122 rfl rfl (n := 144) rfl rfl ?_
 conv => whnf
 repeat' (first|((first|((first|(apply zY;intro hg)|apply zZ);first|exact stA|exact stB|((conv=>whnf);(repeat ((first|(refine zW ?_ ?_;exact gA)|refine pC (hbr) wR ?_|refine pC (hnm) wR ?_|intro _);conv=>whnf));first|exact pS|exact pL|exact pE))|(refine zW ?_ ?_;exact gA)|refine zH rfl ?_|refine zA ?_|refine zI bA ?_|refine zI rfl ?_|refine sB ?_|(refine zO ?_ ?_ ?_;omega;omega)|(refine zP ?_ ?_ ?_;omega;omega)|refine zM rfl ?_|(refine zQ ?_ ?_ ?_;omega;omega)|(refine zR ?_ ?_;omega)|(refine zI ?_ ?_;exact nA)|refine sS ?_|refine pC (hbr) wR ?_|refine pC (hnm) wR ?_|refine sE ?_|refine n0 ?_|refine sD ?_|refine PDraw.sP (some 34) rfl [] [] tt_ok mixed ?_|intro _|refine zG ?_);conv=>whnf)|(refine zX (fun hc => ?_) (fun hc => ?_)<;>(try simp only [SY] at hc)<;>first|omega|(conv=>whnf)))
 ·rw [if_pos (by rcases hc with (h | h) | h; exact .inl h; exact .inr (.inl h); exact .inr (.inr h))] at hp
  rw [insD14, hp]
  exact PRet.pure (Wk.ff rfl)
 rw [if_neg (by rintro (h | h | h); omega; omega; rw [h] at hc; simp at hc)] at hp
 refine PLoop.keep [6, 9, 28, 29, 30, 31, 32, 33, 34, 35, 36, 37, 38, 39, 40, 41, 42, 43, 44, 45, 46, 47] (fun i : Nat => [(9, .int .i64 i)]) (fun i => i ≤ nl.length ∧ nl.any (outB p.regs) = (nl.drop i).any (outB p.regs)) (fun i => nl.length - i) 0 ⟨Nat.zero_le _, rfl⟩ wA ?_
 rintro i ⟨hi, he⟩
 conv => whnf
 repeat' (first|((first|((first|(apply zY;intro hg)|apply zZ);first|exact stA|exact stB|((conv=>whnf);(repeat ((first|(refine zW ?_ ?_;exact gA)|refine pC (hbr) wR ?_|refine pC (hnm) wR ?_|intro _);conv=>whnf));first|exact pS|exact pL|exact pE))|(refine zW ?_ ?_;exact gA)|refine zH rfl ?_|refine zA ?_|refine zI bA ?_|refine zI rfl ?_|refine sB ?_|(refine zO ?_ ?_ ?_;omega;omega)|(refine zP ?_ ?_ ?_;omega;omega)|refine zM rfl ?_|(refine zQ ?_ ?_ ?_;omega;omega)|(refine zR ?_ ?_;omega)|(refine zI ?_ ?_;exact nA)|refine sS ?_|refine pC (hbr) wR ?_|refine pC (hnm) wR ?_|refine sE ?_|refine n0 ?_|refine sD ?_|refine PDraw.sP (some 34) rfl [] [] tt_ok mixed ?_|intro _|refine zG ?_);conv=>whnf)|(refine zX (fun hc => ?_) (fun hc => ?_)<;>(try simp only [SY] at hc)<;>first|omega|(conv=>whnf)))
 ·have hil : i < nl.length := by omega
  have hb : outB p.regs nl[i] = true := by unfold outB; simp only [Bool.or_eq_true, decide_eq_true_eq]; omega
  rw [drop_at hil, List.any_cons, hb, Bool.true_or] at he
  rw [if_pos he] at hp
  rw [insD14, hp]
  exact PRet.pure (Wk.ff rfl)
 ·have hil : i < nl.length := by omega
  have hb : outB p.regs nl[i] = false := by unfold outB; simp only [Bool.or_eq_false_iff, decide_eq_false_iff_not]; omega
  rw [drop_at hil, List.any_cons, hb, Bool.false_or] at he
  exact loopTo (i + 1) ⟨by omega, he⟩ (by show nl.length - (i + 1) < nl.length - i; omega) wA
 all_goals
  have he2 : ¬nl.any (outB p.regs) = true := by rw [he, List.drop_of_length_le (by omega)]; simp
  rw [if_neg he2] at hp
 ·rw [if_pos (by omega)] at hp
  rw [insD14, hp]
  exact PRet.pure (Wk.ff rfl)
 all_goals
  rw [if_neg (by omega)] at hp
  repeat (first|rw [if_neg (by omega)] at hn|rw [if_pos (by omega)] at hn)
  have hB : insD14 x p u = fitN x p.code.length u.consts.length u.procs.length := by rw [insD14, hp]; exact Bool.true_and _
  rw [hB, hn]
  exact PRet.pure (by first | exact Wk.refl _ | exact Wk.tt rfl | exact Wk.bool (by rw [Bool.eq_iff_iff]; simp only [Bool.and_eq_true, decide_eq_true_eq]; omega))
end Go.Cb
namespace Go.Cb
open Go.Proofs
set_option maxRecDepth 100000
set_option maxHeartbeats 4000000
theorem check14_c (u : Unt) (hx : ∀ p ∈ u.procs, ∀ x ∈ p.code, x.l.length ≤ 1000000) : ACallP Tryz.prog 67 [.agg u.cells] (.int .i64 (chkU u)) := by
 have hins : ∀ (i k : Nat) (hi : i < u.procs.length) (hk : k < u.procs[i].code.length), ACallP Tryz.prog 122 [.agg u.procs[i].code[k].cells, .agg u.procs[i].cells, .agg u.cells] (.bool (insD14 u.procs[i].code[k] u.procs[i] u)) :=
  fun i k hi hk => ins14_c _ _ _ (hx _ (List.getElem_mem hi) _ (List.getElem_mem hk))
 refine ACall.of_body tt_ok Tryz.func67 rfl rfl (n := 125) rfl rfl ?_
 conv => whnf
 repeat' (first|((first|((first|(apply zY;intro hg)|apply zZ);first|exact stA|exact stB|((conv=>whnf);(repeat ((first|(refine zW ?_ ?_;exact gA)|refine pC (right2D_c _) wR ?_|refine pC (hins _ _ (by omega) (by omega)) wR ?_|intro _);conv=>whnf));first|exact pS|exact pL|exact pE))|(refine zW ?_ ?_;exact gA)|refine zH rfl ?_|refine zA ?_|refine zI bA ?_|refine zI rfl ?_|refine sB ?_|(refine zO ?_ ?_ ?_;omega;omega)|(refine zP ?_ ?_ ?_;omega;omega)|refine zM rfl ?_|(refine zQ ?_ ?_ ?_;omega;omega)|(refine zR ?_ ?_;omega)|(refine zI ?_ ?_;exact nA)|refine sS ?_|refine pC (right2D_c _) wR ?_|refine pC (hins _ _ (by omega) (by omega)) wR ?_|refine sE ?_|refine n0 ?_|refine sD ?_|refine PDraw.sP (some 116) rfl [] [] tt_ok mixed ?_|intro _|refine zG ?_);conv=>whnf)|(refine zX (fun hc => ?_) (fun hc => ?_)<;>(try simp only [SY] at hc)<;>first|omega|(conv=>whnf)))
 ·rw [show chkU u = 5 from if_pos (by simp only [Bool.or_eq_true, decide_eq_true_eq]; exact .inl hc)]
  exact PRet.pure (Wk.refl _)
 refine PLoop.keep [2, 3, 19, 20, 21, 22, 23, 24, 25, 26, 27, 28, 29, 30, 31, 32] (fun i : Nat => [(3, .int .i64 i)]) (fun i => i ≤ u.consts.length ∧ (u.consts.any fun d => !d.rightP 0) = (u.consts.drop i).any fun d => !d.rightP 0) (fun i => u.consts.length - i) 0 ⟨Nat.zero_le _, rfl⟩ wA ?_
 rintro i ⟨hi, he⟩
 conv => whnf
 repeat' (first|((first|((first|(apply zY;intro hg)|apply zZ);first|exact stA|exact stB|((conv=>whnf);(repeat ((first|(refine zW ?_ ?_;exact gA)|refine pC (right2D_c _) wR ?_|refine pC (hins _ _ (by omega) (by omega)) wR ?_|intro _);conv=>whnf));first|exact pS|exact pL|exact pE))|(refine zW ?_ ?_;exact gA)|refine zH rfl ?_|refine zA ?_|refine zI bA ?_|refine zI rfl ?_|refine sB ?_|(refine zO ?_ ?_ ?_;omega;omega)|(refine zP ?_ ?_ ?_;omega;omega)|refine zM rfl ?_|(refine zQ ?_ ?_ ?_;omega;omega)|(refine zR ?_ ?_;omega)|(refine zI ?_ ?_;exact nA)|refine sS ?_|refine pC (right2D_c _) wR ?_|refine pC (hins _ _ (by omega) (by omega)) wR ?_|refine sE ?_|refine n0 ?_|refine sD ?_|refine PDraw.sP (some 116) rfl [] [] tt_ok mixed ?_|intro _|refine zG ?_);conv=>whnf)|(refine zX (fun hc => ?_) (fun hc => ?_)<;>(try simp only [SY] at hc)<;>first|omega|(conv=>whnf)))
 ·have hil : i < u.consts.length := by omega
  rw [drop_at hil, List.any_cons, right_eq, hc, Bool.not_false, Bool.true_or] at he
  rw [show chkU u = 5 from if_pos (by rw [he, Bool.or_true])]
  exact PRet.pure (Wk.refl _)
 ·have hil : i < u.consts.length := by omega
  rw [drop_at hil, List.any_cons, right_eq, hc, Bool.not_true, Bool.false_or] at he
  exact loopTo (i + 1) ⟨by omega, he⟩ (by show u.consts.length - (i + 1) < u.consts.length - i; omega) wA
 rw [List.drop_of_length_le (by omega), List.any_nil] at he
 have h0 : chkU u = if chksU u u.procs 0 = true then 0 else 5 := by
  unfold chkU
  rw [if_neg]
  rw [he, Bool.or_false]
  simp only [Bool.or_eq_true, decide_eq_true_eq]
  omega
 refine PLoop.keep [2, 4, 5, 6, 7, 8, 33, 34, 35, 36, 37, 38, 39, 40, 41, 42, 43, 44, 45, 46, 47, 48, 49, 50, 51, 52, 53, 54, 55, 56, 57, 58, 59, 60, 61, 62, 63, 64, 65, 66, 67, 68, 69, 70, 71, 72, 73, 74, 75, 76, 77, 78, 79, 80, 81, 82, 83, 84, 85, 86, 87, 88, 89, 90, 91, 92, 93, 94, 95, 96, 97, 98, 99, 100, 101, 102, 103, 104, 105, 106, 107, 108, 109, 110, 111, 112, 113, 114, 115, 116, 117, 118, 119, 120, 121, 122, 123, 124] (fun x : Nat × Int => [(4, .int .i64 x.2), (5, .int .i64 x.1)]) (fun x => x.1 ≤ u.procs.length ∧ 0 ≤ x.2 ∧ x.2 ≤ 50000 ∧ chksU u u.procs 0 = chksU u (u.procs.drop x.1) x.2) (fun x => u.procs.length - x.1) (0, 0) ⟨Nat.zero_le _, by omega, by omega, by simp⟩ wA ?_
 rintro ⟨j, all⟩ ⟨hj, ha0, ha1, hk⟩
 dsimp only at hj ha0 ha1 hk ⊢
 conv => whnf
 repeat' (first|((first|((first|(apply zY;intro hg)|apply zZ);first|exact stA|exact stB|((conv=>whnf);(repeat ((first|(refine zW ?_ ?_;exact gA)|refine pC (right2D_c _) wR ?_|refine pC (hins _ _ (by omega) (by omega)) wR ?_|intro _);conv=>whnf));first|exact pS|exact pL|exact pE))|(refine zW ?_ ?_;exact gA)|refine zH rfl ?_|refine zA ?_|refine zI bA ?_|refine zI rfl ?_|refine sB ?_|(refine zO ?_ ?_ ?_;omega;omega)|(refine zP ?_ ?_ ?_;omega;omega)|refine zM rfl ?_|(refine zQ ?_ ?_ ?_;omega;omega)|(refine zR ?_ ?_;omega)|(refine zI ?_ ?_;exact nA)|refine sS ?_|refine pC (right2D_c _) wR ?_|refine pC (hins _ _ (by omega) (by omega)) wR ?_|refine sE ?_|refine n0 ?_|refine sD ?_|refine PDraw.sP (some 116) rfl [] [] tt_ok mixed ?_|intro _|refine zG ?_);conv=>whnf)|(refine zX (fun hc => ?_) (fun hc => ?_)<;>(try simp only [SY] at hc)<;>first|omega|(conv=>whnf)))
 ·have hip : j < u.procs.length := by omega
  have hh : headB u.procs[j] = true := by
   unfold headB
   simp only [Bool.or_eq_true, decide_eq_true_eq, Bool.and_eq_true, beq_iff_eq]
   exact hc
  rw [drop_at hip, chksU, if_pos hh] at hk
  rw [h0, hk]
  exact PRet.pure (Wk.refl _)
 ·have hip : j < u.procs.length := by omega
  have hh : ¬headB u.procs[j] = true := by
   rcases ‹_ ∧ ↑u.procs[j].code.length ≤ (50000 : Int)› with ⟨⟨⟨⟨⟨g1, g2⟩, g3⟩, g4⟩, g5⟩, g6⟩
   unfold headB
   simp only [Bool.or_eq_true, decide_eq_true_eq, Bool.and_eq_true, beq_iff_eq]
   rintro (((((h | h) | h) | ⟨h, k⟩) | h) | h)
   ·omega
   ·omega
   ·omega
   ·rcases g4 with g4 | g4
    ·rw [h] at g4; cases g4
    ·exact g4 k
   ·exact g5 h
   ·omega
  have hlo : lastOp u.procs[j] = (u.procs[j].code[u.procs[j].code.length - 1]'(by omega)).op := by unfold lastOp; rw [List.getD_eq_getElem?_getD, List.getElem?_eq_getElem (by omega)]; rfl
  rw [drop_at hip, chksU, if_neg hh, if_pos (by
   unfold endB
   rw [hlo]
   simp only [Bool.or_eq_true, decide_eq_true_eq, Bool.and_eq_true, bne_iff_ne]
   exact hc)] at hk
  rw [h0, hk]
  exact PRet.pure (Wk.refl _)
 ·have hip : j < u.procs.length := by omega
  have hh : ¬headB u.procs[j] = true := by
   rcases ‹_ ∧ ↑u.procs[j].code.length ≤ (50000 : Int)› with ⟨⟨⟨⟨⟨g1, g2⟩, g3⟩, g4⟩, g5⟩, g6⟩
   unfold headB
   simp only [Bool.or_eq_true, decide_eq_true_eq, Bool.and_eq_true, beq_iff_eq]
   rintro (((((h | h) | h) | ⟨h, k⟩) | h) | h)
   ·omega
   ·omega
   ·omega
   ·rcases g4 with g4 | g4
    ·rw [h] at g4; cases g4
    ·exact g4 k
   ·exact g5 h
   ·omega
  have hlo : lastOp u.procs[j] = (u.procs[j].code[u.procs[j].code.length - 1]'(by omega)).op := by unfold lastOp; rw [List.getD_eq_getElem?_getD, List.getElem?_eq_getElem (by omega)]; rfl
  rw [drop_at hip, chksU, if_neg hh, if_neg (by
   unfold endB
   rw [hlo]
   simp only [Bool.or_eq_true, decide_eq_true_eq, Bool.and_eq_true, bne_iff_ne]
   rintro (h | ⟨h, k⟩) <;> omega)] at hk
  have hrg : 0 ≤ u.procs[j].regs := by omega
  have hB : ∀ x, insD14 x u.procs[j] u = fitB x u.procs[j] u := fun x => by unfold insD14 fitB; rw [preD_fitA x _ hrg]
  refine PLoop.keep [2, 8, 109, 110, 111, 112, 113, 114, 115, 116, 117, 118, 119, 120, 121, 122, 123, 124] (fun k : Nat => [(8, .int .i64 k)]) (fun k => k ≤ u.procs[j].code.length ∧ (u.procs[j].code.any fun x => !fitB x u.procs[j] u) = (u.procs[j].code.drop k).any fun x => !fitB x u.procs[j] u) (fun k => u.procs[j].code.length - k) 0 ⟨Nat.zero_le _, rfl⟩ wA ?_
  rintro k ⟨hkl, hke⟩
  conv => whnf
  repeat' (first|((first|((first|(apply zY;intro hg)|apply zZ);first|exact stA|exact stB|((conv=>whnf);(repeat ((first|(refine zW ?_ ?_;exact gA)|refine pC (right2D_c _) wR ?_|refine pC (hins _ _ (by omega) (by omega)) wR ?_|intro _);conv=>whnf));first|exact pS|exact pL|exact pE))|(refine zW ?_ ?_;exact gA)|refine zH rfl ?_|refine zA ?_|refine zI bA ?_|refine zI rfl ?_|refine sB ?_|(refine zO ?_ ?_ ?_;omega;omega)|(refine zP ?_ ?_ ?_;omega;omega)|refine zM rfl ?_|(refine zQ ?_ ?_ ?_;omega;omega)|(refine zR ?_ ?_;omega)|(refine zI ?_ ?_;exact nA)|refine sS ?_|refine pC (right2D_c _) wR ?_|refine pC (hins _ _ (by omega) (by omega)) wR ?_|refine sE ?_|refine n0 ?_|refine sD ?_|refine PDraw.sP (some 116) rfl [] [] tt_ok mixed ?_|intro _|refine zG ?_);conv=>whnf)|(refine zX (fun hc => ?_) (fun hc => ?_)<;>(try simp only [SY] at hc)<;>first|omega|(conv=>whnf)))
  ·have hkc : k < u.procs[j].code.length := by omega
   rw [hB] at hc
   rw [drop_at hkc, List.any_cons, hc, Bool.not_false, Bool.true_or] at hke
   rw [if_pos hke] at hk
   rw [h0, hk]
   exact PRet.pure (Wk.refl _)
  ·have hkc : k < u.procs[j].code.length := by omega
   rw [hB] at hc
   rw [drop_at hkc, List.any_cons, hc, Bool.not_true, Bool.false_or] at hke
   exact loopTo (k + 1) ⟨by omega, hke⟩ (by show u.procs[j].code.length - (k + 1) < u.procs[j].code.length - k; omega) wA
  ·rw [List.drop_of_length_le (by omega), List.any_nil] at hke
   rw [if_neg (by rw [hke]; simp)] at hk
   exact loopTo (j + 1, all + u.procs[j].code.length) ⟨by show j + 1 ≤ _; omega, by dsimp only; omega, by dsimp only; omega, hk⟩ (by show u.procs.length - (j + 1) < u.procs.length - j; omega) wA
 ·rw [List.drop_of_length_le (by omega), chksU] at hk
  rw [h0, hk]
  exact PRet.pure (Wk.refl _)
end Go.Cb
namespace Go.Cb
open Go.Proofs
set_option maxRecDepth 100000
set_option maxHeartbeats 4000000
end Go.Cb
namespace Go.Cb
open Go.Proofs
set_option maxRecDepth 100000
set_option maxHeartbeats 4000000
instance (priority := high) (a b : Int) : ElOf Mov.pv (.agg [.int .i64 a, .int .i64 b]) ⟨a, b⟩ := ⟨Wk.refl _, WkL.refl _⟩
instance : ElOf PV.bool .btrue true := ⟨Wk.tt rfl, .cons (Wk.tt rfl) .nil⟩
instance : ElOf PV.bool .bfalse false := ⟨Wk.ff rfl, .cons (Wk.ff rfl) .nil⟩
instance : CellsOf PV.bool (fun b => [PV.bool b]) := ⟨fun _ => rfl⟩
theorem Ghost.row {Γ Γ1 : List Ent} {t : Tok} {es es' : List PV} [hp : PickE Γ (.row t es) Γ1] (h : WkR es es') : Ghost Γ (.row t es' :: Γ1) := fun w0 F M w hS => by
 have hS' := hS.perm (hp.p.append_right M)
 have hS' : Sim w0 F (.row t es :: (Γ1 ++ M)) w := by simpa using hS'
 refine ⟨F, Fz.le_refl F, ⟨hS'.below, hS'.fz, fun x hx => ?_, ?_⟩⟩
 ·rcases List.mem_cons.1 hx with rfl | hx
  ·obtain ⟨⟨xs, hown, hr⟩, hes, e2, hfree⟩ := hS'.ent _ (List.mem_cons_self ..)
   exact ⟨⟨xs, hown, h.flat.rep hr⟩, h.sizes hes, h.length ▸ e2, hfree⟩
  ·exact hS'.ent x (List.mem_cons_of_mem _ hx)
 ·have := List.pairwise_cons.1 hS'.sep
  exact List.pairwise_cons.2 ⟨this.1, this.2⟩
theorem wkR_false (n : Nat) : WkR (List.replicate n PV.bfalse) ((List.replicate n false).map PV.bool) := by
 induction n with
 | zero => exact .nil
 | succ n ih => exact .cons (.cons (Wk.ff rfl) .nil) ih
theorem PRow.nilInts {s : Nat} {e : TypeId} {K : PV → Ent → Prop} (k : ∀ t : Tok, t.e = e → t.s = s → K (.ms t) (.row t (([] : List Int).map (PV.int .i64)))) : PRow s [] e K :=
 ⟨by simp, by simp, .inr k⟩
end Go.Cb

