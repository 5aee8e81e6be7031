/-
 Contracts: the document's reader of images: a procedure's code.
 Contracts: many moves at once, one by one.
 Contracts: moves, told one by one.
 Contracts: moves that happen at once, in an order.
 Contracts: a call that ends its procedure, as words; the moves are given.
 Contracts: the image of a unit, its calls moved.
 Plain law: what is written of a unit is read.
 Plain law: other words, other procedures; a word more is too much.
 Plain law: where an image's procedures stand; what is read of each, place by place.
 Plain law: the document's check of an instruction is the program's.
 Contracts: the document's check of a unit.
 Contracts: the document's check of an instruction.
 Contracts: the document's check of a unit is the program's.
 Plain law: moves at once, as the document finds them.
 Contracts: moves at once, the document's.
 Contracts: the document's image: what calls take, how wide a procedure is, an instruction's words.
-/
import Derived.Test.YtklpioocdgfbmaaGreatDoorE6
set_option linter.unusedSimpArgs false
set_option linter.unusedVariables false
namespace Go.Cb
open Go.Proofs
set_option maxRecDepth 100000
set_option maxHeartbeats 4000000
end Go.Cb
namespace Go.Cb
open Go.Proofs
set_option maxRecDepth 100000
set_option maxHeartbeats 4000000
theorem sorted_keys {A : List Int} {s : Lft} (hn : A.Nodup) (h : ∀ z, z ∈ A ↔ z ∈ keysL s) : (A.mergeSort fun x y => decide (x ≤ y)) = keysL s := by
 have h1 : (A.mergeSort fun x y => decide (x ≤ y)).Pairwise (fun x y => decide (x ≤ y) = true) := List.pairwise_mergeSort (by intro a b c; simp; omega) (by intro a b; simp; omega) A
 have h2 : (keysL s).Pairwise (fun x y => decide (x ≤ y) = true) := by
  unfold keysL
  rw [List.pairwise_map]
  exact (keyN_sorted s).imp fun {a b} h => by simp; omega
 have hk : (keysL s).Nodup := by
  unfold keysL
  rw [List.Nodup, List.pairwise_map]
  exact (keyN_sorted s).imp fun {a b} h => by simp; omega
 have hp : (A.mergeSort fun x y => decide (x ≤ y)).Perm (keysL s) := (List.mergeSort_perm A _).trans ((List.perm_ext_iff_of_nodup hn hk).2 h)
 exact hp.eq_of_pairwise (fun a b _ _ h1 h2 => by simp at h1 h2; omega) h1 h2
abbrev frR (s : Lft) : PV := match freeF s with
 | some i => .tup [.int .i64 i, .btrue]
 | none => .tup [.int .i64 (hdN s), .bfalse]
theorem nodup_le15 : ∀ {A B : List Int}, A.Nodup → (∀ z ∈ A, z ∈ B) → A.length ≤ B.length
 | [], _, _, _ => Nat.zero_le _
 | a :: A, B, h, hs => by
  rw [List.nodup_cons] at h
  have := nodup_le15 (A := A) (B := B.erase a) h.2 fun z hz => (List.mem_erase_of_ne (by rintro rfl; exact h.1 hz)).2 (hs z (by simp [hz]))
  rw [List.length_erase_of_mem (hs a (by simp))] at this
  have h0 : 0 < B.length := List.length_pos_of_mem (hs a (by simp))
  rw [List.length_cons]
  omega
theorem Shift.ghost {x : PV} {Γ Γ' : List Ent} (hg : Ghost Γ Γ') : Shift x Γ x Γ' := fun w0 F M w v hS hx => by
 obtain ⟨F', h1, h2⟩ := hg w0 F M w hS
 exact ⟨F', h1, h2, Rep.mono h1 x v hx⟩
theorem PRet.ghost {x : PV} {Γ Γ' : List Ent} {Q : PV → List Ent → Prop} (hg : Ghost Γ Γ') (h : PRet x Γ' Q) : PRet x Γ Q := by
 obtain ⟨y, Γ2, h1, h2⟩ := h
 exact ⟨y, Γ2, Shift.trans (Shift.ghost hg) h1, h2⟩
theorem Ghost.nilRowN (Γ : List Ent) : Ghost Γ (.row (nilTok 1 3) (([] : List Int).map (PV.int .i64)) :: Γ) := Ghost.nilRow _ _ _
theorem find_at {α : Type} {p : α → Bool} : ∀ (l : List α) (j : Nat) (hj : j < l.length), (∀ i (h : i < j), p (l[i]'(by omega)) = false) → p l[j] = true → l.find? p = some l[j]
 | [], j, hj, _, _ => absurd hj (by simp)
 | x :: l, 0, hj, _, hp => by rw [List.getElem_cons_zero, List.find?_cons_of_pos (by simpa using hp)]
 | x :: l, j + 1, hj, h, hp => by
  rw [List.find?_cons_of_neg (by have := h 0 (by omega); simpa using this), List.getElem_cons_succ]
  exact find_at l j (by simpa using hj) (fun i hi => by have := h (i + 1) (by omega); simpa using this) (by simpa using hp)
theorem keysL_get {s : Lft} {j : Nat} (h : j < (keysL s).length) : (keysL s)[j] = ((keyN s)[j]'(by simpa [keysL] using h) : Nat) := by simp [keysL]
theorem filt_lt15 {α : Type} {p q : α → Bool} (h : ∀ x, q x = true → p x = true) : ∀ l : List α, (∃ x ∈ l, p x = true ∧ q x = false) → (l.filter q).length < (l.filter p).length
 | [], ⟨x, hx, _⟩ => by cases hx
 | y :: l, ⟨x, hx, h1, h2⟩ => by
  have hle : ∀ l : List α, (l.filter q).length ≤ (l.filter p).length := by
   intro l
   induction l with
   | nil => simp
   | cons z l ih =>
    by_cases hq : q z = true
    ·rw [List.filter_cons_of_pos hq, List.filter_cons_of_pos (h z hq)]; simp; exact ih
    ·rw [List.filter_cons_of_neg hq]
     by_cases hp : p z = true
     ·rw [List.filter_cons_of_pos hp]; simp; omega
     ·rw [List.filter_cons_of_neg hp]; exact ih
  rcases List.mem_cons.1 hx with rfl | hx
  ·rw [List.filter_cons_of_neg (by simp [h2]), List.filter_cons_of_pos h1]
   have := hle l
   simp; omega
  ·have ih := filt_lt15 h l ⟨x, hx, h1, h2⟩
   by_cases hq : q y = true
   ·rw [List.filter_cons_of_pos hq, List.filter_cons_of_pos (h y hq)]; simp; exact ih
   ·rw [List.filter_cons_of_neg hq]
    by_cases hp : p y = true
    ·rw [List.filter_cons_of_pos hp]; simp; omega
    ·rw [List.filter_cons_of_neg hp]; exact ih
theorem free15_c (r : Nat) (s : Lft) (hk : keyN s ≠ []) (hl : s.length ≤ 1000) : ACall Tryz.prog 235 [.mp r] [.mp r (.int .i64) (mapM (PV.int .i64) (mvM s)) []]
  (fun y Γ' => y = frR s ∧ Γ' = [.mp r (.int .i64) (mapM (PV.int .i64) (mvM s)) []]) := by
 have hkl : (keysL s).length = (keyN s).length := by simp [keysL]
 have hkn := keyN_len s
 have hk0 : 0 < (keyN s).length := List.length_pos_iff.2 hk
 refine ACall.of_body tt_ok Tryz.func235 rfl rfl (n := 41) rfl rfl ?_
 conv => whnf
 repeat' (first|((first|((first|(apply zY;intro hg)|apply zZ);first|exact stA|exact stB|exact stC)|(refine zW ?_ ?_;exact gA)|refine zH rfl ?_|refine zA ?_|refine zI bA ?_|refine zI rfl ?_|refine sB ?_|(refine zO ?_ ?_ ?_;omega;omega)|(refine zP ?_ ?_ ?_;omega;omega)|refine zM rfl ?_|(refine zQ ?_ ?_ ?_;omega;omega)|(refine zR ?_ ?_;omega)|(refine zI ?_ ?_;exact nA)|refine sS ?_|refine sF ?_|refine n0 ?_|refine sD ?_|intro _|refine zG ?_);conv=>whnf)|(refine zX (fun hc => ?_) (fun hc => ?_)<;>(try simp only [SY] at hc)<;>first|omega|(conv=>whnf)))
 rename_i r2
 rw [setM_nil]
 refine PRangeM.num fun bI all cl hAll hcl => ?_
 conv => whnf
 repeat' (first|((first|((first|(apply zY;intro hg)|apply zZ);first|exact stA|exact stB|exact stC)|(refine zW ?_ ?_;exact gA)|refine zH rfl ?_|refine zA ?_|refine zI bA ?_|refine zI rfl ?_|refine sB ?_|(refine zO ?_ ?_ ?_;omega;omega)|(refine zP ?_ ?_ ?_;omega;omega)|refine zM rfl ?_|(refine zQ ?_ ?_ ?_;omega;omega)|(refine zR ?_ ?_;omega)|(refine zI ?_ ?_;exact nA)|refine sS ?_|refine sF ?_|refine n0 ?_|refine sD ?_|intro _|refine zG ?_);conv=>whnf)|(refine zX (fun hc => ?_) (fun hc => ?_)<;>(try simp only [SY] at hc)<;>first|omega|(conv=>whnf)))
 refine PLoop.ghost (Ghost.nilRowN _) ?_
 refine PLoop.over [5, 6, 7, 13, 14, 15, 16, 17, 18, 19, 20, 21, 22, 23] (fun x : Array Nat × List Int × List Int × Tok => [(5, .ms x.2.2.2)])
  (fun x => .ob bI (itO r cl x.1) [] [] :: .mp r (.int .i64) (mapM (PV.int .i64) (mvM s)) (pdI cl all) :: .mp r2 (.int .i64) (setM x.2.1) [] :: .row x.2.2.2 (x.2.2.1.map (PV.int .i64)) :: [])
  (fun x => x.2.2.2.e = 3 ∧ x.2.2.2.s = 1 ∧ x.2.2.1.Nodup ∧ (∀ z, z ∈ x.2.2.1 ↔ ∃ n, n ∈ x.1.toList ∧ (n, z) ∈ all) ∧ (∀ z, z ∈ x.2.1 ↔ ∃ n k, n ∈ x.1.toList ∧ (n, k) ∈ all ∧ mvM s k = some z)) (fun x => (all.filter fun q => decide (q.1 ∉ x.1.toList)).length) (#[], [], [], nilTok 1 3) ⟨rfl, rfl, by simp, by simp, by simp⟩ (by repeat' (first|exact trivial|refine And.intro ?_ ?_|exact Wk.nilRow _ _|exact Wk.nilTok _ _|exact Wk.refl _)) ?_
 rintro ⟨seen, W, A, ta⟩ ⟨ha1, ha2, hnd, hA, hW⟩
 dsimp only at ha1 ha2 hnd hA hW ⊢
 have hsub : ∀ z ∈ A, z ∈ keysL s := fun z hz => by
  obtain ⟨n, _, hn⟩ := (hA z).1 hz
  exact mvM_dom.1 ((hAll.dom z).2 ⟨n, hn⟩)
 have hAl : A.length ≤ 1000 := by
  have := nodup_le15 hnd hsub
  omega
 conv => whnf
 repeat' (first|((first|((first|(apply zY;intro hg)|apply zZ);first|exact stA|exact stB|exact stC)|(refine zW ?_ ?_;exact gA)|refine zH rfl ?_|refine zA ?_|refine zI bA ?_|refine zI rfl ?_|refine sB ?_|(refine zO ?_ ?_ ?_;omega;omega)|(refine zP ?_ ?_ ?_;omega;omega)|refine zM rfl ?_|(refine zQ ?_ ?_ ?_;omega;omega)|(refine zR ?_ ?_;omega)|(refine zI ?_ ?_;exact nA)|refine sS ?_|refine sF ?_|refine n0 ?_|refine sD ?_|intro _|refine zG ?_);conv=>whnf)|(refine zX (fun hc => ?_) (fun hc => ?_)<;>(try simp only [SY] at hc)<;>first|omega|(conv=>whnf)))
 refine PNextM.num hAll hcl (fun n z y hn hz hs => ?_) (fun hs => ?_)
 ·conv => whnf
  repeat' (first|((first|((first|(apply zY;intro hg)|apply zZ);first|exact stA|exact stB|exact stC)|(refine zW ?_ ?_;exact gA)|refine zH rfl ?_|refine zA ?_|refine zI bA ?_|refine zI rfl ?_|refine sB ?_|(refine zO ?_ ?_ ?_;omega;omega)|(refine zP ?_ ?_ ?_;omega;omega)|refine zM rfl ?_|(refine zQ ?_ ?_ ?_;omega;omega)|(refine zR ?_ ?_;omega)|(refine zI ?_ ?_;exact nA)|refine sS ?_|refine sF ?_|refine n0 ?_|refine sD ?_|intro _|refine zG ?_);conv=>whnf)|(refine zX (fun hc => ?_) (fun hc => ?_)<;>(try simp only [SY] at hc)<;>first|omega|(conv=>whnf)))
  refine PEntryM.num z y hn hz ?_
  conv => whnf
  repeat' (first|((first|((first|(apply zY;intro hg)|apply zZ);first|exact stA|exact stB|exact stC)|(refine zW ?_ ?_;exact gA)|refine zH rfl ?_|refine zA ?_|refine zI bA ?_|refine zI rfl ?_|refine sB ?_|(refine zO ?_ ?_ ?_;omega;omega)|(refine zP ?_ ?_ ?_;omega;omega)|refine zM rfl ?_|(refine zQ ?_ ?_ ?_;omega;omega)|(refine zR ?_ ?_;omega)|(refine zI ?_ ?_;exact nA)|refine sS ?_|refine sF ?_|refine n0 ?_|refine sD ?_|intro _|refine zG ?_);conv=>whnf)|(refine zX (fun hc => ?_) (fun hc => ?_)<;>(try simp only [SY] at hc)<;>first|omega|(conv=>whnf)))
  rename_i t2 ht2 hs2
  refine loopTo (seen.push n, y :: W, A ++ [z], t2) ⟨ht2, hs2, ?_, fun k => ?_, fun k => ?_⟩ ?_ wA
  ·show (A ++ [z]).Nodup
   rw [List.nodup_append]
   refine ⟨hnd, by simp, ?_⟩
   rintro a ha b hb rfl
   rw [List.mem_singleton] at hb
   subst hb
   obtain ⟨n2, q1, q2⟩ := (hA a).1 ha
   have := nodup_inj hAll.nk hn q2 rfl
   cases this
   exact hs q1
  ·show k ∈ A ++ [z] ↔ _
   rw [List.mem_append, List.mem_singleton, hA]
   simp only [Array.toList_push, List.mem_append, List.mem_singleton]
   constructor
   ·rintro (⟨n2, q1, q2⟩ | rfl)
    ·exact ⟨n2, .inl q1, q2⟩
    ·exact ⟨n, .inr rfl, hn⟩
   ·rintro ⟨n2, q1 | rfl, q2⟩
    ·exact .inl ⟨n2, q1, q2⟩
    ·have := nodup_inj hAll.nb hn q2 rfl
     cases this
     exact .inr rfl
  ·show k ∈ y :: W ↔ _
   rw [List.mem_cons, hW]
   simp only [Array.toList_push, List.mem_append, List.mem_singleton]
   constructor
   ·rintro (rfl | ⟨n2, k2, q1, q2, q3⟩)
    ·exact ⟨n, z, .inr rfl, hn, hz⟩
    ·exact ⟨n2, k2, .inl q1, q2, q3⟩
   ·rintro ⟨n2, k2, q1 | rfl, q2, q3⟩
    ·exact .inr ⟨n2, k2, q1, q2, q3⟩
    ·have := nodup_inj hAll.nb hn q2 rfl
     cases this
     rw [hz] at q3
     cases q3
     exact .inl rfl
  ·refine filt_lt15 (fun q hq => ?_) all ⟨(n, z), hn, by simpa using hs, by simp⟩
   simp only [Array.toList_push, List.mem_append, List.mem_singleton, not_or, decide_eq_true_eq] at hq ⊢
   exact hq.1
 ·have hAk : ∀ z, z ∈ A ↔ z ∈ keysL s := fun z => by
   rw [hA, ← mvM_dom, hAll.dom]
   exact ⟨fun ⟨n, _, h⟩ => ⟨n, h⟩, fun ⟨n, h⟩ => ⟨n, hs _ h, h⟩⟩
  have hWk : ∀ z, W.contains z = usedB s z := fun z => by
   rw [Bool.eq_iff_iff, List.contains_iff_mem, hW, used_iff]
   constructor
   ·rintro ⟨n, k, _, _, h⟩
    exact ⟨k, h⟩
   ·rintro ⟨k, h⟩
    obtain ⟨n, hn⟩ := (hAll.dom k).1 (by rw [h]; simp)
    exact ⟨n, k, hs _ hn, hn, h⟩
  conv => whnf
  repeat' (first|((first|((first|(apply zY;intro hg)|apply zZ);first|exact stA|exact stB|exact stC)|(refine zW ?_ ?_;exact gA)|refine zH rfl ?_|refine zA ?_|refine zI bA ?_|refine zI rfl ?_|refine sB ?_|(refine zO ?_ ?_ ?_;omega;omega)|(refine zP ?_ ?_ ?_;omega;omega)|refine zM rfl ?_|(refine zQ ?_ ?_ ?_;omega;omega)|(refine zR ?_ ?_;omega)|(refine zI ?_ ?_;exact nA)|refine sS ?_|refine sF ?_|refine n0 ?_|refine sD ?_|intro _|refine zG ?_);conv=>whnf)|(refine zX (fun hc => ?_) (fun hc => ?_)<;>(try simp only [SY] at hc)<;>first|omega|(conv=>whnf)))
  refine PCall.go (sort_c ta A ha2 (by omega)) (WkT.refl _) ?_
  rintro _ _ ⟨rfl, rfl⟩
  rw [sorted_keys hnd hAk]
  conv => whnf
  repeat' (first|((first|((first|(apply zY;intro hg)|apply zZ);first|exact stA|exact stB|exact stC)|(refine zW ?_ ?_;exact gA)|refine zH rfl ?_|refine zA ?_|refine zI bA ?_|refine zI rfl ?_|refine sB ?_|(refine zO ?_ ?_ ?_;omega;omega)|(refine zP ?_ ?_ ?_;omega;omega)|refine zM rfl ?_|(refine zQ ?_ ?_ ?_;omega;omega)|(refine zR ?_ ?_;omega)|(refine zI ?_ ?_;exact nA)|refine sS ?_|refine sF ?_|refine n0 ?_|refine sD ?_|intro _|refine zG ?_);conv=>whnf)|(refine zX (fun hc => ?_) (fun hc => ?_)<;>(try simp only [SY] at hc)<;>first|omega|(conv=>whnf)))
  refine PLenM.map fun _ => ?_
  conv => whnf
  repeat' (first|((first|((first|(apply zY;intro hg)|apply zZ);first|exact stA|exact stB|exact stC)|(refine zW ?_ ?_;exact gA)|refine zH rfl ?_|refine zA ?_|refine zI bA ?_|refine zI rfl ?_|refine sB ?_|(refine zO ?_ ?_ ?_;omega;omega)|(refine zP ?_ ?_ ?_;omega;omega)|refine zM rfl ?_|(refine zQ ?_ ?_ ?_;omega;omega)|(refine zR ?_ ?_;omega)|(refine zI ?_ ?_;exact nA)|refine sS ?_|refine sF ?_|refine n0 ?_|refine sD ?_|intro _|refine zG ?_);conv=>whnf)|(refine zX (fun hc => ?_) (fun hc => ?_)<;>(try simp only [SY] at hc)<;>first|omega|(conv=>whnf)))
  refine PLoop.over [2, 3, 9, 28, 29, 30, 31, 32, 33, 34, 35, 36, 37] (fun x : Nat => [(28, .int .i64 x)])
   (fun x => .row ta ((keysL s).map (PV.int .i64)) :: .mp r2 (.int .i64) (setM W) [] :: .mp r (.int .i64) (mapM (PV.int .i64) (mvM s)) (pdI cl all) :: [])
   (fun x => x ≤ (keysL s).length ∧ ∀ i (h : i < x) (h2 : i < (keyN s).length), usedB s ((keyN s)[i] : Nat) = true) (fun x => (keysL s).length - x) 0 ⟨Nat.zero_le _, fun i h => absurd h (by omega)⟩ wA ?_
  rintro j ⟨hj, hu⟩
  conv => whnf
  repeat' (first|((first|((first|(apply zY;intro hg)|apply zZ);first|exact stA|exact stB|exact stC)|(refine zW ?_ ?_;exact gA)|refine zH rfl ?_|refine zA ?_|refine zI bA ?_|refine zI rfl ?_|refine sB ?_|(refine zO ?_ ?_ ?_;omega;omega)|(refine zP ?_ ?_ ?_;omega;omega)|refine zM rfl ?_|(refine zQ ?_ ?_ ?_;omega;omega)|(refine zR ?_ ?_;omega)|(refine zI ?_ ?_;exact nA)|refine sS ?_|refine sF ?_|refine n0 ?_|refine sD ?_|intro _|refine zG ?_);conv=>whnf)|(refine zX (fun hc => ?_) (fun hc => ?_)<;>(try simp only [SY] at hc)<;>first|omega|(conv=>whnf)))
  ·have hjn : j < (keyN s).length := by omega
   rw [hWk, keysL_get] at hc
   refine PRet.ghost (Γ' := [.row ta ((keysL s).map (PV.int .i64)), .mp r2 (.int .i64) (setM W) [], .mp r (.int .i64) (mapM (PV.int .i64) (mvM s)) []]) (Ghost.pendE r) ?_
   have hf : freeF s = some (keyN s)[j] := find_at _ j hjn (fun i hi => by rw [hu i hi (by omega)]; rfl) (by rw [hc]; rfl)
   rw [keysL_get]
   exact PRet.gen (y := frR s) (by rw [frR, hf]; exact Wk.refl _) ⟨rfl, rfl⟩
  ·rw [hWk, keysL_get] at hc
   exact loopTo (j + 1) ⟨by omega, fun i hi h2 => by
    rcases Nat.lt_succ_iff_lt_or_eq.1 hi with hi | rfl
    ·exact hu i hi h2
    ·exact hc⟩ (by show (keysL s).length - (j + 1) < (keysL s).length - j; omega) wA
  ·refine PRet.ghost (Γ' := [.row ta ((keysL s).map (PV.int .i64)), .mp r2 (.int .i64) (setM W) [], .mp r (.int .i64) (mapM (PV.int .i64) (mvM s)) []]) (Ghost.pendE r) ?_
   have hf : freeF s = none := by
    unfold freeF
    rw [List.find?_eq_none]
    intro x hx
    obtain ⟨i, hi, rfl⟩ := List.getElem_of_mem hx
    rw [hu i (by omega) hi]
    simp
   rw [keysL_get]
   have hh : (keyN s)[0] = hdN s := by
    unfold hdN
    generalize keyN s = l at hk0
    cases l with
    | nil => simp at hk0
    | cons a l => rfl
   rw [hh]
   exact PRet.gen (y := frR s) (by rw [frR, hf]; exact Wk.refl _) ⟨rfl, rfl⟩
end Go.Cb
namespace Go.Cb
open Go.Proofs
set_option maxRecDepth 100000
set_option maxHeartbeats 4000000
abbrev mvE (r : Nat) (s : Lft) : Ent := .mp r (.int .i64) (mapM (PV.int .i64) (mvM s)) []
abbrev movP (m : Mov) : PV := .agg m.cells
theorem mvM_set {s : Lft} {i : Nat} (z : Int) : mvM (s.set i none) z = if z = (i : Int) then none else mvM s z := by
 unfold mvM
 by_cases e : z = (i : Int)
 ·subst e
  rw [if_pos rfl, if_pos (by omega), Int.toNat_natCast, List.getD_eq_getElem?_getD, List.getElem?_set, if_pos rfl]
  split <;> rfl
 ·rw [if_neg e]
  by_cases h : 0 ≤ z
  ·rw [if_pos h, if_pos h, List.getD_eq_getElem?_getD, List.getElem?_set, if_neg (by omega), List.getD_eq_getElem?_getD]
  ·rw [if_neg h, if_neg h]
theorem mvM_put (sp h : Int) (s : Lft) (z : Int) : mvM (putL sp h s) z = if mvM s z = some h then some sp else mvM s z := by
 unfold mvM putL
 split
 ·rw [List.getD_eq_getElem?_getD, List.getElem?_map, List.getD_eq_getElem?_getD]
  cases s[z.toNat]? with
  | none => simp
  | some o => simp
 ·simp
theorem PMapDel.mv {r : Nat} {s : Lft} {i : Nat} {Γ : List Ent} {pend : List (Int × Value)} {put : (Value → Option PV) → List (Int × Value) → List Ent} [hp : PickMp Γ r (.int .i64) (mapM (PV.int .i64) (mvM s)) pend put] {K : List Ent → Prop} (h : K (put (mapM (PV.int .i64) (mvM (s.set i none))) [])) :
  PMapDel r (.int .i64) (some (.int .i64 (i : Int))) Γ K :=
 PMapDel.at_ (hp := hp) (mapM (PV.int .i64) (mvM (s.set i none))) (by simp [MapKept.IsKey]) (by simp [mapM, mvM_set]) (fun k hk => by
  unfold mapM
  split
  ·rename_i z
   rw [mvM_set, if_neg (fun e => hk (by rw [e]))]
  ·rfl) h
theorem PYield.ghost {P : Program} {l : Nat} {args : List PV} {Γ Γ' : List Ent} {K : PV → List Ent → Prop} (hg : Ghost Γ Γ') (h : PYield P l args Γ' K) : PYield P l args Γ K :=
 ⟨fun w0 F M w vs hS hT => by
  obtain ⟨F1, a1, a2⟩ := hg w0 F M w hS
  obtain ⟨fn, tmps, asg, bd, e1, e2⟩ := h.h w0 F1 M w vs a2 (RepT.mono a1 _ _ hT)
  refine ⟨fn, tmps, asg, bd, e1, e2.mono ?_⟩
  rintro e w' ⟨v, F', y, Γ2, e1, e2, e3⟩
  exact ⟨v, F', y, Γ2, e1, Fz.le_trans a1 e2, e3⟩⟩
theorem come_step {α : Type} {m : Int → Option α} {all : List (Nat × Int)} (hAll : AllI m all) {seen : Array Nat} {n2 : Nat} {z : Int} (hn2 : (n2, z) ∈ all) {m1 m2 F m3 : Int → Option Int} (h1 : ∀ k, (∃ n, n ∈ seen.toList ∧ (n, k) ∈ all) → m2 k = F k) (h2 : ∀ k, (¬∃ n, n ∈ seen.toList ∧ (n, k) ∈ all) → m2 k = m1 k) (h3 : m3 z = F z) (h4 : ∀ k, k ≠ z → m3 k = m2 k) :
  (∀ k, (∃ n, n ∈ (seen.push n2).toList ∧ (n, k) ∈ all) → m3 k = F k) ∧ (∀ k, (¬∃ n, n ∈ (seen.push n2).toList ∧ (n, k) ∈ all) → m3 k = m1 k) := by
 refine ⟨fun k hk => ?_, fun k hk => ?_⟩
 ·by_cases e : k = z
  ·rw [e, h3]
  ·rw [h4 k e]
   obtain ⟨n, q1, q2⟩ := hk
   refine h1 k ⟨n, ?_, q2⟩
   simp only [Array.toList_push, List.mem_append, List.mem_singleton] at q1
   rcases q1 with q1 | q1
   ·exact q1
   ·exfalso
    have := nodup_inj hAll.nb hn2 q2 q1.symm
    exact e (congrArg Prod.snd this).symm
 ·have e : k ≠ z := fun e => hk ⟨n2, by simp, by rw [e]; exact hn2⟩
  rw [h4 k e]
  exact h2 k fun ⟨n, q1, q2⟩ => hk ⟨n, by simp only [Array.toList_push, List.mem_append]; exact .inl q1, q2⟩
theorem come_less {all : List (Nat × Int)} {seen : Array Nat} {n2 : Nat} {z : Int} (hn2 : (n2, z) ∈ all) (hs : n2 ∉ seen.toList) : (all.filter fun q => decide (q.1 ∉ (seen.push n2).toList)).length < (all.filter fun q => decide (q.1 ∉ seen.toList)).length := by
 refine filt_lt15 (fun q hq => ?_) all ⟨(n2, z), hn2, by simpa using hs, by simp⟩
 simp only [Array.toList_push, List.mem_append, List.mem_singleton, not_or, decide_eq_true_eq] at hq ⊢
 exact hq.1
theorem told1_c (b1 b2 r : Nat) (n : Nat) (sp : Int) (s : Lft) (hsp : (s.length : Int) ≤ sp) (hl : s.length ≤ 1000) (hm : measL s ≤ n) (hn : n ≤ 1000000) :
  AIter Tryz.prog 234 [.ptr b1 0, .ptr b2 0] [.box b1 [.mp r], .box b2 [.int .i64 sp], mvE r s] ((movL n sp s).map fun m => [movP m]) := by
 intro l J X hy Γ hJ
 refine ACall.ghost (Ghost.drop (Γ' := .box b1 [.mp r] :: .box b2 [.int .i64 sp] :: mvE r s :: Γ) (Γ1 := []) (by rw [List.append_nil]; exact List.perm_append_comm (l₂ := [_, _, _]))) ?_
 refine ACall.of_body tt_ok Tryz.func234 rfl rfl (n := 45) rfl rfl ?_
 conv => whnf
 repeat' (first|((first|((first|(apply zY;intro hg)|apply zZ);first|exact stA|exact stB|exact stC)|(refine zW ?_ ?_;exact gA)|refine zH rfl ?_|refine zA ?_|refine zI bA ?_|refine zI rfl ?_|refine sB ?_|(refine zO ?_ ?_ ?_;omega;omega)|(refine zP ?_ ?_ ?_;omega;omega)|refine zM rfl ?_|(refine zQ ?_ ?_ ?_;omega;omega)|(refine zR ?_ ?_;omega)|(refine zI ?_ ?_;exact nA)|refine sS ?_|refine sF ?_|refine n0 ?_|refine sD ?_|intro _|refine zG ?_);conv=>whnf)|(refine zX (fun hc => ?_) (fun hc => ?_)<;>(try simp only [SY] at hc)<;>first|omega|(conv=>whnf)))
 refine PLoop.over [4, 5, 6, 7, 8, 9, 10, 11, 12, 13, 14, 15, 16, 17, 18, 19, 20, 21, 22, 23, 24, 25, 26, 27, 28, 29, 30, 31, 32, 33, 34, 35, 36, 37, 38, 39, 40, 41, 42, 43, 44] (fun x : Nat × Nat × Lft × List Ent => [])
  (fun x => .box b1 [.mp r] :: .box b2 [.int .i64 sp] :: mvE r x.2.2.1 :: x.2.2.2)
  (fun x => x.2.2.1.length = s.length ∧ measL x.2.2.1 ≤ x.2.1 ∧ J x.1 x.2.2.2 ∧ (movL n sp s).drop x.1 = movL x.2.1 sp x.2.2.1 ∧ x.1 + (movL x.2.1 sp x.2.2.1).length = (movL n sp s).length) (fun x => measL x.2.2.1) (0, n, s, Γ) ⟨rfl, hm, hJ, rfl, by simp⟩ wA ?_
 rintro ⟨k, f, s1, Γ1⟩ ⟨h1, h2, h3, h4, h5⟩
 dsimp only at h1 h2 h3 h4 h5 ⊢
 conv => whnf
 repeat' (first|((first|((first|(apply zY;intro hg)|apply zZ);first|exact stA|exact stB|exact stC)|(refine zW ?_ ?_;exact gA)|refine zH rfl ?_|refine zA ?_|refine zI bA ?_|refine zI rfl ?_|refine sB ?_|(refine zO ?_ ?_ ?_;omega;omega)|(refine zP ?_ ?_ ?_;omega;omega)|refine zM rfl ?_|(refine zQ ?_ ?_ ?_;omega;omega)|(refine zR ?_ ?_;omega)|(refine zI ?_ ?_;exact nA)|refine sS ?_|refine sF ?_|refine n0 ?_|refine sD ?_|intro _|refine zG ?_);conv=>whnf)|(refine zX (fun hc => ?_) (fun hc => ?_)<;>(try simp only [SY] at hc)<;>first|omega|(conv=>whnf)))
 refine PLenP.num fun c hcn => ?_
 conv => whnf
 repeat' (first|((first|((first|(apply zY;intro hg)|apply zZ);first|exact stA|exact stB|exact stC)|(refine zW ?_ ?_;exact gA)|refine zH rfl ?_|refine zA ?_|refine zI bA ?_|refine zI rfl ?_|refine sB ?_|(refine zO ?_ ?_ ?_;omega;omega)|(refine zP ?_ ?_ ?_;omega;omega)|refine zM rfl ?_|(refine zQ ?_ ?_ ?_;omega;omega)|(refine zR ?_ ?_;omega)|(refine zI ?_ ?_;exact nA)|refine sS ?_|refine sF ?_|refine n0 ?_|refine sD ?_|intro _|refine zG ?_);conv=>whnf)|(refine zX (fun hc => ?_) (fun hc => ?_)<;>(try simp only [SY] at hc)<;>first|omega|(conv=>whnf)))
 ·have hk : keyN s1 ≠ [] := fun h => by rw [(hcn.2 (mvM_none.2 h))] at hc; omega
  have hms := meas_step (sp := sp) (s := s1) (by omega) hk
  have hf : 0 < f := by omega
  obtain ⟨f, rfl⟩ : ∃ g, f = g + 1 := ⟨f - 1, by omega⟩
  rw [movL, if_neg hk] at h4 h5
  have hkey := keyN_len s1
  have hml := movL_len n sp s
  have hkt : k < (movL n sp s).length := by rw [List.length_cons] at h5; omega
  rw [drop_at hkt, List.cons.injEq] at h4
  have hyk := hy k [movP (movL n sp s)[k]]
  rw [h4.1] at hyk
  refine PCall.read (free15_c r s1 hk (by omega)) (WkT.refl _) ?_
  unfold stepM at h4 h5 hms hyk
  rw [frR]
  cases hfr : freeF s1 with
  | some i =>
   rw [hfr] at h4 h5 hms hyk
   have hik : i ∈ keyN s1 := List.mem_of_find?_eq_some hfr
   have hil := keyN_lt hik
   have hv := keyN_mem.1 hik
   obtain ⟨x, hx⟩ := Option.isSome_iff_exists.1 hv
   have hmx : mvM s1 i = some x := by rw [mvM, if_pos (by omega), Int.toNat_natCast, hx]
   dsimp only at h4 h5 hms hyk ⊢
   rw [hx] at hyk
   conv => whnf
   repeat' (first|((first|((first|(apply zY;intro hg)|apply zZ);first|exact stA|exact stB|exact stC)|(refine zW ?_ ?_;exact gA)|refine zH rfl ?_|refine zA ?_|refine zI bA ?_|refine zI rfl ?_|refine sB ?_|(refine zO ?_ ?_ ?_;omega;omega)|(refine zP ?_ ?_ ?_;omega;omega)|refine zM rfl ?_|(refine zQ ?_ ?_ ?_;omega;omega)|(refine zR ?_ ?_;omega)|(refine zI ?_ ?_;exact nA)|refine sS ?_|refine sF ?_|refine n0 ?_|refine sD ?_|intro _|refine zG ?_);conv=>whnf)|(refine zX (fun hc => ?_) (fun hc => ?_)<;>(try simp only [SY] at hc)<;>first|omega|(conv=>whnf)))
   refine PMapDel.mv ?_
   conv => whnf
   repeat' (first|((first|((first|(apply zY;intro hg)|apply zZ);first|exact stA|exact stB|exact stC)|(refine zW ?_ ?_;exact gA)|refine zH rfl ?_|refine zA ?_|refine zI bA ?_|refine zI rfl ?_|refine sB ?_|(refine zO ?_ ?_ ?_;omega;omega)|(refine zP ?_ ?_ ?_;omega;omega)|refine zM rfl ?_|(refine zQ ?_ ?_ ?_;omega;omega)|(refine zR ?_ ?_;omega)|(refine zI ?_ ?_;exact nA)|refine sS ?_|refine sF ?_|refine n0 ?_|refine sD ?_|intro _|refine zG ?_);conv=>whnf)|(refine zX (fun hc => ?_) (fun hc => ?_)<;>(try simp only [SY] at hc)<;>first|omega|(conv=>whnf)))
   rename_i bm
   refine PYield.goR [.box bm [.int .i64 i, .int .i64 x], .box b1 [.mp r], .box b2 [.int .i64 sp], mvE r (s1.set i none)] (hyk Γ1 (by rw [List.getElem?_map, List.getElem?_eq_getElem hkt, h4.1, hx]; rfl) h3) (WkT.refl _) (List.Perm.refl _) ?_
   rintro _ Γ2 (⟨rfl, hJ2⟩ | ⟨rfl, hX⟩)
   ·conv => whnf
    repeat' (first|((first|((first|(apply zY;intro hg)|apply zZ);first|exact stA|exact stB|exact stC)|(refine zW ?_ ?_;exact gA)|refine zH rfl ?_|refine zA ?_|refine zI bA ?_|refine zI rfl ?_|refine sB ?_|(refine zO ?_ ?_ ?_;omega;omega)|(refine zP ?_ ?_ ?_;omega;omega)|refine zM rfl ?_|(refine zQ ?_ ?_ ?_;omega;omega)|(refine zR ?_ ?_;omega)|(refine zI ?_ ?_;exact nA)|refine sS ?_|refine sF ?_|refine n0 ?_|refine sD ?_|intro _|refine zG ?_);conv=>whnf)|(refine zX (fun hc => ?_) (fun hc => ?_)<;>(try simp only [SY] at hc)<;>first|omega|(conv=>whnf)))
    rw [List.length_cons] at h5
    exact loopTo (k + 1, f, s1.set i none, Γ2) (hp := ⟨(List.perm_append_singleton _ _).symm⟩) ⟨by dsimp only; rw [List.length_set, h1], by show measL (s1.set i none) ≤ f; omega, hJ2, h4.2, by show k + 1 + (movL f sp (s1.set i none)).length = _; omega⟩ (by show measL (s1.set i none) < measL s1; omega) wA
   ·conv => whnf
    repeat' (first|((first|((first|(apply zY;intro hg)|apply zZ);first|exact stA|exact stB|exact stC)|(refine zW ?_ ?_;exact gA)|refine zH rfl ?_|refine zA ?_|refine zI bA ?_|refine zI rfl ?_|refine sB ?_|(refine zO ?_ ?_ ?_;omega;omega)|(refine zP ?_ ?_ ?_;omega;omega)|refine zM rfl ?_|(refine zQ ?_ ?_ ?_;omega;omega)|(refine zR ?_ ?_;omega)|(refine zI ?_ ?_;exact nA)|refine sS ?_|refine sF ?_|refine n0 ?_|refine sD ?_|intro _|refine zG ?_);conv=>whnf)|(refine zX (fun hc => ?_) (fun hc => ?_)<;>(try simp only [SY] at hc)<;>first|omega|(conv=>whnf)))
    exact PRet.gen (y := .tup []) (Γ' := Γ2) (hp := ⟨List.perm_append_comm (l₁ := [_, _, _, _])⟩) (Wk.refl _) (.inr hX)
  | none =>
   rw [hfr] at h4 h5 hms hyk
   dsimp only at h4 h5 hms hyk ⊢
   have hhk := hdN_mem hk
   obtain ⟨x, hx⟩ := Option.isSome_iff_exists.1 (keyN_mem.1 hhk)
   have hmx : mvM s1 (hdN s1) = some x := by rw [mvM, if_pos (by omega), Int.toNat_natCast, hx]
   conv => whnf
   repeat' (first|((first|((first|(apply zY;intro hg)|apply zZ);first|exact stA|exact stB|exact stC)|(refine zW ?_ ?_;exact gA)|refine zH rfl ?_|refine zA ?_|refine zI bA ?_|refine zI rfl ?_|refine sB ?_|(refine zO ?_ ?_ ?_;omega;omega)|(refine zP ?_ ?_ ?_;omega;omega)|refine zM rfl ?_|(refine zQ ?_ ?_ ?_;omega;omega)|(refine zR ?_ ?_;omega)|(refine zI ?_ ?_;exact nA)|refine sS ?_|refine sF ?_|refine n0 ?_|refine sD ?_|intro _|refine zG ?_);conv=>whnf)|(refine zX (fun hc => ?_) (fun hc => ?_)<;>(try simp only [SY] at hc)<;>first|omega|(conv=>whnf)))
   rename_i bm
   refine PRangeM.num fun bI all cl hAll hcl => ?_
   conv => whnf
   repeat' (first|((first|((first|(apply zY;intro hg)|apply zZ);first|exact stA|exact stB|exact stC)|(refine zW ?_ ?_;exact gA)|refine zH rfl ?_|refine zA ?_|refine zI bA ?_|refine zI rfl ?_|refine sB ?_|(refine zO ?_ ?_ ?_;omega;omega)|(refine zP ?_ ?_ ?_;omega;omega)|refine zM rfl ?_|(refine zQ ?_ ?_ ?_;omega;omega)|(refine zR ?_ ?_;omega)|(refine zI ?_ ?_;exact nA)|refine sS ?_|refine sF ?_|refine n0 ?_|refine sD ?_|intro _|refine zG ?_);conv=>whnf)|(refine zX (fun hc => ?_) (fun hc => ?_)<;>(try simp only [SY] at hc)<;>first|omega|(conv=>whnf)))
   have hA2 : ∀ m2 : Int → Option Int, (∀ z, m2 z ≠ none ↔ mvM s1 z ≠ none) → AllI m2 all := fun m2 h => ⟨fun z => by rw [h z]; exact hAll.dom z, hAll.nk, hAll.nb⟩
   refine PLoop.over [7, 8, 30, 31, 32, 33, 34, 35, 36, 37, 38, 39, 40] (fun x : Array Nat × (Int → Option Int) => [])
    (fun x => .ob bI (itO r cl x.1) [] [] :: .box bm [.int .i64 sp, .int .i64 (hdN s1)] :: .box b1 [.mp r] :: .box b2 [.int .i64 sp] :: .mp r (.int .i64) (mapM (PV.int .i64) x.2) (pdI cl all) :: Γ1)
    (fun x => (∀ k, (∃ n, n ∈ x.1.toList ∧ (n, k) ∈ all) → x.2 k = if mvM s1 k = some (hdN s1 : Int) then some sp else mvM s1 k) ∧ (∀ k, (¬∃ n, n ∈ x.1.toList ∧ (n, k) ∈ all) → x.2 k = mvM s1 k)) (fun x => (all.filter fun q => decide (q.1 ∉ x.1.toList)).length) (#[], mvM s1) ⟨fun k h => by simp at h, fun k _ => rfl⟩ wA ?_
   rintro ⟨seen, m2⟩ ⟨hs1, hs2⟩
   dsimp only at hs1 hs2 ⊢
   have hdm : ∀ z, m2 z ≠ none ↔ mvM s1 z ≠ none := fun z => by
    by_cases hz : ∃ n, n ∈ seen.toList ∧ (n, z) ∈ all
    ·rw [hs1 z hz]
     split
     ·rename_i e; rw [e]; simp
     ·exact Iff.rfl
    ·rw [hs2 z hz]
   conv => whnf
   repeat' (first|((first|((first|(apply zY;intro hg)|apply zZ);first|exact stA|exact stB|exact stC)|(refine zW ?_ ?_;exact gA)|refine zH rfl ?_|refine zA ?_|refine zI bA ?_|refine zI rfl ?_|refine sB ?_|(refine zO ?_ ?_ ?_;omega;omega)|(refine zP ?_ ?_ ?_;omega;omega)|refine zM rfl ?_|(refine zQ ?_ ?_ ?_;omega;omega)|(refine zR ?_ ?_;omega)|(refine zI ?_ ?_;exact nA)|refine sS ?_|refine sF ?_|refine n0 ?_|refine sD ?_|intro _|refine zG ?_);conv=>whnf)|(refine zX (fun hc => ?_) (fun hc => ?_)<;>(try simp only [SY] at hc)<;>first|omega|(conv=>whnf)))
   refine PNextM.num (hA2 m2 hdm) hcl (fun n2 z y hn2 hz hs => ?_) (fun hs => ?_)
   ·have hzn : ¬∃ n, n ∈ seen.toList ∧ (n, z) ∈ all := by
     rintro ⟨n3, q1, q2⟩
     have := nodup_inj hAll.nk hn2 q2 rfl
     cases this
     exact hs q1
    have hyz : mvM s1 z = some y := by rw [← hs2 z hzn]; exact hz
    conv => whnf
    repeat' (first|((first|((first|(apply zY;intro hg)|apply zZ);first|exact stA|exact stB|exact stC)|(refine zW ?_ ?_;exact gA)|refine zH rfl ?_|refine zA ?_|refine zI bA ?_|refine zI rfl ?_|refine sB ?_|(refine zO ?_ ?_ ?_;omega;omega)|(refine zP ?_ ?_ ?_;omega;omega)|refine zM rfl ?_|(refine zQ ?_ ?_ ?_;omega;omega)|(refine zR ?_ ?_;omega)|(refine zI ?_ ?_;exact nA)|refine sS ?_|refine sF ?_|refine n0 ?_|refine sD ?_|intro _|refine zG ?_);conv=>whnf)|(refine zX (fun hc => ?_) (fun hc => ?_)<;>(try simp only [SY] at hc)<;>first|omega|(conv=>whnf)))
    refine PEntryM.num z y hn2 hz ?_
    conv => whnf
    repeat' (first|((first|((first|(apply zY;intro hg)|apply zZ);first|exact stA|exact stB|exact stC)|(refine zW ?_ ?_;exact gA)|refine zH rfl ?_|refine zA ?_|refine zI bA ?_|refine zI rfl ?_|refine sB ?_|(refine zO ?_ ?_ ?_;omega;omega)|(refine zP ?_ ?_ ?_;omega;omega)|refine zM rfl ?_|(refine zQ ?_ ?_ ?_;omega;omega)|(refine zR ?_ ?_;omega)|(refine zI ?_ ?_;exact nA)|refine sS ?_|refine sF ?_|refine n0 ?_|refine sD ?_|intro _|refine zG ?_);conv=>whnf)|(refine zX (fun hc => ?_) (fun hc => ?_)<;>(try simp only [SY] at hc)<;>first|omega|(conv=>whnf)))
    ·refine PMapPut.num (f := PV.int .i64) sp rfl ?_ (.inl (by simp [mapM, hz]))
     conv => whnf
     repeat' (first|((first|((first|(apply zY;intro hg)|apply zZ);first|exact stA|exact stB|exact stC)|(refine zW ?_ ?_;exact gA)|refine zH rfl ?_|refine zA ?_|refine zI bA ?_|refine zI rfl ?_|refine sB ?_|(refine zO ?_ ?_ ?_;omega;omega)|(refine zP ?_ ?_ ?_;omega;omega)|refine zM rfl ?_|(refine zQ ?_ ?_ ?_;omega;omega)|(refine zR ?_ ?_;omega)|(refine zI ?_ ?_;exact nA)|refine sS ?_|refine sF ?_|refine n0 ?_|refine sD ?_|intro _|refine zG ?_);conv=>whnf)|(refine zX (fun hc => ?_) (fun hc => ?_)<;>(try simp only [SY] at hc)<;>first|omega|(conv=>whnf)))
     have hst := come_step hAll hn2 (F := fun k => if mvM s1 k = some (hdN s1 : Int) then some sp else mvM s1 k) (m3 := upd m2 z sp) hs1 hs2 (by rw [upd, if_pos rfl, hyz, if_pos (by rw [hc])]) (fun k hk => by rw [upd, if_neg hk])
     exact loopTo (seen.push n2, upd m2 z sp) hst (come_less hn2 hs) wA
    ·have hst := come_step hAll hn2 (F := fun k => if mvM s1 k = some (hdN s1 : Int) then some sp else mvM s1 k) (m3 := m2) hs1 hs2 (by rw [hz, hyz, if_neg (fun e => hc (by cases e; rfl))]) (fun k hk => rfl)
     exact loopTo (seen.push n2, m2) hst (come_less hn2 hs) wA
   ·have hm2 : m2 = mvM (putL sp (hdN s1) s1) := by
     funext z
     rw [mvM_put]
     by_cases hz : ∃ n, n ∈ seen.toList ∧ (n, z) ∈ all
     ·exact hs1 z hz
     ·rw [hs2 z hz, if_neg]
      intro e
      obtain ⟨n3, q⟩ := (hAll.dom z).1 (by rw [e]; simp)
      exact hz ⟨n3, hs _ q, q⟩
    subst hm2
    conv => whnf
    repeat' (first|((first|((first|(apply zY;intro hg)|apply zZ);first|exact stA|exact stB|exact stC)|(refine zW ?_ ?_;exact gA)|refine zH rfl ?_|refine zA ?_|refine zI bA ?_|refine zI rfl ?_|refine sB ?_|(refine zO ?_ ?_ ?_;omega;omega)|(refine zP ?_ ?_ ?_;omega;omega)|refine zM rfl ?_|(refine zQ ?_ ?_ ?_;omega;omega)|(refine zR ?_ ?_;omega)|(refine zI ?_ ?_;exact nA)|refine sS ?_|refine sF ?_|refine n0 ?_|refine sD ?_|intro _|refine zG ?_);conv=>whnf)|(refine zX (fun hc => ?_) (fun hc => ?_)<;>(try simp only [SY] at hc)<;>first|omega|(conv=>whnf)))
    refine PYield.ghost (Γ' := .ob bI (itO r cl seen) [] [] :: .box bm [.int .i64 sp, .int .i64 (hdN s1)] :: .box b1 [.mp r] :: .box b2 [.int .i64 sp] :: mvE r (putL sp (hdN s1) s1) :: Γ1) (Ghost.pendE r) ?_
    refine PYield.goR [.ob bI (itO r cl seen) [] [], .box bm [.int .i64 sp, .int .i64 (hdN s1)], .box b1 [.mp r], .box b2 [.int .i64 sp], mvE r (putL sp (hdN s1) s1)] (hyk Γ1 (by rw [List.getElem?_map, List.getElem?_eq_getElem hkt, h4.1]; rfl) h3) (WkT.refl _) (List.Perm.refl _) ?_
    rintro _ Γ2 (⟨rfl, hJ2⟩ | ⟨rfl, hX⟩)
    ·conv => whnf
     repeat' (first|((first|((first|(apply zY;intro hg)|apply zZ);first|exact stA|exact stB|exact stC)|(refine zW ?_ ?_;exact gA)|refine zH rfl ?_|refine zA ?_|refine zI bA ?_|refine zI rfl ?_|refine sB ?_|(refine zO ?_ ?_ ?_;omega;omega)|(refine zP ?_ ?_ ?_;omega;omega)|refine zM rfl ?_|(refine zQ ?_ ?_ ?_;omega;omega)|(refine zR ?_ ?_;omega)|(refine zI ?_ ?_;exact nA)|refine sS ?_|refine sF ?_|refine n0 ?_|refine sD ?_|intro _|refine zG ?_);conv=>whnf)|(refine zX (fun hc => ?_) (fun hc => ?_)<;>(try simp only [SY] at hc)<;>first|omega|(conv=>whnf)))
     rw [List.length_cons] at h5
     exact loopTo (k + 1, f, putL sp (hdN s1) s1, Γ2) (hp := ⟨List.perm_append_comm (l₁ := [_, _])⟩) ⟨by dsimp only; rw [putL, List.length_map, h1], by show measL (putL sp (hdN s1) s1) ≤ f; omega, hJ2, h4.2, by show k + 1 + (movL f sp (putL sp (hdN s1) s1)).length = _; omega⟩ (by show measL (putL sp (hdN s1) s1) < measL s1; omega) wA
    ·conv => whnf
     repeat' (first|((first|((first|(apply zY;intro hg)|apply zZ);first|exact stA|exact stB|exact stC)|(refine zW ?_ ?_;exact gA)|refine zH rfl ?_|refine zA ?_|refine zI bA ?_|refine zI rfl ?_|refine sB ?_|(refine zO ?_ ?_ ?_;omega;omega)|(refine zP ?_ ?_ ?_;omega;omega)|refine zM rfl ?_|(refine zQ ?_ ?_ ?_;omega;omega)|(refine zR ?_ ?_;omega)|(refine zI ?_ ?_;exact nA)|refine sS ?_|refine sF ?_|refine n0 ?_|refine sD ?_|intro _|refine zG ?_);conv=>whnf)|(refine zX (fun hc => ?_) (fun hc => ?_)<;>(try simp only [SY] at hc)<;>first|omega|(conv=>whnf)))
     exact PRet.gen (y := .tup []) (Γ' := Γ2) (hp := ⟨List.perm_append_comm (l₁ := [_, _, _, _, _])⟩) (Wk.refl _) (.inr hX)
 ·have hk : keyN s1 = [] := mvM_none.1 (hcn.1 (by omega))
  have h0 : movL f sp s1 = [] := by
   cases f with
   | zero => rfl
   | succ f => rw [movL, if_pos hk]
  rw [h0] at h5
  refine PRet.gen (y := .tup []) (Γ' := Γ1) (hp := ⟨List.perm_append_comm (l₁ := [_, _, _])⟩) (Wk.refl _) (.inl ?_)
  rw [List.length_map, ← h5]
  exact h3
end Go.Cb
namespace Go.Cb
open Go.Proofs
set_option maxRecDepth 100000
set_option maxHeartbeats 4000000
instance {m : Mov} : ElOf Mov.pv (.agg [.int .i64 m.to, .int .i64 m.frm]) m := ⟨Wk.refl _, WkL.refl _⟩
theorem told_c (r : Nat) (sp : Int) : ACall Tryz.prog 208 [.mp r, .int .i64 sp] [] (fun y Γ' => ∃ b1 b2, y = .fn (.func 234) [.ptr b1 0, .ptr b2 0] ∧ Γ' = [.box b1 [.mp r], .box b2 [.int .i64 sp]]) := by
 refine ACall.of_body tt_ok Tryz.func208 rfl rfl (n := 6) rfl rfl ?_
 conv => whnf
 repeat' (first|((first|((first|(apply zY;intro hg)|apply zZ);first|exact stA|exact stB|exact stC)|(refine zW ?_ ?_;exact gA)|refine zH rfl ?_|refine zA ?_|refine zI bA ?_|refine zI rfl ?_|refine sB ?_|(refine zO ?_ ?_ ?_;omega;omega)|(refine zP ?_ ?_ ?_;omega;omega)|refine zM rfl ?_|(refine zQ ?_ ?_ ?_;omega;omega)|(refine zR ?_ ?_;omega)|(refine zI ?_ ?_;exact nA)|refine sS ?_|refine sF ?_|refine n0 ?_|refine sD ?_|intro _|refine zG ?_);conv=>whnf)|(refine zX (fun hc => ?_) (fun hc => ?_)<;>(try simp only [SY] at hc)<;>first|omega|(conv=>whnf)))
 rename_i b1 b2
 exact PRet.gen (y := .fn (.func 234) [.ptr b1 0, .ptr b2 0]) (Γ' := [.box b1 [.mp r], .box b2 [.int .i64 sp]]) (Wk.refl _) ⟨b1, b2, rfl, rfl⟩
theorem mvM_nil : (fun _ => none : Value → Option PV) = mapM (PV.int .i64) (mvM []) := by
 funext v
 unfold mapM mvM
 split
 ·split <;> rfl
 ·rfl
theorem mvM_snoc (s : Lft) (o : Option Int) (z : Int) : mvM (s ++ [o]) z = if z = s.length then o else mvM s z := by
 unfold mvM
 by_cases e : z = s.length
 ·subst e
  rw [if_pos rfl, if_pos (by omega), Int.toNat_natCast, List.getD_eq_getElem?_getD, List.getElem?_append_right (Nat.le_refl _), Nat.sub_self]
  rfl
 ·rw [if_neg e]
  by_cases h : 0 ≤ z
  ·rw [if_pos h, if_pos h, List.getD_eq_getElem?_getD, List.getD_eq_getElem?_getD]
   by_cases hl : z.toNat < s.length
   ·rw [List.getElem?_append_left hl]
   ·rw [List.getElem?_eq_none (by simp; omega), List.getElem?_eq_none (by omega)]
  ·rw [if_neg h, if_neg h]
abbrev ordPV (l : List Int) (sp : Int) : PV := .tup [.sl 2 ((ordF l sp).1.map Mov.pv) none, .int .i64 (ordF l sp).2]
theorem leftL_take {l : List Int} {i : Nat} (h : i < l.length) : leftL (l.take (i + 1)) 0 = leftL (l.take i) 0 ++ [if l[i] = (i : Int) then none else some l[i]] := by
 rw [List.take_succ_eq_append_getElem h, leftL_app, List.length_take, leftL, leftL, Nat.zero_add, Nat.min_eq_left (by omega)]
theorem order_c (l : List Int) (sp : Int) : ACallP Tryz.prog 185 [slI l, .int .i64 sp] (ordPV l sp) := by
 unfold ordPV ordF
 refine ACall.of_body tt_ok Tryz.func185 rfl rfl (n := 59) rfl rfl ?_
 conv => whnf
 repeat' (first|((first|((first|(apply zY;intro hg)|apply zZ);first|exact stA|exact stB|exact stC)|(refine zW ?_ ?_;exact gA)|refine zH rfl ?_|refine zA ?_|refine zI bA ?_|refine zI rfl ?_|refine sB ?_|(refine zO ?_ ?_ ?_;omega;omega)|(refine zP ?_ ?_ ?_;omega;omega)|refine zM rfl ?_|(refine zQ ?_ ?_ ?_;omega;omega)|(refine zR ?_ ?_;omega)|(refine zI ?_ ?_;exact nA)|refine sS ?_|refine sF ?_|refine n0 ?_|refine sD ?_|intro _|refine zG ?_);conv=>whnf)|(refine zX (fun hc => ?_) (fun hc => ?_)<;>(try simp only [SY] at hc)<;>first|omega|(conv=>whnf)))
 ·have hi : illM l sp = true := by
   unfold illM
   simp only [Bool.or_eq_true, decide_eq_true_eq]
   omega
  rw [hi, Bool.true_or, if_pos rfl]
  exact PRet.pure (Wk.tup (.cons (Wk.nil' rfl) (.cons (Wk.refl _) .nil)))
 have hi : illM l sp = false := by
  unfold illM
  simp only [Bool.or_eq_false_iff, decide_eq_false_iff_not]
  omega
 rw [hi, Bool.false_or]
 rename_i r _
 rw [mvM_nil]
 refine PLoop.over [4, 5, 7, 8, 27, 28, 29, 30, 31, 32, 33, 34, 35, 36, 37, 38, 39, 40, 41, 42, 43, 44, 45, 46, 47, 48, 49] (fun x : Nat × Lft => [(27, .int .i64 x.1)]) (fun x => [mvE r x.2]) (fun x => x.1 ≤ l.length ∧ x.2 = leftL (l.take x.1) 0 ∧ badM (l.take x.1) sp = false) (fun x => l.length - x.1) (0, []) ⟨Nat.zero_le _, by rw [List.take_zero, leftL.eq_1], rfl⟩ wA ?_
 rintro ⟨i, s⟩ ⟨h1, h2, h3⟩
 dsimp only at h1 h2 h3 ⊢
 have hsl : s.length = i := by rw [h2, leftL_len, List.length_take]; omega
 conv => whnf
 repeat' (first|((first|((first|(apply zY;intro hg)|apply zZ);first|exact stA|exact stB|exact stC)|(refine zW ?_ ?_;exact gA)|refine zH rfl ?_|refine zA ?_|refine zI bA ?_|refine zI rfl ?_|refine sB ?_|(refine zO ?_ ?_ ?_;omega;omega)|(refine zP ?_ ?_ ?_;omega;omega)|refine zM rfl ?_|(refine zQ ?_ ?_ ?_;omega;omega)|(refine zR ?_ ?_;omega)|(refine zI ?_ ?_;exact nA)|refine sS ?_|refine sF ?_|refine n0 ?_|refine sD ?_|intro _|refine zG ?_);conv=>whnf)|(refine zX (fun hc => ?_) (fun hc => ?_)<;>(try simp only [SY] at hc)<;>first|omega|(conv=>whnf)))
 ·have hb : badM l sp = true := by
   unfold badM
   rw [List.any_eq_true]
   exact ⟨l[i], List.getElem_mem _, by simp only [Bool.or_eq_true, decide_eq_true_eq, beq_iff_eq]; omega⟩
  rw [if_pos hb]
  exact PRet.pure (Wk.tup (.cons (Wk.nil' rfl) (.cons (Wk.refl _) .nil)))
 ·have hit : i < l.length := by omega
  have hu : upd (mvM s) i l[i] = mvM (leftL (l.take (i + 1)) 0) := by
   funext z
   rw [leftL_take hit, ← h2, if_neg hc, mvM_snoc, hsl]
   rfl
  have hb : badM (l.take (i + 1)) sp = false := by
   rw [List.take_succ_eq_append_getElem hit, badM, List.any_append, ← badM, h3, Bool.false_or, List.any_cons, List.any_nil, Bool.or_false]
   simp only [Bool.or_eq_false_iff, decide_eq_false_iff_not, beq_eq_false_iff_ne]
   omega
  refine PMapPut.num (f := PV.int .i64) l[i] rfl ?_
  rw [hu]
  conv => whnf
  repeat' (first|((first|((first|(apply zY;intro hg)|apply zZ);first|exact stA|exact stB|exact stC)|(refine zW ?_ ?_;exact gA)|refine zH rfl ?_|refine zA ?_|refine zI bA ?_|refine zI rfl ?_|refine sB ?_|(refine zO ?_ ?_ ?_;omega;omega)|(refine zP ?_ ?_ ?_;omega;omega)|refine zM rfl ?_|(refine zQ ?_ ?_ ?_;omega;omega)|(refine zR ?_ ?_;omega)|(refine zI ?_ ?_;exact nA)|refine sS ?_|refine sF ?_|refine n0 ?_|refine sD ?_|intro _|refine zG ?_);conv=>whnf)|(refine zX (fun hc => ?_) (fun hc => ?_)<;>(try simp only [SY] at hc)<;>first|omega|(conv=>whnf)))
  exact loopTo (i + 1, leftL (l.take (i + 1)) 0) ⟨by show i + 1 ≤ _; omega, rfl, hb⟩ (by show l.length - (i + 1) < l.length - i; omega) wA
 ·have hit : i < l.length := by omega
  have hu : mvM s = mvM (leftL (l.take (i + 1)) 0) := by
   funext z
   rw [leftL_take hit, ← h2, if_pos hc, mvM_snoc, hsl]
   split
   ·rename_i e
    rw [e, mvM, if_pos (by omega), Int.toNat_natCast, List.getD_eq_getElem?_getD, List.getElem?_eq_none (by omega)]
    rfl
   ·rfl
  have hb : badM (l.take (i + 1)) sp = false := by
   rw [List.take_succ_eq_append_getElem hit, badM, List.any_append, ← badM, h3, Bool.false_or, List.any_cons, List.any_nil, Bool.or_false]
   simp only [Bool.or_eq_false_iff, decide_eq_false_iff_not, beq_eq_false_iff_ne]
   omega
  have he : mvE r s = mvE r (leftL (l.take (i + 1)) 0) := by unfold mvE; rw [hu]
  rw [he]
  exact loopTo (i + 1, leftL (l.take (i + 1)) 0) ⟨by show i + 1 ≤ _; omega, rfl, hb⟩ (by show l.length - (i + 1) < l.length - i; omega) wA
 ·obtain rfl : i = l.length := by omega
  rw [List.take_length] at h2 h3
  subst h2
  rw [if_neg (by rw [h3]; simp)]
  rename_i bo
  refine PCall.goG (Ghost.trans (Ghost.nil 2 235 _) (Ghost.box (b := bo) (cs := [.nil]) (cs' := [.sl 2 (([] : List Mov).map Mov.pv) (some (nilTok 2 235))]) (.cons (Wk.nilTok 2 235) .nil))) (told_c r sp) (WkT.refl _) ?_
  rintro _ _ ⟨b1, b2, rfl, rfl⟩
  conv => whnf
  repeat ((first|((first|(apply zY;intro hg)|apply zZ);first|exact stA|exact stB|exact stC)|(refine zW ?_ ?_;exact gA)|refine zH rfl ?_|refine zA ?_|refine zI bA ?_|refine zI rfl ?_|refine sB ?_|(refine zO ?_ ?_ ?_;omega;omega)|(refine zP ?_ ?_ ?_;omega;omega)|refine zM rfl ?_|(refine zQ ?_ ?_ ?_;omega;omega)|(refine zR ?_ ?_;omega)|(refine zI ?_ ?_;exact nA)|refine sS ?_|refine sF ?_|refine n0 ?_|refine sD ?_|intro _);conv=>whnf)
  refine PRange.go ((movL (2 * l.length + 1) sp (leftL l 0)).map fun m => [movP m]) (fun s : Tok × List Mov => [.box bo [.sl 2 (s.2.map Mov.pv) (some s.1)], .tok s.1]) (fun k s => s.1.e = 235 ∧ s.2 = (movL (2 * l.length + 1) sp (leftL l 0)).take k) (fun _ _ => False) (nilTok 2 235, []) (told1_c b1 b2 r (2 * l.length + 1) sp (leftL l 0) (by rw [leftL_len]; omega) (by rw [leftL_len]; omega) (by have := meas_le (leftL l 0); rw [leftL_len] at this; exact this) (by omega)) ⟨rfl, rfl⟩
   (hp := (inferInstance : PickL _ [.box bo [.sl 2 (([] : List Mov).map Mov.pv) (some (nilTok 2 235))], .tok (nilTok 2 235), .box b1 [.mp r], .box b2 [.int .i64 sp], mvE r (leftL l 0)] _)) (by intro ys hy; obtain ⟨m, _, rfl⟩ := List.mem_map.1 hy; rfl) ?_ ?_ (fun _ _ _ h => h.elim)
  ·rintro k ys ⟨tk, ms⟩ hk ⟨k1, k2⟩
   dsimp only at k1 k2 ⊢
   generalize hML : movL (2 * l.length + 1) sp (leftL l 0) = ML at *
   have hmll : ML.length ≤ 2 * l.length + 1 := by rw [← hML]; exact movL_len ..
   obtain ⟨m, hm, rfl⟩ : ∃ m, ML[k]? = some m ∧ ys = [movP m] := by
    rw [List.getElem?_map] at hk
    cases h : ML[k]? with
    | none => rw [h] at hk; cases hk
    | some m => rw [h] at hk; cases hk; exact ⟨m, rfl, rfl⟩
   obtain ⟨hlt, hmg⟩ := List.getElem?_eq_some_iff.1 hm
   have hst : ML.take (k + 1) = ms ++ [m] := by rw [List.take_succ_eq_append_getElem hlt, hmg, ← k2]
   have hll : ms.length ≤ 2001 := by
    rw [k2, List.length_take]; omega
   conv => whnf
   repeat' (first|((first|((first|(apply zY;intro hg)|apply zZ);first|exact stA|exact stB|exact stC)|(refine zW ?_ ?_;exact gA)|refine zH rfl ?_|refine zA ?_|refine zI bA ?_|refine zI rfl ?_|refine sB ?_|(refine zO ?_ ?_ ?_;omega;omega)|(refine zP ?_ ?_ ?_;omega;omega)|refine zM rfl ?_|(refine zQ ?_ ?_ ?_;omega;omega)|(refine zR ?_ ?_;omega)|(refine zI ?_ ?_;exact nA)|refine sS ?_|refine sF ?_|refine n0 ?_|refine sD ?_|intro _|refine zG ?_);conv=>whnf)|(refine zX (fun hc => ?_) (fun hc => ?_)<;>(try simp only [SY] at hc)<;>first|omega|(conv=>whnf)))
   refine ⟨rfl, ?_⟩
   conv => whnf
   repeat' (first|((first|((first|(apply zY;intro hg)|apply zZ);first|exact stA|exact stB|exact stC)|(refine zW ?_ ?_;exact gA)|refine zH rfl ?_|refine zA ?_|refine zI bA ?_|refine zI rfl ?_|refine sB ?_|(refine zO ?_ ?_ ?_;omega;omega)|(refine zP ?_ ?_ ?_;omega;omega)|refine zM rfl ?_|(refine zQ ?_ ?_ ?_;omega;omega)|(refine zR ?_ ?_;omega)|(refine zI ?_ ?_;exact nA)|refine sS ?_|refine sF ?_|refine n0 ?_|refine sD ?_|intro _|refine zG ?_);conv=>whnf)|(refine zX (fun hc => ?_) (fun hc => ?_)<;>(try simp only [SY] at hc)<;>first|omega|(conv=>whnf)))
   rename_i t3 ht3
   exact roundEnd (k := k) (G := fun s : Tok × List Mov => [.box bo [.sl 2 (s.2.map Mov.pv) (some s.1)], .tok s.1]) (I := fun k s => s.1.e = 235 ∧ s.2 = ML.take k) (X := fun _ _ => False) (t3, ms ++ [m]) ⟨ht3, hst.symm⟩
  ·rintro bd ⟨tk, ms⟩ ⟨k1, k2⟩
   dsimp only at k1 k2 ⊢
   rw [List.length_map, List.take_length] at k2
   subst k2
   conv => whnf
   repeat' (first|((first|((first|(apply zY;intro hg)|apply zZ);first|exact stA|exact stB|exact stC)|(refine zW ?_ ?_;exact gA)|refine zH rfl ?_|refine zA ?_|refine zI bA ?_|refine zI rfl ?_|refine sB ?_|(refine zO ?_ ?_ ?_;omega;omega)|(refine zP ?_ ?_ ?_;omega;omega)|refine zM rfl ?_|(refine zQ ?_ ?_ ?_;omega;omega)|(refine zR ?_ ?_;omega)|(refine zI ?_ ?_;exact nA)|refine sS ?_|refine sF ?_|refine n0 ?_|refine sD ?_|intro _|refine zG ?_);conv=>whnf)|(refine zX (fun hc => ?_) (fun hc => ?_)<;>(try simp only [SY] at hc)<;>first|omega|(conv=>whnf)))
   refine PMark.at_ rfl ?_
   conv => whnf
   exact PRet.pure (Wk.tup (.cons (Wk.tok _ _ _) (.cons (Wk.refl _) .nil)))
end Go.Cb
namespace Go.Cb
open Go.Proofs
set_option maxRecDepth 100000
set_option maxHeartbeats 4000000
theorem ACall.weak {P : Program} {f : FuncId} {args args' : List PV} {Γ Γ' : List Ent} {Q : PV → List Ent → Prop} (hg : Weak args Γ args' Γ') (h : ACall P f args' Γ' Q) : ACall P f args Γ Q :=
 ⟨h.1, fun w0 F M w vs hS hT => by
  obtain ⟨F1, a1, a2, a3⟩ := hg w0 F M w vs hS hT
  refine (h.2 w0 F1 M w vs a2 a3).mono ?_
  rintro e w' ⟨v, F', y, Γ2, e1, e2, e3⟩
  exact ⟨v, F', y, Γ2, e1, Fz.le_trans a1 e2, e3⟩⟩
theorem PCall.goFz {P : Program} {f : FuncId} {args args' : List PV} {Γ Γ0 Γ1 Γ2 : List Ent} {Q K : PV → List Ent → Prop} (t : Tok) (es : List PV) [hp : PickE Γ (.row t es) Γ0] (hw : WkFT t es args args') (h : ACall P f args' Γ1 Q) [hq : PickL (.tok t :: Γ0) Γ1 Γ2]
  (k : ∀ y Γ1', Q y Γ1' → appE Γ1' Γ2 fun Γ' => K y Γ') : PCall P f args Γ K :=
 ⟨.inl (ACall.weak (Weak.freezeRow (hp := hp) hw) ((h.frame hq.p).mono fun y Γ' ⟨Γ1', e, hq⟩ => by have := k y Γ1' hq; rw [appE_eq] at this; rw [e]; exact this))⟩
def movI (m : Mov) : Ins := ⟨1, m.to, m.frm, 0, []⟩
def movW (ms : List Mov) : List Int := ms.flatMap fun m => insW (movI m) []
def upTo (n : Nat) : List Int := (List.range n).map Int.ofNat
def endI (x : Ins) : Ins := ⟨x.op, x.d, if x.op = 19 then x.l.length else x.a, if x.op = 20 then x.l.length else x.b, upTo x.l.length⟩
theorem movW_len (ms : List Mov) : (movW ms).length = 6 * ms.length := by
 induction ms with
 | nil => rfl
 | cons m ms ih => rw [movW, List.flatMap_cons, ← movW, List.length_append, ih, List.length_cons]; simp [insW, movI]; omega
theorem call_c (ms : List Mov) (e sp : Int) (x : Ins) (al : List Int) (hxl : x.l.length ≤ 1000000)
  (hO : ACallP Tryz.prog 185 [slI (takF x), .int .i64 sp] (.tup [.sl 2 (ms.map Mov.pv) none, .int .i64 e])) : CwOk sp x al (movW ms ++ insW (endI x) al) := by
 intro b out t ht hl
 have hml := movW_len ms
 have hul : (upTo x.l.length).length = x.l.length := by simp [upTo]
 have hel : (insW (endI x) al).length = 6 + x.l.length + al.length := by simp [insW, endI, hul]; omega
 rw [List.length_append, hml, hel] at hl
 have htl := takF_len x
 refine ACall.of_body tt_ok Tryz.func163 rfl rfl (n := 69) rfl rfl ?_
 conv => whnf
 repeat' (first|((first|((first|(apply zY;intro hg)|apply zZ);first|exact stA|exact stB|((conv=>whnf);(repeat ((first|(refine zW ?_ ?_;exact gA)|refine pC (takes_c x (by omega)) wR ?_|refine pC (hO) wR ?_|refine zA ?_|refine zH rfl ?_|refine zB ?_|refine sG ?_|intro _);conv=>whnf));first|exact pS|exact pL|exact pE))|(refine zW ?_ ?_;exact gA)|refine zH rfl ?_|refine zA ?_|refine zI bA ?_|refine zI rfl ?_|refine sB ?_|(refine zO ?_ ?_ ?_;omega;omega)|(refine zP ?_ ?_ ?_;omega;omega)|refine zM rfl ?_|(refine zQ ?_ ?_ ?_;omega;omega)|(refine zR ?_ ?_;omega)|(refine zI ?_ ?_;exact nA)|refine sS ?_|refine pC (takes_c x (by omega)) wR ?_|refine pC (hO) wR ?_|refine sF ?_|refine n0 ?_|refine sD ?_|intro _|refine zG ?_);conv=>whnf)|(refine zX (fun hc => ?_) (fun hc => ?_)<;>(try simp only [SY] at hc)<;>first|omega|(conv=>whnf)))
 rename_i b5 _
 refine PLoop.over [11, 22, 23, 24, 25, 26, 27, 28, 29, 30, 31, 32, 33] (fun x : Nat × List Int × Tok => [(22, .int .i64 x.1)]) (fun y => .box b5 [.int .i64 x.op, .int .i64 x.d, .int .i64 x.a, .int .i64 x.b, slI x.l] :: wrE b y.2.1 y.2.2)
  (fun y => y.1 ≤ ms.length ∧ y.2.2.e = 3 ∧ y.2.1 ++ movW (ms.drop y.1) = out ++ movW ms) (fun y => ms.length - y.1) (0, out, t) ⟨Nat.zero_le _, ht, rfl⟩ wA ?_
 rintro ⟨i, o, t1⟩ ⟨hi, ht1, ho⟩
 dsimp only at hi ht1 ho ⊢
 have hol := congrArg List.length ho
 simp only [List.length_append, movW_len, List.length_drop] at hol
 conv => whnf
 repeat' (first|((first|((first|(apply zY;intro hg)|apply zZ);first|exact stA|exact stB|((conv=>whnf);(repeat ((first|(refine zW ?_ ?_;exact gA)|refine pC (takes_c x (by omega)) wR ?_|refine pC (hO) wR ?_|refine zA ?_|refine zH rfl ?_|refine zB ?_|refine sG ?_|intro _);conv=>whnf));first|exact pS|exact pL|exact pE))|(refine zW ?_ ?_;exact gA)|refine zH rfl ?_|refine zA ?_|refine zI bA ?_|refine zI rfl ?_|refine sB ?_|(refine zO ?_ ?_ ?_;omega;omega)|(refine zP ?_ ?_ ?_;omega;omega)|refine zM rfl ?_|(refine zQ ?_ ?_ ?_;omega;omega)|(refine zR ?_ ?_;omega)|(refine zI ?_ ?_;exact nA)|refine sS ?_|refine pC (takes_c x (by omega)) wR ?_|refine pC (hO) wR ?_|refine sF ?_|refine n0 ?_|refine sD ?_|intro _|refine zG ?_);conv=>whnf)|(refine zX (fun hc => ?_) (fun hc => ?_)<;>(try simp only [SY] at hc)<;>first|omega|(conv=>whnf)))
 ·have hlt : i < ms.length := by omega
  rw [drop_at hlt, movW, List.flatMap_cons, ← movW] at ho
  refine PCall.go (insw_c b o t1 (movI ms[i]) [] ht1 (by show o.length + 0 + 0 ≤ _; omega)) (.cons (Wk.refl _) (.cons (Wk.agg (.cons (Wk.refl _) (.cons (Wk.refl _) (.cons (Wk.refl _) (.cons (Wk.refl _) (.cons (Wk.nil' rfl) .nil)))))) (.cons slI_nil .nil))) ?_
  rintro _ _ ⟨t2, ht2, rfl, rfl⟩
  conv => whnf
  repeat' (first|((first|((first|(apply zY;intro hg)|apply zZ);first|exact stA|exact stB|((conv=>whnf);(repeat ((first|(refine zW ?_ ?_;exact gA)|refine pC (takes_c x (by omega)) wR ?_|refine pC (hO) wR ?_|refine zA ?_|refine zH rfl ?_|refine zB ?_|refine sG ?_|intro _);conv=>whnf));first|exact pS|exact pL|exact pE))|(refine zW ?_ ?_;exact gA)|refine zH rfl ?_|refine zA ?_|refine zI bA ?_|refine zI rfl ?_|refine sB ?_|(refine zO ?_ ?_ ?_;omega;omega)|(refine zP ?_ ?_ ?_;omega;omega)|refine zM rfl ?_|(refine zQ ?_ ?_ ?_;omega;omega)|(refine zR ?_ ?_;omega)|(refine zI ?_ ?_;exact nA)|refine sS ?_|refine pC (takes_c x (by omega)) wR ?_|refine pC (hO) wR ?_|refine sF ?_|refine n0 ?_|refine sD ?_|intro _|refine zG ?_);conv=>whnf)|(refine zX (fun hc => ?_) (fun hc => ?_)<;>(try simp only [SY] at hc)<;>first|omega|(conv=>whnf)))
  exact loopTo (i + 1, o ++ insW (movI ms[i]) [], t2) ⟨by show i + 1 ≤ _; omega, ht2, by dsimp only; rw [List.append_assoc]; exact ho⟩ (by show ms.length - (i + 1) < ms.length - i; omega) wA
 rw [List.drop_of_length_le (by omega), show movW [] = [] from rfl, List.append_nil] at ho
 subst ho
 refine PMake.row (by omega) (by omega) (by omega) (by show _ * 8 ≤ _; omega) rfl fun ts hte hts => ?_
 rw [Int.toNat_natCast, show List.replicate x.l.length (PV.int .i64 0) = (List.replicate x.l.length (0 : Int)).map (PV.int .i64) by rw [List.map_replicate]]
 have hrp0 : (List.replicate x.l.length (0 : Int)).length = x.l.length := List.length_replicate ..
 conv => whnf
 repeat' (first|((first|((first|(apply zY;intro hg)|apply zZ);first|exact stA|exact stB|((conv=>whnf);(repeat ((first|(refine zW ?_ ?_;exact gA)|refine pC (takes_c x (by omega)) wR ?_|refine pC (hO) wR ?_|refine zA ?_|refine zH rfl ?_|refine zB ?_|refine sG ?_|intro _);conv=>whnf));first|exact pS|exact pL|exact pE))|(refine zW ?_ ?_;exact gA)|refine zH rfl ?_|refine zA ?_|refine zI bA ?_|refine zI rfl ?_|refine sB ?_|(refine zO ?_ ?_ ?_;omega;omega)|(refine zP ?_ ?_ ?_;omega;omega)|refine zM rfl ?_|(refine zQ ?_ ?_ ?_;omega;omega)|(refine zR ?_ ?_;omega)|(refine zI ?_ ?_;exact nA)|refine sS ?_|refine pC (takes_c x (by omega)) wR ?_|refine pC (hO) wR ?_|refine sF ?_|refine n0 ?_|refine sD ?_|intro _|refine zG ?_);conv=>whnf)|(refine zX (fun hc => ?_) (fun hc => ?_)<;>(try simp only [SY] at hc)<;>first|omega|(conv=>whnf)))
 refine PLenM.map fun _ => ?_
 conv => whnf
 repeat' (first|((first|((first|(apply zY;intro hg)|apply zZ);first|exact stA|exact stB|((conv=>whnf);(repeat ((first|(refine zW ?_ ?_;exact gA)|refine pC (takes_c x (by omega)) wR ?_|refine pC (hO) wR ?_|refine zA ?_|refine zH rfl ?_|refine zB ?_|refine sG ?_|intro _);conv=>whnf));first|exact pS|exact pL|exact pE))|(refine zW ?_ ?_;exact gA)|refine zH rfl ?_|refine zA ?_|refine zI bA ?_|refine zI rfl ?_|refine sB ?_|(refine zO ?_ ?_ ?_;omega;omega)|(refine zP ?_ ?_ ?_;omega;omega)|refine zM rfl ?_|(refine zQ ?_ ?_ ?_;omega;omega)|(refine zR ?_ ?_;omega)|(refine zI ?_ ?_;exact nA)|refine sS ?_|refine pC (takes_c x (by omega)) wR ?_|refine pC (hO) wR ?_|refine sF ?_|refine n0 ?_|refine sD ?_|intro _|refine zG ?_);conv=>whnf)|(refine zX (fun hc => ?_) (fun hc => ?_)<;>(try simp only [SY] at hc)<;>first|omega|(conv=>whnf)))
 refine PLoop.over [12, 42, 43, 44, 45, 46, 47, 48, 49, 50] (fun y : Nat × List Int => [(42, .int .i64 y.1)]) (fun y => .row ts (y.2.map (PV.int .i64)) :: .box b5 [.int .i64 x.op, .int .i64 x.d, .int .i64 x.a, .int .i64 x.b, .ms ts] :: wrE b (out ++ movW ms) t1)
  (fun y => y.1 ≤ x.l.length ∧ y.2 = upTo y.1 ++ List.replicate (x.l.length - y.1) (0 : Int)) (fun y => x.l.length - y.1) (0, List.replicate x.l.length 0) ⟨Nat.zero_le _, by simp [upTo]⟩ wA ?_
 rintro ⟨j, r⟩ ⟨hj, hr⟩
 dsimp only at hj hr ⊢
 have hrl : r.length = x.l.length := by rw [hr]; simp [upTo]; omega
 have hrp : (List.replicate x.l.length (0 : Int)).length = x.l.length := List.length_replicate ..
 conv => whnf
 repeat' (first|((first|((first|(apply zY;intro hg)|apply zZ);first|exact stA|exact stB|((conv=>whnf);(repeat ((first|(refine zW ?_ ?_;exact gA)|refine pC (takes_c x (by omega)) wR ?_|refine pC (hO) wR ?_|refine zA ?_|refine zH rfl ?_|refine zB ?_|refine sG ?_|intro _);conv=>whnf));first|exact pS|exact pL|exact pE))|(refine zW ?_ ?_;exact gA)|refine zH rfl ?_|refine zA ?_|refine zI bA ?_|refine zI rfl ?_|refine sB ?_|(refine zO ?_ ?_ ?_;omega;omega)|(refine zP ?_ ?_ ?_;omega;omega)|refine zM rfl ?_|(refine zQ ?_ ?_ ?_;omega;omega)|(refine zR ?_ ?_;omega)|(refine zI ?_ ?_;exact nA)|refine sS ?_|refine pC (takes_c x (by omega)) wR ?_|refine pC (hO) wR ?_|refine sF ?_|refine n0 ?_|refine sD ?_|intro _|refine zG ?_);conv=>whnf)|(refine zX (fun hc => ?_) (fun hc => ?_)<;>(try simp only [SY] at hc)<;>first|omega|(conv=>whnf)))
 ·have hjl : j < r.length := by omega
  have hs2 : r.set j (j : Int) = upTo (j + 1) ++ List.replicate (x.l.length - (j + 1)) (0 : Int) := by
   rw [hr, List.set_append_right _ _ (by simp [upTo]), show (upTo j).length = j by simp [upTo], Nat.sub_self, show x.l.length - j = (x.l.length - (j + 1)) + 1 by omega, List.replicate_succ, List.set_cons_zero]
   simp [upTo, List.range_succ]
  conv => whnf
  repeat' (first|((first|((first|(apply zY;intro hg)|apply zZ);first|exact stA|exact stB|((conv=>whnf);(repeat ((first|(refine zW ?_ ?_;exact gA)|refine pC (takes_c x (by omega)) wR ?_|refine pC (hO) wR ?_|refine zA ?_|refine zH rfl ?_|refine zB ?_|refine sG ?_|intro _);conv=>whnf));first|exact pS|exact pL|exact pE))|(refine zW ?_ ?_;exact gA)|refine zH rfl ?_|refine zA ?_|refine zI bA ?_|refine zI rfl ?_|refine sB ?_|(refine zO ?_ ?_ ?_;omega;omega)|(refine zP ?_ ?_ ?_;omega;omega)|refine zM rfl ?_|(refine zQ ?_ ?_ ?_;omega;omega)|(refine zR ?_ ?_;omega)|(refine zI ?_ ?_;exact nA)|refine sS ?_|refine pC (takes_c x (by omega)) wR ?_|refine pC (hO) wR ?_|refine sF ?_|refine n0 ?_|refine sD ?_|intro _|refine zG ?_);conv=>whnf)|(refine zX (fun hc => ?_) (fun hc => ?_)<;>(try simp only [SY] at hc)<;>first|omega|(conv=>whnf)))
  exact loopTo (j + 1, r.set j (j : Int)) ⟨by show j + 1 ≤ _; omega, hs2⟩ (by show x.l.length - (j + 1) < x.l.length - j; omega) wA
 ·have hop := hc
  have hj2 : j = x.l.length := by omega
  subst hj2
  rw [Nat.sub_self, List.replicate_zero, List.append_nil] at hr
  have hE : endI x = ⟨x.op, x.d, x.l.length, x.b, upTo x.l.length⟩ := by unfold endI; rw [if_pos hop, if_neg (by omega)]
  rw [hE, ← hr]
  refine PLenM.map fun _ => ?_
  conv => whnf
  repeat' (first|((first|((first|(apply zY;intro hg)|apply zZ);first|exact stA|exact stB|((conv=>whnf);(repeat ((first|(refine zW ?_ ?_;exact gA)|refine pC (takes_c x (by omega)) wR ?_|refine pC (hO) wR ?_|refine zA ?_|refine zH rfl ?_|refine zB ?_|refine sG ?_|intro _);conv=>whnf));first|exact pS|exact pL|exact pE))|(refine zW ?_ ?_;exact gA)|refine zH rfl ?_|refine zA ?_|refine zI bA ?_|refine zI rfl ?_|refine sB ?_|(refine zO ?_ ?_ ?_;omega;omega)|(refine zP ?_ ?_ ?_;omega;omega)|refine zM rfl ?_|(refine zQ ?_ ?_ ?_;omega;omega)|(refine zR ?_ ?_;omega)|(refine zI ?_ ?_;exact nA)|refine sS ?_|refine pC (takes_c x (by omega)) wR ?_|refine pC (hO) wR ?_|refine sF ?_|refine n0 ?_|refine sD ?_|intro _|refine zG ?_);conv=>whnf)|(refine zX (fun hc => ?_) (fun hc => ?_)<;>(try simp only [SY] at hc)<;>first|omega|(conv=>whnf)))
  refine PCall.goFz ts (r.map (PV.int .i64)) (args' := [.ptr b 0, .agg (⟨x.op, x.d, x.l.length, x.b, r⟩ : Ins).cells, slI al]) (.cons (WkF.of (Wk.refl _)) (.cons (WkF.agg (.cons (WkF.of (Wk.refl _)) (.cons (WkF.of (Wk.refl _)) (.cons (WkF.of (Wk.int (by show (r.length : Int) = x.l.length; omega))) (.cons (WkF.of (Wk.refl _)) (.cons (WkF.ms' hts) .nil)))))) (.cons (WkF.of (Wk.refl _)) .nil)))
   (insw_c b (out ++ movW ms) t1 (⟨x.op, x.d, x.l.length, x.b, r⟩) al ht1 (by show (out ++ movW ms).length + r.length + _ ≤ _; rw [List.length_append, hml]; omega)) ?_
  rintro _ _ ⟨t2, ht2, rfl, rfl⟩
  rw [List.append_assoc]
  conv => whnf
  repeat' (first|((first|((first|(apply zY;intro hg)|apply zZ);first|exact stA|exact stB|((conv=>whnf);(repeat ((first|(refine zW ?_ ?_;exact gA)|refine pC (takes_c x (by omega)) wR ?_|refine pC (hO) wR ?_|refine zA ?_|refine zH rfl ?_|refine zB ?_|refine sG ?_|intro _);conv=>whnf));first|exact pS|exact pL|exact pE))|(refine zW ?_ ?_;exact gA)|refine zH rfl ?_|refine zA ?_|refine zI bA ?_|refine zI rfl ?_|refine sB ?_|(refine zO ?_ ?_ ?_;omega;omega)|(refine zP ?_ ?_ ?_;omega;omega)|refine zM rfl ?_|(refine zQ ?_ ?_ ?_;omega;omega)|(refine zR ?_ ?_;omega)|(refine zI ?_ ?_;exact nA)|refine sS ?_|refine pC (takes_c x (by omega)) wR ?_|refine pC (hO) wR ?_|refine sF ?_|refine n0 ?_|refine sD ?_|intro _|refine zG ?_);conv=>whnf)|(refine zX (fun hc => ?_) (fun hc => ?_)<;>(try simp only [SY] at hc)<;>first|omega|(conv=>whnf)))
  exact PRet.gen (y := .tup []) (Γ' := wrE b (out ++ (movW ms ++ insW (⟨x.op, x.d, x.l.length, x.b, r⟩) al)) t2) (Wk.refl _) ⟨t2, ht2, rfl, rfl⟩
 ·have hop := hc
  have hj2 : j = x.l.length := by omega
  subst hj2
  rw [Nat.sub_self, List.replicate_zero, List.append_nil] at hr
  have hE : endI x = ⟨x.op, x.d, x.a, x.l.length, upTo x.l.length⟩ := by unfold endI; rw [if_neg (by omega), if_pos hop]
  rw [hE, ← hr]
  refine PLenM.map fun _ => ?_
  conv => whnf
  repeat' (first|((first|((first|(apply zY;intro hg)|apply zZ);first|exact stA|exact stB|((conv=>whnf);(repeat ((first|(refine zW ?_ ?_;exact gA)|refine pC (takes_c x (by omega)) wR ?_|refine pC (hO) wR ?_|refine zA ?_|refine zH rfl ?_|refine zB ?_|refine sG ?_|intro _);conv=>whnf));first|exact pS|exact pL|exact pE))|(refine zW ?_ ?_;exact gA)|refine zH rfl ?_|refine zA ?_|refine zI bA ?_|refine zI rfl ?_|refine sB ?_|(refine zO ?_ ?_ ?_;omega;omega)|(refine zP ?_ ?_ ?_;omega;omega)|refine zM rfl ?_|(refine zQ ?_ ?_ ?_;omega;omega)|(refine zR ?_ ?_;omega)|(refine zI ?_ ?_;exact nA)|refine sS ?_|refine pC (takes_c x (by omega)) wR ?_|refine pC (hO) wR ?_|refine sF ?_|refine n0 ?_|refine sD ?_|intro _|refine zG ?_);conv=>whnf)|(refine zX (fun hc => ?_) (fun hc => ?_)<;>(try simp only [SY] at hc)<;>first|omega|(conv=>whnf)))
  refine PCall.goFz ts (r.map (PV.int .i64)) (args' := [.ptr b 0, .agg (⟨x.op, x.d, x.a, x.l.length, r⟩ : Ins).cells, slI al]) (.cons (WkF.of (Wk.refl _)) (.cons (WkF.agg (.cons (WkF.of (Wk.refl _)) (.cons (WkF.of (Wk.refl _)) (.cons (WkF.of (Wk.refl _)) (.cons (WkF.of (Wk.int (by show (r.length : Int) = x.l.length; omega))) (.cons (WkF.ms' hts) .nil)))))) (.cons (WkF.of (Wk.refl _)) .nil)))
   (insw_c b (out ++ movW ms) t1 (⟨x.op, x.d, x.a, x.l.length, r⟩) al ht1 (by show (out ++ movW ms).length + r.length + _ ≤ _; rw [List.length_append, hml]; omega)) ?_
  rintro _ _ ⟨t2, ht2, rfl, rfl⟩
  rw [List.append_assoc]
  conv => whnf
  repeat' (first|((first|((first|(apply zY;intro hg)|apply zZ);first|exact stA|exact stB|((conv=>whnf);(repeat ((first|(refine zW ?_ ?_;exact gA)|refine pC (takes_c x (by omega)) wR ?_|refine pC (hO) wR ?_|refine zA ?_|refine zH rfl ?_|refine zB ?_|refine sG ?_|intro _);conv=>whnf));first|exact pS|exact pL|exact pE))|(refine zW ?_ ?_;exact gA)|refine zH rfl ?_|refine zA ?_|refine zI bA ?_|refine zI rfl ?_|refine sB ?_|(refine zO ?_ ?_ ?_;omega;omega)|(refine zP ?_ ?_ ?_;omega;omega)|refine zM rfl ?_|(refine zQ ?_ ?_ ?_;omega;omega)|(refine zR ?_ ?_;omega)|(refine zI ?_ ?_;exact nA)|refine sS ?_|refine pC (takes_c x (by omega)) wR ?_|refine pC (hO) wR ?_|refine sF ?_|refine n0 ?_|refine sD ?_|intro _|refine zG ?_);conv=>whnf)|(refine zX (fun hc => ?_) (fun hc => ?_)<;>(try simp only [SY] at hc)<;>first|omega|(conv=>whnf)))
  exact PRet.gen (y := .tup []) (Γ' := wrE b (out ++ (movW ms ++ insW (⟨x.op, x.d, x.a, x.l.length, r⟩) al)) t2) (Wk.refl _) ⟨t2, ht2, rfl, rfl⟩
 ·have hop := hc
  have hj2 : j = x.l.length := by omega
  subst hj2
  rw [Nat.sub_self, List.replicate_zero, List.append_nil] at hr
  have hE : endI x = ⟨x.op, x.d, x.a, x.b, upTo x.l.length⟩ := by unfold endI; rw [if_neg (by omega), if_neg (by omega)]
  rw [hE, ← hr]
  refine PCall.goFz ts (r.map (PV.int .i64)) (args' := [.ptr b 0, .agg (⟨x.op, x.d, x.a, x.b, r⟩ : Ins).cells, slI al]) (.cons (WkF.of (Wk.refl _)) (.cons (WkF.agg (.cons (WkF.of (Wk.refl _)) (.cons (WkF.of (Wk.refl _)) (.cons (WkF.of (Wk.refl _)) (.cons (WkF.of (Wk.refl _)) (.cons (WkF.ms' hts) .nil)))))) (.cons (WkF.of (Wk.refl _)) .nil)))
   (insw_c b (out ++ movW ms) t1 (⟨x.op, x.d, x.a, x.b, r⟩) al ht1 (by show (out ++ movW ms).length + r.length + _ ≤ _; rw [List.length_append, hml]; omega)) ?_
  rintro _ _ ⟨t2, ht2, rfl, rfl⟩
  rw [List.append_assoc]
  conv => whnf
  repeat' (first|((first|((first|(apply zY;intro hg)|apply zZ);first|exact stA|exact stB|((conv=>whnf);(repeat ((first|(refine zW ?_ ?_;exact gA)|refine pC (takes_c x (by omega)) wR ?_|refine pC (hO) wR ?_|refine zA ?_|refine zH rfl ?_|refine zB ?_|refine sG ?_|intro _);conv=>whnf));first|exact pS|exact pL|exact pE))|(refine zW ?_ ?_;exact gA)|refine zH rfl ?_|refine zA ?_|refine zI bA ?_|refine zI rfl ?_|refine sB ?_|(refine zO ?_ ?_ ?_;omega;omega)|(refine zP ?_ ?_ ?_;omega;omega)|refine zM rfl ?_|(refine zQ ?_ ?_ ?_;omega;omega)|(refine zR ?_ ?_;omega)|(refine zI ?_ ?_;exact nA)|refine sS ?_|refine pC (takes_c x (by omega)) wR ?_|refine pC (hO) wR ?_|refine sF ?_|refine n0 ?_|refine sD ?_|intro _|refine zG ?_);conv=>whnf)|(refine zX (fun hc => ?_) (fun hc => ?_)<;>(try simp only [SY] at hc)<;>first|omega|(conv=>whnf)))
  exact PRet.gen (y := .tup []) (Γ' := wrE b (out ++ (movW ms ++ insW (⟨x.op, x.d, x.a, x.b, r⟩) al)) t2) (Wk.refl _) ⟨t2, ht2, rfl, rfl⟩
end Go.Cb
namespace Go.Cb
open Go.Proofs
set_option maxRecDepth 100000
set_option maxHeartbeats 4000000
def cwM : CwF := fun sp x al => movW (ordF (takF x) sp).1 ++ insW (endI x) al
theorem chksU_mem (u : Unt) : ∀ (ps : List Prc) (all : Int), chksU u ps all = true → ∀ p ∈ ps, headB p = false ∧ endB p = false ∧ ∀ x ∈ p.code, fitB x p u = true
 | [], _, _, _, h => by cases h
 | q :: ps, all, hc, p, hp => by
  rw [chksU] at hc
  split at hc
  ·cases hc
  rename_i h1
  split at hc
  ·cases hc
  rename_i h2
  split at hc
  ·cases hc
  rename_i h3
  rcases List.mem_cons.1 hp with rfl | hp
  ·refine ⟨by simpa using h1, ?_, fun x hx => ?_⟩
   ·rw [Bool.or_eq_true, not_or] at h2
    simpa using h2.2
   ·rw [Bool.not_eq_true, List.any_eq_false] at h3
    simpa using h3 x hx
  ·exact chksU_mem u ps _ hc p hp
theorem illB_no {u : Unt} (h : illB u = false) : ∀ p ∈ u.procs, headB p = false ∧ endB p = false ∧ (∀ x ∈ p.code, fitB x p u = true) ∧ fitsE p = true := by
 unfold illB at h
 rw [Bool.or_eq_false_iff] at h
 have h0 : chkU u = 0 := by simpa using h.1
 have h1 : chksU u u.procs 0 = true := by
  unfold chkU at h0
  split at h0
  ·cases h0
  ·split at h0
   ·assumption
   ·cases h0
 intro p hp
 obtain ⟨a, b, c⟩ := chksU_mem u u.procs 0 h1 p hp
 refine ⟨a, b, c, ?_⟩
 have := List.any_eq_false.1 h.2 p hp
 simpa using this
theorem risB_len (regs : Int) : ∀ (l : List Int) (last : Int), risB regs l last = true → (l.length : Int) ≤ max 0 (regs - last - 1)
 | [], _, _ => by simp; omega
 | s :: l, last, h => by
  rw [risB] at h
  split at h
  ·cases h
  ·rename_i hc
   simp only [Bool.or_eq_true, decide_eq_true_eq, not_or] at hc
   have := risB_len regs l s h
   rw [List.length_cons]
   omega
theorem alvB_mem (regs : Int) : ∀ (c : List Ins) (al : List (List Int)), al.length = c.length → alvB regs c al = true → ∀ a ∈ al, risB regs a (-1) = true
 | x :: c, a :: al, hl, h, b, hb => by
  rw [alvB] at h
  split at h
  ·cases h
  ·split at h
   ·rename_i h2
    rcases List.mem_cons.1 hb with rfl | hb
    ·exact h2
    ·exact alvB_mem regs c al (by simpa using hl) h b hb
   ·cases h
 | [], [], _, _, b, hb => by cases hb
 | [], _ :: _, hl, _, _, _ => by simp at hl
 | _ :: _, [], hl, _, _, _ => by simp at hl
theorem insW_len (x : Ins) (al : List Int) : (insW x al).length = 6 + x.l.length + al.length := by
 simp [insW]; omega
theorem upTo_len (n : Nat) : (upTo n).length = n := by simp [upTo]
theorem ordF_len (l : List Int) (sp : Int) : (ordF l sp).1.length ≤ 2 * l.length + 1 := by
 unfold ordF
 split
 ·simp
 ·exact movL_len ..
theorem cwM_len (sp : Int) (x : Ins) (al : List Int) : (cwM sp x al).length ≤ 24 + 13 * x.l.length + al.length := by
 unfold cwM
 rw [List.length_append, movW_len, insW_len]
 have h1 := ordF_len (takF x) sp
 have h2 := takF_len x
 have h3 : (endI x).l.length = x.l.length := upTo_len _
 omega
theorem allW_len (cw : Ins → List Int → List Int) (f : Ins → Ins) (B : Nat) : ∀ (c : List Ins) (al : List (List Int)), (∀ x ∈ c, ∀ a ∈ al, (oneW cw (f x) a).length ≤ B) → (allW cw f c al).length ≤ c.length * B
 | x :: c, a :: al, h => by
  rw [allW, List.length_append, List.length_cons, Nat.succ_mul]
  have h1 := h x (by simp) a (by simp)
  have h2 := allW_len cw f B c al fun y hy b hb => h y (by simp [hy]) b (by simp [hb])
  omega
 | [], _, _ => by simp [allW]
 | _ :: _, [], _ => by simp [allW]
def Lim (u : Unt) : Prop := u.procs.length ≤ 30 ∧ ∀ p ∈ u.procs, p.code.length ≤ 200 ∧ ∀ x ∈ p.code, x.l.length ≤ 1000
theorem jmpT_l (pl : List Int) (x : Ins) : (jmpT pl x).l = x.l := by unfold jmpT; split; rfl; split <;> rfl
theorem one_len {sp : Int} {x : Ins} {a : List Int} (hx : x.l.length ≤ 1000) (ha : a.length ≤ 20000) : (oneW (cwM sp) x a).length ≤ 40000 := by
 unfold oneW
 split
 ·have := cwM_len sp x a
  omega
 ·rw [insW_len]; omega
theorem alive_len {u : Unt} (hi : illB u = false) {p : Prc} (hp : p ∈ u.procs) : p.alive.length = p.code.length ∧ 0 < p.code.length ∧ 0 ≤ p.regs ∧ p.regs ≤ 20000 ∧ (∀ a ∈ p.alive, a.length ≤ 20000 ∧ risB p.regs a (-1) = true) ∧ 0 ≤ p.args ∧ p.args ≤ p.regs := by
 obtain ⟨h1, h2, h3, h4⟩ := illB_no hi p hp
 unfold headB at h1
 simp only [Bool.or_eq_false_iff, decide_eq_false_iff_not, beq_eq_false_iff_ne, Bool.and_eq_false_imp] at h1
 unfold fitsE at h4
 split at h4
 ·rename_i hl
  refine ⟨hl, by omega, by omega, by omega, fun a ha => ?_, by omega, by omega⟩
  have h5 := alvB_mem p.regs p.code p.alive hl h4 a ha
  have := risB_len p.regs a (-1) h5
  exact ⟨by omega, h5⟩
 ·cases h4
theorem prcOk {u : Unt} (hi : illB u = false) (hb : Lim u) : ∀ p ∈ u.procs, PrcOk cwM p := by
 intro p hp
 obtain ⟨hl, hn, hr0, hr1, ha, _, _⟩ := alive_len hi hp
 obtain ⟨h1, h2, h3, h4⟩ := illB_no hi p hp
 obtain ⟨hcl, hxl⟩ := hb.2 p hp
 refine ⟨hl, hn, by omega, fun x hx => ?_, fun x hx => by have := hxl x hx; omega, ⟨hr0, hr1⟩, fun x hx hv al => ?_, ?_, ?_⟩
 ·have hf := h3 x hx
  unfold fitB at hf
  rw [Bool.and_eq_true] at hf
  have hf2 := hf.2
  unfold fitN at hf2
  refine ⟨fun e => ?_, fun e => ?_⟩
  ·repeat (first|rw [if_neg (by omega)] at hf2|rw [if_pos (by omega)] at hf2)
   unfold belB at hf2
   rw [Bool.and_eq_true, decide_eq_true_eq, decide_eq_true_eq] at hf2
   omega
  ·repeat (first|rw [if_neg (by omega)] at hf2|rw [if_pos (by omega)] at hf2)
   unfold belB at hf2
   rw [Bool.and_eq_true, decide_eq_true_eq, decide_eq_true_eq] at hf2
   omega
 ·have := hxl x hx
  exact call_c _ _ _ x al (by omega) (order_c (takF x) (spareL p.code p.regs))
 ·have := allW_len (cwM (spareL p.code p.regs)) id 40000 p.code p.alive fun x hx a ha2 => one_len (hxl x hx) (ha a ha2).1
  have h5 : p.code.length * 40000 ≤ 200 * 40000 := Nat.mul_le_mul_right _ hcl
  omega
 ·have := allW_len (cwM (spareL p.code p.regs)) (jmpT (stsP cwM p)) 40000 p.code p.alive fun x hx a ha2 => one_len (by rw [jmpT_l]; exact hxl x hx) (ha a ha2).1
  have h5 : p.code.length * 40000 ≤ 200 * 40000 := Nat.mul_le_mul_right _ hcl
  show (allW _ _ _ _).length ≤ _
  omega
theorem wrd_len {u : Unt} (hi : illB u = false) (hb : Lim u) {p : Prc} (hp : p ∈ u.procs) : (wrdP cwM p).length ≤ 8000000 := by
 obtain ⟨hl, hn, hr0, hr1, ha, _, _⟩ := alive_len hi hp
 obtain ⟨hcl, hxl⟩ := hb.2 p hp
 have := allW_len (cwM (spareL p.code p.regs)) (jmpT (stsP cwM p)) 40000 p.code p.alive fun x hx a ha2 => one_len (by rw [jmpT_l]; exact hxl x hx) (ha a ha2).1
 have h5 : p.code.length * 40000 ≤ 200 * 40000 := Nat.mul_le_mul_right _ hcl
 show (allW _ _ _ _).length ≤ _
 omega
theorem body_len (B : Nat) : ∀ (l : List Prc), (∀ p ∈ l, (wrdP cwM p).length ≤ B) → (bodyW cwM l).length ≤ l.length * (B + 4)
 | [], _ => by simp [bodyW]
 | p :: l, h => by
  have h1 := h p (by simp)
  have h2 := body_len B l fun q hq => h q (by simp [hq])
  have h3 : (procW cwM p).length = 4 + (wrdP cwM p).length := by simp [procW]; omega
  rw [bodyW, List.flatMap_cons, ← bodyW, List.length_append, List.length_cons, Nat.succ_mul, h3]
  omega
theorem bodyZ {u : Unt} (hi : illB u = false) (hb : Lim u) : (bodyW cwM u.procs).length ≤ 900000000 := by
 have := body_len 8000000 u.procs fun p hp => wrd_len hi hb hp
 have h5 : u.procs.length * (8000000 + 4) ≤ 30 * (8000000 + 4) := Nat.mul_le_mul_right _ hb.1
 omega
theorem emitM_c (u : Unt) (hb : Lim u) : ACallP Tryz.prog 24 [.agg u.cells] (emitPV cwM u) := emit_c u cwM (fun hi => prcOk hi hb) (fun hi => bodyZ hi hb)
def fewPs (n : Int) : List Prc → Int → Bool
 | [], _ => true
 | p :: ps, k => if (p.code.length : Int) > n ∨ p.regs > 10 * n then false else if (p.code.any fun x => decide ((x.l.length : Int) > 60)) = true then false else if k + p.code.length > n then false else fewPs n ps (k + p.code.length)
def fewU (u : Unt) (n : Int) : Bool := if u.procs.length > 30 ∨ decide (0 ≤ Datum.fews u.consts 2000) = false then false else fewPs n u.procs 0
theorem fewPs_mem (n : Int) : ∀ (ps : List Prc) (k : Int), fewPs n ps k = true → ∀ p ∈ ps, (p.code.length : Int) ≤ n ∧ p.regs ≤ 10 * n ∧ ∀ x ∈ p.code, x.l.length ≤ 60
 | [], _, _, _, h => by cases h
 | q :: ps, k, hc, p, hp => by
  rw [fewPs] at hc
  split at hc
  ·cases hc
  rename_i h1
  split at hc
  ·cases hc
  rename_i h2
  split at hc
  ·cases hc
  rcases List.mem_cons.1 hp with rfl | hp
  ·refine ⟨by omega, by omega, fun x hx => ?_⟩
   rw [Bool.not_eq_true, List.any_eq_false] at h2
   have := h2 x hx
   simp only [decide_eq_true_eq] at this
   omega
  ·exact fewPs_mem n ps _ hc p hp
theorem fewU_lim {u : Unt} {n : Int} (h : fewU u n = true) (hn : n ≤ 200) : Lim u := by
 unfold fewU at h
 split at h
 ·cases h
 ·rename_i h1
  refine ⟨by omega, fun p hp => ?_⟩
  obtain ⟨a, _, c⟩ := fewPs_mem n _ _ h p hp
  exact ⟨by omega, fun x hx => by have := c x hx; omega⟩
end Go.Cb
namespace Go.Cb
open Go.Proofs
set_option maxRecDepth 100000
set_option maxHeartbeats 4000000
def AtW (l : List Int) (k : Nat) (s : List Int) : Prop := ∃ r, l.drop k = s ++ r
theorem AtW.snd {l : List Int} {k : Nat} {s t : List Int} (h : AtW l k (s ++ t)) : AtW l (k + s.length) t := by
 obtain ⟨r, h⟩ := h
 exact ⟨r, by rw [← List.drop_drop, h, List.append_assoc, List.drop_left]⟩
theorem AtW.cons {l : List Int} {k : Nat} {a : Int} {s : List Int} (h : AtW l k (a :: s)) : k < l.length ∧ l.getD k 0 = a ∧ AtW l (k + 1) s := by
 obtain ⟨r, h⟩ := h
 have hk : k < l.length := by
  refine Nat.lt_of_not_le fun hk => ?_
  rw [List.drop_of_length_le hk] at h
  cases h
 rw [drop_at hk, List.cons_append, List.cons.injEq] at h
 refine ⟨hk, ?_, ⟨r, h.2⟩⟩
 rw [List.getD_eq_getElem?_getD, List.getElem?_eq_getElem hk]
 exact h.1
theorem AtW.len {l : List Int} {k : Nat} {s : List Int} (h : AtW l k s) (hs : s ≠ []) : k + s.length ≤ l.length := by
 obtain ⟨r, h⟩ := h
 have h2 := congrArg List.length h
 rw [List.length_drop, List.length_append] at h2
 have := List.length_pos_iff.2 hs
 omega
abbrev InE := Ins × List Int
def wrdE (E : List InE) : List Int := E.flatMap fun q => insW q.1 q.2
theorem wrdE_cons (q : InE) (E : List InE) : wrdE (q :: E) = insW q.1 q.2 ++ wrdE E := by rw [wrdE, List.flatMap_cons]; rfl
theorem wrdE_app (E F : List InE) : wrdE (E ++ F) = wrdE E ++ wrdE F := by rw [wrdE, List.flatMap_append]; rfl
theorem wrdE_len : ∀ E : List InE, 6 * E.length ≤ (wrdE E).length
 | [] => Nat.zero_le _
 | q :: E => by
  have := wrdE_len E
  rw [wrdE_cons, List.length_append, insW_len, List.length_cons]
  omega
def expE (sp : Int) (x : Ins) (al : List Int) : List InE := if lvsB x = true then ((ordF (takF x) sp).1.map fun m => (movI m, [])) ++ [(endI x, al)] else [(x, al)]
def allE (sp : Int) (f : Ins → Ins) : List Ins → List (List Int) → List InE
 | x :: xs, a :: al => expE sp (f x) a ++ allE sp f xs al
 | _, _ => []
theorem expE_w (sp : Int) (x : Ins) (al : List Int) : wrdE (expE sp x al) = oneW (cwM sp) x al := by
 unfold expE oneW
 split
 ·rw [wrdE_app, wrdE_cons, cwM, movW]
  congr 1
  ·rw [wrdE, List.flatMap_map]
  ·show insW (endI x) al ++ [] = _
   rw [List.append_nil]
 ·show insW x al ++ [] = _
  rw [List.append_nil]
theorem allE_w (sp : Int) (f : Ins → Ins) : ∀ (c : List Ins) (al : List (List Int)), wrdE (allE sp f c al) = allW (cwM sp) f c al
 | [], _ => by simp [allE, allW, wrdE]
 | _ :: _, [] => by simp [allE, allW, wrdE]
 | x :: c, a :: al => by rw [allE, allW, wrdE_app, expE_w, allE_w]
theorem jmpT_lvs (pl : List Int) (x : Ins) : lvsB (jmpT pl x) = lvsB x := by
 unfold jmpT
 split
 ·rfl
 ·split <;> rfl
theorem jmpT_end {pl : List Int} {x : Ins} (h : lvsB x = true) : jmpT pl x = x := by
 simp only [lvsB, Bool.and_eq_true, decide_eq_true_eq] at h
 unfold jmpT
 rw [if_neg (by omega), if_neg (by omega)]
def lensE (E : List InE) : List Nat := E.map fun q => (insW q.1 q.2).length
theorem expE_lens (sp : Int) (pl : List Int) (x : Ins) (al : List Int) : lensE (expE sp (jmpT pl x) al) = lensE (expE sp x al) := by
 by_cases h : lvsB x = true
 ·rw [jmpT_end h]
 ·unfold expE
  rw [jmpT_lvs, if_neg h, if_neg h]
  show [(insW (jmpT pl x) al).length] = [(insW x al).length]
  rw [insW_len, insW_len, jmpT_l]
theorem allE_lens (sp : Int) (pl : List Int) : ∀ (c : List Ins) (al : List (List Int)), lensE (allE sp (jmpT pl) c al) = lensE (allE sp id c al)
 | [], _ => by simp [allE]
 | _ :: _, [] => by simp [allE]
 | x :: c, a :: al => by
  rw [allE, allE, lensE, lensE, List.map_append, List.map_append, ← lensE, ← lensE, ← lensE, ← lensE, allE_lens sp pl c al, expE_lens]
  rfl
abbrev cdE (p : Prc) : List InE := allE (spareL p.code p.regs) (jmpT (stsP cwM p)) p.code p.alive
def RdOf (p q : Prc) : Prop := q.args = p.args ∧ q.rest = p.rest ∧ q.regs = spareL p.code p.regs + 1 ∧ q.alive = (cdE p).map Prod.snd ∧ q.code.map (fun x => (x.op, x.l)) = (cdE p).map fun x => (x.1.op, x.1.l)
inductive RdsOf : List Prc → List Prc → Prop
 | nil : RdsOf [] []
 | cons {p q ps qs} : RdOf p q → RdsOf ps qs → RdsOf (p :: ps) (q :: qs)
theorem RdsOf.length {ps qs : List Prc} (h : RdsOf ps qs) : qs.length = ps.length := by
 induction h with
 | nil => rfl
 | cons _ _ ih => rw [List.length_cons, List.length_cons, ih]
theorem RdsOf.at_ {ps qs : List Prc} (h : RdsOf ps qs) : ∀ {i : Nat} (h1 : i < ps.length) (h2 : i < qs.length), RdOf ps[i] qs[i] := by
 induction h with
 | nil => intro i h1; cases h1
 | cons a _ ih =>
  intro i h1 h2
  cases i with
  | zero => exact a
  | succ i => exact ih (by simpa using h1) (by simpa using h2)
end Go.Cb
namespace Go.Cb
open Go.Proofs
set_option maxRecDepth 100000
set_option maxHeartbeats 4000000
theorem AtW.mk {l : List Int} {k : Nat} (h : k < l.length) {s : List Int} (hs : AtW l (k + 1) s) : AtW l k (l.getD k 0 :: s) := by
 obtain ⟨r, hr⟩ := hs
 refine ⟨r, ?_⟩
 rw [drop_at h, hr, List.getD_eq_getElem?_getD, List.getElem?_eq_getElem h]
 rfl
end Go.Cb
namespace Go.Cb
open Go.Proofs
set_option maxRecDepth 100000
set_option maxHeartbeats 4000000
theorem offW_get (cw : CwF) (n : Int) : ∀ (ps : List Prc) (k : Nat) (i : Nat), i < ps.length → (offW cw n ps k).getD i 0 = 2 + n + k + (bodyW cw (ps.take i)).length
 | [], _, _, h => by simp at h
 | p :: ps, k, 0, _ => by rw [offW, List.take_zero]; simp [bodyW]
 | p :: ps, k, i + 1, h => by
  have ih := offW_get cw n ps (k + (procW cw p).length) i (by simpa using h)
  rw [offW, List.getD_cons_succ, List.take_succ_cons, bodyW, List.flatMap_cons, ← bodyW, List.length_append]
  rw [show ((k : Int) + ((procW cw p).length : Int)) = ((k + (procW cw p).length : Nat) : Int) by omega, ih]
  omega
abbrev imgW (ps : List Prc) : List Int := headW cwM ps ++ bodyW cwM ps
def atP (ps : List Prc) (i : Nat) : Nat := 2 + ps.length + (bodyW cwM (ps.take i)).length
theorem headW_len (ps : List Prc) : (headW cwM ps).length = 2 + ps.length := by
 show ([6516594, (ps.length : Int)] ++ offW cwM ps.length ps 0).length = _
 rw [List.length_append, offW_len]
 rfl
theorem atP_succ {ps : List Prc} {i : Nat} (h : i < ps.length) : atP ps (i + 1) = atP ps i + (procW cwM ps[i]).length := by
 rw [atP, atP, List.take_succ_eq_append_getElem h, bodyW, List.flatMap_append, List.length_append, ← bodyW]
 have : List.flatMap (procW cwM) [ps[i]] = procW cwM ps[i] := by simp
 rw [this]
 omega
theorem procW_len (p : Prc) : (procW cwM p).length = 4 + (wrdP cwM p).length := by
 rw [procW, List.length_append, List.length_cons]
 simp only [List.length_cons, List.length_nil]
 omega
theorem imgW_head {ps : List Prc} {i : Nat} (h : i < ps.length) : (imgW ps).getD (2 + i) 0 = (atP ps i : Int) := by
 have h0 : imgW ps = 6516594 :: (ps.length : Int) :: (offW cwM ps.length ps 0 ++ bodyW cwM ps) := rfl
 rw [h0, show 2 + i = i + 1 + 1 by omega, List.getD_cons_succ, List.getD_cons_succ, List.getD_eq_getElem?_getD, List.getElem?_append_left (by rw [offW_len]; exact h), ← List.getD_eq_getElem?_getD]
 have := offW_get cwM ps.length ps 0 i h
 rw [show (((0 : Nat) : Int)) = 0 from rfl] at this
 rw [this, atP]
 omega
theorem imgW_at {ps : List Prc} {i : Nat} (h : i < ps.length) : AtW (imgW ps) (atP ps i) (procW cwM ps[i]) := by
 refine ⟨bodyW cwM (ps.drop (i + 1)), ?_⟩
 rw [imgW, atP, ← headW_len, List.drop_append, List.drop_of_length_le (by omega), List.nil_append, Nat.add_sub_cancel_left]
 have h1 : bodyW cwM ps = bodyW cwM (ps.take i) ++ bodyW cwM (ps.drop i) := by
  rw [bodyW, bodyW, bodyW, ← List.flatMap_append, List.take_append_drop]
 rw [h1, List.drop_left, drop_at h, bodyW, List.flatMap_cons]
 rfl
theorem allE_len (sp : Int) (f : Ins → Ins) : ∀ (c : List Ins) (al : List (List Int)), al.length = c.length → c.length ≤ (allE sp f c al).length
 | [], _, _ => Nat.zero_le _
 | _ :: _, [], h => by simp at h
 | x :: c, a :: al, h => by
  have := allE_len sp f c al (by simpa using h)
  rw [allE, List.length_append, List.length_cons]
  have h1 : 1 ≤ (expE sp (f x) a).length := by
   unfold expE
   split
   ·rw [List.length_append, List.length_singleton]; omega
   ·exact Nat.le_refl 1
  omega
theorem wrdP_ge {p : Prc} (h : p.alive.length = p.code.length) : 6 * p.code.length ≤ (wrdP cwM p).length := by
 have h1 : wrdP cwM p = wrdE (cdE p) := (allE_w _ _ _ _).symm
 have h2 := wrdE_len (cdE p)
 have h3 := allE_len (spareL p.code p.regs) (jmpT (stsP cwM p)) p.code p.alive h
 rw [h1]
 have h4 : p.code.length ≤ (cdE p).length := h3
 omega
theorem place {ps : List Prc} {i : Nat} (h : i < ps.length) (ha : ps[i].alive.length = ps[i].code.length) :
  (imgW ps).getD (2 + i) 0 = (atP ps i : Int) ∧ atP ps i + 3 < (imgW ps).length ∧ (imgW ps).getD (atP ps i) 0 = ps[i].args ∧ (imgW ps).getD (atP ps i + 2) 0 > ps[i].regs ∧ (imgW ps).getD (atP ps i + 3) 0 ≥ 6 * (ps[i].code.length : Int) ∧
   (atP ps i : Int) + 4 + (imgW ps).getD (atP ps i + 3) 0 = (atP ps (i + 1) : Int) ∧ atP ps (i + 1) ≤ (imgW ps).length := by
 have h0 := imgW_at h
 have hle := h0.len (by simp [procW])
 have hpl := procW_len ps[i]
 have hs := atP_succ h
 have h1 : procW cwM ps[i] = ps[i].args :: (if ps[i].rest = true then 1 else 0) :: (spareL ps[i].code ps[i].regs + 1) :: (((wrdP cwM ps[i]).length : Int) :: wrdP cwM ps[i]) := rfl
 rw [h1] at h0
 obtain ⟨_, e1, h0⟩ := h0.cons
 obtain ⟨_, e2, h0⟩ := h0.cons
 obtain ⟨_, e3, h0⟩ := h0.cons
 obtain ⟨_, e4, h0⟩ := h0.cons
 have g := wrdP_ge ha
 have g2 := spareL_ge ps[i].code ps[i].regs
 refine ⟨imgW_head h, by omega, e1, ?_, ?_, ?_, by omega⟩
 ·rw [show atP ps i + 2 = atP ps i + 1 + 1 by omega, e3]; omega
 ·rw [show atP ps i + 3 = atP ps i + 1 + 1 + 1 by omega, e4]; omega
 ·rw [show atP ps i + 3 = atP ps i + 1 + 1 + 1 by omega, e4]; omega
def kkE (sp : Int) (f : Ins → Ins) (c : List Ins) (al : List (List Int)) (i : Nat) : Nat := (allE sp f (c.take i) (al.take i)).length
def mvN (sp : Int) (x : Ins) : Nat := if lvsB x = true then (ordF (takF x) sp).1.length else 0
structure RdAt (p q : Prc) : Prop where
 args : q.args = p.args
 rest : q.rest = p.rest
 len : q.alive.length = q.code.length
 all : kkE (spareL p.code p.regs) (jmpT (stsP cwM p)) p.code p.alive p.code.length = q.code.length
 mv : ∀ (i : Nat) (_ : i < p.code.length) (j : Nat), j < mvN (spareL p.code p.regs) p.code[i] → ∃ (h1 : kkE (spareL p.code p.regs) (jmpT (stsP cwM p)) p.code p.alive i + j < q.code.length) (h2 : kkE (spareL p.code p.regs) (jmpT (stsP cwM p)) p.code p.alive i + j < q.alive.length),
  q.code[kkE (spareL p.code p.regs) (jmpT (stsP cwM p)) p.code p.alive i + j].op = 1 ∧ q.alive[kkE (spareL p.code p.regs) (jmpT (stsP cwM p)) p.code p.alive i + j] = []
 en : ∀ (i : Nat) (_ : i < p.code.length) (h0 : i < p.alive.length), ∃ (h1 : kkE (spareL p.code p.regs) (jmpT (stsP cwM p)) p.code p.alive i + mvN (spareL p.code p.regs) p.code[i] < q.code.length) (h2 : kkE (spareL p.code p.regs) (jmpT (stsP cwM p)) p.code p.alive i + mvN (spareL p.code p.regs) p.code[i] < q.alive.length),
  q.code[kkE (spareL p.code p.regs) (jmpT (stsP cwM p)) p.code p.alive i + mvN (spareL p.code p.regs) p.code[i]].op = p.code[i].op ∧
  q.code[kkE (spareL p.code p.regs) (jmpT (stsP cwM p)) p.code p.alive i + mvN (spareL p.code p.regs) p.code[i]].l = (if lvsB p.code[i] = true then upTo p.code[i].l.length else p.code[i].l) ∧
  q.alive[kkE (spareL p.code p.regs) (jmpT (stsP cwM p)) p.code p.alive i + mvN (spareL p.code p.regs) p.code[i]] = p.alive[i]
end Go.Cb
namespace Go.Cb
open Go.Proofs
set_option maxRecDepth 100000
set_option maxHeartbeats 4000000
def namedL (x : Ins) : List Int :=
 if x.op = 1 ∨ x.op = 10 ∨ x.op = 11 ∨ x.op = 14 then [x.a] else if x.op = 12 ∨ x.op = 13 then [x.a, x.b] else if x.op = 7 ∨ x.op = 9 ∨ x.op = 21 then x.l else
 if x.op = 8 ∨ x.op = 17 ∨ x.op = 19 then x.a :: x.l else if x.op = 18 ∨ x.op = 20 then x.b :: x.l else if x.op = 16 ∨ x.op = 22 then [x.a] else []
def givesI (x : Ins) : Int := if x.op ≤ 7 ∨ (9 ≤ x.op ∧ x.op ≤ 11) ∨ x.op = 14 ∨ x.op = 17 ∨ x.op = 18 then x.d else -1
def bareB (x : Ins) : Bool :=
 if givesI x < 0 ∧ x.d ≠ 0 then false else if x.a ≠ 0 ∧ (x.op = 3 ∨ x.op = 4) then false else
 if x.b ≠ 0 ∧ x.op ≠ 12 ∧ x.op ≠ 13 ∧ x.op ≠ 16 ∧ x.op ≠ 18 ∧ x.op ≠ 20 then false else
 decide ((x.l.length : Int) = 0) || (decide (7 ≤ x.op) && decide (x.op ≤ 9)) || (decide (17 ≤ x.op) && decide (x.op ≤ 21))
def outB (regs n : Int) : Bool := decide (n < 0) || decide (n ≥ regs)
def preD (x : Ins) (regs : Int) : Bool := if x.op < 0 ∨ x.op > 22 ∨ bareB x = false then false else if (namedL x).any (outB regs) = true then false else if givesI x ≥ regs ∨ givesI x < -1 ∨ x.d < 0 then false else true
theorem any_outB (regs : Int) (l : List Int) : l.any (outB regs) = l.any fun n => !belB n regs := by
 congr 1
 funext n
 unfold outB belB
 rw [Bool.eq_iff_iff]
 simp only [Bool.or_eq_true, decide_eq_true_eq, Bool.not_eq_true', Bool.and_eq_false_imp, decide_eq_false_iff_not]
 omega
theorem preD_fitA (x : Ins) (regs : Int) (h0 : 0 ≤ regs) : preD x regs = fitA x regs := by
 obtain ⟨op, d, a, b, l⟩ := x
 by_cases hop : op < 0 ∨ op > 22
 ·have e1 : preD ⟨op, d, a, b, l⟩ regs = false := by
   unfold preD
   rw [if_pos (by rcases hop with h | h; exact .inl h; exact .inr (.inl h))]
  have e2 : (partsL op).2 = false := by
   unfold partsL
   repeat (first|rw [if_neg (by omega)])
  rw [e1, fitA]
  show false = ((partsL op).2 && _ && _)
  rw [e2]
  rfl
 ·unfold preD fitA
  rw [← any_outB]
  rcases (by omega : op = 0 ∨ op = 1 ∨ op = 2 ∨ op = 3 ∨ op = 4 ∨ op = 5 ∨ op = 6 ∨ op = 7 ∨ op = 8 ∨ op = 9 ∨ op = 10 ∨ op = 11 ∨ op = 12 ∨ op = 13 ∨ op = 14 ∨ op = 15 ∨ op = 16 ∨ op = 17 ∨ op = 18 ∨ op = 19 ∨ op = 20 ∨ op = 21 ∨ op = 22) with
   rfl | rfl | rfl | rfl | rfl | rfl | rfl | rfl | rfl | rfl | rfl | rfl | rfl | rfl | rfl | rfl | rfl | rfl | rfl | rfl | rfl | rfl | rfl
  all_goals
   simp only [bareB, namedL, givesI, partsL, regB, belB]
   rw [Bool.eq_iff_iff]
   by_cases hl : l = []
   ·subst hl
    simp [outB]
    try omega
   ·by_cases ho : l.any (outB regs) = true
    ·simp [ho, outB, hl]
     try omega
    ·simp [ho, outB, hl]
     try omega
end Go.Cb
namespace Go.Cb
open Go.Proofs
set_option maxRecDepth 100000
set_option maxHeartbeats 4000000
theorem PAppend.lit {α : Type} {f : α → PV} {l m : List α} {es es2 : List PV} {s by_ : Nat} {e : TypeId} {tk : Option Tok} {t : Tok} {Γ : List Ent} {put : Tok → List Ent} [hp : PickTok Γ t put] [hl : RowOf f es l] [hm : RowOf f es2 m] {K : PV → List Ent → Prop} (hes : es = l.map f) (he : t.e = e)
  (hb : Nat.ble by_ 4096 = true) (h1 : l.length + m.length ≤ 34359738368)
  (k : ∀ t' : Tok, t'.e = e → K (.sl s ((l ++ m).map f) (some t')) (put t')) : PAppend s by_ e (.sl s es (some t)) (.sl s es2 tk) Γ K := by
 subst hes
 exact PAppend.more he hb h1 k
theorem named_c (x : Ins) (hl : x.l.length ≤ 1000000) : ACallP Tryz.prog 34 [.agg x.cells] (.tup [slI (namedL x), .int .i64 (givesI x)]) := by
 have h1 : namedL x = namedL x := rfl
 have h2 : givesI x = givesI x := rfl
 conv at h1 => rhs; unfold namedL
 conv at h2 => rhs; unfold givesI
 refine ACall.of_body tt_ok Tryz.func34 rfl rfl (n := 87) rfl rfl ?_
 conv => whnf
 repeat' (first|((first|((first|(apply zY;intro hg)|apply zZ);first|exact stA|exact stB)|(refine zW ?_ ?_;exact gA)|refine zH rfl ?_|refine zA ?_|refine zI bA ?_|refine zI rfl ?_|refine sB ?_|(refine zO ?_ ?_ ?_;omega;omega)|(refine zP ?_ ?_ ?_;omega;omega)|refine zM rfl ?_|(refine zQ ?_ ?_ ?_;omega;omega)|(refine zR ?_ ?_;omega)|(refine zI ?_ ?_;exact nA)|refine sS ?_|refine sE ?_|refine n0 ?_|refine sD ?_|intro _|refine zG ?_);conv=>whnf)|(refine zX (fun hc => ?_) (fun hc => ?_)<;>(try simp only [SY] at hc)<;>first|omega|(conv=>whnf)))
 all_goals first
  | (refine PAppend.lit (f := PV.int .i64) rfl (by assumption) rfl (by simp only [List.length_cons, List.length_nil]; omega) ?_; intro t9 ht9)
  | skip
 conv => whnf
 repeat' (first|((first|((first|(apply zY;intro hg)|apply zZ);first|exact stA|exact stB)|(refine zW ?_ ?_;exact gA)|refine zH rfl ?_|refine zA ?_|refine zI bA ?_|refine zI rfl ?_|refine sB ?_|(refine zO ?_ ?_ ?_;omega;omega)|(refine zP ?_ ?_ ?_;omega;omega)|refine zM rfl ?_|(refine zQ ?_ ?_ ?_;omega;omega)|(refine zR ?_ ?_;omega)|(refine zI ?_ ?_;exact nA)|refine sS ?_|refine sE ?_|refine n0 ?_|refine sD ?_|intro _|refine zG ?_);conv=>whnf)|(refine zX (fun hc => ?_) (fun hc => ?_)<;>(try simp only [SY] at hc)<;>first|omega|(conv=>whnf)))
 all_goals
  repeat (first|rw [if_neg (by omega)] at h1|rw [if_pos (by omega)] at h1)
  repeat (first|rw [if_neg (by omega)] at h2|rw [if_pos (by omega)] at h2)
  rw [h1, h2]
 all_goals first
  | exact PRet.pure (Wk.tup (.cons (Wk.tok _ _ _) (.cons (Wk.refl _) .nil)))
  | exact PRet.pure (Wk.tup (.cons (Wk.refl _) (.cons (Wk.refl _) .nil)))
  | exact PRet.pure (Wk.tup (.cons slI_nil (.cons (Wk.refl _) .nil)))
theorem bare14_c (x : Ins) (hl : x.l.length ≤ 1000000) : ACallP Tryz.prog 173 [.agg x.cells] (.bool (bareB x)) := by
 have hb : bareB x = bareB x := rfl
 conv at hb => rhs; unfold bareB
 generalize hg : givesI x = g at *
 have hn := named_c x hl
 rw [hg] at hn
 refine ACall.of_body tt_ok Tryz.func173 rfl rfl (n := 82) rfl rfl ?_
 conv => whnf
 repeat' (first|((first|((first|(apply zY;intro hg)|apply zZ);first|exact stA|exact stB|((conv=>whnf);(repeat ((first|(refine zW ?_ ?_;exact gA)|refine pC (hn) wR ?_|intro _);conv=>whnf));first|exact pS|exact pL|exact pE))|(refine zW ?_ ?_;exact gA)|refine zH rfl ?_|refine zA ?_|refine zI bA ?_|refine zI rfl ?_|refine sB ?_|(refine zO ?_ ?_ ?_;omega;omega)|(refine zP ?_ ?_ ?_;omega;omega)|refine zM rfl ?_|(refine zQ ?_ ?_ ?_;omega;omega)|(refine zR ?_ ?_;omega)|(refine zI ?_ ?_;exact nA)|refine sS ?_|refine pC (hn) wR ?_|refine sE ?_|refine n0 ?_|refine sD ?_|intro _|refine zG ?_);conv=>whnf)|(refine zX (fun hc => ?_) (fun hc => ?_)<;>(try simp only [SY] at hc)<;>first|omega|(conv=>whnf)))
 all_goals
  repeat (first|rw [if_neg (by omega)] at hb|rw [if_pos (by omega)] at hb)
  rw [hb]
 all_goals first
  | exact PRet.pure (Wk.ff rfl)
  | exact PRet.pure (Wk.refl _)
end Go.Cb
namespace Go.Cb
open Go.Proofs
set_option maxRecDepth 100000
set_option maxHeartbeats 4000000
theorem namedL_len (x : Ins) : (namedL x).length ≤ x.l.length + 2 := by
 unfold namedL
 repeat (first|(split; simp))
 simp
def insD14 (x : Ins) (p : Prc) (u : Unt) : Bool := preD x p.regs && fitN x p.code.length u.consts.length u.procs.length
theorem ins14_c (x : Ins) (p : Prc) (u : Unt) (hl : x.l.length ≤ 1000000) : ACallP Tryz.prog 122 [.agg x.cells, .agg p.cells, .agg u.cells] (.bool (insD14 x p u)) := by
 have hn : fitN x p.code.length u.consts.length u.procs.length = fitN x p.code.length u.consts.length u.procs.length := rfl
 conv at hn => rhs; unfold fitN
 have hp : preD x p.regs = preD x p.regs := rfl
 conv at hp => rhs; unfold preD
 have hnl := namedL_len x
 have hnm := named_c x hl
 have hbr := bare14_c x hl
 generalize hN : namedL x = nl at *
 generalize hG : givesI x = g at *
 generalize hB : bareB x = bb at *
 refine ACall.of_body tt_ok Tryz.func122 rfl rfl (n := 144) rfl rfl ?_
 conv => whnf
 repeat' (first|((first|((first|(apply zY;intro hg)|apply zZ);first|exact stA|exact stB|((conv=>whnf);(repeat ((first|(refine zW ?_ ?_;exact gA)|refine pC (hbr) wR ?_|refine pC (hnm) wR ?_|intro _);conv=>whnf));first|exact pS|exact pL|exact pE))|(refine zW ?_ ?_;exact gA)|refine zH rfl ?_|refine zA ?_|refine zI bA ?_|refine zI rfl ?_|refine sB ?_|(refine zO ?_ ?_ ?_;omega;omega)|(refine zP ?_ ?_ ?_;omega;omega)|refine zM rfl ?_|(refine zQ ?_ ?_ ?_;omega;omega)|(refine zR ?_ ?_;omega)|(refine zI ?_ ?_;exact nA)|refine sS ?_|refine pC (hbr) wR ?_|refine pC (hnm) wR ?_|refine sE ?_|refine n0 ?_|refine sD ?_|refine PDraw.sP (some 34) rfl [] [] tt_ok mixed ?_|intro _|refine zG ?_);conv=>whnf)|(refine zX (fun hc => ?_) (fun hc => ?_)<;>(try simp only [SY] at hc)<;>first|omega|(conv=>whnf)))
 ·rw [if_pos (by rcases hc with (h | h) | h; exact .inl h; exact .inr (.inl h); exact .inr (.inr h))] at hp
  rw [insD14, hp]
  exact PRet.pure (Wk.ff rfl)
 rw [if_neg (by rintro (h | h | h); omega; omega; rw [h] at hc; simp at hc)] at hp
 refine PLoop.keep [6, 9, 28, 29, 30, 31, 32, 33, 34, 35, 36, 37, 38, 39, 40, 41, 42, 43, 44, 45, 46, 47] (fun i : Nat => [(9, .int .i64 i)]) (fun i => i ≤ nl.length ∧ nl.any (outB p.regs) = (nl.drop i).any (outB p.regs)) (fun i => nl.length - i) 0 ⟨Nat.zero_le _, rfl⟩ wA ?_
 rintro i ⟨hi, he⟩
 conv => whnf
 repeat' (first|((first|((first|(apply zY;intro hg)|apply zZ);first|exact stA|exact stB|((conv=>whnf);(repeat ((first|(refine zW ?_ ?_;exact gA)|refine pC (hbr) wR ?_|refine pC (hnm) wR ?_|intro _);conv=>whnf));first|exact pS|exact pL|exact pE))|(refine zW ?_ ?_;exact gA)|refine zH rfl ?_|refine zA ?_|refine zI bA ?_|refine zI rfl ?_|refine sB ?_|(refine zO ?_ ?_ ?_;omega;omega)|(refine zP ?_ ?_ ?_;omega;omega)|refine zM rfl ?_|(refine zQ ?_ ?_ ?_;omega;omega)|(refine zR ?_ ?_;omega)|(refine zI ?_ ?_;exact nA)|refine sS ?_|refine pC (hbr) wR ?_|refine pC (hnm) wR ?_|refine sE ?_|refine n0 ?_|refine sD ?_|refine PDraw.sP (some 34) rfl [] [] tt_ok mixed ?_|intro _|refine zG ?_);conv=>whnf)|(refine zX (fun hc => ?_) (fun hc => ?_)<;>(try simp only [SY] at hc)<;>first|omega|(conv=>whnf)))
 ·have hil : i < nl.length := by omega
  have hb : outB p.regs nl[i] = true := by unfold outB; simp only [Bool.or_eq_true, decide_eq_true_eq]; omega
  rw [drop_at hil, List.any_cons, hb, Bool.true_or] at he
  rw [if_pos he] at hp
  rw [insD14, hp]
  exact PRet.pure (Wk.ff rfl)
 ·have hil : i < nl.length := by omega
  have hb : outB p.regs nl[i] = false := by unfold outB; simp only [Bool.or_eq_false_iff, decide_eq_false_iff_not]; omega
  rw [drop_at hil, List.any_cons, hb, Bool.false_or] at he
  exact loopTo (i + 1) ⟨by omega, he⟩ (by show nl.length - (i + 1) < nl.length - i; omega) wA
 all_goals
  have he2 : ¬nl.any (outB p.regs) = true := by rw [he, List.drop_of_length_le (by omega)]; simp
  rw [if_neg he2] at hp
 ·rw [if_pos (by omega)] at hp
  rw [insD14, hp]
  exact PRet.pure (Wk.ff rfl)
 all_goals
  rw [if_neg (by omega)] at hp
  repeat (first|rw [if_neg (by omega)] at hn|rw [if_pos (by omega)] at hn)
  have hB : insD14 x p u = fitN x p.code.length u.consts.length u.procs.length := by rw [insD14, hp]; exact Bool.true_and _
  rw [hB, hn]
  exact PRet.pure (by first | exact Wk.refl _ | exact Wk.tt rfl | exact Wk.bool (by rw [Bool.eq_iff_iff]; simp only [Bool.and_eq_true, decide_eq_true_eq]; omega))
end Go.Cb
namespace Go.Cb
open Go.Proofs
set_option maxRecDepth 100000
set_option maxHeartbeats 4000000
theorem check14_c (u : Unt) (hx : ∀ p ∈ u.procs, ∀ x ∈ p.code, x.l.length ≤ 1000000) : ACallP Tryz.prog 67 [.agg u.cells] (.int .i64 (chkU u)) := by
 have hins : ∀ (i k : Nat) (hi : i < u.procs.length) (hk : k < u.procs[i].code.length), ACallP Tryz.prog 122 [.agg u.procs[i].code[k].cells, .agg u.procs[i].cells, .agg u.cells] (.bool (insD14 u.procs[i].code[k] u.procs[i] u)) :=
  fun i k hi hk => ins14_c _ _ _ (hx _ (List.getElem_mem hi) _ (List.getElem_mem hk))
 refine ACall.of_body tt_ok Tryz.func67 rfl rfl (n := 125) rfl rfl ?_
 conv => whnf
 repeat' (first|((first|((first|(apply zY;intro hg)|apply zZ);first|exact stA|exact stB|((conv=>whnf);(repeat ((first|(refine zW ?_ ?_;exact gA)|refine pC (right2D_c _) wR ?_|refine pC (hins _ _ (by omega) (by omega)) wR ?_|intro _);conv=>whnf));first|exact pS|exact pL|exact pE))|(refine zW ?_ ?_;exact gA)|refine zH rfl ?_|refine zA ?_|refine zI bA ?_|refine zI rfl ?_|refine sB ?_|(refine zO ?_ ?_ ?_;omega;omega)|(refine zP ?_ ?_ ?_;omega;omega)|refine zM rfl ?_|(refine zQ ?_ ?_ ?_;omega;omega)|(refine zR ?_ ?_;omega)|(refine zI ?_ ?_;exact nA)|refine sS ?_|refine pC (right2D_c _) wR ?_|refine pC (hins _ _ (by omega) (by omega)) wR ?_|refine sE ?_|refine n0 ?_|refine sD ?_|refine PDraw.sP (some 116) rfl [] [] tt_ok mixed ?_|intro _|refine zG ?_);conv=>whnf)|(refine zX (fun hc => ?_) (fun hc => ?_)<;>(try simp only [SY] at hc)<;>first|omega|(conv=>whnf)))
 ·rw [show chkU u = 5 from if_pos (by simp only [Bool.or_eq_true, decide_eq_true_eq]; exact .inl hc)]
  exact PRet.pure (Wk.refl _)
 refine PLoop.keep [2, 3, 19, 20, 21, 22, 23, 24, 25, 26, 27, 28, 29, 30, 31, 32] (fun i : Nat => [(3, .int .i64 i)]) (fun i => i ≤ u.consts.length ∧ (u.consts.any fun d => !d.rightP 0) = (u.consts.drop i).any fun d => !d.rightP 0) (fun i => u.consts.length - i) 0 ⟨Nat.zero_le _, rfl⟩ wA ?_
 rintro i ⟨hi, he⟩
 conv => whnf
 repeat' (first|((first|((first|(apply zY;intro hg)|apply zZ);first|exact stA|exact stB|((conv=>whnf);(repeat ((first|(refine zW ?_ ?_;exact gA)|refine pC (right2D_c _) wR ?_|refine pC (hins _ _ (by omega) (by omega)) wR ?_|intro _);conv=>whnf));first|exact pS|exact pL|exact pE))|(refine zW ?_ ?_;exact gA)|refine zH rfl ?_|refine zA ?_|refine zI bA ?_|refine zI rfl ?_|refine sB ?_|(refine zO ?_ ?_ ?_;omega;omega)|(refine zP ?_ ?_ ?_;omega;omega)|refine zM rfl ?_|(refine zQ ?_ ?_ ?_;omega;omega)|(refine zR ?_ ?_;omega)|(refine zI ?_ ?_;exact nA)|refine sS ?_|refine pC (right2D_c _) wR ?_|refine pC (hins _ _ (by omega) (by omega)) wR ?_|refine sE ?_|refine n0 ?_|refine sD ?_|refine PDraw.sP (some 116) rfl [] [] tt_ok mixed ?_|intro _|refine zG ?_);conv=>whnf)|(refine zX (fun hc => ?_) (fun hc => ?_)<;>(try simp only [SY] at hc)<;>first|omega|(conv=>whnf)))
 ·have hil : i < u.consts.length := by omega
  rw [drop_at hil, List.any_cons, right_eq, hc, Bool.not_false, Bool.true_or] at he
  rw [show chkU u = 5 from if_pos (by rw [he, Bool.or_true])]
  exact PRet.pure (Wk.refl _)
 ·have hil : i < u.consts.length := by omega
  rw [drop_at hil, List.any_cons, right_eq, hc, Bool.not_true, Bool.false_or] at he
  exact loopTo (i + 1) ⟨by omega, he⟩ (by show u.consts.length - (i + 1) < u.consts.length - i; omega) wA
 rw [List.drop_of_length_le (by omega), List.any_nil] at he
 have h0 : chkU u = if chksU u u.procs 0 = true then 0 else 5 := by
  unfold chkU
  rw [if_neg]
  rw [he, Bool.or_false]
  simp only [Bool.or_eq_true, decide_eq_true_eq]
  omega
 refine PLoop.keep [2, 4, 5, 6, 7, 8, 33, 34, 35, 36, 37, 38, 39, 40, 41, 42, 43, 44, 45, 46, 47, 48, 49, 50, 51, 52, 53, 54, 55, 56, 57, 58, 59, 60, 61, 62, 63, 64, 65, 66, 67, 68, 69, 70, 71, 72, 73, 74, 75, 76, 77, 78, 79, 80, 81, 82, 83, 84, 85, 86, 87, 88, 89, 90, 91, 92, 93, 94, 95, 96, 97, 98, 99, 100, 101, 102, 103, 104, 105, 106, 107, 108, 109, 110, 111, 112, 113, 114, 115, 116, 117, 118, 119, 120, 121, 122, 123, 124] (fun x : Nat × Int => [(4, .int .i64 x.2), (5, .int .i64 x.1)]) (fun x => x.1 ≤ u.procs.length ∧ 0 ≤ x.2 ∧ x.2 ≤ 50000 ∧ chksU u u.procs 0 = chksU u (u.procs.drop x.1) x.2) (fun x => u.procs.length - x.1) (0, 0) ⟨Nat.zero_le _, by omega, by omega, by simp⟩ wA ?_
 rintro ⟨j, all⟩ ⟨hj, ha0, ha1, hk⟩
 dsimp only at hj ha0 ha1 hk ⊢
 conv => whnf
 repeat' (first|((first|((first|(apply zY;intro hg)|apply zZ);first|exact stA|exact stB|((conv=>whnf);(repeat ((first|(refine zW ?_ ?_;exact gA)|refine pC (right2D_c _) wR ?_|refine pC (hins _ _ (by omega) (by omega)) wR ?_|intro _);conv=>whnf));first|exact pS|exact pL|exact pE))|(refine zW ?_ ?_;exact gA)|refine zH rfl ?_|refine zA ?_|refine zI bA ?_|refine zI rfl ?_|refine sB ?_|(refine zO ?_ ?_ ?_;omega;omega)|(refine zP ?_ ?_ ?_;omega;omega)|refine zM rfl ?_|(refine zQ ?_ ?_ ?_;omega;omega)|(refine zR ?_ ?_;omega)|(refine zI ?_ ?_;exact nA)|refine sS ?_|refine pC (right2D_c _) wR ?_|refine pC (hins _ _ (by omega) (by omega)) wR ?_|refine sE ?_|refine n0 ?_|refine sD ?_|refine PDraw.sP (some 116) rfl [] [] tt_ok mixed ?_|intro _|refine zG ?_);conv=>whnf)|(refine zX (fun hc => ?_) (fun hc => ?_)<;>(try simp only [SY] at hc)<;>first|omega|(conv=>whnf)))
 ·have hip : j < u.procs.length := by omega
  have hh : headB u.procs[j] = true := by
   unfold headB
   simp only [Bool.or_eq_true, decide_eq_true_eq, Bool.and_eq_true, beq_iff_eq]
   exact hc
  rw [drop_at hip, chksU, if_pos hh] at hk
  rw [h0, hk]
  exact PRet.pure (Wk.refl _)
 ·have hip : j < u.procs.length := by omega
  have hh : ¬headB u.procs[j] = true := by
   rcases ‹_ ∧ ↑u.procs[j].code.length ≤ (50000 : Int)› with ⟨⟨⟨⟨⟨g1, g2⟩, g3⟩, g4⟩, g5⟩, g6⟩
   unfold headB
   simp only [Bool.or_eq_true, decide_eq_true_eq, Bool.and_eq_true, beq_iff_eq]
   rintro (((((h | h) | h) | ⟨h, k⟩) | h) | h)
   ·omega
   ·omega
   ·omega
   ·rcases g4 with g4 | g4
    ·rw [h] at g4; cases g4
    ·exact g4 k
   ·exact g5 h
   ·omega
  have hlo : lastOp u.procs[j] = (u.procs[j].code[u.procs[j].code.length - 1]'(by omega)).op := by unfold lastOp; rw [List.getD_eq_getElem?_getD, List.getElem?_eq_getElem (by omega)]; rfl
  rw [drop_at hip, chksU, if_neg hh, if_pos (by
   unfold endB
   rw [hlo]
   simp only [Bool.or_eq_true, decide_eq_true_eq, Bool.and_eq_true, bne_iff_ne]
   exact hc)] at hk
  rw [h0, hk]
  exact PRet.pure (Wk.refl _)
 ·have hip : j < u.procs.length := by omega
  have hh : ¬headB u.procs[j] = true := by
   rcases ‹_ ∧ ↑u.procs[j].code.length ≤ (50000 : Int)› with ⟨⟨⟨⟨⟨g1, g2⟩, g3⟩, g4⟩, g5⟩, g6⟩
   unfold headB
   simp only [Bool.or_eq_true, decide_eq_true_eq, Bool.and_eq_true, beq_iff_eq]
   rintro (((((h | h) | h) | ⟨h, k⟩) | h) | h)
   ·omega
   ·omega
   ·omega
   ·rcases g4 with g4 | g4
    ·rw [h] at g4; cases g4
    ·exact g4 k
   ·exact g5 h
   ·omega
  have hlo : lastOp u.procs[j] = (u.procs[j].code[u.procs[j].code.length - 1]'(by omega)).op := by unfold lastOp; rw [List.getD_eq_getElem?_getD, List.getElem?_eq_getElem (by omega)]; rfl
  rw [drop_at hip, chksU, if_neg hh, if_neg (by
   unfold endB
   rw [hlo]
   simp only [Bool.or_eq_true, decide_eq_true_eq, Bool.and_eq_true, bne_iff_ne]
   rintro (h | ⟨h, k⟩) <;> omega)] at hk
  have hrg : 0 ≤ u.procs[j].regs := by omega
  have hB : ∀ x, insD14 x u.procs[j] u = fitB x u.procs[j] u := fun x => by unfold insD14 fitB; rw [preD_fitA x _ hrg]
  refine PLoop.keep [2, 8, 109, 110, 111, 112, 113, 114, 115, 116, 117, 118, 119, 120, 121, 122, 123, 124] (fun k : Nat => [(8, .int .i64 k)]) (fun k => k ≤ u.procs[j].code.length ∧ (u.procs[j].code.any fun x => !fitB x u.procs[j] u) = (u.procs[j].code.drop k).any fun x => !fitB x u.procs[j] u) (fun k => u.procs[j].code.length - k) 0 ⟨Nat.zero_le _, rfl⟩ wA ?_
  rintro k ⟨hkl, hke⟩
  conv => whnf
  repeat' (first|((first|((first|(apply zY;intro hg)|apply zZ);first|exact stA|exact stB|((conv=>whnf);(repeat ((first|(refine zW ?_ ?_;exact gA)|refine pC (right2D_c _) wR ?_|refine pC (hins _ _ (by omega) (by omega)) wR ?_|intro _);conv=>whnf));first|exact pS|exact pL|exact pE))|(refine zW ?_ ?_;exact gA)|refine zH rfl ?_|refine zA ?_|refine zI bA ?_|refine zI rfl ?_|refine sB ?_|(refine zO ?_ ?_ ?_;omega;omega)|(refine zP ?_ ?_ ?_;omega;omega)|refine zM rfl ?_|(refine zQ ?_ ?_ ?_;omega;omega)|(refine zR ?_ ?_;omega)|(refine zI ?_ ?_;exact nA)|refine sS ?_|refine pC (right2D_c _) wR ?_|refine pC (hins _ _ (by omega) (by omega)) wR ?_|refine sE ?_|refine n0 ?_|refine sD ?_|refine PDraw.sP (some 116) rfl [] [] tt_ok mixed ?_|intro _|refine zG ?_);conv=>whnf)|(refine zX (fun hc => ?_) (fun hc => ?_)<;>(try simp only [SY] at hc)<;>first|omega|(conv=>whnf)))
  ·have hkc : k < u.procs[j].code.length := by omega
   rw [hB] at hc
   rw [drop_at hkc, List.any_cons, hc, Bool.not_false, Bool.true_or] at hke
   rw [if_pos hke] at hk
   rw [h0, hk]
   exact PRet.pure (Wk.refl _)
  ·have hkc : k < u.procs[j].code.length := by omega
   rw [hB] at hc
   rw [drop_at hkc, List.any_cons, hc, Bool.not_true, Bool.false_or] at hke
   exact loopTo (k + 1) ⟨by omega, hke⟩ (by show u.procs[j].code.length - (k + 1) < u.procs[j].code.length - k; omega) wA
  ·rw [List.drop_of_length_le (by omega), List.any_nil] at hke
   rw [if_neg (by rw [hke]; simp)] at hk
   exact loopTo (j + 1, all + u.procs[j].code.length) ⟨by show j + 1 ≤ _; omega, by dsimp only; omega, by dsimp only; omega, hk⟩ (by show u.procs.length - (j + 1) < u.procs.length - j; omega) wA
 ·rw [List.drop_of_length_le (by omega), chksU] at hk
  rw [h0, hk]
  exact PRet.pure (Wk.refl _)
end Go.Cb
namespace Go.Cb
open Go.Proofs
set_option maxRecDepth 100000
set_option maxHeartbeats 4000000
def fstB (p : Nat → Bool) : Nat → Int
 | 0 => -1
 | n + 1 => if fstB p n < 0 ∧ p n = true then (n : Int) else fstB p n
theorem fstB_find (p : Nat → Bool) : ∀ n, fstB p n = match (List.range n).find? p with
  | some i => (i : Int)
  | none => -1
 | 0 => rfl
 | n + 1 => by
  rw [fstB, fstB_find p n, List.range_succ, List.find?_append]
  cases h : (List.range n).find? p with
  | some i =>
   dsimp only
   rw [if_neg (fun hq => Int.not_lt.2 (Int.natCast_nonneg i) hq.1)]
   rfl
  | none =>
   dsimp only
   by_cases hp : p n = true
   ·rw [if_pos ⟨by omega, hp⟩, List.find?_cons_of_pos hp]; rfl
   ·rw [if_neg (fun h => hp h.2), List.find?_cons_of_neg hp]; rfl
def keyB (s : Lft) (i : Nat) : Bool := (s.getD i none).isSome
theorem hdN_fst {s : Lft} (h : keyN s ≠ []) : fstB (keyB s) s.length = (hdN s : Int) := by
 have e : (keyN s).head? = (List.range s.length).find? (keyB s) := by
  unfold keyN keyB
  rw [List.head?_filter]
 rw [fstB_find, ← e, hdN]
 cases hk : keyN s with
 | nil => exact absurd hk h
 | cons a l => rfl
theorem freeF_fst (s : Lft) : fstB (fun i => keyB s i && !usedB s i) s.length = match freeF s with
  | some i => (i : Int)
  | none => -1 := by
 rw [fstB_find]
 unfold freeF keyN keyB
 rw [List.find?_filter]
 simp only [Bool.decide_and, Bool.decide_eq_true]
def lft : List Bool → List Int → Lft := List.zipWith fun b x => if b = true then some x else none
theorem lft_get {bs : List Bool} {xs : List Int} (h : bs.length = xs.length) {i : Nat} (hi : i < xs.length) : (lft bs xs).getD i none = if bs[i] = true then some xs[i] else none := by
 unfold lft
 rw [List.getD_eq_getElem?_getD, List.getElem?_eq_getElem (by simp; omega), List.getElem_zipWith]
 rfl
theorem lft_len {bs : List Bool} {xs : List Int} (h : bs.length = xs.length) : (lft bs xs).length = xs.length := by
 unfold lft
 rw [List.length_zipWith]
 omega
theorem zip_set : ∀ (bs : List Bool) (xs : List Int) (i : Nat), lft (bs.set i false) xs = (lft bs xs).set i none
 | [], xs, i => by simp [lft]
 | b :: bs, [], i => by simp [lft]
 | b :: bs, x :: xs, 0 => by simp [lft]
 | b :: bs, x :: xs, i + 1 => by
  have := zip_set bs xs i
  unfold lft at this ⊢
  simp only [List.set_cons_succ, List.zipWith_cons_cons, this]
theorem zip_put (sp h : Int) : ∀ (bs : List Bool) (xs : List Int), lft bs (List.zipWith (fun b x => if b = true ∧ x = h then sp else x) bs xs) = putL sp h (lft bs xs)
 | [], xs => by simp [lft, putL]
 | b :: bs, [] => by simp [lft, putL]
 | b :: bs, x :: xs => by
  have := zip_put sp h bs xs
  unfold lft putL at this ⊢
  simp only [List.zipWith_cons_cons, List.map_cons, this, List.cons.injEq, and_true]
  cases b <;> simp
  by_cases e : x = h
  ·rw [if_pos e, if_pos e]
  ·rw [if_neg e, if_neg e]
def noSelf (s : Lft) : Prop := ∀ i : Nat, s.getD i none ≠ some (i : Int)
theorem noSelf_step {sp : Int} {s : Lft} (hsp : (s.length : Int) ≤ sp) (h : noSelf s) : noSelf (stepM sp s).2 := by
 intro i hi
 unfold stepM at hi
 split at hi
 ·rename_i j _
  dsimp only at hi
  rw [List.getD_eq_getElem?_getD, List.getElem?_set] at hi
  split at hi
  ·split at hi <;> cases hi
  ·rw [← List.getD_eq_getElem?_getD] at hi
   exact h i hi
 ·dsimp only at hi
  unfold putL at hi
  rw [List.getD_eq_getElem?_getD, List.getElem?_map] at hi
  cases hs : s[i]? with
  | none => rw [hs] at hi; cases hi
  | some o =>
   have hlt := (List.getElem?_eq_some_iff.1 hs).1
   rw [hs] at hi
   simp only [Option.map_some, Option.getD_some] at hi
   split at hi
   ·cases hi
    omega
   ·exact h i (by rw [List.getD_eq_getElem?_getD, hs, hi]; rfl)
def usdB (bs : List Bool) (xs : List Int) (i : Nat) : Nat → Bool
 | 0 => false
 | k + 1 => usdB bs xs i k || (bs.getD k false && k != i && xs.getD k 0 == i)
theorem usdB_iff (bs : List Bool) (xs : List Int) (i : Nat) : ∀ n, usdB bs xs i n = true ↔ ∃ k, k < n ∧ bs.getD k false = true ∧ k ≠ i ∧ xs.getD k 0 = i
 | 0 => by simp [usdB]
 | n + 1 => by
  rw [usdB, Bool.or_eq_true, usdB_iff bs xs i n]
  simp only [Bool.and_eq_true, bne_iff_ne, beq_iff_eq]
  constructor
  ·rintro (⟨k, h1, h2⟩ | h)
   ·exact ⟨k, by omega, h2⟩
   ·exact ⟨n, by omega, h.1.1, h.1.2, h.2⟩
  ·rintro ⟨k, h1, h2⟩
   rcases Nat.lt_succ_iff_lt_or_eq.1 h1 with h | rfl
   ·exact .inl ⟨k, h, h2⟩
   ·exact .inr ⟨⟨h2.1, h2.2.1⟩, h2.2.2⟩
theorem usdB_used {bs : List Bool} {xs : List Int} (h : bs.length = xs.length) (hs : noSelf (lft bs xs)) (i : Nat) : usdB bs xs i xs.length = usedB (lft bs xs) i := by
 rw [Bool.eq_iff_iff, usdB_iff]
 unfold usedB
 rw [List.contains_iff_mem, List.mem_iff_getElem]
 constructor
 ·rintro ⟨k, h1, h2, h3, h4⟩
  have hl : k < (lft bs xs).length := by rw [lft_len h]; exact h1
  refine ⟨k, hl, ?_⟩
  have := lft_get h h1
  rw [List.getD_eq_getElem?_getD, List.getElem?_eq_getElem hl] at this
  rw [List.getD_eq_getElem?_getD, List.getElem?_eq_getElem (by omega)] at h2 h4
  simp only [Option.getD_some] at h2 h4 this
  rw [this, if_pos h2, h4]
 ·rintro ⟨k, hl, e⟩
  rw [lft_len h] at hl
  have := lft_get h hl
  rw [List.getD_eq_getElem?_getD, List.getElem?_eq_getElem (by rw [lft_len h]; exact hl)] at this
  simp only [Option.getD_some] at this
  rw [e] at this
  have hki : k ≠ i := by
   rintro rfl
   exact hs k (by rw [List.getD_eq_getElem?_getD, List.getElem?_eq_getElem (by rw [lft_len h]; exact hl), e]; rfl)
  split at this
  ·rename_i hb
   refine ⟨k, hl, ?_, hki, ?_⟩
   ·rw [List.getD_eq_getElem?_getD, List.getElem?_eq_getElem (by omega)]; exact hb
   ·rw [List.getD_eq_getElem?_getD, List.getElem?_eq_getElem hl]
    have := Option.some.inj this
    rw [← this]
    rfl
  ·cases this
end Go.Cb
namespace Go.Cb
open Go.Proofs
set_option maxRecDepth 100000
set_option maxHeartbeats 4000000
instance (priority := high) (a b : Int) : ElOf Mov.pv (.agg [.int .i64 a, .int .i64 b]) ⟨a, b⟩ := ⟨Wk.refl _, WkL.refl _⟩
instance : ElOf PV.bool .btrue true := ⟨Wk.tt rfl, .cons (Wk.tt rfl) .nil⟩
instance : ElOf PV.bool .bfalse false := ⟨Wk.ff rfl, .cons (Wk.ff rfl) .nil⟩
instance : CellsOf PV.bool (fun b => [PV.bool b]) := ⟨fun _ => rfl⟩
theorem Ghost.row {Γ Γ1 : List Ent} {t : Tok} {es es' : List PV} [hp : PickE Γ (.row t es) Γ1] (h : WkR es es') : Ghost Γ (.row t es' :: Γ1) := fun w0 F M w hS => by
 have hS' := hS.perm (hp.p.append_right M)
 have hS' : Sim w0 F (.row t es :: (Γ1 ++ M)) w := by simpa using hS'
 refine ⟨F, Fz.le_refl F, ⟨hS'.below, hS'.fz, fun x hx => ?_, ?_⟩⟩
 ·rcases List.mem_cons.1 hx with rfl | hx
  ·obtain ⟨⟨xs, hown, hr⟩, hes, e2, hfree⟩ := hS'.ent _ (List.mem_cons_self ..)
   exact ⟨⟨xs, hown, h.flat.rep hr⟩, h.sizes hes, h.length ▸ e2, hfree⟩
  ·exact hS'.ent x (List.mem_cons_of_mem _ hx)
 ·have := List.pairwise_cons.1 hS'.sep
  exact List.pairwise_cons.2 ⟨this.1, this.2⟩
theorem wkR_false (n : Nat) : WkR (List.replicate n PV.bfalse) ((List.replicate n false).map PV.bool) := by
 induction n with
 | zero => exact .nil
 | succ n ih => exact .cons (.cons (Wk.ff rfl) .nil) ih
def selB : List Int → Nat → List Bool
 | [], _ => []
 | x :: l, k => (x != (k : Int)) :: selB l (k + 1)
theorem selB_len : ∀ (l : List Int) (k : Nat), (selB l k).length = l.length
 | [], _ => rfl
 | x :: l, k => by rw [selB, List.length_cons, selB_len l, List.length_cons]
theorem selB_app : ∀ (l m : List Int) (k : Nat), selB (l ++ m) k = selB l k ++ selB m (k + l.length)
 | [], m, k => by rw [List.nil_append, selB, List.nil_append]; rfl
 | x :: l, m, k => by rw [List.cons_append, selB, selB_app l m, selB, List.cons_append, List.length_cons, show k + 1 + l.length = k + (l.length + 1) by omega]
theorem selB_take {l : List Int} {i : Nat} (h : i < l.length) : selB (l.take (i + 1)) 0 = selB (l.take i) 0 ++ [l[i] != (i : Int)] := by
 rw [List.take_succ_eq_append_getElem h, selB_app, List.length_take, selB, selB, Nat.zero_add, Nat.min_eq_left (by omega)]
theorem lft_sel : ∀ (l : List Int) (k : Nat), lft (selB l k) l = leftL l k
 | [], k => by rw [leftL]; rfl
 | x :: l, k => by
  have := lft_sel l (k + 1)
  unfold lft at this ⊢
  rw [selB, leftL, List.zipWith_cons_cons, this]
  by_cases e : x = (k : Int)
  ·rw [if_pos e, if_neg (by simp [e])]
  ·rw [if_neg e, if_pos (by simp [e])]
def cntS (s : Lft) : Nat := (s.filter Option.isSome).length
theorem cntS_key (s : Lft) : cntS s = (keyN s).length := by
 have e : s = (List.range s.length).map fun i => s.getD i none := by
  apply List.ext_getElem (by simp)
  intro i h1 h2
  rw [List.getElem_map, List.getElem_range, List.getD_eq_getElem?_getD, List.getElem?_eq_getElem h1]
  rfl
 have e2 : s.filter Option.isSome = ((List.range s.length).map fun i => s.getD i none).filter Option.isSome := congrArg _ e
 rw [cntS, e2, List.filter_map, List.length_map]
 rfl
theorem noSelf_left (l : List Int) : noSelf (leftL l 0) := by
 have key : ∀ (l : List Int) (k i : Nat), (leftL l k).getD i none ≠ some ((k + i : Nat) : Int) := by
  intro l
  induction l with
  | nil => intro k i; rw [leftL]; simp
  | cons x l ih =>
   intro k i
   rw [leftL]
   cases i with
   | zero =>
    simp only [List.getD_cons_zero]
    split
    ·simp
    ·rename_i h
     intro e
     exact h (Option.some.inj e)
   | succ i =>
    rw [List.getD_cons_succ, show k + (i + 1) = (k + 1) + i by omega]
    exact ih (k + 1) i
 intro i
 have := key l 0 i
 rwa [Nat.zero_add] at this
theorem cntS_snoc (s : Lft) (o : Option Int) : cntS (s ++ [o]) = cntS s + if o.isSome = true then 1 else 0 := by
 unfold cntS
 rw [List.filter_append, List.length_append]
 cases o <;> rfl
theorem sel_step {l bs : List _} {i : Nat} (h : i < l.length) (h2 : bs = selB (l.take i) 0 ++ List.replicate (l.length - i) false) : bs.set i (l[i] != (i : Int)) = selB (l.take (i + 1)) 0 ++ List.replicate (l.length - (i + 1)) false := by
 rw [h2, List.set_append_right _ _ (by rw [selB_len, List.length_take]; omega), selB_len, List.length_take, Nat.min_eq_left (by omega), Nat.sub_self, show l.length - i = (l.length - (i + 1)) + 1 by omega, List.replicate_succ, List.set_cons_zero, selB_take h, List.append_assoc]
 rfl
theorem PRow.nilInts {s : Nat} {e : TypeId} {K : PV → Ent → Prop} (k : ∀ t : Tok, t.e = e → t.s = s → K (.ms t) (.row t (([] : List Int).map (PV.int .i64)))) : PRow s [] e K :=
 ⟨by simp, by simp, .inr k⟩
theorem order15_c (l : List Int) (sp : Int) : ACallP Tryz.prog 167 [slI l, .int .i64 sp] (ordPV l sp) := by
 unfold ordPV ordF
 refine ACall.of_body tt_ok Tryz.func167 rfl rfl (n := 167) rfl rfl ?_
 conv => whnf
 repeat' (first|((first|((first|(apply zY;intro hg)|apply zZ);first|exact stA|exact stB|exact stC)|(refine zW ?_ ?_;exact gA)|refine zH rfl ?_|refine zA ?_|refine zI bA ?_|refine zI rfl ?_|refine sB ?_|(refine zO ?_ ?_ ?_;omega;omega)|(refine zP ?_ ?_ ?_;omega;omega)|refine zM rfl ?_|(refine zQ ?_ ?_ ?_;omega;omega)|(refine zR ?_ ?_;omega)|(refine zI ?_ ?_;exact nA)|refine sS ?_|refine sF ?_|refine n0 ?_|refine sD ?_|intro _|refine zG ?_);conv=>whnf)|(refine zX (fun hc => ?_) (fun hc => ?_)<;>(try simp only [SY] at hc)<;>first|omega|(conv=>whnf)))
 ·have hi : illM l sp = true := by
   unfold illM
   simp only [Bool.or_eq_true, decide_eq_true_eq]
   omega
  rw [hi, Bool.true_or, if_pos rfl]
  exact PRet.pure (Wk.tup (.cons (Wk.nil' rfl) (.cons (Wk.refl _) .nil)))
 have hi : illM l sp = false := by
  unfold illM
  simp only [Bool.or_eq_false_iff, decide_eq_false_iff_not]
  omega
 rw [hi, Bool.false_or]
 have hrp : (List.replicate l.length false).length = l.length := List.length_replicate ..
 refine PMake.row (by omega) (by omega) (by omega) (by show _ * 1 ≤ _; omega) rfl fun tb hte hts => ?_
 rw [Int.toNat_natCast]
 conv => whnf
 repeat' (first|((first|((first|(apply zY;intro hg)|apply zZ);first|exact stA|exact stB|exact stC)|(refine zW ?_ ?_;exact gA)|refine zH rfl ?_|refine zA ?_|refine zI bA ?_|refine zI rfl ?_|refine sB ?_|(refine zO ?_ ?_ ?_;omega;omega)|(refine zP ?_ ?_ ?_;omega;omega)|refine zM rfl ?_|(refine zQ ?_ ?_ ?_;omega;omega)|(refine zR ?_ ?_;omega)|(refine zI ?_ ?_;exact nA)|refine sS ?_|refine sF ?_|refine n0 ?_|refine sD ?_|intro _|refine zG ?_);conv=>whnf)|(refine zX (fun hc => ?_) (fun hc => ?_)<;>(try simp only [SY] at hc)<;>first|omega|(conv=>whnf)))
 refine PLoop.ghost (Ghost.row (t := tb) (wkR_false l.length)) ?_
 refine PLoop.over [4, 5, 7, 8, 33, 34, 35, 36, 37, 38, 39, 40, 41, 42, 43, 44, 45, 46, 47, 48, 49, 50, 51, 52, 53, 54, 55, 56, 57, 58, 59, 60, 61, 62, 63, 64, 65, 66, 67, 68, 69] (fun x : Nat × List Bool => [(7, .int .i64 (cntS (leftL (l.take x.1) 0))), (8, .int .i64 x.1)]) (fun x => [.row tb (x.2.map PV.bool)]) (fun x => x.1 ≤ l.length ∧ x.2 = selB (l.take x.1) 0 ++ List.replicate (l.length - x.1) false ∧ badM (l.take x.1) sp = false) (fun x => l.length - x.1) (0, List.replicate l.length false) ⟨Nat.zero_le _, by simp [selB], rfl⟩ wA ?_
 rintro ⟨i, bs⟩ ⟨h1, h2, h3⟩
 dsimp only at h1 h2 h3 ⊢
 have hbl : bs.length = l.length := by rw [h2, List.length_append, selB_len, List.length_take, List.length_replicate]; omega
 have hcn : cntS (leftL (l.take i) 0) ≤ i := by
  rw [cntS_key]
  have := keyN_len (leftL (l.take i) 0)
  rw [leftL_len, List.length_take] at this
  omega
 conv => whnf
 repeat' (first|((first|refine PRow.nilInts ?_|((first|(apply zY;intro hg)|apply zZ);first|exact stA|exact stB|exact stC)|(refine zW ?_ ?_;exact gA)|refine zH rfl ?_|refine zA ?_|refine zI bA ?_|refine zI rfl ?_|refine sB ?_|(refine zO ?_ ?_ ?_;omega;omega)|(refine zP ?_ ?_ ?_;omega;omega)|refine zM rfl ?_|(refine zQ ?_ ?_ ?_;omega;omega)|(refine zR ?_ ?_;omega)|(refine zI ?_ ?_;exact nA)|refine sS ?_|refine sF ?_|refine n0 ?_|refine sD ?_|intro _|refine zG ?_);conv=>whnf)|(refine zX (fun hc => ?_) (fun hc => ?_)<;>(try simp only [SY] at hc)<;>first|omega|(conv=>whnf)))
 ·have hb : badM l sp = true := by
   unfold badM
   rw [List.any_eq_true]
   exact ⟨l[i], List.getElem_mem _, by simp only [Bool.or_eq_true, decide_eq_true_eq, beq_iff_eq]; omega⟩
  rw [if_pos hb]
  exact PRet.pure (Wk.tup (.cons (Wk.nil' rfl) (.cons (Wk.refl _) .nil)))
 ·have hit : i < l.length := by omega
  have hb : badM (l.take (i + 1)) sp = false := by
   rw [List.take_succ_eq_append_getElem hit, badM, List.any_append, ← badM, h3, Bool.false_or, List.any_cons, List.any_nil, Bool.or_false]
   simp only [Bool.or_eq_false_iff, decide_eq_false_iff_not, beq_eq_false_iff_ne]
   omega
  have hs2 := sel_step hit h2
  rw [show (l[i] != (i : Int)) = true by simp [hc]] at hs2
  have hcs : cntS (leftL (l.take (i + 1)) 0) = cntS (leftL (l.take i) 0) + 1 := by rw [leftL_take hit, cntS_snoc, if_neg hc]; rfl
  have he : ((cntS (leftL (l.take i) 0) : Nat) : Int) + 1 = (cntS (leftL (l.take (i + 1)) 0) : Nat) := by rw [hcs]; omega
  rw [he]
  exact loopTo (i + 1, bs.set i true) ⟨by show i + 1 ≤ _; omega, hs2, hb⟩ (by show l.length - (i + 1) < l.length - i; omega) wA
 ·have hit : i < l.length := by omega
  have hb : badM (l.take (i + 1)) sp = false := by
   rw [List.take_succ_eq_append_getElem hit, badM, List.any_append, ← badM, h3, Bool.false_or, List.any_cons, List.any_nil, Bool.or_false]
   simp only [Bool.or_eq_false_iff, decide_eq_false_iff_not, beq_eq_false_iff_ne]
   omega
  have hs2 := sel_step hit h2
  have hbi : bs.set i (l[i] != (i : Int)) = bs := by
   rw [show (l[i] != (i : Int)) = false by simp [hc]]
   have : bs[i]'(by omega) = false := by
    simp only [h2]
    rw [List.getElem_append_right (by rw [selB_len, List.length_take]; omega), List.getElem_replicate]
   conv => lhs; rw [← this]
   exact List.set_getElem_self ..
  rw [hbi] at hs2
  have hcs : cntS (leftL (l.take (i + 1)) 0) = cntS (leftL (l.take i) 0) := by rw [leftL_take hit, cntS_snoc, if_pos hc]; rfl
  exact loopTo (i + 1, bs) ⟨by show i + 1 ≤ _; omega, hs2, hb⟩ (by show l.length - (i + 1) < l.length - i; omega) (by rw [hcs]; exact wA)
 ·obtain rfl : i = l.length := by omega
  rw [List.take_length, Nat.sub_self, List.replicate_zero, List.append_nil] at h2
  rw [List.take_length] at h3
  subst h2
  rw [if_neg (by rw [h3]; simp), List.take_length]
  rename_i ti hte2 hts2
  rw [List.nil_append]
  generalize hML : movL (2 * l.length + 1) sp (leftL l 0) = ML at *
  have hmll : ML.length ≤ 2 * l.length + 1 := by rw [← hML]; exact movL_len ..
  refine PLoop.ghost (Ghost.nil 2 221 _) ?_
  refine PLoop.over [7, 10, 11, 12, 13, 14, 15, 16, 73, 74, 75, 76, 77, 78, 79, 80, 81, 82, 83, 84, 85, 86, 87, 88, 89, 90, 91, 92, 93, 94, 95, 96, 97, 98, 99, 100, 101, 102, 103, 104, 105, 106, 107, 108, 109, 110, 111, 112, 113, 114, 115, 116, 117, 118, 119, 120, 121, 122, 123, 124, 125, 126, 127, 128, 129, 130, 131, 132, 133, 134, 135, 136, 137, 138, 139, 140, 141, 142, 143, 144, 145, 146, 147, 148, 149, 150, 151, 152, 153, 154, 155, 156, 157, 158, 159, 160, 161, 162, 163, 164, 165] (fun x : List Bool × List Int × (List Mov × Tok) × Nat => [(7, .int .i64 (cntS (lft x.1 x.2.1))), (10, .sl 2 (x.2.2.1.1.map Mov.pv) (some x.2.2.1.2))]) (fun x => [.tok x.2.2.1.2, .row ti (x.2.1.map (PV.int .i64)), .row tb (x.1.map PV.bool)])
   (fun x => x.1.length = l.length ∧ x.2.1.length = l.length ∧ noSelf (lft x.1 x.2.1) ∧ x.2.2.1.2.e = 221 ∧ measL (lft x.1 x.2.1) ≤ x.2.2.2 ∧ x.2.2.1.1 ++ movL x.2.2.2 sp (lft x.1 x.2.1) = ML) (fun x => measL (lft x.1 x.2.1))
   (selB l 0, l, ([], nilTok 2 221), 2 * l.length + 1) ⟨selB_len l 0, rfl, by rw [lft_sel]; exact noSelf_left l, rfl, by dsimp only; rw [lft_sel]; have := meas_le (leftL l 0); rw [leftL_len] at this; exact this, by dsimp only; rw [lft_sel, hML]; rfl⟩ (by rw [lft_sel]; repeat' (first|exact trivial|refine And.intro ?_ ?_|exact Wk.nilTok _ _|exact Wk.refl _)) ?_
  rintro ⟨bs, xs, ⟨ms, tm⟩, f⟩ ⟨hbl, hxl, hns, htm, hms, hml⟩
  dsimp only at hbl hxl hns htm hms hml ⊢
  have hlb : bs.length = xs.length := by omega
  have hsl : (lft bs xs).length = l.length := by rw [lft_len hlb]; exact hxl
  have hsz := congrArg List.length hml
  rw [List.length_append] at hsz
  have hcs : cntS (lft bs xs) ≤ l.length := by rw [cntS_key]; have := keyN_len (lft bs xs); omega
  conv => whnf
  repeat' (first|((first|((first|(apply zY;intro hg)|apply zZ);first|exact stA|exact stB|exact stC)|(refine zW ?_ ?_;exact gA)|refine zH rfl ?_|refine zA ?_|refine zI bA ?_|refine zI rfl ?_|refine sB ?_|(refine zO ?_ ?_ ?_;omega;omega)|(refine zP ?_ ?_ ?_;omega;omega)|refine zM rfl ?_|(refine zQ ?_ ?_ ?_;omega;omega)|(refine zR ?_ ?_;omega)|(refine zI ?_ ?_;exact nA)|refine sS ?_|refine sF ?_|refine n0 ?_|refine sD ?_|intro _|refine zG ?_);conv=>whnf)|(refine zX (fun hc => ?_) (fun hc => ?_)<;>(try simp only [SY] at hc)<;>first|omega|(conv=>whnf)))
  ·have hkb : ∀ i, i < l.length → keyB (lft bs xs) i = bs.getD i false := fun i hi => by
    unfold keyB
    rw [lft_get hlb (by omega), List.getD_eq_getElem?_getD, List.getElem?_eq_getElem (by omega)]
    cases bs[i] <;> rfl
   have hus : ∀ i : Nat, usdB bs xs i xs.length = usedB (lft bs xs) i := fun i => usdB_used hlb hns i
   refine PLoop.keep [11, 12, 13, 14, 15, 75, 76, 77, 78, 79, 80, 81, 82, 83, 84, 85, 86, 87, 88, 89, 90, 91, 92, 93, 94, 95, 96, 97, 98, 99, 100, 101, 102, 103, 104, 105, 106, 107, 108, 109, 110, 111, 112, 113, 114, 115, 116, 117, 118, 119, 120, 121] (fun i : Nat => [(11, .int .i64 (fstB (keyB (lft bs xs)) i)), (12, .int .i64 (fstB (fun i => keyB (lft bs xs) i && !usedB (lft bs xs) i) i)), (13, .int .i64 i)]) (fun i => i ≤ l.length) (fun i => l.length - i) 0 (Nat.zero_le _) wA ?_
   rintro i hi
   conv => whnf
   repeat' (first|((first|((first|(apply zY;intro hg)|apply zZ);first|exact stA|exact stB|((conv=>whnf);(repeat ((first|(refine zW ?_ ?_;exact gA)|(refine PLenM.map fun _ => ?_)|refine zA ?_|refine zH rfl ?_|refine zB ?_|refine sG ?_|intro _);conv=>whnf));first|exact pS|exact pL|exact pE))|(refine zW ?_ ?_;exact gA)|refine zH rfl ?_|refine zA ?_|refine zI bA ?_|refine zI rfl ?_|refine sB ?_|(refine zO ?_ ?_ ?_;omega;omega)|(refine zP ?_ ?_ ?_;omega;omega)|refine zM rfl ?_|(refine zQ ?_ ?_ ?_;omega;omega)|(refine zR ?_ ?_;omega)|(refine zI ?_ ?_;exact nA)|refine sS ?_|(refine PLenM.map fun _ => ?_)|refine sF ?_|refine n0 ?_|refine sD ?_|intro _|refine zG ?_);conv=>whnf)|(refine zX (fun hc => ?_) (fun hc => ?_)<;>(try simp only [SY] at hc)<;>first|omega|(conv=>whnf)))
   ·have hil : i < l.length := by omega
    have e1 : keyB (lft bs xs) i = false := by rw [hkb i hil, List.getD_eq_getElem?_getD, List.getElem?_eq_getElem (by omega)]; exact hc
    exact loopTo (i + 1) (by show i + 1 ≤ _; omega) (by show l.length - (i + 1) < l.length - i; omega) (by rw [fstB, if_neg (by rw [e1]; simp), fstB, if_neg (by rw [e1]; simp)]; exact wA)
   ·have hil : i < l.length := by omega
    have e1 : keyB (lft bs xs) i = true := by rw [hkb i hil, List.getD_eq_getElem?_getD, List.getElem?_eq_getElem (by omega)]; assumption
    have e2 : fstB (keyB (lft bs xs)) (i + 1) = i := by rw [fstB, if_pos ⟨hc, e1⟩]
    refine PLoop.keep [14, 15, 89, 90, 91, 92, 93, 94, 95, 96, 97, 98, 99, 100, 101, 102, 103, 104, 105, 106, 107, 108, 109, 110, 111, 112, 113, 114] (fun k : Nat => [(14, .bool (usdB bs xs i k)), (15, .int .i64 k)]) (fun k => k ≤ l.length) (fun k => l.length - k) 0 (Nat.zero_le _) wA ?_
    rintro k hk
    conv => whnf
    repeat' (first|((first|((first|(apply zY;intro hg)|apply zZ);first|exact stA|exact stB|((conv=>whnf);(repeat ((first|(refine zW ?_ ?_;exact gA)|(refine PLenM.map fun _ => ?_)|refine zA ?_|refine zH rfl ?_|refine zB ?_|refine sG ?_|intro _);conv=>whnf));first|exact pS|exact pL|exact pE))|(refine zW ?_ ?_;exact gA)|refine zH rfl ?_|refine zA ?_|refine zI bA ?_|refine zI rfl ?_|refine sB ?_|(refine zO ?_ ?_ ?_;omega;omega)|(refine zP ?_ ?_ ?_;omega;omega)|refine zM rfl ?_|(refine zQ ?_ ?_ ?_;omega;omega)|(refine zR ?_ ?_;omega)|(refine zI ?_ ?_;exact nA)|refine sS ?_|(refine PLenM.map fun _ => ?_)|refine sF ?_|refine n0 ?_|refine sD ?_|intro _|refine zG ?_);conv=>whnf)|(refine zX (fun hc => ?_) (fun hc => ?_)<;>(try simp only [SY] at hc)<;>first|omega|(conv=>whnf)))
    ·have hkx : k < xs.length := by omega
     have he : usdB bs xs i (k + 1) = (usdB bs xs i k || (bs[k]'(by omega) && (k : Int) != (i : Int) && xs[k] == (i : Int))) := by
      rw [usdB, List.getD_eq_getElem?_getD, List.getD_eq_getElem?_getD, List.getElem?_eq_getElem hkx, List.getElem?_eq_getElem (by omega)]
      have h5 : (k != i) = ((k : Int) != (i : Int)) := by
       rw [Bool.eq_iff_iff, bne_iff_ne, bne_iff_ne]
       omega
      rw [h5]
      rfl
     exact loopTo (k + 1) (by show k + 1 ≤ _; omega) (by show l.length - (k + 1) < l.length - k; omega) (by rw [he]; exact wA)
    ·have hkx : k = xs.length := by omega
     subst hkx
     rw [hus] at hc
     have e3 : fstB (fun i => keyB (lft bs xs) i && !usedB (lft bs xs) i) (i + 1) = i := by
      rw [fstB, if_pos ⟨hc.1, by rw [e1, hc.2]; rfl⟩]
     exact loopTo (i + 1) (by show i + 1 ≤ _; omega) (by show l.length - (i + 1) < l.length - i; omega) (by rw [e2, e3]; exact wA)
    ·have hkx : k = xs.length := by omega
     subst hkx
     rw [hus] at hc
     have e3 : fstB (fun i => keyB (lft bs xs) i && !usedB (lft bs xs) i) (i + 1) = fstB (fun i => keyB (lft bs xs) i && !usedB (lft bs xs) i) i := by
      rw [fstB, if_neg]
      rintro ⟨q1, q2⟩
      rw [e1] at q2
      rcases hc with hc | hc
      ·omega
      ·rw [hc] at q2; cases q2
     exact loopTo (i + 1) (by show i + 1 ≤ _; omega) (by show l.length - (i + 1) < l.length - i; omega) (by rw [e2, e3]; exact wA)
   ·have hil : i < l.length := by omega
    have e1 : keyB (lft bs xs) i = true := by rw [hkb i hil, List.getD_eq_getElem?_getD, List.getElem?_eq_getElem (by omega)]; assumption
    have e2 : fstB (keyB (lft bs xs)) (i + 1) = fstB (keyB (lft bs xs)) i := by rw [fstB, if_neg (fun q => by have := q.1; omega)]
    refine PLoop.keep [14, 15, 89, 90, 91, 92, 93, 94, 95, 96, 97, 98, 99, 100, 101, 102, 103, 104, 105, 106, 107, 108, 109, 110, 111, 112, 113, 114] (fun k : Nat => [(14, .bool (usdB bs xs i k)), (15, .int .i64 k)]) (fun k => k ≤ l.length) (fun k => l.length - k) 0 (Nat.zero_le _) wA ?_
    rintro k hk
    conv => whnf
    repeat' (first|((first|((first|(apply zY;intro hg)|apply zZ);first|exact stA|exact stB|((conv=>whnf);(repeat ((first|(refine zW ?_ ?_;exact gA)|(refine PLenM.map fun _ => ?_)|refine zA ?_|refine zH rfl ?_|refine zB ?_|refine sG ?_|intro _);conv=>whnf));first|exact pS|exact pL|exact pE))|(refine zW ?_ ?_;exact gA)|refine zH rfl ?_|refine zA ?_|refine zI bA ?_|refine zI rfl ?_|refine sB ?_|(refine zO ?_ ?_ ?_;omega;omega)|(refine zP ?_ ?_ ?_;omega;omega)|refine zM rfl ?_|(refine zQ ?_ ?_ ?_;omega;omega)|(refine zR ?_ ?_;omega)|(refine zI ?_ ?_;exact nA)|refine sS ?_|(refine PLenM.map fun _ => ?_)|refine sF ?_|refine n0 ?_|refine sD ?_|intro _|refine zG ?_);conv=>whnf)|(refine zX (fun hc => ?_) (fun hc => ?_)<;>(try simp only [SY] at hc)<;>first|omega|(conv=>whnf)))
    ·have hkx : k < xs.length := by omega
     have he : usdB bs xs i (k + 1) = (usdB bs xs i k || (bs[k]'(by omega) && (k : Int) != (i : Int) && xs[k] == (i : Int))) := by
      rw [usdB, List.getD_eq_getElem?_getD, List.getD_eq_getElem?_getD, List.getElem?_eq_getElem hkx, List.getElem?_eq_getElem (by omega)]
      have h5 : (k != i) = ((k : Int) != (i : Int)) := by
       rw [Bool.eq_iff_iff, bne_iff_ne, bne_iff_ne]
       omega
      rw [h5]
      rfl
     exact loopTo (k + 1) (by show k + 1 ≤ _; omega) (by show l.length - (k + 1) < l.length - k; omega) (by rw [he]; exact wA)
    ·have hkx : k = xs.length := by omega
     subst hkx
     rw [hus] at hc
     have e3 : fstB (fun i => keyB (lft bs xs) i && !usedB (lft bs xs) i) (i + 1) = i := by
      rw [fstB, if_pos ⟨hc.1, by rw [e1, hc.2]; rfl⟩]
     exact loopTo (i + 1) (by show i + 1 ≤ _; omega) (by show l.length - (i + 1) < l.length - i; omega) (by rw [e2, e3]; exact wA)
    ·have hkx : k = xs.length := by omega
     subst hkx
     rw [hus] at hc
     have e3 : fstB (fun i => keyB (lft bs xs) i && !usedB (lft bs xs) i) (i + 1) = fstB (fun i => keyB (lft bs xs) i && !usedB (lft bs xs) i) i := by
      rw [fstB, if_neg]
      rintro ⟨q1, q2⟩
      rw [e1] at q2
      rcases hc with hc | hc
      ·omega
      ·rw [hc] at q2; cases q2
     exact loopTo (i + 1) (by show i + 1 ≤ _; omega) (by show l.length - (i + 1) < l.length - i; omega) (by rw [e2, e3]; exact wA)
   ·have hil : i = l.length := by omega
    have hff := freeF_fst (lft bs xs)
    rw [hsl, ← hil] at hff
    rw [hff] at hc ⊢
    cases hfr : freeF (lft bs xs) with
    | none => rw [hfr] at hc; dsimp only at hc; omega
    | some j =>
     rw [hfr] at hc
     dsimp only at hc ⊢
     have hjk : j ∈ keyN (lft bs xs) := List.mem_of_find?_eq_some hfr
     have hjl : j < xs.length := by have := keyN_lt hjk; omega
     have hjb : j < bs.length := by omega
     have hk0 : keyN (lft bs xs) ≠ [] := List.ne_nil_of_mem hjk
     have hst := meas_step (sp := sp) (s := lft bs xs) (by omega) hk0
     have hns2 := noSelf_step (sp := sp) (s := lft bs xs) (by omega) hns
     have hsv : (lft bs xs).getD j none = some xs[j] := by
      have h1 := keyN_mem.1 hjk
      rw [lft_get hlb hjl] at h1 ⊢
      split at h1
      ·rename_i hb; rw [if_pos hb]
      ·cases h1
     have hsm : stepM sp (lft bs xs) = (⟨j, xs[j]⟩, lft (bs.set j false) xs) := by
      unfold stepM
      rw [hfr, zip_set]
      dsimp only
      rw [hsv]
      rfl
     have hc1 : cntS (lft (bs.set j false) xs) + 1 = cntS (lft bs xs) := by
      rw [zip_set, cntS_key, cntS_key]
      exact keyN_set hjk
     rw [hsm] at hst hns2
     dsimp only at hst hns2
     obtain ⟨g, rfl⟩ : ∃ g, f = g + 1 := ⟨f - 1, by omega⟩
     rw [movL, if_neg hk0, hsm] at hml
     dsimp only at hml
     conv => whnf
     repeat' (first|((first|((first|(apply zY;intro hg)|apply zZ);first|exact stA|exact stB|((conv=>whnf);(repeat ((first|(refine zW ?_ ?_;exact gA)|(refine PLenM.map fun _ => ?_)|refine zA ?_|refine zH rfl ?_|refine zB ?_|refine sG ?_|intro _);conv=>whnf));first|exact pS|exact pL|exact pE))|(refine zW ?_ ?_;exact gA)|refine zH rfl ?_|refine zA ?_|refine zI bA ?_|refine zI rfl ?_|refine sB ?_|(refine zO ?_ ?_ ?_;omega;omega)|(refine zP ?_ ?_ ?_;omega;omega)|refine zM rfl ?_|(refine zQ ?_ ?_ ?_;omega;omega)|(refine zR ?_ ?_;omega)|(refine zI ?_ ?_;exact nA)|refine sS ?_|(refine PLenM.map fun _ => ?_)|refine sF ?_|refine n0 ?_|refine sD ?_|intro _|refine zG ?_);conv=>whnf)|(refine zX (fun hc => ?_) (fun hc => ?_)<;>(try simp only [SY] at hc)<;>first|omega|(conv=>whnf)))
     rename_i tm2 htm2
     have hce : ((cntS (lft bs xs) : Nat) : Int) - 1 = (cntS (lft (bs.set j false) xs) : Nat) := by omega
     rw [hce]
     exact loopTo (bs.set j false, xs, (ms ++ [⟨j, xs[j]⟩], tm2), g) ⟨by dsimp only; rw [List.length_set]; exact hbl, hxl, hns2, htm2, by show measL (lft (bs.set j false) xs) ≤ g; omega, by dsimp only; rw [List.append_assoc]; exact hml⟩ hst wA
   ·have hil : i = l.length := by omega
    have hff := freeF_fst (lft bs xs)
    rw [hsl, ← hil] at hff
    have hk0 : keyN (lft bs xs) ≠ [] := by
     intro h
     have : cntS (lft bs xs) = 0 := by rw [cntS_key, h]; rfl
     omega
    have hhd := hdN_fst hk0
    rw [hsl, ← hil] at hhd
    rw [hff] at hc
    cases hfr : freeF (lft bs xs) with
    | some j => rw [hfr] at hc; exact absurd hc (Int.not_lt.2 (Int.natCast_nonneg j))
    | none =>
     have hst := meas_step (sp := sp) (s := lft bs xs) (by omega) hk0
     have hns2 := noSelf_step (sp := sp) (s := lft bs xs) (by omega) hns
     generalize hH : hdN (lft bs xs) = H at *
     rw [hhd]
     have hsm : stepM sp (lft bs xs) = (⟨sp, H⟩, lft bs (List.zipWith (fun b x => if b = true ∧ x = (H : Int) then sp else x) bs xs)) := by
      unfold stepM
      rw [hfr, zip_put, hH]
     rw [hsm] at hst hns2
     dsimp only at hst hns2
     obtain ⟨g, rfl⟩ : ∃ g, f = g + 1 := ⟨f - 1, by omega⟩
     rw [movL, if_neg hk0, hsm] at hml
     dsimp only at hml
     rename_i tm2 htm2
     refine PLoop.over [16, 144, 145, 146, 147, 148, 149, 150, 151, 152, 153, 154, 155, 156, 157, 158, 159, 160, 161, 162, 163, 164, 165] (fun x : Nat × List Int => [(16, .int .i64 x.1)]) (fun x => [.tok tm2, .row ti (x.2.map (PV.int .i64)), .row tb (bs.map PV.bool)]) (fun x => x.1 ≤ l.length ∧ x.2.length = l.length ∧ ∀ j (h1 : j < x.2.length) (h2 : j < bs.length) (h3 : j < xs.length), x.2[j] = if j < x.1 ∧ bs[j] = true ∧ xs[j] = (H : Int) then sp else xs[j]) (fun x => l.length - x.1) (0, xs) ⟨Nat.zero_le _, hxl, fun j h1 h2 h3 => by rw [if_neg (by omega)]⟩ wA ?_
     rintro ⟨k, ys⟩ ⟨hk, hyl, hys⟩
     dsimp only at hk hyl hys ⊢
     conv => whnf
     repeat' (first|((first|((first|(apply zY;intro hg)|apply zZ);first|exact stA|exact stB|((conv=>whnf);(repeat ((first|(refine zW ?_ ?_;exact gA)|(refine PLenM.map fun _ => ?_)|refine zA ?_|refine zH rfl ?_|refine zB ?_|refine sG ?_|intro _);conv=>whnf));first|exact pS|exact pL|exact pE))|(refine zW ?_ ?_;exact gA)|refine zH rfl ?_|refine zA ?_|refine zI bA ?_|refine zI rfl ?_|refine sB ?_|(refine zO ?_ ?_ ?_;omega;omega)|(refine zP ?_ ?_ ?_;omega;omega)|refine zM rfl ?_|(refine zQ ?_ ?_ ?_;omega;omega)|(refine zR ?_ ?_;omega)|(refine zI ?_ ?_;exact nA)|refine sS ?_|(refine PLenM.map fun _ => ?_)|refine sF ?_|refine n0 ?_|refine sD ?_|intro _|refine zG ?_);conv=>whnf)|(refine zX (fun hc => ?_) (fun hc => ?_)<;>(try simp only [SY] at hc)<;>first|omega|(conv=>whnf)))
     ·have hkl : k < xs.length := by omega
      have hyk : ys[k]'(by omega) = xs[k] := by rw [hys k (by omega) (by omega) hkl, if_neg (by omega)]
      exact loopTo (k + 1, ys.set k sp) ⟨by show k + 1 ≤ _; omega, by dsimp only; rw [List.length_set]; exact hyl, fun j h1 h2 h3 => by
       dsimp only at h1 ⊢
       rw [List.length_set] at h1
       rw [List.getElem_set]
       by_cases e : k = j
       ·subst e
        rw [if_pos rfl, if_pos ⟨by omega, hc.1, by rw [← hyk]; exact hc.2⟩]
       ·rw [if_neg e, hys j h1 h2 h3]
        by_cases q : j < k ∧ bs[j] = true ∧ xs[j] = (H : Int)
        ·rw [if_pos q, if_pos ⟨by omega, q.2⟩]
        ·rw [if_neg q, if_neg (fun r => q ⟨by omega, r.2⟩)]⟩ (by show l.length - (k + 1) < l.length - k; omega) wA
     ·have hkl : k < xs.length := by omega
      have hyk : ys[k]'(by omega) = xs[k] := by rw [hys k (by omega) (by omega) hkl, if_neg (by omega)]
      exact loopTo (k + 1, ys) ⟨by show k + 1 ≤ _; omega, hyl, fun j h1 h2 h3 => by
       dsimp only
       rw [hys j h1 h2 h3]
       by_cases q : j < k ∧ bs[j] = true ∧ xs[j] = (H : Int)
       ·rw [if_pos q, if_pos ⟨by omega, q.2⟩]
       ·rw [if_neg q, if_neg]
        rintro ⟨r1, r2, r3⟩
        by_cases e : j = k
        ·subst e
         rcases hc with hc | hc
         ·rw [hc] at r2; cases r2
         ·exact hc (by rw [hyk]; exact r3)
        ·exact q ⟨by omega, r2, r3⟩⟩ (by show l.length - (k + 1) < l.length - k; omega) wA
     ·have hkl : k = l.length := by omega
      have hye : ys = List.zipWith (fun b x => if b = true ∧ x = (H : Int) then sp else x) bs xs := by
       apply List.ext_getElem (by simp; omega)
       intro j h1 h2
       rw [List.getElem_zipWith, hys j h1 (by omega) (by omega)]
       by_cases q : bs[j] = true ∧ xs[j] = (H : Int)
       ·rw [if_pos q, if_pos ⟨by omega, q⟩]
       ·rw [if_neg q, if_neg (fun r => q r.2)]
      rw [← hye] at hst hns2 hml hsm
      have hc1 : cntS (lft bs ys) = cntS (lft bs xs) := by
       rw [hye, zip_put, cntS_key, cntS_key, keyN_put]
      exact loopTo (bs, ys, (ms ++ [⟨sp, H⟩], tm2), g) ⟨hbl, hyl, hns2, htm2, by show measL (lft bs ys) ≤ g; omega, by dsimp only; rw [List.append_assoc]; exact hml⟩ hst (by rw [hc1]; exact wA)
  ·have hk : keyN (lft bs xs) = [] := List.eq_nil_of_length_eq_zero (by rw [← cntS_key]; omega)
   have h0 : movL f sp (lft bs xs) = [] := by
    cases f with
    | zero => rfl
    | succ f => rw [movL, if_pos hk]
   rw [h0, List.append_nil] at hml
   subst hml
   exact PRet.pure (Wk.tup (.cons (Wk.tok _ _ _) (.cons (Wk.refl _) .nil)))
end Go.Cb
namespace Go.Cb
open Go.Proofs
set_option maxRecDepth 100000
set_option maxHeartbeats 4000000
theorem takes19_c (x : Ins) (hl : x.l.length ≤ 1000000) : ACallP Tryz.prog 165 [.agg x.cells] (slI (takF x)) := by
 have ht : takF x = takF x := rfl
 conv at ht => rhs; unfold takF
 refine ACall.of_body tt_ok Tryz.func165 rfl rfl (n := 25) rfl rfl ?_
 conv => whnf
 repeat' (first|((first|((first|(apply zY;intro hg)|apply zZ);first|exact stA|exact stB|exact stC)|(refine zW ?_ ?_;exact gA)|refine zH rfl ?_|refine zA ?_|refine zI bA ?_|refine zI rfl ?_|refine sB ?_|(refine zO ?_ ?_ ?_;omega;omega)|(refine zP ?_ ?_ ?_;omega;omega)|refine zM rfl ?_|(refine zQ ?_ ?_ ?_;omega;omega)|(refine zR ?_ ?_;omega)|(refine zI ?_ ?_;exact nA)|refine sS ?_|refine sF ?_|refine n0 ?_|refine sD ?_|intro _|refine zG ?_);conv=>whnf)|(refine zX (fun hc => ?_) (fun hc => ?_)<;>(try simp only [SY] at hc)<;>first|omega|(conv=>whnf)))
 all_goals
  repeat (first|rw [if_neg (by omega)] at ht|rw [if_pos (by omega)] at ht)
  rw [ht]
  exact PRet.pure (Wk.tok _ _ _)
theorem wide19_c (p : Prc) (hx : ∀ x ∈ p.code, x.l.length ≤ 1000000) : ACallP Tryz.prog 107 [.agg p.cells] (.int .i64 (spareL p.code p.regs)) := by
 have htk : ∀ k (hk : k < p.code.length), ACallP Tryz.prog 165 [.agg p.code[k].cells] (slI (takF p.code[k])) := fun k hk => takes19_c _ (hx _ (List.getElem_mem hk))
 refine ACall.of_body tt_ok Tryz.func107 rfl rfl (n := 40) rfl rfl ?_
 conv => whnf
 repeat' (first|((first|((first|(apply zY;intro hg)|apply zZ);first|exact stA|exact stB|((conv=>whnf);(repeat ((first|(refine zW ?_ ?_;exact gA)|refine pC (htk _ (by omega)) wR ?_|refine zA ?_|refine zH rfl ?_|refine zB ?_|refine sG ?_|intro _);conv=>whnf));first|exact pS|exact pL|exact pE))|(refine zW ?_ ?_;exact gA)|refine zH rfl ?_|refine zA ?_|refine zI bA ?_|refine zI rfl ?_|refine sB ?_|(refine zO ?_ ?_ ?_;omega;omega)|(refine zP ?_ ?_ ?_;omega;omega)|refine zM rfl ?_|(refine zQ ?_ ?_ ?_;omega;omega)|(refine zR ?_ ?_;omega)|(refine zI ?_ ?_;exact nA)|refine sS ?_|refine pC (htk _ (by omega)) wR ?_|refine sF ?_|refine n0 ?_|refine sD ?_|intro _|refine zG ?_);conv=>whnf)|(refine zX (fun hc => ?_) (fun hc => ?_)<;>(try simp only [SY] at hc)<;>first|omega|(conv=>whnf)))
 refine PLoop.keep [3, 4, 7, 8, 9, 10, 11, 12, 13, 14, 15, 16, 17, 18, 19, 20, 21, 22, 23, 24, 25, 26, 27, 28, 29, 30, 31, 32, 33, 34, 35, 36, 37, 38] (fun x : Nat × Int => [(3, .int .i64 x.2), (4, .int .i64 x.1)]) (fun x => x.1 ≤ p.code.length ∧ spareL p.code p.regs = spareL (p.code.drop x.1) x.2) (fun x => p.code.length - x.1) (0, p.regs) ⟨Nat.zero_le _, rfl⟩ wA ?_
 rintro ⟨k, w⟩ ⟨hk, he⟩
 dsimp only at hk he ⊢
 conv => whnf
 repeat' (first|((first|((first|(apply zY;intro hg)|apply zZ);first|exact stA|exact stB|((conv=>whnf);(repeat ((first|(refine zW ?_ ?_;exact gA)|refine pC (htk _ (by omega)) wR ?_|refine zA ?_|refine zH rfl ?_|refine zB ?_|refine sG ?_|intro _);conv=>whnf));first|exact pS|exact pL|exact pE))|(refine zW ?_ ?_;exact gA)|refine zH rfl ?_|refine zA ?_|refine zI bA ?_|refine zI rfl ?_|refine sB ?_|(refine zO ?_ ?_ ?_;omega;omega)|(refine zP ?_ ?_ ?_;omega;omega)|refine zM rfl ?_|(refine zQ ?_ ?_ ?_;omega;omega)|(refine zR ?_ ?_;omega)|(refine zI ?_ ?_;exact nA)|refine sS ?_|refine pC (htk _ (by omega)) wR ?_|refine sF ?_|refine n0 ?_|refine sD ?_|intro _|refine zG ?_);conv=>whnf)|(refine zX (fun hc => ?_) (fun hc => ?_)<;>(try simp only [SY] at hc)<;>first|omega|(conv=>whnf)))
 ·have hkl : k < p.code.length := by omega
  rw [drop_at hkl, spareL, if_pos (show lvsB p.code[k] = true by unfold lvsB; rw [Bool.and_eq_true, decide_eq_true_eq, decide_eq_true_eq]; omega)] at he
  exact loopTo (k + 1, if w < ((takF p.code[k]).length : Int) then ((takF p.code[k]).length : Int) else w) ⟨by show k + 1 ≤ _; omega, by dsimp only; rw [he]; congr 1; split <;> omega⟩ (by show p.code.length - (k + 1) < p.code.length - k; omega) wA
 ·have hkl : k < p.code.length := by omega
  rw [drop_at hkl, spareL, if_neg (show ¬lvsB p.code[k] = true by unfold lvsB; rw [Bool.and_eq_true, decide_eq_true_eq, decide_eq_true_eq]; omega)] at he
  exact loopTo (k + 1, w) ⟨by show k + 1 ≤ _; omega, he⟩ (by show p.code.length - (k + 1) < p.code.length - k; omega) wA
 ·rw [List.drop_of_length_le (by omega), spareL] at he
  rw [he]
  exact PRet.pure (Wk.refl _)
theorem insW_doc (x : Ins) (al : List Int) : insW x al = (([x.op, x.d, x.a, x.b, (x.l.length : Int)] ++ x.l) ++ [(al.length : Int)]) ++ al := by simp [insW]
theorem ins19_c (x : Ins) (al : List Int) (hl : x.l.length ≤ 1000000) (hal : al.length ≤ 1000000) : ACallP Tryz.prog 166 [.agg x.cells, slI al] (slI (insW x al)) := by
 refine ACall.of_body tt_ok Tryz.func166 rfl rfl (n := 29) rfl rfl ?_
 conv => whnf
 repeat' (first|((first|((first|(apply zY;intro hg)|apply zZ);first|exact stA|exact stB|((conv=>whnf);(repeat ((first|(refine zW ?_ ?_;exact gA)|refine pC (htk _ (by omega)) wR ?_|refine zA ?_|refine zH rfl ?_|refine zB ?_|refine sG ?_|intro _);conv=>whnf));first|exact pS|exact pL|exact pE))|(refine zW ?_ ?_;exact gA)|refine zH rfl ?_|refine zA ?_|refine zI bA ?_|refine zI rfl ?_|refine sB ?_|(refine zO ?_ ?_ ?_;omega;omega)|(refine zP ?_ ?_ ?_;omega;omega)|refine zM rfl ?_|(refine zQ ?_ ?_ ?_;omega;omega)|(refine zR ?_ ?_;omega)|(refine zI ?_ ?_;exact nA)|refine sS ?_|refine pC (htk _ (by omega)) wR ?_|refine sF ?_|refine n0 ?_|refine sD ?_|intro _|refine zG ?_);conv=>whnf)|(refine zX (fun hc => ?_) (fun hc => ?_)<;>(try simp only [SY] at hc)<;>first|omega|(conv=>whnf)))
 refine PAppend.lit (f := PV.int .i64) rfl (by assumption) rfl (by simp only [List.length_cons, List.length_nil]; omega) ?_
 intro t9 ht9
 conv => whnf
 repeat' (first|((first|((first|(apply zY;intro hg)|apply zZ);first|exact stA|exact stB|((conv=>whnf);(repeat ((first|(refine zW ?_ ?_;exact gA)|refine pC (htk _ (by omega)) wR ?_|refine zA ?_|refine zH rfl ?_|refine zB ?_|refine sG ?_|intro _);conv=>whnf));first|exact pS|exact pL|exact pE))|(refine zW ?_ ?_;exact gA)|refine zH rfl ?_|refine zA ?_|refine zI bA ?_|refine zI rfl ?_|refine sB ?_|(refine zO ?_ ?_ ?_;omega;omega)|(refine zP ?_ ?_ ?_;omega;omega)|refine zM rfl ?_|(refine zQ ?_ ?_ ?_;omega;omega)|(refine zR ?_ ?_;omega)|(refine zI ?_ ?_;exact nA)|refine sS ?_|refine pC (htk _ (by omega)) wR ?_|refine sF ?_|refine n0 ?_|refine sD ?_|intro _|refine zG ?_);conv=>whnf)|(refine zX (fun hc => ?_) (fun hc => ?_)<;>(try simp only [SY] at hc)<;>first|omega|(conv=>whnf)))
 rw [insW_doc]
 exact PRet.pure (Wk.tok _ _ _)
end Go.Cb

