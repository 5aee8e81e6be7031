/-
  Contracts: the document's check of terms, within a scope.
  Contracts: the document's check of programs.
  Plain law: the program's check of a term and the document's answer alike.
  Plain law: the program's data and the document's are right alike.
  Contracts: the program's check of programs.
  Plain law: the program's check of programs and the document's answer alike.
  Plain law: what a check says of a program, and how it leans on the number of constants.
  Contracts: all terms of a term, one by one.
  Contracts: how many terms.
  Contracts: what is sorted already: one number.
  Contracts: what is named and not bound: one variable.
  Plain laws: what a term names, binds; how deep it lies.
  Plain laws: numbers in order, each once.
  Plain laws: a term and its parts.
  Layings of the library's contracts at this seat (written by the kit's tools).
  Contracts: numbers sorted by the library, equal neighbours struck.
  Contracts: what a term names and does not bind, what it binds, how often a variable is named and assigned.
  Plain laws: all variables greater by the same.
-/
import Derived.Lib.SlicesCompact
import Derived.Shelf.Slices.CompactI
import Derived.Shelf.Slices.In.SortNone
import Derived.Shelf.Sort.Plain
import Derived.Sort.OwnSortedInts
import Derived.Test.YtpkgembbjlebcaaGreatDoorProg
import Derived.Test.YtpkgembbjlebcaaGreatDoorV4
set_option linter.unusedSimpArgs false
set_option linter.unusedVariables false
namespace Go.Cb
open Go.Proofs
set_option maxRecDepth 100000
set_option maxHeartbeats 4000000
def wantOp (level : Int) : Int := if level = 3 then 19 else 4
mutual
def Trm.ckD (level consts codes : Int) (free : Bool) : Trm → List Int → Int → Int → List Int → Option (Int × List Int)
  | .mk op n v t, scope, deep, size, bound =>
    if (decide (deep > 400) || decide (size + 1 > 20000) || !sortsL op level || !countsL (.mk op n v t) || !numberL consts codes free (.mk op n v t) scope) = true then none else
    if (bindR v bound).1 = true then Trm.cksD level consts codes free op scope (scope ++ v) t (deep + 1) (size + 1) (bindR v bound).2 else none
def Trm.cksD (level consts codes : Int) (free : Bool) (op : Int) (scope inner : List Int) : List Trm → Int → Int → List Int → Option (Int × List Int)
  | [], _, size, bound => some (size, bound)
  | x :: xs, deep, size, bound =>
    if op = 9 ∧ xs ≠ [] ∧ x.op ≠ wantOp level then none else
    match Trm.ckD level consts codes free x (if xs = [] ∨ op = 7 ∨ op = 9 then inner else scope) deep size bound with
    | none => none
    | some (s, b) => Trm.cksD level consts codes free op scope inner xs deep s b
end
theorem Trm.ckD_eq (level consts codes : Int) (free : Bool) (x : Trm) (scope : List Int) (deep size : Int) (bound : List Int) : x.ckD level consts codes free scope deep size bound =
    if (decide (deep > 400) || decide (size + 1 > 20000) || !sortsL x.op level || !countsL x || !numberL consts codes free x scope) = true then none else
    if (bindR x.v bound).1 = true then Trm.cksD level consts codes free x.op scope (scope ++ x.v) x.t (deep + 1) (size + 1) (bindR x.v bound).2 else none := by
  cases x; rw [Trm.ckD]; rfl
theorem bindR_len : ∀ (l bound : List Int), (bindR l bound).2.length ≤ bound.length + l.length
  | [], bound => by simp [bindR]
  | v :: l, bound => by
    rw [bindR]
    split
    · have := bindR_len l (bound ++ [v]); simp at this ⊢; omega
    · simp
theorem Trm.ckD_bd (level consts codes : Int) (free : Bool) (x : Trm) : ∀ (scope : List Int) (deep size : Int) (bound : List Int) (s : Int) (b : List Int), x.ckD level consts codes free scope deep size bound = some (s, b) →
    size < s ∧ s ≤ 20000 ∧ b.length ≤ bound.length + x.bulk := by
  induction x using Trm.ind with
  | h x ih =>
    intro scope deep size bound s b h
    rw [Trm.ckD_eq] at h
    split at h
    · cases h
    rename_i hc
    split at h
    · have key : ∀ (l : List Trm), (∀ y ∈ l, ∀ (scope : List Int) (deep size : Int) (bound : List Int) (s : Int) (b : List Int), y.ckD level consts codes free scope deep size bound = some (s, b) → size < s ∧ s ≤ 20000 ∧ b.length ≤ bound.length + y.bulk) →
          ∀ (deep size : Int) (bound : List Int) (s : Int) (b : List Int), size ≤ 20000 → Trm.cksD level consts codes free x.op scope (scope ++ x.v) l deep size bound = some (s, b) → size ≤ s ∧ s ≤ 20000 ∧ b.length ≤ bound.length + Trm.bulks l := by
        intro l
        induction l with
        | nil => intro _ deep size bound s b h0 h; rw [Trm.cksD] at h; cases h; rw [Trm.bulks]; omega
        | cons y l ihl =>
          intro hy deep size bound s b h0 h
          rw [Trm.cksD] at h
          split at h
          · cases h
          split at h
          · cases h
          · rename_i s1 b1 h1
            have e1 := hy y (by simp) _ _ _ _ _ _ h1
            have e2 := ihl (fun z hz => hy z (by simp [hz])) _ _ _ _ _ (by omega) h
            rw [Trm.bulks]; omega
      have hb := bindR_len x.v bound
      have h2 : size + 1 ≤ 20000 := by simp at hc; omega
      have := key x.t ih _ _ _ _ _ h2 h
      rw [Trm.bulk_eq]; omega
    · cases h
def ckPost (b : Nat) (level consts codes : Int) (free : Bool) (r : Option (Int × List Int)) (y : PV) (Γ' : List Ent) : Prop :=
  y = .tup [] ∧ ∃ size' bound' tk' ok', tk'.e = 3 ∧ Γ' = [.box b (ckC level consts codes size' free bound' tk' ok'), .tok tk'] ∧ (ok' = true → r = some (size', bound')) ∧ (ok' = false → r = none)
theorem cks_step {level consts codes : Int} {free : Bool} {op : Int} {scope inner : List Int} {l : List Trm} {i : Nat} (hlt : i < l.length) {deep sz : Int} {bd : List Int} {total : Option (Int × List Int)}
    (h : total = Trm.cksD level consts codes free op scope inner (l.drop i) deep sz bd) (okv : Bool) (sc : List Int) (h1 : okv = true ↔ (op = 9 ∧ i + 1 ≠ l.length → l[i].op = wantOp level)) (h2 : sc = if i + 1 = l.length ∨ op = 7 ∨ op = 9 then inner else scope) :
    (∀ s b, (if okv = true then l[i].ckD level consts codes free sc deep sz bd else none) = some (s, b) → total = Trm.cksD level consts codes free op scope inner (l.drop (i + 1)) deep s b) ∧
    ((if okv = true then l[i].ckD level consts codes free sc deep sz bd else none) = none → total = none) := by
  have e : l.drop (i + 1) = [] ↔ i + 1 = l.length := by rw [List.drop_eq_nil_iff]; omega
  rw [drop_at hlt, Trm.cksD] at h
  simp only [ne_eq, e] at h
  rw [← h2] at h
  by_cases ho : okv = true
  · rw [if_pos ho]
    have := h1.1 ho
    rw [if_neg (fun hh => hh.2.2 (this ⟨hh.1, hh.2.1⟩))] at h
    refine ⟨fun s b hr => ?_, fun hr => ?_⟩
    · rw [hr] at h; exact h
    · rw [hr] at h; exact h
  · rw [if_neg ho]
    refine ⟨fun s b hr => (by cases hr), fun _ => ?_⟩
    rw [if_pos] at h
    · exact h
    · refine ⟨?_, ?_, ?_⟩
      · apply Classical.byContradiction; intro hh; exact ho (h1.2 fun x => absurd x.1 hh)
      · intro hh; exact ho (h1.2 fun x => absurd hh x.2)
      · intro hh; exact ho (h1.2 fun _ => hh)
theorem ck_next {level consts codes : Int} {free : Bool} {x : Trm} {sc : List Int} {deep sz : Int} {bd : List Int} {R : Int → List Int → Prop} {n : Nat} (okv : Bool) {s : Int} {b : List Int}
    (h : (if okv = true then x.ckD level consts codes free sc deep sz bd else none) = some (s, b)) (k : ∀ s b, (if okv = true then x.ckD level consts codes free sc deep sz bd else none) = some (s, b) → R s b) (h0 : 0 ≤ sz) (hn : bd.length + (x.bulk + n) ≤ 1000000000) :
    0 ≤ s ∧ s ≤ 20000 ∧ b.length + n ≤ 1000000000 ∧ R s b := by
  have hk := k s b h
  split at h
  · have := x.ckD_bd level consts codes free sc deep sz bd s b h
    exact ⟨by omega, by omega, by omega, hk⟩
  · cases h
theorem term2_c (b : Nat) (level consts codes : Int) (free : Bool) (t : Trm) : ∀ (size deep : Int) (bound scope : List Int) (ok0 : Bool) (tk : Tok), tk.e = 3 → 0 ≤ size → size ≤ 20000 → 0 ≤ deep → deep ≤ 401 → bound.length + t.bulk ≤ 1000000000 → scope.length + t.bulk ≤ 1000000000 →
    ACall Tryz.prog 98 [.ptr b 0, .agg t.cells, .sl 1 (scope.map (PV.int .i64)) none, .int .i64 deep] [.box b (ckC level consts codes size free bound tk ok0), .tok tk]
    (ckPost b level consts codes free (if ok0 = true then t.ckD level consts codes free scope deep size bound else none)) := by
  induction t using Trm.ind with
  | h t ih =>
    intro size deep bound scope ok0 tk htk hs0 hs1 hd0 hd1 hb1 hb2
    have hbk := t.bulk_eq
    have hr := t.ckD_eq level consts codes free scope deep size bound
    refine ACall.of_body tt_ok Tryz.func98 rfl rfl (n := 141) rfl rfl ?_
    conv => whnf
    repeat ((first | ((first | (apply zY;intro hg) | apply zZ);first | exact stA | ((conv=>whnf);(repeat ((first | (refine zW ?_ ?_;exact gA) | refine pC (sorts_c _ _) wR ?_ | refine pC (sorts_c _ _) cA ?_ | refine pC (counts_c t OA) wR ?_ | refine pC (counts_c t OA) cA ?_ | refine PCall.read (number2_c b level consts codes (size + 1) free ok0 bound tk t scope) wR ?_ | intro _);conv=>whnf));first | exact pS | exact pL | exact pE)) | (refine zW ?_ ?_;exact gA) | refine zH rfl ?_ | refine zA ?_ | refine zI bA ?_ | refine zI rfl ?_ | refine zJ rfl rfl ?_ | refine zB ?_ | refine zK rfl ?_ | refine zL rfl ?_ | refine zC ?_ | (refine zO ?_ ?_ ?_;omega;omega) | (refine zP ?_ ?_ ?_;omega;omega) | refine zM rfl ?_ | (refine zQ ?_ ?_ ?_;omega;omega) | (refine zR ?_ ?_;omega) | (refine zI ?_ ?_;exact nA) | (refine zS ?_ ?_ ?_;omega;omega) | (refine zT ?_ ?_ ?_;omega;omega) | (refine zU ?_ ?_ ?_;omega;omega) | (refine zV ?_ ?_ ?_;omega;omega) | refine pC (sorts_c _ _) wR ?_ | refine pC (sorts_c _ _) cA ?_ | refine pC (counts_c t OA) wR ?_ | refine pC (counts_c t OA) cA ?_ | refine PCall.read (number2_c b level consts codes (size + 1) free ok0 bound tk t scope) wR ?_ | refine zN rfl rfl rfl ?_ | refine zD ?_ | refine zE ?_ | refine zF ?_ | refine PDraw.sP (some 19) rfl [] [28,29,30] tt_ok mixed ?_ | intro _);conv=>whnf)
    conv => whnf
    repeat' (first | ((first | ((first | (apply zY;intro hg) | apply zZ);first | exact stA | ((conv=>whnf);(repeat ((first | (refine zW ?_ ?_;exact gA) | refine pC (sorts_c _ _) wR ?_ | refine pC (sorts_c _ _) cA ?_ | refine pC (counts_c t OA) wR ?_ | refine pC (counts_c t OA) cA ?_ | refine PCall.read (number2_c b level consts codes (size + 1) free ok0 bound tk t scope) wR ?_ | intro _);conv=>whnf));first | exact pS | exact pL | exact pE)) | (refine zW ?_ ?_;exact gA) | refine zH rfl ?_ | refine zA ?_ | refine zI bA ?_ | refine zI rfl ?_ | refine zJ rfl rfl ?_ | refine zB ?_ | refine zK rfl ?_ | refine zL rfl ?_ | refine zC ?_ | (refine zO ?_ ?_ ?_;omega;omega) | (refine zP ?_ ?_ ?_;omega;omega) | refine zM rfl ?_ | (refine zQ ?_ ?_ ?_;omega;omega) | (refine zR ?_ ?_;omega) | (refine zI ?_ ?_;exact nA) | (refine zS ?_ ?_ ?_;omega;omega) | (refine zT ?_ ?_ ?_;omega;omega) | (refine zU ?_ ?_ ?_;omega;omega) | (refine zV ?_ ?_ ?_;omega;omega) | refine pC (sorts_c _ _) wR ?_ | refine pC (sorts_c _ _) cA ?_ | refine pC (counts_c t OA) wR ?_ | refine pC (counts_c t OA) cA ?_ | refine PCall.read (number2_c b level consts codes (size + 1) free ok0 bound tk t scope) wR ?_ | refine zN rfl rfl rfl ?_ | refine zD ?_ | refine zE ?_ | refine zF ?_ | refine PDraw.sP (some 19) rfl [] [28,29,30] tt_ok mixed ?_ | intro _ | refine zG ?_);conv=>whnf) | (refine zX (fun hc => ?_) (fun hc => ?_)<;>(try simp only [SY] at hc)<;>first | omega | (conv=>whnf)))
    · exact PRet.gen (Wk.refl _) ⟨rfl, size + 1, bound, tk, false, htk, rfl, fun h => (by cases h), fun _ => (by split; rw [hr, if_pos (by simp only [SS]; exact ‹_ ∨ _›)]; rfl)⟩
    · exact PRet.gen (Wk.refl _) ⟨rfl, size + 1, bound, tk, ok0, htk, rfl, fun h => (by rw [h] at hc; simp at hc), fun h => by rw [if_neg (by simp [h])]⟩
    rename_i b2 hgood
    obtain ⟨⟨⟨⟨g1, g2⟩, g3⟩, g4⟩, g5⟩ := hgood
    obtain rfl : ok0 = true := by simpa using hc
    rw [if_pos rfl]
    rw [if_neg (by simp [g3, g4, g5]; omega)] at hr
    refine PCall.go (bind2_c b level consts codes (size + 1) free t.v bound tk htk (by omega)) (WkT.refl _) ?_
    rintro _ _ ⟨rfl, tk2, htk2, rfl⟩
    conv => whnf
    repeat ((first | ((first | (apply zY;intro hg) | apply zZ);first | exact stA | ((conv=>whnf);(repeat ((first | (refine zW ?_ ?_;exact gA) | refine pC (sorts_c _ _) wR ?_ | refine pC (sorts_c _ _) cA ?_ | refine pC (counts_c t OA) wR ?_ | refine pC (counts_c t OA) cA ?_ | refine PCall.read (number2_c b level consts codes (size + 1) free ok0 bound tk t scope) wR ?_ | intro _);conv=>whnf));first | exact pS | exact pL | exact pE)) | (refine zW ?_ ?_;exact gA) | refine zH rfl ?_ | refine zA ?_ | refine zI bA ?_ | refine zI rfl ?_ | refine zJ rfl rfl ?_ | refine zB ?_ | refine zK rfl ?_ | refine zL rfl ?_ | refine zC ?_ | (refine zO ?_ ?_ ?_;omega;omega) | (refine zP ?_ ?_ ?_;omega;omega) | refine zM rfl ?_ | (refine zQ ?_ ?_ ?_;omega;omega) | (refine zR ?_ ?_;omega) | (refine zI ?_ ?_;exact nA) | (refine zS ?_ ?_ ?_;omega;omega) | (refine zT ?_ ?_ ?_;omega;omega) | (refine zU ?_ ?_ ?_;omega;omega) | (refine zV ?_ ?_ ?_;omega;omega) | refine pC (sorts_c _ _) wR ?_ | refine pC (sorts_c _ _) cA ?_ | refine pC (counts_c t OA) wR ?_ | refine pC (counts_c t OA) cA ?_ | refine PCall.read (number2_c b level consts codes (size + 1) free ok0 bound tk t scope) wR ?_ | refine zN rfl rfl rfl ?_ | refine zD ?_ | refine zE ?_ | refine zF ?_ | refine PDraw.sP (some 19) rfl [] [28,29,30] tt_ok mixed ?_ | intro _);conv=>whnf)
    refine PDraw.sE [] [0,2] [5,6] tt_ok mixed ?_
    conv=>whnf
    repeat ((first | ((first | (apply zY;intro hg) | apply zZ);first | exact stA | ((conv=>whnf);(repeat ((first | (refine zW ?_ ?_;exact gA) | refine pC (sorts_c _ _) wR ?_ | refine pC (sorts_c _ _) cA ?_ | refine pC (counts_c t OA) wR ?_ | refine pC (counts_c t OA) cA ?_ | refine PCall.read (number2_c b level consts codes (size + 1) free ok0 bound tk t scope) wR ?_ | intro _);conv=>whnf));first | exact pS | exact pL | exact pE)) | (refine zW ?_ ?_;exact gA) | refine zH rfl ?_ | refine zA ?_ | refine zI bA ?_ | refine zI rfl ?_ | refine zJ rfl rfl ?_ | refine zB ?_ | refine zK rfl ?_ | refine zL rfl ?_ | refine zC ?_ | (refine zO ?_ ?_ ?_;omega;omega) | (refine zP ?_ ?_ ?_;omega;omega) | refine zM rfl ?_ | (refine zQ ?_ ?_ ?_;omega;omega) | (refine zR ?_ ?_;omega) | (refine zI ?_ ?_;exact nA) | (refine zS ?_ ?_ ?_;omega;omega) | (refine zT ?_ ?_ ?_;omega;omega) | (refine zU ?_ ?_ ?_;omega;omega) | (refine zV ?_ ?_ ?_;omega;omega) | refine pC (sorts_c _ _) wR ?_ | refine pC (sorts_c _ _) cA ?_ | refine pC (counts_c t OA) wR ?_ | refine pC (counts_c t OA) cA ?_ | refine PCall.read (number2_c b level consts codes (size + 1) free ok0 bound tk t scope) wR ?_ | refine zN rfl rfl rfl ?_ | refine zD ?_ | refine zE ?_ | refine zF ?_ | refine PDraw.sP (some 19) rfl [] [28,29,30] tt_ok mixed ?_ | intro _);conv=>whnf)
    rename_i t3 ht3
    refine PAppend.list (l := ([] : List Int)) (f := PV.int .i64) ht3 (by simp; omega) (by show _ * 8 ≤ _; simp; omega) ?_
    intro t4 ht4
    conv => whnf
    repeat ((first | ((first | (apply zY;intro hg) | apply zZ);first | exact stA | ((conv=>whnf);(repeat ((first | (refine zW ?_ ?_;exact gA) | refine pC (sorts_c _ _) wR ?_ | refine pC (sorts_c _ _) cA ?_ | refine pC (counts_c t OA) wR ?_ | refine pC (counts_c t OA) cA ?_ | refine PCall.read (number2_c b level consts codes (size + 1) free ok0 bound tk t scope) wR ?_ | intro _);conv=>whnf));first | exact pS | exact pL | exact pE)) | (refine zW ?_ ?_;exact gA) | refine zH rfl ?_ | refine zA ?_ | refine zI bA ?_ | refine zI rfl ?_ | refine zJ rfl rfl ?_ | refine zB ?_ | refine zK rfl ?_ | refine zL rfl ?_ | refine zC ?_ | (refine zO ?_ ?_ ?_;omega;omega) | (refine zP ?_ ?_ ?_;omega;omega) | refine zM rfl ?_ | (refine zQ ?_ ?_ ?_;omega;omega) | (refine zR ?_ ?_;omega) | (refine zI ?_ ?_;exact nA) | (refine zS ?_ ?_ ?_;omega;omega) | (refine zT ?_ ?_ ?_;omega;omega) | (refine zU ?_ ?_ ?_;omega;omega) | (refine zV ?_ ?_ ?_;omega;omega) | refine pC (sorts_c _ _) wR ?_ | refine pC (sorts_c _ _) cA ?_ | refine pC (counts_c t OA) wR ?_ | refine pC (counts_c t OA) cA ?_ | refine PCall.read (number2_c b level consts codes (size + 1) free ok0 bound tk t scope) wR ?_ | refine zN rfl rfl rfl ?_ | refine zD ?_ | refine zE ?_ | refine zF ?_ | refine PDraw.sP (some 19) rfl [] [28,29,30] tt_ok mixed ?_ | intro _);conv=>whnf)
    refine PAppend.list (l := [] ++ scope) (f := PV.int .i64) ht4 (by simp; omega) (by show _ * 8 ≤ _; simp; omega) ?_
    intro t5 ht5
    conv => whnf
    repeat ((first | ((first | (apply zY;intro hg) | apply zZ);first | exact stA | ((conv=>whnf);(repeat ((first | (refine zW ?_ ?_;exact gA) | refine pC (sorts_c _ _) wR ?_ | refine pC (sorts_c _ _) cA ?_ | refine pC (counts_c t OA) wR ?_ | refine pC (counts_c t OA) cA ?_ | refine PCall.read (number2_c b level consts codes (size + 1) free ok0 bound tk t scope) wR ?_ | intro _);conv=>whnf));first | exact pS | exact pL | exact pE)) | (refine zW ?_ ?_;exact gA) | refine zH rfl ?_ | refine zA ?_ | refine zI bA ?_ | refine zI rfl ?_ | refine zJ rfl rfl ?_ | refine zB ?_ | refine zK rfl ?_ | refine zL rfl ?_ | refine zC ?_ | (refine zO ?_ ?_ ?_;omega;omega) | (refine zP ?_ ?_ ?_;omega;omega) | refine zM rfl ?_ | (refine zQ ?_ ?_ ?_;omega;omega) | (refine zR ?_ ?_;omega) | (refine zI ?_ ?_;exact nA) | (refine zS ?_ ?_ ?_;omega;omega) | (refine zT ?_ ?_ ?_;omega;omega) | (refine zU ?_ ?_ ?_;omega;omega) | (refine zV ?_ ?_ ?_;omega;omega) | refine pC (sorts_c _ _) wR ?_ | refine pC (sorts_c _ _) cA ?_ | refine pC (counts_c t OA) wR ?_ | refine pC (counts_c t OA) cA ?_ | refine PCall.read (number2_c b level consts codes (size + 1) free ok0 bound tk t scope) wR ?_ | refine zN rfl rfl rfl ?_ | refine zD ?_ | refine zE ?_ | refine zF ?_ | refine PDraw.sP (some 19) rfl [] [28,29,30] tt_ok mixed ?_ | intro _);conv=>whnf)
    rw [List.nil_append]
    have hbl := bindR_len t.v bound
    refine PLoop.over [9, 10, 11, 68, 69, 70, 71, 72, 73, 74, 75, 76, 77, 78, 79, 80, 81, 82, 83, 84, 85, 86, 87, 88, 89, 90, 91, 92, 93, 94, 95, 96, 97, 98, 99, 100, 101, 102, 103, 104, 105, 106, 107, 108, 109, 110, 111, 112, 113, 114, 115, 116, 117, 118, 119, 120, 121, 122, 123, 124, 125, 126, 127, 128, 129, 130, 131, 132, 133, 134, 135, 136, 137, 138, 139, 140] (fun | ((i, sz, bd, ok, tk') : Nat × Int × List Int × Bool × Tok) => [(9, .int .i64 i)])
      (fun x => [.box b (ckC level consts codes x.2.1 free x.2.2.1 x.2.2.2.2 x.2.2.2.1), .tok x.2.2.2.2, .box b2 [.int .i64 t.op, .int .i64 t.n, .sl 1 (t.v.map (PV.int .i64)) none, .sl 4 (t.t.map Trm.pv) none]])
      (fun | (i, sz, bd, ok, tk') => i ≤ t.t.length ∧ tk'.e = 3 ∧ (ok = true → 0 ≤ sz ∧ sz ≤ 20000 ∧ bd.length + Trm.bulks (t.t.drop i) ≤ 1000000000 ∧ t.ckD level consts codes free scope deep size bound = Trm.cksD level consts codes free t.op scope (scope ++ t.v) (t.t.drop i) (deep + 1) sz bd) ∧
        (ok = false → t.ckD level consts codes free scope deep size bound = none)) (fun | (i, _) => t.t.length - i) (0, size + 1, (bindR t.v bound).2, (bindR t.v bound).1, tk2)
      ⟨by simp, htk2, fun h => ⟨by omega, by omega, by rw [List.drop_zero]; omega, by rw [hr, if_pos h]; rfl⟩, fun h => by rw [hr, if_neg (by simp [h])]⟩ wA ?_
    rintro ⟨i, sz, bd, ok, tk'⟩ ⟨hi, htk', hok, hno⟩
    conv => whnf
    repeat' (first | ((first | ((first | (apply zY;intro hg) | apply zZ);first | exact stA | ((conv=>whnf);(repeat ((first | (refine zW ?_ ?_;exact gA) | refine pC (sorts_c _ _) wR ?_ | refine pC (sorts_c _ _) cA ?_ | refine pC (counts_c t OA) wR ?_ | refine pC (counts_c t OA) cA ?_ | refine PCall.read (number2_c b level consts codes (size + 1) free ok0 bound tk t scope) wR ?_ | intro _);conv=>whnf));first | exact pS | exact pL | exact pE)) | (refine zW ?_ ?_;exact gA) | refine zH rfl ?_ | refine zA ?_ | refine zI bA ?_ | refine zI rfl ?_ | refine zJ rfl rfl ?_ | refine zB ?_ | refine zK rfl ?_ | refine zL rfl ?_ | refine zC ?_ | (refine zO ?_ ?_ ?_;omega;omega) | (refine zP ?_ ?_ ?_;omega;omega) | refine zM rfl ?_ | (refine zQ ?_ ?_ ?_;omega;omega) | (refine zR ?_ ?_;omega) | (refine zI ?_ ?_;exact nA) | (refine zS ?_ ?_ ?_;omega;omega) | (refine zT ?_ ?_ ?_;omega;omega) | (refine zU ?_ ?_ ?_;omega;omega) | (refine zV ?_ ?_ ?_;omega;omega) | refine pC (sorts_c _ _) wR ?_ | refine pC (sorts_c _ _) cA ?_ | refine pC (counts_c t OA) wR ?_ | refine pC (counts_c t OA) cA ?_ | refine PCall.read (number2_c b level consts codes (size + 1) free ok0 bound tk t scope) wR ?_ | refine zN rfl rfl rfl ?_ | refine zD ?_ | refine zE ?_ | refine zF ?_ | refine PDraw.sP (some 19) rfl [] [28,29,30] tt_ok mixed ?_ | intro _ | refine zG ?_);conv=>whnf) | (refine zX (fun hc => ?_) (fun hc => ?_)<;>(try simp only [SY] at hc)<;>first | omega | (conv=>whnf)))
    rotate_right
    · refine PRet.gen (Wk.refl _) ⟨rfl, sz, bd, tk', ok, htk', rfl, fun h => ?_, hno⟩
      obtain ⟨_, _, _, h3⟩ := hok h
      rw [h3, List.drop_of_length_le (by rcases hc with hc | hc; omega; rw [h] at hc; cases hc), Trm.cksD]
    all_goals
      have hlt : i < t.t.length := by omega
      obtain rfl : ok = true := (‹_ ∧ ok = true›).2
      obtain ⟨hz, q1, q2, q3⟩ := hok rfl
      have hbm := Trm.bulks_mem (List.getElem_mem hlt)
      rw [drop_at hlt, Trm.bulks] at q2
    · obtain ⟨k1, k2⟩ := cks_step hlt q3 (t.t[i].op == 19) (scope ++ t.v) (by simp [wantOp, *]; omega) (by rw [if_pos (by omega)])
      refine PCall.go (ih t.t[i] (List.getElem_mem _) sz (deep + 1) bd (scope ++ t.v) (t.t[i].op == 19) tk' htk' hz q1 (by omega) (by omega) (by omega) (by first | omega | (simp; omega))) wA ?_
      rintro _ _ ⟨rfl, s', b', tk2', ok2, h1, rfl, h3, h4⟩
      conv => whnf
      repeat ((first | ((first | (apply zY;intro hg) | apply zZ);first | exact stA | ((conv=>whnf);(repeat ((first | (refine zW ?_ ?_;exact gA) | refine pC (sorts_c _ _) wR ?_ | refine pC (sorts_c _ _) cA ?_ | refine pC (counts_c t OA) wR ?_ | refine pC (counts_c t OA) cA ?_ | refine PCall.read (number2_c b level consts codes (size + 1) free ok0 bound tk t scope) wR ?_ | intro _);conv=>whnf));first | exact pS | exact pL | exact pE)) | (refine zW ?_ ?_;exact gA) | refine zH rfl ?_ | refine zA ?_ | refine zI bA ?_ | refine zI rfl ?_ | refine zJ rfl rfl ?_ | refine zB ?_ | refine zK rfl ?_ | refine zL rfl ?_ | refine zC ?_ | (refine zO ?_ ?_ ?_;omega;omega) | (refine zP ?_ ?_ ?_;omega;omega) | refine zM rfl ?_ | (refine zQ ?_ ?_ ?_;omega;omega) | (refine zR ?_ ?_;omega) | (refine zI ?_ ?_;exact nA) | (refine zS ?_ ?_ ?_;omega;omega) | (refine zT ?_ ?_ ?_;omega;omega) | (refine zU ?_ ?_ ?_;omega;omega) | (refine zV ?_ ?_ ?_;omega;omega) | refine pC (sorts_c _ _) wR ?_ | refine pC (sorts_c _ _) cA ?_ | refine pC (counts_c t OA) wR ?_ | refine pC (counts_c t OA) cA ?_ | refine PCall.read (number2_c b level consts codes (size + 1) free ok0 bound tk t scope) wR ?_ | refine zN rfl rfl rfl ?_ | refine zD ?_ | refine zE ?_ | refine zF ?_ | refine PDraw.sP (some 19) rfl [] [28,29,30] tt_ok mixed ?_ | intro _);conv=>whnf)
      exact loopTo (i + 1, s', b', ok2, tk2') ⟨by omega, h1, fun h => ck_next _ (h3 h) k1 hz (by omega), fun h => k2 (h4 h)⟩ (by show t.t.length - (i + 1) < t.t.length - i; omega) wA
    · obtain ⟨k1, k2⟩ := cks_step hlt q3 (t.t[i].op == 4) (scope ++ t.v) (by simp [wantOp, *]; omega) (by rw [if_pos (by omega)])
      refine PCall.go (ih t.t[i] (List.getElem_mem _) sz (deep + 1) bd (scope ++ t.v) (t.t[i].op == 4) tk' htk' hz q1 (by omega) (by omega) (by omega) (by first | omega | (simp; omega))) wA ?_
      rintro _ _ ⟨rfl, s', b', tk2', ok2, h1, rfl, h3, h4⟩
      conv => whnf
      repeat ((first | ((first | (apply zY;intro hg) | apply zZ);first | exact stA | ((conv=>whnf);(repeat ((first | (refine zW ?_ ?_;exact gA) | refine pC (sorts_c _ _) wR ?_ | refine pC (sorts_c _ _) cA ?_ | refine pC (counts_c t OA) wR ?_ | refine pC (counts_c t OA) cA ?_ | refine PCall.read (number2_c b level consts codes (size + 1) free ok0 bound tk t scope) wR ?_ | intro _);conv=>whnf));first | exact pS | exact pL | exact pE)) | (refine zW ?_ ?_;exact gA) | refine zH rfl ?_ | refine zA ?_ | refine zI bA ?_ | refine zI rfl ?_ | refine zJ rfl rfl ?_ | refine zB ?_ | refine zK rfl ?_ | refine zL rfl ?_ | refine zC ?_ | (refine zO ?_ ?_ ?_;omega;omega) | (refine zP ?_ ?_ ?_;omega;omega) | refine zM rfl ?_ | (refine zQ ?_ ?_ ?_;omega;omega) | (refine zR ?_ ?_;omega) | (refine zI ?_ ?_;exact nA) | (refine zS ?_ ?_ ?_;omega;omega) | (refine zT ?_ ?_ ?_;omega;omega) | (refine zU ?_ ?_ ?_;omega;omega) | (refine zV ?_ ?_ ?_;omega;omega) | refine pC (sorts_c _ _) wR ?_ | refine pC (sorts_c _ _) cA ?_ | refine pC (counts_c t OA) wR ?_ | refine pC (counts_c t OA) cA ?_ | refine PCall.read (number2_c b level consts codes (size + 1) free ok0 bound tk t scope) wR ?_ | refine zN rfl rfl rfl ?_ | refine zD ?_ | refine zE ?_ | refine zF ?_ | refine PDraw.sP (some 19) rfl [] [28,29,30] tt_ok mixed ?_ | intro _);conv=>whnf)
      exact loopTo (i + 1, s', b', ok2, tk2') ⟨by omega, h1, fun h => ck_next _ (h3 h) k1 hz (by omega), fun h => k2 (h4 h)⟩ (by show t.t.length - (i + 1) < t.t.length - i; omega) wA
    · obtain ⟨k1, k2⟩ := cks_step hlt q3 true (scope ++ t.v) ⟨fun _ hh => (by omega), fun _ => rfl⟩ (by rw [if_pos (by omega)])
      refine PCall.go (ih t.t[i] (List.getElem_mem _) sz (deep + 1) bd (scope ++ t.v) (true) tk' htk' hz q1 (by omega) (by omega) (by omega) (by first | omega | (simp; omega))) wA ?_
      rintro _ _ ⟨rfl, s', b', tk2', ok2, h1, rfl, h3, h4⟩
      conv => whnf
      repeat ((first | ((first | (apply zY;intro hg) | apply zZ);first | exact stA | ((conv=>whnf);(repeat ((first | (refine zW ?_ ?_;exact gA) | refine pC (sorts_c _ _) wR ?_ | refine pC (sorts_c _ _) cA ?_ | refine pC (counts_c t OA) wR ?_ | refine pC (counts_c t OA) cA ?_ | refine PCall.read (number2_c b level consts codes (size + 1) free ok0 bound tk t scope) wR ?_ | intro _);conv=>whnf));first | exact pS | exact pL | exact pE)) | (refine zW ?_ ?_;exact gA) | refine zH rfl ?_ | refine zA ?_ | refine zI bA ?_ | refine zI rfl ?_ | refine zJ rfl rfl ?_ | refine zB ?_ | refine zK rfl ?_ | refine zL rfl ?_ | refine zC ?_ | (refine zO ?_ ?_ ?_;omega;omega) | (refine zP ?_ ?_ ?_;omega;omega) | refine zM rfl ?_ | (refine zQ ?_ ?_ ?_;omega;omega) | (refine zR ?_ ?_;omega) | (refine zI ?_ ?_;exact nA) | (refine zS ?_ ?_ ?_;omega;omega) | (refine zT ?_ ?_ ?_;omega;omega) | (refine zU ?_ ?_ ?_;omega;omega) | (refine zV ?_ ?_ ?_;omega;omega) | refine pC (sorts_c _ _) wR ?_ | refine pC (sorts_c _ _) cA ?_ | refine pC (counts_c t OA) wR ?_ | refine pC (counts_c t OA) cA ?_ | refine PCall.read (number2_c b level consts codes (size + 1) free ok0 bound tk t scope) wR ?_ | refine zN rfl rfl rfl ?_ | refine zD ?_ | refine zE ?_ | refine zF ?_ | refine PDraw.sP (some 19) rfl [] [28,29,30] tt_ok mixed ?_ | intro _);conv=>whnf)
      exact loopTo (i + 1, s', b', ok2, tk2') ⟨by omega, h1, fun h => ck_next _ (h3 h) k1 hz (by omega), fun h => k2 (h4 h)⟩ (by show t.t.length - (i + 1) < t.t.length - i; omega) wA
    · obtain ⟨k1, k2⟩ := cks_step hlt q3 true scope ⟨fun _ hh => (by omega), fun _ => rfl⟩ (by rw [if_neg (by omega)])
      refine PCall.go (ih t.t[i] (List.getElem_mem _) sz (deep + 1) bd (scope) (true) tk' htk' hz q1 (by omega) (by omega) (by omega) (by first | omega | (simp; omega))) wA ?_
      rintro _ _ ⟨rfl, s', b', tk2', ok2, h1, rfl, h3, h4⟩
      conv => whnf
      repeat ((first | ((first | (apply zY;intro hg) | apply zZ);first | exact stA | ((conv=>whnf);(repeat ((first | (refine zW ?_ ?_;exact gA) | refine pC (sorts_c _ _) wR ?_ | refine pC (sorts_c _ _) cA ?_ | refine pC (counts_c t OA) wR ?_ | refine pC (counts_c t OA) cA ?_ | refine PCall.read (number2_c b level consts codes (size + 1) free ok0 bound tk t scope) wR ?_ | intro _);conv=>whnf));first | exact pS | exact pL | exact pE)) | (refine zW ?_ ?_;exact gA) | refine zH rfl ?_ | refine zA ?_ | refine zI bA ?_ | refine zI rfl ?_ | refine zJ rfl rfl ?_ | refine zB ?_ | refine zK rfl ?_ | refine zL rfl ?_ | refine zC ?_ | (refine zO ?_ ?_ ?_;omega;omega) | (refine zP ?_ ?_ ?_;omega;omega) | refine zM rfl ?_ | (refine zQ ?_ ?_ ?_;omega;omega) | (refine zR ?_ ?_;omega) | (refine zI ?_ ?_;exact nA) | (refine zS ?_ ?_ ?_;omega;omega) | (refine zT ?_ ?_ ?_;omega;omega) | (refine zU ?_ ?_ ?_;omega;omega) | (refine zV ?_ ?_ ?_;omega;omega) | refine pC (sorts_c _ _) wR ?_ | refine pC (sorts_c _ _) cA ?_ | refine pC (counts_c t OA) wR ?_ | refine pC (counts_c t OA) cA ?_ | refine PCall.read (number2_c b level consts codes (size + 1) free ok0 bound tk t scope) wR ?_ | refine zN rfl rfl rfl ?_ | refine zD ?_ | refine zE ?_ | refine zF ?_ | refine PDraw.sP (some 19) rfl [] [28,29,30] tt_ok mixed ?_ | intro _);conv=>whnf)
      exact loopTo (i + 1, s', b', ok2, tk2') ⟨by omega, h1, fun h => ck_next _ (h3 h) k1 hz (by omega), fun h => k2 (h4 h)⟩ (by show t.t.length - (i + 1) < t.t.length - i; omega) wA
end Go.Cb
namespace Go.Cb
open Go.Proofs
set_option maxRecDepth 100000
set_option maxHeartbeats 4000000
structure Prog where
  consts : List Datum
  body : Trm
def Prog.cells (p : Prog) : List PV := .sl 5 (p.consts.map Datum.pv) none :: p.body.cells
def checkD (p : Prog) (level : Int) : Int :=
  if (decide (level < 0) || decide (level > 2)) = true then 1 else
  if (p.consts.all (fun d => d.rightD 0) && (p.body.ckD level p.consts.length 0 false [] 0 0 []).isSome) = true then 0 else 5
theorem check2_c (p : Prog) (level : Int) (hb : p.body.bulk ≤ 1000000000) (hl : p.consts.length ≤ 1000000000) : ACallP Tryz.prog 57 [.agg p.cells, .int .i64 level] (.int .i64 (checkD p level)) := by
  have hs : checkD p level = checkD p level := rfl
  conv at hs => rhs; unfold checkD
  refine ACall.of_body tt_ok Tryz.func57 rfl rfl (n := 34) rfl rfl ?_
  conv => whnf
  repeat ((first | ((first | (apply zY;intro hg) | apply zZ);first | exact stA | ((conv=>whnf);(repeat ((first | (refine zW ?_ ?_;exact gA) | refine pC (constants2_c _) wR ?_ | refine pC (constants2_c _) cA ?_ | intro _);conv=>whnf));first | exact pS | exact pL | exact pE)) | (refine zW ?_ ?_;exact gA) | refine zH rfl ?_ | refine zA ?_ | refine zI bA ?_ | refine zI rfl ?_ | refine zJ rfl rfl ?_ | refine zB ?_ | refine zK rfl ?_ | refine zL rfl ?_ | refine zC ?_ | (refine zO ?_ ?_ ?_;omega;omega) | (refine zP ?_ ?_ ?_;omega;omega) | refine zM rfl ?_ | (refine zQ ?_ ?_ ?_;omega;omega) | (refine zR ?_ ?_;omega) | (refine zI ?_ ?_;exact nA) | (refine zS ?_ ?_ ?_;omega;omega) | (refine zT ?_ ?_ ?_;omega;omega) | (refine zU ?_ ?_ ?_;omega;omega) | (refine zV ?_ ?_ ?_;omega;omega) | refine pC (constants2_c _) wR ?_ | refine pC (constants2_c _) cA ?_ | refine zN rfl rfl rfl ?_ | refine zD ?_ | refine zE ?_ | refine zF ?_ | refine PDraw.sP (some 12) rfl [] [8,9] tt_ok mixed ?_ | intro _);conv=>whnf)
  conv => whnf
  repeat' (first | ((first | ((first | (apply zY;intro hg) | apply zZ);first | exact stA | ((conv=>whnf);(repeat ((first | (refine zW ?_ ?_;exact gA) | refine pC (constants2_c _) wR ?_ | refine pC (constants2_c _) cA ?_ | intro _);conv=>whnf));first | exact pS | exact pL | exact pE)) | (refine zW ?_ ?_;exact gA) | refine zH rfl ?_ | refine zA ?_ | refine zI bA ?_ | refine zI rfl ?_ | refine zJ rfl rfl ?_ | refine zB ?_ | refine zK rfl ?_ | refine zL rfl ?_ | refine zC ?_ | (refine zO ?_ ?_ ?_;omega;omega) | (refine zP ?_ ?_ ?_;omega;omega) | refine zM rfl ?_ | (refine zQ ?_ ?_ ?_;omega;omega) | (refine zR ?_ ?_;omega) | (refine zI ?_ ?_;exact nA) | (refine zS ?_ ?_ ?_;omega;omega) | (refine zT ?_ ?_ ?_;omega;omega) | (refine zU ?_ ?_ ?_;omega;omega) | (refine zV ?_ ?_ ?_;omega;omega) | refine pC (constants2_c _) wR ?_ | refine pC (constants2_c _) cA ?_ | refine zN rfl rfl rfl ?_ | refine zD ?_ | refine zE ?_ | refine zF ?_ | refine PDraw.sP (some 12) rfl [] [8,9] tt_ok mixed ?_ | intro _ | refine zG ?_);conv=>whnf) | (refine zX (fun hc => ?_) (fun hc => ?_)<;>(try simp only [SY] at hc)<;>first | omega | (conv=>whnf)))
  · rw [hs, if_pos (by simp only [SS]; exact hc)]
    exact PRet.pure (Wk.refl _)
  · rename_i b1 b2
    refine PCall.goG (Ghost.trans (Ghost.nil 1 3 _) (Ghost.box (b := b2) (cs := [.int .i64 level, .int .i64 p.consts.length, .int .i64 0, .bfalse, .int .i64 0, .nil, .bool (p.consts.all fun d => d.rightD 0)]) (cs' := ckC level p.consts.length 0 0 false [] (nilTok 1 3) (p.consts.all fun d => d.rightD 0)) wA))
      (term2_c b2 level p.consts.length 0 false p.body 0 0 [] [] (p.consts.all fun d => d.rightD 0) (nilTok 1 3) rfl (by omega) (by omega) (by omega) (by omega) (by simp; omega) (by simp; omega)) wA ?_
    rintro _ _ ⟨rfl, s', b', tk, ok, h1, rfl, h3, h4⟩
    rw [hc] at h3 h4
    simp only [if_true] at h3 h4
    conv => whnf
    repeat' (first | ((first | ((first | (apply zY;intro hg) | apply zZ);first | exact stA | ((conv=>whnf);(repeat ((first | (refine zW ?_ ?_;exact gA) | refine pC (constants2_c _) wR ?_ | refine pC (constants2_c _) cA ?_ | intro _);conv=>whnf));first | exact pS | exact pL | exact pE)) | (refine zW ?_ ?_;exact gA) | refine zH rfl ?_ | refine zA ?_ | refine zI bA ?_ | refine zI rfl ?_ | refine zJ rfl rfl ?_ | refine zB ?_ | refine zK rfl ?_ | refine zL rfl ?_ | refine zC ?_ | (refine zO ?_ ?_ ?_;omega;omega) | (refine zP ?_ ?_ ?_;omega;omega) | refine zM rfl ?_ | (refine zQ ?_ ?_ ?_;omega;omega) | (refine zR ?_ ?_;omega) | (refine zI ?_ ?_;exact nA) | (refine zS ?_ ?_ ?_;omega;omega) | (refine zT ?_ ?_ ?_;omega;omega) | (refine zU ?_ ?_ ?_;omega;omega) | (refine zV ?_ ?_ ?_;omega;omega) | refine pC (constants2_c _) wR ?_ | refine pC (constants2_c _) cA ?_ | refine zN rfl rfl rfl ?_ | refine zD ?_ | refine zE ?_ | refine zF ?_ | refine PDraw.sP (some 12) rfl [] [8,9] tt_ok mixed ?_ | intro _ | refine zG ?_);conv=>whnf) | (refine zX (fun hc => ?_) (fun hc => ?_)<;>(try simp only [SY] at hc)<;>first | omega | (conv=>whnf)))
    · rw [hs, if_neg (by simp only [SS]; omega), if_neg (by rw [h4 hc]; simp)]
      exact PRet.pure (Wk.refl _)
    · rw [hs, if_neg (by simp only [SS]; omega), if_pos (by rw [h3 hc]; simp [*])]
      exact PRet.pure (Wk.refl _)
  · rw [hs, if_neg (by simp only [SS]; omega), if_neg (by simp [*])]
    exact PRet.pure (Wk.refl _)
  · rename_i hx; rw [hc] at hx; cases hx
end Go.Cb
namespace Go.Cb
open Go.Proofs
set_option maxRecDepth 100000
set_option maxHeartbeats 4000000
def Dist (l bound : List Int) : Prop := (∀ x ∈ l, 0 ≤ x ∧ x ≤ 1000000 ∧ x ∉ bound) ∧ l.Nodup
theorem Dist.congr {l b c : List Int} (h : ∀ x, x ∈ b ↔ x ∈ c) : Dist l b ↔ Dist l c := by
  unfold Dist
  simp only [h]
theorem Dist.perm {l m b : List Int} (h : l.Perm m) : Dist l b ↔ Dist m b := by
  unfold Dist
  rw [h.nodup_iff]
  simp only [h.mem_iff]
theorem Dist.append {l m b c : List Int} (h : ∀ x, x ∈ c ↔ x ∈ b ∨ x ∈ l) : Dist (l ++ m) b ↔ Dist l b ∧ Dist m c := by
  unfold Dist
  simp only [List.mem_append, List.nodup_append, h]
  constructor
  · rintro ⟨h1, h2, h3, h4⟩
    exact ⟨⟨fun x hx => h1 x (.inl hx), h2⟩, fun x hx => ⟨(h1 x (.inr hx)).1, (h1 x (.inr hx)).2.1, by rintro (h | h); exact (h1 x (.inr hx)).2.2 h; exact h4 x h x hx rfl⟩, h3⟩
  · rintro ⟨⟨h1, h2⟩, h3, h4⟩
    refine ⟨?_, h2, h4, ?_⟩
    · rintro x (hx | hx)
      · exact h1 x hx
      · exact ⟨(h3 x hx).1, (h3 x hx).2.1, fun h => (h3 x hx).2.2 (.inl h)⟩
    · rintro x hx y hy rfl
      exact (h3 x hy).2.2 (.inr hx)
def Sp (r : Option (Int × List Int)) (c : Prop) (n : Int) (V : List Int) (size : Int) (bound : List Int) : Prop :=
  (r = none ∧ ¬(c ∧ size + n ≤ 20000 ∧ Dist V bound)) ∨ (∃ b, r = some (size + n, b) ∧ (c ∧ size + n ≤ 20000 ∧ Dist V bound) ∧ ∀ x, x ∈ b ↔ x ∈ bound ∨ x ∈ V)
theorem Sp.some_iff {r c n V size bound} (h : Sp r c n V size bound) : r.isSome = true ↔ (c ∧ size + n ≤ 20000 ∧ Dist V bound) := by
  rcases h with ⟨rfl, h⟩ | ⟨b, rfl, h, _⟩
  · simpa using h
  · simpa using h
theorem Sp.iff {r c c' n V size bound} (h : Sp r c n V size bound) (hc : c ↔ c') : Sp r c' n V size bound := by
  unfold Sp at h ⊢; rwa [hc] at h
theorem Sp.perm {r c n V W size bound} (h : Sp r c n V size bound) (hp : V.Perm W) : Sp r c n W size bound := by
  unfold Sp at h ⊢; simpa only [Dist.perm hp, hp.mem_iff] using h
theorem Sp.nil {size : Int} {bound : List Int} (h : size ≤ 20000) : Sp (some (size, bound)) True 0 [] size bound :=
  .inr ⟨bound, by simp, ⟨trivial, by omega, by simp [Dist]⟩, by simp⟩
theorem Sp.test {r c n V size bound} {p : Prop} [Decidable p] (h : ¬p → Sp r c n V size bound) : Sp (if p then none else r) (¬p ∧ c) n V size bound := by
  by_cases hp : p
  · rw [if_pos hp]; exact .inl ⟨rfl, fun h => h.1.1 hp⟩
  · rw [if_neg hp]; exact (h hp).iff (by simp [hp])
theorem Sp.seq {r1 : Option (Int × List Int)} {f : Int → List Int → Option (Int × List Int)} {c1 c2 : Prop} {n1 n2 : Int} {V1 V2 : List Int} {size : Int} {bound : List Int} (h1 : Sp r1 c1 n1 V1 size bound) (hn : 0 ≤ n2)
    (h2 : ∀ b, size + n1 ≤ 20000 → Sp (f (size + n1) b) c2 n2 V2 (size + n1) b) : Sp (match (generalizing := false) r1 with | none => none | some (s, b) => f s b) (c1 ∧ c2) (n1 + n2) (V1 ++ V2) size bound := by
  rcases h1 with ⟨rfl, h⟩ | ⟨b, rfl, ⟨k1, k2, k3⟩, hb⟩
  · exact .inl ⟨rfl, fun ⟨⟨g1, g2⟩, g3, g4⟩ => h ⟨g1, by omega, ((Dist.append (c := bound ++ V1) (by simp)).1 g4).1⟩⟩
  · rcases h2 b k2 with ⟨e, h⟩ | ⟨b', e, ⟨g1, g2, g3⟩, hb'⟩
    · exact .inl ⟨e, fun ⟨⟨g1, g2⟩, g3, g4⟩ => h ⟨g2, by omega, ((Dist.append hb).1 g4).2⟩⟩
    · exact .inr ⟨b', by rw [← Int.add_assoc]; exact e, ⟨⟨k1, g1⟩, by omega, (Dist.append hb).2 ⟨k3, g3⟩⟩, fun x => by rw [hb', hb, List.mem_append, or_assoc]⟩
theorem bindR_dist : ∀ (l bound : List Int), (bindR l bound).1 = true ↔ Dist l bound
  | [], bound => by simp [bindR, Dist]
  | v :: l, bound => by
    rw [bindR]
    split
    · rename_i hv
      rw [bindR_dist l, show v :: l = [v] ++ l from rfl, Dist.append (l := [v]) (c := bound ++ [v]) (by simp)]
      simp [vOk] at hv
      simp [Dist]
      intro _ _
      exact ⟨by omega, by omega, hv.2⟩
    · rename_i hv
      simp only [Bool.false_eq_true, false_iff]
      rintro ⟨h, _⟩
      have := h v (by simp)
      apply hv
      simp [vOk]
      exact ⟨by omega, this.2.2⟩
theorem bindR_snd : ∀ (l bound : List Int), (bindR l bound).1 = true → (bindR l bound).2 = bound ++ l
  | [], bound, _ => by simp [bindR]
  | v :: l, bound, h => by
    rw [bindR] at h ⊢
    split at h
    · rename_i hv
      rw [if_pos hv, bindR_snd l _ h]; simp
    · cases h
theorem Sp.bind {v bound : List Int} {size : Int} {r : Option (Int × List Int)} {c : Prop} {n : Int} {V : List Int} (h : (bindR v bound).1 = true → Sp r c n V size (bound ++ v)) : Sp (if (bindR v bound).1 = true then r else none) c n (v ++ V) size bound := by
  have ha : Dist (v ++ V) bound ↔ Dist v bound ∧ Dist V (bound ++ v) := Dist.append (by simp)
  by_cases hb : (bindR v bound).1 = true
  · have hd := (bindR_dist _ _).1 hb
    rw [if_pos hb]
    rcases h hb with ⟨rfl, hh⟩ | ⟨b, rfl, ⟨k1, k2, k3⟩, hm⟩
    · exact .inl ⟨rfl, fun ⟨g1, g2, g3⟩ => hh ⟨g1, g2, (ha.1 g3).2⟩⟩
    · exact .inr ⟨b, rfl, ⟨k1, k2, ha.2 ⟨hd, k3⟩⟩, fun x => by rw [hm, List.mem_append, List.mem_append, or_assoc]⟩
  · rw [if_neg hb]
    exact .inl ⟨rfl, fun ⟨_, _, g3⟩ => hb ((bindR_dist _ _).2 (ha.1 g3).1)⟩
theorem Sp.tick {r c n V size bound} (hn : 0 ≤ n) (h : size + 1 ≤ 20000 → Sp r c n V (size + 1) bound) : Sp (if size + 1 > 20000 then none else r) c (1 + n) V size bound := by
  split
  · exact .inl ⟨rfl, fun ⟨_, h, _⟩ => by omega⟩
  · rcases h (by omega) with ⟨rfl, hh⟩ | ⟨b, rfl, k, hm⟩
    · exact .inl ⟨rfl, fun ⟨g1, g2, g3⟩ => hh ⟨g1, by omega, g3⟩⟩
    · exact .inr ⟨b, by rw [← Int.add_assoc], ⟨k.1, by omega, k.2.2⟩, hm⟩
mutual
def Trm.cnt : Trm → Int
  | .mk _ _ _ t => 1 + Trm.cnts t
def Trm.cnts : List Trm → Int
  | [] => 0
  | x :: xs => Trm.cnt x + Trm.cnts xs
end
mutual
def Trm.vars : Trm → List Int
  | .mk _ _ v t => v ++ Trm.varss t
def Trm.varss : List Trm → List Int
  | [] => []
  | x :: xs => Trm.vars x ++ Trm.varss xs
end
theorem Trm.cnt_eq (t : Trm) : t.cnt = 1 + Trm.cnts t.t := by cases t; rfl
theorem Trm.vars_eq (t : Trm) : t.vars = t.v ++ Trm.varss t.t := by cases t; rfl
theorem Trm.cnt_pos (t : Trm) : 1 ≤ t.cnt := by
  induction t using Trm.ind with
  | h t ih =>
    rw [Trm.cnt_eq]
    have : ∀ l : List Trm, (∀ x ∈ l, 1 ≤ x.cnt) → 0 ≤ Trm.cnts l := by
      intro l
      induction l with
      | nil => intro _; rw [Trm.cnts]; omega
      | cons y l ih => intro h; rw [Trm.cnts]; have := h y (by simp); have := ih fun x hx => h x (by simp [hx]); omega
    have := this t.t ih
    omega
theorem Trm.cnts_pos : ∀ l : List Trm, 0 ≤ Trm.cnts l
  | [] => by rw [Trm.cnts]; omega
  | x :: l => by rw [Trm.cnts]; have := x.cnt_pos; have := Trm.cnts_pos l; omega
mutual
def Trm.okT (level consts codes : Int) (free : Bool) : Trm → List Int → Int → Prop
  | .mk op n v t, scope, deep => (deep ≤ 400 ∧ sortsL op level = true ∧ countsL (.mk op n v t) = true ∧ numberL consts codes free (.mk op n v t) scope = true) ∧ Trm.okTs level consts codes free op scope (scope ++ v) t (deep + 1)
def Trm.okTs (level consts codes : Int) (free : Bool) (op : Int) (scope inner : List Int) : List Trm → Int → Prop
  | [], _ => True
  | x :: xs, deep => (¬(op = 9 ∧ xs ≠ [] ∧ x.op ≠ wantOp level)) ∧ Trm.okT level consts codes free x (if xs = [] ∨ op = 7 ∨ op = 9 then inner else scope) deep ∧ Trm.okTs level consts codes free op scope inner xs deep
end
theorem Trm.okT_eq (level consts codes : Int) (free : Bool) (t : Trm) (scope : List Int) (deep : Int) : t.okT level consts codes free scope deep ↔
    (deep ≤ 400 ∧ sortsL t.op level = true ∧ countsL t = true ∧ numberL consts codes free t scope = true) ∧ Trm.okTs level consts codes free t.op scope (scope ++ t.v) t.t (deep + 1) := by cases t; rw [Trm.okT]; rfl
theorem Trm.ckD_sp (level consts codes : Int) (free : Bool) (t : Trm) : ∀ (scope : List Int) (deep size : Int) (bound : List Int), Sp (t.ckD level consts codes free scope deep size bound) (t.okT level consts codes free scope deep) t.cnt t.vars size bound := by
  induction t using Trm.ind with
  | h t ih =>
    intro scope deep size bound
    have key : ∀ l : List Trm, (∀ y ∈ l, ∀ (scope : List Int) (deep size : Int) (bound : List Int), Sp (y.ckD level consts codes free scope deep size bound) (y.okT level consts codes free scope deep) y.cnt y.vars size bound) →
        ∀ (deep size : Int) (bound : List Int), size ≤ 20000 → Sp (Trm.cksD level consts codes free t.op scope (scope ++ t.v) l deep size bound) (Trm.okTs level consts codes free t.op scope (scope ++ t.v) l deep) (Trm.cnts l) (Trm.varss l) size bound := by
      intro l
      induction l with
      | nil => intro _ deep size bound h; rw [Trm.cksD, Trm.okTs, Trm.cnts, Trm.varss]; exact Sp.nil h
      | cons x l ihl =>
        intro hy deep size bound h
        rw [Trm.cksD, Trm.okTs, Trm.cnts, Trm.varss]
        exact Sp.test fun _ => Sp.seq (hy x (by simp) _ _ _ _) (Trm.cnts_pos l) fun b hb => ihl (fun y hh => hy y (by simp [hh])) _ _ _ hb
    rw [Trm.ckD_eq, Trm.cnt_eq, Trm.vars_eq, Trm.okT_eq]
    have h1 : (if (decide (deep > 400) || decide (size + 1 > 20000) || !sortsL t.op level || !countsL t || !numberL consts codes free t scope) = true then none else
        if (bindR t.v bound).1 = true then Trm.cksD level consts codes free t.op scope (scope ++ t.v) t.t (deep + 1) (size + 1) (bindR t.v bound).2 else none) =
        (if ¬(deep ≤ 400 ∧ sortsL t.op level = true ∧ countsL t = true ∧ numberL consts codes free t scope = true) then none else if size + 1 > 20000 then none else
        if (bindR t.v bound).1 = true then Trm.cksD level consts codes free t.op scope (scope ++ t.v) t.t (deep + 1) (size + 1) (bound ++ t.v) else none) := by
      by_cases a : deep ≤ 400 ∧ sortsL t.op level = true ∧ countsL t = true ∧ numberL consts codes free t scope = true
      · rw [if_neg (c := ¬ _) (by simpa using a)]
        by_cases b : size + 1 > 20000
        · rw [if_pos b, if_pos (by simp [b])]
        · rw [if_neg b, if_neg (by simp [a]; omega)]
          split
          · rename_i hb; rw [bindR_snd _ _ hb]
          · rfl
      · rw [if_pos (c := ¬ _) a, if_pos]
        simp only [Bool.or_eq_true, decide_eq_true_eq, Bool.not_eq_true']
        apply Classical.byContradiction
        intro h
        apply a
        simp only [not_or, Bool.not_eq_false] at h
        exact ⟨by omega, h.1.1.2, h.1.2, h.2⟩
    rw [h1]
    refine (Sp.test fun _ => Sp.tick (Trm.cnts_pos _) fun hs => Sp.bind fun _ => key t.t ih _ _ _ hs).iff ?_
    rw [Classical.not_not]
theorem numberP_eq (consts codes : Int) (free : Bool) (t : Trm) (scope : List Int) : numberP consts codes free t scope = numberL consts codes free t scope := by
  unfold numberP numberL
  split; rfl
  split; rfl
  split
  · rw [Bool.eq_iff_iff]; simp; omega
  · rfl
theorem shape_eq (level : Int) (h0 : 0 ≤ level) (h3 : level ≤ 3) (t : Trm) :
    ((shapeL t.op).2 = true ∧ (shapeL t.op).1.fm ≤ level ∧ level ≤ (shapeL t.op).1.to ∧ fitsL (shapeL t.op).1 t = true) ↔ (sortsL t.op level = true ∧ countsL t = true) := by
  have hc : t.op < 0 ∨ t.op > 22 ∨ t.op = 0 ∨ t.op = 1 ∨ t.op = 2 ∨ t.op = 3 ∨ t.op = 4 ∨ t.op = 5 ∨ t.op = 6 ∨ t.op = 7 ∨ t.op = 8 ∨ t.op = 9 ∨ t.op = 10 ∨ t.op = 11 ∨ t.op = 12 ∨ t.op = 13 ∨ t.op = 14 ∨ t.op = 15 ∨ t.op = 16 ∨ t.op = 17 ∨ t.op = 18 ∨ t.op = 19 ∨ t.op = 20 ∨ t.op = 21 ∨ t.op = 22 := by omega
  rcases hc with h | h | h | h | h | h | h | h | h | h | h | h | h | h | h | h | h | h | h | h | h | h | h | h | h
  · have e : shapeL t.op = (⟨0, 0, 0, false, false⟩, false) := by unfold shapeL; repeat rw [if_neg (by omega)]
    have e2 : sortsL t.op level = false := by unfold sortsL; repeat rw [if_neg (by omega)]
    simp [e, e2]
  · have e : shapeL t.op = (⟨0, 0, 0, false, false⟩, false) := by unfold shapeL; repeat rw [if_neg (by omega)]
    have e2 : sortsL t.op level = false := by unfold sortsL; repeat rw [if_neg (by omega)]
    simp [e, e2]
  all_goals
    simp [shapeL, sortsL, countsL, fitsL, bindsB, h]
    try (first | omega | (simp only [← List.length_eq_zero_iff]; omega))
def Trm.okG (level consts codes : Int) (free : Bool) (inner : List Int) : List Trm → Int → Prop
  | [], _ => True
  | x :: xs, deep => Trm.okT level consts codes free x inner deep ∧ Trm.okG level consts codes free inner xs deep
theorem Trm.okTs_G {level consts codes : Int} {free : Bool} {op : Int} (hop : op = 7 ∨ op = 9) (scope inner : List Int) (deep : Int) : ∀ l : List Trm, Trm.okTs level consts codes free op scope inner l deep ↔ (¬((op == 9 && !procsL level l.dropLast) = true) ∧ Trm.okG level consts codes free inner l deep)
  | [] => by simp [Trm.okTs, Trm.okG, procsL]
  | [x] => by
    rw [Trm.okTs, Trm.okG, if_pos (.inl rfl)]
    simp [Trm.okTs, Trm.okG, procsL]
  | x :: y :: l => by
    rw [Trm.okTs, Trm.okG, if_pos (.inr hop), Trm.okTs_G hop scope inner deep (y :: l)]
    have e : (op == 9 && !procsL level (x :: y :: l).dropLast) = true ↔ (op = 9 ∧ x.op ≠ wantOp level) ∨ (op == 9 && !procsL level (y :: l).dropLast) = true := by
      rw [show (x :: y :: l).dropLast = x :: (y :: l).dropLast from rfl]
      simp only [procsL, wantOp, Bool.and_eq_true, beq_iff_eq, List.any_cons, Bool.not_not, Bool.or_eq_true, bne_iff_ne]
      constructor
      · rintro ⟨h1, h2 | h2⟩
        · exact .inl ⟨h1, h2⟩
        · exact .inr ⟨h1, h2⟩
      · rintro (⟨h1, h2⟩ | ⟨h1, h2⟩)
        · exact ⟨h1, .inl h2⟩
        · exact ⟨h1, .inr h2⟩
    rw [e]
    constructor
    · rintro ⟨h1, h2, h3, h4⟩
      exact ⟨fun h => h.elim (fun h => h1 ⟨h.1, by simp, h.2⟩) h3, h2, h4⟩
    · rintro ⟨h1, h2, h4⟩
      exact ⟨fun h => h1 (.inl ⟨h.1, h.2.2⟩), h2, fun h => h1 (.inr h), h4⟩
theorem Trm.ckP_sp (level consts codes : Int) (free : Bool) (h0 : 0 ≤ level) (h3 : level ≤ 3) (t : Trm) : ∀ (scope : List Int) (deep size : Int) (bound : List Int), Sp (t.ckP level consts codes free scope deep size bound) (t.okT level consts codes free scope deep) t.cnt t.vars size bound := by
  induction t using Trm.ind with
  | h t ih =>
    intro scope deep size bound
    have keyG : ∀ l : List Trm, (∀ y ∈ l, ∀ (scope : List Int) (deep size : Int) (bound : List Int), Sp (y.ckP level consts codes free scope deep size bound) (y.okT level consts codes free scope deep) y.cnt y.vars size bound) →
        ∀ (inner : List Int) (deep size : Int) (bound : List Int), size ≤ 20000 → Sp (Trm.cksG level consts codes free inner l deep size bound) (Trm.okG level consts codes free inner l deep) (Trm.cnts l) (Trm.varss l) size bound := by
      intro l
      induction l with
      | nil => intro _ inner deep size bound h; rw [Trm.cksG, Trm.okG, Trm.cnts, Trm.varss]; exact Sp.nil h
      | cons x l ihl =>
        intro hy inner deep size bound h
        rw [Trm.cksG, Trm.okG, Trm.cnts, Trm.varss]
        exact Sp.seq (hy x (by simp) _ _ _ _) (Trm.cnts_pos l) fun b hb => ihl (fun y hh => hy y (by simp [hh])) _ _ _ _ hb
    have keyI : t.op ≠ 7 → t.op ≠ 9 → ∀ l : List Trm, (∀ y ∈ l, ∀ (scope : List Int) (deep size : Int) (bound : List Int), Sp (y.ckP level consts codes free scope deep size bound) (y.okT level consts codes free scope deep) y.cnt y.vars size bound) →
        ∀ (deep size : Int) (bound : List Int), size ≤ 20000 → Sp (Trm.cksI level consts codes free scope t.v l deep size bound) (Trm.okTs level consts codes free t.op scope (scope ++ t.v) l deep) (Trm.cnts l) (t.v ++ Trm.varss l) size bound := by
      intro h7 h9 l
      induction l with
      | nil => intro _ deep size bound h; rw [Trm.cksI, Trm.okTs, Trm.cnts, Trm.varss]; exact Sp.bind fun _ => Sp.nil h
      | cons x l ihl =>
        intro hy deep size bound h
        rw [Trm.cksI, Trm.okTs, Trm.cnts, Trm.varss]
        cases l with
        | nil =>
          rw [if_pos (show ([] : List Trm).isEmpty = true from rfl), if_pos (show ([] : List Trm) = [] ∨ t.op = 7 ∨ t.op = 9 from .inl rfl), Trm.cnts, Trm.varss, List.append_nil, Int.add_zero]
          exact (Sp.bind fun _ => hy x (by simp) _ _ _ _).iff (by simp [h9, Trm.okTs])
        | cons y l =>
          rw [if_neg (show ¬((y :: l).isEmpty = true) by simp), if_neg (show ¬((y :: l) = [] ∨ t.op = 7 ∨ t.op = 9) by simp [h7, h9])]
          refine ((Sp.seq (hy x (by simp) _ _ _ _) (Trm.cnts_pos (y :: l)) fun b hb => ihl (fun y hh => hy y (by simp [hh])) _ _ _ hb).iff (by simp [h9])).perm ?_
          rw [← List.append_assoc, ← List.append_assoc]
          exact List.perm_append_comm.append_right _
    rw [Trm.ckP_eq, Trm.cnt_eq, Trm.vars_eq, Trm.okT_eq]
    have hsh := shape_eq level h0 h3 t
    have hloc : (deep ≤ 400 ∧ sortsL t.op level = true ∧ countsL t = true ∧ numberL consts codes free t scope = true) ↔ (deep ≤ 400 ∧ ((shapeL t.op).2 = true ∧ (shapeL t.op).1.fm ≤ level ∧ level ≤ (shapeL t.op).1.to ∧ fitsL (shapeL t.op).1 t = true) ∧ numberP consts codes free t scope = true) := by
      rw [hsh, numberP_eq, and_assoc]
    have hb : ∀ r : Option (Int × List Int), (if badP level consts codes free t scope deep (size + 1) = true then none else r) =
        (if ¬(deep ≤ 400 ∧ sortsL t.op level = true ∧ countsL t = true ∧ numberL consts codes free t scope = true) then none else if size + 1 > 20000 then none else r) := by
      intro r
      by_cases a : deep ≤ 400 ∧ sortsL t.op level = true ∧ countsL t = true ∧ numberL consts codes free t scope = true
      · rw [if_neg (c := ¬ _) (by simpa using a)]
        have a' := hloc.1 a
        by_cases b : size + 1 > 20000
        · rw [if_pos b, if_pos (by simp [badP, b])]
        · rw [if_neg b, if_neg (by simp [badP, a']; omega)]
      · rw [if_pos (c := ¬ _) a, if_pos]
        simp only [badP, Bool.or_eq_true, decide_eq_true_eq, Bool.not_eq_true']
        apply Classical.byContradiction
        intro h
        apply a
        rw [hloc]
        simp only [not_or, Bool.not_eq_false] at h
        exact ⟨by omega, ⟨h.1.1.1.1.1.1, by omega, by omega, h.1.2⟩, h.2⟩
    rw [hb]
    by_cases hg : groupB t.op = true
    · have hop : t.op = 7 ∨ t.op = 9 := by simpa [groupB] using hg
      rw [if_pos hg]
      refine (Sp.test fun _ => Sp.tick (Trm.cnts_pos _) fun hs => Sp.test fun _ => Sp.bind fun _ => keyG t.t ih _ _ _ _ hs).iff ?_
      rw [Classical.not_not, Trm.okTs_G hop]
    · have hop : t.op ≠ 7 ∧ t.op ≠ 9 := by simpa [groupB] using hg
      rw [if_neg hg]
      refine (Sp.test fun _ => Sp.tick (Trm.cnts_pos _) fun hs => keyI hop.1 hop.2 t.t ih _ _ _ hs).iff ?_
      rw [Classical.not_not]
theorem ck_eq (level consts codes : Int) (free : Bool) (h0 : 0 ≤ level) (h3 : level ≤ 3) (t : Trm) (scope : List Int) (deep size : Int) (bound : List Int) :
    (t.ckP level consts codes free scope deep size bound).isSome = (t.ckD level consts codes free scope deep size bound).isSome := by
  rw [Bool.eq_iff_iff, (t.ckP_sp level consts codes free h0 h3 scope deep size bound).some_iff, (t.ckD_sp level consts codes free scope deep size bound).some_iff]
end Go.Cb
namespace Go.Cb
open Go.Proofs
set_option maxRecDepth 100000
set_option maxHeartbeats 4000000
theorem digN_all {a : List UInt8} (r : List UInt8) (h : a.all isDig = true) : digN (a ++ r) = a.length + digN r := by
  induction a with
  | nil => simp
  | cons c a ih =>
    simp only [List.all_cons, Bool.and_eq_true] at h
    rw [List.cons_append, digN, if_pos h.1, ih h.2, List.length_cons]; omega
theorem digN_not {a : List UInt8} (r : List UInt8) (h : a.all isDig = false) : ∃ c, a[digN (a ++ r)]? = some c ∧ isDig c = false ∧ digN (a ++ r) < a.length := by
  induction a with
  | nil => simp at h
  | cons c a ih =>
    rw [List.cons_append, digN]
    by_cases hc : isDig c = true
    · rw [List.all_cons, hc, Bool.true_and] at h
      obtain ⟨x, h1, h2, h3⟩ := ih h
      rw [if_pos hc]
      exact ⟨x, by simpa using h1, h2, by simp; exact h3⟩
    · rw [if_neg hc]
      exact ⟨c, by simp, by simpa using hc, by simp⟩
theorem natB_part (a : List UInt8) : natB a = true ↔ ((partN a).2 ≠ 0 ∧ (partN a).2 = a.length) := by
  unfold natB partN
  cases h : a.all isDig
  · obtain ⟨c, h1, h2, h3⟩ := digN_not [] h
    rw [List.append_nil] at h3
    simp only [Bool.and_false, Bool.false_eq_true, false_iff]
    split
    · simp
    · rintro ⟨_, h⟩; simp only at h; omega
  · have hd := digN_all [] h
    rw [List.append_nil] at hd
    simp only [digN] at hd
    simp only [Bool.and_true, Bool.and_eq_true, decide_eq_true_eq]
    split
    · simp; omega
    · simp; omega
theorem natV_part {a : List UInt8} (h : natB a = true) : natV a = (partN a).1 := by
  have h2 := (natB_part a).1 h
  unfold natV
  rw [if_pos h]
  unfold partN at h2 ⊢
  split at h2
  · simp at h2
  · rename_i hd
    rw [if_neg hd]
    simp only at h2
    rw [h2.2, List.take_length]
theorem cut_cases (u : List UInt8) : (Go.Lib.indexByte u 47 < 0 ∧ cutA u 47 = u ∧ (47 : UInt8) ∉ u) ∨ (∃ a b, u = a ++ 47 :: b ∧ 0 ≤ Go.Lib.indexByte u 47 ∧ cutA u 47 = a ∧ cutB u 47 = b ∧ (47 : UInt8) ∉ a) := by
  induction u with
  | nil => left; simp [Go.Lib.indexByte, cutA]
  | cons c u ih =>
    by_cases h : c = 47
    · subst h
      right
      have e : Go.Lib.indexByte (47 :: u) 47 = 0 := by simp [Go.Lib.indexByte]
      exact ⟨[], u, rfl, by omega, by simp [cutA, e], by simp [cutB, e], by simp⟩
    · have h1 : (c == 47) = false := by simp [h]
      rcases ih with ⟨h2, h3, h4⟩ | ⟨a, b, rfl, h2, h3, h4, h5⟩
      · have e : Go.Lib.indexByte (c :: u) 47 = -1 := by have := Go.Lib.indexByte_ge u 47; rw [Go.Lib.indexByte, h1]; simp; omega
        exact .inl ⟨by omega, by simp [cutA, e], by simp; exact ⟨fun e => h e.symm, h4⟩⟩
      · have e : Go.Lib.indexByte (c :: (a ++ 47 :: b)) 47 = Go.Lib.indexByte (a ++ 47 :: b) 47 + 1 := by rw [Go.Lib.indexByte, h1]; simp; omega
        refine .inr ⟨c :: a, b, rfl, by omega, ?_, ?_, by simp; exact ⟨fun e => h e.symm, h5⟩⟩
        · unfold cutA at h3 ⊢
          rw [if_pos h2] at h3
          rw [if_pos (by omega), e, show (Go.Lib.indexByte (a ++ 47 :: b) 47 + 1).toNat = (Go.Lib.indexByte (a ++ 47 :: b) 47).toNat + 1 by omega, List.take_succ_cons, h3]
        · unfold cutB at h4 ⊢
          rw [if_pos h2] at h4
          rw [if_pos (by omega), e, show (Go.Lib.indexByte (a ++ 47 :: b) 47 + 1).toNat = (Go.Lib.indexByte (a ++ 47 :: b) 47).toNat + 1 by omega, List.drop_succ_cons, h4]
theorem isDig47 : isDig 47 = false := by decide
theorem parse_eq (s : List UInt8) : parseP s = parseN s := by
  have hu : (if negB s = true then s.drop 1 else s) = unneg s := rfl
  unfold parseP
  simp only [hu]
  rw [parseN_eq]
  generalize unneg s = u
  rcases cut_cases u with ⟨hi, ha, hn⟩ | ⟨a, b, rfl, hi, ha, hb, hn⟩
  · rw [ha, if_neg (show ¬(0 ≤ Go.Lib.indexByte u 47) by omega)]
    have h49 : natB [49] = true := by decide
    have h49v : natV [49] = 1 := by decide
    rw [h49, h49v, Bool.and_true]
    cases hall : u.all isDig
    · obtain ⟨c, h1, h2, h3⟩ := digN_not [] hall
      rw [List.append_nil] at h1 h3
      have hnb : natB u = false := by unfold natB; rw [hall]; simp
      rw [hnb]
      simp only [Bool.false_eq_true, if_false]
      unfold partN
      split
      · rfl
      · rename_i h10
        simp only
        split
        · rfl
        · have : lowerN u (digN u) = none := by
            unfold lowerN
            rw [if_pos h3, if_neg]
            rintro ⟨h, _⟩
            rw [h1] at h
            cases h
            exact hn (List.mem_of_getElem? h1)
          rw [this]
    · have hd := digN_all [] hall
      rw [List.append_nil] at hd
      simp only [digN, Nat.add_zero] at hd
      by_cases hnb : natB u = true
      · have hp := (natB_part u).1 hnb
        rw [hnb, if_pos rfl, if_neg hp.1, natV_part hnb]
        have : lowerN u (partN u).2 = some 1 := by unfold lowerN; rw [if_neg (by omega)]
        rw [this]
      · have : (partN u).2 = 0 := by
          have := mt (natB_part u).2 hnb
          unfold partN at this ⊢
          split at this
          · rename_i h; rw [if_pos h]
          · rename_i h; rw [if_neg h]; simp only at this ⊢; omega
        rw [if_neg hnb, if_pos this]
  · rw [ha, hb, if_pos hi]
    have h47 : digN (47 :: b) = 0 := by rw [digN, isDig47]; rfl
    cases hall : a.all isDig
    · obtain ⟨c, h1, h2, h3⟩ := digN_not (47 :: b) hall
      have hnb : natB a = false := by unfold natB; rw [hall]; simp
      rw [hnb]
      simp only [Bool.false_and, Bool.false_eq_true, if_false]
      unfold partN
      split
      · rfl
      · simp only
        split
        · rfl
        · have : lowerN (a ++ 47 :: b) (digN (a ++ 47 :: b)) = none := by
            unfold lowerN
            rw [if_pos (by simp; omega), if_neg]
            rintro ⟨h, _⟩
            rw [List.getElem?_append_left h3, h1] at h
            cases h
            exact hn (List.mem_of_getElem? h1)
          rw [this]
    · have hd := digN_all (47 :: b) hall
      rw [h47, Nat.add_zero] at hd
      by_cases hnb : natB a = true
      · have hp := (natB_part a).1 hnb
        have hl : 1 ≤ a.length ∧ a.length ≤ 10 := by
          unfold natB at hnb; simp only [Bool.and_eq_true, decide_eq_true_eq] at hnb; exact ⟨hnb.1, hnb.2.1⟩
        have hpu : partN (a ++ 47 :: b) = (natV a, a.length) := by
          unfold partN natV
          rw [hd, if_neg (by omega), if_pos hnb, List.take_left]
        rw [hpu]
        simp only
        rw [if_neg (show ¬(a.length = 0) by omega), hnb, Bool.true_and]
        have hlo : lowerN (a ++ 47 :: b) a.length = if natB b = true then some (natV b) else none := by
          unfold lowerN
          rw [if_pos (by simp)]
          have e1 : (a ++ 47 :: b)[a.length]? = some 47 := by simp
          have e2 : (a ++ 47 :: b).drop (a.length + 1) = b := by rw [List.drop_append]; simp
          rw [e1, e2]
          by_cases hb' : natB b = true
          · have := (natB_part b).1 hb'
            rw [if_pos hb', natV_part hb', if_pos ⟨rfl, this.1, by simp; omega⟩]
          · rw [if_neg hb', if_neg]
            rintro ⟨_, g1, g2⟩
            exact hb' ((natB_part b).2 ⟨g1, by simp at g2; omega⟩)
        rw [hlo]
        by_cases hb' : natB b = true
        · rw [if_pos hb', if_pos hb']
        · rw [if_neg hb', if_neg hb']
      · have : (partN (a ++ 47 :: b)).2 = 0 := by
          unfold partN
          rw [hd]
          split
          · rfl
          · simp only
            unfold natB at hnb
            rw [hall] at hnb
            simp only [Bool.and_true, Bool.and_eq_true, decide_eq_true_eq] at hnb
            omega
        rw [if_pos this, show natB a = false by simpa using hnb]
        rfl
theorem marks_eq : marksPL.contains = markB := by
  funext c
  simp only [markB, baseB, marksL, marksPL, List.contains_cons, List.contains_nil, Bool.or_false]
  rw [Bool.eq_iff_iff]
  simp only [Bool.or_eq_true, beq_iff_eq, Bool.and_eq_true, decide_eq_true_eq, ← UInt8.toNat_inj]
  simp
  omega
theorem name_eq (s : List UInt8) : namePB s = nameB s := by
  unfold namePB nameB
  rw [parse_eq, marks_eq]
  have ht : ((trimR markB s).dropWhile markB == []) = s.all markB := by
    rw [Bool.eq_iff_iff, beq_iff_eq, trim_nil]
  rw [ht]
  by_cases hs : s = []
  · subst hs; simp
  · have hl := List.length_pos_iff.2 hs
    cases s.all markB <;> cases (parseN s).2.2 <;> rw [Bool.eq_iff_iff] <;> simp [hs] <;> omega
theorem name_str {s : List UInt8} (h : nameB s = true) : s.any strB = false := by
  simp only [nameB, Bool.and_eq_true] at h
  rw [List.any_eq_false]
  intro c hc
  have hm := List.all_eq_true.1 h.2.2.1 c hc
  rw [← marks_eq] at hm
  simp only [marksPL, List.contains_cons, List.contains_nil, Bool.or_false, Bool.or_eq_true, beq_iff_eq, ← UInt8.toNat_inj] at hm
  simp only [strB, Bool.or_eq_true, decide_eq_true_eq]
  simp at hm ⊢
  omega
theorem bare_eq (d : Datum) (deep : Int) : bareBadP d deep = bareBad d deep := by
  obtain ⟨k, n, e, s, l⟩ := d
  have hn := name_eq s
  have hs := @name_str s
  have hz : s = [] → s.any strB = false := fun h => by rw [h]; rfl
  unfold bareBadP bareBad
  simp only [Datum.kind, Datum.n, Datum.d, Datum.s, Datum.l, bareL]
  generalize s.any strB = B at *
  have hc : k < 0 ∨ k > 7 ∨ k = 0 ∨ k = 1 ∨ k = 2 ∨ k = 3 ∨ k = 4 ∨ k = 5 ∨ k = 6 ∨ k = 7 := by omega
  rcases hc with h | h | h | h | h | h | h | h | h | h
  · simp [h, show ¬k = 0 by omega, show ¬k = 1 by omega, show ¬k = 2 by omega, show ¬k = 3 by omega, show ¬k = 4 by omega, show ¬k = 5 by omega, show ¬k = 6 by omega, show ¬k = 7 by omega]
  · simp [h, show ¬k = 0 by omega, show ¬k = 1 by omega, show ¬k = 2 by omega, show ¬k = 3 by omega, show ¬k = 4 by omega, show ¬k = 5 by omega, show ¬k = 6 by omega, show ¬k = 7 by omega]
  all_goals
    subst h
    rw [Bool.eq_iff_iff]
    simp
    grind
theorem right_eq (d : Datum) : ∀ deep : Int, d.rightP deep = d.rightD deep := by
  induction d using Datum.ind with
  | h d ih =>
    intro deep
    rw [Datum.rightP_eq, Datum.rightD_eq, bare_eq]
    congr 1
    have : ∀ l : List Datum, (∀ y ∈ l, ∀ deep : Int, y.rightP deep = y.rightD deep) → ∀ deep, Datum.rightPs l deep = Datum.rightDs l deep := by
      intro l
      induction l with
      | nil => intro _ deep; rw [Datum.rightPs, Datum.rightDs]
      | cons x l ihl => intro hy deep; rw [Datum.rightPs, Datum.rightDs, hy x (by simp), ihl fun y h => hy y (by simp [h])]
    exact this d.l ih _
end Go.Cb
namespace Go.Cb
open Go.Proofs
set_option maxRecDepth 100000
set_option maxHeartbeats 4000000
theorem constants1p_c (d : Datum) : ACall Tryz.prog 72 [.agg d.cells] [] (fun y Γ' => y = .bool (!d.rightP 0) ∧ Γ' = []) := by
  refine ACall.of_body tt_ok Tryz.func72 rfl rfl (n := 6) rfl rfl ?_
  conv => whnf
  repeat ((first | ((first | (apply zY;intro hg) | apply zZ);first | exact stA | ((conv=>whnf);(repeat ((first | (refine zW ?_ ?_;exact gA) | refine pC (rightP_c d) wR ?_ | refine pC (rightP_c d) cA ?_ | intro _);conv=>whnf));first | exact pS | exact pL | exact pE)) | (refine zW ?_ ?_;exact gA) | refine zH rfl ?_ | refine zA ?_ | refine zI bA ?_ | refine zI rfl ?_ | refine zJ rfl rfl ?_ | refine zB ?_ | refine zK rfl ?_ | refine zL rfl ?_ | refine zC ?_ | (refine zO ?_ ?_ ?_;omega;omega) | (refine zP ?_ ?_ ?_;omega;omega) | refine zM rfl ?_ | (refine zQ ?_ ?_ ?_;omega;omega) | (refine zR ?_ ?_;omega) | (refine zI ?_ ?_;exact nA) | (refine zS ?_ ?_ ?_;omega;omega) | (refine zT ?_ ?_ ?_;omega;omega) | (refine zU ?_ ?_ ?_;omega;omega) | (refine zV ?_ ?_ ?_;omega;omega) | refine pC (rightP_c d) wR ?_ | refine pC (rightP_c d) cA ?_ | refine zN rfl rfl rfl ?_ | refine zD ?_ | refine zE ?_ | refine zF ?_ | intro _);conv=>whnf)
  conv => whnf
  repeat' (first | ((first | ((first | (apply zY;intro hg) | apply zZ);first | exact stA | ((conv=>whnf);(repeat ((first | (refine zW ?_ ?_;exact gA) | refine pC (rightP_c d) wR ?_ | refine pC (rightP_c d) cA ?_ | intro _);conv=>whnf));first | exact pS | exact pL | exact pE)) | (refine zW ?_ ?_;exact gA) | refine zH rfl ?_ | refine zA ?_ | refine zI bA ?_ | refine zI rfl ?_ | refine zJ rfl rfl ?_ | refine zB ?_ | refine zK rfl ?_ | refine zL rfl ?_ | refine zC ?_ | (refine zO ?_ ?_ ?_;omega;omega) | (refine zP ?_ ?_ ?_;omega;omega) | refine zM rfl ?_ | (refine zQ ?_ ?_ ?_;omega;omega) | (refine zR ?_ ?_;omega) | (refine zI ?_ ?_;exact nA) | (refine zS ?_ ?_ ?_;omega;omega) | (refine zT ?_ ?_ ?_;omega;omega) | (refine zU ?_ ?_ ?_;omega;omega) | (refine zV ?_ ?_ ?_;omega;omega) | refine pC (rightP_c d) wR ?_ | refine pC (rightP_c d) cA ?_ | refine zN rfl rfl rfl ?_ | refine zD ?_ | refine zE ?_ | refine zF ?_ | intro _ | refine zG ?_);conv=>whnf) | (refine zX (fun hc => ?_) (fun hc => ?_)<;>(try simp only [SY] at hc)<;>first | omega | (conv=>whnf)))
  exact PRet.gen (Wk.refl _) ⟨rfl, rfl⟩
theorem constantsp_c (l : List Datum) : ACallP Tryz.prog 48 [.sl 5 (l.map Datum.pv) none] (.bool (l.all fun d => d.rightP 0)) := by
  refine ACall.of_body tt_ok Tryz.func48 rfl rfl (n := 6) rfl rfl ?_
  conv => whnf
  repeat ((first | ((first | (apply zY;intro hg) | apply zZ);first | exact stA | ((conv=>whnf);(repeat ((first | (refine zW ?_ ?_;exact gA) | refine pC (rightP_c d) wR ?_ | refine pC (rightP_c d) cA ?_ | intro _);conv=>whnf));first | exact pS | exact pL | exact pE)) | (refine zW ?_ ?_;exact gA) | refine zH rfl ?_ | refine zA ?_ | refine zI bA ?_ | refine zI rfl ?_ | refine zJ rfl rfl ?_ | refine zB ?_ | refine zK rfl ?_ | refine zL rfl ?_ | refine zC ?_ | (refine zO ?_ ?_ ?_;omega;omega) | (refine zP ?_ ?_ ?_;omega;omega) | refine zM rfl ?_ | (refine zQ ?_ ?_ ?_;omega;omega) | (refine zR ?_ ?_;omega) | (refine zI ?_ ?_;exact nA) | (refine zS ?_ ?_ ?_;omega;omega) | (refine zT ?_ ?_ ?_;omega;omega) | (refine zU ?_ ?_ ?_;omega;omega) | (refine zV ?_ ?_ ?_;omega;omega) | refine pC (rightP_c d) wR ?_ | refine pC (rightP_c d) cA ?_ | refine zN rfl rfl rfl ?_ | refine zD ?_ | refine zE ?_ | refine zF ?_ | intro _);conv=>whnf)
  conv => whnf
  repeat' (first | ((first | ((first | (apply zY;intro hg) | apply zZ);first | exact stA | ((conv=>whnf);(repeat ((first | (refine zW ?_ ?_;exact gA) | refine pC (rightP_c d) wR ?_ | refine pC (rightP_c d) cA ?_ | intro _);conv=>whnf));first | exact pS | exact pL | exact pE)) | (refine zW ?_ ?_;exact gA) | refine zH rfl ?_ | refine zA ?_ | refine zI bA ?_ | refine zI rfl ?_ | refine zJ rfl rfl ?_ | refine zB ?_ | refine zK rfl ?_ | refine zL rfl ?_ | refine zC ?_ | (refine zO ?_ ?_ ?_;omega;omega) | (refine zP ?_ ?_ ?_;omega;omega) | refine zM rfl ?_ | (refine zQ ?_ ?_ ?_;omega;omega) | (refine zR ?_ ?_;omega) | (refine zI ?_ ?_;exact nA) | (refine zS ?_ ?_ ?_;omega;omega) | (refine zT ?_ ?_ ?_;omega;omega) | (refine zU ?_ ?_ ?_;omega;omega) | (refine zV ?_ ?_ ?_;omega;omega) | refine pC (rightP_c d) wR ?_ | refine pC (rightP_c d) cA ?_ | refine zN rfl rfl rfl ?_ | refine zD ?_ | refine zE ?_ | refine zF ?_ | intro _ | refine zG ?_);conv=>whnf) | (refine zX (fun hc => ?_) (fun hc => ?_)<;>(try simp only [SY] at hc)<;>first | omega | (conv=>whnf)))
  refine PCall.go (containsFuncDat_c 72 [] [] (fun d => !d.rightP 0) l (fun d _ => constants1p_c d)) (WkT.refl _) ?_
  rintro _ _ ⟨rfl, rfl⟩
  conv => whnf
  repeat' (first | ((first | ((first | (apply zY;intro hg) | apply zZ);first | exact stA | ((conv=>whnf);(repeat ((first | (refine zW ?_ ?_;exact gA) | refine pC (rightP_c d) wR ?_ | refine pC (rightP_c d) cA ?_ | intro _);conv=>whnf));first | exact pS | exact pL | exact pE)) | (refine zW ?_ ?_;exact gA) | refine zH rfl ?_ | refine zA ?_ | refine zI bA ?_ | refine zI rfl ?_ | refine zJ rfl rfl ?_ | refine zB ?_ | refine zK rfl ?_ | refine zL rfl ?_ | refine zC ?_ | (refine zO ?_ ?_ ?_;omega;omega) | (refine zP ?_ ?_ ?_;omega;omega) | refine zM rfl ?_ | (refine zQ ?_ ?_ ?_;omega;omega) | (refine zR ?_ ?_;omega) | (refine zI ?_ ?_;exact nA) | (refine zS ?_ ?_ ?_;omega;omega) | (refine zT ?_ ?_ ?_;omega;omega) | (refine zU ?_ ?_ ?_;omega;omega) | (refine zV ?_ ?_ ?_;omega;omega) | refine pC (rightP_c d) wR ?_ | refine pC (rightP_c d) cA ?_ | refine zN rfl rfl rfl ?_ | refine zD ?_ | refine zE ?_ | refine zF ?_ | intro _ | refine zG ?_);conv=>whnf) | (refine zX (fun hc => ?_) (fun hc => ?_)<;>(try simp only [SY] at hc)<;>first | omega | (conv=>whnf)))
  exact PRet.pure (Wk.bool (by rw [List.not_any_eq_all_not]; simp))
theorem setM_nil : (fun (_ : Value) => (none : Option PV)) = setM [] := by
  funext v; unfold setM; split <;> simp
def checkP (p : Prog) (level : Int) : Int :=
  if (decide (level < 0) || decide (level ≥ 3)) = true then 1 else
  if (p.consts.all (fun d => d.rightP 0) && (p.body.ckP level p.consts.length 0 false [] 0 0 []).isSome) = true then 0 else 5
theorem checkp_c (p : Prog) (level : Int) (hb : p.body.bulk ≤ 1000000000) (hl : p.consts.length ≤ 1000000000) : ACallP Tryz.prog 18 [.agg p.cells, .int .i64 level] (.int .i64 (checkP p level)) := by
  have hs : checkP p level = checkP p level := rfl
  conv at hs => rhs; unfold checkP
  refine ACall.of_body tt_ok Tryz.func18 rfl rfl (n := 31) rfl rfl ?_
  conv => whnf
  repeat ((first | ((first | (apply zY;intro hg) | apply zZ);first | exact stA | ((conv=>whnf);(repeat ((first | (refine zW ?_ ?_;exact gA) | refine pC (constantsp_c _) wR ?_ | refine pC (constantsp_c _) cA ?_ | intro _);conv=>whnf));first | exact pS | exact pL | exact pE)) | (refine zW ?_ ?_;exact gA) | refine zH rfl ?_ | refine zA ?_ | refine zI bA ?_ | refine zI rfl ?_ | refine zJ rfl rfl ?_ | refine zB ?_ | refine zK rfl ?_ | refine zL rfl ?_ | refine zC ?_ | (refine zO ?_ ?_ ?_;omega;omega) | (refine zP ?_ ?_ ?_;omega;omega) | refine zM rfl ?_ | (refine zQ ?_ ?_ ?_;omega;omega) | (refine zR ?_ ?_;omega) | (refine zI ?_ ?_;exact nA) | (refine zS ?_ ?_ ?_;omega;omega) | (refine zT ?_ ?_ ?_;omega;omega) | (refine zU ?_ ?_ ?_;omega;omega) | (refine zV ?_ ?_ ?_;omega;omega) | refine pC (constantsp_c _) wR ?_ | refine pC (constantsp_c _) cA ?_ | refine zN rfl rfl rfl ?_ | refine zD ?_ | refine zE ?_ | refine zF ?_ | intro _);conv=>whnf)
  conv => whnf
  repeat' (first | ((first | ((first | (apply zY;intro hg) | apply zZ);first | exact stA | ((conv=>whnf);(repeat ((first | (refine zW ?_ ?_;exact gA) | refine pC (constantsp_c _) wR ?_ | refine pC (constantsp_c _) cA ?_ | intro _);conv=>whnf));first | exact pS | exact pL | exact pE)) | (refine zW ?_ ?_;exact gA) | refine zH rfl ?_ | refine zA ?_ | refine zI bA ?_ | refine zI rfl ?_ | refine zJ rfl rfl ?_ | refine zB ?_ | refine zK rfl ?_ | refine zL rfl ?_ | refine zC ?_ | (refine zO ?_ ?_ ?_;omega;omega) | (refine zP ?_ ?_ ?_;omega;omega) | refine zM rfl ?_ | (refine zQ ?_ ?_ ?_;omega;omega) | (refine zR ?_ ?_;omega) | (refine zI ?_ ?_;exact nA) | (refine zS ?_ ?_ ?_;omega;omega) | (refine zT ?_ ?_ ?_;omega;omega) | (refine zU ?_ ?_ ?_;omega;omega) | (refine zV ?_ ?_ ?_;omega;omega) | refine pC (constantsp_c _) wR ?_ | refine pC (constantsp_c _) cA ?_ | refine zN rfl rfl rfl ?_ | refine zD ?_ | refine zE ?_ | refine zF ?_ | intro _ | refine zG ?_);conv=>whnf) | (refine zX (fun hc => ?_) (fun hc => ?_)<;>(try simp only [SY] at hc)<;>first | omega | (conv=>whnf)))
  · rw [hs, if_pos (by simp only [SS]; exact hc)]
    exact PRet.pure (Wk.refl _)
  · refine PGuard.ways (fun hg => ?_) (fun hg => ?_)
    · conv => whnf
      conv => whnf
      repeat ((first | ((first | (apply zY;intro hg) | apply zZ);first | exact stA | ((conv=>whnf);(repeat ((first | (refine zW ?_ ?_;exact gA) | refine pC (constantsp_c _) wR ?_ | refine pC (constantsp_c _) cA ?_ | intro _);conv=>whnf));first | exact pS | exact pL | exact pE)) | (refine zW ?_ ?_;exact gA) | refine zH rfl ?_ | refine zA ?_ | refine zI bA ?_ | refine zI rfl ?_ | refine zJ rfl rfl ?_ | refine zB ?_ | refine zK rfl ?_ | refine zL rfl ?_ | refine zC ?_ | (refine zO ?_ ?_ ?_;omega;omega) | (refine zP ?_ ?_ ?_;omega;omega) | refine zM rfl ?_ | (refine zQ ?_ ?_ ?_;omega;omega) | (refine zR ?_ ?_;omega) | (refine zI ?_ ?_;exact nA) | (refine zS ?_ ?_ ?_;omega;omega) | (refine zT ?_ ?_ ?_;omega;omega) | (refine zU ?_ ?_ ?_;omega;omega) | (refine zV ?_ ?_ ?_;omega;omega) | refine pC (constantsp_c _) wR ?_ | refine pC (constantsp_c _) cA ?_ | refine zN rfl rfl rfl ?_ | refine zD ?_ | refine zE ?_ | refine zF ?_ | intro _);conv=>whnf)
      rename_i b1 r1 b2 r2
      have hall : (p.consts.all fun d => d.rightP 0) = true := by simpa using hg
      have hcall := rightp_c b2 r1 r2 level p.consts.length 0 false p.body [] 0 0 [] [] [] (by omega) (by omega) (by omega) (by omega) (by simp) hb
      rw [← setM_nil] at hcall
      refine PCall.goG (Ghost.box (b := b2) (cs := [.int .i64 level, .int .i64 p.consts.length, .int .i64 0, .bfalse, .int .i64 0, .mp r1]) (cs' := cpC level p.consts.length 0 0 false r1) wA) hcall (WkT.refl _) ?_
      rintro _ _ ⟨rfl, sz, mb, ms, pb, ps, rfl, hs2⟩
      conv => whnf
      repeat' (first | ((first | ((first | (apply zY;intro hg) | apply zZ);first | exact stA | ((conv=>whnf);(repeat ((first | (refine zW ?_ ?_;exact gA) | refine pC (constantsp_c _) wR ?_ | refine pC (constantsp_c _) cA ?_ | intro _);conv=>whnf));first | exact pS | exact pL | exact pE)) | (refine zW ?_ ?_;exact gA) | refine zH rfl ?_ | refine zA ?_ | refine zI bA ?_ | refine zI rfl ?_ | refine zJ rfl rfl ?_ | refine zB ?_ | refine zK rfl ?_ | refine zL rfl ?_ | refine zC ?_ | (refine zO ?_ ?_ ?_;omega;omega) | (refine zP ?_ ?_ ?_;omega;omega) | refine zM rfl ?_ | (refine zQ ?_ ?_ ?_;omega;omega) | (refine zR ?_ ?_;omega) | (refine zI ?_ ?_;exact nA) | (refine zS ?_ ?_ ?_;omega;omega) | (refine zT ?_ ?_ ?_;omega;omega) | (refine zU ?_ ?_ ?_;omega;omega) | (refine zV ?_ ?_ ?_;omega;omega) | refine pC (constantsp_c _) wR ?_ | refine pC (constantsp_c _) cA ?_ | refine zN rfl rfl rfl ?_ | refine zD ?_ | refine zE ?_ | refine zF ?_ | intro _ | refine zG ?_);conv=>whnf) | (refine zX (fun hc => ?_) (fun hc => ?_)<;>(try simp only [SY] at hc)<;>first | omega | (conv=>whnf)))
      · rw [hs, if_neg (by simp only [SS]; omega), if_neg (by rw [hc, hall]; simp)]
        exact PRet.pure (Wk.refl _)
      · rw [hs, if_neg (by simp only [SS]; omega), if_pos (by rw [hc, hall]; rfl)]
        exact PRet.pure (Wk.refl _)
    · conv => whnf
      rw [hs, if_neg (by simp only [SS]; omega), if_neg (by simp only [Bool.not_not] at hg; rw [hg]; simp)]
      exact PRet.pure (Wk.refl _)
end Go.Cb
namespace Go.Cb
open Go.Proofs
set_option maxRecDepth 100000
set_option maxHeartbeats 4000000
theorem check_eq (p : Prog) (level : Int) : checkP p level = checkD p level := by
  unfold checkP checkD
  have hr : (fun d : Datum => d.rightP 0) = fun d => d.rightD 0 := by funext d; exact right_eq d 0
  by_cases h : (decide (level < 0) || decide (level > 2)) = true
  · rw [if_pos h, if_pos (by simp at h ⊢; omega)]
  · rw [if_neg h, if_neg (by simp at h ⊢; omega), hr, ck_eq _ _ _ _ (by simp at h; omega) (by simp at h; omega)]
end Go.Cb
namespace Go.Cb
open Go.Proofs
set_option maxRecDepth 100000
set_option maxHeartbeats 4000000
def RightP (p : Prog) (level : Int) : Prop :=
  (0 ≤ level ∧ level ≤ 2) ∧ (∀ d ∈ p.consts, d.rightD 0 = true) ∧ p.body.okT level p.consts.length 0 false [] 0 ∧ p.body.cnt ≤ 20000 ∧ Dist p.body.vars []
theorem checkD_right (p : Prog) (level : Int) : checkD p level = 0 ↔ RightP p level := by
  unfold checkD RightP
  have h := (p.body.ckD_sp level p.consts.length 0 false [] 0 0 []).some_iff
  by_cases hl : (decide (level < 0) || decide (level > 2)) = true
  · rw [if_pos hl]
    simp at hl
    constructor
    · intro h; cases h
    · rintro ⟨h, _⟩; omega
  · rw [if_neg hl]
    simp at hl
    split
    · rename_i hr
      simp only [Bool.and_eq_true, List.all_eq_true, h] at hr
      exact ⟨fun _ => ⟨by omega, hr.1, hr.2.1, by omega, hr.2.2.2⟩, fun _ => rfl⟩
    · rename_i hr
      simp only [Bool.and_eq_true, List.all_eq_true, h] at hr
      exact ⟨fun h => (by cases h), fun ⟨_, h1, h2, h3, h4⟩ => absurd ⟨h1, h2, by omega, h4⟩ hr⟩
mutual
def Trm.gre : Trm → Int
  | .mk op n _ t => Trm.gres t (if op = 0 then n else -1)
def Trm.gres : List Trm → Int → Int
  | [], m => m
  | x :: xs, m => Trm.gres xs (max m (Trm.gre x))
end
theorem Trm.gre_eq (t : Trm) : t.gre = Trm.gres t.t (if t.op = 0 then t.n else -1) := by cases t; rw [Trm.gre]; rfl
theorem Trm.gres_lt (c : Int) : ∀ (l : List Trm) (m : Int), Trm.gres l m < c ↔ m < c ∧ ∀ x ∈ l, x.gre < c
  | [], m => by simp [Trm.gres]
  | x :: l, m => by
    rw [Trm.gres, Trm.gres_lt c l]
    simp only [List.forall_mem_cons]
    constructor
    · rintro ⟨h1, h2⟩; exact ⟨by omega, by omega, h2⟩
    · rintro ⟨h1, h2, h3⟩; exact ⟨by omega, h3⟩
theorem numberL_other (c1 c2 codes : Int) (free : Bool) (t : Trm) (scope : List Int) (h : t.op ≠ 0) : numberL c1 codes free t scope = numberL c2 codes free t scope := by
  unfold numberL
  rw [if_neg h, if_neg h]
theorem Trm.okT_consts (level codes : Int) (free : Bool) (c1 c2 : Int) (h2 : 0 ≤ c2) (t : Trm) : ∀ (scope : List Int) (deep : Int), t.okT level c1 codes free scope deep → (t.okT level c2 codes free scope deep ↔ t.gre < c2) := by
  induction t using Trm.ind with
  | h t ih =>
    intro scope deep h
    have key : ∀ (op : Int) (sc inner : List Int) (deep : Int) (l : List Trm), (∀ y ∈ l, ∀ (scope : List Int) (deep : Int), y.okT level c1 codes free scope deep → (y.okT level c2 codes free scope deep ↔ y.gre < c2)) →
        Trm.okTs level c1 codes free op sc inner l deep → (Trm.okTs level c2 codes free op sc inner l deep ↔ ∀ x ∈ l, x.gre < c2) := by
      intro op sc inner deep l
      induction l with
      | nil => intro _ _; simp [Trm.okTs]
      | cons x l ihl =>
        intro hy hk
        rw [Trm.okTs] at hk
        rw [Trm.okTs, List.forall_mem_cons, hy x (by simp) _ _ hk.2.1, ihl (fun y hh => hy y (by simp [hh])) hk.2.2]
        simp only [hk.1, not_false_eq_true, true_and]
    rw [Trm.okT_eq] at h
    rw [Trm.okT_eq, Trm.gre_eq, Trm.gres_lt, key _ _ _ _ _ ih h.2]
    obtain ⟨⟨g1, g2, g3, g4⟩, _⟩ := h
    have hn : numberL c2 codes free t scope = true ↔ (if t.op = 0 then t.n else -1) < c2 := by
      by_cases h0 : t.op = 0
      · rw [if_pos h0]
        unfold numberL at g4 ⊢
        rw [if_pos h0] at g4 ⊢
        simp at g4 ⊢
        omega
      · rw [if_neg h0, numberL_other c2 c1 codes free t scope h0]
        simp only [g4, true_iff]
        omega
    rw [hn]
    simp only [g1, g2, g3, true_and]
theorem RightP.consts {p : Prog} {level : Int} (h : RightP p level) (cs : List Datum) (hc : ∀ d ∈ cs, d.rightD 0 = true) : RightP ⟨cs, p.body⟩ level ↔ p.body.gre < cs.length := by
  obtain ⟨h1, h2, h3, h4, h5⟩ := h
  unfold RightP
  simp only [h1, true_and, h4, h5, and_true]
  rw [Trm.okT_consts level 0 false p.consts.length cs.length (by omega) p.body [] 0 h3]
  simp [h1.1, h1.2]
  exact fun _ => hc
theorem RightP.gre {p : Prog} {level : Int} (h : RightP p level) : p.body.gre < p.consts.length := (h.consts p.consts h.2.1).1 h
end Go.Cb
namespace Go.Cb
open Go.Proofs
set_option maxRecDepth 100000
set_option maxHeartbeats 4000000
mutual
def Trm.met : Trm → List Int → Int → List (Trm × List Int)
  | .mk op n v t, sc, deep => (.mk op n v t, sc) :: if deep ≥ 1000 then [] else Trm.mets op sc (sc ++ v) t (deep + 1)
def Trm.mets (op : Int) (sc inner : List Int) : List Trm → Int → List (Trm × List Int)
  | [], _ => []
  | x :: xs, deep => Trm.met x (if groupB op = true ∨ xs = [] then inner else sc) deep ++ Trm.mets op sc inner xs deep
end
theorem Trm.met_eq (t : Trm) (sc : List Int) (deep : Int) : t.met sc deep = (t, sc) :: if deep ≥ 1000 then [] else Trm.mets t.op sc (sc ++ t.v) t.t (deep + 1) := by
  cases t; rw [Trm.met]; rfl
abbrev metP (x : Trm × List Int) : PV := .agg [.int .i64 x.1.op, .int .i64 x.1.n, .sl 1 (x.1.v.map (PV.int .i64)) none, .sl 4 (x.1.t.map Trm.pv) none, slI x.2]
def From (xs : List (List PV)) (i : Nat) (l : List (Trm × List Int)) : Prop := ∀ j (h : j < l.length), xs[i + j]? = some [metP l[j]]
theorem From.left {xs : List (List PV)} {i : Nat} {l m : List (Trm × List Int)} (h : From xs i (l ++ m)) : From xs i l := fun j hj => by
  have := h j (by rw [List.length_append]; omega)
  rwa [List.getElem_append_left hj] at this
theorem From.right {xs : List (List PV)} {i : Nat} {l m : List (Trm × List Int)} (h : From xs i (l ++ m)) : From xs (i + l.length) m := fun j hj => by
  have := h (l.length + j) (by rw [List.length_append]; omega)
  rw [List.getElem_append_right (by omega)] at this
  simpa [Nat.add_assoc] using this
theorem From.head {xs : List (List PV)} {i : Nat} {x : Trm × List Int} {m : List (Trm × List Int)} (h : From xs i (x :: m)) : From xs (i + 1) m := From.right (l := [x]) h
theorem walk_c (l yb wb : Nat) (xs : List (List PV)) (J : Nat → List Ent → Prop) (X : List Ent → Prop)
    (hy : ∀ k ys Γ, xs[k]? = some ys → J k Γ → AYield Tryz.prog l ys Γ fun y Γ' => (y = .btrue ∧ J (k + 1) Γ') ∨ (y = .bfalse ∧ X Γ')) (t : Trm) :
    ∀ (sc : List Int) (deep : Int) (i : Nat) (Γ : List Ent), 0 ≤ deep → deep ≤ 1000 → sc.length + t.bulk ≤ 1000000000 → From xs i (t.met sc deep) → J i Γ →
      ACall Tryz.prog 84 [.agg t.cells, slI sc, .int .i64 deep, .ptr yb 0, .ptr wb 0] (.box yb [.fn (.yield l) []] :: .box wb [.fn (.func 84) [.ptr yb 0, .ptr wb 0]] :: Γ)
        (fun y Γ' => ∃ Γ1, Γ' = .box yb [.fn (.yield l) []] :: .box wb [.fn (.func 84) [.ptr yb 0, .ptr wb 0]] :: Γ1 ∧ ((y = .btrue ∧ J (i + (t.met sc deep).length) Γ1) ∨ (y = .bfalse ∧ X Γ1))) := by
  induction t using Trm.ind with
  | h t ih =>
    intro sc deep i Γ hd0 hd1 hsc hfr hJ
    have hbe := t.bulk_eq
    have hlv := Trm.bulks_length t.t
    rw [Trm.met_eq] at hfr ⊢
    have hsum : sumL [sc, t.v] ≤ 1000000000 := by simp [sumL]; omega
    have h0 := hfr 0 (by simp)
    refine ACall.of_body tt_ok Tryz.func84 rfl rfl (n := 54) rfl rfl ?_
    conv => whnf
    repeat ((first | ((first | (apply zY;intro hg) | apply zZ);first | exact stA | ((conv=>whnf);(repeat ((first | (refine zW ?_ ?_;exact gA) | refine pC (group_c t) wR ?_ | refine pC (group_c t) cA ?_ | intro _);conv=>whnf));first | exact pS | exact pL | exact pE)) | (refine zW ?_ ?_;exact gA) | refine zH rfl ?_ | refine zA ?_ | refine zI bA ?_ | refine zI rfl ?_ | refine zJ rfl rfl ?_ | refine zB ?_ | refine zK rfl ?_ | refine zL rfl ?_ | refine zC ?_ | (refine zO ?_ ?_ ?_;omega;omega) | (refine zP ?_ ?_ ?_;omega;omega) | refine zM rfl ?_ | (refine zQ ?_ ?_ ?_;omega;omega) | (refine zR ?_ ?_;omega) | (refine zI ?_ ?_;exact nA) | (refine zS ?_ ?_ ?_;omega;omega) | (refine zT ?_ ?_ ?_;omega;omega) | (refine zU ?_ ?_ ?_;omega;omega) | (refine zV ?_ ?_ ?_;omega;omega) | refine pC (group_c t) wR ?_ | refine pC (group_c t) cA ?_ | refine zN rfl rfl rfl ?_ | refine zD ?_ | refine zE ?_ | refine zF ?_ | intro _);conv=>whnf)
    conv => whnf
    repeat' (first | ((first | ((first | (apply zY;intro hg) | apply zZ);first | exact stA | ((conv=>whnf);(repeat ((first | (refine zW ?_ ?_;exact gA) | refine pC (group_c t) wR ?_ | refine pC (group_c t) cA ?_ | intro _);conv=>whnf));first | exact pS | exact pL | exact pE)) | (refine zW ?_ ?_;exact gA) | refine zH rfl ?_ | refine zA ?_ | refine zI bA ?_ | refine zI rfl ?_ | refine zJ rfl rfl ?_ | refine zB ?_ | refine zK rfl ?_ | refine zL rfl ?_ | refine zC ?_ | (refine zO ?_ ?_ ?_;omega;omega) | (refine zP ?_ ?_ ?_;omega;omega) | refine zM rfl ?_ | (refine zQ ?_ ?_ ?_;omega;omega) | (refine zR ?_ ?_;omega) | (refine zI ?_ ?_;exact nA) | (refine zS ?_ ?_ ?_;omega;omega) | (refine zT ?_ ?_ ?_;omega;omega) | (refine zU ?_ ?_ ?_;omega;omega) | (refine zV ?_ ?_ ?_;omega;omega) | refine pC (group_c t) wR ?_ | refine pC (group_c t) cA ?_ | refine zN rfl rfl rfl ?_ | refine zD ?_ | refine zE ?_ | refine zF ?_ | intro _ | refine zG ?_);conv=>whnf) | (refine zX (fun hc => ?_) (fun hc => ?_)<;>(try simp only [SY] at hc)<;>first | omega | (conv=>whnf)))
    rename_i b5
    refine PYield.goR [.box b5 [.int .i64 t.op, .int .i64 t.n, .sl 1 (t.v.map (PV.int .i64)) none, .sl 4 (t.t.map Trm.pv) none], .box yb [.fn (.yield l) []], .box wb [.fn (.func 84) [.ptr yb 0, .ptr wb 0]]] (hy (i + 0) _ Γ h0 hJ) (WkT.refl _) (List.Perm.refl _) ?_
    rintro _ Γ1 (⟨rfl, hJ1⟩ | ⟨rfl, hX⟩)
    · conv => whnf
      repeat' (first | ((first | ((first | (apply zY;intro hg) | apply zZ);first | exact stA | ((conv=>whnf);(repeat ((first | (refine zW ?_ ?_;exact gA) | refine pC (group_c t) wR ?_ | refine pC (group_c t) cA ?_ | intro _);conv=>whnf));first | exact pS | exact pL | exact pE)) | (refine zW ?_ ?_;exact gA) | refine zH rfl ?_ | refine zA ?_ | refine zI bA ?_ | refine zI rfl ?_ | refine zJ rfl rfl ?_ | refine zB ?_ | refine zK rfl ?_ | refine zL rfl ?_ | refine zC ?_ | (refine zO ?_ ?_ ?_;omega;omega) | (refine zP ?_ ?_ ?_;omega;omega) | refine zM rfl ?_ | (refine zQ ?_ ?_ ?_;omega;omega) | (refine zR ?_ ?_;omega) | (refine zI ?_ ?_;exact nA) | (refine zS ?_ ?_ ?_;omega;omega) | (refine zT ?_ ?_ ?_;omega;omega) | (refine zU ?_ ?_ ?_;omega;omega) | (refine zV ?_ ?_ ?_;omega;omega) | refine pC (group_c t) wR ?_ | refine pC (group_c t) cA ?_ | refine zN rfl rfl rfl ?_ | refine zD ?_ | refine zE ?_ | refine zF ?_ | intro _ | refine zG ?_);conv=>whnf) | (refine zX (fun hc => ?_) (fun hc => ?_)<;>(try simp only [SY] at hc)<;>first | omega | (conv=>whnf)))
      · exact PRet.gen (y := .btrue) (Γ' := .box yb [.fn (.yield l) []] :: .box wb [.fn (.func 84) [.ptr yb 0, .ptr wb 0]] :: Γ1) (hp := ⟨(List.perm_append_singleton _ _).symm⟩) (Wk.refl _) ⟨Γ1, rfl, .inl ⟨rfl, by rw [if_pos hc]; exact hJ1⟩⟩
      · rw [if_neg (by omega)] at hfr ⊢
        rename_i tk htk
        refine PCall.pure (concatInt_c [sc, t.v] hsum (by simp)) (WkT.cons (Wk.tok _ _ _) WkT.nil) ?_
        rw [show [sc, t.v].flatten = sc ++ t.v by simp]
        conv => whnf
        repeat' (first | ((first | ((first | (apply zY;intro hg) | apply zZ);first | exact stA | ((conv=>whnf);(repeat ((first | (refine zW ?_ ?_;exact gA) | refine pC (group_c t) wR ?_ | refine pC (group_c t) cA ?_ | intro _);conv=>whnf));first | exact pS | exact pL | exact pE)) | (refine zW ?_ ?_;exact gA) | refine zH rfl ?_ | refine zA ?_ | refine zI bA ?_ | refine zI rfl ?_ | refine zJ rfl rfl ?_ | refine zB ?_ | refine zK rfl ?_ | refine zL rfl ?_ | refine zC ?_ | (refine zO ?_ ?_ ?_;omega;omega) | (refine zP ?_ ?_ ?_;omega;omega) | refine zM rfl ?_ | (refine zQ ?_ ?_ ?_;omega;omega) | (refine zR ?_ ?_;omega) | (refine zI ?_ ?_;exact nA) | (refine zS ?_ ?_ ?_;omega;omega) | (refine zT ?_ ?_ ?_;omega;omega) | (refine zU ?_ ?_ ?_;omega;omega) | (refine zV ?_ ?_ ?_;omega;omega) | refine pC (group_c t) wR ?_ | refine pC (group_c t) cA ?_ | refine zN rfl rfl rfl ?_ | refine zD ?_ | refine zE ?_ | refine zF ?_ | intro _ | refine zG ?_);conv=>whnf) | (refine zX (fun hc => ?_) (fun hc => ?_)<;>(try simp only [SY] at hc)<;>first | omega | (conv=>whnf)))
        have hfr1 := hfr.head
        refine PLoop.over [8, 10, 11, 12, 29, 30, 31, 32, 33, 34, 35, 36, 37, 38, 39, 40, 41, 42, 43, 44, 45, 46, 47, 48, 49, 50, 51, 52, 53] (fun x : Nat × Nat × List Ent => [(29, .int .i64 x.1)])
          (fun x : Nat × Nat × List Ent => .tok tk :: .box b5 [.int .i64 t.op, .int .i64 t.n, .sl 1 (t.v.map (PV.int .i64)) none, .sl 4 (t.t.map Trm.pv) none] :: .box yb [.fn (.yield l) []] :: .box wb [.fn (.func 84) [.ptr yb 0, .ptr wb 0]] :: x.2.2)
          (fun x => x.1 ≤ t.t.length ∧ J x.2.1 x.2.2 ∧ From xs x.2.1 (Trm.mets t.op sc (sc ++ t.v) (t.t.drop x.1) (deep + 1)) ∧ x.2.1 + (Trm.mets t.op sc (sc ++ t.v) (t.t.drop x.1) (deep + 1)).length = i + 1 + (Trm.mets t.op sc (sc ++ t.v) t.t (deep + 1)).length)
          (fun x => t.t.length - x.1) (0, i + 1, Γ1) ⟨by omega, hJ1, hfr1, rfl⟩ wA ?_
        rintro ⟨k, p, Γ2⟩ ⟨k1, k2, k3, k4⟩
        dsimp only at k1 k2 k3 k4 ⊢
        conv => whnf
        repeat' (first | ((first | ((first | (apply zY;intro hg) | apply zZ);first | exact stA | ((conv=>whnf);(repeat ((first | (refine zW ?_ ?_;exact gA) | refine pC (group_c t) wR ?_ | refine pC (group_c t) cA ?_ | intro _);conv=>whnf));first | exact pS | exact pL | exact pE)) | (refine zW ?_ ?_;exact gA) | refine zH rfl ?_ | refine zA ?_ | refine zI bA ?_ | refine zI rfl ?_ | refine zJ rfl rfl ?_ | refine zB ?_ | refine zK rfl ?_ | refine zL rfl ?_ | refine zC ?_ | (refine zO ?_ ?_ ?_;omega;omega) | (refine zP ?_ ?_ ?_;omega;omega) | refine zM rfl ?_ | (refine zQ ?_ ?_ ?_;omega;omega) | (refine zR ?_ ?_;omega) | (refine zI ?_ ?_;exact nA) | (refine zS ?_ ?_ ?_;omega;omega) | (refine zT ?_ ?_ ?_;omega;omega) | (refine zU ?_ ?_ ?_;omega;omega) | (refine zV ?_ ?_ ?_;omega;omega) | refine pC (group_c t) wR ?_ | refine pC (group_c t) cA ?_ | refine zN rfl rfl rfl ?_ | refine zD ?_ | refine zE ?_ | refine zF ?_ | intro _ | refine zG ?_);conv=>whnf) | (refine zX (fun hc => ?_) (fun hc => ?_)<;>(try simp only [SY] at hc)<;>first | omega | (conv=>whnf)))
        rotate_right
        · rw [List.drop_of_length_le (by omega), Trm.mets] at k4
          exact PRet.gen (y := .btrue) (Γ' := .box yb [.fn (.yield l) []] :: .box wb [.fn (.func 84) [.ptr yb 0, .ptr wb 0]] :: Γ2) (hp := ⟨List.perm_append_comm (l₁ := [_, _])⟩) (Wk.refl _) ⟨Γ2, rfl, .inl ⟨rfl, by
            rw [List.length_cons, show i + ((Trm.mets t.op sc (sc ++ t.v) t.t (deep + 1)).length + 1) = p by simp only [List.length_nil] at k4; omega]; exact k2⟩⟩
        all_goals
          rename_i b11
          have hlt : k < t.t.length := by omega
          have hbm := Trm.bulks_mem (List.getElem_mem hlt)
          have hdr : t.t.drop (k + 1) = [] ↔ k + 1 = t.t.length := by rw [List.drop_eq_nil_iff]; omega
          rw [drop_at hlt, Trm.mets] at k3 k4
        · rw [if_pos (show groupB t.op = true ∨ t.t.drop (k + 1) = [] by rw [hdr]; exact hc.imp id fun h => by omega)] at k3 k4
          have k3l := k3.left
          have k3r := k3.right
          rw [List.length_append] at k4
          refine PCall.goR [.box b11 [.int .i64 t.t[k].op, .int .i64 t.t[k].n, .sl 1 (t.t[k].v.map (PV.int .i64)) none, .sl 4 (t.t[k].t.map Trm.pv) none], .tok tk, .box b5 [.int .i64 t.op, .int .i64 t.n, .sl 1 (t.v.map (PV.int .i64)) none, .sl 4 (t.t.map Trm.pv) none]]
            (ih t.t[k] (List.getElem_mem _) (sc ++ t.v) (deep + 1) p Γ2 (by omega) (by omega) (by first | omega | (simp; omega)) k3l k2) (WkT.refl _) (List.Perm.refl _) ?_
          rintro _ _ ⟨Γ3, rfl, ⟨rfl, g1⟩ | ⟨rfl, g1⟩⟩
          · conv => whnf
            repeat' (first | ((first | ((first | (apply zY;intro hg) | apply zZ);first | exact stA | ((conv=>whnf);(repeat ((first | (refine zW ?_ ?_;exact gA) | refine pC (group_c t) wR ?_ | refine pC (group_c t) cA ?_ | intro _);conv=>whnf));first | exact pS | exact pL | exact pE)) | (refine zW ?_ ?_;exact gA) | refine zH rfl ?_ | refine zA ?_ | refine zI bA ?_ | refine zI rfl ?_ | refine zJ rfl rfl ?_ | refine zB ?_ | refine zK rfl ?_ | refine zL rfl ?_ | refine zC ?_ | (refine zO ?_ ?_ ?_;omega;omega) | (refine zP ?_ ?_ ?_;omega;omega) | refine zM rfl ?_ | (refine zQ ?_ ?_ ?_;omega;omega) | (refine zR ?_ ?_;omega) | (refine zI ?_ ?_;exact nA) | (refine zS ?_ ?_ ?_;omega;omega) | (refine zT ?_ ?_ ?_;omega;omega) | (refine zU ?_ ?_ ?_;omega;omega) | (refine zV ?_ ?_ ?_;omega;omega) | refine pC (group_c t) wR ?_ | refine pC (group_c t) cA ?_ | refine zN rfl rfl rfl ?_ | refine zD ?_ | refine zE ?_ | refine zF ?_ | intro _ | refine zG ?_);conv=>whnf) | (refine zX (fun hc => ?_) (fun hc => ?_)<;>(try simp only [SY] at hc)<;>first | omega | (conv=>whnf)))
            exact loopTo (k + 1, p + (t.t[k].met (sc ++ t.v) (deep + 1)).length, Γ3) (hp := ⟨(List.perm_append_singleton _ _).symm⟩) ⟨by omega, g1, k3r, by dsimp only; omega⟩ (by show t.t.length - (k + 1) < t.t.length - k; omega) wA
          · conv => whnf
            repeat' (first | ((first | ((first | (apply zY;intro hg) | apply zZ);first | exact stA | ((conv=>whnf);(repeat ((first | (refine zW ?_ ?_;exact gA) | refine pC (group_c t) wR ?_ | refine pC (group_c t) cA ?_ | intro _);conv=>whnf));first | exact pS | exact pL | exact pE)) | (refine zW ?_ ?_;exact gA) | refine zH rfl ?_ | refine zA ?_ | refine zI bA ?_ | refine zI rfl ?_ | refine zJ rfl rfl ?_ | refine zB ?_ | refine zK rfl ?_ | refine zL rfl ?_ | refine zC ?_ | (refine zO ?_ ?_ ?_;omega;omega) | (refine zP ?_ ?_ ?_;omega;omega) | refine zM rfl ?_ | (refine zQ ?_ ?_ ?_;omega;omega) | (refine zR ?_ ?_;omega) | (refine zI ?_ ?_;exact nA) | (refine zS ?_ ?_ ?_;omega;omega) | (refine zT ?_ ?_ ?_;omega;omega) | (refine zU ?_ ?_ ?_;omega;omega) | (refine zV ?_ ?_ ?_;omega;omega) | refine pC (group_c t) wR ?_ | refine pC (group_c t) cA ?_ | refine zN rfl rfl rfl ?_ | refine zD ?_ | refine zE ?_ | refine zF ?_ | intro _ | refine zG ?_);conv=>whnf) | (refine zX (fun hc => ?_) (fun hc => ?_)<;>(try simp only [SY] at hc)<;>first | omega | (conv=>whnf)))
            exact PRet.gen (y := .bfalse) (Γ' := .box yb [.fn (.yield l) []] :: .box wb [.fn (.func 84) [.ptr yb 0, .ptr wb 0]] :: Γ3) (hp := ⟨List.perm_append_comm (l₁ := [_, _, _])⟩) (Wk.refl _) ⟨Γ3, rfl, .inr ⟨rfl, g1⟩⟩
        · rw [if_neg (show ¬(groupB t.op = true ∨ t.t.drop (k + 1) = []) by rw [hdr]; rintro (h | h); rw [hc.1] at h; cases h; exact hc.2 (by omega))] at k3 k4
          have k3l := k3.left
          have k3r := k3.right
          rw [List.length_append] at k4
          refine PCall.goR [.box b11 [.int .i64 t.t[k].op, .int .i64 t.t[k].n, .sl 1 (t.t[k].v.map (PV.int .i64)) none, .sl 4 (t.t[k].t.map Trm.pv) none], .tok tk, .box b5 [.int .i64 t.op, .int .i64 t.n, .sl 1 (t.v.map (PV.int .i64)) none, .sl 4 (t.t.map Trm.pv) none]]
            (ih t.t[k] (List.getElem_mem _) (sc) (deep + 1) p Γ2 (by omega) (by omega) (by first | omega | (simp; omega)) k3l k2) (WkT.refl _) (List.Perm.refl _) ?_
          rintro _ _ ⟨Γ3, rfl, ⟨rfl, g1⟩ | ⟨rfl, g1⟩⟩
          · conv => whnf
            repeat' (first | ((first | ((first | (apply zY;intro hg) | apply zZ);first | exact stA | ((conv=>whnf);(repeat ((first | (refine zW ?_ ?_;exact gA) | refine pC (group_c t) wR ?_ | refine pC (group_c t) cA ?_ | intro _);conv=>whnf));first | exact pS | exact pL | exact pE)) | (refine zW ?_ ?_;exact gA) | refine zH rfl ?_ | refine zA ?_ | refine zI bA ?_ | refine zI rfl ?_ | refine zJ rfl rfl ?_ | refine zB ?_ | refine zK rfl ?_ | refine zL rfl ?_ | refine zC ?_ | (refine zO ?_ ?_ ?_;omega;omega) | (refine zP ?_ ?_ ?_;omega;omega) | refine zM rfl ?_ | (refine zQ ?_ ?_ ?_;omega;omega) | (refine zR ?_ ?_;omega) | (refine zI ?_ ?_;exact nA) | (refine zS ?_ ?_ ?_;omega;omega) | (refine zT ?_ ?_ ?_;omega;omega) | (refine zU ?_ ?_ ?_;omega;omega) | (refine zV ?_ ?_ ?_;omega;omega) | refine pC (group_c t) wR ?_ | refine pC (group_c t) cA ?_ | refine zN rfl rfl rfl ?_ | refine zD ?_ | refine zE ?_ | refine zF ?_ | intro _ | refine zG ?_);conv=>whnf) | (refine zX (fun hc => ?_) (fun hc => ?_)<;>(try simp only [SY] at hc)<;>first | omega | (conv=>whnf)))
            exact loopTo (k + 1, p + (t.t[k].met (sc) (deep + 1)).length, Γ3) (hp := ⟨(List.perm_append_singleton _ _).symm⟩) ⟨by omega, g1, k3r, by dsimp only; omega⟩ (by show t.t.length - (k + 1) < t.t.length - k; omega) wA
          · conv => whnf
            repeat' (first | ((first | ((first | (apply zY;intro hg) | apply zZ);first | exact stA | ((conv=>whnf);(repeat ((first | (refine zW ?_ ?_;exact gA) | refine pC (group_c t) wR ?_ | refine pC (group_c t) cA ?_ | intro _);conv=>whnf));first | exact pS | exact pL | exact pE)) | (refine zW ?_ ?_;exact gA) | refine zH rfl ?_ | refine zA ?_ | refine zI bA ?_ | refine zI rfl ?_ | refine zJ rfl rfl ?_ | refine zB ?_ | refine zK rfl ?_ | refine zL rfl ?_ | refine zC ?_ | (refine zO ?_ ?_ ?_;omega;omega) | (refine zP ?_ ?_ ?_;omega;omega) | refine zM rfl ?_ | (refine zQ ?_ ?_ ?_;omega;omega) | (refine zR ?_ ?_;omega) | (refine zI ?_ ?_;exact nA) | (refine zS ?_ ?_ ?_;omega;omega) | (refine zT ?_ ?_ ?_;omega;omega) | (refine zU ?_ ?_ ?_;omega;omega) | (refine zV ?_ ?_ ?_;omega;omega) | refine pC (group_c t) wR ?_ | refine pC (group_c t) cA ?_ | refine zN rfl rfl rfl ?_ | refine zD ?_ | refine zE ?_ | refine zF ?_ | intro _ | refine zG ?_);conv=>whnf) | (refine zX (fun hc => ?_) (fun hc => ?_)<;>(try simp only [SY] at hc)<;>first | omega | (conv=>whnf)))
            exact PRet.gen (y := .bfalse) (Γ' := .box yb [.fn (.yield l) []] :: .box wb [.fn (.func 84) [.ptr yb 0, .ptr wb 0]] :: Γ3) (hp := ⟨List.perm_append_comm (l₁ := [_, _, _])⟩) (Wk.refl _) ⟨Γ3, rfl, .inr ⟨rfl, g1⟩⟩
    · conv => whnf
      repeat' (first | ((first | ((first | (apply zY;intro hg) | apply zZ);first | exact stA | ((conv=>whnf);(repeat ((first | (refine zW ?_ ?_;exact gA) | refine pC (group_c t) wR ?_ | refine pC (group_c t) cA ?_ | intro _);conv=>whnf));first | exact pS | exact pL | exact pE)) | (refine zW ?_ ?_;exact gA) | refine zH rfl ?_ | refine zA ?_ | refine zI bA ?_ | refine zI rfl ?_ | refine zJ rfl rfl ?_ | refine zB ?_ | refine zK rfl ?_ | refine zL rfl ?_ | refine zC ?_ | (refine zO ?_ ?_ ?_;omega;omega) | (refine zP ?_ ?_ ?_;omega;omega) | refine zM rfl ?_ | (refine zQ ?_ ?_ ?_;omega;omega) | (refine zR ?_ ?_;omega) | (refine zI ?_ ?_;exact nA) | (refine zS ?_ ?_ ?_;omega;omega) | (refine zT ?_ ?_ ?_;omega;omega) | (refine zU ?_ ?_ ?_;omega;omega) | (refine zV ?_ ?_ ?_;omega;omega) | refine pC (group_c t) wR ?_ | refine pC (group_c t) cA ?_ | refine zN rfl rfl rfl ?_ | refine zD ?_ | refine zE ?_ | refine zF ?_ | intro _ | refine zG ?_);conv=>whnf) | (refine zX (fun hc => ?_) (fun hc => ?_)<;>(try simp only [SY] at hc)<;>first | omega | (conv=>whnf)))
      exact PRet.gen (y := .bfalse) (Γ' := .box yb [.fn (.yield l) []] :: .box wb [.fn (.func 84) [.ptr yb 0, .ptr wb 0]] :: Γ1) (hp := ⟨(List.perm_append_singleton _ _).symm⟩) (Wk.refl _) ⟨Γ1, rfl, .inr ⟨rfl, hX⟩⟩
def Trm.all (t : Trm) : List (Trm × List Int) := t.met [] 0
theorem all1_c (b : Nat) (t : Trm) (hb : t.bulk ≤ 1000000000) : AIter Tryz.prog 83 [.ptr b 0] [.box b t.cells] (t.all.map fun m => [metP m]) := by
  intro l J X hy Γ hJ
  refine ACall.ghost (Ghost.drop (Γ' := .box b t.cells :: Γ) (Γ1 := []) (by rw [List.append_nil]; exact List.perm_append_singleton _ _)) ?_
  refine ACall.of_body tt_ok Tryz.func83 rfl rfl (n := 8) rfl rfl ?_
  conv => whnf
  repeat ((first | ((first | (apply zY;intro hg) | apply zZ);first | exact stA | ((conv=>whnf);(repeat ((first | (refine zW ?_ ?_;exact gA) | refine pC (group_c t) wR ?_ | refine pC (group_c t) cA ?_ | intro _);conv=>whnf));first | exact pS | exact pL | exact pE)) | (refine zW ?_ ?_;exact gA) | refine zH rfl ?_ | refine zA ?_ | refine zI bA ?_ | refine zI rfl ?_ | refine zJ rfl rfl ?_ | refine zB ?_ | refine zK rfl ?_ | refine zL rfl ?_ | refine zC ?_ | (refine zO ?_ ?_ ?_;omega;omega) | (refine zP ?_ ?_ ?_;omega;omega) | refine zM rfl ?_ | (refine zQ ?_ ?_ ?_;omega;omega) | (refine zR ?_ ?_;omega) | (refine zI ?_ ?_;exact nA) | (refine zS ?_ ?_ ?_;omega;omega) | (refine zT ?_ ?_ ?_;omega;omega) | (refine zU ?_ ?_ ?_;omega;omega) | (refine zV ?_ ?_ ?_;omega;omega) | refine pC (group_c t) wR ?_ | refine pC (group_c t) cA ?_ | refine zN rfl rfl rfl ?_ | refine zD ?_ | refine zE ?_ | refine zF ?_ | intro _);conv=>whnf)
  conv => whnf
  repeat' (first | ((first | ((first | (apply zY;intro hg) | apply zZ);first | exact stA | ((conv=>whnf);(repeat ((first | (refine zW ?_ ?_;exact gA) | refine pC (group_c t) wR ?_ | refine pC (group_c t) cA ?_ | intro _);conv=>whnf));first | exact pS | exact pL | exact pE)) | (refine zW ?_ ?_;exact gA) | refine zH rfl ?_ | refine zA ?_ | refine zI bA ?_ | refine zI rfl ?_ | refine zJ rfl rfl ?_ | refine zB ?_ | refine zK rfl ?_ | refine zL rfl ?_ | refine zC ?_ | (refine zO ?_ ?_ ?_;omega;omega) | (refine zP ?_ ?_ ?_;omega;omega) | refine zM rfl ?_ | (refine zQ ?_ ?_ ?_;omega;omega) | (refine zR ?_ ?_;omega) | (refine zI ?_ ?_;exact nA) | (refine zS ?_ ?_ ?_;omega;omega) | (refine zT ?_ ?_ ?_;omega;omega) | (refine zU ?_ ?_ ?_;omega;omega) | (refine zV ?_ ?_ ?_;omega;omega) | refine pC (group_c t) wR ?_ | refine pC (group_c t) cA ?_ | refine zN rfl rfl rfl ?_ | refine zD ?_ | refine zE ?_ | refine zF ?_ | intro _ | refine zG ?_);conv=>whnf) | (refine zX (fun hc => ?_) (fun hc => ?_)<;>(try simp only [SY] at hc)<;>first | omega | (conv=>whnf)))
  rename_i yb wb
  refine PCall.goR [.box b t.cells] (walk_c l yb wb _ J X hy t [] 0 0 Γ (by omega) (by omega) (by simp; omega) (fun j hj => by rw [Nat.zero_add, List.getElem?_map]; show Option.map _ (t.met [] 0)[j]? = _; rw [List.getElem?_eq_getElem hj]; rfl) hJ) (WkT.cons (Wk.refl _) (WkT.cons (Wk.nil' rfl) (WkT.refl _))) ((List.Perm.swap _ _ _).trans (((List.Perm.swap _ _ _).cons _).trans (List.Perm.swap _ _ _))) ?_
  rintro _ _ ⟨Γ1, rfl, h1⟩
  conv => whnf
  repeat ((first | ((first | (apply zY;intro hg) | apply zZ);first | exact stA | ((conv=>whnf);(repeat ((first | (refine zW ?_ ?_;exact gA) | refine pC (group_c t) wR ?_ | refine pC (group_c t) cA ?_ | intro _);conv=>whnf));first | exact pS | exact pL | exact pE)) | (refine zW ?_ ?_;exact gA) | refine zH rfl ?_ | refine zA ?_ | refine zI bA ?_ | refine zI rfl ?_ | refine zJ rfl rfl ?_ | refine zB ?_ | refine zK rfl ?_ | refine zL rfl ?_ | refine zC ?_ | (refine zO ?_ ?_ ?_;omega;omega) | (refine zP ?_ ?_ ?_;omega;omega) | refine zM rfl ?_ | (refine zQ ?_ ?_ ?_;omega;omega) | (refine zR ?_ ?_;omega) | (refine zI ?_ ?_;exact nA) | (refine zS ?_ ?_ ?_;omega;omega) | (refine zT ?_ ?_ ?_;omega;omega) | (refine zU ?_ ?_ ?_;omega;omega) | (refine zV ?_ ?_ ?_;omega;omega) | refine pC (group_c t) wR ?_ | refine pC (group_c t) cA ?_ | refine zN rfl rfl rfl ?_ | refine zD ?_ | refine zE ?_ | refine zF ?_ | intro _);conv=>whnf)
  refine PRet.gen (Γ' := Γ1) (hp := ⟨List.perm_append_comm (l₁ := [_, _, _])⟩) (Wk.refl _) ?_
  rw [List.length_map]
  rcases h1 with ⟨_, h⟩ | ⟨_, h⟩
  · exact .inl (by rw [Nat.zero_add] at h; exact h)
  · exact .inr h
theorem all_c (t : Trm) : ACall Tryz.prog 50 [.agg t.cells] [] (fun y Γ' => ∃ b, y = .fn (.func 83) [.ptr b 0] ∧ Γ' = [.box b t.cells]) := by
  refine ACall.of_body tt_ok Tryz.func50 rfl rfl (n := 4) rfl rfl ?_
  conv => whnf
  repeat ((first | ((first | (apply zY;intro hg) | apply zZ);first | exact stA | ((conv=>whnf);(repeat ((first | (refine zW ?_ ?_;exact gA) | refine pC (group_c t) wR ?_ | refine pC (group_c t) cA ?_ | intro _);conv=>whnf));first | exact pS | exact pL | exact pE)) | (refine zW ?_ ?_;exact gA) | refine zH rfl ?_ | refine zA ?_ | refine zI bA ?_ | refine zI rfl ?_ | refine zJ rfl rfl ?_ | refine zB ?_ | refine zK rfl ?_ | refine zL rfl ?_ | refine zC ?_ | (refine zO ?_ ?_ ?_;omega;omega) | (refine zP ?_ ?_ ?_;omega;omega) | refine zM rfl ?_ | (refine zQ ?_ ?_ ?_;omega;omega) | (refine zR ?_ ?_;omega) | (refine zI ?_ ?_;exact nA) | (refine zS ?_ ?_ ?_;omega;omega) | (refine zT ?_ ?_ ?_;omega;omega) | (refine zU ?_ ?_ ?_;omega;omega) | (refine zV ?_ ?_ ?_;omega;omega) | refine pC (group_c t) wR ?_ | refine pC (group_c t) cA ?_ | refine zN rfl rfl rfl ?_ | refine zD ?_ | refine zE ?_ | refine zF ?_ | intro _);conv=>whnf)
  conv => whnf
  repeat' (first | ((first | ((first | (apply zY;intro hg) | apply zZ);first | exact stA | ((conv=>whnf);(repeat ((first | (refine zW ?_ ?_;exact gA) | refine pC (group_c t) wR ?_ | refine pC (group_c t) cA ?_ | intro _);conv=>whnf));first | exact pS | exact pL | exact pE)) | (refine zW ?_ ?_;exact gA) | refine zH rfl ?_ | refine zA ?_ | refine zI bA ?_ | refine zI rfl ?_ | refine zJ rfl rfl ?_ | refine zB ?_ | refine zK rfl ?_ | refine zL rfl ?_ | refine zC ?_ | (refine zO ?_ ?_ ?_;omega;omega) | (refine zP ?_ ?_ ?_;omega;omega) | refine zM rfl ?_ | (refine zQ ?_ ?_ ?_;omega;omega) | (refine zR ?_ ?_;omega) | (refine zI ?_ ?_;exact nA) | (refine zS ?_ ?_ ?_;omega;omega) | (refine zT ?_ ?_ ?_;omega;omega) | (refine zU ?_ ?_ ?_;omega;omega) | (refine zV ?_ ?_ ?_;omega;omega) | refine pC (group_c t) wR ?_ | refine pC (group_c t) cA ?_ | refine zN rfl rfl rfl ?_ | refine zD ?_ | refine zE ?_ | refine zF ?_ | intro _ | refine zG ?_);conv=>whnf) | (refine zX (fun hc => ?_) (fun hc => ?_)<;>(try simp only [SY] at hc)<;>first | omega | (conv=>whnf)))
  rename_i b
  exact PRet.gen (y := .fn (.func 83) [.ptr b 0]) (Γ' := [.box b t.cells]) (hp := PickL.self _) (Wk.refl _) ⟨b, rfl, rfl⟩
end Go.Cb
namespace Go.Cb
open Go.Proofs
set_option maxRecDepth 100000
set_option maxHeartbeats 4000000
end Go.Cb
namespace Go.Cb
open Go.Proofs
set_option maxRecDepth 100000
set_option maxHeartbeats 4000000
theorem PLenM.one {x : PV} {Γ : List Ent} {t : Tok} {put : Tok → List PV → List Ent} [hp : PickRow Γ t [x] put] {K : Nat → Prop} (k : K 1) : PLenM t Γ K := PLenM.at_ (hp := hp) (fun _ => k)
end Go.Cb
namespace Go.Cb
open Go.Proofs
set_option maxRecDepth 100000
set_option maxHeartbeats 4000000
def namesB (op : Int) : Bool := op == 1 || op == 2 || op == 14
theorem names_c (t : Trm) : ACallP Tryz.prog 52 [.agg t.cells] (.bool (namesB t.op)) := by
  refine ACall.of_body tt_ok Tryz.func52 rfl rfl (n := 16) rfl rfl ?_
  conv => whnf
  repeat ((first | ((first | (apply zY;intro hg) | apply zZ);first | exact stA) | (refine zW ?_ ?_;exact gA) | refine zH rfl ?_ | refine zA ?_ | refine zI bA ?_ | refine zI rfl ?_ | refine zJ rfl rfl ?_ | refine zB ?_ | refine zK rfl ?_ | refine zL rfl ?_ | refine zC ?_ | (refine zO ?_ ?_ ?_;omega;omega) | (refine zP ?_ ?_ ?_;omega;omega) | refine zM rfl ?_ | (refine zQ ?_ ?_ ?_;omega;omega) | (refine zR ?_ ?_;omega) | (refine zI ?_ ?_;exact nA) | (refine zS ?_ ?_ ?_;omega;omega) | (refine zT ?_ ?_ ?_;omega;omega) | (refine zU ?_ ?_ ?_;omega;omega) | (refine zV ?_ ?_ ?_;omega;omega) | refine zN rfl rfl rfl ?_ | refine zD ?_ | refine zE ?_ | refine zF ?_ | intro _);conv=>whnf)
  conv => whnf
  repeat' (first | ((first | ((first | (apply zY;intro hg) | apply zZ);first | exact stA) | (refine zW ?_ ?_;exact gA) | refine zH rfl ?_ | refine zA ?_ | refine zI bA ?_ | refine zI rfl ?_ | refine zJ rfl rfl ?_ | refine zB ?_ | refine zK rfl ?_ | refine zL rfl ?_ | refine zC ?_ | (refine zO ?_ ?_ ?_;omega;omega) | (refine zP ?_ ?_ ?_;omega;omega) | refine zM rfl ?_ | (refine zQ ?_ ?_ ?_;omega;omega) | (refine zR ?_ ?_;omega) | (refine zI ?_ ?_;exact nA) | (refine zS ?_ ?_ ?_;omega;omega) | (refine zT ?_ ?_ ?_;omega;omega) | (refine zU ?_ ?_ ?_;omega;omega) | (refine zV ?_ ?_ ?_;omega;omega) | refine zN rfl rfl rfl ?_ | refine zD ?_ | refine zE ?_ | refine zF ?_ | intro _ | refine zG ?_);conv=>whnf) | (refine zX (fun hc => ?_) (fun hc => ?_)<;>(try simp only [SY] at hc)<;>first | omega | (conv=>whnf)))
  exact PRet.pure (Wk.refl _)
def freeOf (l : List (Trm × List Int)) : List Int := (l.filter fun m => namesB m.1.op && !m.2.contains m.1.n).map fun m => m.1.n
end Go.Cb
namespace Go.Cb
open Go.Proofs
set_option maxRecDepth 100000
set_option maxHeartbeats 4000000
mutual
def Trm.dep : Trm → Int
  | .mk _ _ _ t => Trm.deps t 0
def Trm.deps : List Trm → Int → Int
  | [], d => d
  | x :: xs, d => Trm.deps xs (max d (1 + Trm.dep x))
end
theorem Trm.dep_eq (t : Trm) : t.dep = Trm.deps t.t 0 := by cases t; rfl
theorem Trm.deps_le (c : Int) : ∀ (l : List Trm) (d : Int), Trm.deps l d ≤ c ↔ d ≤ c ∧ ∀ x ∈ l, 1 + x.dep ≤ c
  | [], d => by simp [Trm.deps]
  | x :: l, d => by
    rw [Trm.deps, Trm.deps_le c l]
    simp only [List.forall_mem_cons]
    constructor
    · rintro ⟨h1, h2⟩; exact ⟨by omega, by omega, h2⟩
    · rintro ⟨h1, h2, h3⟩; exact ⟨by omega, h3⟩
theorem Trm.deps_ge : ∀ (l : List Trm) (d : Int), d ≤ Trm.deps l d
  | [], d => by simp [Trm.deps]
  | x :: l, d => by rw [Trm.deps]; have := Trm.deps_ge l (max d (1 + x.dep)); omega
theorem Trm.met_all (t : Trm) : ∀ (sc : List Int) (deep : Int), deep + t.dep < 1000 → (t.met sc deep).length = t.cnt ∧ (t.met sc deep).flatMap (fun m => m.1.v) = t.vars := by
  induction t using Trm.ind with
  | h t ih =>
    intro sc deep h
    rw [Trm.dep_eq] at h
    have hd := (Trm.deps_le (999 - deep) t.t 0).1 (by omega)
    have key : ∀ (op : Int) (l : List Trm), (∀ y ∈ l, ∀ (sc : List Int) (deep : Int), deep + y.dep < 1000 → (y.met sc deep).length = y.cnt ∧ (y.met sc deep).flatMap (fun m => m.1.v) = y.vars) →
        ∀ (sc inner : List Int) (deep : Int), (∀ x ∈ l, deep + x.dep < 1000) → (Trm.mets op sc inner l deep).length = Trm.cnts l ∧ (Trm.mets op sc inner l deep).flatMap (fun m => m.1.v) = Trm.varss l := by
      intro op l
      induction l with
      | nil => intro _ _ _ _ _; simp [Trm.mets, Trm.cnts, Trm.varss]
      | cons x l ihl =>
        intro hy sc inner deep hx
        have h1 := hy x (by simp) (if groupB op = true ∨ l = [] then inner else sc) deep (hx x (by simp))
        have h2 := ihl (fun y hh => hy y (by simp [hh])) sc inner deep fun y hh => hx y (by simp [hh])
        rw [Trm.mets, Trm.cnts, Trm.varss, List.flatMap_append, h1.2, h2.2, List.length_append]
        exact ⟨by have := h1.1; have := h2.1; omega, rfl⟩
    have h1 := key t.op t.t ih sc (sc ++ t.v) (deep + 1) fun x hx => by have := hd.2 x hx; omega
    have hlt : ¬ deep ≥ 1000 := by have := Trm.deps_ge t.t 0; omega
    rw [Trm.met_eq, if_neg hlt, Trm.cnt_eq, Trm.vars_eq, List.flatMap_cons, List.length_cons, h1.2]
    exact ⟨by have := h1.1; omega, rfl⟩
theorem Trm.okT_deep {level c codes : Int} {free : Bool} (t : Trm) : ∀ {scope : List Int} {deep : Int}, t.okT level c codes free scope deep → deep + t.dep ≤ 400 := by
  induction t using Trm.ind with
  | h t ih =>
    intro scope deep h
    rw [Trm.okT_eq] at h
    have key : ∀ (op : Int) (sc inner : List Int) (deep : Int) (l : List Trm), (∀ y ∈ l, ∀ {scope : List Int} {deep : Int}, y.okT level c codes free scope deep → deep + y.dep ≤ 400) → Trm.okTs level c codes free op sc inner l deep → ∀ x ∈ l, deep + x.dep ≤ 400 := by
      intro op sc inner deep l
      induction l with
      | nil => intro _ _; simp
      | cons x l ihl =>
        intro hy hk y hm
        rw [Trm.okTs] at hk
        rcases List.mem_cons.1 hm with rfl | hm
        · exact hy y (by simp) hk.2.1
        · exact ihl (fun z hz => hy z (by simp [hz])) hk.2.2 y hm
    have h1 := key _ _ _ _ _ ih h.2
    have := (Trm.deps_le (400 - deep) t.t 0).2 ⟨by have := h.1.1; omega, fun x hx => by have := h1 x hx; omega⟩
    rw [Trm.dep_eq]; omega
theorem Trm.okT_move {level c codes : Int} {free : Bool} (t : Trm) : ∀ {scope : List Int} {deep deep2 : Int}, t.okT level c codes free scope deep → deep2 + t.dep ≤ 400 → t.okT level c codes free scope deep2 := by
  induction t using Trm.ind with
  | h t ih =>
    intro scope deep deep2 h hd
    rw [Trm.okT_eq] at h ⊢
    rw [Trm.dep_eq] at hd
    have hd2 := (Trm.deps_le (400 - deep2) t.t 0).1 (by omega)
    have key : ∀ (op : Int) (sc inner : List Int) (deep deep2 : Int) (l : List Trm), (∀ y ∈ l, ∀ {scope : List Int} {deep deep2 : Int}, y.okT level c codes free scope deep → deep2 + y.dep ≤ 400 → y.okT level c codes free scope deep2) → (∀ x ∈ l, deep2 + x.dep ≤ 400) →
        Trm.okTs level c codes free op sc inner l deep → Trm.okTs level c codes free op sc inner l deep2 := by
      intro op sc inner deep deep2 l
      induction l with
      | nil => intro _ _ _; simp [Trm.okTs]
      | cons x l ihl =>
        intro hy hx hk
        rw [Trm.okTs] at hk ⊢
        exact ⟨hk.1, hy x (by simp) hk.2.1 (hx x (by simp)), ihl (fun z hz => hy z (by simp [hz])) (fun z hz => hx z (by simp [hz])) hk.2.2⟩
    exact ⟨⟨by have := Trm.deps_ge t.t 0; omega, h.1.2⟩, key _ _ _ _ _ _ ih (fun x hx => by have := hd2.2 x hx; omega) h.2⟩
theorem Trm.okT_names {level c codes : Int} {free : Bool} (t : Trm) : ∀ {scope : List Int} {deep : Int} (deep2 : Int), t.okT level c codes free scope deep → ∀ m ∈ t.met scope deep2, namesB m.1.op = true → m.2.contains m.1.n = true := by
  induction t using Trm.ind with
  | h t ih =>
    intro scope deep deep2 h
    rw [Trm.okT_eq] at h
    have key : ∀ (op : Int) (sc inner : List Int) (deep deep2 : Int) (l : List Trm), (∀ y ∈ l, ∀ {scope : List Int} {deep : Int} (deep2 : Int), y.okT level c codes free scope deep → ∀ m ∈ y.met scope deep2, namesB m.1.op = true → m.2.contains m.1.n = true) →
        Trm.okTs level c codes free op sc inner l deep → ∀ m ∈ Trm.mets op sc inner l deep2, namesB m.1.op = true → m.2.contains m.1.n = true := by
      intro op sc inner deep deep2 l
      induction l with
      | nil => intro _ _; simp [Trm.mets]
      | cons x l ihl =>
        intro hy hk m hm
        rw [Trm.okTs] at hk
        rw [Trm.mets, List.mem_append] at hm
        rcases hm with hm | hm
        · have e : (if groupB op = true ∨ l = [] then inner else sc) = (if l = [] ∨ op = 7 ∨ op = 9 then inner else sc) := by
            by_cases h1 : l = [] <;> by_cases h2 : op = 7 <;> by_cases h3 : op = 9 <;> simp [groupB, h1, h2, h3]
          rw [e] at hm
          exact hy x (by simp) deep2 hk.2.1 m hm
        · exact ihl (fun z hz => hy z (by simp [hz])) hk.2.2 m hm
    intro m hm
    rw [Trm.met_eq] at hm
    rcases List.mem_cons.1 hm with rfl | hm
    · intro hn
      have h4 := h.1.2.2.2
      have ho : t.op = 1 ∨ t.op = 2 ∨ t.op = 14 := by simp [namesB] at hn; omega
      unfold numberL at h4
      rw [if_neg (by omega), if_pos ho] at h4
      exact h4
    · split at hm
      · cases hm
      · exact key _ _ _ _ _ _ ih h.2 m hm
theorem RightP.free {p : Prog} {level : Int} (h : RightP p level) : freeOf p.body.all = [] := by
  unfold freeOf
  rw [List.map_eq_nil_iff, List.filter_eq_nil_iff]
  intro m hm
  have := p.body.okT_names 0 h.2.2.1 m hm
  simp
  simpa using this
theorem RightP.seq {p : Prog} {level : Int} (h : RightP p level) (hd : p.body.dep < 400) (hc : p.body.cnt ≤ 300) : RightP ⟨p.consts, .mk 6 0 [] [p.body]⟩ level := by
  obtain ⟨h1, h2, h3, h4, h5⟩ := h
  refine ⟨h1, h2, ?_, ?_, ?_⟩
  · rw [Trm.okT, Trm.okTs, Trm.okTs]
    refine ⟨⟨by omega, ?_, ?_, ?_⟩, ⟨by simp, ?_, trivial⟩⟩
    · simp [sortsL]
    · simp [countsL, Trm.op, Trm.t, Trm.v]
    · simp [numberL, Trm.op, Trm.n]
    · rw [if_pos (.inl rfl)]
      exact Trm.okT_move _ h3 (by omega)
  · show Trm.cnt (.mk 6 0 [] [p.body]) ≤ 20000
    rw [Trm.cnt_eq]
    show 1 + Trm.cnts [p.body] ≤ 20000
    rw [Trm.cnts, Trm.cnts]; omega
  · show Dist (Trm.vars (.mk 6 0 [] [p.body])) []
    rw [Trm.vars_eq]
    show Dist ([] ++ Trm.varss [p.body]) []
    rw [Trm.varss, Trm.varss]
    simpa using h5
theorem Trm.cnt_bulk (t : Trm) : t.cnt ≤ t.bulk := by
  induction t using Trm.ind with
  | h t ih =>
    have : ∀ l : List Trm, (∀ x ∈ l, x.cnt ≤ x.bulk) → Trm.cnts l ≤ Trm.bulks l := by
      intro l
      induction l with
      | nil => intro _; simp [Trm.cnts, Trm.bulks]
      | cons y l ihl => intro h; rw [Trm.cnts, Trm.bulks]; have := h y (by simp); have := ihl fun x hx => h x (by simp [hx]); omega
    have := this t.t ih
    rw [Trm.cnt_eq, Trm.bulk_eq]; omega
end Go.Cb
namespace Go.Cb
open Go.Lib
def riseL (l : List Int) : List Int := compact (l.mergeSort fun x y => decide (x ≤ y))
theorem arr_get! {α : Type} [Inhabited α] {l : List α} {j : Nat} (h : j < l.length) : l.toArray[j]! = l[j] := by
  rw [getElem!_pos _ j (by simpa using h)]; simp
theorem mem_compact (l : List Int) (x : Int) : x ∈ compact l ↔ x ∈ l := by
  unfold compact compactUpTo
  simp only [List.mem_map, List.mem_filter, List.mem_range]
  constructor
  · rintro ⟨j, ⟨hj, _⟩, rfl⟩
    rw [arr_get! hj]
    exact List.getElem_mem hj
  · intro hx
    have key : ∀ n (j : Nat) (hj : j < l.length), j ≤ n → l[j] = x → ∃ i, (i < l.length ∧ keeps l.toArray i = true) ∧ l.toArray[i]! = x := by
      intro n
      induction n with
      | zero =>
        intro j hj hn e
        obtain rfl : j = 0 := by omega
        exact ⟨0, ⟨hj, keeps_lt_one _ 0 (by omega)⟩, by rw [arr_get! hj, e]⟩
      | succ n ih =>
        intro j hj hn e
        by_cases h0 : j = 0
        · subst h0
          exact ⟨0, ⟨hj, keeps_lt_one _ 0 (by omega)⟩, by rw [arr_get! hj, e]⟩
        by_cases hp : l[j - 1] = x
        · exact ih (j - 1) (by omega) (by omega) hp
        · refine ⟨j, ⟨hj, keeps_pos ?_⟩, by rw [arr_get! hj, e]⟩
          rw [arr_get! hj, arr_get! (show j - 1 < l.length by omega), e]
          exact fun h => hp h.symm
    obtain ⟨j, hj, e⟩ := List.getElem_of_mem hx
    exact key j j hj (Nat.le_refl _) e
theorem keeps_ne {l : List Int} {j : Nat} (h0 : 0 < j) (hj : j < l.length) (h : keeps l.toArray j = true) : l[j] ≠ l[j - 1] := by
  intro e
  have := keeps_neg (d := l.toArray) h0 (by rw [arr_get! hj, arr_get! (show j - 1 < l.length by omega)]; exact e)
  rw [this] at h; cases h
theorem compact_lt {l : List Int} (h : l.Pairwise (· ≤ ·)) : (compact l).Pairwise (· < ·) := by
  unfold compact compactUpTo
  rw [List.pairwise_map]
  refine List.Pairwise.imp_of_mem ?_ (List.Pairwise.filter _ List.pairwise_lt_range)
  intro i j hi hj hij
  simp only [List.mem_filter, List.mem_range] at hi hj
  rw [arr_get! hi.1, arr_get! hj.1]
  have h1 := keeps_ne (by omega) hj.1 hj.2
  have hp := List.pairwise_iff_getElem.1 h
  have h2 : l[j - 1] ≤ l[j] := hp (j - 1) j (by omega) hj.1 (by omega)
  have h3 : l[i] ≤ l[j - 1] := by
    by_cases e : i = j - 1
    · subst e; omega
    · exact hp i (j - 1) hi.1 (by omega) (by omega)
  omega
theorem mem_rise (l : List Int) (x : Int) : x ∈ riseL l ↔ x ∈ l := by
  unfold riseL
  rw [mem_compact, List.mem_mergeSort]
theorem sorted_le (l : List Int) : (l.mergeSort fun x y => decide (x ≤ y)).Pairwise (· ≤ ·) := by
  have := List.pairwise_mergeSort (le := fun x y : Int => decide (x ≤ y)) (by intro a b c; simp; omega) (by intro a b; simp; omega) l
  simpa using this
theorem rise_lt (l : List Int) : (riseL l).Pairwise (· < ·) := compact_lt (sorted_le l)
theorem lt_ext : ∀ {l m : List Int}, l.Pairwise (· < ·) → m.Pairwise (· < ·) → (∀ x, x ∈ l ↔ x ∈ m) → l = m
  | [], [], _, _, _ => rfl
  | [], y :: m, _, _, h => by have := (h y).2 (by simp); cases this
  | x :: l, [], _, _, h => by have := (h x).1 (by simp); cases this
  | x :: l, y :: m, hl, hm, h => by
    rw [List.pairwise_cons] at hl hm
    have hxy : x = y := by
      have h1 := (h x).1 (by simp)
      have h2 := (h y).2 (by simp)
      rw [List.mem_cons] at h1 h2
      rcases h1 with h1 | h1
      · exact h1
      · rcases h2 with h2 | h2
        · exact h2.symm
        · have := hl.1 _ h2; have := hm.1 _ h1; omega
    subst hxy
    rw [lt_ext hl.2 hm.2 fun z => ?_]
    have := h z
    simp only [List.mem_cons] at this
    constructor
    · intro hz
      have hlt := hl.1 z hz
      exact (this.1 (.inr hz)).resolve_left (by omega)
    · intro hz
      have hlt := hm.1 z hz
      exact (this.2 (.inr hz)).resolve_left (by omega)
theorem rise_len {l : List Int} (h : l.Nodup) : (riseL l).length = l.length := by
  have h1 : (riseL l).Nodup := (rise_lt l).imp fun h => by omega
  have : (riseL l).Perm l := (List.perm_ext_iff_of_nodup h1 h).2 (mem_rise l)
  exact this.length_eq
end Go.Cb
namespace Go.Cb
open Go.Proofs
set_option maxRecDepth 100000
set_option maxHeartbeats 4000000
end Go.Cb
namespace Go.Proofs
open Go.Shelf
def Tryz.lays189_ren : Go.Shelf.Ren := ⟨fun | 189 => 86 | 125 => 132 | 257 => 131 | 128 => 165 | 129 => 166 | 294 => 156 | 295 => 157 | 296 => 158 | 297 => 159 | 298 => 160 | 299 => 161 | 216 => 162 | 300 => 163 | 301 => 164 | 328 => 178 | 329 => 179 | 330 => 180 | 331 => 181 | 332 => 182 | 215 => 183 | 343 => 199 | n => n, fun | 28 => 23 | 3 => 3 | 46 => 158 | 0 => 0 | 51 => 183 | 53 => 185 | 4 => 4 | 183 => 177 | 182 => 176 | 131 => 169 | 5 => 5 | 9 => 9 | 218 => 194 | 222 => 198 | 228 => 216 | 229 => 165 | n => n, fun | n => n⟩
theorem Tryz.lays189 : Go.Proofs.Lays.n189 Tryz.prog Tryz.lays189_ren := {
  mixed := by kernel_rfl
  f125 := Tryz.func132.trans (congrArg some (by kernel_rfl))
  f128 := Tryz.func165.trans (congrArg some (by kernel_rfl))
  f129 := Tryz.func166.trans (congrArg some (by kernel_rfl))
  f189 := Tryz.func86.trans (congrArg some (by kernel_rfl))
  f215 := Tryz.func183.trans (congrArg some (by kernel_rfl))
  f216 := Tryz.func162.trans (congrArg some (by kernel_rfl))
  f257 := Tryz.func131.trans (congrArg some (by kernel_rfl))
  f294 := Tryz.func156.trans (congrArg some (by kernel_rfl))
  f295 := Tryz.func157.trans (congrArg some (by kernel_rfl))
  f296 := Tryz.func158.trans (congrArg some (by kernel_rfl))
  f297 := Tryz.func159.trans (congrArg some (by kernel_rfl))
  f298 := Tryz.func160.trans (congrArg some (by kernel_rfl))
  f299 := Tryz.func161.trans (congrArg some (by kernel_rfl))
  f300 := Tryz.func163.trans (congrArg some (by kernel_rfl))
  f301 := Tryz.func164.trans (congrArg some (by kernel_rfl))
  f328 := Tryz.func178.trans (congrArg some (by kernel_rfl))
  f329 := Tryz.func179.trans (congrArg some (by kernel_rfl))
  f330 := Tryz.func180.trans (congrArg some (by kernel_rfl))
  f331 := Tryz.func181.trans (congrArg some (by kernel_rfl))
  f332 := Tryz.func182.trans (congrArg some (by kernel_rfl))
  f343 := Tryz.func199.trans (congrArg some (by kernel_rfl))
  t0 := Tryz.underlying0
  a0 := Tryz.isAgg0
  z0 := Tryz.sizeOf0
  v0 := Tryz.zeroValue0
  t3 := Tryz.underlying3
  a3 := Tryz.isAgg3
  z3 := Tryz.sizeOf3
  v3 := Tryz.zeroValue3
  t4 := Tryz.underlying4
  a4 := Tryz.isAgg4
  z4 := Tryz.sizeOf4
  v4 := Tryz.zeroValue4
  t5 := Tryz.underlying5
  a5 := Tryz.isAgg5
  z5 := Tryz.sizeOf5
  v5 := Tryz.zeroValue5
  t9 := Tryz.underlying9
  a9 := Tryz.isAgg9
  z9 := Tryz.sizeOf9
  v9 := Tryz.zeroValue9
  t28 := Tryz.underlying23
  a28 := Tryz.isAgg23
  z28 := Tryz.sizeOf23
  v28 := Tryz.zeroValue23
  t46 := Tryz.underlying158
  a46 := Tryz.isAgg158
  z46 := Tryz.sizeOf158
  v46 := Tryz.zeroValue158
  t51 := Tryz.underlying183
  a51 := Tryz.isAgg183
  z51 := Tryz.sizeOf183
  v51 := Tryz.zeroValue183
  t53 := Tryz.underlying185
  a53 := Tryz.isAgg185
  z53 := Tryz.sizeOf185
  v53 := Tryz.zeroValue185
  t131 := Tryz.underlying169
  a131 := Tryz.isAgg169
  z131 := Tryz.sizeOf169
  v131 := Tryz.zeroValue169
  t182 := Tryz.underlying176
  a182 := Tryz.isAgg176
  z182 := Tryz.sizeOf176
  v182 := Tryz.zeroValue176
  t183 := Tryz.underlying177
  a183 := Tryz.isAgg177
  z183 := Tryz.sizeOf177
  v183 := Tryz.zeroValue177
  t218 := Tryz.underlying194
  a218 := Tryz.isAgg194
  z218 := Tryz.sizeOf194
  v218 := Tryz.zeroValue194
  t222 := Tryz.underlying198
  a222 := Tryz.isAgg198
  z222 := Tryz.sizeOf198
  v222 := Tryz.zeroValue198
  t228 := Tryz.underlying216
  a228 := Tryz.isAgg216
  z228 := Tryz.sizeOf216
  v228 := Tryz.zeroValue216
  t229 := Tryz.underlying165
  a229 := Tryz.isAgg165
  z229 := Tryz.sizeOf165
  v229 := Tryz.zeroValue165 }
def Tryz.laysNm220_ren : Go.Shelf.Ren := ⟨fun | 20 => 87 | n => n, fun | 22 => 23 | 3 => 3 | 4 => 4 | 0 => 0 | n => n, fun | n => n⟩
theorem Tryz.laysNm220 : Go.Proofs.Lays2.n20 Tryz.prog Tryz.laysNm220_ren := {
  mixed := by kernel_rfl
  f20 := Tryz.func87.trans (congrArg some (by kernel_rfl))
  t0 := Tryz.underlying0
  a0 := Tryz.isAgg0
  z0 := Tryz.sizeOf0
  v0 := Tryz.zeroValue0
  t3 := Tryz.underlying3
  a3 := Tryz.isAgg3
  z3 := Tryz.sizeOf3
  v3 := Tryz.zeroValue3
  t4 := Tryz.underlying4
  a4 := Tryz.isAgg4
  z4 := Tryz.sizeOf4
  v4 := Tryz.zeroValue4
  t22 := Tryz.underlying23
  a22 := Tryz.isAgg23
  z22 := Tryz.sizeOf23
  v22 := Tryz.zeroValue23
  i3 := by kernel_rfl }
end Go.Proofs
namespace Go.Cb
open Go.Proofs Go.Sort
open Go.RowKit (Below)
set_option maxRecDepth 100000
set_option maxHeartbeats 4000000
theorem flat_ints : ∀ l : List Int, flat (l.map (PV.int .i64)) = l.map (PV.int .i64)
  | [] => rfl
  | x :: l => by
    have := flat_ints l
    simp only [flat, List.map_cons, List.flatMap_cons, PV.cellsOf] at this ⊢
    rw [this]; rfl
theorem repL_ints (F : Fz) : ∀ l : List Int, RepL F (l.map (PV.int .i64)) (l.map (Value.int .i64))
  | [] => RepL_nil F
  | x :: l => RepL_cons.2 ⟨⟨rfl, by simp only [Rep]⟩, repL_ints F l⟩
theorem repL_ints_eq {F : Fz} : ∀ {l : List Int} {xs : List Value}, RepL F (l.map (PV.int .i64)) xs → xs = l.map (Value.int .i64)
  | [], [], _ => rfl
  | [], _ :: _, h => by simp only [List.map_nil, RepL] at h
  | _ :: _, [], h => by simp only [List.map_cons, RepL] at h
  | x :: l, v :: xs, h => by
    have h := RepL_cons.1 h
    have h1 : v = .int .i64 x := by simpa only [Rep] using h.1.2
    rw [h1, repL_ints_eq h.2]; rfl
theorem Sim.putInts {w0 : World} {F : Fz} {M : List Ent} {w : World} {t : Tok} {l ts : List Int} (h : Sim w0 F (.row t (l.map (PV.int .i64)) :: M) w) (hs : t.s = 1) (hlen : ts.length = l.length) {g : Nat} (hg : t.b = some g) (q : Nat) (os : Array Obj) :
    Sim w0 F (.row t (ts.map (PV.int .i64)) :: M) (grow (putRow (Value.int .i64) (Sort.ahead w q) g 0 ts.toArray) os) := by
  obtain ⟨⟨xs, hown, hr⟩, hes, e2, hfree⟩ := h.ent _ (List.mem_cons_self ..)
  rcases hown.2 with ⟨h1, _⟩ | ⟨g', cap, cur, hb, hv, hB, hh, hnc, hcm, hsz, htake⟩
  · rw [h1] at hg; cases hg
  obtain rfl : g' = g := by rw [hb] at hg; simpa using hg
  have hsep := List.pairwise_cons.1 h.sep
  have hgr : w.grownBy (grow (putRow (Value.int .i64) (Sort.ahead w q) g' 0 ts.toArray) os) (some g') := grownBy_sortedI ts.toArray
  have hn : l.length = t.n := by simpa using e2
  have hfl : flat (ts.map (PV.int .i64)) = ts.map (PV.int .i64) := flat_ints ts
  refine Sim.rowE (t := t) (ys := ts.map (PV.int .i64)) (xs := ts.map (Value.int .i64)) h.tail ((Below.refl _ w).grown hgr h.below.size fun k hk => by simp at hk; omega) ?_ (by simp [hs, PV.cellsOf]) (by simp; omega) (by rw [hfl]; exact repL_ints F ts) ?_ ?_ hfree
  · refine ⟨by simp [hs]; omega, .inr ⟨g', cap, _, hb, hv, hB, heap_sortedI ts.toArray hh, hnc, hcm, by simp [putCells, hsz], ?_⟩⟩
    have : t.n * t.s = ts.length := by rw [hs]; omega
    rw [this]
    exact take_putCellsI cur ts (by rw [hsz, hs]; omega)
  · intro b o u x
    have hne : b ≠ g' := fun e => by rw [e, hfree g' hb o] at x; cases x
    have hlt := World.block_lt_of_cell? w _ (h.fz b o u x)
    rw [World.cell?_of_block (w := w) (hgr.block b hlt (by simp; omega))]
    exact h.fz b o u x
  · intro e he k hk
    have hne : t.b ≠ some k := by
      rcases hsep.1 e he with hh | hh
      · simp only [Ent.blk] at hh; rw [hh]; simp
      · intro hx; exact hh (by rw [hk]; exact hx)
    have hlt := (Ent.blk_lt (h.ent e (List.mem_cons_of_mem _ he)) hk).2
    exact ⟨hgr.block k hlt (by rw [hb] at hne; exact fun e => hne e.symm), hne⟩
theorem compact_len (l : List Int) : (Lib.compact l).length ≤ l.length := by
  unfold Lib.compact Lib.compactUpTo
  rw [List.length_map]
  exact Nat.le_trans (List.length_filter_le _ _) (by simp)
theorem row_ints {w0 : World} {F : Fz} {M : List Ent} {w : World} {t : Tok} {l : List Int} (h : Sim w0 F (.row t (l.map (PV.int .i64)) :: M) w) (hs : t.s = 1) :
    (l = [] ∧ ∃ p, t.v = .slice p 0 0) ∨ ∃ g cap, t.b = some g ∧ t.v = .slice (some ⟨g, 0, none⟩) l.length cap ∧ Holds (Value.int .i64) w g 0 l.toArray ∧ g < w.heap.size ∧ l.length ≤ cap ∧ t.n = l.length := by
  obtain ⟨⟨xs, hown, hr⟩, hes, e2, hfree⟩ := h.ent _ (List.mem_cons_self ..)
  have hn : l.length = t.n := by simpa using e2
  rcases hown.2 with ⟨h1, h2, h3⟩ | ⟨g, cap, cur, hb, hv, hB, hh, hnc, hcm, hsz, htake⟩
  · refine .inl ⟨List.eq_nil_of_length_eq_zero (by omega), ?_⟩
    rcases h3 with h3 | ⟨a, h3⟩
    · exact ⟨none, h3⟩
    · exact ⟨some a, h3⟩
  · rw [flat_ints] at hr
    have hx := repL_ints_eq hr
    refine .inr ⟨g, cap, hb, by rw [hn]; exact hv, holds_of_blockI (e := t.e) (cur := cur) hh (by rw [← hx, ← htake, hs, hn, Nat.mul_one]), (Array.getElem?_eq_some_iff.1 hh).1, by omega, hn.symm⟩
theorem sort_c (t : Tok) (l : List Int) (hs : t.s = 1) (hl : l.length ≤ 1000000000) :
    ACall Tryz.prog 86 [.ms t] [.row t (l.map (PV.int .i64))] (fun y Γ' => y = .tup [] ∧ Γ' = [.row t ((l.mergeSort fun x y => decide (x ≤ y)).map (PV.int .i64))]) := by
  refine ⟨⟨_, Tryz.func86, rfl, rfl⟩, fun w0 F M w vs hS hT => ?_⟩
  obtain rfl : vs = [t.v] := by
    match vs, hT with
    | [v], hT => simp only [RepT, Rep, and_true] at hT; rw [hT.1]
  rcases row_ints hS hs with ⟨rfl, p, hv⟩ | ⟨g, cap, hb, hv, hH, hg, hc, hn⟩
  · rw [hv]
    refine (Any.slices_Sort_int_none Tryz.lays189 p 0 w).mono ?_
    rintro e w' ⟨rfl, rfl⟩
    exact ⟨_, F, .tup [], _, rfl, Fz.le_refl F, hS, by simp only [Rep]; exact ⟨[], rfl, by simp [RepT]⟩, rfl, by simp⟩
  · rw [hv]
    refine (Any.slices_Sort_int Tryz.lays189 g 0 cap l w hH hg (by omega)).mono ?_
    rintro e w' ⟨rfl, q, os, rfl⟩
    exact ⟨_, F, .tup [], _, rfl, Fz.le_refl F, hS.putInts hs (by simp) hb q os, by simp only [Rep]; exact ⟨[], rfl, by simp [RepT]⟩, rfl, rfl⟩
theorem compact_c (t : Tok) (l : List Int) (hs : t.s = 1) (hl : l.length ≤ 1000000000) :
    ACall Tryz.prog 87 [.ms t] [.row t (l.map (PV.int .i64))] (fun y Γ' => ∃ t' : Tok, t'.e = t.e ∧ t'.s = 1 ∧ y = .ms t' ∧ Γ' = [.row t' ((Lib.compact l).map (PV.int .i64))]) := by
  refine ⟨⟨_, Tryz.func87, rfl, rfl⟩, fun w0 F M w vs hS hT => ?_⟩
  obtain ⟨rfl, h1⟩ : vs = [t.v] ∧ t.v.oneCell' = true := by
    match vs, hT with
    | [v], hT => simp only [RepT, Rep, and_true] at hT; rw [hT.1]; exact ⟨rfl, hT.2⟩
  rcases row_ints hS hs with ⟨rfl, p, hv⟩ | ⟨g, cap, hb, hv, hH, hg, hc, hn⟩
  · rw [hv]
    refine (Any.slices_Compact_int_empty Tryz.laysNm220 p 0 w).mono ?_
    rintro e w' ⟨rfl, rfl⟩
    exact ⟨_, F, .ms t, _, rfl, Fz.le_refl F, hS, by simp only [Rep]; exact ⟨hv.symm, h1⟩, t, rfl, hs, rfl, by simp [Lib.compact, Lib.compactUpTo]⟩
  · rw [hv]
    refine (Any.slices_Compact_int Tryz.laysNm220 g 0 cap l w hH (by omega) hc).mono ?_
    rintro e w' ⟨rfl, q, rfl⟩
    have hle := compact_len l
    have h2 := hS.putInts (ts := Lib.compact l ++ List.replicate (l.length - (Lib.compact l).length) 0) hs (by simp; omega) hb q #[]
    rw [grow_empty] at h2
    have h3 := Sim.take_row (M1 := []) h2 hb (by rw [hn]; exact hv) (Lib.compact l).length (by simp)
    have fin : ∀ T : Tok, T = ⟨.slice (some ⟨g, 0, none⟩) (Lib.compact l).length cap, (Lib.compact l).length, t.s, t.e, some g⟩ → ∃ v F' y Γ', (Ending.returned (.slice (some ⟨g, 0, none⟩) (Lib.compact l).length cap)) = .returned v ∧ F.le F' ∧ Sim w0 F' (Γ' ++ M) (putRow (Value.int .i64) (Sort.ahead w q) g 0 (Lib.compact l ++ List.replicate (l.length - (Lib.compact l).length) 0).toArray) ∧ Rep F' y v ∧ ∃ t' : Tok, t'.e = t.e ∧ t'.s = 1 ∧ y = .ms t' ∧ Γ' = [.row t' ((Lib.compact l).map (PV.int .i64))] := by
      intro T hT
      subst hT
      refine ⟨_, F, .ms ⟨.slice (some ⟨g, 0, none⟩) (Lib.compact l).length cap, (Lib.compact l).length, t.s, t.e, some g⟩, [.row ⟨.slice (some ⟨g, 0, none⟩) (Lib.compact l).length cap, (Lib.compact l).length, t.s, t.e, some g⟩ ((Lib.compact l).map (PV.int .i64))], rfl, Fz.le_refl F, ?_, by unfold Rep; exact ⟨rfl, rfl⟩, ⟨.slice (some ⟨g, 0, none⟩) (Lib.compact l).length cap, (Lib.compact l).length, t.s, t.e, some g⟩, rfl, hs, rfl, rfl⟩
      simpa using h3
    exact fin _ rfl
end Go.Cb
namespace Go.Cb
open Go.Proofs
set_option maxRecDepth 100000
set_option maxHeartbeats 4000000
theorem rising_c (t : Tok) (l : List Int) (hs : t.s = 1) (hl : l.length ≤ 1000000000) :
    ACall Tryz.prog 51 [.ms t] [.row t (l.map (PV.int .i64))] (fun y Γ' => ∃ t' : Tok, t'.e = t.e ∧ t'.s = 1 ∧ y = .ms t' ∧ Γ' = [.row t' ((riseL l).map (PV.int .i64))]) := by
  refine ACall.of_body tt_ok Tryz.func51 rfl rfl (n := 7) rfl rfl ?_
  conv => whnf
  repeat ((first | ((first | (apply zY;intro hg) | apply zZ);first | exact stA) | (refine zW ?_ ?_;exact gA) | refine zH rfl ?_ | refine zA ?_ | refine zI bA ?_ | refine zI rfl ?_ | refine zJ rfl rfl ?_ | refine zB ?_ | refine zK rfl ?_ | refine zL rfl ?_ | refine zC ?_ | (refine zO ?_ ?_ ?_;omega;omega) | (refine zP ?_ ?_ ?_;omega;omega) | refine zM rfl ?_ | (refine zQ ?_ ?_ ?_;omega;omega) | (refine zR ?_ ?_;omega) | (refine zI ?_ ?_;exact nA) | (refine zS ?_ ?_ ?_;omega;omega) | (refine zT ?_ ?_ ?_;omega;omega) | (refine zU ?_ ?_ ?_;omega;omega) | (refine zV ?_ ?_ ?_;omega;omega) | refine zN rfl rfl rfl ?_ | refine zD ?_ | refine zE ?_ | refine zF ?_ | intro _);conv=>whnf)
  conv => whnf
  repeat' (first | ((first | ((first | (apply zY;intro hg) | apply zZ);first | exact stA) | (refine zW ?_ ?_;exact gA) | refine zH rfl ?_ | refine zA ?_ | refine zI bA ?_ | refine zI rfl ?_ | refine zJ rfl rfl ?_ | refine zB ?_ | refine zK rfl ?_ | refine zL rfl ?_ | refine zC ?_ | (refine zO ?_ ?_ ?_;omega;omega) | (refine zP ?_ ?_ ?_;omega;omega) | refine zM rfl ?_ | (refine zQ ?_ ?_ ?_;omega;omega) | (refine zR ?_ ?_;omega) | (refine zI ?_ ?_;exact nA) | (refine zS ?_ ?_ ?_;omega;omega) | (refine zT ?_ ?_ ?_;omega;omega) | (refine zU ?_ ?_ ?_;omega;omega) | (refine zV ?_ ?_ ?_;omega;omega) | refine zN rfl rfl rfl ?_ | refine zD ?_ | refine zE ?_ | refine zF ?_ | intro _ | refine zG ?_);conv=>whnf) | (refine zX (fun hc => ?_) (fun hc => ?_)<;>(try simp only [SY] at hc)<;>first | omega | (conv=>whnf)))
  refine PCall.go (sort_c t l hs hl) (WkT.refl _) ?_
  rintro _ _ ⟨rfl, rfl⟩
  conv => whnf
  repeat' (first | ((first | ((first | (apply zY;intro hg) | apply zZ);first | exact stA) | (refine zW ?_ ?_;exact gA) | refine zH rfl ?_ | refine zA ?_ | refine zI bA ?_ | refine zI rfl ?_ | refine zJ rfl rfl ?_ | refine zB ?_ | refine zK rfl ?_ | refine zL rfl ?_ | refine zC ?_ | (refine zO ?_ ?_ ?_;omega;omega) | (refine zP ?_ ?_ ?_;omega;omega) | refine zM rfl ?_ | (refine zQ ?_ ?_ ?_;omega;omega) | (refine zR ?_ ?_;omega) | (refine zI ?_ ?_;exact nA) | (refine zS ?_ ?_ ?_;omega;omega) | (refine zT ?_ ?_ ?_;omega;omega) | (refine zU ?_ ?_ ?_;omega;omega) | (refine zV ?_ ?_ ?_;omega;omega) | refine zN rfl rfl rfl ?_ | refine zD ?_ | refine zE ?_ | refine zF ?_ | intro _ | refine zG ?_);conv=>whnf) | (refine zX (fun hc => ?_) (fun hc => ?_)<;>(try simp only [SY] at hc)<;>first | omega | (conv=>whnf)))
  refine PCall.go (compact_c t (l.mergeSort fun x y => decide (x ≤ y)) hs (by simp; omega)) (WkT.refl _) ?_
  rintro _ _ ⟨t2, e2, s2, rfl, rfl⟩
  conv => whnf
  repeat' (first | ((first | ((first | (apply zY;intro hg) | apply zZ);first | exact stA) | (refine zW ?_ ?_;exact gA) | refine zH rfl ?_ | refine zA ?_ | refine zI bA ?_ | refine zI rfl ?_ | refine zJ rfl rfl ?_ | refine zB ?_ | refine zK rfl ?_ | refine zL rfl ?_ | refine zC ?_ | (refine zO ?_ ?_ ?_;omega;omega) | (refine zP ?_ ?_ ?_;omega;omega) | refine zM rfl ?_ | (refine zQ ?_ ?_ ?_;omega;omega) | (refine zR ?_ ?_;omega) | (refine zI ?_ ?_;exact nA) | (refine zS ?_ ?_ ?_;omega;omega) | (refine zT ?_ ?_ ?_;omega;omega) | (refine zU ?_ ?_ ?_;omega;omega) | (refine zV ?_ ?_ ?_;omega;omega) | refine zN rfl rfl rfl ?_ | refine zD ?_ | refine zE ?_ | refine zF ?_ | intro _ | refine zG ?_);conv=>whnf) | (refine zX (fun hc => ?_) (fun hc => ?_)<;>(try simp only [SY] at hc)<;>first | omega | (conv=>whnf)))
  have e : Lib.compact (l.mergeSort fun x y => decide (x ≤ y)) = riseL l := rfl
  rw [e]
  exact PRet.gen (Wk.refl _) ⟨t2, e2, s2, rfl, rfl⟩
def bindsOf (l : List (Trm × List Int)) : List Int := l.flatMap fun m => m.1.v
theorem bindsOf_take (l : List (Trm × List Int)) (k : Nat) : (bindsOf (l.take k)).length ≤ (bindsOf l).length := by
  have := congrArg List.length (congrArg bindsOf (List.take_append_drop k l))
  unfold bindsOf at this ⊢
  rw [List.flatMap_append, List.length_append] at this
  omega
theorem Trm.met_vlen (t : Trm) : ∀ (sc : List Int) (deep : Int), (bindsOf (t.met sc deep)).length ≤ t.bulk := by
  induction t using Trm.ind with
  | h t ih =>
    intro sc deep
    rw [Trm.met_eq, t.bulk_eq]
    have key : ∀ (l : List Trm), (∀ y ∈ l, ∀ (sc : List Int) (deep : Int), (bindsOf (y.met sc deep)).length ≤ y.bulk) → ∀ sc inner deep, (bindsOf (Trm.mets t.op sc inner l deep)).length ≤ Trm.bulks l := by
      intro l
      induction l with
      | nil => intro _ _ _ _; simp [Trm.mets, bindsOf]
      | cons x l ihl =>
        intro hy sc inner deep
        have h1 := hy x (by simp) (if groupB t.op = true ∨ l = [] then inner else sc) deep
        have h2 := ihl (fun y h => hy y (by simp [h])) sc inner deep
        unfold bindsOf at h1 h2 ⊢
        rw [Trm.mets, Trm.bulks, List.flatMap_append, List.length_append]
        omega
    have := key t.t ih sc (sc ++ t.v) (deep + 1)
    unfold bindsOf at this ⊢
    rw [List.flatMap_cons, List.length_append]
    split
    · simp; omega
    · show t.v.length + _ ≤ _
      omega
theorem binds_c0 (t : Trm) (hb : t.bulk ≤ 1000000000) : ACall Tryz.prog 20 [.agg t.cells] [] (fun y Γ' => ∃ tk : Tok, tk.e = 3 ∧ tk.s = 1 ∧ y = .ms tk ∧ Γ' = [.row tk ((riseL (bindsOf t.all)).map (PV.int .i64))]) := by
  have hlen : (bindsOf t.all).length ≤ t.bulk := t.met_vlen [] 0
  refine ACall.of_body tt_ok Tryz.func20 rfl rfl (n := 15) rfl rfl ?_
  conv => whnf
  repeat ((first | ((first | (apply zY;intro hg) | apply zZ);first | exact stA | ((conv=>whnf);(repeat ((first | (refine zW ?_ ?_;exact gA) | refine pC (names_c m.1) wR ?_ | refine pC (names_c m.1) cA ?_ | refine pC (containsInt_c m.2 m.1.n) wR ?_ | refine pC (containsInt_c m.2 m.1.n) cA ?_ | intro _);conv=>whnf));first | exact pS | exact pL | exact pE)) | (refine zW ?_ ?_;exact gA) | refine zH rfl ?_ | refine zA ?_ | refine zI bA ?_ | refine zI rfl ?_ | refine zJ rfl rfl ?_ | refine zB ?_ | refine zK rfl ?_ | refine zL rfl ?_ | refine zC ?_ | (refine zO ?_ ?_ ?_;omega;omega) | (refine zP ?_ ?_ ?_;omega;omega) | refine zM rfl ?_ | (refine zQ ?_ ?_ ?_;omega;omega) | (refine zR ?_ ?_;omega) | (refine zI ?_ ?_;exact nA) | (refine zS ?_ ?_ ?_;omega;omega) | (refine zT ?_ ?_ ?_;omega;omega) | (refine zU ?_ ?_ ?_;omega;omega) | (refine zV ?_ ?_ ?_;omega;omega) | refine pC (names_c m.1) wR ?_ | refine pC (names_c m.1) cA ?_ | refine pC (containsInt_c m.2 m.1.n) wR ?_ | refine pC (containsInt_c m.2 m.1.n) cA ?_ | refine zN rfl rfl rfl ?_ | refine zD ?_ | refine zE ?_ | refine zF ?_ | intro _);conv=>whnf)
  conv => whnf
  repeat' (first | ((first | ((first | (apply zY;intro hg) | apply zZ);first | exact stA | ((conv=>whnf);(repeat ((first | (refine zW ?_ ?_;exact gA) | refine pC (names_c m.1) wR ?_ | refine pC (names_c m.1) cA ?_ | refine pC (containsInt_c m.2 m.1.n) wR ?_ | refine pC (containsInt_c m.2 m.1.n) cA ?_ | intro _);conv=>whnf));first | exact pS | exact pL | exact pE)) | (refine zW ?_ ?_;exact gA) | refine zH rfl ?_ | refine zA ?_ | refine zI bA ?_ | refine zI rfl ?_ | refine zJ rfl rfl ?_ | refine zB ?_ | refine zK rfl ?_ | refine zL rfl ?_ | refine zC ?_ | (refine zO ?_ ?_ ?_;omega;omega) | (refine zP ?_ ?_ ?_;omega;omega) | refine zM rfl ?_ | (refine zQ ?_ ?_ ?_;omega;omega) | (refine zR ?_ ?_;omega) | (refine zI ?_ ?_;exact nA) | (refine zS ?_ ?_ ?_;omega;omega) | (refine zT ?_ ?_ ?_;omega;omega) | (refine zU ?_ ?_ ?_;omega;omega) | (refine zV ?_ ?_ ?_;omega;omega) | refine pC (names_c m.1) wR ?_ | refine pC (names_c m.1) cA ?_ | refine pC (containsInt_c m.2 m.1.n) wR ?_ | refine pC (containsInt_c m.2 m.1.n) cA ?_ | refine zN rfl rfl rfl ?_ | refine zD ?_ | refine zE ?_ | refine zF ?_ | intro _ | refine zG ?_);conv=>whnf) | (refine zX (fun hc => ?_) (fun hc => ?_)<;>(try simp only [SY] at hc)<;>first | omega | (conv=>whnf)))
  rename_i bt bo
  refine PCall.goG (Ghost.trans (Ghost.nilRow 1 3 _) (Ghost.box (b := bo) (cs := [.nil]) (cs' := [.ms (nilTok 1 3)]) (.cons (Wk.nilRow 1 3) .nil))) (all_c t) (WkT.refl _) ?_
  rintro _ _ ⟨b, rfl, rfl⟩
  conv => whnf
  repeat ((first | ((first | (apply zY;intro hg) | apply zZ);first | exact stA | ((conv=>whnf);(repeat ((first | (refine zW ?_ ?_;exact gA) | refine pC (names_c m.1) wR ?_ | refine pC (names_c m.1) cA ?_ | refine pC (containsInt_c m.2 m.1.n) wR ?_ | refine pC (containsInt_c m.2 m.1.n) cA ?_ | intro _);conv=>whnf));first | exact pS | exact pL | exact pE)) | (refine zW ?_ ?_;exact gA) | refine zH rfl ?_ | refine zA ?_ | refine zI bA ?_ | refine zI rfl ?_ | refine zJ rfl rfl ?_ | refine zB ?_ | refine zK rfl ?_ | refine zL rfl ?_ | refine zC ?_ | (refine zO ?_ ?_ ?_;omega;omega) | (refine zP ?_ ?_ ?_;omega;omega) | refine zM rfl ?_ | (refine zQ ?_ ?_ ?_;omega;omega) | (refine zR ?_ ?_;omega) | (refine zI ?_ ?_;exact nA) | (refine zS ?_ ?_ ?_;omega;omega) | (refine zT ?_ ?_ ?_;omega;omega) | (refine zU ?_ ?_ ?_;omega;omega) | (refine zV ?_ ?_ ?_;omega;omega) | refine pC (names_c m.1) wR ?_ | refine pC (names_c m.1) cA ?_ | refine pC (containsInt_c m.2 m.1.n) wR ?_ | refine pC (containsInt_c m.2 m.1.n) cA ?_ | refine zN rfl rfl rfl ?_ | refine zD ?_ | refine zE ?_ | refine zF ?_ | intro _);conv=>whnf)
  refine PRange.go (t.all.map fun m => [metP m]) (fun s : Tok × List Int => [.box bo [.ms s.1], .row s.1 (s.2.map (PV.int .i64))]) (fun k s => s.1.e = 3 ∧ s.1.s = 1 ∧ s.2 = bindsOf (t.all.take k)) (fun _ _ => False) (nilTok 1 3, []) (all1_c b t hb) ⟨rfl, rfl, rfl⟩
    (hp := (inferInstance : PickL _ [.box bo [.ms (nilTok 1 3)], .row (nilTok 1 3) [], .box b t.cells] _)) (by intro ys hy; obtain ⟨m, _, rfl⟩ := List.mem_map.1 hy; rfl) ?_ ?_ (fun _ _ _ h => h.elim)
  · rintro k ys ⟨tk, l⟩ hk ⟨k1, k2, k3⟩
    dsimp only at k1 k2 k3 ⊢
    obtain ⟨m, hm, rfl⟩ : ∃ m, t.all[k]? = some m ∧ ys = [metP m] := by
      rw [List.getElem?_map] at hk
      cases h : t.all[k]? with
      | none => rw [h] at hk; cases hk
      | some m => rw [h] at hk; cases hk; exact ⟨m, rfl, rfl⟩
    obtain ⟨hlt, hmg⟩ := List.getElem?_eq_some_iff.1 hm
    have hst : bindsOf (t.all.take (k + 1)) = bindsOf (t.all.take k) ++ m.1.v := by
      rw [List.take_succ_eq_append_getElem hlt, bindsOf, List.flatMap_append, hmg]
      simp [bindsOf]
    have hll : l.length + m.1.v.length ≤ 1000000000 := by
      have h1 : (bindsOf (t.all.take (k + 1))).length ≤ (bindsOf t.all).length := bindsOf_take _ _
      rw [hst, List.length_append, ← k3] at h1
      omega
    conv => whnf
    repeat' (first | ((first | ((first | (apply zY;intro hg) | apply zZ);first | exact stA | ((conv=>whnf);(repeat ((first | (refine zW ?_ ?_;exact gA) | refine pC (names_c m.1) wR ?_ | refine pC (names_c m.1) cA ?_ | refine pC (containsInt_c m.2 m.1.n) wR ?_ | refine pC (containsInt_c m.2 m.1.n) cA ?_ | intro _);conv=>whnf));first | exact pS | exact pL | exact pE)) | (refine zW ?_ ?_;exact gA) | refine zH rfl ?_ | refine zA ?_ | refine zI bA ?_ | refine zI rfl ?_ | refine zJ rfl rfl ?_ | refine zB ?_ | refine zK rfl ?_ | refine zL rfl ?_ | refine zC ?_ | (refine zO ?_ ?_ ?_;omega;omega) | (refine zP ?_ ?_ ?_;omega;omega) | refine zM rfl ?_ | (refine zQ ?_ ?_ ?_;omega;omega) | (refine zR ?_ ?_;omega) | (refine zI ?_ ?_;exact nA) | (refine zS ?_ ?_ ?_;omega;omega) | (refine zT ?_ ?_ ?_;omega;omega) | (refine zU ?_ ?_ ?_;omega;omega) | (refine zV ?_ ?_ ?_;omega;omega) | refine pC (names_c m.1) wR ?_ | refine pC (names_c m.1) cA ?_ | refine pC (containsInt_c m.2 m.1.n) wR ?_ | refine pC (containsInt_c m.2 m.1.n) cA ?_ | refine zN rfl rfl rfl ?_ | refine zD ?_ | refine zE ?_ | refine zF ?_ | intro _ | refine zG ?_);conv=>whnf) | (refine zX (fun hc => ?_) (fun hc => ?_)<;>(try simp only [SY] at hc)<;>first | omega | (conv=>whnf)))
    refine ⟨rfl, ?_⟩
    conv => whnf
    repeat' (first | ((first | ((first | (apply zY;intro hg) | apply zZ);first | exact stA | ((conv=>whnf);(repeat ((first | (refine zW ?_ ?_;exact gA) | refine pC (names_c m.1) wR ?_ | refine pC (names_c m.1) cA ?_ | refine pC (containsInt_c m.2 m.1.n) wR ?_ | refine pC (containsInt_c m.2 m.1.n) cA ?_ | intro _);conv=>whnf));first | exact pS | exact pL | exact pE)) | (refine zW ?_ ?_;exact gA) | refine zH rfl ?_ | refine zA ?_ | refine zI bA ?_ | refine zI rfl ?_ | refine zJ rfl rfl ?_ | refine zB ?_ | refine zK rfl ?_ | refine zL rfl ?_ | refine zC ?_ | (refine zO ?_ ?_ ?_;omega;omega) | (refine zP ?_ ?_ ?_;omega;omega) | refine zM rfl ?_ | (refine zQ ?_ ?_ ?_;omega;omega) | (refine zR ?_ ?_;omega) | (refine zI ?_ ?_;exact nA) | (refine zS ?_ ?_ ?_;omega;omega) | (refine zT ?_ ?_ ?_;omega;omega) | (refine zU ?_ ?_ ?_;omega;omega) | (refine zV ?_ ?_ ?_;omega;omega) | refine pC (names_c m.1) wR ?_ | refine pC (names_c m.1) cA ?_ | refine pC (containsInt_c m.2 m.1.n) wR ?_ | refine pC (containsInt_c m.2 m.1.n) cA ?_ | refine zN rfl rfl rfl ?_ | refine zD ?_ | refine zE ?_ | refine zF ?_ | intro _ | refine zG ?_);conv=>whnf) | (refine zX (fun hc => ?_) (fun hc => ?_)<;>(try simp only [SY] at hc)<;>first | omega | (conv=>whnf)))
    refine PAppend.rowList (f := PV.int .i64) (l := l) (m := m.1.v) k1 k2 (Wk.tok _ _ _) (by omega) (by show _ * 8 ≤ _; omega) (fun t3 e3 s3 => ?_)
    conv => whnf
    repeat ((first | ((first | (apply zY;intro hg) | apply zZ);first | exact stA | ((conv=>whnf);(repeat ((first | (refine zW ?_ ?_;exact gA) | refine pC (names_c m.1) wR ?_ | refine pC (names_c m.1) cA ?_ | refine pC (containsInt_c m.2 m.1.n) wR ?_ | refine pC (containsInt_c m.2 m.1.n) cA ?_ | intro _);conv=>whnf));first | exact pS | exact pL | exact pE)) | (refine zW ?_ ?_;exact gA) | refine zH rfl ?_ | refine zA ?_ | refine zI bA ?_ | refine zI rfl ?_ | refine zJ rfl rfl ?_ | refine zB ?_ | refine zK rfl ?_ | refine zL rfl ?_ | refine zC ?_ | (refine zO ?_ ?_ ?_;omega;omega) | (refine zP ?_ ?_ ?_;omega;omega) | refine zM rfl ?_ | (refine zQ ?_ ?_ ?_;omega;omega) | (refine zR ?_ ?_;omega) | (refine zI ?_ ?_;exact nA) | (refine zS ?_ ?_ ?_;omega;omega) | (refine zT ?_ ?_ ?_;omega;omega) | (refine zU ?_ ?_ ?_;omega;omega) | (refine zV ?_ ?_ ?_;omega;omega) | refine pC (names_c m.1) wR ?_ | refine pC (names_c m.1) cA ?_ | refine pC (containsInt_c m.2 m.1.n) wR ?_ | refine pC (containsInt_c m.2 m.1.n) cA ?_ | refine zN rfl rfl rfl ?_ | refine zD ?_ | refine zE ?_ | refine zF ?_ | intro _);conv=>whnf)
    exact roundEnd (k := k) (G := fun s : Tok × List Int => [.box bo [.ms s.1], .row s.1 (s.2.map (PV.int .i64))]) (I := fun k s => s.1.e = 3 ∧ s.1.s = 1 ∧ s.2 = bindsOf (t.all.take k)) (X := fun _ _ => False) (t3, l ++ m.1.v) ⟨e3, s3, by show l ++ m.1.v = bindsOf (t.all.take (k + 1)); rw [hst, k3]⟩ (hp := (inferInstance : PickL _ [.box bo [.ms t3], .row t3 ((l ++ m.1.v).map (PV.int .i64))] _))
  · rintro bd ⟨tk, l⟩ ⟨k1, k2, k3⟩
    dsimp only at k1 k2 k3 ⊢
    rw [List.length_map, List.take_length] at k3
    subst k3
    have hfl : (bindsOf t.all).length ≤ 1000000000 := by omega
    conv => whnf
    repeat' (first | ((first | ((first | (apply zY;intro hg) | apply zZ);first | exact stA | ((conv=>whnf);(repeat ((first | (refine zW ?_ ?_;exact gA) | refine pC (names_c m.1) wR ?_ | refine pC (names_c m.1) cA ?_ | refine pC (containsInt_c m.2 m.1.n) wR ?_ | refine pC (containsInt_c m.2 m.1.n) cA ?_ | intro _);conv=>whnf));first | exact pS | exact pL | exact pE)) | (refine zW ?_ ?_;exact gA) | refine zH rfl ?_ | refine zA ?_ | refine zI bA ?_ | refine zI rfl ?_ | refine zJ rfl rfl ?_ | refine zB ?_ | refine zK rfl ?_ | refine zL rfl ?_ | refine zC ?_ | (refine zO ?_ ?_ ?_;omega;omega) | (refine zP ?_ ?_ ?_;omega;omega) | refine zM rfl ?_ | (refine zQ ?_ ?_ ?_;omega;omega) | (refine zR ?_ ?_;omega) | (refine zI ?_ ?_;exact nA) | (refine zS ?_ ?_ ?_;omega;omega) | (refine zT ?_ ?_ ?_;omega;omega) | (refine zU ?_ ?_ ?_;omega;omega) | (refine zV ?_ ?_ ?_;omega;omega) | refine pC (names_c m.1) wR ?_ | refine pC (names_c m.1) cA ?_ | refine pC (containsInt_c m.2 m.1.n) wR ?_ | refine pC (containsInt_c m.2 m.1.n) cA ?_ | refine zN rfl rfl rfl ?_ | refine zD ?_ | refine zE ?_ | refine zF ?_ | intro _ | refine zG ?_);conv=>whnf) | (refine zX (fun hc => ?_) (fun hc => ?_)<;>(try simp only [SY] at hc)<;>first | omega | (conv=>whnf)))
    refine PCall.goR [.ob bd dfrO [] [], .box bo [.ms tk]] (rising_c tk (bindsOf t.all) k2 hfl) (WkT.refl _) (List.Perm.refl _) ?_
    rintro _ _ ⟨t4, e4, s4, rfl, rfl⟩
    conv => whnf
    repeat ((first | ((first | (apply zY;intro hg) | apply zZ);first | exact stA | ((conv=>whnf);(repeat ((first | (refine zW ?_ ?_;exact gA) | refine pC (names_c m.1) wR ?_ | refine pC (names_c m.1) cA ?_ | refine pC (containsInt_c m.2 m.1.n) wR ?_ | refine pC (containsInt_c m.2 m.1.n) cA ?_ | intro _);conv=>whnf));first | exact pS | exact pL | exact pE)) | (refine zW ?_ ?_;exact gA) | refine zH rfl ?_ | refine zA ?_ | refine zI bA ?_ | refine zI rfl ?_ | refine zJ rfl rfl ?_ | refine zB ?_ | refine zK rfl ?_ | refine zL rfl ?_ | refine zC ?_ | (refine zO ?_ ?_ ?_;omega;omega) | (refine zP ?_ ?_ ?_;omega;omega) | refine zM rfl ?_ | (refine zQ ?_ ?_ ?_;omega;omega) | (refine zR ?_ ?_;omega) | (refine zI ?_ ?_;exact nA) | (refine zS ?_ ?_ ?_;omega;omega) | (refine zT ?_ ?_ ?_;omega;omega) | (refine zU ?_ ?_ ?_;omega;omega) | (refine zV ?_ ?_ ?_;omega;omega) | refine pC (names_c m.1) wR ?_ | refine pC (names_c m.1) cA ?_ | refine pC (containsInt_c m.2 m.1.n) wR ?_ | refine pC (containsInt_c m.2 m.1.n) cA ?_ | refine zN rfl rfl rfl ?_ | refine zD ?_ | refine zE ?_ | refine zF ?_ | intro _);conv=>whnf)
    refine PMark.at_ rfl ?_
    conv => whnf
    exact PRet.gen (y := .ms t4) (Wk.refl _) ⟨t4, e4.trans k1, s4, rfl, rfl⟩
theorem binds_c (t : Trm) (hb : t.bulk ≤ 1000000000) : ACallP Tryz.prog 20 [.agg t.cells] (slI (riseL (bindsOf t.all))) :=
  ACallP.of_any ((binds_c0 t hb).shift fun y Γ' hq => by
    obtain ⟨tk, h1, h2, rfl, rfl⟩ := hq
    exact ⟨_, _, Shift.freezeRow (es := (riseL (bindsOf t.all)).map (PV.int .i64)) (WkF.ms' h2), rfl⟩)
end Go.Cb
namespace Go.Cb
open Go.Proofs
set_option maxRecDepth 100000
set_option maxHeartbeats 4000000
mutual
def Trm.sh (k : Int) : Trm → Trm
  | .mk op n v t => .mk op (if namesB op = true then n + k else n) (v.map (· + k)) (Trm.shs k t)
def Trm.shs (k : Int) : List Trm → List Trm
  | [] => []
  | x :: xs => Trm.sh k x :: Trm.shs k xs
end
theorem Trm.shs_eq (k : Int) : ∀ l : List Trm, Trm.shs k l = l.map (Trm.sh k)
  | [] => rfl
  | x :: l => by rw [Trm.shs, List.map_cons, Trm.shs_eq k l]
theorem Trm.sh_op (k : Int) (t : Trm) : (t.sh k).op = t.op := by cases t; rw [Trm.sh]; rfl
theorem Trm.sh_n (k : Int) (t : Trm) : (t.sh k).n = if namesB t.op = true then t.n + k else t.n := by cases t; rw [Trm.sh]; rfl
theorem Trm.sh_v (k : Int) (t : Trm) : (t.sh k).v = t.v.map (· + k) := by cases t; rw [Trm.sh]; rfl
theorem Trm.sh_t (k : Int) (t : Trm) : (t.sh k).t = t.t.map (Trm.sh k) := by cases t; rw [Trm.sh, ← Trm.shs_eq]; rfl
theorem Trm.sh_cnt (k : Int) (t : Trm) : (t.sh k).cnt = t.cnt := by
  induction t using Trm.ind with
  | h t ih =>
    have : ∀ l : List Trm, (∀ x ∈ l, (x.sh k).cnt = x.cnt) → Trm.cnts (l.map (Trm.sh k)) = Trm.cnts l := by
      intro l
      induction l with
      | nil => intro _; rfl
      | cons y l ihl => intro h; rw [List.map_cons, Trm.cnts, Trm.cnts, h y (by simp), ihl fun x hx => h x (by simp [hx])]
    rw [Trm.cnt_eq, Trm.cnt_eq, Trm.sh_t, this t.t ih]
theorem Trm.sh_vars (k : Int) (t : Trm) : (t.sh k).vars = t.vars.map (· + k) := by
  induction t using Trm.ind with
  | h t ih =>
    have : ∀ l : List Trm, (∀ x ∈ l, (x.sh k).vars = x.vars.map (· + k)) → Trm.varss (l.map (Trm.sh k)) = (Trm.varss l).map (· + k) := by
      intro l
      induction l with
      | nil => intro _; rfl
      | cons y l ihl => intro h; rw [List.map_cons, Trm.varss, Trm.varss, h y (by simp), ihl fun x hx => h x (by simp [hx]), List.map_append]
    rw [Trm.vars_eq, Trm.vars_eq, Trm.sh_t, Trm.sh_v, this t.t ih, List.map_append]
theorem sh_number (k c codes : Int) (free : Bool) (t : Trm) (scope : List Int) (h : numberL c codes free t scope = true) : numberL c codes free (t.sh k) (scope.map (· + k)) = true := by
  unfold numberL at h ⊢
  rw [Trm.sh_op, Trm.sh_n, Trm.sh_v, List.length_map]
  by_cases hn : t.op = 1 ∨ t.op = 2 ∨ t.op = 14
  · rw [if_neg (by omega), if_pos hn] at h ⊢
    have : namesB t.op = true := by simp [namesB]; omega
    rw [if_pos this]
    simp at h ⊢
    exact h
  · have : ¬ namesB t.op = true := by simp [namesB]; omega
    rw [if_neg this, if_neg hn]
    rw [if_neg hn] at h
    exact h
theorem Trm.sh_ok {level c codes : Int} {free : Bool} (k : Int) (t : Trm) : ∀ {scope : List Int} {deep : Int}, t.okT level c codes free scope deep → (t.sh k).okT level c codes free (scope.map (· + k)) deep := by
  induction t using Trm.ind with
  | h t ih =>
    intro scope deep h
    rw [Trm.okT_eq] at h ⊢
    have key : ∀ (op : Int) (sc inner : List Int) (deep : Int) (l : List Trm), (∀ y ∈ l, ∀ {scope : List Int} {deep : Int}, y.okT level c codes free scope deep → (y.sh k).okT level c codes free (scope.map (· + k)) deep) →
        Trm.okTs level c codes free op sc inner l deep → Trm.okTs level c codes free op (sc.map (· + k)) (inner.map (· + k)) (l.map (Trm.sh k)) deep := by
      intro op sc inner deep l
      induction l with
      | nil => intro _ _; simp [Trm.okTs]
      | cons x l ihl =>
        intro hy hk
        rw [Trm.okTs] at hk
        rw [List.map_cons, Trm.okTs, Trm.sh_op]
        have e : l.map (Trm.sh k) = [] ↔ l = [] := by simp
        refine ⟨fun hh => hk.1 ⟨hh.1, fun h2 => hh.2.1 (e.2 h2), hh.2.2⟩, ?_, ihl (fun z hz => hy z (by simp [hz])) hk.2.2⟩
        have h2 := hy x (by simp) hk.2.1
        by_cases h3 : l = [] ∨ op = 7 ∨ op = 9
        · rw [if_pos h3] at h2
          rw [if_pos (h3.imp_left e.2)]
          exact h2
        · rw [if_neg h3] at h2
          rw [if_neg (fun h4 => h3 (h4.imp_left e.1))]
          exact h2
    rw [Trm.sh_op, Trm.sh_v, Trm.sh_t, ← List.map_append]
    refine ⟨⟨h.1.1, h.1.2.1, ?_, sh_number k _ _ _ _ _ h.1.2.2.2⟩, key _ _ _ _ _ ih h.2⟩
    have := h.1.2.2.1
    unfold countsL at this ⊢
    simp only [Trm.sh_op, Trm.sh_v, Trm.sh_t, List.length_map]
    exact this
theorem RightP.sh {p : Prog} {level : Int} (h : RightP p level) (k : Int) (h0 : 0 ≤ k) (hk : ∀ x ∈ p.body.vars, x + k ≤ 1000000) : RightP ⟨p.consts, p.body.sh k⟩ level := by
  obtain ⟨h1, h2, h3, h4, h5⟩ := h
  refine ⟨h1, h2, p.body.sh_ok k h3, by rw [show (⟨p.consts, p.body.sh k⟩ : Prog).body = p.body.sh k from rfl, Trm.sh_cnt]; exact h4, ?_⟩
  show Dist (p.body.sh k).vars []
  rw [Trm.sh_vars]
  refine ⟨fun x hx => ?_, ?_⟩
  · obtain ⟨y, hy, rfl⟩ := List.mem_map.1 hx
    have := h5.1 y hy
    have := hk y hy
    exact ⟨by omega, by omega, by simp⟩
  · exact List.Pairwise.map _ (fun a b hab => by omega) h5.2
end Go.Cb

