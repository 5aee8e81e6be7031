/-
 Contracts: numbers.
 Contracts: numbers from texts.
 Contracts: a number by another one.
 Contracts: the document's reading of a number.
 Contracts: Go's library, as far as the program calls it.
 Contracts: the program's reading of a number.
 Contracts: the program's data.
 Contracts: how many.
 Contracts: data, the document's.
 Contracts: the document's check of terms.
 Contracts: the program's check of terms, the small functions.
 Contracts: the program's check of terms: variables are bound.
 Contracts: package slices with functions that change what they hold.
 Contracts: the program's check of terms: what is done at the end.
 Contracts: the program's check of terms: whether a term is right.
 Contracts: the document's check of terms, the rest of it.
-/
import Derived.Lib.Bytealg
import Derived.Test.YtklpioocdgfbmaaGreatDoorQ3
set_option linter.unusedSimpArgs false
set_option linter.unusedVariables false
namespace Go.Cb
open Go.Proofs
set_option maxRecDepth 100000
set_option maxHeartbeats 4000000
theorem gcd_c (a b : Nat) (ha : a < 18446744073709551616) (hb : b < 18446744073709551616) : ACallP Tryz.prog 215 [.int .u64 a, .int .u64 b] (.int .u64 (Nat.gcd a b : Nat)) := by
 refine ACall.of_body tt_ok Tryz.func215 rfl rfl (n := 14) rfl rfl ?_
 conv => whnf
 repeat ((first|((first|(apply zY;intro hg)|apply zZ);first|exact stA)|(refine zW ?_ ?_;exact gA)|refine zH rfl ?_|refine zA ?_|refine zI bA ?_|refine zI rfl ?_|refine sB ?_|(refine zO ?_ ?_ ?_;omega;omega)|(refine zP ?_ ?_ ?_;omega;omega)|refine zM rfl ?_|(refine zQ ?_ ?_ ?_;omega;omega)|(refine zR ?_ ?_;omega)|(refine zI ?_ ?_;exact nA)|refine sS ?_|refine sD ?_|intro _);conv=>whnf)
 refine PLoop.by_ (fun | ((a', b') : Nat × Nat) => [(0, .int .u64 a'), (1, .int .u64 b')]) (fun _ => []) (fun | (a', b') => Nat.gcd a' b' = Nat.gcd a b ∧ a' < 18446744073709551616 ∧ b' < 18446744073709551616) (fun | (_, b') => b') 14
  (a, b) ⟨rfl, ha, hb⟩ rfl wA ?_
 rintro ⟨a', b'⟩ ⟨hg, ha', hb'⟩
 conv => whnf
 refine ⟨fun hc => ?_, fun hc => ?_⟩
 ·conv => whnf
  simp only [SS] at hc
  refine ⟨by omega, ?_⟩
  conv => whnf
  have hb0 : 0 < b' := by omega
  refine loopNext (b', a' % b') ⟨?_, hb', Nat.lt_trans (Nat.mod_lt _ hb0) hb'⟩ (Nat.mod_lt _ hb0) rfl (And.intro (Wk.refl _) <| And.intro (Wk.int (Int.ofNat_tmod ..).symm) trivial)
  rw [← hg, Nat.gcd_comm a' b', Nat.gcd_rec b' a', Nat.gcd_comm]
 ·conv => whnf
  simp only [SS] at hc
  have hb0 : b' = 0 := by omega
  subst hb0
  refine PRet.pure (Wk.int ?_)
  rw [← hg, Nat.gcd_zero_right]
theorem size_c (n : Int) (h1 : -9223372036854775808 ≤ n) (h2 : n ≤ 9223372036854775807) : ACallP Tryz.prog 216 [.int .i64 n] (.int .u64 n.natAbs) := by
 refine ACall.of_body tt_ok Tryz.func216 rfl rfl (n := 10) rfl rfl ?_
 conv => whnf
 repeat ((first|((first|(apply zY;intro hg)|apply zZ);first|exact stA)|(refine zW ?_ ?_;exact gA)|refine zH rfl ?_|refine zA ?_|refine zI bA ?_|refine zI rfl ?_|refine sB ?_|(refine zO ?_ ?_ ?_;omega;omega)|(refine zP ?_ ?_ ?_;omega;omega)|refine zM rfl ?_|(refine zQ ?_ ?_ ?_;omega;omega)|(refine zR ?_ ?_;omega)|(refine zI ?_ ?_;exact nA)|refine sS ?_|refine sD ?_|intro _);conv=>whnf)
 refine ⟨fun hc => ?_, fun hc => ?_⟩
 ·conv => whnf
  simp only [SS] at hc
  refine PInt.u64_neg (by omega) hc ?_
  conv => whnf
  refine PInt.u64_neg (by omega) (by omega) ?_
  conv => whnf
  refine PRet.pure (Wk.int (by omega))
 ·conv => whnf
  simp only [SS] at hc
  refine PInt.u64 hc (by omega) ?_
  conv => whnf
  refine PRet.pure (Wk.int (by omega))
theorem common_c (a b : Nat) (ha : a < 18446744073709551616) (hb : b < 18446744073709551616) : ACallP Tryz.prog 199 [.int .u64 a, .int .u64 b] (.int .u64 (Nat.gcd a b : Nat)) := by
 refine ACall.of_body tt_ok Tryz.func199 rfl rfl (n := 12) rfl rfl ?_
 conv => whnf
 repeat ((first|((first|(apply zY;intro hg)|apply zZ);first|exact stA)|(refine zW ?_ ?_;exact gA)|refine zH rfl ?_|refine zA ?_|refine zI bA ?_|refine zI rfl ?_|refine sB ?_|(refine zO ?_ ?_ ?_;omega;omega)|(refine zP ?_ ?_ ?_;omega;omega)|refine zM rfl ?_|(refine zQ ?_ ?_ ?_;omega;omega)|(refine zR ?_ ?_;omega)|(refine zI ?_ ?_;exact nA)|refine sS ?_|refine sD ?_|refine PDraw.sP (some 7) rfl [] [] tt_ok mixed ?_|intro _);conv=>whnf)
 refine PLoop.by_ (fun | ((a', b') : Nat × Nat) => [(0, .int .u64 a'), (1, .int .u64 b')]) (fun _ => []) (fun | (a', b') => Nat.gcd a' b' = Nat.gcd a b ∧ a' < 18446744073709551616 ∧ b' < 18446744073709551616) (fun | (_, b') => b') 12
  (a, b) ⟨rfl, ha, hb⟩ rfl wA ?_
 rintro ⟨a', b'⟩ ⟨hg, ha', hb'⟩
 conv => whnf
 refine ⟨fun hc => ?_, fun hc => ?_⟩
 ·conv => whnf
  simp only [SS] at hc
  have hb0 : b' = 0 := by omega
  subst hb0
  refine PRet.pure (Wk.int ?_)
  rw [← hg, Nat.gcd_zero_right]
 ·conv => whnf
  simp only [SS] at hc
  have hb0 : 0 < b' := by omega
  refine PDraw.sE [] [] [] tt_ok mixed ?_
  conv=>whnf
  apply PStb.of
  ·conv => whnf
   exact PShift.same
  conv => whnf
  apply PStb.of
  ·conv => whnf
   exact PShift.same
  conv => whnf
  apply PStb.of
  ·conv => whnf
   exact PShift.same
  conv => whnf
  apply PStb.of
  ·conv => whnf
   refine ⟨by omega, ?_⟩
   conv => whnf
   exact PShift.same
  conv => whnf
  apply PStb.of
  ·conv => whnf
   exact PShift.same
  conv => whnf
  apply PStb.of
  ·conv => whnf
   exact PShift.same
  conv => whnf
  refine loopNext (b', a' % b') ⟨?_, hb', Nat.lt_trans (Nat.mod_lt _ hb0) hb'⟩ (Nat.mod_lt _ hb0) rfl (And.intro (Wk.refl _) <| And.intro (Wk.int (Int.ofNat_tmod ..).symm) trivial)
  rw [← hg, Nat.gcd_comm a' b', Nat.gcd_rec b' a', Nat.gcd_comm]
theorem amount_c (n : Int) (h1 : -9223372036854775808 ≤ n) (h2 : n ≤ 9223372036854775807) : ACallP Tryz.prog 200 [.int .i64 n] (.int .u64 n.natAbs) := by
 refine ACall.of_body tt_ok Tryz.func200 rfl rfl (n := 10) rfl rfl ?_
 conv => whnf
 repeat ((first|((first|(apply zY;intro hg)|apply zZ);first|exact stA)|(refine zW ?_ ?_;exact gA)|refine zH rfl ?_|refine zA ?_|refine zI bA ?_|refine zI rfl ?_|refine sB ?_|(refine zO ?_ ?_ ?_;omega;omega)|(refine zP ?_ ?_ ?_;omega;omega)|refine zM rfl ?_|(refine zQ ?_ ?_ ?_;omega;omega)|(refine zR ?_ ?_;omega)|(refine zI ?_ ?_;exact nA)|refine sS ?_|refine sD ?_|intro _);conv=>whnf)
 refine ⟨fun hc => ?_, fun hc => ?_⟩
 ·conv => whnf
  simp only [SS] at hc
  refine PInt.u64_neg (by omega) hc ?_
  conv => whnf
  refine PInt.u64_neg (by omega) (by omega) ?_
  conv => whnf
  refine PRet.pure (Wk.int (by omega))
 ·conv => whnf
  simp only [SS] at hc
  refine PInt.u64 hc (by omega) ?_
  conv => whnf
  refine PRet.pure (Wk.int (by omega))
def numRight (n d : Int) : Bool := decide (1 ≤ d) && (decide (d ≤ 2147483647) && (decide (-2147483647 ≤ n) && (decide (n ≤ 2147483647) && (Nat.gcd n.natAbs d.natAbs == 1))))
theorem right1_c (n d : Int) : ACallP Tryz.prog 197 [.int .i64 n, .int .i64 d] (.bool (numRight n d)) := by
 refine ACall.of_body tt_ok Tryz.func197 rfl rfl (n := 27) rfl rfl ?_
 conv => whnf
 repeat' (first|((first|((first|(apply zY;intro hg)|apply zZ);first|exact stA|((conv=>whnf);(repeat ((first|(refine zW ?_ ?_;exact gA)|refine pC (size_c _ OA OA) wR ?_|refine pC (size_c _ OA OA) cA ?_|refine pC (gcd_c n.natAbs d.natAbs OA OA) wR ?_|refine pC (gcd_c n.natAbs d.natAbs OA OA) cA ?_|intro _);conv=>whnf));first|exact pS|exact pL|exact pE))|(refine zW ?_ ?_;exact gA)|refine zH rfl ?_|refine zA ?_|refine zI bA ?_|refine zI rfl ?_|refine sB ?_|(refine zO ?_ ?_ ?_;omega;omega)|(refine zP ?_ ?_ ?_;omega;omega)|refine zM rfl ?_|(refine zQ ?_ ?_ ?_;omega;omega)|(refine zR ?_ ?_;omega)|(refine zI ?_ ?_;exact nA)|refine sS ?_|refine pC (size_c _ OA OA) wR ?_|refine pC (size_c _ OA OA) cA ?_|refine pC (gcd_c n.natAbs d.natAbs OA OA) wR ?_|refine pC (gcd_c n.natAbs d.natAbs OA OA) cA ?_|refine sD ?_|intro _|refine zG ?_);conv=>whnf)|(refine zX (fun hc => ?_) (fun hc => ?_)<;>(try simp only [SY] at hc)<;>first|omega|(conv=>whnf)))
 exact PRet.pure (Wk.bool (by rw [Bool.eq_iff_iff]; simp [numRight]; omega))
theorem rightN_c (n d : Int) : ACallP Tryz.prog 174 [.int .i64 n, .int .i64 d] (.bool (numRight n d)) := by
 refine ACall.of_body tt_ok Tryz.func174 rfl rfl (n := 27) rfl rfl ?_
 conv => whnf
 repeat' (first|((first|((first|(apply zY;intro hg)|apply zZ);first|exact stA|((conv=>whnf);(repeat ((first|(refine zW ?_ ?_;exact gA)|refine pC (amount_c _ OA OA) wR ?_|refine pC (amount_c _ OA OA) cA ?_|refine pC (common_c n.natAbs d.natAbs OA OA) wR ?_|refine pC (common_c n.natAbs d.natAbs OA OA) cA ?_|intro _);conv=>whnf));first|exact pS|exact pL|exact pE))|(refine zW ?_ ?_;exact gA)|refine zH rfl ?_|refine zA ?_|refine zI bA ?_|refine zI rfl ?_|refine sB ?_|(refine zO ?_ ?_ ?_;omega;omega)|(refine zP ?_ ?_ ?_;omega;omega)|refine zM rfl ?_|(refine zQ ?_ ?_ ?_;omega;omega)|(refine zR ?_ ?_;omega)|(refine zI ?_ ?_;exact nA)|refine sS ?_|refine pC (amount_c _ OA OA) wR ?_|refine pC (amount_c _ OA OA) cA ?_|refine pC (common_c n.natAbs d.natAbs OA OA) wR ?_|refine pC (common_c n.natAbs d.natAbs OA OA) cA ?_|refine sD ?_|intro _|refine zG ?_);conv=>whnf)|(refine zX (fun hc => ?_) (fun hc => ?_)<;>(try simp only [SY] at hc)<;>first|omega|(conv=>whnf)))
 exact PRet.pure (Wk.bool (by rw [Bool.eq_iff_iff]; simp [numRight]; omega))
end Go.Cb
namespace Go.Cb
open Go.Proofs
set_option maxRecDepth 100000
set_option maxHeartbeats 4000000
def isDig (c : UInt8) : Bool := decide (48 ≤ c.toNat) && decide (c.toNat ≤ 57)
def decVal (l : List UInt8) : Nat := l.foldl (fun n c => 10 * n + (c.toNat - 48)) 0
def digN : List UInt8 → Nat
 | [] => 0
 | c :: s => if isDig c then digN s + 1 else 0
def partN (s : List UInt8) : Nat × Nat := if 10 < digN s then (0, 0) else (decVal (s.take (digN s)), digN s)
theorem decVal_snoc (l : List UInt8) (c : UInt8) : decVal (l ++ [c]) = 10 * decVal l + (c.toNat - 48) := by simp [decVal]
theorem decVal_lt (l : List UInt8) (h : ∀ c ∈ l, isDig c = true) : decVal l < 10 ^ l.length := by
 suffices ∀ (l : List UInt8) (m : Nat), (∀ c ∈ l, isDig c = true) → l.foldl (fun n c => 10 * n + (c.toNat - 48)) m < (m + 1) * 10 ^ l.length by
  have := this l 0 h
  simpa [decVal] using this
 intro l
 induction l with
 | nil => intro m _; simp
 | cons c l ih =>
  intro m h
  rw [List.foldl_cons]
  have h1 := h c (by simp)
  have h2 := ih (10 * m + (c.toNat - 48)) (fun c hc => h c (by simp [hc]))
  simp only [isDig, Bool.and_eq_true, decide_eq_true_eq] at h1
  refine Nat.lt_of_lt_of_le h2 ?_
  rw [List.length_cons, Nat.pow_succ, Nat.mul_comm (10 ^ l.length) 10, ← Nat.mul_assoc]
  exact Nat.mul_le_mul_right _ (by omega)
theorem digN_eq : ∀ (s : List UInt8) (k : Nat), (∀ c ∈ s.take k, isDig c = true) → k ≤ s.length → (∀ c, s[k]? = some c → isDig c = false) → digN s = k
 | [], k, _, h, _ => by simp at h; rw [digN, h]
 | c :: s, 0, _, _, h => by simp [digN, h c (by simp)]
 | c :: s, k + 1, h1, h2, h3 => by
  rw [digN, if_pos (h1 c (by simp)), digN_eq s k (fun c hc => h1 c (by simp [hc])) (by simpa using h2) (fun c hc => h3 c (by simpa using hc))]
theorem digN_dig : ∀ (s : List UInt8), ∀ c ∈ s.take (digN s), isDig c = true
 | [], c, h => by simp at h
 | d :: s, c, h => by
  rw [digN] at h
  split at h
  ·rename_i hd
   rw [List.take_succ_cons] at h
   rcases List.mem_cons.1 h with rfl | h
   ·exact hd
   ·exact digN_dig s c h
  ·simp at h
theorem digN_le : ∀ (s : List UInt8), digN s ≤ s.length
 | [] => by simp [digN]
 | d :: s => by rw [digN]; split <;> simp [digN_le s]
theorem part_c (s : List UInt8) : ACallP Tryz.prog 237 [.str s] (.tup [.int .i64 (partN s).1, .int .i64 (partN s).2]) := by
 refine ACall.of_body tt_ok Tryz.func237 rfl rfl (n := 38) rfl rfl ?_
 conv => whnf
 repeat ((first|((first|(apply zY;intro hg)|apply zZ);first|exact stA)|(refine zW ?_ ?_;exact gA)|refine zH rfl ?_|refine zA ?_|refine zI bA ?_|refine zI rfl ?_|refine sB ?_|(refine zO ?_ ?_ ?_;omega;omega)|(refine zP ?_ ?_ ?_;omega;omega)|refine zM rfl ?_|(refine zQ ?_ ?_ ?_;omega;omega)|(refine zR ?_ ?_;omega)|(refine zI ?_ ?_;exact nA)|refine sS ?_|refine sD ?_|intro _);conv=>whnf)
 refine PLoop.keep [4, 5, 6, 7, 8, 9, 10, 11, 12, 13, 14, 15, 16, 17, 18, 19, 20, 21, 22, 23, 24, 25, 26, 27, 28, 29, 30, 31, 32, 33] (fun k : Nat => [(4, .int .i64 (decVal ((s.take k).take 10))), (5, .int .i64 k)])
  (fun k => k ≤ s.length ∧ ∀ c ∈ s.take k, isDig c = true) (fun k => s.length - k) 0 ⟨by omega, by simp⟩ wA ?_
 rintro k ⟨hk, hd⟩
 have hv : decVal ((s.take k).take 10) < 10 ^ 10 := Nat.lt_of_lt_of_le (decVal_lt _ fun c hc => hd c (List.mem_of_mem_take hc)) (Nat.pow_le_pow_right (by omega) (by simp; omega))
 have hget : ∀ c, s[k]? = some c → s.getD k 0 = c := fun c hc => by rw [List.getD, hc]; rfl
 conv => whnf
 repeat' (first|((first|((first|(apply zY;intro hg)|apply zZ);first|exact stA)|(refine zW ?_ ?_;exact gA)|refine zH rfl ?_|refine zA ?_|refine zI bA ?_|refine zI rfl ?_|refine sB ?_|(refine zO ?_ ?_ ?_;omega;omega)|(refine zP ?_ ?_ ?_;omega;omega)|refine zM rfl ?_|(refine zQ ?_ ?_ ?_;omega;omega)|(refine zR ?_ ?_;omega)|(refine zI ?_ ?_;exact nA)|refine sS ?_|refine sD ?_|intro _|refine zG ?_);conv=>whnf)|(refine zX (fun hc => ?_) (fun hc => ?_)<;>(try simp only [SY] at hc)<;>first|omega|(conv=>whnf)))
 ·have hlt : k < s.length := by omega
  have htk : s.take (k + 1) = s.take k ++ [s.getD k 0] := by rw [List.take_add_one]; simp [hlt]
  have e : 10 * (decVal ((s.take k).take 10) : Int) + (((s.getD k 0).toNat : Int) - 48) = decVal ((s.take (k + 1)).take 10) := by
   rw [List.take_take, List.take_take, Nat.min_eq_right (by omega), Nat.min_eq_right (by omega), htk, decVal_snoc]
   omega
  refine loopTo (k + 1) ⟨by omega, fun x hx => ?_⟩ (by show s.length - (k + 1) < s.length - k; omega) wA
  rw [htk] at hx
  rcases List.mem_append.1 hx with hx | hx
  ·exact hd x hx
  ·rw [List.mem_singleton.1 hx]; simp only [isDig, Bool.and_eq_true, decide_eq_true_eq]; omega
 ·have hlt : k < s.length := by omega
  have htk : s.take (k + 1) = s.take k ++ [s.getD k 0] := by rw [List.take_add_one]; simp [hlt]
  have e : (decVal ((s.take k).take 10) : Int) = decVal ((s.take (k + 1)).take 10) := by
   rw [List.take_take, List.take_take, Nat.min_eq_left (by omega), Nat.min_eq_left (by omega)]
  refine loopTo (k + 1) ⟨by omega, fun x hx => ?_⟩ (by show s.length - (k + 1) < s.length - k; omega) wA
  rw [htk] at hx
  rcases List.mem_append.1 hx with hx | hx
  ·exact hd x hx
  ·rw [List.mem_singleton.1 hx]; simp only [isDig, Bool.and_eq_true, decide_eq_true_eq]; omega
 all_goals
  have hdk : digN s = k := digN_eq s k hd hk fun c hc1 => by
   have hlt : k < s.length := (List.getElem?_eq_some_iff.1 hc1).1
   rw [hget c hc1] at *
   simp only [isDig, Bool.and_eq_false_iff, decide_eq_false_iff_not]; omega
  refine PRet.pure (Wk.eq ?_)
 ·rw [partN, if_pos (by omega)]
  rfl
 ·rw [partN, if_neg (by omega), List.take_take, Nat.min_eq_right (by omega), hdk]
end Go.Cb
namespace Go.Cb
open Go.Proofs
set_option maxRecDepth 100000
set_option maxHeartbeats 4000000
def makeN (n d : Int) : Int × Int × Int :=
 if d = 0 then (0, 0, 4) else
 if 2147483647 < n.natAbs / Nat.gcd n.natAbs d.natAbs ∨ 2147483647 < d.natAbs / Nat.gcd n.natAbs d.natAbs then (0, 0, 3) else
 if decide (n < 0) ≠ decide (d < 0) then (-((n.natAbs / Nat.gcd n.natAbs d.natAbs : Nat) : Int), (d.natAbs / Nat.gcd n.natAbs d.natAbs : Nat), 0) else
 ((n.natAbs / Nat.gcd n.natAbs d.natAbs : Nat), (d.natAbs / Nat.gcd n.natAbs d.natAbs : Nat), 0)
def makeA (n d : Int) (a b : Nat) : Int × Int × Int :=
 if 2147483647 < a ∨ 2147483647 < b then (0, 0, 3) else if decide (n < 0) ≠ decide (d < 0) then (-(a : Int), (b : Int), 0) else ((a : Int), (b : Int), 0)
theorem makeN_ne (n d : Int) (h : d ≠ 0) : makeN n d = makeA n d (n.natAbs / Nat.gcd n.natAbs d.natAbs) (d.natAbs / Nat.gcd n.natAbs d.natAbs) := by rw [makeN, if_neg h]; rfl
def tup3 (x : Int × Int × Int) : PV := .tup [.int .i64 x.1, .int .i64 x.2.1, .int .i64 x.2.2]
theorem make1_c (n d : Int) (h1 : -9223372036854775808 ≤ n) (h2 : n ≤ 9223372036854775807) (h3 : -9223372036854775808 ≤ d) (h4 : d ≤ 9223372036854775807) :
  ACallP Tryz.prog 238 [.int .i64 n, .int .i64 d] (tup3 (makeN n d)) := by
 refine ACall.of_body tt_ok Tryz.func238 rfl rfl (n := 45) rfl rfl ?_
 conv => whnf
 repeat ((first|((first|(apply zY;intro hg)|apply zZ);first|exact stA)|(refine zW ?_ ?_;exact gA)|refine zH rfl ?_|refine zA ?_|refine zI bA ?_|refine zI rfl ?_|refine sB ?_|(refine zO ?_ ?_ ?_;omega;omega)|(refine zP ?_ ?_ ?_;omega;omega)|refine zM rfl ?_|(refine zQ ?_ ?_ ?_;omega;omega)|(refine zR ?_ ?_;omega)|(refine zI ?_ ?_;exact nA)|refine sS ?_|refine sD ?_|intro _);conv=>whnf)
 refine ⟨fun hc => ?_, fun hc => ?_⟩
 ·conv => whnf
  repeat ((first|((first|(apply zY;intro hg)|apply zZ);first|exact stA)|(refine zW ?_ ?_;exact gA)|refine zH rfl ?_|refine zA ?_|refine zI bA ?_|refine zI rfl ?_|refine sB ?_|(refine zO ?_ ?_ ?_;omega;omega)|(refine zP ?_ ?_ ?_;omega;omega)|refine zM rfl ?_|(refine zQ ?_ ?_ ?_;omega;omega)|(refine zR ?_ ?_;omega)|(refine zI ?_ ?_;exact nA)|refine sS ?_|refine sD ?_|intro _);conv=>whnf)
  simp only [SS] at hc
  exact PRet.pure (Wk.eq (by rw [makeN, if_pos hc]; rfl))
 conv => whnf
 repeat ((first|((first|(apply zY;intro hg)|apply zZ);first|exact stA)|(refine zW ?_ ?_;exact gA)|refine zH rfl ?_|refine zA ?_|refine zI bA ?_|refine zI rfl ?_|refine sB ?_|(refine zO ?_ ?_ ?_;omega;omega)|(refine zP ?_ ?_ ?_;omega;omega)|refine zM rfl ?_|(refine zQ ?_ ?_ ?_;omega;omega)|(refine zR ?_ ?_;omega)|(refine zI ?_ ?_;exact nA)|refine sS ?_|refine sD ?_|intro _);conv=>whnf)
 simp only [SS] at hc
 have hd0 := hc
 refine PCall.pure (size_c n h1 h2) (WkT.refl _) ?_
 conv => whnf
 repeat ((first|((first|(apply zY;intro hg)|apply zZ);first|exact stA)|(refine zW ?_ ?_;exact gA)|refine zH rfl ?_|refine zA ?_|refine zI bA ?_|refine zI rfl ?_|refine sB ?_|(refine zO ?_ ?_ ?_;omega;omega)|(refine zP ?_ ?_ ?_;omega;omega)|refine zM rfl ?_|(refine zQ ?_ ?_ ?_;omega;omega)|(refine zR ?_ ?_;omega)|(refine zI ?_ ?_;exact nA)|refine sS ?_|refine sD ?_|intro _);conv=>whnf)
 refine PCall.pure (size_c d h3 h4) (WkT.refl _) ?_
 conv => whnf
 repeat ((first|((first|(apply zY;intro hg)|apply zZ);first|exact stA)|(refine zW ?_ ?_;exact gA)|refine zH rfl ?_|refine zA ?_|refine zI bA ?_|refine zI rfl ?_|refine sB ?_|(refine zO ?_ ?_ ?_;omega;omega)|(refine zP ?_ ?_ ?_;omega;omega)|refine zM rfl ?_|(refine zQ ?_ ?_ ?_;omega;omega)|(refine zR ?_ ?_;omega)|(refine zI ?_ ?_;exact nA)|refine sS ?_|refine sD ?_|intro _);conv=>whnf)
 have ha : n.natAbs ≤ 9223372036854775808 := by omega
 have hb : d.natAbs ≤ 9223372036854775808 := by omega
 refine PCall.pure (gcd_c n.natAbs d.natAbs (by omega) (by omega)) (WkT.refl _) ?_
 have hg : 0 < Nat.gcd n.natAbs d.natAbs := Nat.gcd_pos_of_pos_right _ (by omega)
 have hm := makeN_ne n d hd0
 generalize hgg : Nat.gcd n.natAbs d.natAbs = g at *
 have qa : n.natAbs / g ≤ 9223372036854775808 := Nat.le_trans (Nat.div_le_self _ _) ha
 have qb : d.natAbs / g ≤ 9223372036854775808 := Nat.le_trans (Nat.div_le_self _ _) hb
 have ea : (n.natAbs : Int).tdiv (g : Int) = (n.natAbs / g : Nat) := (Int.ofNat_tdiv _ _).symm
 have eb : (d.natAbs : Int).tdiv (g : Int) = (d.natAbs / g : Nat) := (Int.ofNat_tdiv _ _).symm
 unfold makeA at hm
 generalize n.natAbs / g = a at *
 generalize d.natAbs / g = b at *
 conv => whnf
 repeat ((first|((first|(apply zY;intro hg)|apply zZ);first|exact stA)|(refine zW ?_ ?_;exact gA)|refine zH rfl ?_|refine zA ?_|refine zI bA ?_|refine zI rfl ?_|refine sB ?_|(refine zO ?_ ?_ ?_;omega;omega)|(refine zP ?_ ?_ ?_;omega;omega)|refine zM rfl ?_|(refine zQ ?_ ?_ ?_;omega;omega)|(refine zR ?_ ?_;omega)|(refine zI ?_ ?_;exact nA)|refine sS ?_|refine sD ?_|intro _);conv=>whnf)
 rw [ea, eb]
 conv => whnf
 repeat' (first|((first|((first|(apply zY;intro hg)|apply zZ);first|exact stA)|(refine zW ?_ ?_;exact gA)|refine zH rfl ?_|refine zA ?_|refine zI bA ?_|refine zI rfl ?_|refine sB ?_|(refine zO ?_ ?_ ?_;omega;omega)|(refine zP ?_ ?_ ?_;omega;omega)|refine zM rfl ?_|(refine zQ ?_ ?_ ?_;omega;omega)|(refine zR ?_ ?_;omega)|(refine zI ?_ ?_;exact nA)|refine sS ?_|refine sD ?_|intro _|refine zG ?_);conv=>whnf)|(refine zX (fun hc => ?_) (fun hc => ?_)<;>(try simp only [SY] at hc)<;>first|omega|(conv=>whnf)))
 ·exact PRet.pure (Wk.eq (by rw [hm, if_pos (by omega)]; rfl))
 ·rw [if_neg (by omega)] at hm
  refine PRet.pure (Wk.eq ?_)
  rw [hm, if_pos (by simpa using hc)]
  simp [tup3]
 ·rw [if_neg (by omega)] at hm
  refine PRet.pure (Wk.eq ?_)
  rw [hm, if_neg (by simpa using hc)]
  rfl
theorem makeP_c (n d : Int) (h1 : -9223372036854775808 ≤ n) (h2 : n ≤ 9223372036854775807) (h3 : -9223372036854775808 ≤ d) (h4 : d ≤ 9223372036854775807) :
  ACallP Tryz.prog 229 [.int .i64 n, .int .i64 d] (tup3 (makeN n d)) := by
 refine ACall.of_body tt_ok Tryz.func229 rfl rfl (n := 45) rfl rfl ?_
 conv => whnf
 repeat ((first|((first|(apply zY;intro hg)|apply zZ);first|exact stA)|(refine zW ?_ ?_;exact gA)|refine zH rfl ?_|refine zA ?_|refine zI bA ?_|refine zI rfl ?_|refine sB ?_|(refine zO ?_ ?_ ?_;omega;omega)|(refine zP ?_ ?_ ?_;omega;omega)|refine zM rfl ?_|(refine zQ ?_ ?_ ?_;omega;omega)|(refine zR ?_ ?_;omega)|(refine zI ?_ ?_;exact nA)|refine sS ?_|refine sD ?_|refine PDraw.sP (some 19) rfl [] [] tt_ok mixed ?_|intro _);conv=>whnf)
 refine ⟨fun hc => ?_, fun hc => ?_⟩
 ·conv => whnf
  repeat ((first|((first|(apply zY;intro hg)|apply zZ);first|exact stA)|(refine zW ?_ ?_;exact gA)|refine zH rfl ?_|refine zA ?_|refine zI bA ?_|refine zI rfl ?_|refine sB ?_|(refine zO ?_ ?_ ?_;omega;omega)|(refine zP ?_ ?_ ?_;omega;omega)|refine zM rfl ?_|(refine zQ ?_ ?_ ?_;omega;omega)|(refine zR ?_ ?_;omega)|(refine zI ?_ ?_;exact nA)|refine sS ?_|refine sD ?_|refine PDraw.sP (some 19) rfl [] [] tt_ok mixed ?_|intro _);conv=>whnf)
  simp only [SS] at hc
  exact PRet.pure (Wk.eq (by rw [makeN, if_pos hc]; rfl))
 conv => whnf
 repeat ((first|((first|(apply zY;intro hg)|apply zZ);first|exact stA)|(refine zW ?_ ?_;exact gA)|refine zH rfl ?_|refine zA ?_|refine zI bA ?_|refine zI rfl ?_|refine sB ?_|(refine zO ?_ ?_ ?_;omega;omega)|(refine zP ?_ ?_ ?_;omega;omega)|refine zM rfl ?_|(refine zQ ?_ ?_ ?_;omega;omega)|(refine zR ?_ ?_;omega)|(refine zI ?_ ?_;exact nA)|refine sS ?_|refine sD ?_|refine PDraw.sP (some 19) rfl [] [] tt_ok mixed ?_|intro _);conv=>whnf)
 simp only [SS] at hc
 have hd0 := hc
 refine PCall.pure (amount_c n h1 h2) (WkT.refl _) ?_
 conv => whnf
 repeat ((first|((first|(apply zY;intro hg)|apply zZ);first|exact stA)|(refine zW ?_ ?_;exact gA)|refine zH rfl ?_|refine zA ?_|refine zI bA ?_|refine zI rfl ?_|refine sB ?_|(refine zO ?_ ?_ ?_;omega;omega)|(refine zP ?_ ?_ ?_;omega;omega)|refine zM rfl ?_|(refine zQ ?_ ?_ ?_;omega;omega)|(refine zR ?_ ?_;omega)|(refine zI ?_ ?_;exact nA)|refine sS ?_|refine sD ?_|refine PDraw.sP (some 19) rfl [] [] tt_ok mixed ?_|intro _);conv=>whnf)
 refine PCall.pure (amount_c d h3 h4) (WkT.refl _) ?_
 conv => whnf
 repeat ((first|((first|(apply zY;intro hg)|apply zZ);first|exact stA)|(refine zW ?_ ?_;exact gA)|refine zH rfl ?_|refine zA ?_|refine zI bA ?_|refine zI rfl ?_|refine sB ?_|(refine zO ?_ ?_ ?_;omega;omega)|(refine zP ?_ ?_ ?_;omega;omega)|refine zM rfl ?_|(refine zQ ?_ ?_ ?_;omega;omega)|(refine zR ?_ ?_;omega)|(refine zI ?_ ?_;exact nA)|refine sS ?_|refine sD ?_|refine PDraw.sP (some 19) rfl [] [] tt_ok mixed ?_|intro _);conv=>whnf)
 have ha : n.natAbs ≤ 9223372036854775808 := by omega
 have hb : d.natAbs ≤ 9223372036854775808 := by omega
 refine PCall.pure (common_c n.natAbs d.natAbs (by omega) (by omega)) (WkT.refl _) ?_
 have hg : 0 < Nat.gcd n.natAbs d.natAbs := Nat.gcd_pos_of_pos_right _ (by omega)
 have hm := makeN_ne n d hd0
 generalize hgg : Nat.gcd n.natAbs d.natAbs = g at *
 have qa : n.natAbs / g ≤ 9223372036854775808 := Nat.le_trans (Nat.div_le_self _ _) ha
 have qb : d.natAbs / g ≤ 9223372036854775808 := Nat.le_trans (Nat.div_le_self _ _) hb
 have ea : (n.natAbs : Int).tdiv (g : Int) = (n.natAbs / g : Nat) := (Int.ofNat_tdiv _ _).symm
 have eb : (d.natAbs : Int).tdiv (g : Int) = (d.natAbs / g : Nat) := (Int.ofNat_tdiv _ _).symm
 unfold makeA at hm
 generalize n.natAbs / g = a at *
 generalize d.natAbs / g = b at *
 conv => whnf
 repeat ((first|((first|(apply zY;intro hg)|apply zZ);first|exact stA)|(refine zW ?_ ?_;exact gA)|refine zH rfl ?_|refine zA ?_|refine zI bA ?_|refine zI rfl ?_|refine sB ?_|(refine zO ?_ ?_ ?_;omega;omega)|(refine zP ?_ ?_ ?_;omega;omega)|refine zM rfl ?_|(refine zQ ?_ ?_ ?_;omega;omega)|(refine zR ?_ ?_;omega)|(refine zI ?_ ?_;exact nA)|refine sS ?_|refine sD ?_|refine PDraw.sP (some 19) rfl [] [] tt_ok mixed ?_|intro _);conv=>whnf)
 rw [ea, eb]
 conv => whnf
 repeat' (first|((first|((first|(apply zY;intro hg)|apply zZ);first|exact stA)|(refine zW ?_ ?_;exact gA)|refine zH rfl ?_|refine zA ?_|refine zI bA ?_|refine zI rfl ?_|refine sB ?_|(refine zO ?_ ?_ ?_;omega;omega)|(refine zP ?_ ?_ ?_;omega;omega)|refine zM rfl ?_|(refine zQ ?_ ?_ ?_;omega;omega)|(refine zR ?_ ?_;omega)|(refine zI ?_ ?_;exact nA)|refine sS ?_|refine sD ?_|refine PDraw.sP (some 19) rfl [] [] tt_ok mixed ?_|intro _|refine zG ?_);conv=>whnf)|(refine zX (fun hc => ?_) (fun hc => ?_)<;>(try simp only [SY] at hc)<;>first|omega|(conv=>whnf)))
 ·exact PRet.pure (Wk.eq (by rw [hm, if_pos (by omega)]; rfl))
 ·rw [if_neg (by omega)] at hm
  refine PRet.pure (Wk.eq ?_)
  rw [hm, if_pos (by simpa using hc)]
  simp [tup3]
 ·rw [if_neg (by omega)] at hm
  refine PRet.pure (Wk.eq ?_)
  rw [hm, if_neg (by simpa using hc)]
  rfl
end Go.Cb
namespace Go.Cb
open Go.Proofs
set_option maxRecDepth 100000
set_option maxHeartbeats 4000000
def negB (s : List UInt8) : Bool := s.head? == some 45
def unneg (s : List UInt8) : List UInt8 := if negB s then s.drop 1 else s
def lowerN (s : List UInt8) (k : Nat) : Option Nat :=
 if k < s.length then
  if s[k]? = some 47 ∧ (partN (s.drop (k + 1))).2 ≠ 0 ∧ k + 1 + (partN (s.drop (k + 1))).2 = s.length then some (partN (s.drop (k + 1))).1 else none
 else some 1
def parseN (s : List UInt8) : Int × Int × Bool :=
 if (partN (unneg s)).2 = 0 then (0, 0, false) else
 match lowerN (unneg s) (partN (unneg s)).2 with
 | none => (0, 0, false)
 | some d =>
  let x := makeN (if negB s then -((partN (unneg s)).1 : Int) else (partN (unneg s)).1) d
  (x.1, x.2.1, x.2.2 == 0)
theorem parseN_eq (s : List UInt8) : parseN s = if (partN (unneg s)).2 = 0 then (0, 0, false) else
 match lowerN (unneg s) (partN (unneg s)).2 with
 | none => (0, 0, false)
 | some d =>
  let x := makeN (if negB s then -((partN (unneg s)).1 : Int) else (partN (unneg s)).1) d
  (x.1, x.2.1, x.2.2 == 0) := rfl
def tupP (x : Int × Int × Bool) : PV := .tup [.int .i64 x.1, .int .i64 x.2.1, .bool x.2.2]
theorem partN_lt (s : List UInt8) : (partN s).1 < 10000000000 ∧ (partN s).2 ≤ 10 ∧ (partN s).2 ≤ s.length := by
 unfold partN
 split
 ·simp
 ·rename_i h
  have h1 := decVal_lt (s.take (digN s)) (digN_dig s)
  have h2 := digN_le s
  refine ⟨Nat.lt_of_lt_of_le h1 ?_, by omega, h2⟩
  have : 10 ^ (s.take (digN s)).length ≤ 10 ^ 10 := Nat.pow_le_pow_right (by omega) (by simp; omega)
  omega
theorem tupP_no : Wk (.tup [.int .i64 0, .int .i64 0, .bfalse]) (tupP (0, 0, false)) := Wk.tup (.cons (Wk.refl _) (.cons (Wk.refl _) (.cons (Wk.ff rfl) .nil)))
theorem byte_eq (c d : UInt8) : ((c.toNat : Int) == (d.toNat : Int)) = (c == d) := by
 rw [Bool.eq_iff_iff, beq_iff_eq, beq_iff_eq, ← UInt8.toNat_inj]
 omega
theorem negB_cons (c : UInt8) (r : List UInt8) : ((c.toNat : Int) == 45) = negB (c :: r) := by
 have := byte_eq c 45
 rw [show ((45 : UInt8).toNat : Int) = 45 from rfl] at this
 rw [this]
 rfl
theorem negB_eq (s : List UInt8) : (decide ((s.length : Int) > 0) && ((s.getD 0 0).toNat : Int) == 45) = negB s := by
 cases s with
 | nil => rfl
 | cons c r =>
  rw [show (decide (((c :: r).length : Int) > 0)) = true by simp, Bool.true_and]
  exact negB_cons c r
theorem getD_eq {s : List UInt8} {k : Nat} (c : UInt8) (h : k < s.length) : (s[k]? = some c ↔ ((s.getD k 0).toNat : Int) = c.toNat) := by
 rw [List.getD, List.getElem?_eq_getElem h, Option.getD_some, Option.some.injEq, ← UInt8.toNat_inj]
 omega
theorem unneg_le (s : List UInt8) : (unneg s).length ≤ s.length := by
 unfold unneg
 split
 ·rw [List.length_drop]; omega
 ·omega
theorem parse1_c (s : List UInt8) : ACallP Tryz.prog 217 [.str s] (tupP (parseN s)) := by
 refine ACall.of_body tt_ok Tryz.func217 rfl rfl (n := 72) rfl rfl ?_
 conv => whnf
 repeat ((first|((first|(apply zY;intro hg)|apply zZ);first|exact stA|((conv=>whnf);(repeat ((first|(refine zW ?_ ?_;exact gA)|refine pC (part_c _) wR ?_|refine pC (part_c _) cA ?_|refine pC (make1_c _ _ OA OA OA OA) wR ?_|refine pC (make1_c _ _ OA OA OA OA) cA ?_|intro _);conv=>whnf));first|exact pS|exact pL|exact pE))|(refine zW ?_ ?_;exact gA)|refine zH rfl ?_|refine zA ?_|refine zI bA ?_|refine zI rfl ?_|refine sB ?_|(refine zO ?_ ?_ ?_;omega;omega)|(refine zP ?_ ?_ ?_;omega;omega)|refine zM rfl ?_|(refine zQ ?_ ?_ ?_;omega;omega)|(refine zR ?_ ?_;omega)|(refine zI ?_ ?_;exact nA)|refine sS ?_|refine pC (part_c _) wR ?_|refine pC (part_c _) cA ?_|refine pC (make1_c _ _ OA OA OA OA) wR ?_|refine pC (make1_c _ _ OA OA OA OA) cA ?_|refine sD ?_|intro _);conv=>whnf)
 refine PSeq.go ?_
 conv => whnf
 repeat ((first|((first|(apply zY;intro hg)|apply zZ);first|exact stA|((conv=>whnf);(repeat ((first|(refine zW ?_ ?_;exact gA)|refine pC (part_c _) wR ?_|refine pC (part_c _) cA ?_|refine pC (make1_c _ _ OA OA OA OA) wR ?_|refine pC (make1_c _ _ OA OA OA OA) cA ?_|intro _);conv=>whnf));first|exact pS|exact pL|exact pE))|(refine zW ?_ ?_;exact gA)|refine zH rfl ?_|refine zA ?_|refine zI bA ?_|refine zI rfl ?_|refine sB ?_|(refine zO ?_ ?_ ?_;omega;omega)|(refine zP ?_ ?_ ?_;omega;omega)|refine zM rfl ?_|(refine zQ ?_ ?_ ?_;omega;omega)|(refine zR ?_ ?_;omega)|(refine zI ?_ ?_;exact nA)|refine sS ?_|refine pC (part_c _) wR ?_|refine pC (part_c _) cA ?_|refine pC (make1_c _ _ OA OA OA OA) wR ?_|refine pC (make1_c _ _ OA OA OA OA) cA ?_|refine sD ?_|intro _);conv=>whnf)
 rename_i hlen
 have hul := unneg_le s
 refine PSeq.keep (fun _ : Unit => [(0, .str (unneg s))]) (fun _ => True) ?_ ?_
 ·rw [negB_eq]
  conv => whnf
  repeat' (first|((first|((first|(apply zY;intro hg)|apply zZ);first|exact stA|((conv=>whnf);(repeat ((first|(refine zW ?_ ?_;exact gA)|refine pC (part_c _) wR ?_|refine pC (part_c _) cA ?_|refine pC (make1_c _ _ OA OA OA OA) wR ?_|refine pC (make1_c _ _ OA OA OA OA) cA ?_|intro _);conv=>whnf));first|exact pS|exact pL|exact pE))|(refine zW ?_ ?_;exact gA)|refine zH rfl ?_|refine zA ?_|refine zI bA ?_|refine zI rfl ?_|refine sB ?_|(refine zO ?_ ?_ ?_;omega;omega)|(refine zP ?_ ?_ ?_;omega;omega)|refine zM rfl ?_|(refine zQ ?_ ?_ ?_;omega;omega)|(refine zR ?_ ?_;omega)|(refine zI ?_ ?_;exact nA)|refine sS ?_|refine pC (part_c _) wR ?_|refine pC (part_c _) cA ?_|refine pC (make1_c _ _ OA OA OA OA) wR ?_|refine pC (make1_c _ _ OA OA OA OA) cA ?_|refine sD ?_|intro _|refine zG ?_);conv=>whnf)|(refine zX (fun hc => ?_) (fun hc => ?_)<;>(try simp only [SY] at hc)<;>first|omega|(conv=>whnf)))
  ·refine PSliceS.lo (by omega) (by cases s <;> simp_all [negB]; omega) ?_
   conv => whnf
   exact joinEnd () trivial (And.intro (Wk.str (by rw [unneg, if_pos hc])) wA)
  ·exact joinEnd () trivial (And.intro (Wk.str (by rw [unneg, hc]; rfl)) wA)
 ·rintro _ _
  rw [negB_eq]
  have hP := parseN_eq s
  generalize negB s = neg at *
  generalize unneg s = u at *
  have hb := partN_lt u
  have hb2 := fun k => partN_lt (u.drop k)
  have hl : lowerN u (partN u).2 = if (partN u).2 < u.length then if u[(partN u).2]? = some 47 ∧ (partN (u.drop ((partN u).2 + 1))).2 ≠ 0 ∧ (partN u).2 + 1 + (partN (u.drop ((partN u).2 + 1))).2 = u.length then some (partN (u.drop ((partN u).2 + 1))).1 else none else some 1 := rfl
  have hb3 := hb2 ((partN u).2 + 1)
  clear hb2
  have h47 := fun h => getD_eq (s := u) (k := (partN u).2) 47 h
  simp only [show ((47 : UInt8).toNat : Int) = 47 from rfl] at h47
  conv => whnf
  repeat' (first|((first|((first|(apply zY;intro hg)|apply zZ);first|exact stA|((conv=>whnf);(repeat ((first|(refine zW ?_ ?_;exact gA)|refine pC (part_c _) wR ?_|refine pC (part_c _) cA ?_|refine pC (make1_c _ _ OA OA OA OA) wR ?_|refine pC (make1_c _ _ OA OA OA OA) cA ?_|intro _);conv=>whnf));first|exact pS|exact pL|exact pE))|(refine zW ?_ ?_;exact gA)|refine zH rfl ?_|refine zA ?_|refine zI bA ?_|refine zI rfl ?_|refine sB ?_|(refine zO ?_ ?_ ?_;omega;omega)|(refine zP ?_ ?_ ?_;omega;omega)|refine zM rfl ?_|(refine zQ ?_ ?_ ?_;omega;omega)|(refine zR ?_ ?_;omega)|(refine zI ?_ ?_;exact nA)|refine sS ?_|refine pC (part_c _) wR ?_|refine pC (part_c _) cA ?_|refine pC (make1_c _ _ OA OA OA OA) wR ?_|refine pC (make1_c _ _ OA OA OA OA) cA ?_|refine sD ?_|intro _|refine zG ?_);conv=>whnf)|(refine zX (fun hc => ?_) (fun hc => ?_)<;>(try simp only [SY] at hc)<;>first|omega|(conv=>whnf)))
  all_goals rw [hP]
  ·rw [if_pos (by omega)]
   exact PRet.pure tupP_no
  ·rw [if_neg (by omega), hl, if_pos (by omega), if_neg (by omega)]
   exact PRet.pure tupP_no
  ·rw [if_neg (by omega), hl, if_pos (by omega), if_pos ⟨(h47 (by omega)).2 (by omega), by omega, by omega⟩, hc]
   exact PRet.pure (Wk.eq (by simp only [tupP, if_true, Int.zero_sub]))
  ·rw [if_neg (by omega), hl, if_pos (by omega), if_pos ⟨(h47 (by omega)).2 (by omega), by omega, by omega⟩, hc]
   exact PRet.pure (Wk.refl _)
  ·rw [if_neg (by omega), hl, if_pos (by omega), if_neg (fun h => by have := (h47 (by omega)).1 h.1; omega)]
   exact PRet.pure tupP_no
  ·rw [if_neg (by omega), hl, if_neg (by omega), hc]
   exact PRet.pure (Wk.eq (by simp only [tupP, if_true, Int.zero_sub]; rfl))
  ·rw [if_neg (by omega), hl, if_neg (by omega), hc]
   exact PRet.pure (Wk.refl _)
end Go.Cb
namespace Go.Cb
open Go.Proofs
set_option maxRecDepth 100000
set_option maxHeartbeats 4000000
def trimR (p : UInt8 → Bool) (s : List UInt8) : List UInt8 := (s.reverse.dropWhile p).reverse
theorem trimR_end (p : UInt8 → Bool) (s : List UInt8) (h : 0 < s.length) : trimR p s = if p (s.getD (s.length - 1) 0) then trimR p (s.take (s.length - 1)) else s := by
 have hne : s ≠ [] := by intro e; subst e; simp at h
 have e : s = s.take (s.length - 1) ++ [s.getD (s.length - 1) 0] := by
  have := List.dropLast_concat_getLast hne
  rw [List.dropLast_eq_take, List.getLast_eq_getElem] at this
  rw [List.getD, List.getElem?_eq_getElem (by omega)]
  exact this.symm
 generalize s.getD (s.length - 1) 0 = c at *
 generalize s.take (s.length - 1) = t at *
 subst e
 simp only [trimR, List.reverse_append, List.reverse_cons, List.reverse_nil, List.nil_append, List.singleton_append, List.dropWhile_cons]
 split <;> simp
theorem contains_c (m : List Bool) (hm : m.length = 256) (b : Nat) (c : UInt8) : ACall Tryz.prog 239 [.ptr b 0, .int .u8 c.toNat] [.box b (m.map PV.bool)] (fun y Γ' => y = .bool (m.getD c.toNat false) ∧ Γ' = [.box b (m.map PV.bool)]) := by
 have hc := UInt8.toNat_lt c
 refine ACall.of_body tt_ok Tryz.func239 rfl rfl (n := 10) rfl rfl ?_
 conv => whnf
 repeat ((first|((first|(apply zY;intro hg)|apply zZ);first|exact stA)|(refine zW ?_ ?_;exact gA)|refine zH rfl ?_|refine zA ?_|refine zI bA ?_|refine zI rfl ?_|refine sB ?_|(refine zO ?_ ?_ ?_;omega;omega)|(refine zP ?_ ?_ ?_;omega;omega)|refine zM rfl ?_|(refine zQ ?_ ?_ ?_;omega;omega)|(refine zR ?_ ?_;omega)|(refine zI ?_ ?_;exact nA)|refine sS ?_|refine sD ?_|intro _);conv=>whnf)
 refine PIndexR.ix rfl (by omega) (by omega) ?_
 conv => whnf
 refine PLoad.cell (.bool (m.getD c.toNat false)) (by simp [List.getD, show c.toNat < m.length by omega]) ?_
 conv => whnf
 exact PRet.gen (Wk.refl _) ⟨rfl, rfl⟩
theorem trimLeft_c (m : List Bool) (hm : m.length = 256) (b : Nat) (s : List UInt8) : ACall Tryz.prog 221 [.str s, .ptr b 0] [.box b (m.map PV.bool)] (fun y Γ' => y = .str (s.dropWhile fun c => m.getD c.toNat false) ∧ Γ' = [.box b (m.map PV.bool)]) := by
 refine ACall.of_body tt_ok Tryz.func221 rfl rfl (n := 16) rfl rfl ?_
 conv => whnf
 repeat ((first|((first|(apply zY;intro hg)|apply zZ);first|exact stA)|(refine zW ?_ ?_;exact gA)|refine zH rfl ?_|refine zA ?_|refine zI bA ?_|refine zI rfl ?_|refine sB ?_|(refine zO ?_ ?_ ?_;omega;omega)|(refine zP ?_ ?_ ?_;omega;omega)|refine zM rfl ?_|(refine zQ ?_ ?_ ?_;omega;omega)|(refine zR ?_ ?_;omega)|(refine zI ?_ ?_;exact nA)|refine sS ?_|refine sD ?_|intro _);conv=>whnf)
 refine PLoop.keep [0, 5, 6, 7, 8, 9, 10, 11, 12, 13, 14] (fun t : List UInt8 => [(0, .str t)]) (fun t => t.dropWhile (fun c => m.getD c.toNat false) = s.dropWhile (fun c => m.getD c.toNat false)) (fun t => t.length) s rfl wA ?_
 intro t ht
 conv => whnf
 repeat' (first|((first|((first|(apply zY;intro hg)|apply zZ);first|exact stA)|(refine zW ?_ ?_;exact gA)|refine zH rfl ?_|refine zA ?_|refine zI bA ?_|refine zI rfl ?_|refine sB ?_|(refine zO ?_ ?_ ?_;omega;omega)|(refine zP ?_ ?_ ?_;omega;omega)|refine zM rfl ?_|(refine zQ ?_ ?_ ?_;omega;omega)|(refine zR ?_ ?_;omega)|(refine zI ?_ ?_;exact nA)|refine sS ?_|refine sD ?_|intro _|refine zG ?_);conv=>whnf)|(refine zX (fun hc => ?_) (fun hc => ?_)<;>(try simp only [SY] at hc)<;>first|omega|(conv=>whnf)))
 ·refine PCall.go (contains_c m hm b (t.getD 0 0)) (WkT.refl _) ?_
  rintro _ _ ⟨rfl, rfl⟩
  have hd : t = t.getD 0 0 :: t.drop 1 := drop_getD (s := t) (i := 0) (by omega)
  generalize t.getD 0 0 = c at *
  rw [hd, List.dropWhile_cons] at ht
  conv => whnf
  repeat' (first|((first|((first|(apply zY;intro hg)|apply zZ);first|exact stA)|(refine zW ?_ ?_;exact gA)|refine zH rfl ?_|refine zA ?_|refine zI bA ?_|refine zI rfl ?_|refine sB ?_|(refine zO ?_ ?_ ?_;omega;omega)|(refine zP ?_ ?_ ?_;omega;omega)|refine zM rfl ?_|(refine zQ ?_ ?_ ?_;omega;omega)|(refine zR ?_ ?_;omega)|(refine zI ?_ ?_;exact nA)|refine sS ?_|refine sD ?_|intro _|refine zG ?_);conv=>whnf)|(refine zX (fun hc => ?_) (fun hc => ?_)<;>(try simp only [SY] at hc)<;>first|omega|(conv=>whnf)))
  ·rw [hc] at ht
   refine PRet.gen (Wk.str ?_) ⟨rfl, rfl⟩
   rw [hd]; simpa using ht
  ·rw [hc] at ht
   exact loopTo (t.drop 1) (by simpa using ht) (by show (t.drop 1).length < t.length; rw [List.length_drop]; omega) wA
 ·obtain rfl : t = [] := List.eq_nil_of_length_eq_zero (by omega)
  exact PRet.gen (Wk.str ht) ⟨rfl, rfl⟩
theorem trimRight_c (m : List Bool) (hm : m.length = 256) (b : Nat) (s : List UInt8) : ACall Tryz.prog 222 [.str s, .ptr b 0] [.box b (m.map PV.bool)] (fun y Γ' => y = .str (trimR (fun c => m.getD c.toNat false) s) ∧ Γ' = [.box b (m.map PV.bool)]) := by
 refine ACall.of_body tt_ok Tryz.func222 rfl rfl (n := 22) rfl rfl ?_
 conv => whnf
 repeat ((first|((first|(apply zY;intro hg)|apply zZ);first|exact stA)|(refine zW ?_ ?_;exact gA)|refine zH rfl ?_|refine zA ?_|refine zI bA ?_|refine zI rfl ?_|refine sB ?_|(refine zO ?_ ?_ ?_;omega;omega)|(refine zP ?_ ?_ ?_;omega;omega)|refine zM rfl ?_|(refine zQ ?_ ?_ ?_;omega;omega)|(refine zR ?_ ?_;omega)|(refine zI ?_ ?_;exact nA)|refine sS ?_|refine sD ?_|intro _);conv=>whnf)
 refine PLoop.keep [0, 5, 6, 7, 8, 9, 10, 11, 12, 13, 14, 15, 16, 17, 18, 19, 20] (fun t : List UInt8 => [(0, .str t)]) (fun t => trimR (fun c => m.getD c.toNat false) t = trimR (fun c => m.getD c.toNat false) s) (fun t => t.length) s rfl wA ?_
 intro t ht
 conv => whnf
 repeat' (first|((first|((first|(apply zY;intro hg)|apply zZ);first|exact stA)|(refine zW ?_ ?_;exact gA)|refine zH rfl ?_|refine zA ?_|refine zI bA ?_|refine zI rfl ?_|refine sB ?_|(refine zO ?_ ?_ ?_;omega;omega)|(refine zP ?_ ?_ ?_;omega;omega)|refine zM rfl ?_|(refine zQ ?_ ?_ ?_;omega;omega)|(refine zR ?_ ?_;omega)|(refine zI ?_ ?_;exact nA)|refine sS ?_|refine sD ?_|intro _|refine zG ?_);conv=>whnf)|(refine zX (fun hc => ?_) (fun hc => ?_)<;>(try simp only [SY] at hc)<;>first|omega|(conv=>whnf)))
 ·refine PCall.go (contains_c m hm b (t.getD (t.length - 1) 0)) (WkT.refl _) ?_
  rintro _ _ ⟨rfl, rfl⟩
  rw [trimR_end _ t (by omega)] at ht
  conv => whnf
  repeat' (first|((first|((first|(apply zY;intro hg)|apply zZ);first|exact stA)|(refine zW ?_ ?_;exact gA)|refine zH rfl ?_|refine zA ?_|refine zI bA ?_|refine zI rfl ?_|refine sB ?_|(refine zO ?_ ?_ ?_;omega;omega)|(refine zP ?_ ?_ ?_;omega;omega)|refine zM rfl ?_|(refine zQ ?_ ?_ ?_;omega;omega)|(refine zR ?_ ?_;omega)|(refine zI ?_ ?_;exact nA)|refine sS ?_|refine sD ?_|intro _|refine zG ?_);conv=>whnf)|(refine zX (fun hc => ?_) (fun hc => ?_)<;>(try simp only [SY] at hc)<;>first|omega|(conv=>whnf)))
  ·rw [hc] at ht
   exact PRet.gen (Wk.str (by simpa using ht)) ⟨rfl, rfl⟩
  ·rw [hc] at ht
   exact loopTo (t.take (t.length - 1)) (by simpa using ht) (by show (t.take (t.length - 1)).length < t.length; rw [List.length_take]; omega) wA
 ·obtain rfl : t = [] := List.eq_nil_of_length_eq_zero (by omega)
  exact PRet.gen (Wk.str ht) ⟨rfl, rfl⟩
def setOf (s : List UInt8) (m : List Bool) : List Bool := s.foldl (fun m c => m.set c.toNat true) m
theorem setOf_length (s : List UInt8) : ∀ m, (setOf s m).length = m.length := by
 induction s with
 | nil => intro m; rfl
 | cons c s ih => intro m; rw [setOf, List.foldl_cons]; exact (ih _).trans (by simp)
theorem setOf_get (s : List UInt8) : ∀ (m : List Bool), m.length = 256 → ∀ c : UInt8, (setOf s m).getD c.toNat false = (m.getD c.toNat false || s.contains c) := by
 induction s with
 | nil => intro m _ c; simp [setOf]
 | cons d s ih =>
  intro m hm c
  rw [setOf, List.foldl_cons]
  refine (ih _ (by simp [hm]) c).trans ?_
  rw [List.contains_cons]
  have hc := UInt8.toNat_lt c
  by_cases h : d = c
  ·subst h
   simp [List.getD, show d.toNat < m.length by omega]
  ·have h' : d.toNat ≠ c.toNat := fun e => h (UInt8.toNat_inj.1 e)
   have h2 : (c == d) = false := by simp; exact fun e => h e.symm
   simp [List.getD, List.getElem?_set_ne h', h2]
def msetOf (s : List UInt8) (m : List PV) : List PV := s.foldl (fun m c => m.set c.toNat .btrue) m
theorem msetOf_length (s : List UInt8) : ∀ m, (msetOf s m).length = m.length := by
 induction s with
 | nil => intro m; rfl
 | cons c s ih => intro m; rw [msetOf, List.foldl_cons]; exact (ih _).trans (by simp)
theorem WkL.set {xs ys : List PV} {x y : PV} (h : WkL xs ys) (hx : Wk x y) : ∀ i, WkL (xs.set i x) (ys.set i y) := by
 induction h with
 | nil => intro i; exact .nil
 | cons a b ih =>
  intro i
  cases i with
  | zero => exact .cons hx b
  | succ i => exact .cons a (ih i)
theorem msetOf_wk (s : List UInt8) : ∀ (m : List PV) (m' : List Bool), WkL m (m'.map PV.bool) → WkL (msetOf s m) ((setOf s m').map PV.bool) := by
 induction s with
 | nil => intro m m' h; exact h
 | cons c s ih =>
  intro m m' h
  rw [msetOf, setOf, List.foldl_cons, List.foldl_cons]
  exact ih _ _ (by rw [List.map_set]; exact h.set (Wk.tt rfl) _)
theorem msetOf_snoc (s : List UInt8) (c : UInt8) (m : List PV) : msetOf (s ++ [c]) m = (msetOf s m).set c.toNat .btrue := by simp [msetOf]
theorem makeSet_c (s : List UInt8) (hs : ∀ c ∈ s, c.toNat < 128) : ACallP Tryz.prog 220 [.str s] (.tup [.agg ((setOf s (List.replicate 256 false)).map PV.bool), .btrue]) := by
 refine ACall.of_body tt_ok Tryz.func220 rfl rfl (n := 21) rfl rfl ?_
 conv => whnf
 repeat ((first|((first|(apply zY;intro hg)|apply zZ);first|exact stA)|(refine zW ?_ ?_;exact gA)|refine zH rfl ?_|refine zA ?_|refine zI bA ?_|refine zI rfl ?_|refine sB ?_|(refine zO ?_ ?_ ?_;omega;omega)|(refine zP ?_ ?_ ?_;omega;omega)|refine zM rfl ?_|(refine zQ ?_ ?_ ?_;omega;omega)|(refine zR ?_ ?_;omega)|(refine zI ?_ ?_;exact nA)|refine sS ?_|refine sD ?_|intro _);conv=>whnf)
 rename_i b
 show PLoop _ _ [.box b (msetOf (s.take 0) (List.replicate 256 .bfalse))] _ _
 have hl : ∀ i, (msetOf (s.take i) (List.replicate 256 .bfalse)).length = 256 := fun i => (msetOf_length _ _).trans (by simp)
 refine PLoop.over [3, 4, 5, 6, 7, 8, 9, 10, 11, 12, 13, 14, 15, 16, 17, 18, 19] (fun i : Nat => [(4, .int .i64 i)]) (fun i => [.box b (msetOf (s.take i) (List.replicate 256 .bfalse))]) (fun i => i ≤ s.length) (fun i => s.length - i) 0 (by omega) wA ?_
 intro i hi
 have hli := hl i
 have hln := hl (i + 1)
 by_cases hlt : i < s.length
 ·have hc : (s.getD i 0).toNat < 128 := hs _ (by rw [List.getD, List.getElem?_eq_getElem hlt]; exact List.getElem_mem _)
  have hsn : s.take (i + 1) = s.take i ++ [s.getD i 0] := by rw [List.take_add_one]; simp [hlt]
  rw [hsn, msetOf_snoc] at hln
  conv => whnf
  repeat' (first|((first|((first|(apply zY;intro hg)|apply zZ);first|exact stA)|(refine zW ?_ ?_;exact gA)|refine zH rfl ?_|refine zA ?_|refine zI bA ?_|refine zI rfl ?_|refine sB ?_|(refine zO ?_ ?_ ?_;omega;omega)|(refine zP ?_ ?_ ?_;omega;omega)|refine zM rfl ?_|(refine zQ ?_ ?_ ?_;omega;omega)|(refine zR ?_ ?_;omega)|(refine zI ?_ ?_;exact nA)|refine sS ?_|refine sD ?_|intro _|refine zG ?_);conv=>whnf)|(refine zX (fun hc => ?_) (fun hc => ?_)<;>(try simp only [SY] at hc)<;>first|omega|(conv=>whnf)))
  refine PIndexR.ix rfl (by omega) (by omega) ?_
  conv => whnf
  refine PStore.cell (by omega) rfl rfl ?_
  conv => whnf
  repeat' (first|((first|((first|(apply zY;intro hg)|apply zZ);first|exact stA)|(refine zW ?_ ?_;exact gA)|refine zH rfl ?_|refine zA ?_|refine zI bA ?_|refine zI rfl ?_|refine sB ?_|(refine zO ?_ ?_ ?_;omega;omega)|(refine zP ?_ ?_ ?_;omega;omega)|refine zM rfl ?_|(refine zQ ?_ ?_ ?_;omega;omega)|(refine zR ?_ ?_;omega)|(refine zI ?_ ?_;exact nA)|refine sS ?_|refine sD ?_|intro _|refine zG ?_);conv=>whnf)|(refine zX (fun hc => ?_) (fun hc => ?_)<;>(try simp only [SY] at hc)<;>first|omega|(conv=>whnf)))
  rw [show 0 + (s.getD i 0).toNat = (s.getD i 0).toNat by omega, ← msetOf_snoc, ← hsn]
  exact loopTo (i + 1) (by omega) (by omega) wA
 ·rw [List.take_of_length_le (by omega)] at *
  conv => whnf
  repeat' (first|((first|((first|(apply zY;intro hg)|apply zZ);first|exact stA)|(refine zW ?_ ?_;exact gA)|refine zH rfl ?_|refine zA ?_|refine zI bA ?_|refine zI rfl ?_|refine sB ?_|(refine zO ?_ ?_ ?_;omega;omega)|(refine zP ?_ ?_ ?_;omega;omega)|refine zM rfl ?_|(refine zQ ?_ ?_ ?_;omega;omega)|(refine zR ?_ ?_;omega)|(refine zI ?_ ?_;exact nA)|refine sS ?_|refine sD ?_|intro _|refine zG ?_);conv=>whnf)|(refine zX (fun hc => ?_) (fun hc => ?_)<;>(try simp only [SY] at hc)<;>first|omega|(conv=>whnf)))
  refine PLoad.all hli ?_
  conv => whnf
  refine PStore.all hli hli ?_
  conv => whnf
  refine PLoad.all hli ?_
  conv => whnf
  refine PRet.pure (Wk.tup (.cons (Wk.agg (msetOf_wk s _ _ ?_)) (.cons (Wk.refl _) .nil)))
  rw [List.map_replicate]
  have : ∀ n, WkL (List.replicate n .bfalse) (List.replicate n (PV.bool false)) := by
   intro n
   induction n with
   | zero => exact .nil
   | succ n ih => exact .cons (Wk.ff rfl) ih
  exact this 256
theorem trim_c (s cs : List UInt8) (hl : 2 ≤ cs.length) (hcs : ∀ c ∈ cs, c.toNat < 128) : ACallP Tryz.prog 201 [.str s, .str cs] (.str ((trimR cs.contains s).dropWhile cs.contains)) := by
 have hp : (fun c : UInt8 => (setOf cs (List.replicate 256 false)).getD c.toNat false) = cs.contains := by
  funext c
  rw [setOf_get cs _ (by simp) c]
  have : (List.replicate 256 false).getD c.toNat false = false := by rw [List.getD, List.getElem?_replicate]; split <;> rfl
  rw [this, Bool.false_or]
 have hlen : (setOf cs (List.replicate 256 false)).length = 256 := by rw [setOf_length]; simp
 have hne : (cs == []) = false := by simp; intro e; subst e; simp at hl
 refine ACall.of_body tt_ok Tryz.func201 rfl rfl (n := 43) rfl rfl ?_
 conv => whnf
 repeat' (first|((first|((first|(apply zY;intro hg)|apply zZ);first|exact stA|((conv=>whnf);(repeat ((first|(refine zW ?_ ?_;exact gA)|refine pC (makeSet_c cs hcs) wR ?_|refine pC (makeSet_c cs hcs) cA ?_|intro _);conv=>whnf));first|exact pS|exact pL|exact pE))|(refine zW ?_ ?_;exact gA)|refine zH rfl ?_|refine zA ?_|refine zI bA ?_|refine zI rfl ?_|refine sB ?_|(refine zO ?_ ?_ ?_;omega;omega)|(refine zP ?_ ?_ ?_;omega;omega)|refine zM rfl ?_|(refine zQ ?_ ?_ ?_;omega;omega)|(refine zR ?_ ?_;omega)|(refine zI ?_ ?_;exact nA)|refine sS ?_|refine pC (makeSet_c cs hcs) wR ?_|refine pC (makeSet_c cs hcs) cA ?_|refine sD ?_|refine PDraw.sP (some 22) rfl [] [] tt_ok mixed ?_|intro _|refine zG ?_);conv=>whnf)|(refine zX (fun hc => ?_) (fun hc => ?_)<;>(try simp only [SY] at hc)<;>first|omega|(conv=>whnf)))
 ·rcases hc with hc | hc
  ·subst hc
   exact PRet.pure (Wk.str rfl)
  ·subst hc; simp at hl
 ·refine PStore.all rfl (by rw [List.length_map]; exact hlen) ?_
  conv => whnf
  repeat ((first|((first|(apply zY;intro hg)|apply zZ);first|exact stA|((conv=>whnf);(repeat ((first|(refine zW ?_ ?_;exact gA)|refine pC (makeSet_c cs hcs) wR ?_|refine pC (makeSet_c cs hcs) cA ?_|intro _);conv=>whnf));first|exact pS|exact pL|exact pE))|(refine zW ?_ ?_;exact gA)|refine zH rfl ?_|refine zA ?_|refine zI bA ?_|refine zI rfl ?_|refine sB ?_|(refine zO ?_ ?_ ?_;omega;omega)|(refine zP ?_ ?_ ?_;omega;omega)|refine zM rfl ?_|(refine zQ ?_ ?_ ?_;omega;omega)|(refine zR ?_ ?_;omega)|(refine zI ?_ ?_;exact nA)|refine sS ?_|refine pC (makeSet_c cs hcs) wR ?_|refine pC (makeSet_c cs hcs) cA ?_|refine sD ?_|refine PDraw.sP (some 22) rfl [] [] tt_ok mixed ?_|intro _);conv=>whnf)
  refine PCall.go (trimRight_c _ hlen _ s) (WkT.refl _) ?_
  rintro _ _ ⟨rfl, rfl⟩
  conv => whnf
  repeat ((first|((first|(apply zY;intro hg)|apply zZ);first|exact stA|((conv=>whnf);(repeat ((first|(refine zW ?_ ?_;exact gA)|refine pC (makeSet_c cs hcs) wR ?_|refine pC (makeSet_c cs hcs) cA ?_|intro _);conv=>whnf));first|exact pS|exact pL|exact pE))|(refine zW ?_ ?_;exact gA)|refine zH rfl ?_|refine zA ?_|refine zI bA ?_|refine zI rfl ?_|refine sB ?_|(refine zO ?_ ?_ ?_;omega;omega)|(refine zP ?_ ?_ ?_;omega;omega)|refine zM rfl ?_|(refine zQ ?_ ?_ ?_;omega;omega)|(refine zR ?_ ?_;omega)|(refine zI ?_ ?_;exact nA)|refine sS ?_|refine pC (makeSet_c cs hcs) wR ?_|refine pC (makeSet_c cs hcs) cA ?_|refine sD ?_|refine PDraw.sP (some 22) rfl [] [] tt_ok mixed ?_|intro _);conv=>whnf)
  refine PCall.go (trimLeft_c _ hlen _ _) (WkT.refl _) ?_
  rintro _ _ ⟨rfl, rfl⟩
  conv => whnf
  repeat ((first|((first|(apply zY;intro hg)|apply zZ);first|exact stA|((conv=>whnf);(repeat ((first|(refine zW ?_ ?_;exact gA)|refine pC (makeSet_c cs hcs) wR ?_|refine pC (makeSet_c cs hcs) cA ?_|intro _);conv=>whnf));first|exact pS|exact pL|exact pE))|(refine zW ?_ ?_;exact gA)|refine zH rfl ?_|refine zA ?_|refine zI bA ?_|refine zI rfl ?_|refine sB ?_|(refine zO ?_ ?_ ?_;omega;omega)|(refine zP ?_ ?_ ?_;omega;omega)|refine zM rfl ?_|(refine zQ ?_ ?_ ?_;omega;omega)|(refine zR ?_ ?_;omega)|(refine zI ?_ ?_;exact nA)|refine sS ?_|refine pC (makeSet_c cs hcs) wR ?_|refine pC (makeSet_c cs hcs) cA ?_|refine sD ?_|refine PDraw.sP (some 22) rfl [] [] tt_ok mixed ?_|intro _);conv=>whnf)
  rw [hp]
  exact PRet.pure (Wk.refl _)
theorem indexByteString_x (s : List UInt8) (c : UInt8) : AExt Tryz.prog 251 [.str s, .int .u8 c.toNat] (.int .i64 (Go.Lib.indexByte s c)) := by
 intro F w vs hv
 obtain ⟨v1, v2, rfl⟩ : ∃ v1 v2, vs = [v1, v2] := by
  have := hv.length
  match vs, this with
  | [a, b], _ => exact ⟨a, b, rfl⟩
 simp only [RepT, Rep] at hv
 obtain ⟨⟨rfl, _⟩, rfl, _⟩ := hv
 refine ⟨.int .i64 (Go.Lib.indexByte s c), ?_, by simp only [Rep]⟩
 rw [show [Value.string ⟨s.toArray⟩, Value.int .u8 c.toNat].toArray = #[Value.string ⟨s.toArray⟩, Value.int .u8 c.toNat] from rfl]
 rw [run_callFunc_extern (fn := Tryz.f251) (e := Extern.BytealgIndexByte.indexByte) (by kernel_rfl) (by kernel_rfl) (by kernel_rfl) (by kernel_rfl) (by kernel_rfl)]
 simp [Go.Lib.run_indexByteString]
theorem indexByteL_c (s : List UInt8) (c : UInt8) : ACallP Tryz.prog 243 [.str s, .int .u8 c.toNat] (.int .i64 (Go.Lib.indexByte s c)) := by
 refine ACall.of_body tt_ok Tryz.func243 rfl rfl (n := 8) rfl rfl ?_
 conv => whnf
 repeat ((first|((first|(apply zY;intro hg)|apply zZ);first|exact stA|((conv=>whnf);(repeat ((first|(refine zW ?_ ?_;exact gA)|refine pC (makeSet_c cs hcs) wR ?_|refine pC (makeSet_c cs hcs) cA ?_|intro _);conv=>whnf));first|exact pS|exact pL|exact pE))|(refine zW ?_ ?_;exact gA)|refine zH rfl ?_|refine zA ?_|refine zI bA ?_|refine zI rfl ?_|refine sB ?_|(refine zO ?_ ?_ ?_;omega;omega)|(refine zP ?_ ?_ ?_;omega;omega)|refine zM rfl ?_|(refine zQ ?_ ?_ ?_;omega;omega)|(refine zR ?_ ?_;omega)|(refine zI ?_ ?_;exact nA)|refine sS ?_|refine pC (makeSet_c cs hcs) wR ?_|refine pC (makeSet_c cs hcs) cA ?_|refine sD ?_|intro _);conv=>whnf)
 refine PCall.ext (indexByteString_x s c) (WkT.refl _) ?_
 conv => whnf
 repeat ((first|((first|(apply zY;intro hg)|apply zZ);first|exact stA|((conv=>whnf);(repeat ((first|(refine zW ?_ ?_;exact gA)|refine pC (makeSet_c cs hcs) wR ?_|refine pC (makeSet_c cs hcs) cA ?_|intro _);conv=>whnf));first|exact pS|exact pL|exact pE))|(refine zW ?_ ?_;exact gA)|refine zH rfl ?_|refine zA ?_|refine zI bA ?_|refine zI rfl ?_|refine sB ?_|(refine zO ?_ ?_ ?_;omega;omega)|(refine zP ?_ ?_ ?_;omega;omega)|refine zM rfl ?_|(refine zQ ?_ ?_ ?_;omega;omega)|(refine zR ?_ ?_;omega)|(refine zI ?_ ?_;exact nA)|refine sS ?_|refine pC (makeSet_c cs hcs) wR ?_|refine pC (makeSet_c cs hcs) cA ?_|refine sD ?_|intro _);conv=>whnf)
 exact PRet.pure (Wk.refl _)
theorem indexByte_c (s : List UInt8) (c : UInt8) : ACallP Tryz.prog 225 [.str s, .int .u8 c.toNat] (.int .i64 (Go.Lib.indexByte s c)) := by
 refine ACall.of_body tt_ok Tryz.func225 rfl rfl (n := 8) rfl rfl ?_
 conv => whnf
 repeat ((first|((first|(apply zY;intro hg)|apply zZ);first|exact stA|((conv=>whnf);(repeat ((first|(refine zW ?_ ?_;exact gA)|refine pC (indexByteL_c s c) wR ?_|refine pC (indexByteL_c s c) cA ?_|intro _);conv=>whnf));first|exact pS|exact pL|exact pE))|(refine zW ?_ ?_;exact gA)|refine zH rfl ?_|refine zA ?_|refine zI bA ?_|refine zI rfl ?_|refine sB ?_|(refine zO ?_ ?_ ?_;omega;omega)|(refine zP ?_ ?_ ?_;omega;omega)|refine zM rfl ?_|(refine zQ ?_ ?_ ?_;omega;omega)|(refine zR ?_ ?_;omega)|(refine zI ?_ ?_;exact nA)|refine sS ?_|refine pC (indexByteL_c s c) wR ?_|refine pC (indexByteL_c s c) cA ?_|refine sD ?_|intro _);conv=>whnf)
 exact PRet.pure (Wk.refl _)
theorem index1_c (s : List UInt8) (c : UInt8) : ACallP Tryz.prog 253 [.str s, .str [c]] (.int .i64 (Go.Lib.indexByte s c)) := by
 refine ACall.of_body tt_ok Tryz.func253 rfl rfl (n := 143) rfl rfl ?_
 conv => whnf
 repeat' (first|((first|((first|(apply zY;intro hg)|apply zZ);first|exact stA|((conv=>whnf);(repeat ((first|(refine zW ?_ ?_;exact gA)|refine pC (indexByteL_c s c) wR ?_|refine pC (indexByteL_c s c) cA ?_|intro _);conv=>whnf));first|exact pS|exact pL|exact pE))|(refine zW ?_ ?_;exact gA)|refine zH rfl ?_|refine zA ?_|refine zI bA ?_|refine zI rfl ?_|refine sB ?_|(refine zO ?_ ?_ ?_;omega;omega)|(refine zP ?_ ?_ ?_;omega;omega)|refine zM rfl ?_|(refine zQ ?_ ?_ ?_;omega;omega)|(refine zR ?_ ?_;omega)|(refine zI ?_ ?_;exact nA)|refine sS ?_|refine pC (indexByteL_c s c) wR ?_|refine pC (indexByteL_c s c) cA ?_|refine sD ?_|intro _|refine zG ?_);conv=>whnf)|(refine zX (fun hc => ?_) (fun hc => ?_)<;>(try simp only [SY] at hc)<;>first|omega|(conv=>whnf)))
 ·have h : [c] = s := by rcases hc with hc | hc; simp at hc; exact hc
  subst h
  exact PRet.pure (Wk.int (by simp [Go.Lib.indexByte]))
 ·exact PRet.pure (Wk.refl _)
 all_goals exact absurd rfl ‹¬ (([c].length : Nat) : Int) = 1›
theorem hasPrefix_c (s p : List UInt8) : ACallP Tryz.prog 252 [.str s, .str p] (.bool (decide (p.length ≤ s.length) && s.take p.length == p)) := by
 refine ACall.of_body tt_ok Tryz.func252 rfl rfl (n := 18) rfl rfl ?_
 conv => whnf
 repeat' (first|((first|((first|(apply zY;intro hg)|apply zZ);first|exact stA|((conv=>whnf);(repeat ((first|(refine zW ?_ ?_;exact gA)|refine pC (indexByteL_c s c) wR ?_|refine pC (indexByteL_c s c) cA ?_|intro _);conv=>whnf));first|exact pS|exact pL|exact pE))|(refine zW ?_ ?_;exact gA)|refine zH rfl ?_|refine zA ?_|refine zI bA ?_|refine zI rfl ?_|refine sB ?_|(refine zO ?_ ?_ ?_;omega;omega)|(refine zP ?_ ?_ ?_;omega;omega)|refine zM rfl ?_|(refine zQ ?_ ?_ ?_;omega;omega)|(refine zR ?_ ?_;omega)|(refine zI ?_ ?_;exact nA)|refine sS ?_|refine pC (indexByteL_c s c) wR ?_|refine pC (indexByteL_c s c) cA ?_|refine sD ?_|intro _|refine zG ?_);conv=>whnf)|(refine zX (fun hc => ?_) (fun hc => ?_)<;>(try simp only [SY] at hc)<;>first|omega|(conv=>whnf)))
 exact PRet.pure (Wk.bool (by congr 1; simp))
def preB (s p : List UInt8) : Bool := decide (p.length ≤ s.length) && s.take p.length == p
theorem cutPrefix_c (s p : List UInt8) : ACallP Tryz.prog 244 [.str s, .str p] (.tup [.str (if preB s p = true then s.drop p.length else s), .bool (preB s p)]) := by
 refine ACall.of_body tt_ok Tryz.func244 rfl rfl (n := 15) rfl rfl ?_
 conv => whnf
 repeat ((first|((first|(apply zY;intro hg)|apply zZ);first|exact stA|((conv=>whnf);(repeat ((first|(refine zW ?_ ?_;exact gA)|refine pC (hasPrefix_c s p) wR ?_|refine pC (hasPrefix_c s p) cA ?_|intro _);conv=>whnf));first|exact pS|exact pL|exact pE))|(refine zW ?_ ?_;exact gA)|refine zH rfl ?_|refine zA ?_|refine zI bA ?_|refine zI rfl ?_|refine sB ?_|(refine zO ?_ ?_ ?_;omega;omega)|(refine zP ?_ ?_ ?_;omega;omega)|refine zM rfl ?_|(refine zQ ?_ ?_ ?_;omega;omega)|(refine zR ?_ ?_;omega)|(refine zI ?_ ?_;exact nA)|refine sS ?_|refine pC (hasPrefix_c s p) wR ?_|refine pC (hasPrefix_c s p) cA ?_|refine sD ?_|intro _);conv=>whnf)
 rw [show (decide (p.length ≤ s.length) && s.take p.length == p) = preB s p from rfl]
 have hb : preB s p = true → p.length ≤ s.length := by
  intro h
  simp only [preB, Bool.and_eq_true, decide_eq_true_eq] at h
  exact h.1
 generalize preB s p = b at *
 cases b with
 | false =>
  conv => whnf
  repeat' (first|((first|((first|(apply zY;intro hg)|apply zZ);first|exact stA|((conv=>whnf);(repeat ((first|(refine zW ?_ ?_;exact gA)|refine pC (hasPrefix_c s p) wR ?_|refine pC (hasPrefix_c s p) cA ?_|intro _);conv=>whnf));first|exact pS|exact pL|exact pE))|(refine zW ?_ ?_;exact gA)|refine zH rfl ?_|refine zA ?_|refine zI bA ?_|refine zI rfl ?_|refine sB ?_|(refine zO ?_ ?_ ?_;omega;omega)|(refine zP ?_ ?_ ?_;omega;omega)|refine zM rfl ?_|(refine zQ ?_ ?_ ?_;omega;omega)|(refine zR ?_ ?_;omega)|(refine zI ?_ ?_;exact nA)|refine sS ?_|refine pC (hasPrefix_c s p) wR ?_|refine pC (hasPrefix_c s p) cA ?_|refine sD ?_|intro _|refine zG ?_);conv=>whnf)|(refine zX (fun hc => ?_) (fun hc => ?_)<;>(try simp only [SY] at hc)<;>first|omega|(conv=>whnf)))
  ·exact PRet.pure (Wk.tup (.cons (Wk.str rfl) (.cons (Wk.ff rfl) .nil)))
 | true =>
  have hb := hb rfl
  conv => whnf
  repeat' (first|((first|((first|(apply zY;intro hg)|apply zZ);first|exact stA|((conv=>whnf);(repeat ((first|(refine zW ?_ ?_;exact gA)|refine pC (hasPrefix_c s p) wR ?_|refine pC (hasPrefix_c s p) cA ?_|intro _);conv=>whnf));first|exact pS|exact pL|exact pE))|(refine zW ?_ ?_;exact gA)|refine zH rfl ?_|refine zA ?_|refine zI bA ?_|refine zI rfl ?_|refine sB ?_|(refine zO ?_ ?_ ?_;omega;omega)|(refine zP ?_ ?_ ?_;omega;omega)|refine zM rfl ?_|(refine zQ ?_ ?_ ?_;omega;omega)|(refine zR ?_ ?_;omega)|(refine zI ?_ ?_;exact nA)|refine sS ?_|refine pC (hasPrefix_c s p) wR ?_|refine pC (hasPrefix_c s p) cA ?_|refine sD ?_|intro _|refine zG ?_);conv=>whnf)|(refine zX (fun hc => ?_) (fun hc => ?_)<;>(try simp only [SY] at hc)<;>first|omega|(conv=>whnf)))
  exact PRet.pure (Wk.tup (.cons (Wk.str rfl) (.cons (Wk.tt rfl) .nil)))
theorem cutPrefixS_c (s p : List UInt8) : ACallP Tryz.prog 226 [.str s, .str p] (.tup [.str (if preB s p = true then s.drop p.length else s), .bool (preB s p)]) := by
 refine ACall.of_body tt_ok Tryz.func226 rfl rfl (n := 11) rfl rfl ?_
 conv => whnf
 repeat ((first|((first|(apply zY;intro hg)|apply zZ);first|exact stA|((conv=>whnf);(repeat ((first|(refine zW ?_ ?_;exact gA)|refine pC (cutPrefix_c s p) wR ?_|refine pC (cutPrefix_c s p) cA ?_|intro _);conv=>whnf));first|exact pS|exact pL|exact pE))|(refine zW ?_ ?_;exact gA)|refine zH rfl ?_|refine zA ?_|refine zI bA ?_|refine zI rfl ?_|refine sB ?_|(refine zO ?_ ?_ ?_;omega;omega)|(refine zP ?_ ?_ ?_;omega;omega)|refine zM rfl ?_|(refine zQ ?_ ?_ ?_;omega;omega)|(refine zR ?_ ?_;omega)|(refine zI ?_ ?_;exact nA)|refine sS ?_|refine pC (cutPrefix_c s p) wR ?_|refine pC (cutPrefix_c s p) cA ?_|refine sD ?_|intro _);conv=>whnf)
 exact PRet.pure (Wk.refl _)
def cutA (s : List UInt8) (c : UInt8) : List UInt8 := if 0 ≤ Go.Lib.indexByte s c then s.take (Go.Lib.indexByte s c).toNat else s
def cutB (s : List UInt8) (c : UInt8) : List UInt8 := if 0 ≤ Go.Lib.indexByte s c then s.drop ((Go.Lib.indexByte s c).toNat + 1) else []
theorem indexByte_lt (s : List UInt8) (c : UInt8) : Go.Lib.indexByte s c < s.length ∨ Go.Lib.indexByte s c = -1 := by
 induction s with
 | nil => simp [Go.Lib.indexByte]
 | cons d s ih =>
  rw [Go.Lib.indexByte]
  simp only [List.length_cons]
  split
  ·omega
  ·split <;> rename_i h <;> simp at h <;> omega
theorem cut_c (s : List UInt8) (c : UInt8) (hs : s.length ≤ 9223372036854775806) : ACallP Tryz.prog 245 [.str s, .str [c]] (.tup [.str (cutA s c), .str (cutB s c), .bool (decide (0 ≤ Go.Lib.indexByte s c))]) := by
 refine ACall.of_body tt_ok Tryz.func245 rfl rfl (n := 23) rfl rfl ?_
 conv => whnf
 repeat ((first|((first|(apply zY;intro hg)|apply zZ);first|exact stA|((conv=>whnf);(repeat ((first|(refine zW ?_ ?_;exact gA)|refine pC (index1_c s c) wR ?_|refine pC (index1_c s c) cA ?_|intro _);conv=>whnf));first|exact pS|exact pL|exact pE))|(refine zW ?_ ?_;exact gA)|refine zH rfl ?_|refine zA ?_|refine zI bA ?_|refine zI rfl ?_|refine sB ?_|(refine zO ?_ ?_ ?_;omega;omega)|(refine zP ?_ ?_ ?_;omega;omega)|refine zM rfl ?_|(refine zQ ?_ ?_ ?_;omega;omega)|(refine zR ?_ ?_;omega)|(refine zI ?_ ?_;exact nA)|refine sS ?_|refine pC (index1_c s c) wR ?_|refine pC (index1_c s c) cA ?_|refine sD ?_|refine PDraw.sP (some 13) rfl [] [] tt_ok mixed ?_|intro _);conv=>whnf)
 have h1 := indexByte_lt s c
 unfold cutA cutB
 have e1 : [c].length = 1 := rfl
 generalize Go.Lib.indexByte s c = n at *
 conv => whnf
 repeat' (first|((first|((first|(apply zY;intro hg)|apply zZ);first|exact stA|((conv=>whnf);(repeat ((first|(refine zW ?_ ?_;exact gA)|refine pC (index1_c s c) wR ?_|refine pC (index1_c s c) cA ?_|intro _);conv=>whnf));first|exact pS|exact pL|exact pE))|(refine zW ?_ ?_;exact gA)|refine zH rfl ?_|refine zA ?_|refine zI bA ?_|refine zI rfl ?_|refine sB ?_|(refine zO ?_ ?_ ?_;omega;omega)|(refine zP ?_ ?_ ?_;omega;omega)|refine zM rfl ?_|(refine zQ ?_ ?_ ?_;omega;omega)|(refine zR ?_ ?_;omega)|(refine zI ?_ ?_;exact nA)|refine sS ?_|refine pC (index1_c s c) wR ?_|refine pC (index1_c s c) cA ?_|refine sD ?_|refine PDraw.sP (some 13) rfl [] [] tt_ok mixed ?_|intro _|refine zG ?_);conv=>whnf)|(refine zX (fun hc => ?_) (fun hc => ?_)<;>(try simp only [SY] at hc)<;>first|omega|(conv=>whnf)))
 ·simp only [hc, if_true, decide_true]
  exact PRet.pure (Wk.tup (.cons (Wk.refl _) (.cons (Wk.str (by congr 1; simp; omega)) (.cons (Wk.tt rfl) .nil))))
 ·simp only [show ¬ 0 ≤ n by omega, if_false, decide_false]
  exact PRet.pure (Wk.tup (.cons (Wk.refl _) (.cons (Wk.str rfl) (.cons (Wk.ff rfl) .nil))))
theorem cutS_c (s : List UInt8) (c : UInt8) (hs : s.length ≤ 9223372036854775806) : ACallP Tryz.prog 227 [.str s, .str [c]] (.tup [.str (cutA s c), .str (cutB s c), .bool (decide (0 ≤ Go.Lib.indexByte s c))]) := by
 refine ACall.of_body tt_ok Tryz.func227 rfl rfl (n := 13) rfl rfl ?_
 conv => whnf
 repeat ((first|((first|(apply zY;intro hg)|apply zZ);first|exact stA|((conv=>whnf);(repeat ((first|(refine zW ?_ ?_;exact gA)|refine pC (cut_c s c hs) wR ?_|refine pC (cut_c s c hs) cA ?_|intro _);conv=>whnf));first|exact pS|exact pL|exact pE))|(refine zW ?_ ?_;exact gA)|refine zH rfl ?_|refine zA ?_|refine zI bA ?_|refine zI rfl ?_|refine sB ?_|(refine zO ?_ ?_ ?_;omega;omega)|(refine zP ?_ ?_ ?_;omega;omega)|refine zM rfl ?_|(refine zQ ?_ ?_ ?_;omega;omega)|(refine zR ?_ ?_;omega)|(refine zI ?_ ?_;exact nA)|refine sS ?_|refine pC (cut_c s c hs) wR ?_|refine pC (cut_c s c hs) cA ?_|refine sD ?_|intro _);conv=>whnf)
 exact PRet.pure (Wk.refl _)
end Go.Cb
namespace Go.Cb
open Go.Proofs
set_option maxRecDepth 100000
set_option maxHeartbeats 4000000
theorem getD_mem {s : List UInt8} {i : Nat} (h : i < s.length) : s.getD i 0 ∈ s := by rw [List.getD, List.getElem?_eq_getElem h]; exact List.getElem_mem _
theorem take_getD {s : List UInt8} {i : Nat} (h : i < s.length) : s.take (i + 1) = s.take i ++ [s.getD i 0] := by rw [List.take_add_one]; simp [h]
theorem getD_get {s : List UInt8} {i : Nat} (h : i < s.length) : s[i] = s.getD i 0 := by simp [List.getD, h]
theorem isDig_iff {c : UInt8} : isDig c = true ↔ (48 : Int) ≤ c.toNat ∧ (c.toNat : Int) ≤ 57 := by simp only [isDig, Bool.and_eq_true, decide_eq_true_eq]; omega
theorem atoiI_c (s : List UInt8) (h1 : 1 ≤ s.length) (h2 : s.length ≤ 10) (hd : ∀ c ∈ s, isDig c = true) : ACallP Tryz.prog 254 [.str s] (.tup [.int .i64 (decVal s), .sc .nilIface]) := by
 have h0 := isDig_iff.1 (hd _ (getD_mem (i := 0) (by omega)))
 refine ACall.of_body tt_ok Tryz.func254 rfl rfl (n := 77) rfl rfl ?_
 conv => whnf
 repeat' (first|((first|((first|(apply zY;intro hg)|apply zZ);first|exact stA)|(refine zW ?_ ?_;exact gA)|refine zH rfl ?_|refine zA ?_|refine zI bA ?_|refine zI rfl ?_|refine sB ?_|(refine zO ?_ ?_ ?_;omega;omega)|(refine zP ?_ ?_ ?_;omega;omega)|refine zM rfl ?_|(refine zQ ?_ ?_ ?_;omega;omega)|(refine zR ?_ ?_;omega)|(refine zI ?_ ?_;exact nA)|refine sS ?_|refine sD ?_|intro _|refine zG ?_);conv=>whnf)|(refine zX (fun hc => ?_) (fun hc => ?_)<;>(try simp only [SY] at hc)<;>first|omega|(conv=>whnf)))
 ·have hv : ∀ i, decVal (s.take i) < 10 ^ 10 := fun i => Nat.lt_of_lt_of_le (decVal_lt _ fun c hc => hd c (List.mem_of_mem_take hc)) (Nat.pow_le_pow_right (by omega) (by simp; omega))
  refine PLoop.keep [2, 3, 6, 8, 49, 50, 51, 52, 53, 54, 55, 56, 57, 58, 59, 60, 61, 62, 63] (fun i : Nat => [(6, .int .i64 (decVal (s.take i))), (49, .int .i64 i)]) (fun i => i ≤ s.length) (fun i => s.length - i) 0 (by omega) wA ?_
  intro i hi
  have hvi := hv i
  by_cases hlt : i < s.length
  ·have hc1 := isDig_iff.1 (hd _ (getD_mem hlt))
   have hsn : decVal (s.take (i + 1)) = 10 * decVal (s.take i) + ((s.getD i 0).toNat - 48) := by rw [take_getD hlt, decVal_snoc]
   rw [← getD_get hlt] at hc1 hsn
   conv => whnf
   repeat' (first|((first|((first|(apply zY;intro hg)|apply zZ);first|exact stA)|(refine zW ?_ ?_;exact gA)|refine zH rfl ?_|refine zA ?_|refine zI bA ?_|refine zI rfl ?_|refine sB ?_|(refine zO ?_ ?_ ?_;omega;omega)|(refine zP ?_ ?_ ?_;omega;omega)|refine zM rfl ?_|(refine zQ ?_ ?_ ?_;omega;omega)|(refine zR ?_ ?_;omega)|(refine zI ?_ ?_;exact nA)|refine sS ?_|refine sD ?_|intro _|refine zG ?_);conv=>whnf)|(refine zX (fun hc => ?_) (fun hc => ?_)<;>(try simp only [SY] at hc)<;>first|omega|(conv=>whnf)))
   exact loopTo (i + 1) (by omega) (by show s.length - (i + 1) < s.length - i; omega) wA
  ·conv => whnf
   repeat' (first|((first|((first|(apply zY;intro hg)|apply zZ);first|exact stA)|(refine zW ?_ ?_;exact gA)|refine zH rfl ?_|refine zA ?_|refine zI bA ?_|refine zI rfl ?_|refine sB ?_|(refine zO ?_ ?_ ?_;omega;omega)|(refine zP ?_ ?_ ?_;omega;omega)|refine zM rfl ?_|(refine zQ ?_ ?_ ?_;omega;omega)|(refine zR ?_ ?_;omega)|(refine zI ?_ ?_;exact nA)|refine sS ?_|refine sD ?_|intro _|refine zG ?_);conv=>whnf)|(refine zX (fun hc => ?_) (fun hc => ?_)<;>(try simp only [SY] at hc)<;>first|omega|(conv=>whnf)))
   rw [List.take_of_length_le (by omega)]
   exact PRet.pure (Wk.refl _)
theorem atoi_c (s : List UInt8) (h1 : 1 ≤ s.length) (h2 : s.length ≤ 10) (hd : ∀ c ∈ s, isDig c = true) : ACallP Tryz.prog 246 [.str s] (.tup [.int .i64 (decVal s), .sc .nilIface]) := by
 refine ACall.of_body tt_ok Tryz.func246 rfl rfl (n := 18) rfl rfl ?_
 conv => whnf
 repeat' (first|((first|((first|(apply zY;intro hg)|apply zZ);first|exact stA|((conv=>whnf);(repeat ((first|(refine zW ?_ ?_;exact gA)|refine pC (atoiI_c s h1 h2 hd) wR ?_|refine pC (atoiI_c s h1 h2 hd) cA ?_|intro _);conv=>whnf));first|exact pS|exact pL|exact pE))|(refine zW ?_ ?_;exact gA)|refine zH rfl ?_|refine zA ?_|refine zI bA ?_|refine zI rfl ?_|refine sB ?_|(refine zO ?_ ?_ ?_;omega;omega)|(refine zP ?_ ?_ ?_;omega;omega)|refine zM rfl ?_|(refine zQ ?_ ?_ ?_;omega;omega)|(refine zR ?_ ?_;omega)|(refine zI ?_ ?_;exact nA)|refine sS ?_|refine pC (atoiI_c s h1 h2 hd) wR ?_|refine pC (atoiI_c s h1 h2 hd) cA ?_|refine sD ?_|intro _|refine zG ?_);conv=>whnf)|(refine zX (fun hc => ?_) (fun hc => ?_)<;>(try simp only [SY] at hc)<;>first|omega|(conv=>whnf)))
 exact PRet.pure (Wk.refl _)
def natB (s : List UInt8) : Bool := decide (1 ≤ s.length) && (decide (s.length ≤ 10) && s.all isDig)
def natV (s : List UInt8) : Nat := if natB s then decVal s else 0
def digits : List UInt8 := [48, 49, 50, 51, 52, 53, 54, 55, 56, 57]
theorem dropWhile_nil_iff (p : UInt8 → Bool) : ∀ l : List UInt8, l.dropWhile p = [] ↔ l.all p = true
 | [] => by simp
 | c :: l => by
  rw [List.dropWhile_cons, List.all_cons]
  cases h : p c
  ·simp
  ·simp only [if_true, Bool.true_and]; exact dropWhile_nil_iff p l
theorem all_dropWhile (p : UInt8 → Bool) : ∀ l : List UInt8, (l.dropWhile p).all p = l.all p
 | [] => rfl
 | c :: l => by
  rw [List.dropWhile_cons, List.all_cons]
  cases h : p c
  ·simp [h]
  ·simp only [if_true, Bool.true_and]; exact all_dropWhile p l
theorem trim_nil (p : UInt8 → Bool) (s : List UInt8) : (trimR p s).dropWhile p = [] ↔ s.all p = true := by
 rw [dropWhile_nil_iff, trimR, List.all_reverse, all_dropWhile, List.all_reverse]
theorem digits_dig : digits.contains = isDig := by
 funext c
 simp only [digits, isDig, List.contains_cons, List.contains_nil, Bool.or_false]
 rw [Bool.eq_iff_iff]
 simp only [Bool.or_eq_true, beq_iff_eq, Bool.and_eq_true, decide_eq_true_eq, ← UInt8.toNat_inj]
 simp
 omega
theorem natB_iff (s : List UInt8) : natB s = true ↔ (¬ (s.length : Int) = 0 ∧ (s.length : Int) ≤ 10) ∧ (trimR digits.contains s).dropWhile digits.contains = [] := by
 rw [trim_nil, digits_dig, natB, Bool.and_eq_true, Bool.and_eq_true, decide_eq_true_eq, decide_eq_true_eq]
 constructor
 ·rintro ⟨h1, h2, h3⟩; exact ⟨⟨by omega, by omega⟩, h3⟩
 ·rintro ⟨⟨h1, h2⟩, h3⟩; exact ⟨by omega, by omega, h3⟩
theorem natural_c (s : List UInt8) : ACallP Tryz.prog 228 [.str s] (.tup [.int .i64 (natV s), .bool (natB s)]) := by
 have hb := natB_iff s
 refine ACall.of_body tt_ok Tryz.func228 rfl rfl (n := 27) rfl rfl ?_
 conv => whnf
 repeat' (first|((first|((first|(apply zY;intro hg)|apply zZ);first|exact stA|((conv=>whnf);(repeat ((first|(refine zW ?_ ?_;exact gA)|refine pC (trim_c s digits (by decide) (by decide)) wR ?_|refine pC (trim_c s digits (by decide) (by decide)) cA ?_|intro _);conv=>whnf));first|exact pS|exact pL|exact pE))|(refine zW ?_ ?_;exact gA)|refine zH rfl ?_|refine zA ?_|refine zI bA ?_|refine zI rfl ?_|refine sB ?_|(refine zO ?_ ?_ ?_;omega;omega)|(refine zP ?_ ?_ ?_;omega;omega)|refine zM rfl ?_|(refine zQ ?_ ?_ ?_;omega;omega)|(refine zR ?_ ?_;omega)|(refine zI ?_ ?_;exact nA)|refine sS ?_|refine pC (trim_c s digits (by decide) (by decide)) wR ?_|refine pC (trim_c s digits (by decide) (by decide)) cA ?_|refine sD ?_|refine PDraw.sP (some 24) rfl [] [] tt_ok mixed ?_|intro _|refine zG ?_);conv=>whnf)|(refine zX (fun hc => ?_) (fun hc => ?_)<;>(try simp only [SY] at hc)<;>first|omega|(conv=>whnf)))
 ·have hn : natB s = false := by
   rw [← Bool.not_eq_true, hb]
   rintro ⟨⟨h1, h2⟩, h3⟩
   rcases hc with hc | hc
   ·omega
   ·exact hc h3
  exact PRet.pure (Wk.tup (.cons (Wk.int (by simp [natV, hn])) (.cons (Wk.ff hn) .nil)))
 ·have hn : natB s = true := hb.2 hc
  have hall : ∀ c ∈ s, isDig c = true := by
   have := hc.2
   rw [trim_nil, digits_dig] at this
   exact fun c hc => List.all_eq_true.1 this c hc
  conv => whnf
  repeat' (first|((first|((first|(apply zY;intro hg)|apply zZ);first|exact stA|((conv=>whnf);(repeat ((first|(refine zW ?_ ?_;exact gA)|refine pC (atoi_c s (by omega) (by omega) hall) wR ?_|refine pC (atoi_c s (by omega) (by omega) hall) cA ?_|intro _);conv=>whnf));first|exact pS|exact pL|exact pE))|(refine zW ?_ ?_;exact gA)|refine zH rfl ?_|refine zA ?_|refine zI bA ?_|refine zI rfl ?_|refine sB ?_|(refine zO ?_ ?_ ?_;omega;omega)|(refine zP ?_ ?_ ?_;omega;omega)|refine zM rfl ?_|(refine zQ ?_ ?_ ?_;omega;omega)|(refine zR ?_ ?_;omega)|(refine zI ?_ ?_;exact nA)|refine sS ?_|refine pC (atoi_c s (by omega) (by omega) hall) wR ?_|refine pC (atoi_c s (by omega) (by omega) hall) cA ?_|refine sD ?_|refine PDraw.sP (some 24) rfl [] [] tt_ok mixed ?_|intro _|refine zG ?_);conv=>whnf)|(refine zX (fun hc => ?_) (fun hc => ?_)<;>(try simp only [SY] at hc)<;>first|omega|(conv=>whnf)))
  exact PRet.pure (Wk.tup (.cons (Wk.int (by simp [natV, hn])) (.cons (Wk.tt hn) .nil)))
def parseP (s : List UInt8) : Int × Int × Bool :=
 let u := if negB s then s.drop 1 else s
 let a := cutA u 47
 let b := if 0 ≤ Go.Lib.indexByte u 47 then cutB u 47 else [49]
 if natB a && natB b then
  let x := makeN (if negB s then -(natV a : Int) else natV a) (natV b)
  (x.1, x.2.1, x.2.2 == 0)
 else (0, 0, false)
theorem preB_neg (s : List UInt8) : preB s [45] = negB s := by
 cases s with
 | nil => rfl
 | cons c s => simp [preB, negB]
theorem natV_le (s : List UInt8) : natV s < 10000000000 := by
 unfold natV
 split
 ·rename_i h
  simp only [natB, Bool.and_eq_true, decide_eq_true_eq] at h
  refine Nat.lt_of_lt_of_le (decVal_lt s fun c hc => List.all_eq_true.1 h.2.2 c hc) ?_
  have : 10 ^ s.length ≤ 10 ^ 10 := Nat.pow_le_pow_right (by omega) (by omega)
  omega
 ·omega
def parseQ (neg : Bool) (a b : List UInt8) : Int × Int × Bool :=
 if (natB a && natB b) = true then
  ((makeN (if neg = true then -(natV a : Int) else natV a) (natV b)).1, (makeN (if neg = true then -(natV a : Int) else natV a) (natV b)).2.1, (makeN (if neg = true then -(natV a : Int) else natV a) (natV b)).2.2 == 0)
 else (0, 0, false)
theorem parseP_c (s : List UInt8) (hs : s.length ≤ 1000000) : ACallP Tryz.prog 203 [.str s] (tupP (parseP s)) := by
 refine ACall.of_body tt_ok Tryz.func203 rfl rfl (n := 57) rfl rfl ?_
 conv => whnf
 repeat ((first|((first|(apply zY;intro hg)|apply zZ);first|exact stA|((conv=>whnf);(repeat ((first|(refine zW ?_ ?_;exact gA)|refine pC (atoi_c s (by omega) (by omega) hall) wR ?_|refine pC (atoi_c s (by omega) (by omega) hall) cA ?_|intro _);conv=>whnf));first|exact pS|exact pL|exact pE))|(refine zW ?_ ?_;exact gA)|refine zH rfl ?_|refine zA ?_|refine zI bA ?_|refine zI rfl ?_|refine sB ?_|(refine zO ?_ ?_ ?_;omega;omega)|(refine zP ?_ ?_ ?_;omega;omega)|refine zM rfl ?_|(refine zQ ?_ ?_ ?_;omega;omega)|(refine zR ?_ ?_;omega)|(refine zI ?_ ?_;exact nA)|refine sS ?_|refine pC (atoi_c s (by omega) (by omega) hall) wR ?_|refine pC (atoi_c s (by omega) (by omega) hall) cA ?_|refine sD ?_|intro _);conv=>whnf)
 refine PCall.pure (cutPrefixS_c s [45]) (WkT.refl _) ?_
 have hP : parseP s = parseQ (negB s) (cutA (if negB s = true then s.drop [45].length else s) 47) (if 0 ≤ Go.Lib.indexByte (if negB s = true then s.drop [45].length else s) 47 then cutB (if negB s = true then s.drop [45].length else s) 47 else [49]) := rfl
 have hu : (if negB s = true then s.drop [45].length else s).length ≤ 1000000 := by split <;> (try rw [List.length_drop]) <;> omega
 rw [preB_neg]
 rw [hP]
 generalize (if negB s = true then s.drop [45].length else s) = u at *
 generalize negB s = neg at *
 have v1 := natV_le (cutA u 47)
 have v2 := natV_le (cutB u 47)
 have v3 : natV [49] = 1 := by decide
 generalize h1 : natV [49] = n1 at *
 have h2 : natB [49] = true := by decide
 conv => whnf
 repeat' (first|((first|((first|(apply zY;intro hg)|apply zZ);first|exact stA|((conv=>whnf);(repeat ((first|(refine zW ?_ ?_;exact gA)|refine pC (cutS_c _ 47 OA) wR ?_|refine pC (cutS_c _ 47 OA) cA ?_|refine pC (natural_c _) wR ?_|refine pC (natural_c _) cA ?_|refine pC (makeP_c _ _ OA OA OA OA) wR ?_|refine pC (makeP_c _ _ OA OA OA OA) cA ?_|intro _);conv=>whnf));first|exact pS|exact pL|exact pE))|(refine zW ?_ ?_;exact gA)|refine zH rfl ?_|refine zA ?_|refine zI bA ?_|refine zI rfl ?_|refine sB ?_|(refine zO ?_ ?_ ?_;omega;omega)|(refine zP ?_ ?_ ?_;omega;omega)|refine zM rfl ?_|(refine zQ ?_ ?_ ?_;omega;omega)|(refine zR ?_ ?_;omega)|(refine zI ?_ ?_;exact nA)|refine sS ?_|refine pC (cutS_c _ 47 OA) wR ?_|refine pC (cutS_c _ 47 OA) cA ?_|refine pC (natural_c _) wR ?_|refine pC (natural_c _) cA ?_|refine pC (makeP_c _ _ OA OA OA OA) wR ?_|refine pC (makeP_c _ _ OA OA OA OA) cA ?_|refine sD ?_|intro _|refine zG ?_);conv=>whnf)|(refine zX (fun hc => ?_) (fun hc => ?_)<;>(try simp only [SY] at hc)<;>first|omega|(conv=>whnf)))
 all_goals first | rw [if_neg (by omega)] | rw [if_pos (by omega)]
 ·rw [parseQ, if_neg (by simp only [SS]; rcases hc with hc | hc; simp [hc]; rw [h2] at hc; cases hc)]
  exact PRet.pure tupP_no
 ·rw [h1, parseQ, if_pos (by simp only [SS]; exact ‹_ ∧ _›), hc, if_pos rfl, h1]
  exact PRet.pure (Wk.eq (by simp only [tupP, Int.zero_sub]))
 ·rw [h1, parseQ, if_pos (by simp only [SS]; exact ‹_ ∧ _›), hc, if_neg (by simp), h1]
  exact PRet.pure (Wk.refl _)
 ·rw [parseQ, if_neg (by simp only [SS]; rcases hc with hc | hc <;> simp [hc])]
  exact PRet.pure tupP_no
 ·rw [parseQ, if_pos (by simp only [SS]; exact ‹_ ∧ _›), hc, if_pos rfl]
  exact PRet.pure (Wk.eq (by simp only [tupP, Int.zero_sub]))
 ·rw [parseQ, if_pos (by simp only [SS]; exact ‹_ ∧ _›), hc, if_neg (by simp)]
  exact PRet.pure (Wk.refl _)
end Go.Cb
namespace Go.Cb
open Go.Proofs
set_option maxRecDepth 100000
set_option maxHeartbeats 4000000
def marksPL : List UInt8 := [97, 98, 99, 100, 101, 102, 103, 104, 105, 106, 107, 108, 109, 110, 111, 112, 113, 114, 115, 116, 117, 118, 119, 120, 121, 122, 48, 49, 50, 51, 52, 53, 54, 55, 56, 57, 45, 43, 42, 47, 60, 62, 61, 33, 63, 95, 37]
theorem indexByte_contains (c : UInt8) : ∀ l : List UInt8, 0 ≤ Go.Lib.indexByte l c ↔ l.contains c = true
 | [] => by simp [Go.Lib.indexByte]
 | b :: l => by
  have ih := indexByte_contains c l
  have hge := Go.Lib.indexByte_ge l c
  rw [Go.Lib.indexByte, List.contains_cons]
  by_cases h : b = c
  ·subst h; simp
  ·have h1 : (b == c) = false := by simp [h]
   have h2 : (c == b) = false := by simp; exact fun e => h e.symm
   rw [h1, h2, Bool.false_or, ← ih]
   simp only [Bool.false_eq_true, if_false]
   split <;> rename_i h <;> simp at h <;> omega
theorem plain_c (s : List UInt8) : ACallP Tryz.prog 202 [.str s] (.bool (s.all marksPL.contains)) := by
 have hi := fun c => indexByte_contains c marksPL
 refine ACall.of_body tt_ok Tryz.func202 rfl rfl (n := 16) rfl rfl ?_
 conv => whnf
 repeat ((first|((first|(apply zY;intro hg)|apply zZ);first|exact stA|((conv=>whnf);(repeat ((first|(refine zW ?_ ?_;exact gA)|refine pC (indexByte_c marksPL _) wR ?_|refine pC (indexByte_c marksPL _) cA ?_|intro _);conv=>whnf));first|exact pS|exact pL|exact pE))|(refine zW ?_ ?_;exact gA)|refine zH rfl ?_|refine zA ?_|refine zI bA ?_|refine zI rfl ?_|refine sB ?_|(refine zO ?_ ?_ ?_;omega;omega)|(refine zP ?_ ?_ ?_;omega;omega)|refine zM rfl ?_|(refine zQ ?_ ?_ ?_;omega;omega)|(refine zR ?_ ?_;omega)|(refine zI ?_ ?_;exact nA)|refine sS ?_|refine pC (indexByte_c marksPL _) wR ?_|refine pC (indexByte_c marksPL _) cA ?_|refine sD ?_|intro _);conv=>whnf)
 refine PLoop.keep [2, 4, 8, 9, 10, 11, 12, 13, 14, 15] (fun i : Nat => [(8, .int .i64 i)]) (fun i => i ≤ s.length ∧ (s.drop i).all marksPL.contains = s.all marksPL.contains) (fun i => s.length - i) 0 ⟨by omega, rfl⟩ wA ?_
 rintro i ⟨h1, h2⟩
 conv => whnf
 repeat' (first|((first|((first|(apply zY;intro hg)|apply zZ);first|exact stA|((conv=>whnf);(repeat ((first|(refine zW ?_ ?_;exact gA)|refine pC (indexByte_c marksPL _) wR ?_|refine pC (indexByte_c marksPL _) cA ?_|intro _);conv=>whnf));first|exact pS|exact pL|exact pE))|(refine zW ?_ ?_;exact gA)|refine zH rfl ?_|refine zA ?_|refine zI bA ?_|refine zI rfl ?_|refine sB ?_|(refine zO ?_ ?_ ?_;omega;omega)|(refine zP ?_ ?_ ?_;omega;omega)|refine zM rfl ?_|(refine zQ ?_ ?_ ?_;omega;omega)|(refine zR ?_ ?_;omega)|(refine zI ?_ ?_;exact nA)|refine sS ?_|refine pC (indexByte_c marksPL _) wR ?_|refine pC (indexByte_c marksPL _) cA ?_|refine sD ?_|intro _|refine zG ?_);conv=>whnf)|(refine zX (fun hc => ?_) (fun hc => ?_)<;>(try simp only [SY] at hc)<;>first|omega|(conv=>whnf)))
 ·rw [drop_at (show i < s.length by omega), List.all_cons, show marksPL.contains s[i] = false by rw [← Bool.not_eq_true, ← hi]; omega] at h2
  exact PRet.pure (Wk.ff h2.symm)
 ·rw [drop_at (show i < s.length by omega), List.all_cons, (hi s[i]).1 hc] at h2
  exact loopTo (i + 1) ⟨by omega, h2⟩ (by show s.length - (i + 1) < s.length - i; omega) wA
 ·rw [List.drop_of_length_le (by omega)] at h2
  exact PRet.pure (Wk.tt h2.symm)
theorem string_c (s : List UInt8) : ACallP Tryz.prog 176 [.str s] (.bool (!s.any strB)) := by
 refine ACall.of_body tt_ok Tryz.func176 rfl rfl (n := 27) rfl rfl ?_
 conv => whnf
 repeat ((first|((first|(apply zY;intro hg)|apply zZ);first|exact stA|((conv=>whnf);(repeat ((first|(refine zW ?_ ?_;exact gA)|refine pC (indexByte_c marksPL _) wR ?_|refine pC (indexByte_c marksPL _) cA ?_|intro _);conv=>whnf));first|exact pS|exact pL|exact pE))|(refine zW ?_ ?_;exact gA)|refine zH rfl ?_|refine zA ?_|refine zI bA ?_|refine zI rfl ?_|refine sB ?_|(refine zO ?_ ?_ ?_;omega;omega)|(refine zP ?_ ?_ ?_;omega;omega)|refine zM rfl ?_|(refine zQ ?_ ?_ ?_;omega;omega)|(refine zR ?_ ?_;omega)|(refine zI ?_ ?_;exact nA)|refine sS ?_|refine pC (indexByte_c marksPL _) wR ?_|refine pC (indexByte_c marksPL _) cA ?_|refine sD ?_|intro _);conv=>whnf)
 refine PLoop.keep [2, 4, 8, 9, 10, 11, 12, 13, 14, 15, 16, 17, 18, 19, 20, 21, 22, 23, 24, 25, 26] (fun i : Nat => [(8, .int .i64 i)]) (fun i => i ≤ s.length ∧ (s.drop i).any strB = s.any strB) (fun i => s.length - i) 0 ⟨by omega, rfl⟩ wA ?_
 rintro i ⟨h1, h2⟩
 conv => whnf
 repeat' (first|((first|((first|(apply zY;intro hg)|apply zZ);first|exact stA|((conv=>whnf);(repeat ((first|(refine zW ?_ ?_;exact gA)|refine pC (indexByte_c marksPL _) wR ?_|refine pC (indexByte_c marksPL _) cA ?_|intro _);conv=>whnf));first|exact pS|exact pL|exact pE))|(refine zW ?_ ?_;exact gA)|refine zH rfl ?_|refine zA ?_|refine zI bA ?_|refine zI rfl ?_|refine sB ?_|(refine zO ?_ ?_ ?_;omega;omega)|(refine zP ?_ ?_ ?_;omega;omega)|refine zM rfl ?_|(refine zQ ?_ ?_ ?_;omega;omega)|(refine zR ?_ ?_;omega)|(refine zI ?_ ?_;exact nA)|refine sS ?_|refine pC (indexByte_c marksPL _) wR ?_|refine pC (indexByte_c marksPL _) cA ?_|refine sD ?_|intro _|refine zG ?_);conv=>whnf)|(refine zX (fun hc => ?_) (fun hc => ?_)<;>(try simp only [SY] at hc)<;>first|omega|(conv=>whnf)))
 ·rw [drop_at (show i < s.length by omega), List.any_cons, show strB s[i] = true by simp only [strB, SS, hc]] at h2
  exact PRet.pure (Wk.ff (by rw [← h2]; rfl))
 ·rw [drop_at (show i < s.length by omega), List.any_cons, show strB s[i] = false by simp only [strB, SS, hc, not_false_eq_true, and_self]] at h2
  exact loopTo (i + 1) ⟨by omega, h2⟩ (by show s.length - (i + 1) < s.length - i; omega) wA
 ·rw [List.drop_of_length_le (by omega)] at h2
  exact PRet.pure (Wk.tt (by rw [← h2]; rfl))
def namePB (s : List UInt8) : Bool := !((s.length : Int) == 0 || decide ((s.length : Int) > 40) || !((trimR marksPL.contains s).dropWhile marksPL.contains == []) || !s.all marksPL.contains) && !(parseP s).2.2
theorem nameP_c (s : List UInt8) : ACallP Tryz.prog 175 [.str s] (.bool (namePB s)) := by
 refine ACall.of_body tt_ok Tryz.func175 rfl rfl (n := 32) rfl rfl ?_
 conv => whnf
 repeat' (first|((first|((first|(apply zY;intro hg)|apply zZ);first|exact stA|((conv=>whnf);(repeat ((first|(refine zW ?_ ?_;exact gA)|refine pC (trim_c s marksPL (by decide) (by decide)) wR ?_|refine pC (trim_c s marksPL (by decide) (by decide)) cA ?_|refine pC (plain_c s) wR ?_|refine pC (plain_c s) cA ?_|refine pC (parseP_c s (by omega)) wR ?_|refine pC (parseP_c s (by omega)) cA ?_|intro _);conv=>whnf));first|exact pS|exact pL|exact pE))|(refine zW ?_ ?_;exact gA)|refine zH rfl ?_|refine zA ?_|refine zI bA ?_|refine zI rfl ?_|refine sB ?_|(refine zO ?_ ?_ ?_;omega;omega)|(refine zP ?_ ?_ ?_;omega;omega)|refine zM rfl ?_|(refine zQ ?_ ?_ ?_;omega;omega)|(refine zR ?_ ?_;omega)|(refine zI ?_ ?_;exact nA)|refine sS ?_|refine pC (trim_c s marksPL (by decide) (by decide)) wR ?_|refine pC (trim_c s marksPL (by decide) (by decide)) cA ?_|refine pC (plain_c s) wR ?_|refine pC (plain_c s) cA ?_|refine pC (parseP_c s (by omega)) wR ?_|refine pC (parseP_c s (by omega)) cA ?_|refine sD ?_|intro _|refine zG ?_);conv=>whnf)|(refine zX (fun hc => ?_) (fun hc => ?_)<;>(try simp only [SY] at hc)<;>first|omega|(conv=>whnf)))
 ·exact PRet.pure (Wk.ff (by rw [namePB, show ((s.length : Int) == 0 || decide ((s.length : Int) > 40) || !((trimR marksPL.contains s).dropWhile marksPL.contains == []) || !s.all marksPL.contains) = true by simp only [SS, hc]]; rfl))
 ·refine PRet.pure (Wk.bool ?_)
  have : ((s.length : Int) == 0 || decide ((s.length : Int) > 40) || !((trimR marksPL.contains s).dropWhile marksPL.contains == []) || !s.all marksPL.contains) = false := by simp only [SS, hc, not_false_eq_true, and_self]
  rw [namePB, this]
  rfl
def bareL (d : Datum) : Datum × Bool :=
 if d.kind = 0 then (.mk 0 d.n d.d [] [], numRight d.n d.d) else
 if d.kind = 1 then (.mk d.kind d.n 0 [] [], d.n == 0 || d.n == 1) else
 if d.kind = 2 then (.mk d.kind 0 0 d.s [], namePB d.s) else
 if d.kind = 3 then (.mk d.kind 0 0 d.s [], !d.s.any strB) else
 if d.kind = 4 ∨ d.kind = 5 then (.mk d.kind 0 0 [] [], true) else
 if d.kind = 6 then (.mk d.kind 0 0 [] d.l, (d.l.length : Int) == 2) else
 if d.kind = 7 then (.mk d.kind 0 0 [] d.l, true) else
 (.mk 0 0 0 [] [], false)
theorem bare_c (d : Datum) : ACallP Tryz.prog 126 [.agg d.cells] (.tup [.agg (bareL d).1.cells, .bool (bareL d).2]) := by
 refine ACall.of_body tt_ok Tryz.func126 rfl rfl (n := 78) rfl rfl ?_
 conv => whnf
 repeat ((first|((first|(apply zY;intro hg)|apply zZ);first|exact stA|((conv=>whnf);(repeat ((first|(refine zW ?_ ?_;exact gA)|refine pC (rightN_c _ _) wR ?_|refine pC (rightN_c _ _) cA ?_|refine pC (nameP_c _) wR ?_|refine pC (nameP_c _) cA ?_|refine pC (string_c _) wR ?_|refine pC (string_c _) cA ?_|intro _);conv=>whnf));first|exact pS|exact pL|exact pE))|(refine zW ?_ ?_;exact gA)|refine zH rfl ?_|refine zA ?_|refine zI bA ?_|refine zI rfl ?_|refine sB ?_|(refine zO ?_ ?_ ?_;omega;omega)|(refine zP ?_ ?_ ?_;omega;omega)|refine zM rfl ?_|(refine zQ ?_ ?_ ?_;omega;omega)|(refine zR ?_ ?_;omega)|(refine zI ?_ ?_;exact nA)|refine sS ?_|refine pC (rightN_c _ _) wR ?_|refine pC (rightN_c _ _) cA ?_|refine pC (nameP_c _) wR ?_|refine pC (nameP_c _) cA ?_|refine pC (string_c _) wR ?_|refine pC (string_c _) cA ?_|refine sD ?_|refine PDraw.sP (some 8) rfl [] [10,11] tt_ok mixed ?_|refine PDraw.sQ (some 20) rfl [13] [14] tt_ok mixed ?_|refine PDraw.sP (some 35) rfl [] [8,9] tt_ok mixed ?_|refine PDraw.sP (some 45) rfl [] [8,9] tt_ok mixed ?_|refine PDraw.sQ (some 61) rfl [9] [10] tt_ok mixed ?_|intro _);conv=>whnf)
 have hB : bareL d = bareL d := rfl
 conv at hB => rhs; unfold bareL
 conv => whnf
 repeat' (first|((first|((first|(apply zY;intro hg)|apply zZ);first|exact stA|((conv=>whnf);(repeat ((first|(refine zW ?_ ?_;exact gA)|refine pC (rightN_c _ _) wR ?_|refine pC (rightN_c _ _) cA ?_|refine pC (nameP_c _) wR ?_|refine pC (nameP_c _) cA ?_|refine pC (string_c _) wR ?_|refine pC (string_c _) cA ?_|intro _);conv=>whnf));first|exact pS|exact pL|exact pE))|(refine zW ?_ ?_;exact gA)|refine zH rfl ?_|refine zA ?_|refine zI bA ?_|refine zI rfl ?_|refine sB ?_|(refine zO ?_ ?_ ?_;omega;omega)|(refine zP ?_ ?_ ?_;omega;omega)|refine zM rfl ?_|(refine zQ ?_ ?_ ?_;omega;omega)|(refine zR ?_ ?_;omega)|(refine zI ?_ ?_;exact nA)|refine sS ?_|refine pC (rightN_c _ _) wR ?_|refine pC (rightN_c _ _) cA ?_|refine pC (nameP_c _) wR ?_|refine pC (nameP_c _) cA ?_|refine pC (string_c _) wR ?_|refine pC (string_c _) cA ?_|refine sD ?_|refine PDraw.sP (some 8) rfl [] [10,11] tt_ok mixed ?_|refine PDraw.sQ (some 20) rfl [13] [14] tt_ok mixed ?_|refine PDraw.sP (some 35) rfl [] [8,9] tt_ok mixed ?_|refine PDraw.sP (some 45) rfl [] [8,9] tt_ok mixed ?_|refine PDraw.sQ (some 61) rfl [9] [10] tt_ok mixed ?_|intro _|refine zG ?_);conv=>whnf)|(refine zX (fun hc => ?_) (fun hc => ?_)<;>(try simp only [SY] at hc)<;>first|omega|(conv=>whnf)))
 all_goals repeat (first|rw [if_neg (by omega)] at hB|rw [if_pos (by omega)] at hB)
 all_goals rw [hB]
 all_goals exact PRet.pure wA
def bareBadP (d : Datum) (deep : Int) : Bool :=
 !(bareL d).2 || decide (deep > 200) || !((bareL d).1.n == d.n) || !((bareL d).1.d == d.d) || !((bareL d).1.s == d.s) || !(((bareL d).1.l.length : Int) == d.l.length)
mutual
def Datum.rightP : Datum → Int → Bool
 | .mk k n d s l, deep => !bareBadP (.mk k n d s l) deep && Datum.rightPs l (deep + 1)
def Datum.rightPs : List Datum → Int → Bool
 | [], _ => true
 | x :: xs, deep => Datum.rightP x deep && Datum.rightPs xs deep
end
theorem Datum.rightP_eq (x : Datum) (deep : Int) : x.rightP deep = (!bareBadP x deep && Datum.rightPs x.l (deep + 1)) := by cases x; rfl
theorem rightP2_c (b bd : Nat) (x : Datum) (deep : Int) (h0 : 0 ≤ deep) (h1 : deep ≤ 1000) (ih : ACall Tryz.prog 125 [.agg x.cells, .int .i64 (deep + 1), .ptr b 0] [.box b [.fn (.func 125) [.ptr b 0]]] (fun y Γ' => y = .bool (x.rightP (deep + 1)) ∧ Γ' = [.box b [.fn (.func 125) [.ptr b 0]]])) :
  ACall Tryz.prog 127 [.agg x.cells, .ptr b 0, .ptr bd 0] [.box b [.fn (.func 125) [.ptr b 0]], .box bd [.int .i64 deep]] (fun y Γ' => y = .bool (!x.rightP (deep + 1)) ∧ Γ' = [.box b [.fn (.func 125) [.ptr b 0]], .box bd [.int .i64 deep]]) := by
 refine ACall.of_body tt_ok Tryz.func127 rfl rfl (n := 11) rfl rfl ?_
 conv => whnf
 repeat ((first|((first|(apply zY;intro hg)|apply zZ);first|exact stA|((conv=>whnf);(repeat ((first|(refine zW ?_ ?_;exact gA)|refine pC (rightN_c _ _) wR ?_|refine pC (rightN_c _ _) cA ?_|refine pC (nameP_c _) wR ?_|refine pC (nameP_c _) cA ?_|refine pC (string_c _) wR ?_|refine pC (string_c _) cA ?_|intro _);conv=>whnf));first|exact pS|exact pL|exact pE))|(refine zW ?_ ?_;exact gA)|refine zH rfl ?_|refine zA ?_|refine zI bA ?_|refine zI rfl ?_|refine sB ?_|(refine zO ?_ ?_ ?_;omega;omega)|(refine zP ?_ ?_ ?_;omega;omega)|refine zM rfl ?_|(refine zQ ?_ ?_ ?_;omega;omega)|(refine zR ?_ ?_;omega)|(refine zI ?_ ?_;exact nA)|refine sS ?_|refine pC (rightN_c _ _) wR ?_|refine pC (rightN_c _ _) cA ?_|refine pC (nameP_c _) wR ?_|refine pC (nameP_c _) cA ?_|refine pC (string_c _) wR ?_|refine pC (string_c _) cA ?_|refine sD ?_|intro _);conv=>whnf)
 refine PCall.go ih (WkT.refl _) ?_
 rintro _ _ ⟨rfl, rfl⟩
 conv => whnf
 repeat ((first|((first|(apply zY;intro hg)|apply zZ);first|exact stA|((conv=>whnf);(repeat ((first|(refine zW ?_ ?_;exact gA)|refine pC (rightN_c _ _) wR ?_|refine pC (rightN_c _ _) cA ?_|refine pC (nameP_c _) wR ?_|refine pC (nameP_c _) cA ?_|refine pC (string_c _) wR ?_|refine pC (string_c _) cA ?_|intro _);conv=>whnf));first|exact pS|exact pL|exact pE))|(refine zW ?_ ?_;exact gA)|refine zH rfl ?_|refine zA ?_|refine zI bA ?_|refine zI rfl ?_|refine sB ?_|(refine zO ?_ ?_ ?_;omega;omega)|(refine zP ?_ ?_ ?_;omega;omega)|refine zM rfl ?_|(refine zQ ?_ ?_ ?_;omega;omega)|(refine zR ?_ ?_;omega)|(refine zI ?_ ?_;exact nA)|refine sS ?_|refine pC (rightN_c _ _) wR ?_|refine pC (rightN_c _ _) cA ?_|refine pC (nameP_c _) wR ?_|refine pC (nameP_c _) cA ?_|refine pC (string_c _) wR ?_|refine pC (string_c _) cA ?_|refine sD ?_|intro _);conv=>whnf)
 exact PRet.gen (Wk.refl _) ⟨rfl, rfl⟩
theorem any_not_right (deep : Int) : ∀ l : List Datum, l.any (fun x => !x.rightP deep) = !Datum.rightPs l deep
 | [] => rfl
 | x :: l => by rw [List.any_cons, Datum.rightPs, any_not_right deep l, Bool.not_and]
theorem rightP1_c (b : Nat) (d : Datum) : ∀ deep : Int, 0 ≤ deep → deep ≤ 1000 → ACall Tryz.prog 125 [.agg d.cells, .int .i64 deep, .ptr b 0] [.box b [.fn (.func 125) [.ptr b 0]]] (fun y Γ' => y = .bool (d.rightP deep) ∧ Γ' = [.box b [.fn (.func 125) [.ptr b 0]]]) := by
 induction d using Datum.ind with
 | h d ih =>
  intro deep h0 h1
  have hb : bareBadP d deep = bareBadP d deep := rfl
  conv at hb => rhs; unfold bareBadP
  rw [Datum.rightP_eq]
  refine ACall.of_body tt_ok Tryz.func125 rfl rfl (n := 54) rfl rfl ?_
  conv => whnf
  repeat' (first|((first|((first|(apply zY;intro hg)|apply zZ);first|exact stA|((conv=>whnf);(repeat ((first|(refine zW ?_ ?_;exact gA)|refine pC (bare_c d) wR ?_|refine pC (bare_c d) cA ?_|intro _);conv=>whnf));first|exact pS|exact pL|exact pE))|(refine zW ?_ ?_;exact gA)|refine zH rfl ?_|refine zA ?_|refine zI bA ?_|refine zI rfl ?_|refine sB ?_|(refine zO ?_ ?_ ?_;omega;omega)|(refine zP ?_ ?_ ?_;omega;omega)|refine zM rfl ?_|(refine zQ ?_ ?_ ?_;omega;omega)|(refine zR ?_ ?_;omega)|(refine zI ?_ ?_;exact nA)|refine sS ?_|refine pC (bare_c d) wR ?_|refine pC (bare_c d) cA ?_|refine sD ?_|intro _|refine zG ?_);conv=>whnf)|(refine zX (fun hc => ?_) (fun hc => ?_)<;>(try simp only [SY] at hc)<;>first|omega|(conv=>whnf)))
  ·rw [show bareBadP d deep = true by rw [hb]; simp only [SS, hc]]
   exact PRet.gen (Wk.ff rfl) ⟨rfl, rfl⟩
  ·rename_i b1 b2 b3
   rw [show bareBadP d deep = false by rw [hb]; simp only [SS, hc, and_self]]
   refine PCall.go (containsFuncDat_c 127 [.ptr b 0, .ptr b2 0] [.box b [.fn (.func 125) [.ptr b 0]], .box b2 [.int .i64 deep]] (fun x => !x.rightP (deep + 1)) d.l (fun x hx => rightP2_c b b2 x deep h0 (by omega) (ih x hx (deep + 1) (by omega) (by omega)))) (WkT.refl _) ?_
   rintro _ _ ⟨rfl, rfl⟩
   conv => whnf
   repeat ((first|((first|(apply zY;intro hg)|apply zZ);first|exact stA|((conv=>whnf);(repeat ((first|(refine zW ?_ ?_;exact gA)|refine pC (bare_c d) wR ?_|refine pC (bare_c d) cA ?_|intro _);conv=>whnf));first|exact pS|exact pL|exact pE))|(refine zW ?_ ?_;exact gA)|refine zH rfl ?_|refine zA ?_|refine zI bA ?_|refine zI rfl ?_|refine sB ?_|(refine zO ?_ ?_ ?_;omega;omega)|(refine zP ?_ ?_ ?_;omega;omega)|refine zM rfl ?_|(refine zQ ?_ ?_ ?_;omega;omega)|(refine zR ?_ ?_;omega)|(refine zI ?_ ?_;exact nA)|refine sS ?_|refine pC (bare_c d) wR ?_|refine pC (bare_c d) cA ?_|refine sD ?_|intro _);conv=>whnf)
   exact PRet.gen (Wk.bool (by rw [any_not_right]; simp)) ⟨rfl, rfl⟩
theorem rightP_c (d : Datum) : ACallP Tryz.prog 73 [.agg d.cells] (.bool (d.rightP 0)) := by
 refine ACall.of_body tt_ok Tryz.func73 rfl rfl (n := 8) rfl rfl ?_
 conv => whnf
 repeat ((first|((first|(apply zY;intro hg)|apply zZ);first|exact stA|((conv=>whnf);(repeat ((first|(refine zW ?_ ?_;exact gA)|refine pC (bare_c d) wR ?_|refine pC (bare_c d) cA ?_|intro _);conv=>whnf));first|exact pS|exact pL|exact pE))|(refine zW ?_ ?_;exact gA)|refine zH rfl ?_|refine zA ?_|refine zI bA ?_|refine zI rfl ?_|refine sB ?_|(refine zO ?_ ?_ ?_;omega;omega)|(refine zP ?_ ?_ ?_;omega;omega)|refine zM rfl ?_|(refine zQ ?_ ?_ ?_;omega;omega)|(refine zR ?_ ?_;omega)|(refine zI ?_ ?_;exact nA)|refine sS ?_|refine pC (bare_c d) wR ?_|refine pC (bare_c d) cA ?_|refine sD ?_|intro _);conv=>whnf)
 refine PCall.go (rightP1_c _ d 0 (by omega) (by omega)) (WkT.refl _) ?_
 rintro _ _ ⟨rfl, rfl⟩
 conv => whnf
 repeat ((first|((first|(apply zY;intro hg)|apply zZ);first|exact stA|((conv=>whnf);(repeat ((first|(refine zW ?_ ?_;exact gA)|refine pC (bare_c d) wR ?_|refine pC (bare_c d) cA ?_|intro _);conv=>whnf));first|exact pS|exact pL|exact pE))|(refine zW ?_ ?_;exact gA)|refine zH rfl ?_|refine zA ?_|refine zI bA ?_|refine zI rfl ?_|refine sB ?_|(refine zO ?_ ?_ ?_;omega;omega)|(refine zP ?_ ?_ ?_;omega;omega)|refine zM rfl ?_|(refine zQ ?_ ?_ ?_;omega;omega)|(refine zR ?_ ?_;omega)|(refine zI ?_ ?_;exact nA)|refine sS ?_|refine pC (bare_c d) wR ?_|refine pC (bare_c d) cA ?_|refine sD ?_|intro _);conv=>whnf)
 exact PRet.pure (Wk.refl _)
end Go.Cb
namespace Go.Cb
open Go.Proofs
set_option maxRecDepth 100000
set_option maxHeartbeats 4000000
theorem fewDatum_c (d : Datum) : ∀ left : Int, 0 ≤ left → left ≤ 1000000000 → ACallP Tryz.prog 81 [.agg d.cells, .int .i64 left] (.int .i64 (d.few left)) := by
 induction d using Datum.ind with
 | h d ih =>
  intro left h0 h1
  refine ACall.of_body tt_ok Tryz.func81 rfl rfl (n := 27) rfl rfl ?_
  conv => whnf
  repeat ((first|((first|(apply zY;intro hg)|apply zZ);first|exact stA)|(refine zW ?_ ?_;exact gA)|refine zH rfl ?_|refine zA ?_|refine zI bA ?_|refine zI rfl ?_|refine sB ?_|(refine zO ?_ ?_ ?_;omega;omega)|(refine zP ?_ ?_ ?_;omega;omega)|refine zM rfl ?_|(refine zQ ?_ ?_ ?_;omega;omega)|(refine zR ?_ ?_;omega)|(refine zI ?_ ?_;exact nA)|refine sS ?_|refine sD ?_|intro _);conv=>whnf)
  refine PLoop.keep [1, 5, 8, 9, 10, 11, 12, 13, 14, 15, 16, 17, 18, 19, 20, 21, 22, 23, 24, 25] (fun (x : Nat × Int) => [(1, .int .i64 x.2), (5, .int .i64 x.1)]) (fun x => x.1 ≤ d.l.length ∧ -1 ≤ x.2 ∧ x.2 < left ∧ Datum.fews (d.l.drop x.1) x.2 = Datum.fews d.l (left - 1)) (fun x => d.l.length - x.1) (0, left - 1) ⟨by simp, by simp only; omega, by simp only; omega, rfl⟩ wA ?_
  rintro ⟨i, n⟩ ⟨hi, h2, h3, hf⟩
  simp only at hi h2 h3 hf
  have hbd := fun (x : Datum) (h : 0 ≤ n) => x.few_bd n h
  conv => whnf
  repeat' (first|((first|((first|(apply zY;intro hg)|apply zZ);first|exact stA|((conv=>whnf);(repeat ((first|(refine zW ?_ ?_;exact gA)|refine pC (ih _ (List.getElem_mem _) _ OA OA) wR ?_|refine pC (ih _ (List.getElem_mem _) _ OA OA) cA ?_|intro _);conv=>whnf));first|exact pS|exact pL|exact pE))|(refine zW ?_ ?_;exact gA)|refine zH rfl ?_|refine zA ?_|refine zI bA ?_|refine zI rfl ?_|refine sB ?_|(refine zO ?_ ?_ ?_;omega;omega)|(refine zP ?_ ?_ ?_;omega;omega)|refine zM rfl ?_|(refine zQ ?_ ?_ ?_;omega;omega)|(refine zR ?_ ?_;omega)|(refine zI ?_ ?_;exact nA)|refine sS ?_|refine pC (ih _ (List.getElem_mem _) _ OA OA) wR ?_|refine pC (ih _ (List.getElem_mem _) _ OA OA) cA ?_|refine sD ?_|intro _|refine zG ?_);conv=>whnf)|(refine zX (fun hc => ?_) (fun hc => ?_)<;>(try simp only [SY] at hc)<;>first|omega|(conv=>whnf)))
  ·rw [drop_at (show i < d.l.length by omega), Datum.fews, if_pos (by omega)] at hf
   have hx := hbd d.l[i] (by omega)
   exact loopTo (i + 1, d.l[i].few n) ⟨by simp only; omega, by simp only; omega, by simp only; omega, hf⟩ (by show d.l.length - (i + 1) < d.l.length - i; omega) wA
  ·refine PRet.pure (Wk.int ?_)
   rw [Datum.few_eq, ← hf]
   rcases Nat.lt_or_ge i d.l.length with h | h
   ·rw [drop_at h, Datum.fews, if_neg (by omega)]
   ·rw [List.drop_of_length_le h, Datum.fews]
theorem fewTrm_c (d : Trm) : ∀ left : Int, 0 ≤ left → left ≤ 1000000000 → ACallP Tryz.prog 80 [.agg d.cells, .int .i64 left] (.int .i64 (d.few left)) := by
 induction d using Trm.ind with
 | h d ih =>
  intro left h0 h1
  refine ACall.of_body tt_ok Tryz.func80 rfl rfl (n := 27) rfl rfl ?_
  conv => whnf
  repeat ((first|((first|(apply zY;intro hg)|apply zZ);first|exact stA|((conv=>whnf);(repeat ((first|(refine zW ?_ ?_;exact gA)|refine pC (ih _ (List.getElem_mem _) _ OA OA) wR ?_|refine pC (ih _ (List.getElem_mem _) _ OA OA) cA ?_|intro _);conv=>whnf));first|exact pS|exact pL|exact pE))|(refine zW ?_ ?_;exact gA)|refine zH rfl ?_|refine zA ?_|refine zI bA ?_|refine zI rfl ?_|refine sB ?_|(refine zO ?_ ?_ ?_;omega;omega)|(refine zP ?_ ?_ ?_;omega;omega)|refine zM rfl ?_|(refine zQ ?_ ?_ ?_;omega;omega)|(refine zR ?_ ?_;omega)|(refine zI ?_ ?_;exact nA)|refine sS ?_|refine pC (ih _ (List.getElem_mem _) _ OA OA) wR ?_|refine pC (ih _ (List.getElem_mem _) _ OA OA) cA ?_|refine sD ?_|intro _);conv=>whnf)
  refine PLoop.keep [1, 5, 8, 9, 10, 11, 12, 13, 14, 15, 16, 17, 18, 19, 20, 21, 22, 23, 24, 25] (fun (x : Nat × Int) => [(1, .int .i64 x.2), (5, .int .i64 x.1)]) (fun x => x.1 ≤ d.t.length ∧ -1 ≤ x.2 ∧ x.2 < left ∧ Trm.fews (d.t.drop x.1) x.2 = Trm.fews d.t (left - 1)) (fun x => d.t.length - x.1) (0, left - 1) ⟨by simp, by simp only; omega, by simp only; omega, rfl⟩ wA ?_
  rintro ⟨i, n⟩ ⟨hi, h2, h3, hf⟩
  simp only at hi h2 h3 hf
  have hbd := fun (x : Trm) (h : 0 ≤ n) => x.few_bd n h
  conv => whnf
  repeat' (first|((first|((first|(apply zY;intro hg)|apply zZ);first|exact stA|((conv=>whnf);(repeat ((first|(refine zW ?_ ?_;exact gA)|refine pC (ih _ (List.getElem_mem _) _ OA OA) wR ?_|refine pC (ih _ (List.getElem_mem _) _ OA OA) cA ?_|intro _);conv=>whnf));first|exact pS|exact pL|exact pE))|(refine zW ?_ ?_;exact gA)|refine zH rfl ?_|refine zA ?_|refine zI bA ?_|refine zI rfl ?_|refine sB ?_|(refine zO ?_ ?_ ?_;omega;omega)|(refine zP ?_ ?_ ?_;omega;omega)|refine zM rfl ?_|(refine zQ ?_ ?_ ?_;omega;omega)|(refine zR ?_ ?_;omega)|(refine zI ?_ ?_;exact nA)|refine sS ?_|refine pC (ih _ (List.getElem_mem _) _ OA OA) wR ?_|refine pC (ih _ (List.getElem_mem _) _ OA OA) cA ?_|refine sD ?_|intro _|refine zG ?_);conv=>whnf)|(refine zX (fun hc => ?_) (fun hc => ?_)<;>(try simp only [SY] at hc)<;>first|omega|(conv=>whnf)))
  ·rw [drop_at (show i < d.t.length by omega), Trm.fews, if_pos (by omega)] at hf
   have hx := hbd d.t[i] (by omega)
   exact loopTo (i + 1, d.t[i].few n) ⟨by simp only; omega, by simp only; omega, by simp only; omega, hf⟩ (by show d.t.length - (i + 1) < d.t.length - i; omega) wA
  ·refine PRet.pure (Wk.int ?_)
   rw [Trm.few_eq, ← hf]
   rcases Nat.lt_or_ge i d.t.length with h | h
   ·rw [drop_at h, Trm.fews, if_neg (by omega)]
   ·rw [List.drop_of_length_le h, Trm.fews]
theorem FewAll_c (l : List Datum) (n : Int) (h0 : 0 ≤ n) (h1 : n ≤ 1000000000) : ACallP Tryz.prog 39 [.sl 5 (l.map Datum.pv) none, .int .i64 n] (.bool (decide (0 ≤ Datum.fews l n))) := by
 refine ACall.of_body tt_ok Tryz.func39 rfl rfl (n := 24) rfl rfl ?_
 conv => whnf
 repeat ((first|((first|(apply zY;intro hg)|apply zZ);first|exact stA|((conv=>whnf);(repeat ((first|(refine zW ?_ ?_;exact gA)|refine pC (fewTrm_c d n h0 h1) wR ?_|refine pC (fewTrm_c d n h0 h1) cA ?_|intro _);conv=>whnf));first|exact pS|exact pL|exact pE))|(refine zW ?_ ?_;exact gA)|refine zH rfl ?_|refine zA ?_|refine zI bA ?_|refine zI rfl ?_|refine sB ?_|(refine zO ?_ ?_ ?_;omega;omega)|(refine zP ?_ ?_ ?_;omega;omega)|refine zM rfl ?_|(refine zQ ?_ ?_ ?_;omega;omega)|(refine zR ?_ ?_;omega)|(refine zI ?_ ?_;exact nA)|refine sS ?_|refine pC (fewTrm_c d n h0 h1) wR ?_|refine pC (fewTrm_c d n h0 h1) cA ?_|refine sD ?_|intro _);conv=>whnf)
 refine PLoop.keep [1, 5, 6, 7, 8, 9, 10, 11, 12, 13, 14, 15, 16, 17, 18, 19, 20, 21] (fun (x : Nat × Int) => [(1, .int .i64 x.2), (5, .int .i64 x.1)]) (fun x => x.1 ≤ l.length ∧ -1 ≤ x.2 ∧ x.2 ≤ n ∧ Datum.fews (l.drop x.1) x.2 = Datum.fews l n) (fun x => l.length - x.1) (0, n) ⟨by simp, by simp only; omega, by simp only; omega, rfl⟩ wA ?_
 rintro ⟨i, m⟩ ⟨hi, h2, h3, hf⟩
 simp only at hi h2 h3 hf
 have hbd := fun (x : Datum) (h : 0 ≤ m) => x.few_bd m h
 conv => whnf
 repeat' (first|((first|((first|(apply zY;intro hg)|apply zZ);first|exact stA|((conv=>whnf);(repeat ((first|(refine zW ?_ ?_;exact gA)|refine pC (fewDatum_c _ _ OA OA) wR ?_|refine pC (fewDatum_c _ _ OA OA) cA ?_|intro _);conv=>whnf));first|exact pS|exact pL|exact pE))|(refine zW ?_ ?_;exact gA)|refine zH rfl ?_|refine zA ?_|refine zI bA ?_|refine zI rfl ?_|refine sB ?_|(refine zO ?_ ?_ ?_;omega;omega)|(refine zP ?_ ?_ ?_;omega;omega)|refine zM rfl ?_|(refine zQ ?_ ?_ ?_;omega;omega)|(refine zR ?_ ?_;omega)|(refine zI ?_ ?_;exact nA)|refine sS ?_|refine pC (fewDatum_c _ _ OA OA) wR ?_|refine pC (fewDatum_c _ _ OA OA) cA ?_|refine sD ?_|intro _|refine zG ?_);conv=>whnf)|(refine zX (fun hc => ?_) (fun hc => ?_)<;>(try simp only [SY] at hc)<;>first|omega|(conv=>whnf)))
 ·rw [drop_at (show i < l.length by omega), Datum.fews, if_pos (by omega)] at hf
  have hx := hbd l[i] (by omega)
  exact loopTo (i + 1, l[i].few m) ⟨by simp only; omega, by simp only; omega, by simp only; omega, hf⟩ (by show l.length - (i + 1) < l.length - i; omega) wA
 ·refine PRet.pure (Wk.bool ?_)
  rw [← hf]
  rcases Nat.lt_or_ge i l.length with h | h
  ·rw [drop_at h, Datum.fews, if_neg (by omega)]
  ·rw [List.drop_of_length_le h, Datum.fews]
end Go.Cb
namespace Go.Cb
open Go.Proofs
set_option maxRecDepth 100000
set_option maxHeartbeats 4000000
def marksL : List UInt8 := [45, 43, 42, 47, 60, 62, 61, 33, 63, 95, 37]
def baseB (c : UInt8) : Bool := decide ((c.toNat : Int) ≥ 97) && decide ((c.toNat : Int) ≤ 122) || decide ((c.toNat : Int) ≥ 48) && decide ((c.toNat : Int) ≤ 57)
def markB (c : UInt8) : Bool := baseB c || marksL.contains c
def nameB (s : List UInt8) : Bool := decide (1 ≤ s.length) && (decide (s.length ≤ 40) && (s.all markB && !(parseN s).2.2))
theorem name1_c (s : List UInt8) : ACallP Tryz.prog 198 [.str s] (.bool (nameB s)) := by
 refine ACall.of_body tt_ok Tryz.func198 rfl rfl (n := 72) rfl rfl ?_
 conv => whnf
 repeat' (first|((first|((first|(apply zY;intro hg)|apply zZ);first|exact stA|((conv=>whnf);(repeat ((first|(refine zW ?_ ?_;exact gA)|refine pC (parse1_c s) wR ?_|refine pC (parse1_c s) cA ?_|intro _);conv=>whnf));first|exact pS|exact pL|exact pE))|(refine zW ?_ ?_;exact gA)|refine zH rfl ?_|refine zA ?_|refine zI bA ?_|refine zI rfl ?_|refine sB ?_|(refine zO ?_ ?_ ?_;omega;omega)|(refine zP ?_ ?_ ?_;omega;omega)|refine zM rfl ?_|(refine zQ ?_ ?_ ?_;omega;omega)|(refine zR ?_ ?_;omega)|(refine zI ?_ ?_;exact nA)|refine sS ?_|refine pC (parse1_c s) wR ?_|refine pC (parse1_c s) cA ?_|refine sD ?_|refine PDraw.sP (some 52) rfl [] [] tt_ok mixed ?_|intro _|refine zG ?_);conv=>whnf)|(refine zX (fun hc => ?_) (fun hc => ?_)<;>(try simp only [SY] at hc)<;>first|omega|(conv=>whnf)))
 ·exact PRet.pure (Wk.ff (by simp [nameB]; omega))
 rename_i hlen
 have e : [45, 43, 42, 47, 60, 62, 61, 33, 63, 95, 37] = marksL := rfl
 have em : marksL.length = 11 := rfl
 have hmm : ∀ c, (baseB c || marksL.contains c) = markB c := fun _ => rfl
 rw [e]
 generalize marksL = m at *
 refine PLoop.keep [2, 4, 5, 6, 18, 19, 20, 21, 22, 23, 24, 25, 26, 27, 28, 29, 30, 31, 32, 33, 34, 35, 36, 37, 38, 39, 40, 41, 42, 43, 44, 45, 46, 47, 48, 49, 50, 51, 52, 53, 54, 55, 56, 57, 58, 59, 60, 61, 62, 63] (fun i : Nat => [(4, .int .i64 i)]) (fun i => i ≤ s.length ∧ (s.drop i).all markB = s.all markB) (fun i => s.length - i) 0 ⟨by omega, rfl⟩ wA ?_
 rintro i ⟨hi, hm⟩
 conv => whnf
 repeat' (first|((first|((first|(apply zY;intro hg)|apply zZ);first|exact stA|((conv=>whnf);(repeat ((first|(refine zW ?_ ?_;exact gA)|refine pC (parse1_c s) wR ?_|refine pC (parse1_c s) cA ?_|intro _);conv=>whnf));first|exact pS|exact pL|exact pE))|(refine zW ?_ ?_;exact gA)|refine zH rfl ?_|refine zA ?_|refine zI bA ?_|refine zI rfl ?_|refine sB ?_|(refine zO ?_ ?_ ?_;omega;omega)|(refine zP ?_ ?_ ?_;omega;omega)|refine zM rfl ?_|(refine zQ ?_ ?_ ?_;omega;omega)|(refine zR ?_ ?_;omega)|(refine zI ?_ ?_;exact nA)|refine sS ?_|refine pC (parse1_c s) wR ?_|refine pC (parse1_c s) cA ?_|refine sD ?_|refine PDraw.sP (some 52) rfl [] [] tt_ok mixed ?_|intro _|refine zG ?_);conv=>whnf)|(refine zX (fun hc => ?_) (fun hc => ?_)<;>(try simp only [SY] at hc)<;>first|omega|(conv=>whnf)))
 ·refine PLoop.keep [5, 6, 46, 47, 48, 49, 50, 51, 52, 53, 54, 55, 56, 57, 58, 59, 60, 61] (fun (x : Nat × Bool) => [(5, .bool x.2), (6, .int .i64 x.1)]) (fun x => x.1 ≤ 11 ∧ (x.2 || (m.drop x.1).contains (s.getD i 0)) = markB (s.getD i 0)) (fun x => 11 - x.1) (0, baseB (s.getD i 0)) ⟨by omega, hmm _⟩ wA ?_
  rintro ⟨k, b⟩ ⟨hk, hb⟩
  conv => whnf
  repeat' (first|((first|((first|(apply zY;intro hg)|apply zZ);first|exact stA|((conv=>whnf);(repeat ((first|(refine zW ?_ ?_;exact gA)|refine pC (parse1_c s) wR ?_|refine pC (parse1_c s) cA ?_|intro _);conv=>whnf));first|exact pS|exact pL|exact pE))|(refine zW ?_ ?_;exact gA)|refine zH rfl ?_|refine zA ?_|refine zI bA ?_|refine zI rfl ?_|refine sB ?_|(refine zO ?_ ?_ ?_;omega;omega)|(refine zP ?_ ?_ ?_;omega;omega)|refine zM rfl ?_|(refine zQ ?_ ?_ ?_;omega;omega)|(refine zR ?_ ?_;omega)|(refine zI ?_ ?_;exact nA)|refine sS ?_|refine pC (parse1_c s) wR ?_|refine pC (parse1_c s) cA ?_|refine sD ?_|refine PDraw.sP (some 52) rfl [] [] tt_ok mixed ?_|intro _|refine zG ?_);conv=>whnf)|(refine zX (fun hc => ?_) (fun hc => ?_)<;>(try simp only [SY] at hc)<;>first|omega|(conv=>whnf)))
  ·refine loopTo (k + 1, b || ((s.getD i 0).toNat : Int) == (m.getD k 0).toNat) ⟨by simp only at hk ⊢; omega, ?_⟩ (by show 11 - (k + 1) < 11 - k; simp only at hk; omega) wA
   rw [← hb, drop_getD (show k < m.length by omega), List.contains_cons, byte_eq, Bool.or_assoc]
  all_goals
   simp only at hk hb
   rw [hc, List.drop_of_length_le (by omega)] at hb
   rw [drop_getD (show i < s.length by omega), List.all_cons, ← hb] at hm
  ·refine PRet.pure (Wk.ff ?_)
   simp only [List.contains_nil, Bool.or_false, Bool.false_and] at hm
   simp [nameB, ← hm]
  ·exact loopTo (i + 1) ⟨by omega, by rw [← hm]; simp⟩ (by show s.length - (i + 1) < s.length - i; omega) wA
 ·rw [List.drop_of_length_le (by omega)] at hm
  refine PRet.pure (Wk.bool ?_)
  have h1 : 1 ≤ s.length := by omega
  have h2 : s.length ≤ 40 := by omega
  simp [nameB, ← hm, h1, h2]
def bareBad (d : Datum) (deep : Int) : Bool :=
 (decide (deep > 200) || decide (d.kind < 0) || decide (d.kind > 7)) || ((d.kind == 0 && !numRight d.n d.d) || (d.kind != 0 && d.d != 0)) ||
 ((d.kind == 1 && d.n != 0 && d.n != 1) || (d.kind != 0 && d.kind != 1 && d.n != 0)) || ((d.kind == 2 && !nameB d.s) || (d.kind != 2 && d.kind != 3 && !(d.s == []))) || d.s.any strB ||
 ((d.kind == 6 && (d.l.length : Int) != 2) || (d.kind != 6 && d.kind != 7 && decide ((d.l.length : Int) > 0)))
mutual
def Datum.rightD : Datum → Int → Bool
 | .mk k n d s l, deep => !bareBad (.mk k n d s l) deep && Datum.rightDs l (deep + 1)
def Datum.rightDs : List Datum → Int → Bool
 | [], _ => true
 | x :: xs, deep => Datum.rightD x deep && Datum.rightDs xs deep
end
theorem Datum.rightD_eq (x : Datum) (deep : Int) : x.rightD deep = (!bareBad x deep && Datum.rightDs x.l (deep + 1)) := by cases x; rfl
theorem right2_c (d : Datum) : ∀ deep : Int, 0 ≤ deep → deep ≤ 1000 → ACallP Tryz.prog 172 [.agg d.cells, .int .i64 deep] (.bool (d.rightD deep)) := by
 induction d using Datum.ind with
 | h d ih =>
  intro deep h0 h1
  refine ACall.of_body tt_ok Tryz.func172 rfl rfl (n := 166) rfl rfl ?_
  conv => whnf
  repeat' (first|((first|((first|(apply zY;intro hg)|apply zZ);first|exact stA|((conv=>whnf);(repeat ((first|(refine zW ?_ ?_;exact gA)|refine pC (right1_c _ _) wR ?_|refine pC (right1_c _ _) cA ?_|refine pC (name1_c _) wR ?_|refine pC (name1_c _) cA ?_|intro _);conv=>whnf));first|exact pS|exact pL|exact pE))|(refine zW ?_ ?_;exact gA)|refine zH rfl ?_|refine zA ?_|refine zI bA ?_|refine zI rfl ?_|refine sB ?_|(refine zO ?_ ?_ ?_;omega;omega)|(refine zP ?_ ?_ ?_;omega;omega)|refine zM rfl ?_|(refine zQ ?_ ?_ ?_;omega;omega)|(refine zR ?_ ?_;omega)|(refine zI ?_ ?_;exact nA)|refine sS ?_|refine pC (right1_c _ _) wR ?_|refine pC (right1_c _ _) cA ?_|refine pC (name1_c _) wR ?_|refine pC (name1_c _) cA ?_|refine sD ?_|intro _|refine zG ?_);conv=>whnf)|(refine zX (fun hc => ?_) (fun hc => ?_)<;>(try simp only [SY] at hc)<;>first|omega|(conv=>whnf)))
  all_goals rw [Datum.rightD_eq]
  iterate 4 exact PRet.pure (Wk.ff (by simp only [bareBad, SS, *, true_or, or_true, Bool.not_true, Bool.false_and]))
  rename_i k1 k2 k3 k4
  refine PLoop.keep [4, 5, 92, 93, 94, 95, 96, 97, 98, 99, 100, 101, 102, 103, 104, 105, 106, 107, 108, 109, 110, 111, 112, 113, 114, 115, 116, 117, 118, 119, 120, 121, 122, 123, 124] (fun i : Nat => [(5, .int .i64 i)]) (fun i => i ≤ d.s.length ∧ (d.s.drop i).any strB = d.s.any strB) (fun i => d.s.length - i) 0 ⟨by omega, rfl⟩ wA ?_
  rintro i ⟨hi, hm⟩
  conv => whnf
  repeat' (first|((first|((first|(apply zY;intro hg)|apply zZ);first|exact stA|((conv=>whnf);(repeat ((first|(refine zW ?_ ?_;exact gA)|refine pC (right1_c _ _) wR ?_|refine pC (right1_c _ _) cA ?_|refine pC (name1_c _) wR ?_|refine pC (name1_c _) cA ?_|intro _);conv=>whnf));first|exact pS|exact pL|exact pE))|(refine zW ?_ ?_;exact gA)|refine zH rfl ?_|refine zA ?_|refine zI bA ?_|refine zI rfl ?_|refine sB ?_|(refine zO ?_ ?_ ?_;omega;omega)|(refine zP ?_ ?_ ?_;omega;omega)|refine zM rfl ?_|(refine zQ ?_ ?_ ?_;omega;omega)|(refine zR ?_ ?_;omega)|(refine zI ?_ ?_;exact nA)|refine sS ?_|refine pC (right1_c _ _) wR ?_|refine pC (right1_c _ _) cA ?_|refine pC (name1_c _) wR ?_|refine pC (name1_c _) cA ?_|refine sD ?_|intro _|refine zG ?_);conv=>whnf)|(refine zX (fun hc => ?_) (fun hc => ?_)<;>(try simp only [SY] at hc)<;>first|omega|(conv=>whnf)))
  ·rename_i k5
   rw [drop_getD (show i < d.s.length by omega), List.any_cons, show strB (d.s.getD i 0) = true by simp only [strB, SS, hc]] at hm
   exact PRet.pure (Wk.ff (by simp only [bareBad, ← hm, Bool.true_or, Bool.or_true, Bool.not_true, Bool.false_and]))
  ·rename_i k5
   rw [drop_getD (show i < d.s.length by omega), List.any_cons, show strB (d.s.getD i 0) = false by simp only [strB, SS, hc, not_false_eq_true, and_self]] at hm
   exact loopTo (i + 1) ⟨by omega, hm⟩ (by show d.s.length - (i + 1) < d.s.length - i; omega) wA
  ·exact PRet.pure (Wk.ff (by simp only [bareBad, SS, *, true_or, or_true, Bool.not_true, Bool.false_and]))
  ·rename_i k5
   rw [List.drop_of_length_le (by omega), List.any_nil] at hm
   replace hm := hm.symm
   have hbad : bareBad d deep = false := by
    simp only [bareBad, SS, *, and_self]
   simp only [hbad, Bool.not_false, Bool.true_and]
   refine PLoop.keep [4, 6, 150, 151, 152, 153, 154, 155, 156, 157, 158, 159, 160, 161, 162, 163, 164, 165] (fun i : Nat => [(6, .int .i64 i)]) (fun i => i ≤ d.l.length ∧ Datum.rightDs (d.l.drop i) (deep + 1) = Datum.rightDs d.l (deep + 1)) (fun i => d.l.length - i) 0 ⟨by omega, rfl⟩ wA ?_
   rintro j ⟨hj, hr⟩
   conv => whnf
   repeat' (first|((first|((first|(apply zY;intro hg)|apply zZ);first|exact stA|((conv=>whnf);(repeat ((first|(refine zW ?_ ?_;exact gA)|refine pC (ih _ (List.getElem_mem _) _ OA OA) wR ?_|refine pC (ih _ (List.getElem_mem _) _ OA OA) cA ?_|intro _);conv=>whnf));first|exact pS|exact pL|exact pE))|(refine zW ?_ ?_;exact gA)|refine zH rfl ?_|refine zA ?_|refine zI bA ?_|refine zI rfl ?_|refine sB ?_|(refine zO ?_ ?_ ?_;omega;omega)|(refine zP ?_ ?_ ?_;omega;omega)|refine zM rfl ?_|(refine zQ ?_ ?_ ?_;omega;omega)|(refine zR ?_ ?_;omega)|(refine zI ?_ ?_;exact nA)|refine sS ?_|refine pC (ih _ (List.getElem_mem _) _ OA OA) wR ?_|refine pC (ih _ (List.getElem_mem _) _ OA OA) cA ?_|refine sD ?_|intro _|refine zG ?_);conv=>whnf)|(refine zX (fun hc => ?_) (fun hc => ?_)<;>(try simp only [SY] at hc)<;>first|omega|(conv=>whnf)))
   ·rw [drop_at (show j < d.l.length by omega), Datum.rightDs, hc, Bool.false_and] at hr
    exact PRet.pure (Wk.ff hr.symm)
   ·rw [drop_at (show j < d.l.length by omega), Datum.rightDs, hc, Bool.true_and] at hr
    exact loopTo (j + 1) ⟨by omega, hr⟩ (by show d.l.length - (j + 1) < d.l.length - j; omega) wA
   ·rw [List.drop_of_length_le (by omega), Datum.rightDs] at hr
    exact PRet.pure (Wk.tt hr.symm)
end Go.Cb
namespace Go.Cb
open Go.Proofs
set_option maxRecDepth 100000
set_option maxHeartbeats 4000000
def sortsL (op level : Int) : Bool :=
 if op = 0 ∨ op = 1 ∨ op = 3 ∨ op = 5 ∨ op = 6 ∨ op = 11 then true else
 if op = 2 then decide (level ≤ 1) else
 if op = 4 then decide (level ≤ 2) else
 if op = 7 then level == 0 else
 if op = 8 ∨ op = 9 ∨ op = 12 ∨ op = 13 then decide (level ≥ 1) else
 if op = 14 then level == 1 else
 if op = 10 ∨ op = 15 ∨ op = 16 ∨ op = 17 ∨ op = 18 then decide (level ≥ 2) else
 if op = 19 ∨ op = 20 ∨ op = 21 ∨ op = 22 then level == 3 else false
def bindsB (op : Int) : Bool := op == 4 || op == 7 || op == 8 || op == 9
def countsL (t : Trm) : Bool :=
 if (!bindsB t.op && decide ((t.v.length : Int) > 0)) = true then false else
 if t.op = 0 ∨ t.op = 1 ∨ t.op = 11 ∨ t.op = 13 ∨ t.op = 20 ∨ t.op = 21 then (t.t.length : Int) == 0 else
 if t.op = 2 ∨ t.op = 14 ∨ t.op = 4 ∨ t.op = 12 ∨ t.op = 15 ∨ t.op = 16 then (t.t.length : Int) == 1 else
 if t.op = 3 then (t.t.length : Int) == 3 else
 if t.op = 17 ∨ t.op = 18 then (t.t.length : Int) == 2 else
 if t.op = 5 ∨ t.op = 6 ∨ t.op = 22 then decide ((t.t.length : Int) ≥ 1) else
 if t.op = 7 ∨ t.op = 8 ∨ t.op = 9 then (t.t.length : Int) == (t.v.length : Int) + 1 else true
theorem right2D_c (d : Datum) : ACallP Tryz.prog 121 [.agg d.cells] (.bool (d.rightD 0)) := by
 refine ACall.of_body tt_ok Tryz.func121 rfl rfl (n := 5) rfl rfl ?_
 conv => whnf
 repeat ((first|((first|(apply zY;intro hg)|apply zZ);first|exact stA|((conv=>whnf);(repeat ((first|(refine zW ?_ ?_;exact gA)|refine pC (right2_c d 0 (by omega) (by omega)) wR ?_|refine pC (right2_c d 0 (by omega) (by omega)) cA ?_|intro _);conv=>whnf));first|exact pS|exact pL|exact pE))|(refine zW ?_ ?_;exact gA)|refine zH rfl ?_|refine zA ?_|refine zI bA ?_|refine zI rfl ?_|refine sB ?_|(refine zO ?_ ?_ ?_;omega;omega)|(refine zP ?_ ?_ ?_;omega;omega)|refine zM rfl ?_|(refine zQ ?_ ?_ ?_;omega;omega)|(refine zR ?_ ?_;omega)|(refine zI ?_ ?_;exact nA)|refine sS ?_|refine pC (right2_c d 0 (by omega) (by omega)) wR ?_|refine pC (right2_c d 0 (by omega) (by omega)) cA ?_|refine sD ?_|intro _);conv=>whnf)
 exact PRet.pure (Wk.refl _)
def vOk (bound : List Int) (v : Int) : Bool := !(decide (v < 0) || decide (v > 1000000) || bound.contains v)
def bindR : List Int → List Int → Bool × List Int
 | [], bound => (true, bound)
 | v :: l, bound => if vOk bound v then bindR l (bound ++ [v]) else (false, bound ++ [v])
end Go.Cb
namespace Go.Cb
open Go.Proofs
set_option maxRecDepth 100000
set_option maxHeartbeats 4000000
structure Shp where
 fm : Int
 to : Int
 least : Int
 any : Bool
 binds : Bool
abbrev Shp.cells (s : Shp) : List PV := [.int .i64 s.fm, .int .i64 s.to, .int .i64 s.least, .bool s.any, .bool s.binds]
def shapeL (op : Int) : Shp × Bool :=
 if op = 0 ∨ op = 1 ∨ op = 11 then (⟨0, 3, 0, false, false⟩, true) else
 if op = 3 then (⟨0, 3, 3, false, false⟩, true) else
 if op = 5 ∨ op = 6 then (⟨0, 3, 1, true, false⟩, true) else
 if op = 2 then (⟨0, 1, 1, false, false⟩, true) else
 if op = 4 then (⟨0, 2, 1, false, true⟩, true) else
 if op = 7 then (⟨0, 0, 0, false, true⟩, true) else
 if op = 8 ∨ op = 9 then (⟨1, 3, 0, false, true⟩, true) else
 if op = 12 then (⟨1, 3, 1, false, false⟩, true) else
 if op = 13 then (⟨1, 3, 0, false, false⟩, true) else
 if op = 14 then (⟨1, 1, 1, false, false⟩, true) else
 if op = 10 then (⟨2, 3, 0, true, false⟩, true) else
 if op = 15 ∨ op = 16 then (⟨2, 3, 1, false, false⟩, true) else
 if op = 17 ∨ op = 18 then (⟨2, 3, 2, false, false⟩, true) else
 if op = 19 then (⟨3, 3, 0, true, false⟩, true) else
 if op = 20 ∨ op = 21 then (⟨3, 3, 0, false, false⟩, true) else
 if op = 22 then (⟨3, 3, 1, true, false⟩, true) else (⟨0, 0, 0, false, false⟩, false)
def groupB (op : Int) : Bool := op == 7 || op == 9
def fitsL (s : Shp) (t : Trm) : Bool :=
 let want : Int := if s.binds = true ∧ t.op ≠ 4 then (t.v.length : Int) + 1 else s.least
 ((t.t.length : Int) == want || (s.any && decide ((t.t.length : Int) ≥ want))) && (s.binds || (t.v.length : Int) == 0)
def procsL (level : Int) (l : List Trm) : Bool := !l.any (fun t => t.op != if level = 3 then 19 else 4)
structure Fct where
 name : List UInt8
 least : Int
 most : Int
 pure : Bool
 folds : Bool
abbrev Fct.cells (f : Fct) : List PV := [.str f.name, .int .i64 f.least, .int .i64 f.most, .bool f.pure, .bool f.folds]
def Fct.none : Fct := ⟨[], 0, 0, false, false⟩
def facts : List Fct := [⟨[43], 0, -1, true, true⟩, ⟨[45], 1, -1, true, true⟩, ⟨[42], 0, -1, true, true⟩, ⟨[47], 1, -1, true, true⟩, ⟨[61], 2, 2, true, true⟩, ⟨[60], 2, 2, true, true⟩,
 ⟨[101, 113, 63], 2, 2, true, true⟩, ⟨[101, 113, 117, 97, 108, 63], 2, 2, true, true⟩, ⟨[110, 111, 116], 1, 1, true, true⟩, ⟨[110, 117, 108, 108, 63], 1, 1, true, true⟩, ⟨[112, 97, 105, 114, 63], 1, 1, true, true⟩,
 ⟨[110, 117, 109, 98, 101, 114, 63], 1, 1, true, true⟩, ⟨[115, 121, 109, 98, 111, 108, 63], 1, 1, true, true⟩, ⟨[98, 111, 111, 108, 101, 97, 110, 63], 1, 1, true, true⟩, ⟨[115, 116, 114, 105, 110, 103, 63], 1, 1, true, true⟩,
 ⟨[118, 101, 99, 116, 111, 114, 63], 1, 1, true, true⟩, ⟨[112, 114, 111, 99, 101, 100, 117, 114, 101, 63], 1, 1, true, true⟩, ⟨[99, 111, 110, 115], 2, 2, true, false⟩, ⟨[99, 97, 114], 1, 1, true, true⟩, ⟨[99, 100, 114], 1, 1, true, true⟩,
 ⟨[108, 105, 115, 116], 0, -1, true, false⟩, ⟨[118, 101, 99, 116, 111, 114], 0, -1, true, false⟩, ⟨[118, 101, 99, 116, 111, 114, 45, 114, 101, 102], 2, 2, true, true⟩, ⟨[118, 101, 99, 116, 111, 114, 45, 108, 101, 110, 103, 116, 104], 1, 1, true, true⟩,
 ⟨[108, 101, 110, 103, 116, 104], 1, 1, true, true⟩, ⟨[118, 111, 105, 100], 0, 0, true, true⟩, ⟨[100, 105, 115, 112, 108, 97, 121], 1, 1, false, false⟩, ⟨[110, 101, 119, 108, 105, 110, 101], 0, 0, false, false⟩,
 ⟨[114, 97, 105, 115, 101], 1, 1, false, false⟩, ⟨[99, 97, 108, 108, 47, 99, 99], 1, 1, false, false⟩, ⟨[97, 112, 112, 108, 121], 2, 2, false, false⟩]
theorem table_c : ACallP Tryz.prog 178 [] (.agg (facts.flatMap Fct.cells)) := by
 refine ACall.of_body tt_ok Tryz.func178 rfl rfl (n := 33) rfl rfl ?_
 conv => whnf
 repeat ((first|((first|(apply zY;intro hg)|apply zZ);first|exact stA)|(refine zW ?_ ?_;exact gA)|refine zH rfl ?_|refine zA ?_|refine zI bA ?_|refine zI rfl ?_|refine sB ?_|(refine zO ?_ ?_ ?_;omega;omega)|(refine zP ?_ ?_ ?_;omega;omega)|refine zM rfl ?_|(refine zQ ?_ ?_ ?_;omega;omega)|(refine zR ?_ ?_;omega)|(refine zI ?_ ?_;exact nA)|refine sS ?_|refine sD ?_|intro _);conv=>whnf)
 refine PArrB.lit rfl ?_
 conv => whnf
 repeat ((first|((first|(apply zY;intro hg)|apply zZ);first|exact stA)|(refine zW ?_ ?_;exact gA)|refine zH rfl ?_|refine zA ?_|refine zI bA ?_|refine zI rfl ?_|refine sB ?_|(refine zO ?_ ?_ ?_;omega;omega)|(refine zP ?_ ?_ ?_;omega;omega)|refine zM rfl ?_|(refine zQ ?_ ?_ ?_;omega;omega)|(refine zR ?_ ?_;omega)|(refine zI ?_ ?_;exact nA)|refine sS ?_|refine sD ?_|intro _);conv=>whnf)
 exact PRet.pure (Wk.refl _)
def factOf (n : Int) : Fct := if 0 ≤ n ∧ n < 31 then facts.getD n.toNat Fct.none else Fct.none
theorem flat_drop {α : Type} {c : α → List PV} {s : Nat} (hc : ∀ x, (c x).length = s) : ∀ (l : List α) (m : Nat) (h : m < l.length), ((l.flatMap c).drop (m * s)).take s = c l[m]
 | x :: l, 0, _ => by
  simp only [Nat.zero_mul, List.drop_zero, List.flatMap_cons, List.getElem_cons_zero]
  rw [← hc x, List.take_left]
 | x :: l, m + 1, h => by
  have := flat_drop hc l m (by simpa using h)
  rw [Nat.succ_mul, Nat.add_comm, List.flatMap_cons]
  conv => lhs; rw [← hc x]
  rw [List.drop_length_add_append, hc x]
  simpa using this
theorem flat_len {α : Type} {c : α → List PV} {s : Nat} (hc : ∀ x, (c x).length = s) : ∀ (l : List α), (l.flatMap c).length = l.length * s
 | [] => by simp
 | x :: l => by rw [List.flatMap_cons, List.length_append, hc, flat_len hc l, List.length_cons, Nat.succ_mul, Nat.add_comm]
theorem PIndexG.flat {α : Type} {c : α → List PV} {l : List α} {n sz : Nat} {k : IntKind} {m : Int} {K : PV → Prop} (hc : ∀ x, (c x).length = sz) (hn : l.length = n) (h0 : 0 ≤ m) (h1 : m < n) (h : K (.agg (c (l[m.toNat]'(by omega))))) : PIndexG n sz true (l.flatMap c) (.int k m) K :=
 ⟨k, m, rfl, h0, h1, by rw [flat_len hc, hn], .inl ⟨rfl, by rw [flat_drop hc l m.toNat (by omega)]; exact h⟩⟩
theorem Facts_c (n : Int) : ACallP Tryz.prog 134 [.int .i64 n] (.tup [.agg (factOf n).cells, .bool (decide (0 ≤ n ∧ n < 31))]) := by
 refine ACall.of_body tt_ok Tryz.func134 rfl rfl (n := 14) rfl rfl ?_
 conv => whnf
 repeat' (first|((first|((first|(apply zY;intro hg)|apply zZ);first|exact stA|((conv=>whnf);(repeat ((first|(refine zW ?_ ?_;exact gA)|refine pC (table_c) wR ?_|refine pC (table_c) cA ?_|intro _);conv=>whnf));first|exact pS|exact pL|exact pE))|(refine zW ?_ ?_;exact gA)|refine zH rfl ?_|refine zA ?_|refine zI bA ?_|refine zI rfl ?_|refine sB ?_|(refine zO ?_ ?_ ?_;omega;omega)|(refine zP ?_ ?_ ?_;omega;omega)|refine zM rfl ?_|(refine zQ ?_ ?_ ?_;omega;omega)|(refine zR ?_ ?_;omega)|(refine zI ?_ ?_;exact nA)|refine sS ?_|refine pC (table_c) wR ?_|refine pC (table_c) cA ?_|refine sD ?_|intro _|refine zG ?_);conv=>whnf)|(refine zX (fun hc => ?_) (fun hc => ?_)<;>(try simp only [SY] at hc)<;>first|omega|(conv=>whnf)))
 ·rw [show factOf n = Fct.none by unfold factOf; rw [if_neg (by omega)], show decide (0 ≤ n ∧ n < 31) = false by simp; omega]
  exact PRet.pure wA
 ·have hl : n.toNat < facts.length := by show n.toNat < 31; omega
  refine PIndexG.flat (fun _ => rfl) rfl (by omega) (by omega) ?_
  conv => whnf
  repeat ((first|((first|(apply zY;intro hg)|apply zZ);first|exact stA|((conv=>whnf);(repeat ((first|(refine zW ?_ ?_;exact gA)|refine pC (table_c) wR ?_|refine pC (table_c) cA ?_|intro _);conv=>whnf));first|exact pS|exact pL|exact pE))|(refine zW ?_ ?_;exact gA)|refine zH rfl ?_|refine zA ?_|refine zI bA ?_|refine zI rfl ?_|refine sB ?_|(refine zO ?_ ?_ ?_;omega;omega)|(refine zP ?_ ?_ ?_;omega;omega)|refine zM rfl ?_|(refine zQ ?_ ?_ ?_;omega;omega)|(refine zR ?_ ?_;omega)|(refine zI ?_ ?_;exact nA)|refine sS ?_|refine pC (table_c) wR ?_|refine pC (table_c) cA ?_|refine sD ?_|intro _);conv=>whnf)
  rw [show decide (0 ≤ n ∧ n < 31) = true by simp; omega]
  rw [show factOf n = facts[n.toNat] by unfold factOf; rw [if_pos (by omega)]; simp [List.getD, hl]]
  exact PRet.pure wA
end Go.Cb
namespace Go.Cb
open Go.Proofs
set_option maxRecDepth 100000
set_option maxHeartbeats 4000000
def numberP (consts codes : Int) (free : Bool) (t : Trm) (scope : List Int) : Bool :=
 if t.op = 0 then decide (t.n ≥ 0) && decide (t.n < consts) else
 if t.op = 1 ∨ t.op = 2 ∨ t.op = 14 then scope.contains t.n else
 if t.op = 11 ∨ t.op = 10 then decide (0 ≤ t.n ∧ t.n < 31) else
 if t.op = 4 then t.n == 0 || (t.n == 1 && decide ((t.v.length : Int) > 0)) else
 if t.op = 7 then t.n == 0 || t.n == 1 else
 if t.op = 19 ∨ t.op = 21 ∨ t.op = 22 then decide (t.n ≥ 0) && decide (t.n < codes) else
 if t.op = 20 then decide (t.n ≥ 0) && free else t.n == 0
end Go.Cb
namespace Go.Cb
open Go.Proofs
set_option maxRecDepth 100000
set_option maxHeartbeats 4000000
end Go.Cb
namespace Go.Cb
open Go.Proofs
set_option maxRecDepth 100000
set_option maxHeartbeats 4000000
end Go.Cb
namespace Go.Cb
open Go.Proofs
set_option maxRecDepth 100000
set_option maxHeartbeats 4000000
def badP (level consts codes : Int) (free : Bool) (t : Trm) (scope : List Int) (deep size : Int) : Bool :=
 !(shapeL t.op).2 || decide (deep > 400) || decide (size > 20000) || decide (level < (shapeL t.op).1.fm) || decide (level > (shapeL t.op).1.to) || !fitsL (shapeL t.op).1 t || !numberP consts codes free t scope
mutual
def Trm.ckP (level consts codes : Int) (free : Bool) : Trm → List Int → Int → Int → List Int → Option (Int × List Int)
 | .mk op n v t, scope, deep, size, bound =>
  if badP level consts codes free (.mk op n v t) scope deep (size + 1) = true then none else
  if groupB op = true then
   if (op == 9 && !procsL level t.dropLast) = true then none else if (bindR v bound).1 = true then Trm.cksG level consts codes free (scope ++ v) t (deep + 1) (size + 1) (bound ++ v) else none
  else Trm.cksI level consts codes free scope v t (deep + 1) (size + 1) bound
def Trm.cksG (level consts codes : Int) (free : Bool) (scope : List Int) : List Trm → Int → Int → List Int → Option (Int × List Int)
 | [], _, size, bound => some (size, bound)
 | x :: xs, deep, size, bound =>
  match Trm.ckP level consts codes free x scope deep size bound with
  | none => none
  | some (s, b) => Trm.cksG level consts codes free scope xs deep s b
def Trm.cksI (level consts codes : Int) (free : Bool) (scope v : List Int) : List Trm → Int → Int → List Int → Option (Int × List Int)
 | [], _, size, bound => if (bindR v bound).1 = true then some (size, bound ++ v) else none
 | x :: xs, deep, size, bound =>
  if xs.isEmpty = true then (if (bindR v bound).1 = true then Trm.ckP level consts codes free x (scope ++ v) deep size (bound ++ v) else none) else
  match Trm.ckP level consts codes free x scope deep size bound with
  | none => none
  | some (s, b) => Trm.cksI level consts codes free scope v xs deep s b
end
end Go.Cb
namespace Go.Cb
open Go.Proofs
set_option maxRecDepth 100000
set_option maxHeartbeats 4000000
def numberL (consts codes : Int) (free : Bool) (t : Trm) (scope : List Int) : Bool :=
 if t.op = 0 then decide (t.n ≥ 0) && decide (t.n < consts) else
 if t.op = 1 ∨ t.op = 2 ∨ t.op = 14 then scope.contains t.n else
 if t.op = 11 ∨ t.op = 10 then decide (t.n ≥ 0) && decide (t.n ≤ 30) else
 if t.op = 4 then t.n == 0 || (t.n == 1 && decide ((t.v.length : Int) > 0)) else
 if t.op = 7 then t.n == 0 || t.n == 1 else
 if t.op = 19 ∨ t.op = 21 ∨ t.op = 22 then decide (t.n ≥ 0) && decide (t.n < codes) else
 if t.op = 20 then decide (t.n ≥ 0) && free else t.n == 0
end Go.Cb

