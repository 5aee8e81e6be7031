/-
 Contracts: slots.Color is the document's; the document's example; SlotsColors, SlotsSorts.
 Contracts: the law of slots of their own (SlotsApart).
 From the readings of arguments to values, and from a contract to what a statement asks.
 The program's data, read at the seat's types; the bulk.
 Lists of numbers, read at the seat's types.
 Units, read at the seat's types.
 A world that holds the listed tables: the statements' witness.
-/
import Derived.Carry
import Derived.ChangeArms
import Derived.ChangeSame
import Derived.Deep.DeepHandedRow
import Derived.Deep.DeepWitnessRowRef
import Derived.KernelRfl
import Derived.Lib.LaidIn
import Derived.OpenShut
import Derived.OpenVars
import Derived.RowKit
import Derived.Test.YtklpioocdgfbmaaGreatDoorRows
import Derived.WideShapes
import Derived.Test.YtklpioocdgfbmaaGreatDoorQ9
set_option linter.unusedSimpArgs false
set_option linter.unusedVariables false
namespace Go.Cb
open Go.Proofs
set_option maxRecDepth 100000
set_option maxHeartbeats 4000000
theorem snd_chk {u : Unt} (h : sndB u = true) : chkU u = 0 ∧ ∀ p ∈ u.procs, begB p = false := by
 unfold sndB at h
 rw [Bool.and_eq_true, beq_iff_eq, Bool.not_eq_true', List.any_eq_false] at h
 exact ⟨h.1, fun p hp => by have := h.2 p hp; rwa [Bool.not_eq_true] at this⟩
instance (priority := high) ElOf.prcells (t : Prc) : ElOf Prc.pv (.agg t.cells) t := ⟨Wk.refl _, WkL.refl _⟩
theorem colorS_c (u : Unt) (hu : Lim u) (hc : u.consts.length ≤ 1000000) : ACallP Tryz.prog 30 [.agg u.cells] (colPV u) := by
 have hsd := soundL_c u hu
 unfold colPV colR
 by_cases hs : sndB u = true
 ·rw [if_pos hs]
  rw [hs] at hsd
  have h0 := (snd_chk hs).1
  have haf := fun (n : Nat) (hn : n < u.procs.length) => afterL_c u hu h0 n hn
  have hpr := fun (n : Nat) (hn : n < u.procs.length) => procS17_c u.procs[n] (prF h0 _ (List.getElem_mem hn)) (okIns h0 _ (List.getElem_mem hn)) (fun x hx => by have := (hu.2 _ (List.getElem_mem hn)).2 x hx; omega)
  refine ACall.of_body tt_ok Tryz.func30 rfl rfl (n := 41) rfl rfl ?_
  conv => whnf
  repeat' (first|((first|((first|(apply zY;intro hg)|apply zZ);first|exact stA|exact stB|((conv=>whnf);(repeat ((first|(refine zW ?_ ?_;exact gA)|refine pC (hsd) wR ?_|refine pC (haf _ (by omega)) wR ?_|refine pC (hpr _ (by omega)) wR ?_|refine pC (cloneDat_c u.consts (by omega)) wR ?_|refine zA ?_|refine zH rfl ?_|refine zB ?_|refine sG ?_|intro _);conv=>whnf));first|exact pS|exact pL|exact pE))|(refine zW ?_ ?_;exact gA)|refine zH rfl ?_|refine zA ?_|refine zI bA ?_|refine zI rfl ?_|refine sB ?_|(refine zO ?_ ?_ ?_;omega;omega)|(refine zP ?_ ?_ ?_;omega;omega)|refine zM rfl ?_|(refine zQ ?_ ?_ ?_;omega;omega)|(refine zR ?_ ?_;omega)|(refine zI ?_ ?_;exact nA)|refine sS ?_|refine pC (hsd) wR ?_|refine pC (haf _ (by omega)) wR ?_|refine pC (hpr _ (by omega)) wR ?_|refine pC (cloneDat_c u.consts (by omega)) wR ?_|refine sF ?_|refine n0 ?_|refine sD ?_|refine PDraw.sP (some 31) rfl [] [6,7,8] tt_ok mixed ?_|intro _|refine zG ?_);conv=>whnf)|(refine zX (fun hc => ?_) (fun hc => ?_)<;>(try simp only [SY] at hc)<;>first|omega|(conv=>whnf)))
  rename_i b1 b2 b4 _
  refine PLoop.ghost (Ghost.trans (Ghost.nil 5 57 _) (Ghost.box (b := b4) (cs := [.sl 5 (u.consts.map Datum.pv) none, .nil]) (cs' := [.sl 5 (u.consts.map Datum.pv) none, .sl 5 (([] : List Prc).map Prc.pv) (some (nilTok 5 57))]) wA)) ?_
  refine PLoop.over [5, 6, 7, 8, 20, 21, 22, 23, 24, 25, 26, 27, 28, 29, 30, 31, 32, 33, 34, 35, 36, 37, 38, 39] (fun x : Nat × List Prc × Tok => [(20, .int .i64 x.1)]) (fun x => [.box b4 [.sl 5 (u.consts.map Datum.pv) none, .sl 5 (x.2.1.map Prc.pv) (some x.2.2)], .tok x.2.2, .box b2 [.nil, .nil], .box b1 (unX u)]) (fun x => x.1 ≤ u.procs.length ∧ x.2.2.e = 57 ∧ x.2.1 = (u.procs.take x.1).map colP) (fun x => u.procs.length - x.1) (0, [], nilTok 5 57) ⟨Nat.zero_le _, rfl, rfl⟩ wA ?_
  rintro ⟨n, out, t⟩ ⟨hn, hte, ho⟩
  dsimp only at hn hte ho ⊢
  have hup := hu.1
  have hol := congrArg List.length ho
  rw [List.length_map, List.length_take] at hol
  rcases Nat.lt_or_ge n u.procs.length with hnl | hnl
  ·have htk : (u.procs.take (n + 1)).map colP = out ++ [colP u.procs[n]] := by rw [List.take_succ_eq_append_getElem hnl, List.map_append, ← ho]; rfl
   conv => whnf
   repeat' (first|((first|((first|(apply zY;intro hg)|apply zZ);first|exact stA|exact stB|((conv=>whnf);(repeat ((first|(refine zW ?_ ?_;exact gA)|refine pC (hsd) wR ?_|refine pC (haf _ (by omega)) wR ?_|refine pC (hpr _ (by omega)) wR ?_|refine pC (cloneDat_c u.consts (by omega)) wR ?_|refine zA ?_|refine zH rfl ?_|refine zB ?_|refine sG ?_|intro _);conv=>whnf));first|exact pS|exact pL|exact pE))|(refine zW ?_ ?_;exact gA)|refine zH rfl ?_|refine zA ?_|refine zI bA ?_|refine zI rfl ?_|refine sB ?_|(refine zO ?_ ?_ ?_;omega;omega)|(refine zP ?_ ?_ ?_;omega;omega)|refine zM rfl ?_|(refine zQ ?_ ?_ ?_;omega;omega)|(refine zR ?_ ?_;omega)|(refine zI ?_ ?_;exact nA)|refine sS ?_|refine pC (hsd) wR ?_|refine pC (haf _ (by omega)) wR ?_|refine pC (hpr _ (by omega)) wR ?_|refine pC (cloneDat_c u.consts (by omega)) wR ?_|refine sF ?_|refine n0 ?_|refine sD ?_|refine PDraw.sP (some 31) rfl [] [6,7,8] tt_ok mixed ?_|intro _|refine zG ?_);conv=>whnf)|(refine zX (fun hc => ?_) (fun hc => ?_)<;>(try simp only [SY] at hc)<;>first|omega|(conv=>whnf)))
   rename_i t1 h1
   exact loopTo (n + 1, out ++ [colP u.procs[n]], t1) ⟨by show n + 1 ≤ _; omega, h1, htk.symm⟩ (by show u.procs.length - (n + 1) < u.procs.length - n; omega) wA
  ·conv => whnf
   repeat' (first|((first|((first|(apply zY;intro hg)|apply zZ);first|exact stA|exact stB|((conv=>whnf);(repeat ((first|(refine zW ?_ ?_;exact gA)|refine pC (hsd) wR ?_|refine pC (haf _ (by omega)) wR ?_|refine pC (hpr _ (by omega)) wR ?_|refine pC (cloneDat_c u.consts (by omega)) wR ?_|refine zA ?_|refine zH rfl ?_|refine zB ?_|refine sG ?_|intro _);conv=>whnf));first|exact pS|exact pL|exact pE))|(refine zW ?_ ?_;exact gA)|refine zH rfl ?_|refine zA ?_|refine zI bA ?_|refine zI rfl ?_|refine sB ?_|(refine zO ?_ ?_ ?_;omega;omega)|(refine zP ?_ ?_ ?_;omega;omega)|refine zM rfl ?_|(refine zQ ?_ ?_ ?_;omega;omega)|(refine zR ?_ ?_;omega)|(refine zI ?_ ?_;exact nA)|refine sS ?_|refine pC (hsd) wR ?_|refine pC (haf _ (by omega)) wR ?_|refine pC (hpr _ (by omega)) wR ?_|refine pC (cloneDat_c u.consts (by omega)) wR ?_|refine sF ?_|refine n0 ?_|refine sD ?_|refine PDraw.sP (some 31) rfl [] [6,7,8] tt_ok mixed ?_|intro _|refine zG ?_);conv=>whnf)|(refine zX (fun hc => ?_) (fun hc => ?_)<;>(try simp only [SY] at hc)<;>first|omega|(conv=>whnf)))
   rw [List.take_of_length_le (by omega)] at ho
   subst ho
   exact PRet.pure (Wk.tup (.cons (Wk.agg (.cons (Wk.refl _) (.cons (Wk.tok _ _ _) .nil))) (.cons (Wk.refl _) .nil)))
 ·rw [if_neg hs]
  rw [Bool.not_eq_true] at hs
  rw [hs] at hsd
  refine ACall.of_body tt_ok Tryz.func30 rfl rfl (n := 41) rfl rfl ?_
  conv => whnf
  repeat' (first|((first|((first|(apply zY;intro hg)|apply zZ);first|exact stA|exact stB|((conv=>whnf);(repeat ((first|(refine zW ?_ ?_;exact gA)|refine pC (hsd) wR ?_|refine zA ?_|refine zH rfl ?_|refine zB ?_|refine sG ?_|intro _);conv=>whnf));first|exact pS|exact pL|exact pE))|(refine zW ?_ ?_;exact gA)|refine zH rfl ?_|refine zA ?_|refine zI bA ?_|refine zI rfl ?_|refine sB ?_|(refine zO ?_ ?_ ?_;omega;omega)|(refine zP ?_ ?_ ?_;omega;omega)|refine zM rfl ?_|(refine zQ ?_ ?_ ?_;omega;omega)|(refine zR ?_ ?_;omega)|(refine zI ?_ ?_;exact nA)|refine sS ?_|refine pC (hsd) wR ?_|refine sF ?_|refine n0 ?_|refine sD ?_|refine PDraw.sP (some 31) rfl [] [6,7,8] tt_ok mixed ?_|intro _|refine zG ?_);conv=>whnf)|(refine zX (fun hc => ?_) (fun hc => ?_)<;>(try simp only [SY] at hc)<;>first|omega|(conv=>whnf)))
  exact PRet.pure wA
def fewQs (n : Int) : List Prc → Int → Bool
 | [], _ => true
 | p :: ps, k => if (p.code.length : Int) > n ∨ p.regs > n then false else if (p.code.any fun x => decide ((x.l.length : Int) > 60)) = true then false else if k + p.code.length > n then false else fewQs n ps (k + p.code.length)
def fewV (u : Unt) (n : Int) : Bool := if u.procs.length > 30 ∨ decide (0 ≤ Datum.fews u.consts 2000) = false then false else fewQs n u.procs 0
theorem fews_len : ∀ (l : List Datum) (n : Int), 0 ≤ n → 0 ≤ Datum.fews l n → (l.length : Int) ≤ n
 | [], n, h, _ => by simpa using h
 | d :: l, n, h, h2 => by
  rw [Datum.fews, if_pos h] at h2
  have h3 := Datum.few_bd d n h
  have h4 : 0 ≤ d.few n := by
   rcases (by omega : 0 ≤ d.few n ∨ d.few n < 0) with h5 | h5
   ·exact h5
   ·cases l with
    | nil => rw [Datum.fews] at h2; exact h2
    | cons e l => rw [Datum.fews, if_neg (by omega)] at h2; exact h2
  have := fews_len l _ h4 h2
  rw [List.length_cons]
  omega
theorem fewQs_mem (n : Int) : ∀ (ps : List Prc) (k : Int), fewQs n ps k = true → ∀ p ∈ ps, (p.code.length : Int) ≤ n ∧ p.regs ≤ n ∧ ∀ x ∈ p.code, x.l.length ≤ 60
 | [], _, _, _, h => by cases h
 | q :: ps, k, hc, p, hp => by
  rw [fewQs] at hc
  split at hc
  ·cases hc
  rename_i h1
  split at hc
  ·cases hc
  rename_i h2
  split at hc
  ·cases hc
  rcases List.mem_cons.1 hp with rfl | hp
  ·refine ⟨by omega, by omega, fun x hx => ?_⟩
   rw [Bool.not_eq_true, List.any_eq_false] at h2
   have := h2 x hx
   simp only [decide_eq_true_eq] at this
   omega
  ·exact fewQs_mem n ps _ hc p hp
theorem fewV_lim {u : Unt} {n : Int} (h : fewV u n = true) (hn : n ≤ 200) : Lim u ∧ u.consts.length ≤ 1000000 := by
 unfold fewV at h
 split at h
 ·cases h
 ·rename_i h1
  refine ⟨⟨by omega, fun p hp => ?_⟩, ?_⟩
  ·obtain ⟨a, _, c⟩ := fewQs_mem n _ _ h p hp
   exact ⟨by omega, fun x hx => by have := c x hx; omega⟩
  ·have : 0 ≤ Datum.fews u.consts 2000 := by
    rcases (by omega : 0 ≤ Datum.fews u.consts 2000 ∨ ¬0 ≤ Datum.fews u.consts 2000) with h2 | h2
    ·exact h2
    ·exact absurd (.inr (decide_eq_false h2)) h1
   have := fews_len _ _ (by omega) this
   omega
theorem few17_c (u : Unt) (n : Int) (h0 : 0 ≤ n) (h1 : n ≤ 1000000000) : ACallP Tryz.prog 29 [.agg u.cells, .int .i64 n] (.bool (fewV u n)) := by
 refine ACall.of_body tt_ok Tryz.func29 rfl rfl (n := 79) rfl rfl ?_
 conv => whnf
 repeat' (first|((first|((first|(apply zY;intro hg)|apply zZ);first|exact stA|exact stB|((conv=>whnf);(repeat ((first|(refine zW ?_ ?_;exact gA)|refine pC (FewAll_c u.consts 2000 (by omega) (by omega)) wR ?_|refine zA ?_|refine zH rfl ?_|refine zB ?_|refine sG ?_|intro _);conv=>whnf));first|exact pS|exact pL|exact pE))|(refine zW ?_ ?_;exact gA)|refine zH rfl ?_|refine zA ?_|refine zI bA ?_|refine zI rfl ?_|refine sB ?_|(refine zO ?_ ?_ ?_;omega;omega)|(refine zP ?_ ?_ ?_;omega;omega)|refine zM rfl ?_|(refine zQ ?_ ?_ ?_;omega;omega)|(refine zR ?_ ?_;omega)|(refine zI ?_ ?_;exact nA)|refine sS ?_|refine pC (FewAll_c u.consts 2000 (by omega) (by omega)) wR ?_|refine sF ?_|refine n0 ?_|refine sD ?_|intro _|refine zG ?_);conv=>whnf)|(refine zX (fun hc => ?_) (fun hc => ?_)<;>(try simp only [SY] at hc)<;>first|omega|(conv=>whnf)))
 ·rw [fewV, if_pos (by rw [decide_eq_false_iff_not]; omega)]
  exact PRet.pure (Wk.ff rfl)
 rw [fewV, if_neg (by rw [decide_eq_false_iff_not]; omega)]
 refine PLoop.keep [4, 5, 6, 7, 18, 19, 20, 21, 22, 23, 24, 25, 26, 27, 28, 29, 30, 31, 32, 33, 34, 35, 36, 37, 38, 39, 40, 41, 42, 43, 44, 45, 46, 47, 48, 49, 50, 51, 52, 53, 54, 55, 56, 57, 58, 59, 60, 61, 62, 63, 64, 65, 66, 67, 68, 69, 70, 71, 72, 73, 74, 75, 76, 77, 78] (fun x : Nat × Int => [(5, .int .i64 x.2), (6, .int .i64 x.1)]) (fun x => x.1 ≤ u.procs.length ∧ 0 ≤ x.2 ∧ x.2 ≤ n ∧ fewQs n u.procs 0 = fewQs n (u.procs.drop x.1) x.2) (fun x => u.procs.length - x.1) (0, 0) ⟨Nat.zero_le _, by omega, by omega, rfl⟩ wA ?_
 rintro ⟨i, k⟩ ⟨hi, hk, hkn, he⟩
 dsimp only at hi hk hkn he ⊢
 conv => whnf
 repeat' (first|((first|((first|(apply zY;intro hg)|apply zZ);first|exact stA|exact stB|((conv=>whnf);(repeat ((first|(refine zW ?_ ?_;exact gA)|refine pC (FewAll_c u.consts 2000 (by omega) (by omega)) wR ?_|refine zA ?_|refine zH rfl ?_|refine zB ?_|refine sG ?_|intro _);conv=>whnf));first|exact pS|exact pL|exact pE))|(refine zW ?_ ?_;exact gA)|refine zH rfl ?_|refine zA ?_|refine zI bA ?_|refine zI rfl ?_|refine sB ?_|(refine zO ?_ ?_ ?_;omega;omega)|(refine zP ?_ ?_ ?_;omega;omega)|refine zM rfl ?_|(refine zQ ?_ ?_ ?_;omega;omega)|(refine zR ?_ ?_;omega)|(refine zI ?_ ?_;exact nA)|refine sS ?_|refine pC (FewAll_c u.consts 2000 (by omega) (by omega)) wR ?_|refine sF ?_|refine n0 ?_|refine sD ?_|intro _|refine zG ?_);conv=>whnf)|(refine zX (fun hc => ?_) (fun hc => ?_)<;>(try simp only [SY] at hc)<;>first|omega|(conv=>whnf)))
 ·have hip : i < u.procs.length := by omega
  rw [drop_at hip, fewQs, if_pos (by omega)] at he
  rw [he]
  exact PRet.pure (Wk.ff rfl)
 ·have hip : i < u.procs.length := by omega
  rw [drop_at hip, fewQs, if_neg (by omega)] at he
  refine PLoop.keep [4, 7, 53, 54, 55, 56, 57, 58, 59, 60, 61, 62, 63, 64, 65, 66, 67, 68, 69, 70, 71, 72, 73, 74, 75] (fun j : Nat => [(7, .int .i64 j)]) (fun j => j ≤ u.procs[i].code.length ∧ (u.procs[i].code.any fun x => decide ((x.l.length : Int) > 60)) = (u.procs[i].code.drop j).any fun x => decide ((x.l.length : Int) > 60)) (fun j => u.procs[i].code.length - j) 0 ⟨Nat.zero_le _, rfl⟩ wA ?_
  rintro j ⟨hj, hja⟩
  conv => whnf
  repeat' (first|((first|((first|(apply zY;intro hg)|apply zZ);first|exact stA|exact stB|((conv=>whnf);(repeat ((first|(refine zW ?_ ?_;exact gA)|refine pC (FewAll_c u.consts 2000 (by omega) (by omega)) wR ?_|refine zA ?_|refine zH rfl ?_|refine zB ?_|refine sG ?_|intro _);conv=>whnf));first|exact pS|exact pL|exact pE))|(refine zW ?_ ?_;exact gA)|refine zH rfl ?_|refine zA ?_|refine zI bA ?_|refine zI rfl ?_|refine sB ?_|(refine zO ?_ ?_ ?_;omega;omega)|(refine zP ?_ ?_ ?_;omega;omega)|refine zM rfl ?_|(refine zQ ?_ ?_ ?_;omega;omega)|(refine zR ?_ ?_;omega)|(refine zI ?_ ?_;exact nA)|refine sS ?_|refine pC (FewAll_c u.consts 2000 (by omega) (by omega)) wR ?_|refine sF ?_|refine n0 ?_|refine sD ?_|intro _|refine zG ?_);conv=>whnf)|(refine zX (fun hc => ?_) (fun hc => ?_)<;>(try simp only [SY] at hc)<;>first|omega|(conv=>whnf)))
  ·have hjc : j < u.procs[i].code.length := by omega
   rw [drop_at hjc, List.any_cons, decide_eq_true (by omega : (u.procs[i].code[j].l.length : Int) > 60), Bool.true_or] at hja
   rw [if_pos hja] at he
   rw [he]
   exact PRet.pure (Wk.ff rfl)
  ·have hjc : j < u.procs[i].code.length := by omega
   rw [drop_at hjc, List.any_cons, decide_eq_false (by omega : ¬(u.procs[i].code[j].l.length : Int) > 60), Bool.false_or] at hja
   exact loopTo (j + 1) ⟨by omega, hja⟩ (by show u.procs[i].code.length - (j + 1) < u.procs[i].code.length - j; omega) wA
  ·rw [List.drop_of_length_le (by omega), List.any_nil] at hja
   rw [if_neg (by rw [hja]; simp), if_pos (by omega)] at he
   rw [he]
   exact PRet.pure (Wk.ff rfl)
  ·rw [List.drop_of_length_le (by omega), List.any_nil] at hja
   rw [if_neg (by rw [hja]; simp), if_neg (by omega)] at he
   exact loopTo (i + 1, k + u.procs[i].code.length) ⟨by show i + 1 ≤ _; omega, by show 0 ≤ k + (u.procs[i].code.length : Int); omega, by show k + (u.procs[i].code.length : Int) ≤ n; omega, he⟩ (by show u.procs.length - (i + 1) < u.procs.length - i; omega) wA
 ·rw [List.drop_of_length_le (by omega), fewQs] at he
  rw [he]
  exact PRet.pure (Wk.tt rfl)
def u17 : Unt := ⟨[⟨0, 1, 1, [], []⟩], [⟨1, false, 3, [⟨0, 1, 0, 0, []⟩, ⟨9, 2, 0, 0, [0, 1]⟩, ⟨22, 0, 2, 0, []⟩], []⟩]⟩
def v17 : Unt := ⟨[⟨0, 1, 1, [], []⟩], [⟨1, false, 2, [⟨0, 1, 0, 0, []⟩, ⟨9, 0, 0, 0, [0, 1]⟩, ⟨22, 0, 0, 0, []⟩], [[0], [], []]⟩]⟩
theorem col_u17 : colR u17 = (v17, 0) := by rfl
theorem lim_u17 : Lim u17 := by
 refine ⟨by decide, ?_⟩
 intro p hp
 simp only [u17, List.mem_singleton] at hp
 subst hp
 refine ⟨by decide, ?_⟩
 intro x hx
 simp only [List.mem_cons, List.not_mem_nil, or_false] at hx
 rcases hx with rfl | rfl | rfl <;> simp
theorem u17_wk (t1 t2 t3 t4 : Option Tok) : Wk (.agg [.sl 5 [.agg [.int .i64 0, .int .i64 1, .int .i64 1, .str [], .nil]] t1, .sl 5 [.agg [.int .i64 1, .bfalse, .int .i64 3, .sl 5 [.agg [.int .i64 0, .int .i64 1, .int .i64 0, .int .i64 0, .nil], .agg [.int .i64 9, .int .i64 2, .int .i64 0, .int .i64 0, .sl 1 [.int .i64 0, .int .i64 1] t2], .agg [.int .i64 22, .int .i64 0, .int .i64 2, .int .i64 0, .nil]] t3, .nil]] t4]) (.agg u17.cells) :=
 Wk.agg (.cons (Wk.rowT (.cons (.cons (Wk.refl _) (.cons (Wk.refl _) (.cons (Wk.refl _) (.cons (Wk.refl _) (.cons (Wk.nil' rfl) .nil))))) .nil)) (.cons (Wk.rowT (.cons (.cons (Wk.refl _) (.cons (Wk.ff rfl) (.cons (Wk.refl _) (.cons (Wk.rowT (.cons (.cons (Wk.refl _) (.cons (Wk.refl _) (.cons (Wk.refl _) (.cons (Wk.refl _) (.cons (Wk.nil' rfl) .nil))))) (.cons (.cons (Wk.refl _) (.cons (Wk.refl _) (.cons (Wk.refl _) (.cons (Wk.refl _) (.cons (Wk.rowT (WkR.refl _)) .nil))))) (.cons (.cons (Wk.refl _) (.cons (Wk.refl _) (.cons (Wk.refl _) (.cons (Wk.refl _) (.cons (Wk.nil' rfl) .nil))))) .nil)))) (.cons (Wk.nil' rfl) .nil))))) .nil)) .nil))
theorem awake17_c : ACallP Tryz.prog 28 [] (.bool true) := by
 have hco := colorS_c u17 lim_u17 (by decide)
 rw [colPV, col_u17] at hco
 refine ACall.of_body tt_ok Tryz.func28 rfl rfl (n := 75) rfl rfl ?_
 conv => whnf
 repeat' (first|((first|((first|(apply zY;intro hg)|apply zZ);first|exact stA|exact stB|((conv=>whnf);(repeat ((first|(refine zW ?_ ?_;exact gA)|refine pC (ints19_self [0]) wR ?_|refine zA ?_|refine zH rfl ?_|refine zB ?_|refine sG ?_|intro _);conv=>whnf));first|exact pS|exact pL|exact pE))|(refine zW ?_ ?_;exact gA)|refine zH rfl ?_|refine zA ?_|refine zI bA ?_|refine zI rfl ?_|refine sB ?_|(refine zO ?_ ?_ ?_;omega;omega)|(refine zP ?_ ?_ ?_;omega;omega)|refine zM rfl ?_|(refine zQ ?_ ?_ ?_;omega;omega)|(refine zR ?_ ?_;omega)|(refine zI ?_ ?_;exact nA)|refine sS ?_|refine pC (ints19_self [0]) wR ?_|refine sF ?_|refine n0 ?_|refine sD ?_|intro _|refine zG ?_);conv=>whnf)|(refine zX (fun hc => ?_) (fun hc => ?_)<;>(try simp only [SY] at hc)<;>first|omega|(conv=>whnf)))
 refine PCall.pure hco (.cons (u17_wk _ _ _ _) .nil) ?_
 conv => whnf
 repeat' (first|((first|((first|(apply zY;intro hg)|apply zZ);first|exact stA|exact stB|((conv=>whnf);(repeat ((first|(refine zW ?_ ?_;exact gA)|refine pC (ints19_self [0]) wR ?_|refine zA ?_|refine zH rfl ?_|refine zB ?_|refine sG ?_|intro _);conv=>whnf));first|exact pS|exact pL|exact pE))|(refine zW ?_ ?_;exact gA)|refine zH rfl ?_|refine zA ?_|refine zI bA ?_|refine zI rfl ?_|refine sB ?_|(refine zO ?_ ?_ ?_;omega;omega)|(refine zP ?_ ?_ ?_;omega;omega)|refine zM rfl ?_|(refine zQ ?_ ?_ ?_;omega;omega)|(refine zR ?_ ?_;omega)|(refine zI ?_ ?_;exact nA)|refine sS ?_|refine pC (ints19_self [0]) wR ?_|refine sF ?_|refine n0 ?_|refine sD ?_|intro _|refine zG ?_);conv=>whnf)|(refine zX (fun hc => ?_) (fun hc => ?_)<;>(try simp only [SY] at hc)<;>first|omega|(conv=>whnf)))
 exact PRet.pure (Wk.bool rfl)
end Go.Cb
namespace Go.Cb
open Go.Proofs
set_option maxRecDepth 100000
set_option maxHeartbeats 4000000
theorem PRow.oneInt {e : TypeId} {a : Int} {K : PV → Ent → Prop} (k : ∀ t : Tok, t.e = e → t.s = 1 → K (.ms t) (.row t ([a].map (PV.int .i64)))) : PRow 1 [.int .i64 a] e K :=
 ⟨by simp [PV.cellsOf], by simp [PV.cellular], .inr k⟩
theorem come17_c (p : Prc) (hp : PrF p) (hc : p.code.length ≤ 1000) : ACall Tryz.prog 33 [.sl 5 (p.code.map Ins.pv) none] [] (fun y Γ' => ∃ met : List Bool, y = .sl 1 (met.map PV.bool) none ∧ Γ' = [] ∧ met.length = p.code.length ∧ ∀ k : Nat, met.getD k false = true → Cm p.code k) := by
 refine ACall.of_body tt_ok Tryz.func33 rfl rfl (n := 76) rfl rfl ?_
 conv => whnf
 repeat' (first|((first|((first|(apply zY;intro hg)|apply zZ);first|exact stA|exact stB|exact stC)|(refine zW ?_ ?_;exact gA)|refine zH rfl ?_|refine zA ?_|refine zI bA ?_|refine zI rfl ?_|refine sB ?_|(refine zO ?_ ?_ ?_;omega;omega)|(refine zP ?_ ?_ ?_;omega;omega)|refine zM rfl ?_|(refine zQ ?_ ?_ ?_;omega;omega)|(refine zR ?_ ?_;omega)|(refine zI ?_ ?_;exact nA)|refine sS ?_|refine sF ?_|refine n0 ?_|refine sD ?_|intro _|refine zG ?_);conv=>whnf)|(refine zX (fun hc => ?_) (fun hc => ?_)<;>(try simp only [SY] at hc)<;>first|omega|(conv=>whnf)))
 have hcl := hp.ln
 refine PMake.row (by omega) (by omega) (by omega) (by show _ * 1 ≤ _; omega) rfl fun tb hte hts => ?_
 rw [Int.toNat_natCast]
 conv => whnf
 repeat' (first|((first|refine PRow.oneInt ?_|((first|(apply zY;intro hg)|apply zZ);first|exact stA|exact stB|exact stC)|(refine zW ?_ ?_;exact gA)|refine zH rfl ?_|refine zA ?_|refine zI bA ?_|refine zI rfl ?_|refine sB ?_|(refine zO ?_ ?_ ?_;omega;omega)|(refine zP ?_ ?_ ?_;omega;omega)|refine zM rfl ?_|(refine zQ ?_ ?_ ?_;omega;omega)|(refine zR ?_ ?_;omega)|(refine zI ?_ ?_;exact nA)|refine sS ?_|refine sF ?_|refine n0 ?_|refine sD ?_|intro _|refine zG ?_);conv=>whnf)|(refine zX (fun hc => ?_) (fun hc => ?_)<;>(try simp only [SY] at hc)<;>first|omega|(conv=>whnf)))
 rename_i ti hte2 hts2
 have hr0 : ∀ k : Nat, (List.replicate p.code.length false).getD k false = true → Cm p.code k := fun k hk => by
  rw [List.getD_eq_getElem?_getD, List.getElem?_replicate] at hk
  split at hk <;> cases hk
 refine PLoop.ghost (Ghost.row (t := tb) (wkR_false p.code.length)) ?_
 refine PLoop.over [4, 5, 6, 11, 12, 13, 14, 15, 16, 17, 18, 19, 20, 21, 22, 23, 24, 25, 26, 27, 28, 29, 30, 31, 32, 33, 34, 35, 36, 37, 38, 39, 40, 41, 42, 43, 44, 45, 46, 47, 48, 49, 50, 51, 52, 53, 54, 55, 56, 57, 58, 59, 60, 61, 62, 63, 64, 65, 66, 67, 68, 69, 70, 71, 72, 73, 74] (fun x : List Bool × List Int × Tok => [(4, .ms x.2.2)]) (fun x => [.row x.2.2 (x.2.1.map (PV.int .i64)), .row tb (x.1.map PV.bool)])
  (fun x => x.1.length = p.code.length ∧ (∀ j ∈ x.2.1, 0 ≤ j ∧ j < p.code.length ∧ Cm p.code j) ∧ (∀ k : Nat, x.1.getD k false = true → Cm p.code k) ∧ x.2.2.e = 3 ∧ x.2.2.s = 1 ∧ 3 * unmet x.1 + x.2.1.length ≤ 3 * p.code.length + 1) (fun x => 3 * unmet x.1 + x.2.1.length)
  (List.replicate p.code.length false, [0], ti) ⟨List.length_replicate .., fun j hj => by
   rw [List.mem_singleton] at hj
   subst hj
   exact ⟨by omega, by omega, .zero⟩, hr0, hte2, hts2, by simp [unmet]⟩ wA ?_
 rintro ⟨bs, xs, t⟩ ⟨hbl, hxs, hbc, hte3, hts3, hff⟩
 dsimp only at hbl hxs hbc hte3 hts3 hff ⊢
 conv => whnf
 repeat' (first|((first|((first|(apply zY;intro hg)|apply zZ);first|exact stA|exact stB|((conv=>whnf);(repeat ((first|(refine zW ?_ ?_;exact gA)|(refine PLenM.map fun _ => ?_)|(refine PSliceM.hi (i := xs.length - 1) (by assumption) (by omega) (by simp; omega) fun t2 hte4 hts4 => ?_)|refine zA ?_|refine zH rfl ?_|refine zB ?_|refine sG ?_|intro _);conv=>whnf));first|exact pS|exact pL|exact pE))|(refine zW ?_ ?_;exact gA)|refine zH rfl ?_|refine zA ?_|refine zI bA ?_|refine zI rfl ?_|refine sB ?_|(refine zO ?_ ?_ ?_;omega;omega)|(refine zP ?_ ?_ ?_;omega;omega)|refine zM rfl ?_|(refine zQ ?_ ?_ ?_;omega;omega)|(refine zR ?_ ?_;omega)|(refine zI ?_ ?_;exact nA)|refine sS ?_|(refine PLenM.map fun _ => ?_)|(refine PSliceM.hi (i := xs.length - 1) (by assumption) (by omega) (by simp; omega) fun t2 hte4 hts4 => ?_)|refine sF ?_|refine n0 ?_|refine sD ?_|intro _|refine zG ?_);conv=>whnf)|(refine zX (fun hc => ?_) (fun hc => ?_)<;>(try simp only [SY] at hc)<;>first|omega|(conv=>whnf)))
 ·have hv := hxs xs[xs.length - 1] (List.getElem_mem _)
  generalize xs[xs.length - 1] = v at *
  obtain ⟨k, rfl⟩ := Int.eq_ofNat_of_zero_le hv.1
  have hkl : k < p.code.length := by omega
  have hkb : k < bs.length := by omega
  rw [← List.map_take, ← List.dropLast_eq_take]
  have hdl : xs.dropLast.length + 1 = xs.length := by rw [List.length_dropLast]; omega
  have hdm : ∀ j ∈ xs.dropLast, 0 ≤ j ∧ j < p.code.length ∧ Cm p.code j := fun j hj => hxs j (List.dropLast_subset _ hj)
  have hnr : ∀ j ∈ nxtL p.code[k] k, 0 ≤ j ∧ j < p.code.length ∧ Cm p.code j := fun j hj => by
   have h1 := hp.nx k hkl j hj
   exact ⟨h1.1, h1.2, .step hv.2.2 (by omega) (by omega) (by rw [show insD p.code k = p.code[k] from insD_at (by omega) (by omega)]; exact hj)⟩
  have hnn := nxtL_len p.code[k] k
  unfold nxtL at hnr hnn
  have hum : bs.getD k false = false → unmet (bs.set k true) + 1 = unmet bs := unmet_set hkb
  rw [show bs.getD k false = bs[k] by rw [List.getD_eq_getElem?_getD, List.getElem?_eq_getElem hkb]; rfl] at hum
  have hte5 : t2.e = 3 := hte4.trans hte3
  have hts5 : t2.s = 1 := hts4.trans hts3
  have hcm : ∀ j : Nat, (bs.set k true).getD j false = true → Cm p.code j := fun j hj => by
   rw [List.getD_eq_getElem?_getD, List.getElem?_set] at hj
   split at hj
   ·rename_i e
    subst e
    exact hv.2.2
   ·exact hbc j (by rw [List.getD_eq_getElem?_getD]; exact hj)
  have hum2 : bs[k] = false → unmet (bs.set k true) + 1 = unmet bs := hum
  have hln2 : (bs.set k true).length = p.code.length := by rw [List.length_set]; exact hbl
  have happ : ∀ (l : List Int), (∀ j ∈ l, 0 ≤ j ∧ j < p.code.length ∧ Cm p.code j) → ∀ j ∈ xs.dropLast ++ l, 0 ≤ j ∧ j < p.code.length ∧ Cm p.code j := fun l hl j hj => by
   rcases List.mem_append.1 hj with hj | hj
   ·exact hdm j hj
   ·exact hl j hj
  conv => whnf
  repeat' (first|((first|((first|(apply zY;intro hg)|apply zZ);first|exact stA|exact stB|((conv=>whnf);(repeat ((first|(refine zW ?_ ?_;exact gA)|(refine PLenM.map fun _ => ?_)|(refine PSliceM.hi (i := xs.length - 1) (by assumption) (by omega) (by simp; omega) fun t2 hte4 hts4 => ?_)|refine zA ?_|refine zH rfl ?_|refine zB ?_|refine sG ?_|intro _);conv=>whnf));first|exact pS|exact pL|exact pE))|(refine zW ?_ ?_;exact gA)|refine zH rfl ?_|refine zA ?_|refine zI bA ?_|refine zI rfl ?_|refine sB ?_|(refine zO ?_ ?_ ?_;omega;omega)|(refine zP ?_ ?_ ?_;omega;omega)|refine zM rfl ?_|(refine zQ ?_ ?_ ?_;omega;omega)|(refine zR ?_ ?_;omega)|(refine zI ?_ ?_;exact nA)|refine sS ?_|(refine PLenM.map fun _ => ?_)|(refine PSliceM.hi (i := xs.length - 1) (by assumption) (by omega) (by simp; omega) fun t2 hte4 hts4 => ?_)|refine sF ?_|refine n0 ?_|refine sD ?_|intro _|refine zG ?_);conv=>whnf)|(refine zX (fun hc => ?_) (fun hc => ?_)<;>(try simp only [SY] at hc)<;>first|omega|(conv=>whnf)))
  ·exact loopTo (bs, xs.dropLast, t2) ⟨hbl, hdm, hbc, hte5, hts5, by dsimp only; omega⟩ (by show 3 * unmet bs + xs.dropLast.length < 3 * unmet bs + xs.length; omega) wA
  ·rename_i t3 h3 h4
   have hu := hum2 ‹((0 : Int) ≤ k ∧ (k : Int) < p.code.length) ∧ bs[k] = false›.2
   rw [if_pos (by omega), if_neg (by omega), if_pos (by omega)] at hnr
   exact loopTo (bs.set k true, xs.dropLast ++ [(k : Int) + 1] ++ [p.code[k].b], t3) ⟨hln2, by rw [List.append_assoc]; exact happ _ hnr, hcm, h3, h4, by simp only [List.length_append, List.length_singleton]; omega⟩ (by show 3 * unmet (bs.set k true) + (xs.dropLast ++ [(k : Int) + 1] ++ [p.code[k].b]).length < 3 * unmet bs + xs.length; simp only [List.length_append, List.length_singleton]; omega) wA
  ·rename_i t3 h3 h4 _
   have hu := hum2 ‹((0 : Int) ≤ k ∧ (k : Int) < p.code.length) ∧ bs[k] = false›.2
   rw [if_pos (by omega), if_neg (by omega), if_neg (by omega)] at hnr
   exact loopTo (bs.set k true, xs.dropLast ++ [(k : Int) + 1], t3) ⟨hln2, happ _ hnr, hcm, h3, h4, by simp only [List.length_append, List.length_singleton]; omega⟩ (by show 3 * unmet (bs.set k true) + (xs.dropLast ++ [(k : Int) + 1]).length < 3 * unmet bs + xs.length; simp only [List.length_append, List.length_singleton]; omega) wA
  ·rename_i t3 h3 h4
   have hu := hum2 ‹((0 : Int) ≤ k ∧ (k : Int) < p.code.length) ∧ bs[k] = false›.2
   rw [if_neg (by omega), if_pos (by omega), if_neg (by omega)] at hnr
   exact loopTo (bs.set k true, xs.dropLast ++ [p.code[k].a], t3) ⟨hln2, happ _ hnr, hcm, h3, h4, by simp only [List.length_append, List.length_singleton]; omega⟩ (by show 3 * unmet (bs.set k true) + (xs.dropLast ++ [p.code[k].a]).length < 3 * unmet bs + xs.length; simp only [List.length_append, List.length_singleton]; omega) wA
  ·have hu := hum2 ‹((0 : Int) ≤ k ∧ (k : Int) < p.code.length) ∧ bs[k] = false›.2
   exact loopTo (bs.set k true, xs.dropLast, t2) ⟨hln2, hdm, hcm, hte5, hts5, by dsimp only; omega⟩ (by show 3 * unmet (bs.set k true) + xs.dropLast.length < 3 * unmet bs + xs.length; omega) wA
 ·exact ⟨.sl 1 (bs.map PV.bool) none, [], (Shift.freezeRow (hp := ⟨List.Perm.swap _ _ _⟩) (WkF.ms' hts)).trans (Shift.wk (Wk.refl _) (Γ1 := [.tok tb, .row t (xs.map (PV.int .i64))]) (List.Perm.refl _)), bs, rfl, rfl, hbl, hbc⟩
theorem slotsApart_c (u : Unt) : ACallP Tryz.prog 12 [.agg u.cells] (.bool true) := by
 have hf := few17_c u 120 (by omega) (by omega)
 by_cases hfw : fewV u 120 = true
 ·obtain ⟨hlim, hcl⟩ := fewV_lim hfw (by omega)
  rw [hfw] at hf
  have ha := colorS_c u hlim hcl
  unfold colPV colR at ha
  by_cases hs : sndB u = true
  ·rw [if_pos hs] at ha
   dsimp only at ha
   obtain ⟨h0, hb0⟩ := snd_chk hs
   have hal := fun (n : Nat) (hn : n < u.procs.length) => after16_c u hlim h0 n hn
   have hv1 : (colU u).procs.length = u.procs.length := List.length_map ..
   have hv3 : ∀ (n : Nat) (h : n < u.procs.length) (h2 : n < (colU u).procs.length), (colU u).procs[n] = colP u.procs[n] := fun n h h2 => List.getElem_map ..
   have hup := hlim.1
   have hPu := prF h0
   generalize colU u = v at *
   refine ACall.of_body tt_ok Tryz.func12 rfl rfl (n := 126) rfl rfl ?_
   conv => whnf
   repeat' (first|((first|((first|(apply zY;intro hg)|apply zZ);first|exact stA|exact stB|((conv=>whnf);(repeat ((first|(refine zW ?_ ?_;exact gA)|(refine PLenM.map fun _ => ?_)|(refine PSliceM.hi (i := xs.length - 1) (by assumption) (by omega) (by simp; omega) fun t2 hte4 hts4 => ?_)|refine pC (awake17_c) wR ?_|refine pC (hf) wR ?_|refine pC (ha) wR ?_|refine pC (hal _ (by omega)) wR ?_|refine pC (named_c _ (by omega)) wR ?_|refine zA ?_|refine zH rfl ?_|refine zB ?_|refine sG ?_|intro _);conv=>whnf));first|exact pS|exact pL|exact pE))|(refine zW ?_ ?_;exact gA)|refine zH rfl ?_|refine zA ?_|refine zI bA ?_|refine zI rfl ?_|refine sB ?_|(refine zO ?_ ?_ ?_;omega;omega)|(refine zP ?_ ?_ ?_;omega;omega)|refine zM rfl ?_|(refine zQ ?_ ?_ ?_;omega;omega)|(refine zR ?_ ?_;omega)|(refine zI ?_ ?_;exact nA)|refine sS ?_|(refine PLenM.map fun _ => ?_)|(refine PSliceM.hi (i := xs.length - 1) (by assumption) (by omega) (by simp; omega) fun t2 hte4 hts4 => ?_)|refine pC (awake17_c) wR ?_|refine pC (hf) wR ?_|refine pC (ha) wR ?_|refine pC (hal _ (by omega)) wR ?_|refine pC (named_c _ (by omega)) wR ?_|refine sF ?_|refine n0 ?_|refine sD ?_|intro _|refine zG ?_);conv=>whnf)|(refine zX (fun hc => ?_) (fun hc => ?_)<;>(try simp only [SY] at hc)<;>first|omega|(conv=>whnf)))
   refine PLoop.keep [2, 6, 7, 8, 9, 10, 11, 12, 13, 14, 35, 36, 37, 38, 39, 40, 41, 42, 43, 44, 45, 46, 47, 48, 49, 50, 51, 52, 53, 54, 55, 56, 57, 58, 59, 60, 61, 62, 63, 64, 65, 66, 67, 68, 69, 70, 71, 72, 73, 74, 75, 76, 77, 78, 79, 80, 81, 82, 83, 84, 85, 86, 87, 88, 89, 90, 91, 92, 93, 94, 95, 96, 97, 98, 99, 100, 101, 102, 103, 104, 105, 106, 107, 108, 109, 110, 111, 112, 113, 114, 115, 116, 117, 118, 119, 120, 121, 122, 123, 124] (fun n : Nat => [(6, .int .i64 n)]) (fun n => n ≤ u.procs.length) (fun n => u.procs.length - n) 0 (Nat.zero_le _) wA ?_
   rintro n hn
   rcases Nat.lt_or_ge n u.procs.length with hnl | hnl
   ·have hvn : n < v.procs.length := by omega
    have e := hv3 n hnl hvn
    have hpu := hPu u.procs[n] (List.getElem_mem _)
    have hbg := hb0 u.procs[n] (List.getElem_mem _)
    have hxv := (hlim.2 (u.procs[n]) (List.getElem_mem _)).2
    have hcv := (hlim.2 (u.procs[n]) (List.getElem_mem _)).1
    have hfl : (aftP u.procs[n]).length = u.procs[n].code.length := aftF_len ..
    have hal2 : (v.procs[n]'hvn).alive.length = u.procs[n].code.length := by
     simp only [e]
     show ((u.procs[n].code.zip (aftP u.procs[n])).map _).length = _
     rw [List.length_map, List.length_zip, aftF_len]
     omega
    have hlaw : ∀ (k : Nat) (hk : k < u.procs[n].code.length), Cm u.procs[n].code k → ((v.procs[n]'hvn).alive[k]'(by omega)).length = (((aftP u.procs[n])[k]'(by omega)).filter fun r => decide (r ≠ givesI u.procs[n].code[k])).length := fun k hk hcm => by
     rw [← apart_len hpu hbg hk hcm]
     simp only [e]
     rw [alive_at hk]
    conv => whnf
    repeat' (first|((first|((first|(apply zY;intro hg)|apply zZ);first|exact stA|exact stB|((conv=>whnf);(repeat ((first|(refine zW ?_ ?_;exact gA)|(refine PLenM.map fun _ => ?_)|(refine PSliceM.hi (i := xs.length - 1) (by assumption) (by omega) (by simp; omega) fun t2 hte4 hts4 => ?_)|refine pC (awake17_c) wR ?_|refine pC (hf) wR ?_|refine pC (ha) wR ?_|refine pC (hal _ (by omega)) wR ?_|refine pC (named_c _ (by omega)) wR ?_|refine zA ?_|refine zH rfl ?_|refine zB ?_|refine sG ?_|intro _);conv=>whnf));first|exact pS|exact pL|exact pE))|(refine zW ?_ ?_;exact gA)|refine zH rfl ?_|refine zA ?_|refine zI bA ?_|refine zI rfl ?_|refine sB ?_|(refine zO ?_ ?_ ?_;omega;omega)|(refine zP ?_ ?_ ?_;omega;omega)|refine zM rfl ?_|(refine zQ ?_ ?_ ?_;omega;omega)|(refine zR ?_ ?_;omega)|(refine zI ?_ ?_;exact nA)|refine sS ?_|(refine PLenM.map fun _ => ?_)|(refine PSliceM.hi (i := xs.length - 1) (by assumption) (by omega) (by simp; omega) fun t2 hte4 hts4 => ?_)|refine pC (awake17_c) wR ?_|refine pC (hf) wR ?_|refine pC (ha) wR ?_|refine pC (hal _ (by omega)) wR ?_|refine pC (named_c _ (by omega)) wR ?_|refine sF ?_|refine n0 ?_|refine sD ?_|intro _|refine zG ?_);conv=>whnf)|(refine zX (fun hc => ?_) (fun hc => ?_)<;>(try simp only [SY] at hc)<;>first|omega|(conv=>whnf)))
    refine PCall.go (come17_c _ hpu (by omega)) (WkT.refl _) ?_
    rintro _ _ ⟨met, rfl, rfl, hml, hmc⟩
    conv => whnf
    repeat' (first|((first|((first|(apply zY;intro hg)|apply zZ);first|exact stA|exact stB|((conv=>whnf);(repeat ((first|(refine zW ?_ ?_;exact gA)|(refine PLenM.map fun _ => ?_)|(refine PSliceM.hi (i := xs.length - 1) (by assumption) (by omega) (by simp; omega) fun t2 hte4 hts4 => ?_)|refine pC (awake17_c) wR ?_|refine pC (hf) wR ?_|refine pC (ha) wR ?_|refine pC (hal _ (by omega)) wR ?_|refine pC (named_c _ (by omega)) wR ?_|refine zA ?_|refine zH rfl ?_|refine zB ?_|refine sG ?_|intro _);conv=>whnf));first|exact pS|exact pL|exact pE))|(refine zW ?_ ?_;exact gA)|refine zH rfl ?_|refine zA ?_|refine zI bA ?_|refine zI rfl ?_|refine sB ?_|(refine zO ?_ ?_ ?_;omega;omega)|(refine zP ?_ ?_ ?_;omega;omega)|refine zM rfl ?_|(refine zQ ?_ ?_ ?_;omega;omega)|(refine zR ?_ ?_;omega)|(refine zI ?_ ?_;exact nA)|refine sS ?_|(refine PLenM.map fun _ => ?_)|(refine PSliceM.hi (i := xs.length - 1) (by assumption) (by omega) (by simp; omega) fun t2 hte4 hts4 => ?_)|refine pC (awake17_c) wR ?_|refine pC (hf) wR ?_|refine pC (ha) wR ?_|refine pC (hal _ (by omega)) wR ?_|refine pC (named_c _ (by omega)) wR ?_|refine sF ?_|refine n0 ?_|refine sD ?_|intro _|refine zG ?_);conv=>whnf)|(refine zX (fun hc => ?_) (fun hc => ?_)<;>(try simp only [SY] at hc)<;>first|omega|(conv=>whnf)))
    refine PLoop.keep [2, 10, 11, 12, 13, 14, 69, 70, 71, 72, 73, 74, 75, 76, 77, 78, 79, 80, 81, 82, 83, 84, 85, 86, 87, 88, 89, 90, 91, 92, 93, 94, 95, 96, 97, 98, 99, 100, 101, 102, 103, 104, 105, 106, 107, 108, 109, 110, 111, 112, 113, 114, 115, 116, 117, 118, 119, 120, 121, 122, 123, 124] (fun k : Nat => [(10, .int .i64 k)]) (fun k => k ≤ u.procs[n].code.length) (fun k => u.procs[n].code.length - k) 0 (Nat.zero_le _) wA ?_
    rintro k hk
    rcases Nat.lt_or_ge k u.procs[n].code.length with hkl | hkl
    ·have hxk := hxv u.procs[n].code[k] (List.getElem_mem _)
     have hka : k < (aftP u.procs[n]).length := by omega
     have hkm : k < met.length := by omega
     have hfk : ((aftP u.procs[n])[k]'hka).length ≤ 20000 := by
      rw [aft_at _ hkl]
      have := liveF_len u.procs[n].code u.procs[n].regs.toNat (nxtL u.procs[n].code[k] k)
      have := hpu.rg
      omega
     have hmk := hmc k
     rw [show met.getD k false = met[k] by rw [List.getD_eq_getElem?_getD, List.getElem?_eq_getElem hkm]; rfl] at hmk
     conv => whnf
     repeat' (first|((first|((first|(apply zY;intro hg)|apply zZ);first|exact stA|exact stB|((conv=>whnf);(repeat ((first|(refine zW ?_ ?_;exact gA)|(refine PLenM.map fun _ => ?_)|(refine PSliceM.hi (i := xs.length - 1) (by assumption) (by omega) (by simp; omega) fun t2 hte4 hts4 => ?_)|refine pC (awake17_c) wR ?_|refine pC (hf) wR ?_|refine pC (ha) wR ?_|refine pC (hal _ (by omega)) wR ?_|refine pC (named_c _ (by omega)) wR ?_|refine zA ?_|refine zH rfl ?_|refine zB ?_|refine sG ?_|intro _);conv=>whnf));first|exact pS|exact pL|exact pE))|(refine zW ?_ ?_;exact gA)|refine zH rfl ?_|refine zA ?_|refine zI bA ?_|refine zI rfl ?_|refine sB ?_|(refine zO ?_ ?_ ?_;omega;omega)|(refine zP ?_ ?_ ?_;omega;omega)|refine zM rfl ?_|(refine zQ ?_ ?_ ?_;omega;omega)|(refine zR ?_ ?_;omega)|(refine zI ?_ ?_;exact nA)|refine sS ?_|(refine PLenM.map fun _ => ?_)|(refine PSliceM.hi (i := xs.length - 1) (by assumption) (by omega) (by simp; omega) fun t2 hte4 hts4 => ?_)|refine pC (awake17_c) wR ?_|refine pC (hf) wR ?_|refine pC (ha) wR ?_|refine pC (hal _ (by omega)) wR ?_|refine pC (named_c _ (by omega)) wR ?_|refine sF ?_|refine n0 ?_|refine sD ?_|intro _|refine zG ?_);conv=>whnf)|(refine zX (fun hc => ?_) (fun hc => ?_)<;>(try simp only [SY] at hc)<;>first|omega|(conv=>whnf)))
     ·exact loopTo (k + 1) (by show k + 1 ≤ _; omega) (by show u.procs[n].code.length - (k + 1) < u.procs[n].code.length - k; omega) wA
     ·have hla := hlaw k hkl (hmk ‹met[k] = true›)
      refine PLoop.keep [13, 14, 93, 94, 95, 96, 97, 98, 99, 100, 101, 102, 103, 104, 105, 106, 107, 108, 109, 110, 111, 112] (fun x : Nat × Nat => [(13, .int .i64 x.2), (14, .int .i64 x.1)]) (fun x => x.1 ≤ ((aftP u.procs[n])[k]'hka).length ∧ x.2 ≤ x.1 ∧ x.2 + ((((aftP u.procs[n])[k]'hka).drop x.1).filter (fun r => decide (r ≠ givesI u.procs[n].code[k]))).length = ((v.procs[n]'hvn).alive[k]'(by omega)).length) (fun x => ((aftP u.procs[n])[k]'hka).length - x.1) (0, 0) ⟨Nat.zero_le _, Nat.zero_le _, by rw [hla]; exact Nat.zero_add _⟩ wA ?_
      rintro ⟨i, w⟩ ⟨hi, hwi, hw⟩
      dsimp only at hi hwi hw ⊢
      rcases Nat.lt_or_ge i ((aftP u.procs[n])[k]'hka).length with hil | hil
      ·rw [drop_at hil, List.filter_cons] at hw
       conv => whnf
       repeat' (first|((first|((first|(apply zY;intro hg)|apply zZ);first|exact stA|exact stB|((conv=>whnf);(repeat ((first|(refine zW ?_ ?_;exact gA)|(refine PLenM.map fun _ => ?_)|(refine PSliceM.hi (i := xs.length - 1) (by assumption) (by omega) (by simp; omega) fun t2 hte4 hts4 => ?_)|refine pC (awake17_c) wR ?_|refine pC (hf) wR ?_|refine pC (ha) wR ?_|refine pC (hal _ (by omega)) wR ?_|refine pC (named_c _ (by omega)) wR ?_|refine zA ?_|refine zH rfl ?_|refine zB ?_|refine sG ?_|intro _);conv=>whnf));first|exact pS|exact pL|exact pE))|(refine zW ?_ ?_;exact gA)|refine zH rfl ?_|refine zA ?_|refine zI bA ?_|refine zI rfl ?_|refine sB ?_|(refine zO ?_ ?_ ?_;omega;omega)|(refine zP ?_ ?_ ?_;omega;omega)|refine zM rfl ?_|(refine zQ ?_ ?_ ?_;omega;omega)|(refine zR ?_ ?_;omega)|(refine zI ?_ ?_;exact nA)|refine sS ?_|(refine PLenM.map fun _ => ?_)|(refine PSliceM.hi (i := xs.length - 1) (by assumption) (by omega) (by simp; omega) fun t2 hte4 hts4 => ?_)|refine pC (awake17_c) wR ?_|refine pC (hf) wR ?_|refine pC (ha) wR ?_|refine pC (hal _ (by omega)) wR ?_|refine pC (named_c _ (by omega)) wR ?_|refine sF ?_|refine n0 ?_|refine sD ?_|intro _|refine zG ?_);conv=>whnf)|(refine zX (fun hc => ?_) (fun hc => ?_)<;>(try simp only [SY] at hc)<;>first|omega|(conv=>whnf)))
       ·rw [if_pos (decide_eq_true hc), List.length_cons] at hw
        exact loopTo (i + 1, w + 1) ⟨by show i + 1 ≤ _; omega, by show w + 1 ≤ i + 1; omega, by dsimp only; omega⟩ (by show ((aftP u.procs[n])[k]'hka).length - (i + 1) < ((aftP u.procs[n])[k]'hka).length - i; omega) wA
       ·rw [if_neg (by rw [decide_eq_true_eq]; exact fun h => h hc)] at hw
        exact loopTo (i + 1, w) ⟨by show i + 1 ≤ _; omega, by show w ≤ i + 1; omega, hw⟩ (by show ((aftP u.procs[n])[k]'hka).length - (i + 1) < ((aftP u.procs[n])[k]'hka).length - i; omega) wA
      ·rw [List.drop_of_length_le hil, List.filter_nil, List.length_nil] at hw
       conv => whnf
       repeat' (first|((first|((first|(apply zY;intro hg)|apply zZ);first|exact stA|exact stB|((conv=>whnf);(repeat ((first|(refine zW ?_ ?_;exact gA)|(refine PLenM.map fun _ => ?_)|(refine PSliceM.hi (i := xs.length - 1) (by assumption) (by omega) (by simp; omega) fun t2 hte4 hts4 => ?_)|refine pC (awake17_c) wR ?_|refine pC (hf) wR ?_|refine pC (ha) wR ?_|refine pC (hal _ (by omega)) wR ?_|refine pC (named_c _ (by omega)) wR ?_|refine zA ?_|refine zH rfl ?_|refine zB ?_|refine sG ?_|intro _);conv=>whnf));first|exact pS|exact pL|exact pE))|(refine zW ?_ ?_;exact gA)|refine zH rfl ?_|refine zA ?_|refine zI bA ?_|refine zI rfl ?_|refine sB ?_|(refine zO ?_ ?_ ?_;omega;omega)|(refine zP ?_ ?_ ?_;omega;omega)|refine zM rfl ?_|(refine zQ ?_ ?_ ?_;omega;omega)|(refine zR ?_ ?_;omega)|(refine zI ?_ ?_;exact nA)|refine sS ?_|(refine PLenM.map fun _ => ?_)|(refine PSliceM.hi (i := xs.length - 1) (by assumption) (by omega) (by simp; omega) fun t2 hte4 hts4 => ?_)|refine pC (awake17_c) wR ?_|refine pC (hf) wR ?_|refine pC (ha) wR ?_|refine pC (hal _ (by omega)) wR ?_|refine pC (named_c _ (by omega)) wR ?_|refine sF ?_|refine n0 ?_|refine sD ?_|intro _|refine zG ?_);conv=>whnf)|(refine zX (fun hc => ?_) (fun hc => ?_)<;>(try simp only [SY] at hc)<;>first|omega|(conv=>whnf)))
       exact loopTo (k + 1) (by show k + 1 ≤ _; omega) (by show u.procs[n].code.length - (k + 1) < u.procs[n].code.length - k; omega) wA
    ·conv => whnf
     repeat' (first|((first|((first|(apply zY;intro hg)|apply zZ);first|exact stA|exact stB|((conv=>whnf);(repeat ((first|(refine zW ?_ ?_;exact gA)|(refine PLenM.map fun _ => ?_)|(refine PSliceM.hi (i := xs.length - 1) (by assumption) (by omega) (by simp; omega) fun t2 hte4 hts4 => ?_)|refine pC (awake17_c) wR ?_|refine pC (hf) wR ?_|refine pC (ha) wR ?_|refine pC (hal _ (by omega)) wR ?_|refine pC (named_c _ (by omega)) wR ?_|refine zA ?_|refine zH rfl ?_|refine zB ?_|refine sG ?_|intro _);conv=>whnf));first|exact pS|exact pL|exact pE))|(refine zW ?_ ?_;exact gA)|refine zH rfl ?_|refine zA ?_|refine zI bA ?_|refine zI rfl ?_|refine sB ?_|(refine zO ?_ ?_ ?_;omega;omega)|(refine zP ?_ ?_ ?_;omega;omega)|refine zM rfl ?_|(refine zQ ?_ ?_ ?_;omega;omega)|(refine zR ?_ ?_;omega)|(refine zI ?_ ?_;exact nA)|refine sS ?_|(refine PLenM.map fun _ => ?_)|(refine PSliceM.hi (i := xs.length - 1) (by assumption) (by omega) (by simp; omega) fun t2 hte4 hts4 => ?_)|refine pC (awake17_c) wR ?_|refine pC (hf) wR ?_|refine pC (ha) wR ?_|refine pC (hal _ (by omega)) wR ?_|refine pC (named_c _ (by omega)) wR ?_|refine sF ?_|refine n0 ?_|refine sD ?_|intro _|refine zG ?_);conv=>whnf)|(refine zX (fun hc => ?_) (fun hc => ?_)<;>(try simp only [SY] at hc)<;>first|omega|(conv=>whnf)))
     exact loopTo (n + 1) (by show n + 1 ≤ _; omega) (by show u.procs.length - (n + 1) < u.procs.length - n; omega) wA
   ·conv => whnf
    repeat' (first|((first|((first|(apply zY;intro hg)|apply zZ);first|exact stA|exact stB|((conv=>whnf);(repeat ((first|(refine zW ?_ ?_;exact gA)|(refine PLenM.map fun _ => ?_)|(refine PSliceM.hi (i := xs.length - 1) (by assumption) (by omega) (by simp; omega) fun t2 hte4 hts4 => ?_)|refine pC (awake17_c) wR ?_|refine pC (hf) wR ?_|refine pC (ha) wR ?_|refine pC (hal _ (by omega)) wR ?_|refine pC (named_c _ (by omega)) wR ?_|refine zA ?_|refine zH rfl ?_|refine zB ?_|refine sG ?_|intro _);conv=>whnf));first|exact pS|exact pL|exact pE))|(refine zW ?_ ?_;exact gA)|refine zH rfl ?_|refine zA ?_|refine zI bA ?_|refine zI rfl ?_|refine sB ?_|(refine zO ?_ ?_ ?_;omega;omega)|(refine zP ?_ ?_ ?_;omega;omega)|refine zM rfl ?_|(refine zQ ?_ ?_ ?_;omega;omega)|(refine zR ?_ ?_;omega)|(refine zI ?_ ?_;exact nA)|refine sS ?_|(refine PLenM.map fun _ => ?_)|(refine PSliceM.hi (i := xs.length - 1) (by assumption) (by omega) (by simp; omega) fun t2 hte4 hts4 => ?_)|refine pC (awake17_c) wR ?_|refine pC (hf) wR ?_|refine pC (ha) wR ?_|refine pC (hal _ (by omega)) wR ?_|refine pC (named_c _ (by omega)) wR ?_|refine sF ?_|refine n0 ?_|refine sD ?_|intro _|refine zG ?_);conv=>whnf)|(refine zX (fun hc => ?_) (fun hc => ?_)<;>(try simp only [SY] at hc)<;>first|omega|(conv=>whnf)))
    exact PRet.pure (Wk.refl _)
  ·rw [if_neg hs] at ha
   dsimp only at ha
   refine ACall.of_body tt_ok Tryz.func12 rfl rfl (n := 126) rfl rfl ?_
   conv => whnf
   repeat' (first|((first|((first|(apply zY;intro hg)|apply zZ);first|exact stA|exact stB|((conv=>whnf);(repeat ((first|(refine zW ?_ ?_;exact gA)|(refine PLenM.map fun _ => ?_)|(refine PSliceM.hi (i := xs.length - 1) (by assumption) (by omega) (by simp; omega) fun t2 hte4 hts4 => ?_)|refine pC (awake17_c) wR ?_|refine pC (hf) wR ?_|refine pC (ha) wR ?_|refine zA ?_|refine zH rfl ?_|refine zB ?_|refine sG ?_|intro _);conv=>whnf));first|exact pS|exact pL|exact pE))|(refine zW ?_ ?_;exact gA)|refine zH rfl ?_|refine zA ?_|refine zI bA ?_|refine zI rfl ?_|refine sB ?_|(refine zO ?_ ?_ ?_;omega;omega)|(refine zP ?_ ?_ ?_;omega;omega)|refine zM rfl ?_|(refine zQ ?_ ?_ ?_;omega;omega)|(refine zR ?_ ?_;omega)|(refine zI ?_ ?_;exact nA)|refine sS ?_|(refine PLenM.map fun _ => ?_)|(refine PSliceM.hi (i := xs.length - 1) (by assumption) (by omega) (by simp; omega) fun t2 hte4 hts4 => ?_)|refine pC (awake17_c) wR ?_|refine pC (hf) wR ?_|refine pC (ha) wR ?_|refine sF ?_|refine n0 ?_|refine sD ?_|intro _|refine zG ?_);conv=>whnf)|(refine zX (fun hc => ?_) (fun hc => ?_)<;>(try simp only [SY] at hc)<;>first|omega|(conv=>whnf)))
   exact PRet.pure (Wk.refl _)
 ·rw [Bool.not_eq_true] at hfw
  rw [hfw] at hf
  refine ACall.of_body tt_ok Tryz.func12 rfl rfl (n := 126) rfl rfl ?_
  conv => whnf
  repeat' (first|((first|((first|(apply zY;intro hg)|apply zZ);first|exact stA|exact stB|((conv=>whnf);(repeat ((first|(refine zW ?_ ?_;exact gA)|(refine PLenM.map fun _ => ?_)|(refine PSliceM.hi (i := xs.length - 1) (by assumption) (by omega) (by simp; omega) fun t2 hte4 hts4 => ?_)|refine pC (awake17_c) wR ?_|refine pC (hf) wR ?_|refine zA ?_|refine zH rfl ?_|refine zB ?_|refine sG ?_|intro _);conv=>whnf));first|exact pS|exact pL|exact pE))|(refine zW ?_ ?_;exact gA)|refine zH rfl ?_|refine zA ?_|refine zI bA ?_|refine zI rfl ?_|refine sB ?_|(refine zO ?_ ?_ ?_;omega;omega)|(refine zP ?_ ?_ ?_;omega;omega)|refine zM rfl ?_|(refine zQ ?_ ?_ ?_;omega;omega)|(refine zR ?_ ?_;omega)|(refine zI ?_ ?_;exact nA)|refine sS ?_|(refine PLenM.map fun _ => ?_)|(refine PSliceM.hi (i := xs.length - 1) (by assumption) (by omega) (by simp; omega) fun t2 hte4 hts4 => ?_)|refine pC (awake17_c) wR ?_|refine pC (hf) wR ?_|refine sF ?_|refine n0 ?_|refine sD ?_|intro _|refine zG ?_);conv=>whnf)|(refine zX (fun hc => ?_) (fun hc => ?_)<;>(try simp only [SY] at hc)<;>first|omega|(conv=>whnf)))
  exact PRet.pure (Wk.refl _)
end Go.Cb
namespace Go.Cb
open Go.RowKit (Below)
open Go.ChangeShapes
def Fz.of (w : World) : Fz := fun b o => w.cell? ⟨b, o, none⟩
theorem Sim.start (w : World) : Sim w (Fz.of w) [] w := ⟨Below.refl _ w, fun _ _ _ h => h, by simp, .nil⟩
theorem choose_list {α : Type} {p : Nat → α → Prop} : ∀ {n : Nat}, (∀ i, i < n → ∃ a, p i a) → ∃ l : List α, l.length = n ∧ ∀ i a, l[i]? = some a → p i a
 | 0, _ => ⟨[], rfl, by simp⟩
 | n + 1, h => by
  obtain ⟨l, h1, h2⟩ := choose_list (n := n) fun i hi => h i (by omega)
  obtain ⟨a, ha⟩ := h n (by omega)
  refine ⟨l ++ [a], by simp [h1], fun i b hb => ?_⟩
  by_cases hi : i < l.length
  ·rw [List.getElem?_append_left hi] at hb; exact h2 i b hb
  ·rw [List.getElem?_append_right (by omega)] at hb
   have h0 : i - l.length = 0 := by
    rcases Nat.eq_zero_or_pos (i - l.length) with h | h
    ·exact h
    ·rw [List.getElem?_eq_none (by simp; omega)] at hb; cases hb
   rw [h0] at hb
   simp at hb
   obtain rfl : i = n := by omega
   rwa [← hb]
section
variable {H : Type} {enc : TypeId × Value → H} {P : Program} {w : World} {UB : DataW H → Nat} {UBs : List (DataW H) → Nat}
structure Bulk (UB : DataW H → Nat) (UBs : List (DataW H) → Nat) : Prop where
 nil : UBs [] = 0
 cons : ∀ x l, UBs (x :: l) = UB x + UBs l
 agg : ∀ l, 1 + UBs l ≤ UB (.agg l)
 slice : ∀ l m, 1 + UBs l ≤ UB (.slice l m)
 str : ∀ s, s.length + 1 ≤ UB (.lit (.string s))
 pos : ∀ d, 1 ≤ UB d
def Rd {α : Type} (enc : TypeId × Value → H) (P : Program) (w : World) (UB : DataW H → Nat) (n : Nat) (t : TypeId) (cells : α → List PV) (bk : α → Nat) : Prop :=
 ∀ cs x, DataW.trod enc P w 0 (fun _ => true) true n t cs = some x → ∃ a : α, RepL (Fz.of w) (cells a) cs ∧ bk a ≤ UB x.1
theorem rd_int (hB : Bulk UB UBs) {t : TypeId} {k : IntKind} (ht : P.underlying t = some (.int k)) (n : Nat) : Rd enc P w UB n t (fun n : Int => [.int k n]) fun _ => 1 := by
 intro cs x h
 obtain ⟨m, rfl, rfl, _⟩ := DataW.trod_int ht h
 exact ⟨m, by simp only [RepL, Rep, and_true]; exact rfl, hB.pos _⟩
theorem rd_bool (hB : Bulk UB UBs) {t : TypeId} (ht : P.underlying t = some .bool) (n : Nat) : Rd enc P w UB n t (fun n : Bool => [.bool n]) fun _ => 1 := by
 intro cs x h
 obtain ⟨m, rfl, rfl⟩ := DataW.trod_bool ht h
 exact ⟨m, by simp only [RepL, Rep, and_true]; exact rfl, hB.pos _⟩
theorem rd_str (hB : Bulk UB UBs) {t : TypeId} (ht : P.underlying t = some .string) (n : Nat) : Rd enc P w UB n t (fun s : List UInt8 => [.str s]) fun s => s.length := by
 intro cs x h
 obtain ⟨s, rfl, rfl, hs⟩ := DataW.trod_string ht h
 refine ⟨s.data.toList, ?_, by have := hB.str s.data.toList; show s.data.toList.length ≤ UB (.lit (.string s.data.toList)); omega⟩
 have : s.data.toList.length ≤ 9223372036854775807 := by
  have h1 : s.data.toList.length = s.size := Array.length_toList
  have h2 : maxLen ≤ 9223372036854775807 := by simp only [maxLen]; omega
  omega
 exact RepL_cons.2 ⟨⟨rfl, by unfold Rep; exact ⟨rfl, this⟩⟩, RepL_nil _⟩
theorem rep_row {α : Type} {pv : α → PV} {cells : α → List PV} [c : CellsOf pv cells] {s b o : Nat} (hs : ∀ a, (cells a).length = s) : ∀ (l : List α) (i : Nat),
  (∀ j a, l[j]? = some a → ∃ cs, w.cells? 0 ((⟨b, o, none⟩ : Addr).add ((i + j) * s)) s = some cs ∧ RepL (Fz.of w) (cells a) cs) → RepRow (Fz.of w) s b (o + i * s) (l.map pv)
 | [], _, _ => by simp [RepRow]
 | a :: l, i, h => by
  rw [List.map_cons, RepRow_cons]
  obtain ⟨cs, h1, h2⟩ := h 0 a rfl
  obtain ⟨_, h3, h4⟩ := World.cells?_some h1
  refine ⟨⟨by rw [c.eq]; exact hs a, ?_⟩, ?_⟩
  ·rw [c.eq, RepCells_iff]
   refine ⟨cs, h2, fun j u hu => ?_⟩
   have hj : j < cs.length := by
    rcases Nat.lt_or_ge j cs.length with h | h
    ·exact h
    ·rw [List.getElem?_eq_none h] at hu; cases hu
   have := h4 j (by omega)
   rw [hu, Addr.add_lit, Addr.add_lit] at this
   simpa [Fz.of] using this
  ·have := rep_row (pv := pv) hs l (i + 1) fun j a ha => by
    have := h (j + 1) a (by simpa using ha)
    rwa [show i + (j + 1) = i + 1 + j by omega] at this
   rwa [show o + (i + 1) * s = o + i * s + s by rw [Nat.succ_mul]; omega] at this
def sumBk {α : Type} (bk : α → Nat) : List α → Nat
 | [] => 0
 | a :: l => bk a + sumBk bk l
theorem sumBk_le (hB : Bulk UB UBs) {α : Type} {bk : α → Nat} : ∀ (l : List α) (ds : List (DataW H)), l.length ≤ ds.length → (∀ (i : Nat) (a : α) (d : DataW H), l[i]? = some a → ds[i]? = some d → bk a ≤ UB d) → sumBk bk l ≤ UBs ds
 | [], _, _, _ => by simp [sumBk]
 | a :: l, [], h, _ => by simp at h
 | a :: l, d :: ds, h, k => by
  rw [sumBk, hB.cons]
  have h1 := k 0 a d rfl rfl
  have h2 := sumBk_le hB l ds (by simpa using h) fun i a d ha hd => k (i + 1) a d (by simpa using ha) (by simpa using hd)
  omega
theorem rd_slice (hB : Bulk UB UBs) {n : Nat} {t e : TypeId} (ht : P.underlying t = some (.slice e)) {s : Nat} (hs : P.cellsOf e = s) (hp : 0 < s) {α : Type} {pv : α → PV} {cells : α → List PV} [c : CellsOf pv cells] {bk : α → Nat}
  (hc : ∀ a, (cells a).length = s) (he : ∀ m, m < n → Rd enc P w UB m e cells bk) : Rd enc P w UB n t (fun l : List α => [.sl s (l.map pv) none]) fun l => 1 + sumBk bk l := by
 intro cs x h
 rcases DataW.trod_slice ht h with ⟨rfl, rfl⟩ | ⟨a, len, cap, elems, rest, m, rfl, rfl, rfl, _, hlc, hcm, hel, hx, hr, _⟩
 ·refine ⟨[], ?_, by have := hB.pos (DataW.nil : DataW H); simpa [sumBk] using this⟩
  exact RepL_cons.2 ⟨⟨rfl, by unfold Rep; exact ⟨by simp, .inl ⟨rfl, rfl⟩⟩⟩, RepL_nil _⟩
 ·have hx' : ∀ i, i < len → ∃ a' : α, ∃ cs d, elems[i]? = some d ∧ w.cells? 0 (a.add (i * s)) s = some cs ∧ RepL (Fz.of w) (cells a') cs ∧ bk a' ≤ UB d.1 := by
   intro i hi
   have h1 := hx i hi
   have h2 : elems[i]? = some elems[i] := List.getElem?_eq_getElem (by omega)
   rw [h2, hs] at h1
   obtain ⟨cs, h3, h4⟩ := Option.bind_eq_some_iff.1 h1
   obtain ⟨a', h5, h6⟩ := he m (by omega) cs _ h4
   exact ⟨a', cs, _, h2, h3, h5, h6⟩
  obtain ⟨l, hl, hl2⟩ := choose_list hx'
  have hcount : 1 + sumBk bk l ≤ UB (.slice (elems.map (·.1)) (rest.map (·.1))) := by
   have := sumBk_le hB (bk := bk) l (elems.map (·.1)) (by simp; omega) (by
    intro i a' d ha hd
    obtain ⟨_, d', h2, _, _, h5⟩ := hl2 i a' ha
    rw [List.getElem?_map, h2] at hd
    simp at hd
    rw [← hd]; exact h5)
   have := hB.slice (elems.map (·.1)) (rest.map (·.1))
   omega
  refine ⟨l, ?_, hcount⟩
  refine RepL_cons.2 ⟨⟨rfl, ?_⟩, RepL_nil _⟩
  unfold Rep
  refine ⟨fun t ht => (by cases ht), ?_⟩
  by_cases h0 : cap = 0
  ·subst h0
   obtain rfl : len = 0 := by omega
   have : l = [] := List.eq_nil_of_length_eq_zero hl
   subst this
   exact .inr (.inr ⟨rfl, a, rfl⟩)
  ·
   have hsp : a.spot = none := by
    have h1 : ∃ cs, w.cells? 0 a s = some cs := by
     by_cases h2 : 0 < len
     ·obtain ⟨_, cs, _, _, h3, _⟩ := hx' 0 h2
      exact ⟨cs, by simpa [Addr.add] using h3⟩
     ·obtain ⟨h3, h4⟩ := hr rfl
      have h5 := h4 0 (by omega)
      have h6 : rest[0]? = some (rest[0]'(by omega)) := List.getElem?_eq_getElem (by omega)
      rw [h6, hs] at h5
      obtain ⟨cs, h7, _⟩ := Option.bind_eq_some_iff.1 h5
      have : len = 0 := by omega
      subst this
      exact ⟨cs, by simpa [Addr.add] using h7⟩
    obtain ⟨cs, h1⟩ := h1
    obtain ⟨_, h3, h4⟩ := World.cells?_some h1
    have h5 := h4 0 hp
    have h6 : cs[0]? = some (cs[0]'(by omega)) := List.getElem?_eq_getElem (by omega)
    rw [h6] at h5
    simp only [Addr.add, if_true, World.cell?] at h5
    split at h5
    ·split at h5
     ·cases h5
     ·rename_i hn; simpa using hn
    ·cases h5
   obtain ⟨b, o, sp⟩ := a
   simp only at hsp
   subst hsp
   refine .inr (.inl ⟨b, o, cap, by simp [hl], by simp; omega, hcm, by simp, ?_⟩)
   have := rep_row (pv := pv) (w := w) (b := b) (o := o) hc l 0 fun j a' ha => by
    obtain ⟨cs, _, _, h3, h4, _⟩ := hl2 j a' ha
    exact ⟨cs, by simpa using h3, h4⟩
   simpa using this
end
section
variable {H : Type} {enc : TypeId × Value → H} {P : Program} {w : World} {UB : DataW H → Nat} {UBs : List (DataW H) → Nat}
theorem repL_cat {F : Fz} {ps bs : List PV} {cs : List Value} {o s : Nat} (h1 : RepL F ps ((cs.drop o).take s)) (h2 : RepL F bs (cs.drop (o + s))) : RepL F (ps ++ bs) (cs.drop o) := by
 have := RepL_append h1 h2
 rwa [← List.drop_drop, List.take_append_drop] at this
theorem rd_field {α : Type} {n o s : Nat} {t : TypeId} {cells : α → List PV} {bk : α → Nat} (hR : Rd enc P w UB n t cells bk) {fs : Array Field} {cs : List Value} {xs : List (DataW H × List MemPlace)} (hlen : xs.length = fs.size)
  (hf : ∀ (i : Nat) (f : Field), fs[i]? = some f → DataW.trod enc P w 0 (fun _ => true) true n f.type ((cs.drop f.offset).take (P.cellsOf f.type)) = xs[i]?) (i : Nat) (h : (fs.toList.map fun f => (f.type, f.offset))[i]? = some (t, o)) (hs : P.cellsOf t = s) :
  ∃ a y, xs[i]? = some y ∧ RepL (Fz.of w) (cells a) ((cs.drop o).take s) ∧ bk a ≤ UB y.1 := by
 rw [List.getElem?_map] at h
 obtain ⟨f, hfi, hft⟩ := Option.map_eq_some_iff.1 h
 rw [Array.getElem?_toList] at hfi
 simp only [Prod.mk.injEq] at hft
 obtain ⟨rfl, rfl⟩ := hft
 have h1 := hf i f hfi
 have hi : i < xs.length := by rw [hlen]; exact (Array.getElem?_eq_some_iff.1 hfi).1
 have h2 : xs[i]? = some xs[i] := List.getElem?_eq_getElem hi
 rw [h2] at h1
 obtain ⟨a, h3, h4⟩ := hR _ _ h1
 exact ⟨a, _, h2, by rw [← hs]; exact h3, h4⟩
theorem arg_struct {α : Type} {t : TypeId} {cells : α → List PV} {bk : α → Nat} {fs : Array Field} (hs : P.underlying t = some (.struct fs)) (hR : ∀ n, Rd enc P w UB n t cells bk) {r : Reach} {b0 : Nat} {v : Value} {d : DataW H} {p : List MemPlace}
  (hv : Value.okWide P w r b0 t v) (h : DataW.Trod enc P w 0 (fun _ => true) true t v d p) : ∃ a, Rep (Fz.of w) (.agg (cells a)) v ∧ bk a ≤ UB d := by
 obtain ⟨cs, rfl, _⟩ := Go.WideShapes.okWide_struct hs hv
 obtain ⟨fuel, hf⟩ := h
 obtain ⟨a, h1, h2⟩ := hR fuel _ _ hf
 refine ⟨a, ?_, h2⟩
 simp only [Rep]
 exact ⟨cs.toList, by simp, by simpa [Value.cells] using h1⟩
theorem trodAll_below (hl : laidOutB P = true) {W W' : World} (hb : Below W.heap.size W W') : ∀ {ts : List TypeId} {vs : List Value} {ds : List (DataW H)} {ps : List MemPlace}, (∀ t ∈ ts, P.readableRec t = true ∧ t < P.types.size) →
  DataW.TrodAll enc P W 0 (fun _ => true) true ts vs ds ps → (∀ x ∈ ps, x.block < W.heap.size) → DataW.TrodAll enc P W' 0 (fun b => decide (b < W.heap.size)) true ts vs ds ps
 | [], _, _, _, _, h, _ => by
  obtain ⟨rfl, rfl, rfl⟩ := trodAll_nil h
  exact trodAll_mk0
 | t :: ts, _, _, _, hr, h, hlt => by
  obtain ⟨v, vs, d, ds, p, q, rfl, rfl, rfl, h1, h2⟩ := trodAll_cons h
  exact trodAll_cons_mk (Go.RowKit.Below.trod hl (hr t (by simp)).1 (hr t (by simp)).2 h1 hb fun x hx => hlt x (by simp [hx])) (trodAll_below hl hb (fun t ht => hr t (by simp [ht])) h2 fun x hx => hlt x (by simp [hx]))
theorem trodAll_len {spare : Nat → Bool} {base : Nat} {held : Bool} : ∀ {ts : List TypeId} {vs : List Value} {ds : List (DataW H)} {ps : List MemPlace}, DataW.TrodAll enc P w base spare held ts vs ds ps → ds.length = ts.length
 | [], _, _, _, h => by obtain ⟨rfl, rfl, rfl⟩ := trodAll_nil h; rfl
 | t :: ts, _, _, _, h => by
  obtain ⟨v, vs, d, ds, p, q, rfl, rfl, rfl, h1, h2⟩ := trodAll_cons h
  simp [trodAll_len h2]
theorem law_post {f : Func} {s : ChangeSpec} {tb : TypeId} {W W' : World} {args : Array Value} {ds gs : List (DataW H)} {before : List MemPlace} (hl : laidOutB P = true) (hr : ∀ t ∈ f.params.toList, P.readableRec t = true ∧ t < P.types.size)
  (hres : f.resultTypes = #[tb]) (hb : P.underlying tb = some .bool) (hv : s.vars = []) (hfn : ∀ ds : List (DataW H), ds.length = f.params.size → s.fn H ds = { results := [.lit (.bool true)], args := ds })
  (hW : DataW.Whole enc P f.params.toList s.vars false W args.toList ds gs before) (hbel : Below W.heap.size W W') : s.post enc P f false true false false W args (.bool true) W' := by
 have hW' := hW
 obtain ⟨p, q, hA, hV, rfl, _, _⟩ := hW
 have hV0 : DataW.TrodVars enc P W (fun _ => true) [] gs q := by rw [← hv]; exact hV
 obtain ⟨rfl, rfl⟩ := trodVars_none hV0
 have hfn' := hfn (ds ++ []) (by rw [List.append_nil, trodAll_len hA]; simp)
 refine ⟨ds, [], p ++ [], [], p, [], hW', ?_, ?_, ?_, hbel.frame _, fun h => by cases h⟩
 ·rw [hfn', hres]
  exact trodAll_mk1 (Go.RowKit.shut_bool hb _)
 ·rw [hfn', List.append_nil]
  exact trodAll_below hl hbel hr hA fun x hx => hW'.lt x (by simp [hx])
 ·rw [hfn', hv]; rfl
end
theorem sumBk_datum : ∀ l : List Datum, sumBk Datum.bulk l = Datum.bulks l
 | [] => rfl
 | x :: l => by rw [sumBk, Datum.bulks, sumBk_datum l]
theorem sumBk_one {α : Type} : ∀ l : List α, sumBk (fun _ => 1) l = l.length
 | [] => rfl
 | x :: l => by rw [sumBk, sumBk_one l, List.length_cons]; omega
section
variable {H : Type} {enc : TypeId × Value → H} {P : Program} {w : World} {UB : DataW H → Nat} {UBs : List (DataW H) → Nat}
theorem repL_end {F : Fz} {cs : List Value} {n : Nat} (h : cs.length = n) : RepL F [] (cs.drop n) := by
 rw [List.drop_of_length_le (by omega)]; exact RepL_nil F
theorem rd_datum (hB : Bulk UB UBs) {tI tS tL tD : TypeId} (hI : P.underlying tI = some (.int .i64)) (hS : P.underlying tS = some .string) (hL : P.underlying tL = some (.slice tD)) {fs : Array Field} (hD : P.underlying tD = some (.struct fs))
  (hfs : (fs.toList.map fun f => (f.type, f.offset)) = [(tI, 0), (tI, 1), (tI, 2), (tS, 3), (tL, 4)]) (cI : P.cellsOf tI = 1) (cS : P.cellsOf tS = 1) (cL : P.cellsOf tL = 1) (cD : P.cellsOf tD = 5) : ∀ n, Rd enc P w UB n tD Datum.cells Datum.bulk := by
 intro n
 induction n using Nat.strongRecOn with
 | ind n ih =>
  intro cs x h
  obtain ⟨xs, m, rfl, rfl, hl, hlen, hf⟩ := DataW.trod_struct hD h
  obtain ⟨a0, y0, e0, r0, _⟩ := rd_field (rd_int (w := w) (enc := enc) hB hI m) hlen hf 0 (by rw [hfs]; rfl) cI
  obtain ⟨a1, y1, e1, r1, _⟩ := rd_field (rd_int (w := w) (enc := enc) hB hI m) hlen hf 1 (by rw [hfs]; rfl) cI
  obtain ⟨a2, y2, e2, r2, _⟩ := rd_field (rd_int (w := w) (enc := enc) hB hI m) hlen hf 2 (by rw [hfs]; rfl) cI
  obtain ⟨a3, y3, e3, r3, b3⟩ := rd_field (rd_str (w := w) (enc := enc) hB hS m) hlen hf 3 (by rw [hfs]; rfl) cS
  obtain ⟨a4, y4, e4, r4, b4⟩ := rd_field (rd_slice (pv := Datum.pv) hB hL cD (by omega) (fun a => rfl) (fun k hk => ih k (by omega))) hlen hf 4 (by rw [hfs]; rfl) cL
  refine ⟨.mk a0 a1 a2 a3 a4, ?_, ?_⟩
  ·exact repL_cat r0 (repL_cat r1 (repL_cat r2 (repL_cat r3 (repL_cat r4 (repL_end (hl.trans cD))))))
  ·have h5 : xs.length = 5 := by
    have := congrArg List.length hfs
    simp at this; omega
   match xs, h5 with
   | [z0, z1, z2, z3, z4], _ =>
    simp at e3 e4
    subst e3 e4
    have := hB.agg ([z0, z1, z2, z3, z4].map (·.1))
    simp only [List.map_cons, List.map_nil, hB.cons, hB.nil] at this
    rw [sumBk_datum] at b4
    rw [Datum.bulk_eq]
    show 1 + a3.length + Datum.bulks a4 ≤ _
    simp only [List.map_cons, List.map_nil]
    omega
theorem rd_ints (hB : Bulk UB UBs) {tI tV : TypeId} (hI : P.underlying tI = some (.int .i64)) (hV : P.underlying tV = some (.slice tI)) (cI : P.cellsOf tI = 1) (n : Nat) : Rd enc P w UB n tV (fun l : List Int => [.sl 1 (l.map (PV.int .i64)) none]) fun l => 1 + l.length := by
 intro cs x h
 obtain ⟨a, h1, h2⟩ := rd_slice (pv := PV.int .i64) hB hV cI (by omega) (fun a => rfl) (fun k hk => rd_int (w := w) (enc := enc) hB hI k) cs x h
 exact ⟨a, h1, by have := sumBk_one a; show 1 + a.length ≤ _; have h3 : 1 + sumBk (fun _ => 1) a ≤ UB x.1 := h2; omega⟩
end
end Go.Cb
namespace Go.Cb
open Go.Proofs Go.Proofs.YtklpioocdgfbmaaGreatDoor
open Go.RowKit (Below)
theorem uptoOne {H : Type} (d : DataW H) : 1 ≤ Rows.uptoBulk d := by
 cases d with
 | lit l => cases l <;> simp [Rows.uptoBulk]
 | nil => simp [Rows.uptoBulk]
 | ptr d => simp [Rows.uptoBulk]
 | slice elems spare => simp [Rows.uptoBulk]
 | agg parts => simp [Rows.uptoBulk]
 | iface t d => simp [Rows.uptoBulk]
 | map entries => simp [Rows.uptoBulk]
 | held h => simp [Rows.uptoBulk]
theorem bulkR {H : Type} : Bulk (H := H) Rows.uptoBulk Rows.uptoBulkAll where
 nil := by simp [Rows.uptoBulkAll]
 cons x l := by simp [Rows.uptoBulkAll]
 agg l := by simp [Rows.uptoBulk]; omega
 slice l m := by simp [Rows.uptoBulk]; omega
 str s := by simp [Rows.uptoBulk]
 pos d := uptoOne d
section
variable {H : Type} {enc : TypeId × Value → H} {w : World}
theorem cInt : Tryz.prog.cellsOf 3 = 1 := by kernel_rfl
theorem cStr : Tryz.prog.cellsOf 9 = 1 := by kernel_rfl
theorem cBool : Tryz.prog.cellsOf 4 = 1 := by kernel_rfl
theorem cInts : Tryz.prog.cellsOf 23 = 1 := by kernel_rfl
theorem cDs : Tryz.prog.cellsOf 22 = 1 := by kernel_rfl
theorem cD : Tryz.prog.cellsOf 70 = 5 := by kernel_rfl
theorem rdD (n : Nat) : Rd enc Tryz.prog w Rows.uptoBulk n 70 Datum.cells Datum.bulk :=
 rd_datum bulkR Tryz.underlying3 Tryz.underlying9 Tryz.underlying22 Tryz.underlying70 rfl cInt cStr cDs cD n
theorem rdDs (n : Nat) : Rd enc Tryz.prog w Rows.uptoBulk n 22 (fun l : List Datum => [.sl 5 (l.map Datum.pv) none]) fun l => 1 + Datum.bulks l := by
 intro cs x h
 obtain ⟨a, h1, h2⟩ := rd_slice (pv := Datum.pv) bulkR Tryz.underlying22 cD (by omega) (fun a => rfl) (fun k hk => rdD (w := w) (enc := enc) k) cs x h
 have h3 : 1 + sumBk Datum.bulk a ≤ Rows.uptoBulk x.1 := h2
 rw [sumBk_datum] at h3
 exact ⟨a, h1, h3⟩
def Prog.bulk (p : Prog) : Nat := Datum.bulks p.consts + p.body.bulk
theorem okT : Tryz.prog.readableRec 26 = true ∧ 26 < Tryz.prog.types.size := ⟨by kernel_rfl, of_decide_eq_true (by kernel_rfl)⟩
theorem calls_true {f : FuncId} {args : List PV} {vs : List Value} {W : World} (h : ACallP Tryz.prog f args (.bool true)) (hr : RepT (Fz.of W) args vs) : Calls Tryz.prog f vs.toArray W fun e W' => e = .returned (.bool true) ∧ Below W.heap.size W W' := by
 refine (h.2 W (Fz.of W) [] W vs (Sim.start W) hr).mono ?_
 rintro e W' ⟨v, F', y, Γ', rfl, _, hS, hR, rfl⟩
 exact ⟨by rw [show v = .bool true by simpa only [Rep] using hR], hS.below⟩
end
end Go.Cb
namespace Go.Cb
open Go.Proofs Go.Proofs.YtklpioocdgfbmaaGreatDoor
open Go.RowKit (Below)
section
variable {H : Type} {enc : TypeId × Value → H} {w : World}
end
end Go.Cb
namespace Go.Cb
open Go.Proofs Go.Proofs.YtklpioocdgfbmaaGreatDoor
section
variable {H : Type} {enc : TypeId × Value → H} {w : World}
instance : CellsOf slI (fun l => [slI l]) := ⟨fun _ => rfl⟩
theorem cU : Tryz.prog.cellsOf 45 = 2 := by kernel_rfl
theorem cPr : Tryz.prog.cellsOf 57 = 5 := by kernel_rfl
theorem cPrs : Tryz.prog.cellsOf 39 = 1 := by kernel_rfl
theorem cIn : Tryz.prog.cellsOf 59 = 5 := by kernel_rfl
theorem cIns : Tryz.prog.cellsOf 54 = 1 := by kernel_rfl
theorem cII : Tryz.prog.cellsOf 55 = 1 := by kernel_rfl
def Ins.bulk (x : Ins) : Nat := x.l.length
theorem rdIn (n : Nat) : Rd enc Tryz.prog w Rows.uptoBulk n 59 Ins.cells Ins.bulk := by
 intro cs x h
 obtain ⟨xs, m, rfl, rfl, hl, hlen, hf⟩ := DataW.trod_struct Tryz.underlying59 h
 obtain ⟨a0, y0, e0, r0, b0⟩ := rd_field (rd_int (w := w) (enc := enc) bulkR Tryz.underlying3 m) hlen hf 0 rfl cInt
 obtain ⟨a1, y1, e1, r1, b1⟩ := rd_field (rd_int (w := w) (enc := enc) bulkR Tryz.underlying3 m) hlen hf 1 rfl cInt
 obtain ⟨a2, y2, e2, r2, b2⟩ := rd_field (rd_int (w := w) (enc := enc) bulkR Tryz.underlying3 m) hlen hf 2 rfl cInt
 obtain ⟨a3, y3, e3, r3, b3⟩ := rd_field (rd_int (w := w) (enc := enc) bulkR Tryz.underlying3 m) hlen hf 3 rfl cInt
 obtain ⟨a4, y4, e4, r4, b4⟩ := rd_field (rd_ints (w := w) (enc := enc) bulkR Tryz.underlying3 Tryz.underlying23 cInt m) hlen hf 4 rfl cInts
 refine ⟨⟨a0, a1, a2, a3, a4⟩, ?_, ?_⟩
 ·have := repL_cat r0 (repL_cat r1 (repL_cat r2 (repL_cat r3 (repL_cat r4 (repL_end (hl.trans cIn))))))
  rwa [List.append_nil] at this
 ·match xs, hlen with
  | [z0, z1, z2, z3, z4], _ =>
   simp at e4
   subst e4
   have := (bulkR (H := H)).agg ([z0, z1, z2, z3, z4].map (·.1))
   simp only [List.map_cons, List.map_nil, (bulkR (H := H)).cons, (bulkR (H := H)).nil] at this
   show a4.length ≤ _
   simp only [List.map_cons, List.map_nil]
   omega
theorem rdIns (n : Nat) : Rd enc Tryz.prog w Rows.uptoBulk n 54 (fun l : List Ins => [.sl 5 (l.map Ins.pv) none]) fun l => 1 + sumBk Ins.bulk l :=
 rd_slice (pv := Ins.pv) bulkR Tryz.underlying54 cIn (by omega) (fun a => rfl) (fun k hk => rdIn (w := w) (enc := enc) k)
theorem rdII (n : Nat) : Rd enc Tryz.prog w Rows.uptoBulk n 55 (fun l : List (List Int) => [.sl 1 (l.map slI) none]) fun l => 1 + sumBk (fun a => 1 + a.length) l :=
 rd_slice (pv := slI) bulkR Tryz.underlying55 cInts (by omega) (fun a => rfl) (fun k hk => rd_ints (w := w) (enc := enc) bulkR Tryz.underlying3 Tryz.underlying23 cInt k)
theorem sumBk_len {α : Type} {bk : α → Nat} (h : ∀ a, 1 ≤ bk a) : ∀ l : List α, l.length ≤ sumBk bk l
 | [] => Nat.zero_le _
 | a :: l => by rw [sumBk, List.length_cons]; have := h a; have := sumBk_len h l; omega
theorem rdPr (n : Nat) : Rd enc Tryz.prog w Rows.uptoBulk n 57 Prc.cells fun _ => 1 := by
 intro cs x h
 obtain ⟨xs, m, rfl, rfl, hl, hlen, hf⟩ := DataW.trod_struct Tryz.underlying57 h
 obtain ⟨a0, y0, e0, r0, b0⟩ := rd_field (rd_int (w := w) (enc := enc) bulkR Tryz.underlying3 m) hlen hf 0 rfl cInt
 obtain ⟨a1, y1, e1, r1, b1⟩ := rd_field (rd_bool (w := w) (enc := enc) bulkR Tryz.underlying4 m) hlen hf 1 rfl cBool
 obtain ⟨a2, y2, e2, r2, b2⟩ := rd_field (rd_int (w := w) (enc := enc) bulkR Tryz.underlying3 m) hlen hf 2 rfl cInt
 obtain ⟨a3, y3, e3, r3, b3⟩ := rd_field (rdIns (w := w) (enc := enc) m) hlen hf 3 rfl cIns
 obtain ⟨a4, y4, e4, r4, b4⟩ := rd_field (rdII (w := w) (enc := enc) m) hlen hf 4 rfl cII
 refine ⟨⟨a0, a1, a2, a3, a4⟩, ?_, bulkR.pos _⟩
 have := repL_cat r0 (repL_cat r1 (repL_cat r2 (repL_cat r3 (repL_cat r4 (repL_end (hl.trans cPr))))))
 rwa [List.append_nil] at this
theorem rdU (n : Nat) : Rd enc Tryz.prog w Rows.uptoBulk n 45 Unt.cells fun u => Datum.bulks u.consts + u.procs.length := by
 intro cs x h
 obtain ⟨xs, m, rfl, rfl, hl, hlen, hf⟩ := DataW.trod_struct Tryz.underlying45 h
 obtain ⟨a0, y0, e0, r0, b0⟩ := rd_field (rdDs (w := w) (enc := enc) m) hlen hf 0 rfl cDs
 obtain ⟨a1, y1, e1, r1, b1⟩ := rd_field (rd_slice (pv := Prc.pv) bulkR Tryz.underlying39 cPr (by omega) (fun a => rfl) (fun k hk => rdPr (w := w) (enc := enc) k)) hlen hf 1 rfl cPrs
 refine ⟨⟨a0, a1⟩, ?_, ?_⟩
 ·have := repL_cat r0 (repL_cat r1 (repL_end (hl.trans cU)))
  rwa [List.append_nil] at this
 ·match xs, hlen with
  | [z0, z1], _ =>
   simp at e0 e1
   subst e0 e1
   have := (bulkR (H := H)).agg ([z0, z1].map (·.1))
   simp only [List.map_cons, List.map_nil, (bulkR (H := H)).cons, (bulkR (H := H)).nil] at this
   have h1 : a1.length ≤ sumBk (fun _ : Prc => 1) a1 := sumBk_len (fun _ => Nat.le_refl _) a1
   show Datum.bulks a0 + a1.length ≤ _
   simp only [List.map_cons, List.map_nil]
   omega
theorem okU : Tryz.prog.readableRec 45 = true ∧ 45 < Tryz.prog.types.size := ⟨by kernel_rfl, of_decide_eq_true (by kernel_rfl)⟩
end
end Go.Cb
namespace Go.Cb
open Go.Proofs Go.Proofs.YtklpioocdgfbmaaGreatDoor
mutual
def cellsD : DataW Unit → List Value
 | .lit (.int k n) => [.int k n]
 | .lit (.bool b) => [.bool b]
 | .lit (.string s) => [.string ⟨s.toArray⟩]
 | .agg l => cellsDs l
 | _ => []
def cellsDs : List (DataW Unit) → List Value
 | [] => []
 | d :: l => cellsD d ++ cellsDs l
end
def newBlocks (e : TypeId) : List (String × DataW Unit) → List Obj
 | [] => []
 | (_, .iface _ (.ptr d)) :: l => .cells (cellsD d).toArray e :: newBlocks e l
 | _ :: l => newBlocks e l
def putCs (h : Array Obj) (g : Option Nat) (cs : Array Value) : Array Obj := match g with
 | some g => h.modify g fun
  | .cells _ t frozen => .cells cs t frozen
  | o => o
 | none => h
def layAll (P : Program) (p : TypeId) : List (String × DataW Unit) → Nat → Array Obj → Array Obj
 | [], _, h => h
 | (n, .iface _ _) :: l, k, h => layAll P p l (k + 1) (putCs h (P.globalNamed n) #[.iface p (.pointer (some ⟨k, 0, none⟩))])
 | (n, d) :: l, k, h => layAll P p l k (putCs h (P.globalNamed n) (cellsD d).toArray)
noncomputable def laidWorld (os : Os) : World :=
 let w0 := World.holding Tryz.prog os ⟨(newBlocks 327 Rows.closureConvertsRow.laid).toArray, #[], []⟩
 { w0 with heap := layAll Tryz.prog 325 Rows.closureConvertsRow.laid (World.settled Tryz.prog os).heap.size w0.heap }
theorem laid_met (os : Os) (args : Array Value) : laidMet Tryz.prog Rows.closureConvertsRow.laid ((laidWorld os).forCall (fun _ _ => 0) ⟨#[], args, []⟩).memory :=
 (LaidIn.of_run (l := Rows.closureConvertsRow.laid) (List.range 1000) 16 (by kernel_rfl) (by kernel_rfl) (by kernel_rfl) (by kernel_rfl)).met
theorem own_none : ownKnob Tryz.prog.godebug = none := by kernel_rfl
theorem laidOut : laidOutB Tryz.prog = true := by kernel_rfl
end Go.Cb

