/-
 Contracts: what the document says is needed.
 Contracts: what is alive behind instructions, the document's; whether a unit is sound.
 Contracts: slots, the document's: what fights, what is named, a number more.
 Contracts: a procedure's slots, the document's; an instruction with slots.
 Contracts: a procedure's slots, the document's.
 Contracts: a unit with slots, the document's.
 Contracts: the document's reader of images: procedures.
 Contracts: emission's laws: the document's example; procedures that are the same; the procedures of any words.
 Contracts: few; alike what is alike.
 Contracts: the law of places.
 Contracts: procedures that are the same, or not.
 Contracts: other words, other procedures.
 From the readings of arguments to values, and from a contract to what a statement asks.
 The program's data, read at the seat's types; the bulk.
 Lists of numbers, read at the seat's types.
 Units, read at the seat's types.
 A world that holds the listed tables: the statements' witness.
-/
import Derived.Carry
import Derived.ChangeArms
import Derived.ChangeSame
import Derived.Deep.DeepHandedRow
import Derived.Deep.DeepWitnessRowRef
import Derived.KernelRfl
import Derived.Lib.LaidIn
import Derived.OpenShut
import Derived.OpenVars
import Derived.RowKit
import Derived.Test.YtklpioocdgfbmaaGreatDoorRows
import Derived.WideShapes
import Derived.Test.YtklpioocdgfbmaaGreatDoorO7
set_option linter.unusedSimpArgs false
set_option linter.unusedVariables false
namespace Go.Cb
open Go.Proofs
set_option maxRecDepth 100000
set_option maxHeartbeats 4000000
theorem next16_c (p : Prc) (k : Nat) (hk : k < p.code.length) (h1 : p.code.length ≤ 1000000) : ACallP Tryz.prog 69 [.agg p.cells, .int .i64 k] (slI (nxtL p.code[k] k)) := by
 have hn : nxtL p.code[k] k = nxtL p.code[k] k := rfl
 conv at hn => rhs; unfold nxtL
 refine ACall.of_body tt_ok Tryz.func69 rfl rfl (n := 42) rfl rfl ?_
 conv => whnf
 repeat' (first|((first|((first|(apply zY;intro hg)|apply zZ);first|exact stA|exact stB|exact stC)|(refine zW ?_ ?_;exact gA)|refine zH rfl ?_|refine zA ?_|refine zI bA ?_|refine zI rfl ?_|refine sB ?_|(refine zO ?_ ?_ ?_;omega;omega)|(refine zP ?_ ?_ ?_;omega;omega)|refine zM rfl ?_|(refine zQ ?_ ?_ ?_;omega;omega)|(refine zR ?_ ?_;omega)|(refine zI ?_ ?_;exact nA)|refine sS ?_|refine sF ?_|refine n0 ?_|refine sD ?_|intro _|refine zG ?_);conv=>whnf)|(refine zX (fun hc => ?_) (fun hc => ?_)<;>(try simp only [SY] at hc)<;>first|omega|(conv=>whnf)))
 all_goals first
  | (refine PAppend.lit (f := PV.int .i64) rfl (by assumption) rfl (by simp only [List.length_cons, List.length_nil]; omega) ?_; intro t9 ht9)
  | skip
 conv => whnf
 repeat' (first|((first|((first|(apply zY;intro hg)|apply zZ);first|exact stA|exact stB|exact stC)|(refine zW ?_ ?_;exact gA)|refine zH rfl ?_|refine zA ?_|refine zI bA ?_|refine zI rfl ?_|refine sB ?_|(refine zO ?_ ?_ ?_;omega;omega)|(refine zP ?_ ?_ ?_;omega;omega)|refine zM rfl ?_|(refine zQ ?_ ?_ ?_;omega;omega)|(refine zR ?_ ?_;omega)|(refine zI ?_ ?_;exact nA)|refine sS ?_|refine sF ?_|refine n0 ?_|refine sD ?_|intro _|refine zG ?_);conv=>whnf)|(refine zX (fun hc => ?_) (fun hc => ?_)<;>(try simp only [SY] at hc)<;>first|omega|(conv=>whnf)))
 all_goals
  repeat (first|rw [if_neg (by omega)] at hn|rw [if_pos (by omega)] at hn)
  rw [hn]
 all_goals first
  | exact PRet.pure (Wk.tok _ _ _)
  | exact PRet.pure slI_nil
theorem nxtL_len (x : Ins) (k : Int) : (nxtL x k).length ≤ 2 := by
 unfold nxtL
 by_cases h : x.op = 15
 ·rw [if_neg (by omega), if_pos h, if_neg (by omega)]; simp
 ·rw [if_neg h]
  split <;> split <;> simp
theorem needed16_c (p : Prc) (frm : List Int) (r : Int) (hp : PrF p) (hx : ∀ x ∈ p.code, x.l.length ≤ 1000000) (hf : ∀ j ∈ frm, 0 ≤ j ∧ j < p.code.length) (hfl : frm.length ≤ 1000000) : ACallP Tryz.prog 123 [.agg p.cells, slI frm, .int .i64 r] (.bool (needU p.code r frm)) := by
 have hcl := hp.ln
 unfold needU
 refine ACall.of_body tt_ok Tryz.func123 rfl rfl (n := 70) rfl rfl ?_
 conv => whnf
 repeat' (first|((first|((first|(apply zY;intro hg)|apply zZ);first|exact stA|exact stB|exact stC)|(refine zW ?_ ?_;exact gA)|refine zH rfl ?_|refine zA ?_|refine zI bA ?_|refine zI rfl ?_|refine sB ?_|(refine zO ?_ ?_ ?_;omega;omega)|(refine zP ?_ ?_ ?_;omega;omega)|refine zM rfl ?_|(refine zQ ?_ ?_ ?_;omega;omega)|(refine zR ?_ ?_;omega)|(refine zI ?_ ?_;exact nA)|refine sS ?_|refine sF ?_|refine n0 ?_|refine sD ?_|intro _|refine zG ?_);conv=>whnf)|(refine zX (fun hc => ?_) (fun hc => ?_)<;>(try simp only [SY] at hc)<;>first|omega|(conv=>whnf)))
 refine PMake.row (by omega) (by omega) (by omega) (by show _ * 1 ≤ _; omega) rfl fun tb hte hts => ?_
 rw [Int.toNat_natCast]
 conv => whnf
 repeat' (first|((first|refine PRow.nilInts ?_|((first|(apply zY;intro hg)|apply zZ);first|exact stA|exact stB|exact stC)|(refine zW ?_ ?_;exact gA)|refine zH rfl ?_|refine zA ?_|refine zI bA ?_|refine zI rfl ?_|refine sB ?_|(refine zO ?_ ?_ ?_;omega;omega)|(refine zP ?_ ?_ ?_;omega;omega)|refine zM rfl ?_|(refine zQ ?_ ?_ ?_;omega;omega)|(refine zR ?_ ?_;omega)|(refine zI ?_ ?_;exact nA)|refine sS ?_|refine sF ?_|refine n0 ?_|refine sD ?_|intro _|refine zG ?_);conv=>whnf)|(refine zX (fun hc => ?_) (fun hc => ?_)<;>(try simp only [SY] at hc)<;>first|omega|(conv=>whnf)))
 rename_i b3 _ _ _ _ ti hte2 hts2
 rw [List.nil_append]
 generalize hB : needF p.code r (3 * p.code.length + frm.length + 1) (List.replicate p.code.length false) frm = B
 refine PLoop.ghost (Ghost.row (t := tb) (wkR_false p.code.length)) ?_
 refine PLoop.over [6, 8, 9, 10, 11, 12, 20, 21, 22, 23, 24, 25, 26, 27, 28, 29, 30, 31, 32, 33, 34, 35, 36, 37, 38, 39, 40, 41, 42, 43, 44, 45, 46, 47, 48, 49, 50, 51, 52, 53, 54, 55, 56, 57, 58, 59, 60, 61, 62, 63, 64, 65, 66, 67, 68, 69] (fun x : List Bool × List Int × Tok × Nat => [(8, .ms x.2.2.1)]) (fun x => [.row x.2.2.1 (x.2.1.map (PV.int .i64)), .row tb (x.1.map PV.bool), .box b3 (prX p)])
  (fun x => x.1.length = p.code.length ∧ (∀ j ∈ x.2.1, 0 ≤ j ∧ j < p.code.length) ∧ x.2.2.1.e = 3 ∧ x.2.2.1.s = 1 ∧ 3 * unmet x.1 + x.2.1.length + 1 ≤ x.2.2.2 ∧ x.2.2.2 ≤ 3 * p.code.length + frm.length + 1 ∧ needF p.code r x.2.2.2 x.1 x.2.1 = B) (fun x => x.2.2.2)
  (List.replicate p.code.length false, frm, ti, 3 * p.code.length + frm.length + 1) ⟨List.length_replicate .., hf, hte2, hts2, by simp [unmet], Nat.le_refl _, hB⟩ wA ?_
 rintro ⟨bs, xs, t, f⟩ ⟨hbl, hxs, hte3, hts3, hff, hf0, hnb⟩
 dsimp only at hbl hxs hte3 hts3 hff hf0 hnb ⊢
 conv => whnf
 repeat' (first|((first|((first|(apply zY;intro hg)|apply zZ);first|exact stA|exact stB|((conv=>whnf);(repeat ((first|(refine zW ?_ ?_;exact gA)|(refine PLenM.map fun _ => ?_)|(refine PSliceM.hi (i := xs.length - 1) (by assumption) (by omega) (by simp; omega) fun t2 hte4 hts4 => ?_)|refine zA ?_|refine zH rfl ?_|refine zB ?_|refine sG ?_|intro _);conv=>whnf));first|exact pS|exact pL|exact pE))|(refine zW ?_ ?_;exact gA)|refine zH rfl ?_|refine zA ?_|refine zI bA ?_|refine zI rfl ?_|refine sB ?_|(refine zO ?_ ?_ ?_;omega;omega)|(refine zP ?_ ?_ ?_;omega;omega)|refine zM rfl ?_|(refine zQ ?_ ?_ ?_;omega;omega)|(refine zR ?_ ?_;omega)|(refine zI ?_ ?_;exact nA)|refine sS ?_|(refine PLenM.map fun _ => ?_)|(refine PSliceM.hi (i := xs.length - 1) (by assumption) (by omega) (by simp; omega) fun t2 hte4 hts4 => ?_)|refine sF ?_|refine n0 ?_|refine sD ?_|intro _|refine zG ?_);conv=>whnf)|(refine zX (fun hc => ?_) (fun hc => ?_)<;>(try simp only [SY] at hc)<;>first|omega|(conv=>whnf)))
 ·have hx0 : xs ≠ [] := fun e => by rw [e] at hc; simp at hc
  have hv := hxs xs[xs.length - 1] (List.getElem_mem _)
  have hld : xs.getLastD 0 = xs[xs.length - 1] := by rw [List.getLastD_eq_getLast?, List.getLast?_eq_getElem?, List.getElem?_eq_getElem (by omega)]; rfl
  generalize xs[xs.length - 1] = v at *
  obtain ⟨k, rfl⟩ := Int.eq_ofNat_of_zero_le hv.1
  have hkl : k < p.code.length := by omega
  have hkb : k < bs.length := by omega
  have hid : insD p.code k = p.code[k] := by unfold insD; rw [Int.toNat_natCast, List.getD_eq_getElem?_getD, List.getElem?_eq_getElem hkl]; rfl
  have hnl := namedL_len p.code[k]
  have hxk := hx p.code[k] (List.getElem_mem _)
  obtain ⟨g, rfl⟩ : ∃ g, f = g + 1 := ⟨f - 1, by omega⟩
  rw [needF, if_neg hx0, hld, Int.toNat_natCast, hid] at hnb
  rw [← List.map_take, ← List.dropLast_eq_take]
  have hdl : xs.dropLast.length + 1 = xs.length := by rw [List.length_dropLast]; omega
  have hdm : ∀ j ∈ xs.dropLast, 0 ≤ j ∧ j < p.code.length := fun j hj => hxs j (List.dropLast_subset _ hj)
  have hnx := next16_c p k hkl (by omega)
  have hnn := nxtL_len p.code[k] k
  have hnr := hp.nx k hkl
  generalize nxtL p.code[k] k = nx at *
  conv => whnf
  repeat' (first|((first|((first|(apply zY;intro hg)|apply zZ);first|exact stA|exact stB|((conv=>whnf);(repeat ((first|(refine zW ?_ ?_;exact gA)|(refine PLenM.map fun _ => ?_)|(refine PSliceM.hi (i := xs.length - 1) (by assumption) (by omega) (by simp; omega) fun t2 hte4 hts4 => ?_)|refine pC (named_c p.code[k] hxk) wR ?_|refine pC (named_c p.code[k] hxk) cA ?_|refine pC (hnx) wR ?_|refine zA ?_|refine zH rfl ?_|refine zB ?_|refine sG ?_|intro _);conv=>whnf));first|exact pS|exact pL|exact pE))|(refine zW ?_ ?_;exact gA)|refine zH rfl ?_|refine zA ?_|refine zI bA ?_|refine zI rfl ?_|refine sB ?_|(refine zO ?_ ?_ ?_;omega;omega)|(refine zP ?_ ?_ ?_;omega;omega)|refine zM rfl ?_|(refine zQ ?_ ?_ ?_;omega;omega)|(refine zR ?_ ?_;omega)|(refine zI ?_ ?_;exact nA)|refine sS ?_|(refine PLenM.map fun _ => ?_)|(refine PSliceM.hi (i := xs.length - 1) (by assumption) (by omega) (by simp; omega) fun t2 hte4 hts4 => ?_)|refine pC (named_c p.code[k] hxk) wR ?_|refine pC (named_c p.code[k] hxk) cA ?_|refine pC (hnx) wR ?_|refine sF ?_|refine n0 ?_|refine sD ?_|intro _|refine zG ?_);conv=>whnf)|(refine zX (fun hc => ?_) (fun hc => ?_)<;>(try simp only [SY] at hc)<;>first|omega|(conv=>whnf)))
  ·rw [if_pos (by rw [List.getD_eq_getElem?_getD, List.getElem?_eq_getElem hkb]; exact hc)] at hnb
   exact loopTo (bs, xs.dropLast, t2, g) ⟨hbl, hdm, hte4.trans hte3, hts4.trans hts3, by dsimp only; omega, by dsimp only; omega, hnb⟩ (by show g < g + 1; omega) wA
  have hum := unmet_set hkb (by rw [List.getD_eq_getElem?_getD, List.getElem?_eq_getElem hkb]; exact hc)
  rw [if_neg (by rw [List.getD_eq_getElem?_getD, List.getElem?_eq_getElem hkb]; show ¬bs[k] = true; rw [hc]; simp)] at hnb
  have hte5 : t2.e = 3 := hte4.trans hte3
  have hts5 : t2.s = 1 := hts4.trans hts3
  generalize hN : namedL p.code[k] = nl at *
  refine PLoop.keep [6, 12, 50, 51, 52, 53, 54, 55, 56, 57, 58, 59, 60, 61] (fun i : Nat => [(12, .int .i64 i)]) (fun i => i ≤ nl.length ∧ nl.contains r = (nl.drop i).contains r) (fun i => nl.length - i) 0 ⟨Nat.zero_le _, rfl⟩ wA ?_
  rintro i ⟨hi, he⟩
  conv => whnf
  repeat' (first|((first|((first|(apply zY;intro hg)|apply zZ);first|exact stA|exact stB|((conv=>whnf);(repeat ((first|(refine zW ?_ ?_;exact gA)|(refine PLenM.map fun _ => ?_)|(refine PSliceM.hi (i := xs.length - 1) (by assumption) (by omega) (by simp; omega) fun t2 hte4 hts4 => ?_)|refine pC (named_c p.code[k] hxk) wR ?_|refine pC (named_c p.code[k] hxk) cA ?_|refine pC (hnx) wR ?_|refine zA ?_|refine zH rfl ?_|refine zB ?_|refine sG ?_|intro _);conv=>whnf));first|exact pS|exact pL|exact pE))|(refine zW ?_ ?_;exact gA)|refine zH rfl ?_|refine zA ?_|refine zI bA ?_|refine zI rfl ?_|refine sB ?_|(refine zO ?_ ?_ ?_;omega;omega)|(refine zP ?_ ?_ ?_;omega;omega)|refine zM rfl ?_|(refine zQ ?_ ?_ ?_;omega;omega)|(refine zR ?_ ?_;omega)|(refine zI ?_ ?_;exact nA)|refine sS ?_|(refine PLenM.map fun _ => ?_)|(refine PSliceM.hi (i := xs.length - 1) (by assumption) (by omega) (by simp; omega) fun t2 hte4 hts4 => ?_)|refine pC (named_c p.code[k] hxk) wR ?_|refine pC (named_c p.code[k] hxk) cA ?_|refine pC (hnx) wR ?_|refine sF ?_|refine n0 ?_|refine sD ?_|intro _|refine zG ?_);conv=>whnf)|(refine zX (fun hc => ?_) (fun hc => ?_)<;>(try simp only [SY] at hc)<;>first|omega|(conv=>whnf)))
  ·have hil : i < nl.length := by omega
   rw [drop_at hil, List.contains_cons, hc, beq_self_eq_true, Bool.true_or] at he
   rw [if_pos he] at hnb
   rw [← hnb]
   exact PRet.pure (Wk.tt rfl)
  ·have hil : i < nl.length := by omega
   rw [drop_at hil, List.contains_cons, show (r == nl[i]) = false by rw [beq_eq_false_iff_ne]; exact fun e => hc e.symm, Bool.false_or] at he
   exact loopTo (i + 1) ⟨by omega, he⟩ (by show nl.length - (i + 1) < nl.length - i; omega) wA
  ·rw [if_neg (by rw [he, List.drop_of_length_le (by omega)]; simp), if_pos hc] at hnb
   rename_i t3 hte6 hts6
   exact loopTo (bs.set k true, xs.dropLast ++ nx, t3, g) ⟨by dsimp only; rw [List.length_set]; exact hbl, fun j hj => by
    rcases List.mem_append.1 hj with hj | hj
    ·exact hdm j hj
    ·exact hnr j hj, hte6, hts6, by dsimp only; rw [List.length_append]; omega, by dsimp only; omega, hnb⟩ (by show g < g + 1; omega) wA
  ·rw [if_neg (by rw [he, List.drop_of_length_le (by omega)]; simp), if_neg (by omega)] at hnb
   exact loopTo (bs.set k true, xs.dropLast, t2, g) ⟨by dsimp only; rw [List.length_set]; exact hbl, hdm, hte5, hts5, by dsimp only; omega, by dsimp only; omega, hnb⟩ (by show g < g + 1; omega) wA
 ·have hx0 : xs = [] := List.eq_nil_of_length_eq_zero (by omega)
  have : needF p.code r f bs xs = false := by
   cases f with
   | zero => rfl
   | succ f => rw [needF, if_pos hx0]
  rw [← hnb, this]
  exact PRet.pure (Wk.ff rfl)
end Go.Cb
namespace Go.Cb
open Go.Proofs
set_option maxRecDepth 100000
set_option maxHeartbeats 4000000
theorem live16_c (p : Prc) (frm : List Int) (hp : PrF p) (hx : ∀ x ∈ p.code, x.l.length ≤ 1000000) (hf : ∀ j ∈ frm, 0 ≤ j ∧ j < p.code.length) (hfl : frm.length ≤ 1000000) : ACallP Tryz.prog 68 [.agg p.cells, slI frm] (slI (liveF p.code p.regs.toNat frm)) := by
 have hrg := hp.rg
 have hnd : ∀ r : Nat, ACallP Tryz.prog 123 [.agg p.cells, slI frm, .int .i64 (r : Int)] (.bool (needU p.code r frm)) := fun r => needed16_c p frm r hp hx hf hfl
 refine ACall.of_body tt_ok Tryz.func68 rfl rfl (n := 22) rfl rfl ?_
 conv => whnf
 repeat' (first|((first|((first|(apply zY;intro hg)|apply zZ);first|exact stA|exact stB|((conv=>whnf);(repeat ((first|(refine zW ?_ ?_;exact gA)|refine pC (hnd _) wR ?_|refine zA ?_|refine zH rfl ?_|refine zB ?_|refine sG ?_|intro _);conv=>whnf));first|exact pS|exact pL|exact pE))|(refine zW ?_ ?_;exact gA)|refine zH rfl ?_|refine zA ?_|refine zI bA ?_|refine zI rfl ?_|refine sB ?_|(refine zO ?_ ?_ ?_;omega;omega)|(refine zP ?_ ?_ ?_;omega;omega)|refine zM rfl ?_|(refine zQ ?_ ?_ ?_;omega;omega)|(refine zR ?_ ?_;omega)|(refine zI ?_ ?_;exact nA)|refine sS ?_|refine pC (hnd _) wR ?_|refine sF ?_|refine n0 ?_|refine sD ?_|intro _|refine zG ?_);conv=>whnf)|(refine zX (fun hc => ?_) (fun hc => ?_)<;>(try simp only [SY] at hc)<;>first|omega|(conv=>whnf)))
 rename_i b2
 refine PLoop.ghost (Ghost.nil 1 3 _) ?_
 refine PLoop.over [5, 6, 7, 8, 9, 10, 11, 12, 13, 14, 15, 16, 17, 18, 19, 20] (fun x : Nat × List Int × Tok => [(5, .sl 1 (x.2.1.map (PV.int .i64)) (some x.2.2)), (6, .int .i64 x.1)]) (fun x => [.tok x.2.2, .box b2 (prX p)]) (fun x => x.1 ≤ p.regs.toNat ∧ x.2.2.e = 3 ∧ x.2.1 = liveF p.code x.1 frm) (fun x => p.regs.toNat - x.1) (0, [], nilTok 1 3) ⟨Nat.zero_le _, rfl, rfl⟩ wA ?_
 rintro ⟨r, out, t⟩ ⟨hr, hte, ho⟩
 dsimp only at hr hte ho ⊢
 have hol := liveF_len p.code r frm
 rw [← ho] at hol
 conv => whnf
 repeat' (first|((first|((first|(apply zY;intro hg)|apply zZ);first|exact stA|exact stB|((conv=>whnf);(repeat ((first|(refine zW ?_ ?_;exact gA)|refine pC (hnd _) wR ?_|refine zA ?_|refine zH rfl ?_|refine zB ?_|refine sG ?_|intro _);conv=>whnf));first|exact pS|exact pL|exact pE))|(refine zW ?_ ?_;exact gA)|refine zH rfl ?_|refine zA ?_|refine zI bA ?_|refine zI rfl ?_|refine sB ?_|(refine zO ?_ ?_ ?_;omega;omega)|(refine zP ?_ ?_ ?_;omega;omega)|refine zM rfl ?_|(refine zQ ?_ ?_ ?_;omega;omega)|(refine zR ?_ ?_;omega)|(refine zI ?_ ?_;exact nA)|refine sS ?_|refine pC (hnd _) wR ?_|refine sF ?_|refine n0 ?_|refine sD ?_|intro _|refine zG ?_);conv=>whnf)|(refine zX (fun hc => ?_) (fun hc => ?_)<;>(try simp only [SY] at hc)<;>first|omega|(conv=>whnf)))
 ·exact loopTo (r + 1, out ++ [(r : Int)], _) ⟨by show r + 1 ≤ _; omega, by assumption, by dsimp only; rw [liveF_succ, if_pos hc, ho]⟩ (by show p.regs.toNat - (r + 1) < p.regs.toNat - r; omega) wA
 ·exact loopTo (r + 1, out, t) ⟨by show r + 1 ≤ _; omega, by assumption, by dsimp only; rw [liveF_succ, if_neg (by rw [hc]; simp), ho]⟩ (by show p.regs.toNat - (r + 1) < p.regs.toNat - r; omega) wA
 ·obtain rfl : r = p.regs.toNat := by omega
  rw [← ho]
  exact PRet.pure (Wk.tok _ _ _)
theorem after16_c (u : Unt) (hu : Lim u) (h0 : chkU u = 0) (n : Nat) (hn : n < u.procs.length) : ACallP Tryz.prog 32 [.agg u.cells, .int .i64 n] (.tup [.sl 1 ((aftP u.procs[n]).map slI) none, .int .i64 0]) := by
 have hX : ∀ p ∈ u.procs, ∀ x ∈ p.code, x.l.length ≤ 1000000 := fun p hp x hx => by have := (hu.2 p hp).2 x hx; omega
 have hp := prF h0 u.procs[n] (List.getElem_mem hn)
 have hxp := hX u.procs[n] (List.getElem_mem hn)
 have hch := check14_c u hX
 rw [h0] at hch
 have hcl := (hu.2 u.procs[n] (List.getElem_mem hn)).1
 have hlv : ∀ (k : Nat) (hk : k < u.procs[n].code.length), ACallP Tryz.prog 68 [.agg u.procs[n].cells, slI (nxtL u.procs[n].code[k] k)] (slI (liveF u.procs[n].code u.procs[n].regs.toNat (nxtL u.procs[n].code[k] k))) := fun k hk => live16_c u.procs[n] _ hp hxp (hp.nx k hk) (by have := nxtL_len u.procs[n].code[k] k; omega)
 have hnx : ∀ (k : Nat) (hk : k < u.procs[n].code.length), ACallP Tryz.prog 69 [.agg u.procs[n].cells, .int .i64 (k : Int)] (slI (nxtL u.procs[n].code[k] k)) := fun k hk => next16_c u.procs[n] k hk (by omega)
 refine ACall.of_body tt_ok Tryz.func32 rfl rfl (n := 42) rfl rfl ?_
 conv => whnf
 repeat' (first|((first|((first|(apply zY;intro hg)|apply zZ);first|exact stA|exact stB|((conv=>whnf);(repeat ((first|(refine zW ?_ ?_;exact gA)|refine pC (hch) wR ?_|refine pC (hlv _ (by omega)) wR ?_|refine pC (hnx _ (by omega)) wR ?_|refine zA ?_|refine zH rfl ?_|refine zB ?_|refine sG ?_|intro _);conv=>whnf));first|exact pS|exact pL|exact pE))|(refine zW ?_ ?_;exact gA)|refine zH rfl ?_|refine zA ?_|refine zI bA ?_|refine zI rfl ?_|refine sB ?_|(refine zO ?_ ?_ ?_;omega;omega)|(refine zP ?_ ?_ ?_;omega;omega)|refine zM rfl ?_|(refine zQ ?_ ?_ ?_;omega;omega)|(refine zR ?_ ?_;omega)|(refine zI ?_ ?_;exact nA)|refine sS ?_|refine pC (hch) wR ?_|refine pC (hlv _ (by omega)) wR ?_|refine pC (hnx _ (by omega)) wR ?_|refine sF ?_|refine n0 ?_|refine sD ?_|refine PDraw.sP (some 33) rfl [] [7,8] tt_ok mixed ?_|intro _|refine zG ?_);conv=>whnf)|(refine zX (fun hc => ?_) (fun hc => ?_)<;>(try simp only [SY] at hc)<;>first|omega|(conv=>whnf)))
 rename_i b2 _ b6
 refine PLoop.ghost (Ghost.nil 1 23 _) ?_
 refine PLoop.over [7, 8, 26, 27, 28, 29, 30, 31, 32, 33, 34, 35, 36, 37, 38, 39, 40] (fun x : Nat × List (List Int) × Tok => [(7, .sl 1 (x.2.1.map slI) (some x.2.2)), (8, .int .i64 x.1)]) (fun x => [.tok x.2.2, .box b6 (prX u.procs[n]), .box b2 (unX u)]) (fun x => x.1 ≤ u.procs[n].code.length ∧ x.2.2.e = 23 ∧ x.2.1 = aftF u.procs[n].code u.procs[n].regs.toNat x.1) (fun x => u.procs[n].code.length - x.1) (0, [], nilTok 1 23) ⟨Nat.zero_le _, rfl, rfl⟩ wA ?_
 rintro ⟨k, out, t⟩ ⟨hk, hte, ho⟩
 dsimp only at hk hte ho ⊢
 have hol := aftF_len u.procs[n].code u.procs[n].regs.toNat k
 rw [← ho] at hol
 conv => whnf
 repeat' (first|((first|((first|(apply zY;intro hg)|apply zZ);first|exact stA|exact stB|((conv=>whnf);(repeat ((first|(refine zW ?_ ?_;exact gA)|refine pC (hch) wR ?_|refine pC (hlv _ (by omega)) wR ?_|refine pC (hnx _ (by omega)) wR ?_|refine zA ?_|refine zH rfl ?_|refine zB ?_|refine sG ?_|intro _);conv=>whnf));first|exact pS|exact pL|exact pE))|(refine zW ?_ ?_;exact gA)|refine zH rfl ?_|refine zA ?_|refine zI bA ?_|refine zI rfl ?_|refine sB ?_|(refine zO ?_ ?_ ?_;omega;omega)|(refine zP ?_ ?_ ?_;omega;omega)|refine zM rfl ?_|(refine zQ ?_ ?_ ?_;omega;omega)|(refine zR ?_ ?_;omega)|(refine zI ?_ ?_;exact nA)|refine sS ?_|refine pC (hch) wR ?_|refine pC (hlv _ (by omega)) wR ?_|refine pC (hnx _ (by omega)) wR ?_|refine sF ?_|refine n0 ?_|refine sD ?_|refine PDraw.sP (some 33) rfl [] [7,8] tt_ok mixed ?_|intro _|refine zG ?_);conv=>whnf)|(refine zX (fun hc => ?_) (fun hc => ?_)<;>(try simp only [SY] at hc)<;>first|omega|(conv=>whnf)))
 ·have hkl : k < u.procs[n].code.length := by omega
  have hid : insD u.procs[n].code k = u.procs[n].code[k] := by unfold insD; rw [Int.toNat_natCast, List.getD_eq_getElem?_getD, List.getElem?_eq_getElem hkl]; rfl
  exact loopTo (k + 1, out ++ [_], _) ⟨by show k + 1 ≤ _; omega, by assumption, by dsimp only; rw [aftF_succ, hid, ho]⟩ (by show u.procs[n].code.length - (k + 1) < u.procs[n].code.length - k; omega) wA
 ·obtain rfl : k = u.procs[n].code.length := by omega
  subst ho
  exact PRet.pure (Wk.tup (.cons (Wk.tok _ _ _) (.cons (Wk.refl _) .nil)))
theorem begin16_c (u : Unt) (hu : Lim u) (h0 : chkU u = 0) (n : Nat) (hn : n < u.procs.length) : ACallP Tryz.prog 109 [.agg u.cells, .int .i64 n] (.tup [slI (begP u.procs[n]), .int .i64 0]) := by
 have hX : ∀ p ∈ u.procs, ∀ x ∈ p.code, x.l.length ≤ 1000000 := fun p hp x hx => by have := (hu.2 p hp).2 x hx; omega
 have hp := prF h0 u.procs[n] (List.getElem_mem hn)
 have hxp := hX u.procs[n] (List.getElem_mem hn)
 have hch := check14_c u hX
 rw [h0] at hch
 have hln := hp.ln
 have hlv : ACallP Tryz.prog 68 [.agg u.procs[n].cells, slI [0]] (slI (begP u.procs[n])) := live16_c u.procs[n] _ hp hxp (fun j hj => by rw [List.mem_singleton] at hj; omega) (by simp)
 refine ACall.of_body tt_ok Tryz.func109 rfl rfl (n := 25) rfl rfl ?_
 conv => whnf
 repeat' (first|((first|((first|(apply zY;intro hg)|apply zZ);first|exact stA|exact stB|((conv=>whnf);(repeat ((first|(refine zW ?_ ?_;exact gA)|refine pC (hch) wR ?_|refine pC (hlv) wR ?_|refine zA ?_|refine zH rfl ?_|refine zB ?_|refine sG ?_|intro _);conv=>whnf));first|exact pS|exact pL|exact pE))|(refine zW ?_ ?_;exact gA)|refine zH rfl ?_|refine zA ?_|refine zI bA ?_|refine zI rfl ?_|refine sB ?_|(refine zO ?_ ?_ ?_;omega;omega)|(refine zP ?_ ?_ ?_;omega;omega)|refine zM rfl ?_|(refine zQ ?_ ?_ ?_;omega;omega)|(refine zR ?_ ?_;omega)|(refine zI ?_ ?_;exact nA)|refine sS ?_|refine pC (hch) wR ?_|refine pC (hlv) wR ?_|refine sF ?_|refine n0 ?_|refine sD ?_|intro _|refine zG ?_);conv=>whnf)|(refine zX (fun hc => ?_) (fun hc => ?_)<;>(try simp only [SY] at hc)<;>first|omega|(conv=>whnf)))
 refine PCall.pure hlv (.cons (Wk.refl _) (.cons (Wk.tok _ _ _) .nil)) ?_
 conv => whnf
 repeat' (first|((first|((first|(apply zY;intro hg)|apply zZ);first|exact stA|exact stB|((conv=>whnf);(repeat ((first|(refine zW ?_ ?_;exact gA)|refine pC (hch) wR ?_|refine pC (hlv) wR ?_|refine zA ?_|refine zH rfl ?_|refine zB ?_|refine sG ?_|intro _);conv=>whnf));first|exact pS|exact pL|exact pE))|(refine zW ?_ ?_;exact gA)|refine zH rfl ?_|refine zA ?_|refine zI bA ?_|refine zI rfl ?_|refine sB ?_|(refine zO ?_ ?_ ?_;omega;omega)|(refine zP ?_ ?_ ?_;omega;omega)|refine zM rfl ?_|(refine zQ ?_ ?_ ?_;omega;omega)|(refine zR ?_ ?_;omega)|(refine zI ?_ ?_;exact nA)|refine sS ?_|refine pC (hch) wR ?_|refine pC (hlv) wR ?_|refine sF ?_|refine n0 ?_|refine sD ?_|intro _|refine zG ?_);conv=>whnf)|(refine zX (fun hc => ?_) (fun hc => ?_)<;>(try simp only [SY] at hc)<;>first|omega|(conv=>whnf)))
 exact PRet.pure (Wk.refl _)
theorem sound16_c (u : Unt) (hu : Lim u) : ACallP Tryz.prog 62 [.agg u.cells] (.bool (sndB u)) := by
 have hX : ∀ p ∈ u.procs, ∀ x ∈ p.code, x.l.length ≤ 1000000 := fun p hp x hx => by have := (hu.2 p hp).2 x hx; omega
 have hch := check14_c u hX
 by_cases h0 : chkU u = 0
 ·rw [h0] at hch
  have hbg : ∀ (n : Nat) (hn : n < u.procs.length), ACallP Tryz.prog 109 [.agg u.cells, .int .i64 (n : Int)] (.tup [slI (begP u.procs[n]), .int .i64 0]) := fun n hn => begin16_c u hu h0 n hn
  have hs : sndB u = !u.procs.any begB := by unfold sndB; rw [h0]; rfl
  refine ACall.of_body tt_ok Tryz.func62 rfl rfl (n := 40) rfl rfl ?_
  conv => whnf
  repeat' (first|((first|((first|(apply zY;intro hg)|apply zZ);first|exact stA|exact stB|((conv=>whnf);(repeat ((first|(refine zW ?_ ?_;exact gA)|refine pC (hch) wR ?_|refine pC (hbg _ (by omega)) wR ?_|refine zA ?_|refine zH rfl ?_|refine zB ?_|refine sG ?_|intro _);conv=>whnf));first|exact pS|exact pL|exact pE))|(refine zW ?_ ?_;exact gA)|refine zH rfl ?_|refine zA ?_|refine zI bA ?_|refine zI rfl ?_|refine sB ?_|(refine zO ?_ ?_ ?_;omega;omega)|(refine zP ?_ ?_ ?_;omega;omega)|refine zM rfl ?_|(refine zQ ?_ ?_ ?_;omega;omega)|(refine zR ?_ ?_;omega)|(refine zI ?_ ?_;exact nA)|refine sS ?_|refine pC (hch) wR ?_|refine pC (hbg _ (by omega)) wR ?_|refine sF ?_|refine n0 ?_|refine sD ?_|refine PDraw.sP (some 22) rfl [] [] tt_ok mixed ?_|intro _|refine zG ?_);conv=>whnf)|(refine zX (fun hc => ?_) (fun hc => ?_)<;>(try simp only [SY] at hc)<;>first|omega|(conv=>whnf)))
  refine PLoop.keep [2, 3, 4, 5, 9, 10, 11, 12, 13, 14, 15, 16, 17, 18, 19, 20, 21, 22, 23, 24, 25, 26, 27, 28, 29, 30, 31, 32, 33, 34, 35, 36, 37, 38, 39] (fun i : Nat => [(3, .int .i64 i)]) (fun i => i ≤ u.procs.length ∧ u.procs.any begB = (u.procs.drop i).any begB) (fun i => u.procs.length - i) 0 ⟨Nat.zero_le _, rfl⟩ wA ?_
  rintro i ⟨hi, he⟩
  have hbl : ∀ p ∈ u.procs, (begP p).length ≤ 20000 := fun p hp => by
   have h1 := liveF_len p.code p.regs.toNat [0]
   have h2 := (prF h0 p hp).rg
   show (liveF p.code p.regs.toNat [0]).length ≤ 20000
   omega
  rcases Nat.lt_or_ge i u.procs.length with hi2 | hi2
  ·have hbi := hbl u.procs[i] (List.getElem_mem _)
   rw [drop_at hi2, List.any_cons] at he
   have hdf : (Dfl.d : Int) = 0 := rfl
   have hgl : (begP u.procs[i]).getLastD 0 = (begP u.procs[i]).getD ((begP u.procs[i]).length - 1) Dfl.d := by
    rw [List.getLastD_eq_getLast?, List.getLast?_eq_getElem?, List.getD_eq_getElem?_getD]
    rfl
   have hbt : begB u.procs[i] = true ↔ ((begP u.procs[i]).length : Int) > 0 ∧ (begP u.procs[i]).getD ((begP u.procs[i]).length - 1) Dfl.d ≥ u.procs[i].args := by
    unfold begB
    rw [hgl, Bool.and_eq_true, decide_eq_true_eq, decide_eq_true_eq]
   conv => whnf
   repeat' (first|((first|((first|(apply zY;intro hg)|apply zZ);first|exact stA|exact stB|((conv=>whnf);(repeat ((first|(refine zW ?_ ?_;exact gA)|refine pC (hch) wR ?_|refine pC (hbg _ (by omega)) wR ?_|refine zA ?_|refine zH rfl ?_|refine zB ?_|refine sG ?_|intro _);conv=>whnf));first|exact pS|exact pL|exact pE))|(refine zW ?_ ?_;exact gA)|refine zH rfl ?_|refine zA ?_|refine zI bA ?_|refine zI rfl ?_|refine sB ?_|(refine zO ?_ ?_ ?_;omega;omega)|(refine zP ?_ ?_ ?_;omega;omega)|refine zM rfl ?_|(refine zQ ?_ ?_ ?_;omega;omega)|(refine zR ?_ ?_;omega)|(refine zI ?_ ?_;exact nA)|refine sS ?_|refine pC (hch) wR ?_|refine pC (hbg _ (by omega)) wR ?_|refine sF ?_|refine n0 ?_|refine sD ?_|refine PDraw.sP (some 22) rfl [] [] tt_ok mixed ?_|intro _|refine zG ?_);conv=>whnf)|(refine zX (fun hc => ?_) (fun hc => ?_)<;>(try simp only [SY] at hc)<;>first|omega|(conv=>whnf)))
   ·rw [hbt.2 hc, Bool.true_or] at he
    rw [hs, he]
    exact PRet.pure (Wk.ff rfl)
   ·rw [show begB u.procs[i] = false by rw [Bool.eq_false_iff]; intro h; have := hbt.1 h; omega, Bool.false_or] at he
    exact loopTo (i + 1) ⟨by omega, he⟩ (by show u.procs.length - (i + 1) < u.procs.length - i; omega) wA
  ·rw [List.drop_of_length_le hi2, List.any_nil] at he
   conv => whnf
   repeat' (first|((first|((first|(apply zY;intro hg)|apply zZ);first|exact stA|exact stB|((conv=>whnf);(repeat ((first|(refine zW ?_ ?_;exact gA)|refine pC (hch) wR ?_|refine pC (hbg _ (by omega)) wR ?_|refine zA ?_|refine zH rfl ?_|refine zB ?_|refine sG ?_|intro _);conv=>whnf));first|exact pS|exact pL|exact pE))|(refine zW ?_ ?_;exact gA)|refine zH rfl ?_|refine zA ?_|refine zI bA ?_|refine zI rfl ?_|refine sB ?_|(refine zO ?_ ?_ ?_;omega;omega)|(refine zP ?_ ?_ ?_;omega;omega)|refine zM rfl ?_|(refine zQ ?_ ?_ ?_;omega;omega)|(refine zR ?_ ?_;omega)|(refine zI ?_ ?_;exact nA)|refine sS ?_|refine pC (hch) wR ?_|refine pC (hbg _ (by omega)) wR ?_|refine sF ?_|refine n0 ?_|refine sD ?_|refine PDraw.sP (some 22) rfl [] [] tt_ok mixed ?_|intro _|refine zG ?_);conv=>whnf)|(refine zX (fun hc => ?_) (fun hc => ?_)<;>(try simp only [SY] at hc)<;>first|omega|(conv=>whnf)))
   rw [hs, he]
   exact PRet.pure (Wk.tt rfl)
 ·have hs : sndB u = false := by unfold sndB; rw [show (chkU u == 0) = false by simpa using h0]; rfl
  rw [hs]
  refine ACall.of_body tt_ok Tryz.func62 rfl rfl (n := 40) rfl rfl ?_
  conv => whnf
  repeat' (first|((first|((first|(apply zY;intro hg)|apply zZ);first|exact stA|exact stB|((conv=>whnf);(repeat ((first|(refine zW ?_ ?_;exact gA)|refine pC (hch) wR ?_|refine zA ?_|refine zH rfl ?_|refine zB ?_|refine sG ?_|intro _);conv=>whnf));first|exact pS|exact pL|exact pE))|(refine zW ?_ ?_;exact gA)|refine zH rfl ?_|refine zA ?_|refine zI bA ?_|refine zI rfl ?_|refine sB ?_|(refine zO ?_ ?_ ?_;omega;omega)|(refine zP ?_ ?_ ?_;omega;omega)|refine zM rfl ?_|(refine zQ ?_ ?_ ?_;omega;omega)|(refine zR ?_ ?_;omega)|(refine zI ?_ ?_;exact nA)|refine sS ?_|refine pC (hch) wR ?_|refine sF ?_|refine n0 ?_|refine sD ?_|refine PDraw.sP (some 22) rfl [] [] tt_ok mixed ?_|intro _|refine zG ?_);conv=>whnf)|(refine zX (fun hc => ?_) (fun hc => ?_)<;>(try simp only [SY] at hc)<;>first|omega|(conv=>whnf)))
  exact PRet.pure (Wk.ff rfl)
end Go.Cb
namespace Go.Cb
open Go.Proofs
set_option maxRecDepth 100000
set_option maxHeartbeats 4000000
theorem has17_c (l : List Int) (v : Int) : ACallP Tryz.prog 168 [slI l, .int .i64 v] (.bool (l.contains v)) := by
 refine ACall.of_body tt_ok Tryz.func168 rfl rfl (n := 18) rfl rfl ?_
 conv => whnf
 repeat' (first|((first|((first|(apply zY;intro hg)|apply zZ);first|exact stA|exact stB|exact stC)|(refine zW ?_ ?_;exact gA)|refine zH rfl ?_|refine zA ?_|refine zI bA ?_|refine zI rfl ?_|refine sB ?_|(refine zO ?_ ?_ ?_;omega;omega)|(refine zP ?_ ?_ ?_;omega;omega)|refine zM rfl ?_|(refine zQ ?_ ?_ ?_;omega;omega)|(refine zR ?_ ?_;omega)|(refine zI ?_ ?_;exact nA)|refine sS ?_|refine sF ?_|refine n0 ?_|refine sD ?_|intro _|refine zG ?_);conv=>whnf)|(refine zX (fun hc => ?_) (fun hc => ?_)<;>(try simp only [SY] at hc)<;>first|omega|(conv=>whnf)))
 refine PLoop.keep [4, 5, 6, 7, 8, 9, 10, 11, 12, 13, 14, 15, 16, 17] (fun i : Nat => [(5, .int .i64 i)]) (fun i => i ≤ l.length ∧ l.contains v = (l.drop i).contains v) (fun i => l.length - i) 0 ⟨Nat.zero_le _, rfl⟩ wA ?_
 rintro i ⟨hi, he⟩
 conv => whnf
 repeat' (first|((first|((first|(apply zY;intro hg)|apply zZ);first|exact stA|exact stB|exact stC)|(refine zW ?_ ?_;exact gA)|refine zH rfl ?_|refine zA ?_|refine zI bA ?_|refine zI rfl ?_|refine sB ?_|(refine zO ?_ ?_ ?_;omega;omega)|(refine zP ?_ ?_ ?_;omega;omega)|refine zM rfl ?_|(refine zQ ?_ ?_ ?_;omega;omega)|(refine zR ?_ ?_;omega)|(refine zI ?_ ?_;exact nA)|refine sS ?_|refine sF ?_|refine n0 ?_|refine sD ?_|intro _|refine zG ?_);conv=>whnf)|(refine zX (fun hc => ?_) (fun hc => ?_)<;>(try simp only [SY] at hc)<;>first|omega|(conv=>whnf)))
 ·have hil : i < l.length := by omega
  rw [drop_at hil, List.contains_cons, hc, beq_self_eq_true, Bool.true_or] at he
  rw [he]
  exact PRet.pure (Wk.tt rfl)
 ·have hil : i < l.length := by omega
  rw [drop_at hil, List.contains_cons, show (v == l[i]) = false by rw [beq_eq_false_iff_ne]; exact fun e => hc e.symm, Bool.false_or] at he
  exact loopTo (i + 1) ⟨by omega, he⟩ (by show l.length - (i + 1) < l.length - i; omega) wA
 ·rw [he, List.drop_of_length_le (by omega)]
  exact PRet.pure (Wk.ff rfl)
theorem named17_c (p : Prc) (r : Int) (hx : ∀ x ∈ p.code, x.l.length ≤ 1000000) : ACallP Tryz.prog 110 [.agg p.cells, .int .i64 r] (.bool (nmdB p.code r)) := by
 have hnm : ∀ k (hk : k < p.code.length), ACallP Tryz.prog 34 [.agg p.code[k].cells] (.tup [slI (namedL p.code[k]), .int .i64 (givesI p.code[k])]) := fun k hk => named_c _ (hx _ (List.getElem_mem hk))
 refine ACall.of_body tt_ok Tryz.func110 rfl rfl (n := 32) rfl rfl ?_
 conv => whnf
 repeat' (first|((first|((first|(apply zY;intro hg)|apply zZ);first|exact stA|exact stB|((conv=>whnf);(repeat ((first|(refine zW ?_ ?_;exact gA)|refine pC (hnm _ (by omega)) wR ?_|refine pC (has17_c _ _) wR ?_|refine pC (has17_c _ _) cA ?_|refine zA ?_|refine zH rfl ?_|refine zB ?_|refine sG ?_|intro _);conv=>whnf));first|exact pS|exact pL|exact pE))|(refine zW ?_ ?_;exact gA)|refine zH rfl ?_|refine zA ?_|refine zI bA ?_|refine zI rfl ?_|refine sB ?_|(refine zO ?_ ?_ ?_;omega;omega)|(refine zP ?_ ?_ ?_;omega;omega)|refine zM rfl ?_|(refine zQ ?_ ?_ ?_;omega;omega)|(refine zR ?_ ?_;omega)|(refine zI ?_ ?_;exact nA)|refine sS ?_|refine pC (hnm _ (by omega)) wR ?_|refine pC (has17_c _ _) wR ?_|refine pC (has17_c _ _) cA ?_|refine sF ?_|refine n0 ?_|refine sD ?_|intro _|refine zG ?_);conv=>whnf)|(refine zX (fun hc => ?_) (fun hc => ?_)<;>(try simp only [SY] at hc)<;>first|omega|(conv=>whnf)))
 refine PLoop.keep [4, 5, 6, 7, 8, 9, 10, 11, 12, 13, 14, 15, 16, 17, 18, 19, 20, 21, 22, 23, 24, 25, 26, 27, 28, 29, 30, 31] (fun i : Nat => [(5, .int .i64 i)]) (fun i => i ≤ p.code.length ∧ nmdB p.code r = nmdB (p.code.drop i) r) (fun i => p.code.length - i) 0 ⟨Nat.zero_le _, rfl⟩ wA ?_
 rintro i ⟨hi, he⟩
 conv => whnf
 repeat' (first|((first|((first|(apply zY;intro hg)|apply zZ);first|exact stA|exact stB|((conv=>whnf);(repeat ((first|(refine zW ?_ ?_;exact gA)|refine pC (hnm _ (by omega)) wR ?_|refine pC (has17_c _ _) wR ?_|refine pC (has17_c _ _) cA ?_|refine zA ?_|refine zH rfl ?_|refine zB ?_|refine sG ?_|intro _);conv=>whnf));first|exact pS|exact pL|exact pE))|(refine zW ?_ ?_;exact gA)|refine zH rfl ?_|refine zA ?_|refine zI bA ?_|refine zI rfl ?_|refine sB ?_|(refine zO ?_ ?_ ?_;omega;omega)|(refine zP ?_ ?_ ?_;omega;omega)|refine zM rfl ?_|(refine zQ ?_ ?_ ?_;omega;omega)|(refine zR ?_ ?_;omega)|(refine zI ?_ ?_;exact nA)|refine sS ?_|refine pC (hnm _ (by omega)) wR ?_|refine pC (has17_c _ _) wR ?_|refine pC (has17_c _ _) cA ?_|refine sF ?_|refine n0 ?_|refine sD ?_|intro _|refine zG ?_);conv=>whnf)|(refine zX (fun hc => ?_) (fun hc => ?_)<;>(try simp only [SY] at hc)<;>first|omega|(conv=>whnf)))
 ·have hil : i < p.code.length := by omega
  rw [drop_at hil] at he
  conv at he => rhs; unfold nmdB
  rw [List.any_cons, show (givesI p.code[i] == r || (namedL p.code[i]).contains r) = true by rw [Bool.or_eq_true, beq_iff_eq]; exact hc, Bool.true_or] at he
  rw [he]
  exact PRet.pure (Wk.tt rfl)
 ·have hil : i < p.code.length := by omega
  rw [drop_at hil] at he
  conv at he => rhs; unfold nmdB
  rw [List.any_cons, show (givesI p.code[i] == r || (namedL p.code[i]).contains r) = false by rw [Bool.or_eq_false_iff, beq_eq_false_iff_ne]; exact hc, Bool.false_or] at he
  exact loopTo (i + 1) ⟨by omega, he⟩ (by show p.code.length - (i + 1) < p.code.length - i; omega) wA
 ·rw [he, List.drop_of_length_le (by omega)]
  exact PRet.pure (Wk.ff rfl)
theorem interfere17_c (p : Prc) (af : List (List Int)) (a b : Int) (haf : af.length = p.code.length) (hx : ∀ x ∈ p.code, x.l.length ≤ 1000000) : ACallP Tryz.prog 111 [.agg p.cells, .sl 1 (af.map slI) none, .int .i64 a, .int .i64 b] (.bool (itfB p.code af a b)) := by
 have hnm : ∀ k (hk : k < p.code.length), ACallP Tryz.prog 34 [.agg p.code[k].cells] (.tup [slI (namedL p.code[k]), .int .i64 (givesI p.code[k])]) := fun k hk => named_c _ (hx _ (List.getElem_mem hk))
 refine ACall.of_body tt_ok Tryz.func111 rfl rfl (n := 52) rfl rfl ?_
 conv => whnf
 repeat' (first|((first|((first|(apply zY;intro hg)|apply zZ);first|exact stA|exact stB|((conv=>whnf);(repeat ((first|(refine zW ?_ ?_;exact gA)|refine pC (hnm _ (by omega)) wR ?_|refine pC (has17_c _ _) wR ?_|refine pC (has17_c _ _) cA ?_|refine zA ?_|refine zH rfl ?_|refine zB ?_|refine sG ?_|intro _);conv=>whnf));first|exact pS|exact pL|exact pE))|(refine zW ?_ ?_;exact gA)|refine zH rfl ?_|refine zA ?_|refine zI bA ?_|refine zI rfl ?_|refine sB ?_|(refine zO ?_ ?_ ?_;omega;omega)|(refine zP ?_ ?_ ?_;omega;omega)|refine zM rfl ?_|(refine zQ ?_ ?_ ?_;omega;omega)|(refine zR ?_ ?_;omega)|(refine zI ?_ ?_;exact nA)|refine sS ?_|refine pC (hnm _ (by omega)) wR ?_|refine pC (has17_c _ _) wR ?_|refine pC (has17_c _ _) cA ?_|refine sF ?_|refine n0 ?_|refine sD ?_|intro _|refine zG ?_);conv=>whnf)|(refine zX (fun hc => ?_) (fun hc => ?_)<;>(try simp only [SY] at hc)<;>first|omega|(conv=>whnf)))
 refine PLoop.keep [8, 9, 10, 11, 12, 13, 14, 15, 16, 17, 18, 19, 20, 21, 22, 23, 24, 25, 26, 27, 28, 29, 30, 31, 32, 33, 34, 35, 36, 37, 38, 39, 40, 41, 42, 43, 44, 45, 46, 47, 48, 49, 50, 51] (fun i : Nat => [(9, .int .i64 i)]) (fun i => i ≤ p.code.length ∧ itfB p.code af a b = itfB (p.code.drop i) (af.drop i) a b) (fun i => p.code.length - i) 0 ⟨Nat.zero_le _, rfl⟩ wA ?_
 rintro i ⟨hi, he⟩
 conv => whnf
 repeat' (first|((first|((first|(apply zY;intro hg)|apply zZ);first|exact stA|exact stB|((conv=>whnf);(repeat ((first|(refine zW ?_ ?_;exact gA)|refine pC (hnm _ (by omega)) wR ?_|refine pC (has17_c _ _) wR ?_|refine pC (has17_c _ _) cA ?_|refine zA ?_|refine zH rfl ?_|refine zB ?_|refine sG ?_|intro _);conv=>whnf));first|exact pS|exact pL|exact pE))|(refine zW ?_ ?_;exact gA)|refine zH rfl ?_|refine zA ?_|refine zI bA ?_|refine zI rfl ?_|refine sB ?_|(refine zO ?_ ?_ ?_;omega;omega)|(refine zP ?_ ?_ ?_;omega;omega)|refine zM rfl ?_|(refine zQ ?_ ?_ ?_;omega;omega)|(refine zR ?_ ?_;omega)|(refine zI ?_ ?_;exact nA)|refine sS ?_|refine pC (hnm _ (by omega)) wR ?_|refine pC (has17_c _ _) wR ?_|refine pC (has17_c _ _) cA ?_|refine sF ?_|refine n0 ?_|refine sD ?_|intro _|refine zG ?_);conv=>whnf)|(refine zX (fun hc => ?_) (fun hc => ?_)<;>(try simp only [SY] at hc)<;>first|omega|(conv=>whnf)))
 ·have hil : i < p.code.length := by omega
  rw [drop_at hil, drop_at (by omega : i < af.length)] at he
  conv at he => rhs; unfold itfB
  rw [List.zip_cons_cons, List.any_cons, show (givesI (p.code[i], af[i]).1 == a && (p.code[i], af[i]).2.contains b || givesI (p.code[i], af[i]).1 == b && (p.code[i], af[i]).2.contains a) = true by rw [Bool.or_eq_true, Bool.and_eq_true, Bool.and_eq_true, beq_iff_eq, beq_iff_eq]; exact hc, Bool.true_or] at he
  rw [he]
  exact PRet.pure (Wk.tt rfl)
 ·have hil : i < p.code.length := by omega
  rw [drop_at hil, drop_at (by omega : i < af.length)] at he
  conv at he => rhs; unfold itfB
  rw [List.zip_cons_cons, List.any_cons, show (givesI (p.code[i], af[i]).1 == a && (p.code[i], af[i]).2.contains b || givesI (p.code[i], af[i]).1 == b && (p.code[i], af[i]).2.contains a) = false by
   rw [Bool.or_eq_false_iff, Bool.and_eq_false_iff, Bool.and_eq_false_iff, beq_eq_false_iff_ne, beq_eq_false_iff_ne]; exact hc, Bool.false_or] at he
  exact loopTo (i + 1) ⟨by omega, he⟩ (by show p.code.length - (i + 1) < p.code.length - i; omega) wA
 ·rw [he, List.drop_of_length_le (by omega)]
  exact PRet.pure (Wk.ff rfl)
theorem put17_c (l : List Int) (v : Int) (hl : l.length ≤ 1000000) : ACallP Tryz.prog 65 [slI l, .int .i64 v] (slI (putR l v)) := by
 refine ACall.of_body tt_ok Tryz.func65 rfl rfl (n := 45) rfl rfl ?_
 conv => whnf
 repeat' (first|((first|((first|(apply zY;intro hg)|apply zZ);first|exact stA|exact stB|((conv=>whnf);(repeat ((first|(refine zW ?_ ?_;exact gA)|refine pC (hnm _ (by omega)) wR ?_|refine pC (has17_c _ _) wR ?_|refine pC (has17_c _ _) cA ?_|refine zA ?_|refine zH rfl ?_|refine zB ?_|refine sG ?_|intro _);conv=>whnf));first|exact pS|exact pL|exact pE))|(refine zW ?_ ?_;exact gA)|refine zH rfl ?_|refine zA ?_|refine zI bA ?_|refine zI rfl ?_|refine sB ?_|(refine zO ?_ ?_ ?_;omega;omega)|(refine zP ?_ ?_ ?_;omega;omega)|refine zM rfl ?_|(refine zQ ?_ ?_ ?_;omega;omega)|(refine zR ?_ ?_;omega)|(refine zI ?_ ?_;exact nA)|refine sS ?_|refine pC (hnm _ (by omega)) wR ?_|refine pC (has17_c _ _) wR ?_|refine pC (has17_c _ _) cA ?_|refine sF ?_|refine n0 ?_|refine sD ?_|refine PDraw.sT (some 33) rfl [0,4,7] [11,12] tt_ok mixed ?_|intro _|refine zG ?_);conv=>whnf)|(refine zX (fun hc => ?_) (fun hc => ?_)<;>(try simp only [SY] at hc)<;>first|omega|(conv=>whnf)))
 refine PLoop.keep [5, 6, 7, 8, 9, 10, 11, 12, 13, 14, 15, 16, 17, 18, 19] (fun i : Nat => [(5, .int .i64 i)]) (fun i => i ≤ l.length ∧ ∀ j (h : j < l.length), j < i → l[j] < v) (fun i => l.length - i) 0 ⟨Nat.zero_le _, fun j _ h => by omega⟩ wA ?_
 rintro i ⟨hi, he⟩
 conv => whnf
 repeat' (first|((first|((first|(apply zY;intro hg)|apply zZ);first|exact stA|exact stB|((conv=>whnf);(repeat ((first|(refine zW ?_ ?_;exact gA)|refine pC (hnm _ (by omega)) wR ?_|refine pC (has17_c _ _) wR ?_|refine pC (has17_c _ _) cA ?_|refine zA ?_|refine zH rfl ?_|refine zB ?_|refine sG ?_|intro _);conv=>whnf));first|exact pS|exact pL|exact pE))|(refine zW ?_ ?_;exact gA)|refine zH rfl ?_|refine zA ?_|refine zI bA ?_|refine zI rfl ?_|refine sB ?_|(refine zO ?_ ?_ ?_;omega;omega)|(refine zP ?_ ?_ ?_;omega;omega)|refine zM rfl ?_|(refine zQ ?_ ?_ ?_;omega;omega)|(refine zR ?_ ?_;omega)|(refine zI ?_ ?_;exact nA)|refine sS ?_|refine pC (hnm _ (by omega)) wR ?_|refine pC (has17_c _ _) wR ?_|refine pC (has17_c _ _) cA ?_|refine sF ?_|refine n0 ?_|refine sD ?_|refine PDraw.sT (some 33) rfl [0,4,7] [11,12] tt_ok mixed ?_|intro _|refine zG ?_);conv=>whnf)|(refine zX (fun hc => ?_) (fun hc => ?_)<;>(try simp only [SY] at hc)<;>first|omega|(conv=>whnf)))
 all_goals have hgd : ∀ h : i < l.length, l.getD i Dfl.d = l[i] := fun h => by rw [List.getD_eq_getElem?_getD, List.getElem?_eq_getElem h]; rfl
 ·have hil : i < l.length := by omega
  rw [hgd hil] at hc
  exact loopTo (i + 1) ⟨by omega, fun j hj hji => by
   by_cases e : j = i
   ·subst e; exact hc.2
   ·exact he j hj (by omega)⟩ (by show l.length - (i + 1) < l.length - i; omega) wA
 all_goals
  have htw := takeWhile_r (p := fun x => decide (x < v)) (l := l) (k := i) hi (fun j h hj => decide_eq_true (he j h hj)) (fun h => by
   have hq := ‹(l.length : Int) ≤ (i : Int) ∨ v ≤ l.getD i Dfl.d›
   rw [hgd h] at hq
   exact decide_eq_false (by omega))
  have hpu : putR l v = l.take i ++ (if l[i]? = some v then l.drop i else v :: l.drop i) := by
   unfold putR
   rw [htw.1, htw.2, List.head?_drop]
 ·have hil : i < l.length := by omega
  rw [hgd hil] at hc
  rw [hpu, if_pos (by rw [List.getElem?_eq_getElem hil, hc.2]), List.take_append_drop]
  exact PRet.pure (Wk.refl _)
 ·rw [hpu, if_neg (by
   intro h
   rw [List.getElem?_eq_some_iff] at h
   obtain ⟨h1, h2⟩ := h
   rw [hgd h1] at hc
   omega), show l.take i ++ v :: l.drop i = l.take i ++ [v] ++ l.drop i by simp]
  exact PRet.pure (Wk.tok _ _ _)
end Go.Cb
namespace Go.Cb
open Go.Proofs
set_option maxRecDepth 100000
set_option maxHeartbeats 4000000
theorem gD {l : List Int} {n : Nat} (h : n < l.length) : l.getD n 0 = l[n] := by
 rw [List.getD_eq_getElem?_getD, List.getElem?_eq_getElem h]; rfl
theorem Ghost.boxH {Γ : List Ent} {b : Nat} {cs cs' : List PV} (h : WkL cs cs') : Ghost (.box b cs :: Γ) (.box b cs' :: Γ) := Ghost.box (hp := ⟨List.Perm.refl _⟩) h
theorem joinEndG {τ : Type} {ds : List Nat} {ps : τ → List (Nat × PV)} {G : τ → List Ent} {J : τ → Prop} {T T' : List PV} {Γ : List Ent} {D : Ds} (t : τ) (hJ : J t) (hw : WkOver 0 T' T ds (ps t)) (hg : Ghost Γ (G t)) : JoinEnd ds ps G J T D T' Γ D :=
 ⟨rfl, t, hJ, Weak.of (WkOver.wk 0 T' T ds (ps t) hw) hg⟩
theorem renamed17_c (x : Ins) (at_ : List Int) (hxl : x.l.length ≤ 1000000) (hg : givesI x < at_.length) (hn : ∀ n ∈ namedL x, 0 ≤ n ∧ n < at_.length) (hl : ∀ n ∈ x.l, 0 ≤ n ∧ n < at_.length) : ACallP Tryz.prog 64 [.agg x.cells, slI at_] (.agg (renI x at_).cells) := by
 have hA : (x.op = 1 ∨ x.op = 8 ∨ x.op = 10 ∨ x.op = 11 ∨ x.op = 14 ∨ x.op = 16 ∨ x.op = 17 ∨ x.op = 19 ∨ x.op = 22 ∨ x.op = 12 ∨ x.op = 13) → 0 ≤ x.a ∧ x.a < at_.length := fun h => hn x.a (by
  unfold namedL
  repeat (first|rw [if_neg (by omega)]|rw [if_pos (by omega)]|(split; simp))
  try simp)
 have hB : (x.op = 12 ∨ x.op = 13 ∨ x.op = 18 ∨ x.op = 20) → 0 ≤ x.b ∧ x.b < at_.length := fun h => hn x.b (by
  unfold namedL
  repeat (first|rw [if_neg (by omega)]|rw [if_pos (by omega)]|(split; simp))
  try simp)
 have hnm := named_c x hxl
 have hRd1 : 0 ≤ givesI x → (renI x at_).d = at_.getD (givesI x).toNat 0 := fun h => if_pos h
 have hRd2 : givesI x < 0 → (renI x at_).d = x.d := fun h => if_neg (by omega)
 have hRa1 : (x.op = 1 ∨ x.op = 8 ∨ x.op = 10 ∨ x.op = 11 ∨ x.op = 14 ∨ x.op = 16 ∨ x.op = 17 ∨ x.op = 19 ∨ x.op = 22 ∨ x.op = 12 ∨ x.op = 13) → (renI x at_).a = at_.getD x.a.toNat 0 := fun h => if_pos h
 have hRa2 : ¬(x.op = 1 ∨ x.op = 8 ∨ x.op = 10 ∨ x.op = 11 ∨ x.op = 14 ∨ x.op = 16 ∨ x.op = 17 ∨ x.op = 19 ∨ x.op = 22 ∨ x.op = 12 ∨ x.op = 13) → (renI x at_).a = x.a := fun h => if_neg h
 have hRb1 : (x.op = 12 ∨ x.op = 13 ∨ x.op = 18 ∨ x.op = 20) → (renI x at_).b = at_.getD x.b.toNat 0 := fun h => if_pos h
 have hRb2 : ¬(x.op = 12 ∨ x.op = 13 ∨ x.op = 18 ∨ x.op = 20) → (renI x at_).b = x.b := fun h => if_neg h
 have hRo : (renI x at_).op = x.op := rfl
 have hRl : (renI x at_).l = x.l.map fun n => at_.getD n.toNat 0 := rfl
 have hRc : (renI x at_).cells = [.int .i64 (renI x at_).op, .int .i64 (renI x at_).d, .int .i64 (renI x at_).a, .int .i64 (renI x at_).b, slI (renI x at_).l] := rfl
 rw [hRc]
 generalize renI x at_ = R at *
 generalize hG : givesI x = g at *
 refine ACall.of_body tt_ok Tryz.func64 rfl rfl (n := 93) rfl rfl ?_
 conv => whnf
 repeat ((first|((first|(apply zY;intro hg)|apply zZ);first|exact stA|exact stB|((conv=>whnf);(repeat ((first|(refine zW ?_ ?_;exact gA)|refine pC (hnm) wR ?_|refine zA ?_|refine zH rfl ?_|refine zB ?_|refine sG ?_|intro _);conv=>whnf));first|exact pS|exact pL|exact pE))|(refine zW ?_ ?_;exact gA)|refine zH rfl ?_|refine zA ?_|refine zI bA ?_|refine zI rfl ?_|refine sB ?_|(refine zO ?_ ?_ ?_;omega;omega)|(refine zP ?_ ?_ ?_;omega;omega)|refine zM rfl ?_|(refine zQ ?_ ?_ ?_;omega;omega)|(refine zR ?_ ?_;omega)|(refine zI ?_ ?_;exact nA)|refine sS ?_|refine pC (hnm) wR ?_|refine sF ?_|refine n0 ?_|refine sD ?_|refine PDraw.sP (some 79) rfl [] [11,12,13] tt_ok mixed ?_|intro _);conv=>whnf)
 repeat ((first|((first|(apply zY;intro hg)|apply zZ);first|exact stA|exact stB|((conv=>whnf);(repeat ((first|(refine zW ?_ ?_;exact gA)|refine pC (hnm) wR ?_|refine zA ?_|refine zH rfl ?_|refine zB ?_|refine sG ?_|intro _);conv=>whnf));first|exact pS|exact pL|exact pE))|(refine zW ?_ ?_;exact gA)|refine zH rfl ?_|refine zA ?_|refine zI bA ?_|refine zI rfl ?_|refine sB ?_|(refine zO ?_ ?_ ?_;omega;omega)|(refine zP ?_ ?_ ?_;omega;omega)|refine zM rfl ?_|(refine zQ ?_ ?_ ?_;omega;omega)|(refine zR ?_ ?_;omega)|(refine zI ?_ ?_;exact nA)|refine sS ?_|refine pC (hnm) wR ?_|refine sF ?_|refine n0 ?_|refine sD ?_|refine PDraw.sP (some 79) rfl [] [11,12,13] tt_ok mixed ?_|intro _);conv=>whnf)
 rename_i b2 b4 b5
 refine PSeq.join (fun _ : Unit => []) (fun _ => [.box b5 [.int .i64 x.op, .int .i64 R.d, .int .i64 x.a, .int .i64 x.b, .nil], .box b4 [.int .i64 0, .int .i64 0, .int .i64 0, .int .i64 0, .nil], .box b2 [.int .i64 x.op, .int .i64 x.d, .int .i64 x.a, .int .i64 x.b, slI x.l]]) (fun _ => True) ?_ ?_
 ·conv => whnf
  repeat' (first|((first|((first|(apply zY;intro hg)|apply zZ);first|exact stA|exact stB|((conv=>whnf);(repeat ((first|(refine zW ?_ ?_;exact gA)|refine pC (hnm) wR ?_|refine zA ?_|refine zH rfl ?_|refine zB ?_|refine sG ?_|intro _);conv=>whnf));first|exact pS|exact pL|exact pE))|(refine zW ?_ ?_;exact gA)|refine zH rfl ?_|refine zA ?_|refine zI bA ?_|refine zI rfl ?_|refine sB ?_|(refine zO ?_ ?_ ?_;omega;omega)|(refine zP ?_ ?_ ?_;omega;omega)|refine zM rfl ?_|(refine zQ ?_ ?_ ?_;omega;omega)|(refine zR ?_ ?_;omega)|(refine zI ?_ ?_;exact nA)|refine sS ?_|refine pC (hnm) wR ?_|refine sF ?_|refine n0 ?_|refine sD ?_|refine PDraw.sP (some 79) rfl [] [11,12,13] tt_ok mixed ?_|intro _|refine zG ?_);conv=>whnf)|(refine zX (fun hc => ?_) (fun hc => ?_)<;>(try simp only [SY] at hc)<;>first|omega|(conv=>whnf)))
  ·have e1 := hRd1 hc
   rw [gD (by omega)] at e1
   exact joinEndG () trivial wA (Ghost.boxH (.cons (Wk.refl _) (.cons (Wk.int (by omega)) (WkL.refl _))))
  ·have e1 := hRd2 hc
   exact joinEndG () trivial wA (Ghost.boxH (.cons (Wk.refl _) (.cons (Wk.int (by omega)) (WkL.refl _))))
 rintro ⟨⟩ -
 conv => whnf
 repeat ((first|((first|(apply zY;intro hg)|apply zZ);first|exact stA|exact stB|((conv=>whnf);(repeat ((first|(refine zW ?_ ?_;exact gA)|refine pC (hnm) wR ?_|refine zA ?_|refine zH rfl ?_|refine zB ?_|refine sG ?_|intro _);conv=>whnf));first|exact pS|exact pL|exact pE))|(refine zW ?_ ?_;exact gA)|refine zH rfl ?_|refine zA ?_|refine zI bA ?_|refine zI rfl ?_|refine sB ?_|(refine zO ?_ ?_ ?_;omega;omega)|(refine zP ?_ ?_ ?_;omega;omega)|refine zM rfl ?_|(refine zQ ?_ ?_ ?_;omega;omega)|(refine zR ?_ ?_;omega)|(refine zI ?_ ?_;exact nA)|refine sS ?_|refine pC (hnm) wR ?_|refine sF ?_|refine n0 ?_|refine sD ?_|refine PDraw.sP (some 79) rfl [] [11,12,13] tt_ok mixed ?_|intro _);conv=>whnf)
 refine PSeq.join (fun _ : Unit => []) (fun _ => [.box b5 [.int .i64 R.op, .int .i64 R.d, .int .i64 R.a, .int .i64 R.b, .nil], .box b4 [.int .i64 0, .int .i64 0, .int .i64 0, .int .i64 0, .nil], .box b2 [.int .i64 x.op, .int .i64 x.d, .int .i64 x.a, .int .i64 x.b, slI x.l]]) (fun _ => True) ?_ ?_
 ·conv => whnf
  repeat' (first|((first|((first|(apply zY;intro hg)|apply zZ);first|exact stA|exact stB|((conv=>whnf);(repeat ((first|(refine zW ?_ ?_;exact gA)|refine pC (hnm) wR ?_|refine zA ?_|refine zH rfl ?_|refine zB ?_|refine sG ?_|intro _);conv=>whnf));first|exact pS|exact pL|exact pE))|(refine zW ?_ ?_;exact gA)|refine zH rfl ?_|refine zA ?_|refine zI bA ?_|refine zI rfl ?_|refine sB ?_|(refine zO ?_ ?_ ?_;omega;omega)|(refine zP ?_ ?_ ?_;omega;omega)|refine zM rfl ?_|(refine zQ ?_ ?_ ?_;omega;omega)|(refine zR ?_ ?_;omega)|(refine zI ?_ ?_;exact nA)|refine sS ?_|refine pC (hnm) wR ?_|refine sF ?_|refine n0 ?_|refine sD ?_|refine PDraw.sP (some 79) rfl [] [11,12,13] tt_ok mixed ?_|intro _|refine zG ?_);conv=>whnf)|(refine zX (fun hc => ?_) (fun hc => ?_)<;>(try simp only [SY] at hc)<;>first|omega|(conv=>whnf)))
  all_goals
   try (have e2 := hRa1 (by omega); rw [gD (by omega)] at e2)
   try have e2 := hRa2 (by omega)
   try (have e3 := hRb1 (by omega); rw [gD (by omega)] at e3)
   try have e3 := hRb2 (by omega)
   exact joinEndG () trivial wA (Ghost.boxH (.cons (Wk.int (by omega)) (.cons (Wk.refl _) (.cons (Wk.int (by omega)) (.cons (Wk.int (by omega)) (WkL.refl _))))))
 rintro ⟨⟩ -
 conv => whnf
 repeat ((first|((first|(apply zY;intro hg)|apply zZ);first|exact stA|exact stB|((conv=>whnf);(repeat ((first|(refine zW ?_ ?_;exact gA)|refine pC (hnm) wR ?_|refine zA ?_|refine zH rfl ?_|refine zB ?_|refine sG ?_|intro _);conv=>whnf));first|exact pS|exact pL|exact pE))|(refine zW ?_ ?_;exact gA)|refine zH rfl ?_|refine zA ?_|refine zI bA ?_|refine zI rfl ?_|refine sB ?_|(refine zO ?_ ?_ ?_;omega;omega)|(refine zP ?_ ?_ ?_;omega;omega)|refine zM rfl ?_|(refine zQ ?_ ?_ ?_;omega;omega)|(refine zR ?_ ?_;omega)|(refine zI ?_ ?_;exact nA)|refine sS ?_|refine pC (hnm) wR ?_|refine sF ?_|refine n0 ?_|refine sD ?_|refine PDraw.sP (some 79) rfl [] [11,12,13] tt_ok mixed ?_|intro _);conv=>whnf)
 refine PLoop.ghost (Ghost.trans (Ghost.nil 1 3 _) (Ghost.box (b := b5) (cs := [.int .i64 R.op, .int .i64 R.d, .int .i64 R.a, .int .i64 R.b, .nil]) (cs' := [.int .i64 R.op, .int .i64 R.d, .int .i64 R.a, .int .i64 R.b, .sl 1 (([] : List Int).map (PV.int .i64)) (some (nilTok 1 3))]) wA)) ?_
 refine PLoop.over [8, 72, 73, 74, 75, 76, 77, 78, 79, 80, 81, 82, 83, 84, 85, 86, 87, 88, 89, 90, 91] (fun x : Nat × List Int × Tok => [(8, .int .i64 x.1)]) (fun y => [.box b5 [.int .i64 R.op, .int .i64 R.d, .int .i64 R.a, .int .i64 R.b, .sl 1 (y.2.1.map (PV.int .i64)) (some y.2.2)], .tok y.2.2, .box b4 [.int .i64 0, .int .i64 0, .int .i64 0, .int .i64 0, .nil], .box b2 [.int .i64 x.op, .int .i64 x.d, .int .i64 x.a, .int .i64 x.b, slI x.l]]) (fun y => y.1 ≤ x.l.length ∧ y.2.2.e = 3 ∧ y.2.1 = (x.l.take y.1).map fun n => at_.getD n.toNat 0) (fun y => x.l.length - y.1) (0, [], nilTok 1 3) ⟨Nat.zero_le _, rfl, rfl⟩ wA ?_
 rintro ⟨i, out, t⟩ ⟨hi, hte, ho⟩
 dsimp only at hi hte ho ⊢
 have hol := congrArg List.length ho
 rw [List.length_map, List.length_take] at hol
 rcases Nat.lt_or_ge i x.l.length with hil | hil
 ·have hli := hl x.l[i] (List.getElem_mem _)
  conv => whnf
  repeat' (first|((first|((first|(apply zY;intro hg)|apply zZ);first|exact stA|exact stB|((conv=>whnf);(repeat ((first|(refine zW ?_ ?_;exact gA)|refine pC (hnm) wR ?_|refine zA ?_|refine zH rfl ?_|refine zB ?_|refine sG ?_|intro _);conv=>whnf));first|exact pS|exact pL|exact pE))|(refine zW ?_ ?_;exact gA)|refine zH rfl ?_|refine zA ?_|refine zI bA ?_|refine zI rfl ?_|refine sB ?_|(refine zO ?_ ?_ ?_;omega;omega)|(refine zP ?_ ?_ ?_;omega;omega)|refine zM rfl ?_|(refine zQ ?_ ?_ ?_;omega;omega)|(refine zR ?_ ?_;omega)|(refine zI ?_ ?_;exact nA)|refine sS ?_|refine pC (hnm) wR ?_|refine sF ?_|refine n0 ?_|refine sD ?_|refine PDraw.sP (some 79) rfl [] [11,12,13] tt_ok mixed ?_|intro _|refine zG ?_);conv=>whnf)|(refine zX (fun hc => ?_) (fun hc => ?_)<;>(try simp only [SY] at hc)<;>first|omega|(conv=>whnf)))
  exact loopTo (i + 1, out ++ [_], _) ⟨by show i + 1 ≤ _; omega, by assumption, by dsimp only; rw [List.take_succ_eq_append_getElem hil, List.map_append, ← ho, List.map_cons, List.map_nil, gD (by omega)]⟩ (by show x.l.length - (i + 1) < x.l.length - i; omega) wA
 ·conv => whnf
  repeat' (first|((first|((first|(apply zY;intro hg)|apply zZ);first|exact stA|exact stB|((conv=>whnf);(repeat ((first|(refine zW ?_ ?_;exact gA)|refine pC (hnm) wR ?_|refine zA ?_|refine zH rfl ?_|refine zB ?_|refine sG ?_|intro _);conv=>whnf));first|exact pS|exact pL|exact pE))|(refine zW ?_ ?_;exact gA)|refine zH rfl ?_|refine zA ?_|refine zI bA ?_|refine zI rfl ?_|refine sB ?_|(refine zO ?_ ?_ ?_;omega;omega)|(refine zP ?_ ?_ ?_;omega;omega)|refine zM rfl ?_|(refine zQ ?_ ?_ ?_;omega;omega)|(refine zR ?_ ?_;omega)|(refine zI ?_ ?_;exact nA)|refine sS ?_|refine pC (hnm) wR ?_|refine sF ?_|refine n0 ?_|refine sD ?_|refine PDraw.sP (some 79) rfl [] [11,12,13] tt_ok mixed ?_|intro _|refine zG ?_);conv=>whnf)|(refine zX (fun hc => ?_) (fun hc => ?_)<;>(try simp only [SY] at hc)<;>first|omega|(conv=>whnf)))
  rw [List.take_of_length_le (by omega), ← hRl] at ho
  subst ho
  exact PRet.pure (Wk.agg (.cons (Wk.refl _) (.cons (Wk.refl _) (.cons (Wk.refl _) (.cons (Wk.refl _) (.cons (Wk.tok _ _ _) .nil))))))
end Go.Cb
namespace Go.Cb
open Go.Proofs
set_option maxRecDepth 100000
set_option maxHeartbeats 4000000
theorem clsB_iff (c : List Ins) (af : List (List Int)) (out : List Int) (r : Nat) (s : Int) : clsB c af out r s = true ↔ ∃ q : Nat, q < r ∧ out.getD q 0 = s ∧ itfB c af q r = true := by
 unfold clsB
 rw [List.any_eq_true]
 constructor
 ·rintro ⟨q, hq, h⟩
  rw [Bool.and_eq_true, beq_iff_eq] at h
  exact ⟨q, List.mem_range.1 hq, h.1, h.2⟩
 ·rintro ⟨q, hq, h1, h2⟩
  exact ⟨q, List.mem_range.2 hq, by rw [Bool.and_eq_true, beq_iff_eq]; exact ⟨h1, h2⟩⟩
theorem clsB_lt {args : Int} {c : List Ins} {af : List (List Int)} {r : Nat} {s : Int} (h : clsB c af (sltF args c af r) r s = true) : s < r := by
 obtain ⟨q, hq, h1, _⟩ := (clsB_iff ..).1 h
 have := sltF_le args c af r q hq
 omega
theorem slots17_c (p : Prc) (af : List (List Int)) (haf : af.length = p.code.length) (hx : ∀ x ∈ p.code, x.l.length ≤ 1000000) (hrg : p.regs ≤ 20000) : ACallP Tryz.prog 63 [.agg p.cells, .sl 1 (af.map slI) none] (slI (sltF p.args p.code af p.regs.toNat)) := by
 have hit : ∀ a b : Int, ACallP Tryz.prog 111 [.agg p.cells, .sl 1 (af.map slI) none, .int .i64 a, .int .i64 b] (.bool (itfB p.code af a b)) := fun a b => interfere17_c p af a b haf hx
 have hnm : ∀ r : Int, ACallP Tryz.prog 110 [.agg p.cells, .int .i64 r] (.bool (nmdB p.code r)) := fun r => named17_c p r hx
 refine ACall.of_body tt_ok Tryz.func63 rfl rfl (n := 61) rfl rfl ?_
 conv => whnf
 repeat' (first|((first|((first|(apply zY;intro hg)|apply zZ);first|exact stA|exact stB|((conv=>whnf);(repeat ((first|(refine zW ?_ ?_;exact gA)|refine pC (hit _ _) wR ?_|refine pC (hnm _) wR ?_|refine zA ?_|refine zH rfl ?_|refine zB ?_|refine sG ?_|intro _);conv=>whnf));first|exact pS|exact pL|exact pE))|(refine zW ?_ ?_;exact gA)|refine zH rfl ?_|refine zA ?_|refine zI bA ?_|refine zI rfl ?_|refine sB ?_|(refine zO ?_ ?_ ?_;omega;omega)|(refine zP ?_ ?_ ?_;omega;omega)|refine zM rfl ?_|(refine zQ ?_ ?_ ?_;omega;omega)|(refine zR ?_ ?_;omega)|(refine zI ?_ ?_;exact nA)|refine sS ?_|refine pC (hit _ _) wR ?_|refine pC (hnm _) wR ?_|refine sF ?_|refine n0 ?_|refine sD ?_|intro _|refine zG ?_);conv=>whnf)|(refine zX (fun hc => ?_) (fun hc => ?_)<;>(try simp only [SY] at hc)<;>first|omega|(conv=>whnf)))
 rename_i b2
 refine PLoop.ghost (Ghost.nil 1 3 _) ?_
 refine PLoop.over [5, 6, 7, 8, 9, 10, 11, 12, 13, 14, 15, 16, 17, 18, 19, 20, 21, 22, 23, 24, 25, 26, 27, 28, 29, 30, 31, 32, 33, 34, 35, 36, 37, 38, 39, 40, 41, 42, 43, 44, 45, 46, 47, 48, 49, 50, 51, 52, 53, 54, 55, 56, 57, 58, 59] (fun x : Nat × List Int × Tok => [(5, .sl 1 (x.2.1.map (PV.int .i64)) (some x.2.2)), (6, .int .i64 x.1)]) (fun x => [.tok x.2.2, .box b2 (prX p)]) (fun x => x.1 ≤ p.regs.toNat ∧ x.2.2.e = 3 ∧ x.2.1 = sltF p.args p.code af x.1) (fun x => p.regs.toNat - x.1) (0, [], nilTok 1 3) ⟨Nat.zero_le _, rfl, rfl⟩ wA ?_
 rintro ⟨r, out, t⟩ ⟨hr, hte, ho⟩
 dsimp only at hr hte ho ⊢
 have hol := sltF_len p.args p.code af r
 have hst : sltF p.args p.code af (r + 1) = sltF p.args p.code af r ++ [if (r : Int) < p.args then (r : Int) else if nmdB p.code r = true then srcF (clsB p.code af (sltF p.args p.code af r) r) (r + 1) 0 else -1] := by rw [sltF]
 have hlt : ∀ s : Int, clsB p.code af out r s = true → s < r := fun s h => clsB_lt (args := p.args) (by rw [← ho]; exact h)
 rw [← ho] at hol hst
 conv => whnf
 repeat' (first|((first|((first|(apply zY;intro hg)|apply zZ);first|exact stA|exact stB|((conv=>whnf);(repeat ((first|(refine zW ?_ ?_;exact gA)|refine pC (hit _ _) wR ?_|refine pC (hnm _) wR ?_|refine zA ?_|refine zH rfl ?_|refine zB ?_|refine sG ?_|intro _);conv=>whnf));first|exact pS|exact pL|exact pE))|(refine zW ?_ ?_;exact gA)|refine zH rfl ?_|refine zA ?_|refine zI bA ?_|refine zI rfl ?_|refine sB ?_|(refine zO ?_ ?_ ?_;omega;omega)|(refine zP ?_ ?_ ?_;omega;omega)|refine zM rfl ?_|(refine zQ ?_ ?_ ?_;omega;omega)|(refine zR ?_ ?_;omega)|(refine zI ?_ ?_;exact nA)|refine sS ?_|refine pC (hit _ _) wR ?_|refine pC (hnm _) wR ?_|refine sF ?_|refine n0 ?_|refine sD ?_|intro _|refine zG ?_);conv=>whnf)|(refine zX (fun hc => ?_) (fun hc => ?_)<;>(try simp only [SY] at hc)<;>first|omega|(conv=>whnf)))
 ·rw [if_pos hc] at hst
  exact loopTo (r + 1, out ++ [(r : Int)], _) ⟨by show r + 1 ≤ _; omega, by assumption, by dsimp only; rw [hst]⟩ (by show p.regs.toNat - (r + 1) < p.regs.toNat - r; omega) wA
 ·rw [if_neg (by omega), if_neg (by rw [hc]; simp)] at hst
  exact loopTo (r + 1, out ++ [(-1 : Int)], _) ⟨by show r + 1 ≤ _; omega, by assumption, by dsimp only; rw [hst]⟩ (by show p.regs.toNat - (r + 1) < p.regs.toNat - r; omega) wA
 ·rw [if_neg (by omega), if_pos hc] at hst
  generalize hF : srcF (clsB p.code af out r) (r + 1) 0 = S at *
  refine PLoop.keep [7, 8, 9, 31, 32, 33, 34, 35, 36, 37, 38, 39, 40, 41, 42, 43, 44, 45, 46, 47, 48, 49, 50, 51, 52, 53, 54, 55] (fun x : Int × Bool => [(7, .int .i64 x.1), (8, .bool x.2)]) (fun x => 0 ≤ x.1 ∧ x.1 ≤ r ∧ (x.2 = true → srcF (clsB p.code af out r) (r + 1 - x.1.toNat) x.1 = S) ∧ (x.2 = false → x.1 = S)) (fun x => if x.2 = true then r + 2 - x.1.toNat else 0) (0, true) ⟨by omega, by omega, fun _ => hF, fun h => by cases h⟩ wA ?_
  rintro ⟨s, ag⟩ ⟨hs0, hs1, hs2, hs3⟩
  dsimp only at hs0 hs1 hs2 hs3 ⊢
  conv => whnf
  repeat' (first|((first|((first|(apply zY;intro hg)|apply zZ);first|exact stA|exact stB|((conv=>whnf);(repeat ((first|(refine zW ?_ ?_;exact gA)|refine pC (hit _ _) wR ?_|refine pC (hnm _) wR ?_|refine zA ?_|refine zH rfl ?_|refine zB ?_|refine sG ?_|intro _);conv=>whnf));first|exact pS|exact pL|exact pE))|(refine zW ?_ ?_;exact gA)|refine zH rfl ?_|refine zA ?_|refine zI bA ?_|refine zI rfl ?_|refine sB ?_|(refine zO ?_ ?_ ?_;omega;omega)|(refine zP ?_ ?_ ?_;omega;omega)|refine zM rfl ?_|(refine zQ ?_ ?_ ?_;omega;omega)|(refine zR ?_ ?_;omega)|(refine zI ?_ ?_;exact nA)|refine sS ?_|refine pC (hit _ _) wR ?_|refine pC (hnm _) wR ?_|refine sF ?_|refine n0 ?_|refine sD ?_|intro _|refine zG ?_);conv=>whnf)|(refine zX (fun hc => ?_) (fun hc => ?_)<;>(try simp only [SY] at hc)<;>first|omega|(conv=>whnf)))
  ·have hs4 := hs2 hc
   obtain ⟨g, hg⟩ : ∃ g, r + 1 - s.toNat = g + 1 := ⟨r - s.toNat, by omega⟩
   rw [hg, srcF] at hs4
   refine PLoop.keep [7, 8, 9, 32, 33, 34, 35, 36, 37, 38, 39, 40, 41, 42, 43, 44, 45, 46, 47, 48, 49, 50, 51, 52, 53, 54, 55] (fun x : Int × Bool × Nat => [(7, .int .i64 x.1), (8, .bool x.2.1), (9, .int .i64 x.2.2)]) (fun x => x.2.2 ≤ r ∧ ((x.2.1 = false ∧ x.1 = s ∧ ∀ q : Nat, q < x.2.2 → ¬(out.getD q 0 = s ∧ itfB p.code af q r = true)) ∨ (x.2.1 = true ∧ x.1 = s + 1 ∧ clsB p.code af out r s = true))) (fun x => r - x.2.2) (s, false, 0) ⟨Nat.zero_le _, .inl ⟨rfl, rfl, fun q h => by dsimp only at h; omega⟩⟩ wA ?_
   rintro ⟨s2, a2, q⟩ ⟨hq, hor⟩
   dsimp only at hq hor ⊢
   conv => whnf
   repeat' (first|((first|((first|(apply zY;intro hg)|apply zZ);first|exact stA|exact stB|((conv=>whnf);(repeat ((first|(refine zW ?_ ?_;exact gA)|refine pC (hit _ _) wR ?_|refine pC (hnm _) wR ?_|refine zA ?_|refine zH rfl ?_|refine zB ?_|refine sG ?_|intro _);conv=>whnf));first|exact pS|exact pL|exact pE))|(refine zW ?_ ?_;exact gA)|refine zH rfl ?_|refine zA ?_|refine zI bA ?_|refine zI rfl ?_|refine sB ?_|(refine zO ?_ ?_ ?_;omega;omega)|(refine zP ?_ ?_ ?_;omega;omega)|refine zM rfl ?_|(refine zQ ?_ ?_ ?_;omega;omega)|(refine zR ?_ ?_;omega)|(refine zI ?_ ?_;exact nA)|refine sS ?_|refine pC (hit _ _) wR ?_|refine pC (hnm _) wR ?_|refine sF ?_|refine n0 ?_|refine sD ?_|intro _|refine zG ?_);conv=>whnf)|(refine zX (fun hc => ?_) (fun hc => ?_)<;>(try simp only [SY] at hc)<;>first|omega|(conv=>whnf)))
   ·have hql : q < out.length := by omega
    rw [← gD hql] at hc
    rcases hor with ⟨h1, h2, h3⟩ | ⟨h1, h2, h3⟩
    ·subst h2
     exact loopTo (s2 + 1, true, q + 1) ⟨by show q + 1 ≤ r; omega, .inr ⟨rfl, rfl, (clsB_iff ..).2 ⟨q, by omega, hc⟩⟩⟩ (by show r - (q + 1) < r - q; omega) wA
    ·exfalso
     have := ‹(q : Int) < (r : Int) ∧ a2 = false›
     rw [h1] at this
     cases this.2
   ·have hql : q < out.length := by omega
    rw [← gD hql] at hc
    rcases hor with ⟨h1, h2, h3⟩ | ⟨h1, h2, h3⟩
    ·exact loopTo (s2, a2, q + 1) ⟨by show q + 1 ≤ r; omega, .inl ⟨h1, h2, fun q2 hq2 => by
      by_cases e : q2 = q
      ·subst e
       rw [h2] at hc
       rintro ⟨k1, k2⟩
       rcases hc with hc | hc
       ·exact hc k1
       ·rw [hc] at k2; cases k2
      ·exact h3 q2 (by dsimp only at hq2; omega)⟩⟩ (by show r - (q + 1) < r - q; omega) wA
    ·exfalso
     have := ‹(q : Int) < (r : Int) ∧ a2 = false›
     rw [h1] at this
     cases this.2
   ·rcases hor with ⟨h1, h2, h3⟩ | ⟨h1, h2, h3⟩
    ·have hqr : q = r := by
      rcases hc with hc | hc
      ·omega
      ·rw [hc] at h1; cases h1
     subst hqr
     have hcf : ¬clsB p.code af out q s = true := fun h => by
      obtain ⟨k, hk, h4, h5⟩ := (clsB_iff ..).1 h
      exact h3 k hk ⟨h4, h5⟩
     rw [if_neg hcf] at hs4
     exact loopTo (s2, a2) ⟨by show 0 ≤ s2; omega, by show s2 ≤ _; omega, (fun h => by (dsimp only at h; rw [h] at h1; cases h1)), fun _ => by show s2 = S; omega⟩ (by show (if a2 = true then q + 2 - s2.toNat else 0) < if ag = true then q + 2 - s.toNat else 0; rw [h1, if_neg (by simp), if_pos (by assumption)]; omega) wA
    ·rw [if_pos h3] at hs4
     have hsl := hlt s h3
     exact loopTo (s2, a2) ⟨by show 0 ≤ s2; omega, by show s2 ≤ (r : Int); omega, fun _ => by
      show srcF _ (r + 1 - s2.toNat) s2 = S
      rw [h2, show r + 1 - (s + 1).toNat = g by omega]
      exact hs4, fun h => by dsimp only at h; rw [h] at h1; cases h1⟩ (by show (if a2 = true then r + 2 - s2.toNat else 0) < if ag = true then r + 2 - s.toNat else 0; rw [h1, if_pos rfl, if_pos (by assumption)]; omega) wA
  ·have hs4 := hs3 hc
   exact loopTo (r + 1, out ++ [s], _) ⟨by show r + 1 ≤ _; omega, by assumption, by dsimp only; rw [hst, hs4]⟩ (by show p.regs.toNat - (r + 1) < p.regs.toNat - r; omega) wA
 ·obtain rfl : r = p.regs.toNat := by omega
  subst ho
  exact PRet.pure (Wk.tok _ _ _)
end Go.Cb
namespace Go.Cb
open Go.Proofs
set_option maxRecDepth 100000
set_option maxHeartbeats 4000000
instance (priority := high) ElOf.icells (t : Ins) : ElOf Ins.pv (.agg t.cells) t := ⟨Wk.refl _, WkL.refl _⟩
theorem regsF_snoc (l : List Int) (x s : Int) : regsF (l ++ [x]) s = max (regsF l s) (x + 1) := by
 unfold regsF
 rw [List.foldl_append]
 rfl
theorem regsF_bd : ∀ (l : List Int) (s : Int), (∀ x ∈ l, -1 ≤ x ∧ x ≤ 20000) → 0 ≤ s → s ≤ 20001 → 0 ≤ regsF l s ∧ regsF l s ≤ 20001
 | [], s, _, h0, h1 => ⟨h0, h1⟩
 | x :: l, s, h, h0, h1 => by
  have hx := h x (by simp)
  exact regsF_bd l (max s (x + 1)) (fun y hy => h y (by simp [hy])) (by omega) (by omega)
theorem color17_c (u : Unt) (hu : Lim u) : ACallP Tryz.prog 27 [.agg u.cells] (colPV u) := by
 have hsd := sound16_c u hu
 unfold colPV colR
 by_cases hs : sndB u = true
 ·rw [if_pos hs]
  rw [hs] at hsd
  have h0 : chkU u = 0 := by
   unfold sndB at hs
   rw [Bool.and_eq_true, beq_iff_eq] at hs
   exact hs.1
  have hX : ∀ p ∈ u.procs, ∀ x ∈ p.code, x.l.length ≤ 1000000 := fun p hp x hx => by have := (hu.2 p hp).2 x hx; omega
  have haf : ∀ (n : Nat) (hn : n < u.procs.length), ACallP Tryz.prog 32 [.agg u.cells, .int .i64 (n : Int)] (.tup [.sl 1 ((aftP u.procs[n]).map slI) none, .int .i64 0]) := fun n hn => after16_c u hu h0 n hn
  have hsl : ∀ (n : Nat) (hn : n < u.procs.length), ACallP Tryz.prog 63 [.agg u.procs[n].cells, .sl 1 ((aftP u.procs[n]).map slI) none] (slI (sltP u.procs[n])) := fun n hn =>
   slots17_c u.procs[n] _ (aftF_len ..) (hX _ (List.getElem_mem hn)) (prF h0 _ (List.getElem_mem hn)).rg.2
  refine ACall.of_body tt_ok Tryz.func27 rfl rfl (n := 138) rfl rfl ?_
  conv => whnf
  repeat' (first|((first|((first|(apply zY;intro hg)|apply zZ);first|exact stA|exact stB|((conv=>whnf);(repeat ((first|(refine zW ?_ ?_;exact gA)|refine pC (hsd) wR ?_|refine pC (haf _ (by omega)) wR ?_|refine pC (hsl _ (by omega)) wR ?_|refine zA ?_|refine zH rfl ?_|refine zB ?_|refine sG ?_|intro _);conv=>whnf));first|exact pS|exact pL|exact pE))|(refine zW ?_ ?_;exact gA)|refine zH rfl ?_|refine zA ?_|refine zI bA ?_|refine zI rfl ?_|refine sB ?_|(refine zO ?_ ?_ ?_;omega;omega)|(refine zP ?_ ?_ ?_;omega;omega)|refine zM rfl ?_|(refine zQ ?_ ?_ ?_;omega;omega)|(refine zR ?_ ?_;omega)|(refine zI ?_ ?_;exact nA)|refine sS ?_|refine pC (hsd) wR ?_|refine pC (haf _ (by omega)) wR ?_|refine pC (hsl _ (by omega)) wR ?_|refine sF ?_|refine n0 ?_|refine sD ?_|refine PDraw.sP (some 58) rfl [] [9] tt_ok mixed ?_|refine PDraw.sP (some 74) rfl [] [10,11,12] tt_ok mixed ?_|intro _|refine zG ?_);conv=>whnf)|(refine zX (fun hc => ?_) (fun hc => ?_)<;>(try simp only [SY] at hc)<;>first|omega|(conv=>whnf)))
  rename_i b1 b2 b4
  refine PLoop.ghost (Ghost.trans (Ghost.nil 5 57 _) (Ghost.box (b := b4) (cs := [.sl 5 (u.consts.map Datum.pv) none, .nil]) (cs' := [.sl 5 (u.consts.map Datum.pv) none, .sl 5 (([] : List Prc).map Prc.pv) (some (nilTok 5 57))]) wA)) ?_
  refine PLoop.over [5, 6, 7, 8, 9, 10, 11, 12, 13, 14, 15, 16, 24, 25, 26, 27, 28, 29, 30, 31, 32, 33, 34, 35, 36, 37, 38, 39, 40, 41, 42, 43, 44, 45, 46, 47, 48, 49, 50, 51, 52, 53, 54, 55, 56, 57, 58, 59, 60, 61, 62, 63, 64, 65, 66, 67, 68, 69, 70, 71, 72, 73, 74, 75, 76, 77, 78, 79, 80, 81, 82, 83, 84, 85, 86, 87, 88, 89, 90, 91, 92, 93, 94, 95, 96, 97, 98, 99, 100, 101, 102, 103, 104, 105, 106, 107, 108, 109, 110, 111, 112, 113, 114, 115, 116, 117, 118, 119, 120, 121, 122, 123, 124, 125, 126, 127, 128, 129, 130, 131, 132, 133, 134, 135, 136] (fun x : Nat × List Prc × Tok => [(5, .int .i64 x.1)]) (fun x => [.box b4 [.sl 5 (u.consts.map Datum.pv) none, .sl 5 (x.2.1.map Prc.pv) (some x.2.2)], .tok x.2.2, .box b2 [.nil, .nil], .box b1 (unX u)]) (fun x => x.1 ≤ u.procs.length ∧ x.2.2.e = 57 ∧ x.2.1 = (u.procs.take x.1).map colP) (fun x => u.procs.length - x.1) (0, [], nilTok 5 57) ⟨Nat.zero_le _, rfl, rfl⟩ wA ?_
  rintro ⟨n, out, t⟩ ⟨hn, hte, ho⟩
  dsimp only at hn hte ho ⊢
  have hup := hu.1
  have hol := congrArg List.length ho
  rw [List.length_map, List.length_take] at hol
  rcases Nat.lt_or_ge n u.procs.length with hnl | hnl
  ·have hp := prF h0 u.procs[n] (List.getElem_mem hnl)
   have hxp := hX u.procs[n] (List.getElem_mem hnl)
   have hcl := (hu.2 u.procs[n] (List.getElem_mem hnl)).1
   have htk : (u.procs.take (n + 1)).map colP = out ++ [colP u.procs[n]] := by rw [List.take_succ_eq_append_getElem hnl, List.map_append, ← ho]; rfl
   conv => whnf
   repeat' (first|((first|((first|(apply zY;intro hg)|apply zZ);first|exact stA|exact stB|((conv=>whnf);(repeat ((first|(refine zW ?_ ?_;exact gA)|refine pC (hsd) wR ?_|refine pC (haf _ (by omega)) wR ?_|refine pC (hsl _ (by omega)) wR ?_|refine zA ?_|refine zH rfl ?_|refine zB ?_|refine sG ?_|intro _);conv=>whnf));first|exact pS|exact pL|exact pE))|(refine zW ?_ ?_;exact gA)|refine zH rfl ?_|refine zA ?_|refine zI bA ?_|refine zI rfl ?_|refine sB ?_|(refine zO ?_ ?_ ?_;omega;omega)|(refine zP ?_ ?_ ?_;omega;omega)|refine zM rfl ?_|(refine zQ ?_ ?_ ?_;omega;omega)|(refine zR ?_ ?_;omega)|(refine zI ?_ ?_;exact nA)|refine sS ?_|refine pC (hsd) wR ?_|refine pC (haf _ (by omega)) wR ?_|refine pC (hsl _ (by omega)) wR ?_|refine sF ?_|refine n0 ?_|refine sD ?_|refine PDraw.sP (some 58) rfl [] [9] tt_ok mixed ?_|refine PDraw.sP (some 74) rfl [] [10,11,12] tt_ok mixed ?_|intro _|refine zG ?_);conv=>whnf)|(refine zX (fun hc => ?_) (fun hc => ?_)<;>(try simp only [SY] at hc)<;>first|omega|(conv=>whnf)))
   rename_i b6 b10
   generalize u.procs[n] = p at *
   have hrg := hp.rg
   have hag := hp.ag
   have hal : (sltP p).length = p.regs.toNat := sltF_len ..
   have hae : ∀ x ∈ sltP p, -1 ≤ x ∧ x ≤ 20000 := fun x hx => by
    obtain ⟨q, hq, rfl⟩ := List.mem_iff_getElem.1 hx
    have := sltF_le p.args p.code (aftP p) p.regs.toNat q (by omega)
    rw [show sltF p.args p.code (aftP p) p.regs.toNat = sltP p from rfl, gD hq] at this
    omega
   have hfl : (aftP p).length = p.code.length := aftF_len ..
   have hfm : ∀ (k : Nat) (hk : k < (aftP p).length), ∀ r ∈ (aftP p)[k], 0 ≤ r ∧ r < (sltP p).length := fun k hk r hr => by
    have h1 : (aftP p)[k] = liveF p.code p.regs.toNat (nxtL (insD p.code k) k) := by
     simp [aftP, aftF]
    rw [h1] at hr
    have := liveF_mem hr
    omega
   have hfk : ∀ (k : Nat) (hk : k < (aftP p).length), (aftP p)[k].length ≤ 20000 := fun k hk => by
    have h1 : (aftP p)[k] = liveF p.code p.regs.toNat (nxtL (insD p.code k) k) := by
     simp [aftP, aftF]
    rw [h1]
    have := liveF_len p.code p.regs.toNat (nxtL (insD p.code k) k)
    omega
   have hcp : colP p = ⟨p.args, p.rest, regsF (sltP p) p.args, p.code.map fun x => renI x (sltP p), (p.code.zip (aftP p)).map fun q => alvF (sltP p) (givesI q.1) q.2 []⟩ := rfl
   generalize sltP p = at_ at *
   generalize aftP p = af at *
   refine PLoop.over [11, 52, 53, 54, 55, 56, 57, 58, 59, 60, 61, 62, 63, 64, 65, 66] (fun x : Nat × Int => [(11, .int .i64 x.1)]) (fun x => [.box b10 [.int .i64 p.args, .bool p.rest, .int .i64 x.2, .nil, .nil], .box b6 (prX p), .box b4 [.sl 5 (u.consts.map Datum.pv) none, .sl 5 (out.map Prc.pv) (some t)], .tok t, .box b2 [.nil, .nil], .box b1 (unX u)]) (fun x => x.1 ≤ at_.length ∧ x.2 = regsF (at_.take x.1) p.args) (fun x => at_.length - x.1) (0, p.args) ⟨Nat.zero_le _, rfl⟩ wA ?_
   rintro ⟨i, s⟩ ⟨hi, hs2⟩
   dsimp only at hi hs2 ⊢
   have hsb := regsF_bd (at_.take i) p.args (fun x hx => hae x (List.mem_of_mem_take hx)) (by omega) (by omega)
   rw [← hs2] at hsb
   rcases Nat.lt_or_ge i at_.length with hil | hil
   ·have hax := hae at_[i] (List.getElem_mem _)
    conv => whnf
    repeat' (first|((first|((first|(apply zY;intro hg)|apply zZ);first|exact stA|exact stB|((conv=>whnf);(repeat ((first|(refine zW ?_ ?_;exact gA)|refine pC (hsd) wR ?_|refine pC (haf _ (by omega)) wR ?_|refine pC (hsl _ (by omega)) wR ?_|refine zA ?_|refine zH rfl ?_|refine zB ?_|refine sG ?_|intro _);conv=>whnf));first|exact pS|exact pL|exact pE))|(refine zW ?_ ?_;exact gA)|refine zH rfl ?_|refine zA ?_|refine zI bA ?_|refine zI rfl ?_|refine sB ?_|(refine zO ?_ ?_ ?_;omega;omega)|(refine zP ?_ ?_ ?_;omega;omega)|refine zM rfl ?_|(refine zQ ?_ ?_ ?_;omega;omega)|(refine zR ?_ ?_;omega)|(refine zI ?_ ?_;exact nA)|refine sS ?_|refine pC (hsd) wR ?_|refine pC (haf _ (by omega)) wR ?_|refine pC (hsl _ (by omega)) wR ?_|refine sF ?_|refine n0 ?_|refine sD ?_|refine PDraw.sP (some 58) rfl [] [9] tt_ok mixed ?_|refine PDraw.sP (some 74) rfl [] [10,11,12] tt_ok mixed ?_|intro _|refine zG ?_);conv=>whnf)|(refine zX (fun hc => ?_) (fun hc => ?_)<;>(try simp only [SY] at hc)<;>first|omega|(conv=>whnf)))
    exact loopTo (i + 1, if s < at_[i] + 1 then at_[i] + 1 else s) ⟨by show i + 1 ≤ _; omega, by dsimp only; rw [List.take_succ_eq_append_getElem hil, regsF_snoc, ← hs2]; split <;> omega⟩ (by show at_.length - (i + 1) < at_.length - i; omega) wA
   rw [List.take_of_length_le hil] at hs2
   have hrn : ∀ (k : Nat) (hk : k < p.code.length), ACallP Tryz.prog 64 [.agg p.code[k].cells, slI at_] (.agg (renI p.code[k] at_).cells) := fun k hk => by
    have hm := List.getElem_mem hk
    have h1 := hp.gv _ hm
    exact renamed17_c p.code[k] at_ (hxp _ hm) (by omega) (fun n hn => by have := hp.nm _ hm n hn; omega) (fun n hn => by have := hp.ls _ hm n hn; omega)
   have hnm : ∀ k (hk : k < p.code.length), ACallP Tryz.prog 34 [.agg p.code[k].cells] (.tup [slI (namedL p.code[k]), .int .i64 (givesI p.code[k])]) := fun k hk => named_c _ (hxp _ (List.getElem_mem hk))
   conv => whnf
   repeat' (first|((first|((first|(apply zY;intro hg)|apply zZ);first|exact stA|exact stB|((conv=>whnf);(repeat ((first|(refine zW ?_ ?_;exact gA)|refine pC (hsd) wR ?_|refine pC (haf _ (by omega)) wR ?_|refine pC (hsl _ (by omega)) wR ?_|refine pC (hrn _ (by omega)) wR ?_|refine pC (hnm _ (by omega)) wR ?_|refine zA ?_|refine zH rfl ?_|refine zB ?_|refine sG ?_|intro _);conv=>whnf));first|exact pS|exact pL|exact pE))|(refine zW ?_ ?_;exact gA)|refine zH rfl ?_|refine zA ?_|refine zI bA ?_|refine zI rfl ?_|refine sB ?_|(refine zO ?_ ?_ ?_;omega;omega)|(refine zP ?_ ?_ ?_;omega;omega)|refine zM rfl ?_|(refine zQ ?_ ?_ ?_;omega;omega)|(refine zR ?_ ?_;omega)|(refine zI ?_ ?_;exact nA)|refine sS ?_|refine pC (hsd) wR ?_|refine pC (haf _ (by omega)) wR ?_|refine pC (hsl _ (by omega)) wR ?_|refine pC (hrn _ (by omega)) wR ?_|refine pC (hnm _ (by omega)) wR ?_|refine sF ?_|refine n0 ?_|refine sD ?_|refine PDraw.sP (some 58) rfl [] [9] tt_ok mixed ?_|refine PDraw.sP (some 74) rfl [] [10,11,12] tt_ok mixed ?_|intro _|refine zG ?_);conv=>whnf)|(refine zX (fun hc => ?_) (fun hc => ?_)<;>(try simp only [SY] at hc)<;>first|omega|(conv=>whnf)))
   refine PLoop.ghost (Ghost.trans (Ghost.nil 5 59 _) (Ghost.trans (Ghost.nil 1 23 _) (Ghost.box (b := b10) (cs := [.int .i64 p.args, .bool p.rest, .int .i64 s, .nil, .nil]) (cs' := [.int .i64 p.args, .bool p.rest, .int .i64 s, .sl 5 (([] : List Ins).map Ins.pv) (some (nilTok 5 59)), .sl 1 (([] : List (List Int)).map slI) (some (nilTok 1 23))]) wA))) ?_
   refine PLoop.over [12, 13, 14, 15, 16, 67, 68, 69, 70, 71, 72, 73, 74, 75, 76, 77, 78, 79, 80, 81, 82, 83, 84, 85, 86, 87, 88, 89, 90, 91, 92, 93, 94, 95, 96, 97, 98, 99, 100, 101, 102, 103, 104, 105, 106, 107, 108, 109, 110, 111, 112, 113, 114, 115, 116, 117, 118, 119, 120, 121, 122, 123, 124, 125, 126, 127, 128, 129, 130] (fun x : Nat × (List Ins × Tok) × (List (List Int) × Tok) => [(12, .int .i64 x.1)]) (fun x => [.box b10 [.int .i64 p.args, .bool p.rest, .int .i64 s, .sl 5 (x.2.1.1.map Ins.pv) (some x.2.1.2), .sl 1 (x.2.2.1.map slI) (some x.2.2.2)], .tok x.2.1.2, .tok x.2.2.2, .box b6 (prX p), .box b4 [.sl 5 (u.consts.map Datum.pv) none, .sl 5 (out.map Prc.pv) (some t)], .tok t, .box b2 [.nil, .nil], .box b1 (unX u)])
    (fun x => x.1 ≤ p.code.length ∧ x.2.1.2.e = 59 ∧ x.2.2.2.e = 23 ∧ x.2.1.1 = (p.code.take x.1).map (fun x => renI x at_) ∧ x.2.2.1 = ((p.code.zip af).take x.1).map (fun q => alvF at_ (givesI q.1) q.2 [])) (fun x => p.code.length - x.1) (0, ([], nilTok 5 59), ([], nilTok 1 23)) ⟨Nat.zero_le _, rfl, rfl, rfl, rfl⟩ wA ?_
   rintro ⟨k, ⟨cs, tc⟩, ⟨as_, ta⟩⟩ ⟨hk, htc, hta, hcs, has⟩
   dsimp only at hk htc hta hcs has ⊢
   have hcsl := congrArg List.length hcs
   have hasl := congrArg List.length has
   rw [List.length_map, List.length_take] at hcsl
   rw [List.length_map, List.length_take, List.length_zip] at hasl
   rcases Nat.lt_or_ge k p.code.length with hkl | hkl
   ·have hfk2 := hfk k (by omega)
    have hfm2 := hfm k (by omega)
    have hki : k < (p.code.zip af).length := by rw [List.length_zip]; omega
    have hcs2 : (p.code.take (k + 1)).map (fun x => renI x at_) = cs ++ [renI p.code[k] at_] := by rw [List.take_succ_eq_append_getElem hkl, List.map_append, ← hcs]; rfl
    have has2 : ((p.code.zip af).take (k + 1)).map (fun q => alvF at_ (givesI q.1) q.2 []) = as_ ++ [alvF at_ (givesI p.code[k]) (af[k]'(by omega)) []] := by
     rw [List.take_succ_eq_append_getElem hki, List.map_append, ← has, List.map_cons, List.map_nil, List.getElem_zip]
    conv => whnf
    repeat' (first|((first|((first|(apply zY;intro hg)|apply zZ);first|exact stA|exact stB|((conv=>whnf);(repeat ((first|(refine zW ?_ ?_;exact gA)|refine pC (hsd) wR ?_|refine pC (haf _ (by omega)) wR ?_|refine pC (hsl _ (by omega)) wR ?_|refine pC (hrn _ (by omega)) wR ?_|refine pC (hnm _ (by omega)) wR ?_|refine pC (put17_c _ _ (by omega)) wR ?_|refine zA ?_|refine zH rfl ?_|refine zB ?_|refine sG ?_|intro _);conv=>whnf));first|exact pS|exact pL|exact pE))|(refine zW ?_ ?_;exact gA)|refine zH rfl ?_|refine zA ?_|refine zI bA ?_|refine zI rfl ?_|refine sB ?_|(refine zO ?_ ?_ ?_;omega;omega)|(refine zP ?_ ?_ ?_;omega;omega)|refine zM rfl ?_|(refine zQ ?_ ?_ ?_;omega;omega)|(refine zR ?_ ?_;omega)|(refine zI ?_ ?_;exact nA)|refine sS ?_|refine pC (hsd) wR ?_|refine pC (haf _ (by omega)) wR ?_|refine pC (hsl _ (by omega)) wR ?_|refine pC (hrn _ (by omega)) wR ?_|refine pC (hnm _ (by omega)) wR ?_|refine pC (put17_c _ _ (by omega)) wR ?_|refine sF ?_|refine n0 ?_|refine sD ?_|refine PDraw.sP (some 58) rfl [] [9] tt_ok mixed ?_|refine PDraw.sP (some 74) rfl [] [10,11,12] tt_ok mixed ?_|intro _|refine zG ?_);conv=>whnf)|(refine zX (fun hc => ?_) (fun hc => ?_)<;>(try simp only [SY] at hc)<;>first|omega|(conv=>whnf)))
    generalize hal2 : alvF at_ (givesI p.code[k]) (af[k]'(by omega)) [] = AL at *
    refine PLoop.keep [15, 16, 95, 96, 97, 98, 99, 100, 101, 102, 103, 104, 105, 106, 107, 108, 109, 110, 111, 112, 113, 114, 115, 116, 117, 118, 119, 120, 121, 122, 123, 124] (fun x : Nat × List Int => [(15, slI x.2), (16, .int .i64 x.1)]) (fun x => x.1 ≤ (af[k]'(by omega)).length ∧ x.2.length ≤ x.1 ∧ alvF at_ (givesI p.code[k]) ((af[k]'(by omega)).drop x.1) x.2 = AL) (fun x => (af[k]'(by omega)).length - x.1) (0, []) ⟨Nat.zero_le _, Nat.zero_le _, hal2⟩ wA ?_
    rintro ⟨e, al⟩ ⟨he, hle, hae2⟩
    dsimp only at he hle hae2 ⊢
    rcases Nat.lt_or_ge e (af[k]'(by omega)).length with hel | hel
    ·have hfe := hfm2 _ (List.getElem_mem hel)
     have hpl := putR_len al (at_.getD (af[k]'(by omega))[e].toNat 0)
     rw [drop_at hel, alvF] at hae2
     rw [gD (by omega)] at hae2 hpl
     conv => whnf
     repeat' (first|((first|((first|(apply zY;intro hg)|apply zZ);first|exact stA|exact stB|((conv=>whnf);(repeat ((first|(refine zW ?_ ?_;exact gA)|refine pC (hsd) wR ?_|refine pC (haf _ (by omega)) wR ?_|refine pC (hsl _ (by omega)) wR ?_|refine pC (hrn _ (by omega)) wR ?_|refine pC (hnm _ (by omega)) wR ?_|refine pC (put17_c _ _ (by omega)) wR ?_|refine zA ?_|refine zH rfl ?_|refine zB ?_|refine sG ?_|intro _);conv=>whnf));first|exact pS|exact pL|exact pE))|(refine zW ?_ ?_;exact gA)|refine zH rfl ?_|refine zA ?_|refine zI bA ?_|refine zI rfl ?_|refine sB ?_|(refine zO ?_ ?_ ?_;omega;omega)|(refine zP ?_ ?_ ?_;omega;omega)|refine zM rfl ?_|(refine zQ ?_ ?_ ?_;omega;omega)|(refine zR ?_ ?_;omega)|(refine zI ?_ ?_;exact nA)|refine sS ?_|refine pC (hsd) wR ?_|refine pC (haf _ (by omega)) wR ?_|refine pC (hsl _ (by omega)) wR ?_|refine pC (hrn _ (by omega)) wR ?_|refine pC (hnm _ (by omega)) wR ?_|refine pC (put17_c _ _ (by omega)) wR ?_|refine sF ?_|refine n0 ?_|refine sD ?_|refine PDraw.sP (some 58) rfl [] [9] tt_ok mixed ?_|refine PDraw.sP (some 74) rfl [] [10,11,12] tt_ok mixed ?_|intro _|refine zG ?_);conv=>whnf)|(refine zX (fun hc => ?_) (fun hc => ?_)<;>(try simp only [SY] at hc)<;>first|omega|(conv=>whnf)))
     ·rw [if_pos hc] at hae2
      exact loopTo (e + 1, putR al _) ⟨by show e + 1 ≤ _; omega, by dsimp only; omega, hae2⟩ (by show (af[k]'(by omega)).length - (e + 1) < (af[k]'(by omega)).length - e; omega) wA
     ·rw [if_neg (fun h => h hc)] at hae2
      exact loopTo (e + 1, al) ⟨by show e + 1 ≤ _; omega, by dsimp only; omega, hae2⟩ (by show (af[k]'(by omega)).length - (e + 1) < (af[k]'(by omega)).length - e; omega) wA
    ·rw [List.drop_of_length_le hel, alvF] at hae2
     conv => whnf
     repeat' (first|((first|((first|(apply zY;intro hg)|apply zZ);first|exact stA|exact stB|((conv=>whnf);(repeat ((first|(refine zW ?_ ?_;exact gA)|refine pC (hsd) wR ?_|refine pC (haf _ (by omega)) wR ?_|refine pC (hsl _ (by omega)) wR ?_|refine pC (hrn _ (by omega)) wR ?_|refine pC (hnm _ (by omega)) wR ?_|refine pC (put17_c _ _ (by omega)) wR ?_|refine zA ?_|refine zH rfl ?_|refine zB ?_|refine sG ?_|intro _);conv=>whnf));first|exact pS|exact pL|exact pE))|(refine zW ?_ ?_;exact gA)|refine zH rfl ?_|refine zA ?_|refine zI bA ?_|refine zI rfl ?_|refine sB ?_|(refine zO ?_ ?_ ?_;omega;omega)|(refine zP ?_ ?_ ?_;omega;omega)|refine zM rfl ?_|(refine zQ ?_ ?_ ?_;omega;omega)|(refine zR ?_ ?_;omega)|(refine zI ?_ ?_;exact nA)|refine sS ?_|refine pC (hsd) wR ?_|refine pC (haf _ (by omega)) wR ?_|refine pC (hsl _ (by omega)) wR ?_|refine pC (hrn _ (by omega)) wR ?_|refine pC (hnm _ (by omega)) wR ?_|refine pC (put17_c _ _ (by omega)) wR ?_|refine sF ?_|refine n0 ?_|refine sD ?_|refine PDraw.sP (some 58) rfl [] [9] tt_ok mixed ?_|refine PDraw.sP (some 74) rfl [] [10,11,12] tt_ok mixed ?_|intro _|refine zG ?_);conv=>whnf)|(refine zX (fun hc => ?_) (fun hc => ?_)<;>(try simp only [SY] at hc)<;>first|omega|(conv=>whnf)))
     exact loopTo (k + 1, (cs ++ [renI p.code[k] at_], _), (as_ ++ [al], _)) ⟨by show k + 1 ≤ _; omega, by assumption, by assumption, by dsimp only; rw [hcs2], by dsimp only; rw [has2, hae2]⟩ (by show p.code.length - (k + 1) < p.code.length - k; omega) wA
   ·conv => whnf
    repeat' (first|((first|((first|(apply zY;intro hg)|apply zZ);first|exact stA|exact stB|((conv=>whnf);(repeat ((first|(refine zW ?_ ?_;exact gA)|refine pC (hsd) wR ?_|refine pC (haf _ (by omega)) wR ?_|refine pC (hsl _ (by omega)) wR ?_|refine pC (hrn _ (by omega)) wR ?_|refine pC (hnm _ (by omega)) wR ?_|refine pC (put17_c _ _ (by omega)) wR ?_|refine zA ?_|refine zH rfl ?_|refine zB ?_|refine sG ?_|intro _);conv=>whnf));first|exact pS|exact pL|exact pE))|(refine zW ?_ ?_;exact gA)|refine zH rfl ?_|refine zA ?_|refine zI bA ?_|refine zI rfl ?_|refine sB ?_|(refine zO ?_ ?_ ?_;omega;omega)|(refine zP ?_ ?_ ?_;omega;omega)|refine zM rfl ?_|(refine zQ ?_ ?_ ?_;omega;omega)|(refine zR ?_ ?_;omega)|(refine zI ?_ ?_;exact nA)|refine sS ?_|refine pC (hsd) wR ?_|refine pC (haf _ (by omega)) wR ?_|refine pC (hsl _ (by omega)) wR ?_|refine pC (hrn _ (by omega)) wR ?_|refine pC (hnm _ (by omega)) wR ?_|refine pC (put17_c _ _ (by omega)) wR ?_|refine sF ?_|refine n0 ?_|refine sD ?_|refine PDraw.sP (some 58) rfl [] [9] tt_ok mixed ?_|refine PDraw.sP (some 74) rfl [] [10,11,12] tt_ok mixed ?_|intro _|refine zG ?_);conv=>whnf)|(refine zX (fun hc => ?_) (fun hc => ?_)<;>(try simp only [SY] at hc)<;>first|omega|(conv=>whnf)))
    rw [List.take_of_length_le (by omega)] at hcs
    rw [List.take_of_length_le (by rw [List.length_zip]; omega)] at has
    exact loopTo (n + 1, out ++ [⟨p.args, p.rest, s, cs, as_⟩], _) ⟨by show n + 1 ≤ _; omega, by assumption, by dsimp only; rw [htk, hcp, hs2, hcs, has]⟩ (by show u.procs.length - (n + 1) < u.procs.length - n; omega) wA
  ·conv => whnf
   repeat' (first|((first|((first|(apply zY;intro hg)|apply zZ);first|exact stA|exact stB|((conv=>whnf);(repeat ((first|(refine zW ?_ ?_;exact gA)|refine pC (hsd) wR ?_|refine pC (haf _ (by omega)) wR ?_|refine pC (hsl _ (by omega)) wR ?_|refine pC (hrn _ (by omega)) wR ?_|refine pC (hnm _ (by omega)) wR ?_|refine pC (put17_c _ _ (by omega)) wR ?_|refine zA ?_|refine zH rfl ?_|refine zB ?_|refine sG ?_|intro _);conv=>whnf));first|exact pS|exact pL|exact pE))|(refine zW ?_ ?_;exact gA)|refine zH rfl ?_|refine zA ?_|refine zI bA ?_|refine zI rfl ?_|refine sB ?_|(refine zO ?_ ?_ ?_;omega;omega)|(refine zP ?_ ?_ ?_;omega;omega)|refine zM rfl ?_|(refine zQ ?_ ?_ ?_;omega;omega)|(refine zR ?_ ?_;omega)|(refine zI ?_ ?_;exact nA)|refine sS ?_|refine pC (hsd) wR ?_|refine pC (haf _ (by omega)) wR ?_|refine pC (hsl _ (by omega)) wR ?_|refine pC (hrn _ (by omega)) wR ?_|refine pC (hnm _ (by omega)) wR ?_|refine pC (put17_c _ _ (by omega)) wR ?_|refine sF ?_|refine n0 ?_|refine sD ?_|refine PDraw.sP (some 58) rfl [] [9] tt_ok mixed ?_|refine PDraw.sP (some 74) rfl [] [10,11,12] tt_ok mixed ?_|intro _|refine zG ?_);conv=>whnf)|(refine zX (fun hc => ?_) (fun hc => ?_)<;>(try simp only [SY] at hc)<;>first|omega|(conv=>whnf)))
   obtain rfl : n = u.procs.length := by omega
   rw [List.take_length] at ho
   subst ho
   exact PRet.pure (Wk.tup (.cons (Wk.agg (.cons (Wk.refl _) (.cons (Wk.tok _ _ _) .nil))) (.cons (Wk.refl _) .nil)))
 ·rw [if_neg hs]
  rw [Bool.not_eq_true] at hs
  rw [hs] at hsd
  refine ACall.of_body tt_ok Tryz.func27 rfl rfl (n := 138) rfl rfl ?_
  conv => whnf
  repeat' (first|((first|((first|(apply zY;intro hg)|apply zZ);first|exact stA|exact stB|((conv=>whnf);(repeat ((first|(refine zW ?_ ?_;exact gA)|refine pC (hsd) wR ?_|refine zA ?_|refine zH rfl ?_|refine zB ?_|refine sG ?_|intro _);conv=>whnf));first|exact pS|exact pL|exact pE))|(refine zW ?_ ?_;exact gA)|refine zH rfl ?_|refine zA ?_|refine zI bA ?_|refine zI rfl ?_|refine sB ?_|(refine zO ?_ ?_ ?_;omega;omega)|(refine zP ?_ ?_ ?_;omega;omega)|refine zM rfl ?_|(refine zQ ?_ ?_ ?_;omega;omega)|(refine zR ?_ ?_;omega)|(refine zI ?_ ?_;exact nA)|refine sS ?_|refine pC (hsd) wR ?_|refine sF ?_|refine n0 ?_|refine sD ?_|refine PDraw.sP (some 58) rfl [] [9] tt_ok mixed ?_|refine PDraw.sP (some 74) rfl [] [10,11,12] tt_ok mixed ?_|intro _|refine zG ?_);conv=>whnf)|(refine zX (fun hc => ?_) (fun hc => ?_)<;>(try simp only [SY] at hc)<;>first|omega|(conv=>whnf)))
  exact PRet.pure (Wk.tup (.cons (Wk.agg (.cons (Wk.nil' rfl) (.cons (Wk.nil' rfl) .nil))) (.cons (Wk.refl _) .nil)))
end Go.Cb
namespace Go.Cb
open Go.Proofs
set_option maxRecDepth 100000
set_option maxHeartbeats 4000000
end Go.Cb
namespace Go.Cb
open Go.Proofs
set_option maxRecDepth 100000
set_option maxHeartbeats 4000000
theorem ints19_self (l : List Int) : ACallP Tryz.prog 26 [slI l, slI l] (.bool true) := by
 refine ACall.of_body tt_ok Tryz.func26 rfl rfl (n := 26) rfl rfl ?_
 conv => whnf
 repeat' (first|((first|((first|(apply zY;intro hg)|apply zZ);first|exact stA|exact stB)|(refine zW ?_ ?_;exact gA)|refine zH rfl ?_|refine zA ?_|refine zI bA ?_|refine zI rfl ?_|refine sB ?_|(refine zO ?_ ?_ ?_;omega;omega)|(refine zP ?_ ?_ ?_;omega;omega)|refine zM rfl ?_|(refine zQ ?_ ?_ ?_;omega;omega)|(refine zR ?_ ?_;omega)|(refine zI ?_ ?_;exact nA)|refine sS ?_|refine sE ?_|refine n0 ?_|refine sD ?_|refine PDraw.sP (some 17) rfl [] [] tt_ok mixed ?_|intro _|refine zG ?_);conv=>whnf)|(refine zX (fun hc => ?_) (fun hc => ?_)<;>(try simp only [SY] at hc)<;>first|omega|(conv=>whnf)))
 refine PLoop.keep [4, 5, 11, 12, 13, 14, 15, 16, 17, 18, 19, 20, 21, 22, 23, 24, 25] (fun i : Nat => [(5, .int .i64 i)]) (fun i => i ≤ l.length) (fun i => l.length - i) 0 (Nat.zero_le _) wA ?_
 rintro i hi
 conv => whnf
 repeat' (first|((first|((first|(apply zY;intro hg)|apply zZ);first|exact stA|exact stB)|(refine zW ?_ ?_;exact gA)|refine zH rfl ?_|refine zA ?_|refine zI bA ?_|refine zI rfl ?_|refine sB ?_|(refine zO ?_ ?_ ?_;omega;omega)|(refine zP ?_ ?_ ?_;omega;omega)|refine zM rfl ?_|(refine zQ ?_ ?_ ?_;omega;omega)|(refine zR ?_ ?_;omega)|(refine zI ?_ ?_;exact nA)|refine sS ?_|refine sE ?_|refine n0 ?_|refine sD ?_|refine PDraw.sP (some 17) rfl [] [] tt_ok mixed ?_|intro _|refine zG ?_);conv=>whnf)|(refine zX (fun hc => ?_) (fun hc => ?_)<;>(try simp only [SY] at hc)<;>first|omega|(conv=>whnf)))
 ·exact loopTo (i + 1) (by show i + 1 ≤ _; omega) (by show l.length - (i + 1) < l.length - i; omega) wA
 ·exact PRet.pure (Wk.tt rfl)
def u0 : Unt := ⟨[], [⟨1, false, 1, [⟨22, 0, 0, 0, []⟩], [[]]⟩]⟩
def L0 : List Int := [6516594, 1, 3, 1, 0, 2, 6, 22, 0, 0, 0, 0, 0]
def p0 : Prc := ⟨1, false, 2, [⟨22, 0, 0, 0, []⟩], [[]]⟩
def cw0 : CwF := fun _ _ _ => []
theorem emit_u0 : emitR cw0 u0 = (L0, 0) := by kernel_rfl
theorem read_L0 : readR L0 = ([p0], 0) := by kernel_rfl
theorem u0_ok : ∀ p ∈ u0.procs, PrcOk cw0 p := by
 intro p hp
 simp only [u0, List.mem_singleton] at hp
 subst hp
 refine ⟨rfl, by decide, by decide, ?_, ?_, by decide, ?_, by decide, by decide⟩
 ·intro x hx
  simp only [List.mem_singleton] at hx
  subst hx
  exact ⟨fun h => by simp at h, fun h => by simp at h⟩
 ·intro x hx
  simp only [List.mem_singleton] at hx
  subst hx
  simp
 ·intro x hx h
  simp only [List.mem_singleton] at hx
  subst hx
  simp [lvsB] at h
theorem Wk.rowT {s : Nat} {xs ys : List PV} {tk : Option Tok} (h : WkR xs ys) : Wk (.sl s xs tk) (.sl s ys none) := Wk.trans (Wk.tok _ _ _) (Wk.row h)
theorem u0_wk (t1 t2 t3 : Option Tok) : Wk (.agg [.nil, .sl 5 [.agg [.int .i64 1, .bfalse, .int .i64 1, .sl 5 [.agg [.int .i64 22, .int .i64 0, .int .i64 0, .int .i64 0, .nil]] t1, .sl 1 [.nil] t2]] t3]) (.agg u0.cells) :=
 Wk.agg (.cons (Wk.nil' rfl) (.cons (Wk.rowT (.cons (.cons (Wk.refl _) (.cons (Wk.ff rfl) (.cons (Wk.refl _) (.cons (Wk.rowT (.cons (.cons (Wk.refl _) (.cons (Wk.refl _) (.cons (Wk.refl _) (.cons (Wk.refl _) (.cons (Wk.nil' rfl) .nil))))) .nil)) (.cons (Wk.rowT (.cons (.cons (Wk.nil' rfl) .nil) .nil)) .nil))))) .nil)) .nil))
theorem awake19_c : ACallP Tryz.prog 19 [] (.bool true) := by
 have he := emit_c u0 cw0 (fun _ => u0_ok) (fun _ => by decide)
 rw [emitPV, emit_u0] at he
 have hr := read_c L0 (by decide)
 rw [readPV, read_L0] at hr
 refine ACall.of_body tt_ok Tryz.func19 rfl rfl (n := 45) rfl rfl ?_
 conv => whnf
 repeat' (first|((first|((first|(apply zY;intro hg)|apply zZ);first|exact stA|exact stB|((conv=>whnf);(repeat ((first|(refine zW ?_ ?_;exact gA)|refine pC (hr) wR ?_|refine pC (ints19_self L0) wR ?_|intro _);conv=>whnf));first|exact pS|exact pL|exact pE))|(refine zW ?_ ?_;exact gA)|refine zH rfl ?_|refine zA ?_|refine zI bA ?_|refine zI rfl ?_|refine sB ?_|(refine zO ?_ ?_ ?_;omega;omega)|(refine zP ?_ ?_ ?_;omega;omega)|refine zM rfl ?_|(refine zQ ?_ ?_ ?_;omega;omega)|(refine zR ?_ ?_;omega)|(refine zI ?_ ?_;exact nA)|refine sS ?_|refine pC (hr) wR ?_|refine pC (ints19_self L0) wR ?_|refine sE ?_|refine n0 ?_|refine sD ?_|intro _|refine zG ?_);conv=>whnf)|(refine zX (fun hc => ?_) (fun hc => ?_)<;>(try simp only [SY] at hc)<;>first|omega|(conv=>whnf)))
 refine PCall.pure he (.cons (u0_wk _ _ _) .nil) ?_
 conv => whnf
 repeat' (first|((first|((first|(apply zY;intro hg)|apply zZ);first|exact stA|exact stB|((conv=>whnf);(repeat ((first|(refine zW ?_ ?_;exact gA)|refine pC (hr) wR ?_|refine pC (ints19_self L0) wR ?_|intro _);conv=>whnf));first|exact pS|exact pL|exact pE))|(refine zW ?_ ?_;exact gA)|refine zH rfl ?_|refine zA ?_|refine zI bA ?_|refine zI rfl ?_|refine sB ?_|(refine zO ?_ ?_ ?_;omega;omega)|(refine zP ?_ ?_ ?_;omega;omega)|refine zM rfl ?_|(refine zQ ?_ ?_ ?_;omega;omega)|(refine zR ?_ ?_;omega)|(refine zI ?_ ?_;exact nA)|refine sS ?_|refine pC (hr) wR ?_|refine pC (ints19_self L0) wR ?_|refine sE ?_|refine n0 ?_|refine sD ?_|intro _|refine zG ?_);conv=>whnf)|(refine zX (fun hc => ?_) (fun hc => ?_)<;>(try simp only [SY] at hc)<;>first|omega|(conv=>whnf)))
 exact PRet.pure (Wk.bool rfl)
end Go.Cb
namespace Go.Cb
open Go.Proofs
set_option maxRecDepth 100000
set_option maxHeartbeats 4000000
theorem few19_c (u : Unt) (n : Int) (h0 : 0 ≤ n) (h1 : n ≤ 1000000000) : ACallP Tryz.prog 23 [.agg u.cells, .int .i64 n] (.bool (fewU u n)) := by
 refine ACall.of_body tt_ok Tryz.func23 rfl rfl (n := 80) rfl rfl ?_
 conv => whnf
 repeat' (first|((first|((first|(apply zY;intro hg)|apply zZ);first|exact stA|exact stB|((conv=>whnf);(repeat ((first|(refine zW ?_ ?_;exact gA)|refine pC (FewAll_c u.consts 2000 (by omega) (by omega)) wR ?_|intro _);conv=>whnf));first|exact pS|exact pL|exact pE))|(refine zW ?_ ?_;exact gA)|refine zH rfl ?_|refine zA ?_|refine zI bA ?_|refine zI rfl ?_|refine sB ?_|(refine zO ?_ ?_ ?_;omega;omega)|(refine zP ?_ ?_ ?_;omega;omega)|refine zM rfl ?_|(refine zQ ?_ ?_ ?_;omega;omega)|(refine zR ?_ ?_;omega)|(refine zI ?_ ?_;exact nA)|refine sS ?_|refine pC (FewAll_c u.consts 2000 (by omega) (by omega)) wR ?_|refine sE ?_|refine n0 ?_|refine sD ?_|intro _|refine zG ?_);conv=>whnf)|(refine zX (fun hc => ?_) (fun hc => ?_)<;>(try simp only [SY] at hc)<;>first|omega|(conv=>whnf)))
 ·rw [fewU, if_pos (by rw [decide_eq_false_iff_not]; omega)]
  exact PRet.pure (Wk.ff rfl)
 rw [fewU, if_neg (by rw [decide_eq_false_iff_not]; omega)]
 refine PLoop.keep [4, 5, 6, 7, 18, 19, 20, 21, 22, 23, 24, 25, 26, 27, 28, 29, 30, 31, 32, 33, 34, 35, 36, 37, 38, 39, 40, 41, 42, 43, 44, 45, 46, 47, 48, 49, 50, 51, 52, 53, 54, 55, 56, 57, 58, 59, 60, 61, 62, 63, 64, 65, 66, 67, 68, 69, 70, 71, 72, 73, 74, 75, 76, 77, 78, 79] (fun x : Nat × Int => [(5, .int .i64 x.2), (6, .int .i64 x.1)]) (fun x => x.1 ≤ u.procs.length ∧ 0 ≤ x.2 ∧ x.2 ≤ n ∧ fewPs n u.procs 0 = fewPs n (u.procs.drop x.1) x.2) (fun x => u.procs.length - x.1) (0, 0) ⟨Nat.zero_le _, by omega, by omega, rfl⟩ wA ?_
 rintro ⟨i, k⟩ ⟨hi, hk, hkn, he⟩
 dsimp only at hi hk hkn he ⊢
 conv => whnf
 repeat' (first|((first|((first|(apply zY;intro hg)|apply zZ);first|exact stA|exact stB|((conv=>whnf);(repeat ((first|(refine zW ?_ ?_;exact gA)|refine pC (FewAll_c u.consts 2000 (by omega) (by omega)) wR ?_|intro _);conv=>whnf));first|exact pS|exact pL|exact pE))|(refine zW ?_ ?_;exact gA)|refine zH rfl ?_|refine zA ?_|refine zI bA ?_|refine zI rfl ?_|refine sB ?_|(refine zO ?_ ?_ ?_;omega;omega)|(refine zP ?_ ?_ ?_;omega;omega)|refine zM rfl ?_|(refine zQ ?_ ?_ ?_;omega;omega)|(refine zR ?_ ?_;omega)|(refine zI ?_ ?_;exact nA)|refine sS ?_|refine pC (FewAll_c u.consts 2000 (by omega) (by omega)) wR ?_|refine sE ?_|refine n0 ?_|refine sD ?_|intro _|refine zG ?_);conv=>whnf)|(refine zX (fun hc => ?_) (fun hc => ?_)<;>(try simp only [SY] at hc)<;>first|omega|(conv=>whnf)))
 ·have hip : i < u.procs.length := by omega
  rw [drop_at hip, fewPs, if_pos (by omega)] at he
  rw [he]
  exact PRet.pure (Wk.ff rfl)
 ·have hip : i < u.procs.length := by omega
  rw [drop_at hip, fewPs, if_neg (by omega)] at he
  refine PLoop.keep [4, 7, 54, 55, 56, 57, 58, 59, 60, 61, 62, 63, 64, 65, 66, 67, 68, 69, 70, 71, 72, 73, 74, 75, 76] (fun j : Nat => [(7, .int .i64 j)]) (fun j => j ≤ u.procs[i].code.length ∧ (u.procs[i].code.any fun x => decide ((x.l.length : Int) > 60)) = (u.procs[i].code.drop j).any fun x => decide ((x.l.length : Int) > 60)) (fun j => u.procs[i].code.length - j) 0 ⟨Nat.zero_le _, rfl⟩ wA ?_
  rintro j ⟨hj, hja⟩
  conv => whnf
  repeat' (first|((first|((first|(apply zY;intro hg)|apply zZ);first|exact stA|exact stB|((conv=>whnf);(repeat ((first|(refine zW ?_ ?_;exact gA)|refine pC (FewAll_c u.consts 2000 (by omega) (by omega)) wR ?_|intro _);conv=>whnf));first|exact pS|exact pL|exact pE))|(refine zW ?_ ?_;exact gA)|refine zH rfl ?_|refine zA ?_|refine zI bA ?_|refine zI rfl ?_|refine sB ?_|(refine zO ?_ ?_ ?_;omega;omega)|(refine zP ?_ ?_ ?_;omega;omega)|refine zM rfl ?_|(refine zQ ?_ ?_ ?_;omega;omega)|(refine zR ?_ ?_;omega)|(refine zI ?_ ?_;exact nA)|refine sS ?_|refine pC (FewAll_c u.consts 2000 (by omega) (by omega)) wR ?_|refine sE ?_|refine n0 ?_|refine sD ?_|intro _|refine zG ?_);conv=>whnf)|(refine zX (fun hc => ?_) (fun hc => ?_)<;>(try simp only [SY] at hc)<;>first|omega|(conv=>whnf)))
  ·have hjc : j < u.procs[i].code.length := by omega
   rw [drop_at hjc, List.any_cons, decide_eq_true (by omega : (u.procs[i].code[j].l.length : Int) > 60), Bool.true_or] at hja
   rw [if_pos hja] at he
   rw [he]
   exact PRet.pure (Wk.ff rfl)
  ·have hjc : j < u.procs[i].code.length := by omega
   rw [drop_at hjc, List.any_cons, decide_eq_false (by omega : ¬(u.procs[i].code[j].l.length : Int) > 60), Bool.false_or] at hja
   exact loopTo (j + 1) ⟨by omega, hja⟩ (by show u.procs[i].code.length - (j + 1) < u.procs[i].code.length - j; omega) wA
  ·rw [List.drop_of_length_le (by omega), List.any_nil] at hja
   rw [if_neg (by rw [hja]; simp), if_pos (by omega)] at he
   rw [he]
   exact PRet.pure (Wk.ff rfl)
  ·rw [List.drop_of_length_le (by omega), List.any_nil] at hja
   rw [if_neg (by rw [hja]; simp), if_neg (by omega)] at he
   exact loopTo (i + 1, k + u.procs[i].code.length) ⟨by show i + 1 ≤ _; omega, by dsimp only; omega, by dsimp only; omega, he⟩ (by show u.procs.length - (i + 1) < u.procs.length - i; omega) wA
 ·rw [List.drop_of_length_le (by omega), fewPs] at he
  rw [he]
  exact PRet.pure (Wk.tt rfl)
end Go.Cb
namespace Go.Cb
open Go.Proofs
set_option maxRecDepth 100000
set_option maxHeartbeats 4000000
end Go.Cb
namespace Go.Cb
open Go.Proofs
set_option maxRecDepth 100000
set_option maxHeartbeats 4000000
noncomputable def eqB {α : Type} (a b : α) : Bool := @decide (a = b) (Classical.propDecidable _)
theorem eqB_iff {α : Type} (a b : α) : eqB a b = true ↔ a = b := by unfold eqB; exact @decide_eq_true_iff _ (Classical.propDecidable _)
theorem eqB_f {α : Type} {a b : α} (h : a ≠ b) : eqB a b = false := by
 rw [Bool.eq_false_iff]
 exact fun g => h ((eqB_iff a b).1 g)
theorem eqB_t {α : Type} {a b : α} (h : a = b) : eqB a b = true := (eqB_iff a b).2 h
theorem take_same {α : Type} {l m : List α} {i : Nat} (h : l.take i = m.take i) (h1 : i < l.length) (h2 : i < m.length) (e : l[i] = m[i]) : l.take (i + 1) = m.take (i + 1) := by
 rw [List.take_succ_eq_append_getElem h1, List.take_succ_eq_append_getElem h2, h, e]
theorem take_done {α : Type} {l m : List α} {i : Nat} (h : l.take i = m.take i) (h1 : l.length ≤ i) (h2 : m.length ≤ i) : l = m := by
 rwa [List.take_of_length_le h1, List.take_of_length_le h2] at h
theorem ints2_c (l m : List Int) : ACallP Tryz.prog 26 [slI l, slI m] (.bool (eqB l m)) := by
 refine ACall.of_body tt_ok Tryz.func26 rfl rfl (n := 26) rfl rfl ?_
 conv => whnf
 repeat' (first|((first|((first|(apply zY;intro hg)|apply zZ);first|exact stA|exact stB)|(refine zW ?_ ?_;exact gA)|refine zH rfl ?_|refine zA ?_|refine zI bA ?_|refine zI rfl ?_|refine sB ?_|(refine zO ?_ ?_ ?_;omega;omega)|(refine zP ?_ ?_ ?_;omega;omega)|refine zM rfl ?_|(refine zQ ?_ ?_ ?_;omega;omega)|(refine zR ?_ ?_;omega)|(refine zI ?_ ?_;exact nA)|refine sS ?_|refine sE ?_|refine n0 ?_|refine sD ?_|refine PDraw.sP (some 17) rfl [] [] tt_ok mixed ?_|intro _|refine zG ?_);conv=>whnf)|(refine zX (fun hc => ?_) (fun hc => ?_)<;>(try simp only [SY] at hc)<;>first|omega|(conv=>whnf)))
 ·rw [eqB_f (by rintro rfl; exact hc rfl)]
  exact PRet.pure (Wk.ff rfl)
 refine PLoop.keep [4, 5, 11, 12, 13, 14, 15, 16, 17, 18, 19, 20, 21, 22, 23, 24, 25] (fun i : Nat => [(5, .int .i64 i)]) (fun i => i ≤ l.length ∧ l.take i = m.take i) (fun i => l.length - i) 0 ⟨Nat.zero_le _, by rw [List.take_zero, List.take_zero]⟩ wA ?_
 rintro i ⟨hi, he⟩
 conv => whnf
 repeat' (first|((first|((first|(apply zY;intro hg)|apply zZ);first|exact stA|exact stB)|(refine zW ?_ ?_;exact gA)|refine zH rfl ?_|refine zA ?_|refine zI bA ?_|refine zI rfl ?_|refine sB ?_|(refine zO ?_ ?_ ?_;omega;omega)|(refine zP ?_ ?_ ?_;omega;omega)|refine zM rfl ?_|(refine zQ ?_ ?_ ?_;omega;omega)|(refine zR ?_ ?_;omega)|(refine zI ?_ ?_;exact nA)|refine sS ?_|refine sE ?_|refine n0 ?_|refine sD ?_|refine PDraw.sP (some 17) rfl [] [] tt_ok mixed ?_|intro _|refine zG ?_);conv=>whnf)|(refine zX (fun hc => ?_) (fun hc => ?_)<;>(try simp only [SY] at hc)<;>first|omega|(conv=>whnf)))
 ·rw [eqB_f (by rintro rfl; exact hc rfl)]
  exact PRet.pure (Wk.ff rfl)
 ·exact loopTo (i + 1) ⟨by omega, take_same he (by omega) (by omega) (by omega)⟩ (by show l.length - (i + 1) < l.length - i; omega) wA
 ·rw [eqB_t (take_done he (by omega) (by omega))]
  exact PRet.pure (Wk.tt rfl)
theorem sameIns2_c (x y : Ins) : ACallP Tryz.prog 101 [.agg x.cells, .agg y.cells] (.bool (eqB x y)) := by
 refine ACall.of_body tt_ok Tryz.func101 rfl rfl (n := 38) rfl rfl ?_
 conv => whnf
 repeat' (first|((first|((first|(apply zY;intro hg)|apply zZ);first|exact stA|exact stB|((conv=>whnf);(repeat ((first|(refine zW ?_ ?_;exact gA)|refine pC (ints2_c x.l y.l) wR ?_|intro _);conv=>whnf));first|exact pS|exact pL|exact pE))|(refine zW ?_ ?_;exact gA)|refine zH rfl ?_|refine zA ?_|refine zI bA ?_|refine zI rfl ?_|refine sB ?_|(refine zO ?_ ?_ ?_;omega;omega)|(refine zP ?_ ?_ ?_;omega;omega)|refine zM rfl ?_|(refine zQ ?_ ?_ ?_;omega;omega)|(refine zR ?_ ?_;omega)|(refine zI ?_ ?_;exact nA)|refine sS ?_|refine pC (ints2_c x.l y.l) wR ?_|refine sE ?_|refine n0 ?_|refine sD ?_|intro _|refine zG ?_);conv=>whnf)|(refine zX (fun hc => ?_) (fun hc => ?_)<;>(try simp only [SY] at hc)<;>first|omega|(conv=>whnf)))
 exact PRet.pure (Wk.bool (by
  obtain ⟨xo, xd, xa, xb, xl⟩ := x
  obtain ⟨yo, yd, ya, yb, yl⟩ := y
  rw [Bool.eq_iff_iff, eqB_iff]
  simp only [Bool.and_eq_true, beq_iff_eq, eqB_iff, Ins.mk.injEq, and_assoc]))
theorem sameProc2_c (p q : Prc) : ACallP Tryz.prog 54 [.agg p.cells, .agg q.cells] (.bool (eqB p q)) := by
 refine ACall.of_body tt_ok Tryz.func54 rfl rfl (n := 82) rfl rfl ?_
 conv => whnf
 repeat' (first|((first|((first|(apply zY;intro hg)|apply zZ);first|exact stA|exact stB|((conv=>whnf);(repeat ((first|(refine zW ?_ ?_;exact gA)|refine pC (sameIns2_c _ _) wR ?_|refine pC (ints2_c _ _) wR ?_|intro _);conv=>whnf));first|exact pS|exact pL|exact pE))|(refine zW ?_ ?_;exact gA)|refine zH rfl ?_|refine zA ?_|refine zI bA ?_|refine zI rfl ?_|refine sB ?_|(refine zO ?_ ?_ ?_;omega;omega)|(refine zP ?_ ?_ ?_;omega;omega)|refine zM rfl ?_|(refine zQ ?_ ?_ ?_;omega;omega)|(refine zR ?_ ?_;omega)|(refine zI ?_ ?_;exact nA)|refine sS ?_|refine pC (sameIns2_c _ _) wR ?_|refine pC (ints2_c _ _) wR ?_|refine sE ?_|refine n0 ?_|refine sD ?_|refine PDraw.sP (some 51) rfl [] [] tt_ok mixed ?_|refine PDraw.sP (some 70) rfl [] [] tt_ok mixed ?_|intro _|refine zG ?_);conv=>whnf)|(refine zX (fun hc => ?_) (fun hc => ?_)<;>(try simp only [SY] at hc)<;>first|omega|(conv=>whnf)))
 ·rw [eqB_f (by rintro rfl; simp at hc)]
  exact PRet.pure (Wk.ff rfl)
 refine PLoop.keep [4, 5, 44, 45, 46, 47, 48, 49, 50, 51, 52, 53, 54, 55, 56, 57, 58, 59, 60, 61, 62] (fun i : Nat => [(5, .int .i64 i)]) (fun i => i ≤ p.code.length ∧ p.code.take i = q.code.take i) (fun i => p.code.length - i) 0 ⟨Nat.zero_le _, by rw [List.take_zero, List.take_zero]⟩ wA ?_
 rintro i ⟨hi, he⟩
 conv => whnf
 repeat' (first|((first|((first|(apply zY;intro hg)|apply zZ);first|exact stA|exact stB|((conv=>whnf);(repeat ((first|(refine zW ?_ ?_;exact gA)|refine pC (sameIns2_c _ _) wR ?_|refine pC (ints2_c _ _) wR ?_|intro _);conv=>whnf));first|exact pS|exact pL|exact pE))|(refine zW ?_ ?_;exact gA)|refine zH rfl ?_|refine zA ?_|refine zI bA ?_|refine zI rfl ?_|refine sB ?_|(refine zO ?_ ?_ ?_;omega;omega)|(refine zP ?_ ?_ ?_;omega;omega)|refine zM rfl ?_|(refine zQ ?_ ?_ ?_;omega;omega)|(refine zR ?_ ?_;omega)|(refine zI ?_ ?_;exact nA)|refine sS ?_|refine pC (sameIns2_c _ _) wR ?_|refine pC (ints2_c _ _) wR ?_|refine sE ?_|refine n0 ?_|refine sD ?_|refine PDraw.sP (some 51) rfl [] [] tt_ok mixed ?_|refine PDraw.sP (some 70) rfl [] [] tt_ok mixed ?_|intro _|refine zG ?_);conv=>whnf)|(refine zX (fun hc => ?_) (fun hc => ?_)<;>(try simp only [SY] at hc)<;>first|omega|(conv=>whnf)))
 ·rw [eqB_f (by rintro rfl; have hn := ‹eqB _ _ = false›; rw [eqB_t rfl] at hn; cases hn)]
  exact PRet.pure (Wk.ff rfl)
 ·exact loopTo (i + 1) ⟨by omega, take_same he (by omega) (by omega) ((eqB_iff _ _).1 (by assumption))⟩ (by show p.code.length - (i + 1) < p.code.length - i; omega) wA
 have hce : p.code = q.code := take_done he (by omega) (by omega)
 refine PLoop.keep [4, 6, 63, 64, 65, 66, 67, 68, 69, 70, 71, 72, 73, 74, 75, 76, 77, 78, 79, 80, 81] (fun i : Nat => [(6, .int .i64 i)]) (fun i => i ≤ p.alive.length ∧ p.alive.take i = q.alive.take i) (fun i => p.alive.length - i) 0 ⟨Nat.zero_le _, by rw [List.take_zero, List.take_zero]⟩ wA ?_
 rintro j ⟨hj, hje⟩
 conv => whnf
 repeat' (first|((first|((first|(apply zY;intro hg)|apply zZ);first|exact stA|exact stB|((conv=>whnf);(repeat ((first|(refine zW ?_ ?_;exact gA)|refine pC (sameIns2_c _ _) wR ?_|refine pC (ints2_c _ _) wR ?_|intro _);conv=>whnf));first|exact pS|exact pL|exact pE))|(refine zW ?_ ?_;exact gA)|refine zH rfl ?_|refine zA ?_|refine zI bA ?_|refine zI rfl ?_|refine sB ?_|(refine zO ?_ ?_ ?_;omega;omega)|(refine zP ?_ ?_ ?_;omega;omega)|refine zM rfl ?_|(refine zQ ?_ ?_ ?_;omega;omega)|(refine zR ?_ ?_;omega)|(refine zI ?_ ?_;exact nA)|refine sS ?_|refine pC (sameIns2_c _ _) wR ?_|refine pC (ints2_c _ _) wR ?_|refine sE ?_|refine n0 ?_|refine sD ?_|refine PDraw.sP (some 51) rfl [] [] tt_ok mixed ?_|refine PDraw.sP (some 70) rfl [] [] tt_ok mixed ?_|intro _|refine zG ?_);conv=>whnf)|(refine zX (fun hc => ?_) (fun hc => ?_)<;>(try simp only [SY] at hc)<;>first|omega|(conv=>whnf)))
 ·rw [eqB_f (by rintro rfl; have hn := ‹eqB _ _ = false›; rw [eqB_t rfl] at hn; cases hn)]
  exact PRet.pure (Wk.ff rfl)
 ·exact loopTo (j + 1) ⟨by omega, take_same hje (by omega) (by omega) ((eqB_iff _ _).1 (by assumption))⟩ (by show p.alive.length - (j + 1) < p.alive.length - j; omega) wA
 ·have hae : p.alive = q.alive := take_done hje (by omega) (by omega)
  rw [eqB_t (by
   obtain ⟨a1, a2, a3, a4, a5⟩ := p
   obtain ⟨b1, b2, b3, b4, b5⟩ := q
   dsimp only at *
   simp_all)]
  exact PRet.pure (Wk.tt rfl)
theorem same2_c (l m : List Prc) : ACallP Tryz.prog 22 [.sl 5 (l.map Prc.pv) none, .sl 5 (m.map Prc.pv) none] (.bool (eqB l m)) := by
 refine ACall.of_body tt_ok Tryz.func22 rfl rfl (n := 27) rfl rfl ?_
 conv => whnf
 repeat' (first|((first|((first|(apply zY;intro hg)|apply zZ);first|exact stA|exact stB|((conv=>whnf);(repeat ((first|(refine zW ?_ ?_;exact gA)|refine pC (sameProc2_c _ _) wR ?_|intro _);conv=>whnf));first|exact pS|exact pL|exact pE))|(refine zW ?_ ?_;exact gA)|refine zH rfl ?_|refine zA ?_|refine zI bA ?_|refine zI rfl ?_|refine sB ?_|(refine zO ?_ ?_ ?_;omega;omega)|(refine zP ?_ ?_ ?_;omega;omega)|refine zM rfl ?_|(refine zQ ?_ ?_ ?_;omega;omega)|(refine zR ?_ ?_;omega)|(refine zI ?_ ?_;exact nA)|refine sS ?_|refine pC (sameProc2_c _ _) wR ?_|refine sE ?_|refine n0 ?_|refine sD ?_|refine PDraw.sP (some 17) rfl [] [] tt_ok mixed ?_|intro _|refine zG ?_);conv=>whnf)|(refine zX (fun hc => ?_) (fun hc => ?_)<;>(try simp only [SY] at hc)<;>first|omega|(conv=>whnf)))
 ·rw [eqB_f (by rintro rfl; exact hc rfl)]
  exact PRet.pure (Wk.ff rfl)
 refine PLoop.keep [4, 5, 11, 12, 13, 14, 15, 16, 17, 18, 19, 20, 21, 22, 23, 24, 25, 26] (fun i : Nat => [(5, .int .i64 i)]) (fun i => i ≤ l.length ∧ l.take i = m.take i) (fun i => l.length - i) 0 ⟨Nat.zero_le _, by rw [List.take_zero, List.take_zero]⟩ wA ?_
 rintro i ⟨hi, he⟩
 conv => whnf
 repeat' (first|((first|((first|(apply zY;intro hg)|apply zZ);first|exact stA|exact stB|((conv=>whnf);(repeat ((first|(refine zW ?_ ?_;exact gA)|refine pC (sameProc2_c _ _) wR ?_|intro _);conv=>whnf));first|exact pS|exact pL|exact pE))|(refine zW ?_ ?_;exact gA)|refine zH rfl ?_|refine zA ?_|refine zI bA ?_|refine zI rfl ?_|refine sB ?_|(refine zO ?_ ?_ ?_;omega;omega)|(refine zP ?_ ?_ ?_;omega;omega)|refine zM rfl ?_|(refine zQ ?_ ?_ ?_;omega;omega)|(refine zR ?_ ?_;omega)|(refine zI ?_ ?_;exact nA)|refine sS ?_|refine pC (sameProc2_c _ _) wR ?_|refine sE ?_|refine n0 ?_|refine sD ?_|refine PDraw.sP (some 17) rfl [] [] tt_ok mixed ?_|intro _|refine zG ?_);conv=>whnf)|(refine zX (fun hc => ?_) (fun hc => ?_)<;>(try simp only [SY] at hc)<;>first|omega|(conv=>whnf)))
 ·rw [eqB_f (by rintro rfl; have hn := ‹eqB _ _ = false›; rw [eqB_t rfl] at hn; cases hn)]
  exact PRet.pure (Wk.ff rfl)
 ·exact loopTo (i + 1) ⟨by omega, take_same he (by omega) (by omega) ((eqB_iff _ _).1 (by assumption))⟩ (by show l.length - (i + 1) < l.length - i; omega) wA
 ·rw [eqB_t (take_done he (by omega) (by omega))]
  exact PRet.pure (Wk.tt rfl)
end Go.Cb
namespace Go.Cb
open Go.Proofs
set_option maxRecDepth 100000
set_option maxHeartbeats 4000000
theorem PCall.pureFz {P : Program} {f : FuncId} {args args' : List PV} {y : PV} {Γ Γ0 : List Ent} {K : PV → List Ent → Prop} (t : Tok) (es : List PV) [hp : PickE Γ (.row t es) Γ0] (hw : WkFT t es args args') (h : ACallP P f args' y) (k : K y (.tok t :: Γ0)) : PCall P f args Γ K := by
 have h1 := ACall.frame h (Γ := .tok t :: Γ0) (Γ2 := .tok t :: Γ0) (List.Perm.refl _)
 refine ⟨.inl (ACall.weak (Weak.freezeRow (hp := hp) hw) ⟨h1.1, fun w0 F M w vs hS hT => (h1.2 w0 F M w vs hS hT).mono ?_⟩)⟩
 rintro e w' ⟨v, F', y', Γ', e1, e2, e3, e4, Γ1', rfl, rfl⟩
 refine ⟨v, F', _, _, e1, e2, ?_, e4, k⟩
 refine e3.sub ?_
 rw [List.append_assoc]
 exact List.sublist_append_right _ _
theorem readR_err (l : List Int) : (readR l).2 = 0 ∨ (readR l).2 = 5 := by unfold readR; split <;> simp
theorem readR_ok {l : List Int} (h : (readR l).2 = 0) : readF l = some (readR l).1 := by
 unfold readR at *
 split at h
 ·rename_i q hq
  rw [hq]
 ·cases h
theorem chg_other {l : List Int} {q : List Prc} (h : readF l = some q) (i : Nat) (hi : i < l.length) {b : Int} (hb : -(2 ^ 63) ≤ b ∧ b < 2 ^ 63) (h0 : b ≠ 0) : (readR (l.set i (bitsOf .xor .i64 l[i] b))).2 ≠ 0 ∨ eqB q (readR (l.set i (bitsOf .xor .i64 l[i] b))).1 = false := by
 by_cases hz : (readR (l.set i (bitsOf .xor .i64 l[i] b))).2 = 0
 ·right
  refine eqB_f fun e => ?_
  have h2 := readR_ok hz
  rw [← e] at h2
  have h3 := readF_inj h h2
  have h4 : l[i] = (l.set i (bitsOf .xor .i64 l[i] b))[i]'(by rw [List.length_set]; exact hi) := by
   have := congrArg (fun m => m[i]?) h3
   rw [List.getElem?_eq_getElem hi, List.getElem?_eq_getElem (by rw [List.length_set]; exact hi)] at this
   exact Option.some.inj this
  rw [List.getElem_set_self] at h4
  exact h0 (xor_ne hb h4.symm)
 ·exact .inl hz
theorem emitOther_c (u : Unt) (k b : Int) (hk : -(2 ^ 63) ≤ k ∧ k < 2 ^ 63) (hb : -(2 ^ 63) ≤ b ∧ b < 2 ^ 63) : ACallP Tryz.prog 9 [.agg u.cells, .int .i64 k, .int .i64 b] (.bool true) := by
 have hf := few19_c u 100 (by omega) (by omega)
 by_cases hfw : fewU u 100 = true
 ·have hlim := fewU_lim hfw (by omega)
  have hco := color17_c u hlim
  rw [hfw] at hf
  unfold colPV colR at hco
  by_cases hs : sndB u = true
  ·rw [if_pos hs] at hco
   have hlv := colU_lim hlim
   have he := emitM_c (colU u) hlv
   dsimp only at hco
   generalize colU u = v at *
   unfold emitPV emitR at he
   by_cases hi : illB v = true
   ·rw [if_pos hi] at he
    dsimp only at he
    refine ACall.of_body tt_ok Tryz.func9 rfl rfl (n := 119) rfl rfl ?_
    conv => whnf
    repeat' (first|((first|((first|(apply zY;intro hg)|apply zZ);first|exact stA|exact stB|((conv=>whnf);(repeat ((first|(refine zW ?_ ?_;exact gA)|refine pC (awake19_c) wR ?_|refine pC (hf) wR ?_|refine pC (hco) wR ?_|refine pC (he) wR ?_|refine zA ?_|refine zH rfl ?_|refine zB ?_|refine sG ?_|intro _);conv=>whnf));first|exact pS|exact pL|exact pE))|(refine zW ?_ ?_;exact gA)|refine zH rfl ?_|refine zA ?_|refine zI bA ?_|refine zI rfl ?_|refine sB ?_|(refine zO ?_ ?_ ?_;omega;omega)|(refine zP ?_ ?_ ?_;omega;omega)|refine zM rfl ?_|(refine zQ ?_ ?_ ?_;omega;omega)|(refine zR ?_ ?_;omega)|(refine zI ?_ ?_;exact nA)|refine sS ?_|refine pC (awake19_c) wR ?_|refine pC (hf) wR ?_|refine pC (hco) wR ?_|refine pC (he) wR ?_|refine sF ?_|refine n0 ?_|refine sD ?_|intro _|refine zG ?_);conv=>whnf)|(refine zX (fun hc => ?_) (fun hc => ?_)<;>(try simp only [SY] at hc)<;>first|omega|(conv=>whnf)))
    exact PRet.pure (Wk.refl _)
   ·rw [if_neg hi] at he
    dsimp only at he
    rw [Bool.not_eq_true] at hi
    have hbz := bodyZ hi hlv
    have hwl : (imgW v.procs).length = 2 + v.procs.length + (bodyW cwM v.procs).length := imgW_len v.procs
    have hpn := hlv.1
    obtain ⟨qs, hqs, _⟩ := image_read hi
    change ACallP Tryz.prog 24 [.agg v.cells] (.tup [slI (imgW v.procs), .int .i64 0]) at he
    change readF (imgW v.procs) = some qs at hqs
    generalize imgW v.procs = ws at *
    have hr0 : readR ws = (qs, 0) := by unfold readR; rw [hqs]
    have hr1 : readR (ws ++ [0]) = ([], 5) := by unfold readR; rw [readF_more 0 hqs]
    have hr2 : readR (ws.take (ws.length - 1)) = ([], 5) := by unfold readR; rw [readF_less hqs]
    have hc0 := read_c ws (by omega)
    rw [readPV, hr0] at hc0
    have hc1 := read_c (ws ++ [0]) (by rw [List.length_append, List.length_singleton]; omega)
    rw [readPV, hr1] at hc1
    have hc2 := read_c (ws.take (ws.length - 1)) (by rw [List.length_take]; omega)
    rw [readPV, hr2] at hc2
    dsimp only at hc0 hc1 hc2
    have hrd : ∀ l : List Int, l.length ≤ 1000000000 → ACallP Tryz.prog 20 [slI l] (.tup [.sl 5 ((readR l).1.map Prc.pv) none, .int .i64 (readR l).2]) := fun l hl => read_c l hl
    have hand := and_le k
    refine ACall.of_body tt_ok Tryz.func9 rfl rfl (n := 119) rfl rfl ?_
    conv => whnf
    repeat' (first|((first|refine PRow.nilInts ?_|((first|(apply zY;intro hg)|apply zZ);first|exact stA|exact stB|((conv=>whnf);(repeat ((first|(refine zW ?_ ?_;exact gA)|refine pC (awake19_c) wR ?_|refine pC (hf) wR ?_|refine pC (hco) wR ?_|refine pC (he) wR ?_|refine pC (hc0) wR ?_|refine zA ?_|refine zH rfl ?_|refine zB ?_|refine sG ?_|intro _);conv=>whnf));first|exact pS|exact pL|exact pE))|(refine zW ?_ ?_;exact gA)|refine zH rfl ?_|refine zA ?_|refine zI bA ?_|refine zI rfl ?_|refine sB ?_|(refine zO ?_ ?_ ?_;omega;omega)|(refine zP ?_ ?_ ?_;omega;omega)|refine zM rfl ?_|(refine zQ ?_ ?_ ?_;omega;omega)|(refine zR ?_ ?_;omega)|(refine zI ?_ ?_;exact nA)|refine sS ?_|refine pC (awake19_c) wR ?_|refine pC (hf) wR ?_|refine pC (hco) wR ?_|refine pC (he) wR ?_|refine pC (hc0) wR ?_|refine sF ?_|refine n0 ?_|refine sD ?_|intro _|refine zG ?_);conv=>whnf)|(refine zX (fun hc => ?_) (fun hc => ?_)<;>(try simp only [SY] at hc)<;>first|omega|(conv=>whnf)))
    rename_i t0 _ _ tm htm hsm
    rw [List.nil_append]
    refine PLenM.map fun _ => ?_
    generalize bitsOf .and .i64 k 65535 = a at *
    obtain ⟨i, hie, hil⟩ : ∃ i : Nat, a.tmod ws.length = i ∧ i < ws.length := by
     obtain ⟨a, rfl⟩ := Int.eq_ofNat_of_zero_le hand.1
     exact ⟨a % ws.length, rfl, Nat.mod_lt _ (by omega)⟩
    conv => whnf
    repeat' (first|((first|((first|(apply zY;intro hg)|apply zZ);first|exact stA|exact stB|((conv=>whnf);(repeat ((first|(refine zW ?_ ?_;exact gA)|refine pC (awake19_c) wR ?_|refine pC (hf) wR ?_|refine pC (hco) wR ?_|refine pC (he) wR ?_|refine pC (hc0) wR ?_|refine zA ?_|refine zH rfl ?_|refine zB ?_|refine sG ?_|intro _);conv=>whnf));first|exact pS|exact pL|exact pE))|(refine zW ?_ ?_;exact gA)|refine zH rfl ?_|refine zA ?_|refine zI bA ?_|refine zI rfl ?_|refine sB ?_|(refine zO ?_ ?_ ?_;omega;omega)|(refine zP ?_ ?_ ?_;omega;omega)|refine zM rfl ?_|(refine zQ ?_ ?_ ?_;omega;omega)|(refine zR ?_ ?_;omega)|(refine zI ?_ ?_;exact nA)|refine sS ?_|refine pC (awake19_c) wR ?_|refine pC (hf) wR ?_|refine pC (hco) wR ?_|refine pC (he) wR ?_|refine pC (hc0) wR ?_|refine sF ?_|refine n0 ?_|refine sD ?_|intro _|refine zG ?_);conv=>whnf)|(refine zX (fun hc => ?_) (fun hc => ?_)<;>(try simp only [SY] at hc)<;>first|omega|(conv=>whnf)))
    have hel : (a.tmod ws.length).toNat < ws.length := by omega
    have hco2 := chg_other hqs _ hel hb
    refine PCall.pureFz tm _ (args' := [slI (ws.set (a.tmod ws.length).toNat (bitsOf .xor .i64 (ws[(a.tmod ws.length).toNat]'hel) b))]) (.cons (WkF.ms' hsm) .nil) (hrd _ (by rw [List.length_set]; omega)) ?_
    have her := readR_err (ws.set (a.tmod ws.length).toNat (bitsOf .xor .i64 (ws[(a.tmod ws.length).toNat]'hel) b))
    generalize readR (ws.set (a.tmod ws.length).toNat (bitsOf .xor .i64 (ws[(a.tmod ws.length).toNat]'hel) b)) = rr at *
    obtain ⟨rq, re⟩ := rr
    dsimp only at hco2 her ⊢
    conv => whnf
    repeat' (first|((first|((first|(apply zY;intro hg)|apply zZ);first|exact stA|exact stB|((conv=>whnf);(repeat ((first|(refine zW ?_ ?_;exact gA)|refine pC (awake19_c) wR ?_|refine pC (hf) wR ?_|refine pC (hco) wR ?_|refine pC (he) wR ?_|refine pC (hc2) wR ?_|refine pC (hc1) (by ((repeat' (first|exact WkT.nil|apply WkT.cons|exact Wk.refl _|exact Wk.int OA|exact Wk.tt rfl|exact Wk.ff rfl|exact Wk.nil' rfl|exact Wk.tok _ _ _)); first|done|fail)) ?_|refine pC (same2_c _ _) wR ?_|refine pC (same2_c _ _) cA ?_|refine zA ?_|refine zH rfl ?_|refine zB ?_|refine sG ?_|intro _);conv=>whnf));first|exact pS|exact pL|exact pE))|(refine zW ?_ ?_;exact gA)|refine zH rfl ?_|refine zA ?_|refine zI bA ?_|refine zI rfl ?_|refine sB ?_|(refine zO ?_ ?_ ?_;omega;omega)|(refine zP ?_ ?_ ?_;omega;omega)|refine zM rfl ?_|(refine zQ ?_ ?_ ?_;omega;omega)|(refine zR ?_ ?_;omega)|(refine zI ?_ ?_;exact nA)|refine sS ?_|refine pC (awake19_c) wR ?_|refine pC (hf) wR ?_|refine pC (hco) wR ?_|refine pC (he) wR ?_|refine pC (hc2) wR ?_|refine pC (hc1) (by ((repeat' (first|exact WkT.nil|apply WkT.cons|exact Wk.refl _|exact Wk.int OA|exact Wk.tt rfl|exact Wk.ff rfl|exact Wk.nil' rfl|exact Wk.tok _ _ _)); first|done|fail)) ?_|refine pC (same2_c _ _) wR ?_|refine pC (same2_c _ _) cA ?_|refine sF ?_|refine n0 ?_|refine sD ?_|intro _|refine zG ?_);conv=>whnf)|(refine zX (fun hc => ?_) (fun hc => ?_)<;>(try simp only [SY] at hc)<;>first|omega|(conv=>whnf)))
    exact PRet.pure (Wk.bool (by
     by_cases hb0 : b = 0
     ·subst hb0; simp
     ·rcases hco2 hb0 with h | h
      ·have h2 : (re != 0) = true := by simpa using h
       rw [h2]; simp
      ·rw [h]; simp))
  ·rw [if_neg hs] at hco
   dsimp only at hco
   refine ACall.of_body tt_ok Tryz.func9 rfl rfl (n := 119) rfl rfl ?_
   conv => whnf
   repeat' (first|((first|((first|(apply zY;intro hg)|apply zZ);first|exact stA|exact stB|((conv=>whnf);(repeat ((first|(refine zW ?_ ?_;exact gA)|refine pC (awake19_c) wR ?_|refine pC (hf) wR ?_|refine pC (hco) wR ?_|refine zA ?_|refine zH rfl ?_|refine zB ?_|refine sG ?_|intro _);conv=>whnf));first|exact pS|exact pL|exact pE))|(refine zW ?_ ?_;exact gA)|refine zH rfl ?_|refine zA ?_|refine zI bA ?_|refine zI rfl ?_|refine sB ?_|(refine zO ?_ ?_ ?_;omega;omega)|(refine zP ?_ ?_ ?_;omega;omega)|refine zM rfl ?_|(refine zQ ?_ ?_ ?_;omega;omega)|(refine zR ?_ ?_;omega)|(refine zI ?_ ?_;exact nA)|refine sS ?_|refine pC (awake19_c) wR ?_|refine pC (hf) wR ?_|refine pC (hco) wR ?_|refine sF ?_|refine n0 ?_|refine sD ?_|intro _|refine zG ?_);conv=>whnf)|(refine zX (fun hc => ?_) (fun hc => ?_)<;>(try simp only [SY] at hc)<;>first|omega|(conv=>whnf)))
   exact PRet.pure (Wk.refl _)
 ·rw [Bool.not_eq_true] at hfw
  rw [hfw] at hf
  refine ACall.of_body tt_ok Tryz.func9 rfl rfl (n := 119) rfl rfl ?_
  conv => whnf
  repeat' (first|((first|((first|(apply zY;intro hg)|apply zZ);first|exact stA|exact stB|((conv=>whnf);(repeat ((first|(refine zW ?_ ?_;exact gA)|refine pC (awake19_c) wR ?_|refine pC (hf) wR ?_|refine zA ?_|refine zH rfl ?_|refine zB ?_|refine sG ?_|intro _);conv=>whnf));first|exact pS|exact pL|exact pE))|(refine zW ?_ ?_;exact gA)|refine zH rfl ?_|refine zA ?_|refine zI bA ?_|refine zI rfl ?_|refine sB ?_|(refine zO ?_ ?_ ?_;omega;omega)|(refine zP ?_ ?_ ?_;omega;omega)|refine zM rfl ?_|(refine zQ ?_ ?_ ?_;omega;omega)|(refine zR ?_ ?_;omega)|(refine zI ?_ ?_;exact nA)|refine sS ?_|refine pC (awake19_c) wR ?_|refine pC (hf) wR ?_|refine sF ?_|refine n0 ?_|refine sD ?_|intro _|refine zG ?_);conv=>whnf)|(refine zX (fun hc => ?_) (fun hc => ?_)<;>(try simp only [SY] at hc)<;>first|omega|(conv=>whnf)))
  exact PRet.pure (Wk.refl _)
end Go.Cb
namespace Go.Cb
open Go.RowKit (Below)
open Go.ChangeShapes
def Fz.of (w : World) : Fz := fun b o => w.cell? ⟨b, o, none⟩
theorem Sim.start (w : World) : Sim w (Fz.of w) [] w := ⟨Below.refl _ w, fun _ _ _ h => h, by simp, .nil⟩
theorem choose_list {α : Type} {p : Nat → α → Prop} : ∀ {n : Nat}, (∀ i, i < n → ∃ a, p i a) → ∃ l : List α, l.length = n ∧ ∀ i a, l[i]? = some a → p i a
 | 0, _ => ⟨[], rfl, by simp⟩
 | n + 1, h => by
  obtain ⟨l, h1, h2⟩ := choose_list (n := n) fun i hi => h i (by omega)
  obtain ⟨a, ha⟩ := h n (by omega)
  refine ⟨l ++ [a], by simp [h1], fun i b hb => ?_⟩
  by_cases hi : i < l.length
  ·rw [List.getElem?_append_left hi] at hb; exact h2 i b hb
  ·rw [List.getElem?_append_right (by omega)] at hb
   have h0 : i - l.length = 0 := by
    rcases Nat.eq_zero_or_pos (i - l.length) with h | h
    ·exact h
    ·rw [List.getElem?_eq_none (by simp; omega)] at hb; cases hb
   rw [h0] at hb
   simp at hb
   obtain rfl : i = n := by omega
   rwa [← hb]
section
variable {H : Type} {enc : TypeId × Value → H} {P : Program} {w : World} {UB : DataW H → Nat} {UBs : List (DataW H) → Nat}
structure Bulk (UB : DataW H → Nat) (UBs : List (DataW H) → Nat) : Prop where
 nil : UBs [] = 0
 cons : ∀ x l, UBs (x :: l) = UB x + UBs l
 agg : ∀ l, 1 + UBs l ≤ UB (.agg l)
 slice : ∀ l m, 1 + UBs l ≤ UB (.slice l m)
 str : ∀ s, s.length + 1 ≤ UB (.lit (.string s))
 pos : ∀ d, 1 ≤ UB d
def Rd {α : Type} (enc : TypeId × Value → H) (P : Program) (w : World) (UB : DataW H → Nat) (n : Nat) (t : TypeId) (cells : α → List PV) (bk : α → Nat) : Prop :=
 ∀ cs x, DataW.trod enc P w 0 (fun _ => true) true n t cs = some x → ∃ a : α, RepL (Fz.of w) (cells a) cs ∧ bk a ≤ UB x.1
theorem rd_int (hB : Bulk UB UBs) {t : TypeId} {k : IntKind} (ht : P.underlying t = some (.int k)) (n : Nat) : Rd enc P w UB n t (fun n : Int => [.int k n]) fun _ => 1 := by
 intro cs x h
 obtain ⟨m, rfl, rfl, _⟩ := DataW.trod_int ht h
 exact ⟨m, by simp only [RepL, Rep, and_true]; exact rfl, hB.pos _⟩
theorem rd_bool (hB : Bulk UB UBs) {t : TypeId} (ht : P.underlying t = some .bool) (n : Nat) : Rd enc P w UB n t (fun n : Bool => [.bool n]) fun _ => 1 := by
 intro cs x h
 obtain ⟨m, rfl, rfl⟩ := DataW.trod_bool ht h
 exact ⟨m, by simp only [RepL, Rep, and_true]; exact rfl, hB.pos _⟩
theorem rd_str (hB : Bulk UB UBs) {t : TypeId} (ht : P.underlying t = some .string) (n : Nat) : Rd enc P w UB n t (fun s : List UInt8 => [.str s]) fun s => s.length := by
 intro cs x h
 obtain ⟨s, rfl, rfl, hs⟩ := DataW.trod_string ht h
 refine ⟨s.data.toList, ?_, by have := hB.str s.data.toList; show s.data.toList.length ≤ UB (.lit (.string s.data.toList)); omega⟩
 have : s.data.toList.length ≤ 9223372036854775807 := by
  have h1 : s.data.toList.length = s.size := Array.length_toList
  have h2 : maxLen ≤ 9223372036854775807 := by simp only [maxLen]; omega
  omega
 exact RepL_cons.2 ⟨⟨rfl, by unfold Rep; exact ⟨rfl, this⟩⟩, RepL_nil _⟩
theorem rep_row {α : Type} {pv : α → PV} {cells : α → List PV} [c : CellsOf pv cells] {s b o : Nat} (hs : ∀ a, (cells a).length = s) : ∀ (l : List α) (i : Nat),
  (∀ j a, l[j]? = some a → ∃ cs, w.cells? 0 ((⟨b, o, none⟩ : Addr).add ((i + j) * s)) s = some cs ∧ RepL (Fz.of w) (cells a) cs) → RepRow (Fz.of w) s b (o + i * s) (l.map pv)
 | [], _, _ => by simp [RepRow]
 | a :: l, i, h => by
  rw [List.map_cons, RepRow_cons]
  obtain ⟨cs, h1, h2⟩ := h 0 a rfl
  obtain ⟨_, h3, h4⟩ := World.cells?_some h1
  refine ⟨⟨by rw [c.eq]; exact hs a, ?_⟩, ?_⟩
  ·rw [c.eq, RepCells_iff]
   refine ⟨cs, h2, fun j u hu => ?_⟩
   have hj : j < cs.length := by
    rcases Nat.lt_or_ge j cs.length with h | h
    ·exact h
    ·rw [List.getElem?_eq_none h] at hu; cases hu
   have := h4 j (by omega)
   rw [hu, Addr.add_lit, Addr.add_lit] at this
   simpa [Fz.of] using this
  ·have := rep_row (pv := pv) hs l (i + 1) fun j a ha => by
    have := h (j + 1) a (by simpa using ha)
    rwa [show i + (j + 1) = i + 1 + j by omega] at this
   rwa [show o + (i + 1) * s = o + i * s + s by rw [Nat.succ_mul]; omega] at this
def sumBk {α : Type} (bk : α → Nat) : List α → Nat
 | [] => 0
 | a :: l => bk a + sumBk bk l
theorem sumBk_le (hB : Bulk UB UBs) {α : Type} {bk : α → Nat} : ∀ (l : List α) (ds : List (DataW H)), l.length ≤ ds.length → (∀ (i : Nat) (a : α) (d : DataW H), l[i]? = some a → ds[i]? = some d → bk a ≤ UB d) → sumBk bk l ≤ UBs ds
 | [], _, _, _ => by simp [sumBk]
 | a :: l, [], h, _ => by simp at h
 | a :: l, d :: ds, h, k => by
  rw [sumBk, hB.cons]
  have h1 := k 0 a d rfl rfl
  have h2 := sumBk_le hB l ds (by simpa using h) fun i a d ha hd => k (i + 1) a d (by simpa using ha) (by simpa using hd)
  omega
theorem rd_slice (hB : Bulk UB UBs) {n : Nat} {t e : TypeId} (ht : P.underlying t = some (.slice e)) {s : Nat} (hs : P.cellsOf e = s) (hp : 0 < s) {α : Type} {pv : α → PV} {cells : α → List PV} [c : CellsOf pv cells] {bk : α → Nat}
  (hc : ∀ a, (cells a).length = s) (he : ∀ m, m < n → Rd enc P w UB m e cells bk) : Rd enc P w UB n t (fun l : List α => [.sl s (l.map pv) none]) fun l => 1 + sumBk bk l := by
 intro cs x h
 rcases DataW.trod_slice ht h with ⟨rfl, rfl⟩ | ⟨a, len, cap, elems, rest, m, rfl, rfl, rfl, _, hlc, hcm, hel, hx, hr, _⟩
 ·refine ⟨[], ?_, by have := hB.pos (DataW.nil : DataW H); simpa [sumBk] using this⟩
  exact RepL_cons.2 ⟨⟨rfl, by unfold Rep; exact ⟨by simp, .inl ⟨rfl, rfl⟩⟩⟩, RepL_nil _⟩
 ·have hx' : ∀ i, i < len → ∃ a' : α, ∃ cs d, elems[i]? = some d ∧ w.cells? 0 (a.add (i * s)) s = some cs ∧ RepL (Fz.of w) (cells a') cs ∧ bk a' ≤ UB d.1 := by
   intro i hi
   have h1 := hx i hi
   have h2 : elems[i]? = some elems[i] := List.getElem?_eq_getElem (by omega)
   rw [h2, hs] at h1
   obtain ⟨cs, h3, h4⟩ := Option.bind_eq_some_iff.1 h1
   obtain ⟨a', h5, h6⟩ := he m (by omega) cs _ h4
   exact ⟨a', cs, _, h2, h3, h5, h6⟩
  obtain ⟨l, hl, hl2⟩ := choose_list hx'
  have hcount : 1 + sumBk bk l ≤ UB (.slice (elems.map (·.1)) (rest.map (·.1))) := by
   have := sumBk_le hB (bk := bk) l (elems.map (·.1)) (by simp; omega) (by
    intro i a' d ha hd
    obtain ⟨_, d', h2, _, _, h5⟩ := hl2 i a' ha
    rw [List.getElem?_map, h2] at hd
    simp at hd
    rw [← hd]; exact h5)
   have := hB.slice (elems.map (·.1)) (rest.map (·.1))
   omega
  refine ⟨l, ?_, hcount⟩
  refine RepL_cons.2 ⟨⟨rfl, ?_⟩, RepL_nil _⟩
  unfold Rep
  refine ⟨fun t ht => (by cases ht), ?_⟩
  by_cases h0 : cap = 0
  ·subst h0
   obtain rfl : len = 0 := by omega
   have : l = [] := List.eq_nil_of_length_eq_zero hl
   subst this
   exact .inr (.inr ⟨rfl, a, rfl⟩)
  ·
   have hsp : a.spot = none := by
    have h1 : ∃ cs, w.cells? 0 a s = some cs := by
     by_cases h2 : 0 < len
     ·obtain ⟨_, cs, _, _, h3, _⟩ := hx' 0 h2
      exact ⟨cs, by simpa [Addr.add] using h3⟩
     ·obtain ⟨h3, h4⟩ := hr rfl
      have h5 := h4 0 (by omega)
      have h6 : rest[0]? = some (rest[0]'(by omega)) := List.getElem?_eq_getElem (by omega)
      rw [h6, hs] at h5
      obtain ⟨cs, h7, _⟩ := Option.bind_eq_some_iff.1 h5
      have : len = 0 := by omega
      subst this
      exact ⟨cs, by simpa [Addr.add] using h7⟩
    obtain ⟨cs, h1⟩ := h1
    obtain ⟨_, h3, h4⟩ := World.cells?_some h1
    have h5 := h4 0 hp
    have h6 : cs[0]? = some (cs[0]'(by omega)) := List.getElem?_eq_getElem (by omega)
    rw [h6] at h5
    simp only [Addr.add, if_true, World.cell?] at h5
    split at h5
    ·split at h5
     ·cases h5
     ·rename_i hn; simpa using hn
    ·cases h5
   obtain ⟨b, o, sp⟩ := a
   simp only at hsp
   subst hsp
   refine .inr (.inl ⟨b, o, cap, by simp [hl], by simp; omega, hcm, by simp, ?_⟩)
   have := rep_row (pv := pv) (w := w) (b := b) (o := o) hc l 0 fun j a' ha => by
    obtain ⟨cs, _, _, h3, h4, _⟩ := hl2 j a' ha
    exact ⟨cs, by simpa using h3, h4⟩
   simpa using this
end
section
variable {H : Type} {enc : TypeId × Value → H} {P : Program} {w : World} {UB : DataW H → Nat} {UBs : List (DataW H) → Nat}
theorem repL_cat {F : Fz} {ps bs : List PV} {cs : List Value} {o s : Nat} (h1 : RepL F ps ((cs.drop o).take s)) (h2 : RepL F bs (cs.drop (o + s))) : RepL F (ps ++ bs) (cs.drop o) := by
 have := RepL_append h1 h2
 rwa [← List.drop_drop, List.take_append_drop] at this
theorem rd_field {α : Type} {n o s : Nat} {t : TypeId} {cells : α → List PV} {bk : α → Nat} (hR : Rd enc P w UB n t cells bk) {fs : Array Field} {cs : List Value} {xs : List (DataW H × List MemPlace)} (hlen : xs.length = fs.size)
  (hf : ∀ (i : Nat) (f : Field), fs[i]? = some f → DataW.trod enc P w 0 (fun _ => true) true n f.type ((cs.drop f.offset).take (P.cellsOf f.type)) = xs[i]?) (i : Nat) (h : (fs.toList.map fun f => (f.type, f.offset))[i]? = some (t, o)) (hs : P.cellsOf t = s) :
  ∃ a y, xs[i]? = some y ∧ RepL (Fz.of w) (cells a) ((cs.drop o).take s) ∧ bk a ≤ UB y.1 := by
 rw [List.getElem?_map] at h
 obtain ⟨f, hfi, hft⟩ := Option.map_eq_some_iff.1 h
 rw [Array.getElem?_toList] at hfi
 simp only [Prod.mk.injEq] at hft
 obtain ⟨rfl, rfl⟩ := hft
 have h1 := hf i f hfi
 have hi : i < xs.length := by rw [hlen]; exact (Array.getElem?_eq_some_iff.1 hfi).1
 have h2 : xs[i]? = some xs[i] := List.getElem?_eq_getElem hi
 rw [h2] at h1
 obtain ⟨a, h3, h4⟩ := hR _ _ h1
 exact ⟨a, _, h2, by rw [← hs]; exact h3, h4⟩
theorem arg_struct {α : Type} {t : TypeId} {cells : α → List PV} {bk : α → Nat} {fs : Array Field} (hs : P.underlying t = some (.struct fs)) (hR : ∀ n, Rd enc P w UB n t cells bk) {r : Reach} {b0 : Nat} {v : Value} {d : DataW H} {p : List MemPlace}
  (hv : Value.okWide P w r b0 t v) (h : DataW.Trod enc P w 0 (fun _ => true) true t v d p) : ∃ a, Rep (Fz.of w) (.agg (cells a)) v ∧ bk a ≤ UB d := by
 obtain ⟨cs, rfl, _⟩ := Go.WideShapes.okWide_struct hs hv
 obtain ⟨fuel, hf⟩ := h
 obtain ⟨a, h1, h2⟩ := hR fuel _ _ hf
 refine ⟨a, ?_, h2⟩
 simp only [Rep]
 exact ⟨cs.toList, by simp, by simpa [Value.cells] using h1⟩
theorem arg_int {t : TypeId} {k : IntKind} (ht : P.underlying t = some (.int k)) {r : Reach} {b0 : Nat} {v : Value} {d : DataW H} {p : List MemPlace} (hv : Value.okWide P w r b0 t v) (h : DataW.Trod enc P w 0 (fun _ => true) true t v d p) :
  ∃ n : Int, Rep (Fz.of w) (.int k n) v ∧ (Lit.int k n).wf = true := by
 obtain ⟨n, rfl, _, _, h4⟩ := open_int ht hv h
 exact ⟨n, by simp only [Rep], h4⟩
theorem trodAll_below (hl : laidOutB P = true) {W W' : World} (hb : Below W.heap.size W W') : ∀ {ts : List TypeId} {vs : List Value} {ds : List (DataW H)} {ps : List MemPlace}, (∀ t ∈ ts, P.readableRec t = true ∧ t < P.types.size) →
  DataW.TrodAll enc P W 0 (fun _ => true) true ts vs ds ps → (∀ x ∈ ps, x.block < W.heap.size) → DataW.TrodAll enc P W' 0 (fun b => decide (b < W.heap.size)) true ts vs ds ps
 | [], _, _, _, _, h, _ => by
  obtain ⟨rfl, rfl, rfl⟩ := trodAll_nil h
  exact trodAll_mk0
 | t :: ts, _, _, _, hr, h, hlt => by
  obtain ⟨v, vs, d, ds, p, q, rfl, rfl, rfl, h1, h2⟩ := trodAll_cons h
  exact trodAll_cons_mk (Go.RowKit.Below.trod hl (hr t (by simp)).1 (hr t (by simp)).2 h1 hb fun x hx => hlt x (by simp [hx])) (trodAll_below hl hb (fun t ht => hr t (by simp [ht])) h2 fun x hx => hlt x (by simp [hx]))
theorem trodAll_len {spare : Nat → Bool} {base : Nat} {held : Bool} : ∀ {ts : List TypeId} {vs : List Value} {ds : List (DataW H)} {ps : List MemPlace}, DataW.TrodAll enc P w base spare held ts vs ds ps → ds.length = ts.length
 | [], _, _, _, h => by obtain ⟨rfl, rfl, rfl⟩ := trodAll_nil h; rfl
 | t :: ts, _, _, _, h => by
  obtain ⟨v, vs, d, ds, p, q, rfl, rfl, rfl, h1, h2⟩ := trodAll_cons h
  simp [trodAll_len h2]
theorem law_post {f : Func} {s : ChangeSpec} {tb : TypeId} {W W' : World} {args : Array Value} {ds gs : List (DataW H)} {before : List MemPlace} (hl : laidOutB P = true) (hr : ∀ t ∈ f.params.toList, P.readableRec t = true ∧ t < P.types.size)
  (hres : f.resultTypes = #[tb]) (hb : P.underlying tb = some .bool) (hv : s.vars = []) (hfn : ∀ ds : List (DataW H), ds.length = f.params.size → s.fn H ds = { results := [.lit (.bool true)], args := ds })
  (hW : DataW.Whole enc P f.params.toList s.vars false W args.toList ds gs before) (hbel : Below W.heap.size W W') : s.post enc P f false true false false W args (.bool true) W' := by
 have hW' := hW
 obtain ⟨p, q, hA, hV, rfl, _, _⟩ := hW
 have hV0 : DataW.TrodVars enc P W (fun _ => true) [] gs q := by rw [← hv]; exact hV
 obtain ⟨rfl, rfl⟩ := trodVars_none hV0
 have hfn' := hfn (ds ++ []) (by rw [List.append_nil, trodAll_len hA]; simp)
 refine ⟨ds, [], p ++ [], [], p, [], hW', ?_, ?_, ?_, hbel.frame _, fun h => by cases h⟩
 ·rw [hfn', hres]
  exact trodAll_mk1 (Go.RowKit.shut_bool hb _)
 ·rw [hfn', List.append_nil]
  exact trodAll_below hl hbel hr hA fun x hx => hW'.lt x (by simp [hx])
 ·rw [hfn', hv]; rfl
end
theorem sumBk_datum : ∀ l : List Datum, sumBk Datum.bulk l = Datum.bulks l
 | [] => rfl
 | x :: l => by rw [sumBk, Datum.bulks, sumBk_datum l]
theorem sumBk_one {α : Type} : ∀ l : List α, sumBk (fun _ => 1) l = l.length
 | [] => rfl
 | x :: l => by rw [sumBk, sumBk_one l, List.length_cons]; omega
section
variable {H : Type} {enc : TypeId × Value → H} {P : Program} {w : World} {UB : DataW H → Nat} {UBs : List (DataW H) → Nat}
theorem repL_end {F : Fz} {cs : List Value} {n : Nat} (h : cs.length = n) : RepL F [] (cs.drop n) := by
 rw [List.drop_of_length_le (by omega)]; exact RepL_nil F
theorem rd_datum (hB : Bulk UB UBs) {tI tS tL tD : TypeId} (hI : P.underlying tI = some (.int .i64)) (hS : P.underlying tS = some .string) (hL : P.underlying tL = some (.slice tD)) {fs : Array Field} (hD : P.underlying tD = some (.struct fs))
  (hfs : (fs.toList.map fun f => (f.type, f.offset)) = [(tI, 0), (tI, 1), (tI, 2), (tS, 3), (tL, 4)]) (cI : P.cellsOf tI = 1) (cS : P.cellsOf tS = 1) (cL : P.cellsOf tL = 1) (cD : P.cellsOf tD = 5) : ∀ n, Rd enc P w UB n tD Datum.cells Datum.bulk := by
 intro n
 induction n using Nat.strongRecOn with
 | ind n ih =>
  intro cs x h
  obtain ⟨xs, m, rfl, rfl, hl, hlen, hf⟩ := DataW.trod_struct hD h
  obtain ⟨a0, y0, e0, r0, _⟩ := rd_field (rd_int (w := w) (enc := enc) hB hI m) hlen hf 0 (by rw [hfs]; rfl) cI
  obtain ⟨a1, y1, e1, r1, _⟩ := rd_field (rd_int (w := w) (enc := enc) hB hI m) hlen hf 1 (by rw [hfs]; rfl) cI
  obtain ⟨a2, y2, e2, r2, _⟩ := rd_field (rd_int (w := w) (enc := enc) hB hI m) hlen hf 2 (by rw [hfs]; rfl) cI
  obtain ⟨a3, y3, e3, r3, b3⟩ := rd_field (rd_str (w := w) (enc := enc) hB hS m) hlen hf 3 (by rw [hfs]; rfl) cS
  obtain ⟨a4, y4, e4, r4, b4⟩ := rd_field (rd_slice (pv := Datum.pv) hB hL cD (by omega) (fun a => rfl) (fun k hk => ih k (by omega))) hlen hf 4 (by rw [hfs]; rfl) cL
  refine ⟨.mk a0 a1 a2 a3 a4, ?_, ?_⟩
  ·exact repL_cat r0 (repL_cat r1 (repL_cat r2 (repL_cat r3 (repL_cat r4 (repL_end (hl.trans cD))))))
  ·have h5 : xs.length = 5 := by
    have := congrArg List.length hfs
    simp at this; omega
   match xs, h5 with
   | [z0, z1, z2, z3, z4], _ =>
    simp at e3 e4
    subst e3 e4
    have := hB.agg ([z0, z1, z2, z3, z4].map (·.1))
    simp only [List.map_cons, List.map_nil, hB.cons, hB.nil] at this
    rw [sumBk_datum] at b4
    rw [Datum.bulk_eq]
    show 1 + a3.length + Datum.bulks a4 ≤ _
    simp only [List.map_cons, List.map_nil]
    omega
theorem rd_ints (hB : Bulk UB UBs) {tI tV : TypeId} (hI : P.underlying tI = some (.int .i64)) (hV : P.underlying tV = some (.slice tI)) (cI : P.cellsOf tI = 1) (n : Nat) : Rd enc P w UB n tV (fun l : List Int => [.sl 1 (l.map (PV.int .i64)) none]) fun l => 1 + l.length := by
 intro cs x h
 obtain ⟨a, h1, h2⟩ := rd_slice (pv := PV.int .i64) hB hV cI (by omega) (fun a => rfl) (fun k hk => rd_int (w := w) (enc := enc) hB hI k) cs x h
 exact ⟨a, h1, by have := sumBk_one a; show 1 + a.length ≤ _; have h3 : 1 + sumBk (fun _ => 1) a ≤ UB x.1 := h2; omega⟩
end
end Go.Cb
namespace Go.Cb
open Go.Proofs Go.Proofs.YtklpioocdgfbmaaGreatDoor
open Go.RowKit (Below)
theorem uptoOne {H : Type} (d : DataW H) : 1 ≤ Rows.uptoBulk d := by
 cases d with
 | lit l => cases l <;> simp [Rows.uptoBulk]
 | nil => simp [Rows.uptoBulk]
 | ptr d => simp [Rows.uptoBulk]
 | slice elems spare => simp [Rows.uptoBulk]
 | agg parts => simp [Rows.uptoBulk]
 | iface t d => simp [Rows.uptoBulk]
 | map entries => simp [Rows.uptoBulk]
 | held h => simp [Rows.uptoBulk]
theorem bulkR {H : Type} : Bulk (H := H) Rows.uptoBulk Rows.uptoBulkAll where
 nil := by simp [Rows.uptoBulkAll]
 cons x l := by simp [Rows.uptoBulkAll]
 agg l := by simp [Rows.uptoBulk]; omega
 slice l m := by simp [Rows.uptoBulk]; omega
 str s := by simp [Rows.uptoBulk]
 pos d := uptoOne d
section
variable {H : Type} {enc : TypeId × Value → H} {w : World}
theorem cInt : Tryz.prog.cellsOf 3 = 1 := by kernel_rfl
theorem cStr : Tryz.prog.cellsOf 9 = 1 := by kernel_rfl
theorem cBool : Tryz.prog.cellsOf 4 = 1 := by kernel_rfl
theorem cInts : Tryz.prog.cellsOf 23 = 1 := by kernel_rfl
theorem cDs : Tryz.prog.cellsOf 22 = 1 := by kernel_rfl
theorem cD : Tryz.prog.cellsOf 70 = 5 := by kernel_rfl
theorem rdD (n : Nat) : Rd enc Tryz.prog w Rows.uptoBulk n 70 Datum.cells Datum.bulk :=
 rd_datum bulkR Tryz.underlying3 Tryz.underlying9 Tryz.underlying22 Tryz.underlying70 rfl cInt cStr cDs cD n
theorem rdDs (n : Nat) : Rd enc Tryz.prog w Rows.uptoBulk n 22 (fun l : List Datum => [.sl 5 (l.map Datum.pv) none]) fun l => 1 + Datum.bulks l := by
 intro cs x h
 obtain ⟨a, h1, h2⟩ := rd_slice (pv := Datum.pv) bulkR Tryz.underlying22 cD (by omega) (fun a => rfl) (fun k hk => rdD (w := w) (enc := enc) k) cs x h
 have h3 : 1 + sumBk Datum.bulk a ≤ Rows.uptoBulk x.1 := h2
 rw [sumBk_datum] at h3
 exact ⟨a, h1, h3⟩
def Prog.bulk (p : Prog) : Nat := Datum.bulks p.consts + p.body.bulk
theorem okI : Tryz.prog.readableRec 3 = true ∧ 3 < Tryz.prog.types.size := ⟨by kernel_rfl, of_decide_eq_true (by kernel_rfl)⟩
theorem okT : Tryz.prog.readableRec 26 = true ∧ 26 < Tryz.prog.types.size := ⟨by kernel_rfl, of_decide_eq_true (by kernel_rfl)⟩
theorem calls_true {f : FuncId} {args : List PV} {vs : List Value} {W : World} (h : ACallP Tryz.prog f args (.bool true)) (hr : RepT (Fz.of W) args vs) : Calls Tryz.prog f vs.toArray W fun e W' => e = .returned (.bool true) ∧ Below W.heap.size W W' := by
 refine (h.2 W (Fz.of W) [] W vs (Sim.start W) hr).mono ?_
 rintro e W' ⟨v, F', y, Γ', rfl, _, hS, hR, rfl⟩
 exact ⟨by rw [show v = .bool true by simpa only [Rep] using hR], hS.below⟩
end
end Go.Cb
namespace Go.Cb
open Go.Proofs Go.Proofs.YtklpioocdgfbmaaGreatDoor
open Go.RowKit (Below)
section
variable {H : Type} {enc : TypeId × Value → H} {w : World}
end
end Go.Cb
namespace Go.Cb
open Go.Proofs Go.Proofs.YtklpioocdgfbmaaGreatDoor
section
variable {H : Type} {enc : TypeId × Value → H} {w : World}
instance : CellsOf slI (fun l => [slI l]) := ⟨fun _ => rfl⟩
theorem cU : Tryz.prog.cellsOf 45 = 2 := by kernel_rfl
theorem cPr : Tryz.prog.cellsOf 57 = 5 := by kernel_rfl
theorem cPrs : Tryz.prog.cellsOf 39 = 1 := by kernel_rfl
theorem cIn : Tryz.prog.cellsOf 59 = 5 := by kernel_rfl
theorem cIns : Tryz.prog.cellsOf 54 = 1 := by kernel_rfl
theorem cII : Tryz.prog.cellsOf 55 = 1 := by kernel_rfl
def Ins.bulk (x : Ins) : Nat := x.l.length
theorem rdIn (n : Nat) : Rd enc Tryz.prog w Rows.uptoBulk n 59 Ins.cells Ins.bulk := by
 intro cs x h
 obtain ⟨xs, m, rfl, rfl, hl, hlen, hf⟩ := DataW.trod_struct Tryz.underlying59 h
 obtain ⟨a0, y0, e0, r0, b0⟩ := rd_field (rd_int (w := w) (enc := enc) bulkR Tryz.underlying3 m) hlen hf 0 rfl cInt
 obtain ⟨a1, y1, e1, r1, b1⟩ := rd_field (rd_int (w := w) (enc := enc) bulkR Tryz.underlying3 m) hlen hf 1 rfl cInt
 obtain ⟨a2, y2, e2, r2, b2⟩ := rd_field (rd_int (w := w) (enc := enc) bulkR Tryz.underlying3 m) hlen hf 2 rfl cInt
 obtain ⟨a3, y3, e3, r3, b3⟩ := rd_field (rd_int (w := w) (enc := enc) bulkR Tryz.underlying3 m) hlen hf 3 rfl cInt
 obtain ⟨a4, y4, e4, r4, b4⟩ := rd_field (rd_ints (w := w) (enc := enc) bulkR Tryz.underlying3 Tryz.underlying23 cInt m) hlen hf 4 rfl cInts
 refine ⟨⟨a0, a1, a2, a3, a4⟩, ?_, ?_⟩
 ·have := repL_cat r0 (repL_cat r1 (repL_cat r2 (repL_cat r3 (repL_cat r4 (repL_end (hl.trans cIn))))))
  rwa [List.append_nil] at this
 ·match xs, hlen with
  | [z0, z1, z2, z3, z4], _ =>
   simp at e4
   subst e4
   have := (bulkR (H := H)).agg ([z0, z1, z2, z3, z4].map (·.1))
   simp only [List.map_cons, List.map_nil, (bulkR (H := H)).cons, (bulkR (H := H)).nil] at this
   show a4.length ≤ _
   simp only [List.map_cons, List.map_nil]
   omega
theorem rdIns (n : Nat) : Rd enc Tryz.prog w Rows.uptoBulk n 54 (fun l : List Ins => [.sl 5 (l.map Ins.pv) none]) fun l => 1 + sumBk Ins.bulk l :=
 rd_slice (pv := Ins.pv) bulkR Tryz.underlying54 cIn (by omega) (fun a => rfl) (fun k hk => rdIn (w := w) (enc := enc) k)
theorem rdII (n : Nat) : Rd enc Tryz.prog w Rows.uptoBulk n 55 (fun l : List (List Int) => [.sl 1 (l.map slI) none]) fun l => 1 + sumBk (fun a => 1 + a.length) l :=
 rd_slice (pv := slI) bulkR Tryz.underlying55 cInts (by omega) (fun a => rfl) (fun k hk => rd_ints (w := w) (enc := enc) bulkR Tryz.underlying3 Tryz.underlying23 cInt k)
theorem sumBk_len {α : Type} {bk : α → Nat} (h : ∀ a, 1 ≤ bk a) : ∀ l : List α, l.length ≤ sumBk bk l
 | [] => Nat.zero_le _
 | a :: l => by rw [sumBk, List.length_cons]; have := h a; have := sumBk_len h l; omega
theorem rdPr (n : Nat) : Rd enc Tryz.prog w Rows.uptoBulk n 57 Prc.cells fun _ => 1 := by
 intro cs x h
 obtain ⟨xs, m, rfl, rfl, hl, hlen, hf⟩ := DataW.trod_struct Tryz.underlying57 h
 obtain ⟨a0, y0, e0, r0, b0⟩ := rd_field (rd_int (w := w) (enc := enc) bulkR Tryz.underlying3 m) hlen hf 0 rfl cInt
 obtain ⟨a1, y1, e1, r1, b1⟩ := rd_field (rd_bool (w := w) (enc := enc) bulkR Tryz.underlying4 m) hlen hf 1 rfl cBool
 obtain ⟨a2, y2, e2, r2, b2⟩ := rd_field (rd_int (w := w) (enc := enc) bulkR Tryz.underlying3 m) hlen hf 2 rfl cInt
 obtain ⟨a3, y3, e3, r3, b3⟩ := rd_field (rdIns (w := w) (enc := enc) m) hlen hf 3 rfl cIns
 obtain ⟨a4, y4, e4, r4, b4⟩ := rd_field (rdII (w := w) (enc := enc) m) hlen hf 4 rfl cII
 refine ⟨⟨a0, a1, a2, a3, a4⟩, ?_, bulkR.pos _⟩
 have := repL_cat r0 (repL_cat r1 (repL_cat r2 (repL_cat r3 (repL_cat r4 (repL_end (hl.trans cPr))))))
 rwa [List.append_nil] at this
theorem rdU (n : Nat) : Rd enc Tryz.prog w Rows.uptoBulk n 45 Unt.cells fun u => Datum.bulks u.consts + u.procs.length := by
 intro cs x h
 obtain ⟨xs, m, rfl, rfl, hl, hlen, hf⟩ := DataW.trod_struct Tryz.underlying45 h
 obtain ⟨a0, y0, e0, r0, b0⟩ := rd_field (rdDs (w := w) (enc := enc) m) hlen hf 0 rfl cDs
 obtain ⟨a1, y1, e1, r1, b1⟩ := rd_field (rd_slice (pv := Prc.pv) bulkR Tryz.underlying39 cPr (by omega) (fun a => rfl) (fun k hk => rdPr (w := w) (enc := enc) k)) hlen hf 1 rfl cPrs
 refine ⟨⟨a0, a1⟩, ?_, ?_⟩
 ·have := repL_cat r0 (repL_cat r1 (repL_end (hl.trans cU)))
  rwa [List.append_nil] at this
 ·match xs, hlen with
  | [z0, z1], _ =>
   simp at e0 e1
   subst e0 e1
   have := (bulkR (H := H)).agg ([z0, z1].map (·.1))
   simp only [List.map_cons, List.map_nil, (bulkR (H := H)).cons, (bulkR (H := H)).nil] at this
   have h1 : a1.length ≤ sumBk (fun _ : Prc => 1) a1 := sumBk_len (fun _ => Nat.le_refl _) a1
   show Datum.bulks a0 + a1.length ≤ _
   simp only [List.map_cons, List.map_nil]
   omega
theorem okU : Tryz.prog.readableRec 45 = true ∧ 45 < Tryz.prog.types.size := ⟨by kernel_rfl, of_decide_eq_true (by kernel_rfl)⟩
end
end Go.Cb
namespace Go.Cb
open Go.Proofs Go.Proofs.YtklpioocdgfbmaaGreatDoor
mutual
def cellsD : DataW Unit → List Value
 | .lit (.int k n) => [.int k n]
 | .lit (.bool b) => [.bool b]
 | .lit (.string s) => [.string ⟨s.toArray⟩]
 | .agg l => cellsDs l
 | _ => []
def cellsDs : List (DataW Unit) → List Value
 | [] => []
 | d :: l => cellsD d ++ cellsDs l
end
def newBlocks (e : TypeId) : List (String × DataW Unit) → List Obj
 | [] => []
 | (_, .iface _ (.ptr d)) :: l => .cells (cellsD d).toArray e :: newBlocks e l
 | _ :: l => newBlocks e l
def putCs (h : Array Obj) (g : Option Nat) (cs : Array Value) : Array Obj := match g with
 | some g => h.modify g fun
  | .cells _ t frozen => .cells cs t frozen
  | o => o
 | none => h
def layAll (P : Program) (p : TypeId) : List (String × DataW Unit) → Nat → Array Obj → Array Obj
 | [], _, h => h
 | (n, .iface _ _) :: l, k, h => layAll P p l (k + 1) (putCs h (P.globalNamed n) #[.iface p (.pointer (some ⟨k, 0, none⟩))])
 | (n, d) :: l, k, h => layAll P p l k (putCs h (P.globalNamed n) (cellsD d).toArray)
noncomputable def laidWorld (os : Os) : World :=
 let w0 := World.holding Tryz.prog os ⟨(newBlocks 327 Rows.closureConvertsRow.laid).toArray, #[], []⟩
 { w0 with heap := layAll Tryz.prog 325 Rows.closureConvertsRow.laid (World.settled Tryz.prog os).heap.size w0.heap }
theorem laid_met (os : Os) (args : Array Value) : laidMet Tryz.prog Rows.closureConvertsRow.laid ((laidWorld os).forCall (fun _ _ => 0) ⟨#[], args, []⟩).memory :=
 (LaidIn.of_run (l := Rows.closureConvertsRow.laid) (List.range 1000) 16 (by kernel_rfl) (by kernel_rfl) (by kernel_rfl) (by kernel_rfl)).met
theorem own_none : ownKnob Tryz.prog.godebug = none := by kernel_rfl
theorem laidOut : laidOutB Tryz.prog = true := by kernel_rfl
end Go.Cb

