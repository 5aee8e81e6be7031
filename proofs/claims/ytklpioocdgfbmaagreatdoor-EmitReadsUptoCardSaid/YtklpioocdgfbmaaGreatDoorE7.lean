/-
 Contracts: the image of a unit.
 Contracts: emission's laws: the document's example; procedures that are the same; the procedures of any words.
 From the readings of arguments to values, and from a contract to what a statement asks.
 The program's data, read at the seat's types; the bulk.
 Lists of numbers, read at the seat's types.
 A world that holds the listed tables: the statements' witness.
-/
import Derived.Carry
import Derived.ChangeArms
import Derived.ChangeSame
import Derived.Deep.DeepHandedRow
import Derived.Deep.DeepWitnessRowRef
import Derived.KernelRfl
import Derived.Lib.LaidIn
import Derived.OpenShut
import Derived.OpenVars
import Derived.RowKit
import Derived.Test.YtklpioocdgfbmaaGreatDoorRows
import Derived.WideShapes
import Derived.Test.YtklpioocdgfbmaaGreatDoorE6
set_option linter.unusedSimpArgs false
set_option linter.unusedVariables false
namespace Go.Cb
open Go.Proofs
set_option maxRecDepth 100000
set_option maxHeartbeats 4000000
def bodyW (cw : CwF) (ps : List Prc) : List Int := ps.flatMap (procW cw)
def offW (cw : CwF) (n : Int) : List Prc → Int → List Int
 | [], _ => []
 | p :: ps, k => (2 + n + k) :: offW cw n ps (k + (procW cw p).length)
theorem offW_len (cw : CwF) (n : Int) : ∀ (ps : List Prc) (k : Int), (offW cw n ps k).length = ps.length
 | [], _ => rfl
 | p :: ps, k => by rw [offW, List.length_cons, offW_len cw n ps, List.length_cons]
def headW (cw : CwF) (ps : List Prc) : List Int := [6516594, (ps.length : Int)] ++ offW cw ps.length ps 0
def illB (u : Unt) : Bool := chkU u != 0 || u.procs.any fun p => !fitsE p
def emitR (cw : CwF) (u : Unt) : List Int × Int := if illB u = true then ([], 5) else (headW cw u.procs ++ bodyW cw u.procs, 0)
def emitPV (cw : CwF) (u : Unt) : PV := .tup [slI (emitR cw u).1, .int .i64 (emitR cw u).2]
theorem chkU_len {u : Unt} (h : illB u = false) : u.procs.length ≤ 1000 := by
 unfold illB at h
 rw [Bool.or_eq_false_iff] at h
 have h0 : chkU u = 0 := by simpa using h.1
 unfold chkU at h0
 split at h0
 ·cases h0
 ·rename_i hc
  simp only [Bool.or_eq_true, decide_eq_true_eq, not_or] at hc
  omega
abbrev emG (b1 b4 b5 : Nat) (u : Unt) (h : List Int) (th : Tok) (bd : List Int) (tb : Tok) : List Ent := [.box b1 (unX u), .box b4 [.sl 1 (h.map (PV.int .i64)) (some th)], .tok th, .box b5 [.sl 1 (bd.map (PV.int .i64)) (some tb)], .tok tb]
theorem emit_c (u : Unt) (cw : CwF) (hok : illB u = false → ∀ p ∈ u.procs, PrcOk cw p) (hz : illB u = false → (bodyW cw u.procs).length ≤ 900000000) :
  ACallP Tryz.prog 24 [.agg u.cells] (emitPV cw u) := by
 refine ACall.of_body tt_ok Tryz.func24 rfl rfl (n := 59) rfl rfl ?_
 conv => whnf
 repeat' (first|((first|((first|(apply zY;intro hg)|apply zZ);first|exact stA|exact stB|((conv=>whnf);(repeat ((first|(refine zW ?_ ?_;exact gA)|refine pC (check_u u) wR ?_|refine pC (anyPrc_c u.procs) wR ?_|intro _);conv=>whnf));first|exact pS|exact pL|exact pE))|(refine zW ?_ ?_;exact gA)|refine zH rfl ?_|refine zA ?_|refine zI bA ?_|refine zI rfl ?_|refine sB ?_|(refine zO ?_ ?_ ?_;omega;omega)|(refine zP ?_ ?_ ?_;omega;omega)|refine zM rfl ?_|(refine zQ ?_ ?_ ?_;omega;omega)|(refine zR ?_ ?_;omega)|(refine zI ?_ ?_;exact nA)|refine sS ?_|refine pC (check_u u) wR ?_|refine pC (anyPrc_c u.procs) wR ?_|refine sE ?_|refine n0 ?_|refine sD ?_|intro _|refine zG ?_);conv=>whnf)|(refine zX (fun hc => ?_) (fun hc => ?_)<;>(try simp only [SY] at hc)<;>first|omega|(conv=>whnf)))
 ·have hi : illB u = true := by
   unfold illB
   simp only [Bool.or_eq_true, bne_iff_ne]
   exact hc
  rw [emitPV, emitR, if_pos hi]
  exact PRet.pure (Wk.tup (.cons slI_nil (.cons (Wk.refl _) .nil)))
 have hi : illB u = false := by
  unfold illB
  rw [hc.1, hc.2]
  rfl
 have hok2 := hok hi
 have hz2 := hz hi
 have hpl := chkU_len hi
 rw [emitPV, emitR, if_neg (by rw [hi]; simp)]
 rename_i b1 b4 b5 _ tX htX
 refine PCall.goG (Ghost.trans (Ghost.nil 1 3 _) (Ghost.trans (Ghost.box (b := b4) (cs := [.nil]) (cs' := [.sl 1 (([] : List Int).map (PV.int .i64)) (some (nilTok 1 3))]) (.cons (Wk.nilTok 1 3) .nil)) (Ghost.trans (Ghost.nil 1 3 _) (Ghost.box (b := b5) (cs := [.nil]) (cs' := [.sl 1 (([] : List Int).map (PV.int .i64)) (some (nilTok 1 3))]) (.cons (Wk.nilTok 1 3) .nil))))) (putw_c b4 [] (nilTok 1 3) [6516594, (u.procs.length : Int)] _ rfl (by simp)) (WkT.refl _) ?_
 rintro _ _ ⟨th0, hth0, rfl, rfl⟩
 rw [List.nil_append]
 conv => whnf
 repeat' (first|((first|((first|(apply zY;intro hg)|apply zZ);first|exact stA|exact stB|((conv=>whnf);(repeat ((first|(refine zW ?_ ?_;exact gA)|refine pC (check_u u) wR ?_|refine pC (anyPrc_c u.procs) wR ?_|intro _);conv=>whnf));first|exact pS|exact pL|exact pE))|(refine zW ?_ ?_;exact gA)|refine zH rfl ?_|refine zA ?_|refine zI bA ?_|refine zI rfl ?_|refine sB ?_|(refine zO ?_ ?_ ?_;omega;omega)|(refine zP ?_ ?_ ?_;omega;omega)|refine zM rfl ?_|(refine zQ ?_ ?_ ?_;omega;omega)|(refine zR ?_ ?_;omega)|(refine zI ?_ ?_;exact nA)|refine sS ?_|refine pC (check_u u) wR ?_|refine pC (anyPrc_c u.procs) wR ?_|refine sE ?_|refine n0 ?_|refine sD ?_|intro _|refine zG ?_);conv=>whnf)|(refine zX (fun hc => ?_) (fun hc => ?_)<;>(try simp only [SY] at hc)<;>first|omega|(conv=>whnf)))
 refine PLoop.over [7, 29, 30, 31, 32, 33, 34, 35, 36, 37, 38, 39, 40, 41, 42, 43, 44, 45, 46, 47, 48, 49] (fun x : Nat × (List Int × Tok) × (List Int × Tok) => [(29, .int .i64 x.1)]) (fun x => emG b1 b4 b5 u x.2.1.1 x.2.1.2 x.2.2.1 x.2.2.2)
  (fun x => x.1 ≤ u.procs.length ∧ x.2.1.2.e = 3 ∧ x.2.2.2.e = 3 ∧ x.2.1.1 ++ offW cw u.procs.length (u.procs.drop x.1) x.2.2.1.length = headW cw u.procs ∧ x.2.2.1 ++ bodyW cw (u.procs.drop x.1) = bodyW cw u.procs) (fun x => u.procs.length - x.1)
  (0, ([6516594, (u.procs.length : Int)], th0), ([], nilTok 1 3)) ⟨Nat.zero_le _, hth0, rfl, rfl, rfl⟩ wA ?_
 rintro ⟨i, ⟨h, th⟩, ⟨bd, tb⟩⟩ ⟨hi, hth, htb, hh, hb⟩
 dsimp only at hi hth htb hh hb ⊢
 conv => whnf
 repeat' (first|((first|((first|(apply zY;intro hg)|apply zZ);first|exact stA|exact stB|((conv=>whnf);(repeat ((first|(refine zW ?_ ?_;exact gA)|refine pC (check_u u) wR ?_|refine pC (anyPrc_c u.procs) wR ?_|intro _);conv=>whnf));first|exact pS|exact pL|exact pE))|(refine zW ?_ ?_;exact gA)|refine zH rfl ?_|refine zA ?_|refine zI bA ?_|refine zI rfl ?_|refine sB ?_|(refine zO ?_ ?_ ?_;omega;omega)|(refine zP ?_ ?_ ?_;omega;omega)|refine zM rfl ?_|(refine zQ ?_ ?_ ?_;omega;omega)|(refine zR ?_ ?_;omega)|(refine zI ?_ ?_;exact nA)|refine sS ?_|refine pC (check_u u) wR ?_|refine pC (anyPrc_c u.procs) wR ?_|refine sE ?_|refine n0 ?_|refine sD ?_|intro _|refine zG ?_);conv=>whnf)|(refine zX (fun hc => ?_) (fun hc => ?_)<;>(try simp only [SY] at hc)<;>first|omega|(conv=>whnf)))
 ·have hip : i < u.procs.length := by omega
  have hpo := hok2 u.procs[i] (List.getElem_mem hip)
  rw [drop_at hip, offW] at hh
  rw [drop_at hip, bodyW, List.flatMap_cons, ← bodyW] at hb
  have hbl := congrArg List.length hb
  have hhl := congrArg List.length hh
  simp only [List.length_append, List.length_cons, List.length_nil, offW_len, headW] at hbl hhl
  refine PDraw.sE [.box b4 [.sl 1 (h.map (PV.int .i64)) (some th)], .tok th] [] [12] tt_ok mixed ?_
  conv=>whnf
  repeat ((first|((first|(apply zY;intro hg)|apply zZ);first|exact stA|exact stB|((conv=>whnf);(repeat ((first|(refine zW ?_ ?_;exact gA)|refine pC (check_u u) wR ?_|refine pC (anyPrc_c u.procs) wR ?_|intro _);conv=>whnf));first|exact pS|exact pL|exact pE))|(refine zW ?_ ?_;exact gA)|refine zH rfl ?_|refine zA ?_|refine zI bA ?_|refine zI rfl ?_|refine sB ?_|(refine zO ?_ ?_ ?_;omega;omega)|(refine zP ?_ ?_ ?_;omega;omega)|refine zM rfl ?_|(refine zQ ?_ ?_ ?_;omega;omega)|(refine zR ?_ ?_;omega)|(refine zI ?_ ?_;exact nA)|refine sS ?_|refine pC (check_u u) wR ?_|refine pC (anyPrc_c u.procs) wR ?_|refine sE ?_|refine n0 ?_|refine sD ?_|intro _);conv=>whnf)
  refine PCall.go (putw_c b4 h th [2 + (u.procs.length : Int) + (bd.length : Int)] _ hth (by simp; omega)) (WkT.refl _) ?_
  rintro _ _ ⟨th2, hth2, rfl, rfl⟩
  conv => whnf
  repeat' (first|((first|((first|(apply zY;intro hg)|apply zZ);first|exact stA|exact stB|((conv=>whnf);(repeat ((first|(refine zW ?_ ?_;exact gA)|refine pC (check_u u) wR ?_|refine pC (anyPrc_c u.procs) wR ?_|intro _);conv=>whnf));first|exact pS|exact pL|exact pE))|(refine zW ?_ ?_;exact gA)|refine zH rfl ?_|refine zA ?_|refine zI bA ?_|refine zI rfl ?_|refine sB ?_|(refine zO ?_ ?_ ?_;omega;omega)|(refine zP ?_ ?_ ?_;omega;omega)|refine zM rfl ?_|(refine zQ ?_ ?_ ?_;omega;omega)|(refine zR ?_ ?_;omega)|(refine zI ?_ ?_;exact nA)|refine sS ?_|refine pC (check_u u) wR ?_|refine pC (anyPrc_c u.procs) wR ?_|refine sE ?_|refine n0 ?_|refine sD ?_|intro _|refine zG ?_);conv=>whnf)|(refine zX (fun hc => ?_) (fun hc => ?_)<;>(try simp only [SY] at hc)<;>first|omega|(conv=>whnf)))
  refine PCall.go (proc_c b5 bd tb cw u.procs[i] hpo htb (by omega)) (WkT.refl _) ?_
  rintro _ _ ⟨tb2, htb2, rfl, rfl⟩
  conv => whnf
  repeat' (first|((first|((first|(apply zY;intro hg)|apply zZ);first|exact stA|exact stB|((conv=>whnf);(repeat ((first|(refine zW ?_ ?_;exact gA)|refine pC (check_u u) wR ?_|refine pC (anyPrc_c u.procs) wR ?_|intro _);conv=>whnf));first|exact pS|exact pL|exact pE))|(refine zW ?_ ?_;exact gA)|refine zH rfl ?_|refine zA ?_|refine zI bA ?_|refine zI rfl ?_|refine sB ?_|(refine zO ?_ ?_ ?_;omega;omega)|(refine zP ?_ ?_ ?_;omega;omega)|refine zM rfl ?_|(refine zQ ?_ ?_ ?_;omega;omega)|(refine zR ?_ ?_;omega)|(refine zI ?_ ?_;exact nA)|refine sS ?_|refine pC (check_u u) wR ?_|refine pC (anyPrc_c u.procs) wR ?_|refine sE ?_|refine n0 ?_|refine sD ?_|intro _|refine zG ?_);conv=>whnf)|(refine zX (fun hc => ?_) (fun hc => ?_)<;>(try simp only [SY] at hc)<;>first|omega|(conv=>whnf)))
  exact loopTo (i + 1, (h ++ [2 + (u.procs.length : Int) + (bd.length : Int)], th2), (bd ++ procW cw u.procs[i], tb2)) ⟨by show i + 1 ≤ _; omega, hth2, htb2, by dsimp only; rw [List.append_assoc, List.singleton_append, List.length_append, Int.natCast_add]; exact hh, by dsimp only; rw [List.append_assoc]; exact hb⟩ (by show u.procs.length - (i + 1) < u.procs.length - i; omega) wA
 ·rw [List.drop_of_length_le (by omega)] at hh hb
  rw [offW, List.append_nil] at hh
  rw [bodyW, List.flatMap_nil, List.append_nil] at hb
  rw [← hh, ← hb]
  have hhl := congrArg List.length hh
  have hbl := congrArg List.length hb
  simp only [List.length_append, List.length_cons, List.length_nil, offW_len, headW] at hhl
  refine PDraw.sE [.tok th] [] [8,9,10] tt_ok mixed ?_
  conv=>whnf
  repeat ((first|((first|(apply zY;intro hg)|apply zZ);first|exact stA|exact stB|((conv=>whnf);(repeat ((first|(refine zW ?_ ?_;exact gA)|refine pC (check_u u) wR ?_|refine pC (anyPrc_c u.procs) wR ?_|intro _);conv=>whnf));first|exact pS|exact pL|exact pE))|(refine zW ?_ ?_;exact gA)|refine zH rfl ?_|refine zA ?_|refine zI bA ?_|refine zI rfl ?_|refine sB ?_|(refine zO ?_ ?_ ?_;omega;omega)|(refine zP ?_ ?_ ?_;omega;omega)|refine zM rfl ?_|(refine zQ ?_ ?_ ?_;omega;omega)|(refine zR ?_ ?_;omega)|(refine zI ?_ ?_;exact nA)|refine sS ?_|refine pC (check_u u) wR ?_|refine pC (anyPrc_c u.procs) wR ?_|refine sE ?_|refine n0 ?_|refine sD ?_|intro _);conv=>whnf)
  exact PRet.pure wA
end Go.Cb
namespace Go.Cb
open Go.Proofs
set_option maxRecDepth 100000
set_option maxHeartbeats 4000000
theorem ints19_self (l : List Int) : ACallP Tryz.prog 26 [slI l, slI l] (.bool true) := by
 refine ACall.of_body tt_ok Tryz.func26 rfl rfl (n := 26) rfl rfl ?_
 conv => whnf
 repeat' (first|((first|((first|(apply zY;intro hg)|apply zZ);first|exact stA|exact stB)|(refine zW ?_ ?_;exact gA)|refine zH rfl ?_|refine zA ?_|refine zI bA ?_|refine zI rfl ?_|refine sB ?_|(refine zO ?_ ?_ ?_;omega;omega)|(refine zP ?_ ?_ ?_;omega;omega)|refine zM rfl ?_|(refine zQ ?_ ?_ ?_;omega;omega)|(refine zR ?_ ?_;omega)|(refine zI ?_ ?_;exact nA)|refine sS ?_|refine sE ?_|refine n0 ?_|refine sD ?_|refine PDraw.sP (some 17) rfl [] [] tt_ok mixed ?_|intro _|refine zG ?_);conv=>whnf)|(refine zX (fun hc => ?_) (fun hc => ?_)<;>(try simp only [SY] at hc)<;>first|omega|(conv=>whnf)))
 refine PLoop.keep [4, 5, 11, 12, 13, 14, 15, 16, 17, 18, 19, 20, 21, 22, 23, 24, 25] (fun i : Nat => [(5, .int .i64 i)]) (fun i => i ≤ l.length) (fun i => l.length - i) 0 (Nat.zero_le _) wA ?_
 rintro i hi
 conv => whnf
 repeat' (first|((first|((first|(apply zY;intro hg)|apply zZ);first|exact stA|exact stB)|(refine zW ?_ ?_;exact gA)|refine zH rfl ?_|refine zA ?_|refine zI bA ?_|refine zI rfl ?_|refine sB ?_|(refine zO ?_ ?_ ?_;omega;omega)|(refine zP ?_ ?_ ?_;omega;omega)|refine zM rfl ?_|(refine zQ ?_ ?_ ?_;omega;omega)|(refine zR ?_ ?_;omega)|(refine zI ?_ ?_;exact nA)|refine sS ?_|refine sE ?_|refine n0 ?_|refine sD ?_|refine PDraw.sP (some 17) rfl [] [] tt_ok mixed ?_|intro _|refine zG ?_);conv=>whnf)|(refine zX (fun hc => ?_) (fun hc => ?_)<;>(try simp only [SY] at hc)<;>first|omega|(conv=>whnf)))
 ·exact loopTo (i + 1) (by show i + 1 ≤ _; omega) (by show l.length - (i + 1) < l.length - i; omega) wA
 ·exact PRet.pure (Wk.tt rfl)
theorem sameIns_self (x : Ins) : ACallP Tryz.prog 101 [.agg x.cells, .agg x.cells] (.bool true) := by
 refine ACall.of_body tt_ok Tryz.func101 rfl rfl (n := 38) rfl rfl ?_
 conv => whnf
 repeat' (first|((first|((first|(apply zY;intro hg)|apply zZ);first|exact stA|exact stB|((conv=>whnf);(repeat ((first|(refine zW ?_ ?_;exact gA)|refine pC (ints19_self x.l) wR ?_|intro _);conv=>whnf));first|exact pS|exact pL|exact pE))|(refine zW ?_ ?_;exact gA)|refine zH rfl ?_|refine zA ?_|refine zI bA ?_|refine zI rfl ?_|refine sB ?_|(refine zO ?_ ?_ ?_;omega;omega)|(refine zP ?_ ?_ ?_;omega;omega)|refine zM rfl ?_|(refine zQ ?_ ?_ ?_;omega;omega)|(refine zR ?_ ?_;omega)|(refine zI ?_ ?_;exact nA)|refine sS ?_|refine pC (ints19_self x.l) wR ?_|refine sE ?_|refine n0 ?_|refine sD ?_|intro _|refine zG ?_);conv=>whnf)|(refine zX (fun hc => ?_) (fun hc => ?_)<;>(try simp only [SY] at hc)<;>first|omega|(conv=>whnf)))
 exact PRet.pure (Wk.bool (by simp))
theorem sameProc_self (p : Prc) : ACallP Tryz.prog 54 [.agg p.cells, .agg p.cells] (.bool true) := by
 refine ACall.of_body tt_ok Tryz.func54 rfl rfl (n := 82) rfl rfl ?_
 conv => whnf
 repeat' (first|((first|((first|(apply zY;intro hg)|apply zZ);first|exact stA|exact stB|((conv=>whnf);(repeat ((first|(refine zW ?_ ?_;exact gA)|refine pC (sameIns_self _) wR ?_|refine pC (ints19_self _) wR ?_|intro _);conv=>whnf));first|exact pS|exact pL|exact pE))|(refine zW ?_ ?_;exact gA)|refine zH rfl ?_|refine zA ?_|refine zI bA ?_|refine zI rfl ?_|refine sB ?_|(refine zO ?_ ?_ ?_;omega;omega)|(refine zP ?_ ?_ ?_;omega;omega)|refine zM rfl ?_|(refine zQ ?_ ?_ ?_;omega;omega)|(refine zR ?_ ?_;omega)|(refine zI ?_ ?_;exact nA)|refine sS ?_|refine pC (sameIns_self _) wR ?_|refine pC (ints19_self _) wR ?_|refine sE ?_|refine n0 ?_|refine sD ?_|refine PDraw.sP (some 51) rfl [] [] tt_ok mixed ?_|refine PDraw.sP (some 70) rfl [] [] tt_ok mixed ?_|intro _|refine zG ?_);conv=>whnf)|(refine zX (fun hc => ?_) (fun hc => ?_)<;>(try simp only [SY] at hc)<;>first|omega|(conv=>whnf)))
 ·exfalso; simp at hc
 refine PLoop.keep [4, 5, 44, 45, 46, 47, 48, 49, 50, 51, 52, 53, 54, 55, 56, 57, 58, 59, 60, 61, 62] (fun i : Nat => [(5, .int .i64 i)]) (fun i => i ≤ p.code.length) (fun i => p.code.length - i) 0 (Nat.zero_le _) wA ?_
 rintro i hi
 conv => whnf
 repeat' (first|((first|((first|(apply zY;intro hg)|apply zZ);first|exact stA|exact stB|((conv=>whnf);(repeat ((first|(refine zW ?_ ?_;exact gA)|refine pC (sameIns_self _) wR ?_|refine pC (ints19_self _) wR ?_|intro _);conv=>whnf));first|exact pS|exact pL|exact pE))|(refine zW ?_ ?_;exact gA)|refine zH rfl ?_|refine zA ?_|refine zI bA ?_|refine zI rfl ?_|refine sB ?_|(refine zO ?_ ?_ ?_;omega;omega)|(refine zP ?_ ?_ ?_;omega;omega)|refine zM rfl ?_|(refine zQ ?_ ?_ ?_;omega;omega)|(refine zR ?_ ?_;omega)|(refine zI ?_ ?_;exact nA)|refine sS ?_|refine pC (sameIns_self _) wR ?_|refine pC (ints19_self _) wR ?_|refine sE ?_|refine n0 ?_|refine sD ?_|refine PDraw.sP (some 51) rfl [] [] tt_ok mixed ?_|refine PDraw.sP (some 70) rfl [] [] tt_ok mixed ?_|intro _|refine zG ?_);conv=>whnf)|(refine zX (fun hc => ?_) (fun hc => ?_)<;>(try simp only [SY] at hc)<;>first|omega|(conv=>whnf)))
 ·exact loopTo (i + 1) (by show i + 1 ≤ _; omega) (by show p.code.length - (i + 1) < p.code.length - i; omega) wA
 refine PLoop.keep [4, 6, 63, 64, 65, 66, 67, 68, 69, 70, 71, 72, 73, 74, 75, 76, 77, 78, 79, 80, 81] (fun i : Nat => [(6, .int .i64 i)]) (fun i => i ≤ p.alive.length) (fun i => p.alive.length - i) 0 (Nat.zero_le _) wA ?_
 rintro j hj
 conv => whnf
 repeat' (first|((first|((first|(apply zY;intro hg)|apply zZ);first|exact stA|exact stB|((conv=>whnf);(repeat ((first|(refine zW ?_ ?_;exact gA)|refine pC (sameIns_self _) wR ?_|refine pC (ints19_self _) wR ?_|intro _);conv=>whnf));first|exact pS|exact pL|exact pE))|(refine zW ?_ ?_;exact gA)|refine zH rfl ?_|refine zA ?_|refine zI bA ?_|refine zI rfl ?_|refine sB ?_|(refine zO ?_ ?_ ?_;omega;omega)|(refine zP ?_ ?_ ?_;omega;omega)|refine zM rfl ?_|(refine zQ ?_ ?_ ?_;omega;omega)|(refine zR ?_ ?_;omega)|(refine zI ?_ ?_;exact nA)|refine sS ?_|refine pC (sameIns_self _) wR ?_|refine pC (ints19_self _) wR ?_|refine sE ?_|refine n0 ?_|refine sD ?_|refine PDraw.sP (some 51) rfl [] [] tt_ok mixed ?_|refine PDraw.sP (some 70) rfl [] [] tt_ok mixed ?_|intro _|refine zG ?_);conv=>whnf)|(refine zX (fun hc => ?_) (fun hc => ?_)<;>(try simp only [SY] at hc)<;>first|omega|(conv=>whnf)))
 ·exact loopTo (j + 1) (by show j + 1 ≤ _; omega) (by show p.alive.length - (j + 1) < p.alive.length - j; omega) wA
 ·exact PRet.pure (Wk.tt rfl)
theorem same19_self (l : List Prc) : ACallP Tryz.prog 22 [.sl 5 (l.map Prc.pv) none, .sl 5 (l.map Prc.pv) none] (.bool true) := by
 refine ACall.of_body tt_ok Tryz.func22 rfl rfl (n := 27) rfl rfl ?_
 conv => whnf
 repeat' (first|((first|((first|(apply zY;intro hg)|apply zZ);first|exact stA|exact stB|((conv=>whnf);(repeat ((first|(refine zW ?_ ?_;exact gA)|refine pC (sameProc_self _) wR ?_|intro _);conv=>whnf));first|exact pS|exact pL|exact pE))|(refine zW ?_ ?_;exact gA)|refine zH rfl ?_|refine zA ?_|refine zI bA ?_|refine zI rfl ?_|refine sB ?_|(refine zO ?_ ?_ ?_;omega;omega)|(refine zP ?_ ?_ ?_;omega;omega)|refine zM rfl ?_|(refine zQ ?_ ?_ ?_;omega;omega)|(refine zR ?_ ?_;omega)|(refine zI ?_ ?_;exact nA)|refine sS ?_|refine pC (sameProc_self _) wR ?_|refine sE ?_|refine n0 ?_|refine sD ?_|refine PDraw.sP (some 17) rfl [] [] tt_ok mixed ?_|intro _|refine zG ?_);conv=>whnf)|(refine zX (fun hc => ?_) (fun hc => ?_)<;>(try simp only [SY] at hc)<;>first|omega|(conv=>whnf)))
 refine PLoop.keep [4, 5, 11, 12, 13, 14, 15, 16, 17, 18, 19, 20, 21, 22, 23, 24, 25, 26] (fun i : Nat => [(5, .int .i64 i)]) (fun i => i ≤ l.length) (fun i => l.length - i) 0 (Nat.zero_le _) wA ?_
 rintro i hi
 conv => whnf
 repeat' (first|((first|((first|(apply zY;intro hg)|apply zZ);first|exact stA|exact stB|((conv=>whnf);(repeat ((first|(refine zW ?_ ?_;exact gA)|refine pC (sameProc_self _) wR ?_|intro _);conv=>whnf));first|exact pS|exact pL|exact pE))|(refine zW ?_ ?_;exact gA)|refine zH rfl ?_|refine zA ?_|refine zI bA ?_|refine zI rfl ?_|refine sB ?_|(refine zO ?_ ?_ ?_;omega;omega)|(refine zP ?_ ?_ ?_;omega;omega)|refine zM rfl ?_|(refine zQ ?_ ?_ ?_;omega;omega)|(refine zR ?_ ?_;omega)|(refine zI ?_ ?_;exact nA)|refine sS ?_|refine pC (sameProc_self _) wR ?_|refine sE ?_|refine n0 ?_|refine sD ?_|refine PDraw.sP (some 17) rfl [] [] tt_ok mixed ?_|intro _|refine zG ?_);conv=>whnf)|(refine zX (fun hc => ?_) (fun hc => ?_)<;>(try simp only [SY] at hc)<;>first|omega|(conv=>whnf)))
 ·exact loopTo (i + 1) (by show i + 1 ≤ _; omega) (by show l.length - (i + 1) < l.length - i; omega) wA
 ·exact PRet.pure (Wk.tt rfl)
def u0 : Unt := ⟨[], [⟨1, false, 1, [⟨22, 0, 0, 0, []⟩], [[]]⟩]⟩
def L0 : List Int := [6516594, 1, 3, 1, 0, 2, 6, 22, 0, 0, 0, 0, 0]
def p0 : Prc := ⟨1, false, 2, [⟨22, 0, 0, 0, []⟩], [[]]⟩
def cw0 : CwF := fun _ _ _ => []
theorem emit_u0 : emitR cw0 u0 = (L0, 0) := by kernel_rfl
theorem read_L0 : readR L0 = ([p0], 0) := by kernel_rfl
theorem u0_ok : ∀ p ∈ u0.procs, PrcOk cw0 p := by
 intro p hp
 simp only [u0, List.mem_singleton] at hp
 subst hp
 refine ⟨rfl, by decide, by decide, ?_, ?_, by decide, ?_, by decide, by decide⟩
 ·intro x hx
  simp only [List.mem_singleton] at hx
  subst hx
  exact ⟨fun h => by simp at h, fun h => by simp at h⟩
 ·intro x hx
  simp only [List.mem_singleton] at hx
  subst hx
  simp
 ·intro x hx h
  simp only [List.mem_singleton] at hx
  subst hx
  simp [lvsB] at h
theorem Wk.rowT {s : Nat} {xs ys : List PV} {tk : Option Tok} (h : WkR xs ys) : Wk (.sl s xs tk) (.sl s ys none) := Wk.trans (Wk.tok _ _ _) (Wk.row h)
theorem u0_wk (t1 t2 t3 : Option Tok) : Wk (.agg [.nil, .sl 5 [.agg [.int .i64 1, .bfalse, .int .i64 1, .sl 5 [.agg [.int .i64 22, .int .i64 0, .int .i64 0, .int .i64 0, .nil]] t1, .sl 1 [.nil] t2]] t3]) (.agg u0.cells) :=
 Wk.agg (.cons (Wk.nil' rfl) (.cons (Wk.rowT (.cons (.cons (Wk.refl _) (.cons (Wk.ff rfl) (.cons (Wk.refl _) (.cons (Wk.rowT (.cons (.cons (Wk.refl _) (.cons (Wk.refl _) (.cons (Wk.refl _) (.cons (Wk.refl _) (.cons (Wk.nil' rfl) .nil))))) .nil)) (.cons (Wk.rowT (.cons (.cons (Wk.nil' rfl) .nil) .nil)) .nil))))) .nil)) .nil))
theorem awake19_c : ACallP Tryz.prog 19 [] (.bool true) := by
 have he := emit_c u0 cw0 (fun _ => u0_ok) (fun _ => by decide)
 rw [emitPV, emit_u0] at he
 have hr := read_c L0 (by decide)
 rw [readPV, read_L0] at hr
 refine ACall.of_body tt_ok Tryz.func19 rfl rfl (n := 45) rfl rfl ?_
 conv => whnf
 repeat' (first|((first|((first|(apply zY;intro hg)|apply zZ);first|exact stA|exact stB|((conv=>whnf);(repeat ((first|(refine zW ?_ ?_;exact gA)|refine pC (hr) wR ?_|refine pC (ints19_self L0) wR ?_|intro _);conv=>whnf));first|exact pS|exact pL|exact pE))|(refine zW ?_ ?_;exact gA)|refine zH rfl ?_|refine zA ?_|refine zI bA ?_|refine zI rfl ?_|refine sB ?_|(refine zO ?_ ?_ ?_;omega;omega)|(refine zP ?_ ?_ ?_;omega;omega)|refine zM rfl ?_|(refine zQ ?_ ?_ ?_;omega;omega)|(refine zR ?_ ?_;omega)|(refine zI ?_ ?_;exact nA)|refine sS ?_|refine pC (hr) wR ?_|refine pC (ints19_self L0) wR ?_|refine sE ?_|refine n0 ?_|refine sD ?_|intro _|refine zG ?_);conv=>whnf)|(refine zX (fun hc => ?_) (fun hc => ?_)<;>(try simp only [SY] at hc)<;>first|omega|(conv=>whnf)))
 refine PCall.pure he (.cons (u0_wk _ _ _) .nil) ?_
 conv => whnf
 repeat' (first|((first|((first|(apply zY;intro hg)|apply zZ);first|exact stA|exact stB|((conv=>whnf);(repeat ((first|(refine zW ?_ ?_;exact gA)|refine pC (hr) wR ?_|refine pC (ints19_self L0) wR ?_|intro _);conv=>whnf));first|exact pS|exact pL|exact pE))|(refine zW ?_ ?_;exact gA)|refine zH rfl ?_|refine zA ?_|refine zI bA ?_|refine zI rfl ?_|refine sB ?_|(refine zO ?_ ?_ ?_;omega;omega)|(refine zP ?_ ?_ ?_;omega;omega)|refine zM rfl ?_|(refine zQ ?_ ?_ ?_;omega;omega)|(refine zR ?_ ?_;omega)|(refine zI ?_ ?_;exact nA)|refine sS ?_|refine pC (hr) wR ?_|refine pC (ints19_self L0) wR ?_|refine sE ?_|refine n0 ?_|refine sD ?_|intro _|refine zG ?_);conv=>whnf)|(refine zX (fun hc => ?_) (fun hc => ?_)<;>(try simp only [SY] at hc)<;>first|omega|(conv=>whnf)))
 exact PRet.pure (Wk.bool rfl)
theorem emitReads_c (l : List Int) (hl : l.length ≤ 1048576) : ACallP Tryz.prog 4 [slI l] (.bool true) := by
 have hr := read_c l (by omega)
 have hd := ReadD_c l (by omega)
 rw [readPV] at hr hd
 refine ACall.of_body tt_ok Tryz.func4 rfl rfl (n := 34) rfl rfl ?_
 conv => whnf
 repeat' (first|((first|((first|(apply zY;intro hg)|apply zZ);first|exact stA|exact stB|((conv=>whnf);(repeat ((first|(refine zW ?_ ?_;exact gA)|refine pC (awake19_c) wR ?_|refine pC (hr) wR ?_|refine pC (hd) wR ?_|refine pC (same19_self (readR l).1) wR ?_|intro _);conv=>whnf));first|exact pS|exact pL|exact pE))|(refine zW ?_ ?_;exact gA)|refine zH rfl ?_|refine zA ?_|refine zI bA ?_|refine zI rfl ?_|refine sB ?_|(refine zO ?_ ?_ ?_;omega;omega)|(refine zP ?_ ?_ ?_;omega;omega)|refine zM rfl ?_|(refine zQ ?_ ?_ ?_;omega;omega)|(refine zR ?_ ?_;omega)|(refine zI ?_ ?_;exact nA)|refine sS ?_|refine pC (awake19_c) wR ?_|refine pC (hr) wR ?_|refine pC (hd) wR ?_|refine pC (same19_self (readR l).1) wR ?_|refine sE ?_|refine n0 ?_|refine sD ?_|intro _|refine zG ?_);conv=>whnf)|(refine zX (fun hc => ?_) (fun hc => ?_)<;>(try simp only [SY] at hc)<;>first|omega|(conv=>whnf)))
 ·exact PRet.pure (Wk.refl _)
 ·exact PRet.pure (Wk.bool (by simp))
end Go.Cb
namespace Go.Cb
open Go.RowKit (Below)
open Go.ChangeShapes
def Fz.of (w : World) : Fz := fun b o => w.cell? ⟨b, o, none⟩
theorem Sim.start (w : World) : Sim w (Fz.of w) [] w := ⟨Below.refl _ w, fun _ _ _ h => h, by simp, .nil⟩
theorem choose_list {α : Type} {p : Nat → α → Prop} : ∀ {n : Nat}, (∀ i, i < n → ∃ a, p i a) → ∃ l : List α, l.length = n ∧ ∀ i a, l[i]? = some a → p i a
 | 0, _ => ⟨[], rfl, by simp⟩
 | n + 1, h => by
  obtain ⟨l, h1, h2⟩ := choose_list (n := n) fun i hi => h i (by omega)
  obtain ⟨a, ha⟩ := h n (by omega)
  refine ⟨l ++ [a], by simp [h1], fun i b hb => ?_⟩
  by_cases hi : i < l.length
  ·rw [List.getElem?_append_left hi] at hb; exact h2 i b hb
  ·rw [List.getElem?_append_right (by omega)] at hb
   have h0 : i - l.length = 0 := by
    rcases Nat.eq_zero_or_pos (i - l.length) with h | h
    ·exact h
    ·rw [List.getElem?_eq_none (by simp; omega)] at hb; cases hb
   rw [h0] at hb
   simp at hb
   obtain rfl : i = n := by omega
   rwa [← hb]
section
variable {H : Type} {enc : TypeId × Value → H} {P : Program} {w : World} {UB : DataW H → Nat} {UBs : List (DataW H) → Nat}
structure Bulk (UB : DataW H → Nat) (UBs : List (DataW H) → Nat) : Prop where
 nil : UBs [] = 0
 cons : ∀ x l, UBs (x :: l) = UB x + UBs l
 agg : ∀ l, 1 + UBs l ≤ UB (.agg l)
 slice : ∀ l m, 1 + UBs l ≤ UB (.slice l m)
 str : ∀ s, s.length + 1 ≤ UB (.lit (.string s))
 pos : ∀ d, 1 ≤ UB d
def Rd {α : Type} (enc : TypeId × Value → H) (P : Program) (w : World) (UB : DataW H → Nat) (n : Nat) (t : TypeId) (cells : α → List PV) (bk : α → Nat) : Prop :=
 ∀ cs x, DataW.trod enc P w 0 (fun _ => true) true n t cs = some x → ∃ a : α, RepL (Fz.of w) (cells a) cs ∧ bk a ≤ UB x.1
theorem rd_int (hB : Bulk UB UBs) {t : TypeId} {k : IntKind} (ht : P.underlying t = some (.int k)) (n : Nat) : Rd enc P w UB n t (fun n : Int => [.int k n]) fun _ => 1 := by
 intro cs x h
 obtain ⟨m, rfl, rfl, _⟩ := DataW.trod_int ht h
 exact ⟨m, by simp only [RepL, Rep, and_true]; exact rfl, hB.pos _⟩
theorem rep_row {α : Type} {pv : α → PV} {cells : α → List PV} [c : CellsOf pv cells] {s b o : Nat} (hs : ∀ a, (cells a).length = s) : ∀ (l : List α) (i : Nat),
  (∀ j a, l[j]? = some a → ∃ cs, w.cells? 0 ((⟨b, o, none⟩ : Addr).add ((i + j) * s)) s = some cs ∧ RepL (Fz.of w) (cells a) cs) → RepRow (Fz.of w) s b (o + i * s) (l.map pv)
 | [], _, _ => by simp [RepRow]
 | a :: l, i, h => by
  rw [List.map_cons, RepRow_cons]
  obtain ⟨cs, h1, h2⟩ := h 0 a rfl
  obtain ⟨_, h3, h4⟩ := World.cells?_some h1
  refine ⟨⟨by rw [c.eq]; exact hs a, ?_⟩, ?_⟩
  ·rw [c.eq, RepCells_iff]
   refine ⟨cs, h2, fun j u hu => ?_⟩
   have hj : j < cs.length := by
    rcases Nat.lt_or_ge j cs.length with h | h
    ·exact h
    ·rw [List.getElem?_eq_none h] at hu; cases hu
   have := h4 j (by omega)
   rw [hu, Addr.add_lit, Addr.add_lit] at this
   simpa [Fz.of] using this
  ·have := rep_row (pv := pv) hs l (i + 1) fun j a ha => by
    have := h (j + 1) a (by simpa using ha)
    rwa [show i + (j + 1) = i + 1 + j by omega] at this
   rwa [show o + (i + 1) * s = o + i * s + s by rw [Nat.succ_mul]; omega] at this
def sumBk {α : Type} (bk : α → Nat) : List α → Nat
 | [] => 0
 | a :: l => bk a + sumBk bk l
theorem sumBk_le (hB : Bulk UB UBs) {α : Type} {bk : α → Nat} : ∀ (l : List α) (ds : List (DataW H)), l.length ≤ ds.length → (∀ (i : Nat) (a : α) (d : DataW H), l[i]? = some a → ds[i]? = some d → bk a ≤ UB d) → sumBk bk l ≤ UBs ds
 | [], _, _, _ => by simp [sumBk]
 | a :: l, [], h, _ => by simp at h
 | a :: l, d :: ds, h, k => by
  rw [sumBk, hB.cons]
  have h1 := k 0 a d rfl rfl
  have h2 := sumBk_le hB l ds (by simpa using h) fun i a d ha hd => k (i + 1) a d (by simpa using ha) (by simpa using hd)
  omega
theorem rd_slice (hB : Bulk UB UBs) {n : Nat} {t e : TypeId} (ht : P.underlying t = some (.slice e)) {s : Nat} (hs : P.cellsOf e = s) (hp : 0 < s) {α : Type} {pv : α → PV} {cells : α → List PV} [c : CellsOf pv cells] {bk : α → Nat}
  (hc : ∀ a, (cells a).length = s) (he : ∀ m, m < n → Rd enc P w UB m e cells bk) : Rd enc P w UB n t (fun l : List α => [.sl s (l.map pv) none]) fun l => 1 + sumBk bk l := by
 intro cs x h
 rcases DataW.trod_slice ht h with ⟨rfl, rfl⟩ | ⟨a, len, cap, elems, rest, m, rfl, rfl, rfl, _, hlc, hcm, hel, hx, hr, _⟩
 ·refine ⟨[], ?_, by have := hB.pos (DataW.nil : DataW H); simpa [sumBk] using this⟩
  exact RepL_cons.2 ⟨⟨rfl, by unfold Rep; exact ⟨by simp, .inl ⟨rfl, rfl⟩⟩⟩, RepL_nil _⟩
 ·have hx' : ∀ i, i < len → ∃ a' : α, ∃ cs d, elems[i]? = some d ∧ w.cells? 0 (a.add (i * s)) s = some cs ∧ RepL (Fz.of w) (cells a') cs ∧ bk a' ≤ UB d.1 := by
   intro i hi
   have h1 := hx i hi
   have h2 : elems[i]? = some elems[i] := List.getElem?_eq_getElem (by omega)
   rw [h2, hs] at h1
   obtain ⟨cs, h3, h4⟩ := Option.bind_eq_some_iff.1 h1
   obtain ⟨a', h5, h6⟩ := he m (by omega) cs _ h4
   exact ⟨a', cs, _, h2, h3, h5, h6⟩
  obtain ⟨l, hl, hl2⟩ := choose_list hx'
  have hcount : 1 + sumBk bk l ≤ UB (.slice (elems.map (·.1)) (rest.map (·.1))) := by
   have := sumBk_le hB (bk := bk) l (elems.map (·.1)) (by simp; omega) (by
    intro i a' d ha hd
    obtain ⟨_, d', h2, _, _, h5⟩ := hl2 i a' ha
    rw [List.getElem?_map, h2] at hd
    simp at hd
    rw [← hd]; exact h5)
   have := hB.slice (elems.map (·.1)) (rest.map (·.1))
   omega
  refine ⟨l, ?_, hcount⟩
  refine RepL_cons.2 ⟨⟨rfl, ?_⟩, RepL_nil _⟩
  unfold Rep
  refine ⟨fun t ht => (by cases ht), ?_⟩
  by_cases h0 : cap = 0
  ·subst h0
   obtain rfl : len = 0 := by omega
   have : l = [] := List.eq_nil_of_length_eq_zero hl
   subst this
   exact .inr (.inr ⟨rfl, a, rfl⟩)
  ·
   have hsp : a.spot = none := by
    have h1 : ∃ cs, w.cells? 0 a s = some cs := by
     by_cases h2 : 0 < len
     ·obtain ⟨_, cs, _, _, h3, _⟩ := hx' 0 h2
      exact ⟨cs, by simpa [Addr.add] using h3⟩
     ·obtain ⟨h3, h4⟩ := hr rfl
      have h5 := h4 0 (by omega)
      have h6 : rest[0]? = some (rest[0]'(by omega)) := List.getElem?_eq_getElem (by omega)
      rw [h6, hs] at h5
      obtain ⟨cs, h7, _⟩ := Option.bind_eq_some_iff.1 h5
      have : len = 0 := by omega
      subst this
      exact ⟨cs, by simpa [Addr.add] using h7⟩
    obtain ⟨cs, h1⟩ := h1
    obtain ⟨_, h3, h4⟩ := World.cells?_some h1
    have h5 := h4 0 hp
    have h6 : cs[0]? = some (cs[0]'(by omega)) := List.getElem?_eq_getElem (by omega)
    rw [h6] at h5
    simp only [Addr.add, if_true, World.cell?] at h5
    split at h5
    ·split at h5
     ·cases h5
     ·rename_i hn; simpa using hn
    ·cases h5
   obtain ⟨b, o, sp⟩ := a
   simp only at hsp
   subst hsp
   refine .inr (.inl ⟨b, o, cap, by simp [hl], by simp; omega, hcm, by simp, ?_⟩)
   have := rep_row (pv := pv) (w := w) (b := b) (o := o) hc l 0 fun j a' ha => by
    obtain ⟨cs, _, _, h3, h4, _⟩ := hl2 j a' ha
    exact ⟨cs, by simpa using h3, h4⟩
   simpa using this
end
section
variable {H : Type} {enc : TypeId × Value → H} {P : Program} {w : World} {UB : DataW H → Nat} {UBs : List (DataW H) → Nat}
theorem trodAll_below (hl : laidOutB P = true) {W W' : World} (hb : Below W.heap.size W W') : ∀ {ts : List TypeId} {vs : List Value} {ds : List (DataW H)} {ps : List MemPlace}, (∀ t ∈ ts, P.readableRec t = true ∧ t < P.types.size) →
  DataW.TrodAll enc P W 0 (fun _ => true) true ts vs ds ps → (∀ x ∈ ps, x.block < W.heap.size) → DataW.TrodAll enc P W' 0 (fun b => decide (b < W.heap.size)) true ts vs ds ps
 | [], _, _, _, _, h, _ => by
  obtain ⟨rfl, rfl, rfl⟩ := trodAll_nil h
  exact trodAll_mk0
 | t :: ts, _, _, _, hr, h, hlt => by
  obtain ⟨v, vs, d, ds, p, q, rfl, rfl, rfl, h1, h2⟩ := trodAll_cons h
  exact trodAll_cons_mk (Go.RowKit.Below.trod hl (hr t (by simp)).1 (hr t (by simp)).2 h1 hb fun x hx => hlt x (by simp [hx])) (trodAll_below hl hb (fun t ht => hr t (by simp [ht])) h2 fun x hx => hlt x (by simp [hx]))
theorem trodAll_len {spare : Nat → Bool} {base : Nat} {held : Bool} : ∀ {ts : List TypeId} {vs : List Value} {ds : List (DataW H)} {ps : List MemPlace}, DataW.TrodAll enc P w base spare held ts vs ds ps → ds.length = ts.length
 | [], _, _, _, h => by obtain ⟨rfl, rfl, rfl⟩ := trodAll_nil h; rfl
 | t :: ts, _, _, _, h => by
  obtain ⟨v, vs, d, ds, p, q, rfl, rfl, rfl, h1, h2⟩ := trodAll_cons h
  simp [trodAll_len h2]
theorem law_post {f : Func} {s : ChangeSpec} {tb : TypeId} {W W' : World} {args : Array Value} {ds gs : List (DataW H)} {before : List MemPlace} (hl : laidOutB P = true) (hr : ∀ t ∈ f.params.toList, P.readableRec t = true ∧ t < P.types.size)
  (hres : f.resultTypes = #[tb]) (hb : P.underlying tb = some .bool) (hv : s.vars = []) (hfn : ∀ ds : List (DataW H), ds.length = f.params.size → s.fn H ds = { results := [.lit (.bool true)], args := ds })
  (hW : DataW.Whole enc P f.params.toList s.vars false W args.toList ds gs before) (hbel : Below W.heap.size W W') : s.post enc P f false true false false W args (.bool true) W' := by
 have hW' := hW
 obtain ⟨p, q, hA, hV, rfl, _, _⟩ := hW
 have hV0 : DataW.TrodVars enc P W (fun _ => true) [] gs q := by rw [← hv]; exact hV
 obtain ⟨rfl, rfl⟩ := trodVars_none hV0
 have hfn' := hfn (ds ++ []) (by rw [List.append_nil, trodAll_len hA]; simp)
 refine ⟨ds, [], p ++ [], [], p, [], hW', ?_, ?_, ?_, hbel.frame _, fun h => by cases h⟩
 ·rw [hfn', hres]
  exact trodAll_mk1 (Go.RowKit.shut_bool hb _)
 ·rw [hfn', List.append_nil]
  exact trodAll_below hl hbel hr hA fun x hx => hW'.lt x (by simp [hx])
 ·rw [hfn', hv]; rfl
end
theorem sumBk_one {α : Type} : ∀ l : List α, sumBk (fun _ => 1) l = l.length
 | [] => rfl
 | x :: l => by rw [sumBk, sumBk_one l, List.length_cons]; omega
section
variable {H : Type} {enc : TypeId × Value → H} {P : Program} {w : World} {UB : DataW H → Nat} {UBs : List (DataW H) → Nat}
theorem rd_ints (hB : Bulk UB UBs) {tI tV : TypeId} (hI : P.underlying tI = some (.int .i64)) (hV : P.underlying tV = some (.slice tI)) (cI : P.cellsOf tI = 1) (n : Nat) : Rd enc P w UB n tV (fun l : List Int => [.sl 1 (l.map (PV.int .i64)) none]) fun l => 1 + l.length := by
 intro cs x h
 obtain ⟨a, h1, h2⟩ := rd_slice (pv := PV.int .i64) hB hV cI (by omega) (fun a => rfl) (fun k hk => rd_int (w := w) (enc := enc) hB hI k) cs x h
 exact ⟨a, h1, by have := sumBk_one a; show 1 + a.length ≤ _; have h3 : 1 + sumBk (fun _ => 1) a ≤ UB x.1 := h2; omega⟩
end
end Go.Cb
namespace Go.Cb
open Go.Proofs Go.Proofs.YtklpioocdgfbmaaGreatDoor
open Go.RowKit (Below)
theorem uptoOne {H : Type} (d : DataW H) : 1 ≤ Rows.uptoBulk d := by
 cases d with
 | lit l => cases l <;> simp [Rows.uptoBulk]
 | nil => simp [Rows.uptoBulk]
 | ptr d => simp [Rows.uptoBulk]
 | slice elems spare => simp [Rows.uptoBulk]
 | agg parts => simp [Rows.uptoBulk]
 | iface t d => simp [Rows.uptoBulk]
 | map entries => simp [Rows.uptoBulk]
 | held h => simp [Rows.uptoBulk]
theorem bulkR {H : Type} : Bulk (H := H) Rows.uptoBulk Rows.uptoBulkAll where
 nil := by simp [Rows.uptoBulkAll]
 cons x l := by simp [Rows.uptoBulkAll]
 agg l := by simp [Rows.uptoBulk]; omega
 slice l m := by simp [Rows.uptoBulk]; omega
 str s := by simp [Rows.uptoBulk]
 pos d := uptoOne d
section
variable {H : Type} {enc : TypeId × Value → H} {w : World}
theorem cInt : Tryz.prog.cellsOf 3 = 1 := by kernel_rfl
def Prog.bulk (p : Prog) : Nat := Datum.bulks p.consts + p.body.bulk
theorem okT : Tryz.prog.readableRec 26 = true ∧ 26 < Tryz.prog.types.size := ⟨by kernel_rfl, of_decide_eq_true (by kernel_rfl)⟩
theorem calls_true {f : FuncId} {args : List PV} {vs : List Value} {W : World} (h : ACallP Tryz.prog f args (.bool true)) (hr : RepT (Fz.of W) args vs) : Calls Tryz.prog f vs.toArray W fun e W' => e = .returned (.bool true) ∧ Below W.heap.size W W' := by
 refine (h.2 W (Fz.of W) [] W vs (Sim.start W) hr).mono ?_
 rintro e W' ⟨v, F', y, Γ', rfl, _, hS, hR, rfl⟩
 exact ⟨by rw [show v = .bool true by simpa only [Rep] using hR], hS.below⟩
end
end Go.Cb
namespace Go.Cb
open Go.Proofs Go.Proofs.YtklpioocdgfbmaaGreatDoor
open Go.RowKit (Below)
section
variable {H : Type} {enc : TypeId × Value → H} {w : World}
theorem rdL (n : Nat) : Rd enc Tryz.prog w Rows.uptoBulk n 23 (fun l : List Int => [.sl 1 (l.map (PV.int .i64)) none]) fun l => 1 + l.length :=
 rd_ints bulkR Tryz.underlying3 Tryz.underlying23 cInt n
theorem okL : Tryz.prog.readableRec 23 = true ∧ 23 < Tryz.prog.types.size := ⟨by kernel_rfl, of_decide_eq_true (by kernel_rfl)⟩
theorem arg_row {P : Program} {UB : DataW H → Nat} {α : Type} {t e : TypeId} (ht : P.underlying t = some (.slice e)) {f : α → PV} {bk : α → Nat} (hR : ∀ n, Rd enc P w UB n t (fun a => [f a]) bk) {r : Reach} {b0 : Nat} {v : Value} {d : DataW H} {p : List MemPlace}
  (hv : Value.okWide P w r b0 t v) (h : DataW.Trod enc P w 0 (fun _ => true) true t v d p) : ∃ a, Rep (Fz.of w) (f a) v ∧ bk a ≤ UB d := by
 obtain ⟨q, len, cap, rfl⟩ : ∃ q len cap, v = .slice q len cap := Go.WideShapes.okWide_slice ht hv
 obtain ⟨fuel, hf⟩ := h
 obtain ⟨a, h1, h2⟩ := hR fuel _ _ hf
 refine ⟨a, ?_, h2⟩
 have : (Value.slice q len cap).cells.toList = [.slice q len cap] := rfl
 rw [this] at h1
 exact (RepL_cons.1 h1).1.2
end
end Go.Cb
namespace Go.Cb
open Go.Proofs Go.Proofs.YtklpioocdgfbmaaGreatDoor
mutual
def cellsD : DataW Unit → List Value
 | .lit (.int k n) => [.int k n]
 | .lit (.bool b) => [.bool b]
 | .lit (.string s) => [.string ⟨s.toArray⟩]
 | .agg l => cellsDs l
 | _ => []
def cellsDs : List (DataW Unit) → List Value
 | [] => []
 | d :: l => cellsD d ++ cellsDs l
end
def newBlocks (e : TypeId) : List (String × DataW Unit) → List Obj
 | [] => []
 | (_, .iface _ (.ptr d)) :: l => .cells (cellsD d).toArray e :: newBlocks e l
 | _ :: l => newBlocks e l
def putCs (h : Array Obj) (g : Option Nat) (cs : Array Value) : Array Obj := match g with
 | some g => h.modify g fun
  | .cells _ t frozen => .cells cs t frozen
  | o => o
 | none => h
def layAll (P : Program) (p : TypeId) : List (String × DataW Unit) → Nat → Array Obj → Array Obj
 | [], _, h => h
 | (n, .iface _ _) :: l, k, h => layAll P p l (k + 1) (putCs h (P.globalNamed n) #[.iface p (.pointer (some ⟨k, 0, none⟩))])
 | (n, d) :: l, k, h => layAll P p l k (putCs h (P.globalNamed n) (cellsD d).toArray)
noncomputable def laidWorld (os : Os) : World :=
 let w0 := World.holding Tryz.prog os ⟨(newBlocks 327 Rows.closureConvertsRow.laid).toArray, #[], []⟩
 { w0 with heap := layAll Tryz.prog 325 Rows.closureConvertsRow.laid (World.settled Tryz.prog os).heap.size w0.heap }
theorem laid_met (os : Os) (args : Array Value) : laidMet Tryz.prog Rows.closureConvertsRow.laid ((laidWorld os).forCall (fun _ _ => 0) ⟨#[], args, []⟩).memory :=
 (LaidIn.of_run (l := Rows.closureConvertsRow.laid) (List.range 1000) 16 (by kernel_rfl) (by kernel_rfl) (by kernel_rfl) (by kernel_rfl)).met
theorem own_none : ownKnob Tryz.prog.godebug = none := by kernel_rfl
theorem laidOut : laidOutB Tryz.prog = true := by kernel_rfl
end Go.Cb

