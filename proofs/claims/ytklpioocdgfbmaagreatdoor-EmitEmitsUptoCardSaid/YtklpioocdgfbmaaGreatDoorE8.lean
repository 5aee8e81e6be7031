/-
 Contracts: may a unit be emitted? The document's answer is the program's.
 Contracts: an instruction's words, moves ahead, the document's.
 Plain law: what is needed of a procedure's registers, and its slots, as the document finds them: as functions.
 Plain law: what a checked unit's procedures are.
 Contracts: what the document says is needed.
 Contracts: what is alive behind instructions, the document's; whether a unit is sound.
 Contracts: slots, the document's: what fights, what is named, a number more.
 Contracts: a procedure's slots, the document's; an instruction with slots.
 Contracts: a procedure's words, the document's.
 Contracts: the document's reader of images: procedures.
 Contracts: emission's laws: the document's example; procedures that are the same; the procedures of any words.
 Contracts: few; alike what is alike.
 Contracts: the document's image is the program's; the law.
 From the readings of arguments to values, and from a contract to what a statement asks.
 The program's data, read at the seat's types; the bulk.
 Lists of numbers, read at the seat's types.
 Units, read at the seat's types.
 A world that holds the listed tables: the statements' witness.
-/
import Derived.Carry
import Derived.ChangeArms
import Derived.ChangeSame
import Derived.Deep.DeepHandedRow
import Derived.Deep.DeepWitnessRowRef
import Derived.KernelRfl
import Derived.Lib.LaidIn
import Derived.OpenShut
import Derived.OpenVars
import Derived.RowKit
import Derived.Test.YtklpioocdgfbmaaGreatDoorRows
import Derived.WideShapes
import Derived.Test.YtklpioocdgfbmaaGreatDoorE7
set_option linter.unusedSimpArgs false
set_option linter.unusedVariables false
namespace Go.Cb
open Go.Proofs
set_option maxRecDepth 100000
set_option maxHeartbeats 4000000
theorem right19_c (u : Unt) (hx : ∀ p ∈ u.procs, ∀ x ∈ p.code, x.l.length ≤ 1000000) : ACallP Tryz.prog 60 [.agg u.cells] (.bool (!illB u)) := by
 have hch := check14_c u hx
 by_cases h0 : chkU u = 0
 ·rw [h0] at hch
  have hI : illB u = u.procs.any fun p => !fitsE p := by unfold illB; rw [h0]; rfl
  rw [hI]
  refine ACall.of_body tt_ok Tryz.func60 rfl rfl (n := 106) rfl rfl ?_
  conv => whnf
  repeat' (first|((first|((first|(apply zY;intro hg)|apply zZ);first|exact stA|exact stB|((conv=>whnf);(repeat ((first|(refine zW ?_ ?_;exact gA)|refine pC (hch) wR ?_|intro _);conv=>whnf));first|exact pS|exact pL|exact pE))|(refine zW ?_ ?_;exact gA)|refine zH rfl ?_|refine zA ?_|refine zI bA ?_|refine zI rfl ?_|refine sB ?_|(refine zO ?_ ?_ ?_;omega;omega)|(refine zP ?_ ?_ ?_;omega;omega)|refine zM rfl ?_|(refine zQ ?_ ?_ ?_;omega;omega)|(refine zR ?_ ?_;omega)|(refine zI ?_ ?_;exact nA)|refine sS ?_|refine pC (hch) wR ?_|refine sE ?_|refine n0 ?_|refine sD ?_|intro _|refine zG ?_);conv=>whnf)|(refine zX (fun hc => ?_) (fun hc => ?_)<;>(try simp only [SY] at hc)<;>first|omega|(conv=>whnf)))
  refine PLoop.keep [2, 3, 4, 5, 6, 7, 11, 12, 13, 14, 15, 16, 17, 18, 19, 20, 21, 22, 23, 24, 25, 26, 27, 28, 29, 30, 31, 32, 33, 34, 35, 36, 37, 38, 39, 40, 41, 42, 43, 44, 45, 46, 47, 48, 49, 50, 51, 52, 53, 54, 55, 56, 57, 58, 59, 60, 61, 62, 63, 64, 65, 66, 67, 68, 69, 70, 71, 72, 73, 74, 75, 76, 77, 78, 79, 80, 81, 82, 83, 84, 85, 86, 87, 88, 89, 90, 91, 92, 93, 94, 95, 96, 97, 98, 99, 100, 101, 102, 103, 104, 105] (fun i : Nat => [(3, .int .i64 i)]) (fun i => i ≤ u.procs.length ∧ (u.procs.any fun p => !fitsE p) = (u.procs.drop i).any fun p => !fitsE p) (fun i => u.procs.length - i) 0 ⟨Nat.zero_le _, rfl⟩ wA ?_
  rintro i ⟨hi, he⟩
  conv => whnf
  repeat' (first|((first|((first|(apply zY;intro hg)|apply zZ);first|exact stA|exact stB|((conv=>whnf);(repeat ((first|(refine zW ?_ ?_;exact gA)|refine pC (hch) wR ?_|intro _);conv=>whnf));first|exact pS|exact pL|exact pE))|(refine zW ?_ ?_;exact gA)|refine zH rfl ?_|refine zA ?_|refine zI bA ?_|refine zI rfl ?_|refine sB ?_|(refine zO ?_ ?_ ?_;omega;omega)|(refine zP ?_ ?_ ?_;omega;omega)|refine zM rfl ?_|(refine zQ ?_ ?_ ?_;omega;omega)|(refine zR ?_ ?_;omega)|(refine zI ?_ ?_;exact nA)|refine sS ?_|refine pC (hch) wR ?_|refine sE ?_|refine n0 ?_|refine sD ?_|intro _|refine zG ?_);conv=>whnf)|(refine zX (fun hc => ?_) (fun hc => ?_)<;>(try simp only [SY] at hc)<;>first|omega|(conv=>whnf)))
  ·have hip : i < u.procs.length := by omega
   have hfe : fitsE u.procs[i] = false := if_neg (by omega)
   rw [drop_at hip, List.any_cons, hfe, Bool.not_false, Bool.true_or] at he
   rw [he]
   exact PRet.pure (Wk.ff rfl)
  ·have hip : i < u.procs.length := by omega
   have hal : u.procs[i].alive.length = u.procs[i].code.length := by omega
   have hfe : fitsE u.procs[i] = alvB u.procs[i].regs u.procs[i].code u.procs[i].alive := if_pos hal
   rw [drop_at hip, List.any_cons, hfe] at he
   refine PLoop.keep [2, 5, 6, 7, 30, 31, 32, 33, 34, 35, 36, 37, 38, 39, 40, 41, 42, 43, 44, 45, 46, 47, 48, 49, 50, 51, 52, 53, 54, 55, 56, 57, 58, 59, 60, 61, 62, 63, 64, 65, 66, 67, 68, 69, 70, 71, 72, 73, 74, 75, 76, 77, 78, 79, 80, 81, 82, 83, 84, 85, 86, 87, 88, 89, 90, 91, 92, 93, 94, 95, 96, 97, 98, 99, 100, 101, 102, 103, 104, 105] (fun k : Nat => [(5, .int .i64 k)]) (fun k => k ≤ u.procs[i].code.length ∧ alvB u.procs[i].regs u.procs[i].code u.procs[i].alive = alvB u.procs[i].regs (u.procs[i].code.drop k) (u.procs[i].alive.drop k)) (fun k => u.procs[i].code.length - k) 0 ⟨Nat.zero_le _, rfl⟩ wA ?_
   rintro k ⟨hk, hke⟩
   conv => whnf
   repeat' (first|((first|((first|(apply zY;intro hg)|apply zZ);first|exact stA|exact stB|((conv=>whnf);(repeat ((first|(refine zW ?_ ?_;exact gA)|refine pC (hch) wR ?_|intro _);conv=>whnf));first|exact pS|exact pL|exact pE))|(refine zW ?_ ?_;exact gA)|refine zH rfl ?_|refine zA ?_|refine zI bA ?_|refine zI rfl ?_|refine sB ?_|(refine zO ?_ ?_ ?_;omega;omega)|(refine zP ?_ ?_ ?_;omega;omega)|refine zM rfl ?_|(refine zQ ?_ ?_ ?_;omega;omega)|(refine zR ?_ ?_;omega)|(refine zI ?_ ?_;exact nA)|refine sS ?_|refine pC (hch) wR ?_|refine sE ?_|refine n0 ?_|refine sD ?_|intro _|refine zG ?_);conv=>whnf)|(refine zX (fun hc => ?_) (fun hc => ?_)<;>(try simp only [SY] at hc)<;>first|omega|(conv=>whnf)))
   ·have hkc : k < u.procs[i].code.length := by omega
    have hka : k < u.procs[i].alive.length := by omega
    rw [drop_at hkc, drop_at hka, alvB, if_pos (by unfold lvsB; simp only [Bool.and_eq_true, decide_eq_true_eq]; omega)] at hke
    rw [hke, Bool.not_false, Bool.true_or] at he
    rw [he]
    exact PRet.pure (Wk.ff rfl)
   ·have hkc : k < u.procs[i].code.length := by omega
    have hka : k < u.procs[i].alive.length := by omega
    rw [drop_at hkc, drop_at hka, alvB, if_neg (by unfold lvsB; simp only [Bool.and_eq_true, decide_eq_true_eq]; omega)] at hke
    refine PLoop.keep [2, 6, 7, 63, 64, 65, 66, 67, 68, 69, 70, 71, 72, 73, 74, 75, 76, 77, 78, 79, 80, 81, 82, 83, 84, 85, 86, 87, 88, 89, 90, 91, 92, 93, 94, 95, 96, 97, 98, 99, 100, 101, 102, 103, 104, 105] (fun x : Nat × Int => [(6, .int .i64 x.1)]) (fun x => x.1 ≤ u.procs[i].alive[k].length ∧ -1 ≤ x.2 ∧ (x.1 = 0 → x.2 = -1) ∧ (0 < x.1 → x.2 = u.procs[i].alive[k].getD (x.1 - 1) Dfl.d ∧ 0 ≤ x.2) ∧ risB u.procs[i].regs u.procs[i].alive[k] (-1) = risB u.procs[i].regs (u.procs[i].alive[k].drop x.1) x.2) (fun x => u.procs[i].alive[k].length - x.1) (0, -1) ⟨Nat.zero_le _, Int.le_refl _, fun _ => rfl, fun h => absurd h (Nat.lt_irrefl 0), rfl⟩ wA ?_
    rintro ⟨j, last⟩ ⟨hj, hl0, hl1, hl2, hr⟩
    dsimp only at hj hl0 hl1 hl2 hr ⊢
    rcases Nat.lt_or_ge j u.procs[i].alive[k].length with hjl | hjl
    ·rw [drop_at hjl, risB] at hr
     conv => whnf
     repeat' (first|((first|((first|(apply zY;intro hg)|apply zZ);first|exact stA|exact stB|((conv=>whnf);(repeat ((first|(refine zW ?_ ?_;exact gA)|refine pC (hch) wR ?_|intro _);conv=>whnf));first|exact pS|exact pL|exact pE))|(refine zW ?_ ?_;exact gA)|refine zH rfl ?_|refine zA ?_|refine zI bA ?_|refine zI rfl ?_|refine sB ?_|(refine zO ?_ ?_ ?_;omega;omega)|(refine zP ?_ ?_ ?_;omega;omega)|refine zM rfl ?_|(refine zQ ?_ ?_ ?_;omega;omega)|(refine zR ?_ ?_;omega)|(refine zI ?_ ?_;exact nA)|refine sS ?_|refine pC (hch) wR ?_|refine sE ?_|refine n0 ?_|refine sD ?_|intro _|refine zG ?_);conv=>whnf)|(refine zX (fun hc => ?_) (fun hc => ?_)<;>(try simp only [SY] at hc)<;>first|omega|(conv=>whnf)))
     ·rw [if_pos (by simp only [Bool.or_eq_true, decide_eq_true_eq]; omega)] at hr
      rw [if_neg (by rw [hr]; simp)] at hke
      rw [hke, Bool.not_false, Bool.true_or] at he
      rw [he]
      exact PRet.pure (Wk.ff rfl)
     ·rw [if_neg (by simp only [Bool.or_eq_true, decide_eq_true_eq]; omega)] at hr
      exact loopTo (j + 1, u.procs[i].alive[k][j]) ⟨by show j + 1 ≤ _; omega, by dsimp only; omega, fun h => by dsimp only at h; omega, fun _ => ⟨by
       dsimp only
       rw [Nat.add_sub_cancel, List.getD_eq_getElem?_getD, List.getElem?_eq_getElem hjl]; rfl, by dsimp only; omega⟩, hr⟩ (by show u.procs[i].alive[k].length - (j + 1) < u.procs[i].alive[k].length - j; omega) wA
    ·rw [List.drop_of_length_le hjl, risB] at hr
     rw [if_pos hr] at hke
     conv => whnf
     repeat' (first|((first|((first|(apply zY;intro hg)|apply zZ);first|exact stA|exact stB|((conv=>whnf);(repeat ((first|(refine zW ?_ ?_;exact gA)|refine pC (hch) wR ?_|intro _);conv=>whnf));first|exact pS|exact pL|exact pE))|(refine zW ?_ ?_;exact gA)|refine zH rfl ?_|refine zA ?_|refine zI bA ?_|refine zI rfl ?_|refine sB ?_|(refine zO ?_ ?_ ?_;omega;omega)|(refine zP ?_ ?_ ?_;omega;omega)|refine zM rfl ?_|(refine zQ ?_ ?_ ?_;omega;omega)|(refine zR ?_ ?_;omega)|(refine zI ?_ ?_;exact nA)|refine sS ?_|refine pC (hch) wR ?_|refine sE ?_|refine n0 ?_|refine sD ?_|intro _|refine zG ?_);conv=>whnf)|(refine zX (fun hc => ?_) (fun hc => ?_)<;>(try simp only [SY] at hc)<;>first|omega|(conv=>whnf)))
     exact loopTo (k + 1) ⟨by omega, hke⟩ (by show u.procs[i].code.length - (k + 1) < u.procs[i].code.length - k; omega) wA
   ·rw [List.drop_of_length_le (by omega), List.drop_of_length_le (by omega)] at hke
    have hz : alvB u.procs[i].regs [] [] = true := by simp [alvB]
    rw [hke, hz, Bool.not_true, Bool.false_or] at he
    exact loopTo (i + 1) ⟨by omega, he⟩ (by show u.procs.length - (i + 1) < u.procs.length - i; omega) wA
  ·rw [List.drop_of_length_le (by omega), List.any_nil] at he
   rw [he]
   exact PRet.pure (Wk.tt rfl)
 ·have hI : illB u = true := by unfold illB; rw [Bool.or_eq_true, bne_iff_ne]; exact .inl h0
  rw [hI]
  refine ACall.of_body tt_ok Tryz.func60 rfl rfl (n := 106) rfl rfl ?_
  conv => whnf
  repeat' (first|((first|((first|(apply zY;intro hg)|apply zZ);first|exact stA|exact stB|((conv=>whnf);(repeat ((first|(refine zW ?_ ?_;exact gA)|refine pC (hch) wR ?_|intro _);conv=>whnf));first|exact pS|exact pL|exact pE))|(refine zW ?_ ?_;exact gA)|refine zH rfl ?_|refine zA ?_|refine zI bA ?_|refine zI rfl ?_|refine sB ?_|(refine zO ?_ ?_ ?_;omega;omega)|(refine zP ?_ ?_ ?_;omega;omega)|refine zM rfl ?_|(refine zQ ?_ ?_ ?_;omega;omega)|(refine zR ?_ ?_;omega)|(refine zI ?_ ?_;exact nA)|refine sS ?_|refine pC (hch) wR ?_|refine sE ?_|refine n0 ?_|refine sD ?_|intro _|refine zG ?_);conv=>whnf)|(refine zX (fun hc => ?_) (fun hc => ?_)<;>(try simp only [SY] at hc)<;>first|omega|(conv=>whnf)))
  exact PRet.pure (Wk.ff rfl)
end Go.Cb
namespace Go.Cb
open Go.Proofs
set_option maxRecDepth 100000
set_option maxHeartbeats 4000000
theorem upTo_succ (n : Nat) : upTo (n + 1) = upTo n ++ [(n : Int)] := by
 unfold upTo
 rw [List.range_succ, List.map_append]
 rfl
theorem movW_succ {ms : List Mov} {i : Nat} (h : i < ms.length) : movW (ms.take (i + 1)) = movW (ms.take i) ++ insW (movI ms[i]) [] := by
 unfold movW
 rw [List.take_succ_eq_append_getElem h, List.flatMap_append]
 simp
theorem one19_c (x : Ins) (al : List Int) (w : Int) (hl : x.l.length ≤ 100000) (hal : al.length ≤ 1000000) (hd : lvsB x = true → x.d = 0) : ACallP Tryz.prog 108 [.agg x.cells, slI al, .int .i64 w] (slI (oneW (cwM w) x al)) := by
 by_cases hv : lvsB x = true
 ·have hd0 := hd hv
  have hone : oneW (cwM w) x al = movW (ordF (takF x) w).1 ++ insW (endI x) al := by rw [oneW, if_pos hv]; rfl
  rw [hone]
  simp only [lvsB, Bool.and_eq_true, decide_eq_true_eq] at hv
  have hml := ordF_len (takF x) w
  have htl := takF_len x
  have hord := order15_c (takF x) w
  unfold ordPV at hord
  have hmi : ∀ m : Mov, ACallP Tryz.prog 166 [.agg [.int .i64 1, .int .i64 m.to, .int .i64 m.frm, .int .i64 0, .nil], .nil] (slI (insW (movI m) [])) := fun m =>
   (ins19_c (movI m) [] (by simp [movI]) (by simp)).wk (.cons (Wk.agg (.cons (Wk.refl _) (.cons (Wk.refl _) (.cons (Wk.refl _) (.cons (Wk.refl _) (.cons (Wk.nil' rfl) .nil)))))) (.cons (Wk.nil' rfl) .nil))
  have hil : ∀ m : Mov, (insW (movI m) []).length = 6 := fun m => by rw [insW_len]; rfl
  have hEo : (endI x).op = x.op := rfl
  have hEd : (endI x).d = x.d := rfl
  have hEl : (endI x).l = upTo x.l.length := rfl
  have hEa1 : x.op = 19 → (endI x).a = x.l.length := fun h => if_pos h
  have hEa2 : x.op ≠ 19 → (endI x).a = x.a := fun h => if_neg h
  have hEb1 : x.op = 20 → (endI x).b = x.l.length := fun h => if_pos h
  have hEb2 : x.op ≠ 20 → (endI x).b = x.b := fun h => if_neg h
  have hEc : (endI x).cells = [.int .i64 (endI x).op, .int .i64 (endI x).d, .int .i64 (endI x).a, .int .i64 (endI x).b, slI (endI x).l] := rfl
  have hEn : (endI x).l.length = x.l.length := upTo_len _
  have hin := ins19_c (endI x) al (by omega) hal
  have hEw := insW_len (endI x) al
  rw [hEc] at hin
  generalize endI x = E at *
  generalize (ordF (takF x) w).2 = er at *
  generalize (ordF (takF x) w).1 = ms at *
  have hmw : ∀ i, i ≤ ms.length → (movW (ms.take i)).length = 6 * i := fun i hi => by rw [movW_len, List.length_take, Nat.min_eq_left hi]
  refine ACall.of_body tt_ok Tryz.func108 rfl rfl (n := 92) rfl rfl ?_
  conv => whnf
  repeat' (first|((first|((first|(apply zY;intro hg)|apply zZ);first|exact stA|exact stB|((conv=>whnf);(repeat ((first|(refine zW ?_ ?_;exact gA)|refine pC (takes19_c x (by omega)) wR ?_|refine pC (hord) wR ?_|refine pC (hmi _) wR ?_|refine zA ?_|refine zH rfl ?_|refine zB ?_|refine sG ?_|intro _);conv=>whnf));first|exact pS|exact pL|exact pE))|(refine zW ?_ ?_;exact gA)|refine zH rfl ?_|refine zA ?_|refine zI bA ?_|refine zI rfl ?_|refine sB ?_|(refine zO ?_ ?_ ?_;omega;omega)|(refine zP ?_ ?_ ?_;omega;omega)|refine zM rfl ?_|(refine zQ ?_ ?_ ?_;omega;omega)|(refine zR ?_ ?_;omega)|(refine zI ?_ ?_;exact nA)|refine sS ?_|refine pC (takes19_c x (by omega)) wR ?_|refine pC (hord) wR ?_|refine pC (hmi _) wR ?_|refine sF ?_|refine n0 ?_|refine sD ?_|refine PDraw.sP (some 39) rfl [] [13,14] tt_ok mixed ?_|intro _|refine zG ?_);conv=>whnf)|(refine zX (fun hc => ?_) (fun hc => ?_)<;>(try simp only [SY] at hc)<;>first|omega|(conv=>whnf)))
  rename_i b3
  refine PLoop.ghost (Ghost.nil 1 3 _) ?_
  refine PLoop.over [10, 11, 33, 34, 35, 36, 37, 38, 39, 40, 41, 42, 43, 44, 45, 46, 47, 48, 49, 50, 51, 52] (fun x : Nat × List Int × Tok => [(10, .sl 1 (x.2.1.map (PV.int .i64)) (some x.2.2)), (11, .int .i64 x.1)]) (fun y => [.tok y.2.2, .box b3 [.int .i64 x.op, .int .i64 x.d, .int .i64 x.a, .int .i64 x.b, slI x.l]]) (fun x => x.1 ≤ ms.length ∧ x.2.2.e = 3 ∧ x.2.1 = movW (ms.take x.1)) (fun x => ms.length - x.1) (0, [], nilTok 1 3) ⟨Nat.zero_le _, rfl, rfl⟩ wA ?_
  rintro ⟨i, out, t⟩ ⟨hi, hte, ho⟩
  dsimp only at hi hte ho ⊢
  have hol := hmw i hi
  rw [← ho] at hol
  rcases Nat.lt_or_ge i ms.length with himl | himl
  ·have hiw := hil ms[i]
   conv => whnf
   repeat' (first|((first|((first|(apply zY;intro hg)|apply zZ);first|exact stA|exact stB|((conv=>whnf);(repeat ((first|(refine zW ?_ ?_;exact gA)|refine pC (takes19_c x (by omega)) wR ?_|refine pC (hord) wR ?_|refine pC (hmi _) wR ?_|refine zA ?_|refine zH rfl ?_|refine zB ?_|refine sG ?_|intro _);conv=>whnf));first|exact pS|exact pL|exact pE))|(refine zW ?_ ?_;exact gA)|refine zH rfl ?_|refine zA ?_|refine zI bA ?_|refine zI rfl ?_|refine sB ?_|(refine zO ?_ ?_ ?_;omega;omega)|(refine zP ?_ ?_ ?_;omega;omega)|refine zM rfl ?_|(refine zQ ?_ ?_ ?_;omega;omega)|(refine zR ?_ ?_;omega)|(refine zI ?_ ?_;exact nA)|refine sS ?_|refine pC (takes19_c x (by omega)) wR ?_|refine pC (hord) wR ?_|refine pC (hmi _) wR ?_|refine sF ?_|refine n0 ?_|refine sD ?_|refine PDraw.sP (some 39) rfl [] [13,14] tt_ok mixed ?_|intro _|refine zG ?_);conv=>whnf)|(refine zX (fun hc => ?_) (fun hc => ?_)<;>(try simp only [SY] at hc)<;>first|omega|(conv=>whnf)))
   exact loopTo (i + 1, out ++ insW (movI ms[i]) [], _) ⟨by show i + 1 ≤ _; omega, by assumption, by dsimp only; rw [movW_succ himl, ho]⟩ (by show ms.length - (i + 1) < ms.length - i; omega) wA
  ·rw [List.take_of_length_le himl] at ho
   conv => whnf
   repeat' (first|((first|((first|(apply zY;intro hg)|apply zZ);first|exact stA|exact stB|((conv=>whnf);(repeat ((first|(refine zW ?_ ?_;exact gA)|refine pC (takes19_c x (by omega)) wR ?_|refine pC (hord) wR ?_|refine pC (hmi _) wR ?_|refine zA ?_|refine zH rfl ?_|refine zB ?_|refine sG ?_|intro _);conv=>whnf));first|exact pS|exact pL|exact pE))|(refine zW ?_ ?_;exact gA)|refine zH rfl ?_|refine zA ?_|refine zI bA ?_|refine zI rfl ?_|refine sB ?_|(refine zO ?_ ?_ ?_;omega;omega)|(refine zP ?_ ?_ ?_;omega;omega)|refine zM rfl ?_|(refine zQ ?_ ?_ ?_;omega;omega)|(refine zR ?_ ?_;omega)|(refine zI ?_ ?_;exact nA)|refine sS ?_|refine pC (takes19_c x (by omega)) wR ?_|refine pC (hord) wR ?_|refine pC (hmi _) wR ?_|refine sF ?_|refine n0 ?_|refine sD ?_|refine PDraw.sP (some 39) rfl [] [13,14] tt_ok mixed ?_|intro _|refine zG ?_);conv=>whnf)|(refine zX (fun hc => ?_) (fun hc => ?_)<;>(try simp only [SY] at hc)<;>first|omega|(conv=>whnf)))
   rename_i b12
   refine PLoop.ghost (Ghost.trans (Ghost.nil 1 3 _) (Ghost.box (b := b12) (cs := [.int .i64 x.op, .int .i64 0, .int .i64 x.a, .int .i64 x.b, .nil]) (cs' := [.int .i64 x.op, .int .i64 0, .int .i64 x.a, .int .i64 x.b, .sl 1 (([] : List Int).map (PV.int .i64)) (some (nilTok 1 3))]) wA)) ?_
   refine PLoop.over [13, 60, 61, 62, 63, 64, 65, 66, 67, 68, 69, 70, 71, 72] (fun x : Nat × List Int × Tok => [(13, .int .i64 x.1)]) (fun y => [.box b12 [.int .i64 x.op, .int .i64 0, .int .i64 x.a, .int .i64 x.b, .sl 1 (y.2.1.map (PV.int .i64)) (some y.2.2)], .tok y.2.2, .tok t, .box b3 [.int .i64 x.op, .int .i64 x.d, .int .i64 x.a, .int .i64 x.b, slI x.l]]) (fun y => y.1 ≤ x.l.length ∧ y.2.2.e = 3 ∧ y.2.1 = upTo y.1) (fun y => x.l.length - y.1) (0, [], nilTok 1 3) ⟨Nat.zero_le _, rfl, rfl⟩ wA ?_
   rintro ⟨k, l2, t2⟩ ⟨hk, ht2, hl2⟩
   dsimp only at hk ht2 hl2 ⊢
   have hll := congrArg List.length hl2
   rw [upTo_len] at hll
   conv => whnf
   repeat' (first|((first|((first|(apply zY;intro hg)|apply zZ);first|exact stA|exact stB|((conv=>whnf);(repeat ((first|(refine zW ?_ ?_;exact gA)|refine pC (takes19_c x (by omega)) wR ?_|refine pC (hord) wR ?_|refine pC (hmi _) wR ?_|refine zA ?_|refine zH rfl ?_|refine zB ?_|refine sG ?_|intro _);conv=>whnf));first|exact pS|exact pL|exact pE))|(refine zW ?_ ?_;exact gA)|refine zH rfl ?_|refine zA ?_|refine zI bA ?_|refine zI rfl ?_|refine sB ?_|(refine zO ?_ ?_ ?_;omega;omega)|(refine zP ?_ ?_ ?_;omega;omega)|refine zM rfl ?_|(refine zQ ?_ ?_ ?_;omega;omega)|(refine zR ?_ ?_;omega)|(refine zI ?_ ?_;exact nA)|refine sS ?_|refine pC (takes19_c x (by omega)) wR ?_|refine pC (hord) wR ?_|refine pC (hmi _) wR ?_|refine sF ?_|refine n0 ?_|refine sD ?_|refine PDraw.sP (some 39) rfl [] [13,14] tt_ok mixed ?_|intro _|refine zG ?_);conv=>whnf)|(refine zX (fun hc => ?_) (fun hc => ?_)<;>(try simp only [SY] at hc)<;>first|omega|(conv=>whnf)))
   ·exact loopTo (k + 1, l2 ++ [(k : Int)], _) ⟨by show k + 1 ≤ _; omega, by assumption, by dsimp only; rw [upTo_succ, hl2]⟩ (by show x.l.length - (k + 1) < x.l.length - k; omega) wA
   all_goals
    have hkl : k = x.l.length := by omega
    rw [hkl, ← hEl] at hl2
    try have f1 := hEa1 (by omega)
    try have f2 := hEa2 (by omega)
    try have f3 := hEb1 (by omega)
    try have f4 := hEb2 (by omega)
    have hol2 := congrArg List.length ho
    rw [movW_len] at hol2
    subst hl2
    refine PCall.pure hin (.cons (Wk.agg (.cons (Wk.int (by omega)) (.cons (Wk.int (by omega)) (.cons (Wk.int (by omega)) (.cons (Wk.int (by omega)) (.cons (Wk.tok _ _ _) .nil)))))) (.cons (Wk.refl _) .nil)) ?_
    conv => whnf
    repeat' (first|((first|((first|(apply zY;intro hg)|apply zZ);first|exact stA|exact stB|((conv=>whnf);(repeat ((first|(refine zW ?_ ?_;exact gA)|refine pC (takes19_c x (by omega)) wR ?_|refine pC (hord) wR ?_|refine pC (hmi _) wR ?_|refine zA ?_|refine zH rfl ?_|refine zB ?_|refine sG ?_|intro _);conv=>whnf));first|exact pS|exact pL|exact pE))|(refine zW ?_ ?_;exact gA)|refine zH rfl ?_|refine zA ?_|refine zI bA ?_|refine zI rfl ?_|refine sB ?_|(refine zO ?_ ?_ ?_;omega;omega)|(refine zP ?_ ?_ ?_;omega;omega)|refine zM rfl ?_|(refine zQ ?_ ?_ ?_;omega;omega)|(refine zR ?_ ?_;omega)|(refine zI ?_ ?_;exact nA)|refine sS ?_|refine pC (takes19_c x (by omega)) wR ?_|refine pC (hord) wR ?_|refine pC (hmi _) wR ?_|refine sF ?_|refine n0 ?_|refine sD ?_|refine PDraw.sP (some 39) rfl [] [13,14] tt_ok mixed ?_|intro _|refine zG ?_);conv=>whnf)|(refine zX (fun hc => ?_) (fun hc => ?_)<;>(try simp only [SY] at hc)<;>first|omega|(conv=>whnf)))
    subst ho
    exact PRet.pure (Wk.tok _ _ _)
 ·rw [oneW, if_neg hv]
  simp only [lvsB, Bool.and_eq_true, decide_eq_true_eq] at hv
  refine ACall.of_body tt_ok Tryz.func108 rfl rfl (n := 92) rfl rfl ?_
  conv => whnf
  repeat' (first|((first|((first|(apply zY;intro hg)|apply zZ);first|exact stA|exact stB|((conv=>whnf);(repeat ((first|(refine zW ?_ ?_;exact gA)|refine pC (ins19_c x al (by omega) hal) wR ?_|refine zA ?_|refine zH rfl ?_|refine zB ?_|refine sG ?_|intro _);conv=>whnf));first|exact pS|exact pL|exact pE))|(refine zW ?_ ?_;exact gA)|refine zH rfl ?_|refine zA ?_|refine zI bA ?_|refine zI rfl ?_|refine sB ?_|(refine zO ?_ ?_ ?_;omega;omega)|(refine zP ?_ ?_ ?_;omega;omega)|refine zM rfl ?_|(refine zQ ?_ ?_ ?_;omega;omega)|(refine zR ?_ ?_;omega)|(refine zI ?_ ?_;exact nA)|refine sS ?_|refine pC (ins19_c x al (by omega) hal) wR ?_|refine sF ?_|refine n0 ?_|refine sD ?_|refine PDraw.sP (some 39) rfl [] [13,14] tt_ok mixed ?_|intro _|refine zG ?_);conv=>whnf)|(refine zX (fun hc => ?_) (fun hc => ?_)<;>(try simp only [SY] at hc)<;>first|omega|(conv=>whnf)))
  exact PRet.pure (Wk.refl _)
end Go.Cb
namespace Go.Cb
open Go.Proofs
set_option maxRecDepth 100000
set_option maxHeartbeats 4000000
def nxtL (x : Ins) (k : Int) : List Int := (if x.op ≠ 15 ∧ x.op < 19 then [k + 1] else []) ++ ((if x.op = 15 then [x.a] else []) ++ (if x.op = 16 then [x.b] else []))
end Go.Cb
namespace Go.Cb
open Go.Proofs
set_option maxRecDepth 100000
set_option maxHeartbeats 4000000
structure PrF (p : Prc) : Prop where
 rg : 0 ≤ p.regs ∧ p.regs ≤ 20000
 ag : 0 ≤ p.args ∧ p.args ≤ p.regs
 ln : 0 < p.code.length ∧ p.code.length ≤ 50000
 nx : ∀ (k : Nat) (h : k < p.code.length), ∀ j ∈ nxtL p.code[k] k, 0 ≤ j ∧ j < p.code.length
 nm : ∀ x ∈ p.code, ∀ n ∈ namedL x, 0 ≤ n ∧ n < p.regs
 gv : ∀ x ∈ p.code, -1 ≤ givesI x ∧ givesI x < p.regs
 ls : ∀ x ∈ p.code, ∀ n ∈ x.l, 0 ≤ n ∧ n < p.regs
end Go.Cb
namespace Go.Cb
open Go.Proofs
set_option maxRecDepth 100000
set_option maxHeartbeats 4000000
end Go.Cb
namespace Go.Cb
open Go.Proofs
set_option maxRecDepth 100000
set_option maxHeartbeats 4000000
end Go.Cb
namespace Go.Cb
open Go.Proofs
set_option maxRecDepth 100000
set_option maxHeartbeats 4000000
end Go.Cb
namespace Go.Cb
open Go.Proofs
set_option maxRecDepth 100000
set_option maxHeartbeats 4000000
theorem gD {l : List Int} {n : Nat} (h : n < l.length) : l.getD n 0 = l[n] := by
 rw [List.getD_eq_getElem?_getD, List.getElem?_eq_getElem h]; rfl
end Go.Cb
namespace Go.Cb
open Go.Proofs
set_option maxRecDepth 100000
set_option maxHeartbeats 4000000
theorem wrdE_lens : ∀ E : List InE, (wrdE E).length = (lensE E).sum
 | [] => rfl
 | q :: E => by rw [wrdE_cons, List.length_append, wrdE_lens E, lensE, lensE, List.map_cons, List.sum_cons]
theorem all_jmp (sp : Int) (pl : List Int) (c : List Ins) (al : List (List Int)) : (allW (cwM sp) (jmpT pl) c al).length = (allW (cwM sp) id c al).length := by
 rw [← allE_w, ← allE_w, wrdE_lens, wrdE_lens, allE_lens]
theorem jmpT_d (pl : List Int) (x : Ins) : (jmpT pl x).d = x.d := by unfold jmpT; split; rfl; split <;> rfl
theorem fitA_d {x : Ins} {regs : Int} (h : fitA x regs = true) (hv : lvsB x = true) : x.d = 0 := by
 simp only [lvsB, Bool.and_eq_true, decide_eq_true_eq] at hv
 unfold fitA at h
 have hp : (partsL x.op).1.d = false := by
  unfold partsL
  repeat (first|rw [if_neg (by omega)]|(split; rfl))
 rw [Bool.and_eq_true, Bool.and_eq_true, Bool.not_eq_true', Bool.or_eq_false_iff, Bool.or_eq_false_iff, Bool.or_eq_false_iff] at h
 have h2 := h.1.2.1.1.1
 rw [hp] at h2
 unfold regB at h2
 simpa using h2
theorem proc19_c {u : Unt} (hi : illB u = false) (hb : Lim u) {p : Prc} (hp : p ∈ u.procs) : ACallP Tryz.prog 61 [.agg p.cells] (slI (procW cwM p)) := by
 obtain ⟨hal, hne, hr0, hr1, hale, ha0, ha1⟩ := alive_len hi hp
 obtain ⟨hcl, hxl⟩ := hb.2 p hp
 obtain ⟨_, _, hfit, _⟩ := illB_no hi p hp
 have hjm := (prcOk hi hb p hp).jm
 have hwl := wrd_len hi hb hp
 have hjl := all_jmp (spareL p.code p.regs) (stsP cwM p) p.code p.alive
 have hsl : (stsP cwM p).length = p.code.length := stsW_len (cwM (spareL p.code p.regs)) id p.code p.alive 0 hal
 have hsg := spareL_ge p.code p.regs
 have hsle := spareL_le p.code p.regs (fun x hx => by have := hxl x hx; omega) (by omega)
 have hwd := wide19_c p (fun x hx => by have := hxl x hx; omega)
 have hone : ∀ (pl : List Int) (k : Nat) (hk : k < p.code.length) (hk2 : k < p.alive.length), ACallP Tryz.prog 108 [.agg (jmpT pl p.code[k]).cells, slI p.alive[k], .int .i64 (spareL p.code p.regs)] (slI (oneW (cwM (spareL p.code p.regs)) (jmpT pl p.code[k]) p.alive[k])) := fun pl k hk hk2 => by
  have h1 := hxl _ (List.getElem_mem hk)
  have h2 := (hale _ (List.getElem_mem hk2)).1
  have h3 := hfit _ (List.getElem_mem hk)
  unfold fitB at h3
  rw [Bool.and_eq_true] at h3
  exact one19_c _ _ _ (by rw [jmpT_l]; omega) (by omega) (fun h => by rw [jmpT_lvs] at h; rw [jmpT_d]; exact fitA_d h3.1 h)
 have hone0 : ∀ (k : Nat) (hk : k < p.code.length) (hk2 : k < p.alive.length), ACallP Tryz.prog 108 [.agg p.code[k].cells, slI p.alive[k], .int .i64 (spareL p.code p.regs)] (slI (oneW (cwM (spareL p.code p.regs)) p.code[k] p.alive[k])) := fun k hk hk2 => by
  have h1 := hxl _ (List.getElem_mem hk)
  have h2 := (hale _ (List.getElem_mem hk2)).1
  have h3 := hfit _ (List.getElem_mem hk)
  unfold fitB at h3
  rw [Bool.and_eq_true] at h3
  exact one19_c _ _ _ (by omega) (by omega) (fitA_d h3.1)
 have hpw : procW cwM p = [p.args, if p.rest = true then 1 else 0, spareL p.code p.regs + 1, ((wrdP cwM p).length : Int)] ++ allW (cwM (spareL p.code p.regs)) (jmpT (stsP cwM p)) p.code p.alive := rfl
 have hwe : (wrdP cwM p).length = (allW (cwM (spareL p.code p.regs)) id p.code p.alive).length := hjl
 have hst : stsP cwM p = stsW (cwM (spareL p.code p.regs)) id p.code p.alive 0 := rfl
 rw [hpw, hwe]
 rw [hwe] at hwl
 generalize stsP cwM p = pl at *
 generalize spareL p.code p.regs = sp at *
 refine ACall.of_body tt_ok Tryz.func61 rfl rfl (n := 89) rfl rfl ?_
 conv => whnf
 repeat' (first|((first|((first|(apply zY;intro hg)|apply zZ);first|exact stA|exact stB|((conv=>whnf);(repeat ((first|(refine zW ?_ ?_;exact gA)|refine pC (hwd) wR ?_|refine pC (hone0 _ (by omega) (by omega)) wR ?_|refine zA ?_|refine zH rfl ?_|refine zB ?_|refine sG ?_|intro _);conv=>whnf));first|exact pS|exact pL|exact pE))|(refine zW ?_ ?_;exact gA)|refine zH rfl ?_|refine zA ?_|refine zI bA ?_|refine zI rfl ?_|refine sB ?_|(refine zO ?_ ?_ ?_;omega;omega)|(refine zP ?_ ?_ ?_;omega;omega)|refine zM rfl ?_|(refine zQ ?_ ?_ ?_;omega;omega)|(refine zR ?_ ?_;omega)|(refine zI ?_ ?_;exact nA)|refine sS ?_|refine pC (hwd) wR ?_|refine pC (hone0 _ (by omega) (by omega)) wR ?_|refine sF ?_|refine n0 ?_|refine sD ?_|refine PDraw.sP (some 24) rfl [] [] tt_ok mixed ?_|refine PDraw.sP (some 78) rfl [] [9,10] tt_ok mixed ?_|intro _|refine zG ?_);conv=>whnf)|(refine zX (fun hc => ?_) (fun hc => ?_)<;>(try simp only [SY] at hc)<;>first|omega|(conv=>whnf)))
 rename_i b1
 refine PLoop.ghost (Ghost.nil 1 3 _) ?_
 refine PLoop.over [4, 5, 6, 13, 14, 15, 16, 17, 18, 19, 20, 21, 22, 23, 24, 25, 26, 27, 28, 29, 30, 31, 32, 33, 34, 35, 36, 37, 38] (fun x : Nat × (List Int × Tok) × Nat => [(4, .sl 1 (x.2.1.1.map (PV.int .i64)) (some x.2.1.2)), (5, .int .i64 x.2.2), (6, .int .i64 x.1)]) (fun x => [.tok x.2.1.2, .box b1 (prX p)]) (fun x => x.1 ≤ p.code.length ∧ x.2.1.2.e = 3 ∧ x.2.1.1.length = x.1 ∧ x.2.2 + (allW (cwM sp) id (p.code.drop x.1) (p.alive.drop x.1)).length = (allW (cwM sp) id p.code p.alive).length ∧ x.2.1.1 ++ stsW (cwM sp) id (p.code.drop x.1) (p.alive.drop x.1) x.2.2 = pl) (fun x => p.code.length - x.1)
  (0, ([], nilTok 1 3), 0) ⟨Nat.zero_le _, rfl, rfl, by simp, by simp [hst]⟩ wA ?_
 rintro ⟨k, ⟨sts, ts⟩, n⟩ ⟨hk, hte, hkl, hn, hs⟩
 dsimp only at hk hte hkl hn hs ⊢
 rcases Nat.lt_or_ge k p.code.length with hkc | hkc
 ·have hka : k < p.alive.length := by omega
  rw [drop_at hkc, drop_at hka, allW, id_eq, List.length_append] at hn
  rw [drop_at hkc, drop_at hka, stsW, id_eq] at hs
  conv => whnf
  repeat' (first|((first|((first|(apply zY;intro hg)|apply zZ);first|exact stA|exact stB|((conv=>whnf);(repeat ((first|(refine zW ?_ ?_;exact gA)|refine pC (hwd) wR ?_|refine pC (hone0 _ (by omega) (by omega)) wR ?_|refine zA ?_|refine zH rfl ?_|refine zB ?_|refine sG ?_|intro _);conv=>whnf));first|exact pS|exact pL|exact pE))|(refine zW ?_ ?_;exact gA)|refine zH rfl ?_|refine zA ?_|refine zI bA ?_|refine zI rfl ?_|refine sB ?_|(refine zO ?_ ?_ ?_;omega;omega)|(refine zP ?_ ?_ ?_;omega;omega)|refine zM rfl ?_|(refine zQ ?_ ?_ ?_;omega;omega)|(refine zR ?_ ?_;omega)|(refine zI ?_ ?_;exact nA)|refine sS ?_|refine pC (hwd) wR ?_|refine pC (hone0 _ (by omega) (by omega)) wR ?_|refine sF ?_|refine n0 ?_|refine sD ?_|refine PDraw.sP (some 24) rfl [] [] tt_ok mixed ?_|refine PDraw.sP (some 78) rfl [] [9,10] tt_ok mixed ?_|intro _|refine zG ?_);conv=>whnf)|(refine zX (fun hc => ?_) (fun hc => ?_)<;>(try simp only [SY] at hc)<;>first|omega|(conv=>whnf)))
  exact loopTo (k + 1, (sts ++ [(n : Int)], _), n + (oneW (cwM sp) p.code[k] p.alive[k]).length) ⟨by show k + 1 ≤ _; omega, by assumption, by dsimp only; rw [List.length_append, List.length_singleton]; omega, by dsimp only; omega, by dsimp only; rw [List.append_assoc, List.singleton_append, Int.natCast_add]; exact hs⟩ (by show p.code.length - (k + 1) < p.code.length - k; omega) wA
 ·rw [List.drop_of_length_le (by omega), List.drop_of_length_le (by omega)] at hn hs
  rw [show allW (cwM sp) id [] [] = [] by simp [allW], List.length_nil] at hn
  rw [show stsW (cwM sp) id [] [] n = [] by simp [stsW], List.append_nil] at hs
  subst hs
  rw [← hn, Nat.add_zero]
  have hz2 : ∀ o : List Int, o ++ allW (cwM sp) (jmpT sts) [] [] = o := fun o => by simp [allW]
  conv => whnf
  repeat' (first|((first|((first|(apply zY;intro hg)|apply zZ);first|exact stA|exact stB|((conv=>whnf);(repeat ((first|(refine zW ?_ ?_;exact gA)|refine pC (hwd) wR ?_|refine pC (hone0 _ (by omega) (by omega)) wR ?_|refine zA ?_|refine zH rfl ?_|refine zB ?_|refine sG ?_|intro _);conv=>whnf));first|exact pS|exact pL|exact pE))|(refine zW ?_ ?_;exact gA)|refine zH rfl ?_|refine zA ?_|refine zI bA ?_|refine zI rfl ?_|refine sB ?_|(refine zO ?_ ?_ ?_;omega;omega)|(refine zP ?_ ?_ ?_;omega;omega)|refine zM rfl ?_|(refine zQ ?_ ?_ ?_;omega;omega)|(refine zR ?_ ?_;omega)|(refine zI ?_ ?_;exact nA)|refine sS ?_|refine pC (hwd) wR ?_|refine pC (hone0 _ (by omega) (by omega)) wR ?_|refine sF ?_|refine n0 ?_|refine sD ?_|refine PDraw.sP (some 24) rfl [] [] tt_ok mixed ?_|refine PDraw.sP (some 78) rfl [] [9,10] tt_ok mixed ?_|intro _|refine zG ?_);conv=>whnf)|(refine zX (fun hc => ?_) (fun hc => ?_)<;>(try simp only [SY] at hc)<;>first|omega|(conv=>whnf)))
  all_goals
   refine PLoop.over [8, 9, 10, 48, 49, 50, 51, 52, 53, 54, 55, 56, 57, 58, 59, 60, 61, 62, 63, 64, 65, 66, 67, 68, 69, 70, 71, 72, 73, 74, 75, 76, 77, 78, 79, 80, 81, 82, 83, 84, 85, 86, 87] (fun x : Nat × List Int × Tok => [(8, .sl 1 (x.2.1.map (PV.int .i64)) (some x.2.2)), (9, .int .i64 x.1)]) (fun x => [.tok x.2.2, .box b1 (prX p)]) (fun x => x.1 ≤ p.code.length ∧ x.2.2.e = 3 ∧ x.2.1 ++ allW (cwM sp) (jmpT sts) (p.code.drop x.1) (p.alive.drop x.1) = [p.args, if p.rest = true then 1 else 0, sp + 1, (n : Int)] ++ allW (cwM sp) (jmpT sts) p.code p.alive) (fun x => p.code.length - x.1)
    (0, [p.args, if p.rest = true then 1 else 0, sp + 1, (n : Int)], _) ⟨Nat.zero_le _, by assumption, rfl⟩ (by rw [hc]; exact wA) ?_
   rintro ⟨j, out, t⟩ ⟨hj, htj, ho⟩
   dsimp only at hj htj ho ⊢
   have hol := congrArg List.length ho
   rw [List.length_append, List.length_append, hjl] at hol
   simp only [List.length_cons, List.length_nil] at hol
   rcases Nat.lt_or_ge j p.code.length with hjc | hjc
   ·have hja : j < p.alive.length := by omega
    rw [drop_at hjc, drop_at hja, allW, List.length_append] at hol
    rw [drop_at hjc, drop_at hja, allW, ← List.append_assoc] at ho
    have hj1 := hjm _ (List.getElem_mem hjc)
    have hon := hone sts j hjc hja
    by_cases h15 : p.code[j].op = 15
    ·have hjt : jmpT sts p.code[j] = ⟨p.code[j].op, p.code[j].d, sts[p.code[j].a.toNat]'(by have := hj1.1 h15; omega), p.code[j].b, p.code[j].l⟩ := by
      have := hj1.1 h15
      unfold jmpT
      rw [if_pos h15, gD (by omega)]
     have hj2 := hj1.1 h15
     rw [hjt] at hon ho hol
     conv => whnf
     repeat' (first|((first|((first|(apply zY;intro hg)|apply zZ);first|exact stA|exact stB|((conv=>whnf);(repeat ((first|(refine zW ?_ ?_;exact gA)|refine pC (hon) wR ?_|refine zA ?_|refine zH rfl ?_|refine zB ?_|refine sG ?_|intro _);conv=>whnf));first|exact pS|exact pL|exact pE))|(refine zW ?_ ?_;exact gA)|refine zH rfl ?_|refine zA ?_|refine zI bA ?_|refine zI rfl ?_|refine sB ?_|(refine zO ?_ ?_ ?_;omega;omega)|(refine zP ?_ ?_ ?_;omega;omega)|refine zM rfl ?_|(refine zQ ?_ ?_ ?_;omega;omega)|(refine zR ?_ ?_;omega)|(refine zI ?_ ?_;exact nA)|refine sS ?_|refine pC (hon) wR ?_|refine sF ?_|refine n0 ?_|refine sD ?_|refine PDraw.sP (some 24) rfl [] [] tt_ok mixed ?_|refine PDraw.sP (some 78) rfl [] [9,10] tt_ok mixed ?_|intro _|refine zG ?_);conv=>whnf)|(refine zX (fun hc => ?_) (fun hc => ?_)<;>(try simp only [SY] at hc)<;>first|omega|(conv=>whnf)))
     exact loopTo (j + 1, out ++ _, _) ⟨by show j + 1 ≤ _; omega, by assumption, ho⟩ (by show p.code.length - (j + 1) < p.code.length - j; omega) wA
    ·by_cases h16 : p.code[j].op = 16
     ·have hjt : jmpT sts p.code[j] = ⟨p.code[j].op, p.code[j].d, p.code[j].a, sts[p.code[j].b.toNat]'(by have := hj1.2 h16; omega), p.code[j].l⟩ := by
       have := hj1.2 h16
       unfold jmpT
       rw [if_neg h15, if_pos h16, gD (by omega)]
      have hj2 := hj1.2 h16
      rw [hjt] at hon ho hol
      conv => whnf
      repeat' (first|((first|((first|(apply zY;intro hg)|apply zZ);first|exact stA|exact stB|((conv=>whnf);(repeat ((first|(refine zW ?_ ?_;exact gA)|refine pC (hon) wR ?_|refine zA ?_|refine zH rfl ?_|refine zB ?_|refine sG ?_|intro _);conv=>whnf));first|exact pS|exact pL|exact pE))|(refine zW ?_ ?_;exact gA)|refine zH rfl ?_|refine zA ?_|refine zI bA ?_|refine zI rfl ?_|refine sB ?_|(refine zO ?_ ?_ ?_;omega;omega)|(refine zP ?_ ?_ ?_;omega;omega)|refine zM rfl ?_|(refine zQ ?_ ?_ ?_;omega;omega)|(refine zR ?_ ?_;omega)|(refine zI ?_ ?_;exact nA)|refine sS ?_|refine pC (hon) wR ?_|refine sF ?_|refine n0 ?_|refine sD ?_|refine PDraw.sP (some 24) rfl [] [] tt_ok mixed ?_|refine PDraw.sP (some 78) rfl [] [9,10] tt_ok mixed ?_|intro _|refine zG ?_);conv=>whnf)|(refine zX (fun hc => ?_) (fun hc => ?_)<;>(try simp only [SY] at hc)<;>first|omega|(conv=>whnf)))
      exact loopTo (j + 1, out ++ _, _) ⟨by show j + 1 ≤ _; omega, by assumption, ho⟩ (by show p.code.length - (j + 1) < p.code.length - j; omega) wA
     ·have hjt : jmpT sts p.code[j] = p.code[j] := by
       unfold jmpT
       rw [if_neg h15, if_neg h16]
      rw [hjt] at hon ho hol
      conv => whnf
      repeat' (first|((first|((first|(apply zY;intro hg)|apply zZ);first|exact stA|exact stB|((conv=>whnf);(repeat ((first|(refine zW ?_ ?_;exact gA)|refine pC (hon) wR ?_|refine zA ?_|refine zH rfl ?_|refine zB ?_|refine sG ?_|intro _);conv=>whnf));first|exact pS|exact pL|exact pE))|(refine zW ?_ ?_;exact gA)|refine zH rfl ?_|refine zA ?_|refine zI bA ?_|refine zI rfl ?_|refine sB ?_|(refine zO ?_ ?_ ?_;omega;omega)|(refine zP ?_ ?_ ?_;omega;omega)|refine zM rfl ?_|(refine zQ ?_ ?_ ?_;omega;omega)|(refine zR ?_ ?_;omega)|(refine zI ?_ ?_;exact nA)|refine sS ?_|refine pC (hon) wR ?_|refine sF ?_|refine n0 ?_|refine sD ?_|refine PDraw.sP (some 24) rfl [] [] tt_ok mixed ?_|refine PDraw.sP (some 78) rfl [] [9,10] tt_ok mixed ?_|intro _|refine zG ?_);conv=>whnf)|(refine zX (fun hc => ?_) (fun hc => ?_)<;>(try simp only [SY] at hc)<;>first|omega|(conv=>whnf)))
      exact loopTo (j + 1, out ++ _, _) ⟨by show j + 1 ≤ _; omega, by assumption, ho⟩ (by show p.code.length - (j + 1) < p.code.length - j; omega) wA
   ·rw [List.drop_of_length_le (by omega), List.drop_of_length_le (by omega), hz2] at ho
    conv => whnf
    repeat' (first|((first|((first|(apply zY;intro hg)|apply zZ);first|exact stA|exact stB|((conv=>whnf);(repeat ((first|(refine zW ?_ ?_;exact gA)|refine pC (hon) wR ?_|refine zA ?_|refine zH rfl ?_|refine zB ?_|refine sG ?_|intro _);conv=>whnf));first|exact pS|exact pL|exact pE))|(refine zW ?_ ?_;exact gA)|refine zH rfl ?_|refine zA ?_|refine zI bA ?_|refine zI rfl ?_|refine sB ?_|(refine zO ?_ ?_ ?_;omega;omega)|(refine zP ?_ ?_ ?_;omega;omega)|refine zM rfl ?_|(refine zQ ?_ ?_ ?_;omega;omega)|(refine zR ?_ ?_;omega)|(refine zI ?_ ?_;exact nA)|refine sS ?_|refine pC (hon) wR ?_|refine sF ?_|refine n0 ?_|refine sD ?_|refine PDraw.sP (some 24) rfl [] [] tt_ok mixed ?_|refine PDraw.sP (some 78) rfl [] [9,10] tt_ok mixed ?_|intro _|refine zG ?_);conv=>whnf)|(refine zX (fun hc => ?_) (fun hc => ?_)<;>(try simp only [SY] at hc)<;>first|omega|(conv=>whnf)))
    rw [← ho]
    exact PRet.pure (Wk.tok _ _ _)
end Go.Cb
namespace Go.Cb
open Go.Proofs
set_option maxRecDepth 100000
set_option maxHeartbeats 4000000
end Go.Cb
namespace Go.Cb
open Go.Proofs
set_option maxRecDepth 100000
set_option maxHeartbeats 4000000
theorem ints19_self (l : List Int) : ACallP Tryz.prog 26 [slI l, slI l] (.bool true) := by
 refine ACall.of_body tt_ok Tryz.func26 rfl rfl (n := 26) rfl rfl ?_
 conv => whnf
 repeat' (first|((first|((first|(apply zY;intro hg)|apply zZ);first|exact stA|exact stB)|(refine zW ?_ ?_;exact gA)|refine zH rfl ?_|refine zA ?_|refine zI bA ?_|refine zI rfl ?_|refine sB ?_|(refine zO ?_ ?_ ?_;omega;omega)|(refine zP ?_ ?_ ?_;omega;omega)|refine zM rfl ?_|(refine zQ ?_ ?_ ?_;omega;omega)|(refine zR ?_ ?_;omega)|(refine zI ?_ ?_;exact nA)|refine sS ?_|refine sE ?_|refine n0 ?_|refine sD ?_|refine PDraw.sP (some 17) rfl [] [] tt_ok mixed ?_|intro _|refine zG ?_);conv=>whnf)|(refine zX (fun hc => ?_) (fun hc => ?_)<;>(try simp only [SY] at hc)<;>first|omega|(conv=>whnf)))
 refine PLoop.keep [4, 5, 11, 12, 13, 14, 15, 16, 17, 18, 19, 20, 21, 22, 23, 24, 25] (fun i : Nat => [(5, .int .i64 i)]) (fun i => i ≤ l.length) (fun i => l.length - i) 0 (Nat.zero_le _) wA ?_
 rintro i hi
 conv => whnf
 repeat' (first|((first|((first|(apply zY;intro hg)|apply zZ);first|exact stA|exact stB)|(refine zW ?_ ?_;exact gA)|refine zH rfl ?_|refine zA ?_|refine zI bA ?_|refine zI rfl ?_|refine sB ?_|(refine zO ?_ ?_ ?_;omega;omega)|(refine zP ?_ ?_ ?_;omega;omega)|refine zM rfl ?_|(refine zQ ?_ ?_ ?_;omega;omega)|(refine zR ?_ ?_;omega)|(refine zI ?_ ?_;exact nA)|refine sS ?_|refine sE ?_|refine n0 ?_|refine sD ?_|refine PDraw.sP (some 17) rfl [] [] tt_ok mixed ?_|intro _|refine zG ?_);conv=>whnf)|(refine zX (fun hc => ?_) (fun hc => ?_)<;>(try simp only [SY] at hc)<;>first|omega|(conv=>whnf)))
 ·exact loopTo (i + 1) (by show i + 1 ≤ _; omega) (by show l.length - (i + 1) < l.length - i; omega) wA
 ·exact PRet.pure (Wk.tt rfl)
def u0 : Unt := ⟨[], [⟨1, false, 1, [⟨22, 0, 0, 0, []⟩], [[]]⟩]⟩
def L0 : List Int := [6516594, 1, 3, 1, 0, 2, 6, 22, 0, 0, 0, 0, 0]
def p0 : Prc := ⟨1, false, 2, [⟨22, 0, 0, 0, []⟩], [[]]⟩
def cw0 : CwF := fun _ _ _ => []
theorem emit_u0 : emitR cw0 u0 = (L0, 0) := by kernel_rfl
theorem read_L0 : readR L0 = ([p0], 0) := by kernel_rfl
theorem u0_ok : ∀ p ∈ u0.procs, PrcOk cw0 p := by
 intro p hp
 simp only [u0, List.mem_singleton] at hp
 subst hp
 refine ⟨rfl, by decide, by decide, ?_, ?_, by decide, ?_, by decide, by decide⟩
 ·intro x hx
  simp only [List.mem_singleton] at hx
  subst hx
  exact ⟨fun h => by simp at h, fun h => by simp at h⟩
 ·intro x hx
  simp only [List.mem_singleton] at hx
  subst hx
  simp
 ·intro x hx h
  simp only [List.mem_singleton] at hx
  subst hx
  simp [lvsB] at h
theorem Wk.rowT {s : Nat} {xs ys : List PV} {tk : Option Tok} (h : WkR xs ys) : Wk (.sl s xs tk) (.sl s ys none) := Wk.trans (Wk.tok _ _ _) (Wk.row h)
theorem u0_wk (t1 t2 t3 : Option Tok) : Wk (.agg [.nil, .sl 5 [.agg [.int .i64 1, .bfalse, .int .i64 1, .sl 5 [.agg [.int .i64 22, .int .i64 0, .int .i64 0, .int .i64 0, .nil]] t1, .sl 1 [.nil] t2]] t3]) (.agg u0.cells) :=
 Wk.agg (.cons (Wk.nil' rfl) (.cons (Wk.rowT (.cons (.cons (Wk.refl _) (.cons (Wk.ff rfl) (.cons (Wk.refl _) (.cons (Wk.rowT (.cons (.cons (Wk.refl _) (.cons (Wk.refl _) (.cons (Wk.refl _) (.cons (Wk.refl _) (.cons (Wk.nil' rfl) .nil))))) .nil)) (.cons (Wk.rowT (.cons (.cons (Wk.nil' rfl) .nil) .nil)) .nil))))) .nil)) .nil))
theorem awake19_c : ACallP Tryz.prog 19 [] (.bool true) := by
 have he := emit_c u0 cw0 (fun _ => u0_ok) (fun _ => by decide)
 rw [emitPV, emit_u0] at he
 have hr := read_c L0 (by decide)
 rw [readPV, read_L0] at hr
 refine ACall.of_body tt_ok Tryz.func19 rfl rfl (n := 45) rfl rfl ?_
 conv => whnf
 repeat' (first|((first|((first|(apply zY;intro hg)|apply zZ);first|exact stA|exact stB|((conv=>whnf);(repeat ((first|(refine zW ?_ ?_;exact gA)|refine pC (hr) wR ?_|refine pC (ints19_self L0) wR ?_|intro _);conv=>whnf));first|exact pS|exact pL|exact pE))|(refine zW ?_ ?_;exact gA)|refine zH rfl ?_|refine zA ?_|refine zI bA ?_|refine zI rfl ?_|refine sB ?_|(refine zO ?_ ?_ ?_;omega;omega)|(refine zP ?_ ?_ ?_;omega;omega)|refine zM rfl ?_|(refine zQ ?_ ?_ ?_;omega;omega)|(refine zR ?_ ?_;omega)|(refine zI ?_ ?_;exact nA)|refine sS ?_|refine pC (hr) wR ?_|refine pC (ints19_self L0) wR ?_|refine sE ?_|refine n0 ?_|refine sD ?_|intro _|refine zG ?_);conv=>whnf)|(refine zX (fun hc => ?_) (fun hc => ?_)<;>(try simp only [SY] at hc)<;>first|omega|(conv=>whnf)))
 refine PCall.pure he (.cons (u0_wk _ _ _) .nil) ?_
 conv => whnf
 repeat' (first|((first|((first|(apply zY;intro hg)|apply zZ);first|exact stA|exact stB|((conv=>whnf);(repeat ((first|(refine zW ?_ ?_;exact gA)|refine pC (hr) wR ?_|refine pC (ints19_self L0) wR ?_|intro _);conv=>whnf));first|exact pS|exact pL|exact pE))|(refine zW ?_ ?_;exact gA)|refine zH rfl ?_|refine zA ?_|refine zI bA ?_|refine zI rfl ?_|refine sB ?_|(refine zO ?_ ?_ ?_;omega;omega)|(refine zP ?_ ?_ ?_;omega;omega)|refine zM rfl ?_|(refine zQ ?_ ?_ ?_;omega;omega)|(refine zR ?_ ?_;omega)|(refine zI ?_ ?_;exact nA)|refine sS ?_|refine pC (hr) wR ?_|refine pC (ints19_self L0) wR ?_|refine sE ?_|refine n0 ?_|refine sD ?_|intro _|refine zG ?_);conv=>whnf)|(refine zX (fun hc => ?_) (fun hc => ?_)<;>(try simp only [SY] at hc)<;>first|omega|(conv=>whnf)))
 exact PRet.pure (Wk.bool rfl)
end Go.Cb
namespace Go.Cb
open Go.Proofs
set_option maxRecDepth 100000
set_option maxHeartbeats 4000000
theorem few19_c (u : Unt) (n : Int) (h0 : 0 ≤ n) (h1 : n ≤ 1000000000) : ACallP Tryz.prog 23 [.agg u.cells, .int .i64 n] (.bool (fewU u n)) := by
 refine ACall.of_body tt_ok Tryz.func23 rfl rfl (n := 80) rfl rfl ?_
 conv => whnf
 repeat' (first|((first|((first|(apply zY;intro hg)|apply zZ);first|exact stA|exact stB|((conv=>whnf);(repeat ((first|(refine zW ?_ ?_;exact gA)|refine pC (FewAll_c u.consts 2000 (by omega) (by omega)) wR ?_|intro _);conv=>whnf));first|exact pS|exact pL|exact pE))|(refine zW ?_ ?_;exact gA)|refine zH rfl ?_|refine zA ?_|refine zI bA ?_|refine zI rfl ?_|refine sB ?_|(refine zO ?_ ?_ ?_;omega;omega)|(refine zP ?_ ?_ ?_;omega;omega)|refine zM rfl ?_|(refine zQ ?_ ?_ ?_;omega;omega)|(refine zR ?_ ?_;omega)|(refine zI ?_ ?_;exact nA)|refine sS ?_|refine pC (FewAll_c u.consts 2000 (by omega) (by omega)) wR ?_|refine sE ?_|refine n0 ?_|refine sD ?_|intro _|refine zG ?_);conv=>whnf)|(refine zX (fun hc => ?_) (fun hc => ?_)<;>(try simp only [SY] at hc)<;>first|omega|(conv=>whnf)))
 ·rw [fewU, if_pos (by rw [decide_eq_false_iff_not]; omega)]
  exact PRet.pure (Wk.ff rfl)
 rw [fewU, if_neg (by rw [decide_eq_false_iff_not]; omega)]
 refine PLoop.keep [4, 5, 6, 7, 18, 19, 20, 21, 22, 23, 24, 25, 26, 27, 28, 29, 30, 31, 32, 33, 34, 35, 36, 37, 38, 39, 40, 41, 42, 43, 44, 45, 46, 47, 48, 49, 50, 51, 52, 53, 54, 55, 56, 57, 58, 59, 60, 61, 62, 63, 64, 65, 66, 67, 68, 69, 70, 71, 72, 73, 74, 75, 76, 77, 78, 79] (fun x : Nat × Int => [(5, .int .i64 x.2), (6, .int .i64 x.1)]) (fun x => x.1 ≤ u.procs.length ∧ 0 ≤ x.2 ∧ x.2 ≤ n ∧ fewPs n u.procs 0 = fewPs n (u.procs.drop x.1) x.2) (fun x => u.procs.length - x.1) (0, 0) ⟨Nat.zero_le _, by omega, by omega, rfl⟩ wA ?_
 rintro ⟨i, k⟩ ⟨hi, hk, hkn, he⟩
 dsimp only at hi hk hkn he ⊢
 conv => whnf
 repeat' (first|((first|((first|(apply zY;intro hg)|apply zZ);first|exact stA|exact stB|((conv=>whnf);(repeat ((first|(refine zW ?_ ?_;exact gA)|refine pC (FewAll_c u.consts 2000 (by omega) (by omega)) wR ?_|intro _);conv=>whnf));first|exact pS|exact pL|exact pE))|(refine zW ?_ ?_;exact gA)|refine zH rfl ?_|refine zA ?_|refine zI bA ?_|refine zI rfl ?_|refine sB ?_|(refine zO ?_ ?_ ?_;omega;omega)|(refine zP ?_ ?_ ?_;omega;omega)|refine zM rfl ?_|(refine zQ ?_ ?_ ?_;omega;omega)|(refine zR ?_ ?_;omega)|(refine zI ?_ ?_;exact nA)|refine sS ?_|refine pC (FewAll_c u.consts 2000 (by omega) (by omega)) wR ?_|refine sE ?_|refine n0 ?_|refine sD ?_|intro _|refine zG ?_);conv=>whnf)|(refine zX (fun hc => ?_) (fun hc => ?_)<;>(try simp only [SY] at hc)<;>first|omega|(conv=>whnf)))
 ·have hip : i < u.procs.length := by omega
  rw [drop_at hip, fewPs, if_pos (by omega)] at he
  rw [he]
  exact PRet.pure (Wk.ff rfl)
 ·have hip : i < u.procs.length := by omega
  rw [drop_at hip, fewPs, if_neg (by omega)] at he
  refine PLoop.keep [4, 7, 54, 55, 56, 57, 58, 59, 60, 61, 62, 63, 64, 65, 66, 67, 68, 69, 70, 71, 72, 73, 74, 75, 76] (fun j : Nat => [(7, .int .i64 j)]) (fun j => j ≤ u.procs[i].code.length ∧ (u.procs[i].code.any fun x => decide ((x.l.length : Int) > 60)) = (u.procs[i].code.drop j).any fun x => decide ((x.l.length : Int) > 60)) (fun j => u.procs[i].code.length - j) 0 ⟨Nat.zero_le _, rfl⟩ wA ?_
  rintro j ⟨hj, hja⟩
  conv => whnf
  repeat' (first|((first|((first|(apply zY;intro hg)|apply zZ);first|exact stA|exact stB|((conv=>whnf);(repeat ((first|(refine zW ?_ ?_;exact gA)|refine pC (FewAll_c u.consts 2000 (by omega) (by omega)) wR ?_|intro _);conv=>whnf));first|exact pS|exact pL|exact pE))|(refine zW ?_ ?_;exact gA)|refine zH rfl ?_|refine zA ?_|refine zI bA ?_|refine zI rfl ?_|refine sB ?_|(refine zO ?_ ?_ ?_;omega;omega)|(refine zP ?_ ?_ ?_;omega;omega)|refine zM rfl ?_|(refine zQ ?_ ?_ ?_;omega;omega)|(refine zR ?_ ?_;omega)|(refine zI ?_ ?_;exact nA)|refine sS ?_|refine pC (FewAll_c u.consts 2000 (by omega) (by omega)) wR ?_|refine sE ?_|refine n0 ?_|refine sD ?_|intro _|refine zG ?_);conv=>whnf)|(refine zX (fun hc => ?_) (fun hc => ?_)<;>(try simp only [SY] at hc)<;>first|omega|(conv=>whnf)))
  ·have hjc : j < u.procs[i].code.length := by omega
   rw [drop_at hjc, List.any_cons, decide_eq_true (by omega : (u.procs[i].code[j].l.length : Int) > 60), Bool.true_or] at hja
   rw [if_pos hja] at he
   rw [he]
   exact PRet.pure (Wk.ff rfl)
  ·have hjc : j < u.procs[i].code.length := by omega
   rw [drop_at hjc, List.any_cons, decide_eq_false (by omega : ¬(u.procs[i].code[j].l.length : Int) > 60), Bool.false_or] at hja
   exact loopTo (j + 1) ⟨by omega, hja⟩ (by show u.procs[i].code.length - (j + 1) < u.procs[i].code.length - j; omega) wA
  ·rw [List.drop_of_length_le (by omega), List.any_nil] at hja
   rw [if_neg (by rw [hja]; simp), if_pos (by omega)] at he
   rw [he]
   exact PRet.pure (Wk.ff rfl)
  ·rw [List.drop_of_length_le (by omega), List.any_nil] at hja
   rw [if_neg (by rw [hja]; simp), if_neg (by omega)] at he
   exact loopTo (i + 1, k + u.procs[i].code.length) ⟨by show i + 1 ≤ _; omega, by dsimp only; omega, by dsimp only; omega, he⟩ (by show u.procs.length - (i + 1) < u.procs.length - i; omega) wA
 ·rw [List.drop_of_length_le (by omega), fewPs] at he
  rw [he]
  exact PRet.pure (Wk.tt rfl)
end Go.Cb
namespace Go.Cb
open Go.Proofs
set_option maxRecDepth 100000
set_option maxHeartbeats 4000000
theorem emitD_c (u : Unt) (hb : Lim u) : ACallP Tryz.prog 25 [.agg u.cells] (emitPV cwM u) := by
 have hrt := right19_c u (fun p hp x hx => by have := (hb.2 p hp).2 x hx; omega)
 by_cases hi : illB u = true
 ·rw [emitPV, emitR, if_pos hi]
  rw [hi] at hrt
  refine ACall.of_body tt_ok Tryz.func25 rfl rfl (n := 42) rfl rfl ?_
  conv => whnf
  repeat' (first|((first|((first|(apply zY;intro hg)|apply zZ);first|exact stA|exact stB|((conv=>whnf);(repeat ((first|(refine zW ?_ ?_;exact gA)|refine pC (hrt) wR ?_|refine zA ?_|refine zH rfl ?_|refine zB ?_|refine sG ?_|intro _);conv=>whnf));first|exact pS|exact pL|exact pE))|(refine zW ?_ ?_;exact gA)|refine zH rfl ?_|refine zA ?_|refine zI bA ?_|refine zI rfl ?_|refine sB ?_|(refine zO ?_ ?_ ?_;omega;omega)|(refine zP ?_ ?_ ?_;omega;omega)|refine zM rfl ?_|(refine zQ ?_ ?_ ?_;omega;omega)|(refine zR ?_ ?_;omega)|(refine zI ?_ ?_;exact nA)|refine sS ?_|refine pC (hrt) wR ?_|refine sF ?_|refine n0 ?_|refine sD ?_|intro _|refine zG ?_);conv=>whnf)|(refine zX (fun hc => ?_) (fun hc => ?_)<;>(try simp only [SY] at hc)<;>first|omega|(conv=>whnf)))
  exact PRet.pure (Wk.tup (.cons slI_nil (.cons (Wk.refl _) .nil)))
 ·rw [Bool.not_eq_true] at hi
  rw [emitPV, emitR, if_neg (by rw [hi]; simp)]
  rw [hi] at hrt
  have hpn := hb.1
  have hbz := bodyZ hi hb
  have hpc : ∀ (i : Nat) (h : i < u.procs.length), ACallP Tryz.prog 61 [.agg u.procs[i].cells] (slI (procW cwM u.procs[i])) := fun i h => proc19_c hi hb (List.getElem_mem h)
  refine ACall.of_body tt_ok Tryz.func25 rfl rfl (n := 42) rfl rfl ?_
  conv => whnf
  repeat' (first|((first|((first|(apply zY;intro hg)|apply zZ);first|exact stA|exact stB|((conv=>whnf);(repeat ((first|(refine zW ?_ ?_;exact gA)|refine pC (hrt) wR ?_|refine pC (hpc _ (by omega)) wR ?_|refine zA ?_|refine zH rfl ?_|refine zB ?_|refine sG ?_|intro _);conv=>whnf));first|exact pS|exact pL|exact pE))|(refine zW ?_ ?_;exact gA)|refine zH rfl ?_|refine zA ?_|refine zI bA ?_|refine zI rfl ?_|refine sB ?_|(refine zO ?_ ?_ ?_;omega;omega)|(refine zP ?_ ?_ ?_;omega;omega)|refine zM rfl ?_|(refine zQ ?_ ?_ ?_;omega;omega)|(refine zR ?_ ?_;omega)|(refine zI ?_ ?_;exact nA)|refine sS ?_|refine pC (hrt) wR ?_|refine pC (hpc _ (by omega)) wR ?_|refine sF ?_|refine n0 ?_|refine sD ?_|intro _|refine zG ?_);conv=>whnf)|(refine zX (fun hc => ?_) (fun hc => ?_)<;>(try simp only [SY] at hc)<;>first|omega|(conv=>whnf)))
  rename_i b1 _ th hth
  refine PLoop.ghost (Ghost.nil 1 3 _) ?_
  refine PLoop.over [4, 5, 6, 14, 15, 16, 17, 18, 19, 20, 21, 22, 23, 24, 25, 26, 27, 28, 29, 30, 31, 32, 33, 34, 35, 36, 37, 38] (fun x : Nat × (List Int × Tok) × (List Int × Tok) => [(4, .sl 1 (x.2.1.1.map (PV.int .i64)) (some x.2.1.2)), (5, .sl 1 (x.2.2.1.map (PV.int .i64)) (some x.2.2.2)), (6, .int .i64 x.1)]) (fun x => [.tok x.2.1.2, .tok x.2.2.2, .box b1 (unX u)])
   (fun x => x.1 ≤ u.procs.length ∧ x.2.1.2.e = 3 ∧ x.2.2.2.e = 3 ∧ x.2.1.1 ++ offW cwM u.procs.length (u.procs.drop x.1) x.2.2.1.length = headW cwM u.procs ∧ x.2.2.1 ++ bodyW cwM (u.procs.drop x.1) = bodyW cwM u.procs) (fun x => u.procs.length - x.1)
   (0, ([6516594, (u.procs.length : Int)], th), ([], nilTok 1 3)) ⟨Nat.zero_le _, hth, rfl, rfl, rfl⟩ wA ?_
  rintro ⟨i, ⟨h, th⟩, ⟨bd, tb⟩⟩ ⟨hi2, hth, htb, hh, hbb⟩
  dsimp only at hi2 hth htb hh hbb ⊢
  rcases Nat.lt_or_ge i u.procs.length with hip | hip
  ·rw [drop_at hip, offW] at hh
   rw [drop_at hip, bodyW, List.flatMap_cons, ← bodyW] at hbb
   have hbl := congrArg List.length hbb
   have hhl := congrArg List.length hh
   simp only [List.length_append, List.length_cons, List.length_nil, offW_len, headW] at hbl hhl
   conv => whnf
   repeat' (first|((first|((first|(apply zY;intro hg)|apply zZ);first|exact stA|exact stB|((conv=>whnf);(repeat ((first|(refine zW ?_ ?_;exact gA)|refine pC (hrt) wR ?_|refine pC (hpc _ (by omega)) wR ?_|refine zA ?_|refine zH rfl ?_|refine zB ?_|refine sG ?_|intro _);conv=>whnf));first|exact pS|exact pL|exact pE))|(refine zW ?_ ?_;exact gA)|refine zH rfl ?_|refine zA ?_|refine zI bA ?_|refine zI rfl ?_|refine sB ?_|(refine zO ?_ ?_ ?_;omega;omega)|(refine zP ?_ ?_ ?_;omega;omega)|refine zM rfl ?_|(refine zQ ?_ ?_ ?_;omega;omega)|(refine zR ?_ ?_;omega)|(refine zI ?_ ?_;exact nA)|refine sS ?_|refine pC (hrt) wR ?_|refine pC (hpc _ (by omega)) wR ?_|refine sF ?_|refine n0 ?_|refine sD ?_|intro _|refine zG ?_);conv=>whnf)|(refine zX (fun hc => ?_) (fun hc => ?_)<;>(try simp only [SY] at hc)<;>first|omega|(conv=>whnf)))
   rename_i th2 hth2 tb2 htb2
   exact loopTo (i + 1, (h ++ [2 + (u.procs.length : Int) + (bd.length : Int)], th2), (bd ++ procW cwM u.procs[i], tb2)) ⟨by show i + 1 ≤ _; omega, hth2, htb2, by dsimp only; rw [List.append_assoc, List.singleton_append, List.length_append, Int.natCast_add]; exact hh, by dsimp only; rw [List.append_assoc]; exact hbb⟩ (by show u.procs.length - (i + 1) < u.procs.length - i; omega) wA
  ·rw [List.drop_of_length_le hip] at hh hbb
   rw [offW, List.append_nil] at hh
   rw [bodyW, List.flatMap_nil, List.append_nil] at hbb
   have hhl := congrArg List.length hh
   have hbl := congrArg List.length hbb
   simp only [List.length_append, List.length_cons, List.length_nil, offW_len, headW] at hhl
   conv => whnf
   repeat' (first|((first|((first|(apply zY;intro hg)|apply zZ);first|exact stA|exact stB|((conv=>whnf);(repeat ((first|(refine zW ?_ ?_;exact gA)|refine pC (hrt) wR ?_|refine pC (hpc _ (by omega)) wR ?_|refine zA ?_|refine zH rfl ?_|refine zB ?_|refine sG ?_|intro _);conv=>whnf));first|exact pS|exact pL|exact pE))|(refine zW ?_ ?_;exact gA)|refine zH rfl ?_|refine zA ?_|refine zI bA ?_|refine zI rfl ?_|refine sB ?_|(refine zO ?_ ?_ ?_;omega;omega)|(refine zP ?_ ?_ ?_;omega;omega)|refine zM rfl ?_|(refine zQ ?_ ?_ ?_;omega;omega)|(refine zR ?_ ?_;omega)|(refine zI ?_ ?_;exact nA)|refine sS ?_|refine pC (hrt) wR ?_|refine pC (hpc _ (by omega)) wR ?_|refine sF ?_|refine n0 ?_|refine sD ?_|intro _|refine zG ?_);conv=>whnf)|(refine zX (fun hc => ?_) (fun hc => ?_)<;>(try simp only [SY] at hc)<;>first|omega|(conv=>whnf)))
   rw [← hh, ← hbb]
   exact PRet.pure (Wk.tup (.cons (Wk.tok _ _ _) (.cons (Wk.refl _) .nil)))
theorem emitEmits_c (u : Unt) : ACallP Tryz.prog 5 [.agg u.cells] (.bool true) := by
 have hf := few19_c u 200 (by omega) (by omega)
 by_cases hfw : fewU u 200 = true
 ·have hlim := fewU_lim hfw (by omega)
  rw [hfw] at hf
  have he := emitM_c u hlim
  have hd := emitD_c u hlim
  unfold emitPV at he hd
  refine ACall.of_body tt_ok Tryz.func5 rfl rfl (n := 34) rfl rfl ?_
  conv => whnf
  repeat' (first|((first|((first|(apply zY;intro hg)|apply zZ);first|exact stA|exact stB|((conv=>whnf);(repeat ((first|(refine zW ?_ ?_;exact gA)|refine pC (awake19_c) wR ?_|refine pC (hf) wR ?_|refine pC (he) wR ?_|refine pC (hd) wR ?_|refine pC (ints19_self (emitR cwM u).1) wR ?_|refine zA ?_|refine zH rfl ?_|refine zB ?_|refine sG ?_|intro _);conv=>whnf));first|exact pS|exact pL|exact pE))|(refine zW ?_ ?_;exact gA)|refine zH rfl ?_|refine zA ?_|refine zI bA ?_|refine zI rfl ?_|refine sB ?_|(refine zO ?_ ?_ ?_;omega;omega)|(refine zP ?_ ?_ ?_;omega;omega)|refine zM rfl ?_|(refine zQ ?_ ?_ ?_;omega;omega)|(refine zR ?_ ?_;omega)|(refine zI ?_ ?_;exact nA)|refine sS ?_|refine pC (awake19_c) wR ?_|refine pC (hf) wR ?_|refine pC (he) wR ?_|refine pC (hd) wR ?_|refine pC (ints19_self (emitR cwM u).1) wR ?_|refine sF ?_|refine n0 ?_|refine sD ?_|intro _|refine zG ?_);conv=>whnf)|(refine zX (fun hc => ?_) (fun hc => ?_)<;>(try simp only [SY] at hc)<;>first|omega|(conv=>whnf)))
  exact PRet.pure (Wk.bool (by simp))
 ·rw [Bool.not_eq_true] at hfw
  rw [hfw] at hf
  refine ACall.of_body tt_ok Tryz.func5 rfl rfl (n := 34) rfl rfl ?_
  conv => whnf
  repeat' (first|((first|((first|(apply zY;intro hg)|apply zZ);first|exact stA|exact stB|((conv=>whnf);(repeat ((first|(refine zW ?_ ?_;exact gA)|refine pC (awake19_c) wR ?_|refine pC (hf) wR ?_|refine zA ?_|refine zH rfl ?_|refine zB ?_|refine sG ?_|intro _);conv=>whnf));first|exact pS|exact pL|exact pE))|(refine zW ?_ ?_;exact gA)|refine zH rfl ?_|refine zA ?_|refine zI bA ?_|refine zI rfl ?_|refine sB ?_|(refine zO ?_ ?_ ?_;omega;omega)|(refine zP ?_ ?_ ?_;omega;omega)|refine zM rfl ?_|(refine zQ ?_ ?_ ?_;omega;omega)|(refine zR ?_ ?_;omega)|(refine zI ?_ ?_;exact nA)|refine sS ?_|refine pC (awake19_c) wR ?_|refine pC (hf) wR ?_|refine sF ?_|refine n0 ?_|refine sD ?_|intro _|refine zG ?_);conv=>whnf)|(refine zX (fun hc => ?_) (fun hc => ?_)<;>(try simp only [SY] at hc)<;>first|omega|(conv=>whnf)))
  exact PRet.pure (Wk.refl _)
end Go.Cb
namespace Go.Cb
open Go.RowKit (Below)
open Go.ChangeShapes
def Fz.of (w : World) : Fz := fun b o => w.cell? ⟨b, o, none⟩
theorem Sim.start (w : World) : Sim w (Fz.of w) [] w := ⟨Below.refl _ w, fun _ _ _ h => h, by simp, .nil⟩
theorem choose_list {α : Type} {p : Nat → α → Prop} : ∀ {n : Nat}, (∀ i, i < n → ∃ a, p i a) → ∃ l : List α, l.length = n ∧ ∀ i a, l[i]? = some a → p i a
 | 0, _ => ⟨[], rfl, by simp⟩
 | n + 1, h => by
  obtain ⟨l, h1, h2⟩ := choose_list (n := n) fun i hi => h i (by omega)
  obtain ⟨a, ha⟩ := h n (by omega)
  refine ⟨l ++ [a], by simp [h1], fun i b hb => ?_⟩
  by_cases hi : i < l.length
  ·rw [List.getElem?_append_left hi] at hb; exact h2 i b hb
  ·rw [List.getElem?_append_right (by omega)] at hb
   have h0 : i - l.length = 0 := by
    rcases Nat.eq_zero_or_pos (i - l.length) with h | h
    ·exact h
    ·rw [List.getElem?_eq_none (by simp; omega)] at hb; cases hb
   rw [h0] at hb
   simp at hb
   obtain rfl : i = n := by omega
   rwa [← hb]
section
variable {H : Type} {enc : TypeId × Value → H} {P : Program} {w : World} {UB : DataW H → Nat} {UBs : List (DataW H) → Nat}
structure Bulk (UB : DataW H → Nat) (UBs : List (DataW H) → Nat) : Prop where
 nil : UBs [] = 0
 cons : ∀ x l, UBs (x :: l) = UB x + UBs l
 agg : ∀ l, 1 + UBs l ≤ UB (.agg l)
 slice : ∀ l m, 1 + UBs l ≤ UB (.slice l m)
 str : ∀ s, s.length + 1 ≤ UB (.lit (.string s))
 pos : ∀ d, 1 ≤ UB d
def Rd {α : Type} (enc : TypeId × Value → H) (P : Program) (w : World) (UB : DataW H → Nat) (n : Nat) (t : TypeId) (cells : α → List PV) (bk : α → Nat) : Prop :=
 ∀ cs x, DataW.trod enc P w 0 (fun _ => true) true n t cs = some x → ∃ a : α, RepL (Fz.of w) (cells a) cs ∧ bk a ≤ UB x.1
theorem rd_int (hB : Bulk UB UBs) {t : TypeId} {k : IntKind} (ht : P.underlying t = some (.int k)) (n : Nat) : Rd enc P w UB n t (fun n : Int => [.int k n]) fun _ => 1 := by
 intro cs x h
 obtain ⟨m, rfl, rfl, _⟩ := DataW.trod_int ht h
 exact ⟨m, by simp only [RepL, Rep, and_true]; exact rfl, hB.pos _⟩
theorem rd_bool (hB : Bulk UB UBs) {t : TypeId} (ht : P.underlying t = some .bool) (n : Nat) : Rd enc P w UB n t (fun n : Bool => [.bool n]) fun _ => 1 := by
 intro cs x h
 obtain ⟨m, rfl, rfl⟩ := DataW.trod_bool ht h
 exact ⟨m, by simp only [RepL, Rep, and_true]; exact rfl, hB.pos _⟩
theorem rd_str (hB : Bulk UB UBs) {t : TypeId} (ht : P.underlying t = some .string) (n : Nat) : Rd enc P w UB n t (fun s : List UInt8 => [.str s]) fun s => s.length := by
 intro cs x h
 obtain ⟨s, rfl, rfl, hs⟩ := DataW.trod_string ht h
 refine ⟨s.data.toList, ?_, by have := hB.str s.data.toList; show s.data.toList.length ≤ UB (.lit (.string s.data.toList)); omega⟩
 have : s.data.toList.length ≤ 9223372036854775807 := by
  have h1 : s.data.toList.length = s.size := Array.length_toList
  have h2 : maxLen ≤ 9223372036854775807 := by simp only [maxLen]; omega
  omega
 exact RepL_cons.2 ⟨⟨rfl, by unfold Rep; exact ⟨rfl, this⟩⟩, RepL_nil _⟩
theorem rep_row {α : Type} {pv : α → PV} {cells : α → List PV} [c : CellsOf pv cells] {s b o : Nat} (hs : ∀ a, (cells a).length = s) : ∀ (l : List α) (i : Nat),
  (∀ j a, l[j]? = some a → ∃ cs, w.cells? 0 ((⟨b, o, none⟩ : Addr).add ((i + j) * s)) s = some cs ∧ RepL (Fz.of w) (cells a) cs) → RepRow (Fz.of w) s b (o + i * s) (l.map pv)
 | [], _, _ => by simp [RepRow]
 | a :: l, i, h => by
  rw [List.map_cons, RepRow_cons]
  obtain ⟨cs, h1, h2⟩ := h 0 a rfl
  obtain ⟨_, h3, h4⟩ := World.cells?_some h1
  refine ⟨⟨by rw [c.eq]; exact hs a, ?_⟩, ?_⟩
  ·rw [c.eq, RepCells_iff]
   refine ⟨cs, h2, fun j u hu => ?_⟩
   have hj : j < cs.length := by
    rcases Nat.lt_or_ge j cs.length with h | h
    ·exact h
    ·rw [List.getElem?_eq_none h] at hu; cases hu
   have := h4 j (by omega)
   rw [hu, Addr.add_lit, Addr.add_lit] at this
   simpa [Fz.of] using this
  ·have := rep_row (pv := pv) hs l (i + 1) fun j a ha => by
    have := h (j + 1) a (by simpa using ha)
    rwa [show i + (j + 1) = i + 1 + j by omega] at this
   rwa [show o + (i + 1) * s = o + i * s + s by rw [Nat.succ_mul]; omega] at this
def sumBk {α : Type} (bk : α → Nat) : List α → Nat
 | [] => 0
 | a :: l => bk a + sumBk bk l
theorem sumBk_le (hB : Bulk UB UBs) {α : Type} {bk : α → Nat} : ∀ (l : List α) (ds : List (DataW H)), l.length ≤ ds.length → (∀ (i : Nat) (a : α) (d : DataW H), l[i]? = some a → ds[i]? = some d → bk a ≤ UB d) → sumBk bk l ≤ UBs ds
 | [], _, _, _ => by simp [sumBk]
 | a :: l, [], h, _ => by simp at h
 | a :: l, d :: ds, h, k => by
  rw [sumBk, hB.cons]
  have h1 := k 0 a d rfl rfl
  have h2 := sumBk_le hB l ds (by simpa using h) fun i a d ha hd => k (i + 1) a d (by simpa using ha) (by simpa using hd)
  omega
theorem rd_slice (hB : Bulk UB UBs) {n : Nat} {t e : TypeId} (ht : P.underlying t = some (.slice e)) {s : Nat} (hs : P.cellsOf e = s) (hp : 0 < s) {α : Type} {pv : α → PV} {cells : α → List PV} [c : CellsOf pv cells] {bk : α → Nat}
  (hc : ∀ a, (cells a).length = s) (he : ∀ m, m < n → Rd enc P w UB m e cells bk) : Rd enc P w UB n t (fun l : List α => [.sl s (l.map pv) none]) fun l => 1 + sumBk bk l := by
 intro cs x h
 rcases DataW.trod_slice ht h with ⟨rfl, rfl⟩ | ⟨a, len, cap, elems, rest, m, rfl, rfl, rfl, _, hlc, hcm, hel, hx, hr, _⟩
 ·refine ⟨[], ?_, by have := hB.pos (DataW.nil : DataW H); simpa [sumBk] using this⟩
  exact RepL_cons.2 ⟨⟨rfl, by unfold Rep; exact ⟨by simp, .inl ⟨rfl, rfl⟩⟩⟩, RepL_nil _⟩
 ·have hx' : ∀ i, i < len → ∃ a' : α, ∃ cs d, elems[i]? = some d ∧ w.cells? 0 (a.add (i * s)) s = some cs ∧ RepL (Fz.of w) (cells a') cs ∧ bk a' ≤ UB d.1 := by
   intro i hi
   have h1 := hx i hi
   have h2 : elems[i]? = some elems[i] := List.getElem?_eq_getElem (by omega)
   rw [h2, hs] at h1
   obtain ⟨cs, h3, h4⟩ := Option.bind_eq_some_iff.1 h1
   obtain ⟨a', h5, h6⟩ := he m (by omega) cs _ h4
   exact ⟨a', cs, _, h2, h3, h5, h6⟩
  obtain ⟨l, hl, hl2⟩ := choose_list hx'
  have hcount : 1 + sumBk bk l ≤ UB (.slice (elems.map (·.1)) (rest.map (·.1))) := by
   have := sumBk_le hB (bk := bk) l (elems.map (·.1)) (by simp; omega) (by
    intro i a' d ha hd
    obtain ⟨_, d', h2, _, _, h5⟩ := hl2 i a' ha
    rw [List.getElem?_map, h2] at hd
    simp at hd
    rw [← hd]; exact h5)
   have := hB.slice (elems.map (·.1)) (rest.map (·.1))
   omega
  refine ⟨l, ?_, hcount⟩
  refine RepL_cons.2 ⟨⟨rfl, ?_⟩, RepL_nil _⟩
  unfold Rep
  refine ⟨fun t ht => (by cases ht), ?_⟩
  by_cases h0 : cap = 0
  ·subst h0
   obtain rfl : len = 0 := by omega
   have : l = [] := List.eq_nil_of_length_eq_zero hl
   subst this
   exact .inr (.inr ⟨rfl, a, rfl⟩)
  ·
   have hsp : a.spot = none := by
    have h1 : ∃ cs, w.cells? 0 a s = some cs := by
     by_cases h2 : 0 < len
     ·obtain ⟨_, cs, _, _, h3, _⟩ := hx' 0 h2
      exact ⟨cs, by simpa [Addr.add] using h3⟩
     ·obtain ⟨h3, h4⟩ := hr rfl
      have h5 := h4 0 (by omega)
      have h6 : rest[0]? = some (rest[0]'(by omega)) := List.getElem?_eq_getElem (by omega)
      rw [h6, hs] at h5
      obtain ⟨cs, h7, _⟩ := Option.bind_eq_some_iff.1 h5
      have : len = 0 := by omega
      subst this
      exact ⟨cs, by simpa [Addr.add] using h7⟩
    obtain ⟨cs, h1⟩ := h1
    obtain ⟨_, h3, h4⟩ := World.cells?_some h1
    have h5 := h4 0 hp
    have h6 : cs[0]? = some (cs[0]'(by omega)) := List.getElem?_eq_getElem (by omega)
    rw [h6] at h5
    simp only [Addr.add, if_true, World.cell?] at h5
    split at h5
    ·split at h5
     ·cases h5
     ·rename_i hn; simpa using hn
    ·cases h5
   obtain ⟨b, o, sp⟩ := a
   simp only at hsp
   subst hsp
   refine .inr (.inl ⟨b, o, cap, by simp [hl], by simp; omega, hcm, by simp, ?_⟩)
   have := rep_row (pv := pv) (w := w) (b := b) (o := o) hc l 0 fun j a' ha => by
    obtain ⟨cs, _, _, h3, h4, _⟩ := hl2 j a' ha
    exact ⟨cs, by simpa using h3, h4⟩
   simpa using this
end
section
variable {H : Type} {enc : TypeId × Value → H} {P : Program} {w : World} {UB : DataW H → Nat} {UBs : List (DataW H) → Nat}
theorem repL_cat {F : Fz} {ps bs : List PV} {cs : List Value} {o s : Nat} (h1 : RepL F ps ((cs.drop o).take s)) (h2 : RepL F bs (cs.drop (o + s))) : RepL F (ps ++ bs) (cs.drop o) := by
 have := RepL_append h1 h2
 rwa [← List.drop_drop, List.take_append_drop] at this
theorem rd_field {α : Type} {n o s : Nat} {t : TypeId} {cells : α → List PV} {bk : α → Nat} (hR : Rd enc P w UB n t cells bk) {fs : Array Field} {cs : List Value} {xs : List (DataW H × List MemPlace)} (hlen : xs.length = fs.size)
  (hf : ∀ (i : Nat) (f : Field), fs[i]? = some f → DataW.trod enc P w 0 (fun _ => true) true n f.type ((cs.drop f.offset).take (P.cellsOf f.type)) = xs[i]?) (i : Nat) (h : (fs.toList.map fun f => (f.type, f.offset))[i]? = some (t, o)) (hs : P.cellsOf t = s) :
  ∃ a y, xs[i]? = some y ∧ RepL (Fz.of w) (cells a) ((cs.drop o).take s) ∧ bk a ≤ UB y.1 := by
 rw [List.getElem?_map] at h
 obtain ⟨f, hfi, hft⟩ := Option.map_eq_some_iff.1 h
 rw [Array.getElem?_toList] at hfi
 simp only [Prod.mk.injEq] at hft
 obtain ⟨rfl, rfl⟩ := hft
 have h1 := hf i f hfi
 have hi : i < xs.length := by rw [hlen]; exact (Array.getElem?_eq_some_iff.1 hfi).1
 have h2 : xs[i]? = some xs[i] := List.getElem?_eq_getElem hi
 rw [h2] at h1
 obtain ⟨a, h3, h4⟩ := hR _ _ h1
 exact ⟨a, _, h2, by rw [← hs]; exact h3, h4⟩
theorem arg_struct {α : Type} {t : TypeId} {cells : α → List PV} {bk : α → Nat} {fs : Array Field} (hs : P.underlying t = some (.struct fs)) (hR : ∀ n, Rd enc P w UB n t cells bk) {r : Reach} {b0 : Nat} {v : Value} {d : DataW H} {p : List MemPlace}
  (hv : Value.okWide P w r b0 t v) (h : DataW.Trod enc P w 0 (fun _ => true) true t v d p) : ∃ a, Rep (Fz.of w) (.agg (cells a)) v ∧ bk a ≤ UB d := by
 obtain ⟨cs, rfl, _⟩ := Go.WideShapes.okWide_struct hs hv
 obtain ⟨fuel, hf⟩ := h
 obtain ⟨a, h1, h2⟩ := hR fuel _ _ hf
 refine ⟨a, ?_, h2⟩
 simp only [Rep]
 exact ⟨cs.toList, by simp, by simpa [Value.cells] using h1⟩
theorem trodAll_below (hl : laidOutB P = true) {W W' : World} (hb : Below W.heap.size W W') : ∀ {ts : List TypeId} {vs : List Value} {ds : List (DataW H)} {ps : List MemPlace}, (∀ t ∈ ts, P.readableRec t = true ∧ t < P.types.size) →
  DataW.TrodAll enc P W 0 (fun _ => true) true ts vs ds ps → (∀ x ∈ ps, x.block < W.heap.size) → DataW.TrodAll enc P W' 0 (fun b => decide (b < W.heap.size)) true ts vs ds ps
 | [], _, _, _, _, h, _ => by
  obtain ⟨rfl, rfl, rfl⟩ := trodAll_nil h
  exact trodAll_mk0
 | t :: ts, _, _, _, hr, h, hlt => by
  obtain ⟨v, vs, d, ds, p, q, rfl, rfl, rfl, h1, h2⟩ := trodAll_cons h
  exact trodAll_cons_mk (Go.RowKit.Below.trod hl (hr t (by simp)).1 (hr t (by simp)).2 h1 hb fun x hx => hlt x (by simp [hx])) (trodAll_below hl hb (fun t ht => hr t (by simp [ht])) h2 fun x hx => hlt x (by simp [hx]))
theorem trodAll_len {spare : Nat → Bool} {base : Nat} {held : Bool} : ∀ {ts : List TypeId} {vs : List Value} {ds : List (DataW H)} {ps : List MemPlace}, DataW.TrodAll enc P w base spare held ts vs ds ps → ds.length = ts.length
 | [], _, _, _, h => by obtain ⟨rfl, rfl, rfl⟩ := trodAll_nil h; rfl
 | t :: ts, _, _, _, h => by
  obtain ⟨v, vs, d, ds, p, q, rfl, rfl, rfl, h1, h2⟩ := trodAll_cons h
  simp [trodAll_len h2]
theorem law_post {f : Func} {s : ChangeSpec} {tb : TypeId} {W W' : World} {args : Array Value} {ds gs : List (DataW H)} {before : List MemPlace} (hl : laidOutB P = true) (hr : ∀ t ∈ f.params.toList, P.readableRec t = true ∧ t < P.types.size)
  (hres : f.resultTypes = #[tb]) (hb : P.underlying tb = some .bool) (hv : s.vars = []) (hfn : ∀ ds : List (DataW H), ds.length = f.params.size → s.fn H ds = { results := [.lit (.bool true)], args := ds })
  (hW : DataW.Whole enc P f.params.toList s.vars false W args.toList ds gs before) (hbel : Below W.heap.size W W') : s.post enc P f false true false false W args (.bool true) W' := by
 have hW' := hW
 obtain ⟨p, q, hA, hV, rfl, _, _⟩ := hW
 have hV0 : DataW.TrodVars enc P W (fun _ => true) [] gs q := by rw [← hv]; exact hV
 obtain ⟨rfl, rfl⟩ := trodVars_none hV0
 have hfn' := hfn (ds ++ []) (by rw [List.append_nil, trodAll_len hA]; simp)
 refine ⟨ds, [], p ++ [], [], p, [], hW', ?_, ?_, ?_, hbel.frame _, fun h => by cases h⟩
 ·rw [hfn', hres]
  exact trodAll_mk1 (Go.RowKit.shut_bool hb _)
 ·rw [hfn', List.append_nil]
  exact trodAll_below hl hbel hr hA fun x hx => hW'.lt x (by simp [hx])
 ·rw [hfn', hv]; rfl
end
theorem sumBk_datum : ∀ l : List Datum, sumBk Datum.bulk l = Datum.bulks l
 | [] => rfl
 | x :: l => by rw [sumBk, Datum.bulks, sumBk_datum l]
theorem sumBk_one {α : Type} : ∀ l : List α, sumBk (fun _ => 1) l = l.length
 | [] => rfl
 | x :: l => by rw [sumBk, sumBk_one l, List.length_cons]; omega
section
variable {H : Type} {enc : TypeId × Value → H} {P : Program} {w : World} {UB : DataW H → Nat} {UBs : List (DataW H) → Nat}
theorem repL_end {F : Fz} {cs : List Value} {n : Nat} (h : cs.length = n) : RepL F [] (cs.drop n) := by
 rw [List.drop_of_length_le (by omega)]; exact RepL_nil F
theorem rd_datum (hB : Bulk UB UBs) {tI tS tL tD : TypeId} (hI : P.underlying tI = some (.int .i64)) (hS : P.underlying tS = some .string) (hL : P.underlying tL = some (.slice tD)) {fs : Array Field} (hD : P.underlying tD = some (.struct fs))
  (hfs : (fs.toList.map fun f => (f.type, f.offset)) = [(tI, 0), (tI, 1), (tI, 2), (tS, 3), (tL, 4)]) (cI : P.cellsOf tI = 1) (cS : P.cellsOf tS = 1) (cL : P.cellsOf tL = 1) (cD : P.cellsOf tD = 5) : ∀ n, Rd enc P w UB n tD Datum.cells Datum.bulk := by
 intro n
 induction n using Nat.strongRecOn with
 | ind n ih =>
  intro cs x h
  obtain ⟨xs, m, rfl, rfl, hl, hlen, hf⟩ := DataW.trod_struct hD h
  obtain ⟨a0, y0, e0, r0, _⟩ := rd_field (rd_int (w := w) (enc := enc) hB hI m) hlen hf 0 (by rw [hfs]; rfl) cI
  obtain ⟨a1, y1, e1, r1, _⟩ := rd_field (rd_int (w := w) (enc := enc) hB hI m) hlen hf 1 (by rw [hfs]; rfl) cI
  obtain ⟨a2, y2, e2, r2, _⟩ := rd_field (rd_int (w := w) (enc := enc) hB hI m) hlen hf 2 (by rw [hfs]; rfl) cI
  obtain ⟨a3, y3, e3, r3, b3⟩ := rd_field (rd_str (w := w) (enc := enc) hB hS m) hlen hf 3 (by rw [hfs]; rfl) cS
  obtain ⟨a4, y4, e4, r4, b4⟩ := rd_field (rd_slice (pv := Datum.pv) hB hL cD (by omega) (fun a => rfl) (fun k hk => ih k (by omega))) hlen hf 4 (by rw [hfs]; rfl) cL
  refine ⟨.mk a0 a1 a2 a3 a4, ?_, ?_⟩
  ·exact repL_cat r0 (repL_cat r1 (repL_cat r2 (repL_cat r3 (repL_cat r4 (repL_end (hl.trans cD))))))
  ·have h5 : xs.length = 5 := by
    have := congrArg List.length hfs
    simp at this; omega
   match xs, h5 with
   | [z0, z1, z2, z3, z4], _ =>
    simp at e3 e4
    subst e3 e4
    have := hB.agg ([z0, z1, z2, z3, z4].map (·.1))
    simp only [List.map_cons, List.map_nil, hB.cons, hB.nil] at this
    rw [sumBk_datum] at b4
    rw [Datum.bulk_eq]
    show 1 + a3.length + Datum.bulks a4 ≤ _
    simp only [List.map_cons, List.map_nil]
    omega
theorem rd_ints (hB : Bulk UB UBs) {tI tV : TypeId} (hI : P.underlying tI = some (.int .i64)) (hV : P.underlying tV = some (.slice tI)) (cI : P.cellsOf tI = 1) (n : Nat) : Rd enc P w UB n tV (fun l : List Int => [.sl 1 (l.map (PV.int .i64)) none]) fun l => 1 + l.length := by
 intro cs x h
 obtain ⟨a, h1, h2⟩ := rd_slice (pv := PV.int .i64) hB hV cI (by omega) (fun a => rfl) (fun k hk => rd_int (w := w) (enc := enc) hB hI k) cs x h
 exact ⟨a, h1, by have := sumBk_one a; show 1 + a.length ≤ _; have h3 : 1 + sumBk (fun _ => 1) a ≤ UB x.1 := h2; omega⟩
end
end Go.Cb
namespace Go.Cb
open Go.Proofs Go.Proofs.YtklpioocdgfbmaaGreatDoor
open Go.RowKit (Below)
theorem uptoOne {H : Type} (d : DataW H) : 1 ≤ Rows.uptoBulk d := by
 cases d with
 | lit l => cases l <;> simp [Rows.uptoBulk]
 | nil => simp [Rows.uptoBulk]
 | ptr d => simp [Rows.uptoBulk]
 | slice elems spare => simp [Rows.uptoBulk]
 | agg parts => simp [Rows.uptoBulk]
 | iface t d => simp [Rows.uptoBulk]
 | map entries => simp [Rows.uptoBulk]
 | held h => simp [Rows.uptoBulk]
theorem bulkR {H : Type} : Bulk (H := H) Rows.uptoBulk Rows.uptoBulkAll where
 nil := by simp [Rows.uptoBulkAll]
 cons x l := by simp [Rows.uptoBulkAll]
 agg l := by simp [Rows.uptoBulk]; omega
 slice l m := by simp [Rows.uptoBulk]; omega
 str s := by simp [Rows.uptoBulk]
 pos d := uptoOne d
section
variable {H : Type} {enc : TypeId × Value → H} {w : World}
theorem cInt : Tryz.prog.cellsOf 3 = 1 := by kernel_rfl
theorem cStr : Tryz.prog.cellsOf 9 = 1 := by kernel_rfl
theorem cBool : Tryz.prog.cellsOf 4 = 1 := by kernel_rfl
theorem cInts : Tryz.prog.cellsOf 23 = 1 := by kernel_rfl
theorem cDs : Tryz.prog.cellsOf 22 = 1 := by kernel_rfl
theorem cD : Tryz.prog.cellsOf 70 = 5 := by kernel_rfl
theorem rdD (n : Nat) : Rd enc Tryz.prog w Rows.uptoBulk n 70 Datum.cells Datum.bulk :=
 rd_datum bulkR Tryz.underlying3 Tryz.underlying9 Tryz.underlying22 Tryz.underlying70 rfl cInt cStr cDs cD n
theorem rdDs (n : Nat) : Rd enc Tryz.prog w Rows.uptoBulk n 22 (fun l : List Datum => [.sl 5 (l.map Datum.pv) none]) fun l => 1 + Datum.bulks l := by
 intro cs x h
 obtain ⟨a, h1, h2⟩ := rd_slice (pv := Datum.pv) bulkR Tryz.underlying22 cD (by omega) (fun a => rfl) (fun k hk => rdD (w := w) (enc := enc) k) cs x h
 have h3 : 1 + sumBk Datum.bulk a ≤ Rows.uptoBulk x.1 := h2
 rw [sumBk_datum] at h3
 exact ⟨a, h1, h3⟩
def Prog.bulk (p : Prog) : Nat := Datum.bulks p.consts + p.body.bulk
theorem okT : Tryz.prog.readableRec 26 = true ∧ 26 < Tryz.prog.types.size := ⟨by kernel_rfl, of_decide_eq_true (by kernel_rfl)⟩
theorem calls_true {f : FuncId} {args : List PV} {vs : List Value} {W : World} (h : ACallP Tryz.prog f args (.bool true)) (hr : RepT (Fz.of W) args vs) : Calls Tryz.prog f vs.toArray W fun e W' => e = .returned (.bool true) ∧ Below W.heap.size W W' := by
 refine (h.2 W (Fz.of W) [] W vs (Sim.start W) hr).mono ?_
 rintro e W' ⟨v, F', y, Γ', rfl, _, hS, hR, rfl⟩
 exact ⟨by rw [show v = .bool true by simpa only [Rep] using hR], hS.below⟩
end
end Go.Cb
namespace Go.Cb
open Go.Proofs Go.Proofs.YtklpioocdgfbmaaGreatDoor
open Go.RowKit (Below)
section
variable {H : Type} {enc : TypeId × Value → H} {w : World}
end
end Go.Cb
namespace Go.Cb
open Go.Proofs Go.Proofs.YtklpioocdgfbmaaGreatDoor
section
variable {H : Type} {enc : TypeId × Value → H} {w : World}
instance : CellsOf slI (fun l => [slI l]) := ⟨fun _ => rfl⟩
theorem cU : Tryz.prog.cellsOf 45 = 2 := by kernel_rfl
theorem cPr : Tryz.prog.cellsOf 57 = 5 := by kernel_rfl
theorem cPrs : Tryz.prog.cellsOf 39 = 1 := by kernel_rfl
theorem cIn : Tryz.prog.cellsOf 59 = 5 := by kernel_rfl
theorem cIns : Tryz.prog.cellsOf 54 = 1 := by kernel_rfl
theorem cII : Tryz.prog.cellsOf 55 = 1 := by kernel_rfl
def Ins.bulk (x : Ins) : Nat := x.l.length
theorem rdIn (n : Nat) : Rd enc Tryz.prog w Rows.uptoBulk n 59 Ins.cells Ins.bulk := by
 intro cs x h
 obtain ⟨xs, m, rfl, rfl, hl, hlen, hf⟩ := DataW.trod_struct Tryz.underlying59 h
 obtain ⟨a0, y0, e0, r0, b0⟩ := rd_field (rd_int (w := w) (enc := enc) bulkR Tryz.underlying3 m) hlen hf 0 rfl cInt
 obtain ⟨a1, y1, e1, r1, b1⟩ := rd_field (rd_int (w := w) (enc := enc) bulkR Tryz.underlying3 m) hlen hf 1 rfl cInt
 obtain ⟨a2, y2, e2, r2, b2⟩ := rd_field (rd_int (w := w) (enc := enc) bulkR Tryz.underlying3 m) hlen hf 2 rfl cInt
 obtain ⟨a3, y3, e3, r3, b3⟩ := rd_field (rd_int (w := w) (enc := enc) bulkR Tryz.underlying3 m) hlen hf 3 rfl cInt
 obtain ⟨a4, y4, e4, r4, b4⟩ := rd_field (rd_ints (w := w) (enc := enc) bulkR Tryz.underlying3 Tryz.underlying23 cInt m) hlen hf 4 rfl cInts
 refine ⟨⟨a0, a1, a2, a3, a4⟩, ?_, ?_⟩
 ·have := repL_cat r0 (repL_cat r1 (repL_cat r2 (repL_cat r3 (repL_cat r4 (repL_end (hl.trans cIn))))))
  rwa [List.append_nil] at this
 ·match xs, hlen with
  | [z0, z1, z2, z3, z4], _ =>
   simp at e4
   subst e4
   have := (bulkR (H := H)).agg ([z0, z1, z2, z3, z4].map (·.1))
   simp only [List.map_cons, List.map_nil, (bulkR (H := H)).cons, (bulkR (H := H)).nil] at this
   show a4.length ≤ _
   simp only [List.map_cons, List.map_nil]
   omega
theorem rdIns (n : Nat) : Rd enc Tryz.prog w Rows.uptoBulk n 54 (fun l : List Ins => [.sl 5 (l.map Ins.pv) none]) fun l => 1 + sumBk Ins.bulk l :=
 rd_slice (pv := Ins.pv) bulkR Tryz.underlying54 cIn (by omega) (fun a => rfl) (fun k hk => rdIn (w := w) (enc := enc) k)
theorem rdII (n : Nat) : Rd enc Tryz.prog w Rows.uptoBulk n 55 (fun l : List (List Int) => [.sl 1 (l.map slI) none]) fun l => 1 + sumBk (fun a => 1 + a.length) l :=
 rd_slice (pv := slI) bulkR Tryz.underlying55 cInts (by omega) (fun a => rfl) (fun k hk => rd_ints (w := w) (enc := enc) bulkR Tryz.underlying3 Tryz.underlying23 cInt k)
theorem sumBk_len {α : Type} {bk : α → Nat} (h : ∀ a, 1 ≤ bk a) : ∀ l : List α, l.length ≤ sumBk bk l
 | [] => Nat.zero_le _
 | a :: l => by rw [sumBk, List.length_cons]; have := h a; have := sumBk_len h l; omega
theorem rdPr (n : Nat) : Rd enc Tryz.prog w Rows.uptoBulk n 57 Prc.cells fun _ => 1 := by
 intro cs x h
 obtain ⟨xs, m, rfl, rfl, hl, hlen, hf⟩ := DataW.trod_struct Tryz.underlying57 h
 obtain ⟨a0, y0, e0, r0, b0⟩ := rd_field (rd_int (w := w) (enc := enc) bulkR Tryz.underlying3 m) hlen hf 0 rfl cInt
 obtain ⟨a1, y1, e1, r1, b1⟩ := rd_field (rd_bool (w := w) (enc := enc) bulkR Tryz.underlying4 m) hlen hf 1 rfl cBool
 obtain ⟨a2, y2, e2, r2, b2⟩ := rd_field (rd_int (w := w) (enc := enc) bulkR Tryz.underlying3 m) hlen hf 2 rfl cInt
 obtain ⟨a3, y3, e3, r3, b3⟩ := rd_field (rdIns (w := w) (enc := enc) m) hlen hf 3 rfl cIns
 obtain ⟨a4, y4, e4, r4, b4⟩ := rd_field (rdII (w := w) (enc := enc) m) hlen hf 4 rfl cII
 refine ⟨⟨a0, a1, a2, a3, a4⟩, ?_, bulkR.pos _⟩
 have := repL_cat r0 (repL_cat r1 (repL_cat r2 (repL_cat r3 (repL_cat r4 (repL_end (hl.trans cPr))))))
 rwa [List.append_nil] at this
theorem rdU (n : Nat) : Rd enc Tryz.prog w Rows.uptoBulk n 45 Unt.cells fun u => Datum.bulks u.consts + u.procs.length := by
 intro cs x h
 obtain ⟨xs, m, rfl, rfl, hl, hlen, hf⟩ := DataW.trod_struct Tryz.underlying45 h
 obtain ⟨a0, y0, e0, r0, b0⟩ := rd_field (rdDs (w := w) (enc := enc) m) hlen hf 0 rfl cDs
 obtain ⟨a1, y1, e1, r1, b1⟩ := rd_field (rd_slice (pv := Prc.pv) bulkR Tryz.underlying39 cPr (by omega) (fun a => rfl) (fun k hk => rdPr (w := w) (enc := enc) k)) hlen hf 1 rfl cPrs
 refine ⟨⟨a0, a1⟩, ?_, ?_⟩
 ·have := repL_cat r0 (repL_cat r1 (repL_end (hl.trans cU)))
  rwa [List.append_nil] at this
 ·match xs, hlen with
  | [z0, z1], _ =>
   simp at e0 e1
   subst e0 e1
   have := (bulkR (H := H)).agg ([z0, z1].map (·.1))
   simp only [List.map_cons, List.map_nil, (bulkR (H := H)).cons, (bulkR (H := H)).nil] at this
   have h1 : a1.length ≤ sumBk (fun _ : Prc => 1) a1 := sumBk_len (fun _ => Nat.le_refl _) a1
   show Datum.bulks a0 + a1.length ≤ _
   simp only [List.map_cons, List.map_nil]
   omega
theorem okU : Tryz.prog.readableRec 45 = true ∧ 45 < Tryz.prog.types.size := ⟨by kernel_rfl, of_decide_eq_true (by kernel_rfl)⟩
end
end Go.Cb
namespace Go.Cb
open Go.Proofs Go.Proofs.YtklpioocdgfbmaaGreatDoor
mutual
def cellsD : DataW Unit → List Value
 | .lit (.int k n) => [.int k n]
 | .lit (.bool b) => [.bool b]
 | .lit (.string s) => [.string ⟨s.toArray⟩]
 | .agg l => cellsDs l
 | _ => []
def cellsDs : List (DataW Unit) → List Value
 | [] => []
 | d :: l => cellsD d ++ cellsDs l
end
def newBlocks (e : TypeId) : List (String × DataW Unit) → List Obj
 | [] => []
 | (_, .iface _ (.ptr d)) :: l => .cells (cellsD d).toArray e :: newBlocks e l
 | _ :: l => newBlocks e l
def putCs (h : Array Obj) (g : Option Nat) (cs : Array Value) : Array Obj := match g with
 | some g => h.modify g fun
  | .cells _ t frozen => .cells cs t frozen
  | o => o
 | none => h
def layAll (P : Program) (p : TypeId) : List (String × DataW Unit) → Nat → Array Obj → Array Obj
 | [], _, h => h
 | (n, .iface _ _) :: l, k, h => layAll P p l (k + 1) (putCs h (P.globalNamed n) #[.iface p (.pointer (some ⟨k, 0, none⟩))])
 | (n, d) :: l, k, h => layAll P p l k (putCs h (P.globalNamed n) (cellsD d).toArray)
noncomputable def laidWorld (os : Os) : World :=
 let w0 := World.holding Tryz.prog os ⟨(newBlocks 327 Rows.closureConvertsRow.laid).toArray, #[], []⟩
 { w0 with heap := layAll Tryz.prog 325 Rows.closureConvertsRow.laid (World.settled Tryz.prog os).heap.size w0.heap }
theorem laid_met (os : Os) (args : Array Value) : laidMet Tryz.prog Rows.closureConvertsRow.laid ((laidWorld os).forCall (fun _ _ => 0) ⟨#[], args, []⟩).memory :=
 (LaidIn.of_run (l := Rows.closureConvertsRow.laid) (List.range 1000) 16 (by kernel_rfl) (by kernel_rfl) (by kernel_rfl) (by kernel_rfl)).met
theorem own_none : ownKnob Tryz.prog.godebug = none := by kernel_rfl
theorem laidOut : laidOutB Tryz.prog = true := by kernel_rfl
end Go.Cb

