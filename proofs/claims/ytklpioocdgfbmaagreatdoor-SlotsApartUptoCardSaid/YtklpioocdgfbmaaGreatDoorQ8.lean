/-
 Contracts: the document's check of a unit.
 Contracts: the document's check of an instruction.
 Contracts: the document's check of a unit is the program's.
 Contracts: what the document says is needed.
 Contracts: what instructions use, where they go; a set's registers.
 Contracts: what is alive behind instructions, the document's; whether a unit is sound.
 Contracts: slots, the document's: what fights, what is named, a number more.
 Contracts: a procedure's slots, the document's; an instruction with slots.
 Contracts: package slots: pairs, what an instruction gives, its registers changed.
 Contracts: the painter: a register gets a slot.
 Plain law: what is needed is what can be come to: the document's search, and equations of which it is the least answer.
 Plain law: the least answer of the equations, as words.
 Contracts: a procedure's slots, the document's.
 Plain law: the painter's slots are the document's.
 Contracts: a unit with slots, the document's.
-/
import Derived.Test.YtklpioocdgfbmaaGreatDoorQ7
set_option linter.unusedSimpArgs false
set_option linter.unusedVariables false
namespace Go.Cb
open Go.Proofs
set_option maxRecDepth 100000
set_option maxHeartbeats 4000000
theorem PAppend.lit {α : Type} {f : α → PV} {l m : List α} {es es2 : List PV} {s by_ : Nat} {e : TypeId} {tk : Option Tok} {t : Tok} {Γ : List Ent} {put : Tok → List Ent} [hp : PickTok Γ t put] [hl : RowOf f es l] [hm : RowOf f es2 m] {K : PV → List Ent → Prop} (hes : es = l.map f) (he : t.e = e)
  (hb : Nat.ble by_ 4096 = true) (h1 : l.length + m.length ≤ 34359738368)
  (k : ∀ t' : Tok, t'.e = e → K (.sl s ((l ++ m).map f) (some t')) (put t')) : PAppend s by_ e (.sl s es (some t)) (.sl s es2 tk) Γ K := by
 subst hes
 exact PAppend.more he hb h1 k
theorem named_c (x : Ins) (hl : x.l.length ≤ 1000000) : ACallP Tryz.prog 34 [.agg x.cells] (.tup [slI (namedL x), .int .i64 (givesI x)]) := by
 have h1 : namedL x = namedL x := rfl
 have h2 : givesI x = givesI x := rfl
 conv at h1 => rhs; unfold namedL
 conv at h2 => rhs; unfold givesI
 refine ACall.of_body tt_ok Tryz.func34 rfl rfl (n := 87) rfl rfl ?_
 conv => whnf
 repeat' (first|((first|((first|(apply zY;intro hg)|apply zZ);first|exact stA|exact stB)|(refine zW ?_ ?_;exact gA)|refine zH rfl ?_|refine zA ?_|refine zI bA ?_|refine zI rfl ?_|refine sB ?_|(refine zO ?_ ?_ ?_;omega;omega)|(refine zP ?_ ?_ ?_;omega;omega)|refine zM rfl ?_|(refine zQ ?_ ?_ ?_;omega;omega)|(refine zR ?_ ?_;omega)|(refine zI ?_ ?_;exact nA)|refine sS ?_|refine sE ?_|refine n0 ?_|refine sD ?_|intro _|refine zG ?_);conv=>whnf)|(refine zX (fun hc => ?_) (fun hc => ?_)<;>(try simp only [SY] at hc)<;>first|omega|(conv=>whnf)))
 all_goals first
  | (refine PAppend.lit (f := PV.int .i64) rfl (by assumption) rfl (by simp only [List.length_cons, List.length_nil]; omega) ?_; intro t9 ht9)
  | skip
 conv => whnf
 repeat' (first|((first|((first|(apply zY;intro hg)|apply zZ);first|exact stA|exact stB)|(refine zW ?_ ?_;exact gA)|refine zH rfl ?_|refine zA ?_|refine zI bA ?_|refine zI rfl ?_|refine sB ?_|(refine zO ?_ ?_ ?_;omega;omega)|(refine zP ?_ ?_ ?_;omega;omega)|refine zM rfl ?_|(refine zQ ?_ ?_ ?_;omega;omega)|(refine zR ?_ ?_;omega)|(refine zI ?_ ?_;exact nA)|refine sS ?_|refine sE ?_|refine n0 ?_|refine sD ?_|intro _|refine zG ?_);conv=>whnf)|(refine zX (fun hc => ?_) (fun hc => ?_)<;>(try simp only [SY] at hc)<;>first|omega|(conv=>whnf)))
 all_goals
  repeat (first|rw [if_neg (by omega)] at h1|rw [if_pos (by omega)] at h1)
  repeat (first|rw [if_neg (by omega)] at h2|rw [if_pos (by omega)] at h2)
  rw [h1, h2]
 all_goals first
  | exact PRet.pure (Wk.tup (.cons (Wk.tok _ _ _) (.cons (Wk.refl _) .nil)))
  | exact PRet.pure (Wk.tup (.cons (Wk.refl _) (.cons (Wk.refl _) .nil)))
  | exact PRet.pure (Wk.tup (.cons slI_nil (.cons (Wk.refl _) .nil)))
theorem bare14_c (x : Ins) (hl : x.l.length ≤ 1000000) : ACallP Tryz.prog 173 [.agg x.cells] (.bool (bareB x)) := by
 have hb : bareB x = bareB x := rfl
 conv at hb => rhs; unfold bareB
 generalize hg : givesI x = g at *
 have hn := named_c x hl
 rw [hg] at hn
 refine ACall.of_body tt_ok Tryz.func173 rfl rfl (n := 82) rfl rfl ?_
 conv => whnf
 repeat' (first|((first|((first|(apply zY;intro hg)|apply zZ);first|exact stA|exact stB|((conv=>whnf);(repeat ((first|(refine zW ?_ ?_;exact gA)|refine pC (hn) wR ?_|intro _);conv=>whnf));first|exact pS|exact pL|exact pE))|(refine zW ?_ ?_;exact gA)|refine zH rfl ?_|refine zA ?_|refine zI bA ?_|refine zI rfl ?_|refine sB ?_|(refine zO ?_ ?_ ?_;omega;omega)|(refine zP ?_ ?_ ?_;omega;omega)|refine zM rfl ?_|(refine zQ ?_ ?_ ?_;omega;omega)|(refine zR ?_ ?_;omega)|(refine zI ?_ ?_;exact nA)|refine sS ?_|refine pC (hn) wR ?_|refine sE ?_|refine n0 ?_|refine sD ?_|intro _|refine zG ?_);conv=>whnf)|(refine zX (fun hc => ?_) (fun hc => ?_)<;>(try simp only [SY] at hc)<;>first|omega|(conv=>whnf)))
 all_goals
  repeat (first|rw [if_neg (by omega)] at hb|rw [if_pos (by omega)] at hb)
  rw [hb]
 all_goals first
  | exact PRet.pure (Wk.ff rfl)
  | exact PRet.pure (Wk.refl _)
end Go.Cb
namespace Go.Cb
open Go.Proofs
set_option maxRecDepth 100000
set_option maxHeartbeats 4000000
theorem namedL_len (x : Ins) : (namedL x).length ≤ x.l.length + 2 := by
 unfold namedL
 repeat (first|(split; simp))
 simp
def insD14 (x : Ins) (p : Prc) (u : Unt) : Bool := preD x p.regs && fitN x p.code.length u.consts.length u.procs.length
theorem ins14_c (x : Ins) (p : Prc) (u : Unt) (hl : x.l.length ≤ 1000000) : ACallP Tryz.prog 122 [.agg x.cells, .agg p.cells, .agg u.cells] (.bool (insD14 x p u)) := by
 have hn : fitN x p.code.length u.consts.length u.procs.length = fitN x p.code.length u.consts.length u.procs.length := rfl
 conv at hn => rhs; unfold fitN
 have hp : preD x p.regs = preD x p.regs := rfl
 conv at hp => rhs; unfold preD
 have hnl := namedL_len x
 have hnm := named_c x hl
 have hbr := bare14_c x hl
 generalize hN : namedL x = nl at *
 generalize hG : givesI x = g at *
 generalize hB : bareB x = bb at *
 refine ACall.of_body tt_ok Tryz.func122 rfl rfl (n := 144) rfl rfl ?_
 conv => whnf
 repeat' (first|((first|((first|(apply zY;intro hg)|apply zZ);first|exact stA|exact stB|((conv=>whnf);(repeat ((first|(refine zW ?_ ?_;exact gA)|refine pC (hbr) wR ?_|refine pC (hnm) wR ?_|intro _);conv=>whnf));first|exact pS|exact pL|exact pE))|(refine zW ?_ ?_;exact gA)|refine zH rfl ?_|refine zA ?_|refine zI bA ?_|refine zI rfl ?_|refine sB ?_|(refine zO ?_ ?_ ?_;omega;omega)|(refine zP ?_ ?_ ?_;omega;omega)|refine zM rfl ?_|(refine zQ ?_ ?_ ?_;omega;omega)|(refine zR ?_ ?_;omega)|(refine zI ?_ ?_;exact nA)|refine sS ?_|refine pC (hbr) wR ?_|refine pC (hnm) wR ?_|refine sE ?_|refine n0 ?_|refine sD ?_|refine PDraw.sP (some 34) rfl [] [] tt_ok mixed ?_|intro _|refine zG ?_);conv=>whnf)|(refine zX (fun hc => ?_) (fun hc => ?_)<;>(try simp only [SY] at hc)<;>first|omega|(conv=>whnf)))
 ·rw [if_pos (by rcases hc with (h | h) | h; exact .inl h; exact .inr (.inl h); exact .inr (.inr h))] at hp
  rw [insD14, hp]
  exact PRet.pure (Wk.ff rfl)
 rw [if_neg (by rintro (h | h | h); omega; omega; rw [h] at hc; simp at hc)] at hp
 refine PLoop.keep [6, 9, 28, 29, 30, 31, 32, 33, 34, 35, 36, 37, 38, 39, 40, 41, 42, 43, 44, 45, 46, 47] (fun i : Nat => [(9, .int .i64 i)]) (fun i => i ≤ nl.length ∧ nl.any (outB p.regs) = (nl.drop i).any (outB p.regs)) (fun i => nl.length - i) 0 ⟨Nat.zero_le _, rfl⟩ wA ?_
 rintro i ⟨hi, he⟩
 conv => whnf
 repeat' (first|((first|((first|(apply zY;intro hg)|apply zZ);first|exact stA|exact stB|((conv=>whnf);(repeat ((first|(refine zW ?_ ?_;exact gA)|refine pC (hbr) wR ?_|refine pC (hnm) wR ?_|intro _);conv=>whnf));first|exact pS|exact pL|exact pE))|(refine zW ?_ ?_;exact gA)|refine zH rfl ?_|refine zA ?_|refine zI bA ?_|refine zI rfl ?_|refine sB ?_|(refine zO ?_ ?_ ?_;omega;omega)|(refine zP ?_ ?_ ?_;omega;omega)|refine zM rfl ?_|(refine zQ ?_ ?_ ?_;omega;omega)|(refine zR ?_ ?_;omega)|(refine zI ?_ ?_;exact nA)|refine sS ?_|refine pC (hbr) wR ?_|refine pC (hnm) wR ?_|refine sE ?_|refine n0 ?_|refine sD ?_|refine PDraw.sP (some 34) rfl [] [] tt_ok mixed ?_|intro _|refine zG ?_);conv=>whnf)|(refine zX (fun hc => ?_) (fun hc => ?_)<;>(try simp only [SY] at hc)<;>first|omega|(conv=>whnf)))
 ·have hil : i < nl.length := by omega
  have hb : outB p.regs nl[i] = true := by unfold outB; simp only [Bool.or_eq_true, decide_eq_true_eq]; omega
  rw [drop_at hil, List.any_cons, hb, Bool.true_or] at he
  rw [if_pos he] at hp
  rw [insD14, hp]
  exact PRet.pure (Wk.ff rfl)
 ·have hil : i < nl.length := by omega
  have hb : outB p.regs nl[i] = false := by unfold outB; simp only [Bool.or_eq_false_iff, decide_eq_false_iff_not]; omega
  rw [drop_at hil, List.any_cons, hb, Bool.false_or] at he
  exact loopTo (i + 1) ⟨by omega, he⟩ (by show nl.length - (i + 1) < nl.length - i; omega) wA
 all_goals
  have he2 : ¬nl.any (outB p.regs) = true := by rw [he, List.drop_of_length_le (by omega)]; simp
  rw [if_neg he2] at hp
 ·rw [if_pos (by omega)] at hp
  rw [insD14, hp]
  exact PRet.pure (Wk.ff rfl)
 all_goals
  rw [if_neg (by omega)] at hp
  repeat (first|rw [if_neg (by omega)] at hn|rw [if_pos (by omega)] at hn)
  have hB : insD14 x p u = fitN x p.code.length u.consts.length u.procs.length := by rw [insD14, hp]; exact Bool.true_and _
  rw [hB, hn]
  exact PRet.pure (by first | exact Wk.refl _ | exact Wk.tt rfl | exact Wk.bool (by rw [Bool.eq_iff_iff]; simp only [Bool.and_eq_true, decide_eq_true_eq]; omega))
end Go.Cb
namespace Go.Cb
open Go.Proofs
set_option maxRecDepth 100000
set_option maxHeartbeats 4000000
theorem check14_c (u : Unt) (hx : ∀ p ∈ u.procs, ∀ x ∈ p.code, x.l.length ≤ 1000000) : ACallP Tryz.prog 67 [.agg u.cells] (.int .i64 (chkU u)) := by
 have hins : ∀ (i k : Nat) (hi : i < u.procs.length) (hk : k < u.procs[i].code.length), ACallP Tryz.prog 122 [.agg u.procs[i].code[k].cells, .agg u.procs[i].cells, .agg u.cells] (.bool (insD14 u.procs[i].code[k] u.procs[i] u)) :=
  fun i k hi hk => ins14_c _ _ _ (hx _ (List.getElem_mem hi) _ (List.getElem_mem hk))
 refine ACall.of_body tt_ok Tryz.func67 rfl rfl (n := 125) rfl rfl ?_
 conv => whnf
 repeat' (first|((first|((first|(apply zY;intro hg)|apply zZ);first|exact stA|exact stB|((conv=>whnf);(repeat ((first|(refine zW ?_ ?_;exact gA)|refine pC (right2D_c _) wR ?_|refine pC (hins _ _ (by omega) (by omega)) wR ?_|intro _);conv=>whnf));first|exact pS|exact pL|exact pE))|(refine zW ?_ ?_;exact gA)|refine zH rfl ?_|refine zA ?_|refine zI bA ?_|refine zI rfl ?_|refine sB ?_|(refine zO ?_ ?_ ?_;omega;omega)|(refine zP ?_ ?_ ?_;omega;omega)|refine zM rfl ?_|(refine zQ ?_ ?_ ?_;omega;omega)|(refine zR ?_ ?_;omega)|(refine zI ?_ ?_;exact nA)|refine sS ?_|refine pC (right2D_c _) wR ?_|refine pC (hins _ _ (by omega) (by omega)) wR ?_|refine sE ?_|refine n0 ?_|refine sD ?_|refine PDraw.sP (some 116) rfl [] [] tt_ok mixed ?_|intro _|refine zG ?_);conv=>whnf)|(refine zX (fun hc => ?_) (fun hc => ?_)<;>(try simp only [SY] at hc)<;>first|omega|(conv=>whnf)))
 ·rw [show chkU u = 5 from if_pos (by simp only [Bool.or_eq_true, decide_eq_true_eq]; exact .inl hc)]
  exact PRet.pure (Wk.refl _)
 refine PLoop.keep [2, 3, 19, 20, 21, 22, 23, 24, 25, 26, 27, 28, 29, 30, 31, 32] (fun i : Nat => [(3, .int .i64 i)]) (fun i => i ≤ u.consts.length ∧ (u.consts.any fun d => !d.rightP 0) = (u.consts.drop i).any fun d => !d.rightP 0) (fun i => u.consts.length - i) 0 ⟨Nat.zero_le _, rfl⟩ wA ?_
 rintro i ⟨hi, he⟩
 conv => whnf
 repeat' (first|((first|((first|(apply zY;intro hg)|apply zZ);first|exact stA|exact stB|((conv=>whnf);(repeat ((first|(refine zW ?_ ?_;exact gA)|refine pC (right2D_c _) wR ?_|refine pC (hins _ _ (by omega) (by omega)) wR ?_|intro _);conv=>whnf));first|exact pS|exact pL|exact pE))|(refine zW ?_ ?_;exact gA)|refine zH rfl ?_|refine zA ?_|refine zI bA ?_|refine zI rfl ?_|refine sB ?_|(refine zO ?_ ?_ ?_;omega;omega)|(refine zP ?_ ?_ ?_;omega;omega)|refine zM rfl ?_|(refine zQ ?_ ?_ ?_;omega;omega)|(refine zR ?_ ?_;omega)|(refine zI ?_ ?_;exact nA)|refine sS ?_|refine pC (right2D_c _) wR ?_|refine pC (hins _ _ (by omega) (by omega)) wR ?_|refine sE ?_|refine n0 ?_|refine sD ?_|refine PDraw.sP (some 116) rfl [] [] tt_ok mixed ?_|intro _|refine zG ?_);conv=>whnf)|(refine zX (fun hc => ?_) (fun hc => ?_)<;>(try simp only [SY] at hc)<;>first|omega|(conv=>whnf)))
 ·have hil : i < u.consts.length := by omega
  rw [drop_at hil, List.any_cons, right_eq, hc, Bool.not_false, Bool.true_or] at he
  rw [show chkU u = 5 from if_pos (by rw [he, Bool.or_true])]
  exact PRet.pure (Wk.refl _)
 ·have hil : i < u.consts.length := by omega
  rw [drop_at hil, List.any_cons, right_eq, hc, Bool.not_true, Bool.false_or] at he
  exact loopTo (i + 1) ⟨by omega, he⟩ (by show u.consts.length - (i + 1) < u.consts.length - i; omega) wA
 rw [List.drop_of_length_le (by omega), List.any_nil] at he
 have h0 : chkU u = if chksU u u.procs 0 = true then 0 else 5 := by
  unfold chkU
  rw [if_neg]
  rw [he, Bool.or_false]
  simp only [Bool.or_eq_true, decide_eq_true_eq]
  omega
 refine PLoop.keep [2, 4, 5, 6, 7, 8, 33, 34, 35, 36, 37, 38, 39, 40, 41, 42, 43, 44, 45, 46, 47, 48, 49, 50, 51, 52, 53, 54, 55, 56, 57, 58, 59, 60, 61, 62, 63, 64, 65, 66, 67, 68, 69, 70, 71, 72, 73, 74, 75, 76, 77, 78, 79, 80, 81, 82, 83, 84, 85, 86, 87, 88, 89, 90, 91, 92, 93, 94, 95, 96, 97, 98, 99, 100, 101, 102, 103, 104, 105, 106, 107, 108, 109, 110, 111, 112, 113, 114, 115, 116, 117, 118, 119, 120, 121, 122, 123, 124] (fun x : Nat × Int => [(4, .int .i64 x.2), (5, .int .i64 x.1)]) (fun x => x.1 ≤ u.procs.length ∧ 0 ≤ x.2 ∧ x.2 ≤ 50000 ∧ chksU u u.procs 0 = chksU u (u.procs.drop x.1) x.2) (fun x => u.procs.length - x.1) (0, 0) ⟨Nat.zero_le _, by omega, by omega, by simp⟩ wA ?_
 rintro ⟨j, all⟩ ⟨hj, ha0, ha1, hk⟩
 dsimp only at hj ha0 ha1 hk ⊢
 conv => whnf
 repeat' (first|((first|((first|(apply zY;intro hg)|apply zZ);first|exact stA|exact stB|((conv=>whnf);(repeat ((first|(refine zW ?_ ?_;exact gA)|refine pC (right2D_c _) wR ?_|refine pC (hins _ _ (by omega) (by omega)) wR ?_|intro _);conv=>whnf));first|exact pS|exact pL|exact pE))|(refine zW ?_ ?_;exact gA)|refine zH rfl ?_|refine zA ?_|refine zI bA ?_|refine zI rfl ?_|refine sB ?_|(refine zO ?_ ?_ ?_;omega;omega)|(refine zP ?_ ?_ ?_;omega;omega)|refine zM rfl ?_|(refine zQ ?_ ?_ ?_;omega;omega)|(refine zR ?_ ?_;omega)|(refine zI ?_ ?_;exact nA)|refine sS ?_|refine pC (right2D_c _) wR ?_|refine pC (hins _ _ (by omega) (by omega)) wR ?_|refine sE ?_|refine n0 ?_|refine sD ?_|refine PDraw.sP (some 116) rfl [] [] tt_ok mixed ?_|intro _|refine zG ?_);conv=>whnf)|(refine zX (fun hc => ?_) (fun hc => ?_)<;>(try simp only [SY] at hc)<;>first|omega|(conv=>whnf)))
 ·have hip : j < u.procs.length := by omega
  have hh : headB u.procs[j] = true := by
   unfold headB
   simp only [Bool.or_eq_true, decide_eq_true_eq, Bool.and_eq_true, beq_iff_eq]
   exact hc
  rw [drop_at hip, chksU, if_pos hh] at hk
  rw [h0, hk]
  exact PRet.pure (Wk.refl _)
 ·have hip : j < u.procs.length := by omega
  have hh : ¬headB u.procs[j] = true := by
   rcases ‹_ ∧ ↑u.procs[j].code.length ≤ (50000 : Int)› with ⟨⟨⟨⟨⟨g1, g2⟩, g3⟩, g4⟩, g5⟩, g6⟩
   unfold headB
   simp only [Bool.or_eq_true, decide_eq_true_eq, Bool.and_eq_true, beq_iff_eq]
   rintro (((((h | h) | h) | ⟨h, k⟩) | h) | h)
   ·omega
   ·omega
   ·omega
   ·rcases g4 with g4 | g4
    ·rw [h] at g4; cases g4
    ·exact g4 k
   ·exact g5 h
   ·omega
  have hlo : lastOp u.procs[j] = (u.procs[j].code[u.procs[j].code.length - 1]'(by omega)).op := by unfold lastOp; rw [List.getD_eq_getElem?_getD, List.getElem?_eq_getElem (by omega)]; rfl
  rw [drop_at hip, chksU, if_neg hh, if_pos (by
   unfold endB
   rw [hlo]
   simp only [Bool.or_eq_true, decide_eq_true_eq, Bool.and_eq_true, bne_iff_ne]
   exact hc)] at hk
  rw [h0, hk]
  exact PRet.pure (Wk.refl _)
 ·have hip : j < u.procs.length := by omega
  have hh : ¬headB u.procs[j] = true := by
   rcases ‹_ ∧ ↑u.procs[j].code.length ≤ (50000 : Int)› with ⟨⟨⟨⟨⟨g1, g2⟩, g3⟩, g4⟩, g5⟩, g6⟩
   unfold headB
   simp only [Bool.or_eq_true, decide_eq_true_eq, Bool.and_eq_true, beq_iff_eq]
   rintro (((((h | h) | h) | ⟨h, k⟩) | h) | h)
   ·omega
   ·omega
   ·omega
   ·rcases g4 with g4 | g4
    ·rw [h] at g4; cases g4
    ·exact g4 k
   ·exact g5 h
   ·omega
  have hlo : lastOp u.procs[j] = (u.procs[j].code[u.procs[j].code.length - 1]'(by omega)).op := by unfold lastOp; rw [List.getD_eq_getElem?_getD, List.getElem?_eq_getElem (by omega)]; rfl
  rw [drop_at hip, chksU, if_neg hh, if_neg (by
   unfold endB
   rw [hlo]
   simp only [Bool.or_eq_true, decide_eq_true_eq, Bool.and_eq_true, bne_iff_ne]
   rintro (h | ⟨h, k⟩) <;> omega)] at hk
  have hrg : 0 ≤ u.procs[j].regs := by omega
  have hB : ∀ x, insD14 x u.procs[j] u = fitB x u.procs[j] u := fun x => by unfold insD14 fitB; rw [preD_fitA x _ hrg]
  refine PLoop.keep [2, 8, 109, 110, 111, 112, 113, 114, 115, 116, 117, 118, 119, 120, 121, 122, 123, 124] (fun k : Nat => [(8, .int .i64 k)]) (fun k => k ≤ u.procs[j].code.length ∧ (u.procs[j].code.any fun x => !fitB x u.procs[j] u) = (u.procs[j].code.drop k).any fun x => !fitB x u.procs[j] u) (fun k => u.procs[j].code.length - k) 0 ⟨Nat.zero_le _, rfl⟩ wA ?_
  rintro k ⟨hkl, hke⟩
  conv => whnf
  repeat' (first|((first|((first|(apply zY;intro hg)|apply zZ);first|exact stA|exact stB|((conv=>whnf);(repeat ((first|(refine zW ?_ ?_;exact gA)|refine pC (right2D_c _) wR ?_|refine pC (hins _ _ (by omega) (by omega)) wR ?_|intro _);conv=>whnf));first|exact pS|exact pL|exact pE))|(refine zW ?_ ?_;exact gA)|refine zH rfl ?_|refine zA ?_|refine zI bA ?_|refine zI rfl ?_|refine sB ?_|(refine zO ?_ ?_ ?_;omega;omega)|(refine zP ?_ ?_ ?_;omega;omega)|refine zM rfl ?_|(refine zQ ?_ ?_ ?_;omega;omega)|(refine zR ?_ ?_;omega)|(refine zI ?_ ?_;exact nA)|refine sS ?_|refine pC (right2D_c _) wR ?_|refine pC (hins _ _ (by omega) (by omega)) wR ?_|refine sE ?_|refine n0 ?_|refine sD ?_|refine PDraw.sP (some 116) rfl [] [] tt_ok mixed ?_|intro _|refine zG ?_);conv=>whnf)|(refine zX (fun hc => ?_) (fun hc => ?_)<;>(try simp only [SY] at hc)<;>first|omega|(conv=>whnf)))
  ·have hkc : k < u.procs[j].code.length := by omega
   rw [hB] at hc
   rw [drop_at hkc, List.any_cons, hc, Bool.not_false, Bool.true_or] at hke
   rw [if_pos hke] at hk
   rw [h0, hk]
   exact PRet.pure (Wk.refl _)
  ·have hkc : k < u.procs[j].code.length := by omega
   rw [hB] at hc
   rw [drop_at hkc, List.any_cons, hc, Bool.not_true, Bool.false_or] at hke
   exact loopTo (k + 1) ⟨by omega, hke⟩ (by show u.procs[j].code.length - (k + 1) < u.procs[j].code.length - k; omega) wA
  ·rw [List.drop_of_length_le (by omega), List.any_nil] at hke
   rw [if_neg (by rw [hke]; simp)] at hk
   exact loopTo (j + 1, all + u.procs[j].code.length) ⟨by show j + 1 ≤ _; omega, by dsimp only; omega, by dsimp only; omega, hk⟩ (by show u.procs.length - (j + 1) < u.procs.length - j; omega) wA
 ·rw [List.drop_of_length_le (by omega), chksU] at hk
  rw [h0, hk]
  exact PRet.pure (Wk.refl _)
end Go.Cb
namespace Go.Cb
open Go.Proofs
set_option maxRecDepth 100000
set_option maxHeartbeats 4000000
theorem next16_c (p : Prc) (k : Nat) (hk : k < p.code.length) (h1 : p.code.length ≤ 1000000) : ACallP Tryz.prog 69 [.agg p.cells, .int .i64 k] (slI (nxtL p.code[k] k)) := by
 have hn : nxtL p.code[k] k = nxtL p.code[k] k := rfl
 conv at hn => rhs; unfold nxtL
 refine ACall.of_body tt_ok Tryz.func69 rfl rfl (n := 42) rfl rfl ?_
 conv => whnf
 repeat' (first|((first|((first|(apply zY;intro hg)|apply zZ);first|exact stA|exact stB|exact stC)|(refine zW ?_ ?_;exact gA)|refine zH rfl ?_|refine zA ?_|refine zI bA ?_|refine zI rfl ?_|refine sB ?_|(refine zO ?_ ?_ ?_;omega;omega)|(refine zP ?_ ?_ ?_;omega;omega)|refine zM rfl ?_|(refine zQ ?_ ?_ ?_;omega;omega)|(refine zR ?_ ?_;omega)|(refine zI ?_ ?_;exact nA)|refine sS ?_|refine sF ?_|refine n0 ?_|refine sD ?_|intro _|refine zG ?_);conv=>whnf)|(refine zX (fun hc => ?_) (fun hc => ?_)<;>(try simp only [SY] at hc)<;>first|omega|(conv=>whnf)))
 all_goals first
  | (refine PAppend.lit (f := PV.int .i64) rfl (by assumption) rfl (by simp only [List.length_cons, List.length_nil]; omega) ?_; intro t9 ht9)
  | skip
 conv => whnf
 repeat' (first|((first|((first|(apply zY;intro hg)|apply zZ);first|exact stA|exact stB|exact stC)|(refine zW ?_ ?_;exact gA)|refine zH rfl ?_|refine zA ?_|refine zI bA ?_|refine zI rfl ?_|refine sB ?_|(refine zO ?_ ?_ ?_;omega;omega)|(refine zP ?_ ?_ ?_;omega;omega)|refine zM rfl ?_|(refine zQ ?_ ?_ ?_;omega;omega)|(refine zR ?_ ?_;omega)|(refine zI ?_ ?_;exact nA)|refine sS ?_|refine sF ?_|refine n0 ?_|refine sD ?_|intro _|refine zG ?_);conv=>whnf)|(refine zX (fun hc => ?_) (fun hc => ?_)<;>(try simp only [SY] at hc)<;>first|omega|(conv=>whnf)))
 all_goals
  repeat (first|rw [if_neg (by omega)] at hn|rw [if_pos (by omega)] at hn)
  rw [hn]
 all_goals first
  | exact PRet.pure (Wk.tok _ _ _)
  | exact PRet.pure slI_nil
theorem nxtL_len (x : Ins) (k : Int) : (nxtL x k).length ≤ 2 := by
 unfold nxtL
 by_cases h : x.op = 15
 ·rw [if_neg (by omega), if_pos h, if_neg (by omega)]; simp
 ·rw [if_neg h]
  split <;> split <;> simp
theorem needed16_c (p : Prc) (frm : List Int) (r : Int) (hp : PrF p) (hx : ∀ x ∈ p.code, x.l.length ≤ 1000000) (hf : ∀ j ∈ frm, 0 ≤ j ∧ j < p.code.length) (hfl : frm.length ≤ 1000000) : ACallP Tryz.prog 123 [.agg p.cells, slI frm, .int .i64 r] (.bool (needU p.code r frm)) := by
 have hcl := hp.ln
 unfold needU
 refine ACall.of_body tt_ok Tryz.func123 rfl rfl (n := 70) rfl rfl ?_
 conv => whnf
 repeat' (first|((first|((first|(apply zY;intro hg)|apply zZ);first|exact stA|exact stB|exact stC)|(refine zW ?_ ?_;exact gA)|refine zH rfl ?_|refine zA ?_|refine zI bA ?_|refine zI rfl ?_|refine sB ?_|(refine zO ?_ ?_ ?_;omega;omega)|(refine zP ?_ ?_ ?_;omega;omega)|refine zM rfl ?_|(refine zQ ?_ ?_ ?_;omega;omega)|(refine zR ?_ ?_;omega)|(refine zI ?_ ?_;exact nA)|refine sS ?_|refine sF ?_|refine n0 ?_|refine sD ?_|intro _|refine zG ?_);conv=>whnf)|(refine zX (fun hc => ?_) (fun hc => ?_)<;>(try simp only [SY] at hc)<;>first|omega|(conv=>whnf)))
 refine PMake.row (by omega) (by omega) (by omega) (by show _ * 1 ≤ _; omega) rfl fun tb hte hts => ?_
 rw [Int.toNat_natCast]
 conv => whnf
 repeat' (first|((first|refine PRow.nilInts ?_|((first|(apply zY;intro hg)|apply zZ);first|exact stA|exact stB|exact stC)|(refine zW ?_ ?_;exact gA)|refine zH rfl ?_|refine zA ?_|refine zI bA ?_|refine zI rfl ?_|refine sB ?_|(refine zO ?_ ?_ ?_;omega;omega)|(refine zP ?_ ?_ ?_;omega;omega)|refine zM rfl ?_|(refine zQ ?_ ?_ ?_;omega;omega)|(refine zR ?_ ?_;omega)|(refine zI ?_ ?_;exact nA)|refine sS ?_|refine sF ?_|refine n0 ?_|refine sD ?_|intro _|refine zG ?_);conv=>whnf)|(refine zX (fun hc => ?_) (fun hc => ?_)<;>(try simp only [SY] at hc)<;>first|omega|(conv=>whnf)))
 rename_i b3 _ _ _ _ ti hte2 hts2
 rw [List.nil_append]
 generalize hB : needF p.code r (3 * p.code.length + frm.length + 1) (List.replicate p.code.length false) frm = B
 refine PLoop.ghost (Ghost.row (t := tb) (wkR_false p.code.length)) ?_
 refine PLoop.over [6, 8, 9, 10, 11, 12, 20, 21, 22, 23, 24, 25, 26, 27, 28, 29, 30, 31, 32, 33, 34, 35, 36, 37, 38, 39, 40, 41, 42, 43, 44, 45, 46, 47, 48, 49, 50, 51, 52, 53, 54, 55, 56, 57, 58, 59, 60, 61, 62, 63, 64, 65, 66, 67, 68, 69] (fun x : List Bool × List Int × Tok × Nat => [(8, .ms x.2.2.1)]) (fun x => [.row x.2.2.1 (x.2.1.map (PV.int .i64)), .row tb (x.1.map PV.bool), .box b3 (prX p)])
  (fun x => x.1.length = p.code.length ∧ (∀ j ∈ x.2.1, 0 ≤ j ∧ j < p.code.length) ∧ x.2.2.1.e = 3 ∧ x.2.2.1.s = 1 ∧ 3 * unmet x.1 + x.2.1.length + 1 ≤ x.2.2.2 ∧ x.2.2.2 ≤ 3 * p.code.length + frm.length + 1 ∧ needF p.code r x.2.2.2 x.1 x.2.1 = B) (fun x => x.2.2.2)
  (List.replicate p.code.length false, frm, ti, 3 * p.code.length + frm.length + 1) ⟨List.length_replicate .., hf, hte2, hts2, by simp [unmet], Nat.le_refl _, hB⟩ wA ?_
 rintro ⟨bs, xs, t, f⟩ ⟨hbl, hxs, hte3, hts3, hff, hf0, hnb⟩
 dsimp only at hbl hxs hte3 hts3 hff hf0 hnb ⊢
 conv => whnf
 repeat' (first|((first|((first|(apply zY;intro hg)|apply zZ);first|exact stA|exact stB|((conv=>whnf);(repeat ((first|(refine zW ?_ ?_;exact gA)|(refine PLenM.map fun _ => ?_)|(refine PSliceM.hi (i := xs.length - 1) (by assumption) (by omega) (by simp; omega) fun t2 hte4 hts4 => ?_)|refine zA ?_|refine zH rfl ?_|refine zB ?_|refine sG ?_|intro _);conv=>whnf));first|exact pS|exact pL|exact pE))|(refine zW ?_ ?_;exact gA)|refine zH rfl ?_|refine zA ?_|refine zI bA ?_|refine zI rfl ?_|refine sB ?_|(refine zO ?_ ?_ ?_;omega;omega)|(refine zP ?_ ?_ ?_;omega;omega)|refine zM rfl ?_|(refine zQ ?_ ?_ ?_;omega;omega)|(refine zR ?_ ?_;omega)|(refine zI ?_ ?_;exact nA)|refine sS ?_|(refine PLenM.map fun _ => ?_)|(refine PSliceM.hi (i := xs.length - 1) (by assumption) (by omega) (by simp; omega) fun t2 hte4 hts4 => ?_)|refine sF ?_|refine n0 ?_|refine sD ?_|intro _|refine zG ?_);conv=>whnf)|(refine zX (fun hc => ?_) (fun hc => ?_)<;>(try simp only [SY] at hc)<;>first|omega|(conv=>whnf)))
 ·have hx0 : xs ≠ [] := fun e => by rw [e] at hc; simp at hc
  have hv := hxs xs[xs.length - 1] (List.getElem_mem _)
  have hld : xs.getLastD 0 = xs[xs.length - 1] := by rw [List.getLastD_eq_getLast?, List.getLast?_eq_getElem?, List.getElem?_eq_getElem (by omega)]; rfl
  generalize xs[xs.length - 1] = v at *
  obtain ⟨k, rfl⟩ := Int.eq_ofNat_of_zero_le hv.1
  have hkl : k < p.code.length := by omega
  have hkb : k < bs.length := by omega
  have hid : insD p.code k = p.code[k] := by unfold insD; rw [Int.toNat_natCast, List.getD_eq_getElem?_getD, List.getElem?_eq_getElem hkl]; rfl
  have hnl := namedL_len p.code[k]
  have hxk := hx p.code[k] (List.getElem_mem _)
  obtain ⟨g, rfl⟩ : ∃ g, f = g + 1 := ⟨f - 1, by omega⟩
  rw [needF, if_neg hx0, hld, Int.toNat_natCast, hid] at hnb
  rw [← List.map_take, ← List.dropLast_eq_take]
  have hdl : xs.dropLast.length + 1 = xs.length := by rw [List.length_dropLast]; omega
  have hdm : ∀ j ∈ xs.dropLast, 0 ≤ j ∧ j < p.code.length := fun j hj => hxs j (List.dropLast_subset _ hj)
  have hnx := next16_c p k hkl (by omega)
  have hnn := nxtL_len p.code[k] k
  have hnr := hp.nx k hkl
  generalize nxtL p.code[k] k = nx at *
  conv => whnf
  repeat' (first|((first|((first|(apply zY;intro hg)|apply zZ);first|exact stA|exact stB|((conv=>whnf);(repeat ((first|(refine zW ?_ ?_;exact gA)|(refine PLenM.map fun _ => ?_)|(refine PSliceM.hi (i := xs.length - 1) (by assumption) (by omega) (by simp; omega) fun t2 hte4 hts4 => ?_)|refine pC (named_c p.code[k] hxk) wR ?_|refine pC (named_c p.code[k] hxk) cA ?_|refine pC (hnx) wR ?_|refine zA ?_|refine zH rfl ?_|refine zB ?_|refine sG ?_|intro _);conv=>whnf));first|exact pS|exact pL|exact pE))|(refine zW ?_ ?_;exact gA)|refine zH rfl ?_|refine zA ?_|refine zI bA ?_|refine zI rfl ?_|refine sB ?_|(refine zO ?_ ?_ ?_;omega;omega)|(refine zP ?_ ?_ ?_;omega;omega)|refine zM rfl ?_|(refine zQ ?_ ?_ ?_;omega;omega)|(refine zR ?_ ?_;omega)|(refine zI ?_ ?_;exact nA)|refine sS ?_|(refine PLenM.map fun _ => ?_)|(refine PSliceM.hi (i := xs.length - 1) (by assumption) (by omega) (by simp; omega) fun t2 hte4 hts4 => ?_)|refine pC (named_c p.code[k] hxk) wR ?_|refine pC (named_c p.code[k] hxk) cA ?_|refine pC (hnx) wR ?_|refine sF ?_|refine n0 ?_|refine sD ?_|intro _|refine zG ?_);conv=>whnf)|(refine zX (fun hc => ?_) (fun hc => ?_)<;>(try simp only [SY] at hc)<;>first|omega|(conv=>whnf)))
  ·rw [if_pos (by rw [List.getD_eq_getElem?_getD, List.getElem?_eq_getElem hkb]; exact hc)] at hnb
   exact loopTo (bs, xs.dropLast, t2, g) ⟨hbl, hdm, hte4.trans hte3, hts4.trans hts3, by dsimp only; omega, by dsimp only; omega, hnb⟩ (by show g < g + 1; omega) wA
  have hum := unmet_set hkb (by rw [List.getD_eq_getElem?_getD, List.getElem?_eq_getElem hkb]; exact hc)
  rw [if_neg (by rw [List.getD_eq_getElem?_getD, List.getElem?_eq_getElem hkb]; show ¬bs[k] = true; rw [hc]; simp)] at hnb
  have hte5 : t2.e = 3 := hte4.trans hte3
  have hts5 : t2.s = 1 := hts4.trans hts3
  generalize hN : namedL p.code[k] = nl at *
  refine PLoop.keep [6, 12, 50, 51, 52, 53, 54, 55, 56, 57, 58, 59, 60, 61] (fun i : Nat => [(12, .int .i64 i)]) (fun i => i ≤ nl.length ∧ nl.contains r = (nl.drop i).contains r) (fun i => nl.length - i) 0 ⟨Nat.zero_le _, rfl⟩ wA ?_
  rintro i ⟨hi, he⟩
  conv => whnf
  repeat' (first|((first|((first|(apply zY;intro hg)|apply zZ);first|exact stA|exact stB|((conv=>whnf);(repeat ((first|(refine zW ?_ ?_;exact gA)|(refine PLenM.map fun _ => ?_)|(refine PSliceM.hi (i := xs.length - 1) (by assumption) (by omega) (by simp; omega) fun t2 hte4 hts4 => ?_)|refine pC (named_c p.code[k] hxk) wR ?_|refine pC (named_c p.code[k] hxk) cA ?_|refine pC (hnx) wR ?_|refine zA ?_|refine zH rfl ?_|refine zB ?_|refine sG ?_|intro _);conv=>whnf));first|exact pS|exact pL|exact pE))|(refine zW ?_ ?_;exact gA)|refine zH rfl ?_|refine zA ?_|refine zI bA ?_|refine zI rfl ?_|refine sB ?_|(refine zO ?_ ?_ ?_;omega;omega)|(refine zP ?_ ?_ ?_;omega;omega)|refine zM rfl ?_|(refine zQ ?_ ?_ ?_;omega;omega)|(refine zR ?_ ?_;omega)|(refine zI ?_ ?_;exact nA)|refine sS ?_|(refine PLenM.map fun _ => ?_)|(refine PSliceM.hi (i := xs.length - 1) (by assumption) (by omega) (by simp; omega) fun t2 hte4 hts4 => ?_)|refine pC (named_c p.code[k] hxk) wR ?_|refine pC (named_c p.code[k] hxk) cA ?_|refine pC (hnx) wR ?_|refine sF ?_|refine n0 ?_|refine sD ?_|intro _|refine zG ?_);conv=>whnf)|(refine zX (fun hc => ?_) (fun hc => ?_)<;>(try simp only [SY] at hc)<;>first|omega|(conv=>whnf)))
  ·have hil : i < nl.length := by omega
   rw [drop_at hil, List.contains_cons, hc, beq_self_eq_true, Bool.true_or] at he
   rw [if_pos he] at hnb
   rw [← hnb]
   exact PRet.pure (Wk.tt rfl)
  ·have hil : i < nl.length := by omega
   rw [drop_at hil, List.contains_cons, show (r == nl[i]) = false by rw [beq_eq_false_iff_ne]; exact fun e => hc e.symm, Bool.false_or] at he
   exact loopTo (i + 1) ⟨by omega, he⟩ (by show nl.length - (i + 1) < nl.length - i; omega) wA
  ·rw [if_neg (by rw [he, List.drop_of_length_le (by omega)]; simp), if_pos hc] at hnb
   rename_i t3 hte6 hts6
   exact loopTo (bs.set k true, xs.dropLast ++ nx, t3, g) ⟨by dsimp only; rw [List.length_set]; exact hbl, fun j hj => by
    rcases List.mem_append.1 hj with hj | hj
    ·exact hdm j hj
    ·exact hnr j hj, hte6, hts6, by dsimp only; rw [List.length_append]; omega, by dsimp only; omega, hnb⟩ (by show g < g + 1; omega) wA
  ·rw [if_neg (by rw [he, List.drop_of_length_le (by omega)]; simp), if_neg (by omega)] at hnb
   exact loopTo (bs.set k true, xs.dropLast, t2, g) ⟨by dsimp only; rw [List.length_set]; exact hbl, hdm, hte5, hts5, by dsimp only; omega, by dsimp only; omega, hnb⟩ (by show g < g + 1; omega) wA
 ·have hx0 : xs = [] := List.eq_nil_of_length_eq_zero (by omega)
  have : needF p.code r f bs xs = false := by
   cases f with
   | zero => rfl
   | succ f => rw [needF, if_pos hx0]
  rw [← hnb, this]
  exact PRet.pure (Wk.ff rfl)
end Go.Cb
namespace Go.Cb
open Go.Proofs
set_option maxRecDepth 100000
set_option maxHeartbeats 4000000
theorem uses17_c (x : Ins) (hl : x.l.length ≤ 1000000) (h0 : 0 ≤ x.op) : ACallP Tryz.prog 135 [.agg x.cells] (.tup [slI (namedL x), .int .i64 (givesI x)]) := by
 have h1 : namedL x = namedL x := rfl
 have h2 : givesI x = givesI x := rfl
 conv at h1 => rhs; unfold namedL
 conv at h2 => rhs; unfold givesI
 refine ACall.of_body tt_ok Tryz.func135 rfl rfl (n := 87) rfl rfl ?_
 conv => whnf
 repeat' (first|((first|((first|(apply zY;intro hg)|apply zZ);first|exact stA|exact stB|exact stC)|(refine zW ?_ ?_;exact gA)|refine zH rfl ?_|refine zA ?_|refine zI bA ?_|refine zI rfl ?_|refine sB ?_|(refine zO ?_ ?_ ?_;omega;omega)|(refine zP ?_ ?_ ?_;omega;omega)|refine zM rfl ?_|(refine zQ ?_ ?_ ?_;omega;omega)|(refine zR ?_ ?_;omega)|(refine zI ?_ ?_;exact nA)|refine sS ?_|refine sF ?_|refine n0 ?_|refine sD ?_|refine PDraw.sP (some 13) rfl [] [] tt_ok mixed ?_|refine PDraw.sP (some 20) rfl [] [] tt_ok mixed ?_|refine PDraw.sP (some 28) rfl [] [] tt_ok mixed ?_|refine PDraw.sT (some 57) rfl [2,5,8] [9] tt_ok mixed ?_|refine PDraw.sT (some 67) rfl [2,5,8] [9] tt_ok mixed ?_|intro _|refine zG ?_);conv=>whnf)|(refine zX (fun hc => ?_) (fun hc => ?_)<;>(try simp only [SY] at hc)<;>first|omega|(conv=>whnf)))
 all_goals first
  | (refine PAppend.lit (f := PV.int .i64) rfl (by assumption) rfl (by simp only [List.length_cons, List.length_nil]; omega) ?_; intro t9 ht9)
  | skip
 conv => whnf
 repeat' (first|((first|((first|(apply zY;intro hg)|apply zZ);first|exact stA|exact stB|exact stC)|(refine zW ?_ ?_;exact gA)|refine zH rfl ?_|refine zA ?_|refine zI bA ?_|refine zI rfl ?_|refine sB ?_|(refine zO ?_ ?_ ?_;omega;omega)|(refine zP ?_ ?_ ?_;omega;omega)|refine zM rfl ?_|(refine zQ ?_ ?_ ?_;omega;omega)|(refine zR ?_ ?_;omega)|(refine zI ?_ ?_;exact nA)|refine sS ?_|refine sF ?_|refine n0 ?_|refine sD ?_|refine PDraw.sP (some 13) rfl [] [] tt_ok mixed ?_|refine PDraw.sP (some 20) rfl [] [] tt_ok mixed ?_|refine PDraw.sP (some 28) rfl [] [] tt_ok mixed ?_|refine PDraw.sT (some 57) rfl [2,5,8] [9] tt_ok mixed ?_|refine PDraw.sT (some 67) rfl [2,5,8] [9] tt_ok mixed ?_|intro _|refine zG ?_);conv=>whnf)|(refine zX (fun hc => ?_) (fun hc => ?_)<;>(try simp only [SY] at hc)<;>first|omega|(conv=>whnf)))
 all_goals
  repeat (first|rw [if_neg (by omega)] at h1|rw [if_pos (by omega)] at h1)
  repeat (first|rw [if_neg (by omega)] at h2|rw [if_pos (by omega)] at h2)
  rw [h1, h2]
 all_goals first
  | exact PRet.pure (Wk.tup (.cons (Wk.tok _ _ _) (.cons (Wk.refl _) .nil)))
  | exact PRet.pure (Wk.tup (.cons (Wk.refl _) (.cons (Wk.refl _) .nil)))
  | exact PRet.pure (Wk.tup (.cons slI_nil (.cons (Wk.refl _) .nil)))
theorem goes17_c (x : Ins) (k : Nat) (hk : k ≤ 1000000) : ACallP Tryz.prog 137 [.agg x.cells, .int .i64 k] (slI (nxtL x k)) := by
 have hn : nxtL x k = nxtL x k := rfl
 conv at hn => rhs; unfold nxtL
 refine ACall.of_body tt_ok Tryz.func137 rfl rfl (n := 28) rfl rfl ?_
 conv => whnf
 repeat' (first|((first|((first|(apply zY;intro hg)|apply zZ);first|exact stA|exact stB|exact stC)|(refine zW ?_ ?_;exact gA)|refine zH rfl ?_|refine zA ?_|refine zI bA ?_|refine zI rfl ?_|refine sB ?_|(refine zO ?_ ?_ ?_;omega;omega)|(refine zP ?_ ?_ ?_;omega;omega)|refine zM rfl ?_|(refine zQ ?_ ?_ ?_;omega;omega)|(refine zR ?_ ?_;omega)|(refine zI ?_ ?_;exact nA)|refine sS ?_|refine sF ?_|refine n0 ?_|refine sD ?_|intro _|refine zG ?_);conv=>whnf)|(refine zX (fun hc => ?_) (fun hc => ?_)<;>(try simp only [SY] at hc)<;>first|omega|(conv=>whnf)))
 all_goals
  repeat (first|rw [if_neg (by omega)] at hn|rw [if_pos (by omega)] at hn)
  rw [hn]
 all_goals first
  | exact PRet.pure (Wk.tok _ _ _)
  | exact PRet.pure slI_nil
def lstB (ws : List Int) (n : Nat) : List Int := ((List.range n).filter (fun q => bitB ws q)).map Int.ofNat
theorem lstB_succ (ws : List Int) (n : Nat) : lstB ws (n + 1) = if bitB ws n = true then lstB ws n ++ [(n : Int)] else lstB ws n := by
 unfold lstB
 rw [List.range_succ, List.filter_append, List.map_append]
 by_cases h : bitB ws n = true
 ·rw [if_pos h, List.filter_cons_of_pos h]; rfl
 ·rw [if_neg h, List.filter_cons_of_neg h]; simp
theorem lstB_len (ws : List Int) (n : Nat) : (lstB ws n).length ≤ n := by
 unfold lstB
 rw [List.length_map]
 refine Nat.le_trans (List.length_filter_le ..) ?_
 simp
theorem list17_c (ws : List Int) (n : Nat) (hw : okWs ws) (hn : n ≤ 64 * ws.length) (hb : n ≤ 1000000) : ACallP Tryz.prog 79 [slU ws, .int .i64 n] (slI (lstB ws n)) := by
 have hh : ∀ r : Nat, r < n → ACallP Tryz.prog 139 [slU ws, .int .i64 (r : Int)] (.bool (bitB ws r)) := fun r hr => has17l_c ws r hw (by omega) (by omega)
 refine ACall.of_body tt_ok Tryz.func79 rfl rfl (n := 20) rfl rfl ?_
 conv => whnf
 repeat' (first|((first|((first|(apply zY;intro hg)|apply zZ);first|exact stA|exact stB|((conv=>whnf);(repeat ((first|(refine zW ?_ ?_;exact gA)|refine pC (hh _ (by omega)) wR ?_|refine zA ?_|refine zH rfl ?_|refine zB ?_|refine sG ?_|intro _);conv=>whnf));first|exact pS|exact pL|exact pE))|(refine zW ?_ ?_;exact gA)|refine zH rfl ?_|refine zA ?_|refine zI bA ?_|refine zI rfl ?_|refine sB ?_|(refine zO ?_ ?_ ?_;omega;omega)|(refine zP ?_ ?_ ?_;omega;omega)|refine zM rfl ?_|(refine zQ ?_ ?_ ?_;omega;omega)|(refine zR ?_ ?_;omega)|(refine zI ?_ ?_;exact nA)|refine sS ?_|refine pC (hh _ (by omega)) wR ?_|refine sF ?_|refine n0 ?_|refine sD ?_|intro _|refine zG ?_);conv=>whnf)|(refine zX (fun hc => ?_) (fun hc => ?_)<;>(try simp only [SY] at hc)<;>first|omega|(conv=>whnf)))
 refine PLoop.ghost (Ghost.nil 1 3 _) ?_
 refine PLoop.over [5, 6, 8, 9, 10, 11, 12, 13, 14, 15, 16, 17, 18] (fun x : Nat × List Int × Tok => [(5, .sl 1 (x.2.1.map (PV.int .i64)) (some x.2.2)), (8, .int .i64 x.1)]) (fun x => [.tok x.2.2]) (fun x => x.1 ≤ n ∧ x.2.2.e = 3 ∧ x.2.1 = lstB ws x.1) (fun x => n - x.1) (0, [], nilTok 1 3) ⟨Nat.zero_le _, rfl, rfl⟩ wA ?_
 rintro ⟨r, out, t⟩ ⟨hr, hte, ho⟩
 dsimp only at hr hte ho ⊢
 have hol := lstB_len ws r
 rw [← ho] at hol
 conv => whnf
 repeat' (first|((first|((first|(apply zY;intro hg)|apply zZ);first|exact stA|exact stB|((conv=>whnf);(repeat ((first|(refine zW ?_ ?_;exact gA)|refine pC (hh _ (by omega)) wR ?_|refine zA ?_|refine zH rfl ?_|refine zB ?_|refine sG ?_|intro _);conv=>whnf));first|exact pS|exact pL|exact pE))|(refine zW ?_ ?_;exact gA)|refine zH rfl ?_|refine zA ?_|refine zI bA ?_|refine zI rfl ?_|refine sB ?_|(refine zO ?_ ?_ ?_;omega;omega)|(refine zP ?_ ?_ ?_;omega;omega)|refine zM rfl ?_|(refine zQ ?_ ?_ ?_;omega;omega)|(refine zR ?_ ?_;omega)|(refine zI ?_ ?_;exact nA)|refine sS ?_|refine pC (hh _ (by omega)) wR ?_|refine sF ?_|refine n0 ?_|refine sD ?_|intro _|refine zG ?_);conv=>whnf)|(refine zX (fun hc => ?_) (fun hc => ?_)<;>(try simp only [SY] at hc)<;>first|omega|(conv=>whnf)))
 ·exact loopTo (r + 1, out ++ [(r : Int)], _) ⟨by show r + 1 ≤ _; omega, by assumption, by dsimp only; rw [lstB_succ, if_pos hc, ho]⟩ (by show n - (r + 1) < n - r; omega) wA
 ·exact loopTo (r + 1, out, t) ⟨by show r + 1 ≤ _; omega, by assumption, by dsimp only; rw [lstB_succ, if_neg (by rw [hc]; simp), ho]⟩ (by show n - (r + 1) < n - r; omega) wA
 ·obtain rfl : r = n := by omega
  subst ho
  exact PRet.pure (Wk.tok _ _ _)
end Go.Cb
namespace Go.Cb
open Go.Proofs
set_option maxRecDepth 100000
set_option maxHeartbeats 4000000
theorem live16_c (p : Prc) (frm : List Int) (hp : PrF p) (hx : ∀ x ∈ p.code, x.l.length ≤ 1000000) (hf : ∀ j ∈ frm, 0 ≤ j ∧ j < p.code.length) (hfl : frm.length ≤ 1000000) : ACallP Tryz.prog 68 [.agg p.cells, slI frm] (slI (liveF p.code p.regs.toNat frm)) := by
 have hrg := hp.rg
 have hnd : ∀ r : Nat, ACallP Tryz.prog 123 [.agg p.cells, slI frm, .int .i64 (r : Int)] (.bool (needU p.code r frm)) := fun r => needed16_c p frm r hp hx hf hfl
 refine ACall.of_body tt_ok Tryz.func68 rfl rfl (n := 22) rfl rfl ?_
 conv => whnf
 repeat' (first|((first|((first|(apply zY;intro hg)|apply zZ);first|exact stA|exact stB|((conv=>whnf);(repeat ((first|(refine zW ?_ ?_;exact gA)|refine pC (hnd _) wR ?_|refine zA ?_|refine zH rfl ?_|refine zB ?_|refine sG ?_|intro _);conv=>whnf));first|exact pS|exact pL|exact pE))|(refine zW ?_ ?_;exact gA)|refine zH rfl ?_|refine zA ?_|refine zI bA ?_|refine zI rfl ?_|refine sB ?_|(refine zO ?_ ?_ ?_;omega;omega)|(refine zP ?_ ?_ ?_;omega;omega)|refine zM rfl ?_|(refine zQ ?_ ?_ ?_;omega;omega)|(refine zR ?_ ?_;omega)|(refine zI ?_ ?_;exact nA)|refine sS ?_|refine pC (hnd _) wR ?_|refine sF ?_|refine n0 ?_|refine sD ?_|intro _|refine zG ?_);conv=>whnf)|(refine zX (fun hc => ?_) (fun hc => ?_)<;>(try simp only [SY] at hc)<;>first|omega|(conv=>whnf)))
 rename_i b2
 refine PLoop.ghost (Ghost.nil 1 3 _) ?_
 refine PLoop.over [5, 6, 7, 8, 9, 10, 11, 12, 13, 14, 15, 16, 17, 18, 19, 20] (fun x : Nat × List Int × Tok => [(5, .sl 1 (x.2.1.map (PV.int .i64)) (some x.2.2)), (6, .int .i64 x.1)]) (fun x => [.tok x.2.2, .box b2 (prX p)]) (fun x => x.1 ≤ p.regs.toNat ∧ x.2.2.e = 3 ∧ x.2.1 = liveF p.code x.1 frm) (fun x => p.regs.toNat - x.1) (0, [], nilTok 1 3) ⟨Nat.zero_le _, rfl, rfl⟩ wA ?_
 rintro ⟨r, out, t⟩ ⟨hr, hte, ho⟩
 dsimp only at hr hte ho ⊢
 have hol := liveF_len p.code r frm
 rw [← ho] at hol
 conv => whnf
 repeat' (first|((first|((first|(apply zY;intro hg)|apply zZ);first|exact stA|exact stB|((conv=>whnf);(repeat ((first|(refine zW ?_ ?_;exact gA)|refine pC (hnd _) wR ?_|refine zA ?_|refine zH rfl ?_|refine zB ?_|refine sG ?_|intro _);conv=>whnf));first|exact pS|exact pL|exact pE))|(refine zW ?_ ?_;exact gA)|refine zH rfl ?_|refine zA ?_|refine zI bA ?_|refine zI rfl ?_|refine sB ?_|(refine zO ?_ ?_ ?_;omega;omega)|(refine zP ?_ ?_ ?_;omega;omega)|refine zM rfl ?_|(refine zQ ?_ ?_ ?_;omega;omega)|(refine zR ?_ ?_;omega)|(refine zI ?_ ?_;exact nA)|refine sS ?_|refine pC (hnd _) wR ?_|refine sF ?_|refine n0 ?_|refine sD ?_|intro _|refine zG ?_);conv=>whnf)|(refine zX (fun hc => ?_) (fun hc => ?_)<;>(try simp only [SY] at hc)<;>first|omega|(conv=>whnf)))
 ·exact loopTo (r + 1, out ++ [(r : Int)], _) ⟨by show r + 1 ≤ _; omega, by assumption, by dsimp only; rw [liveF_succ, if_pos hc, ho]⟩ (by show p.regs.toNat - (r + 1) < p.regs.toNat - r; omega) wA
 ·exact loopTo (r + 1, out, t) ⟨by show r + 1 ≤ _; omega, by assumption, by dsimp only; rw [liveF_succ, if_neg (by rw [hc]; simp), ho]⟩ (by show p.regs.toNat - (r + 1) < p.regs.toNat - r; omega) wA
 ·obtain rfl : r = p.regs.toNat := by omega
  rw [← ho]
  exact PRet.pure (Wk.tok _ _ _)
theorem after16_c (u : Unt) (hu : Lim u) (h0 : chkU u = 0) (n : Nat) (hn : n < u.procs.length) : ACallP Tryz.prog 32 [.agg u.cells, .int .i64 n] (.tup [.sl 1 ((aftP u.procs[n]).map slI) none, .int .i64 0]) := by
 have hX : ∀ p ∈ u.procs, ∀ x ∈ p.code, x.l.length ≤ 1000000 := fun p hp x hx => by have := (hu.2 p hp).2 x hx; omega
 have hp := prF h0 u.procs[n] (List.getElem_mem hn)
 have hxp := hX u.procs[n] (List.getElem_mem hn)
 have hch := check14_c u hX
 rw [h0] at hch
 have hcl := (hu.2 u.procs[n] (List.getElem_mem hn)).1
 have hlv : ∀ (k : Nat) (hk : k < u.procs[n].code.length), ACallP Tryz.prog 68 [.agg u.procs[n].cells, slI (nxtL u.procs[n].code[k] k)] (slI (liveF u.procs[n].code u.procs[n].regs.toNat (nxtL u.procs[n].code[k] k))) := fun k hk => live16_c u.procs[n] _ hp hxp (hp.nx k hk) (by have := nxtL_len u.procs[n].code[k] k; omega)
 have hnx : ∀ (k : Nat) (hk : k < u.procs[n].code.length), ACallP Tryz.prog 69 [.agg u.procs[n].cells, .int .i64 (k : Int)] (slI (nxtL u.procs[n].code[k] k)) := fun k hk => next16_c u.procs[n] k hk (by omega)
 refine ACall.of_body tt_ok Tryz.func32 rfl rfl (n := 42) rfl rfl ?_
 conv => whnf
 repeat' (first|((first|((first|(apply zY;intro hg)|apply zZ);first|exact stA|exact stB|((conv=>whnf);(repeat ((first|(refine zW ?_ ?_;exact gA)|refine pC (hch) wR ?_|refine pC (hlv _ (by omega)) wR ?_|refine pC (hnx _ (by omega)) wR ?_|refine zA ?_|refine zH rfl ?_|refine zB ?_|refine sG ?_|intro _);conv=>whnf));first|exact pS|exact pL|exact pE))|(refine zW ?_ ?_;exact gA)|refine zH rfl ?_|refine zA ?_|refine zI bA ?_|refine zI rfl ?_|refine sB ?_|(refine zO ?_ ?_ ?_;omega;omega)|(refine zP ?_ ?_ ?_;omega;omega)|refine zM rfl ?_|(refine zQ ?_ ?_ ?_;omega;omega)|(refine zR ?_ ?_;omega)|(refine zI ?_ ?_;exact nA)|refine sS ?_|refine pC (hch) wR ?_|refine pC (hlv _ (by omega)) wR ?_|refine pC (hnx _ (by omega)) wR ?_|refine sF ?_|refine n0 ?_|refine sD ?_|refine PDraw.sP (some 33) rfl [] [7,8] tt_ok mixed ?_|intro _|refine zG ?_);conv=>whnf)|(refine zX (fun hc => ?_) (fun hc => ?_)<;>(try simp only [SY] at hc)<;>first|omega|(conv=>whnf)))
 rename_i b2 _ b6
 refine PLoop.ghost (Ghost.nil 1 23 _) ?_
 refine PLoop.over [7, 8, 26, 27, 28, 29, 30, 31, 32, 33, 34, 35, 36, 37, 38, 39, 40] (fun x : Nat × List (List Int) × Tok => [(7, .sl 1 (x.2.1.map slI) (some x.2.2)), (8, .int .i64 x.1)]) (fun x => [.tok x.2.2, .box b6 (prX u.procs[n]), .box b2 (unX u)]) (fun x => x.1 ≤ u.procs[n].code.length ∧ x.2.2.e = 23 ∧ x.2.1 = aftF u.procs[n].code u.procs[n].regs.toNat x.1) (fun x => u.procs[n].code.length - x.1) (0, [], nilTok 1 23) ⟨Nat.zero_le _, rfl, rfl⟩ wA ?_
 rintro ⟨k, out, t⟩ ⟨hk, hte, ho⟩
 dsimp only at hk hte ho ⊢
 have hol := aftF_len u.procs[n].code u.procs[n].regs.toNat k
 rw [← ho] at hol
 conv => whnf
 repeat' (first|((first|((first|(apply zY;intro hg)|apply zZ);first|exact stA|exact stB|((conv=>whnf);(repeat ((first|(refine zW ?_ ?_;exact gA)|refine pC (hch) wR ?_|refine pC (hlv _ (by omega)) wR ?_|refine pC (hnx _ (by omega)) wR ?_|refine zA ?_|refine zH rfl ?_|refine zB ?_|refine sG ?_|intro _);conv=>whnf));first|exact pS|exact pL|exact pE))|(refine zW ?_ ?_;exact gA)|refine zH rfl ?_|refine zA ?_|refine zI bA ?_|refine zI rfl ?_|refine sB ?_|(refine zO ?_ ?_ ?_;omega;omega)|(refine zP ?_ ?_ ?_;omega;omega)|refine zM rfl ?_|(refine zQ ?_ ?_ ?_;omega;omega)|(refine zR ?_ ?_;omega)|(refine zI ?_ ?_;exact nA)|refine sS ?_|refine pC (hch) wR ?_|refine pC (hlv _ (by omega)) wR ?_|refine pC (hnx _ (by omega)) wR ?_|refine sF ?_|refine n0 ?_|refine sD ?_|refine PDraw.sP (some 33) rfl [] [7,8] tt_ok mixed ?_|intro _|refine zG ?_);conv=>whnf)|(refine zX (fun hc => ?_) (fun hc => ?_)<;>(try simp only [SY] at hc)<;>first|omega|(conv=>whnf)))
 ·have hkl : k < u.procs[n].code.length := by omega
  have hid : insD u.procs[n].code k = u.procs[n].code[k] := by unfold insD; rw [Int.toNat_natCast, List.getD_eq_getElem?_getD, List.getElem?_eq_getElem hkl]; rfl
  exact loopTo (k + 1, out ++ [_], _) ⟨by show k + 1 ≤ _; omega, by assumption, by dsimp only; rw [aftF_succ, hid, ho]⟩ (by show u.procs[n].code.length - (k + 1) < u.procs[n].code.length - k; omega) wA
 ·obtain rfl : k = u.procs[n].code.length := by omega
  subst ho
  exact PRet.pure (Wk.tup (.cons (Wk.tok _ _ _) (.cons (Wk.refl _) .nil)))
end Go.Cb
namespace Go.Cb
open Go.Proofs
set_option maxRecDepth 100000
set_option maxHeartbeats 4000000
end Go.Cb
namespace Go.Cb
open Go.Proofs
set_option maxRecDepth 100000
set_option maxHeartbeats 4000000
theorem gD {l : List Int} {n : Nat} (h : n < l.length) : l.getD n 0 = l[n] := by
 rw [List.getD_eq_getElem?_getD, List.getElem?_eq_getElem h]; rfl
theorem Ghost.boxH {Γ : List Ent} {b : Nat} {cs cs' : List PV} (h : WkL cs cs') : Ghost (.box b cs :: Γ) (.box b cs' :: Γ) := Ghost.box (hp := ⟨List.Perm.refl _⟩) h
theorem joinEndG {τ : Type} {ds : List Nat} {ps : τ → List (Nat × PV)} {G : τ → List Ent} {J : τ → Prop} {T T' : List PV} {Γ : List Ent} {D : Ds} (t : τ) (hJ : J t) (hw : WkOver 0 T' T ds (ps t)) (hg : Ghost Γ (G t)) : JoinEnd ds ps G J T D T' Γ D :=
 ⟨rfl, t, hJ, Weak.of (WkOver.wk 0 T' T ds (ps t) hw) hg⟩
end Go.Cb
namespace Go.Cb
open Go.Proofs
set_option maxRecDepth 100000
set_option maxHeartbeats 4000000
def prM (f : Int → Int → Bool) (v : Value) : Option PV := match v with
 | .agg xs => match xs.toList with
  | [.int .i64 a, .int .i64 b] => if f a b = true then some .btrue else none
  | _ => none
 | _ => none
theorem prM_at (f : Int → Int → Bool) (a b : Int) : prM f (.agg #[.int .i64 a, .int .i64 b]) = if f a b = true then some .btrue else none := rfl
def upP (f : Int → Int → Bool) (a b : Int) : Int → Int → Bool := fun x y => f x y || (x == a && y == b)
theorem PLook.pair {r : Nat} {e : TypeId} {f : Int → Int → Bool} {a b : Int} {Γ : List Ent} {pend : List (Int × Value)} {put : (Value → Option PV) → List (Int × Value) → List Ent} [hp : PickMp Γ r (.array 2 e) (prM f) pend put] {K : PV → Bool → Prop} (h : K (.bool (f a b)) (f a b)) :
  PLook r (.array 2 e) (some (.agg #[.int .i64 a, .int .i64 b])) .bfalse Γ K :=
 PLook.at_ (hp := hp) (.bool (f a b)) (f a b) (.inr ⟨_, _, _, rfl, rfl⟩) (fun p hp => by
  rw [prM_at] at hp
  split at hp
  ·rename_i hc; cases hp; exact ⟨Wk.tt hc, hc⟩
  ·cases hp) (fun hn => by
  rw [prM_at] at hn
  split at hn
  ·cases hn
  ·rename_i hc; simp only [Bool.not_eq_true] at hc; exact ⟨Wk.ff hc, hc⟩) h
theorem PMapPut.pair {r : Nat} {e : TypeId} {f : Int → Int → Bool} {a b : Int} {Γ : List Ent} {pend : List (Int × Value)} {put : (Value → Option PV) → List (Int × Value) → List Ent} [hp : PickMp Γ r (.array 2 e) (prM f) pend put] {K : List Ent → Prop} (h : K (put (prM (upP f a b)) pend)) (hq : prM f (.agg #[.int .i64 a, .int .i64 b]) ≠ none ∨ ∀ q ∈ pend, q.2 ≠ .tuple #[] := by right; simp) :
  PMapPut r (.array 2 e) (some (.agg #[.int .i64 a, .int .i64 b])) .btrue Γ K :=
 PMapPut.at_ (hp := hp) (prM (upP f a b)) (.inr ⟨_, _, _, rfl, rfl⟩) (by rw [prM_at, if_pos (by simp [upP])]) (fun k hk => by
  unfold prM
  split
  ·rename_i xs
   split
   ·rename_i x y hxs
    have hne : ¬(x = a ∧ y = b) := fun ⟨e1, e2⟩ => hk (by
     subst e1 e2
     congr 1
     apply Array.ext'
     rw [hxs])
    have : upP f a b x y = f x y := by
     unfold upP
     by_cases e1 : x = a
     ·by_cases e2 : y = b
      ·exact absurd ⟨e1, e2⟩ hne
      ·simp [e2]
     ·simp [e1]
    rw [this]
   ·rfl
  ·rfl) h hq
theorem of17_c (a b : Int) : ACallP Tryz.prog 115 [.int .i64 a, .int .i64 b] (.agg [.int .i64 (min a b), .int .i64 (max a b)]) := by
 refine ACall.of_body tt_ok Tryz.func115 rfl rfl (n := 12) rfl rfl ?_
 conv => whnf
 repeat' (first|((first|((first|(apply zY;intro hg)|apply zZ);first|exact stA|exact stB|exact stC)|(refine zW ?_ ?_;exact gA)|refine zH rfl ?_|refine zA ?_|refine zI bA ?_|refine zI rfl ?_|refine sB ?_|(refine zO ?_ ?_ ?_;omega;omega)|(refine zP ?_ ?_ ?_;omega;omega)|refine zM rfl ?_|(refine zQ ?_ ?_ ?_;omega;omega)|(refine zR ?_ ?_;omega)|(refine zI ?_ ?_;exact nA)|refine sS ?_|refine sF ?_|refine n0 ?_|refine sD ?_|intro _|refine zG ?_);conv=>whnf)|(refine zX (fun hc => ?_) (fun hc => ?_)<;>(try simp only [SY] at hc)<;>first|omega|(conv=>whnf)))
 have h1 : (if b < a then b else a) = min a b := by split <;> omega
 have h2 : (if a < b then b else a) = max a b := by split <;> omega
 rw [h1, h2]
 refine PArrB.lit rfl ?_
 conv => whnf
 repeat' (first|((first|((first|(apply zY;intro hg)|apply zZ);first|exact stA|exact stB|exact stC)|(refine zW ?_ ?_;exact gA)|refine zH rfl ?_|refine zA ?_|refine zI bA ?_|refine zI rfl ?_|refine sB ?_|(refine zO ?_ ?_ ?_;omega;omega)|(refine zP ?_ ?_ ?_;omega;omega)|refine zM rfl ?_|(refine zQ ?_ ?_ ?_;omega;omega)|(refine zR ?_ ?_;omega)|(refine zI ?_ ?_;exact nA)|refine sS ?_|refine sF ?_|refine n0 ?_|refine sD ?_|intro _|refine zG ?_);conv=>whnf)|(refine zX (fun hc => ?_) (fun hc => ?_)<;>(try simp only [SY] at hc)<;>first|omega|(conv=>whnf)))
 exact PRet.pure (Wk.refl _)
def gvB (x : Ins) : Bool := decide (x.op ≤ 7 ∨ (9 ≤ x.op ∧ x.op ≤ 11) ∨ x.op = 14 ∨ x.op = 17 ∨ x.op = 18)
theorem gives17_c (x : Ins) : ACallP Tryz.prog 114 [.agg x.cells] (.tup [.int .i64 (if gvB x = true then x.d else 0), .bool (gvB x)]) := by
 have h1 : (x.op ≤ 7 ∨ (9 ≤ x.op ∧ x.op ≤ 11) ∨ x.op = 14 ∨ x.op = 17 ∨ x.op = 18) → gvB x = true := fun h => decide_eq_true h
 have h2 : ¬(x.op ≤ 7 ∨ (9 ≤ x.op ∧ x.op ≤ 11) ∨ x.op = 14 ∨ x.op = 17 ∨ x.op = 18) → gvB x = false := fun h => decide_eq_false h
 refine ACall.of_body tt_ok Tryz.func114 rfl rfl (n := 25) rfl rfl ?_
 conv => whnf
 repeat' (first|((first|((first|(apply zY;intro hg)|apply zZ);first|exact stA|exact stB|exact stC)|(refine zW ?_ ?_;exact gA)|refine zH rfl ?_|refine zA ?_|refine zI bA ?_|refine zI rfl ?_|refine sB ?_|(refine zO ?_ ?_ ?_;omega;omega)|(refine zP ?_ ?_ ?_;omega;omega)|refine zM rfl ?_|(refine zQ ?_ ?_ ?_;omega;omega)|(refine zR ?_ ?_;omega)|(refine zI ?_ ?_;exact nA)|refine sS ?_|refine sF ?_|refine n0 ?_|refine sD ?_|intro _|refine zG ?_);conv=>whnf)|(refine zX (fun hc => ?_) (fun hc => ?_)<;>(try simp only [SY] at hc)<;>first|omega|(conv=>whnf)))
 all_goals first
  | (rw [h1 (by omega)]; exact PRet.pure (Wk.tup (.cons (Wk.int (by simp)) (.cons (Wk.tt rfl) .nil))))
  | (rw [h2 (by omega)]; exact PRet.pure (Wk.tup (.cons (Wk.int (by simp)) (.cons (Wk.ff rfl) .nil))))
def eaI (f : Int → Int) (x : Ins) : Ins := ⟨x.op, if gvB x = true then f x.d else x.d,
 if x.op = 1 ∨ x.op = 8 ∨ x.op = 10 ∨ x.op = 11 ∨ x.op = 14 ∨ x.op = 16 ∨ x.op = 17 ∨ x.op = 19 ∨ x.op = 22 ∨ x.op = 12 ∨ x.op = 13 then f x.a else x.a,
 if x.op = 12 ∨ x.op = 13 ∨ x.op = 18 ∨ x.op = 20 then f x.b else x.b, x.l.map f⟩
def ask1 (x : Ins) : List Int := if gvB x = true then [x.d] else []
def ask2 (x : Ins) : List Int := if x.op = 1 ∨ x.op = 8 ∨ x.op = 10 ∨ x.op = 11 ∨ x.op = 14 ∨ x.op = 16 ∨ x.op = 17 ∨ x.op = 19 ∨ x.op = 22 then [x.a] else if x.op = 12 ∨ x.op = 13 then [x.a, x.b] else if x.op = 18 ∨ x.op = 20 then [x.b] else []
def askL (x : Ins) : List Int := ask1 x ++ ask2 x ++ x.l
instance (priority := low) PickBox.app (Γ0 Γ : List Ent) (b : Nat) (cs : List PV) (put : List PV → List Ent) [h : PickBox Γ b cs put] : PickBox (Γ0 ++ Γ) b cs (fun cs' => Γ0 ++ put cs') := by
 obtain ⟨Γ1, Γ2, h1, h2⟩ := h.at_
 exact ⟨Γ0 ++ Γ1, Γ2, by rw [h1, List.append_assoc], fun cs' => by rw [h2, List.append_assoc]⟩
instance (priority := low) PickTok.app (Γ0 Γ : List Ent) (t : Tok) (put : Tok → List Ent) [h : PickTok Γ t put] : PickTok (Γ0 ++ Γ) t (fun t' => Γ0 ++ put t') := by
 obtain ⟨Γ1, Γ2, h1, h2⟩ := h.at_
 exact ⟨Γ0 ++ Γ1, Γ2, by rw [h1, List.append_assoc], fun t' => by rw [h2, List.append_assoc]⟩
theorem each17_c (x : Ins) (k : Nat) (cap : List PV) (f : Int → Int) (G : List Int → List Ent) (S : List Int) (hx : x.l.length ≤ 1000000) (hf : ∀ S r, r ∈ askL x → ACall Tryz.prog k (.int .i64 r :: cap) (G S) (fun y Γ' => y = .int .i64 (f r) ∧ Γ' = G (S ++ [r]))) :
    ACall Tryz.prog 112 [.agg x.cells, .fn (.func k) cap] (G S) (fun y Γ' => y = .agg (eaI f x).cells ∧ Γ' = G (S ++ askL x)) := by
  have hR1 : gvB x = true → (eaI f x).d = f x.d ∧ ask1 x = [x.d] := fun h => ⟨if_pos h, if_pos h⟩
  have hR2 : gvB x = false → (eaI f x).d = x.d ∧ ask1 x = [] := fun h => ⟨if_neg (by rw [h]; simp), if_neg (by rw [h]; simp)⟩
  have hA : (x.op = 1 ∨ x.op = 8 ∨ x.op = 10 ∨ x.op = 11 ∨ x.op = 14 ∨ x.op = 16 ∨ x.op = 17 ∨ x.op = 19 ∨ x.op = 22) → (eaI f x).a = f x.a ∧ (eaI f x).b = x.b ∧ ask2 x = [x.a] := fun h => ⟨if_pos (by omega), if_neg (by omega), if_pos h⟩
  have hB : (x.op = 12 ∨ x.op = 13) → (eaI f x).a = f x.a ∧ (eaI f x).b = f x.b ∧ ask2 x = [x.a, x.b] := fun h => ⟨if_pos (by omega), if_pos (by omega), (if_neg (by omega)).trans (if_pos h)⟩
  have hC : (x.op = 18 ∨ x.op = 20) → (eaI f x).a = x.a ∧ (eaI f x).b = f x.b ∧ ask2 x = [x.b] := fun h => ⟨if_neg (by omega), if_pos (by omega), (if_neg (by omega)).trans ((if_neg (by omega)).trans (if_pos h))⟩
  have hD : ¬(x.op = 1 ∨ x.op = 8 ∨ x.op = 10 ∨ x.op = 11 ∨ x.op = 14 ∨ x.op = 16 ∨ x.op = 17 ∨ x.op = 19 ∨ x.op = 22 ∨ x.op = 12 ∨ x.op = 13 ∨ x.op = 18 ∨ x.op = 20) → (eaI f x).a = x.a ∧ (eaI f x).b = x.b ∧ ask2 x = [] := fun h =>
    ⟨if_neg (by omega), if_neg (by omega), (if_neg (by omega)).trans ((if_neg (by omega)).trans (if_neg (by omega)))⟩
  have hRo : (eaI f x).op = x.op := rfl
  have hRl : (eaI f x).l = x.l.map f := rfl
  have hRc : (eaI f x).cells = [.int .i64 (eaI f x).op, .int .i64 (eaI f x).d, .int .i64 (eaI f x).a, .int .i64 (eaI f x).b, slI (eaI f x).l] := rfl
  have hf1 : ∀ S r, r ∈ ask1 x → ACall Tryz.prog k (.int .i64 r :: cap) (G S) (fun y Γ' => y = .int .i64 (f r) ∧ Γ' = G (S ++ [r])) := fun S r h => hf S r (by unfold askL; simp [h])
  have hf2 : ∀ S r, r ∈ ask2 x → ACall Tryz.prog k (.int .i64 r :: cap) (G S) (fun y Γ' => y = .int .i64 (f r) ∧ Γ' = G (S ++ [r])) := fun S r h => hf S r (by unfold askL; simp [h])
  have hf3 : ∀ S r, r ∈ x.l → ACall Tryz.prog k (.int .i64 r :: cap) (G S) (fun y Γ' => y = .int .i64 (f r) ∧ Γ' = G (S ++ [r])) := fun S r h => hf S r (by unfold askL; simp [h])
  have hal : askL x = ask1 x ++ ask2 x ++ x.l := rfl
  clear hf
  rw [hRc, hal]
  generalize eaI f x = R at *
  generalize ask1 x = a1 at *
  generalize ask2 x = a2 at *
  refine ACall.of_body tt_ok Tryz.func112 rfl rfl (n := 84) rfl rfl ?_
  conv => whnf
  repeat ((first|((first|(apply zY;intro hg)|apply zZ);first|exact stA|exact stB|((conv=>whnf);(repeat ((first|(refine zW ?_ ?_;exact gA)|refine pC (gives17_c _) wR ?_|refine pC (gives17_c _) cA ?_|refine zA ?_|refine zH rfl ?_|refine zB ?_|refine sG ?_|intro _);conv=>whnf));first|exact pS|exact pL|exact pE))|(refine zW ?_ ?_;exact gA)|refine zH rfl ?_|refine zA ?_|refine zI bA ?_|refine zI rfl ?_|refine sB ?_|(refine zO ?_ ?_ ?_;omega;omega)|(refine zP ?_ ?_ ?_;omega;omega)|refine zM rfl ?_|(refine zQ ?_ ?_ ?_;omega;omega)|(refine zR ?_ ?_;omega)|(refine zI ?_ ?_;exact nA)|refine sS ?_|refine pC (gives17_c _) wR ?_|refine pC (gives17_c _) cA ?_|refine sF ?_|refine n0 ?_|refine sD ?_|intro _);conv=>whnf)
  repeat ((first|((first|(apply zY;intro hg)|apply zZ);first|exact stA|exact stB|((conv=>whnf);(repeat ((first|(refine zW ?_ ?_;exact gA)|refine pC (gives17_c _) wR ?_|refine pC (gives17_c _) cA ?_|refine zA ?_|refine zH rfl ?_|refine zB ?_|refine sG ?_|intro _);conv=>whnf));first|exact pS|exact pL|exact pE))|(refine zW ?_ ?_;exact gA)|refine zH rfl ?_|refine zA ?_|refine zI bA ?_|refine zI rfl ?_|refine sB ?_|(refine zO ?_ ?_ ?_;omega;omega)|(refine zP ?_ ?_ ?_;omega;omega)|refine zM rfl ?_|(refine zQ ?_ ?_ ?_;omega;omega)|(refine zR ?_ ?_;omega)|(refine zI ?_ ?_;exact nA)|refine sS ?_|refine pC (gives17_c _) wR ?_|refine pC (gives17_c _) cA ?_|refine sF ?_|refine n0 ?_|refine sD ?_|intro _);conv=>whnf)
  rename_i b2 b4 b5
  refine PSeq.join (fun _ : Unit => []) (fun _ => .box b5 [.int .i64 x.op, .int .i64 R.d, .int .i64 x.a, .int .i64 x.b, .nil] :: .box b4 [.int .i64 0, .int .i64 0, .int .i64 0, .int .i64 0, .nil] :: .box b2 [.int .i64 x.op, .int .i64 x.d, .int .i64 x.a, .int .i64 x.b, slI x.l] :: G (S ++ a1)) (fun _ => True) ?_ ?_
  · conv => whnf
    repeat' (first|((first|((first|(apply zY;intro hg)|apply zZ);first|exact stA|exact stB|((conv=>whnf);(repeat ((first|(refine zW ?_ ?_;exact gA)|refine pC (gives17_c _) wR ?_|refine pC (gives17_c _) cA ?_|refine zA ?_|refine zH rfl ?_|refine zB ?_|refine sG ?_|intro _);conv=>whnf));first|exact pS|exact pL|exact pE))|(refine zW ?_ ?_;exact gA)|refine zH rfl ?_|refine zA ?_|refine zI bA ?_|refine zI rfl ?_|refine sB ?_|(refine zO ?_ ?_ ?_;omega;omega)|(refine zP ?_ ?_ ?_;omega;omega)|refine zM rfl ?_|(refine zQ ?_ ?_ ?_;omega;omega)|(refine zR ?_ ?_;omega)|(refine zI ?_ ?_;exact nA)|refine sS ?_|refine pC (gives17_c _) wR ?_|refine pC (gives17_c _) cA ?_|refine sF ?_|refine n0 ?_|refine sD ?_|intro _|refine zG ?_);conv=>whnf)|(refine zX (fun hc => ?_) (fun hc => ?_)<;>(try simp only [SY] at hc)<;>first|omega|(conv=>whnf)))
    · rw [if_pos hc]
      obtain ⟨e1, e2⟩ := hR1 hc
      refine PCall.goR [.box b5 [.int .i64 x.op, .int .i64 x.d, .int .i64 x.a, .int .i64 x.b, .nil], .box b4 [.int .i64 0, .int .i64 0, .int .i64 0, .int .i64 0, .nil], .box b2 [.int .i64 x.op, .int .i64 x.d, .int .i64 x.a, .int .i64 x.b, slI x.l]] (hf1 S x.d (by rw [e2]; simp)) (WkT.refl _) (List.Perm.refl _) ?_
      rintro _ Γ0 ⟨rfl, e0⟩
      rw [e0]
      clear e0
      conv => whnf
      repeat' (first|((first|((first|(apply zY;intro hg)|apply zZ);first|exact stA|exact stB|((conv=>whnf);(repeat ((first|(refine zW ?_ ?_;exact gA)|refine pC (gives17_c _) wR ?_|refine pC (gives17_c _) cA ?_|refine zA ?_|refine zH rfl ?_|refine zB ?_|refine sG ?_|intro _);conv=>whnf));first|exact pS|exact pL|exact pE))|(refine zW ?_ ?_;exact gA)|refine zH rfl ?_|refine zA ?_|refine zI bA ?_|refine zI rfl ?_|refine sB ?_|(refine zO ?_ ?_ ?_;omega;omega)|(refine zP ?_ ?_ ?_;omega;omega)|refine zM rfl ?_|(refine zQ ?_ ?_ ?_;omega;omega)|(refine zR ?_ ?_;omega)|(refine zI ?_ ?_;exact nA)|refine sS ?_|refine pC (gives17_c _) wR ?_|refine pC (gives17_c _) cA ?_|refine sF ?_|refine n0 ?_|refine sD ?_|intro _|refine zG ?_);conv=>whnf)|(refine zX (fun hc => ?_) (fun hc => ?_)<;>(try simp only [SY] at hc)<;>first|omega|(conv=>whnf)))
      rw [e1, e2]
      exact joinEndG () trivial wA (Ghost.boxH (WkL.refl _))
    · obtain ⟨e1, e2⟩ := hR2 hc
      rw [e1, e2, List.append_nil]
      exact joinEndG () trivial wA (Ghost.boxH (WkL.refl _))
  rintro ⟨⟩ -
  conv => whnf
  repeat ((first|((first|(apply zY;intro hg)|apply zZ);first|exact stA|exact stB|((conv=>whnf);(repeat ((first|(refine zW ?_ ?_;exact gA)|refine pC (gives17_c _) wR ?_|refine pC (gives17_c _) cA ?_|refine zA ?_|refine zH rfl ?_|refine zB ?_|refine sG ?_|intro _);conv=>whnf));first|exact pS|exact pL|exact pE))|(refine zW ?_ ?_;exact gA)|refine zH rfl ?_|refine zA ?_|refine zI bA ?_|refine zI rfl ?_|refine sB ?_|(refine zO ?_ ?_ ?_;omega;omega)|(refine zP ?_ ?_ ?_;omega;omega)|refine zM rfl ?_|(refine zQ ?_ ?_ ?_;omega;omega)|(refine zR ?_ ?_;omega)|(refine zI ?_ ?_;exact nA)|refine sS ?_|refine pC (gives17_c _) wR ?_|refine pC (gives17_c _) cA ?_|refine sF ?_|refine n0 ?_|refine sD ?_|intro _);conv=>whnf)
  refine PSeq.join (fun _ : Unit => []) (fun _ => .box b5 [.int .i64 R.op, .int .i64 R.d, .int .i64 R.a, .int .i64 R.b, .nil] :: .box b4 [.int .i64 0, .int .i64 0, .int .i64 0, .int .i64 0, .nil] :: .box b2 [.int .i64 x.op, .int .i64 x.d, .int .i64 x.a, .int .i64 x.b, slI x.l] :: G (S ++ a1 ++ a2)) (fun _ => True) ?_ ?_
  · conv => whnf
    repeat' (first|((first|((first|(apply zY;intro hg)|apply zZ);first|exact stA|exact stB|((conv=>whnf);(repeat ((first|(refine zW ?_ ?_;exact gA)|refine pC (gives17_c _) wR ?_|refine pC (gives17_c _) cA ?_|refine zA ?_|refine zH rfl ?_|refine zB ?_|refine sG ?_|intro _);conv=>whnf));first|exact pS|exact pL|exact pE))|(refine zW ?_ ?_;exact gA)|refine zH rfl ?_|refine zA ?_|refine zI bA ?_|refine zI rfl ?_|refine sB ?_|(refine zO ?_ ?_ ?_;omega;omega)|(refine zP ?_ ?_ ?_;omega;omega)|refine zM rfl ?_|(refine zQ ?_ ?_ ?_;omega;omega)|(refine zR ?_ ?_;omega)|(refine zI ?_ ?_;exact nA)|refine sS ?_|refine pC (gives17_c _) wR ?_|refine pC (gives17_c _) cA ?_|refine sF ?_|refine n0 ?_|refine sD ?_|intro _|refine zG ?_);conv=>whnf)|(refine zX (fun hc => ?_) (fun hc => ?_)<;>(try simp only [SY] at hc)<;>first|omega|(conv=>whnf)))
    all_goals first
      | (obtain ⟨e1, e2, e3⟩ := hD (by omega)
         rw [e1, e2, e3, List.append_nil, hRo]
         exact joinEndG () trivial wA (Ghost.boxH (WkL.refl _)))
      | (obtain ⟨e1, e2, e3⟩ := hA (by omega)
         refine PCall.goR [.box b5 [.int .i64 x.op, .int .i64 R.d, .int .i64 x.a, .int .i64 x.b, .nil], .box b4 [.int .i64 0, .int .i64 0, .int .i64 0, .int .i64 0, .nil], .box b2 [.int .i64 x.op, .int .i64 x.d, .int .i64 x.a, .int .i64 x.b, slI x.l]] (hf2 (S ++ a1) x.a (by rw [e3]; simp)) (WkT.refl _) (List.Perm.refl _) ?_
         rintro _ Γ0 ⟨rfl, e0⟩
         rw [e0]
         clear e0)
      | (obtain ⟨e1, e2, e3⟩ := hC (by omega)
         refine PCall.goR [.box b5 [.int .i64 x.op, .int .i64 R.d, .int .i64 x.a, .int .i64 x.b, .nil], .box b4 [.int .i64 0, .int .i64 0, .int .i64 0, .int .i64 0, .nil], .box b2 [.int .i64 x.op, .int .i64 x.d, .int .i64 x.a, .int .i64 x.b, slI x.l]] (hf2 (S ++ a1) x.b (by rw [e3]; simp)) (WkT.refl _) (List.Perm.refl _) ?_
         rintro _ Γ0 ⟨rfl, e0⟩
         rw [e0]
         clear e0)
      | (obtain ⟨e1, e2, e3⟩ := hB (by omega)
         refine PDraw.sE (G (S ++ a1)) [3, 7] [9, 10, 11] tt_ok mixed (hp := ⟨List.perm_append_comm (l₁ := ([.box b5 [.int .i64 x.op, .int .i64 R.d, .int .i64 x.a, .int .i64 x.b, .nil], .box b4 [.int .i64 0, .int .i64 0, .int .i64 0, .int .i64 0, .nil], .box b2 [.int .i64 x.op, .int .i64 x.d, .int .i64 x.a, .int .i64 x.b, slI x.l]] : List Ent))⟩) ?_)
    all_goals
      conv => whnf
      repeat' (first|((first|((first|(apply zY;intro hg)|apply zZ);first|exact stA|exact stB|((conv=>whnf);(repeat ((first|(refine zW ?_ ?_;exact gA)|refine pC (gives17_c _) wR ?_|refine pC (gives17_c _) cA ?_|refine zA ?_|refine zH rfl ?_|refine zB ?_|refine sG ?_|intro _);conv=>whnf));first|exact pS|exact pL|exact pE))|(refine zW ?_ ?_;exact gA)|refine zH rfl ?_|refine zA ?_|refine zI bA ?_|refine zI rfl ?_|refine sB ?_|(refine zO ?_ ?_ ?_;omega;omega)|(refine zP ?_ ?_ ?_;omega;omega)|refine zM rfl ?_|(refine zQ ?_ ?_ ?_;omega;omega)|(refine zR ?_ ?_;omega)|(refine zI ?_ ?_;exact nA)|refine sS ?_|refine pC (gives17_c _) wR ?_|refine pC (gives17_c _) cA ?_|refine sF ?_|refine n0 ?_|refine sD ?_|intro _|refine zG ?_);conv=>whnf)|(refine zX (fun hc => ?_) (fun hc => ?_)<;>(try simp only [SY] at hc)<;>first|omega|(conv=>whnf)))
    all_goals try (rw [e1, e2, e3, hRo]; exact joinEndG () trivial wA (Ghost.boxH (WkL.refl _)))
    all_goals
      refine PCall.same (hf2 (S ++ a1) x.a (by rw [e3]; simp)) (WkT.refl _) ?_
      rintro _ _ ⟨rfl, rfl⟩
      conv => whnf
      repeat' (first|((first|((first|(apply zY;intro hg)|apply zZ);first|exact stA|exact stB|((conv=>whnf);(repeat ((first|(refine zW ?_ ?_;exact gA)|refine pC (gives17_c _) wR ?_|refine pC (gives17_c _) cA ?_|refine zA ?_|refine zH rfl ?_|refine zB ?_|refine sG ?_|intro _);conv=>whnf));first|exact pS|exact pL|exact pE))|(refine zW ?_ ?_;exact gA)|refine zH rfl ?_|refine zA ?_|refine zI bA ?_|refine zI rfl ?_|refine sB ?_|(refine zO ?_ ?_ ?_;omega;omega)|(refine zP ?_ ?_ ?_;omega;omega)|refine zM rfl ?_|(refine zQ ?_ ?_ ?_;omega;omega)|(refine zR ?_ ?_;omega)|(refine zI ?_ ?_;exact nA)|refine sS ?_|refine pC (gives17_c _) wR ?_|refine pC (gives17_c _) cA ?_|refine sF ?_|refine n0 ?_|refine sD ?_|intro _|refine zG ?_);conv=>whnf)|(refine zX (fun hc => ?_) (fun hc => ?_)<;>(try simp only [SY] at hc)<;>first|omega|(conv=>whnf)))
      refine PCall.same (hf2 (S ++ a1 ++ [x.a]) x.b (by rw [e3]; simp)) (WkT.refl _) ?_
      rintro _ _ ⟨rfl, rfl⟩
      rw [show S ++ a1 ++ [x.a] ++ [x.b] = S ++ a1 ++ [x.a, x.b] by simp]
      conv => whnf
      repeat' (first|((first|((first|(apply zY;intro hg)|apply zZ);first|exact stA|exact stB|((conv=>whnf);(repeat ((first|(refine zW ?_ ?_;exact gA)|refine pC (gives17_c _) wR ?_|refine pC (gives17_c _) cA ?_|refine zA ?_|refine zH rfl ?_|refine zB ?_|refine sG ?_|intro _);conv=>whnf));first|exact pS|exact pL|exact pE))|(refine zW ?_ ?_;exact gA)|refine zH rfl ?_|refine zA ?_|refine zI bA ?_|refine zI rfl ?_|refine sB ?_|(refine zO ?_ ?_ ?_;omega;omega)|(refine zP ?_ ?_ ?_;omega;omega)|refine zM rfl ?_|(refine zQ ?_ ?_ ?_;omega;omega)|(refine zR ?_ ?_;omega)|(refine zI ?_ ?_;exact nA)|refine sS ?_|refine pC (gives17_c _) wR ?_|refine pC (gives17_c _) cA ?_|refine sF ?_|refine n0 ?_|refine sD ?_|intro _|refine zG ?_);conv=>whnf)|(refine zX (fun hc => ?_) (fun hc => ?_)<;>(try simp only [SY] at hc)<;>first|omega|(conv=>whnf)))
      rw [appE_eq]
      conv => whnf
      repeat' (first|((first|((first|(apply zY;intro hg)|apply zZ);first|exact stA|exact stB|((conv=>whnf);(repeat ((first|(refine zW ?_ ?_;exact gA)|refine pC (gives17_c _) wR ?_|refine pC (gives17_c _) cA ?_|refine zA ?_|refine zH rfl ?_|refine zB ?_|refine sG ?_|intro _);conv=>whnf));first|exact pS|exact pL|exact pE))|(refine zW ?_ ?_;exact gA)|refine zH rfl ?_|refine zA ?_|refine zI bA ?_|refine zI rfl ?_|refine sB ?_|(refine zO ?_ ?_ ?_;omega;omega)|(refine zP ?_ ?_ ?_;omega;omega)|refine zM rfl ?_|(refine zQ ?_ ?_ ?_;omega;omega)|(refine zR ?_ ?_;omega)|(refine zI ?_ ?_;exact nA)|refine sS ?_|refine pC (gives17_c _) wR ?_|refine pC (gives17_c _) cA ?_|refine sF ?_|refine n0 ?_|refine sD ?_|intro _|refine zG ?_);conv=>whnf)|(refine zX (fun hc => ?_) (fun hc => ?_)<;>(try simp only [SY] at hc)<;>first|omega|(conv=>whnf)))
      rw [e1, e2, e3, hRo]
      exact joinEndG () trivial wA (Ghost.drop (Γ1 := []) (by rw [List.append_nil]; exact List.perm_append_comm))
  rintro ⟨⟩ -
  conv => whnf
  repeat ((first|((first|(apply zY;intro hg)|apply zZ);first|exact stA|exact stB|((conv=>whnf);(repeat ((first|(refine zW ?_ ?_;exact gA)|refine pC (gives17_c _) wR ?_|refine pC (gives17_c _) cA ?_|refine zA ?_|refine zH rfl ?_|refine zB ?_|refine sG ?_|intro _);conv=>whnf));first|exact pS|exact pL|exact pE))|(refine zW ?_ ?_;exact gA)|refine zH rfl ?_|refine zA ?_|refine zI bA ?_|refine zI rfl ?_|refine sB ?_|(refine zO ?_ ?_ ?_;omega;omega)|(refine zP ?_ ?_ ?_;omega;omega)|refine zM rfl ?_|(refine zQ ?_ ?_ ?_;omega;omega)|(refine zR ?_ ?_;omega)|(refine zI ?_ ?_;exact nA)|refine sS ?_|refine pC (gives17_c _) wR ?_|refine pC (gives17_c _) cA ?_|refine sF ?_|refine n0 ?_|refine sD ?_|intro _);conv=>whnf)
  refine PLoop.ghost (Ghost.trans (Ghost.nil 1 3 _) (Ghost.box (b := b5) (cs := [.int .i64 R.op, .int .i64 R.d, .int .i64 R.a, .int .i64 R.b, .nil]) (cs' := [.int .i64 R.op, .int .i64 R.d, .int .i64 R.a, .int .i64 R.b, .sl 1 (([] : List Int).map (PV.int .i64)) (some (nilTok 1 3))]) wA)) ?_
  refine PLoop.over [9, 70, 71, 72, 73, 74, 75, 76, 77, 78, 79, 80, 81, 82] (fun y : Nat × List Int × Tok => [(70, .int .i64 y.1)]) (fun y => .box b5 [.int .i64 R.op, .int .i64 R.d, .int .i64 R.a, .int .i64 R.b, .sl 1 (y.2.1.map (PV.int .i64)) (some y.2.2)] :: .tok y.2.2 :: .box b4 [.int .i64 0, .int .i64 0, .int .i64 0, .int .i64 0, .nil] :: .box b2 [.int .i64 x.op, .int .i64 x.d, .int .i64 x.a, .int .i64 x.b, slI x.l] :: G (S ++ a1 ++ a2 ++ x.l.take y.1)) (fun y => y.1 ≤ x.l.length ∧ y.2.2.e = 3 ∧ y.2.1 = (x.l.take y.1).map f) (fun y => x.l.length - y.1) (0, [], nilTok 1 3) ⟨Nat.zero_le _, rfl, rfl⟩ wA (hp := ⟨by simp only [List.take_zero, List.append_nil]; exact List.Perm.refl _⟩) (Γ1 := []) ?_
  rintro ⟨i, out, t⟩ ⟨hi, hte, ho⟩
  dsimp only at hi hte ho ⊢
  have hol := congrArg List.length ho
  rw [List.length_map, List.length_take] at hol
  rcases Nat.lt_or_ge i x.l.length with hil | hil
  · conv => whnf
    repeat' (first|((first|((first|(apply zY;intro hg)|apply zZ);first|exact stA|exact stB|((conv=>whnf);(repeat ((first|(refine zW ?_ ?_;exact gA)|refine pC (gives17_c _) wR ?_|refine pC (gives17_c _) cA ?_|refine zA ?_|refine zH rfl ?_|refine zB ?_|refine sG ?_|intro _);conv=>whnf));first|exact pS|exact pL|exact pE))|(refine zW ?_ ?_;exact gA)|refine zH rfl ?_|refine zA ?_|refine zI bA ?_|refine zI rfl ?_|refine sB ?_|(refine zO ?_ ?_ ?_;omega;omega)|(refine zP ?_ ?_ ?_;omega;omega)|refine zM rfl ?_|(refine zQ ?_ ?_ ?_;omega;omega)|(refine zR ?_ ?_;omega)|(refine zI ?_ ?_;exact nA)|refine sS ?_|refine pC (gives17_c _) wR ?_|refine pC (gives17_c _) cA ?_|refine sF ?_|refine n0 ?_|refine sD ?_|intro _|refine zG ?_);conv=>whnf)|(refine zX (fun hc => ?_) (fun hc => ?_)<;>(try simp only [SY] at hc)<;>first|omega|(conv=>whnf)))
    refine PDraw.sE (G (S ++ a1 ++ a2 ++ x.l.take i)) [4, 5] [6, 7, 8] tt_ok mixed (hp := ⟨List.perm_append_comm (l₁ := ([.box b5 [.int .i64 R.op, .int .i64 R.d, .int .i64 R.a, .int .i64 R.b, .sl 1 (out.map (PV.int .i64)) (some t)], .tok t, .box b4 [.int .i64 0, .int .i64 0, .int .i64 0, .int .i64 0, .nil], .box b2 [.int .i64 x.op, .int .i64 x.d, .int .i64 x.a, .int .i64 x.b, slI x.l]] : List Ent))⟩) ?_
    conv => whnf
    conv => whnf
    repeat' (first|((first|((first|(apply zY;intro hg)|apply zZ);first|exact stA|exact stB|((conv=>whnf);(repeat ((first|(refine zW ?_ ?_;exact gA)|refine pC (gives17_c _) wR ?_|refine pC (gives17_c _) cA ?_|refine zA ?_|refine zH rfl ?_|refine zB ?_|refine sG ?_|intro _);conv=>whnf));first|exact pS|exact pL|exact pE))|(refine zW ?_ ?_;exact gA)|refine zH rfl ?_|refine zA ?_|refine zI bA ?_|refine zI rfl ?_|refine sB ?_|(refine zO ?_ ?_ ?_;omega;omega)|(refine zP ?_ ?_ ?_;omega;omega)|refine zM rfl ?_|(refine zQ ?_ ?_ ?_;omega;omega)|(refine zR ?_ ?_;omega)|(refine zI ?_ ?_;exact nA)|refine sS ?_|refine pC (gives17_c _) wR ?_|refine pC (gives17_c _) cA ?_|refine sF ?_|refine n0 ?_|refine sD ?_|intro _|refine zG ?_);conv=>whnf)|(refine zX (fun hc => ?_) (fun hc => ?_)<;>(try simp only [SY] at hc)<;>first|omega|(conv=>whnf)))
    refine PCall.same (hf3 (S ++ a1 ++ a2 ++ x.l.take i) x.l[i] (List.getElem_mem _)) (WkT.refl _) ?_
    rintro _ _ ⟨rfl, rfl⟩
    conv => whnf
    repeat' (first|((first|((first|(apply zY;intro hg)|apply zZ);first|exact stA|exact stB|((conv=>whnf);(repeat ((first|(refine zW ?_ ?_;exact gA)|refine pC (gives17_c _) wR ?_|refine pC (gives17_c _) cA ?_|refine zA ?_|refine zH rfl ?_|refine zB ?_|refine sG ?_|intro _);conv=>whnf));first|exact pS|exact pL|exact pE))|(refine zW ?_ ?_;exact gA)|refine zH rfl ?_|refine zA ?_|refine zI bA ?_|refine zI rfl ?_|refine sB ?_|(refine zO ?_ ?_ ?_;omega;omega)|(refine zP ?_ ?_ ?_;omega;omega)|refine zM rfl ?_|(refine zQ ?_ ?_ ?_;omega;omega)|(refine zR ?_ ?_;omega)|(refine zI ?_ ?_;exact nA)|refine sS ?_|refine pC (gives17_c _) wR ?_|refine pC (gives17_c _) cA ?_|refine sF ?_|refine n0 ?_|refine sD ?_|intro _|refine zG ?_);conv=>whnf)|(refine zX (fun hc => ?_) (fun hc => ?_)<;>(try simp only [SY] at hc)<;>first|omega|(conv=>whnf)))
    rw [appE_eq]
    conv => whnf
    repeat' (first|((first|((first|(apply zY;intro hg)|apply zZ);first|exact stA|exact stB|((conv=>whnf);(repeat ((first|(refine zW ?_ ?_;exact gA)|refine pC (gives17_c _) wR ?_|refine pC (gives17_c _) cA ?_|refine zA ?_|refine zH rfl ?_|refine zB ?_|refine sG ?_|intro _);conv=>whnf));first|exact pS|exact pL|exact pE))|(refine zW ?_ ?_;exact gA)|refine zH rfl ?_|refine zA ?_|refine zI bA ?_|refine zI rfl ?_|refine sB ?_|(refine zO ?_ ?_ ?_;omega;omega)|(refine zP ?_ ?_ ?_;omega;omega)|refine zM rfl ?_|(refine zQ ?_ ?_ ?_;omega;omega)|(refine zR ?_ ?_;omega)|(refine zI ?_ ?_;exact nA)|refine sS ?_|refine pC (gives17_c _) wR ?_|refine pC (gives17_c _) cA ?_|refine sF ?_|refine n0 ?_|refine sD ?_|intro _|refine zG ?_);conv=>whnf)|(refine zX (fun hc => ?_) (fun hc => ?_)<;>(try simp only [SY] at hc)<;>first|omega|(conv=>whnf)))
    exact loopTo (i + 1, out ++ [f x.l[i]], _) ⟨by show i + 1 ≤ _; omega, by assumption, by dsimp only; rw [List.take_succ_eq_append_getElem hil, List.map_append, ← ho]; rfl⟩ (by show x.l.length - (i + 1) < x.l.length - i; omega) wA (hp := ⟨by
      dsimp only
      rw [show S ++ a1 ++ a2 ++ x.l.take (i + 1) = S ++ a1 ++ a2 ++ x.l.take i ++ [x.l[i]] by rw [List.take_succ_eq_append_getElem hil, ← List.append_assoc]]
      exact ((List.perm_append_comm).cons _).trans (List.perm_append_singleton _ _).symm⟩)
  · conv => whnf
    repeat' (first|((first|((first|(apply zY;intro hg)|apply zZ);first|exact stA|exact stB|((conv=>whnf);(repeat ((first|(refine zW ?_ ?_;exact gA)|refine pC (gives17_c _) wR ?_|refine pC (gives17_c _) cA ?_|refine zA ?_|refine zH rfl ?_|refine zB ?_|refine sG ?_|intro _);conv=>whnf));first|exact pS|exact pL|exact pE))|(refine zW ?_ ?_;exact gA)|refine zH rfl ?_|refine zA ?_|refine zI bA ?_|refine zI rfl ?_|refine sB ?_|(refine zO ?_ ?_ ?_;omega;omega)|(refine zP ?_ ?_ ?_;omega;omega)|refine zM rfl ?_|(refine zQ ?_ ?_ ?_;omega;omega)|(refine zR ?_ ?_;omega)|(refine zI ?_ ?_;exact nA)|refine sS ?_|refine pC (gives17_c _) wR ?_|refine pC (gives17_c _) cA ?_|refine sF ?_|refine n0 ?_|refine sD ?_|intro _|refine zG ?_);conv=>whnf)|(refine zX (fun hc => ?_) (fun hc => ?_)<;>(try simp only [SY] at hc)<;>first|omega|(conv=>whnf)))
    obtain rfl : i = x.l.length := by omega
    rw [List.take_length] at ho ⊢
    rw [hRl, ← ho, List.append_assoc S, List.append_assoc S]
    refine PRet.mk' (Γ1 := [_, _, _, _]) (Wk.agg (.cons (Wk.refl _) (.cons (Wk.refl _) (.cons (Wk.refl _) (.cons (Wk.refl _) (.cons (Wk.tok _ _ _) .nil)))))) (List.perm_append_comm (l₁ := ([_, _, _, _] : List Ent))) ⟨rfl, rfl⟩
theorem setM_snoc (S : List Int) (q : Int) : setM (q :: S) = setM (S ++ [q]) := setM_congr fun x => by simp [or_comm]
theorem mark17_c (b r : Nat) (S : List Int) (q : Int) : ACall Tryz.prog 113 [.int .i64 q, .ptr b 0] [.box b [.mp r], .mp r (.int .i64) (setM S) []] (fun y Γ' => y = .int .i64 q ∧ Γ' = [.box b [.mp r], .mp r (.int .i64) (setM (S ++ [q])) []]) := by
 refine ACall.of_body tt_ok Tryz.func113 rfl rfl (n := 7) rfl rfl ?_
 conv => whnf
 repeat' (first|((first|((first|(apply zY;intro hg)|apply zZ);first|exact stA|exact stB|((conv=>whnf);(repeat ((first|(refine zW ?_ ?_;exact gA)|refine pC (gives17_c _) wR ?_|refine pC (gives17_c _) cA ?_|refine zA ?_|refine zH rfl ?_|refine zB ?_|refine sG ?_|intro _);conv=>whnf));first|exact pS|exact pL|exact pE))|(refine zW ?_ ?_;exact gA)|refine zH rfl ?_|refine zA ?_|refine zI bA ?_|refine zI rfl ?_|refine sB ?_|(refine zO ?_ ?_ ?_;omega;omega)|(refine zP ?_ ?_ ?_;omega;omega)|refine zM rfl ?_|(refine zQ ?_ ?_ ?_;omega;omega)|(refine zR ?_ ?_;omega)|(refine zI ?_ ?_;exact nA)|refine sS ?_|refine pC (gives17_c _) wR ?_|refine pC (gives17_c _) cA ?_|refine sF ?_|refine n0 ?_|refine sD ?_|intro _|refine zG ?_);conv=>whnf)|(refine zX (fun hc => ?_) (fun hc => ?_)<;>(try simp only [SY] at hc)<;>first|omega|(conv=>whnf)))
 rw [setM_snoc]
 exact PRet.gen (Wk.refl _) ⟨rfl, rfl⟩
theorem read17_c (b pw rf rs rh : Nat) (m : Int → Option Int) (q : Int) : ACall Tryz.prog 118 [.int .i64 q, .ptr b 0] [.box b [.ptr pw 0], .box pw [.mp rf, .mp rs, .mp rh], .mp rs (.int .i64) (mapM (PV.int .i64) m) []] (fun y Γ' => y = .int .i64 ((m q).getD 0) ∧ Γ' = [.box b [.ptr pw 0], .box pw [.mp rf, .mp rs, .mp rh], .mp rs (.int .i64) (mapM (PV.int .i64) m) []]) := by
 refine ACall.of_body tt_ok Tryz.func118 rfl rfl (n := 10) rfl rfl ?_
 conv => whnf
 repeat' (first|((first|((first|(apply zY;intro hg)|apply zZ);first|exact stA|exact stB|((conv=>whnf);(repeat ((first|(refine zW ?_ ?_;exact gA)|refine pC (gives17_c _) wR ?_|refine pC (gives17_c _) cA ?_|refine zA ?_|refine zH rfl ?_|refine zB ?_|refine sG ?_|intro _);conv=>whnf));first|exact pS|exact pL|exact pE))|(refine zW ?_ ?_;exact gA)|refine zH rfl ?_|refine zA ?_|refine zI bA ?_|refine zI rfl ?_|refine sB ?_|(refine zO ?_ ?_ ?_;omega;omega)|(refine zP ?_ ?_ ?_;omega;omega)|refine zM rfl ?_|(refine zQ ?_ ?_ ?_;omega;omega)|(refine zR ?_ ?_;omega)|(refine zI ?_ ?_;exact nA)|refine sS ?_|refine pC (gives17_c _) wR ?_|refine pC (gives17_c _) cA ?_|refine sF ?_|refine n0 ?_|refine sD ?_|intro _|refine zG ?_);conv=>whnf)|(refine zX (fun hc => ?_) (fun hc => ?_)<;>(try simp only [SY] at hc)<;>first|omega|(conv=>whnf)))
 cases hm : m q with
 | none =>
  refine yI hm ?_
  conv => whnf
  repeat' (first|((first|((first|(apply zY;intro hg)|apply zZ);first|exact stA|exact stB|((conv=>whnf);(repeat ((first|(refine zW ?_ ?_;exact gA)|refine pC (gives17_c _) wR ?_|refine pC (gives17_c _) cA ?_|refine zA ?_|refine zH rfl ?_|refine zB ?_|refine sG ?_|intro _);conv=>whnf));first|exact pS|exact pL|exact pE))|(refine zW ?_ ?_;exact gA)|refine zH rfl ?_|refine zA ?_|refine zI bA ?_|refine zI rfl ?_|refine sB ?_|(refine zO ?_ ?_ ?_;omega;omega)|(refine zP ?_ ?_ ?_;omega;omega)|refine zM rfl ?_|(refine zQ ?_ ?_ ?_;omega;omega)|(refine zR ?_ ?_;omega)|(refine zI ?_ ?_;exact nA)|refine sS ?_|refine pC (gives17_c _) wR ?_|refine pC (gives17_c _) cA ?_|refine sF ?_|refine n0 ?_|refine sD ?_|intro _|refine zG ?_);conv=>whnf)|(refine zX (fun hc => ?_) (fun hc => ?_)<;>(try simp only [SY] at hc)<;>first|omega|(conv=>whnf)))
  exact PRet.gen (Wk.refl _) ⟨rfl, rfl⟩
 | some x =>
  refine yH hm ?_
  conv => whnf
  repeat' (first|((first|((first|(apply zY;intro hg)|apply zZ);first|exact stA|exact stB|((conv=>whnf);(repeat ((first|(refine zW ?_ ?_;exact gA)|refine pC (gives17_c _) wR ?_|refine pC (gives17_c _) cA ?_|refine zA ?_|refine zH rfl ?_|refine zB ?_|refine sG ?_|intro _);conv=>whnf));first|exact pS|exact pL|exact pE))|(refine zW ?_ ?_;exact gA)|refine zH rfl ?_|refine zA ?_|refine zI bA ?_|refine zI rfl ?_|refine sB ?_|(refine zO ?_ ?_ ?_;omega;omega)|(refine zP ?_ ?_ ?_;omega;omega)|refine zM rfl ?_|(refine zQ ?_ ?_ ?_;omega;omega)|(refine zR ?_ ?_;omega)|(refine zI ?_ ?_;exact nA)|refine sS ?_|refine pC (gives17_c _) wR ?_|refine pC (gives17_c _) cA ?_|refine sF ?_|refine n0 ?_|refine sD ?_|intro _|refine zG ?_);conv=>whnf)|(refine zX (fun hc => ?_) (fun hc => ?_)<;>(try simp only [SY] at hc)<;>first|omega|(conv=>whnf)))
  exact PRet.gen (Wk.refl _) ⟨rfl, rfl⟩
end Go.Cb
namespace Go.Cb
open Go.Proofs
set_option maxRecDepth 100000
set_option maxHeartbeats 4000000
abbrev Hld := List (List Int × Tok)
abbrev hPV (x : List Int × Tok) : PV := .sl 1 (x.1.map (PV.int .i64)) (some x.2)
def hM (H : Hld) (s : Int) : Option (List Int × Tok) := if s < 0 then none else H[s.toNat]?
def toksE (H : Hld) : List Ent := H.map fun x => .tok x.2
def putH : Hld → Nat → Int → Tok → Hld
 | [], _, r, t => [([r], t)]
 | x :: H, 0, r, t => (x.1 ++ [r], t) :: H
 | x :: H, s + 1, r, t => x :: putH H s r t
def regH (H : Hld) (s : Nat) : List Int := (H.getD s ([], nilTok 1 3)).1
def tokH (H : Hld) (s : Nat) : Tok := (H.getD s ([], nilTok 1 3)).2
theorem putH_get : ∀ (H : Hld) (s : Nat) (r : Int) (t : Tok), s ≤ H.length → ∀ j, (putH H s r t)[j]? = if j = s then some (regH H s ++ [r], t) else H[j]?
 | [], s, r, t, h, j => by
  obtain rfl : s = 0 := by simpa using h
  cases j with
  | zero => rfl
  | succ j => rw [if_neg (by omega)]; rfl
 | x :: H, 0, r, t, h, j => by
  cases j with
  | zero => rfl
  | succ j => rw [if_neg (by omega)]; rfl
 | x :: H, s + 1, r, t, h, j => by
  cases j with
  | zero => rw [if_neg (by omega)]; rfl
  | succ j =>
   have ih := putH_get H s r t (by simpa using h) j
   show (putH H s r t)[j]? = _
   rw [ih]
   by_cases e : j = s
   ·rw [if_pos e, if_pos (by omega)]; rfl
   ·rw [if_neg e, if_neg (by omega)]; rfl
theorem putH_len : ∀ (H : Hld) (s : Nat) (r : Int) (t : Tok), s ≤ H.length → (putH H s r t).length = if s = H.length then H.length + 1 else H.length
 | [], s, r, t, h => by
  obtain rfl : s = 0 := by simpa using h
  rfl
 | x :: H, 0, r, t, h => by rw [if_neg (by simp)]; rfl
 | x :: H, s + 1, r, t, h => by
  have ih := putH_len H s r t (by simpa using h)
  rw [putH, List.length_cons, List.length_cons, ih]
  by_cases e : s = H.length
  ·rw [if_pos e, if_pos (by omega)]
  ·rw [if_neg e, if_neg (by omega)]
theorem hM_put (H : Hld) (s : Nat) (r : Int) (t : Tok) (hs : s ≤ H.length) : hM (putH H s r t) = upd (hM H) s (regH H s ++ [r], t) := by
 funext k
 unfold hM upd
 dsimp only
 by_cases h : k < 0
 ·rw [if_pos h, if_neg (by omega), if_pos h]
 ·rw [if_neg h, if_neg h, putH_get H s r t hs]
  by_cases e : k = s
  ·rw [if_pos (by omega), if_pos e]
  ·rw [if_neg (by omega), if_neg e]
theorem toksE_put : ∀ (H : Hld) (s : Nat) (r : Int) (t : Tok), s ≤ H.length → (toksE (putH H s r t)).Perm (.tok t :: toksE (H.eraseIdx s))
 | [], s, r, t, h => List.Perm.refl _
 | x :: H, 0, r, t, h => List.Perm.refl _
 | x :: H, s + 1, r, t, h => ((toksE_put H s r t (by simpa using h)).cons _).trans (List.Perm.swap ..)
theorem toksE_at : ∀ (H : Hld) (s : Nat), s < H.length → (toksE H).Perm (.tok (tokH H s) :: toksE (H.eraseIdx s))
 | [], s, h => by simp at h
 | x :: H, 0, h => List.Perm.refl _
 | x :: H, s + 1, h => ((toksE_at H s (by simpa using h)).cons _).trans (List.Perm.swap ..)
theorem toksE_end (H : Hld) : toksE (H.eraseIdx H.length) = toksE H := by
 rw [List.eraseIdx_of_length_le (Nat.le_refl _)]
theorem Ghost.holder (H : Hld) (s : Nat) (hs : s ≤ H.length) (a b c : Ent) : Ghost (a :: b :: c :: toksE H) (.tok (tokH H s) :: a :: b :: c :: toksE (H.eraseIdx s)) := by
 rcases Nat.lt_or_ge s H.length with h | h
 ·refine Ghost.drop (Γ1 := []) ?_
  rw [List.append_nil]
  have h1 := ((((toksE_at H s h).cons c).cons b).cons a)
  refine h1.trans ?_
  exact (List.perm_middle (l₁ := [a, b, c]))
 ·obtain rfl : s = H.length := by omega
  rw [toksE_end]
  have e : tokH H H.length = nilTok 1 3 := by unfold tokH; rw [List.getD_eq_getElem?_getD, List.getElem?_eq_none (Nat.le_refl _)]; rfl
  rw [e]
  exact Ghost.nil 1 3 _
theorem PLook.hold {r : Nat} {H : Hld} {s : Nat} {Γ : List Ent} {pend : List (Int × Value)} {put : (Value → Option PV) → List (Int × Value) → List Ent} [hp : PickMp Γ r (.int .i64) (mapM hPV (hM H)) pend put] {K : PV → Bool → Prop}
  (h : ∀ b, K (.sl 1 ((regH H s).map (PV.int .i64)) (some (tokH H s))) b) : PLook r (.int .i64) (some (.int .i64 (s : Int))) .nil Γ K := by
 refine PLook.at_ (hp := hp) (.sl 1 ((regH H s).map (PV.int .i64)) (some (tokH H s))) (H[s]?).isSome (by simp [IsK, MapKept.IsKey]) (fun p hp => ?_) (fun hn => ?_) (h _)
 ·simp only [mapM, hM] at hp
  rw [if_neg (by omega), Int.toNat_natCast] at hp
  cases hx : H[s]? with
  | none => rw [hx] at hp; cases hp
  | some x =>
   rw [hx] at hp
   cases hp
   have e : H.getD s ([], nilTok 1 3) = x := by rw [List.getD_eq_getElem?_getD, hx]; rfl
   refine ⟨?_, rfl⟩
   unfold regH tokH
   rw [e]
   exact Wk.refl _
 ·simp only [mapM, hM] at hn
  rw [if_neg (by omega), Int.toNat_natCast] at hn
  cases hx : H[s]? with
  | some x => rw [hx] at hn; cases hn
  | none =>
   have e : H.getD s ([], nilTok 1 3) = ([], nilTok 1 3) := by rw [List.getD_eq_getElem?_getD, hx]; rfl
   refine ⟨?_, rfl⟩
   unfold regH tokH
   rw [e]
   exact Wk.nilTok _ _
theorem fix17_c (pw rf rs rh : Nat) (m : Int → Option Int) (H : Hld) (r : Int) (s : Nat) (hs : s ≤ H.length) (hte : ∀ x ∈ H, x.2.e = 3) (hl : (regH H s).length ≤ 1000000) :
  ACall Tryz.prog 116 [.ptr pw 0, .int .i64 r, .int .i64 s] (.box pw [.mp rf, .mp rs, .mp rh] :: .mp rs (.int .i64) (mapM (PV.int .i64) m) [] :: .mp rh (.int .i64) (mapM hPV (hM H)) [] :: toksE H)
   (fun _ Γ' => ∃ t : Tok, t.e = 3 ∧ Γ' = .box pw [.mp rf, .mp rs, .mp rh] :: .mp rs (.int .i64) (mapM (PV.int .i64) (upd m r s)) [] :: .mp rh (.int .i64) (mapM hPV (hM (putH H s r t))) [] :: toksE (putH H s r t)) := by
 have htk : (tokH H s).e = 3 := by
  unfold tokH
  rw [List.getD_eq_getElem?_getD]
  cases hx : H[s]? with
  | none => rfl
  | some x => exact hte x (List.mem_of_getElem? hx)
 refine ACall.ghost (Ghost.holder H s hs _ _ _) ?_
 refine ACall.of_body tt_ok Tryz.func116 rfl rfl (n := 26) rfl rfl ?_
 conv => whnf
 repeat' (first|((first|((first|(apply zY;intro hg)|apply zZ);first|exact stA|exact stB|((conv=>whnf);(repeat ((first|(refine zW ?_ ?_;exact gA)|refine PMapPut.num (f := PV.int .i64) _ rfl ?_|refine PLook.hold fun _ => ?_|refine PMapPut.num (f := hPV) (regH H s ++ [r], _) rfl ?_|refine zA ?_|refine zH rfl ?_|refine zB ?_|refine sG ?_|intro _);conv=>whnf));first|exact pS|exact pL|exact pE))|(refine zW ?_ ?_;exact gA)|refine zH rfl ?_|refine zA ?_|refine zI bA ?_|refine zI rfl ?_|refine sB ?_|(refine zO ?_ ?_ ?_;omega;omega)|(refine zP ?_ ?_ ?_;omega;omega)|refine zM rfl ?_|(refine zQ ?_ ?_ ?_;omega;omega)|(refine zR ?_ ?_;omega)|(refine zI ?_ ?_;exact nA)|refine sS ?_|refine PMapPut.num (f := PV.int .i64) _ rfl ?_|refine PLook.hold fun _ => ?_|refine PMapPut.num (f := hPV) (regH H s ++ [r], _) rfl ?_|refine sF ?_|refine n0 ?_|refine sD ?_|refine PDraw.sT (some 12) rfl [13] [14] tt_ok mixed ?_|intro _|refine zG ?_);conv=>whnf)|(refine zX (fun hc => ?_) (fun hc => ?_)<;>(try simp only [SY] at hc)<;>first|omega|(conv=>whnf)))
 refine PDraw.sE [.tok (tokH H s)] [13] [14] tt_ok mixed ?_
 conv=>whnf
 conv => whnf
 repeat' (first|((first|((first|(apply zY;intro hg)|apply zZ);first|exact stA|exact stB|((conv=>whnf);(repeat ((first|(refine zW ?_ ?_;exact gA)|refine PMapPut.num (f := PV.int .i64) _ rfl ?_|refine PLook.hold fun _ => ?_|refine PMapPut.num (f := hPV) (regH H s ++ [r], _) rfl ?_|refine zA ?_|refine zH rfl ?_|refine zB ?_|refine sG ?_|intro _);conv=>whnf));first|exact pS|exact pL|exact pE))|(refine zW ?_ ?_;exact gA)|refine zH rfl ?_|refine zA ?_|refine zI bA ?_|refine zI rfl ?_|refine sB ?_|(refine zO ?_ ?_ ?_;omega;omega)|(refine zP ?_ ?_ ?_;omega;omega)|refine zM rfl ?_|(refine zQ ?_ ?_ ?_;omega;omega)|(refine zR ?_ ?_;omega)|(refine zI ?_ ?_;exact nA)|refine sS ?_|refine PMapPut.num (f := PV.int .i64) _ rfl ?_|refine PLook.hold fun _ => ?_|refine PMapPut.num (f := hPV) (regH H s ++ [r], _) rfl ?_|refine sF ?_|refine n0 ?_|refine sD ?_|refine PDraw.sT (some 12) rfl [13] [14] tt_ok mixed ?_|intro _|refine zG ?_);conv=>whnf)|(refine zX (fun hc => ?_) (fun hc => ?_)<;>(try simp only [SY] at hc)<;>first|omega|(conv=>whnf)))
 rename_i t9 ht9
 rw [← hM_put H s r t9 hs]
 refine PRet.mk' (Γ1 := []) (Wk.refl _) ?_ ⟨t9, ht9, rfl⟩
 rw [List.append_nil]
 refine List.Perm.trans ?_ ((((toksE_put H s r t9 hs).symm.cons _).cons _).cons _)
 exact (List.perm_middle (l₁ := [_, _, _])).symm
theorem fights17_c (b1 b2 pw rf rs rh : Nat) (e : TypeId) (f : Int → Int → Bool) (q r : Int) : ACall Tryz.prog 169 [.int .i64 q, .ptr b1 0, .ptr b2 0] [.box b2 [.int .i64 r], .box b1 [.ptr pw 0], .mp rf (.array 2 3) (prM f) [], .box pw [.mp rf, .mp rs, .mp rh]]
  (fun y Γ' => y = .bool (f (min q r) (max q r)) ∧ Γ' = [.box b2 [.int .i64 r], .box b1 [.ptr pw 0], .mp rf (.array 2 3) (prM f) [], .box pw [.mp rf, .mp rs, .mp rh]]) := by
 refine ACall.of_body tt_ok Tryz.func169 rfl rfl (n := 13) rfl rfl ?_
 conv => whnf
 repeat' (first|((first|((first|(apply zY;intro hg)|apply zZ);first|exact stA|exact stB|((conv=>whnf);(repeat ((first|(refine zW ?_ ?_;exact gA)|refine PLook.pair ?_|refine pC (of17_c _ _) wR ?_|refine pC (of17_c _ _) cA ?_|refine zA ?_|refine zH rfl ?_|refine zB ?_|refine sG ?_|intro _);conv=>whnf));first|exact pS|exact pL|exact pE))|(refine zW ?_ ?_;exact gA)|refine zH rfl ?_|refine zA ?_|refine zI bA ?_|refine zI rfl ?_|refine sB ?_|(refine zO ?_ ?_ ?_;omega;omega)|(refine zP ?_ ?_ ?_;omega;omega)|refine zM rfl ?_|(refine zQ ?_ ?_ ?_;omega;omega)|(refine zR ?_ ?_;omega)|(refine zI ?_ ?_;exact nA)|refine sS ?_|refine PLook.pair ?_|refine pC (of17_c _ _) wR ?_|refine pC (of17_c _ _) cA ?_|refine sF ?_|refine n0 ?_|refine sD ?_|refine PDraw.sP (some 5) rfl [] [] tt_ok mixed ?_|intro _|refine zG ?_);conv=>whnf)|(refine zX (fun hc => ?_) (fun hc => ?_)<;>(try simp only [SY] at hc)<;>first|omega|(conv=>whnf)))
 exact PRet.gen (Wk.refl _) ⟨rfl, rfl⟩
def fitH (f : Int → Int → Bool) (H : Hld) (r : Int) : Nat := (H.takeWhile fun x => x.1.any fun q => f (min q r) (max q r)).length
theorem fitH_le (f : Int → Int → Bool) (H : Hld) (r : Int) : fitH f H r ≤ H.length := List.Sublist.length_le (List.takeWhile_sublist _)
theorem fitH_iff (f : Int → Int → Bool) (r : Int) : ∀ (H : Hld) (s : Nat), s ≤ fitH f H r → (((regH H s).any fun q => f (min q r) (max q r)) = true ↔ s + 1 ≤ fitH f H r)
 | [], s, h => by
  obtain rfl : s = 0 := by simpa [fitH] using h
  simp [fitH, regH]
 | x :: H, s, h => by
  have ih := fitH_iff f r H
  by_cases hp : (x.1.any fun q => f (min q r) (max q r)) = true
  ·have e : fitH f (x :: H) r = fitH f H r + 1 := by unfold fitH; rw [List.takeWhile_cons_of_pos (p := fun x : List Int × Tok => x.1.any fun q => f (min q r) (max q r)) hp]; rfl
   rw [e] at h ⊢
   cases s with
   | zero => exact ⟨fun _ => by omega, fun _ => hp⟩
   | succ s =>
    have := ih s (by omega)
    exact ⟨fun h => by have := this.1 h; omega, fun h => this.2 (by omega)⟩
  ·have e : fitH f (x :: H) r = 0 := by unfold fitH; rw [List.takeWhile_cons_of_neg (p := fun x : List Int × Tok => x.1.any fun q => f (min q r) (max q r)) hp]; rfl
   rw [e] at h ⊢
   obtain rfl : s = 0 := by omega
   exact ⟨fun h => absurd h hp, fun h => by omega⟩
theorem paint17_c (pw rf rs rh : Nat) (f : Int → Int → Bool) (m : Int → Option Int) (H : Hld) (r : Int) (hte : ∀ x ∈ H, x.2.e = 3) (hl : ∀ s, (regH H s).length ≤ 1000000) (hlen : H.length ≤ 1000000) :
  ACall Tryz.prog 117 [.ptr pw 0, .int .i64 r] (.mp rf (.array 2 3) (prM f) [] :: .box pw [.mp rf, .mp rs, .mp rh] :: .mp rs (.int .i64) (mapM (PV.int .i64) m) [] :: .mp rh (.int .i64) (mapM hPV (hM H)) [] :: toksE H)
   (fun _ Γ' => ∃ t : Tok, t.e = 3 ∧ Γ' = .mp rf (.array 2 3) (prM f) [] :: .box pw [.mp rf, .mp rs, .mp rh] :: .mp rs (.int .i64) (mapM (PV.int .i64) (upd m r (fitH f H r))) [] :: .mp rh (.int .i64) (mapM hPV (hM (putH H (fitH f H r) r t))) [] :: toksE (putH H (fitH f H r) r t)) := by
 have hfl := fitH_le f H r
 refine ACall.of_body tt_ok Tryz.func117 rfl rfl (n := 19) rfl rfl ?_
 conv => whnf
 repeat' (first|((first|((first|(apply zY;intro hg)|apply zZ);first|exact stA|exact stB|exact stC)|(refine zW ?_ ?_;exact gA)|refine zH rfl ?_|refine zA ?_|refine zI bA ?_|refine zI rfl ?_|refine sB ?_|(refine zO ?_ ?_ ?_;omega;omega)|(refine zP ?_ ?_ ?_;omega;omega)|refine zM rfl ?_|(refine zQ ?_ ?_ ?_;omega;omega)|(refine zR ?_ ?_;omega)|(refine zI ?_ ?_;exact nA)|refine sS ?_|refine sF ?_|refine n0 ?_|refine sD ?_|intro _|refine zG ?_);conv=>whnf)|(refine zX (fun hc => ?_) (fun hc => ?_)<;>(try simp only [SY] at hc)<;>first|omega|(conv=>whnf)))
 rename_i b1 b2
 refine PLoop.keep [4, 5, 6, 7, 8, 9, 10, 11, 12, 13, 14] (fun s : Nat => [(4, .int .i64 s)]) (fun s => s ≤ fitH f H r) (fun s => fitH f H r - s) 0 (Nat.zero_le _) wA ?_
 rintro s hs
 dsimp only at hs ⊢
 have hif := fitH_iff f r H s hs
 conv => whnf
 repeat' (first|((first|((first|(apply zY;intro hg)|apply zZ);first|exact stA|exact stB|exact stC)|(refine zW ?_ ?_;exact gA)|refine zH rfl ?_|refine zA ?_|refine zI bA ?_|refine zI rfl ?_|refine sB ?_|(refine zO ?_ ?_ ?_;omega;omega)|(refine zP ?_ ?_ ?_;omega;omega)|refine zM rfl ?_|(refine zQ ?_ ?_ ?_;omega;omega)|(refine zR ?_ ?_;omega)|(refine zI ?_ ?_;exact nA)|refine sS ?_|refine sF ?_|refine n0 ?_|refine sD ?_|intro _|refine zG ?_);conv=>whnf)|(refine zX (fun hc => ?_) (fun hc => ?_)<;>(try simp only [SY] at hc)<;>first|omega|(conv=>whnf)))
 refine PLook.hold fun _ => ?_
 conv => whnf
 repeat' (first|((first|((first|(apply zY;intro hg)|apply zZ);first|exact stA|exact stB|exact stC)|(refine zW ?_ ?_;exact gA)|refine zH rfl ?_|refine zA ?_|refine zI bA ?_|refine zI rfl ?_|refine sB ?_|(refine zO ?_ ?_ ?_;omega;omega)|(refine zP ?_ ?_ ?_;omega;omega)|refine zM rfl ?_|(refine zQ ?_ ?_ ?_;omega;omega)|(refine zR ?_ ?_;omega)|(refine zI ?_ ?_;exact nA)|refine sS ?_|refine sF ?_|refine n0 ?_|refine sD ?_|intro _|refine zG ?_);conv=>whnf)|(refine zX (fun hc => ?_) (fun hc => ?_)<;>(try simp only [SY] at hc)<;>first|omega|(conv=>whnf)))
 refine PCall.read (containsFuncInt_c 169 [.ptr b1 0, .ptr b2 0] [.box b2 [.int .i64 r], .box b1 [.ptr pw 0], .mp rf (.array 2 3) (prM f) [], .box pw [.mp rf, .mp rs, .mp rh]] (fun q => f (min q r) (max q r)) (regH H s) (fun q _ => fights17_c b1 b2 pw rf rs rh 3 f q r)) (.cons (Wk.tok _ _ _) (.cons (Wk.refl _) .nil)) ?_
 conv => whnf
 repeat' (first|((first|((first|(apply zY;intro hg)|apply zZ);first|exact stA|exact stB|exact stC)|(refine zW ?_ ?_;exact gA)|refine zH rfl ?_|refine zA ?_|refine zI bA ?_|refine zI rfl ?_|refine sB ?_|(refine zO ?_ ?_ ?_;omega;omega)|(refine zP ?_ ?_ ?_;omega;omega)|refine zM rfl ?_|(refine zQ ?_ ?_ ?_;omega;omega)|(refine zR ?_ ?_;omega)|(refine zI ?_ ?_;exact nA)|refine sS ?_|refine sF ?_|refine n0 ?_|refine sD ?_|intro _|refine zG ?_);conv=>whnf)|(refine zX (fun hc => ?_) (fun hc => ?_)<;>(try simp only [SY] at hc)<;>first|omega|(conv=>whnf)))
 ·have h1 := hif.1 hc
  exact loopTo (s + 1) h1 (by show fitH f H r - (s + 1) < fitH f H r - s; omega) wA
 ·have h1 : s = fitH f H r := by
   have : ¬(s + 1 ≤ fitH f H r) := fun h => by rw [hif.2 h] at hc; cases hc
   omega
  subst h1
  refine PCall.goR [.box b2 [.int .i64 r], .box b1 [.ptr pw 0], .mp rf (.array 2 3) (prM f) []] (fix17_c pw rf rs rh m H r (fitH f H r) hfl hte (hl _)) (WkT.refl _) (List.Perm.refl _) ?_
  rintro y Γ0 ⟨t9, ht9, e0⟩
  rw [e0]
  clear e0
  conv => whnf
  repeat' (first|((first|((first|(apply zY;intro hg)|apply zZ);first|exact stA|exact stB|exact stC)|(refine zW ?_ ?_;exact gA)|refine zH rfl ?_|refine zA ?_|refine zI bA ?_|refine zI rfl ?_|refine sB ?_|(refine zO ?_ ?_ ?_;omega;omega)|(refine zP ?_ ?_ ?_;omega;omega)|refine zM rfl ?_|(refine zQ ?_ ?_ ?_;omega;omega)|(refine zR ?_ ?_;omega)|(refine zI ?_ ?_;exact nA)|refine sS ?_|refine sF ?_|refine n0 ?_|refine sD ?_|intro _|refine zG ?_);conv=>whnf)|(refine zX (fun hc => ?_) (fun hc => ?_)<;>(try simp only [SY] at hc)<;>first|omega|(conv=>whnf)))
  refine PRet.mk' (Γ1 := [_, _]) (Wk.refl _) (List.perm_append_comm (l₁ := ([_, _] : List Ent))) ⟨t9, ht9, rfl⟩
end Go.Cb
namespace Go.Cb
open Go.Proofs
set_option maxRecDepth 100000
set_option maxHeartbeats 4000000
inductive Rch (c : List Ins) (r : Int) : Int → Prop
 | use {k : Int} : 0 ≤ k → k < c.length → r ∈ namedL (insD c k) → Rch c r k
 | step {k j : Int} : 0 ≤ k → k < c.length → givesI (insD c k) ≠ r → j ∈ nxtL (insD c k) k → Rch c r j → Rch c r k
theorem needF_sound {c : List Ins} {r : Int} : ∀ (n : Nat) (met : List Bool) (todo : List Int), (∀ j ∈ todo, 0 ≤ j ∧ j < c.length) → (∀ k : Int, 0 ≤ k → k < c.length → ∀ j ∈ nxtL (insD c k) k, 0 ≤ j ∧ j < c.length) → needF c r n met todo = true → ∃ k ∈ todo, Rch c r k
 | 0, _, _, _, _, h => by cases h
 | n + 1, met, todo, ht, hn, h => by
  rw [needF] at h
  split at h
  ·cases h
  ·rename_i h0
   have hl : todo.getLastD 0 ∈ todo := by
    rw [List.getLastD_eq_getLast?, List.getLast?_eq_some_getLast h0]
    exact List.getLast_mem h0
   have hd : ∀ j ∈ todo.dropLast, j ∈ todo := fun j hj => List.dropLast_subset _ hj
   have hb := ht _ hl
   split at h
   ·obtain ⟨k, hk, hr⟩ := needF_sound n met todo.dropLast (fun j hj => ht j (hd j hj)) hn h
    exact ⟨k, hd k hk, hr⟩
   ·split at h
    ·rename_i hc
     exact ⟨_, hl, .use hb.1 hb.2 (List.contains_iff_mem.1 hc)⟩
    ·split at h
     ·rename_i hg
      have hnx := hn _ hb.1 hb.2
      obtain ⟨k, hk, hr⟩ := needF_sound n _ _ (fun j hj => by
       rcases List.mem_append.1 hj with hj | hj
       ·exact ht j (hd j hj)
       ·exact hnx j hj) hn h
      rcases List.mem_append.1 hk with hk | hk
      ·exact ⟨k, hd k hk, hr⟩
      ·exact ⟨_, hl, .step hb.1 hb.2 hg hk hr⟩
     ·obtain ⟨k, hk, hr⟩ := needF_sound n _ _ (fun j hj => ht j (hd j hj)) hn h
      exact ⟨k, hd k hk, hr⟩
structure Clo (c : List Ins) (r : Int) (S : Int → Prop) : Prop where
 no : ∀ k, S k → r ∉ namedL (insD c k)
 go : ∀ k, S k → givesI (insD c k) ≠ r → ∀ j ∈ nxtL (insD c k) k, S j
theorem Clo.not {c : List Ins} {r : Int} {S : Int → Prop} (h : Clo c r S) {k : Int} (hr : Rch c r k) : ¬S k := by
 induction hr with
 | use _ _ hu => exact fun hs => h.no _ hs hu
 | step _ _ hg hj _ ih => exact fun hs => ih (h.go _ hs hg _ hj)
theorem needF_clo {c : List Ins} {r : Int} : ∀ (n : Nat) (met : List Bool) (todo : List Int), met.length = c.length → (∀ j ∈ todo, 0 ≤ j ∧ j < c.length) → (∀ k : Int, 0 ≤ k → k < c.length → ∀ j ∈ nxtL (insD c k) k, 0 ≤ j ∧ j < c.length) →
  3 * unmet met + todo.length < n → (∀ k : Int, 0 ≤ k → met.getD k.toNat false = true → r ∉ namedL (insD c k) ∧ (givesI (insD c k) ≠ r → ∀ j ∈ nxtL (insD c k) k, (0 ≤ j ∧ met.getD j.toNat false = true) ∨ j ∈ todo)) →
  (∀ (x : Ins) (k : Int), (nxtL x k).length ≤ 2) → needF c r n met todo = false → ∃ S : Int → Prop, Clo c r S ∧ ∀ j ∈ todo, S j
 | 0, _, _, _, _, _, hf, _, _, _ => by omega
 | n + 1, met, todo, hml, ht, hn, hf, hm, h2, h => by
  rw [needF] at h
  split at h
  ·rename_i h0
   subst h0
   refine ⟨fun k => 0 ≤ k ∧ met.getD k.toNat false = true, ⟨fun k hk => (hm k hk.1 hk.2).1, fun k hk hg j hj => ?_⟩, fun j hj => by cases hj⟩
   rcases (hm k hk.1 hk.2).2 hg j hj with h3 | h3
   ·exact h3
   ·cases h3
  ·rename_i h0
   have hl : todo.getLastD 0 ∈ todo := by
    rw [List.getLastD_eq_getLast?, List.getLast?_eq_some_getLast h0]
    exact List.getLast_mem h0
   have hsp : todo = todo.dropLast ++ [todo.getLastD 0] := by
    conv => lhs; rw [← List.dropLast_concat_getLast h0]
    rw [List.getLastD_eq_getLast?, List.getLast?_eq_some_getLast h0]
    rfl
   have hll : todo.length = todo.dropLast.length + 1 := by
    have := congrArg List.length hsp
    rwa [List.length_append, List.length_singleton] at this
   have hd : ∀ j ∈ todo.dropLast, j ∈ todo := fun j hj => List.dropLast_subset _ hj
   have hb := ht _ hl
   generalize todo.getLastD 0 = v at *
   split at h
   ·rename_i hmt
    obtain ⟨S, hS, hT⟩ := needF_clo n met todo.dropLast hml (fun j hj => ht j (hd j hj)) hn (by omega) (fun k hk hkm => by
     obtain ⟨h3, h4⟩ := hm k hk hkm
     refine ⟨h3, fun hg j hj => ?_⟩
     rcases h4 hg j hj with h5 | h5
     ·exact .inl h5
     ·rw [hsp] at h5
      rcases List.mem_append.1 h5 with h5 | h5
      ·exact .inr h5
      ·rw [List.mem_singleton] at h5
       subst h5
       exact .inl ⟨hb.1, hmt⟩) h2 h
    refine ⟨fun k => S k ∨ (0 ≤ k ∧ met.getD k.toNat false = true), ⟨fun k hk => ?_, fun k hk hg j hj => ?_⟩, fun j hj => ?_⟩
    ·rcases hk with hk | hk
     ·exact hS.no k hk
     ·exact (hm k hk.1 hk.2).1
    ·rcases hk with hk | hk
     ·exact .inl (hS.go k hk hg j hj)
     ·rcases (hm k hk.1 hk.2).2 hg j hj with h5 | h5
      ·exact .inr h5
      ·rw [hsp] at h5
       rcases List.mem_append.1 h5 with h5 | h5
       ·exact .inl (hT j h5)
       ·rw [List.mem_singleton] at h5
        subst h5
        exact .inr ⟨hb.1, hmt⟩
    ·rw [hsp] at hj
     rcases List.mem_append.1 hj with h5 | h5
     ·exact .inl (hT j h5)
     ·rw [List.mem_singleton] at h5
      subst h5
      exact .inr ⟨hb.1, hmt⟩
   ·rename_i hmt
    split at h
    ·cases h
    ·rename_i hnu
     have hvl : v.toNat < met.length := by omega
     have hum := unmet_set hvl (by simpa using hmt)
     have h2v := h2 (insD c v) v
     have hset : ∀ k : Int, 0 ≤ k → (met.set v.toNat true).getD k.toNat false = true → k = v ∨ met.getD k.toNat false = true := fun k hk hs => by
      by_cases e : v.toNat = k.toNat
      ·exact .inl (by omega)
      ·right
       rwa [List.getD_eq_getElem?_getD, List.getElem?_set_ne e, ← List.getD_eq_getElem?_getD] at hs
     have hset2 : ∀ k : Int, met.getD k.toNat false = true → (met.set v.toNat true).getD k.toNat false = true := fun k hs => by
      by_cases e : v.toNat = k.toNat
      ·rw [← e, List.getD_eq_getElem?_getD, List.getElem?_set_self hvl]; rfl
      ·rwa [List.getD_eq_getElem?_getD, List.getElem?_set_ne e, ← List.getD_eq_getElem?_getD]
     have hset3 : (met.set v.toNat true).getD v.toNat false = true := by rw [List.getD_eq_getElem?_getD, List.getElem?_set_self hvl]; rfl
     have key : ∀ todo2 : List Int, (∀ j ∈ todo2, 0 ≤ j ∧ j < c.length) → todo2.length ≤ todo.dropLast.length + 2 → (∀ j ∈ todo.dropLast, j ∈ todo2) → (givesI (insD c v) ≠ r → ∀ j ∈ nxtL (insD c v) v, j ∈ todo2) → needF c r n (met.set v.toNat true) todo2 = false → ∃ S : Int → Prop, Clo c r S ∧ ∀ j ∈ todo, S j := by
      intro todo2 ht2 hl2 hd2 hn2 hf2
      have hm2 : ∀ k : Int, 0 ≤ k → (met.set v.toNat true).getD k.toNat false = true → r ∉ namedL (insD c k) ∧ (givesI (insD c k) ≠ r → ∀ j ∈ nxtL (insD c k) k, (0 ≤ j ∧ (met.set v.toNat true).getD j.toNat false = true) ∨ j ∈ todo2) := fun k hk hkm => by
       rcases hset k hk hkm with rfl | hkm
       ·exact ⟨fun hu => hnu (List.contains_iff_mem.2 hu), fun hg j hj => .inr (hn2 hg j hj)⟩
       ·obtain ⟨h3, h4⟩ := hm k hk hkm
        refine ⟨h3, fun hg j hj => ?_⟩
        rcases h4 hg j hj with h5 | h5
        ·exact .inl ⟨h5.1, hset2 j h5.2⟩
        ·rw [hsp] at h5
         rcases List.mem_append.1 h5 with h5 | h5
         ·exact .inr (hd2 j h5)
         ·rw [List.mem_singleton] at h5
          subst h5
          exact .inl ⟨hb.1, hset3⟩
      obtain ⟨S, hS, hT⟩ := needF_clo n (met.set v.toNat true) todo2 (by rw [List.length_set]; exact hml) ht2 hn (by omega) hm2 h2 hf2
      refine ⟨fun k => S k ∨ (0 ≤ k ∧ (met.set v.toNat true).getD k.toNat false = true), ⟨fun k hk => ?_, fun k hk hg j hj => ?_⟩, fun j hj => ?_⟩
      ·rcases hk with hk | hk
       ·exact hS.no k hk
       ·exact (hm2 k hk.1 hk.2).1
      ·rcases hk with hk | hk
       ·exact .inl (hS.go k hk hg j hj)
       ·rcases (hm2 k hk.1 hk.2).2 hg j hj with h5 | h5
        ·exact .inr h5
        ·exact .inl (hT j h5)
      ·rw [hsp] at hj
       rcases List.mem_append.1 hj with h5 | h5
       ·exact .inl (hT j (hd2 j h5))
       ·rw [List.mem_singleton] at h5
        subst h5
        exact .inr ⟨hb.1, hset3⟩
     split at h
     ·rename_i hg
      exact key _ (fun j hj => by
       rcases List.mem_append.1 hj with hj | hj
       ·exact ht j (hd j hj)
       ·exact hn v hb.1 hb.2 j hj) (by rw [List.length_append]; omega) (fun j hj => List.mem_append_left _ hj) (fun _ j hj => List.mem_append_right _ hj) h
     ·rename_i hg
      exact key _ (fun j hj => ht j (hd j hj)) (by omega) (fun j hj => hj) (fun h5 => absurd h5 hg) h
theorem needU_iff {p : Prc} (hp : PrF p) (h2 : ∀ (x : Ins) (k : Int), (nxtL x k).length ≤ 2) (r : Int) (frm : List Int) (hf : ∀ j ∈ frm, 0 ≤ j ∧ j < p.code.length) : needU p.code r frm = true ↔ ∃ k ∈ frm, Rch p.code r k := by
 have hn : ∀ k : Int, 0 ≤ k → k < p.code.length → ∀ j ∈ nxtL (insD p.code k) k, 0 ≤ j ∧ j < p.code.length := fun k h0 h1 => by
  obtain ⟨k, rfl⟩ := Int.eq_ofNat_of_zero_le h0
  have hk : k < p.code.length := by omega
  have : insD p.code k = p.code[k] := by unfold insD; rw [Int.toNat_natCast, List.getD_eq_getElem?_getD, List.getElem?_eq_getElem hk]; rfl
  rw [this]
  exact hp.nx k hk
 constructor
 ·exact needF_sound _ _ _ hf hn
 ·rintro ⟨k, hk, hr⟩
  cases hc : needU p.code r frm with
  | true => rfl
  | false =>
   exfalso
   obtain ⟨S, hS, hT⟩ := needF_clo _ _ _ (List.length_replicate ..) hf hn (by simp [unmet]) (fun k hk hkm => by
    exfalso
    rw [List.getD_eq_getElem?_getD] at hkm
    by_cases hkl : k.toNat < p.code.length
    ·rw [List.getElem?_replicate_of_lt hkl] at hkm; cases hkm
    ·rw [List.getElem?_eq_none (by rw [List.length_replicate]; omega)] at hkm; cases hkm) h2 hc
   exact hS.not hr (hT k hk)
end Go.Cb
namespace Go.Cb
open Go.Proofs
set_option maxRecDepth 100000
set_option maxHeartbeats 4000000
abbrev WsL := List (List Int)
abbrev gW (A : WsL) (k : Int) : List Int := A.getD k.toNat []
structure OkA (c : List Ins) (n : Nat) (A : WsL) : Prop where
 len : A.length = c.length
 wl : ∀ k : Nat, k < c.length → (A.getD k []).length = n
 ok : ∀ k : Nat, okWs (A.getD k [])
theorem OkA.set {c : List Ins} {n : Nat} {A : WsL} (h : OkA c n A) {k : Nat} (hk : k < c.length) {ws : List Int} (hl : ws.length = n) (ho : okWs ws) : OkA c n (A.set k ws) := by
 have hkA : k < A.length := by rw [h.len]; exact hk
 refine ⟨by rw [List.length_set]; exact h.len, fun j hj => ?_, fun j => ?_⟩
 ·by_cases e : k = j
  ·subst e; rw [List.getD_eq_getElem?_getD, List.getElem?_set_self hkA]; exact hl
  ·rw [List.getD_eq_getElem?_getD, List.getElem?_set_ne e, ← List.getD_eq_getElem?_getD]; exact h.wl j hj
 ·by_cases e : k = j
  ·subst e; rw [List.getD_eq_getElem?_getD, List.getElem?_set_self hkA]; exact ho
  ·rw [List.getD_eq_getElem?_getD, List.getElem?_set_ne e, ← List.getD_eq_getElem?_getD]; exact h.ok j
theorem set_get {A : WsL} {k : Nat} (h : k < A.length) (ws : List Int) (j : Nat) : (A.set k ws).getD j [] = if k = j then ws else A.getD j [] := by
 by_cases e : k = j
 ·subst e; rw [if_pos rfl, List.getD_eq_getElem?_getD, List.getElem?_set_self h]; rfl
 ·rw [if_neg e, List.getD_eq_getElem?_getD, List.getElem?_set_ne e, ← List.getD_eq_getElem?_getD]
def SndA (c : List Ins) (A : WsL) : Prop := ∀ (k q : Nat), k < c.length → bitB (A.getD k []) q = true → Rch c q k
def SndB (c : List Ins) (B : WsL) : Prop := ∀ (k q : Nat), k < c.length → bitB (B.getD k []) q = true → ∃ j ∈ nxtL (insD c k) k, Rch c q j
def UseA (c : List Ins) (A : WsL) : Prop := ∀ (k q : Nat), k < c.length → (q : Int) ∈ namedL (insD c k) → bitB (A.getD k []) q = true
def CloA (c : List Ins) (A B : WsL) (k : Nat) : Prop := (∀ (j : Nat), (j : Int) ∈ nxtL (insD c k) k → ∀ q, bitB (A.getD j []) q = true → bitB (B.getD k []) q = true) ∧ ∀ q : Nat, givesI (insD c k) ≠ (q : Int) → bitB (B.getD k []) q = true → bitB (A.getD k []) q = true
theorem all_said {c : List Ins} {A B : WsL} (hu : UseA c A) (hc : ∀ k, k < c.length → CloA c A B k) {q : Nat} {k : Int} (h : Rch c q k) : bitB (gW A k) q = true := by
 generalize hr : (q : Int) = r at h
 induction h with
 | use h0 h1 h2 =>
  subst hr
  rename_i k
  obtain ⟨k, rfl⟩ := Int.eq_ofNat_of_zero_le h0
  exact hu k q (by omega) h2
 | step h0 h1 hg hj hR ih =>
  subst hr
  rename_i k j
  obtain ⟨k, rfl⟩ := Int.eq_ofNat_of_zero_le h0
  have hj0 : 0 ≤ j := by cases hR <;> assumption
  obtain ⟨j, rfl⟩ := Int.eq_ofNat_of_zero_le hj0
  have h3 := hc k (by omega)
  exact h3.2 q hg (h3.1 j hj q ih)
def zer (ws : List Int) : Nat := (List.range (64 * ws.length)).countP fun q => !bitB ws q
theorem countP_le {α : Type} {p q : α → Bool} : ∀ {l : List α}, (∀ x ∈ l, p x = true → q x = true) → l.countP p ≤ l.countP q
 | [], _ => Nat.le_refl _
 | x :: l, h => by
  have ih := countP_le (l := l) fun y hy => h y (by simp [hy])
  have hx := h x (by simp)
  rw [List.countP_cons, List.countP_cons]
  cases hp : p x with
  | true => rw [hx hp]; simp; exact ih
  | false => cases q x <;> simp <;> omega
theorem countP_lt {α : Type} {p q : α → Bool} : ∀ {l : List α}, (∀ x ∈ l, p x = true → q x = true) → (∃ x ∈ l, q x = true ∧ p x = false) → l.countP p < l.countP q
 | [], _, h => by obtain ⟨x, hx, _⟩ := h; cases hx
 | x :: l, h, hex => by
  have ih1 := countP_le (l := l) fun y hy => h y (by simp [hy])
  have hx := h x (by simp)
  rw [List.countP_cons, List.countP_cons]
  obtain ⟨y, hy, hq, hp⟩ := hex
  rcases List.mem_cons.1 hy with rfl | hy
  ·rw [hq, hp]; simp; omega
  ·have ih2 := countP_lt (l := l) (fun y hy => h y (by simp [hy])) ⟨y, hy, hq, hp⟩
   cases hpx : p x with
   | true => rw [hx hpx]; simp; exact ih2
   | false => cases q x <;> simp <;> omega
theorem zer_join_lt {ws ts : List Int} (hw : okWs ws) (ht : okWs ts) {but : Int} (h : chgB ws ts but ws.length = true) : zer (joinW ws ts but) < zer ws := by
 obtain ⟨q, hq, h1, h2, h3⟩ := (chgB_iff hw ht but).1 h
 unfold zer
 rw [joinW_len]
 refine countP_lt (fun q hq h => ?_) ⟨q, List.mem_range.2 hq, by rw [h1]; rfl, by rw [joinW_bit hw ht but hq, h2, decide_eq_true h3]; simp⟩
 rw [List.mem_range] at hq
 rw [joinW_bit hw ht but hq] at h
 revert h
 cases bitB ws q <;> simp
theorem join_same {ws ts : List Int} (hw : okWs ws) (ht : okWs ts) {but : Int} (h : chgB ws ts but ws.length = false) : joinW ws ts but = ws ∧ ∀ q, q < 64 * ws.length → bitB ts q = true → but ≠ (q : Int) → bitB ws q = true := by
 have key : ∀ q, q < 64 * ws.length → bitB ts q = true → but ≠ (q : Int) → bitB ws q = true := fun q hq h1 h2 => by
  cases hb : bitB ws q with
  | true => rfl
  | false =>
   rw [(chgB_iff hw ht but).2 ⟨q, hq, hb, h1, h2⟩] at h
   cases h
 refine ⟨words_ext (joinW_ok ws ts but) hw (joinW_len ws ts but) fun q hq => ?_, key⟩
 rw [joinW_len] at hq
 rw [joinW_bit hw ht but hq]
 cases h1 : bitB ts q with
 | false => simp
 | true =>
  by_cases h2 : but = (q : Int)
  ·rw [decide_eq_false (by simpa using h2)]; simp
  ·rw [key q hq h1 h2]; simp
theorem bit_lt {ws : List Int} {q : Nat} (h : bitB ws q = true) : q < 64 * ws.length := by
 refine Nat.lt_of_not_le fun hq => ?_
 unfold bitB at h
 rw [List.getD_eq_getElem?_getD, List.getElem?_eq_none (by omega)] at h
 have := bitN_zero (q % 64)
 rw [show (Option.none : Option Int).getD 0 = 0 from rfl, this] at h
 cases h
def zers (A : WsL) : Nat := (A.map zer).sum
theorem zers_set : ∀ (A : WsL) (k : Nat) (ws : List Int), k < A.length → zers (A.set k ws) + zer (A.getD k []) = zers A + zer ws
 | [], k, _, h => by simp at h
 | x :: A, 0, ws, _ => by simp [zers]; omega
 | x :: A, k + 1, ws, h => by
  have ih := zers_set A k ws (by simpa using h)
  simp [zers] at ih ⊢
  omega
theorem set_self {A : WsL} {k : Nat} (h : k < A.length) : A.set k (A.getD k []) = A := by
 have : A.getD k [] = A[k] := by rw [List.getD_eq_getElem?_getD, List.getElem?_eq_getElem h]; rfl
 rw [this]
 exact List.set_getElem_self h
def SolP (p : Prc) (A B : WsL) : Prop := OkA p.code (p.regs.toNat / 64 + 1) A ∧ OkA p.code (p.regs.toNat / 64 + 1) B ∧ (∀ k q : Nat, k < p.code.length → (bitB (A.getD k []) q = true ↔ Rch p.code q k)) ∧ ∀ k q : Nat, k < p.code.length → (bitB (B.getD k []) q = true ↔ ∃ j ∈ nxtL (insD p.code k) k, Rch p.code q j)
theorem solP {p : Prc} (hp : PrF p) {A B : WsL} (oA : OkA p.code (p.regs.toNat / 64 + 1) A) (oB : OkA p.code (p.regs.toNat / 64 + 1) B) (sA : SndA p.code A) (sB : SndB p.code B) (uA : UseA p.code A) (hc : ∀ k, k < p.code.length → CloA p.code A B k) : SolP p A B := by
 refine ⟨oA, oB, fun k q hk => ⟨sA k q hk, fun h => all_said uA hc h⟩, fun k q hk => ⟨sB k q hk, ?_⟩⟩
 rintro ⟨j, hj, hR⟩
 have hj0 : 0 ≤ j := by cases hR <;> assumption
 obtain ⟨j, rfl⟩ := Int.eq_ofNat_of_zero_le hj0
 exact (hc k hk).1 j hj q (all_said uA hc hR)
theorem list_live {p : Prc} (hp : PrF p) (h2 : ∀ (x : Ins) (k : Int), (nxtL x k).length ≤ 2) {ws : List Int} {frm : List Int} (hf : ∀ j ∈ frm, 0 ≤ j ∧ j < p.code.length) (hb : ∀ q : Nat, bitB ws q = true ↔ ∃ j ∈ frm, Rch p.code q j) :
  ((List.range p.regs.toNat).filter (fun q => bitB ws q)).map Int.ofNat = liveF p.code p.regs.toNat frm := by
 unfold liveF
 rw [List.filter_map]
 congr 1
 apply List.filter_congr
 intro q _
 rw [Bool.eq_iff_iff, hb]
 exact (needU_iff hp h2 q frm hf).symm
end Go.Cb
namespace Go.Cb
open Go.Proofs
set_option maxRecDepth 100000
set_option maxHeartbeats 4000000
theorem clsB_iff (c : List Ins) (af : List (List Int)) (out : List Int) (r : Nat) (s : Int) : clsB c af out r s = true ↔ ∃ q : Nat, q < r ∧ out.getD q 0 = s ∧ itfB c af q r = true := by
 unfold clsB
 rw [List.any_eq_true]
 constructor
 ·rintro ⟨q, hq, h⟩
  rw [Bool.and_eq_true, beq_iff_eq] at h
  exact ⟨q, List.mem_range.1 hq, h.1, h.2⟩
 ·rintro ⟨q, hq, h1, h2⟩
  exact ⟨q, List.mem_range.2 hq, by rw [Bool.and_eq_true, beq_iff_eq]; exact ⟨h1, h2⟩⟩
end Go.Cb
namespace Go.Cb
open Go.Proofs
set_option maxRecDepth 100000
set_option maxHeartbeats 4000000
structure OkI (x : Ins) : Prop where
 op : 0 ≤ x.op ∧ x.op ≤ 22
 dd : 0 ≤ x.d
 ba : bareB x = true
theorem okIns {u : Unt} (h0 : chkU u = 0) : ∀ p ∈ u.procs, ∀ x ∈ p.code, OkI x := by
 intro p hp x hx
 have h1 := (chk_no h0 p hp).2.2 x hx
 have hrg := (prF h0 p hp).rg.1
 unfold fitB at h1
 rw [Bool.and_eq_true, ← preD_fitA x p.regs hrg] at h1
 have h4 := h1.1
 unfold preD at h4
 split at h4
 ·cases h4
 ·rename_i h5
  split at h4
  ·cases h4
  ·split at h4
   ·cases h4
   ·refine ⟨by omega, by omega, ?_⟩
    cases hb : bareB x with
    | true => rfl
    | false => exact absurd (.inr (.inr hb)) h5
theorem gv_t {x : Ins} (h : gvB x = true) : givesI x = x.d := if_pos (of_decide_eq_true h)
theorem gv_f {x : Ins} (h : gvB x = false) : givesI x = -1 := if_neg (of_decide_eq_false h)
theorem OkI.lnil {x : Ins} (h : OkI x) (h2 : ¬(7 ≤ x.op ∧ x.op ≤ 9)) (h3 : ¬(17 ≤ x.op ∧ x.op ≤ 21)) : x.l = [] := by
 have hb := h.ba
 unfold bareB at hb
 split at hb
 ·cases hb
 ·split at hb
  ·cases hb
  ·split at hb
   ·cases hb
   ·simp only [Bool.or_eq_true, Bool.and_eq_true, decide_eq_true_eq] at hb
    have : (x.l.length : Int) = 0 := by omega
    exact List.eq_nil_of_length_eq_zero (by omega)
theorem ask2_iff {x : Ins} (h : OkI x) {r : Int} : r ∈ ask2 x ∨ r ∈ x.l ↔ r ∈ namedL x := by
 have hn := h.lnil
 have ho := h.op
 unfold ask2 namedL
 obtain ⟨op, d, a, b, l⟩ := x
 dsimp only at *
 rcases (by omega : op = 0 ∨ op = 1 ∨ op = 2 ∨ op = 3 ∨ op = 4 ∨ op = 5 ∨ op = 6 ∨ op = 7 ∨ op = 8 ∨ op = 9 ∨ op = 10 ∨ op = 11 ∨ op = 12 ∨ op = 13 ∨ op = 14 ∨ op = 15 ∨ op = 16 ∨ op = 17 ∨ op = 18 ∨ op = 19 ∨ op = 20 ∨ op = 21 ∨ op = 22) with
  rfl | rfl | rfl | rfl | rfl | rfl | rfl | rfl | rfl | rfl | rfl | rfl | rfl | rfl | rfl | rfl | rfl | rfl | rfl | rfl | rfl | rfl | rfl
 all_goals first
  | (have e := hn (by omega) (by omega); subst e; simp)
  | simp
theorem ask1_iff {x : Ins} {r : Int} (hr : 0 ≤ r) : r ∈ ask1 x ↔ givesI x = r := by
 unfold ask1
 cases hg : gvB x with
 | true => rw [if_pos rfl, gv_t hg, List.mem_singleton]; exact eq_comm
 | false => rw [if_neg (by simp), gv_f hg]; simp; omega
theorem ask_iff {x : Ins} (h : OkI x) {r : Int} (hr : 0 ≤ r) : r ∈ askL x ↔ givesI x = r ∨ r ∈ namedL x := by
 unfold askL
 rw [List.mem_append, List.mem_append, or_assoc, ask1_iff hr, ask2_iff h]
theorem ask_rg {p : Prc} (hp : PrF p) {x : Ins} (hx : x ∈ p.code) (h : OkI x) {r : Int} (hr : r ∈ askL x) : 0 ≤ r ∧ r < p.regs ∧ nmdB p.code r = true := by
 have hb : 0 ≤ r ∧ r < p.regs := by
  unfold askL at hr
  rw [List.mem_append, List.mem_append, or_assoc, ask2_iff h] at hr
  rcases hr with hr | hr
  ·unfold ask1 at hr
   cases hg : gvB x with
   | true =>
    rw [hg, if_pos rfl, List.mem_singleton] at hr
    have h1 := hp.gv x hx
    have h2 := h.dd
    rw [gv_t hg] at h1
    omega
   | false => rw [hg, if_neg (by simp)] at hr; cases hr
  ·exact hp.nm x hx r hr
 refine ⟨hb.1, hb.2, ?_⟩
 unfold nmdB
 rw [List.any_eq_true]
 refine ⟨x, hx, ?_⟩
 rw [Bool.or_eq_true, beq_iff_eq, List.contains_iff_mem]
 exact (ask_iff h hb.1).1 hr
theorem eaI_ren {x : Ins} (h : OkI x) {f : Int → Int} {at_ : List Int} (hf : ∀ r ∈ askL x, f r = at_.getD r.toNat 0) : eaI f x = renI x at_ := by
 have h1 : ∀ r ∈ ask1 x, f r = at_.getD r.toNat 0 := fun r hr => hf r (by unfold askL; simp [hr])
 have h2 : ∀ r ∈ ask2 x, f r = at_.getD r.toNat 0 := fun r hr => hf r (by unfold askL; simp [hr])
 have h3 : ∀ r ∈ x.l, f r = at_.getD r.toNat 0 := fun r hr => hf r (by unfold askL; simp [hr])
 have hd : (if gvB x = true then f x.d else x.d) = if givesI x ≥ 0 then at_.getD (givesI x).toNat 0 else x.d := by
  cases hg : gvB x with
  | true =>
   have := h.dd
   rw [if_pos rfl, gv_t hg, if_pos this]
   exact h1 x.d (by unfold ask1; rw [hg, if_pos rfl]; simp)
  | false => rw [if_neg (by simp), gv_f hg, if_neg (by omega)]
 have ha : (if x.op = 1 ∨ x.op = 8 ∨ x.op = 10 ∨ x.op = 11 ∨ x.op = 14 ∨ x.op = 16 ∨ x.op = 17 ∨ x.op = 19 ∨ x.op = 22 ∨ x.op = 12 ∨ x.op = 13 then f x.a else x.a) =
   if x.op = 1 ∨ x.op = 8 ∨ x.op = 10 ∨ x.op = 11 ∨ x.op = 14 ∨ x.op = 16 ∨ x.op = 17 ∨ x.op = 19 ∨ x.op = 22 ∨ x.op = 12 ∨ x.op = 13 then at_.getD x.a.toNat 0 else x.a := by
  split
  ·refine h2 x.a ?_
   unfold ask2
   split
   ·simp
   ·rw [if_pos (by omega)]; simp
  ·rfl
 have hb : (if x.op = 12 ∨ x.op = 13 ∨ x.op = 18 ∨ x.op = 20 then f x.b else x.b) = if x.op = 12 ∨ x.op = 13 ∨ x.op = 18 ∨ x.op = 20 then at_.getD x.b.toNat 0 else x.b := by
  split
  ·refine h2 x.b ?_
   unfold ask2
   rw [if_neg (by omega)]
   split
   ·simp
   ·rw [if_pos (by omega)]; simp
  ·rfl
 unfold eaI renI
 rw [hd, ha, hb, List.map_congr_left h3]
def ftI (d : Int) : List Int → (Int → Int → Bool) → Int → Int → Bool
 | [], f => f
 | r :: l, f => ftI d l (if r ≠ d then upP f (min d r) (max d r) else f)
def ftC : List (Ins × List Int) → (Int → Int → Bool) → Int → Int → Bool
 | [], f => f
 | q :: l, f => ftC l (if gvB q.1 = true then ftI q.1.d q.2 f else f)
theorem ftI_iff (d : Int) : ∀ (l : List Int) (f : Int → Int → Bool) (a b : Int), ftI d l f a b = true ↔ f a b = true ∨ ∃ r ∈ l, r ≠ d ∧ a = min d r ∧ b = max d r
 | [], f, a, b => by simp [ftI]
 | r :: l, f, a, b => by
  rw [ftI, ftI_iff d l]
  by_cases h : r ≠ d
  ·rw [if_pos h]
   unfold upP
   rw [Bool.or_eq_true, Bool.and_eq_true, beq_iff_eq, beq_iff_eq]
   constructor
   ·rintro ((h1 | h1) | ⟨r', h1, h2⟩)
    ·exact .inl h1
    ·exact .inr ⟨r, by simp, h, h1⟩
    ·exact .inr ⟨r', by simp [h1], h2⟩
   ·rintro (h1 | ⟨r', h1, h2⟩)
    ·exact .inl (.inl h1)
    ·rcases List.mem_cons.1 h1 with rfl | h1
     ·exact .inl (.inr h2.2)
     ·exact .inr ⟨r', h1, h2⟩
  ·rw [if_neg h]
   constructor
   ·rintro (h1 | ⟨r', h1, h2⟩)
    ·exact .inl h1
    ·exact .inr ⟨r', by simp [h1], h2⟩
   ·rintro (h1 | ⟨r', h1, h2⟩)
    ·exact .inl h1
    ·rcases List.mem_cons.1 h1 with rfl | h1
     ·exact absurd h2.1 h
     ·exact .inr ⟨r', h1, h2⟩
theorem ftC_iff : ∀ (l : List (Ins × List Int)) (f : Int → Int → Bool) (a b : Int), ftC l f a b = true ↔ f a b = true ∨ ∃ q ∈ l, gvB q.1 = true ∧ ∃ r ∈ q.2, r ≠ q.1.d ∧ a = min q.1.d r ∧ b = max q.1.d r
 | [], f, a, b => by simp [ftC]
 | q :: l, f, a, b => by
  rw [ftC, ftC_iff l]
  by_cases h : gvB q.1 = true
  ·rw [if_pos h, ftI_iff]
   constructor
   ·rintro ((h1 | h1) | ⟨r', h1, h2⟩)
    ·exact .inl h1
    ·exact .inr ⟨q, by simp, h, h1⟩
    ·exact .inr ⟨r', by simp [h1], h2⟩
   ·rintro (h1 | ⟨r', h1, h2⟩)
    ·exact .inl (.inl h1)
    ·rcases List.mem_cons.1 h1 with rfl | h1
     ·exact .inl (.inr h2.2)
     ·exact .inr ⟨r', h1, h2⟩
  ·rw [if_neg h]
   constructor
   ·rintro (h1 | ⟨r', h1, h2⟩)
    ·exact .inl h1
    ·exact .inr ⟨r', by simp [h1], h2⟩
   ·rintro (h1 | ⟨r', h1, h2⟩)
    ·exact .inl h1
    ·rcases List.mem_cons.1 h1 with rfl | h1
     ·exact absurd h2.1 h
     ·exact .inr ⟨r', h1, h2⟩
theorem ft_itf {c : List Ins} (hc : ∀ x ∈ c, OkI x) (af : List (List Int)) {q r : Int} (h0 : 0 ≤ q) (h1 : 0 ≤ r) (hne : q ≠ r) : ftC (c.zip af) (fun _ _ => false) (min q r) (max q r) = itfB c af q r := by
 rw [Bool.eq_iff_iff, ftC_iff]
 unfold itfB
 rw [List.any_eq_true]
 constructor
 ·rintro (h | ⟨y, hy, hg, z, hz, hzd, e1, e2⟩)
  ·cases h
  ·refine ⟨y, hy, ?_⟩
   have hg2 := gv_t hg
   rw [Bool.or_eq_true, Bool.and_eq_true, Bool.and_eq_true, beq_iff_eq, beq_iff_eq, List.contains_iff_mem, List.contains_iff_mem, hg2]
   rcases (by omega : (y.1.d = q ∧ z = r) ∨ (y.1.d = r ∧ z = q)) with ⟨e3, e4⟩ | ⟨e3, e4⟩
   ·exact .inl ⟨e3, by rw [← e4]; exact hz⟩
   ·exact .inr ⟨e3, by rw [← e4]; exact hz⟩
 ·rintro ⟨y, hy, h⟩
  rw [Bool.or_eq_true, Bool.and_eq_true, Bool.and_eq_true, beq_iff_eq, beq_iff_eq, List.contains_iff_mem, List.contains_iff_mem] at h
  have hg : gvB y.1 = true := by
   cases hg : gvB y.1 with
   | true => rfl
   | false => have := gv_f hg; omega
  have hg2 := gv_t hg
  refine .inr ⟨y, hy, hg, ?_⟩
  rcases h with ⟨e, hm⟩ | ⟨e, hm⟩
  ·exact ⟨r, hm, by omega, by omega, by omega⟩
  ·exact ⟨q, hm, by omega, by omega, by omega⟩
theorem nmd_iff {c : List Ins} (hc : ∀ x ∈ c, OkI x) {r : Int} (hr : 0 ≤ r) : (c.flatMap askL).contains r = nmdB c r := by
 rw [Bool.eq_iff_iff, List.contains_iff_mem, List.mem_flatMap]
 unfold nmdB
 rw [List.any_eq_true]
 constructor
 ·rintro ⟨x, hx, h⟩
  refine ⟨x, hx, ?_⟩
  rw [Bool.or_eq_true, beq_iff_eq, List.contains_iff_mem]
  exact (ask_iff (hc x hx) hr).1 h
 ·rintro ⟨x, hx, h⟩
  rw [Bool.or_eq_true, beq_iff_eq, List.contains_iff_mem] at h
  exact ⟨x, hx, (ask_iff (hc x hx) hr).2 h⟩
theorem rch_nmd {c : List Ins} {r k : Int} (h : Rch c r k) : nmdB c r = true := by
 induction h with
 | @use k h0 h1 h2 =>
  unfold nmdB
  rw [List.any_eq_true]
  refine ⟨insD c k, ?_, by rw [Bool.or_eq_true, List.contains_iff_mem]; exact .inr h2⟩
  unfold insD
  rw [List.getD_eq_getElem?_getD, List.getElem?_eq_getElem (by omega)]
  exact List.getElem_mem _
 | step _ _ _ _ _ ih => exact ih
theorem putR_mem (l : List Int) (v x : Int) : x ∈ putR l v ↔ x ∈ l ∨ x = v := by
 have h := List.takeWhile_append_dropWhile (p := fun x => decide (x < v)) (l := l)
 have hm : x ∈ l ↔ x ∈ l.takeWhile (fun x => decide (x < v)) ∨ x ∈ l.dropWhile (fun x => decide (x < v)) := by rw [← List.mem_append, h]
 unfold putR
 rw [List.mem_append, hm]
 split
 ·rename_i hh
  have hv : v ∈ l.dropWhile (fun x => decide (x < v)) := List.mem_of_mem_head? hh
  constructor
  ·rintro (h | h)
   ·exact .inl (.inl h)
   ·exact .inl (.inr h)
  ·rintro ((h | h) | rfl)
   ·exact .inl h
   ·exact .inr h
   ·exact .inr hv
 ·rw [List.mem_cons]
  constructor
  ·rintro (h | h | h)
   ·exact .inl (.inl h)
   ·exact .inr h
   ·exact .inl (.inr h)
  ·rintro ((h | h) | h)
   ·exact .inl h
   ·exact .inr (.inr h)
   ·exact .inr (.inl h)
theorem putR_lt {l : List Int} (v : Int) (hl : l.Pairwise (· < ·)) : (putR l v).Pairwise (· < ·) := by
 have h := List.takeWhile_append_dropWhile (p := fun x => decide (x < v)) (l := l)
 rw [← h, List.pairwise_append] at hl
 obtain ⟨h1, h2, h3⟩ := hl
 have ht : ∀ x ∈ l.takeWhile (fun x => decide (x < v)), x < v := fun x hx => of_decide_eq_true (List.all_eq_true.1 List.all_takeWhile x hx)
 unfold putR
 rw [List.pairwise_append]
 split
 ·exact ⟨h1, h2, h3⟩
 ·rename_i hh
  have hd : ∀ x ∈ l.dropWhile (fun x => decide (x < v)), v < x := by
   generalize hD : l.dropWhile (fun x => decide (x < v)) = D at *
   cases D with
   | nil => intro x hx; cases hx
   | cons y D =>
    have hy : ¬y < v := by
     have := List.head?_dropWhile_not (fun x => decide (x < v)) l
     rw [hD] at this
     simpa using this
    have hyv : y ≠ v := fun e => hh (by rw [e]; rfl)
    intro x hx
    rcases List.mem_cons.1 hx with rfl | hx
    ·omega
    ·have := (List.pairwise_cons.1 h2).1 x hx
     omega
  refine ⟨h1, List.pairwise_cons.2 ⟨hd, h2⟩, fun x hx y hy => ?_⟩
  rcases List.mem_cons.1 hy with rfl | hy
  ·exact ht x hx
  ·exact h3 x hx y hy
theorem alvF_lt (at_ : List Int) (d : Int) : ∀ (l out : List Int), out.Pairwise (· < ·) → (alvF at_ d l out).Pairwise (· < ·)
 | [], out, h => h
 | a :: l, out, h => by
  rw [alvF]
  refine alvF_lt at_ d l _ ?_
  split
  ·exact putR_lt _ h
  ·exact h
theorem alvF_mem (at_ : List Int) (d x : Int) : ∀ (l out : List Int), x ∈ alvF at_ d l out ↔ x ∈ out ∨ ∃ a ∈ l, a ≠ d ∧ x = at_.getD a.toNat 0
 | [], out => by simp [alvF]
 | a :: l, out => by
  rw [alvF, alvF_mem at_ d x l]
  by_cases h : a ≠ d
  ·rw [if_pos h, putR_mem]
   constructor
   ·rintro ((h1 | h1) | ⟨b, h1, h2⟩)
    ·exact .inl h1
    ·exact .inr ⟨a, by simp, h, h1⟩
    ·exact .inr ⟨b, by simp [h1], h2⟩
   ·rintro (h1 | ⟨b, h1, h2⟩)
    ·exact .inl (.inl h1)
    ·rcases List.mem_cons.1 h1 with rfl | h1
     ·exact .inl (.inr h2.2)
     ·exact .inr ⟨b, h1, h2⟩
  ·rw [if_neg h]
   constructor
   ·rintro (h1 | ⟨b, h1, h2⟩)
    ·exact .inl h1
    ·exact .inr ⟨b, by simp [h1], h2⟩
   ·rintro (h1 | ⟨b, h1, h2⟩)
    ·exact .inl h1
    ·rcases List.mem_cons.1 h1 with rfl | h1
     ·exact absurd h2.1 h
     ·exact .inr ⟨b, h1, h2⟩
theorem alv_rise (at_ : List Int) (d : Int) (l : List Int) : riseL ((l.filter fun r => decide (r ≠ d)).map fun r => at_.getD r.toNat 0) = alvF at_ d l [] := by
 refine lt_ext (rise_lt _) (alvF_lt at_ d l [] .nil) fun x => ?_
 rw [mem_rise, alvF_mem, List.mem_map]
 constructor
 ·rintro ⟨a, ha, rfl⟩
  rw [List.mem_filter, decide_eq_true_eq] at ha
  exact .inr ⟨a, ha.1, ha.2, rfl⟩
 ·rintro (h | ⟨a, h1, h2, rfl⟩)
  ·cases h
  ·exact ⟨a, List.mem_filter.2 ⟨h1, decide_eq_true h2⟩, rfl⟩
theorem regH_put (H : Hld) (s : Nat) (r : Int) (t : Tok) (hs : s ≤ H.length) (j : Nat) : regH (putH H s r t) j = if j = s then regH H s ++ [r] else regH H j := by
 unfold regH
 rw [List.getD_eq_getElem?_getD, putH_get H s r t hs]
 by_cases e : j = s
 ·rw [if_pos e, if_pos e]; rfl
 ·rw [if_neg e, if_neg e, List.getD_eq_getElem?_getD]
theorem putH_te (H : Hld) (s : Nat) (r : Int) (t : Tok) (hs : s ≤ H.length) (ht : t.e = 3) (hH : ∀ x ∈ H, x.2.e = 3) : ∀ x ∈ putH H s r t, x.2.e = 3 := by
 intro x hx
 obtain ⟨j, hj⟩ := List.getElem?_of_mem hx
 rw [putH_get H s r t hs] at hj
 split at hj
 ·cases hj; exact ht
 ·exact hH x (List.mem_of_getElem? hj)
theorem upd_self {α : Type} (m : Int → Option α) (n : Int) (x : α) : upd m n x n = some x := if_pos rfl
theorem srcF_at (g : Int → Bool) : ∀ (k n : Nat) (a : Int), k ≤ n → (∀ j : Nat, j < k → g (a + j) = true) → g (a + k) = false → srcF g n a = a + k
 | 0, 0, a, _, _, _ => by rw [srcF]; omega
 | 0, n + 1, a, _, _, h => by
  rw [srcF, if_neg (by rw [show a = a + ((0 : Nat) : Int) by omega, h]; simp)]
  omega
 | k + 1, 0, a, h, _, _ => by omega
 | k + 1, n + 1, a, h, h1, h2 => by
  have h3 := h1 0 (by omega)
  rw [show a + ((0 : Nat) : Int) = a by omega] at h3
  rw [srcF, if_pos h3, srcF_at g k n (a + 1) (by omega) (fun j hj => by rw [show a + 1 + (j : Int) = a + ((j + 1 : Nat) : Int) by omega]; exact h1 (j + 1) (by omega)) (by rw [show a + 1 + (k : Int) = a + ((k + 1 : Nat) : Int) by omega]; exact h2)]
  omega
structure PaI (args : Int) (c : List Ins) (af : List (List Int)) (n : Nat) (m : Int → Option Int) (H : Hld) : Prop where
 ml : ∀ q : Nat, q < n → ((q : Int) < args ∨ nmdB c q = true) → m q = some ((sltF args c af n).getD q 0)
 hl : H.length ≤ n
 ha : (n : Int) ≤ args → H.length = n
 hm : ∀ s < H.length, ∀ q : Int, q ∈ regH H s ↔ ∃ k : Nat, q = k ∧ k < n ∧ (sltF args c af n).getD k 0 = s
 hb : ∀ k : Nat, k < n → (sltF args c af n).getD k 0 < H.length
 hr : ∀ s, (regH H s).length ≤ n
 te : ∀ x ∈ H, x.2.e = 3
theorem paI0 (args : Int) (c : List Ins) (af : List (List Int)) (m : Int → Option Int) : PaI args c af 0 m [] :=
 ⟨fun q h => by omega, Nat.le_refl _, fun _ => rfl, fun s h => by simp at h, fun k h => by omega, fun s => by simp [regH], fun x h => by cases h⟩
theorem slt_old {args : Int} {c : List Ins} {af : List (List Int)} {n q : Nat} (h : q < n) : (sltF args c af (n + 1)).getD q 0 = (sltF args c af n).getD q 0 := by
 have hl := sltF_len args c af n
 rw [sltF, List.getD_eq_getElem?_getD, List.getElem?_append_left (by omega), ← List.getD_eq_getElem?_getD]
theorem slt_new (args : Int) (c : List Ins) (af : List (List Int)) (n : Nat) : (sltF args c af (n + 1)).getD n 0 = if (n : Int) < args then (n : Int) else if nmdB c n = true then srcF (clsB c af (sltF args c af n) n) (n + 1) 0 else -1 := by
 have hl := sltF_len args c af n
 rw [sltF, List.getD_eq_getElem?_getD, List.getElem?_append_right (by omega), hl, Nat.sub_self]
 rfl
theorem PaI.put {args : Int} {c : List Ins} {af : List (List Int)} {n : Nat} {m : Int → Option Int} {H : Hld} (h : PaI args c af n m H) {s : Nat} {t : Tok} (hs : s ≤ H.length) (ht : t.e = 3) (hv : (sltF args c af (n + 1)).getD n 0 = s) (hg : (n : Int) < args → s = n) :
  PaI args c af (n + 1) (upd m n s) (putH H s n t) := by
 have hlen := putH_len H s n t hs
 have hhl := h.hl
 refine ⟨fun q hq hc => ?_, by rw [hlen]; split <;> omega, fun ha => ?_, fun j hj q => ?_, fun k hk => ?_, fun j => ?_, putH_te H s n t hs ht h.te⟩
 ·by_cases e : q = n
  ·subst e
   rw [upd_self, hv]
  ·rw [slt_old (by omega), ← h.ml q (by omega) hc]
   exact if_neg (by omega)
 ·have h1 := h.ha (by omega)
  have h2 := hg (by omega)
  rw [hlen, if_pos (by omega)]
  omega
 ·rw [regH_put H s n t hs]
  have hold : ∀ k : Nat, (k < n + 1 ∧ (sltF args c af (n + 1)).getD k 0 = j) ↔ (k = n ∧ s = j) ∨ (k < n ∧ (sltF args c af n).getD k 0 = j) := fun k => by
   by_cases e : k = n
   ·subst e
    rw [hv]
    constructor
    ·rintro ⟨_, h2⟩; exact .inl ⟨rfl, by omega⟩
    ·rintro (⟨_, h2⟩ | ⟨h2, _⟩)
     ·exact ⟨by omega, by omega⟩
     ·omega
   ·constructor
    ·rintro ⟨h1, h2⟩
     rw [slt_old (by omega)] at h2
     exact .inr ⟨by omega, h2⟩
    ·rintro (⟨h1, _⟩ | ⟨h1, h2⟩)
     ·exact absurd h1 e
     ·exact ⟨by omega, by rw [slt_old h1]; exact h2⟩
  have hrr : (∃ k : Nat, q = k ∧ k < n + 1 ∧ (sltF args c af (n + 1)).getD k 0 = j) ↔ (q = n ∧ s = j) ∨ ∃ k : Nat, q = k ∧ k < n ∧ (sltF args c af n).getD k 0 = j := by
   constructor
   ·rintro ⟨k, h1, h2⟩
    rcases (hold k).1 h2 with ⟨h3, h4⟩ | h3
    ·exact .inl ⟨by omega, h4⟩
    ·exact .inr ⟨k, h1, h3⟩
   ·rintro (⟨h1, h2⟩ | ⟨k, h1, h2⟩)
    ·exact ⟨n, h1, (hold n).2 (.inl ⟨rfl, h2⟩)⟩
    ·exact ⟨k, h1, (hold k).2 (.inr h2)⟩
  rw [hrr]
  have hone : q ∈ regH H j ↔ ∃ k : Nat, q = k ∧ k < n ∧ (sltF args c af n).getD k 0 = j := by
   rcases Nat.lt_or_ge j H.length with hjl | hjl
   ·exact h.hm j hjl q
   ·have e : regH H j = [] := by unfold regH; rw [List.getD_eq_getElem?_getD, List.getElem?_eq_none hjl]; rfl
    rw [e]
    constructor
    ·intro h; cases h
    ·rintro ⟨k, _, h2, h3⟩
     have := h.hb k h2
     omega
  by_cases e : j = s
  ·subst e
   rw [if_pos rfl, List.mem_append, List.mem_singleton, hone]
   constructor
   ·rintro (h | h)
    ·exact .inr h
    ·exact .inl ⟨h, rfl⟩
   ·rintro (h | h)
    ·exact .inr h.1
    ·exact .inl h
  ·rw [if_neg e, hone]
   constructor
   ·exact .inr
   ·rintro (h | h)
    ·exact absurd h.2.symm e
    ·exact h
 ·by_cases e : k = n
  ·subst e
   rw [hv, hlen]
   split <;> omega
  ·have := h.hb k (by omega)
   rw [slt_old (by omega), hlen]
   split <;> omega
 ·rw [regH_put H s n t hs]
  have h1 := h.hr s
  have h2 := h.hr j
  split
  ·rw [List.length_append, List.length_singleton]; omega
  ·omega
theorem PaI.skip {args : Int} {c : List Ins} {af : List (List Int)} {n : Nat} {m : Int → Option Int} {H : Hld} (h : PaI args c af n m H) (h1 : ¬(n : Int) < args) (h2 : nmdB c n = false) : PaI args c af (n + 1) m H := by
 have hv : (sltF args c af (n + 1)).getD n 0 = -1 := by rw [slt_new, if_neg h1, if_neg (by rw [h2]; simp)]
 have hhl := h.hl
 refine ⟨fun q hq hc => ?_, by omega, fun ha => by omega, fun j hj q => ?_, fun k hk => ?_, fun j => by have := h.hr j; omega, h.te⟩
 ·by_cases e : q = n
  ·subst e
   rcases hc with hc | hc
   ·exact absurd hc h1
   ·rw [h2] at hc; cases hc
  ·rw [slt_old (by omega)]
   exact h.ml q (by omega) hc
 ·rw [h.hm j hj q]
  constructor
  ·rintro ⟨k, e1, e2, e3⟩
   exact ⟨k, e1, by omega, by rw [slt_old e2]; exact e3⟩
  ·rintro ⟨k, e1, e2, e3⟩
   by_cases e : k = n
   ·subst e; rw [hv] at e3; omega
   ·rw [slt_old (by omega)] at e3
    exact ⟨k, e1, by omega, e3⟩
 ·by_cases e : k = n
  ·subst e; rw [hv]; omega
  ·rw [slt_old (by omega)]
   exact h.hb k (by omega)
theorem PaI.fit {args : Int} {c : List Ins} {af : List (List Int)} {n : Nat} {m : Int → Option Int} {H : Hld} (h : PaI args c af n m H) (hc : ∀ x ∈ c, OkI x) (h1 : ¬(n : Int) < args) (h2 : nmdB c n = true) :
  (sltF args c af (n + 1)).getD n 0 = fitH (ftC (c.zip af) (fun _ _ => false)) H n := by
 rw [slt_new, if_neg h1, if_pos h2]
 generalize hf : ftC (c.zip af) (fun _ _ => false) = f
 have hle := fitH_le f H n
 have hhl := h.hl
 have hcl : ∀ s : Nat, s < H.length → (clsB c af (sltF args c af n) n s = true ↔ ((regH H s).any fun q => f (min q n) (max q n)) = true) := fun s hs => by
  rw [clsB_iff, List.any_eq_true]
  constructor
  ·rintro ⟨q, hq, e1, e2⟩
   exact ⟨q, (h.hm s hs q).2 ⟨q, rfl, hq, e1⟩, by rw [← hf, ft_itf hc af (by omega) (by omega) (by omega)]; exact e2⟩
  ·rintro ⟨q, hq, e2⟩
   obtain ⟨k, e1, hk, e3⟩ := (h.hm s hs q).1 hq
   subst e1
   rw [← hf, ft_itf hc af (by omega) (by omega) (by omega)] at e2
   exact ⟨k, hk, e3, e2⟩
 have hend : ∀ s : Nat, H.length ≤ s → clsB c af (sltF args c af n) n s = false := fun s hs => by
  rw [Bool.eq_false_iff]
  intro hh
  obtain ⟨q, hq, e1, _⟩ := (clsB_iff ..).1 hh
  have := h.hb q hq
  omega
 have hA : ∀ j : Nat, j < fitH f H n → clsB c af (sltF args c af n) n (0 + j) = true := fun j hj => by
  rw [Int.zero_add]
  exact (hcl j (by omega)).2 ((fitH_iff f n H j (by omega)).2 (by omega))
 have hB : clsB c af (sltF args c af n) n (0 + (fitH f H n : Nat)) = false := by
  rw [Int.zero_add]
  rcases Nat.lt_or_ge (fitH f H n) H.length with hh | hh
  ·rw [Bool.eq_false_iff]
   intro h3
   have := (fitH_iff f n H _ (Nat.le_refl _)).1 ((hcl _ hh).1 h3)
   omega
  ·exact hend _ hh
 rw [srcF_at _ (fitH f H n) (n + 1) 0 (by omega) hA hB]
 omega
end Go.Cb
namespace Go.Cb
open Go.Proofs
set_option maxRecDepth 100000
set_option maxHeartbeats 4000000
instance (priority := high) ElOf.icells (t : Ins) : ElOf Ins.pv (.agg t.cells) t := ⟨Wk.refl _, WkL.refl _⟩
theorem regsF_snoc (l : List Int) (x s : Int) : regsF (l ++ [x]) s = max (regsF l s) (x + 1) := by
 unfold regsF
 rw [List.foldl_append]
 rfl
theorem regsF_bd : ∀ (l : List Int) (s : Int), (∀ x ∈ l, -1 ≤ x ∧ x ≤ 20000) → 0 ≤ s → s ≤ 20001 → 0 ≤ regsF l s ∧ regsF l s ≤ 20001
 | [], s, _, h0, h1 => ⟨h0, h1⟩
 | x :: l, s, h, h0, h1 => by
  have hx := h x (by simp)
  exact regsF_bd l (max s (x + 1)) (fun y hy => h y (by simp [hy])) (by omega) (by omega)
end Go.Cb

