/-
  Contracts: a procedure, converted.
  Contracts: a Fix with assigned variables, converted.
  Contracts: a term, converted.
  Contracts: the document's words for the check of terms.
  Contracts: what is right names what it binds.
  Contracts: a program, converted.
  Contracts: the program's check of modules.
  Contracts: a program's module.
  Plain law: how many closures there are.
  Contracts: the document's words for assignment conversion.
  Contracts: closure's laws: the document's example, sizes, counts.
  From the readings of arguments to values, and from a contract to what a statement asks.
  The program's data, read at the seat's types; the bulk.
  A world that holds the listed tables: the statements' witness.
-/
import Derived.Carry
import Derived.ChangeArms
import Derived.ChangeSame
import Derived.Deep.DeepHandedRow
import Derived.Deep.DeepWitnessRowRef
import Derived.KernelRfl
import Derived.Lib.LaidIn
import Derived.OpenShut
import Derived.OpenVars
import Derived.RowKit
import Derived.Test.YtpkgembbjlebcaaGreatDoorRows
import Derived.WideShapes
import Derived.Test.YtpkgembbjlebcaaGreatDoorN7
set_option linter.unusedSimpArgs false
set_option linter.unusedVariables false
namespace Go.Cb
open Go.Proofs
set_option maxRecDepth 100000
set_option maxHeartbeats 4000000
end Go.Cb
namespace Go.Cb
open Go.Proofs
set_option maxRecDepth 100000
set_option maxHeartbeats 4000000
end Go.Cb
namespace Go.Cb
open Go.Proofs
set_option maxRecDepth 100000
set_option maxHeartbeats 4000000
end Go.Cb
namespace Go.Cb
open Go.Proofs
set_option maxRecDepth 100000
set_option maxHeartbeats 4000000
end Go.Cb
namespace Go.Cb
open Go.Proofs
set_option maxRecDepth 100000
set_option maxHeartbeats 4000000
theorem RightP.binds {p : Prog} {level : Int} (h : RightP p level) : (riseL (bindsOf p.body.all)).length = p.body.vars.length := by
  have h1 := p.body.met_all [] 0 (by have := p.body.okT_deep h.2.2.1; omega)
  have h2 : bindsOf p.body.all = p.body.vars := h1.2
  rw [h2]
  exact rise_len h.2.2.2.2.2
end Go.Cb
namespace Go.Cb
open Go.Proofs
set_option maxRecDepth 100000
set_option maxHeartbeats 4000000
end Go.Cb
namespace Go.Cb
open Go.Proofs
set_option maxRecDepth 100000
set_option maxHeartbeats 4000000
abbrev mC2 (m : Mdl) : List PV := [.sl 5 (m.consts.map Datum.pv) none, .sl 6 (m.codes.map Cod.pv) none, .int .i64 m.body.op, .int .i64 m.body.n, .sl 1 (m.body.v.map (PV.int .i64)) none, .sl 4 (m.body.t.map Trm.pv) none]
def mtotP (m : Mdl) : Option (Int × List Int) := if (m.consts.all fun d => d.rightP 0) = true then okO (m.body.ckP 3 m.consts.length m.codes.length false [] 0 0 []) (modP m.consts.length m.codes.length m.codes) else none
theorem mckP_tot (m : Mdl) : mckP m = if (mtotP m).isSome = true then 0 else 5 := by
  unfold mckP mtotP
  cases h : m.consts.all fun d => d.rightP 0 <;> simp
theorem checkModuleP_c (m : Mdl) (hb : m.body.bulk + codsBulk m.codes ≤ 1000000000) (hl : m.consts.length ≤ 1000000000) (hk : m.codes.length ≤ 1000000000) : ACallP Tryz.prog 67 [.agg m.cells] (.int .i64 (mckP m)) := by
  rw [mckP_tot]
  refine ACall.of_body tt_ok Tryz.func67 rfl rfl (n := 64) rfl rfl ?_
  conv => whnf
  repeat ((first | ((first | (apply zY;intro hg) | apply zZ);first | exact stA | ((conv=>whnf);(repeat ((first | (refine zW ?_ ?_;exact gA) | refine pC (constantsp_c _) wR ?_ | refine pC (constantsp_c _) cA ?_ | intro _);conv=>whnf));first | exact pS | exact pL | exact pE)) | (refine zW ?_ ?_;exact gA) | refine zH rfl ?_ | refine zA ?_ | refine zI bA ?_ | refine zI rfl ?_ | refine zJ rfl rfl ?_ | refine zB ?_ | refine zK rfl ?_ | refine zL rfl ?_ | refine zC ?_ | (refine zO ?_ ?_ ?_;omega;omega) | (refine zP ?_ ?_ ?_;omega;omega) | refine zM rfl ?_ | (refine zQ ?_ ?_ ?_;omega;omega) | (refine zR ?_ ?_;omega) | (refine zI ?_ ?_;exact nA) | (refine zS ?_ ?_ ?_;omega;omega) | (refine zT ?_ ?_ ?_;omega;omega) | (refine zU ?_ ?_ ?_;omega;omega) | (refine zV ?_ ?_ ?_;omega;omega) | refine pC (constantsp_c _) wR ?_ | refine pC (constantsp_c _) cA ?_ | refine zN rfl rfl rfl ?_ | refine zD ?_ | refine zE ?_ | refine zF ?_ | intro _);conv=>whnf)
  conv => whnf
  repeat' (first | ((first | ((first | (apply zY;intro hg) | apply zZ);first | exact stA | ((conv=>whnf);(repeat ((first | (refine zW ?_ ?_;exact gA) | refine pC (constantsp_c _) wR ?_ | refine pC (constantsp_c _) cA ?_ | intro _);conv=>whnf));first | exact pS | exact pL | exact pE)) | (refine zW ?_ ?_;exact gA) | refine zH rfl ?_ | refine zA ?_ | refine zI bA ?_ | refine zI rfl ?_ | refine zJ rfl rfl ?_ | refine zB ?_ | refine zK rfl ?_ | refine zL rfl ?_ | refine zC ?_ | (refine zO ?_ ?_ ?_;omega;omega) | (refine zP ?_ ?_ ?_;omega;omega) | refine zM rfl ?_ | (refine zQ ?_ ?_ ?_;omega;omega) | (refine zR ?_ ?_;omega) | (refine zI ?_ ?_;exact nA) | (refine zS ?_ ?_ ?_;omega;omega) | (refine zT ?_ ?_ ?_;omega;omega) | (refine zU ?_ ?_ ?_;omega;omega) | (refine zV ?_ ?_ ?_;omega;omega) | refine pC (constantsp_c _) wR ?_ | refine pC (constantsp_c _) cA ?_ | refine zN rfl rfl rfl ?_ | refine zD ?_ | refine zE ?_ | refine zF ?_ | intro _ | refine zG ?_);conv=>whnf) | (refine zX (fun hc => ?_) (fun hc => ?_)<;>(try simp only [SY] at hc)<;>first | omega | (conv=>whnf)))
  refine PGuard.ways (fun hg => ?_) (fun hg => ?_)
  rotate_left
  · have hmn : mtotP m = none := by unfold mtotP; rw [if_neg (by simp only [Bool.not_not] at hg; rw [hg]; simp)]
    conv => whnf
    repeat' (first | ((first | ((first | (apply zY;intro hg) | apply zZ);first | exact stA | ((conv=>whnf);(repeat ((first | (refine zW ?_ ?_;exact gA) | refine pC (constantsp_c _) wR ?_ | refine pC (constantsp_c _) cA ?_ | intro _);conv=>whnf));first | exact pS | exact pL | exact pE)) | (refine zW ?_ ?_;exact gA) | refine zH rfl ?_ | refine zA ?_ | refine zI bA ?_ | refine zI rfl ?_ | refine zJ rfl rfl ?_ | refine zB ?_ | refine zK rfl ?_ | refine zL rfl ?_ | refine zC ?_ | (refine zO ?_ ?_ ?_;omega;omega) | (refine zP ?_ ?_ ?_;omega;omega) | refine zM rfl ?_ | (refine zQ ?_ ?_ ?_;omega;omega) | (refine zR ?_ ?_;omega) | (refine zI ?_ ?_;exact nA) | (refine zS ?_ ?_ ?_;omega;omega) | (refine zT ?_ ?_ ?_;omega;omega) | (refine zU ?_ ?_ ?_;omega;omega) | (refine zV ?_ ?_ ?_;omega;omega) | refine pC (constantsp_c _) wR ?_ | refine pC (constantsp_c _) cA ?_ | refine zN rfl rfl rfl ?_ | refine zD ?_ | refine zE ?_ | refine zF ?_ | intro _ | refine zG ?_);conv=>whnf) | (refine zX (fun hc => ?_) (fun hc => ?_)<;>(try simp only [SY] at hc)<;>first | omega | (conv=>whnf)))
    exact PRet.pure (Wk.int (by rw [hmn]; rfl))
  · conv => whnf
    conv => whnf
    repeat ((first | ((first | (apply zY;intro hg) | apply zZ);first | exact stA | ((conv=>whnf);(repeat ((first | (refine zW ?_ ?_;exact gA) | refine pC (constantsp_c _) wR ?_ | refine pC (constantsp_c _) cA ?_ | intro _);conv=>whnf));first | exact pS | exact pL | exact pE)) | (refine zW ?_ ?_;exact gA) | refine zH rfl ?_ | refine zA ?_ | refine zI bA ?_ | refine zI rfl ?_ | refine zJ rfl rfl ?_ | refine zB ?_ | refine zK rfl ?_ | refine zL rfl ?_ | refine zC ?_ | (refine zO ?_ ?_ ?_;omega;omega) | (refine zP ?_ ?_ ?_;omega;omega) | refine zM rfl ?_ | (refine zQ ?_ ?_ ?_;omega;omega) | (refine zR ?_ ?_;omega) | (refine zI ?_ ?_;exact nA) | (refine zS ?_ ?_ ?_;omega;omega) | (refine zT ?_ ?_ ?_;omega;omega) | (refine zU ?_ ?_ ?_;omega;omega) | (refine zV ?_ ?_ ?_;omega;omega) | refine pC (constantsp_c _) wR ?_ | refine pC (constantsp_c _) cA ?_ | refine zN rfl rfl rfl ?_ | refine zD ?_ | refine zE ?_ | refine zF ?_ | intro _);conv=>whnf)
    rename_i b1 l1 l2 r1 b2 r2
    have hall : (m.consts.all fun d => d.rightP 0) = true := by simpa using hg
    have hm : mtotP m = okO (m.body.ckP 3 m.consts.length m.codes.length false [] 0 0 []) (modP m.consts.length m.codes.length m.codes) := by unfold mtotP; rw [if_pos hall]
    have hcall := rightp_c b2 r1 r2 3 m.consts.length m.codes.length false m.body [] 0 0 [] [] [] (by omega) (by omega) (by omega) (by omega) (by simp) (by omega)
    rw [← setM_nil] at hcall
    refine PCall.goG (Ghost.box (b := b2) (cs := [.int .i64 3, .int .i64 m.consts.length, .int .i64 m.codes.length, .bfalse, .int .i64 0, .mp r1]) (cs' := cpC 3 m.consts.length m.codes.length 0 false r1) wA) hcall (WkT.refl _) ?_
    rintro _ _ ⟨rfl, sz, mb, ms, pb, ps, rfl, hs2⟩
    conv => whnf
    repeat' (first | ((first | ((first | (apply zY;intro hg) | apply zZ);first | exact stA | ((conv=>whnf);(repeat ((first | (refine zW ?_ ?_;exact gA) | refine pC (constantsp_c _) wR ?_ | refine pC (constantsp_c _) cA ?_ | intro _);conv=>whnf));first | exact pS | exact pL | exact pE)) | (refine zW ?_ ?_;exact gA) | refine zH rfl ?_ | refine zA ?_ | refine zI bA ?_ | refine zI rfl ?_ | refine zJ rfl rfl ?_ | refine zB ?_ | refine zK rfl ?_ | refine zL rfl ?_ | refine zC ?_ | (refine zO ?_ ?_ ?_;omega;omega) | (refine zP ?_ ?_ ?_;omega;omega) | refine zM rfl ?_ | (refine zQ ?_ ?_ ?_;omega;omega) | (refine zR ?_ ?_;omega) | (refine zI ?_ ?_;exact nA) | (refine zS ?_ ?_ ?_;omega;omega) | (refine zT ?_ ?_ ?_;omega;omega) | (refine zU ?_ ?_ ?_;omega;omega) | (refine zV ?_ ?_ ?_;omega;omega) | refine pC (constantsp_c _) wR ?_ | refine pC (constantsp_c _) cA ?_ | refine zN rfl rfl rfl ?_ | refine zD ?_ | refine zE ?_ | refine zF ?_ | intro _ | refine zG ?_);conv=>whnf) | (refine zX (fun hc => ?_) (fun hc => ?_)<;>(try simp only [SY] at hc)<;>first | omega | (conv=>whnf)))
    · rw [Option.isSome_eq_false_iff, Option.isNone_iff_eq_none] at hc
      exact PRet.pure (Wk.int (by rw [hm, hc]; rfl))
    · obtain ⟨⟨s1, bd1⟩, e⟩ := Option.isSome_iff_exists.mp hc
      obtain ⟨rfl, rfl, rfl⟩ := hs2 s1 bd1 e
      have hbd := Trm.ckP_bd _ _ _ _ _ _ _ _ _ _ _ e
      refine PLoop.over [2, 5, 6, 34, 35, 36, 37, 38, 39, 40, 41, 42, 43, 44, 45, 46, 47, 48, 49, 50, 51, 52, 53, 54, 55, 56, 57, 58, 59, 60, 61, 62, 63] (fun (x : Nat × Int × List Int × List (Int × Value)) => [(34, .int .i64 x.1)])
        (fun (x : Nat × Int × List Int × List (Int × Value)) => [.box b2 (cpC 3 m.consts.length m.codes.length x.2.1 true r1), .mp r1 (.int .i64) (setM x.2.2.1) x.2.2.2, .box b1 (mC2 m)])
        (fun | (i, sz, bd, pb) => i ≤ m.codes.length ∧ 0 ≤ sz ∧ sz ≤ 20000 ∧ mtotP m = modP m.consts.length m.codes.length (m.codes.drop i) sz bd) (fun | (i, _) => m.codes.length - i) (0, sz, bd1, pb)
        ⟨by simp, by omega, hbd.2.1, by rw [hm, e]; rfl⟩ wA ?_
      rintro ⟨i, sz, bd, pb⟩ ⟨hi, hz0, hz1, ht⟩
      dsimp only at hi hz0 hz1 ht ⊢
      conv => whnf
      repeat' (first | ((first | ((first | (apply zY;intro hg) | apply zZ);first | exact stA | ((conv=>whnf);(repeat ((first | (refine zW ?_ ?_;exact gA) | refine pC (constantsp_c _) wR ?_ | refine pC (constantsp_c _) cA ?_ | intro _);conv=>whnf));first | exact pS | exact pL | exact pE)) | (refine zW ?_ ?_;exact gA) | refine zH rfl ?_ | refine zA ?_ | refine zI bA ?_ | refine zI rfl ?_ | refine zJ rfl rfl ?_ | refine zB ?_ | refine zK rfl ?_ | refine zL rfl ?_ | refine zC ?_ | (refine zO ?_ ?_ ?_;omega;omega) | (refine zP ?_ ?_ ?_;omega;omega) | refine zM rfl ?_ | (refine zQ ?_ ?_ ?_;omega;omega) | (refine zR ?_ ?_;omega) | (refine zI ?_ ?_;exact nA) | (refine zS ?_ ?_ ?_;omega;omega) | (refine zT ?_ ?_ ?_;omega;omega) | (refine zU ?_ ?_ ?_;omega;omega) | (refine zV ?_ ?_ ?_;omega;omega) | refine pC (constantsp_c _) wR ?_ | refine pC (constantsp_c _) cA ?_ | refine zN rfl rfl rfl ?_ | refine zD ?_ | refine zE ?_ | refine zF ?_ | intro _ | refine zG ?_);conv=>whnf) | (refine zX (fun hc => ?_) (fun hc => ?_)<;>(try simp only [SY] at hc)<;>first | omega | (conv=>whnf)))
      · rename_i b4 r4
        have hlt : i < m.codes.length := by omega
        rw [drop_at hlt, modP] at ht
        have hbm : m.codes[i].bulk ≤ codsBulk m.codes := codsBulk_mem (List.getElem_mem hlt)
        have hbk : m.codes[i].bulk = m.codes[i].v.length + m.codes[i].body.bulk := rfl
        refine PGuard.ways (fun hg => ?_) (fun hg => ?_)
        · have hr1 : ¬(m.codes[i].rest = true ∧ m.codes[i].v = []) := by
            rintro ⟨e1, e2⟩
            rw [e1, e2] at hg
            simp at hg
          rw [if_neg hr1] at ht
          conv => whnf
          repeat ((first | ((first | (apply zY;intro hg) | apply zZ);first | exact stA | ((conv=>whnf);(repeat ((first | (refine zW ?_ ?_;exact gA) | refine pC (constantsp_c _) wR ?_ | refine pC (constantsp_c _) cA ?_ | intro _);conv=>whnf));first | exact pS | exact pL | exact pE)) | (refine zW ?_ ?_;exact gA) | refine zH rfl ?_ | refine zA ?_ | refine zI bA ?_ | refine zI rfl ?_ | refine zJ rfl rfl ?_ | refine zB ?_ | refine zK rfl ?_ | refine zL rfl ?_ | refine zC ?_ | (refine zO ?_ ?_ ?_;omega;omega) | (refine zP ?_ ?_ ?_;omega;omega) | refine zM rfl ?_ | (refine zQ ?_ ?_ ?_;omega;omega) | (refine zR ?_ ?_;omega) | (refine zI ?_ ?_;exact nA) | (refine zS ?_ ?_ ?_;omega;omega) | (refine zT ?_ ?_ ?_;omega;omega) | (refine zU ?_ ?_ ?_;omega;omega) | (refine zV ?_ ?_ ?_;omega;omega) | refine pC (constantsp_c _) wR ?_ | refine pC (constantsp_c _) cA ?_ | refine zN rfl rfl rfl ?_ | refine zD ?_ | refine zE ?_ | refine zF ?_ | intro _);conv=>whnf)
          have hbc := bind2p_c b2 r1 r4 3 m.consts.length m.codes.length sz true m.codes[i].v bd [] pb []
          rw [← setM_nil] at hbc
          refine PCall.go hbc (WkT.refl _) ?_
          rintro _ _ ⟨rfl, pb3, mb, ms2, rfl, hb3⟩
          conv => whnf
          repeat' (first | ((first | ((first | (apply zY;intro hg) | apply zZ);first | exact stA | ((conv=>whnf);(repeat ((first | (refine zW ?_ ?_;exact gA) | refine pC (constantsp_c _) wR ?_ | refine pC (constantsp_c _) cA ?_ | intro _);conv=>whnf));first | exact pS | exact pL | exact pE)) | (refine zW ?_ ?_;exact gA) | refine zH rfl ?_ | refine zA ?_ | refine zI bA ?_ | refine zI rfl ?_ | refine zJ rfl rfl ?_ | refine zB ?_ | refine zK rfl ?_ | refine zL rfl ?_ | refine zC ?_ | (refine zO ?_ ?_ ?_;omega;omega) | (refine zP ?_ ?_ ?_;omega;omega) | refine zM rfl ?_ | (refine zQ ?_ ?_ ?_;omega;omega) | (refine zR ?_ ?_;omega) | (refine zI ?_ ?_;exact nA) | (refine zS ?_ ?_ ?_;omega;omega) | (refine zT ?_ ?_ ?_;omega;omega) | (refine zU ?_ ?_ ?_;omega;omega) | (refine zV ?_ ?_ ?_;omega;omega) | refine pC (constantsp_c _) wR ?_ | refine pC (constantsp_c _) cA ?_ | refine zN rfl rfl rfl ?_ | refine zD ?_ | refine zE ?_ | refine zF ?_ | intro _ | refine zG ?_);conv=>whnf) | (refine zX (fun hc => ?_) (fun hc => ?_)<;>(try simp only [SY] at hc)<;>first | omega | (conv=>whnf)))
          refine PGuard.ways (fun hg => ?_) (fun hg => ?_)
          · have hb1 : (bindR m.codes[i].v bd).1 = true := by simpa using hg
            obtain ⟨rfl, rfl⟩ := hb3 hb1
            rw [if_pos hb1] at ht
            conv => whnf
            repeat ((first | ((first | (apply zY;intro hg) | apply zZ);first | exact stA | ((conv=>whnf);(repeat ((first | (refine zW ?_ ?_;exact gA) | refine pC (constantsp_c _) wR ?_ | refine pC (constantsp_c _) cA ?_ | intro _);conv=>whnf));first | exact pS | exact pL | exact pE)) | (refine zW ?_ ?_;exact gA) | refine zH rfl ?_ | refine zA ?_ | refine zI bA ?_ | refine zI rfl ?_ | refine zJ rfl rfl ?_ | refine zB ?_ | refine zK rfl ?_ | refine zL rfl ?_ | refine zC ?_ | (refine zO ?_ ?_ ?_;omega;omega) | (refine zP ?_ ?_ ?_;omega;omega) | refine zM rfl ?_ | (refine zQ ?_ ?_ ?_;omega;omega) | (refine zR ?_ ?_;omega) | (refine zI ?_ ?_;exact nA) | (refine zS ?_ ?_ ?_;omega;omega) | (refine zT ?_ ?_ ?_;omega;omega) | (refine zU ?_ ?_ ?_;omega;omega) | (refine zV ?_ ?_ ?_;omega;omega) | refine pC (constantsp_c _) wR ?_ | refine pC (constantsp_c _) cA ?_ | refine zN rfl rfl rfl ?_ | refine zD ?_ | refine zE ?_ | refine zF ?_ | intro _);conv=>whnf)
            rw [List.nil_append]
            refine PCall.go (rightp_c b2 r1 r4 3 m.consts.length m.codes.length true m.codes[i].body m.codes[i].v 0 sz (bd ++ m.codes[i].v) pb3 [] (by omega) (by omega) (by omega) (by omega) (by intro x h; simp [h]) (by omega)) (WkT.refl _) ?_
            rintro _ _ ⟨rfl, sz5, mb5, ms5, pb5, ps5, rfl, hs5⟩
            conv => whnf
            repeat' (first | ((first | ((first | (apply zY;intro hg) | apply zZ);first | exact stA | ((conv=>whnf);(repeat ((first | (refine zW ?_ ?_;exact gA) | refine pC (constantsp_c _) wR ?_ | refine pC (constantsp_c _) cA ?_ | intro _);conv=>whnf));first | exact pS | exact pL | exact pE)) | (refine zW ?_ ?_;exact gA) | refine zH rfl ?_ | refine zA ?_ | refine zI bA ?_ | refine zI rfl ?_ | refine zJ rfl rfl ?_ | refine zB ?_ | refine zK rfl ?_ | refine zL rfl ?_ | refine zC ?_ | (refine zO ?_ ?_ ?_;omega;omega) | (refine zP ?_ ?_ ?_;omega;omega) | refine zM rfl ?_ | (refine zQ ?_ ?_ ?_;omega;omega) | (refine zR ?_ ?_;omega) | (refine zI ?_ ?_;exact nA) | (refine zS ?_ ?_ ?_;omega;omega) | (refine zT ?_ ?_ ?_;omega;omega) | (refine zU ?_ ?_ ?_;omega;omega) | (refine zV ?_ ?_ ?_;omega;omega) | refine pC (constantsp_c _) wR ?_ | refine pC (constantsp_c _) cA ?_ | refine zN rfl rfl rfl ?_ | refine zD ?_ | refine zE ?_ | refine zF ?_ | intro _ | refine zG ?_);conv=>whnf) | (refine zX (fun hc => ?_) (fun hc => ?_)<;>(try simp only [SY] at hc)<;>first | omega | (conv=>whnf)))
            · have hn := hc
              rw [Option.isSome_eq_false_iff, Option.isNone_iff_eq_none] at hn
              exact PRet.pure (Wk.int (by rw [ht, hn]; rfl))
            · obtain ⟨⟨s6, b6⟩, e6⟩ := Option.isSome_iff_exists.mp hc
              obtain ⟨rfl, rfl, rfl⟩ := hs5 s6 b6 e6
              have hbd6 := Trm.ckP_bd _ _ _ _ _ _ _ _ _ _ _ e6
              rw [e6] at ht
              exact loopTo (i + 1, sz5, b6, pb5) ⟨by show i + 1 ≤ _; omega, by show (0 : Int) ≤ sz5; omega, hbd6.2.1, ht⟩ (by show m.codes.length - (i + 1) < m.codes.length - i; omega) wA
          · have hb1 : (bindR m.codes[i].v bd).1 = false := by simpa using hg
            rw [if_neg (by rw [hb1]; simp)] at ht
            conv => whnf
            repeat' (first | ((first | ((first | (apply zY;intro hg) | apply zZ);first | exact stA | ((conv=>whnf);(repeat ((first | (refine zW ?_ ?_;exact gA) | refine pC (constantsp_c _) wR ?_ | refine pC (constantsp_c _) cA ?_ | intro _);conv=>whnf));first | exact pS | exact pL | exact pE)) | (refine zW ?_ ?_;exact gA) | refine zH rfl ?_ | refine zA ?_ | refine zI bA ?_ | refine zI rfl ?_ | refine zJ rfl rfl ?_ | refine zB ?_ | refine zK rfl ?_ | refine zL rfl ?_ | refine zC ?_ | (refine zO ?_ ?_ ?_;omega;omega) | (refine zP ?_ ?_ ?_;omega;omega) | refine zM rfl ?_ | (refine zQ ?_ ?_ ?_;omega;omega) | (refine zR ?_ ?_;omega) | (refine zI ?_ ?_;exact nA) | (refine zS ?_ ?_ ?_;omega;omega) | (refine zT ?_ ?_ ?_;omega;omega) | (refine zU ?_ ?_ ?_;omega;omega) | (refine zV ?_ ?_ ?_;omega;omega) | refine pC (constantsp_c _) wR ?_ | refine pC (constantsp_c _) cA ?_ | refine zN rfl rfl rfl ?_ | refine zD ?_ | refine zE ?_ | refine zF ?_ | intro _ | refine zG ?_);conv=>whnf) | (refine zX (fun hc => ?_) (fun hc => ?_)<;>(try simp only [SY] at hc)<;>first | omega | (conv=>whnf)))
            exact PRet.pure (Wk.int (by rw [ht]; rfl))
        · have hr1 : m.codes[i].rest = true ∧ m.codes[i].v = [] := by
            simp at hg
            exact ⟨hg.1, hg.2⟩
          rw [if_pos hr1] at ht
          conv => whnf
          repeat' (first | ((first | ((first | (apply zY;intro hg) | apply zZ);first | exact stA | ((conv=>whnf);(repeat ((first | (refine zW ?_ ?_;exact gA) | refine pC (constantsp_c _) wR ?_ | refine pC (constantsp_c _) cA ?_ | intro _);conv=>whnf));first | exact pS | exact pL | exact pE)) | (refine zW ?_ ?_;exact gA) | refine zH rfl ?_ | refine zA ?_ | refine zI bA ?_ | refine zI rfl ?_ | refine zJ rfl rfl ?_ | refine zB ?_ | refine zK rfl ?_ | refine zL rfl ?_ | refine zC ?_ | (refine zO ?_ ?_ ?_;omega;omega) | (refine zP ?_ ?_ ?_;omega;omega) | refine zM rfl ?_ | (refine zQ ?_ ?_ ?_;omega;omega) | (refine zR ?_ ?_;omega) | (refine zI ?_ ?_;exact nA) | (refine zS ?_ ?_ ?_;omega;omega) | (refine zT ?_ ?_ ?_;omega;omega) | (refine zU ?_ ?_ ?_;omega;omega) | (refine zV ?_ ?_ ?_;omega;omega) | refine pC (constantsp_c _) wR ?_ | refine pC (constantsp_c _) cA ?_ | refine zN rfl rfl rfl ?_ | refine zD ?_ | refine zE ?_ | refine zF ?_ | intro _ | refine zG ?_);conv=>whnf) | (refine zX (fun hc => ?_) (fun hc => ?_)<;>(try simp only [SY] at hc)<;>first | omega | (conv=>whnf)))
          exact PRet.pure (Wk.int (by rw [ht]; rfl))
      · rw [List.drop_of_length_le (by omega), modP] at ht
        exact PRet.pure (Wk.int (by rw [ht]; rfl))
end Go.Cb
namespace Go.Cb
open Go.Proofs
set_option maxRecDepth 100000
set_option maxHeartbeats 4000000
theorem Shift.ofGhost {x : PV} {Γ Γ' : List Ent} (g : Ghost Γ Γ') : Shift x Γ x Γ' := fun w0 F M w v hS hx => by
  obtain ⟨F', e, h⟩ := g w0 F M w hS
  exact ⟨F', e, h, Rep.mono e _ _ hx⟩
theorem Ghost.nilRowC (Γ : List Ent) : Ghost Γ (.row (nilTok 6 62) (([] : List Cod).map Cod.pv) :: Γ) := Ghost.nilRow _ _ _
theorem root13_c (b r : Nat) (t : Trm) (h : ClOk b r t) (hb : t.bulk ≤ 1000000000) : ACall Tryz.prog 66 [.ptr b 0, .agg t.cells, slI []] (mkrG b r (nilTok 6 62) [] (fun _ => none))
    (fun y Γ' => ∃ tk, y = .agg (t.clo false [] 0 (fun _ => none)).t.cells ∧ Γ' = [.box b [.sl 6 ((t.clo false [] 0 (fun _ => none)).c.map Cod.pv) none, .mp r], .tok tk, .mp r (.int .i64) (mapM Kn.pa (t.clo false [] 0 (fun _ => none)).fm) []]) :=
  (h (nilTok 6 62) [] (fun _ => none) [] rfl rfl (by simp; omega) (by simp)).shift fun y Γ' hq => by
    obtain ⟨tk', e, s, hy, hΓ⟩ := hq
    simp only [List.nil_append, List.length_nil] at hy hΓ
    subst hy hΓ
    exact ⟨_, _, Shift.ofGhost (Ghost.freezeRow (t := tk') (es := (t.clo false [] 0 (fun _ => none)).c.map Cod.pv) (b := b) (cs := [.ms tk', .mp r]) (cs' := [.sl 6 ((t.clo false [] 0 (fun _ => none)).c.map Cod.pv) none, .mp r]) (.cons (WkF.ms' s) (.cons (WkF.of (Wk.refl _)) .nil))), tk', rfl, rfl⟩
theorem RightP.shC {p : Prog} (h : RightP p 2) : p.body.shI ∧ p.body.shD := ⟨p.body.okT_shI (by decide) h.2.2.1, p.body.okT_shD h.2.2.1 h.2.2.2.2.2⟩
theorem conM_bulk {p : Prog} (h : RightP p 2) (hb : p.body.bulk ≤ 1048576) : (conM p).body.bulk + codsBulk (conM p).codes ≤ 1000000000 := by
  have h1 := (p.body.clo_bks false 20000 (by omega)).1 h.2.2.2.1 [] 0 (fun _ => none)
  have h2 := h.2.2.2.1
  show (p.body.clo false [] 0 (fun _ => none)).t.bulk + codsBulk (p.body.clo false [] 0 (fun _ => none)).c ≤ _
  omega
theorem noM_wk : Wk (.agg [.nil, .nil, .int .i64 0, .int .i64 0, .nil, .nil]) (.agg noM.cells) := Wk.agg (.cons (Wk.nil' rfl) (.cons (Wk.nil' rfl) (.cons (Wk.refl _) (.cons (Wk.refl _) (.cons (Wk.nil' rfl) (.cons (Wk.nil' rfl) .nil))))))
theorem conv13_c (p : Prog) (hb : p.body.bulk ≤ 1048576) (hl : p.consts.length ≤ 1000000000) :
    ACallP Tryz.prog 41 [.agg p.cells] (.tup [.agg (conv13 p).1.cells, .int .i64 (conv13 p).2]) := by
  have hen := check_eq p 2
  have hR : checkP p 2 = 0 → RightP p 2 := fun h => (checkD_right p 2).1 (by rw [← hen]; exact h)
  have hcl := cloneDat_c p.consts hl
  refine ACall.of_body tt_ok Tryz.func41 rfl rfl (n := 32) rfl rfl ?_
  conv => whnf
  repeat ((first | ((first | (apply zY;intro hg) | apply zZ);first | exact stA | exact stB | ((conv=>whnf);(repeat ((first | (refine zW ?_ ?_;exact gA) | refine pC (checkp_c p 2 (by omega) (by omega)) wR ?_ | refine pC (hcl) wR ?_ | refine zA ?_ | refine zH rfl ?_ | refine zB ?_ | (refine yE ?_ ?_ ?_ ?_;assumption;omega;omega) | (refine yF ?_ rfl ?_;omega) | (apply yH;assumption) | (refine yI ?_ ?_;assumption) | intro _);conv=>whnf));first | exact pS | exact pL | exact pE)) | (refine zW ?_ ?_;exact gA) | refine zH rfl ?_ | refine zA ?_ | refine zI bA ?_ | refine zI rfl ?_ | refine zJ rfl rfl ?_ | refine zB ?_ | refine zK rfl ?_ | refine zL rfl ?_ | refine zC ?_ | (refine zO ?_ ?_ ?_;omega;omega) | (refine zP ?_ ?_ ?_;omega;omega) | refine zM rfl ?_ | (refine zQ ?_ ?_ ?_;omega;omega) | (refine zR ?_ ?_;omega) | (refine zI ?_ ?_;exact nA) | (refine zS ?_ ?_ ?_;omega;omega) | (refine zT ?_ ?_ ?_;omega;omega) | (refine zU ?_ ?_ ?_;omega;omega) | (refine zV ?_ ?_ ?_;omega;omega) | refine pC (checkp_c p 2 (by omega) (by omega)) wR ?_ | refine pC (hcl) wR ?_ | (refine yA ?_ rfl ?_ ?_;assumption;exact lA) | (refine yB ?_ rfl ?_ ?_;assumption;exact lA) | (refine yC rfl ?_ ?_;exact lA) | (refine yD ?_ ?_ rfl ?_ ?_;assumption;assumption;exact lA) | (refine yE ?_ ?_ ?_ ?_;assumption;omega;omega) | (refine yF ?_ rfl ?_;omega) | (apply yH;assumption) | (refine yI ?_ ?_;assumption) | (refine yG ?_ rfl rfl rfl ?_;omega) | refine n0 ?_ | refine zN rfl rfl rfl ?_ | refine zD ?_ | refine zE ?_ | refine zF ?_ | intro _);conv=>whnf)
  rename_i b1 b2
  refine zX (fun hc => ?_) (fun hc => ?_) <;> (try simp only [SY] at hc)
  · conv => whnf
    repeat ((first | ((first | (apply zY;intro hg) | apply zZ);first | exact stA | exact stB | ((conv=>whnf);(repeat ((first | (refine zW ?_ ?_;exact gA) | refine pC (checkp_c p 2 (by omega) (by omega)) wR ?_ | refine pC (hcl) wR ?_ | refine zA ?_ | refine zH rfl ?_ | refine zB ?_ | (refine yE ?_ ?_ ?_ ?_;assumption;omega;omega) | (refine yF ?_ rfl ?_;omega) | (apply yH;assumption) | (refine yI ?_ ?_;assumption) | intro _);conv=>whnf));first | exact pS | exact pL | exact pE)) | (refine zW ?_ ?_;exact gA) | refine zH rfl ?_ | refine zA ?_ | refine zI bA ?_ | refine zI rfl ?_ | refine zJ rfl rfl ?_ | refine zB ?_ | refine zK rfl ?_ | refine zL rfl ?_ | refine zC ?_ | (refine zO ?_ ?_ ?_;omega;omega) | (refine zP ?_ ?_ ?_;omega;omega) | refine zM rfl ?_ | (refine zQ ?_ ?_ ?_;omega;omega) | (refine zR ?_ ?_;omega) | (refine zI ?_ ?_;exact nA) | (refine zS ?_ ?_ ?_;omega;omega) | (refine zT ?_ ?_ ?_;omega;omega) | (refine zU ?_ ?_ ?_;omega;omega) | (refine zV ?_ ?_ ?_;omega;omega) | refine pC (checkp_c p 2 (by omega) (by omega)) wR ?_ | refine pC (hcl) wR ?_ | (refine yA ?_ rfl ?_ ?_;assumption;exact lA) | (refine yB ?_ rfl ?_ ?_;assumption;exact lA) | (refine yC rfl ?_ ?_;exact lA) | (refine yD ?_ ?_ rfl ?_ ?_;assumption;assumption;exact lA) | (refine yE ?_ ?_ ?_ ?_;assumption;omega;omega) | (refine yF ?_ rfl ?_;omega) | (apply yH;assumption) | (refine yI ?_ ?_;assumption) | (refine yG ?_ rfl rfl rfl ?_;omega) | refine n0 ?_ | refine zN rfl rfl rfl ?_ | refine zD ?_ | refine zE ?_ | refine zF ?_ | intro _);conv=>whnf)
    have hcn : conv13 p = (noM, 5) := by rw [conv13, if_neg hc]
    rw [hcn]
    exact PRet.pure (Wk.tup (.cons noM_wk (.cons (Wk.refl _) .nil)))
  have hr := hR hc
  have hcb := conM_bulk hr hb
  have hcn : conv13 p = if mckP (conM p) = 0 then (conM p, 0) else (noM, 5) := by rw [conv13, if_pos hc]
  rw [hcn]
  conv => whnf
  repeat ((first | ((first | (apply zY;intro hg) | apply zZ);first | exact stA | exact stB | ((conv=>whnf);(repeat ((first | (refine zW ?_ ?_;exact gA) | refine pC (checkp_c p 2 (by omega) (by omega)) wR ?_ | refine pC (hcl) wR ?_ | refine zA ?_ | refine zH rfl ?_ | refine zB ?_ | (refine yE ?_ ?_ ?_ ?_;assumption;omega;omega) | (refine yF ?_ rfl ?_;omega) | (apply yH;assumption) | (refine yI ?_ ?_;assumption) | intro _);conv=>whnf));first | exact pS | exact pL | exact pE)) | (refine zW ?_ ?_;exact gA) | refine zH rfl ?_ | refine zA ?_ | refine zI bA ?_ | refine zI rfl ?_ | refine zJ rfl rfl ?_ | refine zB ?_ | refine zK rfl ?_ | refine zL rfl ?_ | refine zC ?_ | (refine zO ?_ ?_ ?_;omega;omega) | (refine zP ?_ ?_ ?_;omega;omega) | refine zM rfl ?_ | (refine zQ ?_ ?_ ?_;omega;omega) | (refine zR ?_ ?_;omega) | (refine zI ?_ ?_;exact nA) | (refine zS ?_ ?_ ?_;omega;omega) | (refine zT ?_ ?_ ?_;omega;omega) | (refine zU ?_ ?_ ?_;omega;omega) | (refine zV ?_ ?_ ?_;omega;omega) | refine pC (checkp_c p 2 (by omega) (by omega)) wR ?_ | refine pC (hcl) wR ?_ | (refine yA ?_ rfl ?_ ?_;assumption;exact lA) | (refine yB ?_ rfl ?_ ?_;assumption;exact lA) | (refine yC rfl ?_ ?_;exact lA) | (refine yD ?_ ?_ rfl ?_ ?_;assumption;assumption;exact lA) | (refine yE ?_ ?_ ?_ ?_;assumption;omega;omega) | (refine yF ?_ rfl ?_;omega) | (apply yH;assumption) | (refine yI ?_ ?_;assumption) | (refine yG ?_ rfl rfl rfl ?_;omega) | refine n0 ?_ | refine zN rfl rfl rfl ?_ | refine zD ?_ | refine zE ?_ | refine zF ?_ | intro _);conv=>whnf)
  rename_i r b3
  rw [mapK_nil]
  refine PCall.goG (Ghost.trans (Ghost.nilRowC _) (Ghost.box (b := b3) (cs := [.nil, .mp r]) (cs' := [.ms (nilTok 6 62), .mp r]) (.cons (Wk.nilRow 6 62) (.cons (Wk.refl _) .nil)))) (root13_c b3 r p.body (clOk b3 r p.body hr.shC.1 hr.shC.2) (by omega)) (.cons (Wk.refl _) (.cons (Wk.refl _) (.cons (Wk.nil' rfl) .nil))) ?_
  rintro _ _ ⟨tk, rfl, rfl⟩
  have hck := checkModuleP_c (conM p) hcb hl (by
    have := (p.body.clo_lens false).1 [] 0 (fun _ => none)
    show (p.body.clo false [] 0 (fun _ => none)).c.length ≤ _
    omega)
  have hcm : conM p = ⟨p.consts, (p.body.clo false [] 0 (fun _ => none)).c, (p.body.clo false [] 0 (fun _ => none)).t⟩ := rfl
  rw [hcm] at hck ⊢
  generalize p.body.clo false [] 0 (fun _ => none) = a at *
  conv => whnf
  repeat' (first | ((first | ((first | (apply zY;intro hg) | apply zZ);first | exact stA | exact stB | ((conv=>whnf);(repeat ((first | (refine zW ?_ ?_;exact gA) | refine pC (hcl) wR ?_ | refine pC (hck) wR ?_ | refine zA ?_ | refine zH rfl ?_ | refine zB ?_ | (refine yE ?_ ?_ ?_ ?_;assumption;omega;omega) | (refine yF ?_ rfl ?_;omega) | (apply yH;assumption) | (refine yI ?_ ?_;assumption) | intro _);conv=>whnf));first | exact pS | exact pL | exact pE)) | (refine zW ?_ ?_;exact gA) | refine zH rfl ?_ | refine zA ?_ | refine zI bA ?_ | refine zI rfl ?_ | refine zJ rfl rfl ?_ | refine zB ?_ | refine zK rfl ?_ | refine zL rfl ?_ | refine zC ?_ | (refine zO ?_ ?_ ?_;omega;omega) | (refine zP ?_ ?_ ?_;omega;omega) | refine zM rfl ?_ | (refine zQ ?_ ?_ ?_;omega;omega) | (refine zR ?_ ?_;omega) | (refine zI ?_ ?_;exact nA) | (refine zS ?_ ?_ ?_;omega;omega) | (refine zT ?_ ?_ ?_;omega;omega) | (refine zU ?_ ?_ ?_;omega;omega) | (refine zV ?_ ?_ ?_;omega;omega) | refine pC (hcl) wR ?_ | refine pC (hck) wR ?_ | (refine yA ?_ rfl ?_ ?_;assumption;exact lA) | (refine yB ?_ rfl ?_ ?_;assumption;exact lA) | (refine yC rfl ?_ ?_;exact lA) | (refine yD ?_ ?_ rfl ?_ ?_;assumption;assumption;exact lA) | (refine yE ?_ ?_ ?_ ?_;assumption;omega;omega) | (refine yF ?_ rfl ?_;omega) | (apply yH;assumption) | (refine yI ?_ ?_;assumption) | (refine yG ?_ rfl rfl rfl ?_;omega) | refine n0 ?_ | refine zN rfl rfl rfl ?_ | refine zD ?_ | refine zE ?_ | refine zF ?_ | refine PDraw.sP (some 18) rfl [9] [10] tt_ok mixed ?_ | intro _ | refine zG ?_);conv=>whnf) | (refine zX (fun hc => ?_) (fun hc => ?_)<;>(try simp only [SY] at hc)<;>first | omega | (conv=>whnf)))
  · rw [if_neg hc]
    exact PRet.pure (Wk.tup (.cons noM_wk (.cons (Wk.refl _) .nil)))
  · rw [if_pos hc]
    exact PRet.pure (y := .tup [.agg (⟨p.consts, a.c, a.t⟩ : Mdl).cells, .int .i64 0]) (Wk.refl _)
end Go.Cb
namespace Go.Cb
open Go.Proofs
set_option maxRecDepth 100000
set_option maxHeartbeats 4000000
mutual
def Trm.ct (o : Int) : Trm → Nat
  | .mk op _ _ t => (if op = o then 1 else 0) + Trm.cts o t
def Trm.cts (o : Int) : List Trm → Nat
  | [] => 0
  | x :: xs => Trm.ct o x + Trm.cts o xs
end
theorem Trm.ct_eq (o : Int) (t : Trm) : t.ct o = (if t.op = o then 1 else 0) + Trm.cts o t.t := by cases t; rw [Trm.ct]; rfl
theorem Trm.ct_mk (o op n : Int) (v : List Int) (l : List Trm) : (Trm.mk op n v l).ct o = (if op = o then 1 else 0) + Trm.cts o l := by rw [Trm.ct]
theorem Trm.cts_append (o : Int) : ∀ l m : List Trm, Trm.cts o (l ++ m) = Trm.cts o l + Trm.cts o m
  | [], m => by simp [Trm.cts]
  | x :: l, m => by rw [List.cons_append, Trm.cts, Trm.cts, Trm.cts_append o l m]; omega
theorem Trm.ct_bulk (o : Int) (t : Trm) : t.ct o ≤ t.bulk := by
  induction t using Trm.ind with
  | h t ih =>
    have key : ∀ l : List Trm, (∀ y ∈ l, y.ct o ≤ y.bulk) → Trm.cts o l ≤ Trm.bulks l := by
      intro l
      induction l with
      | nil => intro _; simp [Trm.cts]
      | cons x l ihl =>
        intro h
        rw [Trm.cts, Trm.bulks]
        have := h x (by simp)
        have := ihl fun y hy => h y (by simp [hy])
        omega
    rw [Trm.ct_eq, t.bulk_eq]
    have := key t.t ih
    split <;> omega
def cctS (o : Int) : List Cod → Nat
  | [] => 0
  | x :: l => x.body.ct o + cctS o l
theorem cctS_append (o : Int) : ∀ l m : List Cod, cctS o (l ++ m) = cctS o l + cctS o m
  | [], m => by simp [cctS]
  | x :: l, m => by rw [List.cons_append, cctS, cctS, cctS_append o l m]; omega
mutual
def Trm.opn : Trm → Nat
  | .mk op n v t => (if op = 4 ∧ (riseL (freeOf (Trm.all (.mk op n v t)))).length > 0 then 1 else 0) + Trm.opns t
def Trm.opns : List Trm → Nat
  | [] => 0
  | x :: xs => Trm.opn x + Trm.opns xs
end
theorem Trm.opn_eq (t : Trm) : t.opn = (if t.op = 4 ∧ (riseL (freeOf t.all)).length > 0 then 1 else 0) + Trm.opns t.t := by cases t; rw [Trm.opn]; rfl
theorem Trm.opn_bulk (t : Trm) : t.opn ≤ t.bulk := by
  induction t using Trm.ind with
  | h t ih =>
    have key : ∀ l : List Trm, (∀ y ∈ l, y.opn ≤ y.bulk) → Trm.opns l ≤ Trm.bulks l := by
      intro l
      induction l with
      | nil => intro _; simp [Trm.opns]
      | cons x l ihl =>
        intro h
        rw [Trm.opns, Trm.bulks]
        have := h x (by simp)
        have := ihl fun y hy => h y (by simp [hy])
        omega
    rw [Trm.opn_eq, t.bulk_eq]
    have := key t.t ih
    split <;> omega
mutual
def Trm.shR : Trm → Prop
  | .mk op _ _ t => ((op = 1 → t = []) ∧ op ≠ 19) ∧ Trm.shRs t
def Trm.shRs : List Trm → Prop
  | [] => True
  | x :: xs => Trm.shR x ∧ Trm.shRs xs
end
theorem Trm.shR_eq (t : Trm) : t.shR ↔ ((t.op = 1 → t.t = []) ∧ t.op ≠ 19) ∧ Trm.shRs t.t := by cases t; rw [Trm.shR]; rfl
theorem Trm.okT_shR {c codes : Int} {free : Bool} (t : Trm) : ∀ {scope : List Int} {deep : Int}, t.okT 2 c codes free scope deep → t.shR := by
  induction t using Trm.ind with
  | h t ih =>
    intro scope deep h
    rw [Trm.okT_eq] at h
    rw [Trm.shR_eq]
    have key : ∀ (op : Int) (sc inner : List Int) (deep : Int) (l : List Trm), (∀ y ∈ l, ∀ {scope : List Int} {deep : Int}, y.okT 2 c codes free scope deep → y.shR) → Trm.okTs 2 c codes free op sc inner l deep → Trm.shRs l := by
      intro op sc inner deep l
      induction l with
      | nil => intro _ _; rw [Trm.shRs]; trivial
      | cons x l ihl =>
        intro hy hk
        rw [Trm.okTs] at hk
        rw [Trm.shRs]
        exact ⟨hy x (by simp) hk.2.1, ihl (fun z hz => hy z (by simp [hz])) hk.2.2⟩
    have hts := h.2
    obtain ⟨⟨_, h2, h3, _⟩, _⟩ := h
    refine ⟨⟨fun e => ?_, fun e => ?_⟩, key _ _ _ _ _ ih hts⟩
    · unfold countsL at h3
      split at h3
      · cases h3
      · rw [if_pos (by omega)] at h3
        exact List.eq_nil_of_length_eq_zero (by simpa using h3)
    · rw [e] at h2
      revert h2
      decide
theorem refF_ct (o : Int) (h1 : o = 4 ∨ o = 19) (fm : Fm) (ov : List Int) (v : Int) : (refF fm ov v).ct o = 0 := by
  unfold refF
  split
  · rw [Trm.ct_mk, Trm.cts, if_neg (by omega)]
  · split
    · rw [Trm.ct_mk, Trm.cts, if_neg (by omega)]
    · rw [Trm.ct_mk, Trm.cts, if_neg (by omega)]
theorem refs_ct (o : Int) (h1 : o = 4 ∨ o = 19) (fm : Fm) (ov l : List Int) : Trm.cts o (l.map (refF fm ov)) = 0 := by
  induction l with
  | nil => rfl
  | cons x l ih => rw [List.map_cons, Trm.cts, refF_ct o h1, ih]
theorem cloT_ct (n : Int) (l : List Trm) (h : Trm.cts 19 l = 0) : (cloT n l).ct 19 ≤ 1 ∧ (l = [] → (cloT n l).ct 19 = 0) := by
  unfold cloT
  split
  · rw [Trm.ct_mk, Trm.cts]; exact ⟨by simp, fun _ => by simp⟩
  · rename_i hl
    rw [Trm.ct_mk, h]; exact ⟨by simp, fun e => by rw [e] at hl; simp at hl⟩
theorem over_none {t : Trm} (h4 : t.op = 4) (h : t.opn = 0) (fm : Fm) : overF fm t = [] := by
  rw [Trm.opn_eq] at h
  have : (riseL (freeOf t.all)).length = 0 := by
    by_cases hl : (riseL (freeOf t.all)).length > 0
    · rw [if_pos ⟨h4, hl⟩] at h; omega
    · omega
  rw [overF, List.eq_nil_of_length_eq_zero this]
  rfl
def NnOk (t : Trm) : Prop := ∀ ov n fm, (t.clo false ov n fm).c.length = t.ct 4 ∧ (t.clo false ov n fm).t.ct 19 + cctS 19 (t.clo false ov n fm).c ≤ t.ct 4 ∧ (t.opn = 0 → (t.clo false ov n fm).t.ct 19 + cctS 19 (t.clo false ov n fm).c = 0)
def NnB (t : Trm) : Prop := t.op = 4 → ∀ ov n fm, (t.cloB false ov n fm).c.length + 1 = t.ct 4 ∧ (t.cloB false ov n fm).t.ct 19 + cctS 19 (t.cloB false ov n fm).c + 1 ≤ t.ct 4 ∧ (t.opn = 0 → (t.cloB false ov n fm).t.ct 19 + cctS 19 (t.cloB false ov n fm).c = 0)
theorem Trm.clos_nn : ∀ l : List Trm, (∀ y ∈ l, NnOk y) → ∀ ov n fm, (Trm.clos false l ov n fm).c.length = Trm.cts 4 l ∧ Trm.cts 19 (Trm.clos false l ov n fm).t + cctS 19 (Trm.clos false l ov n fm).c ≤ Trm.cts 4 l ∧ (Trm.opns l = 0 → Trm.cts 19 (Trm.clos false l ov n fm).t + cctS 19 (Trm.clos false l ov n fm).c = 0)
  | [], _, ov, n, fm => by rw [Trm.clos]; simp [Trm.cts, cctS]
  | y :: l, h, ov, n, fm => by
    rw [Trm.clos, Trm.cts, Trm.opns]
    obtain ⟨a1, a2, a3⟩ := h y (by simp) ov n fm
    obtain ⟨b1, b2, b3⟩ := Trm.clos_nn l (fun z hz => h z (by simp [hz])) ov (n + (y.clo false ov n fm).c.length) (y.clo false ov n fm).fm
    dsimp only
    rw [List.length_append, Trm.cts, cctS_append]
    refine ⟨by omega, by omega, fun h0 => ?_⟩
    have := a3 (by omega)
    have := b3 (by omega)
    omega
theorem Trm.cloL_nn : ∀ l : List Trm, (∀ y ∈ l, NnOk y) → ∀ vs, l.length = vs.length + 1 → ∀ ov n fm lrn, (Trm.cloL false l vs ov n fm lrn).c.length = Trm.cts 4 l ∧ Trm.cts 19 (Trm.cloL false l vs ov n fm lrn).t + (Trm.cloL false l vs ov n fm lrn).last.ct 19 + cctS 19 (Trm.cloL false l vs ov n fm lrn).c ≤ Trm.cts 4 l ∧ (Trm.opns l = 0 → Trm.cts 19 (Trm.cloL false l vs ov n fm lrn).t + (Trm.cloL false l vs ov n fm lrn).last.ct 19 + cctS 19 (Trm.cloL false l vs ov n fm lrn).c = 0)
  | [], _, vs, hv, ov, n, fm, lrn => by simp at hv
  | y :: l, h, [], hv, ov, n, fm, lrn => by
    obtain rfl : l = [] := List.eq_nil_of_length_eq_zero (by simpa using hv)
    rw [Trm.cloL, Trm.cts, Trm.opns, Trm.cts, Trm.opns]
    obtain ⟨a1, a2, a3⟩ := h y (by simp) ov n (learnF false lrn fm)
    dsimp only
    rw [Trm.cts]
    refine ⟨by omega, by omega, fun h0 => ?_⟩
    have := a3 (by omega)
    omega
  | y :: l, h, v :: vs, hv, ov, n, fm, lrn => by
    rw [Trm.cloL, Trm.cts, Trm.opns]
    obtain ⟨a1, a2, a3⟩ := h y (by simp) ov n fm
    obtain ⟨b1, b2, b3⟩ := Trm.cloL_nn l (fun z hz => h z (by simp [hz])) vs (by simpa using hv) ov (n + (y.clo false ov n fm).c.length) (y.clo false ov n fm).fm (if y.op = 4 then lrn ++ [(v, ⟨n, (y.clo false ov n fm).t.op == 21⟩)] else lrn)
    dsimp only
    rw [List.length_append, cctS_append]
    generalize (if y.op = 4 then lrn ++ [(v, (⟨n, (y.clo false ov n fm).t.op == 21⟩ : Kn))] else lrn) = lrn2 at *
    split
    · refine ⟨by omega, by omega, fun h0 => ?_⟩
      have := a3 (by omega)
      have := b3 (by omega)
      omega
    · rw [Trm.cts]
      refine ⟨by omega, by omega, fun h0 => ?_⟩
      have := a3 (by omega)
      have := b3 (by omega)
      omega
theorem Trm.cloF_nn : ∀ l : List Trm, (∀ y ∈ l, NnOk y) → (∀ y ∈ l, NnB y) → ∀ vs, l.length = vs.length + 1 → (∀ y ∈ l.dropLast, y.op = 4) → ∀ ov c n fm, (Trm.cloF false l vs ov c n fm).own.length + (Trm.cloF false l vs ov c n fm).c.length = Trm.cts 4 l ∧ Trm.cts 19 (Trm.cloF false l vs ov c n fm).t + (Trm.cloF false l vs ov c n fm).last.ct 19 + cctS 19 (Trm.cloF false l vs ov c n fm).own + cctS 19 (Trm.cloF false l vs ov c n fm).c ≤ Trm.cts 4 l ∧ (Trm.opns l = 0 → (Trm.cloF false l vs ov c n fm).last.ct 19 + cctS 19 (Trm.cloF false l vs ov c n fm).own + cctS 19 (Trm.cloF false l vs ov c n fm).c = 0)
  | [], _, _, vs, hv, _, ov, c, n, fm => by simp at hv
  | y :: l, h, _, [], hv, _, ov, c, n, fm => by
    obtain rfl : l = [] := List.eq_nil_of_length_eq_zero (by simpa using hv)
    rw [Trm.cloF, Trm.cts, Trm.opns, Trm.cts, Trm.opns]
    obtain ⟨a1, a2, a3⟩ := h y (by simp) ov n fm
    dsimp only
    rw [Trm.cts, cctS]
    refine ⟨by simp; omega, by omega, fun h0 => ?_⟩
    have := a3 (by omega)
    omega
  | y :: l, h, k, v :: vs, hv, h4, ov, c, n, fm => by
    have hl0 : l ≠ [] := by intro e; rw [e] at hv; simp at hv
    rw [List.dropLast_cons_of_ne_nil hl0] at h4
    have hy4 := h4 y (by simp)
    rw [Trm.cloF, Trm.cts, Trm.opns]
    obtain ⟨a1, a2, a3⟩ := k y (by simp) hy4 (overF fm y) n fm
    obtain ⟨b1, b2, b3⟩ := Trm.cloF_nn l (fun z hz => h z (by simp [hz])) (fun z hz => k z (by simp [hz])) vs (by simpa using hv) (fun z hz => h4 z (by simp [hz])) ov (c + 1) (n + (y.cloB false (overF fm y) n fm).c.length) (y.cloB false (overF fm y) n fm).fm
    dsimp only
    rw [List.length_append, cctS_append, Trm.cts, cctS, Trm.ct_mk, refs_ct 19 (by omega), if_pos rfl, List.length_cons]
    dsimp only
    refine ⟨by omega, by omega, fun h0 => ?_⟩
    have := a3 (by omega)
    have := b3 (by omega)
    omega
theorem Trm.opns_zero : ∀ {l : List Trm}, Trm.opns l = 0 → ∀ x ∈ l, x.opn = 0
  | [], _, x, hx => by cases hx
  | y :: l, h, x, hx => by
    rw [Trm.opns] at h
    rcases List.mem_cons.1 hx with rfl | hx
    · omega
    · exact Trm.opns_zero (by omega) x hx
theorem Trm.shRs_mem : ∀ {l : List Trm}, Trm.shRs l → ∀ x ∈ l, x.shR
  | [], _, x, hx => by cases hx
  | y :: l, h, x, hx => by
    rw [Trm.shRs] at h
    rcases List.mem_cons.1 hx with rfl | hx
    · exact h.1
    · exact Trm.shRs_mem h.2 x hx
theorem Trm.clo_nn (t : Trm) : t.shI → t.shR → NnOk t ∧ NnB t := by
  induction t using Trm.ind with
  | h t ih =>
    intro hI hR
    rw [Trm.shI_eq] at hI
    rw [Trm.shR_eq] at hR
    obtain ⟨⟨s1, s2, s3, s4⟩, s5⟩ := hI
    obtain ⟨⟨r1, r2⟩, r3⟩ := hR
    have hx : ∀ y ∈ t.t, NnOk y ∧ NnB y := fun y hy => ih y hy (Trm.shIs_mem s5 y hy) (Trm.shRs_mem r3 y hy)
    have hB : NnB t := by
      intro h4 ov n fm
      rw [Trm.cloB_eq, t.ct_eq, if_pos h4, t.opn_eq]
      obtain ⟨z, hz⟩ : ∃ z, t.t = [z] := by
        have := s2 h4
        cases ht : t.t with
        | nil => rw [ht] at this; simp at this
        | cons z zs =>
          cases zs with
          | nil => exact ⟨z, rfl⟩
          | cons y ys => rw [ht] at this; simp at this
      rw [hz, Trm.cloH, Trm.cts, Trm.cts, Trm.opns, Trm.opns]
      obtain ⟨a1, a2, a3⟩ := (hx z (by rw [hz]; simp)).1 ov n fm
      refine ⟨by omega, by omega, fun h0 => ?_⟩
      have := a3 (by omega)
      omega
    refine ⟨?_, hB⟩
    intro ov n fm
    rw [Trm.clo_eq]
    split
    · rename_i h1
      rw [t.ct_eq, r1 h1, if_neg (by omega)]
      dsimp only
      rw [refF_ct 19 (by omega), Trm.cts, cctS]
      simp
    split
    · rename_i h4
      obtain ⟨a1, a2, a3⟩ := hB h4 (overF fm t) (n + 1) fm
      dsimp only
      rw [if_neg (by simp), List.length_cons, cctS]
      obtain ⟨c1, c2⟩ := cloT_ct n ((overF fm t).map (refF (t.cloB false (overF fm t) (n + 1) fm).fm ov)) (refs_ct 19 (by omega) _ _ _)
      refine ⟨a1, by dsimp only; omega, fun h0 => ?_⟩
      have := a3 h0
      have := c2 (by rw [over_none h4 h0]; rfl)
      dsimp only
      omega
    split
    · rename_i h8
      obtain ⟨a1, a2, a3⟩ := Trm.cloL_nn t.t (fun y hy => (hx y hy).1) t.v (s3 (.inl h8)) ov n fm []
      have e1 : t.ct 4 = Trm.cts 4 t.t := by rw [Trm.ct_eq, if_neg (by omega), Nat.zero_add]
      have e2 : t.opn = Trm.opns t.t := by rw [Trm.opn_eq, if_neg (by omega), Nat.zero_add]
      rw [e1, e2]
      dsimp only
      split
      · refine ⟨by omega, by omega, fun h0 => ?_⟩
        have := a3 (by omega)
        omega
      · rw [Trm.ct_mk, Trm.cts_append, Trm.cts, Trm.cts, if_neg (by omega)]
        refine ⟨by omega, by omega, fun h0 => ?_⟩
        have := a3 (by omega)
        omega
    split
    · rename_i h9
      obtain ⟨a1, a2, a3⟩ := Trm.cloF_nn t.t (fun y hy => (hx y hy).1) (fun y hy => (hx y hy).2) t.v (s3 (.inr h9)) (s4 h9) ov n (n + t.v.length) (fixF false t.v n (fixS fm t.v t.t) fm)
      have e1 : t.ct 4 = Trm.cts 4 t.t := by rw [Trm.ct_eq, if_neg (by omega), Nat.zero_add]
      have e2 : t.opn = Trm.opns t.t := by rw [Trm.opn_eq, if_neg (by omega), Nat.zero_add]
      rw [e1, e2]
      dsimp only
      rw [List.length_append, cctS_append]
      split
      · refine ⟨by omega, by omega, fun h0 => ?_⟩
        have := a3 (by omega)
        omega
      · rename_i hns
        rw [Trm.ct_mk, Trm.cts_append, Trm.cts, Trm.cts, if_neg (by omega)]
        refine ⟨by omega, by omega, fun h0 => ?_⟩
        exfalso
        apply hns
        unfold fixS
        rw [List.all_eq_true]
        intro y hy
        have hlen := s3 (.inr h9)
        have hy4 : y.op = 4 := s4 h9 y (by rw [List.dropLast_eq_take, hlen]; exact hy)
        rw [over_none hy4 (Trm.opns_zero (by omega) y (List.mem_of_mem_take hy))]
        rfl
    · rename_i h1 h4 h8 h9
      obtain ⟨a1, a2, a3⟩ := Trm.clos_nn t.t (fun y hy => (hx y hy).1) ov n fm
      have hcf : ¬(callF fm t.op t.n t.t).1 = 19 := by
        unfold callF
        split
        · split
          · simp
          · exact r2
        · exact r2
      have e1 : t.ct 4 = Trm.cts 4 t.t := by rw [Trm.ct_eq, if_neg h4, Nat.zero_add]
      have e2 : t.opn = Trm.opns t.t := by rw [Trm.opn_eq, if_neg (by omega), Nat.zero_add]
      rw [e1, e2]
      dsimp only
      rw [Trm.ct_mk, if_neg hcf]
      refine ⟨by omega, by omega, fun h0 => ?_⟩
      have := a3 (by omega)
      omega
end Go.Cb
namespace Go.Cb
open Go.Proofs
set_option maxRecDepth 100000
set_option maxHeartbeats 4000000
end Go.Cb
namespace Go.Cb
open Go.Proofs
set_option maxRecDepth 100000
set_option maxHeartbeats 4000000
def thiP : Prog := ⟨[.mk 0 1 1 [] []], .mk 9 0 [0] [.mk 4 0 [1] [.mk 5 0 [] [.mk 1 0 [] [], .mk 1 1 [] []]], .mk 5 0 [] [.mk 1 0 [] [], .mk 0 0 [] []]]⟩
def thiM : Mdl := ⟨[.mk 0 1 1 [] []], [⟨[1], false, .mk 22 0 [] [.mk 21 0 [] [], .mk 1 1 [] []]⟩], .mk 22 0 [] [.mk 21 0 [] [], .mk 0 0 [] []]⟩
theorem thi_over (fm : Fm) : overF fm (.mk 4 0 [1] [.mk 5 0 [] [.mk 1 0 [] [], .mk 1 1 [] []]]) = if stF fm 0 = true then [] else [0] := by
  have h : freeOf (Trm.all (.mk 4 0 [1] [.mk 5 0 [] [.mk 1 0 [] [], .mk 1 1 [] []]])) = [0] := by decide +kernel
  rw [overF, h, rise_one]
  cases h2 : stF fm 0 <;> simp [h2]
theorem thi_con : conM thiP = thiM := by
  simp [conM, thiP, thiM, Trm.clo, Trm.cloF, Trm.cloB, Trm.cloH, Trm.clos, fixS, fixF, setF, thi_over, stF, refF, codeF, callF, idxL]
  exact ⟨⟨rfl, by decide, rfl, rfl⟩, rfl, rfl⟩
theorem thi_conv : conv13 thiP = (thiM, 0) := by
  rw [conv13, if_pos (by decide), thi_con, if_pos (by decide)]
theorem thi_c {c v t : PV} [h1 : SlOf Datum.pv 5 c [.mk 0 1 1 [] []]] [h2 : SlOf (PV.int .i64) 1 v [0]] [h3 : SlOf Trm.pv 4 t [.mk 4 0 [1] [.mk 5 0 [] [.mk 1 0 [] [], .mk 1 1 [] []]], .mk 5 0 [] [.mk 1 0 [] [], .mk 0 0 [] []]]] :
    ACallP Tryz.prog 41 [.agg [c, .int .i64 9, .int .i64 0, v, t]] (.tup [.agg thiM.cells, .int .i64 0]) := by
  have h := conv13_c thiP (by decide) (by decide)
  rw [thi_conv] at h
  exact ACall.wk h (.cons (Wk.agg (.cons h1.wk (.cons (Wk.refl _) (.cons (Wk.refl _) (.cons h2.wk (.cons h3.wk .nil)))))) .nil)
theorem awake13_c : ACallP Tryz.prog 39 [] (.bool true) := by
  refine ACall.of_body tt_ok Tryz.func39 rfl rfl (n := 58) rfl rfl ?_
  conv => whnf
  repeat ((first | ((first | (apply zY;intro hg) | apply zZ);first | exact stA | exact stB | ((conv=>whnf);(repeat ((first | (refine zW ?_ ?_;exact gA) | refine pC (thi_c) wR ?_ | intro _);conv=>whnf));first | exact pS | exact pL | exact pE)) | (refine zW ?_ ?_;exact gA) | refine zH rfl ?_ | refine zA ?_ | refine zI bA ?_ | refine zI rfl ?_ | refine zJ rfl rfl ?_ | refine zB ?_ | refine zK rfl ?_ | refine zL rfl ?_ | refine zC ?_ | (refine zO ?_ ?_ ?_;omega;omega) | (refine zP ?_ ?_ ?_;omega;omega) | refine zM rfl ?_ | (refine zQ ?_ ?_ ?_;omega;omega) | (refine zR ?_ ?_;omega) | (refine zI ?_ ?_;exact nA) | (refine zS ?_ ?_ ?_;omega;omega) | (refine zT ?_ ?_ ?_;omega;omega) | (refine zU ?_ ?_ ?_;omega;omega) | (refine zV ?_ ?_ ?_;omega;omega) | refine pC (thi_c) wR ?_ | (refine yA ?_ rfl ?_ ?_;assumption;exact lA) | (refine yB ?_ rfl ?_ ?_;assumption;exact lA) | (refine yC rfl ?_ ?_;exact lA) | refine n0 ?_ | refine zN rfl rfl rfl ?_ | refine zD ?_ | refine zE ?_ | refine zF ?_ | intro _);conv=>whnf)
  conv => whnf
  repeat' (first | ((first | ((first | (apply zY;intro hg) | apply zZ);first | exact stA | exact stB | ((conv=>whnf);(repeat ((first | (refine zW ?_ ?_;exact gA) | refine pC (thi_c) wR ?_ | intro _);conv=>whnf));first | exact pS | exact pL | exact pE)) | (refine zW ?_ ?_;exact gA) | refine zH rfl ?_ | refine zA ?_ | refine zI bA ?_ | refine zI rfl ?_ | refine zJ rfl rfl ?_ | refine zB ?_ | refine zK rfl ?_ | refine zL rfl ?_ | refine zC ?_ | (refine zO ?_ ?_ ?_;omega;omega) | (refine zP ?_ ?_ ?_;omega;omega) | refine zM rfl ?_ | (refine zQ ?_ ?_ ?_;omega;omega) | (refine zR ?_ ?_;omega) | (refine zI ?_ ?_;exact nA) | (refine zS ?_ ?_ ?_;omega;omega) | (refine zT ?_ ?_ ?_;omega;omega) | (refine zU ?_ ?_ ?_;omega;omega) | (refine zV ?_ ?_ ?_;omega;omega) | refine pC (thi_c) wR ?_ | (refine yA ?_ rfl ?_ ?_;assumption;exact lA) | (refine yB ?_ rfl ?_ ?_;assumption;exact lA) | (refine yC rfl ?_ ?_;exact lA) | refine n0 ?_ | refine zN rfl rfl rfl ?_ | refine zD ?_ | refine zE ?_ | refine zF ?_ | intro _ | refine zG ?_);conv=>whnf) | (refine zX (fun hc => ?_) (fun hc => ?_)<;>(try simp only [SY] at hc)<;>first | omega | (conv=>whnf)))
  exact PRet.pure (Wk.bool rfl)
theorem few13_c (p : Prog) (n : Int) (h0 : 0 ≤ n) (h1 : n ≤ 1000000000) : ACallP Tryz.prog 40 [.agg p.cells, .int .i64 n] (.bool (decide (0 ≤ p.body.few n) && decide (0 ≤ Datum.fews p.consts 2000))) := by
  refine ACall.of_body tt_ok Tryz.func40 rfl rfl (n := 14) rfl rfl ?_
  conv => whnf
  repeat ((first | ((first | (apply zY;intro hg) | apply zZ);first | exact stA | exact stB | ((conv=>whnf);(repeat ((first | (refine zW ?_ ?_;exact gA) | refine pC (FewTrm_c p.body n h0 h1) wR ?_ | refine pC (FewTrm_c p.body n h0 h1) cA ?_ | refine pC (FewAll_c p.consts 2000 (by omega) (by omega)) wR ?_ | intro _);conv=>whnf));first | exact pS | exact pL | exact pE)) | (refine zW ?_ ?_;exact gA) | refine zH rfl ?_ | refine zA ?_ | refine zI bA ?_ | refine zI rfl ?_ | refine zJ rfl rfl ?_ | refine zB ?_ | refine zK rfl ?_ | refine zL rfl ?_ | refine zC ?_ | (refine zO ?_ ?_ ?_;omega;omega) | (refine zP ?_ ?_ ?_;omega;omega) | refine zM rfl ?_ | (refine zQ ?_ ?_ ?_;omega;omega) | (refine zR ?_ ?_;omega) | (refine zI ?_ ?_;exact nA) | (refine zS ?_ ?_ ?_;omega;omega) | (refine zT ?_ ?_ ?_;omega;omega) | (refine zU ?_ ?_ ?_;omega;omega) | (refine zV ?_ ?_ ?_;omega;omega) | refine pC (FewTrm_c p.body n h0 h1) wR ?_ | refine pC (FewTrm_c p.body n h0 h1) cA ?_ | refine pC (FewAll_c p.consts 2000 (by omega) (by omega)) wR ?_ | (refine yA ?_ rfl ?_ ?_;assumption;exact lA) | (refine yB ?_ rfl ?_ ?_;assumption;exact lA) | (refine yC rfl ?_ ?_;exact lA) | refine n0 ?_ | refine zN rfl rfl rfl ?_ | refine zD ?_ | refine zE ?_ | refine zF ?_ | intro _);conv=>whnf)
  conv => whnf
  repeat' (first | ((first | ((first | (apply zY;intro hg) | apply zZ);first | exact stA | exact stB | ((conv=>whnf);(repeat ((first | (refine zW ?_ ?_;exact gA) | refine pC (FewTrm_c p.body n h0 h1) wR ?_ | refine pC (FewTrm_c p.body n h0 h1) cA ?_ | refine pC (FewAll_c p.consts 2000 (by omega) (by omega)) wR ?_ | intro _);conv=>whnf));first | exact pS | exact pL | exact pE)) | (refine zW ?_ ?_;exact gA) | refine zH rfl ?_ | refine zA ?_ | refine zI bA ?_ | refine zI rfl ?_ | refine zJ rfl rfl ?_ | refine zB ?_ | refine zK rfl ?_ | refine zL rfl ?_ | refine zC ?_ | (refine zO ?_ ?_ ?_;omega;omega) | (refine zP ?_ ?_ ?_;omega;omega) | refine zM rfl ?_ | (refine zQ ?_ ?_ ?_;omega;omega) | (refine zR ?_ ?_;omega) | (refine zI ?_ ?_;exact nA) | (refine zS ?_ ?_ ?_;omega;omega) | (refine zT ?_ ?_ ?_;omega;omega) | (refine zU ?_ ?_ ?_;omega;omega) | (refine zV ?_ ?_ ?_;omega;omega) | refine pC (FewTrm_c p.body n h0 h1) wR ?_ | refine pC (FewTrm_c p.body n h0 h1) cA ?_ | refine pC (FewAll_c p.consts 2000 (by omega) (by omega)) wR ?_ | (refine yA ?_ rfl ?_ ?_;assumption;exact lA) | (refine yB ?_ rfl ?_ ?_;assumption;exact lA) | (refine yC rfl ?_ ?_;exact lA) | refine n0 ?_ | refine zN rfl rfl rfl ?_ | refine zD ?_ | refine zE ?_ | refine zF ?_ | intro _ | refine zG ?_);conv=>whnf) | (refine zX (fun hc => ?_) (fun hc => ?_)<;>(try simp only [SY] at hc)<;>first | omega | (conv=>whnf)))
  exact PRet.pure (Wk.refl _)
theorem count13_c (o : Int) (t : Trm) : t.bulk ≤ 1000000000 → ACallP Tryz.prog 44 [.agg t.cells, .int .i64 o] (.int .i64 (t.ct o)) := by
  induction t using Trm.ind with
  | h t ih =>
    intro hb
    have hbe := t.bulk_eq
    have hbs := Trm.bulks_length t.t
    have hcb := t.ct_bulk o
    refine ACall.of_body tt_ok Tryz.func44 rfl rfl (n := 28) rfl rfl ?_
    conv => whnf
    repeat ((first | ((first | (apply zY;intro hg) | apply zZ);first | exact stA | exact stB | ((conv=>whnf);(repeat ((first | (refine zW ?_ ?_;exact gA) | refine pC (FewTrm_c p.body n h0 h1) wR ?_ | refine pC (FewTrm_c p.body n h0 h1) cA ?_ | refine pC (FewAll_c p.consts 2000 (by omega) (by omega)) wR ?_ | intro _);conv=>whnf));first | exact pS | exact pL | exact pE)) | (refine zW ?_ ?_;exact gA) | refine zH rfl ?_ | refine zA ?_ | refine zI bA ?_ | refine zI rfl ?_ | refine zJ rfl rfl ?_ | refine zB ?_ | refine zK rfl ?_ | refine zL rfl ?_ | refine zC ?_ | (refine zO ?_ ?_ ?_;omega;omega) | (refine zP ?_ ?_ ?_;omega;omega) | refine zM rfl ?_ | (refine zQ ?_ ?_ ?_;omega;omega) | (refine zR ?_ ?_;omega) | (refine zI ?_ ?_;exact nA) | (refine zS ?_ ?_ ?_;omega;omega) | (refine zT ?_ ?_ ?_;omega;omega) | (refine zU ?_ ?_ ?_;omega;omega) | (refine zV ?_ ?_ ?_;omega;omega) | refine pC (FewTrm_c p.body n h0 h1) wR ?_ | refine pC (FewTrm_c p.body n h0 h1) cA ?_ | refine pC (FewAll_c p.consts 2000 (by omega) (by omega)) wR ?_ | (refine yA ?_ rfl ?_ ?_;assumption;exact lA) | (refine yB ?_ rfl ?_ ?_;assumption;exact lA) | (refine yC rfl ?_ ?_;exact lA) | refine n0 ?_ | refine zN rfl rfl rfl ?_ | refine zD ?_ | refine zE ?_ | refine zF ?_ | intro _);conv=>whnf)
    conv => whnf
    repeat' (first | ((first | ((first | (apply zY;intro hg) | apply zZ);first | exact stA | exact stB | ((conv=>whnf);(repeat ((first | (refine zW ?_ ?_;exact gA) | refine pC (FewTrm_c p.body n h0 h1) wR ?_ | refine pC (FewTrm_c p.body n h0 h1) cA ?_ | refine pC (FewAll_c p.consts 2000 (by omega) (by omega)) wR ?_ | intro _);conv=>whnf));first | exact pS | exact pL | exact pE)) | (refine zW ?_ ?_;exact gA) | refine zH rfl ?_ | refine zA ?_ | refine zI bA ?_ | refine zI rfl ?_ | refine zJ rfl rfl ?_ | refine zB ?_ | refine zK rfl ?_ | refine zL rfl ?_ | refine zC ?_ | (refine zO ?_ ?_ ?_;omega;omega) | (refine zP ?_ ?_ ?_;omega;omega) | refine zM rfl ?_ | (refine zQ ?_ ?_ ?_;omega;omega) | (refine zR ?_ ?_;omega) | (refine zI ?_ ?_;exact nA) | (refine zS ?_ ?_ ?_;omega;omega) | (refine zT ?_ ?_ ?_;omega;omega) | (refine zU ?_ ?_ ?_;omega;omega) | (refine zV ?_ ?_ ?_;omega;omega) | refine pC (FewTrm_c p.body n h0 h1) wR ?_ | refine pC (FewTrm_c p.body n h0 h1) cA ?_ | refine pC (FewAll_c p.consts 2000 (by omega) (by omega)) wR ?_ | (refine yA ?_ rfl ?_ ?_;assumption;exact lA) | (refine yB ?_ rfl ?_ ?_;assumption;exact lA) | (refine yC rfl ?_ ?_;exact lA) | refine n0 ?_ | refine zN rfl rfl rfl ?_ | refine zD ?_ | refine zE ?_ | refine zF ?_ | intro _ | refine zG ?_);conv=>whnf) | (refine zX (fun hc => ?_) (fun hc => ?_)<;>(try simp only [SY] at hc)<;>first | omega | (conv=>whnf)))
    · have hst : 1 + Trm.cts o (t.t.drop 0) = t.ct o := by rw [List.drop_zero, Trm.ct_eq, if_pos hc]
      refine PLoop.keep [5, 6, 11, 12, 13, 14, 15, 16, 17, 18, 19, 20, 21, 22, 23, 24, 25, 26] (fun x : Nat × Nat => [(5, .int .i64 x.2), (6, .int .i64 x.1)]) (fun x => x.1 ≤ t.t.length ∧ x.2 + Trm.cts o (t.t.drop x.1) = t.ct o) (fun x => t.t.length - x.1) (0, 1) ⟨Nat.zero_le _, hst⟩ wA ?_
      rintro ⟨i, m⟩ ⟨hi, hm⟩
      dsimp only at hi hm ⊢
      conv => whnf
      repeat' (first | ((first | ((first | (apply zY;intro hg) | apply zZ);first | exact stA | exact stB | ((conv=>whnf);(repeat ((first | (refine zW ?_ ?_;exact gA) | refine pC (FewTrm_c p.body n h0 h1) wR ?_ | refine pC (FewTrm_c p.body n h0 h1) cA ?_ | refine pC (FewAll_c p.consts 2000 (by omega) (by omega)) wR ?_ | intro _);conv=>whnf));first | exact pS | exact pL | exact pE)) | (refine zW ?_ ?_;exact gA) | refine zH rfl ?_ | refine zA ?_ | refine zI bA ?_ | refine zI rfl ?_ | refine zJ rfl rfl ?_ | refine zB ?_ | refine zK rfl ?_ | refine zL rfl ?_ | refine zC ?_ | (refine zO ?_ ?_ ?_;omega;omega) | (refine zP ?_ ?_ ?_;omega;omega) | refine zM rfl ?_ | (refine zQ ?_ ?_ ?_;omega;omega) | (refine zR ?_ ?_;omega) | (refine zI ?_ ?_;exact nA) | (refine zS ?_ ?_ ?_;omega;omega) | (refine zT ?_ ?_ ?_;omega;omega) | (refine zU ?_ ?_ ?_;omega;omega) | (refine zV ?_ ?_ ?_;omega;omega) | refine pC (FewTrm_c p.body n h0 h1) wR ?_ | refine pC (FewTrm_c p.body n h0 h1) cA ?_ | refine pC (FewAll_c p.consts 2000 (by omega) (by omega)) wR ?_ | (refine yA ?_ rfl ?_ ?_;assumption;exact lA) | (refine yB ?_ rfl ?_ ?_;assumption;exact lA) | (refine yC rfl ?_ ?_;exact lA) | refine n0 ?_ | refine zN rfl rfl rfl ?_ | refine zD ?_ | refine zE ?_ | refine zF ?_ | intro _ | refine zG ?_);conv=>whnf) | (refine zX (fun hc => ?_) (fun hc => ?_)<;>(try simp only [SY] at hc)<;>first | omega | (conv=>whnf)))
      · have hlt : i < t.t.length := by omega
        have hy := ih _ (List.getElem_mem hlt) (by have := Trm.bulks_mem (List.getElem_mem hlt); omega)
        rw [drop_at hlt, Trm.cts] at hm
        refine PCall.pure hy (WkT.refl _) ?_
        conv => whnf
        repeat' (first | ((first | ((first | (apply zY;intro hg) | apply zZ);first | exact stA | exact stB | ((conv=>whnf);(repeat ((first | (refine zW ?_ ?_;exact gA) | refine pC (FewTrm_c p.body n h0 h1) wR ?_ | refine pC (FewTrm_c p.body n h0 h1) cA ?_ | refine pC (FewAll_c p.consts 2000 (by omega) (by omega)) wR ?_ | intro _);conv=>whnf));first | exact pS | exact pL | exact pE)) | (refine zW ?_ ?_;exact gA) | refine zH rfl ?_ | refine zA ?_ | refine zI bA ?_ | refine zI rfl ?_ | refine zJ rfl rfl ?_ | refine zB ?_ | refine zK rfl ?_ | refine zL rfl ?_ | refine zC ?_ | (refine zO ?_ ?_ ?_;omega;omega) | (refine zP ?_ ?_ ?_;omega;omega) | refine zM rfl ?_ | (refine zQ ?_ ?_ ?_;omega;omega) | (refine zR ?_ ?_;omega) | (refine zI ?_ ?_;exact nA) | (refine zS ?_ ?_ ?_;omega;omega) | (refine zT ?_ ?_ ?_;omega;omega) | (refine zU ?_ ?_ ?_;omega;omega) | (refine zV ?_ ?_ ?_;omega;omega) | refine pC (FewTrm_c p.body n h0 h1) wR ?_ | refine pC (FewTrm_c p.body n h0 h1) cA ?_ | refine pC (FewAll_c p.consts 2000 (by omega) (by omega)) wR ?_ | (refine yA ?_ rfl ?_ ?_;assumption;exact lA) | (refine yB ?_ rfl ?_ ?_;assumption;exact lA) | (refine yC rfl ?_ ?_;exact lA) | refine n0 ?_ | refine zN rfl rfl rfl ?_ | refine zD ?_ | refine zE ?_ | refine zF ?_ | intro _ | refine zG ?_);conv=>whnf) | (refine zX (fun hc => ?_) (fun hc => ?_)<;>(try simp only [SY] at hc)<;>first | omega | (conv=>whnf)))
        refine loopTo (i + 1, m + t.t[i].ct o) ⟨by show i + 1 ≤ _; omega, by dsimp only; omega⟩ (by show t.t.length - (i + 1) < t.t.length - i; omega) wA
      · rw [List.drop_of_length_le (by omega), Trm.cts] at hm
        exact PRet.pure (Wk.int (by omega))
    · have hst : 0 + Trm.cts o (t.t.drop 0) = t.ct o := by rw [List.drop_zero, Trm.ct_eq, if_neg hc]
      refine PLoop.keep [5, 6, 11, 12, 13, 14, 15, 16, 17, 18, 19, 20, 21, 22, 23, 24, 25, 26] (fun x : Nat × Nat => [(5, .int .i64 x.2), (6, .int .i64 x.1)]) (fun x => x.1 ≤ t.t.length ∧ x.2 + Trm.cts o (t.t.drop x.1) = t.ct o) (fun x => t.t.length - x.1) (0, 0) ⟨Nat.zero_le _, hst⟩ wA ?_
      rintro ⟨i, m⟩ ⟨hi, hm⟩
      dsimp only at hi hm ⊢
      conv => whnf
      repeat' (first | ((first | ((first | (apply zY;intro hg) | apply zZ);first | exact stA | exact stB | ((conv=>whnf);(repeat ((first | (refine zW ?_ ?_;exact gA) | refine pC (FewTrm_c p.body n h0 h1) wR ?_ | refine pC (FewTrm_c p.body n h0 h1) cA ?_ | refine pC (FewAll_c p.consts 2000 (by omega) (by omega)) wR ?_ | intro _);conv=>whnf));first | exact pS | exact pL | exact pE)) | (refine zW ?_ ?_;exact gA) | refine zH rfl ?_ | refine zA ?_ | refine zI bA ?_ | refine zI rfl ?_ | refine zJ rfl rfl ?_ | refine zB ?_ | refine zK rfl ?_ | refine zL rfl ?_ | refine zC ?_ | (refine zO ?_ ?_ ?_;omega;omega) | (refine zP ?_ ?_ ?_;omega;omega) | refine zM rfl ?_ | (refine zQ ?_ ?_ ?_;omega;omega) | (refine zR ?_ ?_;omega) | (refine zI ?_ ?_;exact nA) | (refine zS ?_ ?_ ?_;omega;omega) | (refine zT ?_ ?_ ?_;omega;omega) | (refine zU ?_ ?_ ?_;omega;omega) | (refine zV ?_ ?_ ?_;omega;omega) | refine pC (FewTrm_c p.body n h0 h1) wR ?_ | refine pC (FewTrm_c p.body n h0 h1) cA ?_ | refine pC (FewAll_c p.consts 2000 (by omega) (by omega)) wR ?_ | (refine yA ?_ rfl ?_ ?_;assumption;exact lA) | (refine yB ?_ rfl ?_ ?_;assumption;exact lA) | (refine yC rfl ?_ ?_;exact lA) | refine n0 ?_ | refine zN rfl rfl rfl ?_ | refine zD ?_ | refine zE ?_ | refine zF ?_ | intro _ | refine zG ?_);conv=>whnf) | (refine zX (fun hc => ?_) (fun hc => ?_)<;>(try simp only [SY] at hc)<;>first | omega | (conv=>whnf)))
      · have hlt : i < t.t.length := by omega
        have hy := ih _ (List.getElem_mem hlt) (by have := Trm.bulks_mem (List.getElem_mem hlt); omega)
        rw [drop_at hlt, Trm.cts] at hm
        refine PCall.pure hy (WkT.refl _) ?_
        conv => whnf
        repeat' (first | ((first | ((first | (apply zY;intro hg) | apply zZ);first | exact stA | exact stB | ((conv=>whnf);(repeat ((first | (refine zW ?_ ?_;exact gA) | refine pC (FewTrm_c p.body n h0 h1) wR ?_ | refine pC (FewTrm_c p.body n h0 h1) cA ?_ | refine pC (FewAll_c p.consts 2000 (by omega) (by omega)) wR ?_ | intro _);conv=>whnf));first | exact pS | exact pL | exact pE)) | (refine zW ?_ ?_;exact gA) | refine zH rfl ?_ | refine zA ?_ | refine zI bA ?_ | refine zI rfl ?_ | refine zJ rfl rfl ?_ | refine zB ?_ | refine zK rfl ?_ | refine zL rfl ?_ | refine zC ?_ | (refine zO ?_ ?_ ?_;omega;omega) | (refine zP ?_ ?_ ?_;omega;omega) | refine zM rfl ?_ | (refine zQ ?_ ?_ ?_;omega;omega) | (refine zR ?_ ?_;omega) | (refine zI ?_ ?_;exact nA) | (refine zS ?_ ?_ ?_;omega;omega) | (refine zT ?_ ?_ ?_;omega;omega) | (refine zU ?_ ?_ ?_;omega;omega) | (refine zV ?_ ?_ ?_;omega;omega) | refine pC (FewTrm_c p.body n h0 h1) wR ?_ | refine pC (FewTrm_c p.body n h0 h1) cA ?_ | refine pC (FewAll_c p.consts 2000 (by omega) (by omega)) wR ?_ | (refine yA ?_ rfl ?_ ?_;assumption;exact lA) | (refine yB ?_ rfl ?_ ?_;assumption;exact lA) | (refine yC rfl ?_ ?_;exact lA) | refine n0 ?_ | refine zN rfl rfl rfl ?_ | refine zD ?_ | refine zE ?_ | refine zF ?_ | intro _ | refine zG ?_);conv=>whnf) | (refine zX (fun hc => ?_) (fun hc => ?_)<;>(try simp only [SY] at hc)<;>first | omega | (conv=>whnf)))
        refine loopTo (i + 1, m + t.t[i].ct o) ⟨by show i + 1 ≤ _; omega, by dsimp only; omega⟩ (by show t.t.length - (i + 1) < t.t.length - i; omega) wA
      · rw [List.drop_of_length_le (by omega), Trm.cts] at hm
        exact PRet.pure (Wk.int (by omega))
theorem open13_c (t : Trm) : t.bulk ≤ 1000000000 → ACallP Tryz.prog 45 [.agg t.cells] (.int .i64 t.opn) := by
  induction t using Trm.ind with
  | h t ih =>
    intro hb
    have hbe := t.bulk_eq
    have hbs := Trm.bulks_length t.t
    have hfr := free_c t hb
    have hcb := t.opn_bulk
    refine ACall.of_body tt_ok Tryz.func45 rfl rfl (n := 30) rfl rfl ?_
    conv => whnf
    repeat ((first | ((first | (apply zY;intro hg) | apply zZ);first | exact stA | exact stB | ((conv=>whnf);(repeat ((first | (refine zW ?_ ?_;exact gA) | refine pC (hfr) wR ?_ | intro _);conv=>whnf));first | exact pS | exact pL | exact pE)) | (refine zW ?_ ?_;exact gA) | refine zH rfl ?_ | refine zA ?_ | refine zI bA ?_ | refine zI rfl ?_ | refine zJ rfl rfl ?_ | refine zB ?_ | refine zK rfl ?_ | refine zL rfl ?_ | refine zC ?_ | (refine zO ?_ ?_ ?_;omega;omega) | (refine zP ?_ ?_ ?_;omega;omega) | refine zM rfl ?_ | (refine zQ ?_ ?_ ?_;omega;omega) | (refine zR ?_ ?_;omega) | (refine zI ?_ ?_;exact nA) | (refine zS ?_ ?_ ?_;omega;omega) | (refine zT ?_ ?_ ?_;omega;omega) | (refine zU ?_ ?_ ?_;omega;omega) | (refine zV ?_ ?_ ?_;omega;omega) | refine pC (hfr) wR ?_ | (refine yA ?_ rfl ?_ ?_;assumption;exact lA) | (refine yB ?_ rfl ?_ ?_;assumption;exact lA) | (refine yC rfl ?_ ?_;exact lA) | refine n0 ?_ | refine zN rfl rfl rfl ?_ | refine zD ?_ | refine zE ?_ | refine zF ?_ | intro _);conv=>whnf)
    conv => whnf
    repeat' (first | ((first | ((first | (apply zY;intro hg) | apply zZ);first | exact stA | exact stB | ((conv=>whnf);(repeat ((first | (refine zW ?_ ?_;exact gA) | refine pC (hfr) wR ?_ | intro _);conv=>whnf));first | exact pS | exact pL | exact pE)) | (refine zW ?_ ?_;exact gA) | refine zH rfl ?_ | refine zA ?_ | refine zI bA ?_ | refine zI rfl ?_ | refine zJ rfl rfl ?_ | refine zB ?_ | refine zK rfl ?_ | refine zL rfl ?_ | refine zC ?_ | (refine zO ?_ ?_ ?_;omega;omega) | (refine zP ?_ ?_ ?_;omega;omega) | refine zM rfl ?_ | (refine zQ ?_ ?_ ?_;omega;omega) | (refine zR ?_ ?_;omega) | (refine zI ?_ ?_;exact nA) | (refine zS ?_ ?_ ?_;omega;omega) | (refine zT ?_ ?_ ?_;omega;omega) | (refine zU ?_ ?_ ?_;omega;omega) | (refine zV ?_ ?_ ?_;omega;omega) | refine pC (hfr) wR ?_ | (refine yA ?_ rfl ?_ ?_;assumption;exact lA) | (refine yB ?_ rfl ?_ ?_;assumption;exact lA) | (refine yC rfl ?_ ?_;exact lA) | refine n0 ?_ | refine zN rfl rfl rfl ?_ | refine zD ?_ | refine zE ?_ | refine zF ?_ | intro _ | refine zG ?_);conv=>whnf) | (refine zX (fun hc => ?_) (fun hc => ?_)<;>(try simp only [SY] at hc)<;>first | omega | (conv=>whnf)))
    · have hst : 1 + Trm.opns (t.t.drop 0) = t.opn := by rw [List.drop_zero, Trm.opn_eq, if_pos (by omega)]
      refine PLoop.keep [3, 4, 14, 15, 16, 17, 18, 19, 20, 21, 22, 23, 24, 25, 26, 27, 28] (fun x : Nat × Nat => [(3, .int .i64 x.2), (4, .int .i64 x.1)]) (fun x => x.1 ≤ t.t.length ∧ x.2 + Trm.opns (t.t.drop x.1) = t.opn) (fun x => t.t.length - x.1) (0, 1) ⟨Nat.zero_le _, hst⟩ wA ?_
      rintro ⟨i, m⟩ ⟨hi, hm⟩
      dsimp only at hi hm ⊢
      conv => whnf
      repeat' (first | ((first | ((first | (apply zY;intro hg) | apply zZ);first | exact stA | exact stB | ((conv=>whnf);(repeat ((first | (refine zW ?_ ?_;exact gA) | refine pC (hfr) wR ?_ | intro _);conv=>whnf));first | exact pS | exact pL | exact pE)) | (refine zW ?_ ?_;exact gA) | refine zH rfl ?_ | refine zA ?_ | refine zI bA ?_ | refine zI rfl ?_ | refine zJ rfl rfl ?_ | refine zB ?_ | refine zK rfl ?_ | refine zL rfl ?_ | refine zC ?_ | (refine zO ?_ ?_ ?_;omega;omega) | (refine zP ?_ ?_ ?_;omega;omega) | refine zM rfl ?_ | (refine zQ ?_ ?_ ?_;omega;omega) | (refine zR ?_ ?_;omega) | (refine zI ?_ ?_;exact nA) | (refine zS ?_ ?_ ?_;omega;omega) | (refine zT ?_ ?_ ?_;omega;omega) | (refine zU ?_ ?_ ?_;omega;omega) | (refine zV ?_ ?_ ?_;omega;omega) | refine pC (hfr) wR ?_ | (refine yA ?_ rfl ?_ ?_;assumption;exact lA) | (refine yB ?_ rfl ?_ ?_;assumption;exact lA) | (refine yC rfl ?_ ?_;exact lA) | refine n0 ?_ | refine zN rfl rfl rfl ?_ | refine zD ?_ | refine zE ?_ | refine zF ?_ | intro _ | refine zG ?_);conv=>whnf) | (refine zX (fun hc => ?_) (fun hc => ?_)<;>(try simp only [SY] at hc)<;>first | omega | (conv=>whnf)))
      · have hlt : i < t.t.length := by omega
        have hy := ih _ (List.getElem_mem hlt) (by have := Trm.bulks_mem (List.getElem_mem hlt); omega)
        rw [drop_at hlt, Trm.opns] at hm
        refine PCall.pure hy (WkT.refl _) ?_
        conv => whnf
        repeat' (first | ((first | ((first | (apply zY;intro hg) | apply zZ);first | exact stA | exact stB | ((conv=>whnf);(repeat ((first | (refine zW ?_ ?_;exact gA) | refine pC (hfr) wR ?_ | intro _);conv=>whnf));first | exact pS | exact pL | exact pE)) | (refine zW ?_ ?_;exact gA) | refine zH rfl ?_ | refine zA ?_ | refine zI bA ?_ | refine zI rfl ?_ | refine zJ rfl rfl ?_ | refine zB ?_ | refine zK rfl ?_ | refine zL rfl ?_ | refine zC ?_ | (refine zO ?_ ?_ ?_;omega;omega) | (refine zP ?_ ?_ ?_;omega;omega) | refine zM rfl ?_ | (refine zQ ?_ ?_ ?_;omega;omega) | (refine zR ?_ ?_;omega) | (refine zI ?_ ?_;exact nA) | (refine zS ?_ ?_ ?_;omega;omega) | (refine zT ?_ ?_ ?_;omega;omega) | (refine zU ?_ ?_ ?_;omega;omega) | (refine zV ?_ ?_ ?_;omega;omega) | refine pC (hfr) wR ?_ | (refine yA ?_ rfl ?_ ?_;assumption;exact lA) | (refine yB ?_ rfl ?_ ?_;assumption;exact lA) | (refine yC rfl ?_ ?_;exact lA) | refine n0 ?_ | refine zN rfl rfl rfl ?_ | refine zD ?_ | refine zE ?_ | refine zF ?_ | intro _ | refine zG ?_);conv=>whnf) | (refine zX (fun hc => ?_) (fun hc => ?_)<;>(try simp only [SY] at hc)<;>first | omega | (conv=>whnf)))
        refine loopTo (i + 1, m + t.t[i].opn) ⟨by show i + 1 ≤ _; omega, by dsimp only; omega⟩ (by show t.t.length - (i + 1) < t.t.length - i; omega) wA
      · rw [List.drop_of_length_le (by omega), Trm.opns] at hm
        exact PRet.pure (Wk.int (by omega))
    · have hst : 0 + Trm.opns (t.t.drop 0) = t.opn := by rw [List.drop_zero, Trm.opn_eq, if_neg (by omega)]
      refine PLoop.keep [3, 4, 14, 15, 16, 17, 18, 19, 20, 21, 22, 23, 24, 25, 26, 27, 28] (fun x : Nat × Nat => [(3, .int .i64 x.2), (4, .int .i64 x.1)]) (fun x => x.1 ≤ t.t.length ∧ x.2 + Trm.opns (t.t.drop x.1) = t.opn) (fun x => t.t.length - x.1) (0, 0) ⟨Nat.zero_le _, hst⟩ wA ?_
      rintro ⟨i, m⟩ ⟨hi, hm⟩
      dsimp only at hi hm ⊢
      conv => whnf
      repeat' (first | ((first | ((first | (apply zY;intro hg) | apply zZ);first | exact stA | exact stB | ((conv=>whnf);(repeat ((first | (refine zW ?_ ?_;exact gA) | refine pC (hfr) wR ?_ | intro _);conv=>whnf));first | exact pS | exact pL | exact pE)) | (refine zW ?_ ?_;exact gA) | refine zH rfl ?_ | refine zA ?_ | refine zI bA ?_ | refine zI rfl ?_ | refine zJ rfl rfl ?_ | refine zB ?_ | refine zK rfl ?_ | refine zL rfl ?_ | refine zC ?_ | (refine zO ?_ ?_ ?_;omega;omega) | (refine zP ?_ ?_ ?_;omega;omega) | refine zM rfl ?_ | (refine zQ ?_ ?_ ?_;omega;omega) | (refine zR ?_ ?_;omega) | (refine zI ?_ ?_;exact nA) | (refine zS ?_ ?_ ?_;omega;omega) | (refine zT ?_ ?_ ?_;omega;omega) | (refine zU ?_ ?_ ?_;omega;omega) | (refine zV ?_ ?_ ?_;omega;omega) | refine pC (hfr) wR ?_ | (refine yA ?_ rfl ?_ ?_;assumption;exact lA) | (refine yB ?_ rfl ?_ ?_;assumption;exact lA) | (refine yC rfl ?_ ?_;exact lA) | refine n0 ?_ | refine zN rfl rfl rfl ?_ | refine zD ?_ | refine zE ?_ | refine zF ?_ | intro _ | refine zG ?_);conv=>whnf) | (refine zX (fun hc => ?_) (fun hc => ?_)<;>(try simp only [SY] at hc)<;>first | omega | (conv=>whnf)))
      · have hlt : i < t.t.length := by omega
        have hy := ih _ (List.getElem_mem hlt) (by have := Trm.bulks_mem (List.getElem_mem hlt); omega)
        rw [drop_at hlt, Trm.opns] at hm
        refine PCall.pure hy (WkT.refl _) ?_
        conv => whnf
        repeat' (first | ((first | ((first | (apply zY;intro hg) | apply zZ);first | exact stA | exact stB | ((conv=>whnf);(repeat ((first | (refine zW ?_ ?_;exact gA) | refine pC (hfr) wR ?_ | intro _);conv=>whnf));first | exact pS | exact pL | exact pE)) | (refine zW ?_ ?_;exact gA) | refine zH rfl ?_ | refine zA ?_ | refine zI bA ?_ | refine zI rfl ?_ | refine zJ rfl rfl ?_ | refine zB ?_ | refine zK rfl ?_ | refine zL rfl ?_ | refine zC ?_ | (refine zO ?_ ?_ ?_;omega;omega) | (refine zP ?_ ?_ ?_;omega;omega) | refine zM rfl ?_ | (refine zQ ?_ ?_ ?_;omega;omega) | (refine zR ?_ ?_;omega) | (refine zI ?_ ?_;exact nA) | (refine zS ?_ ?_ ?_;omega;omega) | (refine zT ?_ ?_ ?_;omega;omega) | (refine zU ?_ ?_ ?_;omega;omega) | (refine zV ?_ ?_ ?_;omega;omega) | refine pC (hfr) wR ?_ | (refine yA ?_ rfl ?_ ?_;assumption;exact lA) | (refine yB ?_ rfl ?_ ?_;assumption;exact lA) | (refine yC rfl ?_ ?_;exact lA) | refine n0 ?_ | refine zN rfl rfl rfl ?_ | refine zD ?_ | refine zE ?_ | refine zF ?_ | intro _ | refine zG ?_);conv=>whnf) | (refine zX (fun hc => ?_) (fun hc => ?_)<;>(try simp only [SY] at hc)<;>first | omega | (conv=>whnf)))
        refine loopTo (i + 1, m + t.t[i].opn) ⟨by show i + 1 ≤ _; omega, by dsimp only; omega⟩ (by show t.t.length - (i + 1) < t.t.length - i; omega) wA
      · rw [List.drop_of_length_le (by omega), Trm.opns] at hm
        exact PRet.pure (Wk.int (by omega))
theorem conv13_ok {p : Prog} (h : (conv13 p).2 = 0) : RightP p 2 ∧ mckP (conM p) = 0 ∧ conv13 p = (conM p, 0) := by
  unfold conv13 at h ⊢
  split at h
  · rename_i h1
    split at h
    · rename_i h2
      rw [if_pos h1, if_pos h2]
      exact ⟨(checkD_right p 2).1 (by rw [← check_eq]; exact h1), h2, rfl⟩
    · cases h
  · cases h
theorem RightP.nn {p : Prog} (h : RightP p 2) : (conM p).codes.length = p.body.ct 4 ∧ (conM p).body.ct 19 + cctS 19 (conM p).codes ≤ p.body.ct 4 ∧ (p.body.opn = 0 → (conM p).body.ct 19 + cctS 19 (conM p).codes = 0) :=
  (p.body.clo_nn h.shC.1 (p.body.okT_shR h.2.2.1)).1 [] 0 (fun _ => none)
theorem closureNone_c (p : Prog) (hbb : Datum.bulks p.consts + p.body.bulk ≤ 1048576) : ACallP Tryz.prog 12 [.agg p.cells] (.bool true) := by
  have hlen := Datum.bulks_length p.consts
  have hcv := conv13_c p (by omega) (by omega)
  have hcb := p.body.ct_bulk 4
  have hob := p.body.opn_bulk
  refine ACall.of_body tt_ok Tryz.func12 rfl rfl (n := 67) rfl rfl ?_
  conv => whnf
  repeat ((first | ((first | (apply zY;intro hg) | apply zZ);first | exact stA | exact stB | ((conv=>whnf);(repeat ((first | (refine zW ?_ ?_;exact gA) | refine pC (awake13_c) wR ?_ | refine pC (few13_c p 250 (by omega) (by omega)) wR ?_ | refine pC (hcv) wR ?_ | refine pC (count13_c 4 p.body (by omega)) wR ?_ | refine pC (open13_c p.body (by omega)) wR ?_ | intro _);conv=>whnf));first | exact pS | exact pL | exact pE)) | (refine zW ?_ ?_;exact gA) | refine zH rfl ?_ | refine zA ?_ | refine zI bA ?_ | refine zI rfl ?_ | refine zJ rfl rfl ?_ | refine zB ?_ | refine zK rfl ?_ | refine zL rfl ?_ | refine zC ?_ | (refine zO ?_ ?_ ?_;omega;omega) | (refine zP ?_ ?_ ?_;omega;omega) | refine zM rfl ?_ | (refine zQ ?_ ?_ ?_;omega;omega) | (refine zR ?_ ?_;omega) | (refine zI ?_ ?_;exact nA) | (refine zS ?_ ?_ ?_;omega;omega) | (refine zT ?_ ?_ ?_;omega;omega) | (refine zU ?_ ?_ ?_;omega;omega) | (refine zV ?_ ?_ ?_;omega;omega) | refine pC (awake13_c) wR ?_ | refine pC (few13_c p 250 (by omega) (by omega)) wR ?_ | refine pC (hcv) wR ?_ | refine pC (count13_c 4 p.body (by omega)) wR ?_ | refine pC (open13_c p.body (by omega)) wR ?_ | (refine yA ?_ rfl ?_ ?_;assumption;exact lA) | (refine yB ?_ rfl ?_ ?_;assumption;exact lA) | (refine yC rfl ?_ ?_;exact lA) | refine n0 ?_ | refine zN rfl rfl rfl ?_ | refine zD ?_ | refine zE ?_ | refine zF ?_ | refine PDraw.sP (some 40) rfl [] [] tt_ok mixed ?_ | intro _);conv=>whnf)
  conv => whnf
  repeat' (first | ((first | ((first | (apply zY;intro hg) | apply zZ);first | exact stA | exact stB | ((conv=>whnf);(repeat ((first | (refine zW ?_ ?_;exact gA) | refine pC (awake13_c) wR ?_ | refine pC (few13_c p 250 (by omega) (by omega)) wR ?_ | refine pC (hcv) wR ?_ | refine pC (count13_c 4 p.body (by omega)) wR ?_ | refine pC (open13_c p.body (by omega)) wR ?_ | intro _);conv=>whnf));first | exact pS | exact pL | exact pE)) | (refine zW ?_ ?_;exact gA) | refine zH rfl ?_ | refine zA ?_ | refine zI bA ?_ | refine zI rfl ?_ | refine zJ rfl rfl ?_ | refine zB ?_ | refine zK rfl ?_ | refine zL rfl ?_ | refine zC ?_ | (refine zO ?_ ?_ ?_;omega;omega) | (refine zP ?_ ?_ ?_;omega;omega) | refine zM rfl ?_ | (refine zQ ?_ ?_ ?_;omega;omega) | (refine zR ?_ ?_;omega) | (refine zI ?_ ?_;exact nA) | (refine zS ?_ ?_ ?_;omega;omega) | (refine zT ?_ ?_ ?_;omega;omega) | (refine zU ?_ ?_ ?_;omega;omega) | (refine zV ?_ ?_ ?_;omega;omega) | refine pC (awake13_c) wR ?_ | refine pC (few13_c p 250 (by omega) (by omega)) wR ?_ | refine pC (hcv) wR ?_ | refine pC (count13_c 4 p.body (by omega)) wR ?_ | refine pC (open13_c p.body (by omega)) wR ?_ | (refine yA ?_ rfl ?_ ?_;assumption;exact lA) | (refine yB ?_ rfl ?_ ?_;assumption;exact lA) | (refine yC rfl ?_ ?_;exact lA) | refine n0 ?_ | refine zN rfl rfl rfl ?_ | refine zD ?_ | refine zE ?_ | refine zF ?_ | refine PDraw.sP (some 40) rfl [] [] tt_ok mixed ?_ | intro _ | refine zG ?_);conv=>whnf) | (refine zX (fun hc => ?_) (fun hc => ?_)<;>(try simp only [SY] at hc)<;>first | omega | (conv=>whnf)))
  · exact PRet.pure (Wk.refl _)
  · exact PRet.pure (Wk.refl _)
  obtain ⟨hR, hck, hE⟩ := conv13_ok hc
  have hnn := hR.nn
  have hbk := conM_bulk hR (by omega)
  have hcl : (conM p).codes.length ≤ p.body.bulk := (p.body.clo_lens false).1 [] 0 (fun _ => none)
  rw [hE]
  generalize conM p = M at *
  obtain ⟨n1, n2, n3⟩ := hnn
  have hmb := M.body.ct_bulk 19
  have hcnt := count13_c 19 M.body (by omega)
  refine PCall.pure hcnt (WkT.refl _) ?_
  conv => whnf
  repeat' (first | ((first | ((first | (apply zY;intro hg) | apply zZ);first | exact stA | exact stB | ((conv=>whnf);(repeat ((first | (refine zW ?_ ?_;exact gA) | refine pC (awake13_c) wR ?_ | refine pC (few13_c p 250 (by omega) (by omega)) wR ?_ | refine pC (hcv) wR ?_ | refine pC (count13_c 4 p.body (by omega)) wR ?_ | refine pC (open13_c p.body (by omega)) wR ?_ | intro _);conv=>whnf));first | exact pS | exact pL | exact pE)) | (refine zW ?_ ?_;exact gA) | refine zH rfl ?_ | refine zA ?_ | refine zI bA ?_ | refine zI rfl ?_ | refine zJ rfl rfl ?_ | refine zB ?_ | refine zK rfl ?_ | refine zL rfl ?_ | refine zC ?_ | (refine zO ?_ ?_ ?_;omega;omega) | (refine zP ?_ ?_ ?_;omega;omega) | refine zM rfl ?_ | (refine zQ ?_ ?_ ?_;omega;omega) | (refine zR ?_ ?_;omega) | (refine zI ?_ ?_;exact nA) | (refine zS ?_ ?_ ?_;omega;omega) | (refine zT ?_ ?_ ?_;omega;omega) | (refine zU ?_ ?_ ?_;omega;omega) | (refine zV ?_ ?_ ?_;omega;omega) | refine pC (awake13_c) wR ?_ | refine pC (few13_c p 250 (by omega) (by omega)) wR ?_ | refine pC (hcv) wR ?_ | refine pC (count13_c 4 p.body (by omega)) wR ?_ | refine pC (open13_c p.body (by omega)) wR ?_ | (refine yA ?_ rfl ?_ ?_;assumption;exact lA) | (refine yB ?_ rfl ?_ ?_;assumption;exact lA) | (refine yC rfl ?_ ?_;exact lA) | refine n0 ?_ | refine zN rfl rfl rfl ?_ | refine zD ?_ | refine zE ?_ | refine zF ?_ | refine PDraw.sP (some 40) rfl [] [] tt_ok mixed ?_ | intro _ | refine zG ?_);conv=>whnf) | (refine zX (fun hc => ?_) (fun hc => ?_)<;>(try simp only [SY] at hc)<;>first | omega | (conv=>whnf)))
  refine PLoop.keep [6, 7, 24, 25, 26, 27, 28, 29, 30, 31, 32, 33, 34, 35, 36, 37, 38, 39] (fun x : Nat × Nat => [(6, .int .i64 x.2), (7, .int .i64 x.1)]) (fun x => x.1 ≤ M.codes.length ∧ x.2 + cctS 19 (M.codes.drop x.1) = M.body.ct 19 + cctS 19 M.codes) (fun x => M.codes.length - x.1) (0, M.body.ct 19) ⟨Nat.zero_le _, by rw [List.drop_zero]⟩ wA ?_
  rintro ⟨i, m⟩ ⟨hi, hm⟩
  dsimp only at hi hm ⊢
  conv => whnf
  repeat' (first | ((first | ((first | (apply zY;intro hg) | apply zZ);first | exact stA | exact stB | ((conv=>whnf);(repeat ((first | (refine zW ?_ ?_;exact gA) | refine pC (awake13_c) wR ?_ | refine pC (few13_c p 250 (by omega) (by omega)) wR ?_ | refine pC (hcv) wR ?_ | refine pC (count13_c 4 p.body (by omega)) wR ?_ | refine pC (open13_c p.body (by omega)) wR ?_ | intro _);conv=>whnf));first | exact pS | exact pL | exact pE)) | (refine zW ?_ ?_;exact gA) | refine zH rfl ?_ | refine zA ?_ | refine zI bA ?_ | refine zI rfl ?_ | refine zJ rfl rfl ?_ | refine zB ?_ | refine zK rfl ?_ | refine zL rfl ?_ | refine zC ?_ | (refine zO ?_ ?_ ?_;omega;omega) | (refine zP ?_ ?_ ?_;omega;omega) | refine zM rfl ?_ | (refine zQ ?_ ?_ ?_;omega;omega) | (refine zR ?_ ?_;omega) | (refine zI ?_ ?_;exact nA) | (refine zS ?_ ?_ ?_;omega;omega) | (refine zT ?_ ?_ ?_;omega;omega) | (refine zU ?_ ?_ ?_;omega;omega) | (refine zV ?_ ?_ ?_;omega;omega) | refine pC (awake13_c) wR ?_ | refine pC (few13_c p 250 (by omega) (by omega)) wR ?_ | refine pC (hcv) wR ?_ | refine pC (count13_c 4 p.body (by omega)) wR ?_ | refine pC (open13_c p.body (by omega)) wR ?_ | (refine yA ?_ rfl ?_ ?_;assumption;exact lA) | (refine yB ?_ rfl ?_ ?_;assumption;exact lA) | (refine yC rfl ?_ ?_;exact lA) | refine n0 ?_ | refine zN rfl rfl rfl ?_ | refine zD ?_ | refine zE ?_ | refine zF ?_ | refine PDraw.sP (some 40) rfl [] [] tt_ok mixed ?_ | intro _ | refine zG ?_);conv=>whnf) | (refine zX (fun hc => ?_) (fun hc => ?_)<;>(try simp only [SY] at hc)<;>first | omega | (conv=>whnf)))
  · have hlt : i < M.codes.length := by omega
    have hcm := codsBulk_mem (List.getElem_mem hlt)
    have hcd : M.codes[i].bulk = M.codes[i].v.length + M.codes[i].body.bulk := rfl
    have hy := count13_c 19 M.codes[i].body (by omega)
    have hyb := M.codes[i].body.ct_bulk 19
    rw [drop_at hlt, cctS] at hm
    refine PCall.pure hy (WkT.refl _) ?_
    conv => whnf
    repeat' (first | ((first | ((first | (apply zY;intro hg) | apply zZ);first | exact stA | exact stB | ((conv=>whnf);(repeat ((first | (refine zW ?_ ?_;exact gA) | refine pC (awake13_c) wR ?_ | refine pC (few13_c p 250 (by omega) (by omega)) wR ?_ | refine pC (hcv) wR ?_ | refine pC (count13_c 4 p.body (by omega)) wR ?_ | refine pC (open13_c p.body (by omega)) wR ?_ | intro _);conv=>whnf));first | exact pS | exact pL | exact pE)) | (refine zW ?_ ?_;exact gA) | refine zH rfl ?_ | refine zA ?_ | refine zI bA ?_ | refine zI rfl ?_ | refine zJ rfl rfl ?_ | refine zB ?_ | refine zK rfl ?_ | refine zL rfl ?_ | refine zC ?_ | (refine zO ?_ ?_ ?_;omega;omega) | (refine zP ?_ ?_ ?_;omega;omega) | refine zM rfl ?_ | (refine zQ ?_ ?_ ?_;omega;omega) | (refine zR ?_ ?_;omega) | (refine zI ?_ ?_;exact nA) | (refine zS ?_ ?_ ?_;omega;omega) | (refine zT ?_ ?_ ?_;omega;omega) | (refine zU ?_ ?_ ?_;omega;omega) | (refine zV ?_ ?_ ?_;omega;omega) | refine pC (awake13_c) wR ?_ | refine pC (few13_c p 250 (by omega) (by omega)) wR ?_ | refine pC (hcv) wR ?_ | refine pC (count13_c 4 p.body (by omega)) wR ?_ | refine pC (open13_c p.body (by omega)) wR ?_ | (refine yA ?_ rfl ?_ ?_;assumption;exact lA) | (refine yB ?_ rfl ?_ ?_;assumption;exact lA) | (refine yC rfl ?_ ?_;exact lA) | refine n0 ?_ | refine zN rfl rfl rfl ?_ | refine zD ?_ | refine zE ?_ | refine zF ?_ | refine PDraw.sP (some 40) rfl [] [] tt_ok mixed ?_ | intro _ | refine zG ?_);conv=>whnf) | (refine zX (fun hc => ?_) (fun hc => ?_)<;>(try simp only [SY] at hc)<;>first | omega | (conv=>whnf)))
    refine loopTo (i + 1, m + M.codes[i].body.ct 19) ⟨by show i + 1 ≤ _; omega, by dsimp only; omega⟩ (by show M.codes.length - (i + 1) < M.codes.length - i; omega) wA
  · rw [List.drop_of_length_le (by omega), cctS, Nat.add_zero] at hm
    rw [← hm] at n2 n3
    conv => whnf
    repeat' (first | ((first | ((first | (apply zY;intro hg) | apply zZ);first | exact stA | exact stB | ((conv=>whnf);(repeat ((first | (refine zW ?_ ?_;exact gA) | refine pC (awake13_c) wR ?_ | refine pC (few13_c p 250 (by omega) (by omega)) wR ?_ | refine pC (hcv) wR ?_ | refine pC (count13_c 4 p.body (by omega)) wR ?_ | refine pC (open13_c p.body (by omega)) wR ?_ | intro _);conv=>whnf));first | exact pS | exact pL | exact pE)) | (refine zW ?_ ?_;exact gA) | refine zH rfl ?_ | refine zA ?_ | refine zI bA ?_ | refine zI rfl ?_ | refine zJ rfl rfl ?_ | refine zB ?_ | refine zK rfl ?_ | refine zL rfl ?_ | refine zC ?_ | (refine zO ?_ ?_ ?_;omega;omega) | (refine zP ?_ ?_ ?_;omega;omega) | refine zM rfl ?_ | (refine zQ ?_ ?_ ?_;omega;omega) | (refine zR ?_ ?_;omega) | (refine zI ?_ ?_;exact nA) | (refine zS ?_ ?_ ?_;omega;omega) | (refine zT ?_ ?_ ?_;omega;omega) | (refine zU ?_ ?_ ?_;omega;omega) | (refine zV ?_ ?_ ?_;omega;omega) | refine pC (awake13_c) wR ?_ | refine pC (few13_c p 250 (by omega) (by omega)) wR ?_ | refine pC (hcv) wR ?_ | refine pC (count13_c 4 p.body (by omega)) wR ?_ | refine pC (open13_c p.body (by omega)) wR ?_ | (refine yA ?_ rfl ?_ ?_;assumption;exact lA) | (refine yB ?_ rfl ?_ ?_;assumption;exact lA) | (refine yC rfl ?_ ?_;exact lA) | refine n0 ?_ | refine zN rfl rfl rfl ?_ | refine zD ?_ | refine zE ?_ | refine zF ?_ | refine PDraw.sP (some 40) rfl [] [] tt_ok mixed ?_ | intro _ | refine zG ?_);conv=>whnf) | (refine zX (fun hc => ?_) (fun hc => ?_)<;>(try simp only [SY] at hc)<;>first | omega | (conv=>whnf)))
    refine PRet.pure (Wk.bool ?_)
    simp only [Bool.true_and, Bool.and_eq_true, Bool.or_eq_true, beq_iff_eq, decide_eq_true_eq]
    refine ⟨⟨by omega, by omega⟩, ?_⟩
    by_cases h0 : p.body.opn = 0
    · have := n3 h0
      right; omega
    · left; omega
end Go.Cb
namespace Go.Cb
open Go.RowKit (Below)
open Go.ChangeShapes
def Fz.of (w : World) : Fz := fun b o => w.cell? ⟨b, o, none⟩
theorem Sim.start (w : World) : Sim w (Fz.of w) [] w := ⟨Below.refl _ w, fun _ _ _ h => h, by simp, .nil⟩
theorem choose_list {α : Type} {p : Nat → α → Prop} : ∀ {n : Nat}, (∀ i, i < n → ∃ a, p i a) → ∃ l : List α, l.length = n ∧ ∀ i a, l[i]? = some a → p i a
  | 0, _ => ⟨[], rfl, by simp⟩
  | n + 1, h => by
    obtain ⟨l, h1, h2⟩ := choose_list (n := n) fun i hi => h i (by omega)
    obtain ⟨a, ha⟩ := h n (by omega)
    refine ⟨l ++ [a], by simp [h1], fun i b hb => ?_⟩
    by_cases hi : i < l.length
    · rw [List.getElem?_append_left hi] at hb; exact h2 i b hb
    · rw [List.getElem?_append_right (by omega)] at hb
      have h0 : i - l.length = 0 := by
        rcases Nat.eq_zero_or_pos (i - l.length) with h | h
        · exact h
        · rw [List.getElem?_eq_none (by simp; omega)] at hb; cases hb
      rw [h0] at hb
      simp at hb
      obtain rfl : i = n := by omega
      rwa [← hb]
section
variable {H : Type} {enc : TypeId × Value → H} {P : Program} {w : World} {UB : DataW H → Nat} {UBs : List (DataW H) → Nat}
structure Bulk (UB : DataW H → Nat) (UBs : List (DataW H) → Nat) : Prop where
  nil : UBs [] = 0
  cons : ∀ x l, UBs (x :: l) = UB x + UBs l
  agg : ∀ l, 1 + UBs l ≤ UB (.agg l)
  slice : ∀ l m, 1 + UBs l ≤ UB (.slice l m)
  str : ∀ s, s.length + 1 ≤ UB (.lit (.string s))
  pos : ∀ d, 1 ≤ UB d
def Rd {α : Type} (enc : TypeId × Value → H) (P : Program) (w : World) (UB : DataW H → Nat) (n : Nat) (t : TypeId) (cells : α → List PV) (bk : α → Nat) : Prop :=
  ∀ cs x, DataW.trod enc P w 0 (fun _ => true) true n t cs = some x → ∃ a : α, RepL (Fz.of w) (cells a) cs ∧ bk a ≤ UB x.1
theorem rd_int (hB : Bulk UB UBs) {t : TypeId} {k : IntKind} (ht : P.underlying t = some (.int k)) (n : Nat) : Rd enc P w UB n t (fun n : Int => [.int k n]) fun _ => 1 := by
  intro cs x h
  obtain ⟨m, rfl, rfl, _⟩ := DataW.trod_int ht h
  exact ⟨m, by simp only [RepL, Rep, and_true]; exact rfl, hB.pos _⟩
theorem rd_str (hB : Bulk UB UBs) {t : TypeId} (ht : P.underlying t = some .string) (n : Nat) : Rd enc P w UB n t (fun s : List UInt8 => [.str s]) fun s => s.length := by
  intro cs x h
  obtain ⟨s, rfl, rfl, hs⟩ := DataW.trod_string ht h
  refine ⟨s.data.toList, ?_, by have := hB.str s.data.toList; show s.data.toList.length ≤ UB (.lit (.string s.data.toList)); omega⟩
  have : s.data.toList.length ≤ 9223372036854775807 := by
    have h1 : s.data.toList.length = s.size := Array.length_toList
    have h2 : maxLen ≤ 9223372036854775807 := by simp only [maxLen]; omega
    omega
  exact RepL_cons.2 ⟨⟨rfl, by unfold Rep; exact ⟨rfl, this⟩⟩, RepL_nil _⟩
theorem rep_row {α : Type} {pv : α → PV} {cells : α → List PV} [c : CellsOf pv cells] {s b o : Nat} (hs : ∀ a, (cells a).length = s) : ∀ (l : List α) (i : Nat),
    (∀ j a, l[j]? = some a → ∃ cs, w.cells? 0 ((⟨b, o, none⟩ : Addr).add ((i + j) * s)) s = some cs ∧ RepL (Fz.of w) (cells a) cs) → RepRow (Fz.of w) s b (o + i * s) (l.map pv)
  | [], _, _ => by simp [RepRow]
  | a :: l, i, h => by
    rw [List.map_cons, RepRow_cons]
    obtain ⟨cs, h1, h2⟩ := h 0 a rfl
    obtain ⟨_, h3, h4⟩ := World.cells?_some h1
    refine ⟨⟨by rw [c.eq]; exact hs a, ?_⟩, ?_⟩
    · rw [c.eq, RepCells_iff]
      refine ⟨cs, h2, fun j u hu => ?_⟩
      have hj : j < cs.length := by
        rcases Nat.lt_or_ge j cs.length with h | h
        · exact h
        · rw [List.getElem?_eq_none h] at hu; cases hu
      have := h4 j (by omega)
      rw [hu, Addr.add_lit, Addr.add_lit] at this
      simpa [Fz.of] using this
    · have := rep_row (pv := pv) hs l (i + 1) fun j a ha => by
        have := h (j + 1) a (by simpa using ha)
        rwa [show i + (j + 1) = i + 1 + j by omega] at this
      rwa [show o + (i + 1) * s = o + i * s + s by rw [Nat.succ_mul]; omega] at this
def sumBk {α : Type} (bk : α → Nat) : List α → Nat
  | [] => 0
  | a :: l => bk a + sumBk bk l
theorem sumBk_le (hB : Bulk UB UBs) {α : Type} {bk : α → Nat} : ∀ (l : List α) (ds : List (DataW H)), l.length ≤ ds.length → (∀ (i : Nat) (a : α) (d : DataW H), l[i]? = some a → ds[i]? = some d → bk a ≤ UB d) → sumBk bk l ≤ UBs ds
  | [], _, _, _ => by simp [sumBk]
  | a :: l, [], h, _ => by simp at h
  | a :: l, d :: ds, h, k => by
    rw [sumBk, hB.cons]
    have h1 := k 0 a d rfl rfl
    have h2 := sumBk_le hB l ds (by simpa using h) fun i a d ha hd => k (i + 1) a d (by simpa using ha) (by simpa using hd)
    omega
theorem rd_slice (hB : Bulk UB UBs) {n : Nat} {t e : TypeId} (ht : P.underlying t = some (.slice e)) {s : Nat} (hs : P.cellsOf e = s) (hp : 0 < s) {α : Type} {pv : α → PV} {cells : α → List PV} [c : CellsOf pv cells] {bk : α → Nat}
    (hc : ∀ a, (cells a).length = s) (he : ∀ m, m < n → Rd enc P w UB m e cells bk) : Rd enc P w UB n t (fun l : List α => [.sl s (l.map pv) none]) fun l => 1 + sumBk bk l := by
  intro cs x h
  rcases DataW.trod_slice ht h with ⟨rfl, rfl⟩ | ⟨a, len, cap, elems, rest, m, rfl, rfl, rfl, _, hlc, hcm, hel, hx, hr, _⟩
  · refine ⟨[], ?_, by have := hB.pos (DataW.nil : DataW H); simpa [sumBk] using this⟩
    exact RepL_cons.2 ⟨⟨rfl, by unfold Rep; exact ⟨by simp, .inl ⟨rfl, rfl⟩⟩⟩, RepL_nil _⟩
  · have hx' : ∀ i, i < len → ∃ a' : α, ∃ cs d, elems[i]? = some d ∧ w.cells? 0 (a.add (i * s)) s = some cs ∧ RepL (Fz.of w) (cells a') cs ∧ bk a' ≤ UB d.1 := by
      intro i hi
      have h1 := hx i hi
      have h2 : elems[i]? = some elems[i] := List.getElem?_eq_getElem (by omega)
      rw [h2, hs] at h1
      obtain ⟨cs, h3, h4⟩ := Option.bind_eq_some_iff.1 h1
      obtain ⟨a', h5, h6⟩ := he m (by omega) cs _ h4
      exact ⟨a', cs, _, h2, h3, h5, h6⟩
    obtain ⟨l, hl, hl2⟩ := choose_list hx'
    have hcount : 1 + sumBk bk l ≤ UB (.slice (elems.map (·.1)) (rest.map (·.1))) := by
      have := sumBk_le hB (bk := bk) l (elems.map (·.1)) (by simp; omega) (by
        intro i a' d ha hd
        obtain ⟨_, d', h2, _, _, h5⟩ := hl2 i a' ha
        rw [List.getElem?_map, h2] at hd
        simp at hd
        rw [← hd]; exact h5)
      have := hB.slice (elems.map (·.1)) (rest.map (·.1))
      omega
    refine ⟨l, ?_, hcount⟩
    refine RepL_cons.2 ⟨⟨rfl, ?_⟩, RepL_nil _⟩
    unfold Rep
    refine ⟨fun t ht => (by cases ht), ?_⟩
    by_cases h0 : cap = 0
    · subst h0
      obtain rfl : len = 0 := by omega
      have : l = [] := List.eq_nil_of_length_eq_zero hl
      subst this
      exact .inr (.inr ⟨rfl, a, rfl⟩)
    ·
      have hsp : a.spot = none := by
        have h1 : ∃ cs, w.cells? 0 a s = some cs := by
          by_cases h2 : 0 < len
          · obtain ⟨_, cs, _, _, h3, _⟩ := hx' 0 h2
            exact ⟨cs, by simpa [Addr.add] using h3⟩
          · obtain ⟨h3, h4⟩ := hr rfl
            have h5 := h4 0 (by omega)
            have h6 : rest[0]? = some (rest[0]'(by omega)) := List.getElem?_eq_getElem (by omega)
            rw [h6, hs] at h5
            obtain ⟨cs, h7, _⟩ := Option.bind_eq_some_iff.1 h5
            have : len = 0 := by omega
            subst this
            exact ⟨cs, by simpa [Addr.add] using h7⟩
        obtain ⟨cs, h1⟩ := h1
        obtain ⟨_, h3, h4⟩ := World.cells?_some h1
        have h5 := h4 0 hp
        have h6 : cs[0]? = some (cs[0]'(by omega)) := List.getElem?_eq_getElem (by omega)
        rw [h6] at h5
        simp only [Addr.add, if_true, World.cell?] at h5
        split at h5
        · split at h5
          · cases h5
          · rename_i hn; simpa using hn
        · cases h5
      obtain ⟨b, o, sp⟩ := a
      simp only at hsp
      subst hsp
      refine .inr (.inl ⟨b, o, cap, by simp [hl], by simp; omega, hcm, by simp, ?_⟩)
      have := rep_row (pv := pv) (w := w) (b := b) (o := o) hc l 0 fun j a' ha => by
        obtain ⟨cs, _, _, h3, h4, _⟩ := hl2 j a' ha
        exact ⟨cs, by simpa using h3, h4⟩
      simpa using this
end
section
variable {H : Type} {enc : TypeId × Value → H} {P : Program} {w : World} {UB : DataW H → Nat} {UBs : List (DataW H) → Nat}
theorem repL_cat {F : Fz} {ps bs : List PV} {cs : List Value} {o s : Nat} (h1 : RepL F ps ((cs.drop o).take s)) (h2 : RepL F bs (cs.drop (o + s))) : RepL F (ps ++ bs) (cs.drop o) := by
  have := RepL_append h1 h2
  rwa [← List.drop_drop, List.take_append_drop] at this
theorem rd_field {α : Type} {n o s : Nat} {t : TypeId} {cells : α → List PV} {bk : α → Nat} (hR : Rd enc P w UB n t cells bk) {fs : Array Field} {cs : List Value} {xs : List (DataW H × List MemPlace)} (hlen : xs.length = fs.size)
    (hf : ∀ (i : Nat) (f : Field), fs[i]? = some f → DataW.trod enc P w 0 (fun _ => true) true n f.type ((cs.drop f.offset).take (P.cellsOf f.type)) = xs[i]?) (i : Nat) (h : (fs.toList.map fun f => (f.type, f.offset))[i]? = some (t, o)) (hs : P.cellsOf t = s) :
    ∃ a y, xs[i]? = some y ∧ RepL (Fz.of w) (cells a) ((cs.drop o).take s) ∧ bk a ≤ UB y.1 := by
  rw [List.getElem?_map] at h
  obtain ⟨f, hfi, hft⟩ := Option.map_eq_some_iff.1 h
  rw [Array.getElem?_toList] at hfi
  simp only [Prod.mk.injEq] at hft
  obtain ⟨rfl, rfl⟩ := hft
  have h1 := hf i f hfi
  have hi : i < xs.length := by rw [hlen]; exact (Array.getElem?_eq_some_iff.1 hfi).1
  have h2 : xs[i]? = some xs[i] := List.getElem?_eq_getElem hi
  rw [h2] at h1
  obtain ⟨a, h3, h4⟩ := hR _ _ h1
  exact ⟨a, _, h2, by rw [← hs]; exact h3, h4⟩
theorem arg_struct {α : Type} {t : TypeId} {cells : α → List PV} {bk : α → Nat} {fs : Array Field} (hs : P.underlying t = some (.struct fs)) (hR : ∀ n, Rd enc P w UB n t cells bk) {r : Reach} {b0 : Nat} {v : Value} {d : DataW H} {p : List MemPlace}
    (hv : Value.okWide P w r b0 t v) (h : DataW.Trod enc P w 0 (fun _ => true) true t v d p) : ∃ a, Rep (Fz.of w) (.agg (cells a)) v ∧ bk a ≤ UB d := by
  obtain ⟨cs, rfl, _⟩ := Go.WideShapes.okWide_struct hs hv
  obtain ⟨fuel, hf⟩ := h
  obtain ⟨a, h1, h2⟩ := hR fuel _ _ hf
  refine ⟨a, ?_, h2⟩
  simp only [Rep]
  exact ⟨cs.toList, by simp, by simpa [Value.cells] using h1⟩
theorem trodAll_below (hl : laidOutB P = true) {W W' : World} (hb : Below W.heap.size W W') : ∀ {ts : List TypeId} {vs : List Value} {ds : List (DataW H)} {ps : List MemPlace}, (∀ t ∈ ts, P.readableRec t = true ∧ t < P.types.size) →
    DataW.TrodAll enc P W 0 (fun _ => true) true ts vs ds ps → (∀ x ∈ ps, x.block < W.heap.size) → DataW.TrodAll enc P W' 0 (fun b => decide (b < W.heap.size)) true ts vs ds ps
  | [], _, _, _, _, h, _ => by
    obtain ⟨rfl, rfl, rfl⟩ := trodAll_nil h
    exact trodAll_mk0
  | t :: ts, _, _, _, hr, h, hlt => by
    obtain ⟨v, vs, d, ds, p, q, rfl, rfl, rfl, h1, h2⟩ := trodAll_cons h
    exact trodAll_cons_mk (Go.RowKit.Below.trod hl (hr t (by simp)).1 (hr t (by simp)).2 h1 hb fun x hx => hlt x (by simp [hx])) (trodAll_below hl hb (fun t ht => hr t (by simp [ht])) h2 fun x hx => hlt x (by simp [hx]))
theorem trodAll_len {spare : Nat → Bool} {base : Nat} {held : Bool} : ∀ {ts : List TypeId} {vs : List Value} {ds : List (DataW H)} {ps : List MemPlace}, DataW.TrodAll enc P w base spare held ts vs ds ps → ds.length = ts.length
  | [], _, _, _, h => by obtain ⟨rfl, rfl, rfl⟩ := trodAll_nil h; rfl
  | t :: ts, _, _, _, h => by
    obtain ⟨v, vs, d, ds, p, q, rfl, rfl, rfl, h1, h2⟩ := trodAll_cons h
    simp [trodAll_len h2]
theorem law_post {f : Func} {s : ChangeSpec} {tb : TypeId} {W W' : World} {args : Array Value} {ds gs : List (DataW H)} {before : List MemPlace} (hl : laidOutB P = true) (hr : ∀ t ∈ f.params.toList, P.readableRec t = true ∧ t < P.types.size)
    (hres : f.resultTypes = #[tb]) (hb : P.underlying tb = some .bool) (hv : s.vars = []) (hfn : ∀ ds : List (DataW H), ds.length = f.params.size → s.fn H ds = { results := [.lit (.bool true)], args := ds })
    (hW : DataW.Whole enc P f.params.toList s.vars false W args.toList ds gs before) (hbel : Below W.heap.size W W') : s.post enc P f false true false false W args (.bool true) W' := by
  have hW' := hW
  obtain ⟨p, q, hA, hV, rfl, _, _⟩ := hW
  have hV0 : DataW.TrodVars enc P W (fun _ => true) [] gs q := by rw [← hv]; exact hV
  obtain ⟨rfl, rfl⟩ := trodVars_none hV0
  have hfn' := hfn (ds ++ []) (by rw [List.append_nil, trodAll_len hA]; simp)
  refine ⟨ds, [], p ++ [], [], p, [], hW', ?_, ?_, ?_, hbel.frame _, fun h => by cases h⟩
  · rw [hfn', hres]
    exact trodAll_mk1 (Go.RowKit.shut_bool hb _)
  · rw [hfn', List.append_nil]
    exact trodAll_below hl hbel hr hA fun x hx => hW'.lt x (by simp [hx])
  · rw [hfn', hv]; rfl
end
theorem sumBk_datum : ∀ l : List Datum, sumBk Datum.bulk l = Datum.bulks l
  | [] => rfl
  | x :: l => by rw [sumBk, Datum.bulks, sumBk_datum l]
theorem sumBk_trm : ∀ l : List Trm, sumBk Trm.bulk l = Trm.bulks l
  | [] => rfl
  | x :: l => by rw [sumBk, Trm.bulks, sumBk_trm l]
theorem sumBk_one {α : Type} : ∀ l : List α, sumBk (fun _ => 1) l = l.length
  | [] => rfl
  | x :: l => by rw [sumBk, sumBk_one l, List.length_cons]; omega
section
variable {H : Type} {enc : TypeId × Value → H} {P : Program} {w : World} {UB : DataW H → Nat} {UBs : List (DataW H) → Nat}
theorem repL_end {F : Fz} {cs : List Value} {n : Nat} (h : cs.length = n) : RepL F [] (cs.drop n) := by
  rw [List.drop_of_length_le (by omega)]; exact RepL_nil F
theorem rd_datum (hB : Bulk UB UBs) {tI tS tL tD : TypeId} (hI : P.underlying tI = some (.int .i64)) (hS : P.underlying tS = some .string) (hL : P.underlying tL = some (.slice tD)) {fs : Array Field} (hD : P.underlying tD = some (.struct fs))
    (hfs : (fs.toList.map fun f => (f.type, f.offset)) = [(tI, 0), (tI, 1), (tI, 2), (tS, 3), (tL, 4)]) (cI : P.cellsOf tI = 1) (cS : P.cellsOf tS = 1) (cL : P.cellsOf tL = 1) (cD : P.cellsOf tD = 5) : ∀ n, Rd enc P w UB n tD Datum.cells Datum.bulk := by
  intro n
  induction n using Nat.strongRecOn with
  | ind n ih =>
    intro cs x h
    obtain ⟨xs, m, rfl, rfl, hl, hlen, hf⟩ := DataW.trod_struct hD h
    obtain ⟨a0, y0, e0, r0, _⟩ := rd_field (rd_int (w := w) (enc := enc) hB hI m) hlen hf 0 (by rw [hfs]; rfl) cI
    obtain ⟨a1, y1, e1, r1, _⟩ := rd_field (rd_int (w := w) (enc := enc) hB hI m) hlen hf 1 (by rw [hfs]; rfl) cI
    obtain ⟨a2, y2, e2, r2, _⟩ := rd_field (rd_int (w := w) (enc := enc) hB hI m) hlen hf 2 (by rw [hfs]; rfl) cI
    obtain ⟨a3, y3, e3, r3, b3⟩ := rd_field (rd_str (w := w) (enc := enc) hB hS m) hlen hf 3 (by rw [hfs]; rfl) cS
    obtain ⟨a4, y4, e4, r4, b4⟩ := rd_field (rd_slice (pv := Datum.pv) hB hL cD (by omega) (fun a => rfl) (fun k hk => ih k (by omega))) hlen hf 4 (by rw [hfs]; rfl) cL
    refine ⟨.mk a0 a1 a2 a3 a4, ?_, ?_⟩
    · exact repL_cat r0 (repL_cat r1 (repL_cat r2 (repL_cat r3 (repL_cat r4 (repL_end (hl.trans cD))))))
    · have h5 : xs.length = 5 := by
        have := congrArg List.length hfs
        simp at this; omega
      match xs, h5 with
      | [z0, z1, z2, z3, z4], _ =>
        simp at e3 e4
        subst e3 e4
        have := hB.agg ([z0, z1, z2, z3, z4].map (·.1))
        simp only [List.map_cons, List.map_nil, hB.cons, hB.nil] at this
        rw [sumBk_datum] at b4
        rw [Datum.bulk_eq]
        show 1 + a3.length + Datum.bulks a4 ≤ _
        simp only [List.map_cons, List.map_nil]
        omega
theorem rd_ints (hB : Bulk UB UBs) {tI tV : TypeId} (hI : P.underlying tI = some (.int .i64)) (hV : P.underlying tV = some (.slice tI)) (cI : P.cellsOf tI = 1) (n : Nat) : Rd enc P w UB n tV (fun l : List Int => [.sl 1 (l.map (PV.int .i64)) none]) fun l => 1 + l.length := by
  intro cs x h
  obtain ⟨a, h1, h2⟩ := rd_slice (pv := PV.int .i64) hB hV cI (by omega) (fun a => rfl) (fun k hk => rd_int (w := w) (enc := enc) hB hI k) cs x h
  exact ⟨a, h1, by have := sumBk_one a; show 1 + a.length ≤ _; have h3 : 1 + sumBk (fun _ => 1) a ≤ UB x.1 := h2; omega⟩
theorem rd_trm (hB : Bulk UB UBs) {tI tV tL tT : TypeId} (hI : P.underlying tI = some (.int .i64)) (hV : P.underlying tV = some (.slice tI)) (hL : P.underlying tL = some (.slice tT)) {fs : Array Field} (hT : P.underlying tT = some (.struct fs))
    (hfs : (fs.toList.map fun f => (f.type, f.offset)) = [(tI, 0), (tI, 1), (tV, 2), (tL, 3)]) (cI : P.cellsOf tI = 1) (cV : P.cellsOf tV = 1) (cL : P.cellsOf tL = 1) (cT : P.cellsOf tT = 4) : ∀ n, Rd enc P w UB n tT Trm.cells Trm.bulk := by
  intro n
  induction n using Nat.strongRecOn with
  | ind n ih =>
    intro cs x h
    obtain ⟨xs, m, rfl, rfl, hl, hlen, hf⟩ := DataW.trod_struct hT h
    obtain ⟨a0, y0, e0, r0, _⟩ := rd_field (rd_int (w := w) (enc := enc) hB hI m) hlen hf 0 (by rw [hfs]; rfl) cI
    obtain ⟨a1, y1, e1, r1, _⟩ := rd_field (rd_int (w := w) (enc := enc) hB hI m) hlen hf 1 (by rw [hfs]; rfl) cI
    obtain ⟨a2, y2, e2, r2, b2⟩ := rd_field (rd_ints (w := w) (enc := enc) hB hI hV cI m) hlen hf 2 (by rw [hfs]; rfl) cV
    obtain ⟨a3, y3, e3, r3, b3⟩ := rd_field (rd_slice (pv := Trm.pv) hB hL cT (by omega) (fun a => rfl) (fun k hk => ih k (by omega))) hlen hf 3 (by rw [hfs]; rfl) cL
    refine ⟨.mk a0 a1 a2 a3, ?_, ?_⟩
    · exact repL_cat r0 (repL_cat r1 (repL_cat r2 (repL_cat r3 (repL_end (hl.trans cT)))))
    · have h5 : xs.length = 4 := by
        have := congrArg List.length hfs
        simp at this; omega
      match xs, h5 with
      | [z0, z1, z2, z3], _ =>
        simp at e2 e3
        subst e2 e3
        have := hB.agg ([z0, z1, z2, z3].map (·.1))
        simp only [List.map_cons, List.map_nil, hB.cons, hB.nil] at this
        rw [sumBk_trm] at b3
        rw [Trm.bulk_eq]
        show 1 + a2.length + Trm.bulks a3 ≤ _
        simp only [List.map_cons, List.map_nil]
        omega
end
end Go.Cb
namespace Go.Cb
open Go.Proofs Go.Proofs.YtpkgembbjlebcaaGreatDoor
open Go.RowKit (Below)
theorem uptoOne {H : Type} (d : DataW H) : 1 ≤ Rows.uptoBulk d := by
  cases d with
  | lit l => cases l <;> simp [Rows.uptoBulk]
  | nil => simp [Rows.uptoBulk]
  | ptr d => simp [Rows.uptoBulk]
  | slice elems spare => simp [Rows.uptoBulk]
  | agg parts => simp [Rows.uptoBulk]
  | iface t d => simp [Rows.uptoBulk]
  | map entries => simp [Rows.uptoBulk]
  | held h => simp [Rows.uptoBulk]
theorem bulkR {H : Type} : Bulk (H := H) Rows.uptoBulk Rows.uptoBulkAll where
  nil := by simp [Rows.uptoBulkAll]
  cons x l := by simp [Rows.uptoBulkAll]
  agg l := by simp [Rows.uptoBulk]; omega
  slice l m := by simp [Rows.uptoBulk]; omega
  str s := by simp [Rows.uptoBulk]
  pos d := uptoOne d
section
variable {H : Type} {enc : TypeId × Value → H} {w : World}
theorem cInt : Tryz.prog.cellsOf 3 = 1 := by kernel_rfl
theorem cStr : Tryz.prog.cellsOf 9 = 1 := by kernel_rfl
theorem cInts : Tryz.prog.cellsOf 23 = 1 := by kernel_rfl
theorem cDs : Tryz.prog.cellsOf 22 = 1 := by kernel_rfl
theorem cTs : Tryz.prog.cellsOf 24 = 1 := by kernel_rfl
theorem cD : Tryz.prog.cellsOf 35 = 5 := by kernel_rfl
theorem cT : Tryz.prog.cellsOf 26 = 4 := by kernel_rfl
theorem cP : Tryz.prog.cellsOf 28 = 5 := by kernel_rfl
theorem rdD (n : Nat) : Rd enc Tryz.prog w Rows.uptoBulk n 35 Datum.cells Datum.bulk :=
  rd_datum bulkR Tryz.underlying3 Tryz.underlying9 Tryz.underlying22 Tryz.underlying35 rfl cInt cStr cDs cD n
theorem rdT (n : Nat) : Rd enc Tryz.prog w Rows.uptoBulk n 26 Trm.cells Trm.bulk :=
  rd_trm bulkR Tryz.underlying3 Tryz.underlying23 Tryz.underlying24 Tryz.underlying26 rfl cInt cInts cTs cT n
theorem rdDs (n : Nat) : Rd enc Tryz.prog w Rows.uptoBulk n 22 (fun l : List Datum => [.sl 5 (l.map Datum.pv) none]) fun l => 1 + Datum.bulks l := by
  intro cs x h
  obtain ⟨a, h1, h2⟩ := rd_slice (pv := Datum.pv) bulkR Tryz.underlying22 cD (by omega) (fun a => rfl) (fun k hk => rdD (w := w) (enc := enc) k) cs x h
  have h3 : 1 + sumBk Datum.bulk a ≤ Rows.uptoBulk x.1 := h2
  rw [sumBk_datum] at h3
  exact ⟨a, h1, h3⟩
def Prog.bulk (p : Prog) : Nat := Datum.bulks p.consts + p.body.bulk
theorem rdP (n : Nat) : Rd enc Tryz.prog w Rows.uptoBulk n 28 Prog.cells Prog.bulk := by
  intro cs x h
  obtain ⟨xs, m, rfl, rfl, hl, hlen, hf⟩ := DataW.trod_struct Tryz.underlying28 h
  obtain ⟨a0, y0, e0, r0, b0⟩ := rd_field (rdDs (w := w) (enc := enc) m) hlen hf 0 rfl cDs
  obtain ⟨a1, y1, e1, r1, b1⟩ := rd_field (rdT (w := w) (enc := enc) m) hlen hf 1 rfl cT
  refine ⟨⟨a0, a1⟩, ?_, ?_⟩
  · have := repL_cat r0 (repL_cat r1 (repL_end (hl.trans cP)))
    rwa [List.append_nil] at this
  · match xs, hlen with
    | [z0, z1], _ =>
      simp at e0 e1
      subst e0 e1
      have := (bulkR (H := H)).agg ([z0, z1].map (·.1))
      simp only [List.map_cons, List.map_nil, (bulkR (H := H)).cons, (bulkR (H := H)).nil] at this
      show Datum.bulks a0 + a1.bulk ≤ _
      simp only [List.map_cons, List.map_nil]
      omega
theorem okP : Tryz.prog.readableRec 28 = true ∧ 28 < Tryz.prog.types.size := ⟨by kernel_rfl, of_decide_eq_true (by kernel_rfl)⟩
theorem okT : Tryz.prog.readableRec 26 = true ∧ 26 < Tryz.prog.types.size := ⟨by kernel_rfl, of_decide_eq_true (by kernel_rfl)⟩
theorem calls_true {f : FuncId} {args : List PV} {vs : List Value} {W : World} (h : ACallP Tryz.prog f args (.bool true)) (hr : RepT (Fz.of W) args vs) : Calls Tryz.prog f vs.toArray W fun e W' => e = .returned (.bool true) ∧ Below W.heap.size W W' := by
  refine (h.2 W (Fz.of W) [] W vs (Sim.start W) hr).mono ?_
  rintro e W' ⟨v, F', y, Γ', rfl, _, hS, hR, rfl⟩
  exact ⟨by rw [show v = .bool true by simpa only [Rep] using hR], hS.below⟩
end
end Go.Cb
namespace Go.Cb
open Go.Proofs Go.Proofs.YtpkgembbjlebcaaGreatDoor
mutual
def cellsD : DataW Unit → List Value
  | .lit (.int k n) => [.int k n]
  | .lit (.bool b) => [.bool b]
  | .lit (.string s) => [.string ⟨s.toArray⟩]
  | .agg l => cellsDs l
  | _ => []
def cellsDs : List (DataW Unit) → List Value
  | [] => []
  | d :: l => cellsD d ++ cellsDs l
end
def newBlocks (e : TypeId) : List (String × DataW Unit) → List Obj
  | [] => []
  | (_, .iface _ (.ptr d)) :: l => .cells (cellsD d).toArray e :: newBlocks e l
  | _ :: l => newBlocks e l
def putCs (h : Array Obj) (g : Option Nat) (cs : Array Value) : Array Obj := match g with
  | some g => h.modify g fun
    | .cells _ t frozen => .cells cs t frozen
    | o => o
  | none => h
def layAll (P : Program) (p : TypeId) : List (String × DataW Unit) → Nat → Array Obj → Array Obj
  | [], _, h => h
  | (n, .iface _ _) :: l, k, h => layAll P p l (k + 1) (putCs h (P.globalNamed n) #[.iface p (.pointer (some ⟨k, 0, none⟩))])
  | (n, d) :: l, k, h => layAll P p l k (putCs h (P.globalNamed n) (cellsD d).toArray)
noncomputable def laidWorld (os : Os) : World :=
  let w0 := World.holding Tryz.prog os ⟨(newBlocks 256 Rows.termConstsRow.laid).toArray, #[], []⟩
  { w0 with heap := layAll Tryz.prog 254 Rows.termConstsRow.laid (World.settled Tryz.prog os).heap.size w0.heap }
theorem laid_met (os : Os) (args : Array Value) : laidMet Tryz.prog Rows.termConstsRow.laid ((laidWorld os).forCall (fun _ _ => 0) ⟨#[], args, []⟩).memory :=
  (LaidIn.of_run (l := Rows.termConstsRow.laid) (List.range 1000) 16 (by kernel_rfl) (by kernel_rfl) (by kernel_rfl) (by kernel_rfl)).met
theorem own_none : ownKnob Tryz.prog.godebug = none := by kernel_rfl
theorem laidOut : laidOutB Tryz.prog = true := by kernel_rfl
end Go.Cb

