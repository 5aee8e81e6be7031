/-
  Contracts: a procedure, converted.
  Contracts: a Fix with assigned variables, converted.
  Contracts: a term, converted.
  Contracts: the document's words for the check of terms.
  Contracts: what is right names what it binds.
  Contracts: a program, converted.
  Contracts: the program's check of modules.
  Contracts: a program's module.
  Plain law: how many closures there are.
  Contracts: the document's words for assignment conversion.
  Contracts: closure's laws: the document's example, sizes, counts.
  Plain law: what stays as often as before.
  Plain law: what is right names what its scope holds; no Lam is left in a module.
  Contracts: closure's laws: codes stand apart.
-/
import Derived.Test.YtpkgembbjlebcaaGreatDoorA7
set_option linter.unusedSimpArgs false
set_option linter.unusedVariables false
namespace Go.Cb
open Go.Proofs
set_option maxRecDepth 100000
set_option maxHeartbeats 4000000
end Go.Cb
namespace Go.Cb
open Go.Proofs
set_option maxRecDepth 100000
set_option maxHeartbeats 4000000
end Go.Cb
namespace Go.Cb
open Go.Proofs
set_option maxRecDepth 100000
set_option maxHeartbeats 4000000
end Go.Cb
namespace Go.Cb
open Go.Proofs
set_option maxRecDepth 100000
set_option maxHeartbeats 4000000
theorem Wk.rowTok {s : Nat} {es fs : List PV} {tk : Option Tok} (h : WkR es fs) : Wk (.sl s es tk) (.sl s fs none) := Wk.trans (Wk.tok _ _ _) (Wk.row h)
end Go.Cb
namespace Go.Cb
open Go.Proofs
set_option maxRecDepth 100000
set_option maxHeartbeats 4000000
theorem RightP.binds {p : Prog} {level : Int} (h : RightP p level) : (riseL (bindsOf p.body.all)).length = p.body.vars.length := by
  have h1 := p.body.met_all [] 0 (by have := p.body.okT_deep h.2.2.1; omega)
  have h2 : bindsOf p.body.all = p.body.vars := h1.2
  rw [h2]
  exact rise_len h.2.2.2.2.2
end Go.Cb
namespace Go.Cb
open Go.Proofs
set_option maxRecDepth 100000
set_option maxHeartbeats 4000000
end Go.Cb
namespace Go.Cb
open Go.Proofs
set_option maxRecDepth 100000
set_option maxHeartbeats 4000000
abbrev mC2 (m : Mdl) : List PV := [.sl 5 (m.consts.map Datum.pv) none, .sl 6 (m.codes.map Cod.pv) none, .int .i64 m.body.op, .int .i64 m.body.n, .sl 1 (m.body.v.map (PV.int .i64)) none, .sl 4 (m.body.t.map Trm.pv) none]
def mtotP (m : Mdl) : Option (Int × List Int) := if (m.consts.all fun d => d.rightP 0) = true then okO (m.body.ckP 3 m.consts.length m.codes.length false [] 0 0 []) (modP m.consts.length m.codes.length m.codes) else none
theorem mckP_tot (m : Mdl) : mckP m = if (mtotP m).isSome = true then 0 else 5 := by
  unfold mckP mtotP
  cases h : m.consts.all fun d => d.rightP 0 <;> simp
theorem checkModuleP_c (m : Mdl) (hb : m.body.bulk + codsBulk m.codes ≤ 1000000000) (hl : m.consts.length ≤ 1000000000) (hk : m.codes.length ≤ 1000000000) : ACallP Tryz.prog 67 [.agg m.cells] (.int .i64 (mckP m)) := by
  rw [mckP_tot]
  refine ACall.of_body tt_ok Tryz.func67 rfl rfl (n := 64) rfl rfl ?_
  conv => whnf
  repeat' (first|((first|((first|(apply zY;intro hg)|apply zZ);first|exact stA|((conv=>whnf);(repeat ((first|(refine zW ?_ ?_;exact gA)|refine pC (constantsp_c _) wR ?_|refine pC (constantsp_c _) cA ?_|intro _);conv=>whnf));first|exact pS|exact pL|exact pE))|(refine zW ?_ ?_;exact gA)|refine zH rfl ?_|refine zA ?_|refine zI bA ?_|refine zI rfl ?_|refine zJ rfl rfl ?_|refine zB ?_|refine zK rfl ?_|refine zL rfl ?_|refine zC ?_|(refine zO ?_ ?_ ?_;omega;omega)|(refine zP ?_ ?_ ?_;omega;omega)|refine zM rfl ?_|(refine zQ ?_ ?_ ?_;omega;omega)|(refine zR ?_ ?_;omega)|(refine zI ?_ ?_;exact nA)|(refine zS ?_ ?_ ?_;omega;omega)|(refine zT ?_ ?_ ?_;omega;omega)|(refine zU ?_ ?_ ?_;omega;omega)|(refine zV ?_ ?_ ?_;omega;omega)|refine pC (constantsp_c _) wR ?_|refine pC (constantsp_c _) cA ?_|refine zN rfl rfl rfl ?_|refine zD ?_|refine zE ?_|refine zF ?_|intro _|refine zG ?_);conv=>whnf)|(refine zX (fun hc => ?_) (fun hc => ?_)<;>(try simp only [SY] at hc)<;>first|omega|(conv=>whnf)))
  refine PGuard.ways (fun hg => ?_) (fun hg => ?_)
  rotate_left
  · have hmn : mtotP m = none := by unfold mtotP; rw [if_neg (by simp only [Bool.not_not] at hg; rw [hg]; simp)]
    conv => whnf
    repeat' (first|((first|((first|(apply zY;intro hg)|apply zZ);first|exact stA|((conv=>whnf);(repeat ((first|(refine zW ?_ ?_;exact gA)|refine pC (constantsp_c _) wR ?_|refine pC (constantsp_c _) cA ?_|intro _);conv=>whnf));first|exact pS|exact pL|exact pE))|(refine zW ?_ ?_;exact gA)|refine zH rfl ?_|refine zA ?_|refine zI bA ?_|refine zI rfl ?_|refine zJ rfl rfl ?_|refine zB ?_|refine zK rfl ?_|refine zL rfl ?_|refine zC ?_|(refine zO ?_ ?_ ?_;omega;omega)|(refine zP ?_ ?_ ?_;omega;omega)|refine zM rfl ?_|(refine zQ ?_ ?_ ?_;omega;omega)|(refine zR ?_ ?_;omega)|(refine zI ?_ ?_;exact nA)|(refine zS ?_ ?_ ?_;omega;omega)|(refine zT ?_ ?_ ?_;omega;omega)|(refine zU ?_ ?_ ?_;omega;omega)|(refine zV ?_ ?_ ?_;omega;omega)|refine pC (constantsp_c _) wR ?_|refine pC (constantsp_c _) cA ?_|refine zN rfl rfl rfl ?_|refine zD ?_|refine zE ?_|refine zF ?_|intro _|refine zG ?_);conv=>whnf)|(refine zX (fun hc => ?_) (fun hc => ?_)<;>(try simp only [SY] at hc)<;>first|omega|(conv=>whnf)))
    exact PRet.pure (Wk.int (by rw [hmn]; rfl))
  · conv => whnf
    conv => whnf
    repeat ((first|((first|(apply zY;intro hg)|apply zZ);first|exact stA|((conv=>whnf);(repeat ((first|(refine zW ?_ ?_;exact gA)|refine pC (constantsp_c _) wR ?_|refine pC (constantsp_c _) cA ?_|intro _);conv=>whnf));first|exact pS|exact pL|exact pE))|(refine zW ?_ ?_;exact gA)|refine zH rfl ?_|refine zA ?_|refine zI bA ?_|refine zI rfl ?_|refine zJ rfl rfl ?_|refine zB ?_|refine zK rfl ?_|refine zL rfl ?_|refine zC ?_|(refine zO ?_ ?_ ?_;omega;omega)|(refine zP ?_ ?_ ?_;omega;omega)|refine zM rfl ?_|(refine zQ ?_ ?_ ?_;omega;omega)|(refine zR ?_ ?_;omega)|(refine zI ?_ ?_;exact nA)|(refine zS ?_ ?_ ?_;omega;omega)|(refine zT ?_ ?_ ?_;omega;omega)|(refine zU ?_ ?_ ?_;omega;omega)|(refine zV ?_ ?_ ?_;omega;omega)|refine pC (constantsp_c _) wR ?_|refine pC (constantsp_c _) cA ?_|refine zN rfl rfl rfl ?_|refine zD ?_|refine zE ?_|refine zF ?_|intro _);conv=>whnf)
    rename_i b1 l1 l2 r1 b2 r2
    have hall : (m.consts.all fun d => d.rightP 0) = true := by simpa using hg
    have hm : mtotP m = okO (m.body.ckP 3 m.consts.length m.codes.length false [] 0 0 []) (modP m.consts.length m.codes.length m.codes) := by unfold mtotP; rw [if_pos hall]
    have hcall := rightp_c b2 r1 r2 3 m.consts.length m.codes.length false m.body [] 0 0 [] [] [] (by omega) (by omega) (by omega) (by omega) (by simp) (by omega)
    rw [← setM_nil] at hcall
    refine PCall.goG (Ghost.box (b := b2) (cs := [.int .i64 3, .int .i64 m.consts.length, .int .i64 m.codes.length, .bfalse, .int .i64 0, .mp r1]) (cs' := cpC 3 m.consts.length m.codes.length 0 false r1) wA) hcall (WkT.refl _) ?_
    rintro _ _ ⟨rfl, sz, mb, ms, pb, ps, rfl, hs2⟩
    conv => whnf
    repeat' (first|((first|((first|(apply zY;intro hg)|apply zZ);first|exact stA|((conv=>whnf);(repeat ((first|(refine zW ?_ ?_;exact gA)|refine pC (constantsp_c _) wR ?_|refine pC (constantsp_c _) cA ?_|intro _);conv=>whnf));first|exact pS|exact pL|exact pE))|(refine zW ?_ ?_;exact gA)|refine zH rfl ?_|refine zA ?_|refine zI bA ?_|refine zI rfl ?_|refine zJ rfl rfl ?_|refine zB ?_|refine zK rfl ?_|refine zL rfl ?_|refine zC ?_|(refine zO ?_ ?_ ?_;omega;omega)|(refine zP ?_ ?_ ?_;omega;omega)|refine zM rfl ?_|(refine zQ ?_ ?_ ?_;omega;omega)|(refine zR ?_ ?_;omega)|(refine zI ?_ ?_;exact nA)|(refine zS ?_ ?_ ?_;omega;omega)|(refine zT ?_ ?_ ?_;omega;omega)|(refine zU ?_ ?_ ?_;omega;omega)|(refine zV ?_ ?_ ?_;omega;omega)|refine pC (constantsp_c _) wR ?_|refine pC (constantsp_c _) cA ?_|refine zN rfl rfl rfl ?_|refine zD ?_|refine zE ?_|refine zF ?_|intro _|refine zG ?_);conv=>whnf)|(refine zX (fun hc => ?_) (fun hc => ?_)<;>(try simp only [SY] at hc)<;>first|omega|(conv=>whnf)))
    · rw [Option.isSome_eq_false_iff, Option.isNone_iff_eq_none] at hc
      exact PRet.pure (Wk.int (by rw [hm, hc]; rfl))
    · obtain ⟨⟨s1, bd1⟩, e⟩ := Option.isSome_iff_exists.mp hc
      obtain ⟨rfl, rfl, rfl⟩ := hs2 s1 bd1 e
      have hbd := Trm.ckP_bd _ _ _ _ _ _ _ _ _ _ _ e
      refine PLoop.over [2, 5, 6, 34, 35, 36, 37, 38, 39, 40, 41, 42, 43, 44, 45, 46, 47, 48, 49, 50, 51, 52, 53, 54, 55, 56, 57, 58, 59, 60, 61, 62, 63] (fun (x : Nat × Int × List Int × List (Int × Value)) => [(34, .int .i64 x.1)])
        (fun (x : Nat × Int × List Int × List (Int × Value)) => [.box b2 (cpC 3 m.consts.length m.codes.length x.2.1 true r1), .mp r1 (.int .i64) (setM x.2.2.1) x.2.2.2, .box b1 (mC2 m)])
        (fun | (i, sz, bd, pb) => i ≤ m.codes.length ∧ 0 ≤ sz ∧ sz ≤ 20000 ∧ mtotP m = modP m.consts.length m.codes.length (m.codes.drop i) sz bd) (fun | (i, _) => m.codes.length - i) (0, sz, bd1, pb)
        ⟨by simp, by omega, hbd.2.1, by rw [hm, e]; rfl⟩ wA ?_
      rintro ⟨i, sz, bd, pb⟩ ⟨hi, hz0, hz1, ht⟩
      dsimp only at hi hz0 hz1 ht ⊢
      conv => whnf
      repeat' (first|((first|((first|(apply zY;intro hg)|apply zZ);first|exact stA|((conv=>whnf);(repeat ((first|(refine zW ?_ ?_;exact gA)|refine pC (constantsp_c _) wR ?_|refine pC (constantsp_c _) cA ?_|intro _);conv=>whnf));first|exact pS|exact pL|exact pE))|(refine zW ?_ ?_;exact gA)|refine zH rfl ?_|refine zA ?_|refine zI bA ?_|refine zI rfl ?_|refine zJ rfl rfl ?_|refine zB ?_|refine zK rfl ?_|refine zL rfl ?_|refine zC ?_|(refine zO ?_ ?_ ?_;omega;omega)|(refine zP ?_ ?_ ?_;omega;omega)|refine zM rfl ?_|(refine zQ ?_ ?_ ?_;omega;omega)|(refine zR ?_ ?_;omega)|(refine zI ?_ ?_;exact nA)|(refine zS ?_ ?_ ?_;omega;omega)|(refine zT ?_ ?_ ?_;omega;omega)|(refine zU ?_ ?_ ?_;omega;omega)|(refine zV ?_ ?_ ?_;omega;omega)|refine pC (constantsp_c _) wR ?_|refine pC (constantsp_c _) cA ?_|refine zN rfl rfl rfl ?_|refine zD ?_|refine zE ?_|refine zF ?_|intro _|refine zG ?_);conv=>whnf)|(refine zX (fun hc => ?_) (fun hc => ?_)<;>(try simp only [SY] at hc)<;>first|omega|(conv=>whnf)))
      · rename_i b4 r4
        have hlt : i < m.codes.length := by omega
        rw [drop_at hlt, modP] at ht
        have hbm : m.codes[i].bulk ≤ codsBulk m.codes := codsBulk_mem (List.getElem_mem hlt)
        have hbk : m.codes[i].bulk = m.codes[i].v.length + m.codes[i].body.bulk := rfl
        refine PGuard.ways (fun hg => ?_) (fun hg => ?_)
        · have hr1 : ¬(m.codes[i].rest = true ∧ m.codes[i].v = []) := by
            rintro ⟨e1, e2⟩
            rw [e1, e2] at hg
            simp at hg
          rw [if_neg hr1] at ht
          conv => whnf
          repeat ((first|((first|(apply zY;intro hg)|apply zZ);first|exact stA|((conv=>whnf);(repeat ((first|(refine zW ?_ ?_;exact gA)|refine pC (constantsp_c _) wR ?_|refine pC (constantsp_c _) cA ?_|intro _);conv=>whnf));first|exact pS|exact pL|exact pE))|(refine zW ?_ ?_;exact gA)|refine zH rfl ?_|refine zA ?_|refine zI bA ?_|refine zI rfl ?_|refine zJ rfl rfl ?_|refine zB ?_|refine zK rfl ?_|refine zL rfl ?_|refine zC ?_|(refine zO ?_ ?_ ?_;omega;omega)|(refine zP ?_ ?_ ?_;omega;omega)|refine zM rfl ?_|(refine zQ ?_ ?_ ?_;omega;omega)|(refine zR ?_ ?_;omega)|(refine zI ?_ ?_;exact nA)|(refine zS ?_ ?_ ?_;omega;omega)|(refine zT ?_ ?_ ?_;omega;omega)|(refine zU ?_ ?_ ?_;omega;omega)|(refine zV ?_ ?_ ?_;omega;omega)|refine pC (constantsp_c _) wR ?_|refine pC (constantsp_c _) cA ?_|refine zN rfl rfl rfl ?_|refine zD ?_|refine zE ?_|refine zF ?_|intro _);conv=>whnf)
          have hbc := bind2p_c b2 r1 r4 3 m.consts.length m.codes.length sz true m.codes[i].v bd [] pb []
          rw [← setM_nil] at hbc
          refine PCall.go hbc (WkT.refl _) ?_
          rintro _ _ ⟨rfl, pb3, mb, ms2, rfl, hb3⟩
          conv => whnf
          repeat' (first|((first|((first|(apply zY;intro hg)|apply zZ);first|exact stA|((conv=>whnf);(repeat ((first|(refine zW ?_ ?_;exact gA)|refine pC (constantsp_c _) wR ?_|refine pC (constantsp_c _) cA ?_|intro _);conv=>whnf));first|exact pS|exact pL|exact pE))|(refine zW ?_ ?_;exact gA)|refine zH rfl ?_|refine zA ?_|refine zI bA ?_|refine zI rfl ?_|refine zJ rfl rfl ?_|refine zB ?_|refine zK rfl ?_|refine zL rfl ?_|refine zC ?_|(refine zO ?_ ?_ ?_;omega;omega)|(refine zP ?_ ?_ ?_;omega;omega)|refine zM rfl ?_|(refine zQ ?_ ?_ ?_;omega;omega)|(refine zR ?_ ?_;omega)|(refine zI ?_ ?_;exact nA)|(refine zS ?_ ?_ ?_;omega;omega)|(refine zT ?_ ?_ ?_;omega;omega)|(refine zU ?_ ?_ ?_;omega;omega)|(refine zV ?_ ?_ ?_;omega;omega)|refine pC (constantsp_c _) wR ?_|refine pC (constantsp_c _) cA ?_|refine zN rfl rfl rfl ?_|refine zD ?_|refine zE ?_|refine zF ?_|intro _|refine zG ?_);conv=>whnf)|(refine zX (fun hc => ?_) (fun hc => ?_)<;>(try simp only [SY] at hc)<;>first|omega|(conv=>whnf)))
          refine PGuard.ways (fun hg => ?_) (fun hg => ?_)
          · have hb1 : (bindR m.codes[i].v bd).1 = true := by simpa using hg
            obtain ⟨rfl, rfl⟩ := hb3 hb1
            rw [if_pos hb1] at ht
            conv => whnf
            repeat ((first|((first|(apply zY;intro hg)|apply zZ);first|exact stA|((conv=>whnf);(repeat ((first|(refine zW ?_ ?_;exact gA)|refine pC (constantsp_c _) wR ?_|refine pC (constantsp_c _) cA ?_|intro _);conv=>whnf));first|exact pS|exact pL|exact pE))|(refine zW ?_ ?_;exact gA)|refine zH rfl ?_|refine zA ?_|refine zI bA ?_|refine zI rfl ?_|refine zJ rfl rfl ?_|refine zB ?_|refine zK rfl ?_|refine zL rfl ?_|refine zC ?_|(refine zO ?_ ?_ ?_;omega;omega)|(refine zP ?_ ?_ ?_;omega;omega)|refine zM rfl ?_|(refine zQ ?_ ?_ ?_;omega;omega)|(refine zR ?_ ?_;omega)|(refine zI ?_ ?_;exact nA)|(refine zS ?_ ?_ ?_;omega;omega)|(refine zT ?_ ?_ ?_;omega;omega)|(refine zU ?_ ?_ ?_;omega;omega)|(refine zV ?_ ?_ ?_;omega;omega)|refine pC (constantsp_c _) wR ?_|refine pC (constantsp_c _) cA ?_|refine zN rfl rfl rfl ?_|refine zD ?_|refine zE ?_|refine zF ?_|intro _);conv=>whnf)
            rw [List.nil_append]
            refine PCall.go (rightp_c b2 r1 r4 3 m.consts.length m.codes.length true m.codes[i].body m.codes[i].v 0 sz (bd ++ m.codes[i].v) pb3 [] (by omega) (by omega) (by omega) (by omega) (by intro x h; simp [h]) (by omega)) (WkT.refl _) ?_
            rintro _ _ ⟨rfl, sz5, mb5, ms5, pb5, ps5, rfl, hs5⟩
            conv => whnf
            repeat' (first|((first|((first|(apply zY;intro hg)|apply zZ);first|exact stA|((conv=>whnf);(repeat ((first|(refine zW ?_ ?_;exact gA)|refine pC (constantsp_c _) wR ?_|refine pC (constantsp_c _) cA ?_|intro _);conv=>whnf));first|exact pS|exact pL|exact pE))|(refine zW ?_ ?_;exact gA)|refine zH rfl ?_|refine zA ?_|refine zI bA ?_|refine zI rfl ?_|refine zJ rfl rfl ?_|refine zB ?_|refine zK rfl ?_|refine zL rfl ?_|refine zC ?_|(refine zO ?_ ?_ ?_;omega;omega)|(refine zP ?_ ?_ ?_;omega;omega)|refine zM rfl ?_|(refine zQ ?_ ?_ ?_;omega;omega)|(refine zR ?_ ?_;omega)|(refine zI ?_ ?_;exact nA)|(refine zS ?_ ?_ ?_;omega;omega)|(refine zT ?_ ?_ ?_;omega;omega)|(refine zU ?_ ?_ ?_;omega;omega)|(refine zV ?_ ?_ ?_;omega;omega)|refine pC (constantsp_c _) wR ?_|refine pC (constantsp_c _) cA ?_|refine zN rfl rfl rfl ?_|refine zD ?_|refine zE ?_|refine zF ?_|intro _|refine zG ?_);conv=>whnf)|(refine zX (fun hc => ?_) (fun hc => ?_)<;>(try simp only [SY] at hc)<;>first|omega|(conv=>whnf)))
            · have hn := hc
              rw [Option.isSome_eq_false_iff, Option.isNone_iff_eq_none] at hn
              exact PRet.pure (Wk.int (by rw [ht, hn]; rfl))
            · obtain ⟨⟨s6, b6⟩, e6⟩ := Option.isSome_iff_exists.mp hc
              obtain ⟨rfl, rfl, rfl⟩ := hs5 s6 b6 e6
              have hbd6 := Trm.ckP_bd _ _ _ _ _ _ _ _ _ _ _ e6
              rw [e6] at ht
              exact loopTo (i + 1, sz5, b6, pb5) ⟨by show i + 1 ≤ _; omega, by show (0 : Int) ≤ sz5; omega, hbd6.2.1, ht⟩ (by show m.codes.length - (i + 1) < m.codes.length - i; omega) wA
          · have hb1 : (bindR m.codes[i].v bd).1 = false := by simpa using hg
            rw [if_neg (by rw [hb1]; simp)] at ht
            conv => whnf
            repeat' (first|((first|((first|(apply zY;intro hg)|apply zZ);first|exact stA|((conv=>whnf);(repeat ((first|(refine zW ?_ ?_;exact gA)|refine pC (constantsp_c _) wR ?_|refine pC (constantsp_c _) cA ?_|intro _);conv=>whnf));first|exact pS|exact pL|exact pE))|(refine zW ?_ ?_;exact gA)|refine zH rfl ?_|refine zA ?_|refine zI bA ?_|refine zI rfl ?_|refine zJ rfl rfl ?_|refine zB ?_|refine zK rfl ?_|refine zL rfl ?_|refine zC ?_|(refine zO ?_ ?_ ?_;omega;omega)|(refine zP ?_ ?_ ?_;omega;omega)|refine zM rfl ?_|(refine zQ ?_ ?_ ?_;omega;omega)|(refine zR ?_ ?_;omega)|(refine zI ?_ ?_;exact nA)|(refine zS ?_ ?_ ?_;omega;omega)|(refine zT ?_ ?_ ?_;omega;omega)|(refine zU ?_ ?_ ?_;omega;omega)|(refine zV ?_ ?_ ?_;omega;omega)|refine pC (constantsp_c _) wR ?_|refine pC (constantsp_c _) cA ?_|refine zN rfl rfl rfl ?_|refine zD ?_|refine zE ?_|refine zF ?_|intro _|refine zG ?_);conv=>whnf)|(refine zX (fun hc => ?_) (fun hc => ?_)<;>(try simp only [SY] at hc)<;>first|omega|(conv=>whnf)))
            exact PRet.pure (Wk.int (by rw [ht]; rfl))
        · have hr1 : m.codes[i].rest = true ∧ m.codes[i].v = [] := by
            simp at hg
            exact ⟨hg.1, hg.2⟩
          rw [if_pos hr1] at ht
          conv => whnf
          repeat' (first|((first|((first|(apply zY;intro hg)|apply zZ);first|exact stA|((conv=>whnf);(repeat ((first|(refine zW ?_ ?_;exact gA)|refine pC (constantsp_c _) wR ?_|refine pC (constantsp_c _) cA ?_|intro _);conv=>whnf));first|exact pS|exact pL|exact pE))|(refine zW ?_ ?_;exact gA)|refine zH rfl ?_|refine zA ?_|refine zI bA ?_|refine zI rfl ?_|refine zJ rfl rfl ?_|refine zB ?_|refine zK rfl ?_|refine zL rfl ?_|refine zC ?_|(refine zO ?_ ?_ ?_;omega;omega)|(refine zP ?_ ?_ ?_;omega;omega)|refine zM rfl ?_|(refine zQ ?_ ?_ ?_;omega;omega)|(refine zR ?_ ?_;omega)|(refine zI ?_ ?_;exact nA)|(refine zS ?_ ?_ ?_;omega;omega)|(refine zT ?_ ?_ ?_;omega;omega)|(refine zU ?_ ?_ ?_;omega;omega)|(refine zV ?_ ?_ ?_;omega;omega)|refine pC (constantsp_c _) wR ?_|refine pC (constantsp_c _) cA ?_|refine zN rfl rfl rfl ?_|refine zD ?_|refine zE ?_|refine zF ?_|intro _|refine zG ?_);conv=>whnf)|(refine zX (fun hc => ?_) (fun hc => ?_)<;>(try simp only [SY] at hc)<;>first|omega|(conv=>whnf)))
          exact PRet.pure (Wk.int (by rw [ht]; rfl))
      · rw [List.drop_of_length_le (by omega), modP] at ht
        exact PRet.pure (Wk.int (by rw [ht]; rfl))
end Go.Cb
namespace Go.Cb
open Go.Proofs
set_option maxRecDepth 100000
set_option maxHeartbeats 4000000
theorem Shift.ofGhost {x : PV} {Γ Γ' : List Ent} (g : Ghost Γ Γ') : Shift x Γ x Γ' := fun w0 F M w v hS hx => by
  obtain ⟨F', e, h⟩ := g w0 F M w hS
  exact ⟨F', e, h, Rep.mono e _ _ hx⟩
theorem Ghost.nilRowC (Γ : List Ent) : Ghost Γ (.row (nilTok 6 62) (([] : List Cod).map Cod.pv) :: Γ) := Ghost.nilRow _ _ _
theorem root13_c (b r : Nat) (t : Trm) (h : ClOk b r t) (hb : t.bulk ≤ 1000000000) : ACall Tryz.prog 66 [.ptr b 0, .agg t.cells, slI []] (mkrG b r (nilTok 6 62) [] (fun _ => none))
    (fun y Γ' => ∃ tk, y = .agg (t.clo false [] 0 (fun _ => none)).t.cells ∧ Γ' = [.box b [.sl 6 ((t.clo false [] 0 (fun _ => none)).c.map Cod.pv) none, .mp r], .tok tk, .mp r (.int .i64) (mapM Kn.pa (t.clo false [] 0 (fun _ => none)).fm) []]) :=
  (h (nilTok 6 62) [] (fun _ => none) [] rfl rfl (by simp; omega) (by simp)).shift fun y Γ' hq => by
    obtain ⟨tk', e, s, hy, hΓ⟩ := hq
    simp only [List.nil_append, List.length_nil] at hy hΓ
    subst hy hΓ
    exact ⟨_, _, Shift.ofGhost (Ghost.freezeRow (t := tk') (es := (t.clo false [] 0 (fun _ => none)).c.map Cod.pv) (b := b) (cs := [.ms tk', .mp r]) (cs' := [.sl 6 ((t.clo false [] 0 (fun _ => none)).c.map Cod.pv) none, .mp r]) (.cons (WkF.ms' s) (.cons (WkF.of (Wk.refl _)) .nil))), tk', rfl, rfl⟩
theorem RightP.shC {p : Prog} (h : RightP p 2) : p.body.shI ∧ p.body.shD := ⟨p.body.okT_shI (by decide) h.2.2.1, p.body.okT_shD h.2.2.1 h.2.2.2.2.2⟩
theorem conM_bulk {p : Prog} (h : RightP p 2) (hb : p.body.bulk ≤ 1048576) : (conM p).body.bulk + codsBulk (conM p).codes ≤ 1000000000 := by
  have h1 := (p.body.clo_bks false 20000 (by omega)).1 h.2.2.2.1 [] 0 (fun _ => none)
  have h2 := h.2.2.2.1
  show (p.body.clo false [] 0 (fun _ => none)).t.bulk + codsBulk (p.body.clo false [] 0 (fun _ => none)).c ≤ _
  omega
theorem noM_wk : Wk (.agg [.nil, .nil, .int .i64 0, .int .i64 0, .nil, .nil]) (.agg noM.cells) := Wk.agg (.cons (Wk.nil' rfl) (.cons (Wk.nil' rfl) (.cons (Wk.refl _) (.cons (Wk.refl _) (.cons (Wk.nil' rfl) (.cons (Wk.nil' rfl) .nil))))))
theorem conv13_c (p : Prog) (hb : p.body.bulk ≤ 1048576) (hl : p.consts.length ≤ 1000000000) :
    ACallP Tryz.prog 41 [.agg p.cells] (.tup [.agg (conv13 p).1.cells, .int .i64 (conv13 p).2]) := by
  have hen := check_eq p 2
  have hR : checkP p 2 = 0 → RightP p 2 := fun h => (checkD_right p 2).1 (by rw [← hen]; exact h)
  have hcl := cloneDat_c p.consts hl
  refine ACall.of_body tt_ok Tryz.func41 rfl rfl (n := 32) rfl rfl ?_
  conv => whnf
  repeat ((first|((first|(apply zY;intro hg)|apply zZ);first|exact stA|exact stB|((conv=>whnf);(repeat ((first|(refine zW ?_ ?_;exact gA)|refine pC (checkp_c p 2 (by omega) (by omega)) wR ?_|refine pC (hcl) wR ?_|refine zA ?_|refine zH rfl ?_|refine zB ?_|(refine yE ?_ ?_ ?_ ?_;assumption;omega;omega)|(refine yF ?_ rfl ?_;omega)|(apply yH;assumption)|(refine yI ?_ ?_;assumption)|intro _);conv=>whnf));first|exact pS|exact pL|exact pE))|(refine zW ?_ ?_;exact gA)|refine zH rfl ?_|refine zA ?_|refine zI bA ?_|refine zI rfl ?_|refine zJ rfl rfl ?_|refine zB ?_|refine zK rfl ?_|refine zL rfl ?_|refine zC ?_|(refine zO ?_ ?_ ?_;omega;omega)|(refine zP ?_ ?_ ?_;omega;omega)|refine zM rfl ?_|(refine zQ ?_ ?_ ?_;omega;omega)|(refine zR ?_ ?_;omega)|(refine zI ?_ ?_;exact nA)|(refine zS ?_ ?_ ?_;omega;omega)|(refine zT ?_ ?_ ?_;omega;omega)|(refine zU ?_ ?_ ?_;omega;omega)|(refine zV ?_ ?_ ?_;omega;omega)|refine pC (checkp_c p 2 (by omega) (by omega)) wR ?_|refine pC (hcl) wR ?_|(refine yA ?_ rfl ?_ ?_;assumption;exact lA)|(refine yB ?_ rfl ?_ ?_;assumption;exact lA)|(refine yC rfl ?_ ?_;exact lA)|(refine yD ?_ ?_ rfl ?_ ?_;assumption;assumption;exact lA)|(refine yE ?_ ?_ ?_ ?_;assumption;omega;omega)|(refine yF ?_ rfl ?_;omega)|(apply yH;assumption)|(refine yI ?_ ?_;assumption)|(refine yG ?_ rfl rfl rfl ?_;omega)|refine n0 ?_|refine zN rfl rfl rfl ?_|refine zD ?_|refine zE ?_|refine zF ?_|intro _);conv=>whnf)
  rename_i b1 b2
  refine zX (fun hc => ?_) (fun hc => ?_) <;> (try simp only [SY] at hc)
  · conv => whnf
    repeat ((first|((first|(apply zY;intro hg)|apply zZ);first|exact stA|exact stB|((conv=>whnf);(repeat ((first|(refine zW ?_ ?_;exact gA)|refine pC (checkp_c p 2 (by omega) (by omega)) wR ?_|refine pC (hcl) wR ?_|refine zA ?_|refine zH rfl ?_|refine zB ?_|(refine yE ?_ ?_ ?_ ?_;assumption;omega;omega)|(refine yF ?_ rfl ?_;omega)|(apply yH;assumption)|(refine yI ?_ ?_;assumption)|intro _);conv=>whnf));first|exact pS|exact pL|exact pE))|(refine zW ?_ ?_;exact gA)|refine zH rfl ?_|refine zA ?_|refine zI bA ?_|refine zI rfl ?_|refine zJ rfl rfl ?_|refine zB ?_|refine zK rfl ?_|refine zL rfl ?_|refine zC ?_|(refine zO ?_ ?_ ?_;omega;omega)|(refine zP ?_ ?_ ?_;omega;omega)|refine zM rfl ?_|(refine zQ ?_ ?_ ?_;omega;omega)|(refine zR ?_ ?_;omega)|(refine zI ?_ ?_;exact nA)|(refine zS ?_ ?_ ?_;omega;omega)|(refine zT ?_ ?_ ?_;omega;omega)|(refine zU ?_ ?_ ?_;omega;omega)|(refine zV ?_ ?_ ?_;omega;omega)|refine pC (checkp_c p 2 (by omega) (by omega)) wR ?_|refine pC (hcl) wR ?_|(refine yA ?_ rfl ?_ ?_;assumption;exact lA)|(refine yB ?_ rfl ?_ ?_;assumption;exact lA)|(refine yC rfl ?_ ?_;exact lA)|(refine yD ?_ ?_ rfl ?_ ?_;assumption;assumption;exact lA)|(refine yE ?_ ?_ ?_ ?_;assumption;omega;omega)|(refine yF ?_ rfl ?_;omega)|(apply yH;assumption)|(refine yI ?_ ?_;assumption)|(refine yG ?_ rfl rfl rfl ?_;omega)|refine n0 ?_|refine zN rfl rfl rfl ?_|refine zD ?_|refine zE ?_|refine zF ?_|intro _);conv=>whnf)
    have hcn : conv13 p = (noM, 5) := by rw [conv13, if_neg hc]
    rw [hcn]
    exact PRet.pure (Wk.tup (.cons noM_wk (.cons (Wk.refl _) .nil)))
  have hr := hR hc
  have hcb := conM_bulk hr hb
  have hcn : conv13 p = if mckP (conM p) = 0 then (conM p, 0) else (noM, 5) := by rw [conv13, if_pos hc]
  rw [hcn]
  conv => whnf
  repeat ((first|((first|(apply zY;intro hg)|apply zZ);first|exact stA|exact stB|((conv=>whnf);(repeat ((first|(refine zW ?_ ?_;exact gA)|refine pC (checkp_c p 2 (by omega) (by omega)) wR ?_|refine pC (hcl) wR ?_|refine zA ?_|refine zH rfl ?_|refine zB ?_|(refine yE ?_ ?_ ?_ ?_;assumption;omega;omega)|(refine yF ?_ rfl ?_;omega)|(apply yH;assumption)|(refine yI ?_ ?_;assumption)|intro _);conv=>whnf));first|exact pS|exact pL|exact pE))|(refine zW ?_ ?_;exact gA)|refine zH rfl ?_|refine zA ?_|refine zI bA ?_|refine zI rfl ?_|refine zJ rfl rfl ?_|refine zB ?_|refine zK rfl ?_|refine zL rfl ?_|refine zC ?_|(refine zO ?_ ?_ ?_;omega;omega)|(refine zP ?_ ?_ ?_;omega;omega)|refine zM rfl ?_|(refine zQ ?_ ?_ ?_;omega;omega)|(refine zR ?_ ?_;omega)|(refine zI ?_ ?_;exact nA)|(refine zS ?_ ?_ ?_;omega;omega)|(refine zT ?_ ?_ ?_;omega;omega)|(refine zU ?_ ?_ ?_;omega;omega)|(refine zV ?_ ?_ ?_;omega;omega)|refine pC (checkp_c p 2 (by omega) (by omega)) wR ?_|refine pC (hcl) wR ?_|(refine yA ?_ rfl ?_ ?_;assumption;exact lA)|(refine yB ?_ rfl ?_ ?_;assumption;exact lA)|(refine yC rfl ?_ ?_;exact lA)|(refine yD ?_ ?_ rfl ?_ ?_;assumption;assumption;exact lA)|(refine yE ?_ ?_ ?_ ?_;assumption;omega;omega)|(refine yF ?_ rfl ?_;omega)|(apply yH;assumption)|(refine yI ?_ ?_;assumption)|(refine yG ?_ rfl rfl rfl ?_;omega)|refine n0 ?_|refine zN rfl rfl rfl ?_|refine zD ?_|refine zE ?_|refine zF ?_|intro _);conv=>whnf)
  rename_i r b3
  rw [mapK_nil]
  refine PCall.goG (Ghost.trans (Ghost.nilRowC _) (Ghost.box (b := b3) (cs := [.nil, .mp r]) (cs' := [.ms (nilTok 6 62), .mp r]) (.cons (Wk.nilRow 6 62) (.cons (Wk.refl _) .nil)))) (root13_c b3 r p.body (clOk b3 r p.body hr.shC.1 hr.shC.2) (by omega)) (.cons (Wk.refl _) (.cons (Wk.refl _) (.cons (Wk.nil' rfl) .nil))) ?_
  rintro _ _ ⟨tk, rfl, rfl⟩
  have hck := checkModuleP_c (conM p) hcb hl (by
    have := (p.body.clo_lens false).1 [] 0 (fun _ => none)
    show (p.body.clo false [] 0 (fun _ => none)).c.length ≤ _
    omega)
  have hcm : conM p = ⟨p.consts, (p.body.clo false [] 0 (fun _ => none)).c, (p.body.clo false [] 0 (fun _ => none)).t⟩ := rfl
  rw [hcm] at hck ⊢
  generalize p.body.clo false [] 0 (fun _ => none) = a at *
  conv => whnf
  repeat' (first|((first|((first|(apply zY;intro hg)|apply zZ);first|exact stA|exact stB|((conv=>whnf);(repeat ((first|(refine zW ?_ ?_;exact gA)|refine pC (hcl) wR ?_|refine pC (hck) wR ?_|refine zA ?_|refine zH rfl ?_|refine zB ?_|(refine yE ?_ ?_ ?_ ?_;assumption;omega;omega)|(refine yF ?_ rfl ?_;omega)|(apply yH;assumption)|(refine yI ?_ ?_;assumption)|intro _);conv=>whnf));first|exact pS|exact pL|exact pE))|(refine zW ?_ ?_;exact gA)|refine zH rfl ?_|refine zA ?_|refine zI bA ?_|refine zI rfl ?_|refine zJ rfl rfl ?_|refine zB ?_|refine zK rfl ?_|refine zL rfl ?_|refine zC ?_|(refine zO ?_ ?_ ?_;omega;omega)|(refine zP ?_ ?_ ?_;omega;omega)|refine zM rfl ?_|(refine zQ ?_ ?_ ?_;omega;omega)|(refine zR ?_ ?_;omega)|(refine zI ?_ ?_;exact nA)|(refine zS ?_ ?_ ?_;omega;omega)|(refine zT ?_ ?_ ?_;omega;omega)|(refine zU ?_ ?_ ?_;omega;omega)|(refine zV ?_ ?_ ?_;omega;omega)|refine pC (hcl) wR ?_|refine pC (hck) wR ?_|(refine yA ?_ rfl ?_ ?_;assumption;exact lA)|(refine yB ?_ rfl ?_ ?_;assumption;exact lA)|(refine yC rfl ?_ ?_;exact lA)|(refine yD ?_ ?_ rfl ?_ ?_;assumption;assumption;exact lA)|(refine yE ?_ ?_ ?_ ?_;assumption;omega;omega)|(refine yF ?_ rfl ?_;omega)|(apply yH;assumption)|(refine yI ?_ ?_;assumption)|(refine yG ?_ rfl rfl rfl ?_;omega)|refine n0 ?_|refine zN rfl rfl rfl ?_|refine zD ?_|refine zE ?_|refine zF ?_|refine PDraw.sP (some 18) rfl [9] [10] tt_ok mixed ?_|intro _|refine zG ?_);conv=>whnf)|(refine zX (fun hc => ?_) (fun hc => ?_)<;>(try simp only [SY] at hc)<;>first|omega|(conv=>whnf)))
  · rw [if_neg hc]
    exact PRet.pure (Wk.tup (.cons noM_wk (.cons (Wk.refl _) .nil)))
  · rw [if_pos hc]
    exact PRet.pure (y := .tup [.agg (⟨p.consts, a.c, a.t⟩ : Mdl).cells, .int .i64 0]) (Wk.refl _)
end Go.Cb
namespace Go.Cb
open Go.Proofs
set_option maxRecDepth 100000
set_option maxHeartbeats 4000000
mutual
def Trm.ct (o : Int) : Trm → Nat
  | .mk op _ _ t => (if op = o then 1 else 0) + Trm.cts o t
def Trm.cts (o : Int) : List Trm → Nat
  | [] => 0
  | x :: xs => Trm.ct o x + Trm.cts o xs
end
theorem Trm.ct_eq (o : Int) (t : Trm) : t.ct o = (if t.op = o then 1 else 0) + Trm.cts o t.t := by cases t; rw [Trm.ct]; rfl
theorem Trm.ct_mk (o op n : Int) (v : List Int) (l : List Trm) : (Trm.mk op n v l).ct o = (if op = o then 1 else 0) + Trm.cts o l := by rw [Trm.ct]
theorem Trm.cts_append (o : Int) : ∀ l m : List Trm, Trm.cts o (l ++ m) = Trm.cts o l + Trm.cts o m
  | [], m => by simp [Trm.cts]
  | x :: l, m => by rw [List.cons_append, Trm.cts, Trm.cts, Trm.cts_append o l m]; omega
theorem Trm.ct_bulk (o : Int) (t : Trm) : t.ct o ≤ t.bulk := by
  induction t using Trm.ind with
  | h t ih =>
    have key : ∀ l : List Trm, (∀ y ∈ l, y.ct o ≤ y.bulk) → Trm.cts o l ≤ Trm.bulks l := by
      intro l
      induction l with
      | nil => intro _; simp [Trm.cts]
      | cons x l ihl =>
        intro h
        rw [Trm.cts, Trm.bulks]
        have := h x (by simp)
        have := ihl fun y hy => h y (by simp [hy])
        omega
    rw [Trm.ct_eq, t.bulk_eq]
    have := key t.t ih
    split <;> omega
def cctS (o : Int) : List Cod → Nat
  | [] => 0
  | x :: l => x.body.ct o + cctS o l
theorem cctS_append (o : Int) : ∀ l m : List Cod, cctS o (l ++ m) = cctS o l + cctS o m
  | [], m => by simp [cctS]
  | x :: l, m => by rw [List.cons_append, cctS, cctS, cctS_append o l m]; omega
mutual
def Trm.opn : Trm → Nat
  | .mk op n v t => (if op = 4 ∧ (riseL (freeOf (Trm.all (.mk op n v t)))).length > 0 then 1 else 0) + Trm.opns t
def Trm.opns : List Trm → Nat
  | [] => 0
  | x :: xs => Trm.opn x + Trm.opns xs
end
theorem Trm.opn_eq (t : Trm) : t.opn = (if t.op = 4 ∧ (riseL (freeOf t.all)).length > 0 then 1 else 0) + Trm.opns t.t := by cases t; rw [Trm.opn]; rfl
mutual
def Trm.shR : Trm → Prop
  | .mk op _ _ t => ((op = 1 → t = []) ∧ op ≠ 19) ∧ Trm.shRs t
def Trm.shRs : List Trm → Prop
  | [] => True
  | x :: xs => Trm.shR x ∧ Trm.shRs xs
end
theorem Trm.shR_eq (t : Trm) : t.shR ↔ ((t.op = 1 → t.t = []) ∧ t.op ≠ 19) ∧ Trm.shRs t.t := by cases t; rw [Trm.shR]; rfl
theorem Trm.okT_shR {c codes : Int} {free : Bool} (t : Trm) : ∀ {scope : List Int} {deep : Int}, t.okT 2 c codes free scope deep → t.shR := by
  induction t using Trm.ind with
  | h t ih =>
    intro scope deep h
    rw [Trm.okT_eq] at h
    rw [Trm.shR_eq]
    have key : ∀ (op : Int) (sc inner : List Int) (deep : Int) (l : List Trm), (∀ y ∈ l, ∀ {scope : List Int} {deep : Int}, y.okT 2 c codes free scope deep → y.shR) → Trm.okTs 2 c codes free op sc inner l deep → Trm.shRs l := by
      intro op sc inner deep l
      induction l with
      | nil => intro _ _; rw [Trm.shRs]; trivial
      | cons x l ihl =>
        intro hy hk
        rw [Trm.okTs] at hk
        rw [Trm.shRs]
        exact ⟨hy x (by simp) hk.2.1, ihl (fun z hz => hy z (by simp [hz])) hk.2.2⟩
    have hts := h.2
    obtain ⟨⟨_, h2, h3, _⟩, _⟩ := h
    refine ⟨⟨fun e => ?_, fun e => ?_⟩, key _ _ _ _ _ ih hts⟩
    · unfold countsL at h3
      split at h3
      · cases h3
      · rw [if_pos (by omega)] at h3
        exact List.eq_nil_of_length_eq_zero (by simpa using h3)
    · rw [e] at h2
      revert h2
      decide
theorem refF_ct (o : Int) (h1 : o = 4 ∨ o = 19) (fm : Fm) (ov : List Int) (v : Int) : (refF fm ov v).ct o = 0 := by
  unfold refF
  split
  · rw [Trm.ct_mk, Trm.cts, if_neg (by omega)]
  · split
    · rw [Trm.ct_mk, Trm.cts, if_neg (by omega)]
    · rw [Trm.ct_mk, Trm.cts, if_neg (by omega)]
theorem refs_ct (o : Int) (h1 : o = 4 ∨ o = 19) (fm : Fm) (ov l : List Int) : Trm.cts o (l.map (refF fm ov)) = 0 := by
  induction l with
  | nil => rfl
  | cons x l ih => rw [List.map_cons, Trm.cts, refF_ct o h1, ih]
theorem cloT_ct (n : Int) (l : List Trm) (h : Trm.cts 19 l = 0) : (cloT n l).ct 19 ≤ 1 ∧ (l = [] → (cloT n l).ct 19 = 0) := by
  unfold cloT
  split
  · rw [Trm.ct_mk, Trm.cts]; exact ⟨by simp, fun _ => by simp⟩
  · rename_i hl
    rw [Trm.ct_mk, h]; exact ⟨by simp, fun e => by rw [e] at hl; simp at hl⟩
theorem over_none {t : Trm} (h4 : t.op = 4) (h : t.opn = 0) (fm : Fm) : overF fm t = [] := by
  rw [Trm.opn_eq] at h
  have : (riseL (freeOf t.all)).length = 0 := by
    by_cases hl : (riseL (freeOf t.all)).length > 0
    · rw [if_pos ⟨h4, hl⟩] at h; omega
    · omega
  rw [overF, List.eq_nil_of_length_eq_zero this]
  rfl
def NnOk (t : Trm) : Prop := ∀ ov n fm, (t.clo false ov n fm).c.length = t.ct 4 ∧ (t.clo false ov n fm).t.ct 19 + cctS 19 (t.clo false ov n fm).c ≤ t.ct 4 ∧ (t.opn = 0 → (t.clo false ov n fm).t.ct 19 + cctS 19 (t.clo false ov n fm).c = 0)
def NnB (t : Trm) : Prop := t.op = 4 → ∀ ov n fm, (t.cloB false ov n fm).c.length + 1 = t.ct 4 ∧ (t.cloB false ov n fm).t.ct 19 + cctS 19 (t.cloB false ov n fm).c + 1 ≤ t.ct 4 ∧ (t.opn = 0 → (t.cloB false ov n fm).t.ct 19 + cctS 19 (t.cloB false ov n fm).c = 0)
theorem Trm.clos_nn : ∀ l : List Trm, (∀ y ∈ l, NnOk y) → ∀ ov n fm, (Trm.clos false l ov n fm).c.length = Trm.cts 4 l ∧ Trm.cts 19 (Trm.clos false l ov n fm).t + cctS 19 (Trm.clos false l ov n fm).c ≤ Trm.cts 4 l ∧ (Trm.opns l = 0 → Trm.cts 19 (Trm.clos false l ov n fm).t + cctS 19 (Trm.clos false l ov n fm).c = 0)
  | [], _, ov, n, fm => by rw [Trm.clos]; simp [Trm.cts, cctS]
  | y :: l, h, ov, n, fm => by
    rw [Trm.clos, Trm.cts, Trm.opns]
    obtain ⟨a1, a2, a3⟩ := h y (by simp) ov n fm
    obtain ⟨b1, b2, b3⟩ := Trm.clos_nn l (fun z hz => h z (by simp [hz])) ov (n + (y.clo false ov n fm).c.length) (y.clo false ov n fm).fm
    dsimp only
    rw [List.length_append, Trm.cts, cctS_append]
    refine ⟨by omega, by omega, fun h0 => ?_⟩
    have := a3 (by omega)
    have := b3 (by omega)
    omega
theorem Trm.cloL_nn : ∀ l : List Trm, (∀ y ∈ l, NnOk y) → ∀ vs, l.length = vs.length + 1 → ∀ ov n fm lrn, (Trm.cloL false l vs ov n fm lrn).c.length = Trm.cts 4 l ∧ Trm.cts 19 (Trm.cloL false l vs ov n fm lrn).t + (Trm.cloL false l vs ov n fm lrn).last.ct 19 + cctS 19 (Trm.cloL false l vs ov n fm lrn).c ≤ Trm.cts 4 l ∧ (Trm.opns l = 0 → Trm.cts 19 (Trm.cloL false l vs ov n fm lrn).t + (Trm.cloL false l vs ov n fm lrn).last.ct 19 + cctS 19 (Trm.cloL false l vs ov n fm lrn).c = 0)
  | [], _, vs, hv, ov, n, fm, lrn => by simp at hv
  | y :: l, h, [], hv, ov, n, fm, lrn => by
    obtain rfl : l = [] := List.eq_nil_of_length_eq_zero (by simpa using hv)
    rw [Trm.cloL, Trm.cts, Trm.opns, Trm.cts, Trm.opns]
    obtain ⟨a1, a2, a3⟩ := h y (by simp) ov n (learnF false lrn fm)
    dsimp only
    rw [Trm.cts]
    refine ⟨by omega, by omega, fun h0 => ?_⟩
    have := a3 (by omega)
    omega
  | y :: l, h, v :: vs, hv, ov, n, fm, lrn => by
    rw [Trm.cloL, Trm.cts, Trm.opns]
    obtain ⟨a1, a2, a3⟩ := h y (by simp) ov n fm
    obtain ⟨b1, b2, b3⟩ := Trm.cloL_nn l (fun z hz => h z (by simp [hz])) vs (by simpa using hv) ov (n + (y.clo false ov n fm).c.length) (y.clo false ov n fm).fm (if y.op = 4 then lrn ++ [(v, ⟨n, (y.clo false ov n fm).t.op == 21⟩)] else lrn)
    dsimp only
    rw [List.length_append, cctS_append]
    generalize (if y.op = 4 then lrn ++ [(v, (⟨n, (y.clo false ov n fm).t.op == 21⟩ : Kn))] else lrn) = lrn2 at *
    split
    · refine ⟨by omega, by omega, fun h0 => ?_⟩
      have := a3 (by omega)
      have := b3 (by omega)
      omega
    · rw [Trm.cts]
      refine ⟨by omega, by omega, fun h0 => ?_⟩
      have := a3 (by omega)
      have := b3 (by omega)
      omega
theorem Trm.cloF_nn : ∀ l : List Trm, (∀ y ∈ l, NnOk y) → (∀ y ∈ l, NnB y) → ∀ vs, l.length = vs.length + 1 → (∀ y ∈ l.dropLast, y.op = 4) → ∀ ov c n fm, (Trm.cloF false l vs ov c n fm).own.length + (Trm.cloF false l vs ov c n fm).c.length = Trm.cts 4 l ∧ Trm.cts 19 (Trm.cloF false l vs ov c n fm).t + (Trm.cloF false l vs ov c n fm).last.ct 19 + cctS 19 (Trm.cloF false l vs ov c n fm).own + cctS 19 (Trm.cloF false l vs ov c n fm).c ≤ Trm.cts 4 l ∧ (Trm.opns l = 0 → (Trm.cloF false l vs ov c n fm).last.ct 19 + cctS 19 (Trm.cloF false l vs ov c n fm).own + cctS 19 (Trm.cloF false l vs ov c n fm).c = 0)
  | [], _, _, vs, hv, _, ov, c, n, fm => by simp at hv
  | y :: l, h, _, [], hv, _, ov, c, n, fm => by
    obtain rfl : l = [] := List.eq_nil_of_length_eq_zero (by simpa using hv)
    rw [Trm.cloF, Trm.cts, Trm.opns, Trm.cts, Trm.opns]
    obtain ⟨a1, a2, a3⟩ := h y (by simp) ov n fm
    dsimp only
    rw [Trm.cts, cctS]
    refine ⟨by simp; omega, by omega, fun h0 => ?_⟩
    have := a3 (by omega)
    omega
  | y :: l, h, k, v :: vs, hv, h4, ov, c, n, fm => by
    have hl0 : l ≠ [] := by intro e; rw [e] at hv; simp at hv
    rw [List.dropLast_cons_of_ne_nil hl0] at h4
    have hy4 := h4 y (by simp)
    rw [Trm.cloF, Trm.cts, Trm.opns]
    obtain ⟨a1, a2, a3⟩ := k y (by simp) hy4 (overF fm y) n fm
    obtain ⟨b1, b2, b3⟩ := Trm.cloF_nn l (fun z hz => h z (by simp [hz])) (fun z hz => k z (by simp [hz])) vs (by simpa using hv) (fun z hz => h4 z (by simp [hz])) ov (c + 1) (n + (y.cloB false (overF fm y) n fm).c.length) (y.cloB false (overF fm y) n fm).fm
    dsimp only
    rw [List.length_append, cctS_append, Trm.cts, cctS, Trm.ct_mk, refs_ct 19 (by omega), if_pos rfl, List.length_cons]
    dsimp only
    refine ⟨by omega, by omega, fun h0 => ?_⟩
    have := a3 (by omega)
    have := b3 (by omega)
    omega
theorem Trm.opns_zero : ∀ {l : List Trm}, Trm.opns l = 0 → ∀ x ∈ l, x.opn = 0
  | [], _, x, hx => by cases hx
  | y :: l, h, x, hx => by
    rw [Trm.opns] at h
    rcases List.mem_cons.1 hx with rfl | hx
    · omega
    · exact Trm.opns_zero (by omega) x hx
theorem Trm.shRs_mem : ∀ {l : List Trm}, Trm.shRs l → ∀ x ∈ l, x.shR
  | [], _, x, hx => by cases hx
  | y :: l, h, x, hx => by
    rw [Trm.shRs] at h
    rcases List.mem_cons.1 hx with rfl | hx
    · exact h.1
    · exact Trm.shRs_mem h.2 x hx
theorem Trm.clo_nn (t : Trm) : t.shI → t.shR → NnOk t ∧ NnB t := by
  induction t using Trm.ind with
  | h t ih =>
    intro hI hR
    rw [Trm.shI_eq] at hI
    rw [Trm.shR_eq] at hR
    obtain ⟨⟨s1, s2, s3, s4⟩, s5⟩ := hI
    obtain ⟨⟨r1, r2⟩, r3⟩ := hR
    have hx : ∀ y ∈ t.t, NnOk y ∧ NnB y := fun y hy => ih y hy (Trm.shIs_mem s5 y hy) (Trm.shRs_mem r3 y hy)
    have hB : NnB t := by
      intro h4 ov n fm
      rw [Trm.cloB_eq, t.ct_eq, if_pos h4, t.opn_eq]
      obtain ⟨z, hz⟩ : ∃ z, t.t = [z] := by
        have := s2 h4
        cases ht : t.t with
        | nil => rw [ht] at this; simp at this
        | cons z zs =>
          cases zs with
          | nil => exact ⟨z, rfl⟩
          | cons y ys => rw [ht] at this; simp at this
      rw [hz, Trm.cloH, Trm.cts, Trm.cts, Trm.opns, Trm.opns]
      obtain ⟨a1, a2, a3⟩ := (hx z (by rw [hz]; simp)).1 ov n fm
      refine ⟨by omega, by omega, fun h0 => ?_⟩
      have := a3 (by omega)
      omega
    refine ⟨?_, hB⟩
    intro ov n fm
    rw [Trm.clo_eq]
    split
    · rename_i h1
      rw [t.ct_eq, r1 h1, if_neg (by omega)]
      dsimp only
      rw [refF_ct 19 (by omega), Trm.cts, cctS]
      simp
    split
    · rename_i h4
      obtain ⟨a1, a2, a3⟩ := hB h4 (overF fm t) (n + 1) fm
      dsimp only
      rw [if_neg (by simp), List.length_cons, cctS]
      obtain ⟨c1, c2⟩ := cloT_ct n ((overF fm t).map (refF (t.cloB false (overF fm t) (n + 1) fm).fm ov)) (refs_ct 19 (by omega) _ _ _)
      refine ⟨a1, by dsimp only; omega, fun h0 => ?_⟩
      have := a3 h0
      have := c2 (by rw [over_none h4 h0]; rfl)
      dsimp only
      omega
    split
    · rename_i h8
      obtain ⟨a1, a2, a3⟩ := Trm.cloL_nn t.t (fun y hy => (hx y hy).1) t.v (s3 (.inl h8)) ov n fm []
      have e1 : t.ct 4 = Trm.cts 4 t.t := by rw [Trm.ct_eq, if_neg (by omega), Nat.zero_add]
      have e2 : t.opn = Trm.opns t.t := by rw [Trm.opn_eq, if_neg (by omega), Nat.zero_add]
      rw [e1, e2]
      dsimp only
      split
      · refine ⟨by omega, by omega, fun h0 => ?_⟩
        have := a3 (by omega)
        omega
      · rw [Trm.ct_mk, Trm.cts_append, Trm.cts, Trm.cts, if_neg (by omega)]
        refine ⟨by omega, by omega, fun h0 => ?_⟩
        have := a3 (by omega)
        omega
    split
    · rename_i h9
      obtain ⟨a1, a2, a3⟩ := Trm.cloF_nn t.t (fun y hy => (hx y hy).1) (fun y hy => (hx y hy).2) t.v (s3 (.inr h9)) (s4 h9) ov n (n + t.v.length) (fixF false t.v n (fixS fm t.v t.t) fm)
      have e1 : t.ct 4 = Trm.cts 4 t.t := by rw [Trm.ct_eq, if_neg (by omega), Nat.zero_add]
      have e2 : t.opn = Trm.opns t.t := by rw [Trm.opn_eq, if_neg (by omega), Nat.zero_add]
      rw [e1, e2]
      dsimp only
      rw [List.length_append, cctS_append]
      split
      · refine ⟨by omega, by omega, fun h0 => ?_⟩
        have := a3 (by omega)
        omega
      · rename_i hns
        rw [Trm.ct_mk, Trm.cts_append, Trm.cts, Trm.cts, if_neg (by omega)]
        refine ⟨by omega, by omega, fun h0 => ?_⟩
        exfalso
        apply hns
        unfold fixS
        rw [List.all_eq_true]
        intro y hy
        have hlen := s3 (.inr h9)
        have hy4 : y.op = 4 := s4 h9 y (by rw [List.dropLast_eq_take, hlen]; exact hy)
        rw [over_none hy4 (Trm.opns_zero (by omega) y (List.mem_of_mem_take hy))]
        rfl
    · rename_i h1 h4 h8 h9
      obtain ⟨a1, a2, a3⟩ := Trm.clos_nn t.t (fun y hy => (hx y hy).1) ov n fm
      have hcf : ¬(callF fm t.op t.n t.t).1 = 19 := by
        unfold callF
        split
        · split
          · simp
          · exact r2
        · exact r2
      have e1 : t.ct 4 = Trm.cts 4 t.t := by rw [Trm.ct_eq, if_neg h4, Nat.zero_add]
      have e2 : t.opn = Trm.opns t.t := by rw [Trm.opn_eq, if_neg (by omega), Nat.zero_add]
      rw [e1, e2]
      dsimp only
      rw [Trm.ct_mk, if_neg hcf]
      refine ⟨by omega, by omega, fun h0 => ?_⟩
      have := a3 (by omega)
      omega
end Go.Cb
namespace Go.Cb
open Go.Proofs
set_option maxRecDepth 100000
set_option maxHeartbeats 4000000
end Go.Cb
namespace Go.Cb
open Go.Proofs
set_option maxRecDepth 100000
set_option maxHeartbeats 4000000
def thiP : Prog := ⟨[.mk 0 1 1 [] []], .mk 9 0 [0] [.mk 4 0 [1] [.mk 5 0 [] [.mk 1 0 [] [], .mk 1 1 [] []]], .mk 5 0 [] [.mk 1 0 [] [], .mk 0 0 [] []]]⟩
def thiM : Mdl := ⟨[.mk 0 1 1 [] []], [⟨[1], false, .mk 22 0 [] [.mk 21 0 [] [], .mk 1 1 [] []]⟩], .mk 22 0 [] [.mk 21 0 [] [], .mk 0 0 [] []]⟩
theorem thi_over (fm : Fm) : overF fm (.mk 4 0 [1] [.mk 5 0 [] [.mk 1 0 [] [], .mk 1 1 [] []]]) = if stF fm 0 = true then [] else [0] := by
  have h : freeOf (Trm.all (.mk 4 0 [1] [.mk 5 0 [] [.mk 1 0 [] [], .mk 1 1 [] []]])) = [0] := by decide +kernel
  rw [overF, h, rise_one]
  cases h2 : stF fm 0 <;> simp [h2]
theorem thi_con : conM thiP = thiM := by
  simp [conM, thiP, thiM, Trm.clo, Trm.cloF, Trm.cloB, Trm.cloH, Trm.clos, fixS, fixF, setF, thi_over, stF, refF, codeF, callF, idxL]
  exact ⟨⟨rfl, by decide, rfl, rfl⟩, rfl, rfl⟩
theorem thi_conv : conv13 thiP = (thiM, 0) := by
  rw [conv13, if_pos (by decide), thi_con, if_pos (by decide)]
theorem thi_c {c v t : PV} [h1 : SlOf Datum.pv 5 c [.mk 0 1 1 [] []]] [h2 : SlOf (PV.int .i64) 1 v [0]] [h3 : SlOf Trm.pv 4 t [.mk 4 0 [1] [.mk 5 0 [] [.mk 1 0 [] [], .mk 1 1 [] []]], .mk 5 0 [] [.mk 1 0 [] [], .mk 0 0 [] []]]] :
    ACallP Tryz.prog 41 [.agg [c, .int .i64 9, .int .i64 0, v, t]] (.tup [.agg thiM.cells, .int .i64 0]) := by
  have h := conv13_c thiP (by decide) (by decide)
  rw [thi_conv] at h
  exact ACall.wk h (.cons (Wk.agg (.cons h1.wk (.cons (Wk.refl _) (.cons (Wk.refl _) (.cons h2.wk (.cons h3.wk .nil)))))) .nil)
theorem awake13_c : ACallP Tryz.prog 39 [] (.bool true) := by
  refine ACall.of_body tt_ok Tryz.func39 rfl rfl (n := 58) rfl rfl ?_
  conv => whnf
  repeat' (first|((first|((first|(apply zY;intro hg)|apply zZ);first|exact stA|exact stB|((conv=>whnf);(repeat ((first|(refine zW ?_ ?_;exact gA)|refine pC (thi_c) wR ?_|intro _);conv=>whnf));first|exact pS|exact pL|exact pE))|(refine zW ?_ ?_;exact gA)|refine zH rfl ?_|refine zA ?_|refine zI bA ?_|refine zI rfl ?_|refine zJ rfl rfl ?_|refine zB ?_|refine zK rfl ?_|refine zL rfl ?_|refine zC ?_|(refine zO ?_ ?_ ?_;omega;omega)|(refine zP ?_ ?_ ?_;omega;omega)|refine zM rfl ?_|(refine zQ ?_ ?_ ?_;omega;omega)|(refine zR ?_ ?_;omega)|(refine zI ?_ ?_;exact nA)|(refine zS ?_ ?_ ?_;omega;omega)|(refine zT ?_ ?_ ?_;omega;omega)|(refine zU ?_ ?_ ?_;omega;omega)|(refine zV ?_ ?_ ?_;omega;omega)|refine pC (thi_c) wR ?_|(refine yA ?_ rfl ?_ ?_;assumption;exact lA)|(refine yB ?_ rfl ?_ ?_;assumption;exact lA)|(refine yC rfl ?_ ?_;exact lA)|refine n0 ?_|refine zN rfl rfl rfl ?_|refine zD ?_|refine zE ?_|refine zF ?_|intro _|refine zG ?_);conv=>whnf)|(refine zX (fun hc => ?_) (fun hc => ?_)<;>(try simp only [SY] at hc)<;>first|omega|(conv=>whnf)))
  exact PRet.pure (Wk.bool rfl)
theorem few13_c (p : Prog) (n : Int) (h0 : 0 ≤ n) (h1 : n ≤ 1000000000) : ACallP Tryz.prog 40 [.agg p.cells, .int .i64 n] (.bool (decide (0 ≤ p.body.few n) && decide (0 ≤ Datum.fews p.consts 2000))) := by
  refine ACall.of_body tt_ok Tryz.func40 rfl rfl (n := 14) rfl rfl ?_
  conv => whnf
  repeat' (first|((first|((first|(apply zY;intro hg)|apply zZ);first|exact stA|exact stB|((conv=>whnf);(repeat ((first|(refine zW ?_ ?_;exact gA)|refine pC (FewTrm_c p.body n h0 h1) wR ?_|refine pC (FewTrm_c p.body n h0 h1) cA ?_|refine pC (FewAll_c p.consts 2000 (by omega) (by omega)) wR ?_|intro _);conv=>whnf));first|exact pS|exact pL|exact pE))|(refine zW ?_ ?_;exact gA)|refine zH rfl ?_|refine zA ?_|refine zI bA ?_|refine zI rfl ?_|refine zJ rfl rfl ?_|refine zB ?_|refine zK rfl ?_|refine zL rfl ?_|refine zC ?_|(refine zO ?_ ?_ ?_;omega;omega)|(refine zP ?_ ?_ ?_;omega;omega)|refine zM rfl ?_|(refine zQ ?_ ?_ ?_;omega;omega)|(refine zR ?_ ?_;omega)|(refine zI ?_ ?_;exact nA)|(refine zS ?_ ?_ ?_;omega;omega)|(refine zT ?_ ?_ ?_;omega;omega)|(refine zU ?_ ?_ ?_;omega;omega)|(refine zV ?_ ?_ ?_;omega;omega)|refine pC (FewTrm_c p.body n h0 h1) wR ?_|refine pC (FewTrm_c p.body n h0 h1) cA ?_|refine pC (FewAll_c p.consts 2000 (by omega) (by omega)) wR ?_|(refine yA ?_ rfl ?_ ?_;assumption;exact lA)|(refine yB ?_ rfl ?_ ?_;assumption;exact lA)|(refine yC rfl ?_ ?_;exact lA)|refine n0 ?_|refine zN rfl rfl rfl ?_|refine zD ?_|refine zE ?_|refine zF ?_|intro _|refine zG ?_);conv=>whnf)|(refine zX (fun hc => ?_) (fun hc => ?_)<;>(try simp only [SY] at hc)<;>first|omega|(conv=>whnf)))
  exact PRet.pure (Wk.refl _)
theorem count13_c (o : Int) (t : Trm) : t.bulk ≤ 1000000000 → ACallP Tryz.prog 44 [.agg t.cells, .int .i64 o] (.int .i64 (t.ct o)) := by
  induction t using Trm.ind with
  | h t ih =>
    intro hb
    have hbe := t.bulk_eq
    have hbs := Trm.bulks_length t.t
    have hcb := t.ct_bulk o
    refine ACall.of_body tt_ok Tryz.func44 rfl rfl (n := 28) rfl rfl ?_
    conv => whnf
    repeat' (first|((first|((first|(apply zY;intro hg)|apply zZ);first|exact stA|exact stB|((conv=>whnf);(repeat ((first|(refine zW ?_ ?_;exact gA)|refine pC (FewTrm_c p.body n h0 h1) wR ?_|refine pC (FewTrm_c p.body n h0 h1) cA ?_|refine pC (FewAll_c p.consts 2000 (by omega) (by omega)) wR ?_|intro _);conv=>whnf));first|exact pS|exact pL|exact pE))|(refine zW ?_ ?_;exact gA)|refine zH rfl ?_|refine zA ?_|refine zI bA ?_|refine zI rfl ?_|refine zJ rfl rfl ?_|refine zB ?_|refine zK rfl ?_|refine zL rfl ?_|refine zC ?_|(refine zO ?_ ?_ ?_;omega;omega)|(refine zP ?_ ?_ ?_;omega;omega)|refine zM rfl ?_|(refine zQ ?_ ?_ ?_;omega;omega)|(refine zR ?_ ?_;omega)|(refine zI ?_ ?_;exact nA)|(refine zS ?_ ?_ ?_;omega;omega)|(refine zT ?_ ?_ ?_;omega;omega)|(refine zU ?_ ?_ ?_;omega;omega)|(refine zV ?_ ?_ ?_;omega;omega)|refine pC (FewTrm_c p.body n h0 h1) wR ?_|refine pC (FewTrm_c p.body n h0 h1) cA ?_|refine pC (FewAll_c p.consts 2000 (by omega) (by omega)) wR ?_|(refine yA ?_ rfl ?_ ?_;assumption;exact lA)|(refine yB ?_ rfl ?_ ?_;assumption;exact lA)|(refine yC rfl ?_ ?_;exact lA)|refine n0 ?_|refine zN rfl rfl rfl ?_|refine zD ?_|refine zE ?_|refine zF ?_|intro _|refine zG ?_);conv=>whnf)|(refine zX (fun hc => ?_) (fun hc => ?_)<;>(try simp only [SY] at hc)<;>first|omega|(conv=>whnf)))
    · have hst : 1 + Trm.cts o (t.t.drop 0) = t.ct o := by rw [List.drop_zero, Trm.ct_eq, if_pos hc]
      refine PLoop.keep [5, 6, 11, 12, 13, 14, 15, 16, 17, 18, 19, 20, 21, 22, 23, 24, 25, 26] (fun x : Nat × Nat => [(5, .int .i64 x.2), (6, .int .i64 x.1)]) (fun x => x.1 ≤ t.t.length ∧ x.2 + Trm.cts o (t.t.drop x.1) = t.ct o) (fun x => t.t.length - x.1) (0, 1) ⟨Nat.zero_le _, hst⟩ wA ?_
      rintro ⟨i, m⟩ ⟨hi, hm⟩
      dsimp only at hi hm ⊢
      conv => whnf
      repeat' (first|((first|((first|(apply zY;intro hg)|apply zZ);first|exact stA|exact stB|((conv=>whnf);(repeat ((first|(refine zW ?_ ?_;exact gA)|refine pC (FewTrm_c p.body n h0 h1) wR ?_|refine pC (FewTrm_c p.body n h0 h1) cA ?_|refine pC (FewAll_c p.consts 2000 (by omega) (by omega)) wR ?_|intro _);conv=>whnf));first|exact pS|exact pL|exact pE))|(refine zW ?_ ?_;exact gA)|refine zH rfl ?_|refine zA ?_|refine zI bA ?_|refine zI rfl ?_|refine zJ rfl rfl ?_|refine zB ?_|refine zK rfl ?_|refine zL rfl ?_|refine zC ?_|(refine zO ?_ ?_ ?_;omega;omega)|(refine zP ?_ ?_ ?_;omega;omega)|refine zM rfl ?_|(refine zQ ?_ ?_ ?_;omega;omega)|(refine zR ?_ ?_;omega)|(refine zI ?_ ?_;exact nA)|(refine zS ?_ ?_ ?_;omega;omega)|(refine zT ?_ ?_ ?_;omega;omega)|(refine zU ?_ ?_ ?_;omega;omega)|(refine zV ?_ ?_ ?_;omega;omega)|refine pC (FewTrm_c p.body n h0 h1) wR ?_|refine pC (FewTrm_c p.body n h0 h1) cA ?_|refine pC (FewAll_c p.consts 2000 (by omega) (by omega)) wR ?_|(refine yA ?_ rfl ?_ ?_;assumption;exact lA)|(refine yB ?_ rfl ?_ ?_;assumption;exact lA)|(refine yC rfl ?_ ?_;exact lA)|refine n0 ?_|refine zN rfl rfl rfl ?_|refine zD ?_|refine zE ?_|refine zF ?_|intro _|refine zG ?_);conv=>whnf)|(refine zX (fun hc => ?_) (fun hc => ?_)<;>(try simp only [SY] at hc)<;>first|omega|(conv=>whnf)))
      · have hlt : i < t.t.length := by omega
        have hy := ih _ (List.getElem_mem hlt) (by have := Trm.bulks_mem (List.getElem_mem hlt); omega)
        rw [drop_at hlt, Trm.cts] at hm
        refine PCall.pure hy (WkT.refl _) ?_
        conv => whnf
        repeat' (first|((first|((first|(apply zY;intro hg)|apply zZ);first|exact stA|exact stB|((conv=>whnf);(repeat ((first|(refine zW ?_ ?_;exact gA)|refine pC (FewTrm_c p.body n h0 h1) wR ?_|refine pC (FewTrm_c p.body n h0 h1) cA ?_|refine pC (FewAll_c p.consts 2000 (by omega) (by omega)) wR ?_|intro _);conv=>whnf));first|exact pS|exact pL|exact pE))|(refine zW ?_ ?_;exact gA)|refine zH rfl ?_|refine zA ?_|refine zI bA ?_|refine zI rfl ?_|refine zJ rfl rfl ?_|refine zB ?_|refine zK rfl ?_|refine zL rfl ?_|refine zC ?_|(refine zO ?_ ?_ ?_;omega;omega)|(refine zP ?_ ?_ ?_;omega;omega)|refine zM rfl ?_|(refine zQ ?_ ?_ ?_;omega;omega)|(refine zR ?_ ?_;omega)|(refine zI ?_ ?_;exact nA)|(refine zS ?_ ?_ ?_;omega;omega)|(refine zT ?_ ?_ ?_;omega;omega)|(refine zU ?_ ?_ ?_;omega;omega)|(refine zV ?_ ?_ ?_;omega;omega)|refine pC (FewTrm_c p.body n h0 h1) wR ?_|refine pC (FewTrm_c p.body n h0 h1) cA ?_|refine pC (FewAll_c p.consts 2000 (by omega) (by omega)) wR ?_|(refine yA ?_ rfl ?_ ?_;assumption;exact lA)|(refine yB ?_ rfl ?_ ?_;assumption;exact lA)|(refine yC rfl ?_ ?_;exact lA)|refine n0 ?_|refine zN rfl rfl rfl ?_|refine zD ?_|refine zE ?_|refine zF ?_|intro _|refine zG ?_);conv=>whnf)|(refine zX (fun hc => ?_) (fun hc => ?_)<;>(try simp only [SY] at hc)<;>first|omega|(conv=>whnf)))
        refine loopTo (i + 1, m + t.t[i].ct o) ⟨by show i + 1 ≤ _; omega, by dsimp only; omega⟩ (by show t.t.length - (i + 1) < t.t.length - i; omega) wA
      · rw [List.drop_of_length_le (by omega), Trm.cts] at hm
        exact PRet.pure (Wk.int (by omega))
    · have hst : 0 + Trm.cts o (t.t.drop 0) = t.ct o := by rw [List.drop_zero, Trm.ct_eq, if_neg hc]
      refine PLoop.keep [5, 6, 11, 12, 13, 14, 15, 16, 17, 18, 19, 20, 21, 22, 23, 24, 25, 26] (fun x : Nat × Nat => [(5, .int .i64 x.2), (6, .int .i64 x.1)]) (fun x => x.1 ≤ t.t.length ∧ x.2 + Trm.cts o (t.t.drop x.1) = t.ct o) (fun x => t.t.length - x.1) (0, 0) ⟨Nat.zero_le _, hst⟩ wA ?_
      rintro ⟨i, m⟩ ⟨hi, hm⟩
      dsimp only at hi hm ⊢
      conv => whnf
      repeat' (first|((first|((first|(apply zY;intro hg)|apply zZ);first|exact stA|exact stB|((conv=>whnf);(repeat ((first|(refine zW ?_ ?_;exact gA)|refine pC (FewTrm_c p.body n h0 h1) wR ?_|refine pC (FewTrm_c p.body n h0 h1) cA ?_|refine pC (FewAll_c p.consts 2000 (by omega) (by omega)) wR ?_|intro _);conv=>whnf));first|exact pS|exact pL|exact pE))|(refine zW ?_ ?_;exact gA)|refine zH rfl ?_|refine zA ?_|refine zI bA ?_|refine zI rfl ?_|refine zJ rfl rfl ?_|refine zB ?_|refine zK rfl ?_|refine zL rfl ?_|refine zC ?_|(refine zO ?_ ?_ ?_;omega;omega)|(refine zP ?_ ?_ ?_;omega;omega)|refine zM rfl ?_|(refine zQ ?_ ?_ ?_;omega;omega)|(refine zR ?_ ?_;omega)|(refine zI ?_ ?_;exact nA)|(refine zS ?_ ?_ ?_;omega;omega)|(refine zT ?_ ?_ ?_;omega;omega)|(refine zU ?_ ?_ ?_;omega;omega)|(refine zV ?_ ?_ ?_;omega;omega)|refine pC (FewTrm_c p.body n h0 h1) wR ?_|refine pC (FewTrm_c p.body n h0 h1) cA ?_|refine pC (FewAll_c p.consts 2000 (by omega) (by omega)) wR ?_|(refine yA ?_ rfl ?_ ?_;assumption;exact lA)|(refine yB ?_ rfl ?_ ?_;assumption;exact lA)|(refine yC rfl ?_ ?_;exact lA)|refine n0 ?_|refine zN rfl rfl rfl ?_|refine zD ?_|refine zE ?_|refine zF ?_|intro _|refine zG ?_);conv=>whnf)|(refine zX (fun hc => ?_) (fun hc => ?_)<;>(try simp only [SY] at hc)<;>first|omega|(conv=>whnf)))
      · have hlt : i < t.t.length := by omega
        have hy := ih _ (List.getElem_mem hlt) (by have := Trm.bulks_mem (List.getElem_mem hlt); omega)
        rw [drop_at hlt, Trm.cts] at hm
        refine PCall.pure hy (WkT.refl _) ?_
        conv => whnf
        repeat' (first|((first|((first|(apply zY;intro hg)|apply zZ);first|exact stA|exact stB|((conv=>whnf);(repeat ((first|(refine zW ?_ ?_;exact gA)|refine pC (FewTrm_c p.body n h0 h1) wR ?_|refine pC (FewTrm_c p.body n h0 h1) cA ?_|refine pC (FewAll_c p.consts 2000 (by omega) (by omega)) wR ?_|intro _);conv=>whnf));first|exact pS|exact pL|exact pE))|(refine zW ?_ ?_;exact gA)|refine zH rfl ?_|refine zA ?_|refine zI bA ?_|refine zI rfl ?_|refine zJ rfl rfl ?_|refine zB ?_|refine zK rfl ?_|refine zL rfl ?_|refine zC ?_|(refine zO ?_ ?_ ?_;omega;omega)|(refine zP ?_ ?_ ?_;omega;omega)|refine zM rfl ?_|(refine zQ ?_ ?_ ?_;omega;omega)|(refine zR ?_ ?_;omega)|(refine zI ?_ ?_;exact nA)|(refine zS ?_ ?_ ?_;omega;omega)|(refine zT ?_ ?_ ?_;omega;omega)|(refine zU ?_ ?_ ?_;omega;omega)|(refine zV ?_ ?_ ?_;omega;omega)|refine pC (FewTrm_c p.body n h0 h1) wR ?_|refine pC (FewTrm_c p.body n h0 h1) cA ?_|refine pC (FewAll_c p.consts 2000 (by omega) (by omega)) wR ?_|(refine yA ?_ rfl ?_ ?_;assumption;exact lA)|(refine yB ?_ rfl ?_ ?_;assumption;exact lA)|(refine yC rfl ?_ ?_;exact lA)|refine n0 ?_|refine zN rfl rfl rfl ?_|refine zD ?_|refine zE ?_|refine zF ?_|intro _|refine zG ?_);conv=>whnf)|(refine zX (fun hc => ?_) (fun hc => ?_)<;>(try simp only [SY] at hc)<;>first|omega|(conv=>whnf)))
        refine loopTo (i + 1, m + t.t[i].ct o) ⟨by show i + 1 ≤ _; omega, by dsimp only; omega⟩ (by show t.t.length - (i + 1) < t.t.length - i; omega) wA
      · rw [List.drop_of_length_le (by omega), Trm.cts] at hm
        exact PRet.pure (Wk.int (by omega))
theorem conv13_ok {p : Prog} (h : (conv13 p).2 = 0) : RightP p 2 ∧ mckP (conM p) = 0 ∧ conv13 p = (conM p, 0) := by
  unfold conv13 at h ⊢
  split at h
  · rename_i h1
    split at h
    · rename_i h2
      rw [if_pos h1, if_pos h2]
      exact ⟨(checkD_right p 2).1 (by rw [← check_eq]; exact h1), h2, rfl⟩
    · cases h
  · cases h
theorem RightP.nn {p : Prog} (h : RightP p 2) : (conM p).codes.length = p.body.ct 4 ∧ (conM p).body.ct 19 + cctS 19 (conM p).codes ≤ p.body.ct 4 ∧ (p.body.opn = 0 → (conM p).body.ct 19 + cctS 19 (conM p).codes = 0) :=
  (p.body.clo_nn h.shC.1 (p.body.okT_shR h.2.2.1)).1 [] 0 (fun _ => none)
end Go.Cb
namespace Go.Cb
open Go.Proofs
set_option maxRecDepth 100000
set_option maxHeartbeats 4000000
def keptO (o : Int) : Prop := o ≠ 1 ∧ o ≠ 4 ∧ o ≠ 5 ∧ o ≠ 8 ∧ o ≠ 9 ∧ o ≠ 19 ∧ o ≠ 20 ∧ o ≠ 21 ∧ o ≠ 22
theorem refF_kept {o : Int} (h : keptO o) (fm : Fm) (ov : List Int) (v : Int) : (refF fm ov v).ct o = 0 := by
  unfold keptO at h
  unfold refF
  split
  · rw [Trm.ct_mk, Trm.cts, if_neg (by omega)]
  · split
    · rw [Trm.ct_mk, Trm.cts, if_neg (by omega)]
    · rw [Trm.ct_mk, Trm.cts, if_neg (by omega)]
theorem refs_kept {o : Int} (h : keptO o) (fm : Fm) (ov l : List Int) : Trm.cts o (l.map (refF fm ov)) = 0 := by
  induction l with
  | nil => rfl
  | cons x l ih => rw [List.map_cons, Trm.cts, refF_kept h, ih]
theorem cloT_kept {o : Int} (h : keptO o) (n : Int) (l : List Trm) (h0 : Trm.cts o l = 0) : (cloT n l).ct o = 0 := by
  unfold keptO at h
  unfold cloT
  split
  · rw [Trm.ct_mk, Trm.cts, if_neg (by omega)]
  · rw [Trm.ct_mk, h0, if_neg (by omega)]
def KpOk (w : Bool) (o : Int) (t : Trm) : Prop := ∀ ov n fm, (t.clo w ov n fm).t.ct o + cctS o (t.clo w ov n fm).c = t.ct o ∧ (t.op = 4 → (t.clo w ov n fm).t.ct o = 0)
def KpB (w : Bool) (o : Int) (t : Trm) : Prop := t.op = 4 → ∀ ov n fm, (t.cloB w ov n fm).t.ct o + cctS o (t.cloB w ov n fm).c = t.ct o
theorem Trm.clos_kp (w : Bool) (o : Int) : ∀ l : List Trm, (∀ y ∈ l, KpOk w o y) → ∀ ov n fm, Trm.cts o (Trm.clos w l ov n fm).t + cctS o (Trm.clos w l ov n fm).c = Trm.cts o l
  | [], _, ov, n, fm => by rw [Trm.clos]; rfl
  | y :: l, h, ov, n, fm => by
    rw [Trm.clos]
    obtain ⟨a1, _⟩ := h y (by simp) ov n fm
    have b1 := Trm.clos_kp w o l (fun z hz => h z (by simp [hz])) ov (n + (y.clo w ov n fm).c.length) (y.clo w ov n fm).fm
    dsimp only
    rw [Trm.cts, Trm.cts, cctS_append]
    omega
theorem Trm.cloL_kp (w : Bool) (o : Int) : ∀ l : List Trm, (∀ y ∈ l, KpOk w o y) → ∀ vs, l.length = vs.length + 1 → ∀ ov n fm lrn, Trm.cts o (Trm.cloL w l vs ov n fm lrn).t + (Trm.cloL w l vs ov n fm lrn).last.ct o + cctS o (Trm.cloL w l vs ov n fm lrn).c = Trm.cts o l
  | [], _, vs, hv, ov, n, fm, lrn => by simp at hv
  | y :: l, h, [], hv, ov, n, fm, lrn => by
    obtain rfl : l = [] := List.eq_nil_of_length_eq_zero (by simpa using hv)
    rw [Trm.cloL, Trm.cts, Trm.cts]
    obtain ⟨a1, _⟩ := h y (by simp) ov n (learnF w lrn fm)
    dsimp only
    rw [Trm.cts]
    omega
  | y :: l, h, v :: vs, hv, ov, n, fm, lrn => by
    rw [Trm.cloL, Trm.cts]
    obtain ⟨a1, a2⟩ := h y (by simp) ov n fm
    have b1 := Trm.cloL_kp w o l (fun z hz => h z (by simp [hz])) vs (by simpa using hv) ov (n + (y.clo w ov n fm).c.length) (y.clo w ov n fm).fm (if y.op = 4 then lrn ++ [(v, ⟨n, (y.clo w ov n fm).t.op == 21⟩)] else lrn)
    dsimp only
    rw [cctS_append]
    generalize (if y.op = 4 then lrn ++ [(v, (⟨n, (y.clo w ov n fm).t.op == 21⟩ : Kn))] else lrn) = lrn2 at *
    split
    · rename_i hc
      have := a2 hc.1
      omega
    · rw [Trm.cts]
      omega
theorem Trm.cloF_kp (w : Bool) {o : Int} (ho : keptO o) : ∀ l : List Trm, (∀ y ∈ l, KpOk w o y) → (∀ y ∈ l, KpB w o y) → ∀ vs, l.length = vs.length + 1 → (∀ y ∈ l.dropLast, y.op = 4) → ∀ ov c n fm, Trm.cts o (Trm.cloF w l vs ov c n fm).t = 0 ∧ (Trm.cloF w l vs ov c n fm).last.ct o + cctS o (Trm.cloF w l vs ov c n fm).own + cctS o (Trm.cloF w l vs ov c n fm).c = Trm.cts o l
  | [], _, _, vs, hv, _, ov, c, n, fm => by simp at hv
  | y :: l, h, _, [], hv, _, ov, c, n, fm => by
    obtain rfl : l = [] := List.eq_nil_of_length_eq_zero (by simpa using hv)
    rw [Trm.cloF, Trm.cts, Trm.cts]
    obtain ⟨a1, _⟩ := h y (by simp) ov n fm
    dsimp only
    rw [Trm.cts, cctS]
    exact ⟨rfl, by omega⟩
  | y :: l, h, k, v :: vs, hv, h4, ov, c, n, fm => by
    have hl0 : l ≠ [] := by intro e; rw [e] at hv; simp at hv
    rw [List.dropLast_cons_of_ne_nil hl0] at h4
    have hy4 := h4 y (by simp)
    rw [Trm.cloF, Trm.cts]
    have a1 := k y (by simp) hy4 (overF fm y) n fm
    obtain ⟨b0, b1⟩ := Trm.cloF_kp w ho l (fun z hz => h z (by simp [hz])) (fun z hz => k z (by simp [hz])) vs (by simpa using hv) (fun z hz => h4 z (by simp [hz])) ov (c + 1) (n + (y.cloB w (overF fm y) n fm).c.length) (y.cloB w (overF fm y) n fm).fm
    have h19 : ¬(19 : Int) = o := by unfold keptO at ho; omega
    dsimp only
    rw [cctS_append, Trm.cts, cctS, Trm.ct_mk, refs_kept ho, if_neg h19, b0]
    dsimp only
    exact ⟨rfl, by omega⟩
theorem Trm.cloL_tz (w : Bool) : ∀ (l : List Trm) vs ov n fm lrn, (Trm.cloL w l vs ov n fm lrn).v.length = 0 → (Trm.cloL w l vs ov n fm lrn).t = []
  | [], vs, ov, n, fm, lrn, _ => by rw [Trm.cloL]
  | y :: l, [], ov, n, fm, lrn, _ => by rw [Trm.cloL]
  | y :: l, v :: vs, ov, n, fm, lrn, h => by
    have ih := Trm.cloL_tz w l vs ov (n + (y.clo w ov n fm).c.length) (y.clo w ov n fm).fm (if y.op = 4 then lrn ++ [(v, ⟨n, (y.clo w ov n fm).t.op == 21⟩)] else lrn)
    rw [Trm.cloL] at h ⊢
    dsimp only at h ⊢
    by_cases hc : y.op = 4 ∧ (y.clo w ov n fm).t.op = 21
    · rw [if_pos hc] at h ⊢
      exact ih h
    · rw [if_neg hc] at h
      simp at h
theorem Trm.clo_kp (w : Bool) {o : Int} (ho : keptO o) (t : Trm) : t.shI → t.shR → KpOk w o t ∧ KpB w o t := by
  induction t using Trm.ind with
  | h t ih =>
    intro hI hR
    rw [Trm.shI_eq] at hI
    rw [Trm.shR_eq] at hR
    obtain ⟨⟨s1, s2, s3, s4⟩, s5⟩ := hI
    obtain ⟨⟨r1, r2⟩, r3⟩ := hR
    have ho2 := ho
    unfold keptO at ho2
    have hx : ∀ y ∈ t.t, KpOk w o y ∧ KpB w o y := fun y hy => ih y hy (Trm.shIs_mem s5 y hy) (Trm.shRs_mem r3 y hy)
    have hB : KpB w o t := by
      intro h4 ov n fm
      rw [Trm.cloB_eq, t.ct_eq, if_neg (by omega)]
      obtain ⟨z, hz⟩ : ∃ z, t.t = [z] := by
        have := s2 h4
        cases ht : t.t with
        | nil => rw [ht] at this; simp at this
        | cons z zs =>
          cases zs with
          | nil => exact ⟨z, rfl⟩
          | cons y ys => rw [ht] at this; simp at this
      rw [hz, Trm.cloH, Trm.cts, Trm.cts]
      obtain ⟨a1, _⟩ := (hx z (by rw [hz]; simp)).1 ov n fm
      omega
    refine ⟨?_, hB⟩
    intro ov n fm
    rw [Trm.clo_eq]
    split
    · rename_i h1
      rw [t.ct_eq, r1 h1, if_neg (by omega)]
      dsimp only
      rw [refF_kept ho, Trm.cts, cctS]
      exact ⟨rfl, fun _ => rfl⟩
    split
    · rename_i h4
      have a1 := hB h4 (overF fm t) (n + 1) fm
      dsimp only
      rw [cloT_kept ho _ _ (refs_kept ho _ _ _), cctS]
      dsimp only
      exact ⟨by omega, fun _ => rfl⟩
    split
    · rename_i h8
      have a1 := Trm.cloL_kp w o t.t (fun y hy => (hx y hy).1) t.v (s3 (.inl h8)) ov n fm []
      have e1 : t.ct o = Trm.cts o t.t := by rw [Trm.ct_eq, if_neg (by omega), Nat.zero_add]
      rw [e1]
      dsimp only
      refine ⟨?_, fun h => absurd h (by omega)⟩
      split
      · rename_i hv0
        have hv1 := Trm.cloL_tz w t.t t.v ov n fm [] hv0
        rw [hv1, Trm.cts] at a1
        omega
      · rw [Trm.ct_mk, Trm.cts_append, Trm.cts, Trm.cts, if_neg (by omega)]
        omega
    split
    · rename_i h9
      obtain ⟨a0, a1⟩ := Trm.cloF_kp w ho t.t (fun y hy => (hx y hy).1) (fun y hy => (hx y hy).2) t.v (s3 (.inr h9)) (s4 h9) ov n (n + t.v.length) (fixF w t.v n (fixS fm t.v t.t) fm)
      have e1 : t.ct o = Trm.cts o t.t := by rw [Trm.ct_eq, if_neg (by omega), Nat.zero_add]
      rw [e1]
      dsimp only
      refine ⟨?_, fun h => absurd h (by omega)⟩
      rw [cctS_append]
      split
      · omega
      · rw [Trm.ct_mk, Trm.cts_append, Trm.cts, Trm.cts, if_neg (by omega)]
        omega
    · rename_i h1 h4 h8 h9
      have a1 := Trm.clos_kp w o t.t (fun y hy => (hx y hy).1) ov n fm
      have hcf : (if (callF fm t.op t.n t.t).1 = o then 1 else 0) = if t.op = o then 1 else 0 := by
        unfold callF
        split
        · rename_i hc
          split
          · rw [if_neg (by omega), if_neg (by omega)]
          · rfl
        · rfl
      dsimp only
      rw [Trm.ct_mk, hcf, t.ct_eq]
      exact ⟨by omega, fun h => absurd h h4⟩
end Go.Cb
namespace Go.Cb
open Go.Proofs
set_option maxRecDepth 100000
set_option maxHeartbeats 4000000
theorem Trm.met_scopeA (s : List Int) (t : Trm) : ∀ (sc : List Int) (deep : Int), t.met (s ++ sc) deep = (t.met sc deep).map fun m => (m.1, s ++ m.2) := by
  induction t using Trm.ind with
  | h t ih =>
    intro sc deep
    have key : ∀ (op : Int) (l : List Trm), (∀ y ∈ l, ∀ (sc : List Int) (deep : Int), y.met (s ++ sc) deep = (y.met sc deep).map fun m => (m.1, s ++ m.2)) →
        ∀ (sc inner : List Int) (deep : Int), Trm.mets op (s ++ sc) (s ++ inner) l deep = (Trm.mets op sc inner l deep).map fun m => (m.1, s ++ m.2) := by
      intro op l
      induction l with
      | nil => intro _ _ _ _; simp [Trm.mets]
      | cons x l ihl =>
        intro hy sc inner deep
        rw [Trm.mets, Trm.mets, List.map_append, ihl fun y hh => hy y (by simp [hh])]
        congr 1
        by_cases h : groupB op = true ∨ l = []
        · rw [if_pos h, if_pos h]; exact hy x (by simp) _ _
        · rw [if_neg h, if_neg h]; exact hy x (by simp) _ _
    rw [Trm.met_eq, Trm.met_eq, List.map_cons, List.append_assoc]
    congr 1
    split
    · rfl
    · exact key _ _ ih _ _ _
theorem Trm.okT_freeOf {level c codes : Int} {free : Bool} (t : Trm) {scope : List Int} {deep : Int} (h : t.okT level c codes free scope deep) : ∀ v ∈ freeOf t.all, v ∈ scope := by
  intro v hv
  rw [freeOf, List.mem_map] at hv
  obtain ⟨m, hm, rfl⟩ := hv
  rw [List.mem_filter, Bool.and_eq_true] at hm
  obtain ⟨h1, h2, h3⟩ := hm
  have hme : (m.1, scope ++ m.2) ∈ t.met scope 0 := by
    have := t.met_scopeA scope [] 0
    rw [List.append_nil] at this
    rw [this]
    exact List.mem_map.2 ⟨m, h1, rfl⟩
  have := t.okT_names 0 h _ hme h2
  simp only [List.contains_iff_mem, List.mem_append] at this
  rcases this with h4 | h4
  · exact h4
  · exfalso
    simp only [Bool.not_eq_true'] at h3
    have : m.2.contains m.1.n = true := by rw [List.contains_iff_mem]; exact h4
    rw [h3] at this; cases this
theorem Trm.okT_ct4 {c codes : Int} {free : Bool} (t : Trm) : ∀ {scope : List Int} {deep : Int}, t.okT 3 c codes free scope deep → t.ct 4 = 0 := by
  induction t using Trm.ind with
  | h t ih =>
    intro scope deep h
    rw [Trm.okT_eq] at h
    have key : ∀ (op : Int) (sc inner : List Int) (deep : Int) (l : List Trm), (∀ y ∈ l, ∀ {scope : List Int} {deep : Int}, y.okT 3 c codes free scope deep → y.ct 4 = 0) → Trm.okTs 3 c codes free op sc inner l deep → Trm.cts 4 l = 0 := by
      intro op sc inner deep l
      induction l with
      | nil => intro _ _; rw [Trm.cts]
      | cons x l ihl =>
        intro hy hk
        rw [Trm.okTs] at hk
        rw [Trm.cts, hy x (by simp) hk.2.1, ihl (fun z hz => hy z (by simp [hz])) hk.2.2]
    have hts := h.2
    obtain ⟨⟨_, h2, _, _⟩, _⟩ := h
    rw [Trm.ct_eq, key _ _ _ _ _ ih hts, if_neg]
    intro e
    rw [e] at h2
    revert h2
    decide
theorem modOk_mem {consts codes : Int} : ∀ {l : List Cod}, modOk consts codes l → ∀ x ∈ l, x.body.okT 3 consts codes true x.v 0
  | [], _, x, hx => by cases hx
  | y :: l, h, x, hx => by
    rw [modOk] at h
    rcases List.mem_cons.1 hx with rfl | hx
    · exact h.2.1
    · exact modOk_mem h.2.2 x hx
theorem mck_ok {m : Mdl} (h : mckP m = 0) : m.body.okT 3 m.consts.length m.codes.length false [] 0 ∧ ∀ x ∈ m.codes, x.body.okT 3 m.consts.length m.codes.length true x.v 0 := by
  rw [mck_eq] at h
  unfold mckD at h
  split at h
  · rename_i hc
    rw [Bool.and_eq_true] at hc
    have h2 := (Sp.seq (m.body.ckD_sp 3 m.consts.length m.codes.length false [] 0 0 []) (modCnt_pos m.codes) fun b hb => modD_sp m.consts.length m.codes.length m.codes _ b hb).some_iff.1 hc.2
    exact ⟨h2.1.1, modOk_mem h2.1.2⟩
  · cases h
end Go.Cb
namespace Go.Cb
open Go.Proofs
set_option maxRecDepth 100000
set_option maxHeartbeats 4000000
instance : Dfl Cod := ⟨⟨[], false, noT⟩⟩
abbrev opsA : List Int := [0, 3, 6, 10, 11, 12, 13, 15, 16, 17, 18]
theorem opsA_kept : ∀ o ∈ opsA, keptO o := by
  intro o ho
  unfold keptO
  simp [opsA] at ho
  omega
abbrev allC (M : Mdl) : List Cod := ⟨[], false, M.body⟩ :: M.codes
theorem apart_kept {p : Prog} (h : RightP p 2) {o : Int} (ho : keptO o) : cctS o (allC (conM p)) = p.body.ct o := by
  rw [cctS]
  exact ((p.body.clo_kp false ho h.shC.1 (p.body.okT_shR h.2.2.1)).1 [] 0 (fun _ => none)).1
theorem apart_right {p : Prog} (h : mckP (conM p) = 0) : ∀ c ∈ allC (conM p), c.body.ct 4 = 0 ∧ ∀ v ∈ riseL (freeOf c.body.all), c.v.contains v = true := by
  obtain ⟨h1, h2⟩ := mck_ok h
  intro c hc
  rcases List.mem_cons.1 hc with rfl | hc
  · exact ⟨(conM p).body.okT_ct4 h1, fun v hv => by
      have := (conM p).body.okT_freeOf h1 v ((mem_rise _ _).1 hv)
      cases this⟩
  · exact ⟨c.body.okT_ct4 (h2 c hc), fun v hv => by
      have := c.body.okT_freeOf (h2 c hc) v ((mem_rise _ _).1 hv)
      rw [List.contains_iff_mem]; exact this⟩
theorem PAppend.lit {α : Type} {f : α → PV} {xs es : List PV} {m : List α} {s by_ : Nat} {e : TypeId} {tk : Option Tok} {t : Tok} {Γ : List Ent} {put : Tok → List Ent} [hp : PickTok Γ t put] [hm : RowOf f es m] {K : PV → List Ent → Prop} (he : t.e = e)
    (hb : Nat.ble by_ 4096 = true) (h1 : xs.length + m.length ≤ 34359738368)
    (k : ∀ t' : Tok, t'.e = e → K (.sl s (xs ++ m.map f) (some t')) (put t')) : PAppend s by_ e (.sl s xs (some t)) (.sl s es tk) Γ K := by
  obtain ⟨Γ1, Γ2, e1, e2⟩ := hp.at_
  refine ⟨xs, m.map f, .inl ⟨tk, Wk.row hm.h⟩, by simp; omega, by simpa using bytes_ok hb h1, .inr (.inl ⟨t, Γ1, Γ2, rfl, e1, he, fun t' ht => ?_⟩)⟩
  have := k t' ht
  rw [e2] at this
  exact this
theorem PLoop.wkT {B : List PV → List Ent → Ds → QT → Prop} {T T' : List PV} {Γ : List Ent} {D : Ds} {Q : QT} (hw : WkT T T') (h : PLoop B T' Γ D Q) : PLoop B T Γ D Q := by
  obtain ⟨I, J, ⟨n, T0, Γ0, h1, h2⟩, h3, h4⟩ := h.h
  exact ⟨I, J, ⟨n, T0, Γ0, fun w0 F M w vs hS hT => h1 w0 F M w vs hS (hw.rep hT), h2⟩, h3, h4⟩
theorem all_wk (M : Mdl) (t : Tok) : Wk (.sl 6 ([.agg [.nil, .bfalse, .int .i64 M.body.op, .int .i64 M.body.n, .sl 1 (M.body.v.map (PV.int .i64)) none, .sl 4 (M.body.t.map Trm.pv) none]] ++ M.codes.map Cod.pv) (some t)) (.sl 6 ((allC M).map Cod.pv) none) := by
  refine Wk.rowTok ?_
  exact .cons (.cons (Wk.nil' rfl) (.cons (Wk.ff rfl) (WkL.refl _))) (WkR.refl _)
theorem ops_wk (tk : Option Tok) : Wk (.sl 1 [.int .i64 0, .int .i64 3, .int .i64 6, .int .i64 10, .int .i64 11, .int .i64 12, .int .i64 13, .int .i64 15, .int .i64 16, .int .i64 17, .int .i64 18] tk) (.sl 1 (opsA.map (PV.int .i64)) tk) := Wk.refl _
theorem closureApart_c (p : Prog) (hbb : Datum.bulks p.consts + p.body.bulk ≤ 1048576) : ACallP Tryz.prog 14 [.agg p.cells] (.bool true) := by
  have hlen := Datum.bulks_length p.consts
  have hcv := conv13_c p (by omega) (by omega)
  refine ACall.of_body tt_ok Tryz.func14 rfl rfl (n := 124) rfl rfl ?_
  conv => whnf
  repeat' (first|((first|((first|(apply zY;intro hg)|apply zZ);first|exact stA|exact stB|((conv=>whnf);(repeat ((first|(refine zW ?_ ?_;exact gA)|refine pC (awake13_c) wR ?_|refine pC (few13_c p 250 (by omega) (by omega)) wR ?_|refine pC (hcv) wR ?_|intro _);conv=>whnf));first|exact pS|exact pL|exact pE))|(refine zW ?_ ?_;exact gA)|refine zH rfl ?_|refine zA ?_|refine zI bA ?_|refine zI rfl ?_|refine zJ rfl rfl ?_|refine zB ?_|refine zK rfl ?_|refine zL rfl ?_|refine zC ?_|(refine zO ?_ ?_ ?_;omega;omega)|(refine zP ?_ ?_ ?_;omega;omega)|refine zM rfl ?_|(refine zQ ?_ ?_ ?_;omega;omega)|(refine zR ?_ ?_;omega)|(refine zI ?_ ?_;exact nA)|(refine zS ?_ ?_ ?_;omega;omega)|(refine zT ?_ ?_ ?_;omega;omega)|(refine zU ?_ ?_ ?_;omega;omega)|(refine zV ?_ ?_ ?_;omega;omega)|refine pC (awake13_c) wR ?_|refine pC (few13_c p 250 (by omega) (by omega)) wR ?_|refine pC (hcv) wR ?_|(refine yA ?_ rfl ?_ ?_;assumption;exact lA)|(refine yB ?_ rfl ?_ ?_;assumption;exact lA)|(refine yC rfl ?_ ?_;exact lA)|refine n0 ?_|refine zN rfl rfl rfl ?_|refine zD ?_|refine zE ?_|refine zF ?_|refine PDraw.sP (some 49) rfl [] [] tt_ok mixed ?_|refine PDraw.sP (some 61) rfl [] [] tt_ok mixed ?_|refine PDraw.sP (some 98) rfl [] [] tt_ok mixed ?_|intro _|refine zG ?_);conv=>whnf)|(refine zX (fun hc => ?_) (fun hc => ?_)<;>(try simp only [SY] at hc)<;>first|omega|(conv=>whnf)))
  · exact PRet.pure (Wk.refl _)
  · exact PRet.pure (Wk.refl _)
  obtain ⟨hR, hck, hE⟩ := conv13_ok hc
  have hbk := conM_bulk hR (by omega)
  have hcl : (conM p).codes.length ≤ p.body.bulk := (p.body.clo_lens false).1 [] 0 (fun _ => none)
  have hkp := fun o ho => apart_kept hR (opsA_kept o ho)
  have hri := apart_right hck
  rw [hE]
  generalize conM p = M at *
  dsimp only
  conv => whnf
  repeat' (first|((first|((first|(apply zY;intro hg)|apply zZ);first|exact stA|exact stB|((conv=>whnf);(repeat ((first|(refine zW ?_ ?_;exact gA)|refine pC (awake13_c) wR ?_|refine pC (few13_c p 250 (by omega) (by omega)) wR ?_|refine pC (hcv) wR ?_|intro _);conv=>whnf));first|exact pS|exact pL|exact pE))|(refine zW ?_ ?_;exact gA)|refine zH rfl ?_|refine zA ?_|refine zI bA ?_|refine zI rfl ?_|refine zJ rfl rfl ?_|refine zB ?_|refine zK rfl ?_|refine zL rfl ?_|refine zC ?_|(refine zO ?_ ?_ ?_;omega;omega)|(refine zP ?_ ?_ ?_;omega;omega)|refine zM rfl ?_|(refine zQ ?_ ?_ ?_;omega;omega)|(refine zR ?_ ?_;omega)|(refine zI ?_ ?_;exact nA)|(refine zS ?_ ?_ ?_;omega;omega)|(refine zT ?_ ?_ ?_;omega;omega)|(refine zU ?_ ?_ ?_;omega;omega)|(refine zV ?_ ?_ ?_;omega;omega)|refine pC (awake13_c) wR ?_|refine pC (few13_c p 250 (by omega) (by omega)) wR ?_|refine pC (hcv) wR ?_|(refine yA ?_ rfl ?_ ?_;assumption;exact lA)|(refine yB ?_ rfl ?_ ?_;assumption;exact lA)|(refine yC rfl ?_ ?_;exact lA)|refine n0 ?_|refine zN rfl rfl rfl ?_|refine zD ?_|refine zE ?_|refine zF ?_|refine PDraw.sP (some 49) rfl [] [] tt_ok mixed ?_|refine PDraw.sP (some 61) rfl [] [] tt_ok mixed ?_|refine PDraw.sP (some 98) rfl [] [] tt_ok mixed ?_|intro _|refine zG ?_);conv=>whnf)|(refine zX (fun hc => ?_) (fun hc => ?_)<;>(try simp only [SY] at hc)<;>first|omega|(conv=>whnf)))
  refine PAppend.lit (f := Cod.pv) (m := M.codes) (by assumption) rfl (by simp; omega) fun tA hA => ?_
  conv => whnf
  repeat' (first|((first|((first|(apply zY;intro hg)|apply zZ);first|exact stA|exact stB|((conv=>whnf);(repeat ((first|(refine zW ?_ ?_;exact gA)|refine pC (awake13_c) wR ?_|refine pC (few13_c p 250 (by omega) (by omega)) wR ?_|refine pC (hcv) wR ?_|intro _);conv=>whnf));first|exact pS|exact pL|exact pE))|(refine zW ?_ ?_;exact gA)|refine zH rfl ?_|refine zA ?_|refine zI bA ?_|refine zI rfl ?_|refine zJ rfl rfl ?_|refine zB ?_|refine zK rfl ?_|refine zL rfl ?_|refine zC ?_|(refine zO ?_ ?_ ?_;omega;omega)|(refine zP ?_ ?_ ?_;omega;omega)|refine zM rfl ?_|(refine zQ ?_ ?_ ?_;omega;omega)|(refine zR ?_ ?_;omega)|(refine zI ?_ ?_;exact nA)|(refine zS ?_ ?_ ?_;omega;omega)|(refine zT ?_ ?_ ?_;omega;omega)|(refine zU ?_ ?_ ?_;omega;omega)|(refine zV ?_ ?_ ?_;omega;omega)|refine pC (awake13_c) wR ?_|refine pC (few13_c p 250 (by omega) (by omega)) wR ?_|refine pC (hcv) wR ?_|(refine yA ?_ rfl ?_ ?_;assumption;exact lA)|(refine yB ?_ rfl ?_ ?_;assumption;exact lA)|(refine yC rfl ?_ ?_;exact lA)|refine n0 ?_|refine zN rfl rfl rfl ?_|refine zD ?_|refine zE ?_|refine zF ?_|refine PDraw.sP (some 49) rfl [] [] tt_ok mixed ?_|refine PDraw.sP (some 61) rfl [] [] tt_ok mixed ?_|refine PDraw.sP (some 98) rfl [] [] tt_ok mixed ?_|intro _|refine zG ?_);conv=>whnf)|(refine zX (fun hc => ?_) (fun hc => ?_)<;>(try simp only [SY] at hc)<;>first|omega|(conv=>whnf)))
  apply PLoop.wkT
  · repeat' (first|exact WkT.nil|apply WkT.cons|exact all_wk _ _|exact ops_wk _|exact Wk.refl _)
  refine PLoop.keep [2, 8, 9, 10, 37, 38, 39, 40, 41, 42, 43, 44, 45, 46, 47, 48, 49, 50, 51, 52, 53, 54, 55, 56, 57, 58, 59, 60, 61, 62, 63, 64, 65, 66, 67, 68, 69] (fun x : Nat => [(8, .int .i64 x)]) (fun x => x ≤ 11) (fun x => 11 - x) 0 (Nat.zero_le _) wA ?_
  rintro k hk
  have hAb : ∀ c ∈ allC M, c.body.bulk ≤ 1000000000 := fun c hc => by
    rcases List.mem_cons.1 hc with rfl | hc
    · show M.body.bulk ≤ _; omega
    · have := codsBulk_mem hc
      have : c.bulk = c.v.length + c.body.bulk := rfl
      omega
  have hAl : (allC M).length = M.codes.length + 1 := rfl
  generalize allC M = AL at *
  conv => whnf
  repeat' (first|((first|((first|(apply zY;intro hg)|apply zZ);first|exact stA|exact stB|((conv=>whnf);(repeat ((first|(refine zW ?_ ?_;exact gA)|refine pC (awake13_c) wR ?_|refine pC (few13_c p 250 (by omega) (by omega)) wR ?_|refine pC (hcv) wR ?_|intro _);conv=>whnf));first|exact pS|exact pL|exact pE))|(refine zW ?_ ?_;exact gA)|refine zH rfl ?_|refine zA ?_|refine zI bA ?_|refine zI rfl ?_|refine zJ rfl rfl ?_|refine zB ?_|refine zK rfl ?_|refine zL rfl ?_|refine zC ?_|(refine zO ?_ ?_ ?_;omega;omega)|(refine zP ?_ ?_ ?_;omega;omega)|refine zM rfl ?_|(refine zQ ?_ ?_ ?_;omega;omega)|(refine zR ?_ ?_;omega)|(refine zI ?_ ?_;exact nA)|(refine zS ?_ ?_ ?_;omega;omega)|(refine zT ?_ ?_ ?_;omega;omega)|(refine zU ?_ ?_ ?_;omega;omega)|(refine zV ?_ ?_ ?_;omega;omega)|refine pC (awake13_c) wR ?_|refine pC (few13_c p 250 (by omega) (by omega)) wR ?_|refine pC (hcv) wR ?_|(refine yA ?_ rfl ?_ ?_;assumption;exact lA)|(refine yB ?_ rfl ?_ ?_;assumption;exact lA)|(refine yC rfl ?_ ?_;exact lA)|refine n0 ?_|refine zN rfl rfl rfl ?_|refine zD ?_|refine zE ?_|refine zF ?_|refine PDraw.sP (some 49) rfl [] [] tt_ok mixed ?_|refine PDraw.sP (some 61) rfl [] [] tt_ok mixed ?_|refine PDraw.sP (some 98) rfl [] [] tt_ok mixed ?_|intro _|refine zG ?_);conv=>whnf)|(refine zX (fun hc => ?_) (fun hc => ?_)<;>(try simp only [SY] at hc)<;>first|omega|(conv=>whnf)))
  · have hk2 : k < opsA.length := by omega
    have hko := hkp _ (List.getElem_mem hk2)
    refine PLoop.keep [9, 10, 43, 44, 45, 46, 47, 48, 49, 50, 51, 52, 53, 54, 55, 56, 57, 58, 59, 60] (fun x : Nat × Nat => [(9, .int .i64 x.2), (10, .int .i64 x.1)]) (fun x => x.1 ≤ AL.length ∧ x.2 + cctS opsA[k] (AL.drop x.1) = p.body.ct opsA[k]) (fun x => AL.length - x.1) (0, 0) ⟨Nat.zero_le _, by simpa using hko⟩ wA ?_
    rintro ⟨i, m⟩ ⟨hi, hm⟩
    dsimp only at hi hm ⊢
    have hmb := p.body.ct_bulk opsA[k]
    conv => whnf
    repeat' (first|((first|((first|(apply zY;intro hg)|apply zZ);first|exact stA|exact stB|((conv=>whnf);(repeat ((first|(refine zW ?_ ?_;exact gA)|refine pC (count13_c _ p.body (by omega)) wR ?_|intro _);conv=>whnf));first|exact pS|exact pL|exact pE))|(refine zW ?_ ?_;exact gA)|refine zH rfl ?_|refine zA ?_|refine zI bA ?_|refine zI rfl ?_|refine zJ rfl rfl ?_|refine zB ?_|refine zK rfl ?_|refine zL rfl ?_|refine zC ?_|(refine zO ?_ ?_ ?_;omega;omega)|(refine zP ?_ ?_ ?_;omega;omega)|refine zM rfl ?_|(refine zQ ?_ ?_ ?_;omega;omega)|(refine zR ?_ ?_;omega)|(refine zI ?_ ?_;exact nA)|(refine zS ?_ ?_ ?_;omega;omega)|(refine zT ?_ ?_ ?_;omega;omega)|(refine zU ?_ ?_ ?_;omega;omega)|(refine zV ?_ ?_ ?_;omega;omega)|refine pC (count13_c _ p.body (by omega)) wR ?_|(refine yA ?_ rfl ?_ ?_;assumption;exact lA)|(refine yB ?_ rfl ?_ ?_;assumption;exact lA)|(refine yC rfl ?_ ?_;exact lA)|refine n0 ?_|refine zN rfl rfl rfl ?_|refine zD ?_|refine zE ?_|refine zF ?_|refine PDraw.sP (some 61) rfl [] [] tt_ok mixed ?_|refine PDraw.sP (some 98) rfl [] [] tt_ok mixed ?_|intro _|refine zG ?_);conv=>whnf)|(refine zX (fun hc => ?_) (fun hc => ?_)<;>(try simp only [SY] at hc)<;>first|omega|(conv=>whnf)))
    · have hlt : i < AL.length := by omega
      have hy := count13_c opsA[k] AL[i].body (hAb _ (List.getElem_mem hlt))
      have hyb := AL[i].body.ct_bulk opsA[k]
      rw [drop_at hlt, cctS] at hm
      conv => whnf
      repeat' (first|((first|((first|(apply zY;intro hg)|apply zZ);first|exact stA|exact stB|((conv=>whnf);(repeat ((first|(refine zW ?_ ?_;exact gA)|refine pC (hy) wR ?_|intro _);conv=>whnf));first|exact pS|exact pL|exact pE))|(refine zW ?_ ?_;exact gA)|refine zH rfl ?_|refine zA ?_|refine zI bA ?_|refine zI rfl ?_|refine zJ rfl rfl ?_|refine zB ?_|refine zK rfl ?_|refine zL rfl ?_|refine zC ?_|(refine zO ?_ ?_ ?_;omega;omega)|(refine zP ?_ ?_ ?_;omega;omega)|refine zM rfl ?_|(refine zQ ?_ ?_ ?_;omega;omega)|(refine zR ?_ ?_;omega)|(refine zI ?_ ?_;exact nA)|(refine zS ?_ ?_ ?_;omega;omega)|(refine zT ?_ ?_ ?_;omega;omega)|(refine zU ?_ ?_ ?_;omega;omega)|(refine zV ?_ ?_ ?_;omega;omega)|refine pC (hy) wR ?_|(refine yA ?_ rfl ?_ ?_;assumption;exact lA)|(refine yB ?_ rfl ?_ ?_;assumption;exact lA)|(refine yC rfl ?_ ?_;exact lA)|refine n0 ?_|refine zN rfl rfl rfl ?_|refine zD ?_|refine zE ?_|refine zF ?_|refine PDraw.sP (some 49) rfl [] [] tt_ok mixed ?_|refine PDraw.sP (some 61) rfl [] [] tt_ok mixed ?_|refine PDraw.sP (some 98) rfl [] [] tt_ok mixed ?_|intro _|refine zG ?_);conv=>whnf)|(refine zX (fun hc => ?_) (fun hc => ?_)<;>(try simp only [SY] at hc)<;>first|omega|(conv=>whnf)))
      refine loopTo (i + 1, m + AL[i].body.ct opsA[k]) ⟨by show i + 1 ≤ _; omega, by dsimp only; omega⟩ (by show AL.length - (i + 1) < AL.length - i; omega) wA
    · rw [List.drop_of_length_le (by omega), cctS, Nat.add_zero] at hm
      exact absurd (by rw [hm]) hc
    · refine loopTo (k + 1) (by show k + 1 ≤ 11; have : opsA.length = 11 := rfl; omega) (by show 11 - (k + 1) < 11 - k; have : opsA.length = 11 := rfl; omega) wA
  · refine PLoop.keep [2, 11, 12, 13, 14, 15, 70, 71, 72, 73, 74, 75, 76, 77, 78, 79, 80, 81, 82, 83, 84, 85, 86, 87, 88, 89, 90, 91, 92, 93, 94, 95, 96, 97, 98, 99, 100, 101, 102, 103, 104, 105, 106, 107, 108, 109, 110, 111, 112, 113, 114, 115, 116, 117, 118, 119, 120, 121, 122] (fun x : Nat => [(11, .int .i64 x)]) (fun x => x ≤ AL.length) (fun x => AL.length - x) 0 (Nat.zero_le _) wA ?_
    rintro i hi
    conv => whnf
    repeat' (first|((first|((first|(apply zY;intro hg)|apply zZ);first|exact stA|exact stB|((conv=>whnf);(repeat ((first|(refine zW ?_ ?_;exact gA)|refine pC (hy) wR ?_|intro _);conv=>whnf));first|exact pS|exact pL|exact pE))|(refine zW ?_ ?_;exact gA)|refine zH rfl ?_|refine zA ?_|refine zI bA ?_|refine zI rfl ?_|refine zJ rfl rfl ?_|refine zB ?_|refine zK rfl ?_|refine zL rfl ?_|refine zC ?_|(refine zO ?_ ?_ ?_;omega;omega)|(refine zP ?_ ?_ ?_;omega;omega)|refine zM rfl ?_|(refine zQ ?_ ?_ ?_;omega;omega)|(refine zR ?_ ?_;omega)|(refine zI ?_ ?_;exact nA)|(refine zS ?_ ?_ ?_;omega;omega)|(refine zT ?_ ?_ ?_;omega;omega)|(refine zU ?_ ?_ ?_;omega;omega)|(refine zV ?_ ?_ ?_;omega;omega)|refine pC (hy) wR ?_|(refine yA ?_ rfl ?_ ?_;assumption;exact lA)|(refine yB ?_ rfl ?_ ?_;assumption;exact lA)|(refine yC rfl ?_ ?_;exact lA)|refine n0 ?_|refine zN rfl rfl rfl ?_|refine zD ?_|refine zE ?_|refine zF ?_|refine PDraw.sP (some 49) rfl [] [] tt_ok mixed ?_|refine PDraw.sP (some 61) rfl [] [] tt_ok mixed ?_|refine PDraw.sP (some 98) rfl [] [] tt_ok mixed ?_|intro _|refine zG ?_);conv=>whnf)|(refine zX (fun hc => ?_) (fun hc => ?_)<;>(try simp only [SY] at hc)<;>first|omega|(conv=>whnf)))
    · have hlt : i < AL.length := by omega
      have hcb := hAb _ (List.getElem_mem hlt)
      obtain ⟨q1, q2⟩ := hri _ (List.getElem_mem hlt)
      have hy := count13_c 4 AL[i].body hcb
      rw [q1] at hy
      refine PCall.pure (free_c AL[i].body hcb) (WkT.refl _) ?_
      generalize riseL (freeOf AL[i].body.all) = f at *
      conv => whnf
      repeat' (first|((first|((first|(apply zY;intro hg)|apply zZ);first|exact stA|exact stB|((conv=>whnf);(repeat ((first|(refine zW ?_ ?_;exact gA)|refine pC (hy) wR ?_|intro _);conv=>whnf));first|exact pS|exact pL|exact pE))|(refine zW ?_ ?_;exact gA)|refine zH rfl ?_|refine zA ?_|refine zI bA ?_|refine zI rfl ?_|refine zJ rfl rfl ?_|refine zB ?_|refine zK rfl ?_|refine zL rfl ?_|refine zC ?_|(refine zO ?_ ?_ ?_;omega;omega)|(refine zP ?_ ?_ ?_;omega;omega)|refine zM rfl ?_|(refine zQ ?_ ?_ ?_;omega;omega)|(refine zR ?_ ?_;omega)|(refine zI ?_ ?_;exact nA)|(refine zS ?_ ?_ ?_;omega;omega)|(refine zT ?_ ?_ ?_;omega;omega)|(refine zU ?_ ?_ ?_;omega;omega)|(refine zV ?_ ?_ ?_;omega;omega)|refine pC (hy) wR ?_|(refine yA ?_ rfl ?_ ?_;assumption;exact lA)|(refine yB ?_ rfl ?_ ?_;assumption;exact lA)|(refine yC rfl ?_ ?_;exact lA)|refine n0 ?_|refine zN rfl rfl rfl ?_|refine zD ?_|refine zE ?_|refine zF ?_|refine PDraw.sP (some 49) rfl [] [] tt_ok mixed ?_|refine PDraw.sP (some 61) rfl [] [] tt_ok mixed ?_|refine PDraw.sP (some 98) rfl [] [] tt_ok mixed ?_|intro _|refine zG ?_);conv=>whnf)|(refine zX (fun hc => ?_) (fun hc => ?_)<;>(try simp only [SY] at hc)<;>first|omega|(conv=>whnf)))
      refine PLoop.keep [2, 13, 14, 15, 82, 83, 84, 85, 86, 87, 88, 89, 90, 91, 92, 93, 94, 95, 96, 97, 98, 99, 100, 101, 102, 103, 104, 105, 106, 107, 108, 109, 110, 111, 112, 113, 114, 115] (fun x : Nat => [(13, .int .i64 x)]) (fun x => x ≤ f.length) (fun x => f.length - x) 0 (Nat.zero_le _) wA ?_
      rintro k2 hk2
      conv => whnf
      repeat' (first|((first|((first|(apply zY;intro hg)|apply zZ);first|exact stA|exact stB|((conv=>whnf);(repeat ((first|(refine zW ?_ ?_;exact gA)|refine pC (hy) wR ?_|intro _);conv=>whnf));first|exact pS|exact pL|exact pE))|(refine zW ?_ ?_;exact gA)|refine zH rfl ?_|refine zA ?_|refine zI bA ?_|refine zI rfl ?_|refine zJ rfl rfl ?_|refine zB ?_|refine zK rfl ?_|refine zL rfl ?_|refine zC ?_|(refine zO ?_ ?_ ?_;omega;omega)|(refine zP ?_ ?_ ?_;omega;omega)|refine zM rfl ?_|(refine zQ ?_ ?_ ?_;omega;omega)|(refine zR ?_ ?_;omega)|(refine zI ?_ ?_;exact nA)|(refine zS ?_ ?_ ?_;omega;omega)|(refine zT ?_ ?_ ?_;omega;omega)|(refine zU ?_ ?_ ?_;omega;omega)|(refine zV ?_ ?_ ?_;omega;omega)|refine pC (hy) wR ?_|(refine yA ?_ rfl ?_ ?_;assumption;exact lA)|(refine yB ?_ rfl ?_ ?_;assumption;exact lA)|(refine yC rfl ?_ ?_;exact lA)|refine n0 ?_|refine zN rfl rfl rfl ?_|refine zD ?_|refine zE ?_|refine zF ?_|refine PDraw.sP (some 49) rfl [] [] tt_ok mixed ?_|refine PDraw.sP (some 61) rfl [] [] tt_ok mixed ?_|refine PDraw.sP (some 98) rfl [] [] tt_ok mixed ?_|intro _|refine zG ?_);conv=>whnf)|(refine zX (fun hc => ?_) (fun hc => ?_)<;>(try simp only [SY] at hc)<;>first|omega|(conv=>whnf)))
      · have hkl : k2 < f.length := by omega
        have hin := q2 _ (List.getElem_mem hkl)
        refine PLoop.keep [14, 15, 88, 89, 90, 91, 92, 93, 94, 95, 96, 97, 98, 99, 100, 101, 102, 103, 104, 105, 106, 107, 108, 109, 110, 111, 112, 113] (fun x : Nat × Bool => [(14, .bool x.2), (15, .int .i64 x.1)]) (fun x => x.1 ≤ AL[i].v.length ∧ (x.2 || (AL[i].v.drop x.1).contains f[k2]) = true) (fun x => AL[i].v.length - x.1) (0, false) ⟨Nat.zero_le _, by simpa using hin⟩ wA ?_
        rintro ⟨j, own⟩ ⟨hj, hown⟩
        dsimp only at hj hown ⊢
        conv => whnf
        repeat' (first|((first|((first|(apply zY;intro hg)|apply zZ);first|exact stA|exact stB|((conv=>whnf);(repeat ((first|(refine zW ?_ ?_;exact gA)|refine pC (hy) wR ?_|intro _);conv=>whnf));first|exact pS|exact pL|exact pE))|(refine zW ?_ ?_;exact gA)|refine zH rfl ?_|refine zA ?_|refine zI bA ?_|refine zI rfl ?_|refine zJ rfl rfl ?_|refine zB ?_|refine zK rfl ?_|refine zL rfl ?_|refine zC ?_|(refine zO ?_ ?_ ?_;omega;omega)|(refine zP ?_ ?_ ?_;omega;omega)|refine zM rfl ?_|(refine zQ ?_ ?_ ?_;omega;omega)|(refine zR ?_ ?_;omega)|(refine zI ?_ ?_;exact nA)|(refine zS ?_ ?_ ?_;omega;omega)|(refine zT ?_ ?_ ?_;omega;omega)|(refine zU ?_ ?_ ?_;omega;omega)|(refine zV ?_ ?_ ?_;omega;omega)|refine pC (hy) wR ?_|(refine yA ?_ rfl ?_ ?_;assumption;exact lA)|(refine yB ?_ rfl ?_ ?_;assumption;exact lA)|(refine yC rfl ?_ ?_;exact lA)|refine n0 ?_|refine zN rfl rfl rfl ?_|refine zD ?_|refine zE ?_|refine zF ?_|refine PDraw.sP (some 49) rfl [] [] tt_ok mixed ?_|refine PDraw.sP (some 61) rfl [] [] tt_ok mixed ?_|refine PDraw.sP (some 98) rfl [] [] tt_ok mixed ?_|intro _|refine zG ?_);conv=>whnf)|(refine zX (fun hc => ?_) (fun hc => ?_)<;>(try simp only [SY] at hc)<;>first|omega|(conv=>whnf)))
        · have hjl : j < AL[i].v.length := by omega
          rw [drop_at hjl, List.contains_cons] at hown
          refine loopTo (j + 1, own || (AL[i].v[j] == f[k2])) ⟨by show j + 1 ≤ _; omega, ?_⟩ (by show AL[i].v.length - (j + 1) < AL[i].v.length - j; omega) wA
          dsimp only
          rw [Bool.or_assoc, Bool.beq_comm (a := AL[i].v[j])]
          exact hown
        · rw [List.drop_of_length_le (by omega), hc] at hown
          simp at hown
        · exact loopTo (k2 + 1) (by show k2 + 1 ≤ _; omega) (by show f.length - (k2 + 1) < f.length - k2; omega) wA
      · exact loopTo (i + 1) (by show i + 1 ≤ _; omega) (by show AL.length - (i + 1) < AL.length - i; omega) wA
    · exact PRet.pure (Wk.refl _)
end Go.Cb

