/-
  Contracts: a procedure, converted.
  Contracts: a Fix with assigned variables, converted.
  Contracts: a term, converted.
  Contracts: the document's words for the check of terms.
  Contracts: what is right names what it binds.
  Contracts: a program, converted.
  Contracts: the program's check of modules.
  Contracts: a program's module.
  Plain law: how many closures there are.
  Contracts: the document's words for assignment conversion.
  Contracts: closure's laws: the document's example, sizes, counts.
  Contracts: the document's words for modules.
  Plain law: what variables are called says nothing.
  Contracts: assignment conversion, all variables greater by the same.
-/
import Derived.Test.YtpkgembbjlebcaaGreatDoorH7
set_option linter.unusedSimpArgs false
set_option linter.unusedVariables false
namespace Go.Cb
open Go.Proofs
set_option maxRecDepth 100000
set_option maxHeartbeats 4000000
end Go.Cb
namespace Go.Cb
open Go.Proofs
set_option maxRecDepth 100000
set_option maxHeartbeats 4000000
end Go.Cb
namespace Go.Cb
open Go.Proofs
set_option maxRecDepth 100000
set_option maxHeartbeats 4000000
end Go.Cb
namespace Go.Cb
open Go.Proofs
set_option maxRecDepth 100000
set_option maxHeartbeats 4000000
end Go.Cb
namespace Go.Cb
open Go.Proofs
set_option maxRecDepth 100000
set_option maxHeartbeats 4000000
theorem RightP.binds {p : Prog} {level : Int} (h : RightP p level) : (riseL (bindsOf p.body.all)).length = p.body.vars.length := by
  have h1 := p.body.met_all [] 0 (by have := p.body.okT_deep h.2.2.1; omega)
  have h2 : bindsOf p.body.all = p.body.vars := h1.2
  rw [h2]
  exact rise_len h.2.2.2.2.2
end Go.Cb
namespace Go.Cb
open Go.Proofs
set_option maxRecDepth 100000
set_option maxHeartbeats 4000000
theorem RightP.fits {p : Prog} {level : Int} (h : RightP p level) : p.body.shp ∧ p.body.dep ≤ 400 ∧ (∀ x ∈ p.body.vars, 0 ≤ x ∧ x ≤ 1000000) := by
  have h1 := p.body.okT_deep h.2.2.1
  exact ⟨p.body.okT_shp h.2.2.1, by omega, fun x hx => ⟨(h.2.2.2.2.1 x hx).1, (h.2.2.2.2.1 x hx).2.1⟩⟩
end Go.Cb
namespace Go.Cb
open Go.Proofs
set_option maxRecDepth 100000
set_option maxHeartbeats 4000000
abbrev mC2 (m : Mdl) : List PV := [.sl 5 (m.consts.map Datum.pv) none, .sl 6 (m.codes.map Cod.pv) none, .int .i64 m.body.op, .int .i64 m.body.n, .sl 1 (m.body.v.map (PV.int .i64)) none, .sl 4 (m.body.t.map Trm.pv) none]
def mtotP (m : Mdl) : Option (Int × List Int) := if (m.consts.all fun d => d.rightP 0) = true then okO (m.body.ckP 3 m.consts.length m.codes.length false [] 0 0 []) (modP m.consts.length m.codes.length m.codes) else none
theorem mckP_tot (m : Mdl) : mckP m = if (mtotP m).isSome = true then 0 else 5 := by
  unfold mckP mtotP
  cases h : m.consts.all fun d => d.rightP 0 <;> simp
theorem checkModuleP_c (m : Mdl) (hb : m.body.bulk + codsBulk m.codes ≤ 1000000000) (hl : m.consts.length ≤ 1000000000) (hk : m.codes.length ≤ 1000000000) : ACallP Tryz.prog 67 [.agg m.cells] (.int .i64 (mckP m)) := by
  rw [mckP_tot]
  refine ACall.of_body tt_ok Tryz.func67 rfl rfl (n := 64) rfl rfl ?_
  conv => whnf
  repeat' (first|((first|((first|(apply zY;intro hg)|apply zZ);first|exact stA|((conv=>whnf);(repeat ((first|(refine zW ?_ ?_;exact gA)|refine pC (constantsp_c _) wR ?_|refine pC (constantsp_c _) cA ?_|intro _);conv=>whnf));first|exact pS|exact pL|exact pE))|(refine zW ?_ ?_;exact gA)|refine zH rfl ?_|refine zA ?_|refine zI bA ?_|refine zI rfl ?_|refine zJ rfl rfl ?_|refine zB ?_|refine zK rfl ?_|refine zL rfl ?_|refine zC ?_|(refine zO ?_ ?_ ?_;omega;omega)|(refine zP ?_ ?_ ?_;omega;omega)|refine zM rfl ?_|(refine zQ ?_ ?_ ?_;omega;omega)|(refine zR ?_ ?_;omega)|(refine zI ?_ ?_;exact nA)|(refine zS ?_ ?_ ?_;omega;omega)|(refine zT ?_ ?_ ?_;omega;omega)|(refine zU ?_ ?_ ?_;omega;omega)|(refine zV ?_ ?_ ?_;omega;omega)|refine pC (constantsp_c _) wR ?_|refine pC (constantsp_c _) cA ?_|refine zN rfl rfl rfl ?_|refine zD ?_|refine zE ?_|refine zF ?_|intro _|refine zG ?_);conv=>whnf)|(refine zX (fun hc => ?_) (fun hc => ?_)<;>(try simp only [SY] at hc)<;>first|omega|(conv=>whnf)))
  refine PGuard.ways (fun hg => ?_) (fun hg => ?_)
  rotate_left
  · have hmn : mtotP m = none := by unfold mtotP; rw [if_neg (by simp only [Bool.not_not] at hg; rw [hg]; simp)]
    conv => whnf
    repeat' (first|((first|((first|(apply zY;intro hg)|apply zZ);first|exact stA|((conv=>whnf);(repeat ((first|(refine zW ?_ ?_;exact gA)|refine pC (constantsp_c _) wR ?_|refine pC (constantsp_c _) cA ?_|intro _);conv=>whnf));first|exact pS|exact pL|exact pE))|(refine zW ?_ ?_;exact gA)|refine zH rfl ?_|refine zA ?_|refine zI bA ?_|refine zI rfl ?_|refine zJ rfl rfl ?_|refine zB ?_|refine zK rfl ?_|refine zL rfl ?_|refine zC ?_|(refine zO ?_ ?_ ?_;omega;omega)|(refine zP ?_ ?_ ?_;omega;omega)|refine zM rfl ?_|(refine zQ ?_ ?_ ?_;omega;omega)|(refine zR ?_ ?_;omega)|(refine zI ?_ ?_;exact nA)|(refine zS ?_ ?_ ?_;omega;omega)|(refine zT ?_ ?_ ?_;omega;omega)|(refine zU ?_ ?_ ?_;omega;omega)|(refine zV ?_ ?_ ?_;omega;omega)|refine pC (constantsp_c _) wR ?_|refine pC (constantsp_c _) cA ?_|refine zN rfl rfl rfl ?_|refine zD ?_|refine zE ?_|refine zF ?_|intro _|refine zG ?_);conv=>whnf)|(refine zX (fun hc => ?_) (fun hc => ?_)<;>(try simp only [SY] at hc)<;>first|omega|(conv=>whnf)))
    exact PRet.pure (Wk.int (by rw [hmn]; rfl))
  · conv => whnf
    conv => whnf
    repeat ((first|((first|(apply zY;intro hg)|apply zZ);first|exact stA|((conv=>whnf);(repeat ((first|(refine zW ?_ ?_;exact gA)|refine pC (constantsp_c _) wR ?_|refine pC (constantsp_c _) cA ?_|intro _);conv=>whnf));first|exact pS|exact pL|exact pE))|(refine zW ?_ ?_;exact gA)|refine zH rfl ?_|refine zA ?_|refine zI bA ?_|refine zI rfl ?_|refine zJ rfl rfl ?_|refine zB ?_|refine zK rfl ?_|refine zL rfl ?_|refine zC ?_|(refine zO ?_ ?_ ?_;omega;omega)|(refine zP ?_ ?_ ?_;omega;omega)|refine zM rfl ?_|(refine zQ ?_ ?_ ?_;omega;omega)|(refine zR ?_ ?_;omega)|(refine zI ?_ ?_;exact nA)|(refine zS ?_ ?_ ?_;omega;omega)|(refine zT ?_ ?_ ?_;omega;omega)|(refine zU ?_ ?_ ?_;omega;omega)|(refine zV ?_ ?_ ?_;omega;omega)|refine pC (constantsp_c _) wR ?_|refine pC (constantsp_c _) cA ?_|refine zN rfl rfl rfl ?_|refine zD ?_|refine zE ?_|refine zF ?_|intro _);conv=>whnf)
    rename_i b1 l1 l2 r1 b2 r2
    have hall : (m.consts.all fun d => d.rightP 0) = true := by simpa using hg
    have hm : mtotP m = okO (m.body.ckP 3 m.consts.length m.codes.length false [] 0 0 []) (modP m.consts.length m.codes.length m.codes) := by unfold mtotP; rw [if_pos hall]
    have hcall := rightp_c b2 r1 r2 3 m.consts.length m.codes.length false m.body [] 0 0 [] [] [] (by omega) (by omega) (by omega) (by omega) (by simp) (by omega)
    rw [← setM_nil] at hcall
    refine PCall.goG (Ghost.box (b := b2) (cs := [.int .i64 3, .int .i64 m.consts.length, .int .i64 m.codes.length, .bfalse, .int .i64 0, .mp r1]) (cs' := cpC 3 m.consts.length m.codes.length 0 false r1) wA) hcall (WkT.refl _) ?_
    rintro _ _ ⟨rfl, sz, mb, ms, pb, ps, rfl, hs2⟩
    conv => whnf
    repeat' (first|((first|((first|(apply zY;intro hg)|apply zZ);first|exact stA|((conv=>whnf);(repeat ((first|(refine zW ?_ ?_;exact gA)|refine pC (constantsp_c _) wR ?_|refine pC (constantsp_c _) cA ?_|intro _);conv=>whnf));first|exact pS|exact pL|exact pE))|(refine zW ?_ ?_;exact gA)|refine zH rfl ?_|refine zA ?_|refine zI bA ?_|refine zI rfl ?_|refine zJ rfl rfl ?_|refine zB ?_|refine zK rfl ?_|refine zL rfl ?_|refine zC ?_|(refine zO ?_ ?_ ?_;omega;omega)|(refine zP ?_ ?_ ?_;omega;omega)|refine zM rfl ?_|(refine zQ ?_ ?_ ?_;omega;omega)|(refine zR ?_ ?_;omega)|(refine zI ?_ ?_;exact nA)|(refine zS ?_ ?_ ?_;omega;omega)|(refine zT ?_ ?_ ?_;omega;omega)|(refine zU ?_ ?_ ?_;omega;omega)|(refine zV ?_ ?_ ?_;omega;omega)|refine pC (constantsp_c _) wR ?_|refine pC (constantsp_c _) cA ?_|refine zN rfl rfl rfl ?_|refine zD ?_|refine zE ?_|refine zF ?_|intro _|refine zG ?_);conv=>whnf)|(refine zX (fun hc => ?_) (fun hc => ?_)<;>(try simp only [SY] at hc)<;>first|omega|(conv=>whnf)))
    · rw [Option.isSome_eq_false_iff, Option.isNone_iff_eq_none] at hc
      exact PRet.pure (Wk.int (by rw [hm, hc]; rfl))
    · obtain ⟨⟨s1, bd1⟩, e⟩ := Option.isSome_iff_exists.mp hc
      obtain ⟨rfl, rfl, rfl⟩ := hs2 s1 bd1 e
      have hbd := Trm.ckP_bd _ _ _ _ _ _ _ _ _ _ _ e
      refine PLoop.over [2, 5, 6, 34, 35, 36, 37, 38, 39, 40, 41, 42, 43, 44, 45, 46, 47, 48, 49, 50, 51, 52, 53, 54, 55, 56, 57, 58, 59, 60, 61, 62, 63] (fun (x : Nat × Int × List Int × List (Int × Value)) => [(34, .int .i64 x.1)])
        (fun (x : Nat × Int × List Int × List (Int × Value)) => [.box b2 (cpC 3 m.consts.length m.codes.length x.2.1 true r1), .mp r1 (.int .i64) (setM x.2.2.1) x.2.2.2, .box b1 (mC2 m)])
        (fun | (i, sz, bd, pb) => i ≤ m.codes.length ∧ 0 ≤ sz ∧ sz ≤ 20000 ∧ mtotP m = modP m.consts.length m.codes.length (m.codes.drop i) sz bd) (fun | (i, _) => m.codes.length - i) (0, sz, bd1, pb)
        ⟨by simp, by omega, hbd.2.1, by rw [hm, e]; rfl⟩ wA ?_
      rintro ⟨i, sz, bd, pb⟩ ⟨hi, hz0, hz1, ht⟩
      dsimp only at hi hz0 hz1 ht ⊢
      conv => whnf
      repeat' (first|((first|((first|(apply zY;intro hg)|apply zZ);first|exact stA|((conv=>whnf);(repeat ((first|(refine zW ?_ ?_;exact gA)|refine pC (constantsp_c _) wR ?_|refine pC (constantsp_c _) cA ?_|intro _);conv=>whnf));first|exact pS|exact pL|exact pE))|(refine zW ?_ ?_;exact gA)|refine zH rfl ?_|refine zA ?_|refine zI bA ?_|refine zI rfl ?_|refine zJ rfl rfl ?_|refine zB ?_|refine zK rfl ?_|refine zL rfl ?_|refine zC ?_|(refine zO ?_ ?_ ?_;omega;omega)|(refine zP ?_ ?_ ?_;omega;omega)|refine zM rfl ?_|(refine zQ ?_ ?_ ?_;omega;omega)|(refine zR ?_ ?_;omega)|(refine zI ?_ ?_;exact nA)|(refine zS ?_ ?_ ?_;omega;omega)|(refine zT ?_ ?_ ?_;omega;omega)|(refine zU ?_ ?_ ?_;omega;omega)|(refine zV ?_ ?_ ?_;omega;omega)|refine pC (constantsp_c _) wR ?_|refine pC (constantsp_c _) cA ?_|refine zN rfl rfl rfl ?_|refine zD ?_|refine zE ?_|refine zF ?_|intro _|refine zG ?_);conv=>whnf)|(refine zX (fun hc => ?_) (fun hc => ?_)<;>(try simp only [SY] at hc)<;>first|omega|(conv=>whnf)))
      · rename_i b4 r4
        have hlt : i < m.codes.length := by omega
        rw [drop_at hlt, modP] at ht
        have hbm : m.codes[i].bulk ≤ codsBulk m.codes := codsBulk_mem (List.getElem_mem hlt)
        have hbk : m.codes[i].bulk = m.codes[i].v.length + m.codes[i].body.bulk := rfl
        refine PGuard.ways (fun hg => ?_) (fun hg => ?_)
        · have hr1 : ¬(m.codes[i].rest = true ∧ m.codes[i].v = []) := by
            rintro ⟨e1, e2⟩
            rw [e1, e2] at hg
            simp at hg
          rw [if_neg hr1] at ht
          conv => whnf
          repeat ((first|((first|(apply zY;intro hg)|apply zZ);first|exact stA|((conv=>whnf);(repeat ((first|(refine zW ?_ ?_;exact gA)|refine pC (constantsp_c _) wR ?_|refine pC (constantsp_c _) cA ?_|intro _);conv=>whnf));first|exact pS|exact pL|exact pE))|(refine zW ?_ ?_;exact gA)|refine zH rfl ?_|refine zA ?_|refine zI bA ?_|refine zI rfl ?_|refine zJ rfl rfl ?_|refine zB ?_|refine zK rfl ?_|refine zL rfl ?_|refine zC ?_|(refine zO ?_ ?_ ?_;omega;omega)|(refine zP ?_ ?_ ?_;omega;omega)|refine zM rfl ?_|(refine zQ ?_ ?_ ?_;omega;omega)|(refine zR ?_ ?_;omega)|(refine zI ?_ ?_;exact nA)|(refine zS ?_ ?_ ?_;omega;omega)|(refine zT ?_ ?_ ?_;omega;omega)|(refine zU ?_ ?_ ?_;omega;omega)|(refine zV ?_ ?_ ?_;omega;omega)|refine pC (constantsp_c _) wR ?_|refine pC (constantsp_c _) cA ?_|refine zN rfl rfl rfl ?_|refine zD ?_|refine zE ?_|refine zF ?_|intro _);conv=>whnf)
          have hbc := bind2p_c b2 r1 r4 3 m.consts.length m.codes.length sz true m.codes[i].v bd [] pb []
          rw [← setM_nil] at hbc
          refine PCall.go hbc (WkT.refl _) ?_
          rintro _ _ ⟨rfl, pb3, mb, ms2, rfl, hb3⟩
          conv => whnf
          repeat' (first|((first|((first|(apply zY;intro hg)|apply zZ);first|exact stA|((conv=>whnf);(repeat ((first|(refine zW ?_ ?_;exact gA)|refine pC (constantsp_c _) wR ?_|refine pC (constantsp_c _) cA ?_|intro _);conv=>whnf));first|exact pS|exact pL|exact pE))|(refine zW ?_ ?_;exact gA)|refine zH rfl ?_|refine zA ?_|refine zI bA ?_|refine zI rfl ?_|refine zJ rfl rfl ?_|refine zB ?_|refine zK rfl ?_|refine zL rfl ?_|refine zC ?_|(refine zO ?_ ?_ ?_;omega;omega)|(refine zP ?_ ?_ ?_;omega;omega)|refine zM rfl ?_|(refine zQ ?_ ?_ ?_;omega;omega)|(refine zR ?_ ?_;omega)|(refine zI ?_ ?_;exact nA)|(refine zS ?_ ?_ ?_;omega;omega)|(refine zT ?_ ?_ ?_;omega;omega)|(refine zU ?_ ?_ ?_;omega;omega)|(refine zV ?_ ?_ ?_;omega;omega)|refine pC (constantsp_c _) wR ?_|refine pC (constantsp_c _) cA ?_|refine zN rfl rfl rfl ?_|refine zD ?_|refine zE ?_|refine zF ?_|intro _|refine zG ?_);conv=>whnf)|(refine zX (fun hc => ?_) (fun hc => ?_)<;>(try simp only [SY] at hc)<;>first|omega|(conv=>whnf)))
          refine PGuard.ways (fun hg => ?_) (fun hg => ?_)
          · have hb1 : (bindR m.codes[i].v bd).1 = true := by simpa using hg
            obtain ⟨rfl, rfl⟩ := hb3 hb1
            rw [if_pos hb1] at ht
            conv => whnf
            repeat ((first|((first|(apply zY;intro hg)|apply zZ);first|exact stA|((conv=>whnf);(repeat ((first|(refine zW ?_ ?_;exact gA)|refine pC (constantsp_c _) wR ?_|refine pC (constantsp_c _) cA ?_|intro _);conv=>whnf));first|exact pS|exact pL|exact pE))|(refine zW ?_ ?_;exact gA)|refine zH rfl ?_|refine zA ?_|refine zI bA ?_|refine zI rfl ?_|refine zJ rfl rfl ?_|refine zB ?_|refine zK rfl ?_|refine zL rfl ?_|refine zC ?_|(refine zO ?_ ?_ ?_;omega;omega)|(refine zP ?_ ?_ ?_;omega;omega)|refine zM rfl ?_|(refine zQ ?_ ?_ ?_;omega;omega)|(refine zR ?_ ?_;omega)|(refine zI ?_ ?_;exact nA)|(refine zS ?_ ?_ ?_;omega;omega)|(refine zT ?_ ?_ ?_;omega;omega)|(refine zU ?_ ?_ ?_;omega;omega)|(refine zV ?_ ?_ ?_;omega;omega)|refine pC (constantsp_c _) wR ?_|refine pC (constantsp_c _) cA ?_|refine zN rfl rfl rfl ?_|refine zD ?_|refine zE ?_|refine zF ?_|intro _);conv=>whnf)
            rw [List.nil_append]
            refine PCall.go (rightp_c b2 r1 r4 3 m.consts.length m.codes.length true m.codes[i].body m.codes[i].v 0 sz (bd ++ m.codes[i].v) pb3 [] (by omega) (by omega) (by omega) (by omega) (by intro x h; simp [h]) (by omega)) (WkT.refl _) ?_
            rintro _ _ ⟨rfl, sz5, mb5, ms5, pb5, ps5, rfl, hs5⟩
            conv => whnf
            repeat' (first|((first|((first|(apply zY;intro hg)|apply zZ);first|exact stA|((conv=>whnf);(repeat ((first|(refine zW ?_ ?_;exact gA)|refine pC (constantsp_c _) wR ?_|refine pC (constantsp_c _) cA ?_|intro _);conv=>whnf));first|exact pS|exact pL|exact pE))|(refine zW ?_ ?_;exact gA)|refine zH rfl ?_|refine zA ?_|refine zI bA ?_|refine zI rfl ?_|refine zJ rfl rfl ?_|refine zB ?_|refine zK rfl ?_|refine zL rfl ?_|refine zC ?_|(refine zO ?_ ?_ ?_;omega;omega)|(refine zP ?_ ?_ ?_;omega;omega)|refine zM rfl ?_|(refine zQ ?_ ?_ ?_;omega;omega)|(refine zR ?_ ?_;omega)|(refine zI ?_ ?_;exact nA)|(refine zS ?_ ?_ ?_;omega;omega)|(refine zT ?_ ?_ ?_;omega;omega)|(refine zU ?_ ?_ ?_;omega;omega)|(refine zV ?_ ?_ ?_;omega;omega)|refine pC (constantsp_c _) wR ?_|refine pC (constantsp_c _) cA ?_|refine zN rfl rfl rfl ?_|refine zD ?_|refine zE ?_|refine zF ?_|intro _|refine zG ?_);conv=>whnf)|(refine zX (fun hc => ?_) (fun hc => ?_)<;>(try simp only [SY] at hc)<;>first|omega|(conv=>whnf)))
            · have hn := hc
              rw [Option.isSome_eq_false_iff, Option.isNone_iff_eq_none] at hn
              exact PRet.pure (Wk.int (by rw [ht, hn]; rfl))
            · obtain ⟨⟨s6, b6⟩, e6⟩ := Option.isSome_iff_exists.mp hc
              obtain ⟨rfl, rfl, rfl⟩ := hs5 s6 b6 e6
              have hbd6 := Trm.ckP_bd _ _ _ _ _ _ _ _ _ _ _ e6
              rw [e6] at ht
              exact loopTo (i + 1, sz5, b6, pb5) ⟨by show i + 1 ≤ _; omega, by show (0 : Int) ≤ sz5; omega, hbd6.2.1, ht⟩ (by show m.codes.length - (i + 1) < m.codes.length - i; omega) wA
          · have hb1 : (bindR m.codes[i].v bd).1 = false := by simpa using hg
            rw [if_neg (by rw [hb1]; simp)] at ht
            conv => whnf
            repeat' (first|((first|((first|(apply zY;intro hg)|apply zZ);first|exact stA|((conv=>whnf);(repeat ((first|(refine zW ?_ ?_;exact gA)|refine pC (constantsp_c _) wR ?_|refine pC (constantsp_c _) cA ?_|intro _);conv=>whnf));first|exact pS|exact pL|exact pE))|(refine zW ?_ ?_;exact gA)|refine zH rfl ?_|refine zA ?_|refine zI bA ?_|refine zI rfl ?_|refine zJ rfl rfl ?_|refine zB ?_|refine zK rfl ?_|refine zL rfl ?_|refine zC ?_|(refine zO ?_ ?_ ?_;omega;omega)|(refine zP ?_ ?_ ?_;omega;omega)|refine zM rfl ?_|(refine zQ ?_ ?_ ?_;omega;omega)|(refine zR ?_ ?_;omega)|(refine zI ?_ ?_;exact nA)|(refine zS ?_ ?_ ?_;omega;omega)|(refine zT ?_ ?_ ?_;omega;omega)|(refine zU ?_ ?_ ?_;omega;omega)|(refine zV ?_ ?_ ?_;omega;omega)|refine pC (constantsp_c _) wR ?_|refine pC (constantsp_c _) cA ?_|refine zN rfl rfl rfl ?_|refine zD ?_|refine zE ?_|refine zF ?_|intro _|refine zG ?_);conv=>whnf)|(refine zX (fun hc => ?_) (fun hc => ?_)<;>(try simp only [SY] at hc)<;>first|omega|(conv=>whnf)))
            exact PRet.pure (Wk.int (by rw [ht]; rfl))
        · have hr1 : m.codes[i].rest = true ∧ m.codes[i].v = [] := by
            simp at hg
            exact ⟨hg.1, hg.2⟩
          rw [if_pos hr1] at ht
          conv => whnf
          repeat' (first|((first|((first|(apply zY;intro hg)|apply zZ);first|exact stA|((conv=>whnf);(repeat ((first|(refine zW ?_ ?_;exact gA)|refine pC (constantsp_c _) wR ?_|refine pC (constantsp_c _) cA ?_|intro _);conv=>whnf));first|exact pS|exact pL|exact pE))|(refine zW ?_ ?_;exact gA)|refine zH rfl ?_|refine zA ?_|refine zI bA ?_|refine zI rfl ?_|refine zJ rfl rfl ?_|refine zB ?_|refine zK rfl ?_|refine zL rfl ?_|refine zC ?_|(refine zO ?_ ?_ ?_;omega;omega)|(refine zP ?_ ?_ ?_;omega;omega)|refine zM rfl ?_|(refine zQ ?_ ?_ ?_;omega;omega)|(refine zR ?_ ?_;omega)|(refine zI ?_ ?_;exact nA)|(refine zS ?_ ?_ ?_;omega;omega)|(refine zT ?_ ?_ ?_;omega;omega)|(refine zU ?_ ?_ ?_;omega;omega)|(refine zV ?_ ?_ ?_;omega;omega)|refine pC (constantsp_c _) wR ?_|refine pC (constantsp_c _) cA ?_|refine zN rfl rfl rfl ?_|refine zD ?_|refine zE ?_|refine zF ?_|intro _|refine zG ?_);conv=>whnf)|(refine zX (fun hc => ?_) (fun hc => ?_)<;>(try simp only [SY] at hc)<;>first|omega|(conv=>whnf)))
          exact PRet.pure (Wk.int (by rw [ht]; rfl))
      · rw [List.drop_of_length_le (by omega), modP] at ht
        exact PRet.pure (Wk.int (by rw [ht]; rfl))
end Go.Cb
namespace Go.Cb
open Go.Proofs
set_option maxRecDepth 100000
set_option maxHeartbeats 4000000
theorem Shift.ofGhost {x : PV} {Γ Γ' : List Ent} (g : Ghost Γ Γ') : Shift x Γ x Γ' := fun w0 F M w v hS hx => by
  obtain ⟨F', e, h⟩ := g w0 F M w hS
  exact ⟨F', e, h, Rep.mono e _ _ hx⟩
theorem Ghost.nilRowC (Γ : List Ent) : Ghost Γ (.row (nilTok 6 62) (([] : List Cod).map Cod.pv) :: Γ) := Ghost.nilRow _ _ _
theorem root13_c (b r : Nat) (t : Trm) (h : ClOk b r t) (hb : t.bulk ≤ 1000000000) : ACall Tryz.prog 66 [.ptr b 0, .agg t.cells, slI []] (mkrG b r (nilTok 6 62) [] (fun _ => none))
    (fun y Γ' => ∃ tk, y = .agg (t.clo false [] 0 (fun _ => none)).t.cells ∧ Γ' = [.box b [.sl 6 ((t.clo false [] 0 (fun _ => none)).c.map Cod.pv) none, .mp r], .tok tk, .mp r (.int .i64) (mapM Kn.pa (t.clo false [] 0 (fun _ => none)).fm) []]) :=
  (h (nilTok 6 62) [] (fun _ => none) [] rfl rfl (by simp; omega) (by simp)).shift fun y Γ' hq => by
    obtain ⟨tk', e, s, hy, hΓ⟩ := hq
    simp only [List.nil_append, List.length_nil] at hy hΓ
    subst hy hΓ
    exact ⟨_, _, Shift.ofGhost (Ghost.freezeRow (t := tk') (es := (t.clo false [] 0 (fun _ => none)).c.map Cod.pv) (b := b) (cs := [.ms tk', .mp r]) (cs' := [.sl 6 ((t.clo false [] 0 (fun _ => none)).c.map Cod.pv) none, .mp r]) (.cons (WkF.ms' s) (.cons (WkF.of (Wk.refl _)) .nil))), tk', rfl, rfl⟩
theorem RightP.shC {p : Prog} (h : RightP p 2) : p.body.shI ∧ p.body.shD := ⟨p.body.okT_shI (by decide) h.2.2.1, p.body.okT_shD h.2.2.1 h.2.2.2.2.2⟩
theorem conM_bulk {p : Prog} (h : RightP p 2) (hb : p.body.bulk ≤ 1048576) : (conM p).body.bulk + codsBulk (conM p).codes ≤ 1000000000 := by
  have h1 := (p.body.clo_bks false 20000 (by omega)).1 h.2.2.2.1 [] 0 (fun _ => none)
  have h2 := h.2.2.2.1
  show (p.body.clo false [] 0 (fun _ => none)).t.bulk + codsBulk (p.body.clo false [] 0 (fun _ => none)).c ≤ _
  omega
theorem noM_wk : Wk (.agg [.nil, .nil, .int .i64 0, .int .i64 0, .nil, .nil]) (.agg noM.cells) := Wk.agg (.cons (Wk.nil' rfl) (.cons (Wk.nil' rfl) (.cons (Wk.refl _) (.cons (Wk.refl _) (.cons (Wk.nil' rfl) (.cons (Wk.nil' rfl) .nil))))))
theorem conv13_c (p : Prog) (hb : p.body.bulk ≤ 1048576) (hl : p.consts.length ≤ 1000000000) :
    ACallP Tryz.prog 41 [.agg p.cells] (.tup [.agg (conv13 p).1.cells, .int .i64 (conv13 p).2]) := by
  have hen := check_eq p 2
  have hR : checkP p 2 = 0 → RightP p 2 := fun h => (checkD_right p 2).1 (by rw [← hen]; exact h)
  have hcl := cloneDat_c p.consts hl
  refine ACall.of_body tt_ok Tryz.func41 rfl rfl (n := 32) rfl rfl ?_
  conv => whnf
  repeat ((first|((first|(apply zY;intro hg)|apply zZ);first|exact stA|exact stB|((conv=>whnf);(repeat ((first|(refine zW ?_ ?_;exact gA)|refine pC (checkp_c p 2 (by omega) (by omega)) wR ?_|refine pC (hcl) wR ?_|refine zA ?_|refine zH rfl ?_|refine zB ?_|(refine yE ?_ ?_ ?_ ?_;assumption;omega;omega)|(refine yF ?_ rfl ?_;omega)|(apply yH;assumption)|(refine yI ?_ ?_;assumption)|intro _);conv=>whnf));first|exact pS|exact pL|exact pE))|(refine zW ?_ ?_;exact gA)|refine zH rfl ?_|refine zA ?_|refine zI bA ?_|refine zI rfl ?_|refine zJ rfl rfl ?_|refine zB ?_|refine zK rfl ?_|refine zL rfl ?_|refine zC ?_|(refine zO ?_ ?_ ?_;omega;omega)|(refine zP ?_ ?_ ?_;omega;omega)|refine zM rfl ?_|(refine zQ ?_ ?_ ?_;omega;omega)|(refine zR ?_ ?_;omega)|(refine zI ?_ ?_;exact nA)|(refine zS ?_ ?_ ?_;omega;omega)|(refine zT ?_ ?_ ?_;omega;omega)|(refine zU ?_ ?_ ?_;omega;omega)|(refine zV ?_ ?_ ?_;omega;omega)|refine pC (checkp_c p 2 (by omega) (by omega)) wR ?_|refine pC (hcl) wR ?_|(refine yA ?_ rfl ?_ ?_;assumption;exact lA)|(refine yB ?_ rfl ?_ ?_;assumption;exact lA)|(refine yC rfl ?_ ?_;exact lA)|(refine yD ?_ ?_ rfl ?_ ?_;assumption;assumption;exact lA)|(refine yE ?_ ?_ ?_ ?_;assumption;omega;omega)|(refine yF ?_ rfl ?_;omega)|(apply yH;assumption)|(refine yI ?_ ?_;assumption)|(refine yG ?_ rfl rfl rfl ?_;omega)|refine n0 ?_|refine zN rfl rfl rfl ?_|refine zD ?_|refine zE ?_|refine zF ?_|intro _);conv=>whnf)
  rename_i b1 b2
  refine zX (fun hc => ?_) (fun hc => ?_) <;> (try simp only [SY] at hc)
  · conv => whnf
    repeat ((first|((first|(apply zY;intro hg)|apply zZ);first|exact stA|exact stB|((conv=>whnf);(repeat ((first|(refine zW ?_ ?_;exact gA)|refine pC (checkp_c p 2 (by omega) (by omega)) wR ?_|refine pC (hcl) wR ?_|refine zA ?_|refine zH rfl ?_|refine zB ?_|(refine yE ?_ ?_ ?_ ?_;assumption;omega;omega)|(refine yF ?_ rfl ?_;omega)|(apply yH;assumption)|(refine yI ?_ ?_;assumption)|intro _);conv=>whnf));first|exact pS|exact pL|exact pE))|(refine zW ?_ ?_;exact gA)|refine zH rfl ?_|refine zA ?_|refine zI bA ?_|refine zI rfl ?_|refine zJ rfl rfl ?_|refine zB ?_|refine zK rfl ?_|refine zL rfl ?_|refine zC ?_|(refine zO ?_ ?_ ?_;omega;omega)|(refine zP ?_ ?_ ?_;omega;omega)|refine zM rfl ?_|(refine zQ ?_ ?_ ?_;omega;omega)|(refine zR ?_ ?_;omega)|(refine zI ?_ ?_;exact nA)|(refine zS ?_ ?_ ?_;omega;omega)|(refine zT ?_ ?_ ?_;omega;omega)|(refine zU ?_ ?_ ?_;omega;omega)|(refine zV ?_ ?_ ?_;omega;omega)|refine pC (checkp_c p 2 (by omega) (by omega)) wR ?_|refine pC (hcl) wR ?_|(refine yA ?_ rfl ?_ ?_;assumption;exact lA)|(refine yB ?_ rfl ?_ ?_;assumption;exact lA)|(refine yC rfl ?_ ?_;exact lA)|(refine yD ?_ ?_ rfl ?_ ?_;assumption;assumption;exact lA)|(refine yE ?_ ?_ ?_ ?_;assumption;omega;omega)|(refine yF ?_ rfl ?_;omega)|(apply yH;assumption)|(refine yI ?_ ?_;assumption)|(refine yG ?_ rfl rfl rfl ?_;omega)|refine n0 ?_|refine zN rfl rfl rfl ?_|refine zD ?_|refine zE ?_|refine zF ?_|intro _);conv=>whnf)
    have hcn : conv13 p = (noM, 5) := by rw [conv13, if_neg hc]
    rw [hcn]
    exact PRet.pure (Wk.tup (.cons noM_wk (.cons (Wk.refl _) .nil)))
  have hr := hR hc
  have hcb := conM_bulk hr hb
  have hcn : conv13 p = if mckP (conM p) = 0 then (conM p, 0) else (noM, 5) := by rw [conv13, if_pos hc]
  rw [hcn]
  conv => whnf
  repeat ((first|((first|(apply zY;intro hg)|apply zZ);first|exact stA|exact stB|((conv=>whnf);(repeat ((first|(refine zW ?_ ?_;exact gA)|refine pC (checkp_c p 2 (by omega) (by omega)) wR ?_|refine pC (hcl) wR ?_|refine zA ?_|refine zH rfl ?_|refine zB ?_|(refine yE ?_ ?_ ?_ ?_;assumption;omega;omega)|(refine yF ?_ rfl ?_;omega)|(apply yH;assumption)|(refine yI ?_ ?_;assumption)|intro _);conv=>whnf));first|exact pS|exact pL|exact pE))|(refine zW ?_ ?_;exact gA)|refine zH rfl ?_|refine zA ?_|refine zI bA ?_|refine zI rfl ?_|refine zJ rfl rfl ?_|refine zB ?_|refine zK rfl ?_|refine zL rfl ?_|refine zC ?_|(refine zO ?_ ?_ ?_;omega;omega)|(refine zP ?_ ?_ ?_;omega;omega)|refine zM rfl ?_|(refine zQ ?_ ?_ ?_;omega;omega)|(refine zR ?_ ?_;omega)|(refine zI ?_ ?_;exact nA)|(refine zS ?_ ?_ ?_;omega;omega)|(refine zT ?_ ?_ ?_;omega;omega)|(refine zU ?_ ?_ ?_;omega;omega)|(refine zV ?_ ?_ ?_;omega;omega)|refine pC (checkp_c p 2 (by omega) (by omega)) wR ?_|refine pC (hcl) wR ?_|(refine yA ?_ rfl ?_ ?_;assumption;exact lA)|(refine yB ?_ rfl ?_ ?_;assumption;exact lA)|(refine yC rfl ?_ ?_;exact lA)|(refine yD ?_ ?_ rfl ?_ ?_;assumption;assumption;exact lA)|(refine yE ?_ ?_ ?_ ?_;assumption;omega;omega)|(refine yF ?_ rfl ?_;omega)|(apply yH;assumption)|(refine yI ?_ ?_;assumption)|(refine yG ?_ rfl rfl rfl ?_;omega)|refine n0 ?_|refine zN rfl rfl rfl ?_|refine zD ?_|refine zE ?_|refine zF ?_|intro _);conv=>whnf)
  rename_i r b3
  rw [mapK_nil]
  refine PCall.goG (Ghost.trans (Ghost.nilRowC _) (Ghost.box (b := b3) (cs := [.nil, .mp r]) (cs' := [.ms (nilTok 6 62), .mp r]) (.cons (Wk.nilRow 6 62) (.cons (Wk.refl _) .nil)))) (root13_c b3 r p.body (clOk b3 r p.body hr.shC.1 hr.shC.2) (by omega)) (.cons (Wk.refl _) (.cons (Wk.refl _) (.cons (Wk.nil' rfl) .nil))) ?_
  rintro _ _ ⟨tk, rfl, rfl⟩
  have hck := checkModuleP_c (conM p) hcb hl (by
    have := (p.body.clo_lens false).1 [] 0 (fun _ => none)
    show (p.body.clo false [] 0 (fun _ => none)).c.length ≤ _
    omega)
  have hcm : conM p = ⟨p.consts, (p.body.clo false [] 0 (fun _ => none)).c, (p.body.clo false [] 0 (fun _ => none)).t⟩ := rfl
  rw [hcm] at hck ⊢
  generalize p.body.clo false [] 0 (fun _ => none) = a at *
  conv => whnf
  repeat' (first|((first|((first|(apply zY;intro hg)|apply zZ);first|exact stA|exact stB|((conv=>whnf);(repeat ((first|(refine zW ?_ ?_;exact gA)|refine pC (hcl) wR ?_|refine pC (hck) wR ?_|refine zA ?_|refine zH rfl ?_|refine zB ?_|(refine yE ?_ ?_ ?_ ?_;assumption;omega;omega)|(refine yF ?_ rfl ?_;omega)|(apply yH;assumption)|(refine yI ?_ ?_;assumption)|intro _);conv=>whnf));first|exact pS|exact pL|exact pE))|(refine zW ?_ ?_;exact gA)|refine zH rfl ?_|refine zA ?_|refine zI bA ?_|refine zI rfl ?_|refine zJ rfl rfl ?_|refine zB ?_|refine zK rfl ?_|refine zL rfl ?_|refine zC ?_|(refine zO ?_ ?_ ?_;omega;omega)|(refine zP ?_ ?_ ?_;omega;omega)|refine zM rfl ?_|(refine zQ ?_ ?_ ?_;omega;omega)|(refine zR ?_ ?_;omega)|(refine zI ?_ ?_;exact nA)|(refine zS ?_ ?_ ?_;omega;omega)|(refine zT ?_ ?_ ?_;omega;omega)|(refine zU ?_ ?_ ?_;omega;omega)|(refine zV ?_ ?_ ?_;omega;omega)|refine pC (hcl) wR ?_|refine pC (hck) wR ?_|(refine yA ?_ rfl ?_ ?_;assumption;exact lA)|(refine yB ?_ rfl ?_ ?_;assumption;exact lA)|(refine yC rfl ?_ ?_;exact lA)|(refine yD ?_ ?_ rfl ?_ ?_;assumption;assumption;exact lA)|(refine yE ?_ ?_ ?_ ?_;assumption;omega;omega)|(refine yF ?_ rfl ?_;omega)|(apply yH;assumption)|(refine yI ?_ ?_;assumption)|(refine yG ?_ rfl rfl rfl ?_;omega)|refine n0 ?_|refine zN rfl rfl rfl ?_|refine zD ?_|refine zE ?_|refine zF ?_|refine PDraw.sP (some 18) rfl [9] [10] tt_ok mixed ?_|intro _|refine zG ?_);conv=>whnf)|(refine zX (fun hc => ?_) (fun hc => ?_)<;>(try simp only [SY] at hc)<;>first|omega|(conv=>whnf)))
  · rw [if_neg hc]
    exact PRet.pure (Wk.tup (.cons noM_wk (.cons (Wk.refl _) .nil)))
  · rw [if_pos hc]
    exact PRet.pure (y := .tup [.agg (⟨p.consts, a.c, a.t⟩ : Mdl).cells, .int .i64 0]) (Wk.refl _)
end Go.Cb
namespace Go.Cb
open Go.Proofs
set_option maxRecDepth 100000
set_option maxHeartbeats 4000000
mutual
def Trm.ct (o : Int) : Trm → Nat
  | .mk op _ _ t => (if op = o then 1 else 0) + Trm.cts o t
def Trm.cts (o : Int) : List Trm → Nat
  | [] => 0
  | x :: xs => Trm.ct o x + Trm.cts o xs
end
theorem Trm.ct_eq (o : Int) (t : Trm) : t.ct o = (if t.op = o then 1 else 0) + Trm.cts o t.t := by cases t; rw [Trm.ct]; rfl
theorem Trm.ct_mk (o op n : Int) (v : List Int) (l : List Trm) : (Trm.mk op n v l).ct o = (if op = o then 1 else 0) + Trm.cts o l := by rw [Trm.ct]
theorem Trm.cts_append (o : Int) : ∀ l m : List Trm, Trm.cts o (l ++ m) = Trm.cts o l + Trm.cts o m
  | [], m => by simp [Trm.cts]
  | x :: l, m => by rw [List.cons_append, Trm.cts, Trm.cts, Trm.cts_append o l m]; omega
def cctS (o : Int) : List Cod → Nat
  | [] => 0
  | x :: l => x.body.ct o + cctS o l
theorem cctS_append (o : Int) : ∀ l m : List Cod, cctS o (l ++ m) = cctS o l + cctS o m
  | [], m => by simp [cctS]
  | x :: l, m => by rw [List.cons_append, cctS, cctS, cctS_append o l m]; omega
mutual
def Trm.opn : Trm → Nat
  | .mk op n v t => (if op = 4 ∧ (riseL (freeOf (Trm.all (.mk op n v t)))).length > 0 then 1 else 0) + Trm.opns t
def Trm.opns : List Trm → Nat
  | [] => 0
  | x :: xs => Trm.opn x + Trm.opns xs
end
theorem Trm.opn_eq (t : Trm) : t.opn = (if t.op = 4 ∧ (riseL (freeOf t.all)).length > 0 then 1 else 0) + Trm.opns t.t := by cases t; rw [Trm.opn]; rfl
mutual
def Trm.shR : Trm → Prop
  | .mk op _ _ t => ((op = 1 → t = []) ∧ op ≠ 19) ∧ Trm.shRs t
def Trm.shRs : List Trm → Prop
  | [] => True
  | x :: xs => Trm.shR x ∧ Trm.shRs xs
end
theorem Trm.shR_eq (t : Trm) : t.shR ↔ ((t.op = 1 → t.t = []) ∧ t.op ≠ 19) ∧ Trm.shRs t.t := by cases t; rw [Trm.shR]; rfl
theorem Trm.okT_shR {c codes : Int} {free : Bool} (t : Trm) : ∀ {scope : List Int} {deep : Int}, t.okT 2 c codes free scope deep → t.shR := by
  induction t using Trm.ind with
  | h t ih =>
    intro scope deep h
    rw [Trm.okT_eq] at h
    rw [Trm.shR_eq]
    have key : ∀ (op : Int) (sc inner : List Int) (deep : Int) (l : List Trm), (∀ y ∈ l, ∀ {scope : List Int} {deep : Int}, y.okT 2 c codes free scope deep → y.shR) → Trm.okTs 2 c codes free op sc inner l deep → Trm.shRs l := by
      intro op sc inner deep l
      induction l with
      | nil => intro _ _; rw [Trm.shRs]; trivial
      | cons x l ihl =>
        intro hy hk
        rw [Trm.okTs] at hk
        rw [Trm.shRs]
        exact ⟨hy x (by simp) hk.2.1, ihl (fun z hz => hy z (by simp [hz])) hk.2.2⟩
    have hts := h.2
    obtain ⟨⟨_, h2, h3, _⟩, _⟩ := h
    refine ⟨⟨fun e => ?_, fun e => ?_⟩, key _ _ _ _ _ ih hts⟩
    · unfold countsL at h3
      split at h3
      · cases h3
      · rw [if_pos (by omega)] at h3
        exact List.eq_nil_of_length_eq_zero (by simpa using h3)
    · rw [e] at h2
      revert h2
      decide
theorem refF_ct (o : Int) (h1 : o = 4 ∨ o = 19) (fm : Fm) (ov : List Int) (v : Int) : (refF fm ov v).ct o = 0 := by
  unfold refF
  split
  · rw [Trm.ct_mk, Trm.cts, if_neg (by omega)]
  · split
    · rw [Trm.ct_mk, Trm.cts, if_neg (by omega)]
    · rw [Trm.ct_mk, Trm.cts, if_neg (by omega)]
theorem refs_ct (o : Int) (h1 : o = 4 ∨ o = 19) (fm : Fm) (ov l : List Int) : Trm.cts o (l.map (refF fm ov)) = 0 := by
  induction l with
  | nil => rfl
  | cons x l ih => rw [List.map_cons, Trm.cts, refF_ct o h1, ih]
theorem cloT_ct (n : Int) (l : List Trm) (h : Trm.cts 19 l = 0) : (cloT n l).ct 19 ≤ 1 ∧ (l = [] → (cloT n l).ct 19 = 0) := by
  unfold cloT
  split
  · rw [Trm.ct_mk, Trm.cts]; exact ⟨by simp, fun _ => by simp⟩
  · rename_i hl
    rw [Trm.ct_mk, h]; exact ⟨by simp, fun e => by rw [e] at hl; simp at hl⟩
theorem over_none {t : Trm} (h4 : t.op = 4) (h : t.opn = 0) (fm : Fm) : overF fm t = [] := by
  rw [Trm.opn_eq] at h
  have : (riseL (freeOf t.all)).length = 0 := by
    by_cases hl : (riseL (freeOf t.all)).length > 0
    · rw [if_pos ⟨h4, hl⟩] at h; omega
    · omega
  rw [overF, List.eq_nil_of_length_eq_zero this]
  rfl
def NnOk (t : Trm) : Prop := ∀ ov n fm, (t.clo false ov n fm).c.length = t.ct 4 ∧ (t.clo false ov n fm).t.ct 19 + cctS 19 (t.clo false ov n fm).c ≤ t.ct 4 ∧ (t.opn = 0 → (t.clo false ov n fm).t.ct 19 + cctS 19 (t.clo false ov n fm).c = 0)
def NnB (t : Trm) : Prop := t.op = 4 → ∀ ov n fm, (t.cloB false ov n fm).c.length + 1 = t.ct 4 ∧ (t.cloB false ov n fm).t.ct 19 + cctS 19 (t.cloB false ov n fm).c + 1 ≤ t.ct 4 ∧ (t.opn = 0 → (t.cloB false ov n fm).t.ct 19 + cctS 19 (t.cloB false ov n fm).c = 0)
theorem Trm.clos_nn : ∀ l : List Trm, (∀ y ∈ l, NnOk y) → ∀ ov n fm, (Trm.clos false l ov n fm).c.length = Trm.cts 4 l ∧ Trm.cts 19 (Trm.clos false l ov n fm).t + cctS 19 (Trm.clos false l ov n fm).c ≤ Trm.cts 4 l ∧ (Trm.opns l = 0 → Trm.cts 19 (Trm.clos false l ov n fm).t + cctS 19 (Trm.clos false l ov n fm).c = 0)
  | [], _, ov, n, fm => by rw [Trm.clos]; simp [Trm.cts, cctS]
  | y :: l, h, ov, n, fm => by
    rw [Trm.clos, Trm.cts, Trm.opns]
    obtain ⟨a1, a2, a3⟩ := h y (by simp) ov n fm
    obtain ⟨b1, b2, b3⟩ := Trm.clos_nn l (fun z hz => h z (by simp [hz])) ov (n + (y.clo false ov n fm).c.length) (y.clo false ov n fm).fm
    dsimp only
    rw [List.length_append, Trm.cts, cctS_append]
    refine ⟨by omega, by omega, fun h0 => ?_⟩
    have := a3 (by omega)
    have := b3 (by omega)
    omega
theorem Trm.cloL_nn : ∀ l : List Trm, (∀ y ∈ l, NnOk y) → ∀ vs, l.length = vs.length + 1 → ∀ ov n fm lrn, (Trm.cloL false l vs ov n fm lrn).c.length = Trm.cts 4 l ∧ Trm.cts 19 (Trm.cloL false l vs ov n fm lrn).t + (Trm.cloL false l vs ov n fm lrn).last.ct 19 + cctS 19 (Trm.cloL false l vs ov n fm lrn).c ≤ Trm.cts 4 l ∧ (Trm.opns l = 0 → Trm.cts 19 (Trm.cloL false l vs ov n fm lrn).t + (Trm.cloL false l vs ov n fm lrn).last.ct 19 + cctS 19 (Trm.cloL false l vs ov n fm lrn).c = 0)
  | [], _, vs, hv, ov, n, fm, lrn => by simp at hv
  | y :: l, h, [], hv, ov, n, fm, lrn => by
    obtain rfl : l = [] := List.eq_nil_of_length_eq_zero (by simpa using hv)
    rw [Trm.cloL, Trm.cts, Trm.opns, Trm.cts, Trm.opns]
    obtain ⟨a1, a2, a3⟩ := h y (by simp) ov n (learnF false lrn fm)
    dsimp only
    rw [Trm.cts]
    refine ⟨by omega, by omega, fun h0 => ?_⟩
    have := a3 (by omega)
    omega
  | y :: l, h, v :: vs, hv, ov, n, fm, lrn => by
    rw [Trm.cloL, Trm.cts, Trm.opns]
    obtain ⟨a1, a2, a3⟩ := h y (by simp) ov n fm
    obtain ⟨b1, b2, b3⟩ := Trm.cloL_nn l (fun z hz => h z (by simp [hz])) vs (by simpa using hv) ov (n + (y.clo false ov n fm).c.length) (y.clo false ov n fm).fm (if y.op = 4 then lrn ++ [(v, ⟨n, (y.clo false ov n fm).t.op == 21⟩)] else lrn)
    dsimp only
    rw [List.length_append, cctS_append]
    generalize (if y.op = 4 then lrn ++ [(v, (⟨n, (y.clo false ov n fm).t.op == 21⟩ : Kn))] else lrn) = lrn2 at *
    split
    · refine ⟨by omega, by omega, fun h0 => ?_⟩
      have := a3 (by omega)
      have := b3 (by omega)
      omega
    · rw [Trm.cts]
      refine ⟨by omega, by omega, fun h0 => ?_⟩
      have := a3 (by omega)
      have := b3 (by omega)
      omega
theorem Trm.cloF_nn : ∀ l : List Trm, (∀ y ∈ l, NnOk y) → (∀ y ∈ l, NnB y) → ∀ vs, l.length = vs.length + 1 → (∀ y ∈ l.dropLast, y.op = 4) → ∀ ov c n fm, (Trm.cloF false l vs ov c n fm).own.length + (Trm.cloF false l vs ov c n fm).c.length = Trm.cts 4 l ∧ Trm.cts 19 (Trm.cloF false l vs ov c n fm).t + (Trm.cloF false l vs ov c n fm).last.ct 19 + cctS 19 (Trm.cloF false l vs ov c n fm).own + cctS 19 (Trm.cloF false l vs ov c n fm).c ≤ Trm.cts 4 l ∧ (Trm.opns l = 0 → (Trm.cloF false l vs ov c n fm).last.ct 19 + cctS 19 (Trm.cloF false l vs ov c n fm).own + cctS 19 (Trm.cloF false l vs ov c n fm).c = 0)
  | [], _, _, vs, hv, _, ov, c, n, fm => by simp at hv
  | y :: l, h, _, [], hv, _, ov, c, n, fm => by
    obtain rfl : l = [] := List.eq_nil_of_length_eq_zero (by simpa using hv)
    rw [Trm.cloF, Trm.cts, Trm.opns, Trm.cts, Trm.opns]
    obtain ⟨a1, a2, a3⟩ := h y (by simp) ov n fm
    dsimp only
    rw [Trm.cts, cctS]
    refine ⟨by simp; omega, by omega, fun h0 => ?_⟩
    have := a3 (by omega)
    omega
  | y :: l, h, k, v :: vs, hv, h4, ov, c, n, fm => by
    have hl0 : l ≠ [] := by intro e; rw [e] at hv; simp at hv
    rw [List.dropLast_cons_of_ne_nil hl0] at h4
    have hy4 := h4 y (by simp)
    rw [Trm.cloF, Trm.cts, Trm.opns]
    obtain ⟨a1, a2, a3⟩ := k y (by simp) hy4 (overF fm y) n fm
    obtain ⟨b1, b2, b3⟩ := Trm.cloF_nn l (fun z hz => h z (by simp [hz])) (fun z hz => k z (by simp [hz])) vs (by simpa using hv) (fun z hz => h4 z (by simp [hz])) ov (c + 1) (n + (y.cloB false (overF fm y) n fm).c.length) (y.cloB false (overF fm y) n fm).fm
    dsimp only
    rw [List.length_append, cctS_append, Trm.cts, cctS, Trm.ct_mk, refs_ct 19 (by omega), if_pos rfl, List.length_cons]
    dsimp only
    refine ⟨by omega, by omega, fun h0 => ?_⟩
    have := a3 (by omega)
    have := b3 (by omega)
    omega
theorem Trm.opns_zero : ∀ {l : List Trm}, Trm.opns l = 0 → ∀ x ∈ l, x.opn = 0
  | [], _, x, hx => by cases hx
  | y :: l, h, x, hx => by
    rw [Trm.opns] at h
    rcases List.mem_cons.1 hx with rfl | hx
    · omega
    · exact Trm.opns_zero (by omega) x hx
theorem Trm.shRs_mem : ∀ {l : List Trm}, Trm.shRs l → ∀ x ∈ l, x.shR
  | [], _, x, hx => by cases hx
  | y :: l, h, x, hx => by
    rw [Trm.shRs] at h
    rcases List.mem_cons.1 hx with rfl | hx
    · exact h.1
    · exact Trm.shRs_mem h.2 x hx
theorem Trm.clo_nn (t : Trm) : t.shI → t.shR → NnOk t ∧ NnB t := by
  induction t using Trm.ind with
  | h t ih =>
    intro hI hR
    rw [Trm.shI_eq] at hI
    rw [Trm.shR_eq] at hR
    obtain ⟨⟨s1, s2, s3, s4⟩, s5⟩ := hI
    obtain ⟨⟨r1, r2⟩, r3⟩ := hR
    have hx : ∀ y ∈ t.t, NnOk y ∧ NnB y := fun y hy => ih y hy (Trm.shIs_mem s5 y hy) (Trm.shRs_mem r3 y hy)
    have hB : NnB t := by
      intro h4 ov n fm
      rw [Trm.cloB_eq, t.ct_eq, if_pos h4, t.opn_eq]
      obtain ⟨z, hz⟩ : ∃ z, t.t = [z] := by
        have := s2 h4
        cases ht : t.t with
        | nil => rw [ht] at this; simp at this
        | cons z zs =>
          cases zs with
          | nil => exact ⟨z, rfl⟩
          | cons y ys => rw [ht] at this; simp at this
      rw [hz, Trm.cloH, Trm.cts, Trm.cts, Trm.opns, Trm.opns]
      obtain ⟨a1, a2, a3⟩ := (hx z (by rw [hz]; simp)).1 ov n fm
      refine ⟨by omega, by omega, fun h0 => ?_⟩
      have := a3 (by omega)
      omega
    refine ⟨?_, hB⟩
    intro ov n fm
    rw [Trm.clo_eq]
    split
    · rename_i h1
      rw [t.ct_eq, r1 h1, if_neg (by omega)]
      dsimp only
      rw [refF_ct 19 (by omega), Trm.cts, cctS]
      simp
    split
    · rename_i h4
      obtain ⟨a1, a2, a3⟩ := hB h4 (overF fm t) (n + 1) fm
      dsimp only
      rw [if_neg (by simp), List.length_cons, cctS]
      obtain ⟨c1, c2⟩ := cloT_ct n ((overF fm t).map (refF (t.cloB false (overF fm t) (n + 1) fm).fm ov)) (refs_ct 19 (by omega) _ _ _)
      refine ⟨a1, by dsimp only; omega, fun h0 => ?_⟩
      have := a3 h0
      have := c2 (by rw [over_none h4 h0]; rfl)
      dsimp only
      omega
    split
    · rename_i h8
      obtain ⟨a1, a2, a3⟩ := Trm.cloL_nn t.t (fun y hy => (hx y hy).1) t.v (s3 (.inl h8)) ov n fm []
      have e1 : t.ct 4 = Trm.cts 4 t.t := by rw [Trm.ct_eq, if_neg (by omega), Nat.zero_add]
      have e2 : t.opn = Trm.opns t.t := by rw [Trm.opn_eq, if_neg (by omega), Nat.zero_add]
      rw [e1, e2]
      dsimp only
      split
      · refine ⟨by omega, by omega, fun h0 => ?_⟩
        have := a3 (by omega)
        omega
      · rw [Trm.ct_mk, Trm.cts_append, Trm.cts, Trm.cts, if_neg (by omega)]
        refine ⟨by omega, by omega, fun h0 => ?_⟩
        have := a3 (by omega)
        omega
    split
    · rename_i h9
      obtain ⟨a1, a2, a3⟩ := Trm.cloF_nn t.t (fun y hy => (hx y hy).1) (fun y hy => (hx y hy).2) t.v (s3 (.inr h9)) (s4 h9) ov n (n + t.v.length) (fixF false t.v n (fixS fm t.v t.t) fm)
      have e1 : t.ct 4 = Trm.cts 4 t.t := by rw [Trm.ct_eq, if_neg (by omega), Nat.zero_add]
      have e2 : t.opn = Trm.opns t.t := by rw [Trm.opn_eq, if_neg (by omega), Nat.zero_add]
      rw [e1, e2]
      dsimp only
      rw [List.length_append, cctS_append]
      split
      · refine ⟨by omega, by omega, fun h0 => ?_⟩
        have := a3 (by omega)
        omega
      · rename_i hns
        rw [Trm.ct_mk, Trm.cts_append, Trm.cts, Trm.cts, if_neg (by omega)]
        refine ⟨by omega, by omega, fun h0 => ?_⟩
        exfalso
        apply hns
        unfold fixS
        rw [List.all_eq_true]
        intro y hy
        have hlen := s3 (.inr h9)
        have hy4 : y.op = 4 := s4 h9 y (by rw [List.dropLast_eq_take, hlen]; exact hy)
        rw [over_none hy4 (Trm.opns_zero (by omega) y (List.mem_of_mem_take hy))]
        rfl
    · rename_i h1 h4 h8 h9
      obtain ⟨a1, a2, a3⟩ := Trm.clos_nn t.t (fun y hy => (hx y hy).1) ov n fm
      have hcf : ¬(callF fm t.op t.n t.t).1 = 19 := by
        unfold callF
        split
        · split
          · simp
          · exact r2
        · exact r2
      have e1 : t.ct 4 = Trm.cts 4 t.t := by rw [Trm.ct_eq, if_neg h4, Nat.zero_add]
      have e2 : t.opn = Trm.opns t.t := by rw [Trm.opn_eq, if_neg (by omega), Nat.zero_add]
      rw [e1, e2]
      dsimp only
      rw [Trm.ct_mk, if_neg hcf]
      refine ⟨by omega, by omega, fun h0 => ?_⟩
      have := a3 (by omega)
      omega
end Go.Cb
namespace Go.Cb
open Go.Proofs
set_option maxRecDepth 100000
set_option maxHeartbeats 4000000
end Go.Cb
namespace Go.Cb
open Go.Proofs
set_option maxRecDepth 100000
set_option maxHeartbeats 4000000
def thiP : Prog := ⟨[.mk 0 1 1 [] []], .mk 9 0 [0] [.mk 4 0 [1] [.mk 5 0 [] [.mk 1 0 [] [], .mk 1 1 [] []]], .mk 5 0 [] [.mk 1 0 [] [], .mk 0 0 [] []]]⟩
def thiM : Mdl := ⟨[.mk 0 1 1 [] []], [⟨[1], false, .mk 22 0 [] [.mk 21 0 [] [], .mk 1 1 [] []]⟩], .mk 22 0 [] [.mk 21 0 [] [], .mk 0 0 [] []]⟩
theorem thi_over (fm : Fm) : overF fm (.mk 4 0 [1] [.mk 5 0 [] [.mk 1 0 [] [], .mk 1 1 [] []]]) = if stF fm 0 = true then [] else [0] := by
  have h : freeOf (Trm.all (.mk 4 0 [1] [.mk 5 0 [] [.mk 1 0 [] [], .mk 1 1 [] []]])) = [0] := by decide +kernel
  rw [overF, h, rise_one]
  cases h2 : stF fm 0 <;> simp [h2]
theorem thi_con : conM thiP = thiM := by
  simp [conM, thiP, thiM, Trm.clo, Trm.cloF, Trm.cloB, Trm.cloH, Trm.clos, fixS, fixF, setF, thi_over, stF, refF, codeF, callF, idxL]
  exact ⟨⟨rfl, by decide, rfl, rfl⟩, rfl, rfl⟩
theorem thi_conv : conv13 thiP = (thiM, 0) := by
  rw [conv13, if_pos (by decide), thi_con, if_pos (by decide)]
theorem thi_c {c v t : PV} [h1 : SlOf Datum.pv 5 c [.mk 0 1 1 [] []]] [h2 : SlOf (PV.int .i64) 1 v [0]] [h3 : SlOf Trm.pv 4 t [.mk 4 0 [1] [.mk 5 0 [] [.mk 1 0 [] [], .mk 1 1 [] []]], .mk 5 0 [] [.mk 1 0 [] [], .mk 0 0 [] []]]] :
    ACallP Tryz.prog 41 [.agg [c, .int .i64 9, .int .i64 0, v, t]] (.tup [.agg thiM.cells, .int .i64 0]) := by
  have h := conv13_c thiP (by decide) (by decide)
  rw [thi_conv] at h
  exact ACall.wk h (.cons (Wk.agg (.cons h1.wk (.cons (Wk.refl _) (.cons (Wk.refl _) (.cons h2.wk (.cons h3.wk .nil)))))) .nil)
theorem awake13_c : ACallP Tryz.prog 39 [] (.bool true) := by
  refine ACall.of_body tt_ok Tryz.func39 rfl rfl (n := 58) rfl rfl ?_
  conv => whnf
  repeat' (first|((first|((first|(apply zY;intro hg)|apply zZ);first|exact stA|exact stB|((conv=>whnf);(repeat ((first|(refine zW ?_ ?_;exact gA)|refine pC (thi_c) wR ?_|intro _);conv=>whnf));first|exact pS|exact pL|exact pE))|(refine zW ?_ ?_;exact gA)|refine zH rfl ?_|refine zA ?_|refine zI bA ?_|refine zI rfl ?_|refine zJ rfl rfl ?_|refine zB ?_|refine zK rfl ?_|refine zL rfl ?_|refine zC ?_|(refine zO ?_ ?_ ?_;omega;omega)|(refine zP ?_ ?_ ?_;omega;omega)|refine zM rfl ?_|(refine zQ ?_ ?_ ?_;omega;omega)|(refine zR ?_ ?_;omega)|(refine zI ?_ ?_;exact nA)|(refine zS ?_ ?_ ?_;omega;omega)|(refine zT ?_ ?_ ?_;omega;omega)|(refine zU ?_ ?_ ?_;omega;omega)|(refine zV ?_ ?_ ?_;omega;omega)|refine pC (thi_c) wR ?_|(refine yA ?_ rfl ?_ ?_;assumption;exact lA)|(refine yB ?_ rfl ?_ ?_;assumption;exact lA)|(refine yC rfl ?_ ?_;exact lA)|refine n0 ?_|refine zN rfl rfl rfl ?_|refine zD ?_|refine zE ?_|refine zF ?_|intro _|refine zG ?_);conv=>whnf)|(refine zX (fun hc => ?_) (fun hc => ?_)<;>(try simp only [SY] at hc)<;>first|omega|(conv=>whnf)))
  exact PRet.pure (Wk.bool rfl)
theorem few13_c (p : Prog) (n : Int) (h0 : 0 ≤ n) (h1 : n ≤ 1000000000) : ACallP Tryz.prog 40 [.agg p.cells, .int .i64 n] (.bool (decide (0 ≤ p.body.few n) && decide (0 ≤ Datum.fews p.consts 2000))) := by
  refine ACall.of_body tt_ok Tryz.func40 rfl rfl (n := 14) rfl rfl ?_
  conv => whnf
  repeat' (first|((first|((first|(apply zY;intro hg)|apply zZ);first|exact stA|exact stB|((conv=>whnf);(repeat ((first|(refine zW ?_ ?_;exact gA)|refine pC (FewTrm_c p.body n h0 h1) wR ?_|refine pC (FewTrm_c p.body n h0 h1) cA ?_|refine pC (FewAll_c p.consts 2000 (by omega) (by omega)) wR ?_|intro _);conv=>whnf));first|exact pS|exact pL|exact pE))|(refine zW ?_ ?_;exact gA)|refine zH rfl ?_|refine zA ?_|refine zI bA ?_|refine zI rfl ?_|refine zJ rfl rfl ?_|refine zB ?_|refine zK rfl ?_|refine zL rfl ?_|refine zC ?_|(refine zO ?_ ?_ ?_;omega;omega)|(refine zP ?_ ?_ ?_;omega;omega)|refine zM rfl ?_|(refine zQ ?_ ?_ ?_;omega;omega)|(refine zR ?_ ?_;omega)|(refine zI ?_ ?_;exact nA)|(refine zS ?_ ?_ ?_;omega;omega)|(refine zT ?_ ?_ ?_;omega;omega)|(refine zU ?_ ?_ ?_;omega;omega)|(refine zV ?_ ?_ ?_;omega;omega)|refine pC (FewTrm_c p.body n h0 h1) wR ?_|refine pC (FewTrm_c p.body n h0 h1) cA ?_|refine pC (FewAll_c p.consts 2000 (by omega) (by omega)) wR ?_|(refine yA ?_ rfl ?_ ?_;assumption;exact lA)|(refine yB ?_ rfl ?_ ?_;assumption;exact lA)|(refine yC rfl ?_ ?_;exact lA)|refine n0 ?_|refine zN rfl rfl rfl ?_|refine zD ?_|refine zE ?_|refine zF ?_|intro _|refine zG ?_);conv=>whnf)|(refine zX (fun hc => ?_) (fun hc => ?_)<;>(try simp only [SY] at hc)<;>first|omega|(conv=>whnf)))
  exact PRet.pure (Wk.refl _)
theorem conv13_ok {p : Prog} (h : (conv13 p).2 = 0) : RightP p 2 ∧ mckP (conM p) = 0 ∧ conv13 p = (conM p, 0) := by
  unfold conv13 at h ⊢
  split at h
  · rename_i h1
    split at h
    · rename_i h2
      rw [if_pos h1, if_pos h2]
      exact ⟨(checkD_right p 2).1 (by rw [← check_eq]; exact h1), h2, rfl⟩
    · cases h
  · cases h
theorem RightP.nn {p : Prog} (h : RightP p 2) : (conM p).codes.length = p.body.ct 4 ∧ (conM p).body.ct 19 + cctS 19 (conM p).codes ≤ p.body.ct 4 ∧ (p.body.opn = 0 → (conM p).body.ct 19 + cctS 19 (conM p).codes = 0) :=
  (p.body.clo_nn h.shC.1 (p.body.okT_shR h.2.2.1)).1 [] 0 (fun _ => none)
end Go.Cb
namespace Go.Cb
open Go.Proofs
set_option maxRecDepth 100000
set_option maxHeartbeats 4000000
instance : Dfl Cod := ⟨⟨[], false, noT⟩⟩
theorem ints_self (l : List Int) : ACallP Tryz.prog 70 [slI l, slI l] (.bool true) := by
  refine ACall.of_body tt_ok Tryz.func70 rfl rfl (n := 26) rfl rfl ?_
  conv => whnf
  repeat' (first|((first|((first|(apply zY;intro hg)|apply zZ);first|exact stA|exact stB)|(refine zW ?_ ?_;exact gA)|refine zH rfl ?_|refine zA ?_|refine zI bA ?_|refine zI rfl ?_|refine zJ rfl rfl ?_|refine zB ?_|refine zK rfl ?_|refine zL rfl ?_|refine zC ?_|(refine zO ?_ ?_ ?_;omega;omega)|(refine zP ?_ ?_ ?_;omega;omega)|refine zM rfl ?_|(refine zQ ?_ ?_ ?_;omega;omega)|(refine zR ?_ ?_;omega)|(refine zI ?_ ?_;exact nA)|(refine zS ?_ ?_ ?_;omega;omega)|(refine zT ?_ ?_ ?_;omega;omega)|(refine zU ?_ ?_ ?_;omega;omega)|(refine zV ?_ ?_ ?_;omega;omega)|(refine yA ?_ rfl ?_ ?_;assumption;exact lA)|(refine yB ?_ rfl ?_ ?_;assumption;exact lA)|(refine yC rfl ?_ ?_;exact lA)|refine n0 ?_|refine zN rfl rfl rfl ?_|refine zD ?_|refine zE ?_|refine zF ?_|refine PDraw.sP (some 17) rfl [] [] tt_ok mixed ?_|intro _|refine zG ?_);conv=>whnf)|(refine zX (fun hc => ?_) (fun hc => ?_)<;>(try simp only [SY] at hc)<;>first|omega|(conv=>whnf)))
  refine PLoop.keep [4, 5, 11, 12, 13, 14, 15, 16, 17, 18, 19, 20, 21, 22, 23, 24, 25] (fun i : Nat => [(5, .int .i64 i)]) (fun i => i ≤ l.length) (fun i => l.length - i) 0 (Nat.zero_le _) wA ?_
  rintro i hi
  conv => whnf
  repeat' (first|((first|((first|(apply zY;intro hg)|apply zZ);first|exact stA|exact stB)|(refine zW ?_ ?_;exact gA)|refine zH rfl ?_|refine zA ?_|refine zI bA ?_|refine zI rfl ?_|refine zJ rfl rfl ?_|refine zB ?_|refine zK rfl ?_|refine zL rfl ?_|refine zC ?_|(refine zO ?_ ?_ ?_;omega;omega)|(refine zP ?_ ?_ ?_;omega;omega)|refine zM rfl ?_|(refine zQ ?_ ?_ ?_;omega;omega)|(refine zR ?_ ?_;omega)|(refine zI ?_ ?_;exact nA)|(refine zS ?_ ?_ ?_;omega;omega)|(refine zT ?_ ?_ ?_;omega;omega)|(refine zU ?_ ?_ ?_;omega;omega)|(refine zV ?_ ?_ ?_;omega;omega)|(refine yA ?_ rfl ?_ ?_;assumption;exact lA)|(refine yB ?_ rfl ?_ ?_;assumption;exact lA)|(refine yC rfl ?_ ?_;exact lA)|refine n0 ?_|refine zN rfl rfl rfl ?_|refine zD ?_|refine zE ?_|refine zF ?_|refine PDraw.sP (some 17) rfl [] [] tt_ok mixed ?_|intro _|refine zG ?_);conv=>whnf)|(refine zX (fun hc => ?_) (fun hc => ?_)<;>(try simp only [SY] at hc)<;>first|omega|(conv=>whnf)))
  · exact loopTo (i + 1) (by show i + 1 ≤ _; omega) (by show l.length - (i + 1) < l.length - i; omega) wA
  · exact PRet.pure (Wk.tt rfl)
theorem sameM_self (M : Mdl) : ACallP Tryz.prog 43 [.agg M.cells, .agg M.cells] (.bool true) := by
  have h1 := consts_c M.consts M.consts
  rw [Datum.alks_self] at h1
  have h2 := alike_c M.body M.body
  rw [Trm.alk_self] at h2
  have h3 : ∀ c : Cod, ACallP Tryz.prog 61 [.agg c.body.cells, .agg c.body.cells] (.bool true) := fun c => by have := alike_c c.body c.body; rwa [Trm.alk_self] at this
  have h4 : ∀ c : Cod, ACallP Tryz.prog 70 [slI c.v, slI c.v] (.bool true) := fun c => ints_self c.v
  refine ACall.of_body tt_ok Tryz.func43 rfl rfl (n := 81) rfl rfl ?_
  conv => whnf
  repeat' (first|((first|((first|(apply zY;intro hg)|apply zZ);first|exact stA|exact stB|((conv=>whnf);(repeat ((first|(refine zW ?_ ?_;exact gA)|refine pC (h1) wR ?_|refine pC (h2) wR ?_|intro _);conv=>whnf));first|exact pS|exact pL|exact pE))|(refine zW ?_ ?_;exact gA)|refine zH rfl ?_|refine zA ?_|refine zI bA ?_|refine zI rfl ?_|refine zJ rfl rfl ?_|refine zB ?_|refine zK rfl ?_|refine zL rfl ?_|refine zC ?_|(refine zO ?_ ?_ ?_;omega;omega)|(refine zP ?_ ?_ ?_;omega;omega)|refine zM rfl ?_|(refine zQ ?_ ?_ ?_;omega;omega)|(refine zR ?_ ?_;omega)|(refine zI ?_ ?_;exact nA)|(refine zS ?_ ?_ ?_;omega;omega)|(refine zT ?_ ?_ ?_;omega;omega)|(refine zU ?_ ?_ ?_;omega;omega)|(refine zV ?_ ?_ ?_;omega;omega)|refine pC (h1) wR ?_|refine pC (h2) wR ?_|(refine yA ?_ rfl ?_ ?_;assumption;exact lA)|(refine yB ?_ rfl ?_ ?_;assumption;exact lA)|(refine yC rfl ?_ ?_;exact lA)|refine n0 ?_|refine zN rfl rfl rfl ?_|refine zD ?_|refine zE ?_|refine zF ?_|refine PDraw.sP (some 36) rfl [] [] tt_ok mixed ?_|intro _|refine zG ?_);conv=>whnf)|(refine zX (fun hc => ?_) (fun hc => ?_)<;>(try simp only [SY] at hc)<;>first|omega|(conv=>whnf)))
  refine PLoop.keep [4, 5, 29, 30, 31, 32, 33, 34, 35, 36, 37, 38, 39, 40, 41, 42, 43, 44, 45, 46, 47, 48, 49, 50, 51, 52, 53, 54, 55, 56, 57, 58, 59, 60, 61, 62, 63, 64, 65, 66, 67, 68, 69, 70, 71, 72, 73, 74, 75, 76, 77, 78, 79, 80] (fun i : Nat => [(5, .int .i64 i)]) (fun i => i ≤ M.codes.length) (fun i => M.codes.length - i) 0 (Nat.zero_le _) wA ?_
  rintro i hi
  conv => whnf
  repeat' (first|((first|((first|(apply zY;intro hg)|apply zZ);first|exact stA|exact stB|((conv=>whnf);(repeat ((first|(refine zW ?_ ?_;exact gA)|refine pC (h1) wR ?_|refine pC (h2) wR ?_|intro _);conv=>whnf));first|exact pS|exact pL|exact pE))|(refine zW ?_ ?_;exact gA)|refine zH rfl ?_|refine zA ?_|refine zI bA ?_|refine zI rfl ?_|refine zJ rfl rfl ?_|refine zB ?_|refine zK rfl ?_|refine zL rfl ?_|refine zC ?_|(refine zO ?_ ?_ ?_;omega;omega)|(refine zP ?_ ?_ ?_;omega;omega)|refine zM rfl ?_|(refine zQ ?_ ?_ ?_;omega;omega)|(refine zR ?_ ?_;omega)|(refine zI ?_ ?_;exact nA)|(refine zS ?_ ?_ ?_;omega;omega)|(refine zT ?_ ?_ ?_;omega;omega)|(refine zU ?_ ?_ ?_;omega;omega)|(refine zV ?_ ?_ ?_;omega;omega)|refine pC (h1) wR ?_|refine pC (h2) wR ?_|(refine yA ?_ rfl ?_ ?_;assumption;exact lA)|(refine yB ?_ rfl ?_ ?_;assumption;exact lA)|(refine yC rfl ?_ ?_;exact lA)|refine n0 ?_|refine zN rfl rfl rfl ?_|refine zD ?_|refine zE ?_|refine zF ?_|refine PDraw.sP (some 36) rfl [] [] tt_ok mixed ?_|intro _|refine zG ?_);conv=>whnf)|(refine zX (fun hc => ?_) (fun hc => ?_)<;>(try simp only [SY] at hc)<;>first|omega|(conv=>whnf)))
  · have e : (!if true = true then M.codes[i].rest != M.codes[i].rest else M.codes[i].rest == M.codes[i].rest) = true := by simp
    rw [e]
    conv => whnf
    repeat' (first|((first|((first|(apply zY;intro hg)|apply zZ);first|exact stA|exact stB|((conv=>whnf);(repeat ((first|(refine zW ?_ ?_;exact gA)|refine pC (h3 _) wR ?_|refine pC (h4 _) wR ?_|intro _);conv=>whnf));first|exact pS|exact pL|exact pE))|(refine zW ?_ ?_;exact gA)|refine zH rfl ?_|refine zA ?_|refine zI bA ?_|refine zI rfl ?_|refine zJ rfl rfl ?_|refine zB ?_|refine zK rfl ?_|refine zL rfl ?_|refine zC ?_|(refine zO ?_ ?_ ?_;omega;omega)|(refine zP ?_ ?_ ?_;omega;omega)|refine zM rfl ?_|(refine zQ ?_ ?_ ?_;omega;omega)|(refine zR ?_ ?_;omega)|(refine zI ?_ ?_;exact nA)|(refine zS ?_ ?_ ?_;omega;omega)|(refine zT ?_ ?_ ?_;omega;omega)|(refine zU ?_ ?_ ?_;omega;omega)|(refine zV ?_ ?_ ?_;omega;omega)|refine pC (h3 _) wR ?_|refine pC (h4 _) wR ?_|(refine yA ?_ rfl ?_ ?_;assumption;exact lA)|(refine yB ?_ rfl ?_ ?_;assumption;exact lA)|(refine yC rfl ?_ ?_;exact lA)|refine n0 ?_|refine zN rfl rfl rfl ?_|refine zD ?_|refine zE ?_|refine zF ?_|refine PDraw.sP (some 36) rfl [] [] tt_ok mixed ?_|intro _|refine zG ?_);conv=>whnf)|(refine zX (fun hc => ?_) (fun hc => ?_)<;>(try simp only [SY] at hc)<;>first|omega|(conv=>whnf)))
    · exfalso; simp at hc
    · exact loopTo (i + 1) (by show i + 1 ≤ _; omega) (by show M.codes.length - (i + 1) < M.codes.length - i; omega) wA
  · exact PRet.pure (Wk.tt rfl)
end Go.Cb
namespace Go.Cb
open Go.Proofs
set_option maxRecDepth 100000
set_option maxHeartbeats 4000000
def shFm (k : Int) (fm : Fm) : Fm := fun u => fm (u - k)
def Cod.sh (k : Int) (c : Cod) : Cod := ⟨c.v.map (· + k), c.rest, c.body.sh k⟩
def ClR.sh (k : Int) (r : ClR) : ClR := ⟨r.t.sh k, r.c.map (Cod.sh k), shFm k r.fm⟩
def ClL.sh (k : Int) (r : ClL) : ClL := ⟨r.v.map (· + k), r.t.map (Trm.sh k), r.last.sh k, r.own.map (Cod.sh k), r.c.map (Cod.sh k), shFm k r.fm⟩
theorem shFm_at (k : Int) (fm : Fm) (v : Int) : shFm k fm (v + k) = fm v := by rw [shFm, Int.add_sub_cancel]
theorem stF_sh (k : Int) (fm : Fm) (v : Int) : stF (shFm k fm) (v + k) = stF fm v := by rw [stF, stF, shFm_at]
theorem codeF_sh (k : Int) (fm : Fm) (v : Int) : codeF (shFm k fm) (v + k) = codeF fm v := by rw [codeF, codeF, shFm_at]
theorem setF_sh (w : Bool) (k : Int) (fm : Fm) (v : Int) (f : Kn) : setF w (shFm k fm) (v + k) f = shFm k (setF w fm v f) := by
  funext u
  unfold setF shFm
  by_cases h : u = v + k
  · have : u - k = v := by omega
    simp [h]
  · have : ¬u - k = v := by omega
    simp [h, this]
theorem learnF_sh (w : Bool) (k : Int) : ∀ (l : List (Int × Kn)) (fm : Fm), learnF w (l.map fun q => (q.1 + k, q.2)) (shFm k fm) = shFm k (learnF w l fm)
  | [], _ => rfl
  | x :: l, fm => by rw [List.map_cons, learnF, learnF, setF_sh, learnF_sh w k l]
theorem fixF_sh (w : Bool) (k : Int) (st : Bool) : ∀ (vs : List Int) (n : Int) (fm : Fm), fixF w (vs.map (· + k)) n st (shFm k fm) = shFm k (fixF w vs n st fm)
  | [], _, _ => rfl
  | v :: vs, n, fm => by rw [List.map_cons, fixF, fixF, setF_sh, fixF_sh w k st vs]
theorem sh_freeL (k : Int) (t : Trm) : riseL (freeOf (t.sh k).all) = (riseL (freeOf t.all)).map (· + k) := by
  rw [Trm.sh_all, ← rise_map]
  congr 1
  unfold freeOf
  rw [List.filter_map, List.map_map, List.map_map]
  have hc : ((fun m : Trm × List Int => namesB m.1.op && !m.2.contains m.1.n) ∘ fun m : Trm × List Int => (m.1.sh k, m.2.map (· + k))) = fun m => namesB m.1.op && !m.2.contains m.1.n := by
    funext m
    simp only [Function.comp, Trm.sh_op, Trm.sh_n]
    by_cases h : namesB m.1.op = true
    · rw [if_pos h, h]
      congr 2
      rw [Bool.eq_iff_iff, List.contains_iff_mem, List.contains_iff_mem, List.mem_map]
      constructor
      · rintro ⟨x, hx, e⟩
        have : x = m.1.n := by omega
        rw [← this]; exact hx
      · intro hx; exact ⟨_, hx, rfl⟩
    · rw [Bool.not_eq_true] at h
      rw [h]; rfl
  rw [hc]
  apply List.map_congr_left
  intro m hm
  rw [List.mem_filter, Bool.and_eq_true] at hm
  simp only [Function.comp, Trm.sh_n, hm.2.1, if_true]
theorem overF_sh (k : Int) (fm : Fm) (t : Trm) : overF (shFm k fm) (t.sh k) = (overF fm t).map (· + k) := by
  unfold overF
  rw [sh_freeL, List.filter_map]
  congr 2
  funext v
  simp only [Function.comp, stF_sh]
theorem idxL_sh (k v : Int) : ∀ (l : List Int) (i : Nat), idxL (l.map (· + k)) (v + k) i = idxL l v i
  | [], _ => rfl
  | x :: l, i => by
    rw [List.map_cons, idxL, idxL, idxL_sh k v l]
    by_cases h : v = x
    · simp [h]
    · have : ¬v + k = x + k := by omega
      rw [if_neg h, if_neg this]
theorem mk_sh (k : Int) {op : Int} (h : namesB op = false) (n : Int) (v : List Int) (l : List Trm) : (Trm.mk op n v l).sh k = .mk op n (v.map (· + k)) (l.map (Trm.sh k)) := by
  rw [Trm.sh, h, Trm.shs_eq]; rfl
theorem refF_sh (k : Int) (fm : Fm) (ov : List Int) (v : Int) : refF (shFm k fm) (ov.map (· + k)) (v + k) = (refF fm ov v).sh k := by
  unfold refF
  rw [stF_sh, codeF_sh, idxL_sh]
  split
  · rw [mk_sh k (by decide)]; rfl
  · split
    · rw [mk_sh k (by decide)]; rfl
    · rw [Trm.sh]; rfl
theorem refs_sh (k : Int) (fm : Fm) (ov l : List Int) : (l.map (· + k)).map (refF (shFm k fm) (ov.map (· + k))) = (l.map (refF fm ov)).map (Trm.sh k) := by
  rw [List.map_map, List.map_map]
  apply List.map_congr_left
  intro v _
  exact refF_sh k fm ov v
theorem cloT_sh (k n : Int) (l : List Trm) : cloT n (l.map (Trm.sh k)) = (cloT n l).sh k := by
  unfold cloT
  rw [List.length_map]
  split
  · rw [mk_sh k (by decide)]; rfl
  · rw [mk_sh k (by decide)]; rfl
theorem fixS_sh (k : Int) (fm : Fm) (vs : List Int) (t : List Trm) : fixS (shFm k fm) (vs.map (· + k)) (t.map (Trm.sh k)) = fixS fm vs t := by
  unfold fixS
  rw [List.length_map, ← List.map_take, List.all_map]
  congr 1
  funext x
  simp only [Function.comp]
  rw [overF_sh, List.all_map]
  congr 1
  funext u
  simp only [Function.comp]
  rw [Bool.eq_iff_iff, List.contains_iff_mem, List.contains_iff_mem, List.mem_map]
  constructor
  · rintro ⟨y, hy, e⟩
    have : y = u := by omega
    rw [← this]; exact hy
  · intro hx; exact ⟨_, hx, rfl⟩
theorem headT_sh (k : Int) (t : List Trm) : (t.map (Trm.sh k)).headD (.mk 0 0 [] []) = (t.headD (.mk 0 0 [] [])).sh k := by
  cases t with
  | nil => rw [List.map_nil, List.headD_nil, mk_sh k (by decide)]; rfl
  | cons x xs => rfl
def ShOk (w : Bool) (k : Int) (t : Trm) : Prop := ∀ ov n fm, (t.sh k).clo w (ov.map (· + k)) n (shFm k fm) = (t.clo w ov n fm).sh k
def ShB (w : Bool) (k : Int) (t : Trm) : Prop := ∀ ov n fm, (t.sh k).cloB w (ov.map (· + k)) n (shFm k fm) = (t.cloB w ov n fm).sh k
theorem noT_sh (k : Int) : noT.sh k = noT := by rw [mk_sh k (by decide)]; rfl
theorem own_sh (w : Bool) (k : Int) (f1 f2 : Fm) (t : Trm) : (if w = true then overF (shFm k f1) (t.sh k) else overF (shFm k f2) (t.sh k)) = (if w = true then overF f1 t else overF f2 t).map (· + k) := by
  split <;> exact overF_sh k _ t
theorem Trm.clos_sh (w : Bool) (k : Int) : ∀ l : List Trm, (∀ y ∈ l, ShOk w k y) → ∀ ov n fm, Trm.clos w (l.map (Trm.sh k)) (ov.map (· + k)) n (shFm k fm) = (Trm.clos w l ov n fm).sh k
  | [], _, ov, n, fm => by rw [List.map_nil, Trm.clos, Trm.clos, ClL.sh, noT_sh]; rfl
  | y :: l, h, ov, n, fm => by
    rw [List.map_cons, Trm.clos, Trm.clos, h y (by simp) ov n fm]
    have b := Trm.clos_sh w k l (fun z hz => h z (by simp [hz])) ov (n + (y.clo w ov n fm).c.length) (y.clo w ov n fm).fm
    simp only [ClR.sh, List.length_map] at b ⊢
    rw [b]
    simp only [ClL.sh, List.map_append, List.map_cons, List.map_nil, noT_sh]
theorem Trm.cloL_sh (w : Bool) (k : Int) : ∀ l : List Trm, (∀ y ∈ l, ShOk w k y) → ∀ vs ov n fm lrn, Trm.cloL w (l.map (Trm.sh k)) (vs.map (· + k)) (ov.map (· + k)) n (shFm k fm) (lrn.map fun q => (q.1 + k, q.2)) = (Trm.cloL w l vs ov n fm lrn).sh k
  | [], _, vs, ov, n, fm, lrn => by rw [List.map_nil, Trm.cloL, Trm.cloL, ClL.sh, noT_sh, learnF_sh]; rfl
  | y :: l, h, [], ov, n, fm, lrn => by
    rw [List.map_cons, List.map_nil, Trm.cloL, Trm.cloL, learnF_sh, h y (by simp) ov n (learnF w lrn fm)]
    rfl
  | y :: l, h, v :: vs, ov, n, fm, lrn => by
    rw [List.map_cons, List.map_cons, Trm.cloL, Trm.cloL, h y (by simp) ov n fm]
    have hl : (if (y.sh k).op = 4 then (lrn.map fun q => (q.1 + k, q.2)) ++ [(v + k, (⟨n, ((y.clo w ov n fm).sh k).t.op == 21⟩ : Kn))] else lrn.map fun q => (q.1 + k, q.2)) = (if y.op = 4 then lrn ++ [(v, (⟨n, (y.clo w ov n fm).t.op == 21⟩ : Kn))] else lrn).map fun q => (q.1 + k, q.2) := by
      rw [Trm.sh_op, ClR.sh]
      simp only [Trm.sh_op]
      split <;> simp
    have b := Trm.cloL_sh w k l (fun z hz => h z (by simp [hz])) vs ov (n + (y.clo w ov n fm).c.length) (y.clo w ov n fm).fm (if y.op = 4 then lrn ++ [(v, ⟨n, (y.clo w ov n fm).t.op == 21⟩)] else lrn)
    rw [hl]
    simp only [ClR.sh, List.length_map, Trm.sh_op] at b ⊢
    rw [b]
    generalize Trm.cloL w l vs ov (n + (y.clo w ov n fm).c.length) (y.clo w ov n fm).fm (if y.op = 4 then lrn ++ [(v, ⟨n, (y.clo w ov n fm).t.op == 21⟩)] else lrn) = B
    simp only [ClL.sh, List.map_append, List.map_nil]
    split <;> rfl
theorem Trm.cloF_sh (w : Bool) (k : Int) : ∀ l : List Trm, (∀ y ∈ l, ShOk w k y) → (∀ y ∈ l, ShB w k y) → (∀ y ∈ l.dropLast, y.op = 4) → ∀ vs, l.length = vs.length + 1 → ∀ ov c n fm, Trm.cloF w (l.map (Trm.sh k)) (vs.map (· + k)) (ov.map (· + k)) c n (shFm k fm) = (Trm.cloF w l vs ov c n fm).sh k
  | [], _, _, _, vs, hv, ov, c, n, fm => by simp at hv
  | y :: l, h, _, _, [], hv, ov, c, n, fm => by
    rw [List.map_cons, List.map_nil, Trm.cloF, Trm.cloF, h y (by simp) ov n fm]
    rfl
  | y :: l, h, hB, h4, v :: vs, hv, ov, c, n, fm => by
    have hl0 : l ≠ [] := by intro e; rw [e] at hv; simp at hv
    rw [List.dropLast_cons_of_ne_nil hl0] at h4
    have hy4 := h4 y (by simp)
    have hyn : (y.sh k).n = y.n := by rw [Trm.sh_n, hy4, if_neg (by decide)]
    rw [List.map_cons, List.map_cons, Trm.cloF, Trm.cloF, overF_sh, hB y (by simp) (overF fm y) n fm]
    have b := Trm.cloF_sh w k l (fun z hz => h z (by simp [hz])) (fun z hz => hB z (by simp [hz])) (fun z hz => h4 z (by simp [hz])) vs (by simpa using hv) ov (c + 1) (n + (y.cloB w (overF fm y) n fm).c.length) (y.cloB w (overF fm y) n fm).fm
    have ho := own_sh w k (y.cloB w (overF fm y) n fm).fm fm y
    rw [overF_sh k fm y] at ho
    simp only [ClR.sh, List.length_map] at b ho ⊢
    rw [b, ho, refs_sh, hyn, Trm.sh_v]
    generalize Trm.cloF w l vs ov (c + 1) (n + (y.cloB w (overF fm y) n fm).c.length) (y.cloB w (overF fm y) n fm).fm = B
    simp only [ClL.sh, List.map_append, List.map_cons, List.map_nil, mk_sh k (show namesB 19 = false by decide), Cod.sh]
theorem Trm.clo_shs (w : Bool) (k : Int) (t : Trm) : t.shI → ShOk w k t ∧ ShB w k t := by
  induction t using Trm.ind with
  | h t ih =>
    intro hI
    rw [Trm.shI_eq] at hI
    obtain ⟨⟨s1, s2, s3, s4⟩, s5⟩ := hI
    have hx : ∀ y ∈ t.t, ShOk w k y ∧ ShB w k y := fun y hy => ih y hy (Trm.shIs_mem s5 y hy)
    have hB : ShB w k t := by
      intro ov n fm
      rw [Trm.cloB_eq, Trm.cloB_eq, Trm.sh_t]
      cases ht : t.t with
      | nil => rw [List.map_nil, Trm.cloH, Trm.cloH, ClR.sh, noT_sh]; rfl
      | cons z zs => rw [List.map_cons, Trm.cloH, Trm.cloH]; exact (hx z (by rw [ht]; simp)).1 ov n fm
    refine ⟨?_, hB⟩
    intro ov n fm
    rw [Trm.clo_eq, Trm.clo_eq w t, Trm.sh_op]
    split
    · rename_i h1
      rw [Trm.sh_n, h1, if_pos (by decide), refF_sh]
      rfl
    split
    · rename_i h4
      have hn : (t.sh k).n = t.n := by rw [Trm.sh_n, h4, if_neg (by decide)]
      rw [overF_sh, hB (overF fm t) (n + 1) fm, hn, Trm.sh_v]
      have ho := own_sh w k (t.cloB w (overF fm t) (n + 1) fm).fm fm t
      rw [overF_sh k fm t] at ho
      simp only [ClR.sh] at ho ⊢
      rw [ho, refs_sh, cloT_sh]
      rfl
    split
    · have b := Trm.cloL_sh w k t.t (fun y hy => (hx y hy).1) t.v ov n fm []
      rw [List.map_nil] at b
      rw [Trm.sh_t, Trm.sh_v, b]
      generalize Trm.cloL w t.t t.v ov n fm [] = B
      simp only [ClL.sh, ClR.sh, List.length_map]
      split
      · rfl
      · rw [mk_sh k (by decide), List.map_append]; rfl
    split
    · rename_i h9
      have b := Trm.cloF_sh w k t.t (fun y hy => (hx y hy).1) (fun y hy => (hx y hy).2) (s4 h9) t.v (s3 (.inr h9)) ov n (n + t.v.length) (fixF w t.v n (fixS fm t.v t.t) fm)
      rw [Trm.sh_t, Trm.sh_v, fixS_sh, fixF_sh, List.length_map, b]
      generalize Trm.cloF w t.t t.v ov n (n + t.v.length) (fixF w t.v n (fixS fm t.v t.t) fm) = B
      simp only [ClL.sh, ClR.sh]
      split
      · simp only [List.map_append]
      · rw [mk_sh k (by decide)]; simp only [List.map_append, List.map_cons, List.map_nil]
    · have b := Trm.clos_sh w k t.t (fun y hy => (hx y hy).1) ov n fm
      rw [Trm.sh_t, Trm.sh_v, b]
      have hcf : callF (shFm k fm) t.op (t.sh k).n (t.t.map (Trm.sh k)) = ((callF fm t.op t.n t.t).1, if namesB (callF fm t.op t.n t.t).1 = true then (callF fm t.op t.n t.t).2 + k else (callF fm t.op t.n t.t).2) := by
        unfold callF
        rw [headT_sh, Trm.sh_op, Trm.sh_n, Trm.sh_n]
        by_cases hc : t.op = 5 ∧ (t.t.headD (.mk 0 0 [] [])).op = 1
        · rw [if_pos hc, if_pos hc, hc.2, if_pos (by decide), shFm_at]
          cases fm (t.t.headD (.mk 0 0 [] [])).n with
          | some f => rfl
          | none => rfl
        · rw [if_neg hc, if_neg hc]
      rw [hcf]
      generalize Trm.clos w t.t ov n fm = B
      simp only [ClL.sh, ClR.sh]
      rw [Trm.sh, Trm.shs_eq]
end Go.Cb
namespace Go.Cb
open Go.Proofs
set_option maxRecDepth 100000
set_option maxHeartbeats 4000000
theorem bits_small (a : Int) : 0 ≤ bitsOf .and .i64 a 1023 ∧ bitsOf .and .i64 a 1023 ≤ 1023 := by
  have e : ∀ v : Nat, v ≤ 1023 → IntKind.wrap .i64 (v : Int) = v := fun v hv => by
    simp [IntKind.wrap, IntKind.bits, IntKind.signed]; omega
  have h : (BitVec.ofInt IntKind.i64.bits a &&& BitVec.ofInt IntKind.i64.bits 1023).toNat ≤ 1023 := by
    rw [BitVec.toNat_and]
    exact Nat.le_trans Nat.and_le_right (by decide)
  unfold bitsOf
  simp only
  rw [e _ h]
  omega
theorem wrap_id {v : Int} (h0 : 0 ≤ v) (h1 : v ≤ 1000000000) : IntKind.i64.wrap v = v := by simp [IntKind.wrap, IntKind.bits, IntKind.signed]; omega
theorem Trm.shw_sh (k : Int) (h0 : 0 ≤ k) (h1 : k ≤ 1000000) (t : Trm) : (∀ v, v ∈ t.nam ∨ v ∈ t.asg → 0 ≤ v ∧ v ≤ 1000000) → t.shw k = t.sh k := by
  induction t using Trm.ind with
  | h t ih =>
    intro hv
    obtain ⟨op, n, v, l⟩ := t
    rw [Trm.shw, Trm.sh, Trm.shws_eq, Trm.shs_eq]
    rw [Trm.nam, Trm.asg] at hv
    have hn : ∀ y ∈ l, ∀ w, w ∈ y.nam → w ∈ Trm.nams l := by
      intro y hy w hw
      have key : ∀ m : List Trm, y ∈ m → w ∈ Trm.nams m := by
        intro m
        induction m with
        | nil => intro h; cases h
        | cons z m ihm => intro h; rw [Trm.nams, List.mem_append]; rcases List.mem_cons.1 h with rfl | h
                          · exact .inl hw
                          · exact .inr (ihm h)
      exact key l hy
    have ha : ∀ y ∈ l, ∀ w, w ∈ y.asg → w ∈ Trm.asgs l := by
      intro y hy w hw
      rw [Trm.asgs_flat, List.mem_flatMap]
      exact ⟨y, hy, hw⟩
    have e1 : (if namesB op = true then IntKind.i64.wrap (n + k) else n) = if namesB op = true then n + k else n := by
      split
      · rename_i hb
        have : n ∈ (if op = 1 then [n] else []) ++ v ++ Trm.nams l ∨ n ∈ (if op = 2 ∨ op = 14 then [n] else []) ++ Trm.asgs l := by
          simp [namesB] at hb
          rcases hb with (h | h) | h
          · left; simp [h]
          · right; simp [h]
          · right; simp [h]
        have := hv n this
        exact wrap_id (by omega) (by omega)
      · rfl
    have e2 : (v.map fun x => IntKind.i64.wrap (x + k)) = v.map (· + k) := List.map_congr_left fun x hx => by
      have := hv x (.inl (by simp [hx]))
      exact wrap_id (by omega) (by omega)
    have e3 : l.map (Trm.shw k) = l.map (Trm.sh k) := List.map_congr_left fun y hy => ih y hy fun w hw => hv w (by
      rcases hw with hw | hw
      · exact .inl (by simp [hn y hy w hw])
      · exact .inr (by simp [ha y hy w hw]))
    rw [e1, e2, e3]
theorem RightP.names {p : Prog} {level : Int} (h : RightP p level) : ∀ v, v ∈ p.body.nam ∨ v ∈ p.body.asg → v ∈ p.body.vars := fun v hv => by
  rcases p.body.okT_nam h.2.2.1 v hv with h2 | h2
  · cases h2
  · exact h2
theorem RightP.shw {p : Prog} {level k : Int} (h : RightP p level) (h0 : 0 ≤ k) (h1 : k ≤ 1000000) : p.body.shw k = p.body.sh k :=
  p.body.shw_sh k h0 h1 fun v hv => h.fits.2.2 v (h.names v hv)
end Go.Cb

