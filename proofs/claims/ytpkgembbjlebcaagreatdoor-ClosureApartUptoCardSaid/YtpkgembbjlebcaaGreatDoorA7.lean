/-
  Contracts: all variables greater by the same, of any term.
  Contracts: the maker of closures: bodies, procedures.
  Contracts: the maker of closures: Let.
  Drawn regions with two effects that no order binds to one another: both orders are walked.
  Drawn regions with a read that no order binds to two effects: it is walked at each place.
  Contracts: the maker of closures: Fix.
  Contracts: the maker of closures: terms.
  Plain law: the module's size; the shape that the maker needs.
  Contracts: variables that are assigned become boxes, the program.
-/
import Derived.Test.YtpkgembbjlebcaaGreatDoorA6
set_option linter.unusedSimpArgs false
set_option linter.unusedVariables false
namespace Go.Cb
open Go.Proofs
set_option maxRecDepth 100000
set_option maxHeartbeats 4000000
section
variable {P : Program} {tt : Nat → TI}
theorem PLoop.ghost {B : List PV → List Ent → Ds → QT → Prop} {T : List PV} {Γ Γ' : List Ent} {D : Ds} {Q : QT} (hg : Ghost Γ Γ') (h : PLoop B T Γ' D Q) : PLoop B T Γ D Q := by
  obtain ⟨I, J, ⟨n, T0, Γ0, h1, h2⟩, h3, h4⟩ := h.h
  refine ⟨I, J, ⟨n, T0, Γ0, fun w0 F M w vs hS hT => ?_, h2⟩, h3, h4⟩
  obtain ⟨F1, e1, hS1⟩ := hg w0 F M w hS
  obtain ⟨F2, e2, hS2, hT2⟩ := h1 w0 F1 M w vs hS1 (RepT.mono e1 _ _ hT)
  exact ⟨F2, Fz.le_trans e1 e2, hS2, hT2⟩
theorem PInt.w {k : IntKind} {v : Int} {K : Int → Prop} (h : K (k.wrap v)) : PInt k v K := ⟨h⟩
end
mutual
def Trm.shw (k : Int) : Trm → Trm
  | .mk op n v t => .mk op (if namesB op = true then IntKind.i64.wrap (n + k) else n) (v.map fun x => IntKind.i64.wrap (x + k)) (Trm.shws k t)
def Trm.shws (k : Int) : List Trm → List Trm
  | [] => []
  | x :: xs => Trm.shw k x :: Trm.shws k xs
end
end Go.Cb
namespace Go.Cb
open Go.Proofs
set_option maxRecDepth 100000
set_option maxHeartbeats 4000000
def ClOk (b r : Nat) (x : Trm) : Prop := ∀ tk A fm ov, tk.e = 62 → tk.s = 6 → A.length + x.bulk ≤ 1000000000 → ov.length ≤ 1000000000 →
  ACall Tryz.prog 66 [.ptr b 0, .agg x.cells, slI ov] (mkrG b r tk A fm) (fun y Γ' => ∃ tk', tk'.e = 62 ∧ tk'.s = 6 ∧ y = .agg (x.clo false ov A.length fm).t.cells ∧ Γ' = mkrG b r tk' (A ++ (x.clo false ov A.length fm).c) (x.clo false ov A.length fm).fm)
theorem overF_len (fm : Fm) (t : Trm) : (overF fm t).length ≤ t.bulk := Nat.le_trans (List.length_filter_le _ _) (freeL_len t)
theorem fill13_c (b r : Nat) (tk : Tok) (A : List Cod) (fm : Fm) (n : Nat) (t x : Trm) (hA : A[n]? = some ⟨t.v, t.n == 1, noT⟩) (xs : List Trm) (ht : t.t = x :: xs) (hx : ClOk b r x) (ov : List Int) (h1 : tk.e = 62) (h2 : tk.s = 6) (hb : A.length + x.bulk ≤ 1000000000) (htb : t.bulk ≤ 1000000000) (hov : ov.length ≤ 1000000000) :
    ACall Tryz.prog 144 [.ptr b 0, .int .i64 n, .agg t.cells, slI ov] (mkrG b r tk A fm)
      (fun y Γ' => ∃ tk' tk2 : Tok, tk'.e = 62 ∧ tk'.s = 6 ∧ y = .sl 4 (((overF fm t).map (refF (t.cloB false (overF fm t) A.length fm).fm ov)).map Trm.pv) (some tk2) ∧
        Γ' = .tok tk2 :: mkrG b r tk' (A.set n ⟨t.v, t.n == 1, (t.cloB false (overF fm t) A.length fm).t⟩ ++ (t.cloB false (overF fm t) A.length fm).c) (t.cloB false (overF fm t) A.length fm).fm) := by
  obtain ⟨hn, hAn⟩ := List.getElem?_eq_some_iff.1 hA
  have hbe := t.bulk_eq
  have hbx : Trm.bulks t.t = x.bulk + Trm.bulks xs := by rw [ht, Trm.bulks]
  have hol := overF_len fm t
  have hl0 : 0 < t.t.length := by rw [ht]; simp
  have h0 : t.t[0] = x := by simp [ht]
  have hcb : ∀ ov n fm, t.cloB false ov n fm = x.clo false ov n fm := fun ov n fm => by rw [Trm.cloB_eq, ht, Trm.cloH]
  rw [hcb]
  refine ACall.of_body tt_ok Tryz.func144 rfl rfl (n := 47) rfl rfl ?_
  conv => whnf
  repeat ((first|((first|(apply zY;intro hg)|apply zZ);first|exact stA|exact stB|((conv=>whnf);(repeat ((first|(refine zW ?_ ?_;exact gA)|refine zA ?_|refine zH rfl ?_|refine zB ?_|(refine yE ?_ ?_ ?_ ?_;assumption;omega;omega)|(refine yF ?_ rfl ?_;omega)|(apply yH;assumption)|(refine yI ?_ ?_;assumption)|intro _);conv=>whnf));first|exact pS|exact pL|exact pE))|(refine zW ?_ ?_;exact gA)|refine zH rfl ?_|refine zA ?_|refine zI bA ?_|refine zI rfl ?_|refine zJ rfl rfl ?_|refine zB ?_|refine zK rfl ?_|refine zL rfl ?_|refine zC ?_|(refine zO ?_ ?_ ?_;omega;omega)|(refine zP ?_ ?_ ?_;omega;omega)|refine zM rfl ?_|(refine zQ ?_ ?_ ?_;omega;omega)|(refine zR ?_ ?_;omega)|(refine zI ?_ ?_;exact nA)|(refine zS ?_ ?_ ?_;omega;omega)|(refine zT ?_ ?_ ?_;omega;omega)|(refine zU ?_ ?_ ?_;omega;omega)|(refine zV ?_ ?_ ?_;omega;omega)|(refine yA ?_ rfl ?_ ?_;assumption;exact lA)|(refine yB ?_ rfl ?_ ?_;assumption;exact lA)|(refine yC rfl ?_ ?_;exact lA)|(refine yD ?_ ?_ rfl ?_ ?_;assumption;assumption;exact lA)|(refine yE ?_ ?_ ?_ ?_;assumption;omega;omega)|(refine yF ?_ rfl ?_;omega)|(apply yH;assumption)|(refine yI ?_ ?_;assumption)|(refine yG ?_ rfl rfl rfl ?_;omega)|refine n0 ?_|refine zN rfl rfl rfl ?_|refine zD ?_|refine zE ?_|refine zF ?_|intro _);conv=>whnf)
  rename_i b6
  refine PCall.go (over13_c b r tk A fm t (by omega)) (WkT.refl _) ?_
  rintro _ _ ⟨rfl, rfl⟩
  generalize hown : overF fm t = own at *
  conv => whnf
  repeat' (first|((first|((first|(apply zY;intro hg)|apply zZ);first|exact stA|exact stB|((conv=>whnf);(repeat ((first|(refine zW ?_ ?_;exact gA)|refine zA ?_|refine zH rfl ?_|refine zB ?_|(refine yE ?_ ?_ ?_ ?_;assumption;omega;omega)|(refine yF ?_ rfl ?_;omega)|(apply yH;assumption)|(refine yI ?_ ?_;assumption)|intro _);conv=>whnf));first|exact pS|exact pL|exact pE))|(refine zW ?_ ?_;exact gA)|refine zH rfl ?_|refine zA ?_|refine zI bA ?_|refine zI rfl ?_|refine zJ rfl rfl ?_|refine zB ?_|refine zK rfl ?_|refine zL rfl ?_|refine zC ?_|(refine zO ?_ ?_ ?_;omega;omega)|(refine zP ?_ ?_ ?_;omega;omega)|refine zM rfl ?_|(refine zQ ?_ ?_ ?_;omega;omega)|(refine zR ?_ ?_;omega)|(refine zI ?_ ?_;exact nA)|(refine zS ?_ ?_ ?_;omega;omega)|(refine zT ?_ ?_ ?_;omega;omega)|(refine zU ?_ ?_ ?_;omega;omega)|(refine zV ?_ ?_ ?_;omega;omega)|(refine yA ?_ rfl ?_ ?_;assumption;exact lA)|(refine yB ?_ rfl ?_ ?_;assumption;exact lA)|(refine yC rfl ?_ ?_;exact lA)|(refine yD ?_ ?_ rfl ?_ ?_;assumption;assumption;exact lA)|(refine yE ?_ ?_ ?_ ?_;assumption;omega;omega)|(refine yF ?_ rfl ?_;omega)|(apply yH;assumption)|(refine yI ?_ ?_;assumption)|(refine yG ?_ rfl rfl rfl ?_;omega)|refine n0 ?_|refine zN rfl rfl rfl ?_|refine zD ?_|refine zE ?_|refine zF ?_|intro _|refine zG ?_);conv=>whnf)|(refine zX (fun hc => ?_) (fun hc => ?_)<;>(try simp only [SY] at hc)<;>first|omega|(conv=>whnf)))
  have hx0 : ClOk b r t.t[0] := by rw [h0]; exact hx
  refine PCall.go (hx0 tk A fm own h1 h2 (by rw [h0]; omega) (by omega)) (WkT.refl _) ?_
  rintro _ _ ⟨tk1, k1, k2, rfl, rfl⟩
  rw [h0]
  have hcl := (x.clo_lens false).1 own A.length fm
  generalize x.clo false own A.length fm = bo at *
  obtain ⟨bt, bc, fm1⟩ := bo
  dsimp only at hcl ⊢
  conv => whnf
  repeat' (first|((first|((first|(apply zY;intro hg)|apply zZ);first|exact stA|exact stB|((conv=>whnf);(repeat ((first|(refine zW ?_ ?_;exact gA)|refine zA ?_|refine zH rfl ?_|refine zB ?_|(refine yE ?_ ?_ ?_ ?_;assumption;omega;omega)|(refine yF ?_ rfl ?_;omega)|(apply yH;assumption)|(refine yI ?_ ?_;assumption)|intro _);conv=>whnf));first|exact pS|exact pL|exact pE))|(refine zW ?_ ?_;exact gA)|refine zH rfl ?_|refine zA ?_|refine zI bA ?_|refine zI rfl ?_|refine zJ rfl rfl ?_|refine zB ?_|refine zK rfl ?_|refine zL rfl ?_|refine zC ?_|(refine zO ?_ ?_ ?_;omega;omega)|(refine zP ?_ ?_ ?_;omega;omega)|refine zM rfl ?_|(refine zQ ?_ ?_ ?_;omega;omega)|(refine zR ?_ ?_;omega)|(refine zI ?_ ?_;exact nA)|(refine zS ?_ ?_ ?_;omega;omega)|(refine zT ?_ ?_ ?_;omega;omega)|(refine zU ?_ ?_ ?_;omega;omega)|(refine zV ?_ ?_ ?_;omega;omega)|(refine yA ?_ rfl ?_ ?_;assumption;exact lA)|(refine yB ?_ rfl ?_ ?_;assumption;exact lA)|(refine yC rfl ?_ ?_;exact lA)|(refine yD ?_ ?_ rfl ?_ ?_;assumption;assumption;exact lA)|(refine yE ?_ ?_ ?_ ?_;assumption;omega;omega)|(refine yF ?_ rfl ?_;omega)|(apply yH;assumption)|(refine yI ?_ ?_;assumption)|(refine yG ?_ rfl rfl rfl ?_;omega)|refine n0 ?_|refine zN rfl rfl rfl ?_|refine zD ?_|refine zE ?_|refine zF ?_|intro _|refine zG ?_);conv=>whnf)|(refine zX (fun hc => ?_) (fun hc => ?_)<;>(try simp only [SY] at hc)<;>first|omega|(conv=>whnf)))
  rename_i b10
  have hnl : n < (A ++ bc).length := by rw [List.length_append]; omega
  refine PDraw.sE [.box b [.ms tk1, .mp r], .row tk1 ((A ++ bc).map Cod.pv)] [3] [6,7,8] tt_ok mixed ?_
  conv=>whnf
  repeat ((first|((first|(apply zY;intro hg)|apply zZ);first|exact stA|exact stB|((conv=>whnf);(repeat ((first|(refine zW ?_ ?_;exact gA)|refine zA ?_|refine zH rfl ?_|refine zB ?_|(refine yE ?_ ?_ ?_ ?_;assumption;omega;omega)|(refine yF ?_ rfl ?_;omega)|(apply yH;assumption)|(refine yI ?_ ?_;assumption)|intro _);conv=>whnf));first|exact pS|exact pL|exact pE))|(refine zW ?_ ?_;exact gA)|refine zH rfl ?_|refine zA ?_|refine zI bA ?_|refine zI rfl ?_|refine zJ rfl rfl ?_|refine zB ?_|refine zK rfl ?_|refine zL rfl ?_|refine zC ?_|(refine zO ?_ ?_ ?_;omega;omega)|(refine zP ?_ ?_ ?_;omega;omega)|refine zM rfl ?_|(refine zQ ?_ ?_ ?_;omega;omega)|(refine zR ?_ ?_;omega)|(refine zI ?_ ?_;exact nA)|(refine zS ?_ ?_ ?_;omega;omega)|(refine zT ?_ ?_ ?_;omega;omega)|(refine zU ?_ ?_ ?_;omega;omega)|(refine zV ?_ ?_ ?_;omega;omega)|(refine yA ?_ rfl ?_ ?_;assumption;exact lA)|(refine yB ?_ rfl ?_ ?_;assumption;exact lA)|(refine yC rfl ?_ ?_;exact lA)|(refine yD ?_ ?_ rfl ?_ ?_;assumption;assumption;exact lA)|(refine yE ?_ ?_ ?_ ?_;assumption;omega;omega)|(refine yF ?_ rfl ?_;omega)|(apply yH;assumption)|(refine yI ?_ ?_;assumption)|(refine yG ?_ rfl rfl rfl ?_;omega)|refine n0 ?_|refine zN rfl rfl rfl ?_|refine zD ?_|refine zE ?_|refine zF ?_|intro _);conv=>whnf)
  refine PStore.row (f := Cod.pv) (l := A ++ bc) (⟨(A ++ bc)[n].v, (A ++ bc)[n].rest, bt⟩ : Cod) hnl rfl rfl rfl (xs := bt.cells) (WkL.refl _) rfl ?_
  have hset : (A ++ bc).set n ⟨(A ++ bc)[n].v, (A ++ bc)[n].rest, bt⟩ = A.set n ⟨t.v, t.n == 1, bt⟩ ++ bc := by
    rw [List.getElem_append_left hn, List.set_append_left _ _ hn, hAn]
  rw [hset]
  generalize A.set n ⟨t.v, t.n == 1, bt⟩ ++ bc = A2
  conv => whnf
  repeat' (first|((first|((first|(apply zY;intro hg)|apply zZ);first|exact stA|exact stB|((conv=>whnf);(repeat ((first|(refine zW ?_ ?_;exact gA)|refine zA ?_|refine zH rfl ?_|refine zB ?_|(refine yE ?_ ?_ ?_ ?_;assumption;omega;omega)|(refine yF ?_ rfl ?_;omega)|(apply yH;assumption)|(refine yI ?_ ?_;assumption)|intro _);conv=>whnf));first|exact pS|exact pL|exact pE))|(refine zW ?_ ?_;exact gA)|refine zH rfl ?_|refine zA ?_|refine zI bA ?_|refine zI rfl ?_|refine zJ rfl rfl ?_|refine zB ?_|refine zK rfl ?_|refine zL rfl ?_|refine zC ?_|(refine zO ?_ ?_ ?_;omega;omega)|(refine zP ?_ ?_ ?_;omega;omega)|refine zM rfl ?_|(refine zQ ?_ ?_ ?_;omega;omega)|(refine zR ?_ ?_;omega)|(refine zI ?_ ?_;exact nA)|(refine zS ?_ ?_ ?_;omega;omega)|(refine zT ?_ ?_ ?_;omega;omega)|(refine zU ?_ ?_ ?_;omega;omega)|(refine zV ?_ ?_ ?_;omega;omega)|(refine yA ?_ rfl ?_ ?_;assumption;exact lA)|(refine yB ?_ rfl ?_ ?_;assumption;exact lA)|(refine yC rfl ?_ ?_;exact lA)|(refine yD ?_ ?_ rfl ?_ ?_;assumption;assumption;exact lA)|(refine yE ?_ ?_ ?_ ?_;assumption;omega;omega)|(refine yF ?_ rfl ?_;omega)|(apply yH;assumption)|(refine yI ?_ ?_;assumption)|(refine yG ?_ rfl rfl rfl ?_;omega)|refine n0 ?_|refine zN rfl rfl rfl ?_|refine zD ?_|refine zE ?_|refine zF ?_|intro _|refine zG ?_);conv=>whnf)|(refine zX (fun hc => ?_) (fun hc => ?_)<;>(try simp only [SY] at hc)<;>first|omega|(conv=>whnf)))
  refine PLoop.ghost (Ghost.nil 4 26 _) ?_
  refine PLoop.over [11, 13, 34, 35, 36, 37, 38, 39, 40, 41, 42, 43, 44, 45] (fun x : Nat × List Trm × Tok => [(11, .sl 4 (x.2.1.map Trm.pv) (some x.2.2)), (34, .int .i64 x.1)]) (fun x : Nat × List Trm × Tok => .tok x.2.2 :: mkrG b r tk1 A2 fm1)
    (fun x => x.1 ≤ own.length ∧ x.2.2.e = 26 ∧ x.2.1 = (own.take x.1).map (refF fm1 ov)) (fun x => own.length - x.1) (0, [], nilTok 4 26) ⟨Nat.zero_le _, rfl, rfl⟩ wA ?_
  rintro ⟨i, m, tk3⟩ ⟨hi, hte, hm⟩
  dsimp only at hi hte hm ⊢
  have hml : m.length = i := by rw [hm]; simp; omega
  conv => whnf
  repeat' (first|((first|((first|(apply zY;intro hg)|apply zZ);first|exact stA|exact stB|((conv=>whnf);(repeat ((first|(refine zW ?_ ?_;exact gA)|refine zA ?_|refine zH rfl ?_|refine zB ?_|(refine yE ?_ ?_ ?_ ?_;assumption;omega;omega)|(refine yF ?_ rfl ?_;omega)|(apply yH;assumption)|(refine yI ?_ ?_;assumption)|intro _);conv=>whnf));first|exact pS|exact pL|exact pE))|(refine zW ?_ ?_;exact gA)|refine zH rfl ?_|refine zA ?_|refine zI bA ?_|refine zI rfl ?_|refine zJ rfl rfl ?_|refine zB ?_|refine zK rfl ?_|refine zL rfl ?_|refine zC ?_|(refine zO ?_ ?_ ?_;omega;omega)|(refine zP ?_ ?_ ?_;omega;omega)|refine zM rfl ?_|(refine zQ ?_ ?_ ?_;omega;omega)|(refine zR ?_ ?_;omega)|(refine zI ?_ ?_;exact nA)|(refine zS ?_ ?_ ?_;omega;omega)|(refine zT ?_ ?_ ?_;omega;omega)|(refine zU ?_ ?_ ?_;omega;omega)|(refine zV ?_ ?_ ?_;omega;omega)|(refine yA ?_ rfl ?_ ?_;assumption;exact lA)|(refine yB ?_ rfl ?_ ?_;assumption;exact lA)|(refine yC rfl ?_ ?_;exact lA)|(refine yD ?_ ?_ rfl ?_ ?_;assumption;assumption;exact lA)|(refine yE ?_ ?_ ?_ ?_;assumption;omega;omega)|(refine yF ?_ rfl ?_;omega)|(apply yH;assumption)|(refine yI ?_ ?_;assumption)|(refine yG ?_ rfl rfl rfl ?_;omega)|refine n0 ?_|refine zN rfl rfl rfl ?_|refine zD ?_|refine zE ?_|refine zF ?_|intro _|refine zG ?_);conv=>whnf)|(refine zX (fun hc => ?_) (fun hc => ?_)<;>(try simp only [SY] at hc)<;>first|omega|(conv=>whnf)))
  · have hlt : i < own.length := by omega
    refine PCall.go (ref13_c b r tk1 A2 fm1 own[i] ov) (WkT.refl _) ?_
    rintro _ _ ⟨rfl, rfl⟩
    conv => whnf
    repeat' (first|((first|((first|(apply zY;intro hg)|apply zZ);first|exact stA|exact stB|((conv=>whnf);(repeat ((first|(refine zW ?_ ?_;exact gA)|refine zA ?_|refine zH rfl ?_|refine zB ?_|(refine yE ?_ ?_ ?_ ?_;assumption;omega;omega)|(refine yF ?_ rfl ?_;omega)|(apply yH;assumption)|(refine yI ?_ ?_;assumption)|intro _);conv=>whnf));first|exact pS|exact pL|exact pE))|(refine zW ?_ ?_;exact gA)|refine zH rfl ?_|refine zA ?_|refine zI bA ?_|refine zI rfl ?_|refine zJ rfl rfl ?_|refine zB ?_|refine zK rfl ?_|refine zL rfl ?_|refine zC ?_|(refine zO ?_ ?_ ?_;omega;omega)|(refine zP ?_ ?_ ?_;omega;omega)|refine zM rfl ?_|(refine zQ ?_ ?_ ?_;omega;omega)|(refine zR ?_ ?_;omega)|(refine zI ?_ ?_;exact nA)|(refine zS ?_ ?_ ?_;omega;omega)|(refine zT ?_ ?_ ?_;omega;omega)|(refine zU ?_ ?_ ?_;omega;omega)|(refine zV ?_ ?_ ?_;omega;omega)|(refine yA ?_ rfl ?_ ?_;assumption;exact lA)|(refine yB ?_ rfl ?_ ?_;assumption;exact lA)|(refine yC rfl ?_ ?_;exact lA)|(refine yD ?_ ?_ rfl ?_ ?_;assumption;assumption;exact lA)|(refine yE ?_ ?_ ?_ ?_;assumption;omega;omega)|(refine yF ?_ rfl ?_;omega)|(apply yH;assumption)|(refine yI ?_ ?_;assumption)|(refine yG ?_ rfl rfl rfl ?_;omega)|refine n0 ?_|refine zN rfl rfl rfl ?_|refine zD ?_|refine zE ?_|refine zF ?_|intro _|refine zG ?_);conv=>whnf)|(refine zX (fun hc => ?_) (fun hc => ?_)<;>(try simp only [SY] at hc)<;>first|omega|(conv=>whnf)))
    rename_i t5 ht5
    refine loopTo (i + 1, m ++ [refF fm1 ov own[i]], t5) ⟨by show i + 1 ≤ _; omega, ht5, ?_⟩ (by show own.length - (i + 1) < own.length - i; omega) wA
    show m ++ [_] = _
    rw [hm, List.take_succ_eq_append_getElem hlt, List.map_append]
    rfl
  · rw [List.take_of_length_le (by omega)] at hm
    rw [← hm]
    exact PRet.gen (y := .sl 4 (m.map Trm.pv) (some tk3)) (Γ' := .tok tk3 :: mkrG b r tk1 A2 fm1) (Wk.refl _) ⟨tk1, tk3, k1, k2, rfl, rfl⟩
theorem lam_c13 (b r : Nat) (tk : Tok) (A : List Cod) (fm : Fm) (t x : Trm) (xs : List Trm) (ht : t.t = x :: xs) (hx : ClOk b r x) (ov : List Int) (h4 : t.op = 4) (h1 : tk.e = 62) (h2 : tk.s = 6) (hb : A.length + t.bulk ≤ 1000000000) (hov : ov.length ≤ 1000000000) :
    ACall Tryz.prog 112 [.ptr b 0, .agg t.cells, slI ov] (mkrG b r tk A fm)
      (fun y Γ' => ∃ tk', tk'.e = 62 ∧ tk'.s = 6 ∧ y = .tup [.agg (t.clo false ov A.length fm).t.cells, .int .i64 A.length] ∧ Γ' = mkrG b r tk' (A ++ (t.clo false ov A.length fm).c) (t.clo false ov A.length fm).fm) := by
  have hbe := t.bulk_eq
  have hbx : Trm.bulks t.t = x.bulk + Trm.bulks xs := by rw [ht, Trm.bulks]
  rw [Trm.clo_eq, if_neg (by omega), if_pos h4, if_neg (by simp)]
  refine ACall.of_body tt_ok Tryz.func112 rfl rfl (n := 28) rfl rfl ?_
  conv => whnf
  repeat ((first|((first|(apply zY;intro hg)|apply zZ);first|exact stA|exact stB|((conv=>whnf);(repeat ((first|(refine zW ?_ ?_;exact gA)|refine zA ?_|refine zH rfl ?_|refine zB ?_|(refine yE ?_ ?_ ?_ ?_;assumption;omega;omega)|(refine yF ?_ rfl ?_;omega)|(apply yH;assumption)|(refine yI ?_ ?_;assumption)|intro _);conv=>whnf));first|exact pS|exact pL|exact pE))|(refine zW ?_ ?_;exact gA)|refine zH rfl ?_|refine zA ?_|refine zI bA ?_|refine zI rfl ?_|refine zJ rfl rfl ?_|refine zB ?_|refine zK rfl ?_|refine zL rfl ?_|refine zC ?_|(refine zO ?_ ?_ ?_;omega;omega)|(refine zP ?_ ?_ ?_;omega;omega)|refine zM rfl ?_|(refine zQ ?_ ?_ ?_;omega;omega)|(refine zR ?_ ?_;omega)|(refine zI ?_ ?_;exact nA)|(refine zS ?_ ?_ ?_;omega;omega)|(refine zT ?_ ?_ ?_;omega;omega)|(refine zU ?_ ?_ ?_;omega;omega)|(refine zV ?_ ?_ ?_;omega;omega)|(refine yA ?_ rfl ?_ ?_;assumption;exact lA)|(refine yB ?_ rfl ?_ ?_;assumption;exact lA)|(refine yC rfl ?_ ?_;exact lA)|(refine yD ?_ ?_ rfl ?_ ?_;assumption;assumption;exact lA)|(refine yE ?_ ?_ ?_ ?_;assumption;omega;omega)|(refine yF ?_ rfl ?_;omega)|(apply yH;assumption)|(refine yI ?_ ?_;assumption)|(refine yG ?_ rfl rfl rfl ?_;omega)|refine n0 ?_|refine zN rfl rfl rfl ?_|refine zD ?_|refine zE ?_|refine zF ?_|intro _);conv=>whnf)
  rename_i b4 b6
  refine PCall.go (number13_c b r tk A fm t (by omega) h1 h2 (by omega)) (WkT.refl _) ?_
  rintro _ _ ⟨tk1, k1, k2, rfl, rfl⟩
  conv => whnf
  repeat' (first|((first|((first|(apply zY;intro hg)|apply zZ);first|exact stA|exact stB|((conv=>whnf);(repeat ((first|(refine zW ?_ ?_;exact gA)|refine zA ?_|refine zH rfl ?_|refine zB ?_|(refine yE ?_ ?_ ?_ ?_;assumption;omega;omega)|(refine yF ?_ rfl ?_;omega)|(apply yH;assumption)|(refine yI ?_ ?_;assumption)|intro _);conv=>whnf));first|exact pS|exact pL|exact pE))|(refine zW ?_ ?_;exact gA)|refine zH rfl ?_|refine zA ?_|refine zI bA ?_|refine zI rfl ?_|refine zJ rfl rfl ?_|refine zB ?_|refine zK rfl ?_|refine zL rfl ?_|refine zC ?_|(refine zO ?_ ?_ ?_;omega;omega)|(refine zP ?_ ?_ ?_;omega;omega)|refine zM rfl ?_|(refine zQ ?_ ?_ ?_;omega;omega)|(refine zR ?_ ?_;omega)|(refine zI ?_ ?_;exact nA)|(refine zS ?_ ?_ ?_;omega;omega)|(refine zT ?_ ?_ ?_;omega;omega)|(refine zU ?_ ?_ ?_;omega;omega)|(refine zV ?_ ?_ ?_;omega;omega)|(refine yA ?_ rfl ?_ ?_;assumption;exact lA)|(refine yB ?_ rfl ?_ ?_;assumption;exact lA)|(refine yC rfl ?_ ?_;exact lA)|(refine yD ?_ ?_ rfl ?_ ?_;assumption;assumption;exact lA)|(refine yE ?_ ?_ ?_ ?_;assumption;omega;omega)|(refine yF ?_ rfl ?_;omega)|(apply yH;assumption)|(refine yI ?_ ?_;assumption)|(refine yG ?_ rfl rfl rfl ?_;omega)|refine n0 ?_|refine zN rfl rfl rfl ?_|refine zD ?_|refine zE ?_|refine zF ?_|intro _|refine zG ?_);conv=>whnf)|(refine zX (fun hc => ?_) (fun hc => ?_)<;>(try simp only [SY] at hc)<;>first|omega|(conv=>whnf)))
  refine PCall.go (fill13_c b r tk1 (A ++ [⟨t.v, t.n == 1, noT⟩]) fm A.length t x (by simp) xs ht hx ov k1 k2 (by simp; omega) (by omega) hov) (WkT.refl _) ?_
  rintro _ _ ⟨tk2, tk3, k3, k4, rfl, rfl⟩
  have hL : (A ++ [(⟨t.v, t.n == 1, noT⟩ : Cod)]).length = A.length + 1 := by simp
  rw [hL]
  generalize t.cloB false (overF fm t) (A.length + 1) fm = bo
  have hset : (A ++ [(⟨t.v, t.n == 1, noT⟩ : Cod)]).set A.length ⟨t.v, t.n == 1, bo.t⟩ ++ bo.c = A ++ (⟨t.v, t.n == 1, bo.t⟩ :: bo.c) := by simp
  rw [hset]
  generalize A ++ (⟨t.v, t.n == 1, bo.t⟩ :: bo.c) = A2
  generalize hrs : (overF fm t).map (refF bo.fm ov) = rs
  conv => whnf
  repeat' (first|((first|((first|(apply zY;intro hg)|apply zZ);first|exact stA|exact stB|((conv=>whnf);(repeat ((first|(refine zW ?_ ?_;exact gA)|refine zA ?_|refine zH rfl ?_|refine zB ?_|(refine yE ?_ ?_ ?_ ?_;assumption;omega;omega)|(refine yF ?_ rfl ?_;omega)|(apply yH;assumption)|(refine yI ?_ ?_;assumption)|intro _);conv=>whnf));first|exact pS|exact pL|exact pE))|(refine zW ?_ ?_;exact gA)|refine zH rfl ?_|refine zA ?_|refine zI bA ?_|refine zI rfl ?_|refine zJ rfl rfl ?_|refine zB ?_|refine zK rfl ?_|refine zL rfl ?_|refine zC ?_|(refine zO ?_ ?_ ?_;omega;omega)|(refine zP ?_ ?_ ?_;omega;omega)|refine zM rfl ?_|(refine zQ ?_ ?_ ?_;omega;omega)|(refine zR ?_ ?_;omega)|(refine zI ?_ ?_;exact nA)|(refine zS ?_ ?_ ?_;omega;omega)|(refine zT ?_ ?_ ?_;omega;omega)|(refine zU ?_ ?_ ?_;omega;omega)|(refine zV ?_ ?_ ?_;omega;omega)|(refine yA ?_ rfl ?_ ?_;assumption;exact lA)|(refine yB ?_ rfl ?_ ?_;assumption;exact lA)|(refine yC rfl ?_ ?_;exact lA)|(refine yD ?_ ?_ rfl ?_ ?_;assumption;assumption;exact lA)|(refine yE ?_ ?_ ?_ ?_;assumption;omega;omega)|(refine yF ?_ rfl ?_;omega)|(apply yH;assumption)|(refine yI ?_ ?_;assumption)|(refine yG ?_ rfl rfl rfl ?_;omega)|refine n0 ?_|refine zN rfl rfl rfl ?_|refine zD ?_|refine zE ?_|refine zF ?_|intro _|refine zG ?_);conv=>whnf)|(refine zX (fun hc => ?_) (fun hc => ?_)<;>(try simp only [SY] at hc)<;>first|omega|(conv=>whnf)))
  · rw [cloT, if_pos (by omega)]
    exact PRet.gen (y := .tup [.agg (Trm.mk 21 A.length [] []).cells, .int .i64 A.length]) (Γ' := mkrG b r tk2 A2 bo.fm) (Wk.tup (.cons TrmOf.wk (.cons (Wk.refl _) .nil))) ⟨tk2, k3, k4, rfl, rfl⟩
  · rw [cloT, if_neg (by omega)]
    exact PRet.gen (y := .tup [.agg (Trm.mk 19 A.length [] rs).cells, .int .i64 A.length]) (Γ' := mkrG b r tk2 A2 bo.fm) (Wk.tup (.cons TrmOf.wk (.cons (Wk.refl _) .nil))) ⟨tk2, k3, k4, rfl, rfl⟩
end Go.Cb
namespace Go.Cb
open Go.Proofs
set_option maxRecDepth 100000
set_option maxHeartbeats 4000000
theorem filt_lt {α : Type} {p q : α → Bool} (h : ∀ x, q x = true → p x = true) : ∀ l : List α, (∃ x ∈ l, p x = true ∧ q x = false) → (l.filter q).length < (l.filter p).length
  | [], ⟨x, hx, _⟩ => by cases hx
  | y :: l, ⟨x, hx, h1, h2⟩ => by
    have hle : ∀ l : List α, (l.filter q).length ≤ (l.filter p).length := by
      intro l
      induction l with
      | nil => simp
      | cons z l ih =>
        by_cases hq : q z = true
        · rw [List.filter_cons_of_pos hq, List.filter_cons_of_pos (h z hq)]; simp; exact ih
        · rw [List.filter_cons_of_neg hq]
          by_cases hp : p z = true
          · rw [List.filter_cons_of_pos hp]; simp; omega
          · rw [List.filter_cons_of_neg hp]; exact ih
    rcases List.mem_cons.1 hx with rfl | hx
    · rw [List.filter_cons_of_neg (by simp [h2]), List.filter_cons_of_pos h1]
      have := hle l
      simp; omega
    · have ih := filt_lt h l ⟨x, hx, h1, h2⟩
      by_cases hq : q y = true
      · rw [List.filter_cons_of_pos hq, List.filter_cons_of_pos (h y hq)]; simp; exact ih
      · rw [List.filter_cons_of_neg hq]
        by_cases hp : p y = true
        · rw [List.filter_cons_of_pos hp]; simp; omega
        · rw [List.filter_cons_of_neg hp]; exact ih
def orF (lm fm : Fm) : Fm := fun k => match lm k with
  | some f => some f
  | none => fm k
theorem learnF_or : ∀ (l : List (Int × Kn)) (lm fm : Fm), learnF false l (orF lm fm) = orF (learnF false l lm) fm
  | [], _, _ => rfl
  | x :: l, lm, fm => by
    rw [learnF, learnF, ← learnF_or l]
    congr 1
    funext k
    by_cases h : k = x.1 <;> simp [setF, orF, h]
theorem learnF_eq (l : List (Int × Kn)) (fm : Fm) : learnF false l fm = orF (learnF false l (fun _ => none)) fm := by
  rw [← learnF_or]; rfl
theorem learnF_app (w : Bool) : ∀ (l : List (Int × Kn)) (x : Int × Kn) (fm : Fm), learnF w (l ++ [x]) fm = setF w (learnF w l fm) x.1 x.2
  | [], _, _ => rfl
  | y :: l, x, fm => by rw [List.cons_append, learnF, learnF, learnF_app w l]
theorem setF_upd (fm : Fm) (v : Int) (f : Kn) : setF false fm v f = upd fm v f := by
  funext k; simp [setF, upd]
def preL (V : List Int) (T : List Trm) (C : List Cod) (r : ClL) : ClL := ⟨V ++ r.v, T ++ r.t, r.last, [], C ++ r.c, r.fm⟩
theorem Trm.cloL_own (w : Bool) : ∀ (l : List Trm) vs ov n fm lrn, (Trm.cloL w l vs ov n fm lrn).own = []
  | [], vs, ov, n, fm, lrn => by rw [Trm.cloL]
  | y :: l, [], ov, n, fm, lrn => by rw [Trm.cloL]
  | y :: l, v :: vs, ov, n, fm, lrn => by rw [Trm.cloL]
theorem preL_nil {r : ClL} (h : r.own = []) : preL [] [] [] r = r := by
  obtain ⟨a, b, c, d, e, f⟩ := r
  simp only at h
  subst h
  rfl
theorem preL_skip (V : List Int) (T : List Trm) (C ac : List Cod) (b : ClL) : preL V T C ⟨b.v, b.t, b.last, [], ac ++ b.c, b.fm⟩ = preL V T (C ++ ac) b := by simp [preL]
theorem preL_add (V : List Int) (T : List Trm) (C ac : List Cod) (b : ClL) (v : Int) (x : Trm) : preL V T C ⟨v :: b.v, x :: b.t, b.last, [], ac ++ b.c, b.fm⟩ = preL (V ++ [v]) (T ++ [x]) (C ++ ac) b := by simp [preL]
theorem stF_upd (fm : Fm) (v : Int) (f : Kn) : stF (upd fm v f) v = f.st := by simp [stF, upd]
theorem take_not {l : List Int} {i : Nat} (h : i < l.length) {v : Int} (hv : v ∉ l.take (i + 1)) : v ∉ l.take i ∧ v ≠ l[i] := by
  rw [List.take_succ_eq_append_getElem h, List.mem_append, not_or] at hv
  exact ⟨hv.1, fun e => hv.2 (by simp [e])⟩
theorem mapK_nil : (fun _ => none : Value → Option PV) = mapM Kn.pa (fun _ => none) := by
  funext v
  unfold mapM
  split <;> rfl
abbrev letG (b b4 b6 b7 r r2 : Nat) (t : Trm) (V : List Int) (tv : Tok) (T : List Trm) (tt' : Tok) (A1 : List Cod) (f1 lm : Fm) (tk1 : Tok) : List Ent := [.tok tv, .tok tt', .box b7 [.int .i64 8, .int .i64 0, .sl 1 (V.map (PV.int .i64)) (some tv), .sl 4 (T.map Trm.pv) (some tt')], .mp r2 (.int .i64) (mapM Kn.pa lm) [], .box b [.ms tk1, .mp r], .row tk1 (A1.map Cod.pv), .mp r (.int .i64) (mapM Kn.pa f1) [],
  .box b6 [.int .i64 0, .int .i64 0, .nil, .nil], .box b4 [.int .i64 t.op, .int .i64 t.n, .sl 1 (t.v.map (PV.int .i64)) none, .sl 4 (t.t.map Trm.pv) none]]
theorem let_c13 (b r : Nat) (tk : Tok) (A : List Cod) (fm : Fm) (t : Trm) (ht : t.t.length = t.v.length + 1) (hnd : t.v.Nodup) (hx : ∀ y ∈ t.t, ClOk b r y) (hlam : ∀ y ∈ t.t, y.op = 4 → ∃ z zs, y.t = z :: zs ∧ ClOk b r z) (ov : List Int) (h8 : t.op = 8) (h1 : tk.e = 62) (h2 : tk.s = 6) (hb : A.length + t.bulk ≤ 1000000000) (hov : ov.length ≤ 1000000000) :
    ACall Tryz.prog 113 [.ptr b 0, .agg t.cells, slI ov] (mkrG b r tk A fm)
      (fun y Γ' => ∃ tk', tk'.e = 62 ∧ tk'.s = 6 ∧ y = .agg (t.clo false ov A.length fm).t.cells ∧ Γ' = mkrG b r tk' (A ++ (t.clo false ov A.length fm).c) (t.clo false ov A.length fm).fm) := by
  have hbe := t.bulk_eq
  rw [Trm.clo_eq, if_neg (by omega), if_neg (by omega), if_pos h8]
  refine ACall.of_body tt_ok Tryz.func113 rfl rfl (n := 105) rfl rfl ?_
  conv => whnf
  repeat ((first|((first|(apply zY;intro hg)|apply zZ);first|exact stA|exact stB|((conv=>whnf);(repeat ((first|(refine zW ?_ ?_;exact gA)|refine zA ?_|refine zH rfl ?_|refine zB ?_|(refine yE ?_ ?_ ?_ ?_;assumption;omega;omega)|(refine yF ?_ rfl ?_;omega)|(apply yH;assumption)|(refine yI ?_ ?_;assumption)|intro _);conv=>whnf));first|exact pS|exact pL|exact pE))|(refine zW ?_ ?_;exact gA)|refine zH rfl ?_|refine zA ?_|refine zI bA ?_|refine zI rfl ?_|refine zJ rfl rfl ?_|refine zB ?_|refine zK rfl ?_|refine zL rfl ?_|refine zC ?_|(refine zO ?_ ?_ ?_;omega;omega)|(refine zP ?_ ?_ ?_;omega;omega)|refine zM rfl ?_|(refine zQ ?_ ?_ ?_;omega;omega)|(refine zR ?_ ?_;omega)|(refine zI ?_ ?_;exact nA)|(refine zS ?_ ?_ ?_;omega;omega)|(refine zT ?_ ?_ ?_;omega;omega)|(refine zU ?_ ?_ ?_;omega;omega)|(refine zV ?_ ?_ ?_;omega;omega)|(refine yA ?_ rfl ?_ ?_;assumption;exact lA)|(refine yB ?_ rfl ?_ ?_;assumption;exact lA)|(refine yC rfl ?_ ?_;exact lA)|(refine yD ?_ ?_ rfl ?_ ?_;assumption;assumption;exact lA)|(refine yE ?_ ?_ ?_ ?_;assumption;omega;omega)|(refine yF ?_ rfl ?_;omega)|(apply yH;assumption)|(refine yI ?_ ?_;assumption)|(refine yG ?_ rfl rfl rfl ?_;omega)|refine n0 ?_|refine zN rfl rfl rfl ?_|refine zD ?_|refine zE ?_|refine zF ?_|refine PDraw.sT (some 57) rfl [4,9] [11,12,13] tt_ok mixed ?_|refine PDraw.sP (some 77) rfl [] [6] tt_ok mixed ?_|intro _);conv=>whnf)
  rename_i b4 b6 b7 r2 hq0
  rw [mapK_nil]
  refine PLoop.ghost (Ghost.trans (Ghost.nil 1 3 _) (Ghost.trans (Ghost.nil 4 26 _) (Ghost.box (b := b7) (cs := [.int .i64 8, .int .i64 0, .nil, .nil]) (cs' := [.int .i64 8, .int .i64 0, .sl 1 (([] : List Int).map (PV.int .i64)) (some (nilTok 1 3)), .sl 4 (([] : List Trm).map Trm.pv) (some (nilTok 4 26))]) wA))) ?_
  refine PLoop.over [9, 10, 11, 12, 21, 22, 23, 24, 25, 26, 27, 28, 29, 30, 31, 32, 33, 34, 35, 36, 37, 38, 39, 40, 41, 42, 43, 44, 45, 46, 47, 48, 49, 50, 51, 52, 53, 54, 55, 56, 57, 58, 59, 60, 61, 62, 63, 64, 65, 66, 67, 68, 69] (fun x : Nat × (List Int × Tok) × (List Trm × Tok) × List Cod × Fm × Fm × Tok => [(21, .int .i64 x.1)])
    (fun x => letG b b4 b6 b7 r r2 t x.2.1.1 x.2.1.2 x.2.2.1.1 x.2.2.1.2 x.2.2.2.1 x.2.2.2.2.1 x.2.2.2.2.2.1 x.2.2.2.2.2.2)
    (fun x => x.1 ≤ t.v.length ∧ x.2.1.2.e = 3 ∧ x.2.2.1.2.e = 26 ∧ x.2.2.2.2.2.2.e = 62 ∧ x.2.2.2.2.2.2.s = 6 ∧ x.2.1.1.length ≤ x.1 ∧ x.2.2.1.1.length = x.2.1.1.length ∧ ∃ C lrn, x.2.2.2.1 = A ++ C ∧ x.2.2.2.2.2.1 = learnF false lrn (fun _ => none) ∧ C.length + Trm.bulks (t.t.drop x.1) ≤ Trm.bulks t.t ∧ (∀ v, v ∉ t.v.take x.1 → x.2.2.2.2.2.1 v = none) ∧
      Trm.cloL false t.t t.v ov A.length fm [] = preL x.2.1.1 x.2.2.1.1 C (Trm.cloL false (t.t.drop x.1) (t.v.drop x.1) ov x.2.2.2.1.length x.2.2.2.2.1 lrn)) (fun x => t.v.length - x.1)
    (0, ([], nilTok 1 3), ([], nilTok 4 26), A, fm, (fun _ => none), tk) ⟨Nat.zero_le _, rfl, rfl, h1, h2, by simp, rfl, [], [], by simp, rfl, by simp, by simp, (preL_nil (Trm.cloL_own _ _ _ _ _ _ _)).symm⟩ wA ?_
  rintro ⟨i, ⟨V, tv⟩, ⟨T, tt'⟩, A1, f1, lm, tk1⟩ ⟨hi, htv, htt, k1, k2, hvl, htl, C, lrn, hA1, hlm, hcl, hlr, he⟩
  dsimp only at hi htv htt k1 k2 hvl htl hA1 hlm hcl hlr he ⊢
  conv => whnf
  repeat' (first|((first|((first|(apply zY;intro hg)|apply zZ);first|exact stA|exact stB|((conv=>whnf);(repeat ((first|(refine zW ?_ ?_;exact gA)|refine zA ?_|refine zH rfl ?_|refine zB ?_|(refine yE ?_ ?_ ?_ ?_;assumption;omega;omega)|(refine yF ?_ rfl ?_;omega)|(apply yH;assumption)|(refine yI ?_ ?_;assumption)|intro _);conv=>whnf));first|exact pS|exact pL|exact pE))|(refine zW ?_ ?_;exact gA)|refine zH rfl ?_|refine zA ?_|refine zI bA ?_|refine zI rfl ?_|refine zJ rfl rfl ?_|refine zB ?_|refine zK rfl ?_|refine zL rfl ?_|refine zC ?_|(refine zO ?_ ?_ ?_;omega;omega)|(refine zP ?_ ?_ ?_;omega;omega)|refine zM rfl ?_|(refine zQ ?_ ?_ ?_;omega;omega)|(refine zR ?_ ?_;omega)|(refine zI ?_ ?_;exact nA)|(refine zS ?_ ?_ ?_;omega;omega)|(refine zT ?_ ?_ ?_;omega;omega)|(refine zU ?_ ?_ ?_;omega;omega)|(refine zV ?_ ?_ ?_;omega;omega)|(refine yA ?_ rfl ?_ ?_;assumption;exact lA)|(refine yB ?_ rfl ?_ ?_;assumption;exact lA)|(refine yC rfl ?_ ?_;exact lA)|(refine yD ?_ ?_ rfl ?_ ?_;assumption;assumption;exact lA)|(refine yE ?_ ?_ ?_ ?_;assumption;omega;omega)|(refine yF ?_ rfl ?_;omega)|(apply yH;assumption)|(refine yI ?_ ?_;assumption)|(refine yG ?_ rfl rfl rfl ?_;omega)|refine n0 ?_|refine zN rfl rfl rfl ?_|refine zD ?_|refine zE ?_|refine zF ?_|refine PDraw.sT (some 57) rfl [4,9] [11,12,13] tt_ok mixed ?_|refine PDraw.sP (some 77) rfl [] [6] tt_ok mixed ?_|intro _|refine zG ?_);conv=>whnf)|(refine zX (fun hc => ?_) (fun hc => ?_)<;>(try simp only [SY] at hc)<;>first|omega|(conv=>whnf)))
  · have hit : i < t.t.length := by omega
    have hiv : i < t.v.length := by omega
    obtain ⟨z, zs, hz, hzo⟩ := hlam _ (List.getElem_mem hit) hc
    rw [drop_at hit, Trm.bulks] at hcl
    refine PCall.go (lam_c13 b r tk1 A1 f1 t.t[i] z zs hz hzo ov hc k1 k2 (by rw [hA1, List.length_append]; omega) hov) (WkT.refl _) ?_
    rintro _ _ ⟨tk2, e1, e2, rfl, rfl⟩
    have hal : (t.t[i].clo false ov A1.length f1).c.length ≤ t.t[i].bulk := (t.t[i].clo_lens false).1 ov A1.length f1
    rw [drop_at hit, drop_at hiv, Trm.cloL] at he
    generalize t.t[i].clo false ov A1.length f1 = a at *
    obtain ⟨at', ac, af⟩ := a
    dsimp only at hal he ⊢
    conv => whnf
    repeat' (first|((first|((first|(apply zY;intro hg)|apply zZ);first|exact stA|exact stB|((conv=>whnf);(repeat ((first|(refine zW ?_ ?_;exact gA)|refine zA ?_|refine zH rfl ?_|refine zB ?_|(refine yE ?_ ?_ ?_ ?_;assumption;omega;omega)|(refine yF ?_ rfl ?_;omega)|(apply yH;assumption)|(refine yI ?_ ?_;assumption)|intro _);conv=>whnf));first|exact pS|exact pL|exact pE))|(refine zW ?_ ?_;exact gA)|refine zH rfl ?_|refine zA ?_|refine zI bA ?_|refine zI rfl ?_|refine zJ rfl rfl ?_|refine zB ?_|refine zK rfl ?_|refine zL rfl ?_|refine zC ?_|(refine zO ?_ ?_ ?_;omega;omega)|(refine zP ?_ ?_ ?_;omega;omega)|refine zM rfl ?_|(refine zQ ?_ ?_ ?_;omega;omega)|(refine zR ?_ ?_;omega)|(refine zI ?_ ?_;exact nA)|(refine zS ?_ ?_ ?_;omega;omega)|(refine zT ?_ ?_ ?_;omega;omega)|(refine zU ?_ ?_ ?_;omega;omega)|(refine zV ?_ ?_ ?_;omega;omega)|(refine yA ?_ rfl ?_ ?_;assumption;exact lA)|(refine yB ?_ rfl ?_ ?_;assumption;exact lA)|(refine yC rfl ?_ ?_;exact lA)|(refine yD ?_ ?_ rfl ?_ ?_;assumption;assumption;exact lA)|(refine yE ?_ ?_ ?_ ?_;assumption;omega;omega)|(refine yF ?_ rfl ?_;omega)|(apply yH;assumption)|(refine yI ?_ ?_;assumption)|(refine yG ?_ rfl rfl rfl ?_;omega)|refine n0 ?_|refine zN rfl rfl rfl ?_|refine zD ?_|refine zE ?_|refine zF ?_|refine PDraw.sT (some 57) rfl [4,9] [11,12,13] tt_ok mixed ?_|refine PDraw.sP (some 77) rfl [] [6] tt_ok mixed ?_|intro _|refine zG ?_);conv=>whnf)|(refine zX (fun hc => ?_) (fun hc => ?_)<;>(try simp only [SY] at hc)<;>first|omega|(conv=>whnf)))
    refine PMapPut.num ⟨A1.length, at'.op == 21⟩ rfl ?_
    conv => whnf
    repeat' (first|((first|((first|(apply zY;intro hg)|apply zZ);first|exact stA|exact stB|((conv=>whnf);(repeat ((first|(refine zW ?_ ?_;exact gA)|refine zA ?_|refine zH rfl ?_|refine zB ?_|(refine yE ?_ ?_ ?_ ?_;assumption;omega;omega)|(refine yF ?_ rfl ?_;omega)|(apply yH;assumption)|(refine yI ?_ ?_;assumption)|intro _);conv=>whnf));first|exact pS|exact pL|exact pE))|(refine zW ?_ ?_;exact gA)|refine zH rfl ?_|refine zA ?_|refine zI bA ?_|refine zI rfl ?_|refine zJ rfl rfl ?_|refine zB ?_|refine zK rfl ?_|refine zL rfl ?_|refine zC ?_|(refine zO ?_ ?_ ?_;omega;omega)|(refine zP ?_ ?_ ?_;omega;omega)|refine zM rfl ?_|(refine zQ ?_ ?_ ?_;omega;omega)|(refine zR ?_ ?_;omega)|(refine zI ?_ ?_;exact nA)|(refine zS ?_ ?_ ?_;omega;omega)|(refine zT ?_ ?_ ?_;omega;omega)|(refine zU ?_ ?_ ?_;omega;omega)|(refine zV ?_ ?_ ?_;omega;omega)|(refine yA ?_ rfl ?_ ?_;assumption;exact lA)|(refine yB ?_ rfl ?_ ?_;assumption;exact lA)|(refine yC rfl ?_ ?_;exact lA)|(refine yD ?_ ?_ rfl ?_ ?_;assumption;assumption;exact lA)|(refine yE ?_ ?_ ?_ ?_;assumption;omega;omega)|(refine yF ?_ rfl ?_;omega)|(apply yH;assumption)|(refine yI ?_ ?_;assumption)|(refine yG ?_ rfl rfl rfl ?_;omega)|refine n0 ?_|refine zN rfl rfl rfl ?_|refine zD ?_|refine zE ?_|refine zF ?_|refine PDraw.sT (some 57) rfl [4,9] [11,12,13] tt_ok mixed ?_|refine PDraw.sP (some 77) rfl [] [6] tt_ok mixed ?_|intro _|refine zG ?_);conv=>whnf)|(refine zX (fun hc => ?_) (fun hc => ?_)<;>(try simp only [SY] at hc)<;>first|omega|(conv=>whnf)))
    refine PLook.kn ?_
    rw [stF_upd]
    have hlm2 : upd lm t.v[i] ⟨A1.length, at'.op == 21⟩ = learnF false (lrn ++ [(t.v[i], ⟨A1.length, at'.op == 21⟩)]) (fun _ => none) := by rw [learnF_app, ← hlm, setF_upd]
    have hlr2 : ∀ v, v ∉ t.v.take (i + 1) → upd lm t.v[i] ⟨A1.length, at'.op == 21⟩ v = none := fun v hv => by
      obtain ⟨q1, q2⟩ := take_not hiv hv
      rw [upd, if_neg q2]
      exact hlr v q1
    rw [if_pos hc] at he
    have hA2 : (A1 ++ ac).length = A1.length + ac.length := List.length_append ..
    rw [← hA2] at he
    generalize upd lm t.v[i] ⟨A1.length, at'.op == 21⟩ = lm2 at *
    conv => whnf
    repeat' (first|((first|((first|(apply zY;intro hg)|apply zZ);first|exact stA|exact stB|((conv=>whnf);(repeat ((first|(refine zW ?_ ?_;exact gA)|refine zA ?_|refine zH rfl ?_|refine zB ?_|(refine yE ?_ ?_ ?_ ?_;assumption;omega;omega)|(refine yF ?_ rfl ?_;omega)|(apply yH;assumption)|(refine yI ?_ ?_;assumption)|intro _);conv=>whnf));first|exact pS|exact pL|exact pE))|(refine zW ?_ ?_;exact gA)|refine zH rfl ?_|refine zA ?_|refine zI bA ?_|refine zI rfl ?_|refine zJ rfl rfl ?_|refine zB ?_|refine zK rfl ?_|refine zL rfl ?_|refine zC ?_|(refine zO ?_ ?_ ?_;omega;omega)|(refine zP ?_ ?_ ?_;omega;omega)|refine zM rfl ?_|(refine zQ ?_ ?_ ?_;omega;omega)|(refine zR ?_ ?_;omega)|(refine zI ?_ ?_;exact nA)|(refine zS ?_ ?_ ?_;omega;omega)|(refine zT ?_ ?_ ?_;omega;omega)|(refine zU ?_ ?_ ?_;omega;omega)|(refine zV ?_ ?_ ?_;omega;omega)|(refine yA ?_ rfl ?_ ?_;assumption;exact lA)|(refine yB ?_ rfl ?_ ?_;assumption;exact lA)|(refine yC rfl ?_ ?_;exact lA)|(refine yD ?_ ?_ rfl ?_ ?_;assumption;assumption;exact lA)|(refine yE ?_ ?_ ?_ ?_;assumption;omega;omega)|(refine yF ?_ rfl ?_;omega)|(apply yH;assumption)|(refine yI ?_ ?_;assumption)|(refine yG ?_ rfl rfl rfl ?_;omega)|refine n0 ?_|refine zN rfl rfl rfl ?_|refine zD ?_|refine zE ?_|refine zF ?_|refine PDraw.sT (some 57) rfl [4,9] [11,12,13] tt_ok mixed ?_|refine PDraw.sP (some 77) rfl [] [6] tt_ok mixed ?_|intro _|refine zG ?_);conv=>whnf)|(refine zX (fun hc => ?_) (fun hc => ?_)<;>(try simp only [SY] at hc)<;>first|omega|(conv=>whnf)))
    · have h21 : ¬at'.op = 21 := by simpa using hc
      rw [if_neg (fun h => h21 h.2), if_neg (fun h => h21 h.2), preL_add] at he
      rename_i t5 ht5 t6 ht6
      exact loopTo (i + 1, (V ++ [t.v[i]], t5), (T ++ [at'], t6), A1 ++ ac, af, lm2, tk2) ⟨by show i + 1 ≤ _; omega, ht5, ht6, e1, e2, by simp; omega, by simp; omega, C ++ ac, _, by rw [hA1, List.append_assoc], hlm2, by show (C ++ ac).length + Trm.bulks (t.t.drop (i + 1)) ≤ _; rw [List.length_append]; omega, hlr2, he⟩ (by show t.v.length - (i + 1) < t.v.length - i; omega) wA
    · have h21 : at'.op = 21 := by simpa using hc
      rw [if_pos ⟨‹_›, h21⟩, if_pos ⟨‹_›, h21⟩, preL_skip] at he
      exact loopTo (i + 1, (V, tv), (T, tt'), A1 ++ ac, af, lm2, tk2) ⟨by show i + 1 ≤ _; omega, htv, htt, e1, e2, by show V.length ≤ i + 1; omega, htl, C ++ ac, _, by rw [hA1, List.append_assoc], hlm2, by show (C ++ ac).length + Trm.bulks (t.t.drop (i + 1)) ≤ _; rw [List.length_append]; omega, hlr2, he⟩ (by show t.v.length - (i + 1) < t.v.length - i; omega) wA
  · have hit : i < t.t.length := by omega
    have hiv : i < t.v.length := by omega
    have hvn : t.v[i] ∉ t.v.take i := fun h => by
      obtain ⟨j, hj, e⟩ := List.getElem_of_mem h
      rw [List.getElem_take] at e
      rw [List.length_take] at hj
      exact (List.pairwise_iff_getElem.1 hnd j i (by omega) hiv (by omega)) e
    have hst : stF lm t.v[i] = false := by rw [stF, hlr _ hvn]
    rw [drop_at hit, Trm.bulks] at hcl
    refine PCall.go (hx _ (List.getElem_mem hit) tk1 A1 f1 ov k1 k2 (by rw [hA1, List.length_append]; omega) hov) (WkT.refl _) ?_
    rintro _ _ ⟨tk2, e1, e2, rfl, rfl⟩
    have hal : (t.t[i].clo false ov A1.length f1).c.length ≤ t.t[i].bulk := (t.t[i].clo_lens false).1 ov A1.length f1
    rw [drop_at hit, drop_at hiv, Trm.cloL] at he
    generalize t.t[i].clo false ov A1.length f1 = a at *
    obtain ⟨at', ac, af⟩ := a
    dsimp only at hal he ⊢
    have hlr2 : ∀ v, v ∉ t.v.take (i + 1) → lm v = none := fun v hv => hlr v (take_not hiv hv).1
    rw [if_neg hc, if_neg (fun h => hc h.1), if_neg (fun h => hc h.1)] at he
    have hA2 : (A1 ++ ac).length = A1.length + ac.length := List.length_append ..
    rw [← hA2, preL_add] at he
    conv => whnf
    repeat' (first|((first|((first|(apply zY;intro hg)|apply zZ);first|exact stA|exact stB|((conv=>whnf);(repeat ((first|(refine zW ?_ ?_;exact gA)|refine zA ?_|refine zH rfl ?_|refine zB ?_|(refine yE ?_ ?_ ?_ ?_;assumption;omega;omega)|(refine yF ?_ rfl ?_;omega)|(apply yH;assumption)|(refine yI ?_ ?_;assumption)|intro _);conv=>whnf));first|exact pS|exact pL|exact pE))|(refine zW ?_ ?_;exact gA)|refine zH rfl ?_|refine zA ?_|refine zI bA ?_|refine zI rfl ?_|refine zJ rfl rfl ?_|refine zB ?_|refine zK rfl ?_|refine zL rfl ?_|refine zC ?_|(refine zO ?_ ?_ ?_;omega;omega)|(refine zP ?_ ?_ ?_;omega;omega)|refine zM rfl ?_|(refine zQ ?_ ?_ ?_;omega;omega)|(refine zR ?_ ?_;omega)|(refine zI ?_ ?_;exact nA)|(refine zS ?_ ?_ ?_;omega;omega)|(refine zT ?_ ?_ ?_;omega;omega)|(refine zU ?_ ?_ ?_;omega;omega)|(refine zV ?_ ?_ ?_;omega;omega)|(refine yA ?_ rfl ?_ ?_;assumption;exact lA)|(refine yB ?_ rfl ?_ ?_;assumption;exact lA)|(refine yC rfl ?_ ?_;exact lA)|(refine yD ?_ ?_ rfl ?_ ?_;assumption;assumption;exact lA)|(refine yE ?_ ?_ ?_ ?_;assumption;omega;omega)|(refine yF ?_ rfl ?_;omega)|(apply yH;assumption)|(refine yI ?_ ?_;assumption)|(refine yG ?_ rfl rfl rfl ?_;omega)|refine n0 ?_|refine zN rfl rfl rfl ?_|refine zD ?_|refine zE ?_|refine zF ?_|refine PDraw.sT (some 57) rfl [4,9] [11,12,13] tt_ok mixed ?_|refine PDraw.sP (some 77) rfl [] [6] tt_ok mixed ?_|intro _|refine zG ?_);conv=>whnf)|(refine zX (fun hc => ?_) (fun hc => ?_)<;>(try simp only [SY] at hc)<;>first|omega|(conv=>whnf)))
    refine PLook.kn ?_
    rw [hst]
    conv => whnf
    repeat' (first|((first|((first|(apply zY;intro hg)|apply zZ);first|exact stA|exact stB|((conv=>whnf);(repeat ((first|(refine zW ?_ ?_;exact gA)|refine zA ?_|refine zH rfl ?_|refine zB ?_|(refine yE ?_ ?_ ?_ ?_;assumption;omega;omega)|(refine yF ?_ rfl ?_;omega)|(apply yH;assumption)|(refine yI ?_ ?_;assumption)|intro _);conv=>whnf));first|exact pS|exact pL|exact pE))|(refine zW ?_ ?_;exact gA)|refine zH rfl ?_|refine zA ?_|refine zI bA ?_|refine zI rfl ?_|refine zJ rfl rfl ?_|refine zB ?_|refine zK rfl ?_|refine zL rfl ?_|refine zC ?_|(refine zO ?_ ?_ ?_;omega;omega)|(refine zP ?_ ?_ ?_;omega;omega)|refine zM rfl ?_|(refine zQ ?_ ?_ ?_;omega;omega)|(refine zR ?_ ?_;omega)|(refine zI ?_ ?_;exact nA)|(refine zS ?_ ?_ ?_;omega;omega)|(refine zT ?_ ?_ ?_;omega;omega)|(refine zU ?_ ?_ ?_;omega;omega)|(refine zV ?_ ?_ ?_;omega;omega)|(refine yA ?_ rfl ?_ ?_;assumption;exact lA)|(refine yB ?_ rfl ?_ ?_;assumption;exact lA)|(refine yC rfl ?_ ?_;exact lA)|(refine yD ?_ ?_ rfl ?_ ?_;assumption;assumption;exact lA)|(refine yE ?_ ?_ ?_ ?_;assumption;omega;omega)|(refine yF ?_ rfl ?_;omega)|(apply yH;assumption)|(refine yI ?_ ?_;assumption)|(refine yG ?_ rfl rfl rfl ?_;omega)|refine n0 ?_|refine zN rfl rfl rfl ?_|refine zD ?_|refine zE ?_|refine zF ?_|refine PDraw.sT (some 57) rfl [4,9] [11,12,13] tt_ok mixed ?_|refine PDraw.sP (some 77) rfl [] [6] tt_ok mixed ?_|intro _|refine zG ?_);conv=>whnf)|(refine zX (fun hc => ?_) (fun hc => ?_)<;>(try simp only [SY] at hc)<;>first|omega|(conv=>whnf)))
    rename_i t5 ht5 t6 ht6
    exact loopTo (i + 1, (V ++ [t.v[i]], t5), (T ++ [at'], t6), A1 ++ ac, af, lm, tk2) ⟨by show i + 1 ≤ _; omega, ht5, ht6, e1, e2, by simp; omega, by simp; omega, C ++ ac, _, by rw [hA1, List.append_assoc], hlm, by show (C ++ ac).length + Trm.bulks (t.t.drop (i + 1)) ≤ _; rw [List.length_append]; omega, hlr2, he⟩ (by show t.v.length - (i + 1) < t.v.length - i; omega) wA
  · obtain rfl : i = t.v.length := by omega
    have hlt : t.v.length < t.t.length := by omega
    rw [drop_at hlt, Trm.bulks] at hcl
    rw [drop_at hlt, List.drop_of_length_le (Nat.le_refl t.v.length), Trm.cloL, learnF_eq, ← hlm] at he
    refine PRangeM.num fun bI all cl hAll hcl2 => ?_
    conv => whnf
    repeat' (first|((first|((first|(apply zY;intro hg)|apply zZ);first|exact stA|exact stB|((conv=>whnf);(repeat ((first|(refine zW ?_ ?_;exact gA)|refine zA ?_|refine zH rfl ?_|refine zB ?_|(refine yE ?_ ?_ ?_ ?_;assumption;omega;omega)|(refine yF ?_ rfl ?_;omega)|(apply yH;assumption)|(refine yI ?_ ?_;assumption)|intro _);conv=>whnf));first|exact pS|exact pL|exact pE))|(refine zW ?_ ?_;exact gA)|refine zH rfl ?_|refine zA ?_|refine zI bA ?_|refine zI rfl ?_|refine zJ rfl rfl ?_|refine zB ?_|refine zK rfl ?_|refine zL rfl ?_|refine zC ?_|(refine zO ?_ ?_ ?_;omega;omega)|(refine zP ?_ ?_ ?_;omega;omega)|refine zM rfl ?_|(refine zQ ?_ ?_ ?_;omega;omega)|(refine zR ?_ ?_;omega)|(refine zI ?_ ?_;exact nA)|(refine zS ?_ ?_ ?_;omega;omega)|(refine zT ?_ ?_ ?_;omega;omega)|(refine zU ?_ ?_ ?_;omega;omega)|(refine zV ?_ ?_ ?_;omega;omega)|(refine yA ?_ rfl ?_ ?_;assumption;exact lA)|(refine yB ?_ rfl ?_ ?_;assumption;exact lA)|(refine yC rfl ?_ ?_;exact lA)|(refine yD ?_ ?_ rfl ?_ ?_;assumption;assumption;exact lA)|(refine yE ?_ ?_ ?_ ?_;assumption;omega;omega)|(refine yF ?_ rfl ?_;omega)|(apply yH;assumption)|(refine yI ?_ ?_;assumption)|(refine yG ?_ rfl rfl rfl ?_;omega)|refine n0 ?_|refine zN rfl rfl rfl ?_|refine zD ?_|refine zE ?_|refine zF ?_|refine PDraw.sT (some 57) rfl [4,9] [11,12,13] tt_ok mixed ?_|refine PDraw.sP (some 77) rfl [] [6] tt_ok mixed ?_|intro _|refine zG ?_);conv=>whnf)|(refine zX (fun hc => ?_) (fun hc => ?_)<;>(try simp only [SY] at hc)<;>first|omega|(conv=>whnf)))
    refine PLoop.over [13, 14, 72, 73, 74, 75, 76, 77, 78, 79, 80, 81, 82] (fun x : Array Nat × Fm => [])
      (fun x : Array Nat × Fm => .ob bI (itO r2 cl x.1) [] [] :: .mp r2 (.int .i64) (mapM Kn.pa lm) (pdI cl all) :: .tok tv :: .tok tt' :: .box b7 [.int .i64 8, .int .i64 0, .sl 1 (V.map (PV.int .i64)) (some tv), .sl 4 (T.map Trm.pv) (some tt')] :: .box b4 [.int .i64 t.op, .int .i64 t.n, .sl 1 (t.v.map (PV.int .i64)) none, .sl 4 (t.t.map Trm.pv) none] :: .box b6 [.int .i64 0, .int .i64 0, .nil, .nil] :: mkrG b r tk1 A1 x.2)
      (fun x => (∀ k, (∃ n, n ∈ x.1.toList ∧ (n, k) ∈ all) → x.2 k = lm k) ∧ (∀ k, (¬∃ n, n ∈ x.1.toList ∧ (n, k) ∈ all) → x.2 k = f1 k)) (fun x => (all.filter fun q => decide (q.1 ∉ x.1.toList)).length) (#[], f1) ⟨fun k h => by simp at h, fun k _ => rfl⟩ wA ?_
    rintro ⟨seen, f2⟩ ⟨hs1, hs2⟩
    dsimp only at hs1 hs2 ⊢
    conv => whnf
    repeat' (first|((first|((first|(apply zY;intro hg)|apply zZ);first|exact stA|exact stB|((conv=>whnf);(repeat ((first|(refine zW ?_ ?_;exact gA)|refine zA ?_|refine zH rfl ?_|refine zB ?_|(refine yE ?_ ?_ ?_ ?_;assumption;omega;omega)|(refine yF ?_ rfl ?_;omega)|(apply yH;assumption)|(refine yI ?_ ?_;assumption)|intro _);conv=>whnf));first|exact pS|exact pL|exact pE))|(refine zW ?_ ?_;exact gA)|refine zH rfl ?_|refine zA ?_|refine zI bA ?_|refine zI rfl ?_|refine zJ rfl rfl ?_|refine zB ?_|refine zK rfl ?_|refine zL rfl ?_|refine zC ?_|(refine zO ?_ ?_ ?_;omega;omega)|(refine zP ?_ ?_ ?_;omega;omega)|refine zM rfl ?_|(refine zQ ?_ ?_ ?_;omega;omega)|(refine zR ?_ ?_;omega)|(refine zI ?_ ?_;exact nA)|(refine zS ?_ ?_ ?_;omega;omega)|(refine zT ?_ ?_ ?_;omega;omega)|(refine zU ?_ ?_ ?_;omega;omega)|(refine zV ?_ ?_ ?_;omega;omega)|(refine yA ?_ rfl ?_ ?_;assumption;exact lA)|(refine yB ?_ rfl ?_ ?_;assumption;exact lA)|(refine yC rfl ?_ ?_;exact lA)|(refine yD ?_ ?_ rfl ?_ ?_;assumption;assumption;exact lA)|(refine yE ?_ ?_ ?_ ?_;assumption;omega;omega)|(refine yF ?_ rfl ?_;omega)|(apply yH;assumption)|(refine yI ?_ ?_;assumption)|(refine yG ?_ rfl rfl rfl ?_;omega)|refine n0 ?_|refine zN rfl rfl rfl ?_|refine zD ?_|refine zE ?_|refine zF ?_|refine PDraw.sT (some 57) rfl [4,9] [11,12,13] tt_ok mixed ?_|refine PDraw.sP (some 77) rfl [] [6] tt_ok mixed ?_|intro _|refine zG ?_);conv=>whnf)|(refine zX (fun hc => ?_) (fun hc => ?_)<;>(try simp only [SY] at hc)<;>first|omega|(conv=>whnf)))
    refine PNextM.num hAll hcl2 (fun n z y hn hz hs => ?_) (fun hs => ?_)
    · conv => whnf
      repeat' (first|((first|((first|(apply zY;intro hg)|apply zZ);first|exact stA|exact stB|((conv=>whnf);(repeat ((first|(refine zW ?_ ?_;exact gA)|refine zA ?_|refine zH rfl ?_|refine zB ?_|(refine yE ?_ ?_ ?_ ?_;assumption;omega;omega)|(refine yF ?_ rfl ?_;omega)|(apply yH;assumption)|(refine yI ?_ ?_;assumption)|intro _);conv=>whnf));first|exact pS|exact pL|exact pE))|(refine zW ?_ ?_;exact gA)|refine zH rfl ?_|refine zA ?_|refine zI bA ?_|refine zI rfl ?_|refine zJ rfl rfl ?_|refine zB ?_|refine zK rfl ?_|refine zL rfl ?_|refine zC ?_|(refine zO ?_ ?_ ?_;omega;omega)|(refine zP ?_ ?_ ?_;omega;omega)|refine zM rfl ?_|(refine zQ ?_ ?_ ?_;omega;omega)|(refine zR ?_ ?_;omega)|(refine zI ?_ ?_;exact nA)|(refine zS ?_ ?_ ?_;omega;omega)|(refine zT ?_ ?_ ?_;omega;omega)|(refine zU ?_ ?_ ?_;omega;omega)|(refine zV ?_ ?_ ?_;omega;omega)|(refine yA ?_ rfl ?_ ?_;assumption;exact lA)|(refine yB ?_ rfl ?_ ?_;assumption;exact lA)|(refine yC rfl ?_ ?_;exact lA)|(refine yD ?_ ?_ rfl ?_ ?_;assumption;assumption;exact lA)|(refine yE ?_ ?_ ?_ ?_;assumption;omega;omega)|(refine yF ?_ rfl ?_;omega)|(apply yH;assumption)|(refine yI ?_ ?_;assumption)|(refine yG ?_ rfl rfl rfl ?_;omega)|refine n0 ?_|refine zN rfl rfl rfl ?_|refine zD ?_|refine zE ?_|refine zF ?_|refine PDraw.sT (some 57) rfl [4,9] [11,12,13] tt_ok mixed ?_|refine PDraw.sP (some 77) rfl [] [6] tt_ok mixed ?_|intro _|refine zG ?_);conv=>whnf)|(refine zX (fun hc => ?_) (fun hc => ?_)<;>(try simp only [SY] at hc)<;>first|omega|(conv=>whnf)))
      refine PEntryM.num z y hn hz ?_
      conv => whnf
      repeat' (first|((first|((first|(apply zY;intro hg)|apply zZ);first|exact stA|exact stB|((conv=>whnf);(repeat ((first|(refine zW ?_ ?_;exact gA)|refine zA ?_|refine zH rfl ?_|refine zB ?_|(refine yE ?_ ?_ ?_ ?_;assumption;omega;omega)|(refine yF ?_ rfl ?_;omega)|(apply yH;assumption)|(refine yI ?_ ?_;assumption)|intro _);conv=>whnf));first|exact pS|exact pL|exact pE))|(refine zW ?_ ?_;exact gA)|refine zH rfl ?_|refine zA ?_|refine zI bA ?_|refine zI rfl ?_|refine zJ rfl rfl ?_|refine zB ?_|refine zK rfl ?_|refine zL rfl ?_|refine zC ?_|(refine zO ?_ ?_ ?_;omega;omega)|(refine zP ?_ ?_ ?_;omega;omega)|refine zM rfl ?_|(refine zQ ?_ ?_ ?_;omega;omega)|(refine zR ?_ ?_;omega)|(refine zI ?_ ?_;exact nA)|(refine zS ?_ ?_ ?_;omega;omega)|(refine zT ?_ ?_ ?_;omega;omega)|(refine zU ?_ ?_ ?_;omega;omega)|(refine zV ?_ ?_ ?_;omega;omega)|(refine yA ?_ rfl ?_ ?_;assumption;exact lA)|(refine yB ?_ rfl ?_ ?_;assumption;exact lA)|(refine yC rfl ?_ ?_;exact lA)|(refine yD ?_ ?_ rfl ?_ ?_;assumption;assumption;exact lA)|(refine yE ?_ ?_ ?_ ?_;assumption;omega;omega)|(refine yF ?_ rfl ?_;omega)|(apply yH;assumption)|(refine yI ?_ ?_;assumption)|(refine yG ?_ rfl rfl rfl ?_;omega)|refine n0 ?_|refine zN rfl rfl rfl ?_|refine zD ?_|refine zE ?_|refine zF ?_|refine PDraw.sT (some 57) rfl [4,9] [11,12,13] tt_ok mixed ?_|refine PDraw.sP (some 77) rfl [] [6] tt_ok mixed ?_|intro _|refine zG ?_);conv=>whnf)|(refine zX (fun hc => ?_) (fun hc => ?_)<;>(try simp only [SY] at hc)<;>first|omega|(conv=>whnf)))
      refine PMapPut.num y rfl ?_
      conv => whnf
      repeat' (first|((first|((first|(apply zY;intro hg)|apply zZ);first|exact stA|exact stB|((conv=>whnf);(repeat ((first|(refine zW ?_ ?_;exact gA)|refine zA ?_|refine zH rfl ?_|refine zB ?_|(refine yE ?_ ?_ ?_ ?_;assumption;omega;omega)|(refine yF ?_ rfl ?_;omega)|(apply yH;assumption)|(refine yI ?_ ?_;assumption)|intro _);conv=>whnf));first|exact pS|exact pL|exact pE))|(refine zW ?_ ?_;exact gA)|refine zH rfl ?_|refine zA ?_|refine zI bA ?_|refine zI rfl ?_|refine zJ rfl rfl ?_|refine zB ?_|refine zK rfl ?_|refine zL rfl ?_|refine zC ?_|(refine zO ?_ ?_ ?_;omega;omega)|(refine zP ?_ ?_ ?_;omega;omega)|refine zM rfl ?_|(refine zQ ?_ ?_ ?_;omega;omega)|(refine zR ?_ ?_;omega)|(refine zI ?_ ?_;exact nA)|(refine zS ?_ ?_ ?_;omega;omega)|(refine zT ?_ ?_ ?_;omega;omega)|(refine zU ?_ ?_ ?_;omega;omega)|(refine zV ?_ ?_ ?_;omega;omega)|(refine yA ?_ rfl ?_ ?_;assumption;exact lA)|(refine yB ?_ rfl ?_ ?_;assumption;exact lA)|(refine yC rfl ?_ ?_;exact lA)|(refine yD ?_ ?_ rfl ?_ ?_;assumption;assumption;exact lA)|(refine yE ?_ ?_ ?_ ?_;assumption;omega;omega)|(refine yF ?_ rfl ?_;omega)|(apply yH;assumption)|(refine yI ?_ ?_;assumption)|(refine yG ?_ rfl rfl rfl ?_;omega)|refine n0 ?_|refine zN rfl rfl rfl ?_|refine zD ?_|refine zE ?_|refine zF ?_|refine PDraw.sT (some 57) rfl [4,9] [11,12,13] tt_ok mixed ?_|refine PDraw.sP (some 77) rfl [] [6] tt_ok mixed ?_|intro _|refine zG ?_);conv=>whnf)|(refine zX (fun hc => ?_) (fun hc => ?_)<;>(try simp only [SY] at hc)<;>first|omega|(conv=>whnf)))
      refine loopTo (seen.push n, upd f2 z y) ⟨fun k hk => ?_, fun k hk => ?_⟩ ?_ wA
      · obtain ⟨n2, q1, q2⟩ := hk
        show upd f2 z y k = lm k
        by_cases e : k = z
        · rw [upd, if_pos e, e, hz]
        · rw [upd, if_neg e]
          refine hs1 k ⟨n2, ?_, q2⟩
          simp only [Array.toList_push, List.mem_append, List.mem_singleton] at q1
          rcases q1 with q1 | q1
          · exact q1
          · exfalso
            have := nodup_inj hAll.nb hn q2 q1.symm
            exact e (congrArg Prod.snd this).symm
      · show upd f2 z y k = f1 k
        have e : k ≠ z := fun e => hk ⟨n, by simp, by rw [e]; exact hn⟩
        rw [upd, if_neg e]
        exact hs2 k fun ⟨n2, q1, q2⟩ => hk ⟨n2, by simp only [Array.toList_push, List.mem_append]; exact .inl q1, q2⟩
      · refine filt_lt (fun q hq => ?_) all ⟨(n, z), hn, by simpa using hs, by simp⟩
        simp only [Array.toList_push, List.mem_append, List.mem_singleton, not_or, decide_eq_true_eq] at hq ⊢
        exact hq.1
    · have hf2 : f2 = orF lm f1 := by
        funext k
        rw [orF]
        cases hk : lm k with
        | none =>
          exact hs2 k fun ⟨n2, q1, q2⟩ => (hAll.dom k).2 ⟨n2, q2⟩ hk
        | some y =>
          obtain ⟨n2, q2⟩ := (hAll.dom k).1 (by rw [hk]; simp)
          rw [hs1 k ⟨n2, hs _ q2, q2⟩, hk]
      rw [← hf2] at he
      have hal : (t.t[t.v.length].clo false ov A1.length f2).c.length ≤ t.t[t.v.length].bulk := (t.t[t.v.length].clo_lens false).1 ov A1.length f2
      conv => whnf
      repeat' (first|((first|((first|(apply zY;intro hg)|apply zZ);first|exact stA|exact stB|((conv=>whnf);(repeat ((first|(refine zW ?_ ?_;exact gA)|refine zA ?_|refine zH rfl ?_|refine zB ?_|(refine yE ?_ ?_ ?_ ?_;assumption;omega;omega)|(refine yF ?_ rfl ?_;omega)|(apply yH;assumption)|(refine yI ?_ ?_;assumption)|intro _);conv=>whnf));first|exact pS|exact pL|exact pE))|(refine zW ?_ ?_;exact gA)|refine zH rfl ?_|refine zA ?_|refine zI bA ?_|refine zI rfl ?_|refine zJ rfl rfl ?_|refine zB ?_|refine zK rfl ?_|refine zL rfl ?_|refine zC ?_|(refine zO ?_ ?_ ?_;omega;omega)|(refine zP ?_ ?_ ?_;omega;omega)|refine zM rfl ?_|(refine zQ ?_ ?_ ?_;omega;omega)|(refine zR ?_ ?_;omega)|(refine zI ?_ ?_;exact nA)|(refine zS ?_ ?_ ?_;omega;omega)|(refine zT ?_ ?_ ?_;omega;omega)|(refine zU ?_ ?_ ?_;omega;omega)|(refine zV ?_ ?_ ?_;omega;omega)|(refine yA ?_ rfl ?_ ?_;assumption;exact lA)|(refine yB ?_ rfl ?_ ?_;assumption;exact lA)|(refine yC rfl ?_ ?_;exact lA)|(refine yD ?_ ?_ rfl ?_ ?_;assumption;assumption;exact lA)|(refine yE ?_ ?_ ?_ ?_;assumption;omega;omega)|(refine yF ?_ rfl ?_;omega)|(apply yH;assumption)|(refine yI ?_ ?_;assumption)|(refine yG ?_ rfl rfl rfl ?_;omega)|refine n0 ?_|refine zN rfl rfl rfl ?_|refine zD ?_|refine zE ?_|refine zF ?_|refine PDraw.sT (some 57) rfl [4,9] [11,12,13] tt_ok mixed ?_|refine PDraw.sP (some 77) rfl [] [6] tt_ok mixed ?_|intro _|refine zG ?_);conv=>whnf)|(refine zX (fun hc => ?_) (fun hc => ?_)<;>(try simp only [SY] at hc)<;>first|omega|(conv=>whnf)))
      refine PCall.go (hx _ (List.getElem_mem hlt) tk1 A1 f2 ov k1 k2 (by rw [hA1, List.length_append]; omega) hov) (WkT.refl _) ?_
      rintro _ _ ⟨tk2, e1, e2, rfl, rfl⟩
      generalize t.t[t.v.length].clo false ov A1.length f2 = a at *
      obtain ⟨at', ac, af⟩ := a
      dsimp only at hal he ⊢
      simp only [preL, List.append_nil] at he
      rw [he]
      dsimp only
      have hA2 : A ++ (C ++ ac) = A1 ++ ac := by rw [hA1, List.append_assoc]
      rw [hA2]
      conv => whnf
      repeat' (first|((first|((first|(apply zY;intro hg)|apply zZ);first|exact stA|exact stB|((conv=>whnf);(repeat ((first|(refine zW ?_ ?_;exact gA)|refine zA ?_|refine zH rfl ?_|refine zB ?_|(refine yE ?_ ?_ ?_ ?_;assumption;omega;omega)|(refine yF ?_ rfl ?_;omega)|(apply yH;assumption)|(refine yI ?_ ?_;assumption)|intro _);conv=>whnf));first|exact pS|exact pL|exact pE))|(refine zW ?_ ?_;exact gA)|refine zH rfl ?_|refine zA ?_|refine zI bA ?_|refine zI rfl ?_|refine zJ rfl rfl ?_|refine zB ?_|refine zK rfl ?_|refine zL rfl ?_|refine zC ?_|(refine zO ?_ ?_ ?_;omega;omega)|(refine zP ?_ ?_ ?_;omega;omega)|refine zM rfl ?_|(refine zQ ?_ ?_ ?_;omega;omega)|(refine zR ?_ ?_;omega)|(refine zI ?_ ?_;exact nA)|(refine zS ?_ ?_ ?_;omega;omega)|(refine zT ?_ ?_ ?_;omega;omega)|(refine zU ?_ ?_ ?_;omega;omega)|(refine zV ?_ ?_ ?_;omega;omega)|(refine yA ?_ rfl ?_ ?_;assumption;exact lA)|(refine yB ?_ rfl ?_ ?_;assumption;exact lA)|(refine yC rfl ?_ ?_;exact lA)|(refine yD ?_ ?_ rfl ?_ ?_;assumption;assumption;exact lA)|(refine yE ?_ ?_ ?_ ?_;assumption;omega;omega)|(refine yF ?_ rfl ?_;omega)|(apply yH;assumption)|(refine yI ?_ ?_;assumption)|(refine yG ?_ rfl rfl rfl ?_;omega)|refine n0 ?_|refine zN rfl rfl rfl ?_|refine zD ?_|refine zE ?_|refine zF ?_|refine PDraw.sT (some 57) rfl [4,9] [11,12,13] tt_ok mixed ?_|refine PDraw.sP (some 77) rfl [] [6] tt_ok mixed ?_|intro _|refine zG ?_);conv=>whnf)|(refine zX (fun hc => ?_) (fun hc => ?_)<;>(try simp only [SY] at hc)<;>first|omega|(conv=>whnf)))
      · rw [if_pos (by omega)]
        exact PRet.gen (y := .agg at'.cells) (Γ' := mkrG b r tk2 (A1 ++ ac) af) TrmOf.wk ⟨tk2, e1, e2, rfl, rfl⟩
      · rw [if_neg (by omega)]
        exact PRet.gen (y := .agg (Trm.mk 8 0 V (T ++ [at'])).cells) (Γ' := mkrG b r tk2 (A1 ++ ac) af) TrmOf.wk ⟨tk2, e1, e2, rfl, rfl⟩
end Go.Cb
namespace Go.Cb
open Go.RowKit (Below)
set_option maxRecDepth 100000
set_option maxHeartbeats 4000000
section
variable {P : Program} {tt : Nat → TI}
theorem SSeq_imp {full : List Oper} {Γ : List Ent} {k k' : List PV → Prop} (hk : ∀ T, k T → k' T) : ∀ (l : List Oper) (T : List PV), SSeq P tt full l T Γ k → SSeq P tt full l T Γ k'
  | [], T, h => hk T h
  | x :: l, T, h => by
    obtain ⟨v, h1, h2⟩ := SSeq_cons.1 h
    exact SSeq_cons.2 ⟨v, h1, SSeq_imp hk l _ h2⟩
theorem gameP (hk : TT.ok P tt) (rd : Option Nat) (nn : Nat) {ops : Array Oper} {tab R2 : List Nat} (hc : tabChk ops tab = true) {w0 : World} {M Γ2 : List Ent} {F0 : Fz} {ds : List Deferred} {Q' : Exit → Act → World → Prop}
    {Tl : List PV → List Ent → Prop} (hTl : ∀ (fuel : Nat) (listed : Array Bool) (T : List PV) (Γ : List Ent) (F : Fz) (a : Act) (w : World), R2.length ≤ fuel → Down ops listed → Pend ops listed R2 → F0.le F → Sim w0 F (Γ ++ M) w → RepT F T a.tmps.toList → a.defers = ds →
      Tl T Γ → wpAnyIn (Fen rd) nn P .any ops Q' fuel listed a w) {p q : Nat} {R : List Nat} :
    ∀ (n : Nat) (A : List Nat) (fuel : Nat) (listed : Array Bool) (T : List PV) (Γ1 : List Ent) (F : Fz) (a : Act) (w : World), A.length = n → n + (2 + R.length) + R2.length ≤ fuel →
      Down ops listed → Pend ops listed (A ++ (p :: q :: (R ++ R2))) → Split0 ops tab A (p :: R) R2 → Split0 ops tab A (q :: R) R2 → F0.le F → Sim w0 F (Γ1 ++ (Γ2 ++ M)) w → RepT F T a.tmps.toList → a.defers = ds →
      (SSeq P tt ops.toList (A.filterMap (ops[·]?)) T Γ2 fun T' => (WOps P tt ops.toList ((p :: q :: R).filterMap (ops[·]?)) T' Γ1 [] fun T2 Γ1' _ => Tl T2 (Γ1' ++ Γ2)) ∧ (WOps P tt ops.toList ((q :: p :: R).filterMap (ops[·]?)) T' Γ1 [] fun T2 Γ1' _ => Tl T2 (Γ1' ++ Γ2))) →
      wpAnyIn (Fen rd) nn P .any ops Q' fuel listed a w := by
  intro n
  induction n with
  | zero | succ n ih =>
    intro A fuel listed T Γ1 F a w hn hf hd hp hsp hsq hle hS hT hds h
    cases fuel with
    | zero => omega
    | succ fuel =>
    refine ⟨fun hnil => ?_, fun i hi => ?_⟩
    · exfalso
      cases hAR : A ++ (p :: q :: (R ++ R2)) with
      | nil => simp at hAR
      | cons x xs =>
        rw [hAR] at hp
        obtain ⟨k, hk'⟩ := ready_exists hc hp
        rw [hnil] at hk'
        cases hk'
    · obtain ⟨o, ho⟩ := hp.2.2 i (hp.ready hi)
      have un : ∀ {j : Nat}, j ∈ A ++ (p :: q :: (R ++ R2)) → anc tab i j = true → False := fun {j} hj ha => blocked hc hd i ho ha ((hp.2.1 j).2 hj) hi
      have free : ∀ {j : Nat} {x : Oper}, j ∈ A ++ (p :: q :: (R ++ R2)) → ops[j]? = some x → (anc tab i j = true ∨ apartAt ops j i = true) → x.apart ops o = true := by
        intro j x hj hx h
        rcases h with h | h
        · exact (un hj h).elim
        · simpa [apartAt, hx, ho] using h
      have hmem := hp.ready hi
      rw [List.mem_append, List.mem_cons, List.mem_cons, List.mem_append] at hmem
      rcases hmem with hm | hm | hm | hm | hm
      · first
        | (exfalso; rw [List.eq_nil_of_length_eq_zero hn] at hm; cases hm)
        | (obtain ⟨A1, A2, rfl⟩ := List.append_of_mem hm
           rw [filterMap_split ho] at h
           have hap : ∀ x ∈ A1.filterMap (ops[·]?), x.apart ops o = true := by
             intro x hx
             obtain ⟨j, hj, hx⟩ := List.mem_filterMap.1 hx
             exact free (by simp [hj]) hx ((List.pairwise_append.1 hsp.pa).2.2 j hj i (by simp))
           obtain ⟨v, h1, h2⟩ := SSeq_move _ T hap h
           have hS2 : Sim w0 F (Γ2 ++ (Γ1 ++ M)) w := hS.perm (by
             rw [← List.append_assoc, ← List.append_assoc]
             exact List.perm_append_comm.append_right M)
           unfold wpOpIn
           simp only [ho]
           have key := SVal_sound hk (rd := rd) (nn := nn) (Q := Q') (next := fun a w => wpAnyIn (Fen rd) nn P .any ops Q' fuel (listed.setIfInBounds i true) a w) hS2 hT h1 (by
             intro F' u w' hle' hS' hx
             refine ih (A1 ++ A2) fuel _ (putT T o.dst v) Γ1 F' _ w' (by simp at hn ⊢; omega) (by omega) (hd.set hi) ?_ hsp.dropA hsq.dropA (Fz.le_trans hle hle') ?_ (put_rep (RepT.mono hle' _ _ hT) hx o.dst)
               ((put_defers a o.dst u).trans hds) ?_
             · have := Pend.set (l1 := A1) (l2 := A2 ++ (p :: q :: (R ++ R2))) (i := i) (by simpa using hp)
               rwa [List.append_assoc]
             · exact hS'.perm (by
                 rw [← List.append_assoc, ← List.append_assoc]
                 exact List.perm_append_comm.append_right M)
             · rw [List.filterMap_append]; exact h2)
           split at key <;> rename_i hw
           · rw [if_pos hw]; exact key
           · rw [if_neg hw]; exact ⟨fun _ _ => trivial, key⟩)
      · subst hm
        have hg : o.guard = none := hsp.ug i (by simp) o ho
        have e1 : (i :: q :: R).filterMap (ops[·]?) = o :: (q :: R).filterMap (ops[·]?) := by rw [List.filterMap_cons, ho]
        have h := SSeq_imp (fun _ h => h.1) _ _ h
        rw [e1] at h
        have hap : ∀ x ∈ A.filterMap (ops[·]?), x.apart ops o = true := by
          intro x hx
          obtain ⟨j, hj, hx⟩ := List.mem_filterMap.1 hx
          exact free (by simp [hj]) hx (hsp.par j hj i (by simp))
        have h2 := SSeq_eff (kk := fun T' Γ1' => WOps P tt ops.toList ((q :: R).filterMap (ops[·]?)) T' Γ1' [] fun T2 Γ1' _ => Tl T2 (Γ1' ++ Γ2)) _ T hap (by
          have hnd := hsp.nd i (by simp) o ho
          simpa only [WOps, hg, WOpD_noDef hnd, putK_T] using h)
        unfold wpOpIn
        simp only [ho]
        rw [if_pos (by simp [Region.wanted, hg])]
        refine WOp_sound hk (M := Γ2 ++ M) hS hT h2 ?_
        rintro F' x Γ' v' w' hle' hS' hx hK
        refine game0 hk rd nn hc hTl _ A (q :: R) fuel _ (putT T o.dst x) Γ' F' _ w' rfl (by simp only [List.length_cons]; omega) (hd.set hi) ?_ hsq (Fz.le_trans hle hle') hS' (put_rep (RepT.mono hle' _ _ hT) hx o.dst)
          ((put_defers a o.dst v').trans hds) hK
        have := Pend.set (l1 := A) (l2 := q :: (R ++ R2)) (i := i) (by simpa using hp)
        simpa using this
      · subst hm
        have hg : o.guard = none := hsq.ug i (by simp) o ho
        have e1 : (i :: p :: R).filterMap (ops[·]?) = o :: (p :: R).filterMap (ops[·]?) := by rw [List.filterMap_cons, ho]
        have h := SSeq_imp (fun _ h => h.2) _ _ h
        rw [e1] at h
        have hap : ∀ x ∈ A.filterMap (ops[·]?), x.apart ops o = true := by
          intro x hx
          obtain ⟨j, hj, hx⟩ := List.mem_filterMap.1 hx
          exact free (by simp [hj]) hx (hsq.par j hj i (by simp))
        have h2 := SSeq_eff (kk := fun T' Γ1' => WOps P tt ops.toList ((p :: R).filterMap (ops[·]?)) T' Γ1' [] fun T2 Γ1' _ => Tl T2 (Γ1' ++ Γ2)) _ T hap (by
          have hnd := hsq.nd i (by simp) o ho
          simpa only [WOps, hg, WOpD_noDef hnd, putK_T] using h)
        unfold wpOpIn
        simp only [ho]
        rw [if_pos (by simp [Region.wanted, hg])]
        refine WOp_sound hk (M := Γ2 ++ M) hS hT h2 ?_
        rintro F' x Γ' v' w' hle' hS' hx hK
        refine game0 hk rd nn hc hTl _ A (p :: R) fuel _ (putT T o.dst x) Γ' F' _ w' rfl (by simp only [List.length_cons]; omega) (hd.set hi) ?_ hsp (Fz.le_trans hle hle') hS' (put_rep (RepT.mono hle' _ _ hT) hx o.dst)
          ((put_defers a o.dst v').trans hds) hK
        have := Pend.set (l1 := A ++ [p]) (l2 := R ++ R2) (i := i) (by simpa using hp)
        simpa using this
      · exact (un (j := p) (by simp) ((List.pairwise_cons.1 hsp.r1).1 i hm)).elim
      · exact (un (j := p) (by simp) (hsp.tl p (by simp) i hm)).elim
def split0B (ops : Array Oper) (tab A R1 R2 : List Nat) : Bool :=
  pairB (fun j i => anc tab i j || apartAt ops j i) A && A.all (fun j => R1.all fun i => anc tab i j || apartAt ops j i) &&
  pairB (fun j i => anc tab i j) R1 && (A ++ R1).all (fun j => R2.all fun i => anc tab i j) &&
  R1.all (fun i => match ops[i]? with | some o => o.guard.isNone | none => false) && R1.all (fun i => match ops[i]? with | some o => noDef o.op | none => false)
theorem Split0.ofB {ops : Array Oper} {tab A R1 R2 : List Nat} (h : split0B ops tab A R1 R2 = true) : Split0 ops tab A R1 R2 := by
  simp only [split0B, Bool.and_eq_true] at h
  obtain ⟨⟨⟨⟨⟨h1, h2⟩, h3⟩, h5⟩, h6⟩, h6'⟩ := h
  refine ⟨(pairB_iff h1).imp fun h => by simpa using h, fun j hj i hi => ?_, pairB_iff h3, fun j hj i hi => ?_, fun i hi o ho => ?_, fun i hi o ho => ?_⟩
  · have := List.all_eq_true.1 (List.all_eq_true.1 h2 j hj) i hi
    simpa using this
  · exact List.all_eq_true.1 (List.all_eq_true.1 h5 j hj) i hi
  · have := List.all_eq_true.1 h6 i hi
    rw [ho] at this
    simpa using this
  · have := List.all_eq_true.1 h6' i hi
    rw [ho] at this
    exact this
end
end Go.Cb
namespace Go.Cb
open Go.RowKit (Below)
set_option maxRecDepth 100000
set_option maxHeartbeats 4000000
section
variable {P : Program} {tt : Nat → TI}
theorem gameX (hk : TT.ok P tt) (rd : Option Nat) (nn : Nat) {ops : Array Oper} {tab R2 : List Nat} (hc : tabChk ops tab = true) {w0 : World} {M Γ2 : List Ent} {F0 : Fz} {ds : List Deferred} {Q' : Exit → Act → World → Prop}
    {Tl : List PV → List Ent → Prop} (hTl : ∀ (fuel : Nat) (listed : Array Bool) (T : List PV) (Γ : List Ent) (F : Fz) (a : Act) (w : World), R2.length ≤ fuel → Down ops listed → Pend ops listed R2 → F0.le F → Sim w0 F (Γ ++ M) w → RepT F T a.tmps.toList → a.defers = ds →
      Tl T Γ → wpAnyIn (Fen rd) nn P .any ops Q' fuel listed a w) {p q m : Nat} {R : List Nat} :
    ∀ (n : Nat) (A : List Nat) (fuel : Nat) (listed : Array Bool) (T : List PV) (Γ1 : List Ent) (F : Fz) (a : Act) (w : World), A.length = n → n + (3 + R.length) + R2.length ≤ fuel →
      Down ops listed → Pend ops listed (A ++ (p :: q :: m :: (R ++ R2))) → Split0 ops tab A (p :: R) R2 → Split0 ops tab A (q :: m :: R) R2 → Split0 ops tab A (m :: R) R2 → F0.le F → Sim w0 F (Γ1 ++ (Γ2 ++ M)) w → RepT F T a.tmps.toList → a.defers = ds →
      (SSeq P tt ops.toList (A.filterMap (ops[·]?)) T Γ2 fun T' => (WOps P tt ops.toList ((p :: q :: m :: R).filterMap (ops[·]?)) T' Γ1 [] fun T2 Γ1' _ => Tl T2 (Γ1' ++ Γ2)) ∧ (WOps P tt ops.toList ([q].filterMap (ops[·]?)) T' Γ1 [] fun T2 Γ1' _ => (WOps P tt ops.toList ((p :: m :: R).filterMap (ops[·]?)) T2 Γ1' [] fun T2 Γ1' _ => Tl T2 (Γ1' ++ Γ2)) ∧ (WOps P tt ops.toList ((m :: p :: R).filterMap (ops[·]?)) T2 Γ1' [] fun T2 Γ1' _ => Tl T2 (Γ1' ++ Γ2)))) →
      wpAnyIn (Fen rd) nn P .any ops Q' fuel listed a w := by
  intro n
  induction n with
  | zero | succ n ih =>
    intro A fuel listed T Γ1 F a w hn hf hd hp hsp hsq hsm hle hS hT hds h
    cases fuel with
    | zero => omega
    | succ fuel =>
    refine ⟨fun hnil => ?_, fun i hi => ?_⟩
    · exfalso
      cases hAR : A ++ (p :: q :: m :: (R ++ R2)) with
      | nil => simp at hAR
      | cons x xs =>
        rw [hAR] at hp
        obtain ⟨k, hk'⟩ := ready_exists hc hp
        rw [hnil] at hk'
        cases hk'
    · obtain ⟨o, ho⟩ := hp.2.2 i (hp.ready hi)
      have un : ∀ {j : Nat}, j ∈ A ++ (p :: q :: m :: (R ++ R2)) → anc tab i j = true → False := fun {j} hj ha => blocked hc hd i ho ha ((hp.2.1 j).2 hj) hi
      have free : ∀ {j : Nat} {x : Oper}, j ∈ A ++ (p :: q :: m :: (R ++ R2)) → ops[j]? = some x → (anc tab i j = true ∨ apartAt ops j i = true) → x.apart ops o = true := by
        intro j x hj hx h
        rcases h with h | h
        · exact (un hj h).elim
        · simpa [apartAt, hx, ho] using h
      have hmem := hp.ready hi
      rw [List.mem_append, List.mem_cons, List.mem_cons, List.mem_cons, List.mem_append] at hmem
      rcases hmem with hm | hm | hm | hm | hm | hm
      · first
        | (exfalso; rw [List.eq_nil_of_length_eq_zero hn] at hm; cases hm)
        | (obtain ⟨A1, A2, rfl⟩ := List.append_of_mem hm
           rw [filterMap_split ho] at h
           have hap : ∀ x ∈ A1.filterMap (ops[·]?), x.apart ops o = true := by
             intro x hx
             obtain ⟨j, hj, hx⟩ := List.mem_filterMap.1 hx
             exact free (by simp [hj]) hx ((List.pairwise_append.1 hsp.pa).2.2 j hj i (by simp))
           obtain ⟨v, h1, h2⟩ := SSeq_move _ T hap h
           have hS2 : Sim w0 F (Γ2 ++ (Γ1 ++ M)) w := hS.perm (by
             rw [← List.append_assoc, ← List.append_assoc]
             exact List.perm_append_comm.append_right M)
           unfold wpOpIn
           simp only [ho]
           have key := SVal_sound hk (rd := rd) (nn := nn) (Q := Q') (next := fun a w => wpAnyIn (Fen rd) nn P .any ops Q' fuel (listed.setIfInBounds i true) a w) hS2 hT h1 (by
             intro F' u w' hle' hS' hx
             refine ih (A1 ++ A2) fuel _ (putT T o.dst v) Γ1 F' _ w' (by simp at hn ⊢; omega) (by omega) (hd.set hi) ?_ hsp.dropA hsq.dropA hsm.dropA (Fz.le_trans hle hle') ?_ (put_rep (RepT.mono hle' _ _ hT) hx o.dst)
               ((put_defers a o.dst u).trans hds) ?_
             · have := Pend.set (l1 := A1) (l2 := A2 ++ (p :: q :: m :: (R ++ R2))) (i := i) (by simpa using hp)
               rwa [List.append_assoc]
             · exact hS'.perm (by
                 rw [← List.append_assoc, ← List.append_assoc]
                 exact List.perm_append_comm.append_right M)
             · rw [List.filterMap_append]; exact h2)
           split at key <;> rename_i hw
           · rw [if_pos hw]; exact key
           · rw [if_neg hw]; exact ⟨fun _ _ => trivial, key⟩)
      · subst hm
        have hg : o.guard = none := hsp.ug i (by simp) o ho
        have e1 : (i :: q :: m :: R).filterMap (ops[·]?) = o :: (q :: m :: R).filterMap (ops[·]?) := by rw [List.filterMap_cons, ho]
        have h := SSeq_imp (fun _ h => h.1) _ _ h
        rw [e1] at h
        have hap : ∀ x ∈ A.filterMap (ops[·]?), x.apart ops o = true := by
          intro x hx
          obtain ⟨j, hj, hx⟩ := List.mem_filterMap.1 hx
          exact free (by simp [hj]) hx (hsp.par j hj i (by simp))
        have h2 := SSeq_eff (kk := fun T' Γ1' => WOps P tt ops.toList ((q :: m :: R).filterMap (ops[·]?)) T' Γ1' [] fun T2 Γ1' _ => Tl T2 (Γ1' ++ Γ2)) _ T hap (by
          have hnd := hsp.nd i (by simp) o ho
          simpa only [WOps, hg, WOpD_noDef hnd, putK_T] using h)
        unfold wpOpIn
        simp only [ho]
        rw [if_pos (by simp [Region.wanted, hg])]
        refine WOp_sound hk (M := Γ2 ++ M) hS hT h2 ?_
        rintro F' x Γ' v' w' hle' hS' hx hK
        refine game0 hk rd nn hc hTl _ A (q :: m :: R) fuel _ (putT T o.dst x) Γ' F' _ w' rfl (by simp only [List.length_cons]; omega) (hd.set hi) ?_ hsq (Fz.le_trans hle hle') hS' (put_rep (RepT.mono hle' _ _ hT) hx o.dst)
          ((put_defers a o.dst v').trans hds) hK
        have := Pend.set (l1 := A) (l2 := q :: m :: (R ++ R2)) (i := i) (by simpa using hp)
        simpa using this
      · subst hm
        have hg : o.guard = none := hsq.ug i (by simp) o ho
        have e1 : [i].filterMap (ops[·]?) = [o] := by rw [List.filterMap_cons, ho]; rfl
        have h := SSeq_imp (fun _ h => h.2) _ _ h
        rw [e1] at h
        have hap : ∀ x ∈ A.filterMap (ops[·]?), x.apart ops o = true := by
          intro x hx
          obtain ⟨j, hj, hx⟩ := List.mem_filterMap.1 hx
          exact free (by simp [hj]) hx (hsq.par j hj i (by simp))
        have h2 := SSeq_eff (kk := fun T' Γ1' => (WOps P tt ops.toList ((p :: m :: R).filterMap (ops[·]?)) T' Γ1' [] fun T2 Γ1' _ => Tl T2 (Γ1' ++ Γ2)) ∧ (WOps P tt ops.toList ((m :: p :: R).filterMap (ops[·]?)) T' Γ1' [] fun T2 Γ1' _ => Tl T2 (Γ1' ++ Γ2))) _ T hap (by
          have hnd := hsq.nd i (by simp) o ho
          simpa only [WOps, hg, WOpD_noDef hnd, putK_T] using h)
        unfold wpOpIn
        simp only [ho]
        rw [if_pos (by simp [Region.wanted, hg])]
        refine WOp_sound hk (M := Γ2 ++ M) hS hT h2 ?_
        rintro F' x Γ' v' w' hle' hS' hx hK
        refine gameP hk rd nn hc hTl _ A fuel _ (putT T o.dst x) Γ' F' _ w' rfl (by omega) (hd.set hi) ?_ hsp hsm (Fz.le_trans hle hle') hS' (put_rep (RepT.mono hle' _ _ hT) hx o.dst)
          ((put_defers a o.dst v').trans hds) hK
        have := Pend.set (l1 := A ++ [p]) (l2 := m :: (R ++ R2)) (i := i) (by simpa using hp)
        simpa using this
      · subst hm
        exact (un (j := q) (by simp) ((List.pairwise_cons.1 hsq.r1).1 i (by simp))).elim
      · exact (un (j := p) (by simp) ((List.pairwise_cons.1 hsp.r1).1 i hm)).elim
      · exact (un (j := p) (by simp) (hsp.tl p (by simp) i hm)).elim
def splitXB (ops : Array Oper) (tab A : List Nat) (p q m : Nat) (R B R2 : List Nat) : Bool :=
  tabChk ops tab && split0B ops tab A (p :: R) (B ++ R2) && split0B ops tab A (q :: m :: R) (B ++ R2) && split0B ops tab A (m :: R) (B ++ R2) &&
  pairB (fun j i => anc tab i j || apartAt ops j i) B && pairB (fun j i => anc tab i j) R2 && B.all (fun j => R2.all fun i => anc tab i j) && R2.all (fun i => match ops[i]? with | some o => noDef o.op | none => false) &&
  pairB (fun j i => !(Nat.beq j i)) (A ++ (p :: q :: m :: (R ++ (B ++ R2)))) && (List.range ops.size).all (fun i => (A ++ (p :: q :: m :: (R ++ (B ++ R2)))).contains i) && (A ++ (p :: q :: m :: (R ++ (B ++ R2)))).all (fun i => Nat.blt i ops.size)
theorem PDraw.splitX (hk : TT.ok P tt) (hm : P.follows .mixedOrders = true) {ops : Array Oper} {T : List PV} {Γ Γ2 : List Ent} {K : List PV → List Ent → Prop} (tab A : List Nat) (p q m : Nat) (R B R2 : List Nat) (Γ1 : List Ent)
    (hchk : splitXB ops tab A p q m R B R2 = true) [hp : PickL Γ Γ1 Γ2]
    (h : SSeq P tt ops.toList (pickO ops.toList A) T Γ2 fun T' =>
      (WOps P tt ops.toList (pickO ops.toList (p :: q :: m :: R)) T' Γ1 [] fun T2 Γ1' _ => appE Γ1' Γ2 fun Γ' => SSeq P tt ops.toList (pickO ops.toList B) T2 Γ' fun T3 => WOps P tt ops.toList (pickO ops.toList R2) T3 Γ' [] fun T' Γ' _ => K T' Γ') ∧
      (WOps P tt ops.toList (pickO ops.toList [q]) T' Γ1 [] fun T2 Γ1' _ => (WOps P tt ops.toList (pickO ops.toList (p :: m :: R)) T2 Γ1' [] fun T2 Γ1' _ => appE Γ1' Γ2 fun Γ' => SSeq P tt ops.toList (pickO ops.toList B) T2 Γ' fun T3 => WOps P tt ops.toList (pickO ops.toList R2) T3 Γ' [] fun T' Γ' _ => K T' Γ') ∧ (WOps P tt ops.toList (pickO ops.toList (m :: p :: R)) T2 Γ1' [] fun T2 Γ1' _ => appE Γ1' Γ2 fun Γ' => SSeq P tt ops.toList (pickO ops.toList B) T2 Γ' fun T3 => WOps P tt ops.toList (pickO ops.toList R2) T3 Γ' [] fun T' Γ' _ => K T' Γ'))) : PDraw P ops T Γ K := by
  refine ⟨fun rd nn id w0 F M w a Q' hS hT hQ => wpIn_region_any hm ?_⟩
  simp only [splitXB, Bool.and_eq_true] at hchk
  obtain ⟨⟨⟨⟨⟨⟨⟨⟨⟨⟨hc, s1⟩, s2⟩, s3⟩, b1⟩, b2⟩, b3⟩, b4⟩, h7⟩, h8⟩, h9⟩ := hchk
  have hlt : ∀ i ∈ A ++ (p :: q :: m :: (R ++ (B ++ R2))), i < ops.size := fun i hi => by
    have := List.all_eq_true.1 h9 i hi
    simpa [Nat.blt, Nat.succ_le_iff] using this
  have hpend : Pend ops (Array.replicate ops.size false) (A ++ (p :: q :: m :: (R ++ (B ++ R2)))) := by
    refine ⟨(pairB_iff h7).imp fun h => by
      intro e
      subst e
      simp at h, ?_, fun i hi => ⟨_, Array.getElem?_eq_getElem (hlt i hi)⟩⟩
    intro i
    constructor
    · intro hi
      rcases Nat.lt_or_ge i ops.size with h' | h'
      · have := List.all_eq_true.1 h8 i (List.mem_range.2 h')
        simpa only [List.contains_iff_mem] using this
      · simp [Array.getElem?_eq_none, h'] at hi
    · intro hi
      simp [hlt i hi]
  have hsp2 : Split ops tab B [] R2 := by
    refine ⟨(pairB_iff b1).imp fun h => by simpa using h, fun _ _ _ h => (by cases h), List.Pairwise.nil, pairB_iff b2, fun j hj i hi => ?_, fun _ h => (by cases h), fun i hi o ho => ?_⟩
    · exact List.all_eq_true.1 (List.all_eq_true.1 b3 j (by simpa using hj)) i hi
    · have := List.all_eq_true.1 b4 i (by simpa using hi)
      rw [ho] at this
      exact this
  have hlen : A.length + (3 + R.length) + (B ++ R2).length ≤ ops.size := by
    have hsub : (A ++ (p :: q :: m :: (R ++ (B ++ R2)))) ⊆ List.range ops.size := fun i hi => List.mem_range.2 (hlt i hi)
    have := hpend.1.length_le_of_subset hsub
    simp only [List.length_append, List.length_cons, List.length_range] at this ⊢
    omega
  have hS' : Sim w0 F (Γ1 ++ (Γ2 ++ M)) { w with drawn := w.drawn + 1 } := by
    have := (hS.perm (hp.p.append_right M)).of_heap (w' := { w with drawn := w.drawn + 1 }) rfl rfl rfl rfl
    simpa using this
  refine gameX hk rd nn hc (R2 := B ++ R2) (F0 := F) (ds := a.defers) (Tl := fun T2 Γ' => SSeq P tt ops.toList (pickO ops.toList B) T2 Γ' fun T3 => WOps P tt ops.toList (pickO ops.toList R2) T3 Γ' [] fun T' Γ' _ => K T' Γ') ?_ _ A ops.size _ T Γ1 F a _ rfl hlen ?_ hpend (Split0.ofB s1) (Split0.ofB s2) (Split0.ofB s3) (Fz.le_refl F) hS' hT rfl ?_
  · intro fuel listed T2 Γ' F' a' w' hf hd hpd hle hS2 hT2 hds ht
    refine game hk rd nn hc (R2 := R2) (F0 := F) (ds := a.defers) hQ _ B [] fuel listed T2 [] F' a' w' rfl (by simpa using hf) hd (by simpa using hpd) hsp2 hle (Γ2 := Γ') (by simpa using hS2) hT2 hds ?_
    simpa only [pickO_eq, Array.getElem?_toList, List.filterMap_nil, WOps, List.nil_append] using ht
  · intro k o hk'
    rcases Nat.lt_or_ge k ops.size with h' | h'
    · simp [h'] at hk'
    · intro ho
      have := (Array.getElem?_eq_some_iff.1 ho).1
      omega
  · simpa only [pickO_eq, Array.getElem?_toList, appE_eq] using h
theorem PDraw.sX {ops : Array Oper} (Γ1 : List Ent) (p q m : Nat) (R B R2 : List Nat) (hk : TT.ok P tt) (hm : P.follows .mixedOrders = true) {T : List PV} {Γ Γ2 : List Ent} {K : List PV → List Ent → Prop} [hp : PickL Γ Γ1 Γ2]
    (h : SSeq P tt ops.toList (pickO ops.toList (restL ops.toList 0 (p :: q :: m :: (R ++ (B ++ R2))))) T Γ2 fun T' =>
      (WOps P tt ops.toList (pickO ops.toList (p :: q :: m :: R)) T' Γ1 [] fun T2 Γ1' _ => appE Γ1' Γ2 fun Γ' => SSeq P tt ops.toList (pickO ops.toList B) T2 Γ' fun T3 => WOps P tt ops.toList (pickO ops.toList R2) T3 Γ' [] fun T' Γ' _ => K T' Γ') ∧
      (WOps P tt ops.toList (pickO ops.toList [q]) T' Γ1 [] fun T2 Γ1' _ => (WOps P tt ops.toList (pickO ops.toList (p :: m :: R)) T2 Γ1' [] fun T2 Γ1' _ => appE Γ1' Γ2 fun Γ' => SSeq P tt ops.toList (pickO ops.toList B) T2 Γ' fun T3 => WOps P tt ops.toList (pickO ops.toList R2) T3 Γ' [] fun T' Γ' _ => K T' Γ') ∧ (WOps P tt ops.toList (pickO ops.toList (m :: p :: R)) T2 Γ1' [] fun T2 Γ1' _ => appE Γ1' Γ2 fun Γ' => SSeq P tt ops.toList (pickO ops.toList B) T2 Γ' fun T3 => WOps P tt ops.toList (pickO ops.toList R2) T3 Γ' [] fun T' Γ' _ => K T' Γ')))
    (hchk : splitXB ops (tabOf ops.toList []) (restL ops.toList 0 (p :: q :: m :: (R ++ (B ++ R2)))) p q m R B R2 = true := by kernel_rfl) : PDraw P ops T Γ K :=
  PDraw.splitX hk hm _ _ p q m R B R2 Γ1 hchk h
end
end Go.Cb
namespace Go.Cb
open Go.Proofs
set_option maxRecDepth 100000
set_option maxHeartbeats 4000000
abbrev fxG (b b3 b4 b8 r : Nat) (t : Trm) (tk : Tok) (A : List Cod) (fm : Fm) : List Ent := .box b3 [.ptr b 0] :: .box b8 [.fn (.func 145) [.ptr b4 0]] :: .box b4 [.int .i64 t.op, .int .i64 t.n, .sl 1 (t.v.map (PV.int .i64)) none, .sl 4 (t.t.map Trm.pv) none] :: mkrG b r tk A fm
theorem fix1_c (b b3 b4 b8 r : Nat) (t : Trm) (tk : Tok) (A : List Cod) (fm : Fm) (v : Int) :
    ACall Tryz.prog 145 [.int .i64 v, .ptr b4 0] (fxG b b3 b4 b8 r t tk A fm) (fun y Γ' => y = .bool (t.v.contains v) ∧ Γ' = fxG b b3 b4 b8 r t tk A fm) := by
  refine ACall.of_body tt_ok Tryz.func145 rfl rfl (n := 8) rfl rfl ?_
  conv => whnf
  repeat' (first|((first|((first|(apply zY;intro hg)|apply zZ);first|exact stA|exact stB|((conv=>whnf);(repeat ((first|(refine zW ?_ ?_;exact gA)|refine pC (containsInt_c t.v v) wR ?_|refine zA ?_|refine zH rfl ?_|refine zB ?_|(refine yE ?_ ?_ ?_ ?_;assumption;omega;omega)|(refine yF ?_ rfl ?_;omega)|(apply yH;assumption)|(refine yI ?_ ?_;assumption)|intro _);conv=>whnf));first|exact pS|exact pL|exact pE))|(refine zW ?_ ?_;exact gA)|refine zH rfl ?_|refine zA ?_|refine zI bA ?_|refine zI rfl ?_|refine zJ rfl rfl ?_|refine zB ?_|refine zK rfl ?_|refine zL rfl ?_|refine zC ?_|(refine zO ?_ ?_ ?_;omega;omega)|(refine zP ?_ ?_ ?_;omega;omega)|refine zM rfl ?_|(refine zQ ?_ ?_ ?_;omega;omega)|(refine zR ?_ ?_;omega)|(refine zI ?_ ?_;exact nA)|(refine zS ?_ ?_ ?_;omega;omega)|(refine zT ?_ ?_ ?_;omega;omega)|(refine zU ?_ ?_ ?_;omega;omega)|(refine zV ?_ ?_ ?_;omega;omega)|refine pC (containsInt_c t.v v) wR ?_|(refine yA ?_ rfl ?_ ?_;assumption;exact lA)|(refine yB ?_ rfl ?_ ?_;assumption;exact lA)|(refine yC rfl ?_ ?_;exact lA)|(refine yD ?_ ?_ rfl ?_ ?_;assumption;assumption;exact lA)|(refine yE ?_ ?_ ?_ ?_;assumption;omega;omega)|(refine yF ?_ rfl ?_;omega)|(apply yH;assumption)|(refine yI ?_ ?_;assumption)|(refine yG ?_ rfl rfl rfl ?_;omega)|refine n0 ?_|refine zN rfl rfl rfl ?_|refine zD ?_|refine zE ?_|refine zF ?_|intro _|refine zG ?_);conv=>whnf)|(refine zX (fun hc => ?_) (fun hc => ?_)<;>(try simp only [SY] at hc)<;>first|omega|(conv=>whnf)))
  exact PRet.gen (y := .bool (t.v.contains v)) (Γ' := fxG b b3 b4 b8 r t tk A fm) (Wk.refl _) ⟨rfl, rfl⟩
theorem fix21_c (b b3 b4 b8 r : Nat) (t : Trm) (tk : Tok) (A : List Cod) (fm : Fm) (v : Int) :
    ACall Tryz.prog 148 [.int .i64 v, .ptr b8 0] (fxG b b3 b4 b8 r t tk A fm) (fun y Γ' => y = .bool (!t.v.contains v) ∧ Γ' = fxG b b3 b4 b8 r t tk A fm) := by
  refine ACall.of_body tt_ok Tryz.func148 rfl rfl (n := 8) rfl rfl ?_
  conv => whnf
  repeat' (first|((first|((first|(apply zY;intro hg)|apply zZ);first|exact stA|exact stB|((conv=>whnf);(repeat ((first|(refine zW ?_ ?_;exact gA)|refine pC (containsInt_c t.v v) wR ?_|refine zA ?_|refine zH rfl ?_|refine zB ?_|(refine yE ?_ ?_ ?_ ?_;assumption;omega;omega)|(refine yF ?_ rfl ?_;omega)|(apply yH;assumption)|(refine yI ?_ ?_;assumption)|intro _);conv=>whnf));first|exact pS|exact pL|exact pE))|(refine zW ?_ ?_;exact gA)|refine zH rfl ?_|refine zA ?_|refine zI bA ?_|refine zI rfl ?_|refine zJ rfl rfl ?_|refine zB ?_|refine zK rfl ?_|refine zL rfl ?_|refine zC ?_|(refine zO ?_ ?_ ?_;omega;omega)|(refine zP ?_ ?_ ?_;omega;omega)|refine zM rfl ?_|(refine zQ ?_ ?_ ?_;omega;omega)|(refine zR ?_ ?_;omega)|(refine zI ?_ ?_;exact nA)|(refine zS ?_ ?_ ?_;omega;omega)|(refine zT ?_ ?_ ?_;omega;omega)|(refine zU ?_ ?_ ?_;omega;omega)|(refine zV ?_ ?_ ?_;omega;omega)|refine pC (containsInt_c t.v v) wR ?_|(refine yA ?_ rfl ?_ ?_;assumption;exact lA)|(refine yB ?_ rfl ?_ ?_;assumption;exact lA)|(refine yC rfl ?_ ?_;exact lA)|(refine yD ?_ ?_ rfl ?_ ?_;assumption;assumption;exact lA)|(refine yE ?_ ?_ ?_ ?_;assumption;omega;omega)|(refine yF ?_ rfl ?_;omega)|(apply yH;assumption)|(refine yI ?_ ?_;assumption)|(refine yG ?_ rfl rfl rfl ?_;omega)|refine n0 ?_|refine zN rfl rfl rfl ?_|refine zD ?_|refine zE ?_|refine zF ?_|intro _|refine zG ?_);conv=>whnf)|(refine zX (fun hc => ?_) (fun hc => ?_)<;>(try simp only [SY] at hc)<;>first|omega|(conv=>whnf)))
  refine PCall.same (fix1_c b b3 b4 b8 r t tk A fm v) (WkT.refl _) ?_
  rintro _ _ ⟨rfl, rfl⟩
  conv => whnf
  repeat' (first|((first|((first|(apply zY;intro hg)|apply zZ);first|exact stA|exact stB|((conv=>whnf);(repeat ((first|(refine zW ?_ ?_;exact gA)|refine pC (containsInt_c t.v v) wR ?_|refine zA ?_|refine zH rfl ?_|refine zB ?_|(refine yE ?_ ?_ ?_ ?_;assumption;omega;omega)|(refine yF ?_ rfl ?_;omega)|(apply yH;assumption)|(refine yI ?_ ?_;assumption)|intro _);conv=>whnf));first|exact pS|exact pL|exact pE))|(refine zW ?_ ?_;exact gA)|refine zH rfl ?_|refine zA ?_|refine zI bA ?_|refine zI rfl ?_|refine zJ rfl rfl ?_|refine zB ?_|refine zK rfl ?_|refine zL rfl ?_|refine zC ?_|(refine zO ?_ ?_ ?_;omega;omega)|(refine zP ?_ ?_ ?_;omega;omega)|refine zM rfl ?_|(refine zQ ?_ ?_ ?_;omega;omega)|(refine zR ?_ ?_;omega)|(refine zI ?_ ?_;exact nA)|(refine zS ?_ ?_ ?_;omega;omega)|(refine zT ?_ ?_ ?_;omega;omega)|(refine zU ?_ ?_ ?_;omega;omega)|(refine zV ?_ ?_ ?_;omega;omega)|refine pC (containsInt_c t.v v) wR ?_|(refine yA ?_ rfl ?_ ?_;assumption;exact lA)|(refine yB ?_ rfl ?_ ?_;assumption;exact lA)|(refine yC rfl ?_ ?_;exact lA)|(refine yD ?_ ?_ rfl ?_ ?_;assumption;assumption;exact lA)|(refine yE ?_ ?_ ?_ ?_;assumption;omega;omega)|(refine yF ?_ rfl ?_;omega)|(apply yH;assumption)|(refine yI ?_ ?_;assumption)|(refine yG ?_ rfl rfl rfl ?_;omega)|refine n0 ?_|refine zN rfl rfl rfl ?_|refine zD ?_|refine zE ?_|refine zF ?_|intro _|refine zG ?_);conv=>whnf)|(refine zX (fun hc => ?_) (fun hc => ?_)<;>(try simp only [SY] at hc)<;>first|omega|(conv=>whnf)))
  exact PRet.gen (y := .bool (!t.v.contains v)) (Γ' := fxG b b3 b4 b8 r t tk A fm) (Wk.refl _) ⟨rfl, rfl⟩
theorem fix2_c (b b3 b4 b8 r : Nat) (t : Trm) (tk : Tok) (A : List Cod) (fm : Fm) (x : Trm) (hb : x.bulk ≤ 1000000000) :
    ACall Tryz.prog 146 [.agg x.cells, .ptr b3 0, .ptr b8 0] (fxG b b3 b4 b8 r t tk A fm) (fun y Γ' => y = .bool ((overF fm x).any fun u => !t.v.contains u) ∧ Γ' = fxG b b3 b4 b8 r t tk A fm) := by
  refine ACall.of_body tt_ok Tryz.func146 rfl rfl (n := 10) rfl rfl ?_
  conv => whnf
  repeat ((first|((first|(apply zY;intro hg)|apply zZ);first|exact stA|exact stB|((conv=>whnf);(repeat ((first|(refine zW ?_ ?_;exact gA)|refine pC (containsInt_c t.v v) wR ?_|refine zA ?_|refine zH rfl ?_|refine zB ?_|(refine yE ?_ ?_ ?_ ?_;assumption;omega;omega)|(refine yF ?_ rfl ?_;omega)|(apply yH;assumption)|(refine yI ?_ ?_;assumption)|intro _);conv=>whnf));first|exact pS|exact pL|exact pE))|(refine zW ?_ ?_;exact gA)|refine zH rfl ?_|refine zA ?_|refine zI bA ?_|refine zI rfl ?_|refine zJ rfl rfl ?_|refine zB ?_|refine zK rfl ?_|refine zL rfl ?_|refine zC ?_|(refine zO ?_ ?_ ?_;omega;omega)|(refine zP ?_ ?_ ?_;omega;omega)|refine zM rfl ?_|(refine zQ ?_ ?_ ?_;omega;omega)|(refine zR ?_ ?_;omega)|(refine zI ?_ ?_;exact nA)|(refine zS ?_ ?_ ?_;omega;omega)|(refine zT ?_ ?_ ?_;omega;omega)|(refine zU ?_ ?_ ?_;omega;omega)|(refine zV ?_ ?_ ?_;omega;omega)|refine pC (containsInt_c t.v v) wR ?_|(refine yA ?_ rfl ?_ ?_;assumption;exact lA)|(refine yB ?_ rfl ?_ ?_;assumption;exact lA)|(refine yC rfl ?_ ?_;exact lA)|(refine yD ?_ ?_ rfl ?_ ?_;assumption;assumption;exact lA)|(refine yE ?_ ?_ ?_ ?_;assumption;omega;omega)|(refine yF ?_ rfl ?_;omega)|(apply yH;assumption)|(refine yI ?_ ?_;assumption)|(refine yG ?_ rfl rfl rfl ?_;omega)|refine n0 ?_|refine zN rfl rfl rfl ?_|refine zD ?_|refine zE ?_|refine zF ?_|intro _);conv=>whnf)
  rename_i b5
  conv => whnf
  repeat' (first|((first|((first|(apply zY;intro hg)|apply zZ);first|exact stA|exact stB|((conv=>whnf);(repeat ((first|(refine zW ?_ ?_;exact gA)|refine pC (containsInt_c t.v v) wR ?_|refine zA ?_|refine zH rfl ?_|refine zB ?_|(refine yE ?_ ?_ ?_ ?_;assumption;omega;omega)|(refine yF ?_ rfl ?_;omega)|(apply yH;assumption)|(refine yI ?_ ?_;assumption)|intro _);conv=>whnf));first|exact pS|exact pL|exact pE))|(refine zW ?_ ?_;exact gA)|refine zH rfl ?_|refine zA ?_|refine zI bA ?_|refine zI rfl ?_|refine zJ rfl rfl ?_|refine zB ?_|refine zK rfl ?_|refine zL rfl ?_|refine zC ?_|(refine zO ?_ ?_ ?_;omega;omega)|(refine zP ?_ ?_ ?_;omega;omega)|refine zM rfl ?_|(refine zQ ?_ ?_ ?_;omega;omega)|(refine zR ?_ ?_;omega)|(refine zI ?_ ?_;exact nA)|(refine zS ?_ ?_ ?_;omega;omega)|(refine zT ?_ ?_ ?_;omega;omega)|(refine zU ?_ ?_ ?_;omega;omega)|(refine zV ?_ ?_ ?_;omega;omega)|refine pC (containsInt_c t.v v) wR ?_|(refine yA ?_ rfl ?_ ?_;assumption;exact lA)|(refine yB ?_ rfl ?_ ?_;assumption;exact lA)|(refine yC rfl ?_ ?_;exact lA)|(refine yD ?_ ?_ rfl ?_ ?_;assumption;assumption;exact lA)|(refine yE ?_ ?_ ?_ ?_;assumption;omega;omega)|(refine yF ?_ rfl ?_;omega)|(apply yH;assumption)|(refine yI ?_ ?_;assumption)|(refine yG ?_ rfl rfl rfl ?_;omega)|refine n0 ?_|refine zN rfl rfl rfl ?_|refine zD ?_|refine zE ?_|refine zF ?_|intro _|refine zG ?_);conv=>whnf)|(refine zX (fun hc => ?_) (fun hc => ?_)<;>(try simp only [SY] at hc)<;>first|omega|(conv=>whnf)))
  refine PCall.go (over13_c b r tk A fm x hb) (WkT.refl _) ?_
  rintro _ _ ⟨rfl, rfl⟩
  conv => whnf
  repeat' (first|((first|((first|(apply zY;intro hg)|apply zZ);first|exact stA|exact stB|((conv=>whnf);(repeat ((first|(refine zW ?_ ?_;exact gA)|refine pC (containsInt_c t.v v) wR ?_|refine zA ?_|refine zH rfl ?_|refine zB ?_|(refine yE ?_ ?_ ?_ ?_;assumption;omega;omega)|(refine yF ?_ rfl ?_;omega)|(apply yH;assumption)|(refine yI ?_ ?_;assumption)|intro _);conv=>whnf));first|exact pS|exact pL|exact pE))|(refine zW ?_ ?_;exact gA)|refine zH rfl ?_|refine zA ?_|refine zI bA ?_|refine zI rfl ?_|refine zJ rfl rfl ?_|refine zB ?_|refine zK rfl ?_|refine zL rfl ?_|refine zC ?_|(refine zO ?_ ?_ ?_;omega;omega)|(refine zP ?_ ?_ ?_;omega;omega)|refine zM rfl ?_|(refine zQ ?_ ?_ ?_;omega;omega)|(refine zR ?_ ?_;omega)|(refine zI ?_ ?_;exact nA)|(refine zS ?_ ?_ ?_;omega;omega)|(refine zT ?_ ?_ ?_;omega;omega)|(refine zU ?_ ?_ ?_;omega;omega)|(refine zV ?_ ?_ ?_;omega;omega)|refine pC (containsInt_c t.v v) wR ?_|(refine yA ?_ rfl ?_ ?_;assumption;exact lA)|(refine yB ?_ rfl ?_ ?_;assumption;exact lA)|(refine yC rfl ?_ ?_;exact lA)|(refine yD ?_ ?_ rfl ?_ ?_;assumption;assumption;exact lA)|(refine yE ?_ ?_ ?_ ?_;assumption;omega;omega)|(refine yF ?_ rfl ?_;omega)|(apply yH;assumption)|(refine yI ?_ ?_;assumption)|(refine yG ?_ rfl rfl rfl ?_;omega)|refine n0 ?_|refine zN rfl rfl rfl ?_|refine zD ?_|refine zE ?_|refine zF ?_|intro _|refine zG ?_);conv=>whnf)|(refine zX (fun hc => ?_) (fun hc => ?_)<;>(try simp only [SY] at hc)<;>first|omega|(conv=>whnf)))
  refine PCall.go (containsFuncInt_c 148 [.ptr b8 0] (fxG b b3 b4 b8 r t tk A fm) (fun u => !t.v.contains u) (overF fm x) (fun u _ => fix21_c b b3 b4 b8 r t tk A fm u)) (WkT.refl _) ?_
  rintro _ _ ⟨rfl, rfl⟩
  conv => whnf
  repeat' (first|((first|((first|(apply zY;intro hg)|apply zZ);first|exact stA|exact stB|((conv=>whnf);(repeat ((first|(refine zW ?_ ?_;exact gA)|refine pC (containsInt_c t.v v) wR ?_|refine zA ?_|refine zH rfl ?_|refine zB ?_|(refine yE ?_ ?_ ?_ ?_;assumption;omega;omega)|(refine yF ?_ rfl ?_;omega)|(apply yH;assumption)|(refine yI ?_ ?_;assumption)|intro _);conv=>whnf));first|exact pS|exact pL|exact pE))|(refine zW ?_ ?_;exact gA)|refine zH rfl ?_|refine zA ?_|refine zI bA ?_|refine zI rfl ?_|refine zJ rfl rfl ?_|refine zB ?_|refine zK rfl ?_|refine zL rfl ?_|refine zC ?_|(refine zO ?_ ?_ ?_;omega;omega)|(refine zP ?_ ?_ ?_;omega;omega)|refine zM rfl ?_|(refine zQ ?_ ?_ ?_;omega;omega)|(refine zR ?_ ?_;omega)|(refine zI ?_ ?_;exact nA)|(refine zS ?_ ?_ ?_;omega;omega)|(refine zT ?_ ?_ ?_;omega;omega)|(refine zU ?_ ?_ ?_;omega;omega)|(refine zV ?_ ?_ ?_;omega;omega)|refine pC (containsInt_c t.v v) wR ?_|(refine yA ?_ rfl ?_ ?_;assumption;exact lA)|(refine yB ?_ rfl ?_ ?_;assumption;exact lA)|(refine yC rfl ?_ ?_;exact lA)|(refine yD ?_ ?_ rfl ?_ ?_;assumption;assumption;exact lA)|(refine yE ?_ ?_ ?_ ?_;assumption;omega;omega)|(refine yF ?_ rfl ?_;omega)|(apply yH;assumption)|(refine yI ?_ ?_;assumption)|(refine yG ?_ rfl rfl rfl ?_;omega)|refine n0 ?_|refine zN rfl rfl rfl ?_|refine zD ?_|refine zE ?_|refine zF ?_|intro _|refine zG ?_);conv=>whnf)|(refine zX (fun hc => ?_) (fun hc => ?_)<;>(try simp only [SY] at hc)<;>first|omega|(conv=>whnf)))
  exact PRet.gen (y := .bool ((overF fm x).any fun u => !t.v.contains u)) (Γ' := fxG b b3 b4 b8 r t tk A fm) (Wk.refl _) ⟨rfl, rfl⟩
theorem fixS_eq (fm : Fm) (vs : List Int) (t : List Trm) : fixS fm vs t = !((t.take vs.length).any fun x => (overF fm x).any fun u => !vs.contains u) := by
  unfold fixS
  rw [List.all_eq_not_any_not]
  congr 2
  funext x
  rw [List.all_eq_not_any_not, Bool.not_not]
abbrev fixG (b b3 b4 b6 b8 r : Nat) (t : Trm) (A1 : List Cod) (f1 : Fm) (tk1 : Tok) : List Ent := [.box b [.ms tk1, .mp r], .row tk1 (A1.map Cod.pv), .mp r (.int .i64) (mapM Kn.pa f1) [], .box b8 [.fn (.func 145) [.ptr b4 0]], .box b6 [.int .i64 0, .int .i64 0, .nil, .nil], .box b4 [.int .i64 t.op, .int .i64 t.n, .sl 1 (t.v.map (PV.int .i64)) none, .sl 4 (t.t.map Trm.pv) none], .box b3 [.ptr b 0]]
abbrev fix2G (b b3 b4 b6 b8 b13 r : Nat) (t : Trm) (T : List Trm) (tt' : Tok) (A1 : List Cod) (f1 : Fm) (tk1 : Tok) : List Ent := .tok tt' :: .box b13 [.int .i64 9, .int .i64 0, slI t.v, .sl 4 (T.map Trm.pv) (some tt')] :: fixG b b3 b4 b6 b8 r t A1 f1 tk1
def preF (T : List Trm) (own C : List Cod) (r : ClL) : ClL := ⟨[], T ++ r.t, r.last, own ++ r.own, C ++ r.c, r.fm⟩
theorem Trm.cloF_v (w : Bool) : ∀ (l : List Trm) vs ov c n fm, (Trm.cloF w l vs ov c n fm).v = []
  | [], vs, ov, c, n, fm => by rw [Trm.cloF]
  | y :: l, [], ov, c, n, fm => by rw [Trm.cloF]
  | y :: l, v :: vs, ov, c, n, fm => by rw [Trm.cloF]
theorem preF_nil {r : ClL} (h : r.v = []) : preF [] [] [] r = r := by
  obtain ⟨a, b, c, d, e, f⟩ := r
  simp only at h
  subst h
  rfl
theorem preF_add (T : List Trm) (own C ac : List Cod) (b : ClL) (x : Trm) (c : Cod) : preF T own C ⟨[], x :: b.t, b.last, c :: b.own, ac ++ b.c, b.fm⟩ = preF (T ++ [x]) (own ++ [c]) (C ++ ac) b := by simp [preF]
abbrev blankC (x : Trm) : Cod := ⟨x.v, x.n == 1, noT⟩
theorem fix_c13 (b r : Nat) (tk : Tok) (A : List Cod) (fm : Fm) (t : Trm) (ht : t.t.length = t.v.length + 1) (hx : ∀ y ∈ t.t, ClOk b r y) (hlam : ∀ y ∈ t.t.take t.v.length, ∃ z zs, y.t = z :: zs ∧ ClOk b r z) (ov : List Int) (h9 : t.op = 9) (h1 : tk.e = 62) (h2 : tk.s = 6) (hb : A.length + t.bulk ≤ 1000000000) (hov : ov.length ≤ 1000000000) :
    ACall Tryz.prog 114 [.ptr b 0, .agg t.cells, slI ov] (mkrG b r tk A fm)
      (fun y Γ' => ∃ tk', tk'.e = 62 ∧ tk'.s = 6 ∧ y = .agg (t.clo false ov A.length fm).t.cells ∧ Γ' = mkrG b r tk' (A ++ (t.clo false ov A.length fm).c) (t.clo false ov A.length fm).fm) := by
  have hbe := t.bulk_eq
  rw [Trm.clo_eq, if_neg (by omega), if_neg (by omega), if_neg (by omega), if_pos h9]
  refine ACall.of_body tt_ok Tryz.func114 rfl rfl (n := 103) rfl rfl ?_
  conv => whnf
  repeat ((first|((first|(apply zY;intro hg)|apply zZ);first|exact stA|exact stB|((conv=>whnf);(repeat ((first|(refine zW ?_ ?_;exact gA)|refine pC (cloneInt_c t.v (by omega)) wR ?_|refine zA ?_|refine zH rfl ?_|refine zB ?_|(refine yE ?_ ?_ ?_ ?_;assumption;omega;omega)|(refine yF ?_ rfl ?_;omega)|(apply yH;assumption)|(refine yI ?_ ?_;assumption)|intro _);conv=>whnf));first|exact pS|exact pL|exact pE))|(refine zW ?_ ?_;exact gA)|refine zH rfl ?_|refine zA ?_|refine zI bA ?_|refine zI rfl ?_|refine zJ rfl rfl ?_|refine zB ?_|refine zK rfl ?_|refine zL rfl ?_|refine zC ?_|(refine zO ?_ ?_ ?_;omega;omega)|(refine zP ?_ ?_ ?_;omega;omega)|refine zM rfl ?_|(refine zQ ?_ ?_ ?_;omega;omega)|(refine zR ?_ ?_;omega)|(refine zI ?_ ?_;exact nA)|(refine zS ?_ ?_ ?_;omega;omega)|(refine zT ?_ ?_ ?_;omega;omega)|(refine zU ?_ ?_ ?_;omega;omega)|(refine zV ?_ ?_ ?_;omega;omega)|refine pC (cloneInt_c t.v (by omega)) wR ?_|(refine yA ?_ rfl ?_ ?_;assumption;exact lA)|(refine yB ?_ rfl ?_ ?_;assumption;exact lA)|(refine yC rfl ?_ ?_;exact lA)|(refine yD ?_ ?_ rfl ?_ ?_;assumption;assumption;exact lA)|(refine yE ?_ ?_ ?_ ?_;assumption;omega;omega)|(refine yF ?_ rfl ?_;omega)|(apply yH;assumption)|(refine yI ?_ ?_;assumption)|(refine yG ?_ rfl rfl rfl ?_;omega)|refine n0 ?_|refine zN rfl rfl rfl ?_|refine zD ?_|refine zE ?_|refine zF ?_|intro _);conv=>whnf)
  rename_i b3 b4 b6 hq0 b8
  conv => whnf
  repeat' (first|((first|((first|(apply zY;intro hg)|apply zZ);first|exact stA|exact stB|((conv=>whnf);(repeat ((first|(refine zW ?_ ?_;exact gA)|refine pC (cloneInt_c t.v (by omega)) wR ?_|refine zA ?_|refine zH rfl ?_|refine zB ?_|(refine yE ?_ ?_ ?_ ?_;assumption;omega;omega)|(refine yF ?_ rfl ?_;omega)|(apply yH;assumption)|(refine yI ?_ ?_;assumption)|intro _);conv=>whnf));first|exact pS|exact pL|exact pE))|(refine zW ?_ ?_;exact gA)|refine zH rfl ?_|refine zA ?_|refine zI bA ?_|refine zI rfl ?_|refine zJ rfl rfl ?_|refine zB ?_|refine zK rfl ?_|refine zL rfl ?_|refine zC ?_|(refine zO ?_ ?_ ?_;omega;omega)|(refine zP ?_ ?_ ?_;omega;omega)|refine zM rfl ?_|(refine zQ ?_ ?_ ?_;omega;omega)|(refine zR ?_ ?_;omega)|(refine zI ?_ ?_;exact nA)|(refine zS ?_ ?_ ?_;omega;omega)|(refine zT ?_ ?_ ?_;omega;omega)|(refine zU ?_ ?_ ?_;omega;omega)|(refine zV ?_ ?_ ?_;omega;omega)|refine pC (cloneInt_c t.v (by omega)) wR ?_|(refine yA ?_ rfl ?_ ?_;assumption;exact lA)|(refine yB ?_ rfl ?_ ?_;assumption;exact lA)|(refine yC rfl ?_ ?_;exact lA)|(refine yD ?_ ?_ rfl ?_ ?_;assumption;assumption;exact lA)|(refine yE ?_ ?_ ?_ ?_;assumption;omega;omega)|(refine yF ?_ rfl ?_;omega)|(apply yH;assumption)|(refine yI ?_ ?_;assumption)|(refine yG ?_ rfl rfl rfl ?_;omega)|refine n0 ?_|refine zN rfl rfl rfl ?_|refine zD ?_|refine zE ?_|refine zF ?_|intro _|refine zG ?_);conv=>whnf)|(refine zX (fun hc => ?_) (fun hc => ?_)<;>(try simp only [SY] at hc)<;>first|omega|(conv=>whnf)))
  refine PCall.go (containsFuncTrm_c 146 [.ptr b3 0, .ptr b8 0] (fxG b b3 b4 b8 r t tk A fm) (fun x => (overF fm x).any fun u => !t.v.contains u) (t.t.take t.v.length) (fun x hxm => fix2_c b b3 b4 b8 r t tk A fm x (by have := Trm.bulks_mem (List.mem_of_mem_take hxm); omega))) (WkT.refl _) ?_
  rintro _ _ ⟨rfl, rfl⟩
  have hfs := fixS_eq fm t.v t.t
  conv => whnf
  repeat' (first|((first|((first|(apply zY;intro hg)|apply zZ);first|exact stA|exact stB|((conv=>whnf);(repeat ((first|(refine zW ?_ ?_;exact gA)|refine pC (cloneInt_c t.v (by omega)) wR ?_|refine zA ?_|refine zH rfl ?_|refine zB ?_|(refine yE ?_ ?_ ?_ ?_;assumption;omega;omega)|(refine yF ?_ rfl ?_;omega)|(apply yH;assumption)|(refine yI ?_ ?_;assumption)|intro _);conv=>whnf));first|exact pS|exact pL|exact pE))|(refine zW ?_ ?_;exact gA)|refine zH rfl ?_|refine zA ?_|refine zI bA ?_|refine zI rfl ?_|refine zJ rfl rfl ?_|refine zB ?_|refine zK rfl ?_|refine zL rfl ?_|refine zC ?_|(refine zO ?_ ?_ ?_;omega;omega)|(refine zP ?_ ?_ ?_;omega;omega)|refine zM rfl ?_|(refine zQ ?_ ?_ ?_;omega;omega)|(refine zR ?_ ?_;omega)|(refine zI ?_ ?_;exact nA)|(refine zS ?_ ?_ ?_;omega;omega)|(refine zT ?_ ?_ ?_;omega;omega)|(refine zU ?_ ?_ ?_;omega;omega)|(refine zV ?_ ?_ ?_;omega;omega)|refine pC (cloneInt_c t.v (by omega)) wR ?_|(refine yA ?_ rfl ?_ ?_;assumption;exact lA)|(refine yB ?_ rfl ?_ ?_;assumption;exact lA)|(refine yC rfl ?_ ?_;exact lA)|(refine yD ?_ ?_ rfl ?_ ?_;assumption;assumption;exact lA)|(refine yE ?_ ?_ ?_ ?_;assumption;omega;omega)|(refine yF ?_ rfl ?_;omega)|(apply yH;assumption)|(refine yI ?_ ?_;assumption)|(refine yG ?_ rfl rfl rfl ?_;omega)|refine n0 ?_|refine zN rfl rfl rfl ?_|refine zD ?_|refine zE ?_|refine zF ?_|intro _|refine zG ?_);conv=>whnf)|(refine zX (fun hc => ?_) (fun hc => ?_)<;>(try simp only [SY] at hc)<;>first|omega|(conv=>whnf)))
  rw [← hfs]
  generalize fixS fm t.v t.t = st
  refine PLenM.map fun _ => ?_
  conv => whnf
  repeat' (first|((first|((first|(apply zY;intro hg)|apply zZ);first|exact stA|exact stB|((conv=>whnf);(repeat ((first|(refine zW ?_ ?_;exact gA)|refine pC (cloneInt_c t.v (by omega)) wR ?_|refine zA ?_|refine zH rfl ?_|refine zB ?_|(refine yE ?_ ?_ ?_ ?_;assumption;omega;omega)|(refine yF ?_ rfl ?_;omega)|(apply yH;assumption)|(refine yI ?_ ?_;assumption)|intro _);conv=>whnf));first|exact pS|exact pL|exact pE))|(refine zW ?_ ?_;exact gA)|refine zH rfl ?_|refine zA ?_|refine zI bA ?_|refine zI rfl ?_|refine zJ rfl rfl ?_|refine zB ?_|refine zK rfl ?_|refine zL rfl ?_|refine zC ?_|(refine zO ?_ ?_ ?_;omega;omega)|(refine zP ?_ ?_ ?_;omega;omega)|refine zM rfl ?_|(refine zQ ?_ ?_ ?_;omega;omega)|(refine zR ?_ ?_;omega)|(refine zI ?_ ?_;exact nA)|(refine zS ?_ ?_ ?_;omega;omega)|(refine zT ?_ ?_ ?_;omega;omega)|(refine zU ?_ ?_ ?_;omega;omega)|(refine zV ?_ ?_ ?_;omega;omega)|refine pC (cloneInt_c t.v (by omega)) wR ?_|(refine yA ?_ rfl ?_ ?_;assumption;exact lA)|(refine yB ?_ rfl ?_ ?_;assumption;exact lA)|(refine yC rfl ?_ ?_;exact lA)|(refine yD ?_ ?_ rfl ?_ ?_;assumption;assumption;exact lA)|(refine yE ?_ ?_ ?_ ?_;assumption;omega;omega)|(refine yF ?_ rfl ?_;omega)|(apply yH;assumption)|(refine yI ?_ ?_;assumption)|(refine yG ?_ rfl rfl rfl ?_;omega)|refine n0 ?_|refine zN rfl rfl rfl ?_|refine zD ?_|refine zE ?_|refine zF ?_|intro _|refine zG ?_);conv=>whnf)|(refine zX (fun hc => ?_) (fun hc => ?_)<;>(try simp only [SY] at hc)<;>first|omega|(conv=>whnf)))
  refine PLoop.over [11, 12, 35, 36, 37, 38, 39, 40, 41, 42, 43, 44, 45, 46, 47, 48, 49, 50, 51, 52, 53, 54] (fun x : Nat × List Cod × Fm × Tok => [(35, .int .i64 x.1)]) (fun x => fixG b b3 b4 b6 b8 r t x.2.1 x.2.2.1 x.2.2.2)
    (fun x => x.1 ≤ t.v.length ∧ x.2.2.2.e = 62 ∧ x.2.2.2.s = 6 ∧ x.2.1 = A ++ (t.t.take x.1).map blankC ∧ fixF false t.v A.length st fm = fixF false (t.v.drop x.1) ((A.length : Int) + x.1) st x.2.2.1) (fun x => t.v.length - x.1) (0, A, fm, tk) ⟨Nat.zero_le _, h1, h2, by simp, by simp⟩ wA ?_
  rintro ⟨i, A1, f1, tk1⟩ ⟨hi, k1, k2, hA1, hf1⟩
  dsimp only at hi k1 k2 hA1 hf1 ⊢
  conv => whnf
  repeat' (first|((first|((first|(apply zY;intro hg)|apply zZ);first|exact stA|exact stB|((conv=>whnf);(repeat ((first|(refine zW ?_ ?_;exact gA)|refine pC (cloneInt_c t.v (by omega)) wR ?_|refine zA ?_|refine zH rfl ?_|refine zB ?_|(refine yE ?_ ?_ ?_ ?_;assumption;omega;omega)|(refine yF ?_ rfl ?_;omega)|(apply yH;assumption)|(refine yI ?_ ?_;assumption)|intro _);conv=>whnf));first|exact pS|exact pL|exact pE))|(refine zW ?_ ?_;exact gA)|refine zH rfl ?_|refine zA ?_|refine zI bA ?_|refine zI rfl ?_|refine zJ rfl rfl ?_|refine zB ?_|refine zK rfl ?_|refine zL rfl ?_|refine zC ?_|(refine zO ?_ ?_ ?_;omega;omega)|(refine zP ?_ ?_ ?_;omega;omega)|refine zM rfl ?_|(refine zQ ?_ ?_ ?_;omega;omega)|(refine zR ?_ ?_;omega)|(refine zI ?_ ?_;exact nA)|(refine zS ?_ ?_ ?_;omega;omega)|(refine zT ?_ ?_ ?_;omega;omega)|(refine zU ?_ ?_ ?_;omega;omega)|(refine zV ?_ ?_ ?_;omega;omega)|refine pC (cloneInt_c t.v (by omega)) wR ?_|(refine yA ?_ rfl ?_ ?_;assumption;exact lA)|(refine yB ?_ rfl ?_ ?_;assumption;exact lA)|(refine yC rfl ?_ ?_;exact lA)|(refine yD ?_ ?_ rfl ?_ ?_;assumption;assumption;exact lA)|(refine yE ?_ ?_ ?_ ?_;assumption;omega;omega)|(refine yF ?_ rfl ?_;omega)|(apply yH;assumption)|(refine yI ?_ ?_;assumption)|(refine yG ?_ rfl rfl rfl ?_;omega)|refine n0 ?_|refine zN rfl rfl rfl ?_|refine zD ?_|refine zE ?_|refine zF ?_|intro _|refine zG ?_);conv=>whnf)|(refine zX (fun hc => ?_) (fun hc => ?_)<;>(try simp only [SY] at hc)<;>first|omega|(conv=>whnf)))
  · have hit : i < t.t.length := by omega
    have hiv : i < t.v.length := by omega
    rw [drop_at hiv, fixF] at hf1
    have hbm := Trm.bulks_length t.t
    have hA1l : A1.length = A.length + i := by rw [hA1, List.length_append, List.length_map, List.length_take]; omega
    have hA3 : A1 ++ [blankC t.t[i]] = A ++ (t.t.take (i + 1)).map blankC := by rw [List.take_succ_eq_append_getElem hit, List.map_append, hA1]; simp
    have hf3 : fixF false t.v A.length st fm = fixF false (t.v.drop (i + 1)) ((A.length : Int) + ((i + 1 : Nat) : Int)) st (upd f1 t.v[i] ⟨A1.length, st⟩) := by
      rw [hf1, setF_upd, hA1l, show (A.length : Int) + (i : Int) + 1 = (A.length : Int) + ((i + 1 : Nat) : Int) by omega]
      rfl
    refine PDraw.sX [.box b [.ms tk1, .mp r], .row tk1 (A1.map Cod.pv), .mp r (.int .i64) (mapM Kn.pa f1) []] 3 11 13 [] [] [14] tt_ok mixed ?_
    conv => whnf
    repeat ((first|((first|(apply zY;intro hg)|apply zZ);first|exact stA|exact stB|((conv=>whnf);(repeat ((first|(refine zW ?_ ?_;exact gA)|refine pC (cloneInt_c t.v (by omega)) wR ?_|refine zA ?_|refine zH rfl ?_|refine zB ?_|(refine yE ?_ ?_ ?_ ?_;assumption;omega;omega)|(refine yF ?_ rfl ?_;omega)|(apply yH;assumption)|(refine yI ?_ ?_;assumption)|intro _);conv=>whnf));first|exact pS|exact pL|exact pE))|(refine zW ?_ ?_;exact gA)|refine zH rfl ?_|refine zA ?_|refine zI bA ?_|refine zI rfl ?_|refine zJ rfl rfl ?_|refine zB ?_|refine zK rfl ?_|refine zL rfl ?_|refine zC ?_|(refine zO ?_ ?_ ?_;omega;omega)|(refine zP ?_ ?_ ?_;omega;omega)|refine zM rfl ?_|(refine zQ ?_ ?_ ?_;omega;omega)|(refine zR ?_ ?_;omega)|(refine zI ?_ ?_;exact nA)|(refine zS ?_ ?_ ?_;omega;omega)|(refine zT ?_ ?_ ?_;omega;omega)|(refine zU ?_ ?_ ?_;omega;omega)|(refine zV ?_ ?_ ?_;omega;omega)|refine pC (cloneInt_c t.v (by omega)) wR ?_|(refine yA ?_ rfl ?_ ?_;assumption;exact lA)|(refine yB ?_ rfl ?_ ?_;assumption;exact lA)|(refine yC rfl ?_ ?_;exact lA)|(refine yD ?_ ?_ rfl ?_ ?_;assumption;assumption;exact lA)|(refine yE ?_ ?_ ?_ ?_;assumption;omega;omega)|(refine yF ?_ rfl ?_;omega)|(apply yH;assumption)|(refine yI ?_ ?_;assumption)|(refine yG ?_ rfl rfl rfl ?_;omega)|refine n0 ?_|refine zN rfl rfl rfl ?_|refine zD ?_|refine zE ?_|refine zF ?_|intro _);conv=>whnf)
    refine And.intro ?_ ?_
    · conv => whnf
      repeat' (first|((first|((first|(apply zY;intro hg)|apply zZ);first|exact stA|exact stB|((conv=>whnf);(repeat ((first|(refine zW ?_ ?_;exact gA)|refine pC (cloneInt_c t.v (by omega)) wR ?_|refine zA ?_|refine zH rfl ?_|refine zB ?_|(refine yE ?_ ?_ ?_ ?_;assumption;omega;omega)|(refine yF ?_ rfl ?_;omega)|(apply yH;assumption)|(refine yI ?_ ?_;assumption)|intro _);conv=>whnf));first|exact pS|exact pL|exact pE))|(refine zW ?_ ?_;exact gA)|refine zH rfl ?_|refine zA ?_|refine zI bA ?_|refine zI rfl ?_|refine zJ rfl rfl ?_|refine zB ?_|refine zK rfl ?_|refine zL rfl ?_|refine zC ?_|(refine zO ?_ ?_ ?_;omega;omega)|(refine zP ?_ ?_ ?_;omega;omega)|refine zM rfl ?_|(refine zQ ?_ ?_ ?_;omega;omega)|(refine zR ?_ ?_;omega)|(refine zI ?_ ?_;exact nA)|(refine zS ?_ ?_ ?_;omega;omega)|(refine zT ?_ ?_ ?_;omega;omega)|(refine zU ?_ ?_ ?_;omega;omega)|(refine zV ?_ ?_ ?_;omega;omega)|refine pC (cloneInt_c t.v (by omega)) wR ?_|(refine yA ?_ rfl ?_ ?_;assumption;exact lA)|(refine yB ?_ rfl ?_ ?_;assumption;exact lA)|(refine yC rfl ?_ ?_;exact lA)|(refine yD ?_ ?_ rfl ?_ ?_;assumption;assumption;exact lA)|(refine yE ?_ ?_ ?_ ?_;assumption;omega;omega)|(refine yF ?_ rfl ?_;omega)|(apply yH;assumption)|(refine yI ?_ ?_;assumption)|(refine yG ?_ rfl rfl rfl ?_;omega)|refine n0 ?_|refine zN rfl rfl rfl ?_|refine zD ?_|refine zE ?_|refine zF ?_|intro _|refine zG ?_);conv=>whnf)|(refine zX (fun hc => ?_) (fun hc => ?_)<;>(try simp only [SY] at hc)<;>first|omega|(conv=>whnf)))
      refine PCall.go (number13_c b r tk1 A1 f1 t.t[i] (by have := Trm.bulks_mem (List.getElem_mem hit); omega) k1 k2 (by rw [hA1l]; omega)) (WkT.refl _) ?_
      rintro _ _ ⟨tk2, e1, e2, rfl, rfl⟩
      conv => whnf
      repeat' (first|((first|((first|(apply zY;intro hg)|apply zZ);first|exact stA|exact stB|((conv=>whnf);(repeat ((first|(refine zW ?_ ?_;exact gA)|refine pC (cloneInt_c t.v (by omega)) wR ?_|refine zA ?_|refine zH rfl ?_|refine zB ?_|(refine yE ?_ ?_ ?_ ?_;assumption;omega;omega)|(refine yF ?_ rfl ?_;omega)|(apply yH;assumption)|(refine yI ?_ ?_;assumption)|intro _);conv=>whnf));first|exact pS|exact pL|exact pE))|(refine zW ?_ ?_;exact gA)|refine zH rfl ?_|refine zA ?_|refine zI bA ?_|refine zI rfl ?_|refine zJ rfl rfl ?_|refine zB ?_|refine zK rfl ?_|refine zL rfl ?_|refine zC ?_|(refine zO ?_ ?_ ?_;omega;omega)|(refine zP ?_ ?_ ?_;omega;omega)|refine zM rfl ?_|(refine zQ ?_ ?_ ?_;omega;omega)|(refine zR ?_ ?_;omega)|(refine zI ?_ ?_;exact nA)|(refine zS ?_ ?_ ?_;omega;omega)|(refine zT ?_ ?_ ?_;omega;omega)|(refine zU ?_ ?_ ?_;omega;omega)|(refine zV ?_ ?_ ?_;omega;omega)|refine pC (cloneInt_c t.v (by omega)) wR ?_|(refine yA ?_ rfl ?_ ?_;assumption;exact lA)|(refine yB ?_ rfl ?_ ?_;assumption;exact lA)|(refine yC rfl ?_ ?_;exact lA)|(refine yD ?_ ?_ rfl ?_ ?_;assumption;assumption;exact lA)|(refine yE ?_ ?_ ?_ ?_;assumption;omega;omega)|(refine yF ?_ rfl ?_;omega)|(apply yH;assumption)|(refine yI ?_ ?_;assumption)|(refine yG ?_ rfl rfl rfl ?_;omega)|refine n0 ?_|refine zN rfl rfl rfl ?_|refine zD ?_|refine zE ?_|refine zF ?_|intro _|refine zG ?_);conv=>whnf)|(refine zX (fun hc => ?_) (fun hc => ?_)<;>(try simp only [SY] at hc)<;>first|omega|(conv=>whnf)))
      refine PMapPut.num ⟨A1.length, st⟩ rfl ?_
      conv => whnf
      repeat' (first|((first|((first|(apply zY;intro hg)|apply zZ);first|exact stA|exact stB|((conv=>whnf);(repeat ((first|(refine zW ?_ ?_;exact gA)|refine pC (cloneInt_c t.v (by omega)) wR ?_|refine zA ?_|refine zH rfl ?_|refine zB ?_|(refine yE ?_ ?_ ?_ ?_;assumption;omega;omega)|(refine yF ?_ rfl ?_;omega)|(apply yH;assumption)|(refine yI ?_ ?_;assumption)|intro _);conv=>whnf));first|exact pS|exact pL|exact pE))|(refine zW ?_ ?_;exact gA)|refine zH rfl ?_|refine zA ?_|refine zI bA ?_|refine zI rfl ?_|refine zJ rfl rfl ?_|refine zB ?_|refine zK rfl ?_|refine zL rfl ?_|refine zC ?_|(refine zO ?_ ?_ ?_;omega;omega)|(refine zP ?_ ?_ ?_;omega;omega)|refine zM rfl ?_|(refine zQ ?_ ?_ ?_;omega;omega)|(refine zR ?_ ?_;omega)|(refine zI ?_ ?_;exact nA)|(refine zS ?_ ?_ ?_;omega;omega)|(refine zT ?_ ?_ ?_;omega;omega)|(refine zU ?_ ?_ ?_;omega;omega)|(refine zV ?_ ?_ ?_;omega;omega)|refine pC (cloneInt_c t.v (by omega)) wR ?_|(refine yA ?_ rfl ?_ ?_;assumption;exact lA)|(refine yB ?_ rfl ?_ ?_;assumption;exact lA)|(refine yC rfl ?_ ?_;exact lA)|(refine yD ?_ ?_ rfl ?_ ?_;assumption;assumption;exact lA)|(refine yE ?_ ?_ ?_ ?_;assumption;omega;omega)|(refine yF ?_ rfl ?_;omega)|(apply yH;assumption)|(refine yI ?_ ?_;assumption)|(refine yG ?_ rfl rfl rfl ?_;omega)|refine n0 ?_|refine zN rfl rfl rfl ?_|refine zD ?_|refine zE ?_|refine zF ?_|intro _|refine zG ?_);conv=>whnf)|(refine zX (fun hc => ?_) (fun hc => ?_)<;>(try simp only [SY] at hc)<;>first|omega|(conv=>whnf)))
      exact loopTo (i + 1, A1 ++ [blankC t.t[i]], upd f1 t.v[i] ⟨A1.length, st⟩, tk2) ⟨by show i + 1 ≤ _; omega, e1, e2, hA3, hf3⟩ (by show t.v.length - (i + 1) < t.v.length - i; omega) wA
    · conv => whnf
      repeat' (first|((first|((first|(apply zY;intro hg)|apply zZ);first|exact stA|exact stB|((conv=>whnf);(repeat ((first|(refine zW ?_ ?_;exact gA)|refine pC (cloneInt_c t.v (by omega)) wR ?_|refine zA ?_|refine zH rfl ?_|refine zB ?_|(refine yE ?_ ?_ ?_ ?_;assumption;omega;omega)|(refine yF ?_ rfl ?_;omega)|(apply yH;assumption)|(refine yI ?_ ?_;assumption)|intro _);conv=>whnf));first|exact pS|exact pL|exact pE))|(refine zW ?_ ?_;exact gA)|refine zH rfl ?_|refine zA ?_|refine zI bA ?_|refine zI rfl ?_|refine zJ rfl rfl ?_|refine zB ?_|refine zK rfl ?_|refine zL rfl ?_|refine zC ?_|(refine zO ?_ ?_ ?_;omega;omega)|(refine zP ?_ ?_ ?_;omega;omega)|refine zM rfl ?_|(refine zQ ?_ ?_ ?_;omega;omega)|(refine zR ?_ ?_;omega)|(refine zI ?_ ?_;exact nA)|(refine zS ?_ ?_ ?_;omega;omega)|(refine zT ?_ ?_ ?_;omega;omega)|(refine zU ?_ ?_ ?_;omega;omega)|(refine zV ?_ ?_ ?_;omega;omega)|refine pC (cloneInt_c t.v (by omega)) wR ?_|(refine yA ?_ rfl ?_ ?_;assumption;exact lA)|(refine yB ?_ rfl ?_ ?_;assumption;exact lA)|(refine yC rfl ?_ ?_;exact lA)|(refine yD ?_ ?_ rfl ?_ ?_;assumption;assumption;exact lA)|(refine yE ?_ ?_ ?_ ?_;assumption;omega;omega)|(refine yF ?_ rfl ?_;omega)|(apply yH;assumption)|(refine yI ?_ ?_;assumption)|(refine yG ?_ rfl rfl rfl ?_;omega)|refine n0 ?_|refine zN rfl rfl rfl ?_|refine zD ?_|refine zE ?_|refine zF ?_|intro _|refine zG ?_);conv=>whnf)|(refine zX (fun hc => ?_) (fun hc => ?_)<;>(try simp only [SY] at hc)<;>first|omega|(conv=>whnf)))
      refine PCall.go (number13_c b r tk1 A1 f1 t.t[i] (by have := Trm.bulks_mem (List.getElem_mem hit); omega) k1 k2 (by rw [hA1l]; omega)) (WkT.refl _) ?_
      rintro _ _ ⟨tk2, e1, e2, rfl, rfl⟩
      conv => whnf
      repeat' (first|((first|((first|(apply zY;intro hg)|apply zZ);first|exact stA|exact stB|((conv=>whnf);(repeat ((first|(refine zW ?_ ?_;exact gA)|refine pC (cloneInt_c t.v (by omega)) wR ?_|refine zA ?_|refine zH rfl ?_|refine zB ?_|(refine yE ?_ ?_ ?_ ?_;assumption;omega;omega)|(refine yF ?_ rfl ?_;omega)|(apply yH;assumption)|(refine yI ?_ ?_;assumption)|intro _);conv=>whnf));first|exact pS|exact pL|exact pE))|(refine zW ?_ ?_;exact gA)|refine zH rfl ?_|refine zA ?_|refine zI bA ?_|refine zI rfl ?_|refine zJ rfl rfl ?_|refine zB ?_|refine zK rfl ?_|refine zL rfl ?_|refine zC ?_|(refine zO ?_ ?_ ?_;omega;omega)|(refine zP ?_ ?_ ?_;omega;omega)|refine zM rfl ?_|(refine zQ ?_ ?_ ?_;omega;omega)|(refine zR ?_ ?_;omega)|(refine zI ?_ ?_;exact nA)|(refine zS ?_ ?_ ?_;omega;omega)|(refine zT ?_ ?_ ?_;omega;omega)|(refine zU ?_ ?_ ?_;omega;omega)|(refine zV ?_ ?_ ?_;omega;omega)|refine pC (cloneInt_c t.v (by omega)) wR ?_|(refine yA ?_ rfl ?_ ?_;assumption;exact lA)|(refine yB ?_ rfl ?_ ?_;assumption;exact lA)|(refine yC rfl ?_ ?_;exact lA)|(refine yD ?_ ?_ rfl ?_ ?_;assumption;assumption;exact lA)|(refine yE ?_ ?_ ?_ ?_;assumption;omega;omega)|(refine yF ?_ rfl ?_;omega)|(apply yH;assumption)|(refine yI ?_ ?_;assumption)|(refine yG ?_ rfl rfl rfl ?_;omega)|refine n0 ?_|refine zN rfl rfl rfl ?_|refine zD ?_|refine zE ?_|refine zF ?_|intro _|refine zG ?_);conv=>whnf)|(refine zX (fun hc => ?_) (fun hc => ?_)<;>(try simp only [SY] at hc)<;>first|omega|(conv=>whnf)))
      refine And.intro ?_ ?_
      · conv => whnf
        repeat' (first|((first|((first|(apply zY;intro hg)|apply zZ);first|exact stA|exact stB|((conv=>whnf);(repeat ((first|(refine zW ?_ ?_;exact gA)|refine pC (cloneInt_c t.v (by omega)) wR ?_|refine zA ?_|refine zH rfl ?_|refine zB ?_|(refine yE ?_ ?_ ?_ ?_;assumption;omega;omega)|(refine yF ?_ rfl ?_;omega)|(apply yH;assumption)|(refine yI ?_ ?_;assumption)|intro _);conv=>whnf));first|exact pS|exact pL|exact pE))|(refine zW ?_ ?_;exact gA)|refine zH rfl ?_|refine zA ?_|refine zI bA ?_|refine zI rfl ?_|refine zJ rfl rfl ?_|refine zB ?_|refine zK rfl ?_|refine zL rfl ?_|refine zC ?_|(refine zO ?_ ?_ ?_;omega;omega)|(refine zP ?_ ?_ ?_;omega;omega)|refine zM rfl ?_|(refine zQ ?_ ?_ ?_;omega;omega)|(refine zR ?_ ?_;omega)|(refine zI ?_ ?_;exact nA)|(refine zS ?_ ?_ ?_;omega;omega)|(refine zT ?_ ?_ ?_;omega;omega)|(refine zU ?_ ?_ ?_;omega;omega)|(refine zV ?_ ?_ ?_;omega;omega)|refine pC (cloneInt_c t.v (by omega)) wR ?_|(refine yA ?_ rfl ?_ ?_;assumption;exact lA)|(refine yB ?_ rfl ?_ ?_;assumption;exact lA)|(refine yC rfl ?_ ?_;exact lA)|(refine yD ?_ ?_ rfl ?_ ?_;assumption;assumption;exact lA)|(refine yE ?_ ?_ ?_ ?_;assumption;omega;omega)|(refine yF ?_ rfl ?_;omega)|(apply yH;assumption)|(refine yI ?_ ?_;assumption)|(refine yG ?_ rfl rfl rfl ?_;omega)|refine n0 ?_|refine zN rfl rfl rfl ?_|refine zD ?_|refine zE ?_|refine zF ?_|intro _|refine zG ?_);conv=>whnf)|(refine zX (fun hc => ?_) (fun hc => ?_)<;>(try simp only [SY] at hc)<;>first|omega|(conv=>whnf)))
        refine PMapPut.num ⟨A1.length, st⟩ rfl ?_
        conv => whnf
        repeat' (first|((first|((first|(apply zY;intro hg)|apply zZ);first|exact stA|exact stB|((conv=>whnf);(repeat ((first|(refine zW ?_ ?_;exact gA)|refine pC (cloneInt_c t.v (by omega)) wR ?_|refine zA ?_|refine zH rfl ?_|refine zB ?_|(refine yE ?_ ?_ ?_ ?_;assumption;omega;omega)|(refine yF ?_ rfl ?_;omega)|(apply yH;assumption)|(refine yI ?_ ?_;assumption)|intro _);conv=>whnf));first|exact pS|exact pL|exact pE))|(refine zW ?_ ?_;exact gA)|refine zH rfl ?_|refine zA ?_|refine zI bA ?_|refine zI rfl ?_|refine zJ rfl rfl ?_|refine zB ?_|refine zK rfl ?_|refine zL rfl ?_|refine zC ?_|(refine zO ?_ ?_ ?_;omega;omega)|(refine zP ?_ ?_ ?_;omega;omega)|refine zM rfl ?_|(refine zQ ?_ ?_ ?_;omega;omega)|(refine zR ?_ ?_;omega)|(refine zI ?_ ?_;exact nA)|(refine zS ?_ ?_ ?_;omega;omega)|(refine zT ?_ ?_ ?_;omega;omega)|(refine zU ?_ ?_ ?_;omega;omega)|(refine zV ?_ ?_ ?_;omega;omega)|refine pC (cloneInt_c t.v (by omega)) wR ?_|(refine yA ?_ rfl ?_ ?_;assumption;exact lA)|(refine yB ?_ rfl ?_ ?_;assumption;exact lA)|(refine yC rfl ?_ ?_;exact lA)|(refine yD ?_ ?_ rfl ?_ ?_;assumption;assumption;exact lA)|(refine yE ?_ ?_ ?_ ?_;assumption;omega;omega)|(refine yF ?_ rfl ?_;omega)|(apply yH;assumption)|(refine yI ?_ ?_;assumption)|(refine yG ?_ rfl rfl rfl ?_;omega)|refine n0 ?_|refine zN rfl rfl rfl ?_|refine zD ?_|refine zE ?_|refine zF ?_|intro _|refine zG ?_);conv=>whnf)|(refine zX (fun hc => ?_) (fun hc => ?_)<;>(try simp only [SY] at hc)<;>first|omega|(conv=>whnf)))
        exact loopTo (i + 1, A1 ++ [blankC t.t[i]], upd f1 t.v[i] ⟨A1.length, st⟩, tk2) ⟨by show i + 1 ≤ _; omega, e1, e2, hA3, hf3⟩ (by show t.v.length - (i + 1) < t.v.length - i; omega) wA
      · conv => whnf
        repeat' (first|((first|((first|(apply zY;intro hg)|apply zZ);first|exact stA|exact stB|((conv=>whnf);(repeat ((first|(refine zW ?_ ?_;exact gA)|refine pC (cloneInt_c t.v (by omega)) wR ?_|refine zA ?_|refine zH rfl ?_|refine zB ?_|(refine yE ?_ ?_ ?_ ?_;assumption;omega;omega)|(refine yF ?_ rfl ?_;omega)|(apply yH;assumption)|(refine yI ?_ ?_;assumption)|intro _);conv=>whnf));first|exact pS|exact pL|exact pE))|(refine zW ?_ ?_;exact gA)|refine zH rfl ?_|refine zA ?_|refine zI bA ?_|refine zI rfl ?_|refine zJ rfl rfl ?_|refine zB ?_|refine zK rfl ?_|refine zL rfl ?_|refine zC ?_|(refine zO ?_ ?_ ?_;omega;omega)|(refine zP ?_ ?_ ?_;omega;omega)|refine zM rfl ?_|(refine zQ ?_ ?_ ?_;omega;omega)|(refine zR ?_ ?_;omega)|(refine zI ?_ ?_;exact nA)|(refine zS ?_ ?_ ?_;omega;omega)|(refine zT ?_ ?_ ?_;omega;omega)|(refine zU ?_ ?_ ?_;omega;omega)|(refine zV ?_ ?_ ?_;omega;omega)|refine pC (cloneInt_c t.v (by omega)) wR ?_|(refine yA ?_ rfl ?_ ?_;assumption;exact lA)|(refine yB ?_ rfl ?_ ?_;assumption;exact lA)|(refine yC rfl ?_ ?_;exact lA)|(refine yD ?_ ?_ rfl ?_ ?_;assumption;assumption;exact lA)|(refine yE ?_ ?_ ?_ ?_;assumption;omega;omega)|(refine yF ?_ rfl ?_;omega)|(apply yH;assumption)|(refine yI ?_ ?_;assumption)|(refine yG ?_ rfl rfl rfl ?_;omega)|refine n0 ?_|refine zN rfl rfl rfl ?_|refine zD ?_|refine zE ?_|refine zF ?_|intro _|refine zG ?_);conv=>whnf)|(refine zX (fun hc => ?_) (fun hc => ?_)<;>(try simp only [SY] at hc)<;>first|omega|(conv=>whnf)))
        refine PMapPut.num ⟨A1.length, st⟩ rfl ?_
        conv => whnf
        repeat' (first|((first|((first|(apply zY;intro hg)|apply zZ);first|exact stA|exact stB|((conv=>whnf);(repeat ((first|(refine zW ?_ ?_;exact gA)|refine pC (cloneInt_c t.v (by omega)) wR ?_|refine zA ?_|refine zH rfl ?_|refine zB ?_|(refine yE ?_ ?_ ?_ ?_;assumption;omega;omega)|(refine yF ?_ rfl ?_;omega)|(apply yH;assumption)|(refine yI ?_ ?_;assumption)|intro _);conv=>whnf));first|exact pS|exact pL|exact pE))|(refine zW ?_ ?_;exact gA)|refine zH rfl ?_|refine zA ?_|refine zI bA ?_|refine zI rfl ?_|refine zJ rfl rfl ?_|refine zB ?_|refine zK rfl ?_|refine zL rfl ?_|refine zC ?_|(refine zO ?_ ?_ ?_;omega;omega)|(refine zP ?_ ?_ ?_;omega;omega)|refine zM rfl ?_|(refine zQ ?_ ?_ ?_;omega;omega)|(refine zR ?_ ?_;omega)|(refine zI ?_ ?_;exact nA)|(refine zS ?_ ?_ ?_;omega;omega)|(refine zT ?_ ?_ ?_;omega;omega)|(refine zU ?_ ?_ ?_;omega;omega)|(refine zV ?_ ?_ ?_;omega;omega)|refine pC (cloneInt_c t.v (by omega)) wR ?_|(refine yA ?_ rfl ?_ ?_;assumption;exact lA)|(refine yB ?_ rfl ?_ ?_;assumption;exact lA)|(refine yC rfl ?_ ?_;exact lA)|(refine yD ?_ ?_ rfl ?_ ?_;assumption;assumption;exact lA)|(refine yE ?_ ?_ ?_ ?_;assumption;omega;omega)|(refine yF ?_ rfl ?_;omega)|(apply yH;assumption)|(refine yI ?_ ?_;assumption)|(refine yG ?_ rfl rfl rfl ?_;omega)|refine n0 ?_|refine zN rfl rfl rfl ?_|refine zD ?_|refine zE ?_|refine zF ?_|intro _|refine zG ?_);conv=>whnf)|(refine zX (fun hc => ?_) (fun hc => ?_)<;>(try simp only [SY] at hc)<;>first|omega|(conv=>whnf)))
        exact loopTo (i + 1, A1 ++ [blankC t.t[i]], upd f1 t.v[i] ⟨A1.length, st⟩, tk2) ⟨by show i + 1 ≤ _; omega, e1, e2, hA3, hf3⟩ (by show t.v.length - (i + 1) < t.v.length - i; omega) wA
  · obtain rfl : i = t.v.length := by omega
    rw [List.drop_of_length_le (Nat.le_refl _), fixF] at hf1
    rw [hf1]
    have htk : (t.t.take t.v.length).length = t.v.length := by rw [List.length_take]; omega
    have hA1l : A1.length = A.length + t.v.length := by rw [hA1, List.length_append, List.length_map, htk]
    rename_i b13 hq13
    refine PLoop.ghost (Ghost.trans (Ghost.nil 4 26 _) (Ghost.box (b := b13) (cs := [.int .i64 9, .int .i64 0, slI t.v, .nil]) (cs' := [.int .i64 9, .int .i64 0, slI t.v, .sl 4 (([] : List Trm).map Trm.pv) (some (nilTok 4 26))]) wA)) ?_
    refine PLoop.over [14, 62, 63, 64, 65, 66, 67, 68, 69, 70, 71, 72, 73, 74, 75, 76, 77, 78, 79, 80, 81, 82, 83, 84, 85] (fun x : Nat × (List Trm × Tok) × List Cod × Fm × Tok => [(62, .int .i64 x.1)]) (fun x => fix2G b b3 b4 b6 b8 b13 r t x.2.1.1 x.2.1.2 x.2.2.1 x.2.2.2.1 x.2.2.2.2)
      (fun x => x.1 ≤ t.v.length ∧ x.2.1.2.e = 26 ∧ x.2.2.2.2.e = 62 ∧ x.2.2.2.2.s = 6 ∧ x.2.1.1.length = x.1 ∧ ∃ own C, x.2.2.1 = A ++ (own ++ (((t.t.take t.v.length).drop x.1).map blankC ++ C)) ∧ own.length = x.1 ∧ C.length + Trm.bulks (t.t.drop x.1) ≤ Trm.bulks t.t ∧
        Trm.cloF false t.t t.v ov A.length (A.length + t.v.length) f1 = preF x.2.1.1 own C (Trm.cloF false (t.t.drop x.1) (t.v.drop x.1) ov ((A.length : Int) + x.1) x.2.2.1.length x.2.2.2.1)) (fun x => t.v.length - x.1)
      (0, ([], nilTok 4 26), A1, f1, tk1) ⟨Nat.zero_le _, rfl, k1, k2, rfl, [], [], by simp [hA1], rfl, by simp, by rw [hA1l]; simp only [List.drop_zero, Int.natCast_zero, Int.add_zero]; exact (preF_nil (Trm.cloF_v _ _ _ _ _ _ _)).symm⟩ wA ?_
    rintro ⟨i, ⟨T, tt'⟩, A2, f2, tk2⟩ ⟨hi, htt, k3, k4, hTl, own, C, hA2, hol, hcl, he⟩
    dsimp only at hi htt k3 k4 hTl hA2 hol hcl he ⊢
    conv => whnf
    repeat' (first|((first|((first|(apply zY;intro hg)|apply zZ);first|exact stA|exact stB|((conv=>whnf);(repeat ((first|(refine zW ?_ ?_;exact gA)|refine pC (cloneInt_c t.v (by omega)) wR ?_|refine zA ?_|refine zH rfl ?_|refine zB ?_|(refine yE ?_ ?_ ?_ ?_;assumption;omega;omega)|(refine yF ?_ rfl ?_;omega)|(apply yH;assumption)|(refine yI ?_ ?_;assumption)|intro _);conv=>whnf));first|exact pS|exact pL|exact pE))|(refine zW ?_ ?_;exact gA)|refine zH rfl ?_|refine zA ?_|refine zI bA ?_|refine zI rfl ?_|refine zJ rfl rfl ?_|refine zB ?_|refine zK rfl ?_|refine zL rfl ?_|refine zC ?_|(refine zO ?_ ?_ ?_;omega;omega)|(refine zP ?_ ?_ ?_;omega;omega)|refine zM rfl ?_|(refine zQ ?_ ?_ ?_;omega;omega)|(refine zR ?_ ?_;omega)|(refine zI ?_ ?_;exact nA)|(refine zS ?_ ?_ ?_;omega;omega)|(refine zT ?_ ?_ ?_;omega;omega)|(refine zU ?_ ?_ ?_;omega;omega)|(refine zV ?_ ?_ ?_;omega;omega)|refine pC (cloneInt_c t.v (by omega)) wR ?_|(refine yA ?_ rfl ?_ ?_;assumption;exact lA)|(refine yB ?_ rfl ?_ ?_;assumption;exact lA)|(refine yC rfl ?_ ?_;exact lA)|(refine yD ?_ ?_ rfl ?_ ?_;assumption;assumption;exact lA)|(refine yE ?_ ?_ ?_ ?_;assumption;omega;omega)|(refine yF ?_ rfl ?_;omega)|(apply yH;assumption)|(refine yI ?_ ?_;assumption)|(refine yG ?_ rfl rfl rfl ?_;omega)|refine n0 ?_|refine zN rfl rfl rfl ?_|refine zD ?_|refine zE ?_|refine zF ?_|intro _|refine zG ?_);conv=>whnf)|(refine zX (fun hc => ?_) (fun hc => ?_)<;>(try simp only [SY] at hc)<;>first|omega|(conv=>whnf)))
    · have hit : i < t.t.length := by omega
      have hiv : i < t.v.length := by omega
      have hitk : i < (t.t.take t.v.length).length := by omega
      have hgt : (t.t.take t.v.length)[i] = t.t[i] := List.getElem_take
      obtain ⟨z, zs, hz, hzo⟩ := hlam t.t[i] (by rw [← hgt]; exact List.getElem_mem hitk)
      have hzb : z.bulk ≤ Trm.bulks t.t[i].t := by rw [hz, Trm.bulks]; omega
      have hbi := t.t[i].bulk_eq
      have hbm := Trm.bulks_mem (List.getElem_mem hit)
      rw [drop_at hitk, hgt, List.map_cons, List.cons_append] at hA2
      rw [drop_at hit, Trm.bulks] at hcl
      rw [drop_at hit, drop_at hiv, Trm.cloF] at he
      have h00 : A.length + i - A.length - own.length = 0 := by omega
      have hget : A2[A.length + i]? = some ⟨t.t[i].v, t.t[i].n == 1, noT⟩ := by
        rw [hA2, List.getElem?_append_right (by omega), List.getElem?_append_right (by omega), h00]
        rfl
      have hA2l : A2.length = A.length + t.v.length + C.length := by
        rw [hA2]
        simp only [List.length_append, List.length_cons, List.length_map, List.length_drop, htk]
        omega
      have hfill := fill13_c b r tk2 A2 f2 (A.length + i) t.t[i] z hget zs hz hzo ov k3 k4 (by omega) (by omega) hov
      rw [Int.natCast_add] at hfill
      have hlb : (t.t[i].cloB false (overF f2 t.t[i]) A2.length f2).c.length + 1 ≤ t.t[i].bulk := (t.t[i].clo_lens false).2 _ _ _
      rw [if_neg (by simp), preF_add] at he
      generalize t.t[i].cloB false (overF f2 t.t[i]) A2.length f2 = bo at *
      have hset : A2.set (A.length + i) ⟨t.t[i].v, t.t[i].n == 1, bo.t⟩ ++ bo.c = A ++ ((own ++ [⟨t.t[i].v, t.t[i].n == 1, bo.t⟩]) ++ (((t.t.take t.v.length).drop (i + 1)).map blankC ++ (C ++ bo.c))) := by
        rw [hA2, List.set_append_right _ _ (by omega), List.set_append_right _ _ (by omega), h00]
        simp
      have hl3 : A2.length + bo.c.length = (A2.set (A.length + i) ⟨t.t[i].v, t.t[i].n == 1, bo.t⟩ ++ bo.c).length := by simp
      rw [hl3, show (A.length : Int) + (i : Int) + 1 = (A.length : Int) + ((i + 1 : Nat) : Int) by omega] at he
      generalize A2.set (A.length + i) ⟨t.t[i].v, t.t[i].n == 1, bo.t⟩ ++ bo.c = A3 at *
      refine PDraw.sE [.tok tt', .box b [.ms tk2, .mp r], .row tk2 (A2.map Cod.pv), .mp r (.int .i64) (mapM Kn.pa f2) []] [15,16,17] [18,19,20] tt_ok mixed ?_
      conv=>whnf
      repeat ((first|((first|(apply zY;intro hg)|apply zZ);first|exact stA|exact stB|((conv=>whnf);(repeat ((first|(refine zW ?_ ?_;exact gA)|refine pC (cloneInt_c t.v (by omega)) wR ?_|refine zA ?_|refine zH rfl ?_|refine zB ?_|(refine yE ?_ ?_ ?_ ?_;assumption;omega;omega)|(refine yF ?_ rfl ?_;omega)|(apply yH;assumption)|(refine yI ?_ ?_;assumption)|intro _);conv=>whnf));first|exact pS|exact pL|exact pE))|(refine zW ?_ ?_;exact gA)|refine zH rfl ?_|refine zA ?_|refine zI bA ?_|refine zI rfl ?_|refine zJ rfl rfl ?_|refine zB ?_|refine zK rfl ?_|refine zL rfl ?_|refine zC ?_|(refine zO ?_ ?_ ?_;omega;omega)|(refine zP ?_ ?_ ?_;omega;omega)|refine zM rfl ?_|(refine zQ ?_ ?_ ?_;omega;omega)|(refine zR ?_ ?_;omega)|(refine zI ?_ ?_;exact nA)|(refine zS ?_ ?_ ?_;omega;omega)|(refine zT ?_ ?_ ?_;omega;omega)|(refine zU ?_ ?_ ?_;omega;omega)|(refine zV ?_ ?_ ?_;omega;omega)|refine pC (cloneInt_c t.v (by omega)) wR ?_|(refine yA ?_ rfl ?_ ?_;assumption;exact lA)|(refine yB ?_ rfl ?_ ?_;assumption;exact lA)|(refine yC rfl ?_ ?_;exact lA)|(refine yD ?_ ?_ rfl ?_ ?_;assumption;assumption;exact lA)|(refine yE ?_ ?_ ?_ ?_;assumption;omega;omega)|(refine yF ?_ rfl ?_;omega)|(apply yH;assumption)|(refine yI ?_ ?_;assumption)|(refine yG ?_ rfl rfl rfl ?_;omega)|refine n0 ?_|refine zN rfl rfl rfl ?_|refine zD ?_|refine zE ?_|refine zF ?_|intro _);conv=>whnf)
      refine PCall.go hfill (WkT.refl _) ?_
      rintro _ _ ⟨tk3, tk4, e1, e2, rfl, rfl⟩
      conv => whnf
      repeat' (first|((first|((first|(apply zY;intro hg)|apply zZ);first|exact stA|exact stB|((conv=>whnf);(repeat ((first|(refine zW ?_ ?_;exact gA)|refine pC (cloneInt_c t.v (by omega)) wR ?_|refine zA ?_|refine zH rfl ?_|refine zB ?_|(refine yE ?_ ?_ ?_ ?_;assumption;omega;omega)|(refine yF ?_ rfl ?_;omega)|(apply yH;assumption)|(refine yI ?_ ?_;assumption)|intro _);conv=>whnf));first|exact pS|exact pL|exact pE))|(refine zW ?_ ?_;exact gA)|refine zH rfl ?_|refine zA ?_|refine zI bA ?_|refine zI rfl ?_|refine zJ rfl rfl ?_|refine zB ?_|refine zK rfl ?_|refine zL rfl ?_|refine zC ?_|(refine zO ?_ ?_ ?_;omega;omega)|(refine zP ?_ ?_ ?_;omega;omega)|refine zM rfl ?_|(refine zQ ?_ ?_ ?_;omega;omega)|(refine zR ?_ ?_;omega)|(refine zI ?_ ?_;exact nA)|(refine zS ?_ ?_ ?_;omega;omega)|(refine zT ?_ ?_ ?_;omega;omega)|(refine zU ?_ ?_ ?_;omega;omega)|(refine zV ?_ ?_ ?_;omega;omega)|refine pC (cloneInt_c t.v (by omega)) wR ?_|(refine yA ?_ rfl ?_ ?_;assumption;exact lA)|(refine yB ?_ rfl ?_ ?_;assumption;exact lA)|(refine yC rfl ?_ ?_;exact lA)|(refine yD ?_ ?_ rfl ?_ ?_;assumption;assumption;exact lA)|(refine yE ?_ ?_ ?_ ?_;assumption;omega;omega)|(refine yF ?_ rfl ?_;omega)|(apply yH;assumption)|(refine yI ?_ ?_;assumption)|(refine yG ?_ rfl rfl rfl ?_;omega)|refine n0 ?_|refine zN rfl rfl rfl ?_|refine zD ?_|refine zE ?_|refine zF ?_|intro _|refine zG ?_);conv=>whnf)|(refine zX (fun hc => ?_) (fun hc => ?_)<;>(try simp only [SY] at hc)<;>first|omega|(conv=>whnf)))
      rename_i t5 ht5
      exact loopTo (i + 1, (T ++ [Trm.mk 19 ((A.length : Int) + i) [] ((overF f2 t.t[i]).map (refF bo.fm ov))], t5), A3, bo.fm, tk3) ⟨by show i + 1 ≤ _; omega, ht5, e1, e2, by simp; omega, own ++ [⟨t.t[i].v, t.t[i].n == 1, bo.t⟩], C ++ bo.c, hset, by simp; omega, by show (C ++ bo.c).length + Trm.bulks (t.t.drop (i + 1)) ≤ _; rw [List.length_append]; omega, he⟩ (by show t.v.length - (i + 1) < t.v.length - i; omega) wA
    · obtain rfl : i = t.v.length := by omega
      have hlt : t.v.length < t.t.length := by omega
      rw [drop_at hlt, Trm.bulks] at hcl
      rw [drop_at hlt, List.drop_of_length_le (Nat.le_refl t.v.length), Trm.cloF] at he
      rw [List.drop_of_length_le (by omega), List.map_nil, List.nil_append] at hA2
      have hA2l : A2.length = A.length + t.v.length + C.length := by
        rw [hA2]
        simp only [List.length_append]
        omega
      have hal : (t.t[t.v.length].clo false ov A2.length f2).c.length ≤ t.t[t.v.length].bulk := (t.t[t.v.length].clo_lens false).1 _ _ _
      refine PDraw.sF (some 86) rfl [.box b [.ms tk2, .mp r], .row tk2 (A2.map Cod.pv), .mp r (.int .i64) (mapM Kn.pa f2) []] [7] [] [8] [9] tt_ok mixed ?_
      conv=>whnf
      repeat ((first|((first|(apply zY;intro hg)|apply zZ);first|exact stA|exact stB|((conv=>whnf);(repeat ((first|(refine zW ?_ ?_;exact gA)|refine pC (cloneInt_c t.v (by omega)) wR ?_|refine zA ?_|refine zH rfl ?_|refine zB ?_|(refine yE ?_ ?_ ?_ ?_;assumption;omega;omega)|(refine yF ?_ rfl ?_;omega)|(apply yH;assumption)|(refine yI ?_ ?_;assumption)|intro _);conv=>whnf));first|exact pS|exact pL|exact pE))|(refine zW ?_ ?_;exact gA)|refine zH rfl ?_|refine zA ?_|refine zI bA ?_|refine zI rfl ?_|refine zJ rfl rfl ?_|refine zB ?_|refine zK rfl ?_|refine zL rfl ?_|refine zC ?_|(refine zO ?_ ?_ ?_;omega;omega)|(refine zP ?_ ?_ ?_;omega;omega)|refine zM rfl ?_|(refine zQ ?_ ?_ ?_;omega;omega)|(refine zR ?_ ?_;omega)|(refine zI ?_ ?_;exact nA)|(refine zS ?_ ?_ ?_;omega;omega)|(refine zT ?_ ?_ ?_;omega;omega)|(refine zU ?_ ?_ ?_;omega;omega)|(refine zV ?_ ?_ ?_;omega;omega)|refine pC (cloneInt_c t.v (by omega)) wR ?_|(refine yA ?_ rfl ?_ ?_;assumption;exact lA)|(refine yB ?_ rfl ?_ ?_;assumption;exact lA)|(refine yC rfl ?_ ?_;exact lA)|(refine yD ?_ ?_ rfl ?_ ?_;assumption;assumption;exact lA)|(refine yE ?_ ?_ ?_ ?_;assumption;omega;omega)|(refine yF ?_ rfl ?_;omega)|(apply yH;assumption)|(refine yI ?_ ?_;assumption)|(refine yG ?_ rfl rfl rfl ?_;omega)|refine n0 ?_|refine zN rfl rfl rfl ?_|refine zD ?_|refine zE ?_|refine zF ?_|intro _);conv=>whnf)
      refine PCall.go (hx _ (List.getElem_mem hlt) tk2 A2 f2 ov k3 k4 (by omega) hov) (WkT.refl _) ?_
      rintro _ _ ⟨tk3, e1, e2, rfl, rfl⟩
      generalize t.t[t.v.length].clo false ov A2.length f2 = a at *
      obtain ⟨at', ac, af⟩ := a
      dsimp only at hal he ⊢
      simp only [preF, List.append_nil] at he
      rw [he]
      dsimp only
      have hA3 : A ++ (own ++ (C ++ ac)) = A2 ++ ac := by rw [hA2]; simp
      rw [hA3]
      conv => whnf
      repeat' (first|((first|((first|(apply zY;intro hg)|apply zZ);first|exact stA|exact stB|((conv=>whnf);(repeat ((first|(refine zW ?_ ?_;exact gA)|refine pC (cloneInt_c t.v (by omega)) wR ?_|refine zA ?_|refine zH rfl ?_|refine zB ?_|(refine yE ?_ ?_ ?_ ?_;assumption;omega;omega)|(refine yF ?_ rfl ?_;omega)|(apply yH;assumption)|(refine yI ?_ ?_;assumption)|intro _);conv=>whnf));first|exact pS|exact pL|exact pE))|(refine zW ?_ ?_;exact gA)|refine zH rfl ?_|refine zA ?_|refine zI bA ?_|refine zI rfl ?_|refine zJ rfl rfl ?_|refine zB ?_|refine zK rfl ?_|refine zL rfl ?_|refine zC ?_|(refine zO ?_ ?_ ?_;omega;omega)|(refine zP ?_ ?_ ?_;omega;omega)|refine zM rfl ?_|(refine zQ ?_ ?_ ?_;omega;omega)|(refine zR ?_ ?_;omega)|(refine zI ?_ ?_;exact nA)|(refine zS ?_ ?_ ?_;omega;omega)|(refine zT ?_ ?_ ?_;omega;omega)|(refine zU ?_ ?_ ?_;omega;omega)|(refine zV ?_ ?_ ?_;omega;omega)|refine pC (cloneInt_c t.v (by omega)) wR ?_|(refine yA ?_ rfl ?_ ?_;assumption;exact lA)|(refine yB ?_ rfl ?_ ?_;assumption;exact lA)|(refine yC rfl ?_ ?_;exact lA)|(refine yD ?_ ?_ rfl ?_ ?_;assumption;assumption;exact lA)|(refine yE ?_ ?_ ?_ ?_;assumption;omega;omega)|(refine yF ?_ rfl ?_;omega)|(apply yH;assumption)|(refine yI ?_ ?_;assumption)|(refine yG ?_ rfl rfl rfl ?_;omega)|refine n0 ?_|refine zN rfl rfl rfl ?_|refine zD ?_|refine zE ?_|refine zF ?_|intro _|refine zG ?_);conv=>whnf)|(refine zX (fun hc => ?_) (fun hc => ?_)<;>(try simp only [SY] at hc)<;>first|omega|(conv=>whnf)))
      · rw [if_pos hc]
        exact PRet.gen (y := .agg at'.cells) (Γ' := mkrG b r tk3 (A2 ++ ac) af) TrmOf.wk ⟨tk3, e1, e2, rfl, rfl⟩
      · rw [if_neg (by simp [hc])]
        exact PRet.gen (y := .agg (Trm.mk 9 0 t.v (T ++ [at'])).cells) (Γ' := mkrG b r tk3 (A2 ++ ac) af) TrmOf.wk ⟨tk3, e1, e2, rfl, rfl⟩
end Go.Cb
namespace Go.Cb
open Go.Proofs
set_option maxRecDepth 100000
set_option maxHeartbeats 4000000
mutual
def Trm.shD : Trm → Prop
  | .mk op _ v t => (v.Nodup ∧ (op ≠ 4 → op ≠ 8 → op ≠ 9 → v = [])) ∧ Trm.shDs t
def Trm.shDs : List Trm → Prop
  | [] => True
  | x :: xs => Trm.shD x ∧ Trm.shDs xs
end
theorem Trm.shD_eq (t : Trm) : t.shD ↔ (t.v.Nodup ∧ (t.op ≠ 4 → t.op ≠ 8 → t.op ≠ 9 → t.v = [])) ∧ Trm.shDs t.t := by cases t; rw [Trm.shD]; rfl
theorem Trm.shDs_mem : ∀ {l : List Trm}, Trm.shDs l → ∀ x ∈ l, x.shD
  | [], _, x, hx => by cases hx
  | y :: l, h, x, hx => by
    rw [Trm.shDs] at h
    rcases List.mem_cons.1 hx with rfl | hx
    · exact h.1
    · exact Trm.shDs_mem h.2 x hx
def preS (T : List Trm) (C : List Cod) (r : ClL) : ClL := ⟨[], T ++ r.t, noT, [], C ++ r.c, r.fm⟩
theorem Trm.clos_nil (w : Bool) : ∀ (l : List Trm) ov n fm, (Trm.clos w l ov n fm).v = [] ∧ (Trm.clos w l ov n fm).last = noT ∧ (Trm.clos w l ov n fm).own = []
  | [], ov, n, fm => by rw [Trm.clos]; exact ⟨rfl, rfl, rfl⟩
  | y :: l, ov, n, fm => by rw [Trm.clos]; exact ⟨rfl, rfl, rfl⟩
theorem preS_nil {r : ClL} (h : r.v = [] ∧ r.last = noT ∧ r.own = []) : preS [] [] r = r := by
  obtain ⟨a, b, c, d, e, f⟩ := r
  obtain ⟨h1, h2, h3⟩ := h
  simp only at h1 h2 h3
  subst h1 h2 h3
  rfl
theorem preS_add (T : List Trm) (C ac : List Cod) (b : ClL) (x : Trm) : preS T C ⟨[], x :: b.t, noT, [], ac ++ b.c, b.fm⟩ = preS (T ++ [x]) (C ++ ac) b := by simp [preS]
theorem clOk2 (b r : Nat) (t : Trm) : t.shI → t.shD → ClOk b r t ∧ ∀ z ∈ t.t, ClOk b r z := by
  induction t using Trm.ind with
  | h t ih =>
    intro hsI hsD
    refine ⟨?_, fun z hz => (ih z hz (Trm.shIs_mem ((Trm.shI_eq t).1 hsI).2 z hz) (Trm.shDs_mem ((Trm.shD_eq t).1 hsD).2 z hz)).1⟩
    intro tk A fm ov h1 h2 hb hov
    have hbe := t.bulk_eq
    have hbl := Trm.bulks_length t.t
    rw [Trm.shI_eq] at hsI
    rw [Trm.shD_eq] at hsD
    obtain ⟨⟨s1, s2, s3, s4⟩, s5⟩ := hsI
    obtain ⟨⟨d1, d2⟩, d3⟩ := hsD
    have hf : ∀ x ∈ t.t, ClOk b r x := fun x hx => (ih x hx (Trm.shIs_mem s5 x hx) (Trm.shDs_mem d3 x hx)).1
    have ihc : ∀ x ∈ t.t, ∀ z ∈ x.t, ClOk b r z := fun x hx => (ih x hx (Trm.shIs_mem s5 x hx) (Trm.shDs_mem d3 x hx)).2
    have hlam : ∀ y ∈ t.t, y.op = 4 → ∃ z zs, y.t = z :: zs ∧ ClOk b r z := fun y hy h4 => by
      have hI := (Trm.shI_eq y).1 (Trm.shIs_mem s5 y hy)
      cases hyt : y.t with
      | nil => have := hI.1.2.1 h4; rw [hyt] at this; simp at this
      | cons z zs => exact ⟨z, zs, rfl, ihc y hy z (by rw [hyt]; simp)⟩
    have h5 : t.op = 5 → 1 ≤ t.t.length := fun h => List.length_pos_iff.2 (s1 h)
    refine ACall.of_body tt_ok Tryz.func66 rfl rfl (n := 97) rfl rfl ?_
    conv => whnf
    repeat ((first|((first|(apply zY;intro hg)|apply zZ);first|exact stA|exact stB|((conv=>whnf);(repeat ((first|(refine zW ?_ ?_;exact gA)|refine zA ?_|refine zH rfl ?_|refine zB ?_|(refine yE ?_ ?_ ?_ ?_;assumption;omega;omega)|(refine yF ?_ rfl ?_;omega)|(apply yH;assumption)|(refine yI ?_ ?_;assumption)|intro _);conv=>whnf));first|exact pS|exact pL|exact pE))|(refine zW ?_ ?_;exact gA)|refine zH rfl ?_|refine zA ?_|refine zI bA ?_|refine zI rfl ?_|refine zJ rfl rfl ?_|refine zB ?_|refine zK rfl ?_|refine zL rfl ?_|refine zC ?_|(refine zO ?_ ?_ ?_;omega;omega)|(refine zP ?_ ?_ ?_;omega;omega)|refine zM rfl ?_|(refine zQ ?_ ?_ ?_;omega;omega)|(refine zR ?_ ?_;omega)|(refine zI ?_ ?_;exact nA)|(refine zS ?_ ?_ ?_;omega;omega)|(refine zT ?_ ?_ ?_;omega;omega)|(refine zU ?_ ?_ ?_;omega;omega)|(refine zV ?_ ?_ ?_;omega;omega)|(refine yA ?_ rfl ?_ ?_;assumption;exact lA)|(refine yB ?_ rfl ?_ ?_;assumption;exact lA)|(refine yC rfl ?_ ?_;exact lA)|(refine yD ?_ ?_ rfl ?_ ?_;assumption;assumption;exact lA)|(refine yE ?_ ?_ ?_ ?_;assumption;omega;omega)|(refine yF ?_ rfl ?_;omega)|(apply yH;assumption)|(refine yI ?_ ?_;assumption)|(refine yG ?_ rfl rfl rfl ?_;omega)|refine n0 ?_|refine zN rfl rfl rfl ?_|refine zD ?_|refine zE ?_|refine zF ?_|refine PDraw.sQ (some 75) rfl [3] [4,5] tt_ok mixed ?_|intro _);conv=>whnf)
    rename_i b4 b6
    conv => whnf
    repeat' (first|((first|((first|(apply zY;intro hg)|apply zZ);first|exact stA|exact stB|((conv=>whnf);(repeat ((first|(refine zW ?_ ?_;exact gA)|refine zA ?_|refine zH rfl ?_|refine zB ?_|(refine yE ?_ ?_ ?_ ?_;assumption;omega;omega)|(refine yF ?_ rfl ?_;omega)|(apply yH;assumption)|(refine yI ?_ ?_;assumption)|intro _);conv=>whnf));first|exact pS|exact pL|exact pE))|(refine zW ?_ ?_;exact gA)|refine zH rfl ?_|refine zA ?_|refine zI bA ?_|refine zI rfl ?_|refine zJ rfl rfl ?_|refine zB ?_|refine zK rfl ?_|refine zL rfl ?_|refine zC ?_|(refine zO ?_ ?_ ?_;omega;omega)|(refine zP ?_ ?_ ?_;omega;omega)|refine zM rfl ?_|(refine zQ ?_ ?_ ?_;omega;omega)|(refine zR ?_ ?_;omega)|(refine zI ?_ ?_;exact nA)|(refine zS ?_ ?_ ?_;omega;omega)|(refine zT ?_ ?_ ?_;omega;omega)|(refine zU ?_ ?_ ?_;omega;omega)|(refine zV ?_ ?_ ?_;omega;omega)|(refine yA ?_ rfl ?_ ?_;assumption;exact lA)|(refine yB ?_ rfl ?_ ?_;assumption;exact lA)|(refine yC rfl ?_ ?_;exact lA)|(refine yD ?_ ?_ rfl ?_ ?_;assumption;assumption;exact lA)|(refine yE ?_ ?_ ?_ ?_;assumption;omega;omega)|(refine yF ?_ rfl ?_;omega)|(apply yH;assumption)|(refine yI ?_ ?_;assumption)|(refine yG ?_ rfl rfl rfl ?_;omega)|refine n0 ?_|refine zN rfl rfl rfl ?_|refine zD ?_|refine zE ?_|refine zF ?_|refine PDraw.sQ (some 75) rfl [3] [4,5] tt_ok mixed ?_|intro _|refine zG ?_);conv=>whnf)|(refine zX (fun hc => ?_) (fun hc => ?_)<;>(try simp only [SY] at hc)<;>first|omega|(conv=>whnf)))
    · rw [Trm.clo_eq, if_pos hc]
      refine PCall.go (ref13_c b r tk A fm t.n ov) (WkT.refl _) ?_
      rintro _ _ ⟨rfl, rfl⟩
      conv => whnf
      repeat' (first|((first|((first|(apply zY;intro hg)|apply zZ);first|exact stA|exact stB|((conv=>whnf);(repeat ((first|(refine zW ?_ ?_;exact gA)|refine zA ?_|refine zH rfl ?_|refine zB ?_|(refine yE ?_ ?_ ?_ ?_;assumption;omega;omega)|(refine yF ?_ rfl ?_;omega)|(apply yH;assumption)|(refine yI ?_ ?_;assumption)|intro _);conv=>whnf));first|exact pS|exact pL|exact pE))|(refine zW ?_ ?_;exact gA)|refine zH rfl ?_|refine zA ?_|refine zI bA ?_|refine zI rfl ?_|refine zJ rfl rfl ?_|refine zB ?_|refine zK rfl ?_|refine zL rfl ?_|refine zC ?_|(refine zO ?_ ?_ ?_;omega;omega)|(refine zP ?_ ?_ ?_;omega;omega)|refine zM rfl ?_|(refine zQ ?_ ?_ ?_;omega;omega)|(refine zR ?_ ?_;omega)|(refine zI ?_ ?_;exact nA)|(refine zS ?_ ?_ ?_;omega;omega)|(refine zT ?_ ?_ ?_;omega;omega)|(refine zU ?_ ?_ ?_;omega;omega)|(refine zV ?_ ?_ ?_;omega;omega)|(refine yA ?_ rfl ?_ ?_;assumption;exact lA)|(refine yB ?_ rfl ?_ ?_;assumption;exact lA)|(refine yC rfl ?_ ?_;exact lA)|(refine yD ?_ ?_ rfl ?_ ?_;assumption;assumption;exact lA)|(refine yE ?_ ?_ ?_ ?_;assumption;omega;omega)|(refine yF ?_ rfl ?_;omega)|(apply yH;assumption)|(refine yI ?_ ?_;assumption)|(refine yG ?_ rfl rfl rfl ?_;omega)|refine n0 ?_|refine zN rfl rfl rfl ?_|refine zD ?_|refine zE ?_|refine zF ?_|refine PDraw.sQ (some 75) rfl [3] [4,5] tt_ok mixed ?_|intro _|refine zG ?_);conv=>whnf)|(refine zX (fun hc => ?_) (fun hc => ?_)<;>(try simp only [SY] at hc)<;>first|omega|(conv=>whnf)))
      exact PRet.gen (y := .agg (refF fm ov t.n).cells) (Γ' := mkrG b r tk (A ++ []) fm) (by exact Wk.refl _) (hp := by rw [List.append_nil]; infer_instance) ⟨tk, h1, h2, rfl, rfl⟩
    · cases htt : t.t with
      | nil => have := s2 hc; rw [htt] at this; simp at this
      | cons z zs =>
        rw [← htt]
        refine PCall.go (lam_c13 b r tk A fm t z zs htt (hf z (by rw [htt]; simp)) ov hc h1 h2 hb hov) (WkT.refl _) ?_
        rintro _ _ ⟨tk2, e1, e2, rfl, rfl⟩
        conv => whnf
        repeat' (first|((first|((first|(apply zY;intro hg)|apply zZ);first|exact stA|exact stB|((conv=>whnf);(repeat ((first|(refine zW ?_ ?_;exact gA)|refine zA ?_|refine zH rfl ?_|refine zB ?_|(refine yE ?_ ?_ ?_ ?_;assumption;omega;omega)|(refine yF ?_ rfl ?_;omega)|(apply yH;assumption)|(refine yI ?_ ?_;assumption)|intro _);conv=>whnf));first|exact pS|exact pL|exact pE))|(refine zW ?_ ?_;exact gA)|refine zH rfl ?_|refine zA ?_|refine zI bA ?_|refine zI rfl ?_|refine zJ rfl rfl ?_|refine zB ?_|refine zK rfl ?_|refine zL rfl ?_|refine zC ?_|(refine zO ?_ ?_ ?_;omega;omega)|(refine zP ?_ ?_ ?_;omega;omega)|refine zM rfl ?_|(refine zQ ?_ ?_ ?_;omega;omega)|(refine zR ?_ ?_;omega)|(refine zI ?_ ?_;exact nA)|(refine zS ?_ ?_ ?_;omega;omega)|(refine zT ?_ ?_ ?_;omega;omega)|(refine zU ?_ ?_ ?_;omega;omega)|(refine zV ?_ ?_ ?_;omega;omega)|(refine yA ?_ rfl ?_ ?_;assumption;exact lA)|(refine yB ?_ rfl ?_ ?_;assumption;exact lA)|(refine yC rfl ?_ ?_;exact lA)|(refine yD ?_ ?_ rfl ?_ ?_;assumption;assumption;exact lA)|(refine yE ?_ ?_ ?_ ?_;assumption;omega;omega)|(refine yF ?_ rfl ?_;omega)|(apply yH;assumption)|(refine yI ?_ ?_;assumption)|(refine yG ?_ rfl rfl rfl ?_;omega)|refine n0 ?_|refine zN rfl rfl rfl ?_|refine zD ?_|refine zE ?_|refine zF ?_|refine PDraw.sQ (some 75) rfl [3] [4,5] tt_ok mixed ?_|intro _|refine zG ?_);conv=>whnf)|(refine zX (fun hc => ?_) (fun hc => ?_)<;>(try simp only [SY] at hc)<;>first|omega|(conv=>whnf)))
        exact PRet.gen (y := .agg (t.clo false ov A.length fm).t.cells) (Γ' := mkrG b r tk2 (A ++ (t.clo false ov A.length fm).c) (t.clo false ov A.length fm).fm) (Wk.refl _) ⟨tk2, e1, e2, rfl, rfl⟩
    · refine PCall.go (let_c13 b r tk A fm t (s3 (.inl hc)) d1 hf hlam ov hc h1 h2 hb hov) (WkT.refl _) ?_
      rintro _ _ ⟨tk2, e1, e2, rfl, rfl⟩
      conv => whnf
      repeat' (first|((first|((first|(apply zY;intro hg)|apply zZ);first|exact stA|exact stB|((conv=>whnf);(repeat ((first|(refine zW ?_ ?_;exact gA)|refine zA ?_|refine zH rfl ?_|refine zB ?_|(refine yE ?_ ?_ ?_ ?_;assumption;omega;omega)|(refine yF ?_ rfl ?_;omega)|(apply yH;assumption)|(refine yI ?_ ?_;assumption)|intro _);conv=>whnf));first|exact pS|exact pL|exact pE))|(refine zW ?_ ?_;exact gA)|refine zH rfl ?_|refine zA ?_|refine zI bA ?_|refine zI rfl ?_|refine zJ rfl rfl ?_|refine zB ?_|refine zK rfl ?_|refine zL rfl ?_|refine zC ?_|(refine zO ?_ ?_ ?_;omega;omega)|(refine zP ?_ ?_ ?_;omega;omega)|refine zM rfl ?_|(refine zQ ?_ ?_ ?_;omega;omega)|(refine zR ?_ ?_;omega)|(refine zI ?_ ?_;exact nA)|(refine zS ?_ ?_ ?_;omega;omega)|(refine zT ?_ ?_ ?_;omega;omega)|(refine zU ?_ ?_ ?_;omega;omega)|(refine zV ?_ ?_ ?_;omega;omega)|(refine yA ?_ rfl ?_ ?_;assumption;exact lA)|(refine yB ?_ rfl ?_ ?_;assumption;exact lA)|(refine yC rfl ?_ ?_;exact lA)|(refine yD ?_ ?_ rfl ?_ ?_;assumption;assumption;exact lA)|(refine yE ?_ ?_ ?_ ?_;assumption;omega;omega)|(refine yF ?_ rfl ?_;omega)|(apply yH;assumption)|(refine yI ?_ ?_;assumption)|(refine yG ?_ rfl rfl rfl ?_;omega)|refine n0 ?_|refine zN rfl rfl rfl ?_|refine zD ?_|refine zE ?_|refine zF ?_|refine PDraw.sQ (some 75) rfl [3] [4,5] tt_ok mixed ?_|intro _|refine zG ?_);conv=>whnf)|(refine zX (fun hc => ?_) (fun hc => ?_)<;>(try simp only [SY] at hc)<;>first|omega|(conv=>whnf)))
      exact PRet.gen (y := .agg (t.clo false ov A.length fm).t.cells) (Γ' := mkrG b r tk2 (A ++ (t.clo false ov A.length fm).c) (t.clo false ov A.length fm).fm) (Wk.refl _) ⟨tk2, e1, e2, rfl, rfl⟩
    · refine PCall.go (fix_c13 b r tk A fm t (s3 (.inr hc)) hf (fun y hy => hlam y (List.mem_of_mem_take hy) (s4 hc y (by have := s3 (.inr hc); rw [List.dropLast_eq_take, this]; exact hy))) ov hc h1 h2 hb hov) (WkT.refl _) ?_
      rintro _ _ ⟨tk2, e1, e2, rfl, rfl⟩
      conv => whnf
      repeat' (first|((first|((first|(apply zY;intro hg)|apply zZ);first|exact stA|exact stB|((conv=>whnf);(repeat ((first|(refine zW ?_ ?_;exact gA)|refine zA ?_|refine zH rfl ?_|refine zB ?_|(refine yE ?_ ?_ ?_ ?_;assumption;omega;omega)|(refine yF ?_ rfl ?_;omega)|(apply yH;assumption)|(refine yI ?_ ?_;assumption)|intro _);conv=>whnf));first|exact pS|exact pL|exact pE))|(refine zW ?_ ?_;exact gA)|refine zH rfl ?_|refine zA ?_|refine zI bA ?_|refine zI rfl ?_|refine zJ rfl rfl ?_|refine zB ?_|refine zK rfl ?_|refine zL rfl ?_|refine zC ?_|(refine zO ?_ ?_ ?_;omega;omega)|(refine zP ?_ ?_ ?_;omega;omega)|refine zM rfl ?_|(refine zQ ?_ ?_ ?_;omega;omega)|(refine zR ?_ ?_;omega)|(refine zI ?_ ?_;exact nA)|(refine zS ?_ ?_ ?_;omega;omega)|(refine zT ?_ ?_ ?_;omega;omega)|(refine zU ?_ ?_ ?_;omega;omega)|(refine zV ?_ ?_ ?_;omega;omega)|(refine yA ?_ rfl ?_ ?_;assumption;exact lA)|(refine yB ?_ rfl ?_ ?_;assumption;exact lA)|(refine yC rfl ?_ ?_;exact lA)|(refine yD ?_ ?_ rfl ?_ ?_;assumption;assumption;exact lA)|(refine yE ?_ ?_ ?_ ?_;assumption;omega;omega)|(refine yF ?_ rfl ?_;omega)|(apply yH;assumption)|(refine yI ?_ ?_;assumption)|(refine yG ?_ rfl rfl rfl ?_;omega)|refine n0 ?_|refine zN rfl rfl rfl ?_|refine zD ?_|refine zE ?_|refine zF ?_|refine PDraw.sQ (some 75) rfl [3] [4,5] tt_ok mixed ?_|intro _|refine zG ?_);conv=>whnf)|(refine zX (fun hc => ?_) (fun hc => ?_)<;>(try simp only [SY] at hc)<;>first|omega|(conv=>whnf)))
      exact PRet.gen (y := .agg (t.clo false ov A.length fm).t.cells) (Γ' := mkrG b r tk2 (A ++ (t.clo false ov A.length fm).c) (t.clo false ov A.length fm).fm) (Wk.refl _) ⟨tk2, e1, e2, rfl, rfl⟩
    · rename_i b9
      have hl0 : 0 < t.t.length := by omega
      have hgd : t.t.getD 0 Dfl.d = t.t[0] := by rw [List.getD_eq_getElem?_getD, List.getElem?_eq_getElem hl0]; rfl
      have hhd : t.t.headD (.mk 0 0 [] []) = t.t[0] := by rw [← hgd]; cases t.t <;> rfl
      rw [hgd] at hc
      have hv0 : t.v = [] := d2 (by omega) (by omega) (by omega)
      have hce : t.clo false ov A.length fm = ⟨.mk (callF fm t.op t.n t.t).1 (callF fm t.op t.n t.t).2 [] (Trm.clos false t.t ov A.length fm).t, (Trm.clos false t.t ov A.length fm).c, (Trm.clos false t.t ov A.length fm).fm⟩ := by
        rw [Trm.clo_eq, if_neg (by omega), if_neg (by omega), if_neg (by omega), if_neg (by omega), hv0]
      rw [hce]
      have hcf : callF fm t.op t.n t.t = match fm t.t[0].n with
        | some f => (22, f.code)
        | none => (t.op, t.n) := by rw [callF, hhd, if_pos hc]; rfl
      rw [hcf]
      cases hkn : fm t.t[0].n with
      | some f =>
        dsimp only
        conv => whnf
        repeat' (first|((first|((first|(apply zY;intro hg)|apply zZ);first|exact stA|exact stB|((conv=>whnf);(repeat ((first|(refine zW ?_ ?_;exact gA)|refine zA ?_|refine zH rfl ?_|refine zB ?_|(refine yE ?_ ?_ ?_ ?_;assumption;omega;omega)|(refine yF ?_ rfl ?_;omega)|(apply yH;assumption)|(refine yI ?_ ?_;assumption)|intro _);conv=>whnf));first|exact pS|exact pL|exact pE))|(refine zW ?_ ?_;exact gA)|refine zH rfl ?_|refine zA ?_|refine zI bA ?_|refine zI rfl ?_|refine zJ rfl rfl ?_|refine zB ?_|refine zK rfl ?_|refine zL rfl ?_|refine zC ?_|(refine zO ?_ ?_ ?_;omega;omega)|(refine zP ?_ ?_ ?_;omega;omega)|refine zM rfl ?_|(refine zQ ?_ ?_ ?_;omega;omega)|(refine zR ?_ ?_;omega)|(refine zI ?_ ?_;exact nA)|(refine zS ?_ ?_ ?_;omega;omega)|(refine zT ?_ ?_ ?_;omega;omega)|(refine zU ?_ ?_ ?_;omega;omega)|(refine zV ?_ ?_ ?_;omega;omega)|(refine yA ?_ rfl ?_ ?_;assumption;exact lA)|(refine yB ?_ rfl ?_ ?_;assumption;exact lA)|(refine yC rfl ?_ ?_;exact lA)|(refine yD ?_ ?_ rfl ?_ ?_;assumption;assumption;exact lA)|(refine yE ?_ ?_ ?_ ?_;assumption;omega;omega)|(refine yF ?_ rfl ?_;omega)|(apply yH;assumption)|(refine yI ?_ ?_;assumption)|(refine yG ?_ rfl rfl rfl ?_;omega)|refine n0 ?_|refine zN rfl rfl rfl ?_|refine zD ?_|refine zE ?_|refine zF ?_|refine PDraw.sP (some 62) rfl [13,14] [15] tt_ok mixed ?_|intro _|refine zG ?_);conv=>whnf)|(refine zX (fun hc => ?_) (fun hc => ?_)<;>(try simp only [SY] at hc)<;>first|omega|(conv=>whnf)))
        rename_i b10
        refine PDraw.sE [.box b9 [.int .i64 t.op, .int .i64 t.n, .nil, .nil]] [3] [4,5] tt_ok mixed ?_
        conv=>whnf
        conv => whnf
        repeat' (first|((first|((first|(apply zY;intro hg)|apply zZ);first|exact stA|exact stB|((conv=>whnf);(repeat ((first|(refine zW ?_ ?_;exact gA)|refine zA ?_|refine zH rfl ?_|refine zB ?_|(refine yE ?_ ?_ ?_ ?_;assumption;omega;omega)|(refine yF ?_ rfl ?_;omega)|(apply yH;assumption)|(refine yI ?_ ?_;assumption)|intro _);conv=>whnf));first|exact pS|exact pL|exact pE))|(refine zW ?_ ?_;exact gA)|refine zH rfl ?_|refine zA ?_|refine zI bA ?_|refine zI rfl ?_|refine zJ rfl rfl ?_|refine zB ?_|refine zK rfl ?_|refine zL rfl ?_|refine zC ?_|(refine zO ?_ ?_ ?_;omega;omega)|(refine zP ?_ ?_ ?_;omega;omega)|refine zM rfl ?_|(refine zQ ?_ ?_ ?_;omega;omega)|(refine zR ?_ ?_;omega)|(refine zI ?_ ?_;exact nA)|(refine zS ?_ ?_ ?_;omega;omega)|(refine zT ?_ ?_ ?_;omega;omega)|(refine zU ?_ ?_ ?_;omega;omega)|(refine zV ?_ ?_ ?_;omega;omega)|(refine yA ?_ rfl ?_ ?_;assumption;exact lA)|(refine yB ?_ rfl ?_ ?_;assumption;exact lA)|(refine yC rfl ?_ ?_;exact lA)|(refine yD ?_ ?_ rfl ?_ ?_;assumption;assumption;exact lA)|(refine yE ?_ ?_ ?_ ?_;assumption;omega;omega)|(refine yF ?_ rfl ?_;omega)|(apply yH;assumption)|(refine yI ?_ ?_;assumption)|(refine yG ?_ rfl rfl rfl ?_;omega)|refine n0 ?_|refine zN rfl rfl rfl ?_|refine zD ?_|refine zE ?_|refine zF ?_|refine PDraw.sP (some 62) rfl [13,14] [15] tt_ok mixed ?_|intro _|refine zG ?_);conv=>whnf)|(refine zX (fun hc => ?_) (fun hc => ?_)<;>(try simp only [SY] at hc)<;>first|omega|(conv=>whnf)))
        rename_i hq9
        refine PLoop.ghost (Ghost.trans (Ghost.nil 4 26 _) (Ghost.box (b := b9) (cs := [.int .i64 22, .int .i64 f.code, .nil, .nil]) (cs' := [.int .i64 22, .int .i64 f.code, .nil, .sl 4 (([] : List Trm).map Trm.pv) (some (nilTok 4 26))]) wA)) ?_
        refine PLoop.over [13, 82, 83, 84, 85, 86, 87, 88, 89, 90, 91, 92, 93, 94, 95] (fun x : Nat × (List Trm × Tok) × List Cod × Fm × Tok => [(82, .int .i64 x.1)]) (fun x => .tok x.2.1.2 :: .box b9 [.int .i64 22, .int .i64 f.code, .nil, .sl 4 (x.2.1.1.map Trm.pv) (some x.2.1.2)] :: .box b6 [.int .i64 0, .int .i64 0, .nil, .nil] :: .box b4 [.int .i64 t.op, .int .i64 t.n, .sl 1 (t.v.map (PV.int .i64)) none, .sl 4 (t.t.map Trm.pv) none] :: mkrG b r x.2.2.2.2 x.2.2.1 x.2.2.2.1)
          (fun x => x.1 ≤ t.t.length ∧ x.2.1.2.e = 26 ∧ x.2.2.2.2.e = 62 ∧ x.2.2.2.2.s = 6 ∧ x.2.1.1.length = x.1 ∧ ∃ C, x.2.2.1 = A ++ C ∧ C.length + Trm.bulks (t.t.drop x.1) ≤ Trm.bulks t.t ∧ Trm.clos false t.t ov A.length fm = preS x.2.1.1 C (Trm.clos false (t.t.drop x.1) ov x.2.2.1.length x.2.2.2.1)) (fun x => t.t.length - x.1)
          (0, ([], nilTok 4 26), A, fm, tk) ⟨Nat.zero_le _, rfl, h1, h2, rfl, [], by simp, by simp, (preS_nil (Trm.clos_nil _ _ _ _ _)).symm⟩ wA ?_
        rintro ⟨i, ⟨T, tt'⟩, A2, f2, tk2⟩ ⟨hi, htt, k3, k4, hTl, C, hA2, hcl, he⟩
        dsimp only at hi htt k3 k4 hTl hA2 hcl he ⊢
        conv => whnf
        repeat' (first|((first|((first|(apply zY;intro hg)|apply zZ);first|exact stA|exact stB|((conv=>whnf);(repeat ((first|(refine zW ?_ ?_;exact gA)|refine zA ?_|refine zH rfl ?_|refine zB ?_|(refine yE ?_ ?_ ?_ ?_;assumption;omega;omega)|(refine yF ?_ rfl ?_;omega)|(apply yH;assumption)|(refine yI ?_ ?_;assumption)|intro _);conv=>whnf));first|exact pS|exact pL|exact pE))|(refine zW ?_ ?_;exact gA)|refine zH rfl ?_|refine zA ?_|refine zI bA ?_|refine zI rfl ?_|refine zJ rfl rfl ?_|refine zB ?_|refine zK rfl ?_|refine zL rfl ?_|refine zC ?_|(refine zO ?_ ?_ ?_;omega;omega)|(refine zP ?_ ?_ ?_;omega;omega)|refine zM rfl ?_|(refine zQ ?_ ?_ ?_;omega;omega)|(refine zR ?_ ?_;omega)|(refine zI ?_ ?_;exact nA)|(refine zS ?_ ?_ ?_;omega;omega)|(refine zT ?_ ?_ ?_;omega;omega)|(refine zU ?_ ?_ ?_;omega;omega)|(refine zV ?_ ?_ ?_;omega;omega)|(refine yA ?_ rfl ?_ ?_;assumption;exact lA)|(refine yB ?_ rfl ?_ ?_;assumption;exact lA)|(refine yC rfl ?_ ?_;exact lA)|(refine yD ?_ ?_ rfl ?_ ?_;assumption;assumption;exact lA)|(refine yE ?_ ?_ ?_ ?_;assumption;omega;omega)|(refine yF ?_ rfl ?_;omega)|(apply yH;assumption)|(refine yI ?_ ?_;assumption)|(refine yG ?_ rfl rfl rfl ?_;omega)|refine n0 ?_|refine zN rfl rfl rfl ?_|refine zD ?_|refine zE ?_|refine zF ?_|refine PDraw.sP (some 62) rfl [13,14] [15] tt_ok mixed ?_|refine PDraw.sQ (some 75) rfl [3] [4,5] tt_ok mixed ?_|intro _|refine zG ?_);conv=>whnf)|(refine zX (fun hc => ?_) (fun hc => ?_)<;>(try simp only [SY] at hc)<;>first|omega|(conv=>whnf)))
        · have hit : i < t.t.length := by omega
          rw [drop_at hit, Trm.bulks] at hcl
          rw [drop_at hit, Trm.clos] at he
          have hA2l : A2.length = A.length + C.length := by rw [hA2, List.length_append]
          have hal : (t.t[i].clo false ov A2.length f2).c.length ≤ t.t[i].bulk := (t.t[i].clo_lens false).1 _ _ _
          have hcall := hf _ (List.getElem_mem hit) tk2 A2 f2 ov k3 k4 (by omega) hov
          rw [preS_add] at he
          generalize t.t[i].clo false ov A2.length f2 = a at *
          have hl3 : A2.length + a.c.length = (A2 ++ a.c).length := by simp
          rw [hl3] at he
          refine PDraw.sE [.tok tt', .box b [.ms tk2, .mp r], .row tk2 (A2.map Cod.pv), .mp r (.int .i64) (mapM Kn.pa f2) []] [5,6] [7,8,9] tt_ok mixed ?_
          conv=>whnf
          repeat ((first|((first|(apply zY;intro hg)|apply zZ);first|exact stA|exact stB|((conv=>whnf);(repeat ((first|(refine zW ?_ ?_;exact gA)|refine zA ?_|refine zH rfl ?_|refine zB ?_|(refine yE ?_ ?_ ?_ ?_;assumption;omega;omega)|(refine yF ?_ rfl ?_;omega)|(apply yH;assumption)|(refine yI ?_ ?_;assumption)|intro _);conv=>whnf));first|exact pS|exact pL|exact pE))|(refine zW ?_ ?_;exact gA)|refine zH rfl ?_|refine zA ?_|refine zI bA ?_|refine zI rfl ?_|refine zJ rfl rfl ?_|refine zB ?_|refine zK rfl ?_|refine zL rfl ?_|refine zC ?_|(refine zO ?_ ?_ ?_;omega;omega)|(refine zP ?_ ?_ ?_;omega;omega)|refine zM rfl ?_|(refine zQ ?_ ?_ ?_;omega;omega)|(refine zR ?_ ?_;omega)|(refine zI ?_ ?_;exact nA)|(refine zS ?_ ?_ ?_;omega;omega)|(refine zT ?_ ?_ ?_;omega;omega)|(refine zU ?_ ?_ ?_;omega;omega)|(refine zV ?_ ?_ ?_;omega;omega)|(refine yA ?_ rfl ?_ ?_;assumption;exact lA)|(refine yB ?_ rfl ?_ ?_;assumption;exact lA)|(refine yC rfl ?_ ?_;exact lA)|(refine yD ?_ ?_ rfl ?_ ?_;assumption;assumption;exact lA)|(refine yE ?_ ?_ ?_ ?_;assumption;omega;omega)|(refine yF ?_ rfl ?_;omega)|(apply yH;assumption)|(refine yI ?_ ?_;assumption)|(refine yG ?_ rfl rfl rfl ?_;omega)|refine n0 ?_|refine zN rfl rfl rfl ?_|refine zD ?_|refine zE ?_|refine zF ?_|refine PDraw.sP (some 62) rfl [13,14] [15] tt_ok mixed ?_|refine PDraw.sQ (some 75) rfl [3] [4,5] tt_ok mixed ?_|intro _);conv=>whnf)
          refine PCall.go hcall (WkT.refl _) ?_
          rintro _ _ ⟨tk3, e1, e2, rfl, rfl⟩
          conv => whnf
          repeat' (first|((first|((first|(apply zY;intro hg)|apply zZ);first|exact stA|exact stB|((conv=>whnf);(repeat ((first|(refine zW ?_ ?_;exact gA)|refine zA ?_|refine zH rfl ?_|refine zB ?_|(refine yE ?_ ?_ ?_ ?_;assumption;omega;omega)|(refine yF ?_ rfl ?_;omega)|(apply yH;assumption)|(refine yI ?_ ?_;assumption)|intro _);conv=>whnf));first|exact pS|exact pL|exact pE))|(refine zW ?_ ?_;exact gA)|refine zH rfl ?_|refine zA ?_|refine zI bA ?_|refine zI rfl ?_|refine zJ rfl rfl ?_|refine zB ?_|refine zK rfl ?_|refine zL rfl ?_|refine zC ?_|(refine zO ?_ ?_ ?_;omega;omega)|(refine zP ?_ ?_ ?_;omega;omega)|refine zM rfl ?_|(refine zQ ?_ ?_ ?_;omega;omega)|(refine zR ?_ ?_;omega)|(refine zI ?_ ?_;exact nA)|(refine zS ?_ ?_ ?_;omega;omega)|(refine zT ?_ ?_ ?_;omega;omega)|(refine zU ?_ ?_ ?_;omega;omega)|(refine zV ?_ ?_ ?_;omega;omega)|(refine yA ?_ rfl ?_ ?_;assumption;exact lA)|(refine yB ?_ rfl ?_ ?_;assumption;exact lA)|(refine yC rfl ?_ ?_;exact lA)|(refine yD ?_ ?_ rfl ?_ ?_;assumption;assumption;exact lA)|(refine yE ?_ ?_ ?_ ?_;assumption;omega;omega)|(refine yF ?_ rfl ?_;omega)|(apply yH;assumption)|(refine yI ?_ ?_;assumption)|(refine yG ?_ rfl rfl rfl ?_;omega)|refine n0 ?_|refine zN rfl rfl rfl ?_|refine zD ?_|refine zE ?_|refine zF ?_|refine PDraw.sP (some 62) rfl [13,14] [15] tt_ok mixed ?_|refine PDraw.sQ (some 75) rfl [3] [4,5] tt_ok mixed ?_|intro _|refine zG ?_);conv=>whnf)|(refine zX (fun hc => ?_) (fun hc => ?_)<;>(try simp only [SY] at hc)<;>first|omega|(conv=>whnf)))
          rename_i t5 ht5
          exact loopTo (i + 1, (T ++ [a.t], t5), A2 ++ a.c, a.fm, tk3) ⟨by show i + 1 ≤ _; omega, ht5, e1, e2, by simp; omega, C ++ a.c, by rw [hA2, List.append_assoc], by show (C ++ a.c).length + Trm.bulks (t.t.drop (i + 1)) ≤ _; rw [List.length_append]; omega, he⟩ (by show t.t.length - (i + 1) < t.t.length - i; omega) wA
        · rw [List.drop_of_length_le (by omega)] at he
          simp only [Trm.clos, preS, List.append_nil] at he
          rw [he, hA2]
          exact PRet.gen (y := .agg (Trm.mk (22) (f.code) [] T).cells) (Γ' := mkrG b r tk2 (A ++ C) f2) TrmOf.wk ⟨tk2, k3, k4, rfl, rfl⟩
      | none =>
        dsimp only
        conv => whnf
        repeat' (first|((first|((first|(apply zY;intro hg)|apply zZ);first|exact stA|exact stB|((conv=>whnf);(repeat ((first|(refine zW ?_ ?_;exact gA)|refine zA ?_|refine zH rfl ?_|refine zB ?_|(refine yE ?_ ?_ ?_ ?_;assumption;omega;omega)|(refine yF ?_ rfl ?_;omega)|(apply yH;assumption)|(refine yI ?_ ?_;assumption)|intro _);conv=>whnf));first|exact pS|exact pL|exact pE))|(refine zW ?_ ?_;exact gA)|refine zH rfl ?_|refine zA ?_|refine zI bA ?_|refine zI rfl ?_|refine zJ rfl rfl ?_|refine zB ?_|refine zK rfl ?_|refine zL rfl ?_|refine zC ?_|(refine zO ?_ ?_ ?_;omega;omega)|(refine zP ?_ ?_ ?_;omega;omega)|refine zM rfl ?_|(refine zQ ?_ ?_ ?_;omega;omega)|(refine zR ?_ ?_;omega)|(refine zI ?_ ?_;exact nA)|(refine zS ?_ ?_ ?_;omega;omega)|(refine zT ?_ ?_ ?_;omega;omega)|(refine zU ?_ ?_ ?_;omega;omega)|(refine zV ?_ ?_ ?_;omega;omega)|(refine yA ?_ rfl ?_ ?_;assumption;exact lA)|(refine yB ?_ rfl ?_ ?_;assumption;exact lA)|(refine yC rfl ?_ ?_;exact lA)|(refine yD ?_ ?_ rfl ?_ ?_;assumption;assumption;exact lA)|(refine yE ?_ ?_ ?_ ?_;assumption;omega;omega)|(refine yF ?_ rfl ?_;omega)|(apply yH;assumption)|(refine yI ?_ ?_;assumption)|(refine yG ?_ rfl rfl rfl ?_;omega)|refine n0 ?_|refine zN rfl rfl rfl ?_|refine zD ?_|refine zE ?_|refine zF ?_|refine PDraw.sP (some 62) rfl [13,14] [15] tt_ok mixed ?_|intro _|refine zG ?_);conv=>whnf)|(refine zX (fun hc => ?_) (fun hc => ?_)<;>(try simp only [SY] at hc)<;>first|omega|(conv=>whnf)))
        rename_i b10 hq9
        refine PLoop.ghost (Ghost.trans (Ghost.nil 4 26 _) (Ghost.box (b := b9) (cs := [.int .i64 t.op, .int .i64 t.n, .nil, .nil]) (cs' := [.int .i64 t.op, .int .i64 t.n, .nil, .sl 4 (([] : List Trm).map Trm.pv) (some (nilTok 4 26))]) wA)) ?_
        refine PLoop.over [13, 82, 83, 84, 85, 86, 87, 88, 89, 90, 91, 92, 93, 94, 95] (fun x : Nat × (List Trm × Tok) × List Cod × Fm × Tok => [(82, .int .i64 x.1)]) (fun x => .tok x.2.1.2 :: .box b9 [.int .i64 t.op, .int .i64 t.n, .nil, .sl 4 (x.2.1.1.map Trm.pv) (some x.2.1.2)] :: .box b6 [.int .i64 0, .int .i64 0, .nil, .nil] :: .box b4 [.int .i64 t.op, .int .i64 t.n, .sl 1 (t.v.map (PV.int .i64)) none, .sl 4 (t.t.map Trm.pv) none] :: mkrG b r x.2.2.2.2 x.2.2.1 x.2.2.2.1)
          (fun x => x.1 ≤ t.t.length ∧ x.2.1.2.e = 26 ∧ x.2.2.2.2.e = 62 ∧ x.2.2.2.2.s = 6 ∧ x.2.1.1.length = x.1 ∧ ∃ C, x.2.2.1 = A ++ C ∧ C.length + Trm.bulks (t.t.drop x.1) ≤ Trm.bulks t.t ∧ Trm.clos false t.t ov A.length fm = preS x.2.1.1 C (Trm.clos false (t.t.drop x.1) ov x.2.2.1.length x.2.2.2.1)) (fun x => t.t.length - x.1)
          (0, ([], nilTok 4 26), A, fm, tk) ⟨Nat.zero_le _, rfl, h1, h2, rfl, [], by simp, by simp, (preS_nil (Trm.clos_nil _ _ _ _ _)).symm⟩ wA ?_
        rintro ⟨i, ⟨T, tt'⟩, A2, f2, tk2⟩ ⟨hi, htt, k3, k4, hTl, C, hA2, hcl, he⟩
        dsimp only at hi htt k3 k4 hTl hA2 hcl he ⊢
        conv => whnf
        repeat' (first|((first|((first|(apply zY;intro hg)|apply zZ);first|exact stA|exact stB|((conv=>whnf);(repeat ((first|(refine zW ?_ ?_;exact gA)|refine zA ?_|refine zH rfl ?_|refine zB ?_|(refine yE ?_ ?_ ?_ ?_;assumption;omega;omega)|(refine yF ?_ rfl ?_;omega)|(apply yH;assumption)|(refine yI ?_ ?_;assumption)|intro _);conv=>whnf));first|exact pS|exact pL|exact pE))|(refine zW ?_ ?_;exact gA)|refine zH rfl ?_|refine zA ?_|refine zI bA ?_|refine zI rfl ?_|refine zJ rfl rfl ?_|refine zB ?_|refine zK rfl ?_|refine zL rfl ?_|refine zC ?_|(refine zO ?_ ?_ ?_;omega;omega)|(refine zP ?_ ?_ ?_;omega;omega)|refine zM rfl ?_|(refine zQ ?_ ?_ ?_;omega;omega)|(refine zR ?_ ?_;omega)|(refine zI ?_ ?_;exact nA)|(refine zS ?_ ?_ ?_;omega;omega)|(refine zT ?_ ?_ ?_;omega;omega)|(refine zU ?_ ?_ ?_;omega;omega)|(refine zV ?_ ?_ ?_;omega;omega)|(refine yA ?_ rfl ?_ ?_;assumption;exact lA)|(refine yB ?_ rfl ?_ ?_;assumption;exact lA)|(refine yC rfl ?_ ?_;exact lA)|(refine yD ?_ ?_ rfl ?_ ?_;assumption;assumption;exact lA)|(refine yE ?_ ?_ ?_ ?_;assumption;omega;omega)|(refine yF ?_ rfl ?_;omega)|(apply yH;assumption)|(refine yI ?_ ?_;assumption)|(refine yG ?_ rfl rfl rfl ?_;omega)|refine n0 ?_|refine zN rfl rfl rfl ?_|refine zD ?_|refine zE ?_|refine zF ?_|refine PDraw.sP (some 62) rfl [13,14] [15] tt_ok mixed ?_|refine PDraw.sQ (some 75) rfl [3] [4,5] tt_ok mixed ?_|intro _|refine zG ?_);conv=>whnf)|(refine zX (fun hc => ?_) (fun hc => ?_)<;>(try simp only [SY] at hc)<;>first|omega|(conv=>whnf)))
        · have hit : i < t.t.length := by omega
          rw [drop_at hit, Trm.bulks] at hcl
          rw [drop_at hit, Trm.clos] at he
          have hA2l : A2.length = A.length + C.length := by rw [hA2, List.length_append]
          have hal : (t.t[i].clo false ov A2.length f2).c.length ≤ t.t[i].bulk := (t.t[i].clo_lens false).1 _ _ _
          have hcall := hf _ (List.getElem_mem hit) tk2 A2 f2 ov k3 k4 (by omega) hov
          rw [preS_add] at he
          generalize t.t[i].clo false ov A2.length f2 = a at *
          have hl3 : A2.length + a.c.length = (A2 ++ a.c).length := by simp
          rw [hl3] at he
          refine PDraw.sE [.tok tt', .box b [.ms tk2, .mp r], .row tk2 (A2.map Cod.pv), .mp r (.int .i64) (mapM Kn.pa f2) []] [5,6] [7,8,9] tt_ok mixed ?_
          conv=>whnf
          repeat ((first|((first|(apply zY;intro hg)|apply zZ);first|exact stA|exact stB|((conv=>whnf);(repeat ((first|(refine zW ?_ ?_;exact gA)|refine zA ?_|refine zH rfl ?_|refine zB ?_|(refine yE ?_ ?_ ?_ ?_;assumption;omega;omega)|(refine yF ?_ rfl ?_;omega)|(apply yH;assumption)|(refine yI ?_ ?_;assumption)|intro _);conv=>whnf));first|exact pS|exact pL|exact pE))|(refine zW ?_ ?_;exact gA)|refine zH rfl ?_|refine zA ?_|refine zI bA ?_|refine zI rfl ?_|refine zJ rfl rfl ?_|refine zB ?_|refine zK rfl ?_|refine zL rfl ?_|refine zC ?_|(refine zO ?_ ?_ ?_;omega;omega)|(refine zP ?_ ?_ ?_;omega;omega)|refine zM rfl ?_|(refine zQ ?_ ?_ ?_;omega;omega)|(refine zR ?_ ?_;omega)|(refine zI ?_ ?_;exact nA)|(refine zS ?_ ?_ ?_;omega;omega)|(refine zT ?_ ?_ ?_;omega;omega)|(refine zU ?_ ?_ ?_;omega;omega)|(refine zV ?_ ?_ ?_;omega;omega)|(refine yA ?_ rfl ?_ ?_;assumption;exact lA)|(refine yB ?_ rfl ?_ ?_;assumption;exact lA)|(refine yC rfl ?_ ?_;exact lA)|(refine yD ?_ ?_ rfl ?_ ?_;assumption;assumption;exact lA)|(refine yE ?_ ?_ ?_ ?_;assumption;omega;omega)|(refine yF ?_ rfl ?_;omega)|(apply yH;assumption)|(refine yI ?_ ?_;assumption)|(refine yG ?_ rfl rfl rfl ?_;omega)|refine n0 ?_|refine zN rfl rfl rfl ?_|refine zD ?_|refine zE ?_|refine zF ?_|refine PDraw.sP (some 62) rfl [13,14] [15] tt_ok mixed ?_|refine PDraw.sQ (some 75) rfl [3] [4,5] tt_ok mixed ?_|intro _);conv=>whnf)
          refine PCall.go hcall (WkT.refl _) ?_
          rintro _ _ ⟨tk3, e1, e2, rfl, rfl⟩
          conv => whnf
          repeat' (first|((first|((first|(apply zY;intro hg)|apply zZ);first|exact stA|exact stB|((conv=>whnf);(repeat ((first|(refine zW ?_ ?_;exact gA)|refine zA ?_|refine zH rfl ?_|refine zB ?_|(refine yE ?_ ?_ ?_ ?_;assumption;omega;omega)|(refine yF ?_ rfl ?_;omega)|(apply yH;assumption)|(refine yI ?_ ?_;assumption)|intro _);conv=>whnf));first|exact pS|exact pL|exact pE))|(refine zW ?_ ?_;exact gA)|refine zH rfl ?_|refine zA ?_|refine zI bA ?_|refine zI rfl ?_|refine zJ rfl rfl ?_|refine zB ?_|refine zK rfl ?_|refine zL rfl ?_|refine zC ?_|(refine zO ?_ ?_ ?_;omega;omega)|(refine zP ?_ ?_ ?_;omega;omega)|refine zM rfl ?_|(refine zQ ?_ ?_ ?_;omega;omega)|(refine zR ?_ ?_;omega)|(refine zI ?_ ?_;exact nA)|(refine zS ?_ ?_ ?_;omega;omega)|(refine zT ?_ ?_ ?_;omega;omega)|(refine zU ?_ ?_ ?_;omega;omega)|(refine zV ?_ ?_ ?_;omega;omega)|(refine yA ?_ rfl ?_ ?_;assumption;exact lA)|(refine yB ?_ rfl ?_ ?_;assumption;exact lA)|(refine yC rfl ?_ ?_;exact lA)|(refine yD ?_ ?_ rfl ?_ ?_;assumption;assumption;exact lA)|(refine yE ?_ ?_ ?_ ?_;assumption;omega;omega)|(refine yF ?_ rfl ?_;omega)|(apply yH;assumption)|(refine yI ?_ ?_;assumption)|(refine yG ?_ rfl rfl rfl ?_;omega)|refine n0 ?_|refine zN rfl rfl rfl ?_|refine zD ?_|refine zE ?_|refine zF ?_|refine PDraw.sP (some 62) rfl [13,14] [15] tt_ok mixed ?_|refine PDraw.sQ (some 75) rfl [3] [4,5] tt_ok mixed ?_|intro _|refine zG ?_);conv=>whnf)|(refine zX (fun hc => ?_) (fun hc => ?_)<;>(try simp only [SY] at hc)<;>first|omega|(conv=>whnf)))
          rename_i t5 ht5
          exact loopTo (i + 1, (T ++ [a.t], t5), A2 ++ a.c, a.fm, tk3) ⟨by show i + 1 ≤ _; omega, ht5, e1, e2, by simp; omega, C ++ a.c, by rw [hA2, List.append_assoc], by show (C ++ a.c).length + Trm.bulks (t.t.drop (i + 1)) ≤ _; rw [List.length_append]; omega, he⟩ (by show t.t.length - (i + 1) < t.t.length - i; omega) wA
        · rw [List.drop_of_length_le (by omega)] at he
          simp only [Trm.clos, preS, List.append_nil] at he
          rw [he, hA2]
          exact PRet.gen (y := .agg (Trm.mk (t.op) (t.n) [] T).cells) (Γ' := mkrG b r tk2 (A ++ C) f2) TrmOf.wk ⟨tk2, k3, k4, rfl, rfl⟩
    · rename_i b9 hq9
      have hv0 : t.v = [] := d2 (by omega) (by omega) (by omega)
      have hcf : callF fm t.op t.n t.t = (t.op, t.n) := by
        have e : t.t.headD (.mk 0 0 [] []) = t.t.getD 0 Dfl.d := by cases t.t <;> rfl
        rw [callF, e, if_neg (by omega)]
      have hce : t.clo false ov A.length fm = ⟨.mk t.op t.n [] (Trm.clos false t.t ov A.length fm).t, (Trm.clos false t.t ov A.length fm).c, (Trm.clos false t.t ov A.length fm).fm⟩ := by
        rw [Trm.clo_eq, if_neg (by omega), if_neg (by omega), if_neg (by omega), if_neg (by omega), hcf, hv0]
      rw [hce]
      dsimp only
      refine PLoop.ghost (Ghost.trans (Ghost.nil 4 26 _) (Ghost.box (b := b9) (cs := [.int .i64 t.op, .int .i64 t.n, .nil, .nil]) (cs' := [.int .i64 t.op, .int .i64 t.n, .nil, .sl 4 (([] : List Trm).map Trm.pv) (some (nilTok 4 26))]) wA)) ?_
      refine PLoop.over [13, 82, 83, 84, 85, 86, 87, 88, 89, 90, 91, 92, 93, 94, 95] (fun x : Nat × (List Trm × Tok) × List Cod × Fm × Tok => [(82, .int .i64 x.1)]) (fun x => .tok x.2.1.2 :: .box b9 [.int .i64 t.op, .int .i64 t.n, .nil, .sl 4 (x.2.1.1.map Trm.pv) (some x.2.1.2)] :: .box b6 [.int .i64 0, .int .i64 0, .nil, .nil] :: .box b4 [.int .i64 t.op, .int .i64 t.n, .sl 1 (t.v.map (PV.int .i64)) none, .sl 4 (t.t.map Trm.pv) none] :: mkrG b r x.2.2.2.2 x.2.2.1 x.2.2.2.1)
        (fun x => x.1 ≤ t.t.length ∧ x.2.1.2.e = 26 ∧ x.2.2.2.2.e = 62 ∧ x.2.2.2.2.s = 6 ∧ x.2.1.1.length = x.1 ∧ ∃ C, x.2.2.1 = A ++ C ∧ C.length + Trm.bulks (t.t.drop x.1) ≤ Trm.bulks t.t ∧ Trm.clos false t.t ov A.length fm = preS x.2.1.1 C (Trm.clos false (t.t.drop x.1) ov x.2.2.1.length x.2.2.2.1)) (fun x => t.t.length - x.1)
        (0, ([], nilTok 4 26), A, fm, tk) ⟨Nat.zero_le _, rfl, h1, h2, rfl, [], by simp, by simp, (preS_nil (Trm.clos_nil _ _ _ _ _)).symm⟩ wA ?_
      rintro ⟨i, ⟨T, tt'⟩, A2, f2, tk2⟩ ⟨hi, htt, k3, k4, hTl, C, hA2, hcl, he⟩
      dsimp only at hi htt k3 k4 hTl hA2 hcl he ⊢
      conv => whnf
      repeat' (first|((first|((first|(apply zY;intro hg)|apply zZ);first|exact stA|exact stB|((conv=>whnf);(repeat ((first|(refine zW ?_ ?_;exact gA)|refine zA ?_|refine zH rfl ?_|refine zB ?_|(refine yE ?_ ?_ ?_ ?_;assumption;omega;omega)|(refine yF ?_ rfl ?_;omega)|(apply yH;assumption)|(refine yI ?_ ?_;assumption)|intro _);conv=>whnf));first|exact pS|exact pL|exact pE))|(refine zW ?_ ?_;exact gA)|refine zH rfl ?_|refine zA ?_|refine zI bA ?_|refine zI rfl ?_|refine zJ rfl rfl ?_|refine zB ?_|refine zK rfl ?_|refine zL rfl ?_|refine zC ?_|(refine zO ?_ ?_ ?_;omega;omega)|(refine zP ?_ ?_ ?_;omega;omega)|refine zM rfl ?_|(refine zQ ?_ ?_ ?_;omega;omega)|(refine zR ?_ ?_;omega)|(refine zI ?_ ?_;exact nA)|(refine zS ?_ ?_ ?_;omega;omega)|(refine zT ?_ ?_ ?_;omega;omega)|(refine zU ?_ ?_ ?_;omega;omega)|(refine zV ?_ ?_ ?_;omega;omega)|(refine yA ?_ rfl ?_ ?_;assumption;exact lA)|(refine yB ?_ rfl ?_ ?_;assumption;exact lA)|(refine yC rfl ?_ ?_;exact lA)|(refine yD ?_ ?_ rfl ?_ ?_;assumption;assumption;exact lA)|(refine yE ?_ ?_ ?_ ?_;assumption;omega;omega)|(refine yF ?_ rfl ?_;omega)|(apply yH;assumption)|(refine yI ?_ ?_;assumption)|(refine yG ?_ rfl rfl rfl ?_;omega)|refine n0 ?_|refine zN rfl rfl rfl ?_|refine zD ?_|refine zE ?_|refine zF ?_|refine PDraw.sP (some 62) rfl [13,14] [15] tt_ok mixed ?_|refine PDraw.sQ (some 75) rfl [3] [4,5] tt_ok mixed ?_|intro _|refine zG ?_);conv=>whnf)|(refine zX (fun hc => ?_) (fun hc => ?_)<;>(try simp only [SY] at hc)<;>first|omega|(conv=>whnf)))
      · have hit : i < t.t.length := by omega
        rw [drop_at hit, Trm.bulks] at hcl
        rw [drop_at hit, Trm.clos] at he
        have hA2l : A2.length = A.length + C.length := by rw [hA2, List.length_append]
        have hal : (t.t[i].clo false ov A2.length f2).c.length ≤ t.t[i].bulk := (t.t[i].clo_lens false).1 _ _ _
        have hcall := hf _ (List.getElem_mem hit) tk2 A2 f2 ov k3 k4 (by omega) hov
        rw [preS_add] at he
        generalize t.t[i].clo false ov A2.length f2 = a at *
        have hl3 : A2.length + a.c.length = (A2 ++ a.c).length := by simp
        rw [hl3] at he
        refine PDraw.sE [.tok tt', .box b [.ms tk2, .mp r], .row tk2 (A2.map Cod.pv), .mp r (.int .i64) (mapM Kn.pa f2) []] [5,6] [7,8,9] tt_ok mixed ?_
        conv=>whnf
        repeat ((first|((first|(apply zY;intro hg)|apply zZ);first|exact stA|exact stB|((conv=>whnf);(repeat ((first|(refine zW ?_ ?_;exact gA)|refine zA ?_|refine zH rfl ?_|refine zB ?_|(refine yE ?_ ?_ ?_ ?_;assumption;omega;omega)|(refine yF ?_ rfl ?_;omega)|(apply yH;assumption)|(refine yI ?_ ?_;assumption)|intro _);conv=>whnf));first|exact pS|exact pL|exact pE))|(refine zW ?_ ?_;exact gA)|refine zH rfl ?_|refine zA ?_|refine zI bA ?_|refine zI rfl ?_|refine zJ rfl rfl ?_|refine zB ?_|refine zK rfl ?_|refine zL rfl ?_|refine zC ?_|(refine zO ?_ ?_ ?_;omega;omega)|(refine zP ?_ ?_ ?_;omega;omega)|refine zM rfl ?_|(refine zQ ?_ ?_ ?_;omega;omega)|(refine zR ?_ ?_;omega)|(refine zI ?_ ?_;exact nA)|(refine zS ?_ ?_ ?_;omega;omega)|(refine zT ?_ ?_ ?_;omega;omega)|(refine zU ?_ ?_ ?_;omega;omega)|(refine zV ?_ ?_ ?_;omega;omega)|(refine yA ?_ rfl ?_ ?_;assumption;exact lA)|(refine yB ?_ rfl ?_ ?_;assumption;exact lA)|(refine yC rfl ?_ ?_;exact lA)|(refine yD ?_ ?_ rfl ?_ ?_;assumption;assumption;exact lA)|(refine yE ?_ ?_ ?_ ?_;assumption;omega;omega)|(refine yF ?_ rfl ?_;omega)|(apply yH;assumption)|(refine yI ?_ ?_;assumption)|(refine yG ?_ rfl rfl rfl ?_;omega)|refine n0 ?_|refine zN rfl rfl rfl ?_|refine zD ?_|refine zE ?_|refine zF ?_|refine PDraw.sP (some 62) rfl [13,14] [15] tt_ok mixed ?_|refine PDraw.sQ (some 75) rfl [3] [4,5] tt_ok mixed ?_|intro _);conv=>whnf)
        refine PCall.go hcall (WkT.refl _) ?_
        rintro _ _ ⟨tk3, e1, e2, rfl, rfl⟩
        conv => whnf
        repeat' (first|((first|((first|(apply zY;intro hg)|apply zZ);first|exact stA|exact stB|((conv=>whnf);(repeat ((first|(refine zW ?_ ?_;exact gA)|refine zA ?_|refine zH rfl ?_|refine zB ?_|(refine yE ?_ ?_ ?_ ?_;assumption;omega;omega)|(refine yF ?_ rfl ?_;omega)|(apply yH;assumption)|(refine yI ?_ ?_;assumption)|intro _);conv=>whnf));first|exact pS|exact pL|exact pE))|(refine zW ?_ ?_;exact gA)|refine zH rfl ?_|refine zA ?_|refine zI bA ?_|refine zI rfl ?_|refine zJ rfl rfl ?_|refine zB ?_|refine zK rfl ?_|refine zL rfl ?_|refine zC ?_|(refine zO ?_ ?_ ?_;omega;omega)|(refine zP ?_ ?_ ?_;omega;omega)|refine zM rfl ?_|(refine zQ ?_ ?_ ?_;omega;omega)|(refine zR ?_ ?_;omega)|(refine zI ?_ ?_;exact nA)|(refine zS ?_ ?_ ?_;omega;omega)|(refine zT ?_ ?_ ?_;omega;omega)|(refine zU ?_ ?_ ?_;omega;omega)|(refine zV ?_ ?_ ?_;omega;omega)|(refine yA ?_ rfl ?_ ?_;assumption;exact lA)|(refine yB ?_ rfl ?_ ?_;assumption;exact lA)|(refine yC rfl ?_ ?_;exact lA)|(refine yD ?_ ?_ rfl ?_ ?_;assumption;assumption;exact lA)|(refine yE ?_ ?_ ?_ ?_;assumption;omega;omega)|(refine yF ?_ rfl ?_;omega)|(apply yH;assumption)|(refine yI ?_ ?_;assumption)|(refine yG ?_ rfl rfl rfl ?_;omega)|refine n0 ?_|refine zN rfl rfl rfl ?_|refine zD ?_|refine zE ?_|refine zF ?_|refine PDraw.sP (some 62) rfl [13,14] [15] tt_ok mixed ?_|refine PDraw.sQ (some 75) rfl [3] [4,5] tt_ok mixed ?_|intro _|refine zG ?_);conv=>whnf)|(refine zX (fun hc => ?_) (fun hc => ?_)<;>(try simp only [SY] at hc)<;>first|omega|(conv=>whnf)))
        rename_i t5 ht5
        exact loopTo (i + 1, (T ++ [a.t], t5), A2 ++ a.c, a.fm, tk3) ⟨by show i + 1 ≤ _; omega, ht5, e1, e2, by simp; omega, C ++ a.c, by rw [hA2, List.append_assoc], by show (C ++ a.c).length + Trm.bulks (t.t.drop (i + 1)) ≤ _; rw [List.length_append]; omega, he⟩ (by show t.t.length - (i + 1) < t.t.length - i; omega) wA
      · rw [List.drop_of_length_le (by omega)] at he
        simp only [Trm.clos, preS, List.append_nil] at he
        rw [he, hA2]
        exact PRet.gen (y := .agg (Trm.mk (t.op) (t.n) [] T).cells) (Γ' := mkrG b r tk2 (A ++ C) f2) TrmOf.wk ⟨tk2, k3, k4, rfl, rfl⟩
theorem clOk (b r : Nat) (t : Trm) (h1 : t.shI) (h2 : t.shD) : ClOk b r t := (clOk2 b r t h1 h2).1
end Go.Cb
namespace Go.Cb
open Go.Proofs
set_option maxRecDepth 100000
set_option maxHeartbeats 4000000
theorem codsBulk_append : ∀ l m : List Cod, codsBulk (l ++ m) = codsBulk l + codsBulk m
  | [], m => by simp [codsBulk]
  | x :: l, m => by rw [List.cons_append, codsBulk, codsBulk, codsBulk_append l m]; omega
theorem refF_bulk (fm : Fm) (ov : List Int) (v : Int) : (refF fm ov v).bulk = 1 := by
  unfold refF
  split
  · rfl
  · split <;> rfl
theorem refs_bulk (fm : Fm) (ov l : List Int) : Trm.bulks (l.map (refF fm ov)) = l.length := by
  induction l with
  | nil => rfl
  | cons x l ih => rw [List.map_cons, Trm.bulks, refF_bulk, ih, List.length_cons]; omega
theorem overF_all (fm : Fm) (t : Trm) : (overF fm t).length ≤ t.all.length := by
  have h2 : (freeOf t.all).length ≤ t.all.length := by rw [freeOf, List.length_map]; exact List.length_filter_le _ _
  have h3 : (riseL (freeOf t.all)).length ≤ ((freeOf t.all).mergeSort fun x y => decide (x ≤ y)).length := by
    unfold riseL Lib.compact Lib.compactUpTo
    rw [List.length_map]
    exact Nat.le_trans (List.length_filter_le _ _) (by simp)
  rw [List.length_mergeSort] at h3
  have : (overF fm t).length ≤ (riseL (freeOf t.all)).length := List.length_filter_le _ _
  omega
theorem Trm.bulk_mk (o n : Int) (v : List Int) (l : List Trm) : (Trm.mk o n v l).bulk = 1 + v.length + Trm.bulks l := by rw [Trm.bulk]
theorem Trm.met_cnt (t : Trm) : ∀ (sc : List Int) (deep : Int), ((t.met sc deep).length : Int) ≤ t.cnt := by
  induction t using Trm.ind with
  | h t ih =>
    intro sc deep
    have key : ∀ l : List Trm, (∀ y ∈ l, ∀ (sc : List Int) (deep : Int), ((y.met sc deep).length : Int) ≤ y.cnt) → ∀ op sc inner deep, ((Trm.mets op sc inner l deep).length : Int) ≤ Trm.cnts l := by
      intro l
      induction l with
      | nil => intro _ op sc inner deep; simp [Trm.mets, Trm.cnts]
      | cons x l ihl =>
        intro h op sc inner deep
        rw [Trm.mets, Trm.cnts, List.length_append]
        have a := h x (by simp) (if groupB op = true ∨ l = [] then inner else sc) deep
        have b := ihl (fun y hy => h y (by simp [hy])) op sc inner deep
        omega
    rw [Trm.met_eq, t.cnt_eq, List.length_cons]
    have := Trm.cnts_pos t.t
    split
    · simp; omega
    · have := key t.t ih t.op sc (sc ++ t.v) (deep + 1)
      omega
theorem Trm.cnts_mem {x : Trm} : ∀ {l : List Trm}, x ∈ l → x.cnt ≤ Trm.cnts l
  | [], h => by cases h
  | y :: l, h => by
    rw [Trm.cnts]
    have := Trm.cnts_pos l
    have := y.cnt_pos
    rcases List.mem_cons.1 h with rfl | h
    · omega
    · have := Trm.cnts_mem h; omega
def BkOk (w : Bool) (K : Int) (t : Trm) : Prop := t.cnt ≤ K → ∀ ov n fm, ((t.clo w ov n fm).t.bulk : Int) + codsBulk (t.clo w ov n fm).c ≤ t.bulk + (K + 2) * t.cnt
def BkB (w : Bool) (K : Int) (t : Trm) : Prop := t.cnt ≤ K → ∀ ov n fm, 1 + K + t.v.length + ((t.cloB w ov n fm).t.bulk : Int) + codsBulk (t.cloB w ov n fm).c ≤ t.bulk + (K + 2) * t.cnt
theorem overF_cnt (fm : Fm) (t : Trm) : ((overF fm t).length : Int) ≤ t.cnt := by
  have := overF_all fm t
  have : (t.all.length : Int) ≤ t.cnt := t.met_cnt [] 0
  omega
theorem Trm.clos_bk (w : Bool) (K : Int) : ∀ l : List Trm, (∀ y ∈ l, BkOk w K y) → Trm.cnts l ≤ K → ∀ ov n fm, (Trm.bulks (Trm.clos w l ov n fm).t : Int) + codsBulk (Trm.clos w l ov n fm).c ≤ Trm.bulks l + (K + 2) * Trm.cnts l
  | [], _, _, ov, n, fm => by rw [Trm.clos]; simp [Trm.bulks, codsBulk, Trm.cnts]
  | y :: l, h, hk, ov, n, fm => by
    have p1 := y.cnt_pos
    have p2 := Trm.cnts_pos l
    rw [Trm.cnts] at hk
    rw [Trm.clos, Trm.bulks, Trm.cnts, Int.mul_add]
    have a := h y (by simp) (by omega) ov n fm
    have b := Trm.clos_bk w K l (fun z hz => h z (by simp [hz])) (by omega) ov (n + (y.clo w ov n fm).c.length) (y.clo w ov n fm).fm
    dsimp only
    rw [Trm.bulks, codsBulk_append]
    omega
theorem Trm.cloL_bk (w : Bool) (K : Int) (hK : 0 ≤ K) : ∀ l : List Trm, (∀ y ∈ l, BkOk w K y) → Trm.cnts l ≤ K → ∀ vs ov n fm lrn, (Trm.bulks (Trm.cloL w l vs ov n fm lrn).t : Int) + (Trm.cloL w l vs ov n fm lrn).last.bulk + codsBulk (Trm.cloL w l vs ov n fm lrn).c ≤ Trm.bulks l + (K + 2) * Trm.cnts l + 1 ∧ (Trm.cloL w l vs ov n fm lrn).v.length ≤ vs.length
  | [], _, _, vs, ov, n, fm, lrn => by rw [Trm.cloL]; simp [Trm.bulks, codsBulk, Trm.cnts, Trm.bulk]
  | y :: l, h, hk, [], ov, n, fm, lrn => by
    have p1 := y.cnt_pos
    have p2 := Trm.cnts_pos l
    rw [Trm.cnts] at hk
    have p3 : 0 ≤ (K + 2) * Trm.cnts l := Int.mul_nonneg (by omega) p2
    rw [Trm.cloL, Trm.bulks, Trm.cnts, Int.mul_add]
    have a := h y (by simp) (by omega) ov n (learnF w lrn fm)
    dsimp only
    rw [Trm.bulks]
    refine ⟨by omega, by simp⟩
  | y :: l, h, hk, v :: vs, ov, n, fm, lrn => by
    have p1 := y.cnt_pos
    have p2 := Trm.cnts_pos l
    rw [Trm.cnts] at hk
    rw [Trm.cloL, Trm.bulks, Trm.cnts, Int.mul_add]
    have a := h y (by simp) (by omega) ov n fm
    obtain ⟨b, b2⟩ := Trm.cloL_bk w K hK l (fun z hz => h z (by simp [hz])) (by omega) vs ov (n + (y.clo w ov n fm).c.length) (y.clo w ov n fm).fm (if y.op = 4 then lrn ++ [(v, ⟨n, (y.clo w ov n fm).t.op == 21⟩)] else lrn)
    dsimp only
    rw [codsBulk_append]
    split
    · refine ⟨by omega, by simp only [List.length_cons]; omega⟩
    · rw [Trm.bulks]
      refine ⟨by omega, by simp only [List.length_cons]; omega⟩
theorem Trm.cloF_bk (w : Bool) (K : Int) (hK : 0 ≤ K) : ∀ l : List Trm, (∀ y ∈ l, BkOk w K y) → (∀ y ∈ l, BkB w K y) → Trm.cnts l ≤ K → ∀ vs ov c n fm, (Trm.bulks (Trm.cloF w l vs ov c n fm).t : Int) + (Trm.cloF w l vs ov c n fm).last.bulk + codsBulk (Trm.cloF w l vs ov c n fm).own + codsBulk (Trm.cloF w l vs ov c n fm).c ≤ Trm.bulks l + (K + 2) * Trm.cnts l + 1
  | [], _, _, _, vs, ov, c, n, fm => by rw [Trm.cloF]; simp [Trm.bulks, codsBulk, Trm.cnts, Trm.bulk]
  | y :: l, h, _, hk, [], ov, c, n, fm => by
    have p1 := y.cnt_pos
    have p2 := Trm.cnts_pos l
    rw [Trm.cnts] at hk
    have p3 : 0 ≤ (K + 2) * Trm.cnts l := Int.mul_nonneg (by omega) p2
    rw [Trm.cloF, Trm.bulks, Trm.cnts, Int.mul_add]
    have a := h y (by simp) (by omega) ov n fm
    dsimp only
    rw [Trm.bulks, codsBulk]
    omega
  | y :: l, h, k, hk, v :: vs, ov, c, n, fm => by
    have p1 := y.cnt_pos
    have p2 := Trm.cnts_pos l
    rw [Trm.cnts] at hk
    rw [Trm.cloF, Trm.bulks, Trm.cnts, Int.mul_add]
    have a := k y (by simp) (by omega) (overF fm y) n fm
    have b := Trm.cloF_bk w K hK l (fun z hz => h z (by simp [hz])) (fun z hz => k z (by simp [hz])) (by omega) vs ov (c + 1) (n + (y.cloB w (overF fm y) n fm).c.length) (y.cloB w (overF fm y) n fm).fm
    have q1 := overF_cnt fm y
    have q2 := overF_cnt (y.cloB w (overF fm y) n fm).fm y
    dsimp only
    rw [codsBulk_append, Trm.bulks, codsBulk, Trm.bulk, refs_bulk]
    have q : ((if w = true then overF (y.cloB w (overF fm y) n fm).fm y else overF fm y).length : Int) ≤ K := by split <;> omega
    simp only [List.length_nil, Cod.bulk]
    omega
theorem Trm.clo_bks (w : Bool) (K : Int) (hK : 0 ≤ K) (t : Trm) : BkOk w K t ∧ BkB w K t := by
  induction t using Trm.ind with
  | h t ih =>
    have hbe := t.bulk_eq
    have hce := t.cnt_eq
    have p2 := Trm.cnts_pos t.t
    have e1 : (K + 2) * t.cnt = (K + 2) + (K + 2) * Trm.cnts t.t := by rw [hce, Int.mul_add, Int.mul_one]
    have p3 : 0 ≤ (K + 2) * Trm.cnts t.t := Int.mul_nonneg (by omega) p2
    have hB : BkB w K t := by
      intro hk ov n fm
      rw [Trm.cloB_eq]
      cases ht : t.t with
      | nil =>
        rw [Trm.cloH]
        dsimp only
        rw [codsBulk, show noT.bulk = 1 from rfl]
        omega
      | cons x xs =>
        rw [Trm.cloH]
        have hx : x ∈ t.t := by rw [ht]; simp
        have a := (ih x hx).1 (by have := Trm.cnts_mem hx; omega) ov n fm
        have q1 := Trm.bulks_mem hx
        have q2 := Trm.cnts_mem hx
        have q3 : (K + 2) * x.cnt ≤ (K + 2) * Trm.cnts t.t := Int.mul_le_mul_of_nonneg_left q2 (by omega)
        omega
    refine ⟨?_, hB⟩
    intro hk ov n fm
    rw [Trm.clo_eq]
    split
    · dsimp only
      rw [refF_bulk, codsBulk]
      omega
    split
    · have a := hB hk (overF fm t) (n + 1) fm
      have q1 := overF_cnt fm t
      have q2 := overF_cnt (t.cloB w (overF fm t) (n + 1) fm).fm t
      have q : ((if w = true then overF (t.cloB w (overF fm t) (n + 1) fm).fm t else overF fm t).length : Int) ≤ K := by split <;> omega
      dsimp only
      generalize (if w = true then overF (t.cloB w (overF fm t) (n + 1) fm).fm t else overF fm t) = own at q ⊢
      rw [codsBulk, cloT]
      simp only [Cod.bulk]
      split
      · rw [Trm.bulk_mk, Trm.bulks]
        simp only [List.length_nil]
        omega
      · rw [Trm.bulk_mk, refs_bulk]
        simp only [List.length_nil]
        omega
    split
    · obtain ⟨a, b⟩ := Trm.cloL_bk w K hK t.t (fun y hy => (ih y hy).1) (by omega) t.v ov n fm []
      dsimp only
      split
      · omega
      · rw [Trm.bulk, Trm.bulks_append, Trm.bulks, Trm.bulks]
        omega
    split
    · have a := Trm.cloF_bk w K hK t.t (fun y hy => (ih y hy).1) (fun y hy => (ih y hy).2) (by omega) t.v ov n (n + t.v.length) (fixF w t.v n (fixS fm t.v t.t) fm)
      dsimp only
      rw [codsBulk_append]
      split
      · omega
      · rw [Trm.bulk, Trm.bulks_append, Trm.bulks, Trm.bulks]
        omega
    · have a := Trm.clos_bk w K t.t (fun y hy => (ih y hy).1) (by omega) ov n fm
      dsimp only
      rw [Trm.bulk]
      omega
theorem Trm.okT_shD {c codes : Int} {free : Bool} (t : Trm) : ∀ {scope : List Int} {deep : Int}, t.okT 2 c codes free scope deep → t.vars.Nodup → t.shD := by
  induction t using Trm.ind with
  | h t ih =>
    intro scope deep h hn
    rw [Trm.okT_eq] at h
    rw [Trm.shD_eq]
    rw [Trm.vars_eq, List.nodup_append] at hn
    have key : ∀ (op : Int) (sc inner : List Int) (deep : Int) (l : List Trm), (∀ y ∈ l, ∀ {scope : List Int} {deep : Int}, y.okT 2 c codes free scope deep → y.vars.Nodup → y.shD) → Trm.okTs 2 c codes free op sc inner l deep → (Trm.varss l).Nodup → Trm.shDs l := by
      intro op sc inner deep l
      induction l with
      | nil => intro _ _ _; rw [Trm.shDs]; trivial
      | cons x l ihl =>
        intro hy hk hn
        rw [Trm.okTs] at hk
        rw [Trm.varss, List.nodup_append] at hn
        rw [Trm.shDs]
        exact ⟨hy x (by simp) hk.2.1 hn.1, ihl (fun z hz => hy z (by simp [hz])) hk.2.2 hn.2.1⟩
    refine ⟨⟨hn.1, fun h4 h8 h9 => ?_⟩, key _ _ _ _ _ ih h.2 hn.2.1⟩
    obtain ⟨⟨_, h2, h3, _⟩, _⟩ := h
    unfold countsL at h3
    have h7 : t.op ≠ 7 := by
      intro e
      rw [e] at h2
      revert h2
      decide
    have hbb : bindsB t.op = false := by simp [bindsB, h4, h7, h8, h9]
    rw [hbb] at h3
    split at h3
    · cases h3
    · rename_i hne
      simp only [Bool.not_false, Bool.true_and, decide_eq_true_eq] at hne
      exact List.eq_nil_of_length_eq_zero (by omega)
end Go.Cb
namespace Go.Cb
open Go.Proofs
set_option maxRecDepth 100000
set_option maxHeartbeats 4000000
end Go.Cb

