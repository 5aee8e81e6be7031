/-
 Contracts: the maker of closures: terms.
 Contracts: the document's maker of closures: what a term is over, references, numbers, bodies, procedures.
 Contracts: the document's maker of closures: Let.
 Contracts: the document's maker of closures: Fix.
 Contracts: the document's maker of closures: terms.
 Plain law: the module's size; the shape that the maker needs.
 Plain law: how many closures there are.
 Plain law: what stays as often as before.
 Plain law: what is right names what its scope holds; no Lam is left in a module.
 Plain law: on what is right the document learns what the program learns.
 Contracts: the document's words for the check of terms.
 Contracts: what is right names what it binds.
 Contracts: the program's check of modules.
 Contracts: a program's module.
 Contracts: closure's laws: the document's example, sizes, counts.
 Contracts: the document's words for modules.
 Contracts: the document's check of modules.
-/
import Derived.Test.YtklpioocdgfbmaaGreatDoorC6
set_option linter.unusedSimpArgs false
set_option linter.unusedVariables false
namespace Go.Cb
open Go.Proofs
set_option maxRecDepth 100000
set_option maxHeartbeats 4000000
mutual
def Trm.shD : Trm → Prop
 | .mk op _ v t => (v.Nodup ∧ (op ≠ 4 → op ≠ 8 → op ≠ 9 → v = [])) ∧ Trm.shDs t
def Trm.shDs : List Trm → Prop
 | [] => True
 | x :: xs => Trm.shD x ∧ Trm.shDs xs
end
theorem Trm.shD_eq (t : Trm) : t.shD ↔ (t.v.Nodup ∧ (t.op ≠ 4 → t.op ≠ 8 → t.op ≠ 9 → t.v = [])) ∧ Trm.shDs t.t := by cases t; rw [Trm.shD]; rfl
theorem Trm.shDs_mem : ∀ {l : List Trm}, Trm.shDs l → ∀ x ∈ l, x.shD
 | [], _, x, hx => by cases hx
 | y :: l, h, x, hx => by
  rw [Trm.shDs] at h
  rcases List.mem_cons.1 hx with rfl | hx
  ·exact h.1
  ·exact Trm.shDs_mem h.2 x hx
def preS (T : List Trm) (C : List Cod) (r : ClL) : ClL := ⟨[], T ++ r.t, noT, [], C ++ r.c, r.fm⟩
theorem Trm.clos_nil (w : Bool) : ∀ (l : List Trm) ov n fm, (Trm.clos w l ov n fm).v = [] ∧ (Trm.clos w l ov n fm).last = noT ∧ (Trm.clos w l ov n fm).own = []
 | [], ov, n, fm => by rw [Trm.clos]; exact ⟨rfl, rfl, rfl⟩
 | y :: l, ov, n, fm => by rw [Trm.clos]; exact ⟨rfl, rfl, rfl⟩
theorem preS_nil {r : ClL} (h : r.v = [] ∧ r.last = noT ∧ r.own = []) : preS [] [] r = r := by
 obtain ⟨a, b, c, d, e, f⟩ := r
 obtain ⟨h1, h2, h3⟩ := h
 simp only at h1 h2 h3
 subst h1 h2 h3
 rfl
theorem preS_add (T : List Trm) (C ac : List Cod) (b : ClL) (x : Trm) : preS T C ⟨[], x :: b.t, noT, [], ac ++ b.c, b.fm⟩ = preS (T ++ [x]) (C ++ ac) b := by simp [preS]
theorem clOk2 (b r : Nat) (t : Trm) : t.shI → t.shD → ClOk b r t ∧ ∀ z ∈ t.t, ClOk b r z := by
 induction t using Trm.ind with
 | h t ih =>
  intro hsI hsD
  refine ⟨?_, fun z hz => (ih z hz (Trm.shIs_mem ((Trm.shI_eq t).1 hsI).2 z hz) (Trm.shDs_mem ((Trm.shD_eq t).1 hsD).2 z hz)).1⟩
  intro tk A fm ov h1 h2 hb hov
  have hbe := t.bulk_eq
  have hbl := Trm.bulks_length t.t
  rw [Trm.shI_eq] at hsI
  rw [Trm.shD_eq] at hsD
  obtain ⟨⟨s1, s2, s3, s4⟩, s5⟩ := hsI
  obtain ⟨⟨d1, d2⟩, d3⟩ := hsD
  have hf : ∀ x ∈ t.t, ClOk b r x := fun x hx => (ih x hx (Trm.shIs_mem s5 x hx) (Trm.shDs_mem d3 x hx)).1
  have ihc : ∀ x ∈ t.t, ∀ z ∈ x.t, ClOk b r z := fun x hx => (ih x hx (Trm.shIs_mem s5 x hx) (Trm.shDs_mem d3 x hx)).2
  have hlam : ∀ y ∈ t.t, y.op = 4 → ∃ z zs, y.t = z :: zs ∧ ClOk b r z := fun y hy h4 => by
   have hI := (Trm.shI_eq y).1 (Trm.shIs_mem s5 y hy)
   cases hyt : y.t with
   | nil => have := hI.1.2.1 h4; rw [hyt] at this; simp at this
   | cons z zs => exact ⟨z, zs, rfl, ihc y hy z (by rw [hyt]; simp)⟩
  have h5 : t.op = 5 → 1 ≤ t.t.length := fun h => List.length_pos_iff.2 (s1 h)
  refine ACall.of_body tt_ok Tryz.func41 rfl rfl (n := 97) rfl rfl ?_
  conv => whnf
  repeat ((first|((first|(apply zY;intro hg)|apply zZ);first|exact stA|exact stB|exact stC)|(refine zW ?_ ?_;exact gA)|refine zH rfl ?_|refine zA ?_|refine zI bA ?_|refine zI rfl ?_|refine sB ?_|(refine zO ?_ ?_ ?_;omega;omega)|(refine zP ?_ ?_ ?_;omega;omega)|refine zM rfl ?_|(refine zQ ?_ ?_ ?_;omega;omega)|(refine zR ?_ ?_;omega)|(refine zI ?_ ?_;exact nA)|refine sS ?_|refine sF ?_|refine n0 ?_|refine sD ?_|refine PDraw.sQ (some 75) rfl [3] [4,5] tt_ok mixed ?_|intro _);conv=>whnf)
  rename_i b4 b6
  conv => whnf
  repeat' (first|((first|((first|(apply zY;intro hg)|apply zZ);first|exact stA|exact stB|exact stC)|(refine zW ?_ ?_;exact gA)|refine zH rfl ?_|refine zA ?_|refine zI bA ?_|refine zI rfl ?_|refine sB ?_|(refine zO ?_ ?_ ?_;omega;omega)|(refine zP ?_ ?_ ?_;omega;omega)|refine zM rfl ?_|(refine zQ ?_ ?_ ?_;omega;omega)|(refine zR ?_ ?_;omega)|(refine zI ?_ ?_;exact nA)|refine sS ?_|refine sF ?_|refine n0 ?_|refine sD ?_|refine PDraw.sQ (some 75) rfl [3] [4,5] tt_ok mixed ?_|intro _|refine zG ?_);conv=>whnf)|(refine zX (fun hc => ?_) (fun hc => ?_)<;>(try simp only [SY] at hc)<;>first|omega|(conv=>whnf)))
  ·rw [Trm.clo_eq, if_pos hc]
   refine PCall.go (ref13_c b r tk A fm t.n ov) (WkT.refl _) ?_
   rintro _ _ ⟨rfl, rfl⟩
   conv => whnf
   repeat' (first|((first|((first|(apply zY;intro hg)|apply zZ);first|exact stA|exact stB|exact stC)|(refine zW ?_ ?_;exact gA)|refine zH rfl ?_|refine zA ?_|refine zI bA ?_|refine zI rfl ?_|refine sB ?_|(refine zO ?_ ?_ ?_;omega;omega)|(refine zP ?_ ?_ ?_;omega;omega)|refine zM rfl ?_|(refine zQ ?_ ?_ ?_;omega;omega)|(refine zR ?_ ?_;omega)|(refine zI ?_ ?_;exact nA)|refine sS ?_|refine sF ?_|refine n0 ?_|refine sD ?_|refine PDraw.sQ (some 75) rfl [3] [4,5] tt_ok mixed ?_|intro _|refine zG ?_);conv=>whnf)|(refine zX (fun hc => ?_) (fun hc => ?_)<;>(try simp only [SY] at hc)<;>first|omega|(conv=>whnf)))
   exact PRet.gen (y := .agg (refF fm ov t.n).cells) (Γ' := mkrG b r tk (A ++ []) fm) (by exact Wk.refl _) (hp := by rw [List.append_nil]; infer_instance) ⟨tk, h1, h2, rfl, rfl⟩
  ·cases htt : t.t with
   | nil => have := s2 hc; rw [htt] at this; simp at this
   | cons z zs =>
    rw [← htt]
    refine PCall.go (lam_c13 b r tk A fm t z zs htt (hf z (by rw [htt]; simp)) ov hc h1 h2 hb hov) (WkT.refl _) ?_
    rintro _ _ ⟨tk2, e1, e2, rfl, rfl⟩
    conv => whnf
    repeat' (first|((first|((first|(apply zY;intro hg)|apply zZ);first|exact stA|exact stB|exact stC)|(refine zW ?_ ?_;exact gA)|refine zH rfl ?_|refine zA ?_|refine zI bA ?_|refine zI rfl ?_|refine sB ?_|(refine zO ?_ ?_ ?_;omega;omega)|(refine zP ?_ ?_ ?_;omega;omega)|refine zM rfl ?_|(refine zQ ?_ ?_ ?_;omega;omega)|(refine zR ?_ ?_;omega)|(refine zI ?_ ?_;exact nA)|refine sS ?_|refine sF ?_|refine n0 ?_|refine sD ?_|refine PDraw.sQ (some 75) rfl [3] [4,5] tt_ok mixed ?_|intro _|refine zG ?_);conv=>whnf)|(refine zX (fun hc => ?_) (fun hc => ?_)<;>(try simp only [SY] at hc)<;>first|omega|(conv=>whnf)))
    exact PRet.gen (y := .agg (t.clo false ov A.length fm).t.cells) (Γ' := mkrG b r tk2 (A ++ (t.clo false ov A.length fm).c) (t.clo false ov A.length fm).fm) (Wk.refl _) ⟨tk2, e1, e2, rfl, rfl⟩
  ·refine PCall.go (let_c13 b r tk A fm t (s3 (.inl hc)) d1 hf hlam ov hc h1 h2 hb hov) (WkT.refl _) ?_
   rintro _ _ ⟨tk2, e1, e2, rfl, rfl⟩
   conv => whnf
   repeat' (first|((first|((first|(apply zY;intro hg)|apply zZ);first|exact stA|exact stB|exact stC)|(refine zW ?_ ?_;exact gA)|refine zH rfl ?_|refine zA ?_|refine zI bA ?_|refine zI rfl ?_|refine sB ?_|(refine zO ?_ ?_ ?_;omega;omega)|(refine zP ?_ ?_ ?_;omega;omega)|refine zM rfl ?_|(refine zQ ?_ ?_ ?_;omega;omega)|(refine zR ?_ ?_;omega)|(refine zI ?_ ?_;exact nA)|refine sS ?_|refine sF ?_|refine n0 ?_|refine sD ?_|refine PDraw.sQ (some 75) rfl [3] [4,5] tt_ok mixed ?_|intro _|refine zG ?_);conv=>whnf)|(refine zX (fun hc => ?_) (fun hc => ?_)<;>(try simp only [SY] at hc)<;>first|omega|(conv=>whnf)))
   exact PRet.gen (y := .agg (t.clo false ov A.length fm).t.cells) (Γ' := mkrG b r tk2 (A ++ (t.clo false ov A.length fm).c) (t.clo false ov A.length fm).fm) (Wk.refl _) ⟨tk2, e1, e2, rfl, rfl⟩
  ·refine PCall.go (fix_c13 b r tk A fm t (s3 (.inr hc)) hf (fun y hy => hlam y (List.mem_of_mem_take hy) (s4 hc y (by have := s3 (.inr hc); rw [List.dropLast_eq_take, this]; exact hy))) ov hc h1 h2 hb hov) (WkT.refl _) ?_
   rintro _ _ ⟨tk2, e1, e2, rfl, rfl⟩
   conv => whnf
   repeat' (first|((first|((first|(apply zY;intro hg)|apply zZ);first|exact stA|exact stB|exact stC)|(refine zW ?_ ?_;exact gA)|refine zH rfl ?_|refine zA ?_|refine zI bA ?_|refine zI rfl ?_|refine sB ?_|(refine zO ?_ ?_ ?_;omega;omega)|(refine zP ?_ ?_ ?_;omega;omega)|refine zM rfl ?_|(refine zQ ?_ ?_ ?_;omega;omega)|(refine zR ?_ ?_;omega)|(refine zI ?_ ?_;exact nA)|refine sS ?_|refine sF ?_|refine n0 ?_|refine sD ?_|refine PDraw.sQ (some 75) rfl [3] [4,5] tt_ok mixed ?_|intro _|refine zG ?_);conv=>whnf)|(refine zX (fun hc => ?_) (fun hc => ?_)<;>(try simp only [SY] at hc)<;>first|omega|(conv=>whnf)))
   exact PRet.gen (y := .agg (t.clo false ov A.length fm).t.cells) (Γ' := mkrG b r tk2 (A ++ (t.clo false ov A.length fm).c) (t.clo false ov A.length fm).fm) (Wk.refl _) ⟨tk2, e1, e2, rfl, rfl⟩
  ·rename_i b9
   have hl0 : 0 < t.t.length := by omega
   have hgd : t.t.getD 0 Dfl.d = t.t[0] := by rw [List.getD_eq_getElem?_getD, List.getElem?_eq_getElem hl0]; rfl
   have hhd : t.t.headD (.mk 0 0 [] []) = t.t[0] := by rw [← hgd]; cases t.t <;> rfl
   rw [hgd] at hc
   have hv0 : t.v = [] := d2 (by omega) (by omega) (by omega)
   have hce : t.clo false ov A.length fm = ⟨.mk (callF fm t.op t.n t.t).1 (callF fm t.op t.n t.t).2 [] (Trm.clos false t.t ov A.length fm).t, (Trm.clos false t.t ov A.length fm).c, (Trm.clos false t.t ov A.length fm).fm⟩ := by
    rw [Trm.clo_eq, if_neg (by omega), if_neg (by omega), if_neg (by omega), if_neg (by omega), hv0]
   rw [hce]
   have hcf : callF fm t.op t.n t.t = match fm t.t[0].n with
    | some f => (22, f.code)
    | none => (t.op, t.n) := by rw [callF, hhd, if_pos hc]; rfl
   rw [hcf]
   cases hkn : fm t.t[0].n with
   | some f =>
    dsimp only
    conv => whnf
    repeat' (first|((first|((first|(apply zY;intro hg)|apply zZ);first|exact stA|exact stB|exact stC)|(refine zW ?_ ?_;exact gA)|refine zH rfl ?_|refine zA ?_|refine zI bA ?_|refine zI rfl ?_|refine sB ?_|(refine zO ?_ ?_ ?_;omega;omega)|(refine zP ?_ ?_ ?_;omega;omega)|refine zM rfl ?_|(refine zQ ?_ ?_ ?_;omega;omega)|(refine zR ?_ ?_;omega)|(refine zI ?_ ?_;exact nA)|refine sS ?_|refine sF ?_|refine n0 ?_|refine sD ?_|refine PDraw.sP (some 62) rfl [13,14] [15] tt_ok mixed ?_|intro _|refine zG ?_);conv=>whnf)|(refine zX (fun hc => ?_) (fun hc => ?_)<;>(try simp only [SY] at hc)<;>first|omega|(conv=>whnf)))
    rename_i b10
    refine PDraw.sE [.box b9 [.int .i64 t.op, .int .i64 t.n, .nil, .nil]] [3] [4,5] tt_ok mixed ?_
    conv=>whnf
    conv => whnf
    repeat' (first|((first|((first|(apply zY;intro hg)|apply zZ);first|exact stA|exact stB|exact stC)|(refine zW ?_ ?_;exact gA)|refine zH rfl ?_|refine zA ?_|refine zI bA ?_|refine zI rfl ?_|refine sB ?_|(refine zO ?_ ?_ ?_;omega;omega)|(refine zP ?_ ?_ ?_;omega;omega)|refine zM rfl ?_|(refine zQ ?_ ?_ ?_;omega;omega)|(refine zR ?_ ?_;omega)|(refine zI ?_ ?_;exact nA)|refine sS ?_|refine sF ?_|refine n0 ?_|refine sD ?_|refine PDraw.sP (some 62) rfl [13,14] [15] tt_ok mixed ?_|intro _|refine zG ?_);conv=>whnf)|(refine zX (fun hc => ?_) (fun hc => ?_)<;>(try simp only [SY] at hc)<;>first|omega|(conv=>whnf)))
    rename_i hq9
    refine PLoop.ghost (Ghost.trans (Ghost.nil 4 26 _) (Ghost.box (b := b9) (cs := [.int .i64 22, .int .i64 f.code, .nil, .nil]) (cs' := [.int .i64 22, .int .i64 f.code, .nil, .sl 4 (([] : List Trm).map Trm.pv) (some (nilTok 4 26))]) wA)) ?_
    refine PLoop.over [13, 82, 83, 84, 85, 86, 87, 88, 89, 90, 91, 92, 93, 94, 95] (fun x : Nat × (List Trm × Tok) × List Cod × Fm × Tok => [(82, .int .i64 x.1)]) (fun x => .tok x.2.1.2 :: .box b9 [.int .i64 22, .int .i64 f.code, .nil, .sl 4 (x.2.1.1.map Trm.pv) (some x.2.1.2)] :: .box b6 [.int .i64 0, .int .i64 0, .nil, .nil] :: .box b4 [.int .i64 t.op, .int .i64 t.n, .sl 1 (t.v.map (PV.int .i64)) none, .sl 4 (t.t.map Trm.pv) none] :: mkrG b r x.2.2.2.2 x.2.2.1 x.2.2.2.1)
     (fun x => x.1 ≤ t.t.length ∧ x.2.1.2.e = 26 ∧ x.2.2.2.2.e = 88 ∧ x.2.2.2.2.s = 6 ∧ x.2.1.1.length = x.1 ∧ ∃ C, x.2.2.1 = A ++ C ∧ C.length + Trm.bulks (t.t.drop x.1) ≤ Trm.bulks t.t ∧ Trm.clos false t.t ov A.length fm = preS x.2.1.1 C (Trm.clos false (t.t.drop x.1) ov x.2.2.1.length x.2.2.2.1)) (fun x => t.t.length - x.1)
     (0, ([], nilTok 4 26), A, fm, tk) ⟨Nat.zero_le _, rfl, h1, h2, rfl, [], by simp, by simp, (preS_nil (Trm.clos_nil _ _ _ _ _)).symm⟩ wA ?_
    rintro ⟨i, ⟨T, tt'⟩, A2, f2, tk2⟩ ⟨hi, htt, k3, k4, hTl, C, hA2, hcl, he⟩
    dsimp only at hi htt k3 k4 hTl hA2 hcl he ⊢
    conv => whnf
    repeat' (first|((first|((first|(apply zY;intro hg)|apply zZ);first|exact stA|exact stB|exact stC)|(refine zW ?_ ?_;exact gA)|refine zH rfl ?_|refine zA ?_|refine zI bA ?_|refine zI rfl ?_|refine sB ?_|(refine zO ?_ ?_ ?_;omega;omega)|(refine zP ?_ ?_ ?_;omega;omega)|refine zM rfl ?_|(refine zQ ?_ ?_ ?_;omega;omega)|(refine zR ?_ ?_;omega)|(refine zI ?_ ?_;exact nA)|refine sS ?_|refine sF ?_|refine n0 ?_|refine sD ?_|refine PDraw.sP (some 62) rfl [13,14] [15] tt_ok mixed ?_|refine PDraw.sQ (some 75) rfl [3] [4,5] tt_ok mixed ?_|intro _|refine zG ?_);conv=>whnf)|(refine zX (fun hc => ?_) (fun hc => ?_)<;>(try simp only [SY] at hc)<;>first|omega|(conv=>whnf)))
    ·have hit : i < t.t.length := by omega
     rw [drop_at hit, Trm.bulks] at hcl
     rw [drop_at hit, Trm.clos] at he
     have hA2l : A2.length = A.length + C.length := by rw [hA2, List.length_append]
     have hal : (t.t[i].clo false ov A2.length f2).c.length ≤ t.t[i].bulk := (t.t[i].clo_lens false).1 _ _ _
     have hcall := hf _ (List.getElem_mem hit) tk2 A2 f2 ov k3 k4 (by omega) hov
     rw [preS_add] at he
     generalize t.t[i].clo false ov A2.length f2 = a at *
     have hl3 : A2.length + a.c.length = (A2 ++ a.c).length := by simp
     rw [hl3] at he
     refine PDraw.sE [.tok tt', .box b [.ms tk2, .mp r], .row tk2 (A2.map Cod.pv), .mp r (.int .i64) (mapM Kn.pa f2) []] [5,6] [7,8,9] tt_ok mixed ?_
     conv=>whnf
     repeat ((first|((first|(apply zY;intro hg)|apply zZ);first|exact stA|exact stB|exact stC)|(refine zW ?_ ?_;exact gA)|refine zH rfl ?_|refine zA ?_|refine zI bA ?_|refine zI rfl ?_|refine sB ?_|(refine zO ?_ ?_ ?_;omega;omega)|(refine zP ?_ ?_ ?_;omega;omega)|refine zM rfl ?_|(refine zQ ?_ ?_ ?_;omega;omega)|(refine zR ?_ ?_;omega)|(refine zI ?_ ?_;exact nA)|refine sS ?_|refine sF ?_|refine n0 ?_|refine sD ?_|refine PDraw.sP (some 62) rfl [13,14] [15] tt_ok mixed ?_|refine PDraw.sQ (some 75) rfl [3] [4,5] tt_ok mixed ?_|intro _);conv=>whnf)
     refine PCall.go hcall (WkT.refl _) ?_
     rintro _ _ ⟨tk3, e1, e2, rfl, rfl⟩
     conv => whnf
     repeat' (first|((first|((first|(apply zY;intro hg)|apply zZ);first|exact stA|exact stB|exact stC)|(refine zW ?_ ?_;exact gA)|refine zH rfl ?_|refine zA ?_|refine zI bA ?_|refine zI rfl ?_|refine sB ?_|(refine zO ?_ ?_ ?_;omega;omega)|(refine zP ?_ ?_ ?_;omega;omega)|refine zM rfl ?_|(refine zQ ?_ ?_ ?_;omega;omega)|(refine zR ?_ ?_;omega)|(refine zI ?_ ?_;exact nA)|refine sS ?_|refine sF ?_|refine n0 ?_|refine sD ?_|refine PDraw.sP (some 62) rfl [13,14] [15] tt_ok mixed ?_|refine PDraw.sQ (some 75) rfl [3] [4,5] tt_ok mixed ?_|intro _|refine zG ?_);conv=>whnf)|(refine zX (fun hc => ?_) (fun hc => ?_)<;>(try simp only [SY] at hc)<;>first|omega|(conv=>whnf)))
     rename_i t5 ht5
     exact loopTo (i + 1, (T ++ [a.t], t5), A2 ++ a.c, a.fm, tk3) ⟨by show i + 1 ≤ _; omega, ht5, e1, e2, by simp; omega, C ++ a.c, by rw [hA2, List.append_assoc], by show (C ++ a.c).length + Trm.bulks (t.t.drop (i + 1)) ≤ _; rw [List.length_append]; omega, he⟩ (by show t.t.length - (i + 1) < t.t.length - i; omega) wA
    ·rw [List.drop_of_length_le (by omega)] at he
     simp only [Trm.clos, preS, List.append_nil] at he
     rw [he, hA2]
     exact PRet.gen (y := .agg (Trm.mk (22) (f.code) [] T).cells) (Γ' := mkrG b r tk2 (A ++ C) f2) TrmOf.wk ⟨tk2, k3, k4, rfl, rfl⟩
   | none =>
    dsimp only
    conv => whnf
    repeat' (first|((first|((first|(apply zY;intro hg)|apply zZ);first|exact stA|exact stB|exact stC)|(refine zW ?_ ?_;exact gA)|refine zH rfl ?_|refine zA ?_|refine zI bA ?_|refine zI rfl ?_|refine sB ?_|(refine zO ?_ ?_ ?_;omega;omega)|(refine zP ?_ ?_ ?_;omega;omega)|refine zM rfl ?_|(refine zQ ?_ ?_ ?_;omega;omega)|(refine zR ?_ ?_;omega)|(refine zI ?_ ?_;exact nA)|refine sS ?_|refine sF ?_|refine n0 ?_|refine sD ?_|refine PDraw.sP (some 62) rfl [13,14] [15] tt_ok mixed ?_|intro _|refine zG ?_);conv=>whnf)|(refine zX (fun hc => ?_) (fun hc => ?_)<;>(try simp only [SY] at hc)<;>first|omega|(conv=>whnf)))
    rename_i b10 hq9
    refine PLoop.ghost (Ghost.trans (Ghost.nil 4 26 _) (Ghost.box (b := b9) (cs := [.int .i64 t.op, .int .i64 t.n, .nil, .nil]) (cs' := [.int .i64 t.op, .int .i64 t.n, .nil, .sl 4 (([] : List Trm).map Trm.pv) (some (nilTok 4 26))]) wA)) ?_
    refine PLoop.over [13, 82, 83, 84, 85, 86, 87, 88, 89, 90, 91, 92, 93, 94, 95] (fun x : Nat × (List Trm × Tok) × List Cod × Fm × Tok => [(82, .int .i64 x.1)]) (fun x => .tok x.2.1.2 :: .box b9 [.int .i64 t.op, .int .i64 t.n, .nil, .sl 4 (x.2.1.1.map Trm.pv) (some x.2.1.2)] :: .box b6 [.int .i64 0, .int .i64 0, .nil, .nil] :: .box b4 [.int .i64 t.op, .int .i64 t.n, .sl 1 (t.v.map (PV.int .i64)) none, .sl 4 (t.t.map Trm.pv) none] :: mkrG b r x.2.2.2.2 x.2.2.1 x.2.2.2.1)
     (fun x => x.1 ≤ t.t.length ∧ x.2.1.2.e = 26 ∧ x.2.2.2.2.e = 88 ∧ x.2.2.2.2.s = 6 ∧ x.2.1.1.length = x.1 ∧ ∃ C, x.2.2.1 = A ++ C ∧ C.length + Trm.bulks (t.t.drop x.1) ≤ Trm.bulks t.t ∧ Trm.clos false t.t ov A.length fm = preS x.2.1.1 C (Trm.clos false (t.t.drop x.1) ov x.2.2.1.length x.2.2.2.1)) (fun x => t.t.length - x.1)
     (0, ([], nilTok 4 26), A, fm, tk) ⟨Nat.zero_le _, rfl, h1, h2, rfl, [], by simp, by simp, (preS_nil (Trm.clos_nil _ _ _ _ _)).symm⟩ wA ?_
    rintro ⟨i, ⟨T, tt'⟩, A2, f2, tk2⟩ ⟨hi, htt, k3, k4, hTl, C, hA2, hcl, he⟩
    dsimp only at hi htt k3 k4 hTl hA2 hcl he ⊢
    conv => whnf
    repeat' (first|((first|((first|(apply zY;intro hg)|apply zZ);first|exact stA|exact stB|exact stC)|(refine zW ?_ ?_;exact gA)|refine zH rfl ?_|refine zA ?_|refine zI bA ?_|refine zI rfl ?_|refine sB ?_|(refine zO ?_ ?_ ?_;omega;omega)|(refine zP ?_ ?_ ?_;omega;omega)|refine zM rfl ?_|(refine zQ ?_ ?_ ?_;omega;omega)|(refine zR ?_ ?_;omega)|(refine zI ?_ ?_;exact nA)|refine sS ?_|refine sF ?_|refine n0 ?_|refine sD ?_|refine PDraw.sP (some 62) rfl [13,14] [15] tt_ok mixed ?_|refine PDraw.sQ (some 75) rfl [3] [4,5] tt_ok mixed ?_|intro _|refine zG ?_);conv=>whnf)|(refine zX (fun hc => ?_) (fun hc => ?_)<;>(try simp only [SY] at hc)<;>first|omega|(conv=>whnf)))
    ·have hit : i < t.t.length := by omega
     rw [drop_at hit, Trm.bulks] at hcl
     rw [drop_at hit, Trm.clos] at he
     have hA2l : A2.length = A.length + C.length := by rw [hA2, List.length_append]
     have hal : (t.t[i].clo false ov A2.length f2).c.length ≤ t.t[i].bulk := (t.t[i].clo_lens false).1 _ _ _
     have hcall := hf _ (List.getElem_mem hit) tk2 A2 f2 ov k3 k4 (by omega) hov
     rw [preS_add] at he
     generalize t.t[i].clo false ov A2.length f2 = a at *
     have hl3 : A2.length + a.c.length = (A2 ++ a.c).length := by simp
     rw [hl3] at he
     refine PDraw.sE [.tok tt', .box b [.ms tk2, .mp r], .row tk2 (A2.map Cod.pv), .mp r (.int .i64) (mapM Kn.pa f2) []] [5,6] [7,8,9] tt_ok mixed ?_
     conv=>whnf
     repeat ((first|((first|(apply zY;intro hg)|apply zZ);first|exact stA|exact stB|exact stC)|(refine zW ?_ ?_;exact gA)|refine zH rfl ?_|refine zA ?_|refine zI bA ?_|refine zI rfl ?_|refine sB ?_|(refine zO ?_ ?_ ?_;omega;omega)|(refine zP ?_ ?_ ?_;omega;omega)|refine zM rfl ?_|(refine zQ ?_ ?_ ?_;omega;omega)|(refine zR ?_ ?_;omega)|(refine zI ?_ ?_;exact nA)|refine sS ?_|refine sF ?_|refine n0 ?_|refine sD ?_|refine PDraw.sP (some 62) rfl [13,14] [15] tt_ok mixed ?_|refine PDraw.sQ (some 75) rfl [3] [4,5] tt_ok mixed ?_|intro _);conv=>whnf)
     refine PCall.go hcall (WkT.refl _) ?_
     rintro _ _ ⟨tk3, e1, e2, rfl, rfl⟩
     conv => whnf
     repeat' (first|((first|((first|(apply zY;intro hg)|apply zZ);first|exact stA|exact stB|exact stC)|(refine zW ?_ ?_;exact gA)|refine zH rfl ?_|refine zA ?_|refine zI bA ?_|refine zI rfl ?_|refine sB ?_|(refine zO ?_ ?_ ?_;omega;omega)|(refine zP ?_ ?_ ?_;omega;omega)|refine zM rfl ?_|(refine zQ ?_ ?_ ?_;omega;omega)|(refine zR ?_ ?_;omega)|(refine zI ?_ ?_;exact nA)|refine sS ?_|refine sF ?_|refine n0 ?_|refine sD ?_|refine PDraw.sP (some 62) rfl [13,14] [15] tt_ok mixed ?_|refine PDraw.sQ (some 75) rfl [3] [4,5] tt_ok mixed ?_|intro _|refine zG ?_);conv=>whnf)|(refine zX (fun hc => ?_) (fun hc => ?_)<;>(try simp only [SY] at hc)<;>first|omega|(conv=>whnf)))
     rename_i t5 ht5
     exact loopTo (i + 1, (T ++ [a.t], t5), A2 ++ a.c, a.fm, tk3) ⟨by show i + 1 ≤ _; omega, ht5, e1, e2, by simp; omega, C ++ a.c, by rw [hA2, List.append_assoc], by show (C ++ a.c).length + Trm.bulks (t.t.drop (i + 1)) ≤ _; rw [List.length_append]; omega, he⟩ (by show t.t.length - (i + 1) < t.t.length - i; omega) wA
    ·rw [List.drop_of_length_le (by omega)] at he
     simp only [Trm.clos, preS, List.append_nil] at he
     rw [he, hA2]
     exact PRet.gen (y := .agg (Trm.mk (t.op) (t.n) [] T).cells) (Γ' := mkrG b r tk2 (A ++ C) f2) TrmOf.wk ⟨tk2, k3, k4, rfl, rfl⟩
  ·rename_i b9 hq9
   have hv0 : t.v = [] := d2 (by omega) (by omega) (by omega)
   have hcf : callF fm t.op t.n t.t = (t.op, t.n) := by
    have e : t.t.headD (.mk 0 0 [] []) = t.t.getD 0 Dfl.d := by cases t.t <;> rfl
    rw [callF, e, if_neg (by omega)]
   have hce : t.clo false ov A.length fm = ⟨.mk t.op t.n [] (Trm.clos false t.t ov A.length fm).t, (Trm.clos false t.t ov A.length fm).c, (Trm.clos false t.t ov A.length fm).fm⟩ := by
    rw [Trm.clo_eq, if_neg (by omega), if_neg (by omega), if_neg (by omega), if_neg (by omega), hcf, hv0]
   rw [hce]
   dsimp only
   refine PLoop.ghost (Ghost.trans (Ghost.nil 4 26 _) (Ghost.box (b := b9) (cs := [.int .i64 t.op, .int .i64 t.n, .nil, .nil]) (cs' := [.int .i64 t.op, .int .i64 t.n, .nil, .sl 4 (([] : List Trm).map Trm.pv) (some (nilTok 4 26))]) wA)) ?_
   refine PLoop.over [13, 82, 83, 84, 85, 86, 87, 88, 89, 90, 91, 92, 93, 94, 95] (fun x : Nat × (List Trm × Tok) × List Cod × Fm × Tok => [(82, .int .i64 x.1)]) (fun x => .tok x.2.1.2 :: .box b9 [.int .i64 t.op, .int .i64 t.n, .nil, .sl 4 (x.2.1.1.map Trm.pv) (some x.2.1.2)] :: .box b6 [.int .i64 0, .int .i64 0, .nil, .nil] :: .box b4 [.int .i64 t.op, .int .i64 t.n, .sl 1 (t.v.map (PV.int .i64)) none, .sl 4 (t.t.map Trm.pv) none] :: mkrG b r x.2.2.2.2 x.2.2.1 x.2.2.2.1)
    (fun x => x.1 ≤ t.t.length ∧ x.2.1.2.e = 26 ∧ x.2.2.2.2.e = 88 ∧ x.2.2.2.2.s = 6 ∧ x.2.1.1.length = x.1 ∧ ∃ C, x.2.2.1 = A ++ C ∧ C.length + Trm.bulks (t.t.drop x.1) ≤ Trm.bulks t.t ∧ Trm.clos false t.t ov A.length fm = preS x.2.1.1 C (Trm.clos false (t.t.drop x.1) ov x.2.2.1.length x.2.2.2.1)) (fun x => t.t.length - x.1)
    (0, ([], nilTok 4 26), A, fm, tk) ⟨Nat.zero_le _, rfl, h1, h2, rfl, [], by simp, by simp, (preS_nil (Trm.clos_nil _ _ _ _ _)).symm⟩ wA ?_
   rintro ⟨i, ⟨T, tt'⟩, A2, f2, tk2⟩ ⟨hi, htt, k3, k4, hTl, C, hA2, hcl, he⟩
   dsimp only at hi htt k3 k4 hTl hA2 hcl he ⊢
   conv => whnf
   repeat' (first|((first|((first|(apply zY;intro hg)|apply zZ);first|exact stA|exact stB|exact stC)|(refine zW ?_ ?_;exact gA)|refine zH rfl ?_|refine zA ?_|refine zI bA ?_|refine zI rfl ?_|refine sB ?_|(refine zO ?_ ?_ ?_;omega;omega)|(refine zP ?_ ?_ ?_;omega;omega)|refine zM rfl ?_|(refine zQ ?_ ?_ ?_;omega;omega)|(refine zR ?_ ?_;omega)|(refine zI ?_ ?_;exact nA)|refine sS ?_|refine sF ?_|refine n0 ?_|refine sD ?_|refine PDraw.sP (some 62) rfl [13,14] [15] tt_ok mixed ?_|refine PDraw.sQ (some 75) rfl [3] [4,5] tt_ok mixed ?_|intro _|refine zG ?_);conv=>whnf)|(refine zX (fun hc => ?_) (fun hc => ?_)<;>(try simp only [SY] at hc)<;>first|omega|(conv=>whnf)))
   ·have hit : i < t.t.length := by omega
    rw [drop_at hit, Trm.bulks] at hcl
    rw [drop_at hit, Trm.clos] at he
    have hA2l : A2.length = A.length + C.length := by rw [hA2, List.length_append]
    have hal : (t.t[i].clo false ov A2.length f2).c.length ≤ t.t[i].bulk := (t.t[i].clo_lens false).1 _ _ _
    have hcall := hf _ (List.getElem_mem hit) tk2 A2 f2 ov k3 k4 (by omega) hov
    rw [preS_add] at he
    generalize t.t[i].clo false ov A2.length f2 = a at *
    have hl3 : A2.length + a.c.length = (A2 ++ a.c).length := by simp
    rw [hl3] at he
    refine PDraw.sE [.tok tt', .box b [.ms tk2, .mp r], .row tk2 (A2.map Cod.pv), .mp r (.int .i64) (mapM Kn.pa f2) []] [5,6] [7,8,9] tt_ok mixed ?_
    conv=>whnf
    repeat ((first|((first|(apply zY;intro hg)|apply zZ);first|exact stA|exact stB|exact stC)|(refine zW ?_ ?_;exact gA)|refine zH rfl ?_|refine zA ?_|refine zI bA ?_|refine zI rfl ?_|refine sB ?_|(refine zO ?_ ?_ ?_;omega;omega)|(refine zP ?_ ?_ ?_;omega;omega)|refine zM rfl ?_|(refine zQ ?_ ?_ ?_;omega;omega)|(refine zR ?_ ?_;omega)|(refine zI ?_ ?_;exact nA)|refine sS ?_|refine sF ?_|refine n0 ?_|refine sD ?_|refine PDraw.sP (some 62) rfl [13,14] [15] tt_ok mixed ?_|refine PDraw.sQ (some 75) rfl [3] [4,5] tt_ok mixed ?_|intro _);conv=>whnf)
    refine PCall.go hcall (WkT.refl _) ?_
    rintro _ _ ⟨tk3, e1, e2, rfl, rfl⟩
    conv => whnf
    repeat' (first|((first|((first|(apply zY;intro hg)|apply zZ);first|exact stA|exact stB|exact stC)|(refine zW ?_ ?_;exact gA)|refine zH rfl ?_|refine zA ?_|refine zI bA ?_|refine zI rfl ?_|refine sB ?_|(refine zO ?_ ?_ ?_;omega;omega)|(refine zP ?_ ?_ ?_;omega;omega)|refine zM rfl ?_|(refine zQ ?_ ?_ ?_;omega;omega)|(refine zR ?_ ?_;omega)|(refine zI ?_ ?_;exact nA)|refine sS ?_|refine sF ?_|refine n0 ?_|refine sD ?_|refine PDraw.sP (some 62) rfl [13,14] [15] tt_ok mixed ?_|refine PDraw.sQ (some 75) rfl [3] [4,5] tt_ok mixed ?_|intro _|refine zG ?_);conv=>whnf)|(refine zX (fun hc => ?_) (fun hc => ?_)<;>(try simp only [SY] at hc)<;>first|omega|(conv=>whnf)))
    rename_i t5 ht5
    exact loopTo (i + 1, (T ++ [a.t], t5), A2 ++ a.c, a.fm, tk3) ⟨by show i + 1 ≤ _; omega, ht5, e1, e2, by simp; omega, C ++ a.c, by rw [hA2, List.append_assoc], by show (C ++ a.c).length + Trm.bulks (t.t.drop (i + 1)) ≤ _; rw [List.length_append]; omega, he⟩ (by show t.t.length - (i + 1) < t.t.length - i; omega) wA
   ·rw [List.drop_of_length_le (by omega)] at he
    simp only [Trm.clos, preS, List.append_nil] at he
    rw [he, hA2]
    exact PRet.gen (y := .agg (Trm.mk (t.op) (t.n) [] T).cells) (Γ' := mkrG b r tk2 (A ++ C) f2) TrmOf.wk ⟨tk2, k3, k4, rfl, rfl⟩
theorem clOk (b r : Nat) (t : Trm) (h1 : t.shI) (h2 : t.shD) : ClOk b r t := (clOk2 b r t h1 h2).1
end Go.Cb
namespace Go.Cb
open Go.Proofs
set_option maxRecDepth 100000
set_option maxHeartbeats 4000000
theorem overD13_c (b : Nat) (tk : Tok) (A : List Cod) (tkk : Tok) (l : List Kw) (t : Trm) (hb : t.bulk ≤ 1000000000) :
  ACall Tryz.prog 160 [.ptr b 0, .agg t.cells] (dmG b tk A tkk l) (fun y Γ' => y = slI (overF (lkF l) t) ∧ Γ' = dmG b tk A tkk l) := by
 have hfl := freeL_len t
 refine ACall.of_body tt_ok Tryz.func160 rfl rfl (n := 42) rfl rfl ?_
 conv => whnf
 repeat ((first|((first|(apply zY;intro hg)|apply zZ);first|exact stA|exact stB|((conv=>whnf);(repeat ((first|(refine zW ?_ ?_;exact gA)|refine pC (FreeD_c t hb) wR ?_|refine zA ?_|refine zH rfl ?_|refine zB ?_|refine sG ?_|intro _);conv=>whnf));first|exact pS|exact pL|exact pE))|(refine zW ?_ ?_;exact gA)|refine zH rfl ?_|refine zA ?_|refine zI bA ?_|refine zI rfl ?_|refine sB ?_|(refine zO ?_ ?_ ?_;omega;omega)|(refine zP ?_ ?_ ?_;omega;omega)|refine zM rfl ?_|(refine zQ ?_ ?_ ?_;omega;omega)|(refine zR ?_ ?_;omega)|(refine zI ?_ ?_;exact nA)|refine sS ?_|refine pC (FreeD_c t hb) wR ?_|refine sF ?_|refine n0 ?_|refine sD ?_|intro _);conv=>whnf)
 rename_i b3
 rw [show overF (lkF l) t = (riseL (freeOf t.all)).filter (fun v => !stF (lkF l) v) from rfl]
 generalize riseL (freeOf t.all) = f at *
 conv => whnf
 repeat' (first|((first|((first|(apply zY;intro hg)|apply zZ);first|exact stA|exact stB|((conv=>whnf);(repeat ((first|(refine zW ?_ ?_;exact gA)|refine pC (FreeD_c t hb) wR ?_|refine zA ?_|refine zH rfl ?_|refine zB ?_|refine sG ?_|intro _);conv=>whnf));first|exact pS|exact pL|exact pE))|(refine zW ?_ ?_;exact gA)|refine zH rfl ?_|refine zA ?_|refine zI bA ?_|refine zI rfl ?_|refine sB ?_|(refine zO ?_ ?_ ?_;omega;omega)|(refine zP ?_ ?_ ?_;omega;omega)|refine zM rfl ?_|(refine zQ ?_ ?_ ?_;omega;omega)|(refine zR ?_ ?_;omega)|(refine zI ?_ ?_;exact nA)|refine sS ?_|refine pC (FreeD_c t hb) wR ?_|refine sF ?_|refine n0 ?_|refine sD ?_|intro _|refine zG ?_);conv=>whnf)|(refine zX (fun hc => ?_) (fun hc => ?_)<;>(try simp only [SY] at hc)<;>first|omega|(conv=>whnf)))
 refine PLoop.ghost (Ghost.nil 1 3 _) ?_
 refine PLoop.over [6, 7, 8, 9, 12, 13, 14, 15, 16, 17, 18, 19, 20, 21, 22, 23, 24, 25, 26, 27, 28, 29, 30, 31, 32, 33, 34, 35, 36, 37, 38, 39, 40] (fun x : Nat × List Int × Tok => [(6, .sl 1 (x.2.1.map (PV.int .i64)) (some x.2.2)), (7, .int .i64 x.1)]) (fun x => .tok x.2.2 :: dmG b tk A tkk l)
  (fun x => x.1 ≤ f.length ∧ x.2.2.e = 3 ∧ x.2.1.length ≤ x.1 ∧ x.2.1 ++ (f.drop x.1).filter (fun v => !stF (lkF l) v) = f.filter fun v => !stF (lkF l) v) (fun x => f.length - x.1) (0, [], nilTok 1 3) ⟨Nat.zero_le _, rfl, Nat.le_refl _, rfl⟩ wA ?_
 rintro ⟨i, m, t3⟩ ⟨hi, ht3, hml, hm⟩
 dsimp only at hi ht3 hml hm ⊢
 conv => whnf
 repeat' (first|((first|((first|(apply zY;intro hg)|apply zZ);first|exact stA|exact stB|((conv=>whnf);(repeat ((first|(refine zW ?_ ?_;exact gA)|refine pC (FreeD_c t hb) wR ?_|refine zA ?_|refine zH rfl ?_|refine zB ?_|refine sG ?_|intro _);conv=>whnf));first|exact pS|exact pL|exact pE))|(refine zW ?_ ?_;exact gA)|refine zH rfl ?_|refine zA ?_|refine zI bA ?_|refine zI rfl ?_|refine sB ?_|(refine zO ?_ ?_ ?_;omega;omega)|(refine zP ?_ ?_ ?_;omega;omega)|refine zM rfl ?_|(refine zQ ?_ ?_ ?_;omega;omega)|(refine zR ?_ ?_;omega)|(refine zI ?_ ?_;exact nA)|refine sS ?_|refine pC (FreeD_c t hb) wR ?_|refine sF ?_|refine n0 ?_|refine sD ?_|intro _|refine zG ?_);conv=>whnf)|(refine zX (fun hc => ?_) (fun hc => ?_)<;>(try simp only [SY] at hc)<;>first|omega|(conv=>whnf)))
 ·have hlt : i < f.length := by omega
  refine PCall.go (find13_c b tk A tkk l f[i]) (WkT.refl _) ?_
  rintro _ _ ⟨rfl, rfl⟩
  have h1 := stF_lkF l f[i]
  rw [drop_at hlt, List.filter_cons] at hm
  cases hl : lkK l f[i] with
  | some x =>
   rw [hl] at h1
   dsimp only at h1
   rw [h1] at hm
   conv => whnf
   repeat' (first|((first|((first|(apply zY;intro hg)|apply zZ);first|exact stA|exact stB|((conv=>whnf);(repeat ((first|(refine zW ?_ ?_;exact gA)|refine pC (FreeD_c t hb) wR ?_|refine zA ?_|refine zH rfl ?_|refine zB ?_|refine sG ?_|intro _);conv=>whnf));first|exact pS|exact pL|exact pE))|(refine zW ?_ ?_;exact gA)|refine zH rfl ?_|refine zA ?_|refine zI bA ?_|refine zI rfl ?_|refine sB ?_|(refine zO ?_ ?_ ?_;omega;omega)|(refine zP ?_ ?_ ?_;omega;omega)|refine zM rfl ?_|(refine zQ ?_ ?_ ?_;omega;omega)|(refine zR ?_ ?_;omega)|(refine zI ?_ ?_;exact nA)|refine sS ?_|refine pC (FreeD_c t hb) wR ?_|refine sF ?_|refine n0 ?_|refine sD ?_|intro _|refine zG ?_);conv=>whnf)|(refine zX (fun hc => ?_) (fun hc => ?_)<;>(try simp only [SY] at hc)<;>first|omega|(conv=>whnf)))
   ·rename_i t5 ht5
    have hst : x.k.st = false := by
     rcases hc with hc | hc
     ·cases hc
     ·exact hc
    rw [hst, if_pos (by simp)] at hm
    exact loopTo (i + 1, m ++ [f[i]], t5) ⟨by show i + 1 ≤ _; omega, ht5, by simp; omega, by dsimp only; rw [List.append_assoc]; exact hm⟩ (by show f.length - (i + 1) < f.length - i; omega) wA
   ·have hst : x.k.st = true := by simpa using hc
    rw [hst, if_neg (by simp)] at hm
    exact loopTo (i + 1, m, t3) ⟨by show i + 1 ≤ _; omega, ht3, by show m.length ≤ i + 1; omega, hm⟩ (by show f.length - (i + 1) < f.length - i; omega) wA
  | none =>
   rw [hl] at h1
   dsimp only at h1
   rw [h1, if_pos (by simp)] at hm
   conv => whnf
   repeat' (first|((first|((first|(apply zY;intro hg)|apply zZ);first|exact stA|exact stB|((conv=>whnf);(repeat ((first|(refine zW ?_ ?_;exact gA)|refine pC (FreeD_c t hb) wR ?_|refine zA ?_|refine zH rfl ?_|refine zB ?_|refine sG ?_|intro _);conv=>whnf));first|exact pS|exact pL|exact pE))|(refine zW ?_ ?_;exact gA)|refine zH rfl ?_|refine zA ?_|refine zI bA ?_|refine zI rfl ?_|refine sB ?_|(refine zO ?_ ?_ ?_;omega;omega)|(refine zP ?_ ?_ ?_;omega;omega)|refine zM rfl ?_|(refine zQ ?_ ?_ ?_;omega;omega)|(refine zR ?_ ?_;omega)|(refine zI ?_ ?_;exact nA)|refine sS ?_|refine pC (FreeD_c t hb) wR ?_|refine sF ?_|refine n0 ?_|refine sD ?_|intro _|refine zG ?_);conv=>whnf)|(refine zX (fun hc => ?_) (fun hc => ?_)<;>(try simp only [SY] at hc)<;>first|omega|(conv=>whnf)))
   rename_i t5 ht5
   exact loopTo (i + 1, m ++ [f[i]], t5) ⟨by show i + 1 ≤ _; omega, ht5, by simp; omega, by dsimp only; rw [List.append_assoc]; exact hm⟩ (by show f.length - (i + 1) < f.length - i; omega) wA
 ·rw [List.drop_of_length_le (by omega), List.filter_nil, List.append_nil] at hm
  rw [← hm]
  exact PRet.gen (y := slI m) (Γ' := dmG b tk A tkk l) wA ⟨rfl, rfl⟩
theorem refsD13_c (b : Nat) (tk : Tok) (A : List Cod) (tkk : Tok) (l : List Kw) (vs ov : List Int) (hl : vs.length ≤ 1000000000) :
  ACall Tryz.prog 161 [.ptr b 0, slI vs, slI ov] (dmG b tk A tkk l) (fun y Γ' => y = .sl 4 ((vs.map (refF (lkF l) ov)).map Trm.pv) none ∧ Γ' = dmG b tk A tkk l) := by
 refine ACall.of_body tt_ok Tryz.func161 rfl rfl (n := 26) rfl rfl ?_
 conv => whnf
 repeat' (first|((first|((first|(apply zY;intro hg)|apply zZ);first|exact stA|exact stB|((conv=>whnf);(repeat ((first|(refine zW ?_ ?_;exact gA)|refine pC (FreeD_c t hb) wR ?_|refine zA ?_|refine zH rfl ?_|refine zB ?_|refine sG ?_|intro _);conv=>whnf));first|exact pS|exact pL|exact pE))|(refine zW ?_ ?_;exact gA)|refine zH rfl ?_|refine zA ?_|refine zI bA ?_|refine zI rfl ?_|refine sB ?_|(refine zO ?_ ?_ ?_;omega;omega)|(refine zP ?_ ?_ ?_;omega;omega)|refine zM rfl ?_|(refine zQ ?_ ?_ ?_;omega;omega)|(refine zR ?_ ?_;omega)|(refine zI ?_ ?_;exact nA)|refine sS ?_|refine pC (FreeD_c t hb) wR ?_|refine sF ?_|refine n0 ?_|refine sD ?_|intro _|refine zG ?_);conv=>whnf)|(refine zX (fun hc => ?_) (fun hc => ?_)<;>(try simp only [SY] at hc)<;>first|omega|(conv=>whnf)))
 refine PLoop.ghost (Ghost.nil 4 26 _) ?_
 refine PLoop.over [7, 8, 9, 10, 11, 12, 13, 14, 15, 16, 17, 18, 19, 20, 21, 22, 23, 24] (fun x : Nat × List Trm × Tok => [(7, .sl 4 (x.2.1.map Trm.pv) (some x.2.2)), (8, .int .i64 x.1)]) (fun x => .tok x.2.2 :: dmG b tk A tkk l)
  (fun x => x.1 ≤ vs.length ∧ x.2.2.e = 26 ∧ x.2.1 = (vs.take x.1).map (refF (lkF l) ov)) (fun x => vs.length - x.1) (0, [], nilTok 4 26) ⟨Nat.zero_le _, rfl, rfl⟩ wA ?_
 rintro ⟨i, m, t3⟩ ⟨hi, ht3, hm⟩
 dsimp only at hi ht3 hm ⊢
 have hml : m.length = i := by rw [hm]; simp; omega
 conv => whnf
 repeat' (first|((first|((first|(apply zY;intro hg)|apply zZ);first|exact stA|exact stB|((conv=>whnf);(repeat ((first|(refine zW ?_ ?_;exact gA)|refine pC (FreeD_c t hb) wR ?_|refine zA ?_|refine zH rfl ?_|refine zB ?_|refine sG ?_|intro _);conv=>whnf));first|exact pS|exact pL|exact pE))|(refine zW ?_ ?_;exact gA)|refine zH rfl ?_|refine zA ?_|refine zI bA ?_|refine zI rfl ?_|refine sB ?_|(refine zO ?_ ?_ ?_;omega;omega)|(refine zP ?_ ?_ ?_;omega;omega)|refine zM rfl ?_|(refine zQ ?_ ?_ ?_;omega;omega)|(refine zR ?_ ?_;omega)|(refine zI ?_ ?_;exact nA)|refine sS ?_|refine pC (FreeD_c t hb) wR ?_|refine sF ?_|refine n0 ?_|refine sD ?_|intro _|refine zG ?_);conv=>whnf)|(refine zX (fun hc => ?_) (fun hc => ?_)<;>(try simp only [SY] at hc)<;>first|omega|(conv=>whnf)))
 ·have hlt : i < vs.length := by omega
  refine PCall.go (refD13_c b tk A tkk l vs[i] ov) (WkT.refl _) ?_
  rintro _ _ ⟨rfl, rfl⟩
  conv => whnf
  repeat' (first|((first|((first|(apply zY;intro hg)|apply zZ);first|exact stA|exact stB|((conv=>whnf);(repeat ((first|(refine zW ?_ ?_;exact gA)|refine pC (FreeD_c t hb) wR ?_|refine zA ?_|refine zH rfl ?_|refine zB ?_|refine sG ?_|intro _);conv=>whnf));first|exact pS|exact pL|exact pE))|(refine zW ?_ ?_;exact gA)|refine zH rfl ?_|refine zA ?_|refine zI bA ?_|refine zI rfl ?_|refine sB ?_|(refine zO ?_ ?_ ?_;omega;omega)|(refine zP ?_ ?_ ?_;omega;omega)|refine zM rfl ?_|(refine zQ ?_ ?_ ?_;omega;omega)|(refine zR ?_ ?_;omega)|(refine zI ?_ ?_;exact nA)|refine sS ?_|refine pC (FreeD_c t hb) wR ?_|refine sF ?_|refine n0 ?_|refine sD ?_|intro _|refine zG ?_);conv=>whnf)|(refine zX (fun hc => ?_) (fun hc => ?_)<;>(try simp only [SY] at hc)<;>first|omega|(conv=>whnf)))
  rename_i t5 ht5
  refine loopTo (i + 1, m ++ [refF (lkF l) ov vs[i]], t5) ⟨by show i + 1 ≤ _; omega, ht5, ?_⟩ (by show vs.length - (i + 1) < vs.length - i; omega) wA
  show m ++ [_] = _
  rw [hm, List.take_succ_eq_append_getElem hlt, List.map_append]
  rfl
 ·rw [List.take_of_length_le (by omega)] at hm
  rw [← hm]
  exact PRet.gen (y := .sl 4 (m.map Trm.pv) none) (Γ' := dmG b tk A tkk l) (Wk.tok _ _ _) ⟨rfl, rfl⟩
theorem codeD13_c (b : Nat) (tk : Tok) (A : List Cod) (tkk : Tok) (l : List Kw) (t : Trm) (hb : t.bulk ≤ 1000000000) (h1 : tk.e = 88) (h2 : tk.s = 6) (hA : A.length ≤ 1000000000) :
  ACall Tryz.prog 92 [.ptr b 0, .agg t.cells] (dmG b tk A tkk l) (fun y Γ' => ∃ tk', tk'.e = 88 ∧ tk'.s = 6 ∧ y = .int .i64 A.length ∧ Γ' = dmG b tk' (A ++ [⟨t.v, t.n == 1, noT⟩]) tkk l) := by
 have hbe := t.bulk_eq
 refine ACall.of_body tt_ok Tryz.func92 rfl rfl (n := 26) rfl rfl ?_
 conv => whnf
 repeat ((first|((first|(apply zY;intro hg)|apply zZ);first|exact stA|exact stB|((conv=>whnf);(repeat ((first|(refine zW ?_ ?_;exact gA)|refine pC (FreeD_c t hb) wR ?_|refine zA ?_|refine zH rfl ?_|refine zB ?_|refine sG ?_|intro _);conv=>whnf));first|exact pS|exact pL|exact pE))|(refine zW ?_ ?_;exact gA)|refine zH rfl ?_|refine zA ?_|refine zI bA ?_|refine zI rfl ?_|refine sB ?_|(refine zO ?_ ?_ ?_;omega;omega)|(refine zP ?_ ?_ ?_;omega;omega)|refine zM rfl ?_|(refine zQ ?_ ?_ ?_;omega;omega)|(refine zR ?_ ?_;omega)|(refine zI ?_ ?_;exact nA)|refine sS ?_|refine pC (FreeD_c t hb) wR ?_|refine sF ?_|refine n0 ?_|refine sD ?_|intro _);conv=>whnf)
 refine PDraw.sE [.box b [.ms tk, .sl 3 (l.map Kw.pv) (some tkk)], .row tk (A.map Cod.pv)] [4,12] [13,14,15] tt_ok mixed ?_
 conv=>whnf
 repeat' (first|((first|((first|(apply zY;intro hg)|apply zZ);first|exact stA|exact stB|((conv=>whnf);(repeat ((first|(refine zW ?_ ?_;exact gA)|refine pC (FreeD_c t hb) wR ?_|refine zA ?_|refine zH rfl ?_|refine zB ?_|refine sG ?_|intro _);conv=>whnf));first|exact pS|exact pL|exact pE))|(refine zW ?_ ?_;exact gA)|refine zH rfl ?_|refine zA ?_|refine zI bA ?_|refine zI rfl ?_|refine sB ?_|(refine zO ?_ ?_ ?_;omega;omega)|(refine zP ?_ ?_ ?_;omega;omega)|refine zM rfl ?_|(refine zQ ?_ ?_ ?_;omega;omega)|(refine zR ?_ ?_;omega)|(refine zI ?_ ?_;exact nA)|refine sS ?_|refine pC (FreeD_c t hb) wR ?_|refine sF ?_|refine n0 ?_|refine sD ?_|intro _|refine zG ?_);conv=>whnf)|(refine zX (fun hc => ?_) (fun hc => ?_)<;>(try simp only [SY] at hc)<;>first|omega|(conv=>whnf)))
 rename_i b3 tk2 e1 e2
 refine PLenM.map fun _ => ?_
 conv => whnf
 repeat' (first|((first|((first|(apply zY;intro hg)|apply zZ);first|exact stA|exact stB|((conv=>whnf);(repeat ((first|(refine zW ?_ ?_;exact gA)|refine pC (FreeD_c t hb) wR ?_|refine zA ?_|refine zH rfl ?_|refine zB ?_|refine sG ?_|intro _);conv=>whnf));first|exact pS|exact pL|exact pE))|(refine zW ?_ ?_;exact gA)|refine zH rfl ?_|refine zA ?_|refine zI bA ?_|refine zI rfl ?_|refine sB ?_|(refine zO ?_ ?_ ?_;omega;omega)|(refine zP ?_ ?_ ?_;omega;omega)|refine zM rfl ?_|(refine zQ ?_ ?_ ?_;omega;omega)|(refine zR ?_ ?_;omega)|(refine zI ?_ ?_;exact nA)|refine sS ?_|refine pC (FreeD_c t hb) wR ?_|refine sF ?_|refine n0 ?_|refine sD ?_|intro _|refine zG ?_);conv=>whnf)|(refine zX (fun hc => ?_) (fun hc => ?_)<;>(try simp only [SY] at hc)<;>first|omega|(conv=>whnf)))
 exact PRet.gen (y := .int .i64 (A.length : Int)) (Γ' := dmG b tk2 (A ++ [⟨t.v, t.n == 1, noT⟩]) tkk l) (Wk.int (by simp)) ⟨tk2, e1, e2, rfl, rfl⟩
def ClOkD (b : Nat) (x : Trm) : Prop := ∀ tk A tkk l ov, tk.e = 88 → tk.s = 6 → tkk.e = 149 → A.length + x.bulk ≤ 1000000000 → l.length + x.bulk ≤ 1000000000 → ov.length ≤ 1000000000 →
 ACall Tryz.prog 45 [.ptr b 0, .agg x.cells, slI ov] (dmG b tk A tkk l) (fun y Γ' => ∃ tk' tkk' l', tk'.e = 88 ∧ tk'.s = 6 ∧ tkk'.e = 149 ∧ l'.length ≤ l.length + x.bulk ∧ lkF l' = (x.clo true ov A.length (lkF l)).fm ∧
  y = .agg (x.clo true ov A.length (lkF l)).t.cells ∧ Γ' = dmG b tk' (A ++ (x.clo true ov A.length (lkF l)).c) tkk' l')
theorem bodyD13_c (b : Nat) (tk : Tok) (A : List Cod) (tkk : Tok) (l : List Kw) (n : Nat) (t x : Trm) (hA : A[n]? = some ⟨t.v, t.n == 1, noT⟩) (xs : List Trm) (ht : t.t = x :: xs) (hx : ClOkD b x) (h1 : tk.e = 88) (h2 : tk.s = 6) (h3 : tkk.e = 149) (hb : A.length + x.bulk ≤ 1000000000) (hl : l.length + x.bulk ≤ 1000000000) (htb : t.bulk ≤ 1000000000) :
  ACall Tryz.prog 93 [.ptr b 0, .int .i64 n, .agg t.cells] (dmG b tk A tkk l)
   (fun y Γ' => ∃ tk' tkk' l', tk'.e = 88 ∧ tk'.s = 6 ∧ tkk'.e = 149 ∧ l'.length ≤ l.length + x.bulk ∧ lkF l' = (t.cloB true (overF (lkF l) t) A.length (lkF l)).fm ∧ y = .tup [] ∧
    Γ' = dmG b tk' (A.set n ⟨t.v, t.n == 1, (t.cloB true (overF (lkF l) t) A.length (lkF l)).t⟩ ++ (t.cloB true (overF (lkF l) t) A.length (lkF l)).c) tkk' l') := by
 obtain ⟨hn, hAn⟩ := List.getElem?_eq_some_iff.1 hA
 have hbe := t.bulk_eq
 have hbx : Trm.bulks t.t = x.bulk + Trm.bulks xs := by rw [ht, Trm.bulks]
 have hol := overF_len (lkF l) t
 have hl0 : 0 < t.t.length := by rw [ht]; simp
 have h0 : t.t[0] = x := by simp [ht]
 have hcb : ∀ ov n fm, t.cloB true ov n fm = x.clo true ov n fm := fun ov n fm => by rw [Trm.cloB_eq, ht, Trm.cloH]
 rw [hcb]
 refine ACall.of_body tt_ok Tryz.func93 rfl rfl (n := 26) rfl rfl ?_
 conv => whnf
 repeat ((first|((first|(apply zY;intro hg)|apply zZ);first|exact stA|exact stB|((conv=>whnf);(repeat ((first|(refine zW ?_ ?_;exact gA)|refine pC (FreeD_c t hb) wR ?_|refine zA ?_|refine zH rfl ?_|refine zB ?_|refine sG ?_|intro _);conv=>whnf));first|exact pS|exact pL|exact pE))|(refine zW ?_ ?_;exact gA)|refine zH rfl ?_|refine zA ?_|refine zI bA ?_|refine zI rfl ?_|refine sB ?_|(refine zO ?_ ?_ ?_;omega;omega)|(refine zP ?_ ?_ ?_;omega;omega)|refine zM rfl ?_|(refine zQ ?_ ?_ ?_;omega;omega)|(refine zR ?_ ?_;omega)|(refine zI ?_ ?_;exact nA)|refine sS ?_|refine pC (FreeD_c t hb) wR ?_|refine sF ?_|refine n0 ?_|refine sD ?_|intro _);conv=>whnf)
 rename_i b6
 refine PCall.go (overD13_c b tk A tkk l t (by omega)) (WkT.refl _) ?_
 rintro _ _ ⟨rfl, rfl⟩
 generalize hown : overF (lkF l) t = own at *
 conv => whnf
 repeat' (first|((first|((first|(apply zY;intro hg)|apply zZ);first|exact stA|exact stB|((conv=>whnf);(repeat ((first|(refine zW ?_ ?_;exact gA)|refine pC (FreeD_c t hb) wR ?_|refine zA ?_|refine zH rfl ?_|refine zB ?_|refine sG ?_|intro _);conv=>whnf));first|exact pS|exact pL|exact pE))|(refine zW ?_ ?_;exact gA)|refine zH rfl ?_|refine zA ?_|refine zI bA ?_|refine zI rfl ?_|refine sB ?_|(refine zO ?_ ?_ ?_;omega;omega)|(refine zP ?_ ?_ ?_;omega;omega)|refine zM rfl ?_|(refine zQ ?_ ?_ ?_;omega;omega)|(refine zR ?_ ?_;omega)|(refine zI ?_ ?_;exact nA)|refine sS ?_|refine pC (FreeD_c t hb) wR ?_|refine sF ?_|refine n0 ?_|refine sD ?_|intro _|refine zG ?_);conv=>whnf)|(refine zX (fun hc => ?_) (fun hc => ?_)<;>(try simp only [SY] at hc)<;>first|omega|(conv=>whnf)))
 have hx0 : ClOkD b t.t[0] := by rw [h0]; exact hx
 refine PCall.go (hx0 tk A tkk l own h1 h2 h3 (by rw [h0]; omega) (by rw [h0]; omega) (by omega)) (WkT.refl _) ?_
 rintro _ _ ⟨tk1, tkk1, l1, k1, k2, k3, k4, k5, rfl, rfl⟩
 rw [h0] at k4 k5 ⊢
 have hcl := (x.clo_lens true).1 own A.length (lkF l)
 generalize x.clo true own A.length (lkF l) = bo at *
 obtain ⟨bt, bc, fm1⟩ := bo
 dsimp only at hcl k5 ⊢
 conv => whnf
 repeat' (first|((first|((first|(apply zY;intro hg)|apply zZ);first|exact stA|exact stB|((conv=>whnf);(repeat ((first|(refine zW ?_ ?_;exact gA)|refine pC (FreeD_c t hb) wR ?_|refine zA ?_|refine zH rfl ?_|refine zB ?_|refine sG ?_|intro _);conv=>whnf));first|exact pS|exact pL|exact pE))|(refine zW ?_ ?_;exact gA)|refine zH rfl ?_|refine zA ?_|refine zI bA ?_|refine zI rfl ?_|refine sB ?_|(refine zO ?_ ?_ ?_;omega;omega)|(refine zP ?_ ?_ ?_;omega;omega)|refine zM rfl ?_|(refine zQ ?_ ?_ ?_;omega;omega)|(refine zR ?_ ?_;omega)|(refine zI ?_ ?_;exact nA)|refine sS ?_|refine pC (FreeD_c t hb) wR ?_|refine sF ?_|refine n0 ?_|refine sD ?_|intro _|refine zG ?_);conv=>whnf)|(refine zX (fun hc => ?_) (fun hc => ?_)<;>(try simp only [SY] at hc)<;>first|omega|(conv=>whnf)))
 rename_i b10
 have hnl : n < (A ++ bc).length := by rw [List.length_append]; omega
 refine PDraw.sE [.box b [.ms tk1, .sl 3 (l1.map Kw.pv) (some tkk1)], .row tk1 ((A ++ bc).map Cod.pv)] [3] [6,7,8] tt_ok mixed ?_
 conv=>whnf
 repeat ((first|((first|(apply zY;intro hg)|apply zZ);first|exact stA|exact stB|((conv=>whnf);(repeat ((first|(refine zW ?_ ?_;exact gA)|refine pC (FreeD_c t hb) wR ?_|refine zA ?_|refine zH rfl ?_|refine zB ?_|refine sG ?_|intro _);conv=>whnf));first|exact pS|exact pL|exact pE))|(refine zW ?_ ?_;exact gA)|refine zH rfl ?_|refine zA ?_|refine zI bA ?_|refine zI rfl ?_|refine sB ?_|(refine zO ?_ ?_ ?_;omega;omega)|(refine zP ?_ ?_ ?_;omega;omega)|refine zM rfl ?_|(refine zQ ?_ ?_ ?_;omega;omega)|(refine zR ?_ ?_;omega)|(refine zI ?_ ?_;exact nA)|refine sS ?_|refine pC (FreeD_c t hb) wR ?_|refine sF ?_|refine n0 ?_|refine sD ?_|intro _);conv=>whnf)
 refine PStore.row (f := Cod.pv) (l := A ++ bc) (⟨(A ++ bc)[n].v, (A ++ bc)[n].rest, bt⟩ : Cod) hnl rfl rfl rfl (xs := bt.cells) (WkL.refl _) rfl ?_
 have hset : (A ++ bc).set n ⟨(A ++ bc)[n].v, (A ++ bc)[n].rest, bt⟩ = A.set n ⟨t.v, t.n == 1, bt⟩ ++ bc := by
  rw [List.getElem_append_left hn, List.set_append_left _ _ hn, hAn]
 rw [hset]
 generalize A.set n ⟨t.v, t.n == 1, bt⟩ ++ bc = A2
 conv => whnf
 repeat' (first|((first|((first|(apply zY;intro hg)|apply zZ);first|exact stA|exact stB|((conv=>whnf);(repeat ((first|(refine zW ?_ ?_;exact gA)|refine pC (FreeD_c t hb) wR ?_|refine zA ?_|refine zH rfl ?_|refine zB ?_|refine sG ?_|intro _);conv=>whnf));first|exact pS|exact pL|exact pE))|(refine zW ?_ ?_;exact gA)|refine zH rfl ?_|refine zA ?_|refine zI bA ?_|refine zI rfl ?_|refine sB ?_|(refine zO ?_ ?_ ?_;omega;omega)|(refine zP ?_ ?_ ?_;omega;omega)|refine zM rfl ?_|(refine zQ ?_ ?_ ?_;omega;omega)|(refine zR ?_ ?_;omega)|(refine zI ?_ ?_;exact nA)|refine sS ?_|refine pC (FreeD_c t hb) wR ?_|refine sF ?_|refine n0 ?_|refine sD ?_|intro _|refine zG ?_);conv=>whnf)|(refine zX (fun hc => ?_) (fun hc => ?_)<;>(try simp only [SY] at hc)<;>first|omega|(conv=>whnf)))
 exact PRet.gen (y := .tup []) (Γ' := dmG b tk1 A2 tkk1 l1) (Wk.refl _) ⟨tk1, tkk1, l1, k1, k2, k3, k4, k5, rfl, rfl⟩
theorem lamD13_c (b : Nat) (tk : Tok) (A : List Cod) (tkk : Tok) (l : List Kw) (n : Int) (t : Trm) (hb : t.bulk ≤ 1000000000) (ov : List Int) :
  ACall Tryz.prog 94 [.ptr b 0, .int .i64 n, .agg t.cells, slI ov] (dmG b tk A tkk l)
   (fun y Γ' => y = .agg (cloT n ((overF (lkF l) t).map (refF (lkF l) ov))).cells ∧ Γ' = dmG b tk A tkk l) := by
 have hol := overF_len (lkF l) t
 refine ACall.of_body tt_ok Tryz.func94 rfl rfl (n := 24) rfl rfl ?_
 conv => whnf
 repeat ((first|((first|(apply zY;intro hg)|apply zZ);first|exact stA|exact stB|((conv=>whnf);(repeat ((first|(refine zW ?_ ?_;exact gA)|refine pC (FreeD_c t hb) wR ?_|refine zA ?_|refine zH rfl ?_|refine zB ?_|refine sG ?_|intro _);conv=>whnf));first|exact pS|exact pL|exact pE))|(refine zW ?_ ?_;exact gA)|refine zH rfl ?_|refine zA ?_|refine zI bA ?_|refine zI rfl ?_|refine sB ?_|(refine zO ?_ ?_ ?_;omega;omega)|(refine zP ?_ ?_ ?_;omega;omega)|refine zM rfl ?_|(refine zQ ?_ ?_ ?_;omega;omega)|(refine zR ?_ ?_;omega)|(refine zI ?_ ?_;exact nA)|refine sS ?_|refine pC (FreeD_c t hb) wR ?_|refine sF ?_|refine n0 ?_|refine sD ?_|intro _);conv=>whnf)
 rename_i b6 b8
 refine PCall.go (overD13_c b tk A tkk l t hb) (WkT.refl _) ?_
 rintro _ _ ⟨rfl, rfl⟩
 have hml : ((overF (lkF l) t).map (refF (lkF l) ov)).length = (overF (lkF l) t).length := List.length_map ..
 have hrs := refsD13_c b tk A tkk l (overF (lkF l) t) ov (by omega)
 generalize (overF (lkF l) t).map (refF (lkF l) ov) = rs at *
 conv => whnf
 repeat' (first|((first|((first|(apply zY;intro hg)|apply zZ);first|exact stA|exact stB|((conv=>whnf);(repeat ((first|(refine zW ?_ ?_;exact gA)|refine pC (FreeD_c t hb) wR ?_|refine zA ?_|refine zH rfl ?_|refine zB ?_|refine sG ?_|intro _);conv=>whnf));first|exact pS|exact pL|exact pE))|(refine zW ?_ ?_;exact gA)|refine zH rfl ?_|refine zA ?_|refine zI bA ?_|refine zI rfl ?_|refine sB ?_|(refine zO ?_ ?_ ?_;omega;omega)|(refine zP ?_ ?_ ?_;omega;omega)|refine zM rfl ?_|(refine zQ ?_ ?_ ?_;omega;omega)|(refine zR ?_ ?_;omega)|(refine zI ?_ ?_;exact nA)|refine sS ?_|refine pC (FreeD_c t hb) wR ?_|refine sF ?_|refine n0 ?_|refine sD ?_|intro _|refine zG ?_);conv=>whnf)|(refine zX (fun hc => ?_) (fun hc => ?_)<;>(try simp only [SY] at hc)<;>first|omega|(conv=>whnf)))
 ·rw [cloT, if_pos (by omega)]
  exact PRet.gen (y := .agg (Trm.mk 21 n [] []).cells) (Γ' := dmG b tk A tkk l) TrmOf.wk ⟨rfl, rfl⟩
 ·rw [cloT, if_neg (by omega)]
  refine PCall.go hrs (WkT.refl _) ?_
  rintro _ _ ⟨rfl, rfl⟩
  conv => whnf
  repeat' (first|((first|((first|(apply zY;intro hg)|apply zZ);first|exact stA|exact stB|((conv=>whnf);(repeat ((first|(refine zW ?_ ?_;exact gA)|refine pC (FreeD_c t hb) wR ?_|refine zA ?_|refine zH rfl ?_|refine zB ?_|refine sG ?_|intro _);conv=>whnf));first|exact pS|exact pL|exact pE))|(refine zW ?_ ?_;exact gA)|refine zH rfl ?_|refine zA ?_|refine zI bA ?_|refine zI rfl ?_|refine sB ?_|(refine zO ?_ ?_ ?_;omega;omega)|(refine zP ?_ ?_ ?_;omega;omega)|refine zM rfl ?_|(refine zQ ?_ ?_ ?_;omega;omega)|(refine zR ?_ ?_;omega)|(refine zI ?_ ?_;exact nA)|refine sS ?_|refine pC (FreeD_c t hb) wR ?_|refine sF ?_|refine n0 ?_|refine sD ?_|intro _|refine zG ?_);conv=>whnf)|(refine zX (fun hc => ?_) (fun hc => ?_)<;>(try simp only [SY] at hc)<;>first|omega|(conv=>whnf)))
  exact PRet.gen (y := .agg (Trm.mk 19 n [] rs).cells) (Γ' := dmG b tk A tkk l) TrmOf.wk ⟨rfl, rfl⟩
end Go.Cb
namespace Go.Cb
open Go.Proofs
set_option maxRecDepth 100000
set_option maxHeartbeats 4000000
def kwL (l : List Kw) : List (Int × Kn) := l.map fun x => (x.v, x.k)
theorem lkF_learn : ∀ (m l : List Kw), lkF (l ++ m) = learnF true (kwL m) (lkF l)
 | [], l => by simp [kwL, learnF]
 | x :: m, l => by
  have ih := lkF_learn m (l ++ [x])
  rw [List.append_assoc, List.singleton_append, lkF_app] at ih
  rw [ih]
  rfl
instance ElOf.kw (a c : Int) (s : Bool) : ElOf Kw.pv (.agg [.int .i64 a, .int .i64 c, .bool s]) ⟨a, ⟨c, s⟩⟩ := ⟨Wk.refl _, WkL.refl _⟩
theorem lamD_eq {t : Trm} (h4 : t.op = 4) (ov : List Int) (n : Nat) (fm : Fm) : t.clo true ov n fm =
  ⟨cloT n ((overF (t.cloB true (overF fm t) (n + 1) fm).fm t).map (refF (t.cloB true (overF fm t) (n + 1) fm).fm ov)), ⟨t.v, t.n == 1, (t.cloB true (overF fm t) (n + 1) fm).t⟩ :: (t.cloB true (overF fm t) (n + 1) fm).c, (t.cloB true (overF fm t) (n + 1) fm).fm⟩ := by
 rw [Trm.clo_eq, if_neg (by omega), if_pos h4, if_pos rfl]
abbrev letGD (b b4 b6 b8 : Nat) (t : Trm) (V : List Int) (tv : Tok) (T : List Trm) (tt' : Tok) (A1 : List Cod) (L1 : List Kw) (tk1 tkk1 tn : Tok) : List Ent := .tok tn :: .tok tv :: .tok tt' :: .box b8 [.int .i64 8, .int .i64 0, .sl 1 (V.map (PV.int .i64)) (some tv), .sl 4 (T.map Trm.pv) (some tt')] ::
 .box b6 [.int .i64 0, .int .i64 0, .nil, .nil] :: .box b4 [.int .i64 t.op, .int .i64 t.n, .sl 1 (t.v.map (PV.int .i64)) none, .sl 4 (t.t.map Trm.pv) none] :: dmG b tk1 A1 tkk1 L1
theorem letD13_c (b : Nat) (tk : Tok) (A : List Cod) (tkk : Tok) (l : List Kw) (t : Trm) (ht : t.t.length = t.v.length + 1) (hx : ∀ y ∈ t.t, ClOkD b y) (hlam : ∀ y ∈ t.t, y.op = 4 → ∃ z zs, y.t = z :: zs ∧ ClOkD b z) (ov : List Int) (h8 : t.op = 8) (h1 : tk.e = 88) (h2 : tk.s = 6) (h3 : tkk.e = 149) (hb : A.length + t.bulk ≤ 1000000000) (hl : l.length + t.bulk ≤ 1000000000) (hov : ov.length ≤ 1000000000) :
  ACall Tryz.prog 95 [.ptr b 0, .agg t.cells, slI ov] (dmG b tk A tkk l)
   (fun y Γ' => ∃ tk' tkk' l', tk'.e = 88 ∧ tk'.s = 6 ∧ tkk'.e = 149 ∧ l'.length ≤ l.length + t.bulk ∧ lkF l' = (t.clo true ov A.length (lkF l)).fm ∧
    y = .agg (t.clo true ov A.length (lkF l)).t.cells ∧ Γ' = dmG b tk' (A ++ (t.clo true ov A.length (lkF l)).c) tkk' l') := by
 have hbe := t.bulk_eq
 rw [Trm.clo_eq, if_neg (by omega), if_neg (by omega), if_pos h8]
 refine ACall.of_body tt_ok Tryz.func95 rfl rfl (n := 138) rfl rfl ?_
 conv => whnf
 repeat' (first|((first|((first|(apply zY;intro hg)|apply zZ);first|exact stA|exact stB|exact stC)|(refine zW ?_ ?_;exact gA)|refine zH rfl ?_|refine zA ?_|refine zI bA ?_|refine zI rfl ?_|refine sB ?_|(refine zO ?_ ?_ ?_;omega;omega)|(refine zP ?_ ?_ ?_;omega;omega)|refine zM rfl ?_|(refine zQ ?_ ?_ ?_;omega;omega)|(refine zR ?_ ?_;omega)|(refine zI ?_ ?_;exact nA)|refine sS ?_|refine sF ?_|refine n0 ?_|refine sD ?_|refine PDraw.sP (some 30) rfl [] [8,9,10] tt_ok mixed ?_|refine PDraw.sP (some 77) rfl [] [12,13] tt_ok mixed ?_|refine PDraw.sP (some 93) rfl [] [8,9,10] tt_ok mixed ?_|intro _|refine zG ?_);conv=>whnf)|(refine zX (fun hc => ?_) (fun hc => ?_)<;>(try simp only [SY] at hc)<;>first|omega|(conv=>whnf)))
 rename_i b4 b6 hq0 b8
 refine PLoop.ghost (Ghost.trans (Ghost.nil 3 149 _) (Ghost.trans (Ghost.nil 1 3 _) (Ghost.trans (Ghost.nil 4 26 _) (Ghost.box (b := b8) (cs := [.int .i64 8, .int .i64 0, .nil, .nil]) (cs' := [.int .i64 8, .int .i64 0, .sl 1 (([] : List Int).map (PV.int .i64)) (some (nilTok 1 3)), .sl 4 (([] : List Trm).map Trm.pv) (some (nilTok 4 26))]) wA)))) ?_
 refine PLoop.over [9, 10, 11, 12, 18, 19, 20, 21, 22, 23, 24, 25, 26, 27, 28, 29, 30, 31, 32, 33, 34, 35, 36, 37, 38, 39, 40, 41, 42, 43, 44, 45, 46, 47, 48, 49, 50, 51, 52, 53, 54, 55, 56, 57, 58, 59, 60, 61, 62, 63, 64, 65, 66, 67, 68, 69, 70, 71, 72, 73, 74, 75, 76, 77, 78, 79, 80, 81, 82, 83, 84, 85, 86, 87, 88, 89, 90, 91, 92, 93, 94, 95, 96, 97, 98, 99, 100, 101, 102, 103, 104, 105, 106, 107, 108] (fun x : Nat × (List Int × Tok) × (List Trm × Tok) × List Cod × List Kw × Tok × Tok × (List Kw × Tok) => [(9, .sl 3 (x.2.2.2.2.2.2.2.1.map Kw.pv) (some x.2.2.2.2.2.2.2.2)), (10, .int .i64 x.1)])
  (fun x => letGD b b4 b6 b8 t x.2.1.1 x.2.1.2 x.2.2.1.1 x.2.2.1.2 x.2.2.2.1 x.2.2.2.2.1 x.2.2.2.2.2.1 x.2.2.2.2.2.2.1 x.2.2.2.2.2.2.2.2)
  (fun x => x.1 ≤ t.v.length ∧ x.2.1.2.e = 3 ∧ x.2.2.1.2.e = 26 ∧ x.2.2.2.2.2.1.e = 88 ∧ x.2.2.2.2.2.1.s = 6 ∧ x.2.2.2.2.2.2.1.e = 149 ∧ x.2.2.2.2.2.2.2.2.e = 149 ∧ x.2.1.1.length ≤ x.1 ∧ x.2.2.1.1.length = x.2.1.1.length ∧ x.2.2.2.2.2.2.2.1.length ≤ x.1 ∧ x.2.2.2.2.1.length + Trm.bulks (t.t.drop x.1) ≤ l.length + Trm.bulks t.t ∧ ∃ C, x.2.2.2.1 = A ++ C ∧ C.length + Trm.bulks (t.t.drop x.1) ≤ Trm.bulks t.t ∧
   Trm.cloL true t.t t.v ov A.length (lkF l) [] = preL x.2.1.1 x.2.2.1.1 C (Trm.cloL true (t.t.drop x.1) (t.v.drop x.1) ov x.2.2.2.1.length (lkF x.2.2.2.2.1) (kwL x.2.2.2.2.2.2.2.1))) (fun x => t.v.length - x.1)
  (0, ([], nilTok 1 3), ([], nilTok 4 26), A, l, tk, tkk, ([], nilTok 3 149)) ⟨Nat.zero_le _, rfl, rfl, h1, h2, h3, rfl, by simp, rfl, by simp, by simp, [], by simp, by simp, (preL_nil (Trm.cloL_own _ _ _ _ _ _ _)).symm⟩ wA ?_
 rintro ⟨i, ⟨V, tv⟩, ⟨T, tt'⟩, A1, L1, tk1, tkk1, ⟨nw, tn⟩⟩ ⟨hi, htv, htt, k1, k2, k3, htn, hvl, htl, hnl, hLl, C, hA1, hcl, he⟩
 dsimp only at hi htv htt k1 k2 k3 htn hvl htl hnl hLl hA1 hcl he ⊢
 conv => whnf
 repeat' (first|((first|((first|(apply zY;intro hg)|apply zZ);first|exact stA|exact stB|exact stC)|(refine zW ?_ ?_;exact gA)|refine zH rfl ?_|refine zA ?_|refine zI bA ?_|refine zI rfl ?_|refine sB ?_|(refine zO ?_ ?_ ?_;omega;omega)|(refine zP ?_ ?_ ?_;omega;omega)|refine zM rfl ?_|(refine zQ ?_ ?_ ?_;omega;omega)|(refine zR ?_ ?_;omega)|(refine zI ?_ ?_;exact nA)|refine sS ?_|refine sF ?_|refine n0 ?_|refine sD ?_|refine PDraw.sP (some 30) rfl [] [8,9,10] tt_ok mixed ?_|refine PDraw.sP (some 77) rfl [] [12,13] tt_ok mixed ?_|refine PDraw.sP (some 93) rfl [] [8,9,10] tt_ok mixed ?_|intro _|refine zG ?_);conv=>whnf)|(refine zX (fun hc => ?_) (fun hc => ?_)<;>(try simp only [SY] at hc)<;>first|omega|(conv=>whnf)))
 ·have hit : i < t.t.length := by omega
  have hiv : i < t.v.length := by omega
  rw [drop_at hit, Trm.bulks] at hcl hLl
  have hal : (t.t[i].clo true ov A1.length (lkF L1)).c.length ≤ t.t[i].bulk := (t.t[i].clo_lens true).1 ov A1.length (lkF L1)
  have hA1l : A1.length = A.length + C.length := by rw [hA1, List.length_append]
  have hcall := hx _ (List.getElem_mem hit) tk1 A1 tkk1 L1 ov k1 k2 k3 (by omega) (by omega) hov
  rw [drop_at hit, drop_at hiv, Trm.cloL] at he
  generalize t.t[i].clo true ov A1.length (lkF L1) = a at *
  obtain ⟨at', ac, af⟩ := a
  dsimp only at hal he hcall ⊢
  rw [if_neg hc, if_neg (fun h => hc h.1), if_neg (fun h => hc h.1)] at he
  have hA2 : (A1 ++ ac).length = A1.length + ac.length := List.length_append ..
  rw [← hA2, preL_add] at he
  rename_i t5 ht5
  refine PDraw.sE [.tok tt', .box b [.ms tk1, .sl 3 (L1.map Kw.pv) (some tkk1)], .row tk1 (A1.map Cod.pv), .tok tkk1] [9,10] [11,12,13] tt_ok mixed ?_
  conv=>whnf
  repeat ((first|((first|(apply zY;intro hg)|apply zZ);first|exact stA|exact stB|exact stC)|(refine zW ?_ ?_;exact gA)|refine zH rfl ?_|refine zA ?_|refine zI bA ?_|refine zI rfl ?_|refine sB ?_|(refine zO ?_ ?_ ?_;omega;omega)|(refine zP ?_ ?_ ?_;omega;omega)|refine zM rfl ?_|(refine zQ ?_ ?_ ?_;omega;omega)|(refine zR ?_ ?_;omega)|(refine zI ?_ ?_;exact nA)|refine sS ?_|refine sF ?_|refine n0 ?_|refine sD ?_|refine PDraw.sP (some 30) rfl [] [8,9,10] tt_ok mixed ?_|refine PDraw.sP (some 77) rfl [] [12,13] tt_ok mixed ?_|refine PDraw.sP (some 93) rfl [] [8,9,10] tt_ok mixed ?_|intro _);conv=>whnf)
  refine PCall.go hcall (WkT.refl _) ?_
  rintro _ _ ⟨tk2, tkk2, l2, e1, e2, e3, e4, e5, rfl, rfl⟩
  rw [← e5] at he
  conv => whnf
  repeat' (first|((first|((first|(apply zY;intro hg)|apply zZ);first|exact stA|exact stB|exact stC)|(refine zW ?_ ?_;exact gA)|refine zH rfl ?_|refine zA ?_|refine zI bA ?_|refine zI rfl ?_|refine sB ?_|(refine zO ?_ ?_ ?_;omega;omega)|(refine zP ?_ ?_ ?_;omega;omega)|refine zM rfl ?_|(refine zQ ?_ ?_ ?_;omega;omega)|(refine zR ?_ ?_;omega)|(refine zI ?_ ?_;exact nA)|refine sS ?_|refine sF ?_|refine n0 ?_|refine sD ?_|refine PDraw.sP (some 30) rfl [] [8,9,10] tt_ok mixed ?_|refine PDraw.sP (some 77) rfl [] [12,13] tt_ok mixed ?_|refine PDraw.sP (some 93) rfl [] [8,9,10] tt_ok mixed ?_|intro _|refine zG ?_);conv=>whnf)|(refine zX (fun hc => ?_) (fun hc => ?_)<;>(try simp only [SY] at hc)<;>first|omega|(conv=>whnf)))
  rename_i t6 ht6
  exact loopTo (i + 1, (V ++ [t.v[i]], t5), (T ++ [at'], t6), A1 ++ ac, l2, tk2, tkk2, (nw, tn)) ⟨by show i + 1 ≤ _; omega, ht5, ht6, e1, e2, e3, htn, by simp; omega, by simp; omega, by show nw.length ≤ i + 1; omega, by show l2.length + Trm.bulks (t.t.drop (i + 1)) ≤ _; omega, C ++ ac, by rw [hA1, List.append_assoc], by show (C ++ ac).length + Trm.bulks (t.t.drop (i + 1)) ≤ _; rw [List.length_append]; omega, he⟩ (by show t.v.length - (i + 1) < t.v.length - i; omega) wA
 ·have hit : i < t.t.length := by omega
  have hiv : i < t.v.length := by omega
  have h4 : t.t[i].op = 4 := hc
  obtain ⟨z, zs, hz, hzo⟩ := hlam _ (List.getElem_mem hit) h4
  have hzb : z.bulk ≤ Trm.bulks t.t[i].t := by rw [hz, Trm.bulks]; omega
  have hbi := t.t[i].bulk_eq
  rw [drop_at hit, Trm.bulks] at hcl hLl
  have hA1l : A1.length = A.length + C.length := by rw [hA1, List.length_append]
  have hal : (t.t[i].clo true ov A1.length (lkF L1)).c.length ≤ t.t[i].bulk := (t.t[i].clo_lens true).1 ov A1.length (lkF L1)
  rw [drop_at hit, drop_at hiv, Trm.cloL, lamD_eq h4] at he
  rw [lamD_eq h4] at hal
  refine PCall.go (codeD13_c b tk1 A1 tkk1 L1 t.t[i] (by omega) k1 k2 (by omega)) (WkT.refl _) ?_
  rintro _ _ ⟨tk2, e1, e2, rfl, rfl⟩
  conv => whnf
  repeat' (first|((first|((first|(apply zY;intro hg)|apply zZ);first|exact stA|exact stB|exact stC)|(refine zW ?_ ?_;exact gA)|refine zH rfl ?_|refine zA ?_|refine zI bA ?_|refine zI rfl ?_|refine sB ?_|(refine zO ?_ ?_ ?_;omega;omega)|(refine zP ?_ ?_ ?_;omega;omega)|refine zM rfl ?_|(refine zQ ?_ ?_ ?_;omega;omega)|(refine zR ?_ ?_;omega)|(refine zI ?_ ?_;exact nA)|refine sS ?_|refine sF ?_|refine n0 ?_|refine sD ?_|refine PDraw.sP (some 30) rfl [] [8,9,10] tt_ok mixed ?_|refine PDraw.sP (some 77) rfl [] [12,13] tt_ok mixed ?_|refine PDraw.sP (some 93) rfl [] [8,9,10] tt_ok mixed ?_|intro _|refine zG ?_);conv=>whnf)|(refine zX (fun hc => ?_) (fun hc => ?_)<;>(try simp only [SY] at hc)<;>first|omega|(conv=>whnf)))
  refine PCall.go (bodyD13_c b tk2 (A1 ++ [⟨t.t[i].v, t.t[i].n == 1, noT⟩]) tkk1 L1 A1.length t.t[i] z (by simp) zs hz hzo e1 e2 k3 (by simp; omega) (by omega) (by omega)) (WkT.refl _) ?_
  rintro _ _ ⟨tk3, tkk3, l3, f1, f2, f3, f4, f5, rfl, rfl⟩
  have hL : (A1 ++ [(⟨t.t[i].v, t.t[i].n == 1, noT⟩ : Cod)]).length = A1.length + 1 := by simp
  rw [hL] at f5 ⊢
  rw [← f5] at he
  generalize t.t[i].cloB true (overF (lkF L1) t.t[i]) (A1.length + 1) (lkF L1) = bo at *
  have hset : (A1 ++ [(⟨t.t[i].v, t.t[i].n == 1, noT⟩ : Cod)]).set A1.length ⟨t.t[i].v, t.t[i].n == 1, bo.t⟩ ++ bo.c = A1 ++ (⟨t.t[i].v, t.t[i].n == 1, bo.t⟩ :: bo.c) := by simp
  rw [hset]
  generalize hac : (⟨t.t[i].v, t.t[i].n == 1, bo.t⟩ : Cod) :: bo.c = ac at *
  conv => whnf
  repeat' (first|((first|((first|(apply zY;intro hg)|apply zZ);first|exact stA|exact stB|exact stC)|(refine zW ?_ ?_;exact gA)|refine zH rfl ?_|refine zA ?_|refine zI bA ?_|refine zI rfl ?_|refine sB ?_|(refine zO ?_ ?_ ?_;omega;omega)|(refine zP ?_ ?_ ?_;omega;omega)|refine zM rfl ?_|(refine zQ ?_ ?_ ?_;omega;omega)|(refine zR ?_ ?_;omega)|(refine zI ?_ ?_;exact nA)|refine sS ?_|refine sF ?_|refine n0 ?_|refine sD ?_|refine PDraw.sP (some 30) rfl [] [8,9,10] tt_ok mixed ?_|refine PDraw.sP (some 77) rfl [] [12,13] tt_ok mixed ?_|refine PDraw.sP (some 93) rfl [] [8,9,10] tt_ok mixed ?_|intro _|refine zG ?_);conv=>whnf)|(refine zX (fun hc => ?_) (fun hc => ?_)<;>(try simp only [SY] at hc)<;>first|omega|(conv=>whnf)))
  refine PCall.go (lamD13_c b tk3 (A1 ++ ac) tkk3 l3 A1.length t.t[i] (by omega) ov) (WkT.refl _) ?_
  rintro _ _ ⟨rfl, rfl⟩
  generalize cloT A1.length ((overF (lkF l3) t.t[i]).map (refF (lkF l3) ov)) = at' at *
  dsimp only at hal he ⊢
  rw [if_pos h4] at he
  have hA2 : (A1 ++ ac).length = A1.length + ac.length := List.length_append ..
  have hkw : kwL nw ++ [(t.v[i], (⟨A1.length, at'.op == 21⟩ : Kn))] = kwL (nw ++ [⟨t.v[i], ⟨A1.length, at'.op == 21⟩⟩]) := by simp [kwL]
  rw [← hA2, hkw] at he
  have hcl2 : (C ++ ac).length + Trm.bulks (t.t.drop (i + 1)) ≤ Trm.bulks t.t := by rw [List.length_append]; omega
  conv => whnf
  repeat' (first|((first|((first|(apply zY;intro hg)|apply zZ);first|exact stA|exact stB|exact stC)|(refine zW ?_ ?_;exact gA)|refine zH rfl ?_|refine zA ?_|refine zI bA ?_|refine zI rfl ?_|refine sB ?_|(refine zO ?_ ?_ ?_;omega;omega)|(refine zP ?_ ?_ ?_;omega;omega)|refine zM rfl ?_|(refine zQ ?_ ?_ ?_;omega;omega)|(refine zR ?_ ?_;omega)|(refine zI ?_ ?_;exact nA)|refine sS ?_|refine sF ?_|refine n0 ?_|refine sD ?_|refine PDraw.sP (some 30) rfl [] [8,9,10] tt_ok mixed ?_|refine PDraw.sP (some 77) rfl [] [12,13] tt_ok mixed ?_|refine PDraw.sP (some 93) rfl [] [8,9,10] tt_ok mixed ?_|intro _|refine zG ?_);conv=>whnf)|(refine zX (fun hc => ?_) (fun hc => ?_)<;>(try simp only [SY] at hc)<;>first|omega|(conv=>whnf)))
  ·rename_i tn2 htn2 t5 ht5 tX htX t6 ht6
   have h21 : ¬at'.op = 21 := hc
   rw [if_neg (fun h => h21 h.2), if_neg (fun h => h21 h.2), preL_add] at he
   exact loopTo (i + 1, (V ++ [t.v[i]], t5), (T ++ [at'], t6), A1 ++ ac, l3, tk3, tkk3, (nw ++ [⟨t.v[i], ⟨A1.length, at'.op == 21⟩⟩], tn2)) ⟨by show i + 1 ≤ _; omega, ht5, ht6, f1, f2, f3, htn2, by simp; omega, by simp; omega, by simp; omega, by show l3.length + Trm.bulks (t.t.drop (i + 1)) ≤ _; omega, C ++ ac, by rw [hA1, List.append_assoc], hcl2, he⟩ (by show t.v.length - (i + 1) < t.v.length - i; omega) wA
  ·rename_i tn2 htn2
   have h21 : at'.op = 21 := hc
   rw [if_pos ⟨h4, h21⟩, if_pos ⟨h4, h21⟩, preL_skip] at he
   exact loopTo (i + 1, (V, tv), (T, tt'), A1 ++ ac, l3, tk3, tkk3, (nw ++ [⟨t.v[i], ⟨A1.length, at'.op == 21⟩⟩], tn2)) ⟨by show i + 1 ≤ _; omega, htv, htt, f1, f2, f3, htn2, by show V.length ≤ i + 1; omega, htl, by simp; omega, by show l3.length + Trm.bulks (t.t.drop (i + 1)) ≤ _; omega, C ++ ac, by rw [hA1, List.append_assoc], hcl2, he⟩ (by show t.v.length - (i + 1) < t.v.length - i; omega) wA
 ·obtain rfl : i = t.v.length := by omega
  have hlt : t.v.length < t.t.length := by omega
  rw [drop_at hlt, Trm.bulks] at hcl hLl
  have hA1l : A1.length = A.length + C.length := by rw [hA1, List.length_append]
  rw [drop_at hlt, List.drop_of_length_le (Nat.le_refl t.v.length), Trm.cloL, ← lkF_learn] at he
  have hal : (t.t[t.v.length].clo true ov A1.length (lkF (L1 ++ nw))).c.length ≤ t.t[t.v.length].bulk := (t.t[t.v.length].clo_lens true).1 ov A1.length (lkF (L1 ++ nw))
  have hcall := fun tkk2 (h : tkk2.e = 149) => hx _ (List.getElem_mem hlt) tk1 A1 tkk2 (L1 ++ nw) ov k1 k2 h (by omega) (by rw [List.length_append]; omega) hov
  generalize t.t[t.v.length].clo true ov A1.length (lkF (L1 ++ nw)) = a at *
  obtain ⟨at', ac, af⟩ := a
  dsimp only at hal he hcall ⊢
  simp only [preL, List.append_nil] at he
  rw [he]
  dsimp only
  rename_i tkk2 htkk2
  refine PCall.go (hcall tkk2 htkk2) (WkT.refl _) ?_
  rintro _ _ ⟨tk3, tkk3, l3, e1, e2, e3, e4, e5, rfl, rfl⟩
  rw [List.length_append] at e4
  have hA2 : A ++ (C ++ ac) = A1 ++ ac := by rw [hA1, List.append_assoc]
  rw [hA2]
  conv => whnf
  repeat' (first|((first|((first|(apply zY;intro hg)|apply zZ);first|exact stA|exact stB|exact stC)|(refine zW ?_ ?_;exact gA)|refine zH rfl ?_|refine zA ?_|refine zI bA ?_|refine zI rfl ?_|refine sB ?_|(refine zO ?_ ?_ ?_;omega;omega)|(refine zP ?_ ?_ ?_;omega;omega)|refine zM rfl ?_|(refine zQ ?_ ?_ ?_;omega;omega)|(refine zR ?_ ?_;omega)|(refine zI ?_ ?_;exact nA)|refine sS ?_|refine sF ?_|refine n0 ?_|refine sD ?_|refine PDraw.sP (some 30) rfl [] [8,9,10] tt_ok mixed ?_|refine PDraw.sP (some 77) rfl [] [12,13] tt_ok mixed ?_|refine PDraw.sP (some 93) rfl [] [8,9,10] tt_ok mixed ?_|intro _|refine zG ?_);conv=>whnf)|(refine zX (fun hc => ?_) (fun hc => ?_)<;>(try simp only [SY] at hc)<;>first|omega|(conv=>whnf)))
  ·rw [if_pos (by omega)]
   exact PRet.gen (y := .agg at'.cells) (Γ' := dmG b tk3 (A1 ++ ac) tkk3 l3) TrmOf.wk ⟨tk3, tkk3, l3, e1, e2, e3, by omega, e5, rfl, rfl⟩
  ·rw [if_neg (by omega)]
   exact PRet.gen (y := .agg (Trm.mk 8 0 V (T ++ [at'])).cells) (Γ' := dmG b tk3 (A1 ++ ac) tkk3 l3) TrmOf.wk ⟨tk3, tkk3, l3, e1, e2, e3, by omega, e5, rfl, rfl⟩
end Go.Cb
namespace Go.Cb
open Go.Proofs
set_option maxRecDepth 100000
set_option maxHeartbeats 4000000
abbrev fixGD (b b4 b6 : Nat) (t : Trm) (A1 : List Cod) (L1 : List Kw) (tk1 tkk1 : Tok) : List Ent := .box b6 [.int .i64 0, .int .i64 0, .nil, .nil] :: .box b4 [.int .i64 t.op, .int .i64 t.n, .sl 1 (t.v.map (PV.int .i64)) none, .sl 4 (t.t.map Trm.pv) none] :: dmG b tk1 A1 tkk1 L1
abbrev fix2GD (b b4 b6 b17 : Nat) (t : Trm) (T : List Trm) (tt' : Tok) (A1 : List Cod) (L1 : List Kw) (tk1 tkk1 : Tok) : List Ent := .tok tt' :: .box b17 [.int .i64 9, .int .i64 0, slI t.v, .sl 4 (T.map Trm.pv) (some tt')] :: fixGD b b4 b6 t A1 L1 tk1 tkk1
theorem fixD13_c (b : Nat) (tk : Tok) (A : List Cod) (tkk : Tok) (l : List Kw) (t : Trm) (ht : t.t.length = t.v.length + 1) (hx : ∀ y ∈ t.t, ClOkD b y) (hlam : ∀ y ∈ t.t.take t.v.length, ∃ z zs, y.t = z :: zs ∧ ClOkD b z) (ov : List Int) (h9 : t.op = 9) (h1 : tk.e = 88) (h2 : tk.s = 6) (h3 : tkk.e = 149) (hb : A.length + t.bulk ≤ 1000000000) (hl : l.length + t.bulk ≤ 1000000000) (hov : ov.length ≤ 1000000000) :
  ACall Tryz.prog 96 [.ptr b 0, .agg t.cells, slI ov] (dmG b tk A tkk l)
   (fun y Γ' => ∃ tk' tkk' l', tk'.e = 88 ∧ tk'.s = 6 ∧ tkk'.e = 149 ∧ l'.length ≤ l.length + t.bulk ∧ lkF l' = (t.clo true ov A.length (lkF l)).fm ∧
    y = .agg (t.clo true ov A.length (lkF l)).t.cells ∧ Γ' = dmG b tk' (A ++ (t.clo true ov A.length (lkF l)).c) tkk' l') := by
 have hbe := t.bulk_eq
 have hbm := Trm.bulks_length t.t
 rw [Trm.clo_eq, if_neg (by omega), if_neg (by omega), if_neg (by omega), if_pos h9]
 refine ACall.of_body tt_ok Tryz.func96 rfl rfl (n := 151) rfl rfl ?_
 conv => whnf
 repeat' (first|((first|((first|(apply zY;intro hg)|apply zZ);first|exact stA|exact stB|exact stC)|(refine zW ?_ ?_;exact gA)|refine zH rfl ?_|refine zA ?_|refine zI bA ?_|refine zI rfl ?_|refine sB ?_|(refine zO ?_ ?_ ?_;omega;omega)|(refine zP ?_ ?_ ?_;omega;omega)|refine zM rfl ?_|(refine zQ ?_ ?_ ?_;omega;omega)|(refine zR ?_ ?_;omega)|(refine zI ?_ ?_;exact nA)|refine sS ?_|refine sF ?_|refine n0 ?_|refine sD ?_|refine PDraw.sP (some 46) rfl [] [] tt_ok mixed ?_|intro _|refine zG ?_);conv=>whnf)|(refine zX (fun hc => ?_) (fun hc => ?_)<;>(try simp only [SY] at hc)<;>first|omega|(conv=>whnf)))
 rename_i b4 b6 hq0
 have htk : (t.t.take t.v.length).length = t.v.length := by rw [List.length_take]; omega
 have hfx : fixS (lkF l) t.v t.t = (true && ((t.t.take t.v.length).drop 0).all fun x => (overF (lkF l) x).all fun u => t.v.contains u) := by rw [List.drop_zero]; rfl
 refine PLoop.over [8, 9, 10, 11, 12, 13, 23, 24, 25, 26, 27, 28, 29, 30, 31, 32, 33, 34, 35, 36, 37, 38, 39, 40, 41, 42, 43, 44, 45, 46, 47, 48, 49, 50, 51, 52, 53, 54, 55, 56, 57, 58, 59, 60, 61, 62] (fun x : Nat × Bool => [(8, .bool x.2), (9, .int .i64 x.1)]) (fun _ => fixGD b b4 b6 t A l tk tkk) (fun x => x.1 ≤ t.v.length ∧ fixS (lkF l) t.v t.t = (x.2 && ((t.t.take t.v.length).drop x.1).all fun x => (overF (lkF l) x).all fun u => t.v.contains u)) (fun x => t.v.length - x.1) (0, true) ⟨Nat.zero_le _, hfx⟩ wA ?_
 rintro ⟨i, st⟩ ⟨hi, hst⟩
 dsimp only at hi hst ⊢
 conv => whnf
 repeat' (first|((first|((first|(apply zY;intro hg)|apply zZ);first|exact stA|exact stB|exact stC)|(refine zW ?_ ?_;exact gA)|refine zH rfl ?_|refine zA ?_|refine zI bA ?_|refine zI rfl ?_|refine sB ?_|(refine zO ?_ ?_ ?_;omega;omega)|(refine zP ?_ ?_ ?_;omega;omega)|refine zM rfl ?_|(refine zQ ?_ ?_ ?_;omega;omega)|(refine zR ?_ ?_;omega)|(refine zI ?_ ?_;exact nA)|refine sS ?_|refine sF ?_|refine n0 ?_|refine sD ?_|refine PDraw.sP (some 46) rfl [] [] tt_ok mixed ?_|intro _|refine zG ?_);conv=>whnf)|(refine zX (fun hc => ?_) (fun hc => ?_)<;>(try simp only [SY] at hc)<;>first|omega|(conv=>whnf)))
 ·have hit : i < t.t.length := by omega
  have hitk : i < (t.t.take t.v.length).length := by omega
  have hgt : (t.t.take t.v.length)[i] = t.t[i] := List.getElem_take
  rw [drop_at hitk, List.all_cons, hgt] at hst
  have hbi := Trm.bulks_mem (List.getElem_mem hit)
  refine PCall.go (overD13_c b tk A tkk l t.t[i] (by omega)) (WkT.refl _) ?_
  rintro _ _ ⟨rfl, rfl⟩
  have hol := overF_len (lkF l) t.t[i]
  generalize overF (lkF l) t.t[i] = own at *
  conv => whnf
  repeat' (first|((first|((first|(apply zY;intro hg)|apply zZ);first|exact stA|exact stB|exact stC)|(refine zW ?_ ?_;exact gA)|refine zH rfl ?_|refine zA ?_|refine zI bA ?_|refine zI rfl ?_|refine sB ?_|(refine zO ?_ ?_ ?_;omega;omega)|(refine zP ?_ ?_ ?_;omega;omega)|refine zM rfl ?_|(refine zQ ?_ ?_ ?_;omega;omega)|(refine zR ?_ ?_;omega)|(refine zI ?_ ?_;exact nA)|refine sS ?_|refine sF ?_|refine n0 ?_|refine sD ?_|refine PDraw.sP (some 46) rfl [] [] tt_ok mixed ?_|intro _|refine zG ?_);conv=>whnf)|(refine zX (fun hc => ?_) (fun hc => ?_)<;>(try simp only [SY] at hc)<;>first|omega|(conv=>whnf)))
  refine PLoop.over [8, 11, 12, 13, 35, 36, 37, 38, 39, 40, 41, 42, 43, 44, 45, 46, 47, 48, 49, 50, 51, 52, 53, 54, 55, 56, 57, 58, 59, 60, 61, 62] (fun x : Nat × Bool => [(8, .bool x.2), (11, .int .i64 x.1)]) (fun _ => fixGD b b4 b6 t A l tk tkk) (fun x => x.1 ≤ own.length ∧ (st && own.all fun u => t.v.contains u) = (x.2 && (own.drop x.1).all fun u => t.v.contains u)) (fun x => own.length - x.1) (0, st) ⟨Nat.zero_le _, by simp⟩ wA ?_
  rintro ⟨k, s2⟩ ⟨hk, hs2⟩
  dsimp only at hk hs2 ⊢
  conv => whnf
  repeat' (first|((first|((first|(apply zY;intro hg)|apply zZ);first|exact stA|exact stB|exact stC)|(refine zW ?_ ?_;exact gA)|refine zH rfl ?_|refine zA ?_|refine zI bA ?_|refine zI rfl ?_|refine sB ?_|(refine zO ?_ ?_ ?_;omega;omega)|(refine zP ?_ ?_ ?_;omega;omega)|refine zM rfl ?_|(refine zQ ?_ ?_ ?_;omega;omega)|(refine zR ?_ ?_;omega)|(refine zI ?_ ?_;exact nA)|refine sS ?_|refine sF ?_|refine n0 ?_|refine sD ?_|refine PDraw.sP (some 46) rfl [] [] tt_ok mixed ?_|intro _|refine zG ?_);conv=>whnf)|(refine zX (fun hc => ?_) (fun hc => ?_)<;>(try simp only [SY] at hc)<;>first|omega|(conv=>whnf)))
  ·have hko : k < own.length := by omega
   rw [drop_at hko, List.all_cons] at hs2
   refine PLoop.over [12, 13, 41, 42, 43, 44, 45, 46, 47, 48, 49, 50, 51, 52, 53, 54, 55, 56, 57, 58] (fun x : Nat × Bool => [(12, .bool x.2), (13, .int .i64 x.1)]) (fun _ => fixGD b b4 b6 t A l tk tkk) (fun x => x.1 ≤ t.v.length ∧ t.v.contains own[k] = (x.2 || (t.v.drop x.1).contains own[k])) (fun x => t.v.length - x.1) (0, false) ⟨Nat.zero_le _, by simp⟩ wA ?_
   rintro ⟨j, ins⟩ ⟨hj, hin⟩
   dsimp only at hj hin ⊢
   conv => whnf
   repeat' (first|((first|((first|(apply zY;intro hg)|apply zZ);first|exact stA|exact stB|exact stC)|(refine zW ?_ ?_;exact gA)|refine zH rfl ?_|refine zA ?_|refine zI bA ?_|refine zI rfl ?_|refine sB ?_|(refine zO ?_ ?_ ?_;omega;omega)|(refine zP ?_ ?_ ?_;omega;omega)|refine zM rfl ?_|(refine zQ ?_ ?_ ?_;omega;omega)|(refine zR ?_ ?_;omega)|(refine zI ?_ ?_;exact nA)|refine sS ?_|refine sF ?_|refine n0 ?_|refine sD ?_|refine PDraw.sP (some 46) rfl [] [] tt_ok mixed ?_|intro _|refine zG ?_);conv=>whnf)|(refine zX (fun hc => ?_) (fun hc => ?_)<;>(try simp only [SY] at hc)<;>first|omega|(conv=>whnf)))
   ·have hjl : j < t.v.length := by omega
    rw [drop_at hjl, List.contains_cons] at hin
    refine loopTo (j + 1, ins || (t.v[j] == own[k])) ⟨by show j + 1 ≤ _; omega, ?_⟩ (by show t.v.length - (j + 1) < t.v.length - j; omega) wA
    dsimp only
    rw [Bool.or_assoc, Bool.beq_comm (a := t.v[j])]
    exact hin
   ·rw [List.drop_of_length_le (by omega)] at hin
    have hin2 : t.v.contains own[k] = ins := by rw [hin]; simp
    rw [hin2] at hs2
    refine loopTo (k + 1, s2 && ins) ⟨by show k + 1 ≤ _; omega, ?_⟩ (by show own.length - (k + 1) < own.length - k; omega) wA
    dsimp only
    rw [Bool.and_assoc]
    exact hs2
  ·rw [List.drop_of_length_le (by omega)] at hs2
   refine loopTo (i + 1, s2) ⟨by show i + 1 ≤ _; omega, ?_⟩ (by show t.v.length - (i + 1) < t.v.length - i; omega) wA
   dsimp only
   rw [hst, ← Bool.and_assoc, hs2]
   simp
 ·obtain rfl : i = t.v.length := by omega
  rw [List.drop_of_length_le (by omega), List.all_nil, Bool.and_true] at hst
  rw [hst]
  refine PLenM.map fun _ => ?_
  conv => whnf
  repeat' (first|((first|((first|(apply zY;intro hg)|apply zZ);first|exact stA|exact stB|exact stC)|(refine zW ?_ ?_;exact gA)|refine zH rfl ?_|refine zA ?_|refine zI bA ?_|refine zI rfl ?_|refine sB ?_|(refine zO ?_ ?_ ?_;omega;omega)|(refine zP ?_ ?_ ?_;omega;omega)|refine zM rfl ?_|(refine zQ ?_ ?_ ?_;omega;omega)|(refine zR ?_ ?_;omega)|(refine zI ?_ ?_;exact nA)|refine sS ?_|refine sF ?_|refine n0 ?_|refine sD ?_|refine PDraw.sP (some 46) rfl [] [] tt_ok mixed ?_|intro _|refine zG ?_);conv=>whnf)|(refine zX (fun hc => ?_) (fun hc => ?_)<;>(try simp only [SY] at hc)<;>first|omega|(conv=>whnf)))
  clear hst
  refine PLoop.over [15, 16, 68, 69, 70, 71, 72, 73, 74, 75, 76, 77, 78, 79, 80, 81, 82, 83, 84, 85, 86, 87, 88, 89, 90, 91, 92, 93, 94, 95, 96] (fun x : Nat × List Cod × List Kw × Tok × Tok => [(15, .int .i64 x.1)]) (fun x => fixGD b b4 b6 t x.2.1 x.2.2.1 x.2.2.2.1 x.2.2.2.2)
   (fun x => x.1 ≤ t.v.length ∧ x.2.2.2.1.e = 88 ∧ x.2.2.2.1.s = 6 ∧ x.2.2.2.2.e = 149 ∧ x.2.1 = A ++ (t.t.take x.1).map blankC ∧ x.2.2.1.length = l.length + x.1 ∧ fixF true t.v A.length st (lkF l) = fixF true (t.v.drop x.1) ((A.length : Int) + x.1) st (lkF x.2.2.1)) (fun x => t.v.length - x.1) (0, A, l, tk, tkk) ⟨Nat.zero_le _, h1, h2, h3, by simp, by simp, by simp⟩ wA ?_
  rintro ⟨i, A1, L1, tk1, tkk1⟩ ⟨hi, k1, k2, k3, hA1, hLl, hf1⟩
  dsimp only at hi k1 k2 k3 hA1 hLl hf1 ⊢
  conv => whnf
  repeat' (first|((first|((first|(apply zY;intro hg)|apply zZ);first|exact stA|exact stB|exact stC)|(refine zW ?_ ?_;exact gA)|refine zH rfl ?_|refine zA ?_|refine zI bA ?_|refine zI rfl ?_|refine sB ?_|(refine zO ?_ ?_ ?_;omega;omega)|(refine zP ?_ ?_ ?_;omega;omega)|refine zM rfl ?_|(refine zQ ?_ ?_ ?_;omega;omega)|(refine zR ?_ ?_;omega)|(refine zI ?_ ?_;exact nA)|refine sS ?_|refine sF ?_|refine n0 ?_|refine sD ?_|refine PDraw.sP (some 46) rfl [] [] tt_ok mixed ?_|intro _|refine zG ?_);conv=>whnf)|(refine zX (fun hc => ?_) (fun hc => ?_)<;>(try simp only [SY] at hc)<;>first|omega|(conv=>whnf)))
  ·have hit : i < t.t.length := by omega
   have hiv : i < t.v.length := by omega
   rw [drop_at hiv, fixF] at hf1
   have hbi := Trm.bulks_mem (List.getElem_mem hit)
   have hA1l : A1.length = A.length + i := by rw [hA1, List.length_append, List.length_map, List.length_take]; omega
   have hA3 : A1 ++ [blankC t.t[i]] = A ++ (t.t.take (i + 1)).map blankC := by rw [List.take_succ_eq_append_getElem hit, List.map_append, hA1]; simp
   have hf3 : fixF true t.v A.length st (lkF l) = fixF true (t.v.drop (i + 1)) ((A.length : Int) + ((i + 1 : Nat) : Int)) st (lkF (L1 ++ [⟨t.v[i], ⟨A1.length, st⟩⟩])) := by
    rw [hf1, lkF_app, hA1l, show (A.length : Int) + (i : Int) + 1 = (A.length : Int) + ((i + 1 : Nat) : Int) by omega]
    rfl
   refine PCall.go (codeD13_c b tk1 A1 tkk1 L1 t.t[i] (by omega) k1 k2 (by omega)) (WkT.refl _) ?_
   rintro _ _ ⟨tk2, e1, e2, rfl, rfl⟩
   conv => whnf
   repeat' (first|((first|((first|(apply zY;intro hg)|apply zZ);first|exact stA|exact stB|exact stC)|(refine zW ?_ ?_;exact gA)|refine zH rfl ?_|refine zA ?_|refine zI bA ?_|refine zI rfl ?_|refine sB ?_|(refine zO ?_ ?_ ?_;omega;omega)|(refine zP ?_ ?_ ?_;omega;omega)|refine zM rfl ?_|(refine zQ ?_ ?_ ?_;omega;omega)|(refine zR ?_ ?_;omega)|(refine zI ?_ ?_;exact nA)|refine sS ?_|refine sF ?_|refine n0 ?_|refine sD ?_|refine PDraw.sP (some 46) rfl [] [] tt_ok mixed ?_|intro _|refine zG ?_);conv=>whnf)|(refine zX (fun hc => ?_) (fun hc => ?_)<;>(try simp only [SY] at hc)<;>first|omega|(conv=>whnf)))
   refine PDraw.sE [.box b [.ms tk2, .sl 3 (L1.map Kw.pv) (some tkk1)], .tok tkk1] [4,14] [15,16,17] tt_ok mixed ?_
   conv=>whnf
   repeat' (first|((first|((first|(apply zY;intro hg)|apply zZ);first|exact stA|exact stB|exact stC)|(refine zW ?_ ?_;exact gA)|refine zH rfl ?_|refine zA ?_|refine zI bA ?_|refine zI rfl ?_|refine sB ?_|(refine zO ?_ ?_ ?_;omega;omega)|(refine zP ?_ ?_ ?_;omega;omega)|refine zM rfl ?_|(refine zQ ?_ ?_ ?_;omega;omega)|(refine zR ?_ ?_;omega)|(refine zI ?_ ?_;exact nA)|refine sS ?_|refine sF ?_|refine n0 ?_|refine sD ?_|refine PDraw.sP (some 46) rfl [] [] tt_ok mixed ?_|intro _|refine zG ?_);conv=>whnf)|(refine zX (fun hc => ?_) (fun hc => ?_)<;>(try simp only [SY] at hc)<;>first|omega|(conv=>whnf)))
   rename_i tkk2 htkk2
   exact loopTo (i + 1, A1 ++ [blankC t.t[i]], L1 ++ [⟨t.v[i], ⟨A1.length, st⟩⟩], tk2, tkk2) ⟨by show i + 1 ≤ _; omega, e1, e2, htkk2, hA3, by simp; omega, hf3⟩ (by show t.v.length - (i + 1) < t.v.length - i; omega) wA
  ·obtain rfl : i = t.v.length := by omega
   rw [List.drop_of_length_le (Nat.le_refl _), fixF] at hf1
   rw [hf1]
   have hA1l : A1.length = A.length + t.v.length := by rw [hA1, List.length_append, List.length_map, htk]
   rename_i b17
   refine PLoop.ghost (Ghost.trans (Ghost.nil 4 26 _) (Ghost.box (b := b17) (cs := [.int .i64 9, .int .i64 0, slI t.v, .nil]) (cs' := [.int .i64 9, .int .i64 0, slI t.v, .sl 4 (([] : List Trm).map Trm.pv) (some (nilTok 4 26))]) wA)) ?_
   refine PLoop.over [18, 100, 101, 102, 103, 104, 105, 106, 107, 108, 109, 110, 111, 112, 113, 114, 115, 116, 117, 118, 119, 120, 121, 122, 123, 124, 125, 126, 127, 128, 129, 130, 131, 132, 133] (fun x : Nat × (List Trm × Tok) × List Cod × List Kw × Tok × Tok => [(18, .int .i64 x.1)]) (fun x => fix2GD b b4 b6 b17 t x.2.1.1 x.2.1.2 x.2.2.1 x.2.2.2.1 x.2.2.2.2.1 x.2.2.2.2.2)
    (fun x => x.1 ≤ t.v.length ∧ x.2.1.2.e = 26 ∧ x.2.2.2.2.1.e = 88 ∧ x.2.2.2.2.1.s = 6 ∧ x.2.2.2.2.2.e = 149 ∧ x.2.1.1.length = x.1 ∧ x.2.2.2.1.length + Trm.bulks (t.t.drop x.1) ≤ l.length + t.v.length + Trm.bulks t.t ∧ ∃ own C, x.2.2.1 = A ++ (own ++ (((t.t.take t.v.length).drop x.1).map blankC ++ C)) ∧ own.length = x.1 ∧ C.length + Trm.bulks (t.t.drop x.1) ≤ Trm.bulks t.t ∧
     Trm.cloF true t.t t.v ov A.length (A.length + t.v.length) (lkF L1) = preF x.2.1.1 own C (Trm.cloF true (t.t.drop x.1) (t.v.drop x.1) ov ((A.length : Int) + x.1) x.2.2.1.length (lkF x.2.2.2.1))) (fun x => t.v.length - x.1)
    (0, ([], nilTok 4 26), A1, L1, tk1, tkk1) ⟨Nat.zero_le _, rfl, k1, k2, k3, rfl, by simp; omega, [], [], by simp [hA1], rfl, by simp, by rw [hA1l]; simp only [List.drop_zero, Int.natCast_zero, Int.add_zero]; exact (preF_nil (Trm.cloF_v _ _ _ _ _ _ _)).symm⟩ wA ?_
   clear hf1 hA1 hLl
   rintro ⟨i, ⟨T, tt'⟩, A2, L2, tk2, tkk2⟩ ⟨hi, htt, k4, k5, k6, hTl, hLl, own, C, hA2, hol, hcl, he⟩
   dsimp only at hi htt k4 k5 k6 hTl hLl hA2 hol hcl he ⊢
   conv => whnf
   repeat' (first|((first|((first|(apply zY;intro hg)|apply zZ);first|exact stA|exact stB|exact stC)|(refine zW ?_ ?_;exact gA)|refine zH rfl ?_|refine zA ?_|refine zI bA ?_|refine zI rfl ?_|refine sB ?_|(refine zO ?_ ?_ ?_;omega;omega)|(refine zP ?_ ?_ ?_;omega;omega)|refine zM rfl ?_|(refine zQ ?_ ?_ ?_;omega;omega)|(refine zR ?_ ?_;omega)|(refine zI ?_ ?_;exact nA)|refine sS ?_|refine sF ?_|refine n0 ?_|refine sD ?_|refine PDraw.sP (some 46) rfl [] [] tt_ok mixed ?_|refine PDraw.sT (some 80) rfl [14] [15,16,17] tt_ok mixed ?_|intro _|refine zG ?_);conv=>whnf)|(refine zX (fun hc => ?_) (fun hc => ?_)<;>(try simp only [SY] at hc)<;>first|omega|(conv=>whnf)))
   ·have hit : i < t.t.length := by omega
    have hiv : i < t.v.length := by omega
    have hitk : i < (t.t.take t.v.length).length := by omega
    have hgt : (t.t.take t.v.length)[i] = t.t[i] := List.getElem_take
    obtain ⟨z, zs, hz, hzo⟩ := hlam t.t[i] (by rw [← hgt]; exact List.getElem_mem hitk)
    have hzb : z.bulk ≤ Trm.bulks t.t[i].t := by rw [hz, Trm.bulks]; omega
    have hbi := t.t[i].bulk_eq
    have hbm2 := Trm.bulks_mem (List.getElem_mem hit)
    rw [drop_at hitk, hgt, List.map_cons, List.cons_append] at hA2
    rw [drop_at hit, Trm.bulks] at hcl hLl
    rw [drop_at hit, drop_at hiv, Trm.cloF] at he
    have h00 : A.length + i - A.length - own.length = 0 := by omega
    have hget : A2[A.length + i]? = some ⟨t.t[i].v, t.t[i].n == 1, noT⟩ := by
     rw [hA2, List.getElem?_append_right (by omega), List.getElem?_append_right (by omega), h00]
     rfl
    have hA2l : A2.length = A.length + t.v.length + C.length := by
     rw [hA2]
     simp only [List.length_append, List.length_cons, List.length_map, List.length_drop, htk]
     omega
    have hbody := bodyD13_c b tk2 A2 tkk2 L2 (A.length + i) t.t[i] z hget zs hz hzo k4 k5 k6 (by omega) (by omega) (by omega)
    rw [Int.natCast_add] at hbody
    have hlb : (t.t[i].cloB true (overF (lkF L2) t.t[i]) A2.length (lkF L2)).c.length + 1 ≤ t.t[i].bulk := (t.t[i].clo_lens true).2 _ _ _
    rw [if_pos rfl, preF_add] at he
    generalize t.t[i].cloB true (overF (lkF L2) t.t[i]) A2.length (lkF L2) = bo at *
    have hset : A2.set (A.length + i) ⟨t.t[i].v, t.t[i].n == 1, bo.t⟩ ++ bo.c = A ++ ((own ++ [⟨t.t[i].v, t.t[i].n == 1, bo.t⟩]) ++ (((t.t.take t.v.length).drop (i + 1)).map blankC ++ (C ++ bo.c))) := by
     rw [hA2, List.set_append_right _ _ (by omega), List.set_append_right _ _ (by omega), h00]
     simp
    have hl3 : A2.length + bo.c.length = (A2.set (A.length + i) ⟨t.t[i].v, t.t[i].n == 1, bo.t⟩ ++ bo.c).length := by simp
    rw [hl3, show (A.length : Int) + (i : Int) + 1 = (A.length : Int) + ((i + 1 : Nat) : Int) by omega] at he
    generalize A2.set (A.length + i) ⟨t.t[i].v, t.t[i].n == 1, bo.t⟩ ++ bo.c = A3 at *
    refine PCall.go hbody (WkT.refl _) ?_
    rintro _ _ ⟨tk3, tkk3, l3, e1, e2, e3, e4, e5, rfl, rfl⟩
    rw [← e5] at he
    have hol3 := overF_len (lkF l3) t.t[i]
    have hov3 := overD13_c b tk3 A3 tkk3 l3 t.t[i] (by omega)
    generalize overF (lkF l3) t.t[i] = own3 at *
    have hrf3 := refsD13_c b tk3 A3 tkk3 l3 own3 ov (by omega)
    generalize own3.map (refF (lkF l3) ov) = rs at *
    conv => whnf
    repeat' (first|((first|((first|(apply zY;intro hg)|apply zZ);first|exact stA|exact stB|exact stC)|(refine zW ?_ ?_;exact gA)|refine zH rfl ?_|refine zA ?_|refine zI bA ?_|refine zI rfl ?_|refine sB ?_|(refine zO ?_ ?_ ?_;omega;omega)|(refine zP ?_ ?_ ?_;omega;omega)|refine zM rfl ?_|(refine zQ ?_ ?_ ?_;omega;omega)|(refine zR ?_ ?_;omega)|(refine zI ?_ ?_;exact nA)|refine sS ?_|refine sF ?_|refine n0 ?_|refine sD ?_|refine PDraw.sP (some 46) rfl [] [] tt_ok mixed ?_|refine PDraw.sT (some 80) rfl [14] [15,16,17] tt_ok mixed ?_|intro _|refine zG ?_);conv=>whnf)|(refine zX (fun hc => ?_) (fun hc => ?_)<;>(try simp only [SY] at hc)<;>first|omega|(conv=>whnf)))
    refine PDraw.sE [.tok tt', .box b [.ms tk3, .sl 3 (l3.map Kw.pv) (some tkk3)], .row tk3 (A3.map Cod.pv), .tok tkk3] [12,14,15,16] [17,18,19] tt_ok mixed ?_
    conv=>whnf
    repeat ((first|((first|(apply zY;intro hg)|apply zZ);first|exact stA|exact stB|exact stC)|(refine zW ?_ ?_;exact gA)|refine zH rfl ?_|refine zA ?_|refine zI bA ?_|refine zI rfl ?_|refine sB ?_|(refine zO ?_ ?_ ?_;omega;omega)|(refine zP ?_ ?_ ?_;omega;omega)|refine zM rfl ?_|(refine zQ ?_ ?_ ?_;omega;omega)|(refine zR ?_ ?_;omega)|(refine zI ?_ ?_;exact nA)|refine sS ?_|refine sF ?_|refine n0 ?_|refine sD ?_|refine PDraw.sP (some 46) rfl [] [] tt_ok mixed ?_|refine PDraw.sT (some 80) rfl [14] [15,16,17] tt_ok mixed ?_|intro _);conv=>whnf)
    refine PCall.go hov3 (WkT.refl _) ?_
    rintro _ _ ⟨rfl, rfl⟩
    conv => whnf
    repeat' (first|((first|((first|(apply zY;intro hg)|apply zZ);first|exact stA|exact stB|exact stC)|(refine zW ?_ ?_;exact gA)|refine zH rfl ?_|refine zA ?_|refine zI bA ?_|refine zI rfl ?_|refine sB ?_|(refine zO ?_ ?_ ?_;omega;omega)|(refine zP ?_ ?_ ?_;omega;omega)|refine zM rfl ?_|(refine zQ ?_ ?_ ?_;omega;omega)|(refine zR ?_ ?_;omega)|(refine zI ?_ ?_;exact nA)|refine sS ?_|refine sF ?_|refine n0 ?_|refine sD ?_|refine PDraw.sP (some 46) rfl [] [] tt_ok mixed ?_|refine PDraw.sT (some 80) rfl [14] [15,16,17] tt_ok mixed ?_|intro _|refine zG ?_);conv=>whnf)|(refine zX (fun hc => ?_) (fun hc => ?_)<;>(try simp only [SY] at hc)<;>first|omega|(conv=>whnf)))
    refine PCall.go hrf3 (WkT.refl _) ?_
    rintro _ _ ⟨rfl, rfl⟩
    conv => whnf
    repeat' (first|((first|((first|(apply zY;intro hg)|apply zZ);first|exact stA|exact stB|exact stC)|(refine zW ?_ ?_;exact gA)|refine zH rfl ?_|refine zA ?_|refine zI bA ?_|refine zI rfl ?_|refine sB ?_|(refine zO ?_ ?_ ?_;omega;omega)|(refine zP ?_ ?_ ?_;omega;omega)|refine zM rfl ?_|(refine zQ ?_ ?_ ?_;omega;omega)|(refine zR ?_ ?_;omega)|(refine zI ?_ ?_;exact nA)|refine sS ?_|refine sF ?_|refine n0 ?_|refine sD ?_|refine PDraw.sP (some 46) rfl [] [] tt_ok mixed ?_|refine PDraw.sT (some 80) rfl [14] [15,16,17] tt_ok mixed ?_|intro _|refine zG ?_);conv=>whnf)|(refine zX (fun hc => ?_) (fun hc => ?_)<;>(try simp only [SY] at hc)<;>first|omega|(conv=>whnf)))
    rename_i t5 ht5
    exact loopTo (i + 1, (T ++ [Trm.mk 19 ((A.length : Int) + i) [] rs], t5), A3, l3, tk3, tkk3) ⟨by show i + 1 ≤ _; omega, ht5, e1, e2, e3, by simp; omega, by show l3.length + Trm.bulks (t.t.drop (i + 1)) ≤ _; omega, own ++ [⟨t.t[i].v, t.t[i].n == 1, bo.t⟩], C ++ bo.c, hset, by simp; omega, by show (C ++ bo.c).length + Trm.bulks (t.t.drop (i + 1)) ≤ _; rw [List.length_append]; omega, he⟩ (by show t.v.length - (i + 1) < t.v.length - i; omega) wA
   ·obtain rfl : i = t.v.length := by omega
    have hlt : t.v.length < t.t.length := by omega
    rw [drop_at hlt, Trm.bulks] at hcl hLl
    rw [drop_at hlt, List.drop_of_length_le (Nat.le_refl t.v.length), Trm.cloF] at he
    rw [List.drop_of_length_le (by omega), List.map_nil, List.nil_append] at hA2
    have hA2l : A2.length = A.length + t.v.length + C.length := by
     rw [hA2]
     simp only [List.length_append]
     omega
    have hal : (t.t[t.v.length].clo true ov A2.length (lkF L2)).c.length ≤ t.t[t.v.length].bulk := (t.t[t.v.length].clo_lens true).1 _ _ _
    refine PCall.go (hx _ (List.getElem_mem hlt) tk2 A2 tkk2 L2 ov k4 k5 k6 (by omega) (by omega) hov) (WkT.refl _) ?_
    rintro _ _ ⟨tk3, tkk3, l3, e1, e2, e3, e4, e5, rfl, rfl⟩
    generalize t.t[t.v.length].clo true ov A2.length (lkF L2) = a at *
    obtain ⟨at', ac, af⟩ := a
    dsimp only at hal he e5 ⊢
    simp only [preF, List.append_nil] at he
    rw [he]
    dsimp only
    have hA3 : A ++ (own ++ (C ++ ac)) = A2 ++ ac := by rw [hA2]; simp
    rw [hA3]
    conv => whnf
    repeat' (first|((first|((first|(apply zY;intro hg)|apply zZ);first|exact stA|exact stB|exact stC)|(refine zW ?_ ?_;exact gA)|refine zH rfl ?_|refine zA ?_|refine zI bA ?_|refine zI rfl ?_|refine sB ?_|(refine zO ?_ ?_ ?_;omega;omega)|(refine zP ?_ ?_ ?_;omega;omega)|refine zM rfl ?_|(refine zQ ?_ ?_ ?_;omega;omega)|(refine zR ?_ ?_;omega)|(refine zI ?_ ?_;exact nA)|refine sS ?_|refine sF ?_|refine n0 ?_|refine sD ?_|refine PDraw.sP (some 46) rfl [] [] tt_ok mixed ?_|refine PDraw.sT (some 80) rfl [14] [15,16,17] tt_ok mixed ?_|intro _|refine zG ?_);conv=>whnf)|(refine zX (fun hc => ?_) (fun hc => ?_)<;>(try simp only [SY] at hc)<;>first|omega|(conv=>whnf)))
    ·rw [if_pos hc]
     exact PRet.gen (y := .agg at'.cells) (Γ' := dmG b tk3 (A2 ++ ac) tkk3 l3) TrmOf.wk ⟨tk3, tkk3, l3, e1, e2, e3, by omega, e5, rfl, rfl⟩
    ·rw [if_neg (by simp [hc])]
     exact PRet.gen (y := .agg (Trm.mk 9 0 t.v (T ++ [at'])).cells) (Γ' := dmG b tk3 (A2 ++ ac) tkk3 l3) TrmOf.wk ⟨tk3, tkk3, l3, e1, e2, e3, by omega, e5, rfl, rfl⟩
end Go.Cb
namespace Go.Cb
open Go.Proofs
set_option maxRecDepth 100000
set_option maxHeartbeats 4000000
theorem clOkD2 (b : Nat) (t : Trm) : t.shI → ClOkD b t ∧ ∀ z ∈ t.t, ClOkD b z := by
 induction t using Trm.ind with
 | h t ih =>
  intro hsI
  refine ⟨?_, fun z hz => (ih z hz (Trm.shIs_mem ((Trm.shI_eq t).1 hsI).2 z hz)).1⟩
  intro tk A tkk l ov h1 h2 h3 hb hl hov
  have hbe := t.bulk_eq
  have hbl := Trm.bulks_length t.t
  rw [Trm.shI_eq] at hsI
  obtain ⟨⟨s1, s2, s3, s4⟩, s5⟩ := hsI
  have hf : ∀ x ∈ t.t, ClOkD b x := fun x hx => (ih x hx (Trm.shIs_mem s5 x hx)).1
  have ihc : ∀ x ∈ t.t, ∀ z ∈ x.t, ClOkD b z := fun x hx => (ih x hx (Trm.shIs_mem s5 x hx)).2
  have hlam : ∀ y ∈ t.t, y.op = 4 → ∃ z zs, y.t = z :: zs ∧ ClOkD b z := fun y hy h4 => by
   have hI := (Trm.shI_eq y).1 (Trm.shIs_mem s5 y hy)
   cases hyt : y.t with
   | nil => have := hI.1.2.1 h4; rw [hyt] at this; simp at this
   | cons z zs => exact ⟨z, zs, rfl, ihc y hy z (by rw [hyt]; simp)⟩
  have h5 : t.op = 5 → 1 ≤ t.t.length := fun h => List.length_pos_iff.2 (s1 h)
  refine ACall.of_body tt_ok Tryz.func45 rfl rfl (n := 101) rfl rfl ?_
  conv => whnf
  repeat ((first|((first|(apply zY;intro hg)|apply zZ);first|exact stA|exact stB|exact stC)|(refine zW ?_ ?_;exact gA)|refine zH rfl ?_|refine zA ?_|refine zI bA ?_|refine zI rfl ?_|refine sB ?_|(refine zO ?_ ?_ ?_;omega;omega)|(refine zP ?_ ?_ ?_;omega;omega)|refine zM rfl ?_|(refine zQ ?_ ?_ ?_;omega;omega)|(refine zR ?_ ?_;omega)|(refine zI ?_ ?_;exact nA)|refine sS ?_|refine sF ?_|refine n0 ?_|refine sD ?_|intro _);conv=>whnf)
  rename_i b4 b6
  conv => whnf
  repeat' (first|((first|((first|(apply zY;intro hg)|apply zZ);first|exact stA|exact stB|exact stC)|(refine zW ?_ ?_;exact gA)|refine zH rfl ?_|refine zA ?_|refine zI bA ?_|refine zI rfl ?_|refine sB ?_|(refine zO ?_ ?_ ?_;omega;omega)|(refine zP ?_ ?_ ?_;omega;omega)|refine zM rfl ?_|(refine zQ ?_ ?_ ?_;omega;omega)|(refine zR ?_ ?_;omega)|(refine zI ?_ ?_;exact nA)|refine sS ?_|refine sF ?_|refine n0 ?_|refine sD ?_|intro _|refine zG ?_);conv=>whnf)|(refine zX (fun hc => ?_) (fun hc => ?_)<;>(try simp only [SY] at hc)<;>first|omega|(conv=>whnf)))
  ·rw [Trm.clo_eq, if_pos hc]
   refine PCall.go (refD13_c b tk A tkk l t.n ov) (WkT.refl _) ?_
   rintro _ _ ⟨rfl, rfl⟩
   conv => whnf
   repeat' (first|((first|((first|(apply zY;intro hg)|apply zZ);first|exact stA|exact stB|exact stC)|(refine zW ?_ ?_;exact gA)|refine zH rfl ?_|refine zA ?_|refine zI bA ?_|refine zI rfl ?_|refine sB ?_|(refine zO ?_ ?_ ?_;omega;omega)|(refine zP ?_ ?_ ?_;omega;omega)|refine zM rfl ?_|(refine zQ ?_ ?_ ?_;omega;omega)|(refine zR ?_ ?_;omega)|(refine zI ?_ ?_;exact nA)|refine sS ?_|refine sF ?_|refine n0 ?_|refine sD ?_|intro _|refine zG ?_);conv=>whnf)|(refine zX (fun hc => ?_) (fun hc => ?_)<;>(try simp only [SY] at hc)<;>first|omega|(conv=>whnf)))
   exact PRet.gen (y := .agg (refF (lkF l) ov t.n).cells) (Γ' := dmG b tk (A ++ []) tkk l) (by exact Wk.refl _) (hp := by rw [List.append_nil]; infer_instance) ⟨tk, tkk, l, h1, h2, h3, by omega, rfl, rfl, rfl⟩
  ·cases htt : t.t with
   | nil => have := s2 hc; rw [htt] at this; simp at this
   | cons z zs =>
    rw [← htt]
    have hzb : z.bulk ≤ Trm.bulks t.t := by rw [htt, Trm.bulks]; omega
    have hzo := hf z (by rw [htt]; simp)
    rw [lamD_eq hc]
    refine PCall.go (codeD13_c b tk A tkk l t (by omega) h1 h2 (by omega)) (WkT.refl _) ?_
    rintro _ _ ⟨tk2, e1, e2, rfl, rfl⟩
    conv => whnf
    repeat' (first|((first|((first|(apply zY;intro hg)|apply zZ);first|exact stA|exact stB|exact stC)|(refine zW ?_ ?_;exact gA)|refine zH rfl ?_|refine zA ?_|refine zI bA ?_|refine zI rfl ?_|refine sB ?_|(refine zO ?_ ?_ ?_;omega;omega)|(refine zP ?_ ?_ ?_;omega;omega)|refine zM rfl ?_|(refine zQ ?_ ?_ ?_;omega;omega)|(refine zR ?_ ?_;omega)|(refine zI ?_ ?_;exact nA)|refine sS ?_|refine sF ?_|refine n0 ?_|refine sD ?_|intro _|refine zG ?_);conv=>whnf)|(refine zX (fun hc => ?_) (fun hc => ?_)<;>(try simp only [SY] at hc)<;>first|omega|(conv=>whnf)))
    refine PCall.go (bodyD13_c b tk2 (A ++ [⟨t.v, t.n == 1, noT⟩]) tkk l A.length t z (by simp) zs htt hzo e1 e2 h3 (by simp; omega) (by omega) (by omega)) (WkT.refl _) ?_
    rintro _ _ ⟨tk3, tkk3, l3, f1, f2, f3, f4, f5, rfl, rfl⟩
    have hL : (A ++ [(⟨t.v, t.n == 1, noT⟩ : Cod)]).length = A.length + 1 := by simp
    rw [hL] at f5 ⊢
    rw [← f5]
    generalize t.cloB true (overF (lkF l) t) (A.length + 1) (lkF l) = bo at *
    have hset : (A ++ [(⟨t.v, t.n == 1, noT⟩ : Cod)]).set A.length ⟨t.v, t.n == 1, bo.t⟩ ++ bo.c = A ++ (⟨t.v, t.n == 1, bo.t⟩ :: bo.c) := by simp
    rw [hset]
    generalize A ++ (⟨t.v, t.n == 1, bo.t⟩ :: bo.c) = A2 at *
    conv => whnf
    repeat' (first|((first|((first|(apply zY;intro hg)|apply zZ);first|exact stA|exact stB|exact stC)|(refine zW ?_ ?_;exact gA)|refine zH rfl ?_|refine zA ?_|refine zI bA ?_|refine zI rfl ?_|refine sB ?_|(refine zO ?_ ?_ ?_;omega;omega)|(refine zP ?_ ?_ ?_;omega;omega)|refine zM rfl ?_|(refine zQ ?_ ?_ ?_;omega;omega)|(refine zR ?_ ?_;omega)|(refine zI ?_ ?_;exact nA)|refine sS ?_|refine sF ?_|refine n0 ?_|refine sD ?_|intro _|refine zG ?_);conv=>whnf)|(refine zX (fun hc => ?_) (fun hc => ?_)<;>(try simp only [SY] at hc)<;>first|omega|(conv=>whnf)))
    refine PCall.go (lamD13_c b tk3 A2 tkk3 l3 A.length t (by omega) ov) (WkT.refl _) ?_
    rintro _ _ ⟨rfl, rfl⟩
    generalize cloT A.length ((overF (lkF l3) t).map (refF (lkF l3) ov)) = at' at *
    conv => whnf
    repeat' (first|((first|((first|(apply zY;intro hg)|apply zZ);first|exact stA|exact stB|exact stC)|(refine zW ?_ ?_;exact gA)|refine zH rfl ?_|refine zA ?_|refine zI bA ?_|refine zI rfl ?_|refine sB ?_|(refine zO ?_ ?_ ?_;omega;omega)|(refine zP ?_ ?_ ?_;omega;omega)|refine zM rfl ?_|(refine zQ ?_ ?_ ?_;omega;omega)|(refine zR ?_ ?_;omega)|(refine zI ?_ ?_;exact nA)|refine sS ?_|refine sF ?_|refine n0 ?_|refine sD ?_|intro _|refine zG ?_);conv=>whnf)|(refine zX (fun hc => ?_) (fun hc => ?_)<;>(try simp only [SY] at hc)<;>first|omega|(conv=>whnf)))
    exact PRet.gen (y := .agg at'.cells) (Γ' := dmG b tk3 A2 tkk3 l3) (Wk.refl _) ⟨tk3, tkk3, l3, f1, f2, f3, by omega, rfl, rfl, rfl⟩
  ·refine PCall.go (letD13_c b tk A tkk l t (s3 (.inl hc)) hf hlam ov hc h1 h2 h3 hb hl hov) (WkT.refl _) ?_
   rintro _ _ ⟨tk2, tkk2, l2, e1, e2, e3, e4, e5, rfl, rfl⟩
   conv => whnf
   repeat' (first|((first|((first|(apply zY;intro hg)|apply zZ);first|exact stA|exact stB|exact stC)|(refine zW ?_ ?_;exact gA)|refine zH rfl ?_|refine zA ?_|refine zI bA ?_|refine zI rfl ?_|refine sB ?_|(refine zO ?_ ?_ ?_;omega;omega)|(refine zP ?_ ?_ ?_;omega;omega)|refine zM rfl ?_|(refine zQ ?_ ?_ ?_;omega;omega)|(refine zR ?_ ?_;omega)|(refine zI ?_ ?_;exact nA)|refine sS ?_|refine sF ?_|refine n0 ?_|refine sD ?_|intro _|refine zG ?_);conv=>whnf)|(refine zX (fun hc => ?_) (fun hc => ?_)<;>(try simp only [SY] at hc)<;>first|omega|(conv=>whnf)))
   exact PRet.gen (y := .agg (t.clo true ov A.length (lkF l)).t.cells) (Γ' := dmG b tk2 (A ++ (t.clo true ov A.length (lkF l)).c) tkk2 l2) (Wk.refl _) ⟨tk2, tkk2, l2, e1, e2, e3, e4, e5, rfl, rfl⟩
  ·refine PCall.go (fixD13_c b tk A tkk l t (s3 (.inr hc)) hf (fun y hy => hlam y (List.mem_of_mem_take hy) (s4 hc y (by have := s3 (.inr hc); rw [List.dropLast_eq_take, this]; exact hy))) ov hc h1 h2 h3 hb hl hov) (WkT.refl _) ?_
   rintro _ _ ⟨tk2, tkk2, l2, e1, e2, e3, e4, e5, rfl, rfl⟩
   conv => whnf
   repeat' (first|((first|((first|(apply zY;intro hg)|apply zZ);first|exact stA|exact stB|exact stC)|(refine zW ?_ ?_;exact gA)|refine zH rfl ?_|refine zA ?_|refine zI bA ?_|refine zI rfl ?_|refine sB ?_|(refine zO ?_ ?_ ?_;omega;omega)|(refine zP ?_ ?_ ?_;omega;omega)|refine zM rfl ?_|(refine zQ ?_ ?_ ?_;omega;omega)|(refine zR ?_ ?_;omega)|(refine zI ?_ ?_;exact nA)|refine sS ?_|refine sF ?_|refine n0 ?_|refine sD ?_|intro _|refine zG ?_);conv=>whnf)|(refine zX (fun hc => ?_) (fun hc => ?_)<;>(try simp only [SY] at hc)<;>first|omega|(conv=>whnf)))
   exact PRet.gen (y := .agg (t.clo true ov A.length (lkF l)).t.cells) (Γ' := dmG b tk2 (A ++ (t.clo true ov A.length (lkF l)).c) tkk2 l2) (Wk.refl _) ⟨tk2, tkk2, l2, e1, e2, e3, e4, e5, rfl, rfl⟩
  ·rename_i b8
   have hl0 : 0 < t.t.length := by omega
   have hgd : t.t.getD 0 Dfl.d = t.t[0] := by rw [List.getD_eq_getElem?_getD, List.getElem?_eq_getElem hl0]; rfl
   have hhd : t.t.headD (.mk 0 0 [] []) = t.t[0] := by rw [← hgd]; cases t.t <;> rfl
   rw [hgd] at hc
   have hce : t.clo true ov A.length (lkF l) = ⟨.mk (callF (lkF l) t.op t.n t.t).1 (callF (lkF l) t.op t.n t.t).2 t.v (Trm.clos true t.t ov A.length (lkF l)).t, (Trm.clos true t.t ov A.length (lkF l)).c, (Trm.clos true t.t ov A.length (lkF l)).fm⟩ := by
    rw [Trm.clo_eq, if_neg (by omega), if_neg (by omega), if_neg (by omega), if_neg (by omega)]
   rw [hce]
   have hcf : callF (lkF l) t.op t.n t.t = match lkF l t.t[0].n with
    | some f => (22, f.code)
    | none => (t.op, t.n) := by rw [callF, hhd, if_pos hc]; rfl
   rw [hcf]
   have hlk : lkF l t.t[0].n = (lkK l t.t[0].n).map Kw.k := rfl
   rw [hlk]
   have hfd := find13_c b tk A tkk l t.t[0].n
   cases hkn : lkK l t.t[0].n with
   | some kw =>
    rw [hkn] at hfd
    dsimp only [Option.map_some]
    refine PCall.go hfd (WkT.refl _) ?_
    rintro _ _ ⟨rfl, rfl⟩
    conv => whnf
    repeat' (first|((first|((first|(apply zY;intro hg)|apply zZ);first|exact stA|exact stB|exact stC)|(refine zW ?_ ?_;exact gA)|refine zH rfl ?_|refine zA ?_|refine zI bA ?_|refine zI rfl ?_|refine sB ?_|(refine zO ?_ ?_ ?_;omega;omega)|(refine zP ?_ ?_ ?_;omega;omega)|refine zM rfl ?_|(refine zQ ?_ ?_ ?_;omega;omega)|(refine zR ?_ ?_;omega)|(refine zI ?_ ?_;exact nA)|refine sS ?_|refine sF ?_|refine n0 ?_|refine sD ?_|intro _|refine zG ?_);conv=>whnf)|(refine zX (fun hc => ?_) (fun hc => ?_)<;>(try simp only [SY] at hc)<;>first|omega|(conv=>whnf)))
    ·refine PLoop.ghost (Ghost.trans (Ghost.nil 4 26 _) (Ghost.box (b := b8) (cs := [.int .i64 22, .int .i64 kw.k.code, slI t.v, .nil]) (cs' := [.int .i64 22, .int .i64 kw.k.code, slI t.v, .sl 4 (([] : List Trm).map Trm.pv) (some (nilTok 4 26))]) wA)) ?_
     refine PLoop.over [11, 80, 81, 82, 83, 84, 85, 86, 87, 88, 89, 90, 91, 92, 93, 94, 95, 96, 97, 98, 99] (fun x : Nat × (List Trm × Tok) × List Cod × List Kw × Tok × Tok => [(11, .int .i64 x.1)]) (fun x => .tok x.2.1.2 :: .box b8 [.int .i64 22, .int .i64 kw.k.code, slI t.v, .sl 4 (x.2.1.1.map Trm.pv) (some x.2.1.2)] :: .box b6 [.int .i64 0, .int .i64 0, .nil, .nil] :: .box b4 [.int .i64 t.op, .int .i64 t.n, .sl 1 (t.v.map (PV.int .i64)) none, .sl 4 (t.t.map Trm.pv) none] :: dmG b x.2.2.2.2.1 x.2.2.1 x.2.2.2.2.2 x.2.2.2.1)
      (fun x => x.1 ≤ t.t.length ∧ x.2.1.2.e = 26 ∧ x.2.2.2.2.1.e = 88 ∧ x.2.2.2.2.1.s = 6 ∧ x.2.2.2.2.2.e = 149 ∧ x.2.1.1.length = x.1 ∧ x.2.2.2.1.length + Trm.bulks (t.t.drop x.1) ≤ l.length + Trm.bulks t.t ∧ ∃ C, x.2.2.1 = A ++ C ∧ C.length + Trm.bulks (t.t.drop x.1) ≤ Trm.bulks t.t ∧ Trm.clos true t.t ov A.length (lkF l) = preS x.2.1.1 C (Trm.clos true (t.t.drop x.1) ov x.2.2.1.length (lkF x.2.2.2.1))) (fun x => t.t.length - x.1)
      (0, ([], nilTok 4 26), A, l, tk, tkk) ⟨Nat.zero_le _, rfl, h1, h2, h3, rfl, by simp, [], by simp, by simp, (preS_nil (Trm.clos_nil _ _ _ _ _)).symm⟩ wA ?_
     rintro ⟨i, ⟨T, tt'⟩, A2, L2, tk2, tkk2⟩ ⟨hi, htt, k3, k4, k5, hTl, hLl, C, hA2, hcl, he⟩
     dsimp only at hi htt k3 k4 k5 hTl hLl hA2 hcl he ⊢
     conv => whnf
     repeat' (first|((first|((first|(apply zY;intro hg)|apply zZ);first|exact stA|exact stB|exact stC)|(refine zW ?_ ?_;exact gA)|refine zH rfl ?_|refine zA ?_|refine zI bA ?_|refine zI rfl ?_|refine sB ?_|(refine zO ?_ ?_ ?_;omega;omega)|(refine zP ?_ ?_ ?_;omega;omega)|refine zM rfl ?_|(refine zQ ?_ ?_ ?_;omega;omega)|(refine zR ?_ ?_;omega)|(refine zI ?_ ?_;exact nA)|refine sS ?_|refine sF ?_|refine n0 ?_|refine sD ?_|intro _|refine zG ?_);conv=>whnf)|(refine zX (fun hc => ?_) (fun hc => ?_)<;>(try simp only [SY] at hc)<;>first|omega|(conv=>whnf)))
     ·have hit : i < t.t.length := by omega
      rw [drop_at hit, Trm.bulks] at hcl hLl
      rw [drop_at hit, Trm.clos] at he
      have hA2l : A2.length = A.length + C.length := by rw [hA2, List.length_append]
      have hal : (t.t[i].clo true ov A2.length (lkF L2)).c.length ≤ t.t[i].bulk := (t.t[i].clo_lens true).1 _ _ _
      have hcall := hf _ (List.getElem_mem hit) tk2 A2 tkk2 L2 ov k3 k4 k5 (by omega) (by omega) hov
      rw [preS_add] at he
      generalize t.t[i].clo true ov A2.length (lkF L2) = a at *
      have hl3 : A2.length + a.c.length = (A2 ++ a.c).length := by simp
      rw [hl3] at he
      refine PDraw.sE [.tok tt', .box b [.ms tk2, .sl 3 (L2.map Kw.pv) (some tkk2)], .row tk2 (A2.map Cod.pv), .tok tkk2] [9,10] [11,12,13] tt_ok mixed ?_
      conv=>whnf
      repeat ((first|((first|(apply zY;intro hg)|apply zZ);first|exact stA|exact stB|exact stC)|(refine zW ?_ ?_;exact gA)|refine zH rfl ?_|refine zA ?_|refine zI bA ?_|refine zI rfl ?_|refine sB ?_|(refine zO ?_ ?_ ?_;omega;omega)|(refine zP ?_ ?_ ?_;omega;omega)|refine zM rfl ?_|(refine zQ ?_ ?_ ?_;omega;omega)|(refine zR ?_ ?_;omega)|(refine zI ?_ ?_;exact nA)|refine sS ?_|refine sF ?_|refine n0 ?_|refine sD ?_|intro _);conv=>whnf)
      refine PCall.go hcall (WkT.refl _) ?_
      rintro _ _ ⟨tk3, tkk3, l3, e1, e2, e3, e4, e5, rfl, rfl⟩
      rw [← e5] at he
      conv => whnf
      repeat' (first|((first|((first|(apply zY;intro hg)|apply zZ);first|exact stA|exact stB|exact stC)|(refine zW ?_ ?_;exact gA)|refine zH rfl ?_|refine zA ?_|refine zI bA ?_|refine zI rfl ?_|refine sB ?_|(refine zO ?_ ?_ ?_;omega;omega)|(refine zP ?_ ?_ ?_;omega;omega)|refine zM rfl ?_|(refine zQ ?_ ?_ ?_;omega;omega)|(refine zR ?_ ?_;omega)|(refine zI ?_ ?_;exact nA)|refine sS ?_|refine sF ?_|refine n0 ?_|refine sD ?_|intro _|refine zG ?_);conv=>whnf)|(refine zX (fun hc => ?_) (fun hc => ?_)<;>(try simp only [SY] at hc)<;>first|omega|(conv=>whnf)))
      rename_i t5 ht5
      exact loopTo (i + 1, (T ++ [a.t], t5), A2 ++ a.c, l3, tk3, tkk3) ⟨by show i + 1 ≤ _; omega, ht5, e1, e2, e3, by simp; omega, by show l3.length + Trm.bulks (t.t.drop (i + 1)) ≤ _; omega, C ++ a.c, by rw [hA2, List.append_assoc], by show (C ++ a.c).length + Trm.bulks (t.t.drop (i + 1)) ≤ _; rw [List.length_append]; omega, he⟩ (by show t.t.length - (i + 1) < t.t.length - i; omega) wA
     ·rw [List.drop_of_length_le (by omega)] at he hLl
      rw [Trm.bulks] at hLl
      simp only [Trm.clos, preS, List.append_nil] at he
      rw [he, hA2]
      exact PRet.gen (y := .agg (Trm.mk (22) (kw.k.code) t.v T).cells) (Γ' := dmG b tk2 (A ++ C) tkk2 L2) TrmOf.wk ⟨tk2, tkk2, L2, k3, k4, k5, by omega, rfl, rfl, rfl⟩
    ·exact absurd hc (by simp)
   | none =>
    rw [hkn] at hfd
    dsimp only [Option.map_none]
    refine PCall.go hfd (WkT.refl _) ?_
    rintro _ _ ⟨rfl, rfl⟩
    conv => whnf
    repeat' (first|((first|((first|(apply zY;intro hg)|apply zZ);first|exact stA|exact stB|exact stC)|(refine zW ?_ ?_;exact gA)|refine zH rfl ?_|refine zA ?_|refine zI bA ?_|refine zI rfl ?_|refine sB ?_|(refine zO ?_ ?_ ?_;omega;omega)|(refine zP ?_ ?_ ?_;omega;omega)|refine zM rfl ?_|(refine zQ ?_ ?_ ?_;omega;omega)|(refine zR ?_ ?_;omega)|(refine zI ?_ ?_;exact nA)|refine sS ?_|refine sF ?_|refine n0 ?_|refine sD ?_|intro _|refine zG ?_);conv=>whnf)|(refine zX (fun hc => ?_) (fun hc => ?_)<;>(try simp only [SY] at hc)<;>first|omega|(conv=>whnf)))
    ·exact absurd hc (by simp)
    ·refine PLoop.ghost (Ghost.trans (Ghost.nil 4 26 _) (Ghost.box (b := b8) (cs := [.int .i64 t.op, .int .i64 t.n, slI t.v, .nil]) (cs' := [.int .i64 t.op, .int .i64 t.n, slI t.v, .sl 4 (([] : List Trm).map Trm.pv) (some (nilTok 4 26))]) wA)) ?_
     refine PLoop.over [11, 80, 81, 82, 83, 84, 85, 86, 87, 88, 89, 90, 91, 92, 93, 94, 95, 96, 97, 98, 99] (fun x : Nat × (List Trm × Tok) × List Cod × List Kw × Tok × Tok => [(11, .int .i64 x.1)]) (fun x => .tok x.2.1.2 :: .box b8 [.int .i64 t.op, .int .i64 t.n, slI t.v, .sl 4 (x.2.1.1.map Trm.pv) (some x.2.1.2)] :: .box b6 [.int .i64 0, .int .i64 0, .nil, .nil] :: .box b4 [.int .i64 t.op, .int .i64 t.n, .sl 1 (t.v.map (PV.int .i64)) none, .sl 4 (t.t.map Trm.pv) none] :: dmG b x.2.2.2.2.1 x.2.2.1 x.2.2.2.2.2 x.2.2.2.1)
      (fun x => x.1 ≤ t.t.length ∧ x.2.1.2.e = 26 ∧ x.2.2.2.2.1.e = 88 ∧ x.2.2.2.2.1.s = 6 ∧ x.2.2.2.2.2.e = 149 ∧ x.2.1.1.length = x.1 ∧ x.2.2.2.1.length + Trm.bulks (t.t.drop x.1) ≤ l.length + Trm.bulks t.t ∧ ∃ C, x.2.2.1 = A ++ C ∧ C.length + Trm.bulks (t.t.drop x.1) ≤ Trm.bulks t.t ∧ Trm.clos true t.t ov A.length (lkF l) = preS x.2.1.1 C (Trm.clos true (t.t.drop x.1) ov x.2.2.1.length (lkF x.2.2.2.1))) (fun x => t.t.length - x.1)
      (0, ([], nilTok 4 26), A, l, tk, tkk) ⟨Nat.zero_le _, rfl, h1, h2, h3, rfl, by simp, [], by simp, by simp, (preS_nil (Trm.clos_nil _ _ _ _ _)).symm⟩ wA ?_
     rintro ⟨i, ⟨T, tt'⟩, A2, L2, tk2, tkk2⟩ ⟨hi, htt, k3, k4, k5, hTl, hLl, C, hA2, hcl, he⟩
     dsimp only at hi htt k3 k4 k5 hTl hLl hA2 hcl he ⊢
     conv => whnf
     repeat' (first|((first|((first|(apply zY;intro hg)|apply zZ);first|exact stA|exact stB|exact stC)|(refine zW ?_ ?_;exact gA)|refine zH rfl ?_|refine zA ?_|refine zI bA ?_|refine zI rfl ?_|refine sB ?_|(refine zO ?_ ?_ ?_;omega;omega)|(refine zP ?_ ?_ ?_;omega;omega)|refine zM rfl ?_|(refine zQ ?_ ?_ ?_;omega;omega)|(refine zR ?_ ?_;omega)|(refine zI ?_ ?_;exact nA)|refine sS ?_|refine sF ?_|refine n0 ?_|refine sD ?_|intro _|refine zG ?_);conv=>whnf)|(refine zX (fun hc => ?_) (fun hc => ?_)<;>(try simp only [SY] at hc)<;>first|omega|(conv=>whnf)))
     ·have hit : i < t.t.length := by omega
      rw [drop_at hit, Trm.bulks] at hcl hLl
      rw [drop_at hit, Trm.clos] at he
      have hA2l : A2.length = A.length + C.length := by rw [hA2, List.length_append]
      have hal : (t.t[i].clo true ov A2.length (lkF L2)).c.length ≤ t.t[i].bulk := (t.t[i].clo_lens true).1 _ _ _
      have hcall := hf _ (List.getElem_mem hit) tk2 A2 tkk2 L2 ov k3 k4 k5 (by omega) (by omega) hov
      rw [preS_add] at he
      generalize t.t[i].clo true ov A2.length (lkF L2) = a at *
      have hl3 : A2.length + a.c.length = (A2 ++ a.c).length := by simp
      rw [hl3] at he
      refine PDraw.sE [.tok tt', .box b [.ms tk2, .sl 3 (L2.map Kw.pv) (some tkk2)], .row tk2 (A2.map Cod.pv), .tok tkk2] [9,10] [11,12,13] tt_ok mixed ?_
      conv=>whnf
      repeat ((first|((first|(apply zY;intro hg)|apply zZ);first|exact stA|exact stB|exact stC)|(refine zW ?_ ?_;exact gA)|refine zH rfl ?_|refine zA ?_|refine zI bA ?_|refine zI rfl ?_|refine sB ?_|(refine zO ?_ ?_ ?_;omega;omega)|(refine zP ?_ ?_ ?_;omega;omega)|refine zM rfl ?_|(refine zQ ?_ ?_ ?_;omega;omega)|(refine zR ?_ ?_;omega)|(refine zI ?_ ?_;exact nA)|refine sS ?_|refine sF ?_|refine n0 ?_|refine sD ?_|intro _);conv=>whnf)
      refine PCall.go hcall (WkT.refl _) ?_
      rintro _ _ ⟨tk3, tkk3, l3, e1, e2, e3, e4, e5, rfl, rfl⟩
      rw [← e5] at he
      conv => whnf
      repeat' (first|((first|((first|(apply zY;intro hg)|apply zZ);first|exact stA|exact stB|exact stC)|(refine zW ?_ ?_;exact gA)|refine zH rfl ?_|refine zA ?_|refine zI bA ?_|refine zI rfl ?_|refine sB ?_|(refine zO ?_ ?_ ?_;omega;omega)|(refine zP ?_ ?_ ?_;omega;omega)|refine zM rfl ?_|(refine zQ ?_ ?_ ?_;omega;omega)|(refine zR ?_ ?_;omega)|(refine zI ?_ ?_;exact nA)|refine sS ?_|refine sF ?_|refine n0 ?_|refine sD ?_|intro _|refine zG ?_);conv=>whnf)|(refine zX (fun hc => ?_) (fun hc => ?_)<;>(try simp only [SY] at hc)<;>first|omega|(conv=>whnf)))
      rename_i t5 ht5
      exact loopTo (i + 1, (T ++ [a.t], t5), A2 ++ a.c, l3, tk3, tkk3) ⟨by show i + 1 ≤ _; omega, ht5, e1, e2, e3, by simp; omega, by show l3.length + Trm.bulks (t.t.drop (i + 1)) ≤ _; omega, C ++ a.c, by rw [hA2, List.append_assoc], by show (C ++ a.c).length + Trm.bulks (t.t.drop (i + 1)) ≤ _; rw [List.length_append]; omega, he⟩ (by show t.t.length - (i + 1) < t.t.length - i; omega) wA
     ·rw [List.drop_of_length_le (by omega)] at he hLl
      rw [Trm.bulks] at hLl
      simp only [Trm.clos, preS, List.append_nil] at he
      rw [he, hA2]
      exact PRet.gen (y := .agg (Trm.mk (t.op) (t.n) t.v T).cells) (Γ' := dmG b tk2 (A ++ C) tkk2 L2) TrmOf.wk ⟨tk2, tkk2, L2, k3, k4, k5, by omega, rfl, rfl, rfl⟩
  ·rename_i b8
   have hcf : callF (lkF l) t.op t.n t.t = (t.op, t.n) := by
    have e : t.t.headD (.mk 0 0 [] []) = t.t.getD 0 Dfl.d := by cases t.t <;> rfl
    rw [callF, e, if_neg (by omega)]
   have hce : t.clo true ov A.length (lkF l) = ⟨.mk t.op t.n t.v (Trm.clos true t.t ov A.length (lkF l)).t, (Trm.clos true t.t ov A.length (lkF l)).c, (Trm.clos true t.t ov A.length (lkF l)).fm⟩ := by
    rw [Trm.clo_eq, if_neg (by omega), if_neg (by omega), if_neg (by omega), if_neg (by omega), hcf]
   rw [hce]
   dsimp only
   refine PLoop.ghost (Ghost.trans (Ghost.nil 4 26 _) (Ghost.box (b := b8) (cs := [.int .i64 t.op, .int .i64 t.n, slI t.v, .nil]) (cs' := [.int .i64 t.op, .int .i64 t.n, slI t.v, .sl 4 (([] : List Trm).map Trm.pv) (some (nilTok 4 26))]) wA)) ?_
   refine PLoop.over [11, 80, 81, 82, 83, 84, 85, 86, 87, 88, 89, 90, 91, 92, 93, 94, 95, 96, 97, 98, 99] (fun x : Nat × (List Trm × Tok) × List Cod × List Kw × Tok × Tok => [(11, .int .i64 x.1)]) (fun x => .tok x.2.1.2 :: .box b8 [.int .i64 t.op, .int .i64 t.n, slI t.v, .sl 4 (x.2.1.1.map Trm.pv) (some x.2.1.2)] :: .box b6 [.int .i64 0, .int .i64 0, .nil, .nil] :: .box b4 [.int .i64 t.op, .int .i64 t.n, .sl 1 (t.v.map (PV.int .i64)) none, .sl 4 (t.t.map Trm.pv) none] :: dmG b x.2.2.2.2.1 x.2.2.1 x.2.2.2.2.2 x.2.2.2.1)
    (fun x => x.1 ≤ t.t.length ∧ x.2.1.2.e = 26 ∧ x.2.2.2.2.1.e = 88 ∧ x.2.2.2.2.1.s = 6 ∧ x.2.2.2.2.2.e = 149 ∧ x.2.1.1.length = x.1 ∧ x.2.2.2.1.length + Trm.bulks (t.t.drop x.1) ≤ l.length + Trm.bulks t.t ∧ ∃ C, x.2.2.1 = A ++ C ∧ C.length + Trm.bulks (t.t.drop x.1) ≤ Trm.bulks t.t ∧ Trm.clos true t.t ov A.length (lkF l) = preS x.2.1.1 C (Trm.clos true (t.t.drop x.1) ov x.2.2.1.length (lkF x.2.2.2.1))) (fun x => t.t.length - x.1)
    (0, ([], nilTok 4 26), A, l, tk, tkk) ⟨Nat.zero_le _, rfl, h1, h2, h3, rfl, by simp, [], by simp, by simp, (preS_nil (Trm.clos_nil _ _ _ _ _)).symm⟩ wA ?_
   rintro ⟨i, ⟨T, tt'⟩, A2, L2, tk2, tkk2⟩ ⟨hi, htt, k3, k4, k5, hTl, hLl, C, hA2, hcl, he⟩
   dsimp only at hi htt k3 k4 k5 hTl hLl hA2 hcl he ⊢
   conv => whnf
   repeat' (first|((first|((first|(apply zY;intro hg)|apply zZ);first|exact stA|exact stB|exact stC)|(refine zW ?_ ?_;exact gA)|refine zH rfl ?_|refine zA ?_|refine zI bA ?_|refine zI rfl ?_|refine sB ?_|(refine zO ?_ ?_ ?_;omega;omega)|(refine zP ?_ ?_ ?_;omega;omega)|refine zM rfl ?_|(refine zQ ?_ ?_ ?_;omega;omega)|(refine zR ?_ ?_;omega)|(refine zI ?_ ?_;exact nA)|refine sS ?_|refine sF ?_|refine n0 ?_|refine sD ?_|intro _|refine zG ?_);conv=>whnf)|(refine zX (fun hc => ?_) (fun hc => ?_)<;>(try simp only [SY] at hc)<;>first|omega|(conv=>whnf)))
   ·have hit : i < t.t.length := by omega
    rw [drop_at hit, Trm.bulks] at hcl hLl
    rw [drop_at hit, Trm.clos] at he
    have hA2l : A2.length = A.length + C.length := by rw [hA2, List.length_append]
    have hal : (t.t[i].clo true ov A2.length (lkF L2)).c.length ≤ t.t[i].bulk := (t.t[i].clo_lens true).1 _ _ _
    have hcall := hf _ (List.getElem_mem hit) tk2 A2 tkk2 L2 ov k3 k4 k5 (by omega) (by omega) hov
    rw [preS_add] at he
    generalize t.t[i].clo true ov A2.length (lkF L2) = a at *
    have hl3 : A2.length + a.c.length = (A2 ++ a.c).length := by simp
    rw [hl3] at he
    refine PDraw.sE [.tok tt', .box b [.ms tk2, .sl 3 (L2.map Kw.pv) (some tkk2)], .row tk2 (A2.map Cod.pv), .tok tkk2] [9,10] [11,12,13] tt_ok mixed ?_
    conv=>whnf
    repeat ((first|((first|(apply zY;intro hg)|apply zZ);first|exact stA|exact stB|exact stC)|(refine zW ?_ ?_;exact gA)|refine zH rfl ?_|refine zA ?_|refine zI bA ?_|refine zI rfl ?_|refine sB ?_|(refine zO ?_ ?_ ?_;omega;omega)|(refine zP ?_ ?_ ?_;omega;omega)|refine zM rfl ?_|(refine zQ ?_ ?_ ?_;omega;omega)|(refine zR ?_ ?_;omega)|(refine zI ?_ ?_;exact nA)|refine sS ?_|refine sF ?_|refine n0 ?_|refine sD ?_|intro _);conv=>whnf)
    refine PCall.go hcall (WkT.refl _) ?_
    rintro _ _ ⟨tk3, tkk3, l3, e1, e2, e3, e4, e5, rfl, rfl⟩
    rw [← e5] at he
    conv => whnf
    repeat' (first|((first|((first|(apply zY;intro hg)|apply zZ);first|exact stA|exact stB|exact stC)|(refine zW ?_ ?_;exact gA)|refine zH rfl ?_|refine zA ?_|refine zI bA ?_|refine zI rfl ?_|refine sB ?_|(refine zO ?_ ?_ ?_;omega;omega)|(refine zP ?_ ?_ ?_;omega;omega)|refine zM rfl ?_|(refine zQ ?_ ?_ ?_;omega;omega)|(refine zR ?_ ?_;omega)|(refine zI ?_ ?_;exact nA)|refine sS ?_|refine sF ?_|refine n0 ?_|refine sD ?_|intro _|refine zG ?_);conv=>whnf)|(refine zX (fun hc => ?_) (fun hc => ?_)<;>(try simp only [SY] at hc)<;>first|omega|(conv=>whnf)))
    rename_i t5 ht5
    exact loopTo (i + 1, (T ++ [a.t], t5), A2 ++ a.c, l3, tk3, tkk3) ⟨by show i + 1 ≤ _; omega, ht5, e1, e2, e3, by simp; omega, by show l3.length + Trm.bulks (t.t.drop (i + 1)) ≤ _; omega, C ++ a.c, by rw [hA2, List.append_assoc], by show (C ++ a.c).length + Trm.bulks (t.t.drop (i + 1)) ≤ _; rw [List.length_append]; omega, he⟩ (by show t.t.length - (i + 1) < t.t.length - i; omega) wA
   ·rw [List.drop_of_length_le (by omega)] at he hLl
    rw [Trm.bulks] at hLl
    simp only [Trm.clos, preS, List.append_nil] at he
    rw [he, hA2]
    exact PRet.gen (y := .agg (Trm.mk (t.op) (t.n) t.v T).cells) (Γ' := dmG b tk2 (A ++ C) tkk2 L2) TrmOf.wk ⟨tk2, tkk2, L2, k3, k4, k5, by omega, rfl, rfl, rfl⟩
theorem clOkD (b : Nat) (t : Trm) (h1 : t.shI) : ClOkD b t := (clOkD2 b t h1).1
end Go.Cb
namespace Go.Cb
open Go.Proofs
set_option maxRecDepth 100000
set_option maxHeartbeats 4000000
theorem codsBulk_append : ∀ l m : List Cod, codsBulk (l ++ m) = codsBulk l + codsBulk m
 | [], m => by simp [codsBulk]
 | x :: l, m => by rw [List.cons_append, codsBulk, codsBulk, codsBulk_append l m]; omega
theorem refF_bulk (fm : Fm) (ov : List Int) (v : Int) : (refF fm ov v).bulk = 1 := by
 unfold refF
 split
 ·rfl
 ·split <;> rfl
theorem refs_bulk (fm : Fm) (ov l : List Int) : Trm.bulks (l.map (refF fm ov)) = l.length := by
 induction l with
 | nil => rfl
 | cons x l ih => rw [List.map_cons, Trm.bulks, refF_bulk, ih, List.length_cons]; omega
theorem overF_all (fm : Fm) (t : Trm) : (overF fm t).length ≤ t.all.length := by
 have h2 : (freeOf t.all).length ≤ t.all.length := by rw [freeOf, List.length_map]; exact List.length_filter_le _ _
 have h3 : (riseL (freeOf t.all)).length ≤ ((freeOf t.all).mergeSort fun x y => decide (x ≤ y)).length := by
  unfold riseL Lib.compact Lib.compactUpTo
  rw [List.length_map]
  exact Nat.le_trans (List.length_filter_le _ _) (by simp)
 rw [List.length_mergeSort] at h3
 have : (overF fm t).length ≤ (riseL (freeOf t.all)).length := List.length_filter_le _ _
 omega
theorem Trm.bulk_mk (o n : Int) (v : List Int) (l : List Trm) : (Trm.mk o n v l).bulk = 1 + v.length + Trm.bulks l := by rw [Trm.bulk]
theorem Trm.met_cnt (t : Trm) : ∀ (sc : List Int) (deep : Int), ((t.met sc deep).length : Int) ≤ t.cnt := by
 induction t using Trm.ind with
 | h t ih =>
  intro sc deep
  have key : ∀ l : List Trm, (∀ y ∈ l, ∀ (sc : List Int) (deep : Int), ((y.met sc deep).length : Int) ≤ y.cnt) → ∀ op sc inner deep, ((Trm.mets op sc inner l deep).length : Int) ≤ Trm.cnts l := by
   intro l
   induction l with
   | nil => intro _ op sc inner deep; simp [Trm.mets, Trm.cnts]
   | cons x l ihl =>
    intro h op sc inner deep
    rw [Trm.mets, Trm.cnts, List.length_append]
    have a := h x (by simp) (if groupB op = true ∨ l = [] then inner else sc) deep
    have b := ihl (fun y hy => h y (by simp [hy])) op sc inner deep
    omega
  rw [Trm.met_eq, t.cnt_eq, List.length_cons]
  have := Trm.cnts_pos t.t
  split
  ·simp; omega
  ·have := key t.t ih t.op sc (sc ++ t.v) (deep + 1)
   omega
theorem Trm.cnts_mem {x : Trm} : ∀ {l : List Trm}, x ∈ l → x.cnt ≤ Trm.cnts l
 | [], h => by cases h
 | y :: l, h => by
  rw [Trm.cnts]
  have := Trm.cnts_pos l
  have := y.cnt_pos
  rcases List.mem_cons.1 h with rfl | h
  ·omega
  ·have := Trm.cnts_mem h; omega
def BkOk (w : Bool) (K : Int) (t : Trm) : Prop := t.cnt ≤ K → ∀ ov n fm, ((t.clo w ov n fm).t.bulk : Int) + codsBulk (t.clo w ov n fm).c ≤ t.bulk + (K + 2) * t.cnt
def BkB (w : Bool) (K : Int) (t : Trm) : Prop := t.cnt ≤ K → ∀ ov n fm, 1 + K + t.v.length + ((t.cloB w ov n fm).t.bulk : Int) + codsBulk (t.cloB w ov n fm).c ≤ t.bulk + (K + 2) * t.cnt
theorem overF_cnt (fm : Fm) (t : Trm) : ((overF fm t).length : Int) ≤ t.cnt := by
 have := overF_all fm t
 have : (t.all.length : Int) ≤ t.cnt := t.met_cnt [] 0
 omega
theorem Trm.clos_bk (w : Bool) (K : Int) : ∀ l : List Trm, (∀ y ∈ l, BkOk w K y) → Trm.cnts l ≤ K → ∀ ov n fm, (Trm.bulks (Trm.clos w l ov n fm).t : Int) + codsBulk (Trm.clos w l ov n fm).c ≤ Trm.bulks l + (K + 2) * Trm.cnts l
 | [], _, _, ov, n, fm => by rw [Trm.clos]; simp [Trm.bulks, codsBulk, Trm.cnts]
 | y :: l, h, hk, ov, n, fm => by
  have p1 := y.cnt_pos
  have p2 := Trm.cnts_pos l
  rw [Trm.cnts] at hk
  rw [Trm.clos, Trm.bulks, Trm.cnts, Int.mul_add]
  have a := h y (by simp) (by omega) ov n fm
  have b := Trm.clos_bk w K l (fun z hz => h z (by simp [hz])) (by omega) ov (n + (y.clo w ov n fm).c.length) (y.clo w ov n fm).fm
  dsimp only
  rw [Trm.bulks, codsBulk_append]
  omega
theorem Trm.cloL_bk (w : Bool) (K : Int) (hK : 0 ≤ K) : ∀ l : List Trm, (∀ y ∈ l, BkOk w K y) → Trm.cnts l ≤ K → ∀ vs ov n fm lrn, (Trm.bulks (Trm.cloL w l vs ov n fm lrn).t : Int) + (Trm.cloL w l vs ov n fm lrn).last.bulk + codsBulk (Trm.cloL w l vs ov n fm lrn).c ≤ Trm.bulks l + (K + 2) * Trm.cnts l + 1 ∧ (Trm.cloL w l vs ov n fm lrn).v.length ≤ vs.length
 | [], _, _, vs, ov, n, fm, lrn => by rw [Trm.cloL]; simp [Trm.bulks, codsBulk, Trm.cnts, Trm.bulk]
 | y :: l, h, hk, [], ov, n, fm, lrn => by
  have p1 := y.cnt_pos
  have p2 := Trm.cnts_pos l
  rw [Trm.cnts] at hk
  have p3 : 0 ≤ (K + 2) * Trm.cnts l := Int.mul_nonneg (by omega) p2
  rw [Trm.cloL, Trm.bulks, Trm.cnts, Int.mul_add]
  have a := h y (by simp) (by omega) ov n (learnF w lrn fm)
  dsimp only
  rw [Trm.bulks]
  refine ⟨by omega, by simp⟩
 | y :: l, h, hk, v :: vs, ov, n, fm, lrn => by
  have p1 := y.cnt_pos
  have p2 := Trm.cnts_pos l
  rw [Trm.cnts] at hk
  rw [Trm.cloL, Trm.bulks, Trm.cnts, Int.mul_add]
  have a := h y (by simp) (by omega) ov n fm
  obtain ⟨b, b2⟩ := Trm.cloL_bk w K hK l (fun z hz => h z (by simp [hz])) (by omega) vs ov (n + (y.clo w ov n fm).c.length) (y.clo w ov n fm).fm (if y.op = 4 then lrn ++ [(v, ⟨n, (y.clo w ov n fm).t.op == 21⟩)] else lrn)
  dsimp only
  rw [codsBulk_append]
  split
  ·refine ⟨by omega, by simp only [List.length_cons]; omega⟩
  ·rw [Trm.bulks]
   refine ⟨by omega, by simp only [List.length_cons]; omega⟩
theorem Trm.cloF_bk (w : Bool) (K : Int) (hK : 0 ≤ K) : ∀ l : List Trm, (∀ y ∈ l, BkOk w K y) → (∀ y ∈ l, BkB w K y) → Trm.cnts l ≤ K → ∀ vs ov c n fm, (Trm.bulks (Trm.cloF w l vs ov c n fm).t : Int) + (Trm.cloF w l vs ov c n fm).last.bulk + codsBulk (Trm.cloF w l vs ov c n fm).own + codsBulk (Trm.cloF w l vs ov c n fm).c ≤ Trm.bulks l + (K + 2) * Trm.cnts l + 1
 | [], _, _, _, vs, ov, c, n, fm => by rw [Trm.cloF]; simp [Trm.bulks, codsBulk, Trm.cnts, Trm.bulk]
 | y :: l, h, _, hk, [], ov, c, n, fm => by
  have p1 := y.cnt_pos
  have p2 := Trm.cnts_pos l
  rw [Trm.cnts] at hk
  have p3 : 0 ≤ (K + 2) * Trm.cnts l := Int.mul_nonneg (by omega) p2
  rw [Trm.cloF, Trm.bulks, Trm.cnts, Int.mul_add]
  have a := h y (by simp) (by omega) ov n fm
  dsimp only
  rw [Trm.bulks, codsBulk]
  omega
 | y :: l, h, k, hk, v :: vs, ov, c, n, fm => by
  have p1 := y.cnt_pos
  have p2 := Trm.cnts_pos l
  rw [Trm.cnts] at hk
  rw [Trm.cloF, Trm.bulks, Trm.cnts, Int.mul_add]
  have a := k y (by simp) (by omega) (overF fm y) n fm
  have b := Trm.cloF_bk w K hK l (fun z hz => h z (by simp [hz])) (fun z hz => k z (by simp [hz])) (by omega) vs ov (c + 1) (n + (y.cloB w (overF fm y) n fm).c.length) (y.cloB w (overF fm y) n fm).fm
  have q1 := overF_cnt fm y
  have q2 := overF_cnt (y.cloB w (overF fm y) n fm).fm y
  dsimp only
  rw [codsBulk_append, Trm.bulks, codsBulk, Trm.bulk, refs_bulk]
  have q : ((if w = true then overF (y.cloB w (overF fm y) n fm).fm y else overF fm y).length : Int) ≤ K := by split <;> omega
  simp only [List.length_nil, Cod.bulk]
  omega
theorem Trm.clo_bks (w : Bool) (K : Int) (hK : 0 ≤ K) (t : Trm) : BkOk w K t ∧ BkB w K t := by
 induction t using Trm.ind with
 | h t ih =>
  have hbe := t.bulk_eq
  have hce := t.cnt_eq
  have p2 := Trm.cnts_pos t.t
  have e1 : (K + 2) * t.cnt = (K + 2) + (K + 2) * Trm.cnts t.t := by rw [hce, Int.mul_add, Int.mul_one]
  have p3 : 0 ≤ (K + 2) * Trm.cnts t.t := Int.mul_nonneg (by omega) p2
  have hB : BkB w K t := by
   intro hk ov n fm
   rw [Trm.cloB_eq]
   cases ht : t.t with
   | nil =>
    rw [Trm.cloH]
    dsimp only
    rw [codsBulk, show noT.bulk = 1 from rfl]
    omega
   | cons x xs =>
    rw [Trm.cloH]
    have hx : x ∈ t.t := by rw [ht]; simp
    have a := (ih x hx).1 (by have := Trm.cnts_mem hx; omega) ov n fm
    have q1 := Trm.bulks_mem hx
    have q2 := Trm.cnts_mem hx
    have q3 : (K + 2) * x.cnt ≤ (K + 2) * Trm.cnts t.t := Int.mul_le_mul_of_nonneg_left q2 (by omega)
    omega
  refine ⟨?_, hB⟩
  intro hk ov n fm
  rw [Trm.clo_eq]
  split
  ·dsimp only
   rw [refF_bulk, codsBulk]
   omega
  split
  ·have a := hB hk (overF fm t) (n + 1) fm
   have q1 := overF_cnt fm t
   have q2 := overF_cnt (t.cloB w (overF fm t) (n + 1) fm).fm t
   have q : ((if w = true then overF (t.cloB w (overF fm t) (n + 1) fm).fm t else overF fm t).length : Int) ≤ K := by split <;> omega
   dsimp only
   generalize (if w = true then overF (t.cloB w (overF fm t) (n + 1) fm).fm t else overF fm t) = own at q ⊢
   rw [codsBulk, cloT]
   simp only [Cod.bulk]
   split
   ·rw [Trm.bulk_mk, Trm.bulks]
    simp only [List.length_nil]
    omega
   ·rw [Trm.bulk_mk, refs_bulk]
    simp only [List.length_nil]
    omega
  split
  ·obtain ⟨a, b⟩ := Trm.cloL_bk w K hK t.t (fun y hy => (ih y hy).1) (by omega) t.v ov n fm []
   dsimp only
   split
   ·omega
   ·rw [Trm.bulk, Trm.bulks_append, Trm.bulks, Trm.bulks]
    omega
  split
  ·have a := Trm.cloF_bk w K hK t.t (fun y hy => (ih y hy).1) (fun y hy => (ih y hy).2) (by omega) t.v ov n (n + t.v.length) (fixF w t.v n (fixS fm t.v t.t) fm)
   dsimp only
   rw [codsBulk_append]
   split
   ·omega
   ·rw [Trm.bulk, Trm.bulks_append, Trm.bulks, Trm.bulks]
    omega
  ·have a := Trm.clos_bk w K t.t (fun y hy => (ih y hy).1) (by omega) ov n fm
   dsimp only
   rw [Trm.bulk]
   omega
theorem Trm.okT_shD {c codes : Int} {free : Bool} (t : Trm) : ∀ {scope : List Int} {deep : Int}, t.okT 2 c codes free scope deep → t.vars.Nodup → t.shD := by
 induction t using Trm.ind with
 | h t ih =>
  intro scope deep h hn
  rw [Trm.okT_eq] at h
  rw [Trm.shD_eq]
  rw [Trm.vars_eq, List.nodup_append] at hn
  have key : ∀ (op : Int) (sc inner : List Int) (deep : Int) (l : List Trm), (∀ y ∈ l, ∀ {scope : List Int} {deep : Int}, y.okT 2 c codes free scope deep → y.vars.Nodup → y.shD) → Trm.okTs 2 c codes free op sc inner l deep → (Trm.varss l).Nodup → Trm.shDs l := by
   intro op sc inner deep l
   induction l with
   | nil => intro _ _ _; rw [Trm.shDs]; trivial
   | cons x l ihl =>
    intro hy hk hn
    rw [Trm.okTs] at hk
    rw [Trm.varss, List.nodup_append] at hn
    rw [Trm.shDs]
    exact ⟨hy x (by simp) hk.2.1 hn.1, ihl (fun z hz => hy z (by simp [hz])) hk.2.2 hn.2.1⟩
  refine ⟨⟨hn.1, fun h4 h8 h9 => ?_⟩, key _ _ _ _ _ ih h.2 hn.2.1⟩
  obtain ⟨⟨_, h2, h3, _⟩, _⟩ := h
  unfold countsL at h3
  have h7 : t.op ≠ 7 := by
   intro e
   rw [e] at h2
   revert h2
   decide
  have hbb : bindsB t.op = false := by simp [bindsB, h4, h7, h8, h9]
  rw [hbb] at h3
  split at h3
  ·cases h3
  ·rename_i hne
   simp only [Bool.not_false, Bool.true_and, decide_eq_true_eq] at hne
   exact List.eq_nil_of_length_eq_zero (by omega)
end Go.Cb
namespace Go.Cb
open Go.Proofs
set_option maxRecDepth 100000
set_option maxHeartbeats 4000000
mutual
def Trm.ct (o : Int) : Trm → Nat
 | .mk op _ _ t => (if op = o then 1 else 0) + Trm.cts o t
def Trm.cts (o : Int) : List Trm → Nat
 | [] => 0
 | x :: xs => Trm.ct o x + Trm.cts o xs
end
theorem Trm.ct_eq (o : Int) (t : Trm) : t.ct o = (if t.op = o then 1 else 0) + Trm.cts o t.t := by cases t; rw [Trm.ct]; rfl
theorem Trm.ct_mk (o op n : Int) (v : List Int) (l : List Trm) : (Trm.mk op n v l).ct o = (if op = o then 1 else 0) + Trm.cts o l := by rw [Trm.ct]
theorem Trm.cts_append (o : Int) : ∀ l m : List Trm, Trm.cts o (l ++ m) = Trm.cts o l + Trm.cts o m
 | [], m => by simp [Trm.cts]
 | x :: l, m => by rw [List.cons_append, Trm.cts, Trm.cts, Trm.cts_append o l m]; omega
def cctS (o : Int) : List Cod → Nat
 | [] => 0
 | x :: l => x.body.ct o + cctS o l
theorem cctS_append (o : Int) : ∀ l m : List Cod, cctS o (l ++ m) = cctS o l + cctS o m
 | [], m => by simp [cctS]
 | x :: l, m => by rw [List.cons_append, cctS, cctS, cctS_append o l m]; omega
mutual
def Trm.opn : Trm → Nat
 | .mk op n v t => (if op = 4 ∧ (riseL (freeOf (Trm.all (.mk op n v t)))).length > 0 then 1 else 0) + Trm.opns t
def Trm.opns : List Trm → Nat
 | [] => 0
 | x :: xs => Trm.opn x + Trm.opns xs
end
theorem Trm.opn_eq (t : Trm) : t.opn = (if t.op = 4 ∧ (riseL (freeOf t.all)).length > 0 then 1 else 0) + Trm.opns t.t := by cases t; rw [Trm.opn]; rfl
mutual
def Trm.shR : Trm → Prop
 | .mk op _ _ t => ((op = 1 → t = []) ∧ op ≠ 19) ∧ Trm.shRs t
def Trm.shRs : List Trm → Prop
 | [] => True
 | x :: xs => Trm.shR x ∧ Trm.shRs xs
end
theorem Trm.shR_eq (t : Trm) : t.shR ↔ ((t.op = 1 → t.t = []) ∧ t.op ≠ 19) ∧ Trm.shRs t.t := by cases t; rw [Trm.shR]; rfl
theorem Trm.okT_shR {c codes : Int} {free : Bool} (t : Trm) : ∀ {scope : List Int} {deep : Int}, t.okT 2 c codes free scope deep → t.shR := by
 induction t using Trm.ind with
 | h t ih =>
  intro scope deep h
  rw [Trm.okT_eq] at h
  rw [Trm.shR_eq]
  have key : ∀ (op : Int) (sc inner : List Int) (deep : Int) (l : List Trm), (∀ y ∈ l, ∀ {scope : List Int} {deep : Int}, y.okT 2 c codes free scope deep → y.shR) → Trm.okTs 2 c codes free op sc inner l deep → Trm.shRs l := by
   intro op sc inner deep l
   induction l with
   | nil => intro _ _; rw [Trm.shRs]; trivial
   | cons x l ihl =>
    intro hy hk
    rw [Trm.okTs] at hk
    rw [Trm.shRs]
    exact ⟨hy x (by simp) hk.2.1, ihl (fun z hz => hy z (by simp [hz])) hk.2.2⟩
  have hts := h.2
  obtain ⟨⟨_, h2, h3, _⟩, _⟩ := h
  refine ⟨⟨fun e => ?_, fun e => ?_⟩, key _ _ _ _ _ ih hts⟩
  ·unfold countsL at h3
   split at h3
   ·cases h3
   ·rw [if_pos (by omega)] at h3
    exact List.eq_nil_of_length_eq_zero (by simpa using h3)
  ·rw [e] at h2
   revert h2
   decide
theorem refF_ct (o : Int) (h1 : o = 4 ∨ o = 19) (fm : Fm) (ov : List Int) (v : Int) : (refF fm ov v).ct o = 0 := by
 unfold refF
 split
 ·rw [Trm.ct_mk, Trm.cts, if_neg (by omega)]
 ·split
  ·rw [Trm.ct_mk, Trm.cts, if_neg (by omega)]
  ·rw [Trm.ct_mk, Trm.cts, if_neg (by omega)]
theorem refs_ct (o : Int) (h1 : o = 4 ∨ o = 19) (fm : Fm) (ov l : List Int) : Trm.cts o (l.map (refF fm ov)) = 0 := by
 induction l with
 | nil => rfl
 | cons x l ih => rw [List.map_cons, Trm.cts, refF_ct o h1, ih]
theorem cloT_ct (n : Int) (l : List Trm) (h : Trm.cts 19 l = 0) : (cloT n l).ct 19 ≤ 1 ∧ (l = [] → (cloT n l).ct 19 = 0) := by
 unfold cloT
 split
 ·rw [Trm.ct_mk, Trm.cts]; exact ⟨by simp, fun _ => by simp⟩
 ·rename_i hl
  rw [Trm.ct_mk, h]; exact ⟨by simp, fun e => by rw [e] at hl; simp at hl⟩
theorem over_none {t : Trm} (h4 : t.op = 4) (h : t.opn = 0) (fm : Fm) : overF fm t = [] := by
 rw [Trm.opn_eq] at h
 have : (riseL (freeOf t.all)).length = 0 := by
  by_cases hl : (riseL (freeOf t.all)).length > 0
  ·rw [if_pos ⟨h4, hl⟩] at h; omega
  ·omega
 rw [overF, List.eq_nil_of_length_eq_zero this]
 rfl
def NnOk (t : Trm) : Prop := ∀ ov n fm, (t.clo false ov n fm).c.length = t.ct 4 ∧ (t.clo false ov n fm).t.ct 19 + cctS 19 (t.clo false ov n fm).c ≤ t.ct 4 ∧ (t.opn = 0 → (t.clo false ov n fm).t.ct 19 + cctS 19 (t.clo false ov n fm).c = 0)
def NnB (t : Trm) : Prop := t.op = 4 → ∀ ov n fm, (t.cloB false ov n fm).c.length + 1 = t.ct 4 ∧ (t.cloB false ov n fm).t.ct 19 + cctS 19 (t.cloB false ov n fm).c + 1 ≤ t.ct 4 ∧ (t.opn = 0 → (t.cloB false ov n fm).t.ct 19 + cctS 19 (t.cloB false ov n fm).c = 0)
theorem Trm.clos_nn : ∀ l : List Trm, (∀ y ∈ l, NnOk y) → ∀ ov n fm, (Trm.clos false l ov n fm).c.length = Trm.cts 4 l ∧ Trm.cts 19 (Trm.clos false l ov n fm).t + cctS 19 (Trm.clos false l ov n fm).c ≤ Trm.cts 4 l ∧ (Trm.opns l = 0 → Trm.cts 19 (Trm.clos false l ov n fm).t + cctS 19 (Trm.clos false l ov n fm).c = 0)
 | [], _, ov, n, fm => by rw [Trm.clos]; simp [Trm.cts, cctS]
 | y :: l, h, ov, n, fm => by
  rw [Trm.clos, Trm.cts, Trm.opns]
  obtain ⟨a1, a2, a3⟩ := h y (by simp) ov n fm
  obtain ⟨b1, b2, b3⟩ := Trm.clos_nn l (fun z hz => h z (by simp [hz])) ov (n + (y.clo false ov n fm).c.length) (y.clo false ov n fm).fm
  dsimp only
  rw [List.length_append, Trm.cts, cctS_append]
  refine ⟨by omega, by omega, fun h0 => ?_⟩
  have := a3 (by omega)
  have := b3 (by omega)
  omega
theorem Trm.cloL_nn : ∀ l : List Trm, (∀ y ∈ l, NnOk y) → ∀ vs, l.length = vs.length + 1 → ∀ ov n fm lrn, (Trm.cloL false l vs ov n fm lrn).c.length = Trm.cts 4 l ∧ Trm.cts 19 (Trm.cloL false l vs ov n fm lrn).t + (Trm.cloL false l vs ov n fm lrn).last.ct 19 + cctS 19 (Trm.cloL false l vs ov n fm lrn).c ≤ Trm.cts 4 l ∧ (Trm.opns l = 0 → Trm.cts 19 (Trm.cloL false l vs ov n fm lrn).t + (Trm.cloL false l vs ov n fm lrn).last.ct 19 + cctS 19 (Trm.cloL false l vs ov n fm lrn).c = 0)
 | [], _, vs, hv, ov, n, fm, lrn => by simp at hv
 | y :: l, h, [], hv, ov, n, fm, lrn => by
  obtain rfl : l = [] := List.eq_nil_of_length_eq_zero (by simpa using hv)
  rw [Trm.cloL, Trm.cts, Trm.opns, Trm.cts, Trm.opns]
  obtain ⟨a1, a2, a3⟩ := h y (by simp) ov n (learnF false lrn fm)
  dsimp only
  rw [Trm.cts]
  refine ⟨by omega, by omega, fun h0 => ?_⟩
  have := a3 (by omega)
  omega
 | y :: l, h, v :: vs, hv, ov, n, fm, lrn => by
  rw [Trm.cloL, Trm.cts, Trm.opns]
  obtain ⟨a1, a2, a3⟩ := h y (by simp) ov n fm
  obtain ⟨b1, b2, b3⟩ := Trm.cloL_nn l (fun z hz => h z (by simp [hz])) vs (by simpa using hv) ov (n + (y.clo false ov n fm).c.length) (y.clo false ov n fm).fm (if y.op = 4 then lrn ++ [(v, ⟨n, (y.clo false ov n fm).t.op == 21⟩)] else lrn)
  dsimp only
  rw [List.length_append, cctS_append]
  generalize (if y.op = 4 then lrn ++ [(v, (⟨n, (y.clo false ov n fm).t.op == 21⟩ : Kn))] else lrn) = lrn2 at *
  split
  ·refine ⟨by omega, by omega, fun h0 => ?_⟩
   have := a3 (by omega)
   have := b3 (by omega)
   omega
  ·rw [Trm.cts]
   refine ⟨by omega, by omega, fun h0 => ?_⟩
   have := a3 (by omega)
   have := b3 (by omega)
   omega
theorem Trm.cloF_nn : ∀ l : List Trm, (∀ y ∈ l, NnOk y) → (∀ y ∈ l, NnB y) → ∀ vs, l.length = vs.length + 1 → (∀ y ∈ l.dropLast, y.op = 4) → ∀ ov c n fm, (Trm.cloF false l vs ov c n fm).own.length + (Trm.cloF false l vs ov c n fm).c.length = Trm.cts 4 l ∧ Trm.cts 19 (Trm.cloF false l vs ov c n fm).t + (Trm.cloF false l vs ov c n fm).last.ct 19 + cctS 19 (Trm.cloF false l vs ov c n fm).own + cctS 19 (Trm.cloF false l vs ov c n fm).c ≤ Trm.cts 4 l ∧ (Trm.opns l = 0 → (Trm.cloF false l vs ov c n fm).last.ct 19 + cctS 19 (Trm.cloF false l vs ov c n fm).own + cctS 19 (Trm.cloF false l vs ov c n fm).c = 0)
 | [], _, _, vs, hv, _, ov, c, n, fm => by simp at hv
 | y :: l, h, _, [], hv, _, ov, c, n, fm => by
  obtain rfl : l = [] := List.eq_nil_of_length_eq_zero (by simpa using hv)
  rw [Trm.cloF, Trm.cts, Trm.opns, Trm.cts, Trm.opns]
  obtain ⟨a1, a2, a3⟩ := h y (by simp) ov n fm
  dsimp only
  rw [Trm.cts, cctS]
  refine ⟨by simp; omega, by omega, fun h0 => ?_⟩
  have := a3 (by omega)
  omega
 | y :: l, h, k, v :: vs, hv, h4, ov, c, n, fm => by
  have hl0 : l ≠ [] := by intro e; rw [e] at hv; simp at hv
  rw [List.dropLast_cons_of_ne_nil hl0] at h4
  have hy4 := h4 y (by simp)
  rw [Trm.cloF, Trm.cts, Trm.opns]
  obtain ⟨a1, a2, a3⟩ := k y (by simp) hy4 (overF fm y) n fm
  obtain ⟨b1, b2, b3⟩ := Trm.cloF_nn l (fun z hz => h z (by simp [hz])) (fun z hz => k z (by simp [hz])) vs (by simpa using hv) (fun z hz => h4 z (by simp [hz])) ov (c + 1) (n + (y.cloB false (overF fm y) n fm).c.length) (y.cloB false (overF fm y) n fm).fm
  dsimp only
  rw [List.length_append, cctS_append, Trm.cts, cctS, Trm.ct_mk, refs_ct 19 (by omega), if_pos rfl, List.length_cons]
  dsimp only
  refine ⟨by omega, by omega, fun h0 => ?_⟩
  have := a3 (by omega)
  have := b3 (by omega)
  omega
theorem Trm.opns_zero : ∀ {l : List Trm}, Trm.opns l = 0 → ∀ x ∈ l, x.opn = 0
 | [], _, x, hx => by cases hx
 | y :: l, h, x, hx => by
  rw [Trm.opns] at h
  rcases List.mem_cons.1 hx with rfl | hx
  ·omega
  ·exact Trm.opns_zero (by omega) x hx
theorem Trm.shRs_mem : ∀ {l : List Trm}, Trm.shRs l → ∀ x ∈ l, x.shR
 | [], _, x, hx => by cases hx
 | y :: l, h, x, hx => by
  rw [Trm.shRs] at h
  rcases List.mem_cons.1 hx with rfl | hx
  ·exact h.1
  ·exact Trm.shRs_mem h.2 x hx
theorem Trm.clo_nn (t : Trm) : t.shI → t.shR → NnOk t ∧ NnB t := by
 induction t using Trm.ind with
 | h t ih =>
  intro hI hR
  rw [Trm.shI_eq] at hI
  rw [Trm.shR_eq] at hR
  obtain ⟨⟨s1, s2, s3, s4⟩, s5⟩ := hI
  obtain ⟨⟨r1, r2⟩, r3⟩ := hR
  have hx : ∀ y ∈ t.t, NnOk y ∧ NnB y := fun y hy => ih y hy (Trm.shIs_mem s5 y hy) (Trm.shRs_mem r3 y hy)
  have hB : NnB t := by
   intro h4 ov n fm
   rw [Trm.cloB_eq, t.ct_eq, if_pos h4, t.opn_eq]
   obtain ⟨z, hz⟩ : ∃ z, t.t = [z] := by
    have := s2 h4
    cases ht : t.t with
    | nil => rw [ht] at this; simp at this
    | cons z zs =>
     cases zs with
     | nil => exact ⟨z, rfl⟩
     | cons y ys => rw [ht] at this; simp at this
   rw [hz, Trm.cloH, Trm.cts, Trm.cts, Trm.opns, Trm.opns]
   obtain ⟨a1, a2, a3⟩ := (hx z (by rw [hz]; simp)).1 ov n fm
   refine ⟨by omega, by omega, fun h0 => ?_⟩
   have := a3 (by omega)
   omega
  refine ⟨?_, hB⟩
  intro ov n fm
  rw [Trm.clo_eq]
  split
  ·rename_i h1
   rw [t.ct_eq, r1 h1, if_neg (by omega)]
   dsimp only
   rw [refF_ct 19 (by omega), Trm.cts, cctS]
   simp
  split
  ·rename_i h4
   obtain ⟨a1, a2, a3⟩ := hB h4 (overF fm t) (n + 1) fm
   dsimp only
   rw [if_neg (by simp), List.length_cons, cctS]
   obtain ⟨c1, c2⟩ := cloT_ct n ((overF fm t).map (refF (t.cloB false (overF fm t) (n + 1) fm).fm ov)) (refs_ct 19 (by omega) _ _ _)
   refine ⟨a1, by dsimp only; omega, fun h0 => ?_⟩
   have := a3 h0
   have := c2 (by rw [over_none h4 h0]; rfl)
   dsimp only
   omega
  split
  ·rename_i h8
   obtain ⟨a1, a2, a3⟩ := Trm.cloL_nn t.t (fun y hy => (hx y hy).1) t.v (s3 (.inl h8)) ov n fm []
   have e1 : t.ct 4 = Trm.cts 4 t.t := by rw [Trm.ct_eq, if_neg (by omega), Nat.zero_add]
   have e2 : t.opn = Trm.opns t.t := by rw [Trm.opn_eq, if_neg (by omega), Nat.zero_add]
   rw [e1, e2]
   dsimp only
   split
   ·refine ⟨by omega, by omega, fun h0 => ?_⟩
    have := a3 (by omega)
    omega
   ·rw [Trm.ct_mk, Trm.cts_append, Trm.cts, Trm.cts, if_neg (by omega)]
    refine ⟨by omega, by omega, fun h0 => ?_⟩
    have := a3 (by omega)
    omega
  split
  ·rename_i h9
   obtain ⟨a1, a2, a3⟩ := Trm.cloF_nn t.t (fun y hy => (hx y hy).1) (fun y hy => (hx y hy).2) t.v (s3 (.inr h9)) (s4 h9) ov n (n + t.v.length) (fixF false t.v n (fixS fm t.v t.t) fm)
   have e1 : t.ct 4 = Trm.cts 4 t.t := by rw [Trm.ct_eq, if_neg (by omega), Nat.zero_add]
   have e2 : t.opn = Trm.opns t.t := by rw [Trm.opn_eq, if_neg (by omega), Nat.zero_add]
   rw [e1, e2]
   dsimp only
   rw [List.length_append, cctS_append]
   split
   ·refine ⟨by omega, by omega, fun h0 => ?_⟩
    have := a3 (by omega)
    omega
   ·rename_i hns
    rw [Trm.ct_mk, Trm.cts_append, Trm.cts, Trm.cts, if_neg (by omega)]
    refine ⟨by omega, by omega, fun h0 => ?_⟩
    exfalso
    apply hns
    unfold fixS
    rw [List.all_eq_true]
    intro y hy
    have hlen := s3 (.inr h9)
    have hy4 : y.op = 4 := s4 h9 y (by rw [List.dropLast_eq_take, hlen]; exact hy)
    rw [over_none hy4 (Trm.opns_zero (by omega) y (List.mem_of_mem_take hy))]
    rfl
  ·rename_i h1 h4 h8 h9
   obtain ⟨a1, a2, a3⟩ := Trm.clos_nn t.t (fun y hy => (hx y hy).1) ov n fm
   have hcf : ¬(callF fm t.op t.n t.t).1 = 19 := by
    unfold callF
    split
    ·split
     ·simp
     ·exact r2
    ·exact r2
   have e1 : t.ct 4 = Trm.cts 4 t.t := by rw [Trm.ct_eq, if_neg h4, Nat.zero_add]
   have e2 : t.opn = Trm.opns t.t := by rw [Trm.opn_eq, if_neg (by omega), Nat.zero_add]
   rw [e1, e2]
   dsimp only
   rw [Trm.ct_mk, if_neg hcf]
   refine ⟨by omega, by omega, fun h0 => ?_⟩
   have := a3 (by omega)
   omega
end Go.Cb
namespace Go.Cb
open Go.Proofs
set_option maxRecDepth 100000
set_option maxHeartbeats 4000000
end Go.Cb
namespace Go.Cb
open Go.Proofs
set_option maxRecDepth 100000
set_option maxHeartbeats 4000000
theorem Trm.met_scopeA (s : List Int) (t : Trm) : ∀ (sc : List Int) (deep : Int), t.met (s ++ sc) deep = (t.met sc deep).map fun m => (m.1, s ++ m.2) := by
 induction t using Trm.ind with
 | h t ih =>
  intro sc deep
  have key : ∀ (op : Int) (l : List Trm), (∀ y ∈ l, ∀ (sc : List Int) (deep : Int), y.met (s ++ sc) deep = (y.met sc deep).map fun m => (m.1, s ++ m.2)) →
    ∀ (sc inner : List Int) (deep : Int), Trm.mets op (s ++ sc) (s ++ inner) l deep = (Trm.mets op sc inner l deep).map fun m => (m.1, s ++ m.2) := by
   intro op l
   induction l with
   | nil => intro _ _ _ _; simp [Trm.mets]
   | cons x l ihl =>
    intro hy sc inner deep
    rw [Trm.mets, Trm.mets, List.map_append, ihl fun y hh => hy y (by simp [hh])]
    congr 1
    by_cases h : groupB op = true ∨ l = []
    ·rw [if_pos h, if_pos h]; exact hy x (by simp) _ _
    ·rw [if_neg h, if_neg h]; exact hy x (by simp) _ _
  rw [Trm.met_eq, Trm.met_eq, List.map_cons, List.append_assoc]
  congr 1
  split
  ·rfl
  ·exact key _ _ ih _ _ _
theorem Trm.okT_freeOf {level c codes : Int} {free : Bool} (t : Trm) {scope : List Int} {deep : Int} (h : t.okT level c codes free scope deep) : ∀ v ∈ freeOf t.all, v ∈ scope := by
 intro v hv
 rw [freeOf, List.mem_map] at hv
 obtain ⟨m, hm, rfl⟩ := hv
 rw [List.mem_filter, Bool.and_eq_true] at hm
 obtain ⟨h1, h2, h3⟩ := hm
 have hme : (m.1, scope ++ m.2) ∈ t.met scope 0 := by
  have := t.met_scopeA scope [] 0
  rw [List.append_nil] at this
  rw [this]
  exact List.mem_map.2 ⟨m, h1, rfl⟩
 have := t.okT_names 0 h _ hme h2
 simp only [List.contains_iff_mem, List.mem_append] at this
 rcases this with h4 | h4
 ·exact h4
 ·exfalso
  simp only [Bool.not_eq_true'] at h3
  have : m.2.contains m.1.n = true := by rw [List.contains_iff_mem]; exact h4
  rw [h3] at this; cases this
end Go.Cb
namespace Go.Cb
open Go.Proofs
set_option maxRecDepth 100000
set_option maxHeartbeats 4000000
def Off (V : List Int) (f g : Fm) : Prop := ∀ u, u ∉ V → f u = g u
theorem Off.rf {V : List Int} {f : Fm} : Off V f f := fun _ _ => rfl
theorem Off.tr {V : List Int} {f g h : Fm} (a : Off V f g) (b : Off V g h) : Off V f h := fun u hu => (a u hu).trans (b u hu)
theorem Off.mono {V W : List Int} {f g : Fm} (a : Off V f g) (h : ∀ x ∈ V, x ∈ W) : Off W f g := fun u hu => a u fun hv => hu (h u hv)
theorem setF_off (w : Bool) (fm : Fm) (v : Int) (f : Kn) : Off [v] (setF w fm v f) fm := by
 intro u hu
 have : u ≠ v := by simpa using hu
 unfold setF
 split
 ·rfl
 ·first | rfl | rw [if_neg this]
theorem learnF_off (w : Bool) : ∀ (l : List (Int × Kn)) (fm : Fm), Off (l.map Prod.fst) (learnF w l fm) fm
 | [], fm => Off.rf
 | x :: l, fm => by
  rw [learnF]
  exact ((learnF_off w l _).mono fun y hy => List.mem_cons_of_mem _ hy).tr ((setF_off w fm x.1 x.2).mono fun y hy => by rw [List.mem_singleton] at hy; rw [hy]; exact List.mem_cons_self ..)
theorem fixF_off (w : Bool) : ∀ (vs : List Int) (n : Int) (st : Bool) (fm : Fm), Off vs (fixF w vs n st fm) fm
 | [], _, _, _ => Off.rf
 | v :: vs, n, st, fm => by
  rw [fixF]
  exact ((fixF_off w vs _ _ _).mono fun y hy => List.mem_cons_of_mem _ hy).tr ((setF_off w fm v _).mono fun y hy => by rw [List.mem_singleton] at hy; rw [hy]; exact List.mem_cons_self ..)
def FrOk (w : Bool) (t : Trm) : Prop := ∀ ov n fm, Off t.vars (t.clo w ov n fm).fm fm
def FrB (w : Bool) (t : Trm) : Prop := ∀ ov n fm, Off t.vars (t.cloB w ov n fm).fm fm
theorem Trm.clos_fr (w : Bool) : ∀ l : List Trm, (∀ y ∈ l, FrOk w y) → ∀ ov n fm, Off (Trm.varss l) (Trm.clos w l ov n fm).fm fm
 | [], _, ov, n, fm => by rw [Trm.clos]; exact Off.rf
 | y :: l, h, ov, n, fm => by
  rw [Trm.clos, Trm.varss]
  have a := h y (by simp) ov n fm
  have b := Trm.clos_fr w l (fun z hz => h z (by simp [hz])) ov (n + (y.clo w ov n fm).c.length) (y.clo w ov n fm).fm
  exact (b.mono fun x hx => by simp [hx]).tr (a.mono fun x hx => by simp [hx])
theorem Trm.cloL_fr (w : Bool) : ∀ l : List Trm, (∀ y ∈ l, FrOk w y) → ∀ vs ov n fm lrn, Off ((vs ++ lrn.map Prod.fst) ++ Trm.varss l) (Trm.cloL w l vs ov n fm lrn).fm fm
 | [], _, vs, ov, n, fm, lrn => by
  rw [Trm.cloL]
  exact (learnF_off w lrn fm).mono fun x hx => by simp only [List.mem_append]; exact .inl (.inr hx)
 | y :: l, h, [], ov, n, fm, lrn => by
  rw [Trm.cloL, Trm.varss]
  have a := h y (by simp) ov n (learnF w lrn fm)
  refine (a.mono fun x hx => ?_).tr ((learnF_off w lrn fm).mono fun x hx => ?_)
  ·simp only [List.mem_append]; exact .inr (.inl hx)
  ·simp only [List.mem_append]; exact .inl (.inr hx)
 | y :: l, h, v :: vs, ov, n, fm, lrn => by
  rw [Trm.cloL, Trm.varss]
  have a := h y (by simp) ov n fm
  have b := Trm.cloL_fr w l (fun z hz => h z (by simp [hz])) vs ov (n + (y.clo w ov n fm).c.length) (y.clo w ov n fm).fm (if y.op = 4 then lrn ++ [(v, ⟨n, (y.clo w ov n fm).t.op == 21⟩)] else lrn)
  refine (b.mono fun x hx => ?_).tr (a.mono fun x hx => ?_)
  ·simp only [List.mem_append, List.mem_cons] at hx ⊢
   rcases hx with (hx | hx) | hx
   ·exact .inl (.inl (.inr hx))
   ·split at hx
    ·simp only [List.map_append, List.map_cons, List.map_nil, List.mem_append, List.mem_singleton] at hx
     rcases hx with hx | hx
     ·exact .inl (.inr hx)
     ·exact .inl (.inl (.inl hx))
    ·exact .inl (.inr hx)
   ·exact .inr (.inr hx)
  ·simp only [List.mem_append]; exact .inr (.inl hx)
theorem Trm.cloF_fr (w : Bool) : ∀ l : List Trm, (∀ y ∈ l, FrOk w y) → (∀ y ∈ l, FrB w y) → ∀ vs ov c n fm, Off (Trm.varss l) (Trm.cloF w l vs ov c n fm).fm fm
 | [], _, _, vs, ov, c, n, fm => by rw [Trm.cloF]; exact Off.rf
 | y :: l, h, _, [], ov, c, n, fm => by
  rw [Trm.cloF, Trm.varss]
  exact (h y (by simp) ov n fm).mono fun x hx => by simp only [List.mem_append]; exact .inl hx
 | y :: l, h, k, v :: vs, ov, c, n, fm => by
  rw [Trm.cloF, Trm.varss]
  have a := k y (by simp) (overF fm y) n fm
  have b := Trm.cloF_fr w l (fun z hz => h z (by simp [hz])) (fun z hz => k z (by simp [hz])) vs ov (c + 1) (n + (y.cloB w (overF fm y) n fm).c.length) (y.cloB w (overF fm y) n fm).fm
  exact (b.mono fun x hx => by simp only [List.mem_append]; exact .inr hx).tr (a.mono fun x hx => by simp only [List.mem_append]; exact .inl hx)
theorem Trm.clo_fr (w : Bool) (t : Trm) : FrOk w t ∧ FrB w t := by
 induction t using Trm.ind with
 | h t ih =>
  have hv : ∀ x ∈ Trm.varss t.t, x ∈ t.vars := fun x hx => by rw [Trm.vars_eq]; exact List.mem_append.2 (.inr hx)
  have hB : FrB w t := by
   intro ov n fm
   rw [Trm.cloB_eq]
   cases ht : t.t with
   | nil => rw [Trm.cloH]; exact Off.rf
   | cons z zs =>
    rw [Trm.cloH]
    exact ((ih z (by rw [ht]; simp)).1 ov n fm).mono fun x hx => hv x (by rw [ht, Trm.varss]; exact List.mem_append.2 (.inl hx))
  refine ⟨?_, hB⟩
  intro ov n fm
  rw [Trm.clo_eq]
  split
  ·exact Off.rf
  split
  ·exact hB _ _ _
  split
  ·refine (Trm.cloL_fr w t.t (fun y hy => (ih y hy).1) t.v ov n fm []).mono fun x hx => ?_
   rw [Trm.vars_eq]
   simpa using hx
  split
  ·refine ((Trm.cloF_fr w t.t (fun y hy => (ih y hy).1) (fun y hy => (ih y hy).2) _ _ _ _ _).mono hv).tr ((fixF_off w _ _ _ _).mono fun x hx => ?_)
   rw [Trm.vars_eq]
   exact List.mem_append.2 (.inl hx)
  ·exact (Trm.clos_fr w t.t (fun y hy => (ih y hy).1) ov n fm).mono hv
theorem overF_off {V : List Int} {f g : Fm} (h : Off V f g) (t : Trm) (hf : ∀ v ∈ freeOf t.all, v ∉ V) : overF f t = overF g t := by
 unfold overF
 refine List.filter_congr fun v hv => ?_
 have := h v (hf v ((mem_rise _ _).1 hv))
 rw [stF, stF, this]
theorem setF_new {fm : Fm} {v : Int} {f : Kn} (h : fm v = none) : setF true fm v f = setF false fm v f := by
 funext k
 unfold setF
 by_cases hk : k = v
 ·subst hk; simp [h]
 ·simp [hk]
theorem learnF_new : ∀ (l : List (Int × Kn)) (fm : Fm), (l.map Prod.fst).Nodup → (∀ x ∈ l.map Prod.fst, fm x = none) → learnF true l fm = learnF false l fm
 | [], _, _, _ => rfl
 | x :: l, fm, hn, h => by
  rw [List.map_cons, List.nodup_cons] at hn
  rw [learnF, learnF, setF_new (h x.1 (by simp))]
  refine learnF_new l _ hn.2 fun y hy => ?_
  rw [setF_off false fm x.1 x.2 y (by simp; intro e; exact hn.1 (e ▸ hy))]
  exact h y (by simp only [List.map_cons, List.mem_cons]; exact .inr hy)
theorem fixF_new : ∀ (vs : List Int) (n : Int) (st : Bool) (fm : Fm), vs.Nodup → (∀ x ∈ vs, fm x = none) → fixF true vs n st fm = fixF false vs n st fm
 | [], _, _, _, _, _ => rfl
 | v :: vs, n, st, fm, hn, h => by
  rw [List.nodup_cons] at hn
  rw [fixF, fixF, setF_new (h v (by simp))]
  refine fixF_new vs _ _ _ hn.2 fun y hy => ?_
  rw [setF_off false fm v _ y (by simp; intro e; exact hn.1 (e ▸ hy))]
  exact h y (by simp [hy])
theorem okTs_all {level c codes : Int} {free : Bool} {op : Int} {sc : List Int} : ∀ {l : List Trm} {deep : Int}, Trm.okTs level c codes free op sc sc l deep → ∀ y ∈ l, ∃ d, y.okT level c codes free sc d
 | [], _, _, y, hy => by cases hy
 | x :: l, deep, h, y, hy => by
  rw [Trm.okTs, ite_self] at h
  rcases List.mem_cons.1 hy with rfl | hy
  ·exact ⟨_, h.2.1⟩
  ·exact okTs_all h.2.2 y hy
def EqOk (c codes : Int) (t : Trm) : Prop := ∀ sc deep ov n fm, t.okT 2 c codes false sc deep → t.vars.Nodup → (∀ x ∈ t.vars, x ∉ sc ∧ fm x = none) → t.clo true ov n fm = t.clo false ov n fm
def EqB (c codes : Int) (t : Trm) : Prop := ∀ sc deep ov n fm, t.op = 4 → t.okT 2 c codes false sc deep → t.vars.Nodup → (∀ x ∈ t.vars, x ∉ sc ∧ fm x = none) → t.cloB true ov n fm = t.cloB false ov n fm
theorem Trm.clos_nw {c codes : Int} {sc : List Int} : ∀ l : List Trm, (∀ y ∈ l, EqOk c codes y) → (∀ y ∈ l, ∃ d, y.okT 2 c codes false sc d) → (Trm.varss l).Nodup → ∀ ov n fm, (∀ x ∈ Trm.varss l, x ∉ sc ∧ fm x = none) → Trm.clos true l ov n fm = Trm.clos false l ov n fm
 | [], _, _, _, ov, n, fm, _ => by rw [Trm.clos, Trm.clos]
 | y :: l, h, k, hn, ov, n, fm, hf => by
  rw [Trm.varss, List.nodup_append] at hn
  obtain ⟨n1, n2, n3⟩ := hn
  obtain ⟨d, hd⟩ := k y (by simp)
  have a := h y (by simp) sc d ov n fm hd n1 fun x hx => hf x (by rw [Trm.varss]; simp [hx])
  rw [Trm.clos, Trm.clos, a]
  have hb := Trm.clos_nw l (fun z hz => h z (by simp [hz])) (fun z hz => k z (by simp [hz])) n2 ov (n + (y.clo false ov n fm).c.length) (y.clo false ov n fm).fm fun x hx => by
   have h2 := hf x (by rw [Trm.varss]; simp [hx])
   exact ⟨h2.1, by rw [(y.clo_fr false).1 ov n fm x fun hy => n3 x hy x hx rfl]; exact h2.2⟩
  rw [hb]
theorem Trm.cloL_nw {c codes : Int} {sc inner : List Int} (hsi : ∀ x ∈ sc, x ∈ inner) : ∀ (l : List Trm) (deep : Int), (∀ y ∈ l, EqOk c codes y) → Trm.okTs 2 c codes false 8 sc inner l deep → (Trm.varss l).Nodup → ∀ vs, l.length = vs.length + 1 → ∀ ov n fm lrn, (vs ++ lrn.map Prod.fst).Nodup → (∀ x ∈ vs ++ lrn.map Prod.fst, x ∉ Trm.varss l ∧ fm x = none) → (∀ x ∈ Trm.varss l, x ∉ inner ∧ fm x = none) → Trm.cloL true l vs ov n fm lrn = Trm.cloL false l vs ov n fm lrn
 | [], _, _, _, _, vs, hl, _, _, _, _, _, _, _ => by simp at hl
 | y :: l, deep, h, k, hn, [], hl, ov, n, fm, lrn, hv, hvf, hf => by
  obtain rfl : l = [] := List.eq_nil_of_length_eq_zero (by simpa using hl)
  rw [Trm.okTs, if_pos (.inl rfl)] at k
  simp only [Trm.varss, List.append_nil] at hn hvf hf
  rw [List.nil_append] at hv hvf
  rw [Trm.cloL, Trm.cloL, learnF_new lrn fm hv fun x hx => (hvf x hx).2]
  have a := h y (by simp) inner deep ov n (learnF false lrn fm) k.2.1 hn fun x hx => ⟨(hf x hx).1, by
   rw [learnF_off false lrn fm x fun hx2 => (hvf x hx2).1 hx]; exact (hf x hx).2⟩
  rw [a]
 | y :: l, deep, h, k, hn, v :: vs, hl, ov, n, fm, lrn, hv, hvf, hf => by
  have hl0 : l ≠ [] := by intro e; rw [e] at hl; simp at hl
  rw [Trm.okTs, if_neg (show ¬(l = [] ∨ (8 : Int) = 7 ∨ (8 : Int) = 9) by simp [hl0])] at k
  rw [Trm.varss, List.nodup_append] at hn
  obtain ⟨n1, n2, n3⟩ := hn
  have a := h y (by simp) sc deep ov n fm k.2.1 n1 fun x hx => by
   have := hf x (by rw [Trm.varss]; simp [hx])
   exact ⟨fun hs => this.1 (hsi x hs), this.2⟩
  rw [Trm.cloL, Trm.cloL, a]
  have hfr : ∀ x, x ∉ y.vars → (y.clo false ov n fm).fm x = fm x := (y.clo_fr false).1 ov n fm
  have hb := Trm.cloL_nw hsi l (deep) (fun z hz => h z (by simp [hz])) k.2.2 n2 vs (by simpa using hl) ov (n + (y.clo false ov n fm).c.length) (y.clo false ov n fm).fm (if y.op = 4 then lrn ++ [(v, ⟨n, (y.clo false ov n fm).t.op == 21⟩)] else lrn) (by
    split
    ·rw [List.map_append, List.map_cons, List.map_nil, ← List.append_assoc]
     exact (List.perm_append_singleton v (vs ++ lrn.map Prod.fst)).nodup_iff.2 (by simpa using hv)
    ·rw [List.cons_append, List.nodup_cons] at hv; exact hv.2) (by
    intro x hx
    have hx2 : x ∈ (v :: vs) ++ lrn.map Prod.fst := by
     split at hx
     ·simp only [List.map_append, List.map_cons, List.map_nil, List.mem_append, List.mem_singleton, List.mem_cons] at hx ⊢
      rcases hx with hx | hx | hx
      ·exact .inl (.inr hx)
      ·exact .inr hx
      ·exact .inl (.inl (by simpa using hx))
     ·simp only [List.mem_append, List.mem_cons] at hx ⊢
      rcases hx with hx | hx
      ·exact .inl (.inr hx)
      ·exact .inr hx
    have h3 := hvf x hx2
    rw [Trm.varss, List.mem_append, not_or] at h3
    exact ⟨h3.1.2, by rw [hfr x h3.1.1]; exact h3.2⟩) (by
    intro x hx
    have h2 := hf x (by rw [Trm.varss]; simp [hx])
    exact ⟨h2.1, by rw [hfr x fun hy => n3 x hy x hx rfl]; exact h2.2⟩)
  rw [hb]
theorem Trm.cloF_nw {c codes : Int} {sc inner : List Int} : ∀ (l : List Trm) (deep : Int), (∀ y ∈ l, EqOk c codes y) → (∀ y ∈ l, EqB c codes y) → Trm.okTs 2 c codes false 9 sc inner l deep → (Trm.varss l).Nodup → ∀ vs, l.length = vs.length + 1 → ∀ ov k n fm, (∀ x ∈ Trm.varss l, x ∉ inner ∧ fm x = none) → Trm.cloF true l vs ov k n fm = Trm.cloF false l vs ov k n fm
 | [], _, _, _, _, _, vs, hl, _, _, _, _, _ => by simp at hl
 | y :: l, deep, h, _, k, hn, [], hl, ov, q, n, fm, hf => by
  obtain rfl : l = [] := List.eq_nil_of_length_eq_zero (by simpa using hl)
  rw [Trm.okTs, if_pos (.inl rfl)] at k
  simp only [Trm.varss, List.append_nil] at hn hf
  rw [Trm.cloF, Trm.cloF, h y (by simp) inner deep ov n fm k.2.1 hn hf]
 | y :: l, deep, h, hB, k, hn, v :: vs, hl, ov, q, n, fm, hf => by
  have hl0 : l ≠ [] := by intro e; rw [e] at hl; simp at hl
  rw [Trm.okTs, if_pos (.inr (.inr rfl))] at k
  rw [Trm.varss, List.nodup_append] at hn
  obtain ⟨n1, n2, n3⟩ := hn
  have h4 : y.op = 4 := by
   have := k.1
   apply Classical.byContradiction
   intro hne
   exact this ⟨rfl, hl0, by simpa [wantOp] using hne⟩
  have hfy : ∀ x ∈ y.vars, x ∉ inner ∧ fm x = none := fun x hx => hf x (by rw [Trm.varss]; simp [hx])
  have a := hB y (by simp) inner deep (overF fm y) n fm h4 k.2.1 n1 hfy
  rw [Trm.cloF, Trm.cloF, a]
  have hfr : Off y.vars (y.cloB false (overF fm y) n fm).fm fm := (y.clo_fr false).2 _ _ _
  have hov : overF (y.cloB false (overF fm y) n fm).fm y = overF fm y := overF_off hfr y fun u hu hy => (hfy u hy).1 (y.okT_freeOf k.2.1 u hu)
  have hb := Trm.cloF_nw l deep (fun z hz => h z (by simp [hz])) (fun z hz => hB z (by simp [hz])) k.2.2 n2 vs (by simpa using hl) ov (q + 1) (n + (y.cloB false (overF fm y) n fm).c.length) (y.cloB false (overF fm y) n fm).fm fun x hx => by
   have h2 := hf x (by rw [Trm.varss]; simp [hx])
   exact ⟨h2.1, by rw [hfr x fun hy => n3 x hy x hx rfl]; exact h2.2⟩
  rw [hb, hov]
  simp
theorem Trm.clo_nw (c codes : Int) (t : Trm) : EqOk c codes t ∧ EqB c codes t := by
 induction t using Trm.ind with
 | h t ih =>
  have hB : EqB c codes t := by
   intro sc deep ov n fm h4 hok hn hf
   have hI := (Trm.shI_eq t).1 (t.okT_shI (by decide) hok)
   rw [Trm.okT_eq] at hok
   rw [Trm.vars_eq] at hn hf
   have hlen := hI.1.2.1 h4
   rw [Trm.cloB_eq, Trm.cloB_eq]
   cases ht : t.t with
   | nil => rw [Trm.cloH, Trm.cloH]
   | cons z zs =>
    rw [ht] at hlen
    obtain rfl : zs = [] := List.eq_nil_of_length_eq_zero (by simpa using hlen)
    have hk := hok.2
    rw [ht, Trm.okTs, if_pos (.inl rfl)] at hk
    rw [ht] at hn hf
    simp only [Trm.varss, List.append_nil] at hn hf
    rw [List.nodup_append] at hn
    rw [Trm.cloH, Trm.cloH, (ih z (by rw [ht]; simp)).1 (sc ++ t.v) (deep + 1) ov n fm hk.2.1 hn.2.1 fun x hx => ?_]
    have h2 := hf x (List.mem_append.2 (.inr hx))
    refine ⟨fun hx2 => ?_, h2.2⟩
    rcases List.mem_append.1 hx2 with h5 | h5
    ·exact h2.1 h5
    ·exact hn.2.2 x h5 x hx rfl
  refine ⟨?_, hB⟩
  intro sc deep ov n fm hok hn hf
  have hI := (Trm.shI_eq t).1 (t.okT_shI (by decide) hok)
  have hD := (Trm.shD_eq t).1 (t.okT_shD hok hn)
  have hfree := t.okT_freeOf hok
  rw [Trm.clo_eq, Trm.clo_eq]
  split
  ·rfl
  split
  ·rename_i h1 h4
   have a := hB sc deep (overF fm t) (n + 1) fm h4 hok hn hf
   rw [a]
   have hov : overF (t.cloB false (overF fm t) (n + 1) fm).fm t = overF fm t := overF_off ((t.clo_fr false).2 _ _ _) t fun u hu hy => (hf u hy).1 (hfree u hu)
   rw [hov]
   simp
  rw [Trm.okT_eq] at hok
  rw [Trm.vars_eq] at hn hf
  have hn2 := List.nodup_append.1 hn
  split
  ·rename_i h8
   have hok2 := hok.2
   rw [h8] at hok2
   have a := Trm.cloL_nw (sc := sc) (inner := sc ++ t.v) (fun x hx => List.mem_append.2 (.inl hx)) t.t (deep + 1) (fun y hy => (ih y hy).1) hok2 hn2.2.1 t.v (hI.1.2.2.1 (.inl h8)) ov n fm [] (by simpa using hn2.1) (fun x hx => by
    have hx1 : x ∈ t.v := by simpa using hx
    exact ⟨fun h2 => hn2.2.2 x hx1 x h2 rfl, (hf x (List.mem_append.2 (.inl hx1))).2⟩) (fun x hx => by
    have h2 := hf x (List.mem_append.2 (.inr hx))
    refine ⟨fun hx2 => ?_, h2.2⟩
    rcases List.mem_append.1 hx2 with h5 | h5
    ·exact h2.1 h5
    ·exact hn2.2.2 x h5 x hx rfl)
   rw [a]
  split
  ·rename_i h9
   have hok2 := hok.2
   rw [h9] at hok2
   rw [fixF_new t.v n _ fm hn2.1 fun x hx => (hf x (List.mem_append.2 (.inl hx))).2]
   have a := Trm.cloF_nw (sc := sc) (inner := sc ++ t.v) t.t (deep + 1) (fun y hy => (ih y hy).1) (fun y hy => (ih y hy).2) hok2 hn2.2.1 t.v (hI.1.2.2.1 (.inr h9)) ov n (n + t.v.length) (fixF false t.v n (fixS fm t.v t.t) fm) (fun x hx => by
    have h2 := hf x (List.mem_append.2 (.inr hx))
    refine ⟨fun hx2 => ?_, ?_⟩
    ·rcases List.mem_append.1 hx2 with h5 | h5
     ·exact h2.1 h5
     ·exact hn2.2.2 x h5 x hx rfl
    ·rw [fixF_off false t.v n _ fm x fun h5 => hn2.2.2 x h5 x hx rfl]
     exact h2.2)
   rw [a]
  ·rename_i h1 h4 h8 h9
   have hv0 : t.v = [] := hD.1.2 h4 h8 h9
   have hok2 := hok.2
   rw [hv0, List.append_nil] at hok2
   have a := Trm.clos_nw (sc := sc) t.t (fun y hy => (ih y hy).1) (okTs_all hok2) hn2.2.1 ov n fm fun x hx => hf x (List.mem_append.2 (.inr hx))
   rw [a]
theorem conM_doc {p : Prog} (h : RightP p 2) : p.body.clo true [] 0 (fun _ => none) = p.body.clo false [] 0 (fun _ => none) :=
 (p.body.clo_nw _ _).1 [] 0 [] 0 (fun _ => none) h.2.2.1 h.2.2.2.2.2 fun x _ => ⟨by simp, rfl⟩
end Go.Cb
namespace Go.Cb
open Go.Proofs
set_option maxRecDepth 100000
set_option maxHeartbeats 4000000
end Go.Cb
namespace Go.Cb
open Go.Proofs
set_option maxRecDepth 100000
set_option maxHeartbeats 4000000
theorem RightP.binds {p : Prog} {level : Int} (h : RightP p level) : (riseL (bindsOf p.body.all)).length = p.body.vars.length := by
 have h1 := p.body.met_all [] 0 (by have := p.body.okT_deep h.2.2.1; omega)
 have h2 : bindsOf p.body.all = p.body.vars := h1.2
 rw [h2]
 exact rise_len h.2.2.2.2.2
end Go.Cb
namespace Go.Cb
open Go.Proofs
set_option maxRecDepth 100000
set_option maxHeartbeats 4000000
abbrev mC2 (m : Mdl) : List PV := [.sl 5 (m.consts.map Datum.pv) none, .sl 6 (m.codes.map Cod.pv) none, .int .i64 m.body.op, .int .i64 m.body.n, .sl 1 (m.body.v.map (PV.int .i64)) none, .sl 4 (m.body.t.map Trm.pv) none]
def mtotP (m : Mdl) : Option (Int × List Int) := if (m.consts.all fun d => d.rightP 0) = true then okO (m.body.ckP 3 m.consts.length m.codes.length false [] 0 0 []) (modP m.consts.length m.codes.length m.codes) else none
theorem mckP_tot (m : Mdl) : mckP m = if (mtotP m).isSome = true then 0 else 5 := by
 unfold mckP mtotP
 cases h : m.consts.all fun d => d.rightP 0 <;> simp
theorem checkModuleP_c (m : Mdl) (hb : m.body.bulk + codsBulk m.codes ≤ 1000000000) (hl : m.consts.length ≤ 1000000000) (hk : m.codes.length ≤ 1000000000) : ACallP Tryz.prog 43 [.agg m.cells] (.int .i64 (mckP m)) := by
 rw [mckP_tot]
 refine ACall.of_body tt_ok Tryz.func43 rfl rfl (n := 64) rfl rfl ?_
 conv => whnf
 repeat' (first|((first|((first|(apply zY;intro hg)|apply zZ);first|exact stA|((conv=>whnf);(repeat ((first|(refine zW ?_ ?_;exact gA)|refine pC (constantsp_c _) wR ?_|refine pC (constantsp_c _) cA ?_|intro _);conv=>whnf));first|exact pS|exact pL|exact pE))|(refine zW ?_ ?_;exact gA)|refine zH rfl ?_|refine zA ?_|refine zI bA ?_|refine zI rfl ?_|refine sB ?_|(refine zO ?_ ?_ ?_;omega;omega)|(refine zP ?_ ?_ ?_;omega;omega)|refine zM rfl ?_|(refine zQ ?_ ?_ ?_;omega;omega)|(refine zR ?_ ?_;omega)|(refine zI ?_ ?_;exact nA)|refine sS ?_|refine pC (constantsp_c _) wR ?_|refine pC (constantsp_c _) cA ?_|refine sD ?_|intro _|refine zG ?_);conv=>whnf)|(refine zX (fun hc => ?_) (fun hc => ?_)<;>(try simp only [SY] at hc)<;>first|omega|(conv=>whnf)))
 refine PGuard.ways (fun hg => ?_) (fun hg => ?_)
 rotate_left
 ·have hmn : mtotP m = none := by unfold mtotP; rw [if_neg (by simp only [Bool.not_not] at hg; rw [hg]; simp)]
  conv => whnf
  repeat' (first|((first|((first|(apply zY;intro hg)|apply zZ);first|exact stA|((conv=>whnf);(repeat ((first|(refine zW ?_ ?_;exact gA)|refine pC (constantsp_c _) wR ?_|refine pC (constantsp_c _) cA ?_|intro _);conv=>whnf));first|exact pS|exact pL|exact pE))|(refine zW ?_ ?_;exact gA)|refine zH rfl ?_|refine zA ?_|refine zI bA ?_|refine zI rfl ?_|refine sB ?_|(refine zO ?_ ?_ ?_;omega;omega)|(refine zP ?_ ?_ ?_;omega;omega)|refine zM rfl ?_|(refine zQ ?_ ?_ ?_;omega;omega)|(refine zR ?_ ?_;omega)|(refine zI ?_ ?_;exact nA)|refine sS ?_|refine pC (constantsp_c _) wR ?_|refine pC (constantsp_c _) cA ?_|refine sD ?_|intro _|refine zG ?_);conv=>whnf)|(refine zX (fun hc => ?_) (fun hc => ?_)<;>(try simp only [SY] at hc)<;>first|omega|(conv=>whnf)))
  exact PRet.pure (Wk.int (by rw [hmn]; rfl))
 ·conv => whnf
  conv => whnf
  repeat ((first|((first|(apply zY;intro hg)|apply zZ);first|exact stA|((conv=>whnf);(repeat ((first|(refine zW ?_ ?_;exact gA)|refine pC (constantsp_c _) wR ?_|refine pC (constantsp_c _) cA ?_|intro _);conv=>whnf));first|exact pS|exact pL|exact pE))|(refine zW ?_ ?_;exact gA)|refine zH rfl ?_|refine zA ?_|refine zI bA ?_|refine zI rfl ?_|refine sB ?_|(refine zO ?_ ?_ ?_;omega;omega)|(refine zP ?_ ?_ ?_;omega;omega)|refine zM rfl ?_|(refine zQ ?_ ?_ ?_;omega;omega)|(refine zR ?_ ?_;omega)|(refine zI ?_ ?_;exact nA)|refine sS ?_|refine pC (constantsp_c _) wR ?_|refine pC (constantsp_c _) cA ?_|refine sD ?_|intro _);conv=>whnf)
  rename_i b1 l1 l2 r1 b2 r2
  have hall : (m.consts.all fun d => d.rightP 0) = true := by simpa using hg
  have hm : mtotP m = okO (m.body.ckP 3 m.consts.length m.codes.length false [] 0 0 []) (modP m.consts.length m.codes.length m.codes) := by unfold mtotP; rw [if_pos hall]
  have hcall := rightp_c b2 r1 r2 3 m.consts.length m.codes.length false m.body [] 0 0 [] [] [] (by omega) (by omega) (by omega) (by omega) (by simp) (by omega)
  rw [← setM_nil] at hcall
  refine PCall.goG (Ghost.box (b := b2) (cs := [.int .i64 3, .int .i64 m.consts.length, .int .i64 m.codes.length, .bfalse, .int .i64 0, .mp r1]) (cs' := cpC 3 m.consts.length m.codes.length 0 false r1) wA) hcall (WkT.refl _) ?_
  rintro _ _ ⟨rfl, sz, mb, ms, pb, ps, rfl, hs2⟩
  conv => whnf
  repeat' (first|((first|((first|(apply zY;intro hg)|apply zZ);first|exact stA|((conv=>whnf);(repeat ((first|(refine zW ?_ ?_;exact gA)|refine pC (constantsp_c _) wR ?_|refine pC (constantsp_c _) cA ?_|intro _);conv=>whnf));first|exact pS|exact pL|exact pE))|(refine zW ?_ ?_;exact gA)|refine zH rfl ?_|refine zA ?_|refine zI bA ?_|refine zI rfl ?_|refine sB ?_|(refine zO ?_ ?_ ?_;omega;omega)|(refine zP ?_ ?_ ?_;omega;omega)|refine zM rfl ?_|(refine zQ ?_ ?_ ?_;omega;omega)|(refine zR ?_ ?_;omega)|(refine zI ?_ ?_;exact nA)|refine sS ?_|refine pC (constantsp_c _) wR ?_|refine pC (constantsp_c _) cA ?_|refine sD ?_|intro _|refine zG ?_);conv=>whnf)|(refine zX (fun hc => ?_) (fun hc => ?_)<;>(try simp only [SY] at hc)<;>first|omega|(conv=>whnf)))
  ·rw [Option.isSome_eq_false_iff, Option.isNone_iff_eq_none] at hc
   exact PRet.pure (Wk.int (by rw [hm, hc]; rfl))
  ·obtain ⟨⟨s1, bd1⟩, e⟩ := Option.isSome_iff_exists.mp hc
   obtain ⟨rfl, rfl, rfl⟩ := hs2 s1 bd1 e
   have hbd := Trm.ckP_bd _ _ _ _ _ _ _ _ _ _ _ e
   refine PLoop.over [2, 5, 6, 34, 35, 36, 37, 38, 39, 40, 41, 42, 43, 44, 45, 46, 47, 48, 49, 50, 51, 52, 53, 54, 55, 56, 57, 58, 59, 60, 61, 62, 63] (fun (x : Nat × Int × List Int × List (Int × Value)) => [(34, .int .i64 x.1)])
    (fun (x : Nat × Int × List Int × List (Int × Value)) => [.box b2 (cpC 3 m.consts.length m.codes.length x.2.1 true r1), .mp r1 (.int .i64) (setM x.2.2.1) x.2.2.2, .box b1 (mC2 m)])
    (fun | (i, sz, bd, pb) => i ≤ m.codes.length ∧ 0 ≤ sz ∧ sz ≤ 20000 ∧ mtotP m = modP m.consts.length m.codes.length (m.codes.drop i) sz bd) (fun | (i, _) => m.codes.length - i) (0, sz, bd1, pb)
    ⟨by simp, by omega, hbd.2.1, by rw [hm, e]; rfl⟩ wA ?_
   rintro ⟨i, sz, bd, pb⟩ ⟨hi, hz0, hz1, ht⟩
   dsimp only at hi hz0 hz1 ht ⊢
   conv => whnf
   repeat' (first|((first|((first|(apply zY;intro hg)|apply zZ);first|exact stA|((conv=>whnf);(repeat ((first|(refine zW ?_ ?_;exact gA)|refine pC (constantsp_c _) wR ?_|refine pC (constantsp_c _) cA ?_|intro _);conv=>whnf));first|exact pS|exact pL|exact pE))|(refine zW ?_ ?_;exact gA)|refine zH rfl ?_|refine zA ?_|refine zI bA ?_|refine zI rfl ?_|refine sB ?_|(refine zO ?_ ?_ ?_;omega;omega)|(refine zP ?_ ?_ ?_;omega;omega)|refine zM rfl ?_|(refine zQ ?_ ?_ ?_;omega;omega)|(refine zR ?_ ?_;omega)|(refine zI ?_ ?_;exact nA)|refine sS ?_|refine pC (constantsp_c _) wR ?_|refine pC (constantsp_c _) cA ?_|refine sD ?_|intro _|refine zG ?_);conv=>whnf)|(refine zX (fun hc => ?_) (fun hc => ?_)<;>(try simp only [SY] at hc)<;>first|omega|(conv=>whnf)))
   ·rename_i b4 r4
    have hlt : i < m.codes.length := by omega
    rw [drop_at hlt, modP] at ht
    have hbm : m.codes[i].bulk ≤ codsBulk m.codes := codsBulk_mem (List.getElem_mem hlt)
    have hbk : m.codes[i].bulk = m.codes[i].v.length + m.codes[i].body.bulk := rfl
    refine PGuard.ways (fun hg => ?_) (fun hg => ?_)
    ·have hr1 : ¬(m.codes[i].rest = true ∧ m.codes[i].v = []) := by
      rintro ⟨e1, e2⟩
      rw [e1, e2] at hg
      simp at hg
     rw [if_neg hr1] at ht
     conv => whnf
     repeat ((first|((first|(apply zY;intro hg)|apply zZ);first|exact stA|((conv=>whnf);(repeat ((first|(refine zW ?_ ?_;exact gA)|refine pC (constantsp_c _) wR ?_|refine pC (constantsp_c _) cA ?_|intro _);conv=>whnf));first|exact pS|exact pL|exact pE))|(refine zW ?_ ?_;exact gA)|refine zH rfl ?_|refine zA ?_|refine zI bA ?_|refine zI rfl ?_|refine sB ?_|(refine zO ?_ ?_ ?_;omega;omega)|(refine zP ?_ ?_ ?_;omega;omega)|refine zM rfl ?_|(refine zQ ?_ ?_ ?_;omega;omega)|(refine zR ?_ ?_;omega)|(refine zI ?_ ?_;exact nA)|refine sS ?_|refine pC (constantsp_c _) wR ?_|refine pC (constantsp_c _) cA ?_|refine sD ?_|intro _);conv=>whnf)
     have hbc := bind2p_c b2 r1 r4 3 m.consts.length m.codes.length sz true m.codes[i].v bd [] pb []
     rw [← setM_nil] at hbc
     refine PCall.go hbc (WkT.refl _) ?_
     rintro _ _ ⟨rfl, pb3, mb, ms2, rfl, hb3⟩
     conv => whnf
     repeat' (first|((first|((first|(apply zY;intro hg)|apply zZ);first|exact stA|((conv=>whnf);(repeat ((first|(refine zW ?_ ?_;exact gA)|refine pC (constantsp_c _) wR ?_|refine pC (constantsp_c _) cA ?_|intro _);conv=>whnf));first|exact pS|exact pL|exact pE))|(refine zW ?_ ?_;exact gA)|refine zH rfl ?_|refine zA ?_|refine zI bA ?_|refine zI rfl ?_|refine sB ?_|(refine zO ?_ ?_ ?_;omega;omega)|(refine zP ?_ ?_ ?_;omega;omega)|refine zM rfl ?_|(refine zQ ?_ ?_ ?_;omega;omega)|(refine zR ?_ ?_;omega)|(refine zI ?_ ?_;exact nA)|refine sS ?_|refine pC (constantsp_c _) wR ?_|refine pC (constantsp_c _) cA ?_|refine sD ?_|intro _|refine zG ?_);conv=>whnf)|(refine zX (fun hc => ?_) (fun hc => ?_)<;>(try simp only [SY] at hc)<;>first|omega|(conv=>whnf)))
     refine PGuard.ways (fun hg => ?_) (fun hg => ?_)
     ·have hb1 : (bindR m.codes[i].v bd).1 = true := by simpa using hg
      obtain ⟨rfl, rfl⟩ := hb3 hb1
      rw [if_pos hb1] at ht
      conv => whnf
      repeat ((first|((first|(apply zY;intro hg)|apply zZ);first|exact stA|((conv=>whnf);(repeat ((first|(refine zW ?_ ?_;exact gA)|refine pC (constantsp_c _) wR ?_|refine pC (constantsp_c _) cA ?_|intro _);conv=>whnf));first|exact pS|exact pL|exact pE))|(refine zW ?_ ?_;exact gA)|refine zH rfl ?_|refine zA ?_|refine zI bA ?_|refine zI rfl ?_|refine sB ?_|(refine zO ?_ ?_ ?_;omega;omega)|(refine zP ?_ ?_ ?_;omega;omega)|refine zM rfl ?_|(refine zQ ?_ ?_ ?_;omega;omega)|(refine zR ?_ ?_;omega)|(refine zI ?_ ?_;exact nA)|refine sS ?_|refine pC (constantsp_c _) wR ?_|refine pC (constantsp_c _) cA ?_|refine sD ?_|intro _);conv=>whnf)
      rw [List.nil_append]
      refine PCall.go (rightp_c b2 r1 r4 3 m.consts.length m.codes.length true m.codes[i].body m.codes[i].v 0 sz (bd ++ m.codes[i].v) pb3 [] (by omega) (by omega) (by omega) (by omega) (by intro x h; simp [h]) (by omega)) (WkT.refl _) ?_
      rintro _ _ ⟨rfl, sz5, mb5, ms5, pb5, ps5, rfl, hs5⟩
      conv => whnf
      repeat' (first|((first|((first|(apply zY;intro hg)|apply zZ);first|exact stA|((conv=>whnf);(repeat ((first|(refine zW ?_ ?_;exact gA)|refine pC (constantsp_c _) wR ?_|refine pC (constantsp_c _) cA ?_|intro _);conv=>whnf));first|exact pS|exact pL|exact pE))|(refine zW ?_ ?_;exact gA)|refine zH rfl ?_|refine zA ?_|refine zI bA ?_|refine zI rfl ?_|refine sB ?_|(refine zO ?_ ?_ ?_;omega;omega)|(refine zP ?_ ?_ ?_;omega;omega)|refine zM rfl ?_|(refine zQ ?_ ?_ ?_;omega;omega)|(refine zR ?_ ?_;omega)|(refine zI ?_ ?_;exact nA)|refine sS ?_|refine pC (constantsp_c _) wR ?_|refine pC (constantsp_c _) cA ?_|refine sD ?_|intro _|refine zG ?_);conv=>whnf)|(refine zX (fun hc => ?_) (fun hc => ?_)<;>(try simp only [SY] at hc)<;>first|omega|(conv=>whnf)))
      ·have hn := hc
       rw [Option.isSome_eq_false_iff, Option.isNone_iff_eq_none] at hn
       exact PRet.pure (Wk.int (by rw [ht, hn]; rfl))
      ·obtain ⟨⟨s6, b6⟩, e6⟩ := Option.isSome_iff_exists.mp hc
       obtain ⟨rfl, rfl, rfl⟩ := hs5 s6 b6 e6
       have hbd6 := Trm.ckP_bd _ _ _ _ _ _ _ _ _ _ _ e6
       rw [e6] at ht
       exact loopTo (i + 1, sz5, b6, pb5) ⟨by show i + 1 ≤ _; omega, by show (0 : Int) ≤ sz5; omega, hbd6.2.1, ht⟩ (by show m.codes.length - (i + 1) < m.codes.length - i; omega) wA
     ·have hb1 : (bindR m.codes[i].v bd).1 = false := by simpa using hg
      rw [if_neg (by rw [hb1]; simp)] at ht
      conv => whnf
      repeat' (first|((first|((first|(apply zY;intro hg)|apply zZ);first|exact stA|((conv=>whnf);(repeat ((first|(refine zW ?_ ?_;exact gA)|refine pC (constantsp_c _) wR ?_|refine pC (constantsp_c _) cA ?_|intro _);conv=>whnf));first|exact pS|exact pL|exact pE))|(refine zW ?_ ?_;exact gA)|refine zH rfl ?_|refine zA ?_|refine zI bA ?_|refine zI rfl ?_|refine sB ?_|(refine zO ?_ ?_ ?_;omega;omega)|(refine zP ?_ ?_ ?_;omega;omega)|refine zM rfl ?_|(refine zQ ?_ ?_ ?_;omega;omega)|(refine zR ?_ ?_;omega)|(refine zI ?_ ?_;exact nA)|refine sS ?_|refine pC (constantsp_c _) wR ?_|refine pC (constantsp_c _) cA ?_|refine sD ?_|intro _|refine zG ?_);conv=>whnf)|(refine zX (fun hc => ?_) (fun hc => ?_)<;>(try simp only [SY] at hc)<;>first|omega|(conv=>whnf)))
      exact PRet.pure (Wk.int (by rw [ht]; rfl))
    ·have hr1 : m.codes[i].rest = true ∧ m.codes[i].v = [] := by
      simp at hg
      exact ⟨hg.1, hg.2⟩
     rw [if_pos hr1] at ht
     conv => whnf
     repeat' (first|((first|((first|(apply zY;intro hg)|apply zZ);first|exact stA|((conv=>whnf);(repeat ((first|(refine zW ?_ ?_;exact gA)|refine pC (constantsp_c _) wR ?_|refine pC (constantsp_c _) cA ?_|intro _);conv=>whnf));first|exact pS|exact pL|exact pE))|(refine zW ?_ ?_;exact gA)|refine zH rfl ?_|refine zA ?_|refine zI bA ?_|refine zI rfl ?_|refine sB ?_|(refine zO ?_ ?_ ?_;omega;omega)|(refine zP ?_ ?_ ?_;omega;omega)|refine zM rfl ?_|(refine zQ ?_ ?_ ?_;omega;omega)|(refine zR ?_ ?_;omega)|(refine zI ?_ ?_;exact nA)|refine sS ?_|refine pC (constantsp_c _) wR ?_|refine pC (constantsp_c _) cA ?_|refine sD ?_|intro _|refine zG ?_);conv=>whnf)|(refine zX (fun hc => ?_) (fun hc => ?_)<;>(try simp only [SY] at hc)<;>first|omega|(conv=>whnf)))
     exact PRet.pure (Wk.int (by rw [ht]; rfl))
   ·rw [List.drop_of_length_le (by omega), modP] at ht
    exact PRet.pure (Wk.int (by rw [ht]; rfl))
end Go.Cb
namespace Go.Cb
open Go.Proofs
set_option maxRecDepth 100000
set_option maxHeartbeats 4000000
theorem Shift.ofGhost {x : PV} {Γ Γ' : List Ent} (g : Ghost Γ Γ') : Shift x Γ x Γ' := fun w0 F M w v hS hx => by
 obtain ⟨F', e, h⟩ := g w0 F M w hS
 exact ⟨F', e, h, Rep.mono e _ _ hx⟩
theorem Ghost.nilRowC (Γ : List Ent) : Ghost Γ (.row (nilTok 6 88) (([] : List Cod).map Cod.pv) :: Γ) := Ghost.nilRow _ _ _
theorem root13_c (b r : Nat) (t : Trm) (h : ClOk b r t) (hb : t.bulk ≤ 1000000000) : ACall Tryz.prog 41 [.ptr b 0, .agg t.cells, slI []] (mkrG b r (nilTok 6 88) [] (fun _ => none))
  (fun y Γ' => ∃ tk, y = .agg (t.clo false [] 0 (fun _ => none)).t.cells ∧ Γ' = [.box b [.sl 6 ((t.clo false [] 0 (fun _ => none)).c.map Cod.pv) none, .mp r], .tok tk, .mp r (.int .i64) (mapM Kn.pa (t.clo false [] 0 (fun _ => none)).fm) []]) :=
 (h (nilTok 6 88) [] (fun _ => none) [] rfl rfl (by simp; omega) (by simp)).shift fun y Γ' hq => by
  obtain ⟨tk', e, s, hy, hΓ⟩ := hq
  simp only [List.nil_append, List.length_nil] at hy hΓ
  subst hy hΓ
  exact ⟨_, _, Shift.ofGhost (Ghost.freezeRow (t := tk') (es := (t.clo false [] 0 (fun _ => none)).c.map Cod.pv) (b := b) (cs := [.ms tk', .mp r]) (cs' := [.sl 6 ((t.clo false [] 0 (fun _ => none)).c.map Cod.pv) none, .mp r]) (.cons (WkF.ms' s) (.cons (WkF.of (Wk.refl _)) .nil))), tk', rfl, rfl⟩
theorem RightP.shC {p : Prog} (h : RightP p 2) : p.body.shI ∧ p.body.shD := ⟨p.body.okT_shI (by decide) h.2.2.1, p.body.okT_shD h.2.2.1 h.2.2.2.2.2⟩
theorem conM_bulk {p : Prog} (h : RightP p 2) (hb : p.body.bulk ≤ 1048576) : (conM p).body.bulk + codsBulk (conM p).codes ≤ 1000000000 := by
 have h1 := (p.body.clo_bks false 20000 (by omega)).1 h.2.2.2.1 [] 0 (fun _ => none)
 have h2 := h.2.2.2.1
 show (p.body.clo false [] 0 (fun _ => none)).t.bulk + codsBulk (p.body.clo false [] 0 (fun _ => none)).c ≤ _
 omega
theorem noM_wk : Wk (.agg [.nil, .nil, .int .i64 0, .int .i64 0, .nil, .nil]) (.agg noM.cells) := Wk.agg (.cons (Wk.nil' rfl) (.cons (Wk.nil' rfl) (.cons (Wk.refl _) (.cons (Wk.refl _) (.cons (Wk.nil' rfl) (.cons (Wk.nil' rfl) .nil))))))
theorem conv13_c (p : Prog) (hb : p.body.bulk ≤ 1048576) (hl : p.consts.length ≤ 1000000000) :
  ACallP Tryz.prog 16 [.agg p.cells] (.tup [.agg (conv13 p).1.cells, .int .i64 (conv13 p).2]) := by
 have hen := check_eq p 2
 have hR : checkP p 2 = 0 → RightP p 2 := fun h => (checkD_right p 2).1 (by rw [← hen]; exact h)
 have hcl := cloneDat_c p.consts hl
 refine ACall.of_body tt_ok Tryz.func16 rfl rfl (n := 32) rfl rfl ?_
 conv => whnf
 repeat ((first|((first|(apply zY;intro hg)|apply zZ);first|exact stA|exact stB|((conv=>whnf);(repeat ((first|(refine zW ?_ ?_;exact gA)|refine pC (checkp_c p 2 (by omega) (by omega)) wR ?_|refine pC (hcl) wR ?_|refine zA ?_|refine zH rfl ?_|refine zB ?_|refine sG ?_|intro _);conv=>whnf));first|exact pS|exact pL|exact pE))|(refine zW ?_ ?_;exact gA)|refine zH rfl ?_|refine zA ?_|refine zI bA ?_|refine zI rfl ?_|refine sB ?_|(refine zO ?_ ?_ ?_;omega;omega)|(refine zP ?_ ?_ ?_;omega;omega)|refine zM rfl ?_|(refine zQ ?_ ?_ ?_;omega;omega)|(refine zR ?_ ?_;omega)|(refine zI ?_ ?_;exact nA)|refine sS ?_|refine pC (checkp_c p 2 (by omega) (by omega)) wR ?_|refine pC (hcl) wR ?_|refine sF ?_|refine n0 ?_|refine sD ?_|intro _);conv=>whnf)
 rename_i b1 b2
 refine zX (fun hc => ?_) (fun hc => ?_) <;> (try simp only [SY] at hc)
 ·conv => whnf
  repeat ((first|((first|(apply zY;intro hg)|apply zZ);first|exact stA|exact stB|((conv=>whnf);(repeat ((first|(refine zW ?_ ?_;exact gA)|refine pC (checkp_c p 2 (by omega) (by omega)) wR ?_|refine pC (hcl) wR ?_|refine zA ?_|refine zH rfl ?_|refine zB ?_|refine sG ?_|intro _);conv=>whnf));first|exact pS|exact pL|exact pE))|(refine zW ?_ ?_;exact gA)|refine zH rfl ?_|refine zA ?_|refine zI bA ?_|refine zI rfl ?_|refine sB ?_|(refine zO ?_ ?_ ?_;omega;omega)|(refine zP ?_ ?_ ?_;omega;omega)|refine zM rfl ?_|(refine zQ ?_ ?_ ?_;omega;omega)|(refine zR ?_ ?_;omega)|(refine zI ?_ ?_;exact nA)|refine sS ?_|refine pC (checkp_c p 2 (by omega) (by omega)) wR ?_|refine pC (hcl) wR ?_|refine sF ?_|refine n0 ?_|refine sD ?_|intro _);conv=>whnf)
  have hcn : conv13 p = (noM, 5) := by rw [conv13, if_neg hc]
  rw [hcn]
  exact PRet.pure (Wk.tup (.cons noM_wk (.cons (Wk.refl _) .nil)))
 have hr := hR hc
 have hcb := conM_bulk hr hb
 have hcn : conv13 p = if mckP (conM p) = 0 then (conM p, 0) else (noM, 5) := by rw [conv13, if_pos hc]
 rw [hcn]
 conv => whnf
 repeat ((first|((first|(apply zY;intro hg)|apply zZ);first|exact stA|exact stB|((conv=>whnf);(repeat ((first|(refine zW ?_ ?_;exact gA)|refine pC (checkp_c p 2 (by omega) (by omega)) wR ?_|refine pC (hcl) wR ?_|refine zA ?_|refine zH rfl ?_|refine zB ?_|refine sG ?_|intro _);conv=>whnf));first|exact pS|exact pL|exact pE))|(refine zW ?_ ?_;exact gA)|refine zH rfl ?_|refine zA ?_|refine zI bA ?_|refine zI rfl ?_|refine sB ?_|(refine zO ?_ ?_ ?_;omega;omega)|(refine zP ?_ ?_ ?_;omega;omega)|refine zM rfl ?_|(refine zQ ?_ ?_ ?_;omega;omega)|(refine zR ?_ ?_;omega)|(refine zI ?_ ?_;exact nA)|refine sS ?_|refine pC (checkp_c p 2 (by omega) (by omega)) wR ?_|refine pC (hcl) wR ?_|refine sF ?_|refine n0 ?_|refine sD ?_|intro _);conv=>whnf)
 rename_i r b3
 rw [mapK_nil]
 refine PCall.goG (Ghost.trans (Ghost.nilRowC _) (Ghost.box (b := b3) (cs := [.nil, .mp r]) (cs' := [.ms (nilTok 6 88), .mp r]) (.cons (Wk.nilRow 6 88) (.cons (Wk.refl _) .nil)))) (root13_c b3 r p.body (clOk b3 r p.body hr.shC.1 hr.shC.2) (by omega)) (.cons (Wk.refl _) (.cons (Wk.refl _) (.cons (Wk.nil' rfl) .nil))) ?_
 rintro _ _ ⟨tk, rfl, rfl⟩
 have hck := checkModuleP_c (conM p) hcb hl (by
  have := (p.body.clo_lens false).1 [] 0 (fun _ => none)
  show (p.body.clo false [] 0 (fun _ => none)).c.length ≤ _
  omega)
 have hcm : conM p = ⟨p.consts, (p.body.clo false [] 0 (fun _ => none)).c, (p.body.clo false [] 0 (fun _ => none)).t⟩ := rfl
 rw [hcm] at hck ⊢
 generalize p.body.clo false [] 0 (fun _ => none) = a at *
 conv => whnf
 repeat' (first|((first|((first|(apply zY;intro hg)|apply zZ);first|exact stA|exact stB|((conv=>whnf);(repeat ((first|(refine zW ?_ ?_;exact gA)|refine pC (hcl) wR ?_|refine pC (hck) wR ?_|refine zA ?_|refine zH rfl ?_|refine zB ?_|refine sG ?_|intro _);conv=>whnf));first|exact pS|exact pL|exact pE))|(refine zW ?_ ?_;exact gA)|refine zH rfl ?_|refine zA ?_|refine zI bA ?_|refine zI rfl ?_|refine sB ?_|(refine zO ?_ ?_ ?_;omega;omega)|(refine zP ?_ ?_ ?_;omega;omega)|refine zM rfl ?_|(refine zQ ?_ ?_ ?_;omega;omega)|(refine zR ?_ ?_;omega)|(refine zI ?_ ?_;exact nA)|refine sS ?_|refine pC (hcl) wR ?_|refine pC (hck) wR ?_|refine sF ?_|refine n0 ?_|refine sD ?_|refine PDraw.sP (some 18) rfl [9] [10] tt_ok mixed ?_|intro _|refine zG ?_);conv=>whnf)|(refine zX (fun hc => ?_) (fun hc => ?_)<;>(try simp only [SY] at hc)<;>first|omega|(conv=>whnf)))
 ·rw [if_neg hc]
  exact PRet.pure (Wk.tup (.cons noM_wk (.cons (Wk.refl _) .nil)))
 ·rw [if_pos hc]
  exact PRet.pure (y := .tup [.agg (⟨p.consts, a.c, a.t⟩ : Mdl).cells, .int .i64 0]) (Wk.refl _)
end Go.Cb
namespace Go.Cb
open Go.Proofs
set_option maxRecDepth 100000
set_option maxHeartbeats 4000000
def thiP : Prog := ⟨[.mk 0 1 1 [] []], .mk 9 0 [0] [.mk 4 0 [1] [.mk 5 0 [] [.mk 1 0 [] [], .mk 1 1 [] []]], .mk 5 0 [] [.mk 1 0 [] [], .mk 0 0 [] []]]⟩
def thiM : Mdl := ⟨[.mk 0 1 1 [] []], [⟨[1], false, .mk 22 0 [] [.mk 21 0 [] [], .mk 1 1 [] []]⟩], .mk 22 0 [] [.mk 21 0 [] [], .mk 0 0 [] []]⟩
theorem thi_over (fm : Fm) : overF fm (.mk 4 0 [1] [.mk 5 0 [] [.mk 1 0 [] [], .mk 1 1 [] []]]) = if stF fm 0 = true then [] else [0] := by
 have h : freeOf (Trm.all (.mk 4 0 [1] [.mk 5 0 [] [.mk 1 0 [] [], .mk 1 1 [] []]])) = [0] := by decide +kernel
 rw [overF, h, rise_one]
 cases h2 : stF fm 0 <;> simp [h2]
theorem thi_con : conM thiP = thiM := by
 simp [conM, thiP, thiM, Trm.clo, Trm.cloF, Trm.cloB, Trm.cloH, Trm.clos, fixS, fixF, setF, thi_over, stF, refF, codeF, callF, idxL]
 exact ⟨⟨rfl, by decide, rfl, rfl⟩, rfl, rfl⟩
theorem thi_conv : conv13 thiP = (thiM, 0) := by
 rw [conv13, if_pos (by decide), thi_con, if_pos (by decide)]
theorem thi_c {c v t : PV} [h1 : SlOf Datum.pv 5 c [.mk 0 1 1 [] []]] [h2 : SlOf (PV.int .i64) 1 v [0]] [h3 : SlOf Trm.pv 4 t [.mk 4 0 [1] [.mk 5 0 [] [.mk 1 0 [] [], .mk 1 1 [] []]], .mk 5 0 [] [.mk 1 0 [] [], .mk 0 0 [] []]]] :
  ACallP Tryz.prog 16 [.agg [c, .int .i64 9, .int .i64 0, v, t]] (.tup [.agg thiM.cells, .int .i64 0]) := by
 have h := conv13_c thiP (by decide) (by decide)
 rw [thi_conv] at h
 exact ACall.wk h (.cons (Wk.agg (.cons h1.wk (.cons (Wk.refl _) (.cons (Wk.refl _) (.cons h2.wk (.cons h3.wk .nil)))))) .nil)
theorem awake13_c : ACallP Tryz.prog 14 [] (.bool true) := by
 refine ACall.of_body tt_ok Tryz.func14 rfl rfl (n := 58) rfl rfl ?_
 conv => whnf
 repeat' (first|((first|((first|(apply zY;intro hg)|apply zZ);first|exact stA|exact stB|((conv=>whnf);(repeat ((first|(refine zW ?_ ?_;exact gA)|refine pC (thi_c) wR ?_|intro _);conv=>whnf));first|exact pS|exact pL|exact pE))|(refine zW ?_ ?_;exact gA)|refine zH rfl ?_|refine zA ?_|refine zI bA ?_|refine zI rfl ?_|refine sB ?_|(refine zO ?_ ?_ ?_;omega;omega)|(refine zP ?_ ?_ ?_;omega;omega)|refine zM rfl ?_|(refine zQ ?_ ?_ ?_;omega;omega)|(refine zR ?_ ?_;omega)|(refine zI ?_ ?_;exact nA)|refine sS ?_|refine pC (thi_c) wR ?_|refine sE ?_|refine n0 ?_|refine sD ?_|intro _|refine zG ?_);conv=>whnf)|(refine zX (fun hc => ?_) (fun hc => ?_)<;>(try simp only [SY] at hc)<;>first|omega|(conv=>whnf)))
 exact PRet.pure (Wk.bool rfl)
theorem few13_c (p : Prog) (n : Int) (h0 : 0 ≤ n) (h1 : n ≤ 1000000000) : ACallP Tryz.prog 15 [.agg p.cells, .int .i64 n] (.bool (decide (0 ≤ p.body.few n) && decide (0 ≤ Datum.fews p.consts 2000))) := by
 refine ACall.of_body tt_ok Tryz.func15 rfl rfl (n := 14) rfl rfl ?_
 conv => whnf
 repeat' (first|((first|((first|(apply zY;intro hg)|apply zZ);first|exact stA|exact stB|((conv=>whnf);(repeat ((first|(refine zW ?_ ?_;exact gA)|refine pC (FewTrm_c p.body n h0 h1) wR ?_|refine pC (FewTrm_c p.body n h0 h1) cA ?_|refine pC (FewAll_c p.consts 2000 (by omega) (by omega)) wR ?_|intro _);conv=>whnf));first|exact pS|exact pL|exact pE))|(refine zW ?_ ?_;exact gA)|refine zH rfl ?_|refine zA ?_|refine zI bA ?_|refine zI rfl ?_|refine sB ?_|(refine zO ?_ ?_ ?_;omega;omega)|(refine zP ?_ ?_ ?_;omega;omega)|refine zM rfl ?_|(refine zQ ?_ ?_ ?_;omega;omega)|(refine zR ?_ ?_;omega)|(refine zI ?_ ?_;exact nA)|refine sS ?_|refine pC (FewTrm_c p.body n h0 h1) wR ?_|refine pC (FewTrm_c p.body n h0 h1) cA ?_|refine pC (FewAll_c p.consts 2000 (by omega) (by omega)) wR ?_|refine sE ?_|refine n0 ?_|refine sD ?_|intro _|refine zG ?_);conv=>whnf)|(refine zX (fun hc => ?_) (fun hc => ?_)<;>(try simp only [SY] at hc)<;>first|omega|(conv=>whnf)))
 exact PRet.pure (Wk.refl _)
theorem RightP.nn {p : Prog} (h : RightP p 2) : (conM p).codes.length = p.body.ct 4 ∧ (conM p).body.ct 19 + cctS 19 (conM p).codes ≤ p.body.ct 4 ∧ (p.body.opn = 0 → (conM p).body.ct 19 + cctS 19 (conM p).codes = 0) :=
 (p.body.clo_nn h.shC.1 (p.body.okT_shR h.2.2.1)).1 [] 0 (fun _ => none)
end Go.Cb
namespace Go.Cb
open Go.Proofs
set_option maxRecDepth 100000
set_option maxHeartbeats 4000000
instance : Dfl Cod := ⟨⟨[], false, noT⟩⟩
theorem ints_self (l : List Int) : ACallP Tryz.prog 26 [slI l, slI l] (.bool true) := by
 refine ACall.of_body tt_ok Tryz.func26 rfl rfl (n := 26) rfl rfl ?_
 conv => whnf
 repeat' (first|((first|((first|(apply zY;intro hg)|apply zZ);first|exact stA|exact stB)|(refine zW ?_ ?_;exact gA)|refine zH rfl ?_|refine zA ?_|refine zI bA ?_|refine zI rfl ?_|refine sB ?_|(refine zO ?_ ?_ ?_;omega;omega)|(refine zP ?_ ?_ ?_;omega;omega)|refine zM rfl ?_|(refine zQ ?_ ?_ ?_;omega;omega)|(refine zR ?_ ?_;omega)|(refine zI ?_ ?_;exact nA)|refine sS ?_|refine sE ?_|refine n0 ?_|refine sD ?_|refine PDraw.sP (some 17) rfl [] [] tt_ok mixed ?_|intro _|refine zG ?_);conv=>whnf)|(refine zX (fun hc => ?_) (fun hc => ?_)<;>(try simp only [SY] at hc)<;>first|omega|(conv=>whnf)))
 refine PLoop.keep [4, 5, 11, 12, 13, 14, 15, 16, 17, 18, 19, 20, 21, 22, 23, 24, 25] (fun i : Nat => [(5, .int .i64 i)]) (fun i => i ≤ l.length) (fun i => l.length - i) 0 (Nat.zero_le _) wA ?_
 rintro i hi
 conv => whnf
 repeat' (first|((first|((first|(apply zY;intro hg)|apply zZ);first|exact stA|exact stB)|(refine zW ?_ ?_;exact gA)|refine zH rfl ?_|refine zA ?_|refine zI bA ?_|refine zI rfl ?_|refine sB ?_|(refine zO ?_ ?_ ?_;omega;omega)|(refine zP ?_ ?_ ?_;omega;omega)|refine zM rfl ?_|(refine zQ ?_ ?_ ?_;omega;omega)|(refine zR ?_ ?_;omega)|(refine zI ?_ ?_;exact nA)|refine sS ?_|refine sE ?_|refine n0 ?_|refine sD ?_|refine PDraw.sP (some 17) rfl [] [] tt_ok mixed ?_|intro _|refine zG ?_);conv=>whnf)|(refine zX (fun hc => ?_) (fun hc => ?_)<;>(try simp only [SY] at hc)<;>first|omega|(conv=>whnf)))
 ·exact loopTo (i + 1) (by show i + 1 ≤ _; omega) (by show l.length - (i + 1) < l.length - i; omega) wA
 ·exact PRet.pure (Wk.tt rfl)
theorem sameM_self (M : Mdl) : ACallP Tryz.prog 18 [.agg M.cells, .agg M.cells] (.bool true) := by
 have h1 := consts_c M.consts M.consts
 rw [Datum.alks_self] at h1
 have h2 := alike_c M.body M.body
 rw [Trm.alk_self] at h2
 have h3 : ∀ c : Cod, ACallP Tryz.prog 48 [.agg c.body.cells, .agg c.body.cells] (.bool true) := fun c => by have := alike_c c.body c.body; rwa [Trm.alk_self] at this
 have h4 : ∀ c : Cod, ACallP Tryz.prog 26 [slI c.v, slI c.v] (.bool true) := fun c => ints_self c.v
 refine ACall.of_body tt_ok Tryz.func18 rfl rfl (n := 81) rfl rfl ?_
 conv => whnf
 repeat' (first|((first|((first|(apply zY;intro hg)|apply zZ);first|exact stA|exact stB|((conv=>whnf);(repeat ((first|(refine zW ?_ ?_;exact gA)|refine pC (h1) wR ?_|refine pC (h2) wR ?_|intro _);conv=>whnf));first|exact pS|exact pL|exact pE))|(refine zW ?_ ?_;exact gA)|refine zH rfl ?_|refine zA ?_|refine zI bA ?_|refine zI rfl ?_|refine sB ?_|(refine zO ?_ ?_ ?_;omega;omega)|(refine zP ?_ ?_ ?_;omega;omega)|refine zM rfl ?_|(refine zQ ?_ ?_ ?_;omega;omega)|(refine zR ?_ ?_;omega)|(refine zI ?_ ?_;exact nA)|refine sS ?_|refine pC (h1) wR ?_|refine pC (h2) wR ?_|refine sE ?_|refine n0 ?_|refine sD ?_|refine PDraw.sP (some 36) rfl [] [] tt_ok mixed ?_|intro _|refine zG ?_);conv=>whnf)|(refine zX (fun hc => ?_) (fun hc => ?_)<;>(try simp only [SY] at hc)<;>first|omega|(conv=>whnf)))
 refine PLoop.keep [4, 5, 29, 30, 31, 32, 33, 34, 35, 36, 37, 38, 39, 40, 41, 42, 43, 44, 45, 46, 47, 48, 49, 50, 51, 52, 53, 54, 55, 56, 57, 58, 59, 60, 61, 62, 63, 64, 65, 66, 67, 68, 69, 70, 71, 72, 73, 74, 75, 76, 77, 78, 79, 80] (fun i : Nat => [(5, .int .i64 i)]) (fun i => i ≤ M.codes.length) (fun i => M.codes.length - i) 0 (Nat.zero_le _) wA ?_
 rintro i hi
 conv => whnf
 repeat' (first|((first|((first|(apply zY;intro hg)|apply zZ);first|exact stA|exact stB|((conv=>whnf);(repeat ((first|(refine zW ?_ ?_;exact gA)|refine pC (h1) wR ?_|refine pC (h2) wR ?_|intro _);conv=>whnf));first|exact pS|exact pL|exact pE))|(refine zW ?_ ?_;exact gA)|refine zH rfl ?_|refine zA ?_|refine zI bA ?_|refine zI rfl ?_|refine sB ?_|(refine zO ?_ ?_ ?_;omega;omega)|(refine zP ?_ ?_ ?_;omega;omega)|refine zM rfl ?_|(refine zQ ?_ ?_ ?_;omega;omega)|(refine zR ?_ ?_;omega)|(refine zI ?_ ?_;exact nA)|refine sS ?_|refine pC (h1) wR ?_|refine pC (h2) wR ?_|refine sE ?_|refine n0 ?_|refine sD ?_|refine PDraw.sP (some 36) rfl [] [] tt_ok mixed ?_|intro _|refine zG ?_);conv=>whnf)|(refine zX (fun hc => ?_) (fun hc => ?_)<;>(try simp only [SY] at hc)<;>first|omega|(conv=>whnf)))
 ·have e : (!if true = true then M.codes[i].rest != M.codes[i].rest else M.codes[i].rest == M.codes[i].rest) = true := by simp
  rw [e]
  conv => whnf
  repeat' (first|((first|((first|(apply zY;intro hg)|apply zZ);first|exact stA|exact stB|((conv=>whnf);(repeat ((first|(refine zW ?_ ?_;exact gA)|refine pC (h3 _) wR ?_|refine pC (h4 _) wR ?_|intro _);conv=>whnf));first|exact pS|exact pL|exact pE))|(refine zW ?_ ?_;exact gA)|refine zH rfl ?_|refine zA ?_|refine zI bA ?_|refine zI rfl ?_|refine sB ?_|(refine zO ?_ ?_ ?_;omega;omega)|(refine zP ?_ ?_ ?_;omega;omega)|refine zM rfl ?_|(refine zQ ?_ ?_ ?_;omega;omega)|(refine zR ?_ ?_;omega)|(refine zI ?_ ?_;exact nA)|refine sS ?_|refine pC (h3 _) wR ?_|refine pC (h4 _) wR ?_|refine sE ?_|refine n0 ?_|refine sD ?_|refine PDraw.sP (some 36) rfl [] [] tt_ok mixed ?_|intro _|refine zG ?_);conv=>whnf)|(refine zX (fun hc => ?_) (fun hc => ?_)<;>(try simp only [SY] at hc)<;>first|omega|(conv=>whnf)))
  ·exfalso; simp at hc
  ·exact loopTo (i + 1) (by show i + 1 ≤ _; omega) (by show M.codes.length - (i + 1) < M.codes.length - i; omega) wA
 ·exact PRet.pure (Wk.tt rfl)
end Go.Cb
namespace Go.Cb
open Go.Proofs
set_option maxRecDepth 100000
set_option maxHeartbeats 4000000
abbrev mC (m : Mdl) : List PV := [.sl 5 (m.consts.map Datum.pv) none, .sl 6 (m.codes.map Cod.pv) none, .int .i64 m.body.op, .int .i64 m.body.n, .sl 1 (m.body.v.map (PV.int .i64)) none, .sl 4 (m.body.t.map Trm.pv) none]
def mtot (m : Mdl) : Option (Int × List Int) := if (m.consts.all fun d => d.rightD 0) = true then okO (m.body.ckD 3 m.consts.length m.codes.length false [] 0 0 []) (modD m.consts.length m.codes.length m.codes) else none
theorem mckD_tot (m : Mdl) : mckD m = if (mtot m).isSome = true then 0 else 5 := by
 unfold mckD mtot
 cases h : m.consts.all fun d => d.rightD 0 <;> simp
theorem checkModule2_c (m : Mdl) (hb : m.body.bulk + codsBulk m.codes ≤ 1000000000) (hl : m.consts.length ≤ 1000000000) (hk : m.codes.length ≤ 1000000000) : ACallP Tryz.prog 46 [.agg m.cells] (.int .i64 (mckD m)) := by
 rw [mckD_tot]
 refine ACall.of_body tt_ok Tryz.func46 rfl rfl (n := 97) rfl rfl ?_
 conv => whnf
 repeat' (first|((first|((first|(apply zY;intro hg)|apply zZ);first|exact stA|((conv=>whnf);(repeat ((first|(refine zW ?_ ?_;exact gA)|refine pC (constants2_c _) wR ?_|refine pC (constants2_c _) cA ?_|intro _);conv=>whnf));first|exact pS|exact pL|exact pE))|(refine zW ?_ ?_;exact gA)|refine zH rfl ?_|refine zA ?_|refine zI bA ?_|refine zI rfl ?_|refine sB ?_|(refine zO ?_ ?_ ?_;omega;omega)|(refine zP ?_ ?_ ?_;omega;omega)|refine zM rfl ?_|(refine zQ ?_ ?_ ?_;omega;omega)|(refine zR ?_ ?_;omega)|(refine zI ?_ ?_;exact nA)|refine sS ?_|refine pC (constants2_c _) wR ?_|refine pC (constants2_c _) cA ?_|refine sD ?_|refine PDraw.sP (some 5) rfl [] [10,11] tt_ok mixed ?_|refine PDraw.sP (some 78) rfl [] [13] tt_ok mixed ?_|intro _|refine zG ?_);conv=>whnf)|(refine zX (fun hc => ?_) (fun hc => ?_)<;>(try simp only [SY] at hc)<;>first|omega|(conv=>whnf)))
 ·rename_i b1 b2
  refine PCall.goG (Ghost.trans (Ghost.nil 1 3 _) (Ghost.box (b := b2) (cs := [.int .i64 3, .int .i64 m.consts.length, .int .i64 m.codes.length, .bfalse, .int .i64 0, .nil, .bool (m.consts.all fun d => d.rightD 0)]) (cs' := ckC 3 m.consts.length m.codes.length 0 false [] (nilTok 1 3) (m.consts.all fun d => d.rightD 0)) wA))
   (term2_c b2 3 m.consts.length m.codes.length false m.body 0 0 [] [] (m.consts.all fun d => d.rightD 0) (nilTok 1 3) rfl (by omega) (by omega) (by omega) (by omega) (by simp; omega) (by simp; omega)) wA ?_
  rintro _ _ ⟨rfl, s', b', tk, ok, h1, rfl, h3, h4⟩
  rw [hc] at h3 h4
  simp only [if_true] at h3 h4
  have hm : mtot m = okO (m.body.ckD 3 m.consts.length m.codes.length false [] 0 0 []) (modD m.consts.length m.codes.length m.codes) := by unfold mtot; rw [if_pos hc]
  conv => whnf
  repeat ((first|((first|(apply zY;intro hg)|apply zZ);first|exact stA|((conv=>whnf);(repeat ((first|(refine zW ?_ ?_;exact gA)|refine pC (constants2_c _) wR ?_|refine pC (constants2_c _) cA ?_|intro _);conv=>whnf));first|exact pS|exact pL|exact pE))|(refine zW ?_ ?_;exact gA)|refine zH rfl ?_|refine zA ?_|refine zI bA ?_|refine zI rfl ?_|refine sB ?_|(refine zO ?_ ?_ ?_;omega;omega)|(refine zP ?_ ?_ ?_;omega;omega)|refine zM rfl ?_|(refine zQ ?_ ?_ ?_;omega;omega)|(refine zR ?_ ?_;omega)|(refine zI ?_ ?_;exact nA)|refine sS ?_|refine pC (constants2_c _) wR ?_|refine pC (constants2_c _) cA ?_|refine sD ?_|refine PDraw.sP (some 5) rfl [] [10,11] tt_ok mixed ?_|refine PDraw.sP (some 78) rfl [] [13] tt_ok mixed ?_|intro _);conv=>whnf)
  refine PLoop.over [4, 27, 28, 29, 30, 31, 32, 33, 34, 35, 36, 37, 38, 39, 40, 41, 42, 43, 44, 45, 46, 47, 48, 49, 50, 51, 52, 53, 54, 55, 56, 57, 58, 59, 60, 61, 62, 63, 64, 65, 66, 67, 68, 69, 70, 71, 72, 73, 74, 75, 76, 77, 78, 79, 80, 81, 82, 83, 84, 85, 86, 87, 88, 89, 90, 91] (fun | ((i, sz, bd, ok, tk') : Nat × Int × List Int × Bool × Tok) => [(4, .int .i64 i)])
   (fun x => [.box b2 (ckC 3 m.consts.length m.codes.length x.2.1 true x.2.2.1 x.2.2.2.2 x.2.2.2.1), .tok x.2.2.2.2, .box b1 (mC m)])
   (fun | (i, sz, bd, ok, tk') => i ≤ m.codes.length ∧ tk'.e = 3 ∧ (ok = true → 0 ≤ sz ∧ sz ≤ 20000 ∧ bd.length + codsBulk (m.codes.drop i) ≤ 1000000000 ∧ mtot m = modD m.consts.length m.codes.length (m.codes.drop i) sz bd) ∧
    (ok = false → mtot m = none)) (fun | (i, _) => m.codes.length - i) (0, s', b', ok, tk)
   ⟨by simp, h1, fun h => (by
    have hb := m.body.ckD_bd _ _ _ _ _ _ _ _ _ _ (h3 h)
    refine ⟨by omega, hb.2.1, by simp at hb ⊢; omega, by rw [hm, h3 h]; rfl⟩), fun h => by rw [hm, h4 h]; rfl⟩ wA ?_
  rintro ⟨i, sz, bd, ok, tk'⟩ ⟨hi, htk', hok, hno⟩
  dsimp only at hi htk' hok hno ⊢
  conv => whnf
  repeat' (first|((first|((first|(apply zY;intro hg)|apply zZ);first|exact stA|((conv=>whnf);(repeat ((first|(refine zW ?_ ?_;exact gA)|refine pC (constants2_c _) wR ?_|refine pC (constants2_c _) cA ?_|intro _);conv=>whnf));first|exact pS|exact pL|exact pE))|(refine zW ?_ ?_;exact gA)|refine zH rfl ?_|refine zA ?_|refine zI bA ?_|refine zI rfl ?_|refine sB ?_|(refine zO ?_ ?_ ?_;omega;omega)|(refine zP ?_ ?_ ?_;omega;omega)|refine zM rfl ?_|(refine zQ ?_ ?_ ?_;omega;omega)|(refine zR ?_ ?_;omega)|(refine zI ?_ ?_;exact nA)|refine sS ?_|refine pC (constants2_c _) wR ?_|refine pC (constants2_c _) cA ?_|refine sD ?_|refine PDraw.sP (some 5) rfl [] [10,11] tt_ok mixed ?_|refine PDraw.sP (some 78) rfl [] [13] tt_ok mixed ?_|intro _|refine zG ?_);conv=>whnf)|(refine zX (fun hc => ?_) (fun hc => ?_)<;>(try simp only [SY] at hc)<;>first|omega|(conv=>whnf)))
  ·have hlt : i < m.codes.length := by omega
   obtain rfl : ok = true := hc.2
   obtain ⟨hz, q1, q2, q3⟩ := hok rfl
   rw [drop_at hlt, codsBulk] at q2
   rw [drop_at hlt, modD] at q3
   have hbk : m.codes[i].bulk = m.codes[i].v.length + m.codes[i].body.bulk := rfl
   have hbl := bindR_len m.codes[i].v bd
   refine PCall.go (bind2_c b2 3 m.consts.length m.codes.length sz true m.codes[i].v bd tk' htk' (by omega)) (WkT.refl _) ?_
   rintro _ _ ⟨rfl, tk2, htk2, rfl⟩
   conv => whnf
   repeat' (first|((first|((first|(apply zY;intro hg)|apply zZ);first|exact stA|((conv=>whnf);(repeat ((first|(refine zW ?_ ?_;exact gA)|refine pC (constants2_c _) wR ?_|refine pC (constants2_c _) cA ?_|intro _);conv=>whnf));first|exact pS|exact pL|exact pE))|(refine zW ?_ ?_;exact gA)|refine zH rfl ?_|refine zA ?_|refine zI bA ?_|refine zI rfl ?_|refine sB ?_|(refine zO ?_ ?_ ?_;omega;omega)|(refine zP ?_ ?_ ?_;omega;omega)|refine zM rfl ?_|(refine zQ ?_ ?_ ?_;omega;omega)|(refine zR ?_ ?_;omega)|(refine zI ?_ ?_;exact nA)|refine sS ?_|refine pC (constants2_c _) wR ?_|refine pC (constants2_c _) cA ?_|refine sD ?_|refine PDraw.sP (some 5) rfl [] [10,11] tt_ok mixed ?_|refine PDraw.sP (some 78) rfl [] [13] tt_ok mixed ?_|intro _|refine zG ?_);conv=>whnf)|(refine zX (fun hc => ?_) (fun hc => ?_)<;>(try simp only [SY] at hc)<;>first|omega|(conv=>whnf)))
   ·have hb1 : (bindR m.codes[i].v bd).1 = true := hc.1
    have hr1 : ¬(m.codes[i].rest = true ∧ m.codes[i].v = []) := by
     rintro ⟨e1, e2⟩
     rcases hc.2 with h | h
     ·rw [e1] at h; cases h
     ·rw [e2] at h; simp at h
    rw [if_pos hb1, if_neg hr1] at q3
    have hok2 : ((bindR m.codes[i].v bd).1 && (!m.codes[i].rest || decide ((m.codes[i].v.length : Int) > 0))) = true := by
     rw [hb1, Bool.true_and]
     rcases hc.2 with h | h
     ·simp [h]
     ·simp; exact .inr (by omega)
    rw [hok2]
    refine PCall.go (term2_c b2 3 m.consts.length m.codes.length true m.codes[i].body sz 0 (bindR m.codes[i].v bd).2 m.codes[i].v true tk2 htk2 hz q1 (by omega) (by omega) (by omega) (by omega)) wA ?_
    rintro _ _ ⟨rfl, s2, b3, tk3, ok2, g1, rfl, g3, g4⟩
    simp only [if_true] at g3 g4
    conv => whnf
    repeat' (first|((first|((first|(apply zY;intro hg)|apply zZ);first|exact stA|((conv=>whnf);(repeat ((first|(refine zW ?_ ?_;exact gA)|refine pC (constants2_c _) wR ?_|refine pC (constants2_c _) cA ?_|intro _);conv=>whnf));first|exact pS|exact pL|exact pE))|(refine zW ?_ ?_;exact gA)|refine zH rfl ?_|refine zA ?_|refine zI bA ?_|refine zI rfl ?_|refine sB ?_|(refine zO ?_ ?_ ?_;omega;omega)|(refine zP ?_ ?_ ?_;omega;omega)|refine zM rfl ?_|(refine zQ ?_ ?_ ?_;omega;omega)|(refine zR ?_ ?_;omega)|(refine zI ?_ ?_;exact nA)|refine sS ?_|refine pC (constants2_c _) wR ?_|refine pC (constants2_c _) cA ?_|refine sD ?_|refine PDraw.sP (some 5) rfl [] [10,11] tt_ok mixed ?_|refine PDraw.sP (some 78) rfl [] [13] tt_ok mixed ?_|intro _|refine zG ?_);conv=>whnf)|(refine zX (fun hc => ?_) (fun hc => ?_)<;>(try simp only [SY] at hc)<;>first|omega|(conv=>whnf)))
    refine loopTo (i + 1, s2, b3, ok2, tk3) ⟨by show i + 1 ≤ _; omega, g1, fun h => ?_, fun h => ?_⟩ (by show m.codes.length - (i + 1) < m.codes.length - i; omega) wA
    ·have hbd := m.codes[i].body.ckD_bd _ _ _ _ _ _ _ _ _ _ (g3 h)
     rw [g3 h] at q3
     exact ⟨by show (0 : Int) ≤ s2; omega, hbd.2.1, by show b3.length + codsBulk (m.codes.drop (i + 1)) ≤ _; omega, q3⟩
    ·rw [g4 h] at q3
     exact q3
   ·have hmn : mtot m = none := by
     rw [q3]
     split
     ·rename_i hb1
      rw [if_pos]
      rcases hc with h | h
      ·rw [hb1] at h; cases h
      ·exact ⟨h.1, List.eq_nil_of_length_eq_zero (by have := h.2; omega)⟩
     ·rfl
    have hf : ((bindR m.codes[i].v bd).1 && (!m.codes[i].rest || decide ((m.codes[i].v.length : Int) > 0))) = false := by
     rcases hc with h | h
     ·rw [h]; rfl
     ·have hl0 : m.codes[i].v = [] := List.eq_nil_of_length_eq_zero (by have := h.2; omega)
      simp [h.1, hl0]
    rw [hf]
    exact loopTo (i + 1, sz, (bindR m.codes[i].v bd).2, false, tk2) ⟨by show i + 1 ≤ _; omega, htk2, fun h => (by cases h), fun _ => hmn⟩ (by show m.codes.length - (i + 1) < m.codes.length - i; omega) wA
  ·rename_i hx
   have hmn : mtot m = none := hno hc
   exact PRet.pure (Wk.int (by rw [hmn]; rfl))
  ·obtain ⟨hz, q1, q2, q3⟩ := hok hc
   have : m.codes.drop i = [] := List.drop_of_length_le (by rcases ‹_ ∨ ok = false› with h | h; omega; rw [hc] at h; cases h)
   rw [this, modD] at q3
   exact PRet.pure (Wk.int (by rw [q3]; rfl))
 ·rename_i b1 b2
  refine PLoop.keep [4, 27, 28, 29, 30, 31, 32, 33, 34, 35, 36, 37, 38, 39, 40, 41, 42, 43, 44, 45, 46, 47, 48, 49, 50, 51, 52, 53, 54, 55, 56, 57, 58, 59, 60, 61, 62, 63, 64, 65, 66, 67, 68, 69, 70, 71, 72, 73, 74, 75, 76, 77, 78, 79, 80, 81, 82, 83, 84, 85, 86, 87, 88, 89, 90, 91] (fun _ : Unit => [(4, .int .i64 0)]) (fun _ => True) (fun _ => 0) () trivial wA ?_
  rintro _ _
  have hmn : mtot m = none := by unfold mtot; rw [if_neg (by rw [hc]; simp)]
  have hcf := hc
  conv => whnf
  repeat' (first|((first|((first|(apply zY;intro hg)|apply zZ);first|exact stA|((conv=>whnf);(repeat ((first|(refine zW ?_ ?_;exact gA)|refine pC (constants2_c _) wR ?_|refine pC (constants2_c _) cA ?_|intro _);conv=>whnf));first|exact pS|exact pL|exact pE))|(refine zW ?_ ?_;exact gA)|refine zH rfl ?_|refine zA ?_|refine zI bA ?_|refine zI rfl ?_|refine sB ?_|(refine zO ?_ ?_ ?_;omega;omega)|(refine zP ?_ ?_ ?_;omega;omega)|refine zM rfl ?_|(refine zQ ?_ ?_ ?_;omega;omega)|(refine zR ?_ ?_;omega)|(refine zI ?_ ?_;exact nA)|refine sS ?_|refine pC (constants2_c _) wR ?_|refine pC (constants2_c _) cA ?_|refine sD ?_|refine PDraw.sP (some 5) rfl [] [10,11] tt_ok mixed ?_|refine PDraw.sP (some 78) rfl [] [13] tt_ok mixed ?_|intro _|refine zG ?_);conv=>whnf)|(refine zX (fun hc => ?_) (fun hc => ?_)<;>(try simp only [SY] at hc)<;>first|omega|(conv=>whnf)))
  ·have h5 := hc.2
   rw [hcf] at h5
   cases h5
  ·exact PRet.pure (Wk.int (by rw [hmn]; rfl))
  ·rw [hcf] at hc
   cases hc
end Go.Cb
