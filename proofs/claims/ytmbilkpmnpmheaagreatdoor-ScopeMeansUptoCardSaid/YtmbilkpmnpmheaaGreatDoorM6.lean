/-
 Contracts: the document's maker of terms: terms.
 Contracts: the maker of terms: recursive bindings.
 Contracts: the maker of terms: terms.
 Plain laws: a term and its parts.
 Layings of the library's contracts at this seat (written by the kit's tools).
 Contracts: numbers sorted by the library, equal neighbours struck.
 Contracts: what a term names and does not bind, what it binds, how often a variable is named and assigned.
 Plain laws: all variables greater by the same.
 Plain laws: assigned variables become boxes.
 Plain laws: chapter 10, what is right; the document's counts; programs.
 Contracts: the document's comparisons, counts, bindings.
 Contracts: the document's program of a core datum.
 Contracts: the program of a core datum.
 Contracts: the document's expander: all of a list, begin, procedures, bindings.
 Contracts: the document's expander: procedures, bindings.
 Contracts: the document's expander: let, let*.
 Contracts: the document's expander: let with a name.
 Contracts: the document's expander: and, or, when, unless.
-/
import Derived.Shelf.Slices.CompactI
import Derived.Shelf.Slices.In.SortNone
import Derived.Shelf.Sort.Plain
import Derived.Sort.OwnSortedInts
import Derived.Test.YtmbilkpmnpmheaaGreatDoorProg
import Derived.Test.YtmbilkpmnpmheaaGreatDoorM5
set_option linter.unusedSimpArgs false
set_option linter.unusedVariables false
namespace Go.Cb
open Go.Proofs
set_option maxRecDepth 100000
set_option maxHeartbeats 40000000
theorem set_lastR {α : Type} : ∀ (l : List α) (a c : α), (l ++ [a]).set l.length c = l ++ [c]
 | [], a, c => rfl
 | x :: l, a, c => by
  show x :: ((l ++ [a]).set l.length c) = _
  rw [set_lastR l a c]
  rfl
end Go.Cb
namespace Go.Cb
open Go.Proofs
set_option maxRecDepth 100000
set_option maxHeartbeats 40000000
theorem PRet.freezeR {t : Tok} {es : List PV} {x y : PV} {Γ Γ1 Γ' Γ2 : List Ent} {Q : PV → List Ent → Prop} [hp : PickE Γ (.row t es) Γ1] (h : WkF t es x y) [hq : PickL (.tok t :: Γ1) Γ' Γ2] (q : Q y Γ') : PRet x Γ Q :=
 ⟨y, Γ', Shift.trans (Shift.freezeRow h) (Shift.wk (Wk.refl _) hq.p), q⟩
theorem two_parts {x : Datum} (hp : x.pr = true) (h : x.its.1.length = 2) : x.l.length = 2 ∧ x.l.getD 0 nulD = x.its.1.getD 0 nulD ∧ (x.l.getD 1 nulD).l.length = 2 ∧ (x.l.getD 1 nulD).l.getD 0 nulD = x.its.1.getD 1 nulD := by
 have hk : x.kind = 6 := by
  by_cases hk : x.kind = 6
  ·exact hk
  ·rw [x.its_end hk] at h; simp at h
 have h2 := Datum.pr_two hp hk
 have hi := x.its_pair hk h2
 have hp1 : (x.l[1]'(by omega)).pr = true := Datum.pr_mem hp (List.getElem_mem _)
 have hk1 : (x.l[1]'(by omega)).kind = 6 := by
  by_cases hk1 : (x.l[1]'(by omega)).kind = 6
  ·exact hk1
  ·rw [hi, (x.l[1]'(by omega)).its_end hk1] at h; simp at h
 have h3 := Datum.pr_two hp1 hk1
 have hi1 := (x.l[1]'(by omega)).its_pair hk1 h3
 rw [datD_get (show 0 < x.l.length by omega), datD_get (show 1 < x.l.length by omega), datD_get (show 0 < (x.l[1]'(by omega)).l.length by omega)]
 refine ⟨h2, ?_, h3, ?_⟩
 ·rw [hi]; rfl
 ·rw [hi, hi1]; rfl
theorem Ghost.nilRowT (Γ : List Ent) : Ghost Γ (.row (nilTok 4 30) (([] : List Trm).map Trm.pv) :: Γ) := Ghost.nilRow _ _ _
theorem letrecP_c (b : Nat) (tm : Datum → Env → RsS → RsR) (d body : Datum) (star : Bool) (B : List (Datum × Datum)) (hp : d.pr = true) (hds : d.sz + body.sz ≤ 1000000000) (hB : bindsD d = some B) (hx : ∀ x ∈ B.map Prod.snd ++ [body], TmOkP b tm x)
  (tk : Tok) (e : Env) (s : RsS) (h1 : tk.e = 24) (h2 : tk.s = 5) (hs : RsOk (d.sz + body.sz) s) :
  ACall Tryz.prog 54 [.ptr b 0, .agg d.cells, .agg body.cells, .bool star, chP e] (rsE b tk s) (fun y Γ' => ∃ tk' : Tok, tk'.e = 24 ∧ tk'.s = 5 ∧
   y = .agg (Trm.mk 7 (if star = true then 1 else 0) (upE s.vars B.length) (allR tm (B.map Prod.snd ++ [body]) (bndE e s.vars (B.map fun p => p.1.s)) ⟨s.cs, s.vars + B.length, s.lost⟩).1).cells ∧
   Γ' = rsE b tk' (allR tm (B.map Prod.snd ++ [body]) (bndE e s.vars (B.map fun p => p.1.s)) ⟨s.cs, s.vars + B.length, s.lost⟩).2) := by
 have hbs := (bindsD_sz hp hB).1
 have hBF : bindsF d.its.1 = some B := by
  unfold bindsD at hB
  split at hB
  ·exact hB
  ·cases hB
 have hBl := bindsF_len hBF
 have hpt := partsP_c d hp (by omega)
 have hIm : ∀ x ∈ d.its.1, x.pr = true := fun x hx' => (Datum.its_lt hp hx').2
 have hget := bindsF_get hBF
 generalize d.its = D at *
 obtain ⟨L, E0⟩ := D
 dsimp only at hpt hBl hIm hget hBF
 have hvb := hs.1
 have hvc := hs.2.1
 have hvd := hs.2.2
 have hsz2 : Datum.szs (B.map Prod.snd ++ [body]) = Datum.szs (B.map Prod.snd) + body.sz := by rw [Datum.szs_append, Datum.szs, Datum.szs]; omega
 have hlen2 : (B.map Prod.snd ++ [body]).length = B.length + 1 := by simp
 refine ACall.of_body tt_ok Tryz.func54 rfl rfl (n := 77) rfl rfl ?_
 conv => whnf
 repeat' (first|refine aA2 ?_|((intro _);conv=>whnf)|(refine zX (fun hc=>?_) (fun hc=>?_)<;>(try simp only [SY] at hc)<;>(conv=>whnf)))
 all_goals
  refine PCall.go (Γ1 := []) hpt (WkT.refl _) ?_
  rintro _ _ ⟨t3, k3, rfl, rfl⟩
  conv => whnf
  repeat' (first|refine aA2 ?_|((intro _);conv=>whnf)|(refine zX (fun hc=>?_) (fun hc=>?_)<;>(try simp only [SY] at hc)<;>omega))
 ·rename_i b7 b10 b11 _ _
  have hcE := hc
  refine PLoop.gh (Ghost.trans (Ghost.nil 1 3 _) (Ghost.box (b := b11) (cs := [.int .i64 7, .int .i64 1, .nil, .nil]) (cs' := [.int .i64 7, .int .i64 1, .sl 1 (([] : List Int).map (PV.int .i64)) (some (nilTok 1 3)), .nil]) wA)) ?_
  refine PLoop.over [4, 15, 28, 29, 30, 31, 32, 33, 34, 35, 36, 37, 38, 39, 40] (fun z : Nat × Env × List Int × Tok × RsS => [(4, chP z.2.1), (28, .int .i64 z.1)])
   (fun z : Nat × Env × List Int × Tok × RsS => .tok z.2.2.2.1 :: .box b11 [.int .i64 7, .int .i64 1, .sl 1 (z.2.2.1.map (PV.int .i64)) (some z.2.2.2.1), .nil] :: .box b10 [.int .i64 0, .int .i64 0, .nil, .nil] :: .box b7 (datC body) :: rsE b tk z.2.2.2.2)
   (fun z => z.1 ≤ L.length ∧ z.2.1 = bndE e s.vars ((B.take z.1).map fun p => p.1.s) ∧ z.2.2.1 = upE s.vars z.1 ∧ z.2.2.2.2 = ⟨s.cs, s.vars + z.1, s.lost⟩ ∧ z.2.2.2.1.e = 3) (fun z => L.length - z.1)
   (0, e, [], nilTok 1 3, s) ⟨Nat.zero_le _, rfl, rfl, by simp, rfl⟩ wA ?_
  rintro ⟨i, E, V, tv, s1⟩ ⟨hi, hE, hV, hs1, htv⟩
  dsimp only at hi hE hV hs1 htv ⊢
  have hVl : V.length = i := by rw [hV, upE_len]
  have hv1 : s1.vars = s.vars + i := by rw [hs1]
  rcases Nat.lt_or_ge i L.length with hlt | hge
  ·obtain ⟨g1, g2, g3⟩ := hget i hlt (by omega)
   obtain ⟨p1, p2, p3, p4⟩ := two_parts (hIm _ (List.getElem_mem hlt)) g2
   rw [datD_get (show 0 < (L[i]'hlt).l.length by omega)] at p2
   rw [← p2] at g3
   have h0n : 0 < (L[i]'hlt).l.length := by omega
   conv => whnf
   repeat' (first|refine aA2 ?_|((intro _);conv=>whnf)|(refine zX (fun hc=>?_) (fun hc=>?_)<;>(try simp only [SY] at hc)<;>first|omega|(conv=>whnf)))
   refine PCall.go (bindP_c b b11 tk tv s1 E ((L[i]'hlt).l[0]'h0n).s 7 1 V .nil htv (by omega) (by omega) (by omega)) (WkT.refl _) ?_
   rintro _ _ ⟨tv2, htv2, rfl, rfl⟩
   conv => whnf
   repeat' (first|refine aA2 ?_|(refine zX (fun hc=>?_) (fun hc=>?_)<;>(try simp only [SY] at hc)<;>omega))
   refine loopTo (i + 1, (((L[i]'hlt).l[0]'h0n).s, s1.vars) :: E, V ++ [s1.vars], tv2, ⟨s1.cs, s1.vars + 1, s1.lost⟩) ⟨by show i + 1 ≤ _; omega, ?_, ?_, ?_, htv2⟩ (by show L.length - (i + 1) < L.length - i; omega) wA
   ·show (((L[i]'hlt).l[0]'h0n).s, s1.vars) :: E = bndE e s.vars ((B.take (i + 1)).map fun p => p.1.s)
    rw [takeM_snoc _ _ _ (show i < B.length by omega), bndE_snoc, g3, hE, hv1]
    congr 2
    rw [List.length_map, List.length_take]
    omega
   ·show V ++ [s1.vars] = upE s.vars (i + 1)
    rw [upE_snoc, hv1, hV]
   ·show (⟨s1.cs, s1.vars + 1, s1.lost⟩ : RsS) = ⟨s.cs, s.vars + ((i + 1 : Nat) : Int), s.lost⟩
    rw [show s1.cs = s.cs by rw [hs1], show s1.lost = s.lost by rw [hs1], hv1]
    congr 1
    omega
  obtain rfl : i = L.length := by omega
  rw [← hBl, List.take_length] at hE
  rw [← hBl] at hV hs1
  rw [← hE, ← hV, ← hs1]
  generalize hRR : allR tm (B.map Prod.snd ++ [body]) E s1 = R
  have hs0 : RsOk (Datum.szs (B.map Prod.snd ++ [body])) s1 := by rw [hs1, hsz2]; exact ⟨by dsimp only; omega, by dsimp only; omega, by dsimp only; omega⟩
  conv => whnf
  repeat' (first|refine aA2 ?_|((intro _);conv=>whnf)|(refine zX (fun hc=>?_) (fun hc=>?_)<;>(try simp only [SY] at hc)<;>first|omega|(conv=>whnf)))
  refine PLoop.gh (Ghost.trans (Ghost.nilRowT _) (Ghost.box (b := b11) (cs := [.int .i64 7, .int .i64 1, .sl 1 (V.map (PV.int .i64)) (some tv), .nil]) (cs' := [.int .i64 7, .int .i64 1, .sl 1 (V.map (PV.int .i64)) (some tv), .ms (nilTok 4 30)]) (.cons (Wk.refl _) (.cons (Wk.refl _) (.cons (Wk.refl _) (.cons (Wk.nilRow 4 30) .nil)))))) ?_
  refine PLoop.over [17, 43, 44, 45, 46, 47, 48, 49, 50, 51, 52, 53, 54, 55, 56, 57, 58, 59, 60, 61, 62, 63, 64] (fun z : Nat × List Trm × Tok × Tok × RsS => [(43, .int .i64 z.1)])
   (fun z : Nat × List Trm × Tok × Tok × RsS => .row z.2.2.1 (z.2.1.map Trm.pv) :: .box b11 [.int .i64 7, .int .i64 1, .sl 1 (V.map (PV.int .i64)) (some tv), .ms z.2.2.1] :: .tok tv :: .box b10 [.int .i64 0, .int .i64 0, .nil, .nil] :: .box b7 (datC body) :: rsE b z.2.2.2.1 z.2.2.2.2)
   (fun z => z.1 ≤ L.length ∧ z.2.1.length = z.1 ∧ z.2.2.1.e = 30 ∧ z.2.2.1.s = 4 ∧ z.2.2.2.1.e = 24 ∧ z.2.2.2.1.s = 5 ∧ RsOk (Datum.szs ((B.map Prod.snd ++ [body]).drop z.1)) z.2.2.2.2 ∧ R = (z.2.1 ++ (allR tm ((B.map Prod.snd ++ [body]).drop z.1) E z.2.2.2.2).1, (allR tm ((B.map Prod.snd ++ [body]).drop z.1) E z.2.2.2.2).2)) (fun z => L.length - z.1)
   (0, [], nilTok 4 30, tk, s1) ⟨Nat.zero_le _, rfl, rfl, rfl, h1, h2, hs0, hRR.symm⟩ wA ?_
  rintro ⟨j, T, tT, tk2, s2⟩ ⟨hj, hTl, hT1, hT2, hk1, hk2, hok, hR2⟩
  dsimp only at hj hTl hT1 hT2 hk1 hk2 hok hR2 ⊢
  have hjl : j < (B.map Prod.snd ++ [body]).length := by omega
  rw [drop_at hjl, Datum.szs] at hok
  rw [drop_at hjl, allR] at hR2
  obtain ⟨g, hcall⟩ := hx _ (List.getElem_mem hjl) tk2 E s2 hk1 hk2 (hok.mono (by omega))
  have hsl := fun (r : Trm) => set_lastR T (Trm.mk 0 0 [] []) r
  have hTz : (T ++ [(Trm.mk 0 0 [] [] : Trm)]).length = T.length + 1 := by simp
  rcases Nat.lt_or_ge j L.length with hlt | hge
  ·have hel : (B.map Prod.snd ++ [body])[j]'hjl = (B[j]'(by omega)).2 := by
    rw [List.getElem_append_left (by rw [List.length_map]; omega), List.getElem_map]
   obtain ⟨g1, g2, g3⟩ := hget j hlt (by omega)
   obtain ⟨p1, p2, p3, p4⟩ := two_parts (hIm _ (List.getElem_mem hlt)) g2
   have h1n : 1 < (L[j]'hlt).l.length := by omega
   rw [datD_get h1n] at p3 p4
   have h0n : 0 < ((L[j]'hlt).l[1]'h1n).l.length := by omega
   rw [datD_get h0n] at p4
   have hel2 : (B.map Prod.snd ++ [body])[j]'hjl = ((L[j]'hlt).l[1]'h1n).l[0]'h0n := by rw [hel, g3, p4]
   rw [hel2] at hcall hR2 g hok
   generalize tm (((L[j]'hlt).l[1]'h1n).l[0]'h0n) E s2 = r at *
   conv => whnf
   repeat' (first|refine aA2 ?_|((intro _);conv=>whnf)|(refine zX (fun hc=>?_) (fun hc=>?_)<;>(try simp only [SY] at hc)<;>first|omega|(conv=>whnf)))
   refine PDraw.tree tt_ok mixed [0, 1, 0, 0, 8, 24, 56, 120, 248, 504, 0, 2044, 3, 0, 16383, 32767, 65535, 32767, 163839] [0, 2, 3, 4, 5, 6, 7, 8, 9, 10, 13] [1, 11, 12, 14, 15, 16, 17, 18] [.row tT (T.map Trm.pv), .box b11 [.int .i64 7, .int .i64 1, .sl 1 (V.map (PV.int .i64)) (some tv), .ms tT], .box b [.ms tk2, .int .i64 s2.vars, .bool s2.lost], .row tk2 (s2.cs.map Datum.pv)] ?_
   conv => whnf
   conv => whnf
   repeat' (first|((first|((apply zZ);exact tB)|refine aM ?_|(refine And.intro ?_ ?_)|(refine PLenM.map fun _ => ?_)|(refine PCall.go hcall wR ?_; rintro _ _ ⟨_, _, _, rfl, rfl⟩)|refine aF ?_|intro _);conv=>whnf)|(refine zX (fun hc=>?_) (fun hc=>?_)<;>(try simp only [SY] at hc)<;>omega))
   all_goals try exact trivial
   all_goals
    first | (rename_i tk3 k3 k4 _ tT3 u1 u2; have : tk3.e = 24 := k3) | (rename_i _ tT3 u1 u2 tk3 k3 k4; have : tk3.e = 24 := k3) | (rename_i _ tk3 k3 k4 tT3 u1 u2; have : tk3.e = 24 := k3) | (rename_i tT3 u1 u2 _ tk3 k3 k4; have : tk3.e = 24 := k3)
    rw [hsl r.1]
    refine loopTo (j + 1, T ++ [r.1], tT3, tk3, r.2) ⟨by show j + 1 ≤ _; omega, by simp; omega, u1, u2, k3, k4, hok.step g, ?_⟩ (by show L.length - (j + 1) < L.length - j; omega) wA
    dsimp only
    rw [hR2, List.append_assoc]
    rfl
  ·obtain rfl : j = L.length := by omega
   have hel2 : (B.map Prod.snd ++ [body])[L.length]'hjl = body := by
    rw [List.getElem_append_right (by rw [List.length_map]; omega), List.getElem_singleton]
   rw [hel2] at hcall hR2 g hok
   rw [List.drop_of_length_le (by omega), allR] at hR2
   dsimp only at hR2
   generalize tm body E s2 = r at *
   rw [hR2]
   conv => whnf
   repeat' ((refine zX (fun hc=>?_) (fun hc=>?_)<;>(try simp only [SY] at hc)<;>first|omega|(conv=>whnf)))
   refine PDraw.tree tt_ok mixed [0, 1, 0, 0, 0, 28, 3, 0, 255, 511, 1023, 511, 2559] [0, 2, 3, 4, 7] [1, 5, 6, 8, 9, 10, 11, 12] [.row tT (T.map Trm.pv), .box b11 [.int .i64 7, .int .i64 1, .sl 1 (V.map (PV.int .i64)) (some tv), .ms tT], .box b [.ms tk2, .int .i64 s2.vars, .bool s2.lost], .row tk2 (s2.cs.map Datum.pv)] ?_
   conv => whnf
   conv => whnf
   repeat' (first|((first|((apply zZ);exact tB)|refine aM ?_|(refine And.intro ?_ ?_)|(refine PLenM.map fun _ => ?_)|(refine PCall.go hcall wR ?_; rintro _ _ ⟨_, _, _, rfl, rfl⟩)|refine aF ?_|intro _);conv=>whnf)|(refine zX (fun hc=>?_) (fun hc=>?_)<;>(try simp only [SY] at hc)<;>omega))
   all_goals try exact trivial
   all_goals
    first | (rename_i tk3 k3 k4 _ tT3 u1 u2; have : tk3.e = 24 := k3) | (rename_i _ tT3 u1 u2 tk3 k3 k4; have : tk3.e = 24 := k3) | (rename_i _ tk3 k3 k4 tT3 u1 u2; have : tk3.e = 24 := k3) | (rename_i tT3 u1 u2 _ tk3 k3 k4; have : tk3.e = 24 := k3)
    rw [hsl r.1]
    exact PRet.freezeR (t := tT3) (es := (T ++ [r.1]).map Trm.pv) (y := .agg (Trm.mk 7 1 V (T ++ [r.1])).cells) (Γ' := rsE b tk3 r.2) (WkF.agg (.cons (WkF.of (Wk.refl _)) (.cons (WkF.of (Wk.refl _)) (.cons (WkF.of (Wk.tok _ _ _)) (.cons (WkF.ms' u2) .nil))))) ⟨tk3, k3, k4, by rw [hcE]; rfl, rfl⟩
 ·rename_i b7 b10 b11 _ _
  have hcE := hc
  refine PLoop.gh (Ghost.trans (Ghost.nil 1 3 _) (Ghost.box (b := b11) (cs := [.int .i64 7, .int .i64 0, .nil, .nil]) (cs' := [.int .i64 7, .int .i64 0, .sl 1 (([] : List Int).map (PV.int .i64)) (some (nilTok 1 3)), .nil]) wA)) ?_
  refine PLoop.over [4, 15, 28, 29, 30, 31, 32, 33, 34, 35, 36, 37, 38, 39, 40] (fun z : Nat × Env × List Int × Tok × RsS => [(4, chP z.2.1), (28, .int .i64 z.1)])
   (fun z : Nat × Env × List Int × Tok × RsS => .tok z.2.2.2.1 :: .box b11 [.int .i64 7, .int .i64 0, .sl 1 (z.2.2.1.map (PV.int .i64)) (some z.2.2.2.1), .nil] :: .box b10 [.int .i64 0, .int .i64 0, .nil, .nil] :: .box b7 (datC body) :: rsE b tk z.2.2.2.2)
   (fun z => z.1 ≤ L.length ∧ z.2.1 = bndE e s.vars ((B.take z.1).map fun p => p.1.s) ∧ z.2.2.1 = upE s.vars z.1 ∧ z.2.2.2.2 = ⟨s.cs, s.vars + z.1, s.lost⟩ ∧ z.2.2.2.1.e = 3) (fun z => L.length - z.1)
   (0, e, [], nilTok 1 3, s) ⟨Nat.zero_le _, rfl, rfl, by simp, rfl⟩ wA ?_
  rintro ⟨i, E, V, tv, s1⟩ ⟨hi, hE, hV, hs1, htv⟩
  dsimp only at hi hE hV hs1 htv ⊢
  have hVl : V.length = i := by rw [hV, upE_len]
  have hv1 : s1.vars = s.vars + i := by rw [hs1]
  rcases Nat.lt_or_ge i L.length with hlt | hge
  ·obtain ⟨g1, g2, g3⟩ := hget i hlt (by omega)
   obtain ⟨p1, p2, p3, p4⟩ := two_parts (hIm _ (List.getElem_mem hlt)) g2
   rw [datD_get (show 0 < (L[i]'hlt).l.length by omega)] at p2
   rw [← p2] at g3
   have h0n : 0 < (L[i]'hlt).l.length := by omega
   conv => whnf
   repeat' (first|refine aA2 ?_|((intro _);conv=>whnf)|(refine zX (fun hc=>?_) (fun hc=>?_)<;>(try simp only [SY] at hc)<;>first|omega|(conv=>whnf)))
   refine PCall.go (bindP_c b b11 tk tv s1 E ((L[i]'hlt).l[0]'h0n).s 7 0 V .nil htv (by omega) (by omega) (by omega)) (WkT.refl _) ?_
   rintro _ _ ⟨tv2, htv2, rfl, rfl⟩
   conv => whnf
   repeat' (first|refine aA2 ?_|(refine zX (fun hc=>?_) (fun hc=>?_)<;>(try simp only [SY] at hc)<;>omega))
   refine loopTo (i + 1, (((L[i]'hlt).l[0]'h0n).s, s1.vars) :: E, V ++ [s1.vars], tv2, ⟨s1.cs, s1.vars + 1, s1.lost⟩) ⟨by show i + 1 ≤ _; omega, ?_, ?_, ?_, htv2⟩ (by show L.length - (i + 1) < L.length - i; omega) wA
   ·show (((L[i]'hlt).l[0]'h0n).s, s1.vars) :: E = bndE e s.vars ((B.take (i + 1)).map fun p => p.1.s)
    rw [takeM_snoc _ _ _ (show i < B.length by omega), bndE_snoc, g3, hE, hv1]
    congr 2
    rw [List.length_map, List.length_take]
    omega
   ·show V ++ [s1.vars] = upE s.vars (i + 1)
    rw [upE_snoc, hv1, hV]
   ·show (⟨s1.cs, s1.vars + 1, s1.lost⟩ : RsS) = ⟨s.cs, s.vars + ((i + 1 : Nat) : Int), s.lost⟩
    rw [show s1.cs = s.cs by rw [hs1], show s1.lost = s.lost by rw [hs1], hv1]
    congr 1
    omega
  obtain rfl : i = L.length := by omega
  rw [← hBl, List.take_length] at hE
  rw [← hBl] at hV hs1
  rw [← hE, ← hV, ← hs1]
  generalize hRR : allR tm (B.map Prod.snd ++ [body]) E s1 = R
  have hs0 : RsOk (Datum.szs (B.map Prod.snd ++ [body])) s1 := by rw [hs1, hsz2]; exact ⟨by dsimp only; omega, by dsimp only; omega, by dsimp only; omega⟩
  conv => whnf
  repeat' (first|refine aA2 ?_|((intro _);conv=>whnf)|(refine zX (fun hc=>?_) (fun hc=>?_)<;>(try simp only [SY] at hc)<;>first|omega|(conv=>whnf)))
  refine PLoop.gh (Ghost.trans (Ghost.nilRowT _) (Ghost.box (b := b11) (cs := [.int .i64 7, .int .i64 0, .sl 1 (V.map (PV.int .i64)) (some tv), .nil]) (cs' := [.int .i64 7, .int .i64 0, .sl 1 (V.map (PV.int .i64)) (some tv), .ms (nilTok 4 30)]) (.cons (Wk.refl _) (.cons (Wk.refl _) (.cons (Wk.refl _) (.cons (Wk.nilRow 4 30) .nil)))))) ?_
  refine PLoop.over [17, 43, 44, 45, 46, 47, 48, 49, 50, 51, 52, 53, 54, 55, 56, 57, 58, 59, 60, 61, 62, 63, 64] (fun z : Nat × List Trm × Tok × Tok × RsS => [(43, .int .i64 z.1)])
   (fun z : Nat × List Trm × Tok × Tok × RsS => .row z.2.2.1 (z.2.1.map Trm.pv) :: .box b11 [.int .i64 7, .int .i64 0, .sl 1 (V.map (PV.int .i64)) (some tv), .ms z.2.2.1] :: .tok tv :: .box b10 [.int .i64 0, .int .i64 0, .nil, .nil] :: .box b7 (datC body) :: rsE b z.2.2.2.1 z.2.2.2.2)
   (fun z => z.1 ≤ L.length ∧ z.2.1.length = z.1 ∧ z.2.2.1.e = 30 ∧ z.2.2.1.s = 4 ∧ z.2.2.2.1.e = 24 ∧ z.2.2.2.1.s = 5 ∧ RsOk (Datum.szs ((B.map Prod.snd ++ [body]).drop z.1)) z.2.2.2.2 ∧ R = (z.2.1 ++ (allR tm ((B.map Prod.snd ++ [body]).drop z.1) E z.2.2.2.2).1, (allR tm ((B.map Prod.snd ++ [body]).drop z.1) E z.2.2.2.2).2)) (fun z => L.length - z.1)
   (0, [], nilTok 4 30, tk, s1) ⟨Nat.zero_le _, rfl, rfl, rfl, h1, h2, hs0, hRR.symm⟩ wA ?_
  rintro ⟨j, T, tT, tk2, s2⟩ ⟨hj, hTl, hT1, hT2, hk1, hk2, hok, hR2⟩
  dsimp only at hj hTl hT1 hT2 hk1 hk2 hok hR2 ⊢
  have hjl : j < (B.map Prod.snd ++ [body]).length := by omega
  rw [drop_at hjl, Datum.szs] at hok
  rw [drop_at hjl, allR] at hR2
  obtain ⟨g, hcall⟩ := hx _ (List.getElem_mem hjl) tk2 E s2 hk1 hk2 (hok.mono (by omega))
  have hsl := fun (r : Trm) => set_lastR T (Trm.mk 0 0 [] []) r
  have hTz : (T ++ [(Trm.mk 0 0 [] [] : Trm)]).length = T.length + 1 := by simp
  rcases Nat.lt_or_ge j L.length with hlt | hge
  ·have hel : (B.map Prod.snd ++ [body])[j]'hjl = (B[j]'(by omega)).2 := by
    rw [List.getElem_append_left (by rw [List.length_map]; omega), List.getElem_map]
   obtain ⟨g1, g2, g3⟩ := hget j hlt (by omega)
   obtain ⟨p1, p2, p3, p4⟩ := two_parts (hIm _ (List.getElem_mem hlt)) g2
   have h1n : 1 < (L[j]'hlt).l.length := by omega
   rw [datD_get h1n] at p3 p4
   have h0n : 0 < ((L[j]'hlt).l[1]'h1n).l.length := by omega
   rw [datD_get h0n] at p4
   have hel2 : (B.map Prod.snd ++ [body])[j]'hjl = ((L[j]'hlt).l[1]'h1n).l[0]'h0n := by rw [hel, g3, p4]
   rw [hel2] at hcall hR2 g hok
   generalize tm (((L[j]'hlt).l[1]'h1n).l[0]'h0n) E s2 = r at *
   conv => whnf
   repeat' (first|refine aA2 ?_|((intro _);conv=>whnf)|(refine zX (fun hc=>?_) (fun hc=>?_)<;>(try simp only [SY] at hc)<;>first|omega|(conv=>whnf)))
   refine PDraw.tree tt_ok mixed [0, 1, 0, 0, 8, 24, 56, 120, 248, 504, 0, 2044, 3, 0, 16383, 32767, 65535, 32767, 163839] [0, 2, 3, 4, 5, 6, 7, 8, 9, 10, 13] [1, 11, 12, 14, 15, 16, 17, 18] [.row tT (T.map Trm.pv), .box b11 [.int .i64 7, .int .i64 0, .sl 1 (V.map (PV.int .i64)) (some tv), .ms tT], .box b [.ms tk2, .int .i64 s2.vars, .bool s2.lost], .row tk2 (s2.cs.map Datum.pv)] ?_
   conv => whnf
   conv => whnf
   repeat' (first|((first|((apply zZ);exact tB)|refine aM ?_|(refine And.intro ?_ ?_)|(refine PLenM.map fun _ => ?_)|(refine PCall.go hcall wR ?_; rintro _ _ ⟨_, _, _, rfl, rfl⟩)|refine aF ?_|intro _);conv=>whnf)|(refine zX (fun hc=>?_) (fun hc=>?_)<;>(try simp only [SY] at hc)<;>omega))
   all_goals try exact trivial
   all_goals
    first | (rename_i tk3 k3 k4 _ tT3 u1 u2; have : tk3.e = 24 := k3) | (rename_i _ tT3 u1 u2 tk3 k3 k4; have : tk3.e = 24 := k3) | (rename_i _ tk3 k3 k4 tT3 u1 u2; have : tk3.e = 24 := k3) | (rename_i tT3 u1 u2 _ tk3 k3 k4; have : tk3.e = 24 := k3)
    rw [hsl r.1]
    refine loopTo (j + 1, T ++ [r.1], tT3, tk3, r.2) ⟨by show j + 1 ≤ _; omega, by simp; omega, u1, u2, k3, k4, hok.step g, ?_⟩ (by show L.length - (j + 1) < L.length - j; omega) wA
    dsimp only
    rw [hR2, List.append_assoc]
    rfl
  ·obtain rfl : j = L.length := by omega
   have hel2 : (B.map Prod.snd ++ [body])[L.length]'hjl = body := by
    rw [List.getElem_append_right (by rw [List.length_map]; omega), List.getElem_singleton]
   rw [hel2] at hcall hR2 g hok
   rw [List.drop_of_length_le (by omega), allR] at hR2
   dsimp only at hR2
   generalize tm body E s2 = r at *
   rw [hR2]
   conv => whnf
   repeat' ((refine zX (fun hc=>?_) (fun hc=>?_)<;>(try simp only [SY] at hc)<;>first|omega|(conv=>whnf)))
   refine PDraw.tree tt_ok mixed [0, 1, 0, 0, 0, 28, 3, 0, 255, 511, 1023, 511, 2559] [0, 2, 3, 4, 7] [1, 5, 6, 8, 9, 10, 11, 12] [.row tT (T.map Trm.pv), .box b11 [.int .i64 7, .int .i64 0, .sl 1 (V.map (PV.int .i64)) (some tv), .ms tT], .box b [.ms tk2, .int .i64 s2.vars, .bool s2.lost], .row tk2 (s2.cs.map Datum.pv)] ?_
   conv => whnf
   conv => whnf
   repeat' (first|((first|((apply zZ);exact tB)|refine aM ?_|(refine And.intro ?_ ?_)|(refine PLenM.map fun _ => ?_)|(refine PCall.go hcall wR ?_; rintro _ _ ⟨_, _, _, rfl, rfl⟩)|refine aF ?_|intro _);conv=>whnf)|(refine zX (fun hc=>?_) (fun hc=>?_)<;>(try simp only [SY] at hc)<;>omega))
   all_goals try exact trivial
   all_goals
    first | (rename_i tk3 k3 k4 _ tT3 u1 u2; have : tk3.e = 24 := k3) | (rename_i _ tT3 u1 u2 tk3 k3 k4; have : tk3.e = 24 := k3) | (rename_i _ tk3 k3 k4 tT3 u1 u2; have : tk3.e = 24 := k3) | (rename_i tT3 u1 u2 _ tk3 k3 k4; have : tk3.e = 24 := k3)
    rw [hsl r.1]
    exact PRet.freezeR (t := tT3) (es := (T ++ [r.1]).map Trm.pv) (y := .agg (Trm.mk 7 0 V (T ++ [r.1])).cells) (Γ' := rsE b tk3 r.2) (WkF.agg (.cons (WkF.of (Wk.refl _)) (.cons (WkF.of (Wk.refl _)) (.cons (WkF.of (Wk.tok _ _ _)) (.cons (WkF.ms' u2) .nil))))) ⟨tk3, k3, k4, by rw [hcE]; rfl, rfl⟩
end Go.Cb
namespace Go.Cb
open Go.Proofs
set_option maxRecDepth 100000
set_option maxHeartbeats 40000000
theorem termP_c (b : Nat) (n : Nat) (hn : n ≤ 100000000) (ih : ∀ x : Datum, x.pr = true → x.sz ≤ n → corF n x = true → TmOkP b (TF 0 n) x) (d : Datum) (hd : d.sz ≤ n + 1) (hp : d.pr = true) (hcr : corF (n + 1) d = true) : TmOkP b (TF 0 (n + 1)) d := by
 intro tk e s h1 h2 hs
 refine ⟨(TF_go 0 (n + 1) d hp e s).1, ?_⟩
 have hT : TF 0 (n + 1) d e s = TF 0 (n + 1) d e s := rfl
 conv at hT => rhs; rw [TF]; dsimp only
 generalize TF 0 (n + 1) d e s = R at *
 have hsz := d.sz_pos
 have hL0 : ¬d.kind = 2 → 0 < d.its.1.length := fun hk => by
  rw [corF, if_neg hk] at hcr
  dsimp only at hcr
  split at hcr
  ·cases hcr
  ·rename_i h
   rcases Nat.eq_zero_or_pos d.its.1.length with h0 | h0
   ·exact absurd (.inr (List.eq_nil_of_length_eq_zero h0)) h
   ·exact h0
 have hpl : ∀ x ∈ d.its.1, x.pr = true ∧ x.sz ≤ n := fun x h => by have := Datum.its_lt hp h; exact ⟨this.2, by omega⟩
 have hss := Datum.its_szs hp
 have hln := Datum.szs_len d.its.1
 have hall : ∀ (l : List Datum) (tk' : Tok) (e' : Env) (s' : RsS), (∀ x ∈ l, x ∈ d.its.1 ∧ corF n x = true) → tk'.e = 24 → tk'.s = 5 → Datum.szs l ≤ Datum.szs d.its.1 → RsOk (Datum.szs l) s' →
   ACall Tryz.prog 52 [.ptr b 0, .sl 5 (l.map Datum.pv) none, chP e'] (rsE b tk' s') (fun y Γ' => ∃ t3 : Tok, t3.e = 24 ∧ t3.s = 5 ∧ y = .sl 4 ((allR (TF 0 n) l e' s').1.map Trm.pv) none ∧ Γ' = rsE b t3 (allR (TF 0 n) l e' s').2) := fun l tk' e' s' hx k1 k2 hl k5 =>
  allP_c b (TF 0 n) l (fun x h => ih x (hpl x (hx x h).1).1 (hpl x (hx x h).1).2 (hx x h).2) (by have := Datum.szs_len l; omega) tk' e' s' k1 k2 k5
 have hdr := fun k => Datum.szs_drop d.its.1 k
 have hpt := partsP_c d hp (by omega)
 unfold kwQuote kwIf kwBegin kwLambda kwLetrec kwLetrecS kwSet at hT
 refine ACall.of_body tt_ok Tryz.func29 rfl rfl (n := 138) rfl rfl ?_
 conv => whnf
 repeat' (first|refine aA2 ?_|((intro _);conv=>whnf)|(refine zX (fun hc=>?_) (fun hc=>?_)<;>(try simp only [SY] at hc)<;>(conv=>whnf)))
 ·refine PCall.go (variableP_c b tk s e d.s) (WkT.refl _) ?_
  rintro _ _ ⟨rfl, rfl⟩
  conv => whnf
  repeat' (first|refine aA2 ?_|(refine zX (fun hc=>?_) (fun hc=>?_)<;>(try simp only [SY] at hc)<;>omega))
  rw [if_pos (by assumption)] at hT
  cases hf : fndE e d.s with
  | some v =>
   rw [hf] at hT
   dsimp only at hT ⊢
   rw [hT]
   exact PRet.gen (y := .agg (Trm.mk 1 v [] []).cells) (Γ' := rsE b tk s) TrmOf.wk ⟨tk, h1, h2, rfl, rfl⟩
  | none =>
   rw [hf] at hT
   dsimp only at hT ⊢
   cases hP : prmF d.s with
   | some p =>
    rw [hP] at hT
    dsimp only at hT ⊢
    rw [hT]
    exact PRet.gen (y := .agg (Trm.mk 11 p [] []).cells) (Γ' := rsE b tk s) TrmOf.wk ⟨tk, h1, h2, rfl, rfl⟩
   | none =>
    rw [hP] at hT
    dsimp only at hT ⊢
    rw [hT]
    exact PRet.gen (y := .agg (Trm.mk 11 0 [] []).cells) (Γ' := rsE b tk ⟨s.cs, s.vars, true⟩) TrmOf.wk ⟨tk, h1, h2, rfl, rfl⟩
 all_goals
  refine PCall.go (Γ1 := []) hpt (WkT.refl _) ?_
  rintro _ _ ⟨t3, k3, rfl, rfl⟩
  have hk := ‹¬d.kind = 2›
  have hL := hL0 hk
  rw [if_neg hk, datD_get hL] at hT
  conv => whnf
  repeat' (first|refine aA2 ?_|((first|(((apply zY;intro hg));(conv=>whnf);(repeat ((first|refine pC (keyS_c _) wR ?_|refine aH ?_);conv=>whnf));exact pZ)|intro _);conv=>whnf)|(refine zX (fun hc=>?_) (fun hc=>?_)<;>(try simp only [SY] at hc)<;>(conv=>whnf)))
 all_goals try contradiction
 ·rename_i hh
  have hl2 := corF_quote hcr hk (by rw [datD_get hL]; exact hh) (by rw [datD_get hL]; exact hc)
  rw [if_pos hh, if_pos hc, datD_get (show 1 < d.its.1.length by omega)] at hT
  have hcl := hs.2.2
  have hsl := set_lastR s.cs (Datum.mk 0 0 0 [] []) (d.its.1[1]'(by omega))
  have hnum : (((s.cs ++ [d.its.1[1]'(by omega)]).length : Nat) : Int) - 1 = s.cs.length := by simp
  have hcl2 : (s.cs ++ [(Datum.mk 0 0 0 [] [] : Datum)]).length = s.cs.length + 1 := by simp
  refine PDraw.tree tt_ok mixed [0, 1, 3, 7, 0, 16, 48, 15, 0, 511, 1023, 2047, 1023, 5119, 13311] [0, 1, 2, 4, 5, 6, 8] [3, 7, 9, 10, 11, 12, 13, 14] [.box b [.ms tk, .int .i64 s.vars, .bool s.lost], .row tk (s.cs.map Datum.pv)] ?_
  conv => whnf
  conv => whnf
  repeat' (first|((first|((apply zZ);exact tB)|refine aM ?_|(refine And.intro ?_ ?_)|(refine PLenM.map fun _ => ?_)|refine aF ?_|intro _);conv=>whnf)|(refine zX (fun hc=>?_) (fun hc=>?_)<;>(try simp only [SY] at hc)<;>omega))
  all_goals try exact trivial
  all_goals
   rename_i tk2 e2 s2 _
   rw [hsl, hnum, hT]
   exact PRet.gen (y := .agg (Trm.mk 0 s.cs.length [] []).cells) (Γ' := rsE b tk2 ⟨s.cs ++ [d.its.1[1]'(by omega)], s.vars, s.lost⟩) TrmOf.wk ⟨tk2, e2, s2, rfl, rfl⟩
 ·rename_i hh hq
  have hl2 := corF_if hcr hk (by rw [datD_get hL]; exact hh) (by rw [datD_get hL]; exact hc)
  rw [if_pos hh, if_neg hq, if_pos hc] at hT
  have hcall := hall (d.its.1.drop 1) tk e s (fun x h => ⟨List.mem_of_mem_drop h, hl2.2 x h⟩) h1 h2 (hdr 1) (hs.mono (by have := hdr 1; omega))
  generalize allR (TF 0 n) (d.its.1.drop 1) e s = r at *
  rw [hT]
  refine PCall.go hcall (WkT.refl _) ?_
  rintro _ _ ⟨t4, k1, k2, rfl, rfl⟩
  conv => whnf
  repeat' (first|refine aA2 ?_|(refine zX (fun hc=>?_) (fun hc=>?_)<;>(try simp only [SY] at hc)<;>omega))
  exact PRet.gen (y := .agg (Trm.mk 3 0 [] r.1).cells) (Γ' := rsE b t4 r.2) TrmOf.wk ⟨t4, k1, k2, rfl, rfl⟩
 ·rename_i hh hq hi
  have hl2 := corF_begin hcr hk (by rw [datD_get hL]; exact hh) (by rw [datD_get hL]; exact hc)
  rw [if_pos hh, if_neg hq, if_neg hi, if_pos hc] at hT
  have hcall := hall (d.its.1.drop 1) tk e s (fun x h => ⟨List.mem_of_mem_drop h, hl2.2 x h⟩) h1 h2 (hdr 1) (hs.mono (by have := hdr 1; omega))
  generalize allR (TF 0 n) (d.its.1.drop 1) e s = r at *
  rw [hT]
  refine PCall.go hcall (WkT.refl _) ?_
  rintro _ _ ⟨t4, k1, k2, rfl, rfl⟩
  conv => whnf
  repeat' (first|refine aA2 ?_|(refine zX (fun hc=>?_) (fun hc=>?_)<;>(try simp only [SY] at hc)<;>omega))
  exact PRet.gen (y := .agg (Trm.mk 6 0 [] r.1).cells) (Γ' := rsE b t4 r.2) TrmOf.wk ⟨t4, k1, k2, rfl, rfl⟩
 ·rename_i hh hq hi hb
  have hl2 := corF_lambda hcr hk (by rw [datD_get hL]; exact hh) (by rw [datD_get hL]; exact hc)
  have hl3 := hl2.1
  have h1n : 1 < d.its.1.length := by omega
  rw [if_pos hh, if_neg hq, if_neg hi, if_neg hb, if_pos hc, datD_get h1n] at hT
  have hm1 : d.its.1[1]'h1n ∈ d.its.1 := List.getElem_mem _
  have hfs := (Datum.its_lt hp hm1).1
  have hz2 : (d.its.1[1]'h1n).sz + Datum.szs (d.its.1.drop 2) ≤ Datum.szs d.its.1 := by
   have := szs_drop2 h1n
   rw [datD_get h1n] at this
   omega
  have hcall := lambdaP_c b (TF 0 n) (d.its.1[1]'h1n) (d.its.1.drop 2) (hpl _ hm1).1 (by omega) (fun x h => ih x (hpl x (List.mem_of_mem_drop h)).1 (hpl x (List.mem_of_mem_drop h)).2 (hl2.2.2 x h)) (by have := hdr 2; have := Datum.szs_len (d.its.1.drop 2); omega) tk e s h1 h2 (hs.mono (by omega))
  generalize allR (TF 0 n) (d.its.1.drop 2) (bndE e s.vars ((formalsL (d.its.1[1]'h1n)).map Datum.s)) ⟨s.cs, s.vars + (formalsL (d.its.1[1]'h1n)).length, s.lost⟩ = r at *
  generalize (if (d.its.1[1]'h1n).its.2.kind = 4 then (0 : Int) else 1) = N at *
  generalize upE s.vars (formalsL (d.its.1[1]'h1n)).length = V at *
  rw [hT]
  refine PDraw.sE [.box b [.ms tk, .int .i64 s.vars, .bool s.lost], .row tk (s.cs.map Datum.pv)] [] [7,8] tt_ok mixed ?_
  conv=>whnf
  repeat (refine aR2 ?_)
  refine PCall.go hcall (WkT.refl _) ?_
  rintro _ _ ⟨t4, k1, k2, rfl, rfl⟩
  conv => whnf
  repeat' (first|refine aA2 ?_|(refine zX (fun hc=>?_) (fun hc=>?_)<;>(try simp only [SY] at hc)<;>omega))
  exact PRet.gen (y := .agg (Trm.mk 4 N V r.1).cells) (Γ' := rsE b t4 r.2) TrmOf.wk ⟨t4, k1, k2, rfl, rfl⟩
 ·rename_i hh hq hi hb hla _
  have hs' : (d.its.1[0]'hL).s = [108, 101, 116, 114, 101, 99] ∨ (d.its.1[0]'hL).s = [108, 101, 116, 114, 101, 99, 42] := .inl hc
  obtain ⟨hl3, B, hB, hdB, hxB⟩ := corF_rec hcr hk (by rw [datD_get hL]; exact hh) (by rw [datD_get hL]; exact hs')
  have h1n : 1 < d.its.1.length := by omega
  have h2n : 2 < d.its.1.length := by omega
  rw [if_pos hh, if_neg hq, if_neg hi, if_neg hb, if_neg hla, if_pos hs', hB] at hT
  dsimp only [Option.getD_some] at hT
  rw [datD_get h1n] at hB
  rw [datD_get h2n] at hT hxB
  have hm1 := hpl _ (List.getElem_mem h1n)
  have hm2 := hpl _ (List.getElem_mem h2n)
  have hz3 : (d.its.1[1]'h1n).sz + (d.its.1[2]'h2n).sz ≤ Datum.szs d.its.1 := by
   have e1 := szs_drop2 h1n
   have e2 := Datum.szs_drop d.its.1 2
   rw [datD_get h1n] at e1
   have e3 : Datum.szs (d.its.1.drop 2) = (d.its.1[2]'h2n).sz + Datum.szs (d.its.1.drop 3) := by rw [drop_at h2n, Datum.szs]
   omega
  have hrec := letrecP_c b (TF 0 n) (d.its.1[1]'h1n) (d.its.1[2]'h2n) false B hm1.1 (by omega) hB (fun x hx => by
   have hc3 := hxB x hx
   rcases List.mem_append.1 hx with hx | hx
   ·obtain ⟨p, hp', rfl⟩ := List.mem_map.1 hx
    have := bindsD_lt hm1.1 hB hp'
    exact ih _ this.2 (by omega) hc3
   ·rw [List.mem_singleton] at hx
    subst hx
    exact ih _ hm2.1 hm2.2 hc3) tk e s h1 h2 (hs.mono (by omega))
  generalize allR (TF 0 n) (B.map Prod.snd ++ [d.its.1[2]'h2n]) (bndE e s.vars (B.map fun p => p.1.s)) ⟨s.cs, s.vars + B.length, s.lost⟩ = r at *
  rw [hT, hc]
  refine PDraw.sE [.box b [.ms tk, .int .i64 s.vars, .bool s.lost], .row tk (s.cs.map Datum.pv)] [] [10,11] tt_ok mixed ?_
  conv=>whnf
  repeat (refine aR2 ?_)
  refine PCall.go hrec (WkT.refl _) ?_
  rintro _ _ ⟨t4, k1, k2, rfl, rfl⟩
  conv => whnf
  repeat' (first|refine aA2 ?_|(refine zX (fun hc=>?_) (fun hc=>?_)<;>(try simp only [SY] at hc)<;>omega))
  exact PRet.gen (y := .agg (Trm.mk 7 0 (upE s.vars B.length) r.1).cells) (Γ' := rsE b t4 r.2) TrmOf.wk ⟨t4, k1, k2, rfl, rfl⟩
 ·rename_i hh hq hi hb hla hxx
  have hs' : (d.its.1[0]'hL).s = [108, 101, 116, 114, 101, 99] ∨ (d.its.1[0]'hL).s = [108, 101, 116, 114, 101, 99, 42] := .inr hc
  obtain ⟨hl3, B, hB, hdB, hxB⟩ := corF_rec hcr hk (by rw [datD_get hL]; exact hh) (by rw [datD_get hL]; exact hs')
  have h1n : 1 < d.its.1.length := by omega
  have h2n : 2 < d.its.1.length := by omega
  rw [if_pos hh, if_neg hq, if_neg hi, if_neg hb, if_neg hla, if_pos hs', hB] at hT
  dsimp only [Option.getD_some] at hT
  rw [datD_get h1n] at hB
  rw [datD_get h2n] at hT hxB
  have hm1 := hpl _ (List.getElem_mem h1n)
  have hm2 := hpl _ (List.getElem_mem h2n)
  have hz3 : (d.its.1[1]'h1n).sz + (d.its.1[2]'h2n).sz ≤ Datum.szs d.its.1 := by
   have e1 := szs_drop2 h1n
   have e2 := Datum.szs_drop d.its.1 2
   rw [datD_get h1n] at e1
   have e3 : Datum.szs (d.its.1.drop 2) = (d.its.1[2]'h2n).sz + Datum.szs (d.its.1.drop 3) := by rw [drop_at h2n, Datum.szs]
   omega
  have hrec := letrecP_c b (TF 0 n) (d.its.1[1]'h1n) (d.its.1[2]'h2n) true B hm1.1 (by omega) hB (fun x hx => by
   have hc3 := hxB x hx
   rcases List.mem_append.1 hx with hx | hx
   ·obtain ⟨p, hp', rfl⟩ := List.mem_map.1 hx
    have := bindsD_lt hm1.1 hB hp'
    exact ih _ this.2 (by omega) hc3
   ·rw [List.mem_singleton] at hx
    subst hx
    exact ih _ hm2.1 hm2.2 hc3) tk e s h1 h2 (hs.mono (by omega))
  generalize allR (TF 0 n) (B.map Prod.snd ++ [d.its.1[2]'h2n]) (bndE e s.vars (B.map fun p => p.1.s)) ⟨s.cs, s.vars + B.length, s.lost⟩ = r at *
  rw [hT, hc]
  refine PDraw.sE [.box b [.ms tk, .int .i64 s.vars, .bool s.lost], .row tk (s.cs.map Datum.pv)] [] [10,11] tt_ok mixed ?_
  conv=>whnf
  repeat (refine aR2 ?_)
  refine PCall.go hrec (WkT.refl _) ?_
  rintro _ _ ⟨t4, k1, k2, rfl, rfl⟩
  conv => whnf
  repeat' (first|refine aA2 ?_|(refine zX (fun hc=>?_) (fun hc=>?_)<;>(try simp only [SY] at hc)<;>omega))
  exact PRet.gen (y := .agg (Trm.mk 7 1 (upE s.vars B.length) r.1).cells) (Γ' := rsE b t4 r.2) TrmOf.wk ⟨t4, k1, k2, rfl, rfl⟩
 ·rename_i hh hq hi hb hla hxx hyy
  have hl2 := corF_set hcr hk (by rw [datD_get hL]; exact hh) (by rw [datD_get hL]; exact hc)
  have hl3 := hl2.1
  have h1n : 1 < d.its.1.length := by omega
  rw [if_pos hh, if_neg hq, if_neg hi, if_neg hb, if_neg hla, if_neg (by rintro (h | h); exact hxx h; exact hyy h), if_pos hc, datD_get h1n] at hT
  have hTT : R = (Trm.mk 2 ((fndE e (d.its.1[1]'h1n).s).getD 0) [] (allR (TF 0 n) (d.its.1.drop 2) e ⟨s.cs, s.vars, s.lost || !(fndE e (d.its.1[1]'h1n).s).isSome⟩).1, (allR (TF 0 n) (d.its.1.drop 2) e ⟨s.cs, s.vars, s.lost || !(fndE e (d.its.1[1]'h1n).s).isSome⟩).2) := by
   rw [hT]
   cases hf : fndE e (d.its.1[1]'h1n).s with
   | some v =>
    have : (s.lost || !(some v).isSome) = s.lost := Bool.or_false _
    rw [this]
    rfl
   | none =>
    have : (s.lost || !(none : Option Int).isSome) = true := Bool.or_true _
    rw [this]
    rfl
  clear hT
  conv => whnf
  repeat' (first|refine aA2 ?_|((refine pC (findP_c e _) wR ?_);conv=>whnf)|(refine zX (fun hc=>?_) (fun hc=>?_)<;>(try simp only [SY] at hc)<;>omega))
  have hcall := hall (d.its.1.drop 2) tk e ⟨s.cs, s.vars, s.lost || !(fndE e (d.its.1[1]'h1n).s).isSome⟩ (fun x h => ⟨List.mem_of_mem_drop h, hl2.2.2 x h⟩) h1 h2 (hdr 2) (hs.mono (by have := hdr 2; omega))
  generalize allR (TF 0 n) (d.its.1.drop 2) e ⟨s.cs, s.vars, s.lost || !(fndE e (d.its.1[1]'h1n).s).isSome⟩ = r at *
  rw [hTT]
  refine PCall.go hcall (WkT.refl _) ?_
  rintro _ _ ⟨t4, k1, k2, rfl, rfl⟩
  conv => whnf
  repeat' (first|refine aA2 ?_|(refine zX (fun hc=>?_) (fun hc=>?_)<;>(try simp only [SY] at hc)<;>omega))
  exact PRet.gen (y := .agg (Trm.mk 2 ((fndE e (d.its.1[1]'h1n).s).getD 0) [] r.1).cells) (Γ' := rsE b t4 r.2) TrmOf.wk ⟨t4, k1, k2, rfl, rfl⟩
 ·rename_i hh hq hi hb hla hst hxx
  exact (corF_none hcr hk (by rw [datD_get hL]; exact hh) (by rw [datD_get hL]; exact hq) (by rw [datD_get hL]; exact hi) (by rw [datD_get hL]; exact hla) (by rw [datD_get hL]; exact hc) (by rw [datD_get hL]; exact hb) (by rw [datD_get hL]; exact hst) (by rw [datD_get hL]; exact hxx)).elim
 all_goals
  have hh : ¬((d.its.1[0]'hL).kind = 2 ∧ keyB (d.its.1[0]'hL).s = true) := fun h => by
   rcases ‹¬(d.its.1[0]'hL).kind = 2 ∨ keyB (d.its.1[0]'hL).s = false› with h3 | h3
   ·exact h3 h.1
   ·rw [h.2] at h3; cases h3
  have hx := corF_app hcr hk (by rw [datD_get hL]; exact hh)
  rw [if_neg hh] at hT
  have hcall := hall d.its.1 tk e s (fun x h => ⟨h, hx x h⟩) h1 h2 (Nat.le_refl _) (hs.mono (by omega))
  generalize allR (TF 0 n) d.its.1 e s = r at *
  rw [hT]
  refine PCall.go hcall (.cons (Wk.refl _) (.cons (Wk.tok _ _ _) (.cons (Wk.refl _) .nil))) ?_
  rintro _ _ ⟨t4, k1, k2, rfl, rfl⟩
  conv => whnf
  repeat' (first|refine aA2 ?_|(refine zX (fun hc=>?_) (fun hc=>?_)<;>(try simp only [SY] at hc)<;>omega))
  exact PRet.gen (y := .agg (Trm.mk 5 0 [] r.1).cells) (Γ' := rsE b t4 r.2) TrmOf.wk ⟨t4, k1, k2, rfl, rfl⟩
theorem termAllP_c (b : Nat) : ∀ n : Nat, n ≤ 100000000 → ∀ d : Datum, d.pr = true → d.sz ≤ n → corF n d = true → TmOkP b (TF 0 n) d
 | 0, _, d, _, h, _ => by have := d.sz_pos; omega
 | n + 1, hn, d, hp, hd, hc => termP_c b n (by omega) (fun x h1 h2 h3 => termAllP_c b n (by omega) x h1 h2 h3) d hd hp hc
end Go.Cb
namespace Go.Cb
open Go.Proofs
set_option maxRecDepth 100000
set_option maxHeartbeats 4000000
end Go.Cb
namespace Go.Proofs
open Go.Shelf
end Go.Proofs
namespace Go.Cb
open Go.Proofs Go.Sort
open Go.RowKit (Below)
set_option maxRecDepth 100000
set_option maxHeartbeats 4000000
end Go.Cb
namespace Go.Cb
open Go.Proofs
set_option maxRecDepth 100000
set_option maxHeartbeats 4000000
end Go.Cb
namespace Go.Cb
open Go.Proofs
set_option maxRecDepth 100000
set_option maxHeartbeats 4000000
mutual
def Trm.sh (k : Int) : Trm → Trm
 | .mk op n v t => .mk op (if namesB op = true then n + k else n) (v.map (· + k)) (Trm.shs k t)
def Trm.shs (k : Int) : List Trm → List Trm
 | [] => []
 | x :: xs => Trm.sh k x :: Trm.shs k xs
end
theorem Trm.shs_eq (k : Int) : ∀ l : List Trm, Trm.shs k l = l.map (Trm.sh k)
 | [] => rfl
 | x :: l => by rw [Trm.shs, List.map_cons, Trm.shs_eq k l]
theorem Trm.sh_op (k : Int) (t : Trm) : (t.sh k).op = t.op := by cases t; rw [Trm.sh]; rfl
theorem Trm.sh_n (k : Int) (t : Trm) : (t.sh k).n = if namesB t.op = true then t.n + k else t.n := by cases t; rw [Trm.sh]; rfl
theorem Trm.sh_v (k : Int) (t : Trm) : (t.sh k).v = t.v.map (· + k) := by cases t; rw [Trm.sh]; rfl
theorem Trm.sh_t (k : Int) (t : Trm) : (t.sh k).t = t.t.map (Trm.sh k) := by cases t; rw [Trm.sh, ← Trm.shs_eq]; rfl
theorem Trm.sh_cnt (k : Int) (t : Trm) : (t.sh k).cnt = t.cnt := by
 induction t using Trm.ind with
 | h t ih =>
  have : ∀ l : List Trm, (∀ x ∈ l, (x.sh k).cnt = x.cnt) → Trm.cnts (l.map (Trm.sh k)) = Trm.cnts l := by
   intro l
   induction l with
   | nil => intro _; rfl
   | cons y l ihl => intro h; rw [List.map_cons, Trm.cnts, Trm.cnts, h y (by simp), ihl fun x hx => h x (by simp [hx])]
  rw [Trm.cnt_eq, Trm.cnt_eq, Trm.sh_t, this t.t ih]
theorem Trm.sh_vars (k : Int) (t : Trm) : (t.sh k).vars = t.vars.map (· + k) := by
 induction t using Trm.ind with
 | h t ih =>
  have : ∀ l : List Trm, (∀ x ∈ l, (x.sh k).vars = x.vars.map (· + k)) → Trm.varss (l.map (Trm.sh k)) = (Trm.varss l).map (· + k) := by
   intro l
   induction l with
   | nil => intro _; rfl
   | cons y l ihl => intro h; rw [List.map_cons, Trm.varss, Trm.varss, h y (by simp), ihl fun x hx => h x (by simp [hx]), List.map_append]
  rw [Trm.vars_eq, Trm.vars_eq, Trm.sh_t, Trm.sh_v, this t.t ih, List.map_append]
theorem sh_number (k c codes : Int) (free : Bool) (t : Trm) (scope : List Int) (h : numberL c codes free t scope = true) : numberL c codes free (t.sh k) (scope.map (· + k)) = true := by
 unfold numberL at h ⊢
 rw [Trm.sh_op, Trm.sh_n, Trm.sh_v, List.length_map]
 by_cases hn : t.op = 1 ∨ t.op = 2 ∨ t.op = 14
 ·rw [if_neg (by omega), if_pos hn] at h ⊢
  have : namesB t.op = true := by simp [namesB]; omega
  rw [if_pos this]
  simp at h ⊢
  exact h
 ·have : ¬ namesB t.op = true := by simp [namesB]; omega
  rw [if_neg this, if_neg hn]
  rw [if_neg hn] at h
  exact h
theorem Trm.sh_ok {level c codes : Int} {free : Bool} (k : Int) (t : Trm) : ∀ {scope : List Int} {deep : Int}, t.okT level c codes free scope deep → (t.sh k).okT level c codes free (scope.map (· + k)) deep := by
 induction t using Trm.ind with
 | h t ih =>
  intro scope deep h
  rw [Trm.okT_eq] at h ⊢
  have key : ∀ (op : Int) (sc inner : List Int) (deep : Int) (l : List Trm), (∀ y ∈ l, ∀ {scope : List Int} {deep : Int}, y.okT level c codes free scope deep → (y.sh k).okT level c codes free (scope.map (· + k)) deep) →
    Trm.okTs level c codes free op sc inner l deep → Trm.okTs level c codes free op (sc.map (· + k)) (inner.map (· + k)) (l.map (Trm.sh k)) deep := by
   intro op sc inner deep l
   induction l with
   | nil => intro _ _; simp [Trm.okTs]
   | cons x l ihl =>
    intro hy hk
    rw [Trm.okTs] at hk
    rw [List.map_cons, Trm.okTs, Trm.sh_op]
    have e : l.map (Trm.sh k) = [] ↔ l = [] := by simp
    refine ⟨fun hh => hk.1 ⟨hh.1, fun h2 => hh.2.1 (e.2 h2), hh.2.2⟩, ?_, ihl (fun z hz => hy z (by simp [hz])) hk.2.2⟩
    have h2 := hy x (by simp) hk.2.1
    by_cases h3 : l = [] ∨ op = 7 ∨ op = 9
    ·rw [if_pos h3] at h2
     rw [if_pos (h3.imp_left e.2)]
     exact h2
    ·rw [if_neg h3] at h2
     rw [if_neg (fun h4 => h3 (h4.imp_left e.1))]
     exact h2
  rw [Trm.sh_op, Trm.sh_v, Trm.sh_t, ← List.map_append]
  refine ⟨⟨h.1.1, h.1.2.1, ?_, sh_number k _ _ _ _ _ h.1.2.2.2⟩, key _ _ _ _ _ ih h.2⟩
  have := h.1.2.2.1
  unfold countsL at this ⊢
  simp only [Trm.sh_op, Trm.sh_v, Trm.sh_t, List.length_map]
  exact this
theorem RightP.sh {p : Prog} {level : Int} (h : RightP p level) (k : Int) (h0 : 0 ≤ k) (hk : ∀ x ∈ p.body.vars, x + k ≤ 1000000) : RightP ⟨p.consts, p.body.sh k⟩ level := by
 obtain ⟨h1, h2, h3, h4, h5⟩ := h
 refine ⟨h1, h2, p.body.sh_ok k h3, by rw [show (⟨p.consts, p.body.sh k⟩ : Prog).body = p.body.sh k from rfl, Trm.sh_cnt]; exact h4, ?_⟩
 show Dist (p.body.sh k).vars []
 rw [Trm.sh_vars]
 refine ⟨fun x hx => ?_, ?_⟩
 ·obtain ⟨y, hy, rfl⟩ := List.mem_map.1 hx
  have := h5.1 y hy
  have := hk y hy
  exact ⟨by omega, by omega, by simp⟩
 ·exact List.Pairwise.map _ (fun a b hab => by omega) h5.2
end Go.Cb
namespace Go.Cb
open Go.Proofs
set_option maxRecDepth 100000
set_option maxHeartbeats 4000000
mutual
def Trm.asg : Trm → List Int
 | .mk op n _ t => (if op = 2 ∨ op = 14 then [n] else []) ++ Trm.asgs t
def Trm.asgs : List Trm → List Int
 | [] => []
 | x :: xs => Trm.asg x ++ Trm.asgs xs
end
def refT (v : Int) : Trm := .mk 1 v [] []
def boxT (t : Trm) : Trm := .mk 15 0 [] [t]
def lamV (A : Int → Bool) : List Int → Int → List Int
 | [], _ => []
 | x :: xs, k => if A x = true then k :: lamV A xs (k + 1) else x :: lamV A xs k
def lamT (A : Int → Bool) : List Int → Int → List Trm
 | [], _ => []
 | x :: xs, k => if A x = true then boxT (refT k) :: lamT A xs (k + 1) else lamT A xs k
def lamN (A : Int → Bool) (l : List Int) : Int := ((l.filter A).length : Int)
def boxAll (A : Int → Bool) : List Int → List Trm → List Trm
 | v :: vs, x :: xs => (if A v = true then boxT x else x) :: boxAll A vs xs
 | _, l => l
def fixT (A : Int → Bool) : List Int → List Trm → List Trm
 | v :: vs, x :: xs => if A v = true then fixT A vs xs else x :: fixT A vs xs
 | _, _ => []
def fixO (A : Int → Bool) : List Int → List Trm → Trm → Trm
 | v :: vs, x :: xs, o => if A v = true then .mk 6 0 [] [.mk 17 0 [] [refT v, x], fixO A vs xs o] else fixO A vs xs o
 | _, _, o => o
def fixE (A : Int → Bool) (vs : List Int) (l : List Trm) : Trm :=
 let o := fixO A vs l (l.getD vs.length (refT 0))
 if vs.filter (fun v => !A v) = [] then o else .mk 9 0 (vs.filter fun v => !A v) (fixT A vs l ++ [o])
def fixR (A : Int → Bool) (vs : List Int) (l : List Trm) : Trm :=
 .mk 8 0 (vs.filter A) ((vs.filter A).map (fun _ => boxT (.mk 13 0 [] [])) ++ [fixE A vs l])
mutual
def Trm.fr (A : Int → Bool) : Trm → Int
 | .mk op _ v t => (if op = 4 then lamN A v else 0) + Trm.frs A t
def Trm.frs (A : Int → Bool) : List Trm → Int
 | [] => 0
 | x :: xs => Trm.fr A x + Trm.frs A xs
end
mutual
def Trm.cv (A : Int → Bool) : Trm → Int → Trm
 | .mk op n v t, k =>
  if op = 1 ∧ A n = true then .mk 16 0 [] [.mk op n v t]
  else if op = 2 then .mk 17 0 [] (refT n :: Trm.cvs A t k)
  else if op = 14 then .mk 18 0 [] (refT n :: Trm.cvs A t k)
  else if op = 4 then .mk 4 n (lamV A v k) (if v.filter A = [] then Trm.cvs A t (k + lamN A v) else [.mk 8 0 (v.filter A) (lamT A v k ++ Trm.cvs A t (k + lamN A v))])
  else if op = 9 ∧ v.any A = true then fixR A v (Trm.cvs A t k)
  else .mk op n v (if op = 8 then boxAll A v (Trm.cvs A t k) else Trm.cvs A t k)
def Trm.cvs (A : Int → Bool) : List Trm → Int → List Trm
 | [], _ => []
 | x :: xs, k => Trm.cv A x k :: Trm.cvs A xs (k + Trm.fr A x)
end
mutual
def Trm.shp : Trm → Prop
 | .mk op n v t => ((op = 1 → v = [] ∧ t = []) ∧ (op = 2 ∨ op = 14 ∨ op = 4 → t.length = 1) ∧ (op = 8 ∨ op = 9 → t.length = v.length + 1) ∧ (op = 9 → n = 0)) ∧ Trm.shps t
def Trm.shps : List Trm → Prop
 | [] => True
 | x :: xs => Trm.shp x ∧ Trm.shps xs
end
mutual
def Trm.nam : Trm → List Int
 | .mk op n v t => (if op = 1 then [n] else []) ++ v ++ Trm.nams t
def Trm.nams : List Trm → List Int
 | [] => []
 | x :: xs => Trm.nam x ++ Trm.nams xs
end
def Trm.sz (l : List Trm) : Int := Trm.cnts l
theorem Trm.cnts_append : ∀ l m : List Trm, Trm.cnts (l ++ m) = Trm.cnts l + Trm.cnts m
 | [], m => by simp [Trm.cnts]
 | x :: l, m => by rw [List.cons_append, Trm.cnts, Trm.cnts, Trm.cnts_append l m]; omega
theorem boxT_cnt (t : Trm) : (boxT t).cnt = 1 + t.cnt := by rw [boxT, Trm.cnt, Trm.cnts, Trm.cnts]; omega
def Szs : List Trm → List Trm → Prop
 | [], [] => True
 | x :: l, y :: m => x.cnt = y.cnt ∧ Szs l m
 | _, _ => False
theorem Szs.cnts : ∀ {l m : List Trm}, Szs l m → Trm.cnts l = Trm.cnts m
 | [], [], _ => rfl
 | x :: l, y :: m, h => by rw [Trm.cnts, Trm.cnts, h.1, h.2.cnts]
 | [], _ :: _, h => h.elim
 | _ :: _, [], h => h.elim
theorem Szs.getD : ∀ {l m : List Trm} (i : Nat) (d : Trm), Szs l m → (l.getD i d).cnt = (m.getD i d).cnt
 | [], [], _, _, _ => rfl
 | x :: l, y :: m, 0, d, h => by simpa using h.1
 | x :: l, y :: m, i + 1, d, h => by simpa using h.2.getD i d
 | [], _ :: _, _, _, h => h.elim
 | _ :: _, [], _, _, h => h.elim
theorem Szs.boxAll (A : Int → Bool) : ∀ (vs : List Int) {l m : List Trm}, Szs l m → Szs (boxAll A vs l) (boxAll A vs m)
 | [], l, m, h => by simpa [Go.Cb.boxAll] using h
 | _ :: _, [], [], h => by simp [Go.Cb.boxAll, Szs]
 | v :: vs, x :: l, y :: m, h => by
  rw [Go.Cb.boxAll, Go.Cb.boxAll]
  refine ⟨?_, h.2.boxAll A vs⟩
  split
  ·rw [boxT_cnt, boxT_cnt, h.1]
  ·exact h.1
 | _ :: _, [], _ :: _, h => h.elim
 | _ :: _, _ :: _, [], h => h.elim
theorem Szs.fixT (A : Int → Bool) : ∀ (vs : List Int) {l m : List Trm}, Szs l m → Szs (fixT A vs l) (fixT A vs m)
 | [], l, m, h => by simp [Go.Cb.fixT, Szs]
 | _ :: _, [], [], h => by simp [Go.Cb.fixT, Szs]
 | v :: vs, x :: l, y :: m, h => by
  rw [Go.Cb.fixT, Go.Cb.fixT]
  split
  ·exact h.2.fixT A vs
  ·exact ⟨h.1, h.2.fixT A vs⟩
 | _ :: _, [], _ :: _, h => h.elim
 | _ :: _, _ :: _, [], h => h.elim
theorem Szs.fixO (A : Int → Bool) : ∀ (vs : List Int) {l m : List Trm} {o u : Trm}, Szs l m → o.cnt = u.cnt → (fixO A vs l o).cnt = (fixO A vs m u).cnt
 | [], l, m, o, u, h, ho => by simpa [Go.Cb.fixO] using ho
 | _ :: _, [], [], o, u, h, ho => by simpa [Go.Cb.fixO] using ho
 | v :: vs, x :: l, y :: m, o, u, h, ho => by
  rw [Go.Cb.fixO, Go.Cb.fixO]
  have ih := h.2.fixO A vs ho
  split
  ·simp only [Trm.cnt, Trm.cnts, h.1, ih]
  ·exact ih
 | _ :: _, [], _ :: _, _, _, h, _ => h.elim
 | _ :: _, _ :: _, [], _, _, h, _ => h.elim
theorem Szs.fixR (A : Int → Bool) (vs : List Int) {l m : List Trm} (h : Szs l m) : (fixR A vs l).cnt = (fixR A vs m).cnt := by
 have ho := h.fixO A vs (h.getD vs.length (refT 0))
 have ht := (h.fixT A vs).cnts
 unfold Go.Cb.fixR fixE
 simp only
 split
 ·simp only [Trm.cnt, Trm.cnts_append, Trm.cnts, ho]
 ·simp only [Trm.cnt, Trm.cnts_append, Trm.cnts, ho, ht]
section
variable {A B : Int → Bool} {s : Int} (hAB : ∀ v, B (v + s) = A v)
include hAB
end
end Go.Cb
namespace Go.Cb
open Go.Proofs
set_option maxRecDepth 100000
set_option maxHeartbeats 4000000
mutual
def Trm.uC (P : Int → Int → Bool) : Trm → Int → Int
 | .mk op n _ t, deep => (if P op n = true then 1 else 0) + (if deep < 1000 then Trm.uCs P t (deep + 1) else 0)
def Trm.uCs (P : Int → Int → Bool) : List Trm → Int → Int
 | [], _ => 0
 | x :: xs, deep => Trm.uC P x deep + Trm.uCs P xs deep
end
def putI (l : List Int) (v : Int) : List Int := l.takeWhile (fun x => decide (x < v)) ++ (if (l.dropWhile fun x => decide (x < v)).head? = some v then l.dropWhile (fun x => decide (x < v)) else v :: l.dropWhile fun x => decide (x < v))
mutual
def Trm.bD : Trm → Int → List Int → List Int
 | .mk _ _ v t, deep, out => if deep < 1000 then Trm.bDs t (deep + 1) (v.foldl putI out) else v.foldl putI out
def Trm.bDs : List Trm → Int → List Int → List Int
 | [], _, out => out
 | x :: xs, deep, out => Trm.bDs xs deep (Trm.bD x deep out)
end
end Go.Cb
namespace Go.Cb
open Go.Proofs
set_option maxRecDepth 100000
set_option maxHeartbeats 4000000
mutual
def Trm.alk : Trm → Trm → Bool
 | .mk op n v t, .mk op' n' v' t' => op == op' && n == n' && v == v' && Trm.alks t t'
def Trm.alks : List Trm → List Trm → Bool
 | [], [] => true
 | x :: xs, y :: ys => Trm.alk x y && Trm.alks xs ys
 | _, _ => false
end
mutual
def Datum.alk : Datum → Datum → Bool
 | .mk k n d s l, .mk k' n' d' s' l' => k == k' && n == n' && d == d' && s == s' && Datum.alks l l'
def Datum.alks : List Datum → List Datum → Bool
 | [], [] => true
 | x :: xs, y :: ys => Datum.alk x y && Datum.alks xs ys
 | _, _ => false
end
def Prog.same (p q : Prog) : Bool := Datum.alks p.consts q.consts && p.body.alk q.body
end Go.Cb
namespace Go.Cb
open Go.Proofs
set_option maxRecDepth 100000
set_option maxHeartbeats 4000000
def rkD (p : Prog) : Bool := checkD p 0 == 0
abbrev resPV (r : RsO) : PV := .tup [.agg r.p.cells, .int .i64 r.e]
theorem Shift.ofGhostR {x : PV} {Γ Γ' : List Ent} (g : Ghost Γ Γ') : Shift x Γ x Γ' := fun w0 F M w v hS hx => by
 obtain ⟨F', e, h⟩ := g w0 F M w hS
 exact ⟨F', e, h, Rep.mono e _ _ hx⟩
theorem Ghost.nilRowD (Γ : List Ent) : Ghost Γ (.row (nilTok 5 24) (([] : List Datum).map Datum.pv) :: Γ) := Ghost.nilRow _ _ _
end Go.Cb
namespace Go.Cb
open Go.Proofs
set_option maxRecDepth 100000
set_option maxHeartbeats 4000000
def rkP (p : Prog) : Bool := checkP p 0 == 0
theorem rootP_c (b : Nat) (d : Datum) (hs : d.sz ≤ 100000000) (hp : d.pr = true) (hc : corF d.sz d = true) :
  ACall Tryz.prog 29 [.ptr b 0, .agg d.cells, .np] (rsE b (nilTok 5 24) ⟨[], 0, false⟩)
   (fun y Γ' => ∃ tk, y = .agg (TF 0 d.sz d [] ⟨[], 0, false⟩).1.cells ∧ Γ' = [.box b [.sl 5 ((TF 0 d.sz d [] ⟨[], 0, false⟩).2.cs.map Datum.pv) none, .int .i64 (TF 0 d.sz d [] ⟨[], 0, false⟩).2.vars, .bool (TF 0 d.sz d [] ⟨[], 0, false⟩).2.lost], .tok tk]) :=
 (termAllP_c b d.sz hs d hp (Nat.le_refl _) hc (nilTok 5 24) [] ⟨[], 0, false⟩ rfl rfl ⟨by simp, by simp; omega, by simp; omega⟩).2.shift fun y Γ' hq => by
  obtain ⟨tk', e, s, hy, hΓ⟩ := hq
  generalize TF 0 d.sz d [] ⟨[], 0, false⟩ = r at *
  subst hy hΓ
  exact ⟨_, _, Shift.ofGhostR (Ghost.freezeRow (t := tk') (es := r.2.cs.map Datum.pv) (b := b) (cs := [.ms tk', .int .i64 r.2.vars, .bool r.2.lost]) (cs' := [.sl 5 (r.2.cs.map Datum.pv) none, .int .i64 r.2.vars, .bool r.2.lost]) (.cons (WkF.ms' s) (.cons (WkF.of (Wk.refl _)) (.cons (WkF.of (Wk.refl _)) .nil)))), tk', rfl, rfl⟩
theorem drSco07faa {p q : Prop} (k : q) (h : q → p := by intro hq; first | exact PDraw.sP (some 21) rfl [6] [7] tt_ok mixed hq) : p := h k
theorem resolveP_c (d : Datum) (hs : d.sz ≤ 100000000) : ACallP Tryz.prog 11 [.agg d.cells] (resPV (resF rkP 0 d)) := by
 have hC := CoreS_c d (by omega)
 have hR : resF rkP 0 d = resF rkP 0 d := rfl
 conv at hR => rhs; unfold resF; dsimp only
 generalize resF rkP 0 d = O at *
 cases hc : coreD d with
 | false =>
  rw [hc] at hC
  rw [if_pos hc] at hR
  rw [hR]
  refine ACall.of_body tt_ok Tryz.func11 rfl rfl (n := 32) rfl rfl ?_
  conv => whnf
  repeat' (first|refine aA2 ?_|((first|refine pC (hC) wR ?_|intro _);conv=>whnf)|(refine zX (fun hc=>?_) (fun hc=>?_)<;>(try simp only [SY] at hc)<;>(conv=>whnf)))
  exact PRet.pure wA
 | true =>
  rw [hc] at hC
  rw [if_neg (by rw [hc]; simp)] at hR
  have hcd := hc
  unfold coreD at hcd
  rw [Bool.and_eq_true] at hcd
  have hp := rightD_pr d 0 hcd.1
  have hgo := TF_go 0 d.sz d hp [] ⟨[], 0, false⟩
  have hroot := fun b => rootP_c b d hs hp hcd.2
  generalize TF 0 d.sz d [] ⟨[], 0, false⟩ = r at *
  obtain ⟨t, s⟩ := r
  dsimp only at hgo hroot hR
  have hck := checkp_c ⟨s.cs, t⟩ 0 (by show t.bulk ≤ _; omega) (by have := hgo.1.2.2; dsimp only at this ⊢; simp at this; omega)
  have hok : rkP ⟨s.cs, t⟩ = (checkP ⟨s.cs, t⟩ 0 == 0) := rfl
  generalize checkP ⟨s.cs, t⟩ 0 = ck at *
  refine ACall.of_body tt_ok Tryz.func11 rfl rfl (n := 32) rfl rfl ?_
  conv => whnf
  repeat' (first|refine aA2 ?_|((first|refine pC (hC) wR ?_|intro _);conv=>whnf)|(refine zX (fun hc=>?_) (fun hc=>?_)<;>(try simp only [SY] at hc)<;>(conv=>whnf)))
  rename_i b1 b2 b4
  refine PCall.goG (Ghost.trans (Ghost.nilRowD _) (Ghost.box (b := b4) (cs := [.nil, .int .i64 0, .bfalse]) (cs' := [.ms (nilTok 5 24), .int .i64 0, .bool false]) (.cons (Wk.nilRow 5 24) (.cons (Wk.refl _) (.cons (Wk.ff rfl) .nil))))) (hroot b4) (.cons (Wk.refl _) (.cons (Wk.refl _) (.cons (Wk.refl _) .nil))) ?_
  rintro _ _ ⟨tk, rfl, rfl⟩
  conv => whnf
  repeat' (first|refine aA2 ?_|((first|refine pC (hck) wR ?_|refine drSco07faa ?_|intro _);conv=>whnf)|(refine zX (fun hc=>?_) (fun hc=>?_)<;>(try simp only [SY] at hc)<;>(conv=>whnf)))
  ·rw [if_pos hc] at hR
   rw [hR]
   exact PRet.pure wA
  ·have hl : s.lost = false := ‹s.lost = false›
   rw [if_neg (by rw [hl]; simp), hok, if_pos (by simpa using hc)] at hR
   rw [hR]
   exact PRet.pure wA
  ·have hl : s.lost = false := ‹s.lost = false›
   rw [if_neg (by rw [hl]; simp), hok, if_neg (by simp [hc])] at hR
   rw [hR]
   exact PRet.pure (Wk.refl _)
theorem rkP_rkD : rkP = rkD := funext fun p => by unfold rkP rkD; rw [check_eq]
theorem resolveP_d (d : Datum) (hs : d.sz ≤ 100000000) : ACallP Tryz.prog 11 [.agg d.cells] (resPV (resF rkD (-1) d)) := by
 rw [← rkP_rkD, resF_same rkP (-1) 0 d]
 exact resolveP_c d hs
end Go.Cb
namespace Go.Cb
open Go.Proofs
set_option maxRecDepth 100000
set_option maxHeartbeats 4000000
theorem PAppend.litD {l m : List Datum} {es es2 : List PV} {by_ : Nat} {e : TypeId} {tk : Option Tok} {t : Tok} {Γ : List Ent} {put : Tok → List Ent} [hp : PickTok Γ t put] [hm : RowOf Datum.pv es2 m] {K : PV → List Ent → Prop} (hes : es = l.map Datum.pv) (he : t.e = e)
  (hb : Nat.ble by_ 4096 = true) (h1 : l.length + m.length ≤ 34359738368)
  (k : ∀ t' : Tok, t'.e = e → K (.sl 5 ((l ++ m).map Datum.pv) (some t')) (put t')) : PAppend 5 by_ e (.sl 5 es (some t)) (.sl 5 es2 tk) Γ K := by
 subst hes
 exact PAppend.more he hb h1 k
def Grow (k : Nat) (s s' : MkS) : Prop := s.n ≤ s'.n ∧ s'.n ≤ s.n + k
theorem Grow.refl (k : Nat) (s : MkS) : Grow k s s := ⟨Int.le_refl _, by omega⟩
theorem Grow.trans {j k : Nat} {s s' s2 : MkS} (h : Grow j s s') (h2 : Grow k s' s2) : Grow (j + k) s s2 := by unfold Grow at *; omega
theorem Grow.mono {j k : Nat} {s s' : MkS} (h : Grow j s s') (hk : j ≤ k) : Grow k s s' := by unfold Grow at *; omega
theorem Grow.fail (k : Nat) (s : MkS) : Grow k s (failM s).2 := ⟨Int.le_refl _, by show s.n ≤ s.n + k; omega⟩
theorem Grow.frs (k : Nat) (s : MkS) : Grow (k + 1) s (frsM s).2 := ⟨by show s.n ≤ s.n + 1; omega, by show s.n + 1 ≤ s.n + ((k + 1 : Nat) : Int); omega⟩
def ExOk (b : Nat) (ex : Datum → MkS → MkR) (x : Datum) : Prop := ∀ s : MkS, 0 ≤ s.n → s.n + x.sz ≤ 1000000000000 → Grow x.sz s (ex x s).2 ∧
 ACall Tryz.prog 121 [.ptr b 0, .agg x.cells] [mkE b s] (fun y Γ' => y = .agg (ex x s).1.cells ∧ Γ' = [mkE b (ex x s).2])
def BdOk (b : Nat) (bd : List Datum → MkS → MkR) (l : List Datum) : Prop := ∀ s : MkS, 0 ≤ s.n → s.n + Datum.szs l ≤ 1000000000000 → Grow (Datum.szs l) s (bd l s).2 ∧
 ACall Tryz.prog 69 [.ptr b 0, .sl 5 (l.map Datum.pv) none] [mkE b s] (fun y Γ' => y = .agg (bd l s).1.cells ∧ Γ' = [mkE b (bd l s).2])
theorem allM_grow {b : Nat} {ex : Datum → MkS → MkR} : ∀ {l : List Datum}, (∀ x ∈ l, ExOk b ex x) → ∀ s : MkS, 0 ≤ s.n → s.n + Datum.szs l ≤ 1000000000000 → Grow (Datum.szs l) s (allM ex l s).2
 | [], _, s, _, _ => Grow.refl _ s
 | x :: l, h, s, h0, h1 => by
  rw [Datum.szs] at h1 ⊢
  have g1 := (h x (by simp) s h0 (by omega)).1
  have g2 := allM_grow (l := l) (fun y hy => h y (List.mem_cons_of_mem _ hy)) (ex x s).2 (by unfold Grow at g1; omega) (by unfold Grow at g1; omega)
  exact g1.trans g2
theorem allM_len {ex : Datum → MkS → MkR} : ∀ (l : List Datum) (s : MkS), (allM ex l s).1.length = l.length
 | [], s => rfl
 | x :: l, s => by show (allM ex l (ex x s).2).1.length + 1 = _; rw [allM_len l]; rfl
theorem all04_c (b : Nat) (ex : Datum → MkS → MkR) (l : List Datum) (hx : ∀ x ∈ l, ExOk b ex x) (hl : l.length ≤ 1000000000) (s : MkS) (h0 : 0 ≤ s.n) (h1 : s.n + Datum.szs l ≤ 1000000000000) :
  ACall Tryz.prog 149 [.ptr b 0, .sl 5 (l.map Datum.pv) none] [mkE b s] (fun y Γ' => y = .sl 5 ((allM ex l s).1.map Datum.pv) none ∧ Γ' = [mkE b (allM ex l s).2]) := by
 generalize hR : allM ex l s = R
 refine ACall.of_body tt_ok Tryz.func149 rfl rfl (n := 23) rfl rfl ?_
 conv => whnf
 skip
 refine PLoop.gh (Ghost.nil 5 24 _) ?_
 refine PLoop.over [5, 6, 7, 8, 9, 10, 11, 12, 13, 14, 15, 16, 17, 18, 19, 20, 21] (fun x : Nat × List Datum × Tok × MkS => [(5, .sl 5 (x.2.1.map Datum.pv) (some x.2.2.1)), (6, .int .i64 x.1)]) (fun x : Nat × List Datum × Tok × MkS => [.tok x.2.2.1, mkE b x.2.2.2])
  (fun x => x.1 ≤ l.length ∧ x.2.1.length = x.1 ∧ x.2.2.1.e = 24 ∧ (0 ≤ x.2.2.2.n ∧ x.2.2.2.n + Datum.szs (l.drop x.1) ≤ 1000000000000) ∧ R = (x.2.1 ++ (allM ex (l.drop x.1) x.2.2.2).1, (allM ex (l.drop x.1) x.2.2.2).2)) (fun x => l.length - x.1) (0, [], nilTok 5 24, s) ⟨Nat.zero_le _, rfl, rfl, ⟨h0, h1⟩, hR.symm⟩ wA ?_
 rintro ⟨i, m, tk, s1⟩ ⟨hi, hml, htk, hn, he⟩
 dsimp only at hi hml htk hn he ⊢
 conv => whnf
 repeat' (first|refine aA2 ?_|((intro _);conv=>whnf)|(refine zX (fun hc=>?_) (fun hc=>?_)<;>(try simp only [SY] at hc)<;>(conv=>whnf)))
 ·have hlt : i < l.length := by omega
  rw [drop_at hlt, Datum.szs] at hn
  rw [drop_at hlt, allM] at he
  obtain ⟨g, hc1⟩ := hx _ (List.getElem_mem hlt) s1 hn.1 (by omega)
  refine PCall.go hc1 (WkT.refl _) ?_
  rintro _ _ ⟨rfl, rfl⟩
  conv => whnf
  repeat' (first|refine aA2 ?_|((intro _);conv=>whnf)|(refine zX (fun hc=>?_) (fun hc=>?_)<;>(try simp only [SY] at hc)<;>omega))
  rename_i t2 ht2
  refine loopTo (i + 1, m ++ [(ex l[i] s1).1], t2, (ex l[i] s1).2) ⟨by show i + 1 ≤ _; omega, by simp; omega, ht2, by unfold Grow at g; dsimp only; omega, ?_⟩ (by show l.length - (i + 1) < l.length - i; omega) wA
  dsimp only
  rw [he, List.append_assoc]
  rfl
 ·rw [List.drop_of_length_le (by omega), allM, List.append_nil] at he
  rw [he]
  exact PRet.gen (y := .sl 5 (m.map Datum.pv) none) (Γ' := [mkE b s1]) (Wk.tok _ _ _) (And.intro rfl rfl)
theorem begin04_c (b : Nat) (ex : Datum → MkS → MkR) (l : List Datum) (hx : ∀ x ∈ l, ExOk b ex x) (hl : l.length ≤ 1000000000) (s : MkS) (h0 : 0 ≤ s.n) (h1 : s.n + Datum.szs l ≤ 1000000000000) :
  ACall Tryz.prog 122 [.ptr b 0, .sl 5 (l.map Datum.pv) none] [mkE b s] (fun y Γ' => y = .agg (begM ex l s).1.cells ∧ Γ' = [mkE b (begM ex l s).2]) := by
 have hB : begM ex l s = begM ex l s := rfl
 conv at hB => rhs; unfold begM
 refine ACall.of_body tt_ok Tryz.func122 rfl rfl (n := 17) rfl rfl ?_
 conv => whnf
 repeat' (first|refine aA2 ?_|((first|refine pC (sym04_c _) wR ?_|intro _);conv=>whnf)|(refine zX (fun hc=>?_) (fun hc=>?_)<;>(try simp only [SY] at hc)<;>(conv=>whnf)))
 ·rw [if_pos (List.eq_nil_of_length_eq_zero (by omega))] at hB
  refine PCall.go (failM_c b s) (WkT.refl _) ?_
  rintro _ _ ⟨rfl, rfl⟩
  conv => whnf
  repeat' (first|refine aA2 ?_|(refine zX (fun hc=>?_) (fun hc=>?_)<;>(try simp only [SY] at hc)<;>omega))
  rw [hB]
  exact PRet.gen (y := .agg (failM s).1.cells) (Γ' := [mkE b (failM s).2]) (Wk.refl _) (And.intro rfl rfl)
 ·rw [if_neg (fun h => by rw [h] at hc; simp at hc)] at hB
  refine PCall.go (all04_c b ex l hx hl s h0 h1) (WkT.refl _) ?_
  rintro _ _ ⟨rfl, rfl⟩
  have hr := allM_len (ex := ex) l s
  generalize allM ex l s = r at *
  conv => whnf
  skip
  refine PAppend.litD (l := [symD kwBegin]) rfl (by assumption) rfl (by simp; omega) ?_
  intro t2 ht2
  conv => whnf
  repeat' (first|refine aA2 ?_|((refine pC (list04_c) wR ?_);conv=>whnf)|(refine zX (fun hc=>?_) (fun hc=>?_)<;>(try simp only [SY] at hc)<;>omega))
  rw [hB]
  exact PRet.gen (y := .agg (listD (symD kwBegin :: r.1)).cells) (Γ' := [mkE b r.2]) (Wk.refl _) (And.intro rfl rfl)
end Go.Cb
namespace Go.Cb
open Go.Proofs
set_option maxRecDepth 100000
set_option maxHeartbeats 4000000
theorem drExp04caa {p q : Prop} (k : q) (h : q → p := by intro hq; first | exact PDraw.sP (some 9) rfl [] [9,10,11,12] tt_ok mixed hq) : p := h k
theorem bound04_c (b : Nat) (ex : Datum → MkS → MkR) (x body a : Datum) (hx : ExOk b ex a) (s : MkS) (h0 : 0 ≤ s.n) (h1 : s.n + a.sz ≤ 1000000000000) :
  ACall Tryz.prog 180 [.ptr b 0, .agg x.cells, .agg body.cells, .agg a.cells] [mkE b s] (fun y Γ' => y = .agg (bndM ex x body a s).1.cells ∧ Γ' = [mkE b (bndM ex x body a s).2]) := by
 obtain ⟨g, hc1⟩ := hx s h0 h1
 refine ACall.of_body tt_ok Tryz.func180 rfl rfl (n := 21) rfl rfl ?_
 conv => whnf
 repeat (first|refine aR2 ?_|((first|((apply zZ);(conv=>whnf);(repeat ((first|refine pC (sym04_c _) wR ?_|refine pC (list04_c) wR ?_);conv=>whnf));exact pZ)|refine drExp04caa ?_|intro _);conv=>whnf))
 rename_i b5 b6 b7 b8
 refine PCall.go hc1 (WkT.refl _) ?_
 rintro _ _ ⟨rfl, rfl⟩
 conv => whnf
 repeat' (first|refine aA2 ?_|((first|refine pC (list04_c) wR ?_|intro _);conv=>whnf)|(refine zX (fun hc=>?_) (fun hc=>?_)<;>(try simp only [SY] at hc)<;>omega))
 exact PRet.gen (y := .agg (listD [listD [symD kwLambda, listD [x], body], (ex a s).1]).cells) (Γ' := [mkE b (ex a s).2]) (Wk.refl _) (And.intro rfl rfl)
theorem lambda04_c (b : Nat) (bd : List Datum → MkS → MkR) (f : Datum) (l : List Datum) (hf : f.pr = true) (hfs : f.sz ≤ 1000000000) (hx : BdOk b bd l) (s : MkS) (h0 : 0 ≤ s.n) (h1 : s.n + Datum.szs l ≤ 1000000000000) :
  ACall Tryz.prog 173 [.ptr b 0, .agg f.cells, .sl 5 (l.map Datum.pv) none] [mkE b s] (fun y Γ' => y = .agg (lamM bd f l s).1.cells ∧ Γ' = [mkE b (lamM bd f l s).2]) := by
 obtain ⟨g, hc1⟩ := hx s h0 h1
 have hL : lamM bd f l s = lamM bd f l s := rfl
 conv at hL => rhs; unfold lamM
 refine ACall.of_body tt_ok Tryz.func173 rfl rfl (n := 19) rfl rfl ?_
 conv => whnf
 repeat' (first|refine aA2 ?_|((first|refine pC (formals04_c f hf hfs) wR ?_|intro _);conv=>whnf)|(refine zX (fun hc=>?_) (fun hc=>?_)<;>(try simp only [SY] at hc)<;>(conv=>whnf)))
 ·rw [if_pos hc] at hL
  refine PCall.go (failM_c b s) (WkT.refl _) ?_
  rintro _ _ ⟨rfl, rfl⟩
  conv => whnf
  repeat' (first|refine aA2 ?_|(refine zX (fun hc=>?_) (fun hc=>?_)<;>(try simp only [SY] at hc)<;>omega))
  rw [hL]
  exact PRet.gen (y := .agg (failM s).1.cells) (Γ' := [mkE b (failM s).2]) (Wk.refl _) (And.intro rfl rfl)
 ·rw [if_neg (by rw [hc]; simp)] at hL
  refine PDraw.sE [mkE b s] [4] [5,6,7] tt_ok mixed ?_
  conv=>whnf
  repeat (first|refine aR2 ?_|((((apply zZ);(conv=>whnf);(repeat ((refine pC (sym04_c _) wR ?_);conv=>whnf));exact pZ));conv=>whnf))
  refine PCall.go hc1 (WkT.refl _) ?_
  rintro _ _ ⟨rfl, rfl⟩
  conv => whnf
  repeat' (first|refine aA2 ?_|((first|refine pC (list04_c) wR ?_|intro _);conv=>whnf)|(refine zX (fun hc=>?_) (fun hc=>?_)<;>(try simp only [SY] at hc)<;>omega))
  rw [hL]
  exact PRet.gen (y := .agg (listD [symD kwLambda, f, (bd l s).1]).cells) (Γ' := [mkE b (bd l s).2]) (Wk.refl _) (And.intro rfl rfl)
theorem drExp04cab {p q : Prop} (k : q) (h : q → p := by intro hq; first | exact PDraw.sP (some 13) rfl [] [12,13] tt_ok mixed hq) : p := h k
theorem pairs04_c (l : List (Datum × Datum)) (hl : l.length ≤ 1000000000) : ACallP Tryz.prog 123 [.sl 5 ((l.map Prod.fst).map Datum.pv) none, .sl 5 ((l.map Prod.snd).map Datum.pv) none] (.agg (pairsD l).cells) := by
 have h1 : (l.map Prod.fst).length = l.length := List.length_map _
 have h2 : (l.map Prod.snd).length = l.length := List.length_map _
 refine ACall.of_body tt_ok Tryz.func123 rfl rfl (n := 28) rfl rfl ?_
 conv => whnf
 repeat' (first|((intro _);conv=>whnf)|(refine zX (fun hc=>?_) (fun hc=>?_)<;>(try simp only [SY] at hc)<;>omega))
 rename_i b2
 refine PLoop.gh (Ghost.nil 5 24 _) ?_
 refine PLoop.over [5, 6, 7, 8, 9, 10, 11, 12, 13, 14, 15, 16, 17, 18, 19, 20, 21, 22, 23, 24, 25] (fun x : Nat × List Datum × Tok => [(5, .sl 5 (x.2.1.map Datum.pv) (some x.2.2)), (6, .int .i64 x.1)]) (fun x : Nat × List Datum × Tok => [resE b2, .tok x.2.2])
  (fun x => x.1 ≤ l.length ∧ x.2.2.e = 24 ∧ x.2.1 = (l.take x.1).map fun p => listD [p.1, p.2]) (fun x => l.length - x.1) (0, [], nilTok 5 24) ⟨Nat.zero_le _, rfl, rfl⟩ wA ?_
 rintro ⟨i, m, tk⟩ ⟨hi, htk, hm⟩
 dsimp only at hi htk hm ⊢
 have hml : m.length = i := by rw [hm]; simp; omega
 conv => whnf
 repeat' (first|refine aA2 ?_|((first|((apply zZ);(conv=>whnf);(repeat ((refine pC (list04_c) wR ?_);conv=>whnf));exact pZ)|refine pC (list04_c) wR ?_|refine drExp04cab ?_|intro _);conv=>whnf)|(refine zX (fun hc=>?_) (fun hc=>?_)<;>(try simp only [SY] at hc)<;>(conv=>whnf)))
 ·rename_i tx tb htb
  have hlt : i < l.length := by omega
  refine loopTo (i + 1, m ++ [listD [(l.map Prod.fst)[i]'(by omega), (l.map Prod.snd)[i]'(by omega)]], tb) ⟨by show i + 1 ≤ _; omega, htb, ?_⟩ (by show l.length - (i + 1) < l.length - i; omega) wA
  refine Eq.trans (congrArg (fun z => z ++ _) hm) ?_
  rw [List.take_succ_eq_append_getElem hlt, List.map_append]
  simp
 ·rw [List.take_of_length_le (by omega)] at hm
  rw [show pairsD l = listD m by rw [hm]; rfl]
  exact PRet.pure (Wk.refl _)
theorem pairsZ_c (ns vs : List Datum) (hl : ns.length ≤ 1000000000) (he : ns.length = vs.length) : ACallP Tryz.prog 123 [.sl 5 (ns.map Datum.pv) none, .sl 5 (vs.map Datum.pv) none] (.agg (pairsD (ns.zip vs)).cells) := by
 have h := pairs04_c (ns.zip vs) (by rw [List.length_zip]; omega)
 rwa [List.map_fst_zip (by omega), List.map_snd_zip (by omega)] at h
theorem rec04_c (b : Nat) (ex : Datum → MkS → MkR) (bd : List Datum → MkS → MkR) (key : List UInt8) (d : Datum) (l : List Datum) (hp : d.pr = true) (hds : d.sz ≤ 1000000000) (hx : ∀ x : Datum, x.pr = true → x.sz ≤ d.sz → ExOk b ex x) (hb : BdOk b bd l) (s : MkS) (h0 : 0 ≤ s.n) (h1 : s.n + d.sz + Datum.szs l ≤ 1000000000000) :
  Grow (d.sz + Datum.szs l) s (recM ex bd key d l s).2 ∧ ACall Tryz.prog 174 [.ptr b 0, .str key, .agg d.cells, .sl 5 (l.map Datum.pv) none] [mkE b s] (fun y Γ' => y = .agg (recM ex bd key d l s).1.cells ∧ Γ' = [mkE b (recM ex bd key d l s).2]) := by
 have hL : recM ex bd key d l s = recM ex bd key d l s := rfl
 conv at hL => rhs; unfold recM
 cases hB : bindsD d with
 | none =>
  rw [hB] at hL
  dsimp only at hL
  rw [hL]
  refine ⟨Grow.fail _ s, ?_⟩
  have hbn := bindings04_c d hp hds
  rw [hB] at hbn
  refine ACall.of_body tt_ok Tryz.func174 rfl rfl (n := 41) rfl rfl ?_
  conv => whnf
  repeat' (first|refine aA2 ?_|((intro _);conv=>whnf)|(refine zX (fun hc=>?_) (fun hc=>?_)<;>(try simp only [SY] at hc)<;>omega))
  refine PCall.go (Γ1 := []) hbn (WkT.refl _) ?_
  rintro _ _ ⟨rfl, rfl⟩
  conv => whnf
  repeat' (first|refine aA2 ?_|(refine zX (fun hc=>?_) (fun hc=>?_)<;>(try simp only [SY] at hc)<;>omega))
  refine PGuard.ways (fun hg => by simp at hg) (fun hg => ?_)
  conv => whnf
  skip
  refine PCall.go (failM_c b s) (WkT.refl _) ?_
  rintro _ _ ⟨rfl, rfl⟩
  conv => whnf
  repeat' (first|refine aA2 ?_|(refine zX (fun hc=>?_) (fun hc=>?_)<;>(try simp only [SY] at hc)<;>omega))
  exact PRet.gen (y := .agg (failM s).1.cells) (Γ' := [mkE b (failM s).2]) (Wk.refl _) (And.intro rfl rfl)
 | some L =>
  rw [hB] at hL
  dsimp only at hL
  obtain ⟨hz, hpp⟩ := bindsD_sz hp hB
  have hl1 : (L.map Prod.fst).length ≤ 1000000000 := by rw [List.length_map]; omega
  have hl2 : (L.map Prod.snd).length ≤ 1000000000 := by rw [List.length_map]; omega
  have hxs : ∀ x ∈ L.map Prod.snd, ExOk b ex x := fun x hx' => by
   have h3 := Datum.szs_mem hx'
   obtain ⟨p, hp', rfl⟩ := List.mem_map.1 hx'
   exact hx _ (hpp p hp').2 (by omega)
  have hbn := bindings04_c d hp hds
  rw [hB] at hbn
  have hal := allM_len (ex := ex) (L.map Prod.snd) s
  have hag := allM_grow (ex := ex) hxs s h0 (by omega)
  have hac := all04_c b ex (L.map Prod.snd) hxs hl2 s h0 (by omega)
  by_cases hd : distB (L.map Prod.fst) [] = false
  ·rw [if_pos hd] at hL
   rw [hL]
   refine ⟨Grow.fail _ s, ?_⟩
   have hdc := distinct04_c (L.map Prod.fst) hl1
   rw [hd] at hdc
   refine ACall.of_body tt_ok Tryz.func174 rfl rfl (n := 41) rfl rfl ?_
   conv => whnf
   repeat' (first|refine aA2 ?_|((intro _);conv=>whnf)|(refine zX (fun hc=>?_) (fun hc=>?_)<;>(try simp only [SY] at hc)<;>omega))
   refine PCall.go (Γ1 := []) hbn (WkT.refl _) ?_
   rintro _ _ ⟨tk, htk, rfl, rfl⟩
   conv => whnf
   repeat' (first|refine aA2 ?_|(((((apply zY;intro hg));(conv=>whnf);(repeat ((first|refine pC (hdc) wR ?_|refine aH ?_);conv=>whnf));exact pZ));conv=>whnf)|(refine zX (fun hc=>?_) (fun hc=>?_)<;>(try simp only [SY] at hc)<;>(conv=>whnf)))
   refine PCall.go (failM_c b s) (WkT.refl _) ?_
   rintro _ _ ⟨rfl, rfl⟩
   conv => whnf
   repeat' (first|refine aA2 ?_|(refine zX (fun hc=>?_) (fun hc=>?_)<;>(try simp only [SY] at hc)<;>omega))
   exact PRet.gen (y := .agg (failM s).1.cells) (Γ' := [mkE b (failM s).2]) (Wk.refl _) (And.intro rfl rfl)
  ·rw [if_neg hd] at hL
   have hd' : distB (L.map Prod.fst) [] = true := by simpa using hd
   have hdc := distinct04_c (L.map Prod.fst) hl1
   rw [hd'] at hdc
   generalize allM ex (L.map Prod.snd) s = r at *
   obtain ⟨g2, hbc⟩ := hb r.2 (by unfold Grow at hag; omega) (by unfold Grow at hag; omega)
   rw [hL]
   refine ⟨(hag.trans g2).mono (by omega), ?_⟩
   refine ACall.of_body tt_ok Tryz.func174 rfl rfl (n := 41) rfl rfl ?_
   conv => whnf
   repeat' (first|refine aA2 ?_|((intro _);conv=>whnf)|(refine zX (fun hc=>?_) (fun hc=>?_)<;>(try simp only [SY] at hc)<;>omega))
   refine PCall.go (Γ1 := []) hbn (WkT.refl _) ?_
   rintro _ _ ⟨tk, htk, rfl, rfl⟩
   conv => whnf
   repeat' (first|refine aA2 ?_|(((((apply zY;intro hg));(conv=>whnf);(repeat ((first|refine pC (hdc) wR ?_|refine aH ?_);conv=>whnf));exact pZ));conv=>whnf)|(refine zX (fun hc=>?_) (fun hc=>?_)<;>(try simp only [SY] at hc)<;>(conv=>whnf)))
   refine PCall.go hac (.cons (Wk.refl _) (.cons (Wk.tok _ _ _) .nil)) ?_
   rintro _ _ ⟨rfl, rfl⟩
   conv => whnf
   repeat' (first|((first|refine pC (sym04_c _) wR ?_|refine pC (pairsZ_c (L.map Prod.fst) r.1 hl1 (by rw [hal, List.length_map, List.length_map])) wR ?_);conv=>whnf)|(refine zX (fun hc=>?_) (fun hc=>?_)<;>(try simp only [SY] at hc)<;>omega))
   refine PCall.go hbc (WkT.refl _) ?_
   rintro _ _ ⟨rfl, rfl⟩
   conv => whnf
   repeat' (first|refine aA2 ?_|((first|refine pC (list04_c) wR ?_|intro _);conv=>whnf)|(refine zX (fun hc=>?_) (fun hc=>?_)<;>(try simp only [SY] at hc)<;>omega))
   exact PRet.gen (y := .agg (listD [symD key, pairsD ((L.map Prod.fst).zip r.1), (bd l r.2).1]).cells) (Γ' := [mkE b (bd l r.2).2]) (Wk.refl _) (And.intro rfl rfl)
end Go.Cb
namespace Go.Cb
open Go.Proofs
set_option maxRecDepth 100000
set_option maxHeartbeats 4000000
theorem listD_pr : ∀ {l : List Datum}, (∀ x ∈ l, x.pr = true) → (listD l).pr = true
 | [], _ => rfl
 | x :: l, h => by
  have h2 := listD_pr (l := l) fun y hy => h y (List.mem_cons_of_mem _ hy)
  rw [Datum.pr_eq]
  show (_ && Datum.prs [x, listD l]) = true
  rw [Datum.prs, Datum.prs, Datum.prs, h x (by simp), h2]
  rfl
theorem listD_szE : ∀ (l : List Datum), (listD l).sz = l.length + Datum.szs l + 1
 | [] => rfl
 | x :: l => by
  have h2 := listD_szE l
  show (pairD x (listD l)).sz = _
  rw [Datum.sz_eq]
  show 1 + Datum.szs [x, listD l] = _
  rw [Datum.szs, Datum.szs, Datum.szs, h2, Datum.szs, List.length_cons]
  omega
theorem its_list : ∀ (l : List Datum), (listD l).its = (l, nulD)
 | [] => by rw [show listD [] = nulD from rfl, Datum.its_end _ (by decide)]
 | x :: l => by
  have h := its_list l
  rw [Datum.its_pair (listD (x :: l)) rfl rfl]
  show (x :: (listD l).its.1, (listD l).its.2) = _
  rw [h]
theorem itemsB_list (l : List Datum) : itemsB (listD l) = true := by unfold itemsB; rw [its_list]; rfl
theorem bindsD_pairs (bs : List (Datum × Datum)) : bindsD (pairsD bs) = some bs := by
 unfold bindsD pairsD
 rw [itemsB_list, its_list, if_pos rfl]
 induction bs with
 | nil => rfl
 | cons p bs ih =>
  rw [List.map_cons, bindsF, ih, itemsB_list, its_list, if_pos ⟨rfl, rfl⟩]
  rfl
theorem pairsD_pr {bs : List (Datum × Datum)} (h : ∀ p ∈ bs, p.1.pr = true ∧ p.2.pr = true) : (pairsD bs).pr = true := by
 refine listD_pr fun x hx => ?_
 obtain ⟨p, hp, rfl⟩ := List.mem_map.1 hx
 exact listD_pr fun y hy => by
  rcases List.mem_cons.1 hy with rfl | hy
  ·exact (h p hp).1
  ·rw [List.mem_singleton] at hy; rw [hy]; exact (h p hp).2
theorem pairsD_sz (bs : List (Datum × Datum)) : (pairsD bs).sz = Datum.szs (bs.map Prod.fst) + Datum.szs (bs.map Prod.snd) + 4 * bs.length + 1 := by
 unfold pairsD
 rw [listD_szE]
 induction bs with
 | nil => rfl
 | cons p bs ih =>
  simp only [List.map_cons, Datum.szs, List.length_cons, listD_szE, List.length_nil, List.length_map] at ih ⊢
  omega
theorem zip_fst_snd : ∀ (l : List (Datum × Datum)), (l.map Prod.fst).zip (l.map Prod.snd) = l
 | [] => rfl
 | p :: l => by rw [List.map_cons, List.map_cons, List.zip_cons_cons, zip_fst_snd l]
theorem lamM_grow {b : Nat} {bd : List Datum → MkS → MkR} {f : Datum} {l : List Datum} (hx : BdOk b bd l) (s : MkS) (h0 : 0 ≤ s.n) (h1 : s.n + Datum.szs l ≤ 1000000000000) : Grow (Datum.szs l) s (lamM bd f l s).2 := by
 unfold lamM
 split
 ·exact Grow.fail _ s
 ·exact (hx s h0 h1).1
def letE (ex : Datum → MkS → MkR) (bd : List Datum → MkS → MkR) (key : List UInt8) (b : List (Datum × Datum)) (body : List Datum) (s : MkS) : MkR :=
 if key = kwLetS ∧ b ≠ [] then ltsM ex bd b body s else
 if distB (b.map Prod.fst) [] = false then failM s else
 (listD ((lamM bd (listD (b.map Prod.fst)) body s).1 :: (allM ex (b.map Prod.snd) (lamM bd (listD (b.map Prod.fst)) body s).2).1), (allM ex (b.map Prod.snd) (lamM bd (listD (b.map Prod.fst)) body s).2).2)
theorem ltsM_letE (ex : Datum → MkS → MkR) (bd : List Datum → MkS → MkR) (b : List (Datum × Datum)) (body : List Datum) (s : MkS) : letE ex bd kwLetS b body s = ltsM ex bd b body s := by
 unfold letE
 split
 ·rfl
 ·rename_i h
  have hb : b = [] := by
   by_cases hb : b = []
   ·exact hb
   ·exact absurd ⟨rfl, hb⟩ h
  subst hb
  rfl
theorem drExp04daa {p q : Prop} (k : q) (h : q → p := by intro hq; first | exact PDraw.sP (some 109) rfl [] [8,9] tt_ok mixed hq) : p := h k
theorem letP_c (b : Nat) (ex : Datum → MkS → MkR) (bd : List Datum → MkS → MkR) (body : List Datum) (hb : BdOk b bd body) (hbl : body.length ≤ 1000000000) (bs : List (Datum × Datum)) (key : List UInt8) (d : Datum) (l : List Datum) (hkb : key = kwLetS → bs = []) (hl : l = d :: body) (hB : bindsD d = some bs) (hp : d.pr = true) (hds : d.sz ≤ 1000000000) (hx : ∀ x : Datum, x.pr = true → x.sz ≤ d.sz → ExOk b ex x) (hnv : ¬(key = kwLet ∧ varB d = true))
  (s : MkS) (h0 : 0 ≤ s.n) (h1 : s.n + d.sz + Datum.szs body ≤ 1000000000000) : Grow (d.sz + Datum.szs body) s (letE ex bd key bs body s).2 ∧
  ACall Tryz.prog 175 [.ptr b 0, .str key, .sl 5 (l.map Datum.pv) none] [mkE b s] (fun y Γ' => y = .agg (letE ex bd key bs body s).1.cells ∧ Γ' = [mkE b (letE ex bd key bs body s).2]) := by
 have hll : l.length = body.length + 1 := by rw [hl]; rfl
 have e0 : l[0]'(by omega) = d := by simp only [hl, List.getElem_cons_zero]
 have e1 : l.drop 1 = body := by rw [hl]; rfl
 obtain ⟨hz, hpp⟩ := bindsD_sz hp hB
 have hbn : ACall Tryz.prog 110 [.agg (l[0]'(by omega)).cells] [] (BndP (bindsD d)) := by rw [e0]; exact bindings04_c d hp hds
 rw [hB] at hbn
 have hL : letE ex bd key bs body s = letE ex bd key bs body s := rfl
 conv at hL => rhs; unfold letE; rw [if_neg (fun h => h.2 (hkb h.1))]
 have hxs : ∀ x ∈ bs.map Prod.snd, ExOk b ex x := fun x hx' => by
  have h3 := Datum.szs_mem hx'
  obtain ⟨p, hp', rfl⟩ := List.mem_map.1 hx'
  exact hx _ (hpp p hp').2 (by omega)
 have hfp : (listD (bs.map Prod.fst)).pr = true := listD_pr fun x hx' => by
  obtain ⟨p, hp', rfl⟩ := List.mem_map.1 hx'
  exact (hpp p hp').1
 have hfs : (listD (bs.map Prod.fst)).sz ≤ 1000000000 := by rw [listD_szE, List.length_map]; omega
 have hg1 := lamM_grow (f := listD (bs.map Prod.fst)) hb s h0 (by omega)
 have hla := lambda04_c b bd (listD (bs.map Prod.fst)) body hfp hfs hb s h0 (by omega)
 generalize lamM bd (listD (bs.map Prod.fst)) body s = f at *
 have hg2 := allM_grow (ex := ex) hxs f.2 (by unfold Grow at hg1; omega) (by unfold Grow at hg1; omega)
 have hal := allM_len (ex := ex) (bs.map Prod.snd) f.2
 have hac := all04_c b ex (bs.map Prod.snd) hxs (by rw [List.length_map]; omega) f.2 (by unfold Grow at hg1; omega) (by unfold Grow at hg1; omega)
 generalize allM ex (bs.map Prod.snd) f.2 = r at *
 have hkb2 : bs.length ≠ 0 → ¬key = [108, 101, 116, 42] := fun h e => by rw [hkb e] at h; exact h rfl
 have hl1 : (bs.map Prod.fst).length = bs.length := List.length_map _
 have hl2 : (bs.map Prod.snd).length = bs.length := List.length_map _
 have hdc := distinct04_c (bs.map Prod.fst) (by omega)
 have hnv2 : ¬(key = [108, 101, 116] ∧ varB (l[0]'(by omega)) = true) := by rw [e0]; exact hnv
 generalize hN : bs.map Prod.fst = N at *
 generalize hV : bs.map Prod.snd = V at *
 by_cases hd : distB N [] = false
 ·rw [if_pos hd] at hL
  rw [hL]
  refine ⟨Grow.fail _ s, ?_⟩
  rw [hd] at hdc
  refine ACall.of_body tt_ok Tryz.func175 rfl rfl (n := 136) rfl rfl ?_
  conv => whnf
  repeat' (first|refine aA2 ?_|((first|(((apply zY;intro hg));(conv=>whnf);(repeat ((first|refine pC (varD_c _) wR ?_|refine aH ?_);conv=>whnf));exact pZ)|intro _);conv=>whnf)|(refine zX (fun hc=>?_) (fun hc=>?_)<;>(try simp only [SY] at hc)<;>(conv=>whnf)))
  all_goals try exact absurd ‹_› hnv2
  refine PCall.go (Γ1 := []) hbn (WkT.refl _) ?_
  rintro _ _ ⟨tk, htk, rfl, rfl⟩
  rw [hN, hV]
  conv => whnf
  repeat' (first|refine aA2 ?_|((first|refine pC (hdc) wR ?_|refine pC (varD_c _) wR ?_);conv=>whnf)|(refine zX (fun hc=>?_) (fun hc=>?_)<;>(try simp only [SY] at hc)<;>(conv=>whnf)))
  all_goals try exact absurd (‹key = [108, 101, 116, 42] ∧ _›).1 (hkb2 (by omega))
  refine PCall.go (failM_c b s) (WkT.refl _) ?_
  rintro _ _ ⟨rfl, rfl⟩
  conv => whnf
  repeat' (first|refine aA2 ?_|(refine zX (fun hc=>?_) (fun hc=>?_)<;>(try simp only [SY] at hc)<;>omega))
  exact PRet.gen (y := .agg (failM s).1.cells) (Γ' := [mkE b (failM s).2]) (Wk.refl _) (And.intro rfl rfl)
 ·rw [if_neg hd] at hL
  rw [hL]
  refine ⟨(hg1.trans hg2).mono (by omega), ?_⟩
  have hd' : distB N [] = true := by simpa using hd
  rw [hd'] at hdc
  rw [← e1] at hla
  refine ACall.of_body tt_ok Tryz.func175 rfl rfl (n := 136) rfl rfl ?_
  conv => whnf
  repeat' (first|refine aA2 ?_|((first|(((apply zY;intro hg));(conv=>whnf);(repeat ((first|refine pC (varD_c _) wR ?_|refine aH ?_);conv=>whnf));exact pZ)|intro _);conv=>whnf)|(refine zX (fun hc=>?_) (fun hc=>?_)<;>(try simp only [SY] at hc)<;>(conv=>whnf)))
  all_goals try exact absurd ‹_› hnv2
  refine PCall.go (Γ1 := []) hbn (WkT.refl _) ?_
  rintro _ _ ⟨tk, htk, rfl, rfl⟩
  rw [hN, hV]
  conv => whnf
  repeat' (first|refine aA2 ?_|((first|refine pC (hdc) wR ?_|refine pC (varD_c _) wR ?_);conv=>whnf)|(refine zX (fun hc=>?_) (fun hc=>?_)<;>(try simp only [SY] at hc)<;>(conv=>whnf)))
  all_goals try exact absurd (‹key = [108, 101, 116, 42] ∧ _›).1 (hkb2 (by omega))
  refine PDraw.sF (some 123) rfl [mkE b s] [5] [] [6] [7] tt_ok mixed ?_
  conv=>whnf
  repeat (first|refine aR2 ?_|((((apply zZ);(conv=>whnf);(repeat ((refine pC (list04_c) wR ?_);conv=>whnf));exact pZ));conv=>whnf))
  refine PCall.go hla (WkT.refl _) ?_
  rintro _ _ ⟨rfl, rfl⟩
  conv => whnf
  repeat' (first|refine aA2 ?_|((intro _);conv=>whnf)|(refine zX (fun hc=>?_) (fun hc=>?_)<;>(try simp only [SY] at hc)<;>omega))
  refine PDraw.sW [mkE b f.2] 1 4 [5] [6] [7] tt_ok mixed ?_
  conv => whnf
  repeat (refine aR2 ?_)
  refine ⟨?_, ?_⟩
  ·conv => whnf
   repeat (first|refine aR2 ?_|((intro _);conv=>whnf))
   refine PCall.go hac (.cons (Wk.refl _) (.cons (Wk.tok _ _ _) .nil)) ?_
   rintro _ _ ⟨rfl, rfl⟩
   conv => whnf
   skip
   refine PAppend.litD (l := [f.1]) (by simp only [List.map_cons, List.map_nil, Datum.pv_eq]; rfl) (by assumption) rfl (by rw [List.length_singleton]; omega) ?_
   intro t2 ht2
   conv => whnf
   repeat' (first|refine aA2 ?_|((((apply zZ);(conv=>whnf);(repeat ((refine pC (list04_c) wR ?_);conv=>whnf));exact pZ));conv=>whnf)|(refine zX (fun hc=>?_) (fun hc=>?_)<;>(try simp only [SY] at hc)<;>omega))
   exact PRet.gen (y := .agg (listD (f.1 :: r.1)).cells) (Γ' := [mkE b r.2]) (Wk.refl _) (And.intro rfl rfl)
  ·conv => whnf
   skip
   refine PCall.go hac (.cons (Wk.refl _) (.cons (Wk.tok _ _ _) .nil)) ?_
   rintro _ _ ⟨rfl, rfl⟩
   conv => whnf
   repeat' (first|refine aA2 ?_|((intro _);conv=>whnf)|(refine zX (fun hc=>?_) (fun hc=>?_)<;>(try simp only [SY] at hc)<;>omega))
   refine PAppend.litD (l := [f.1]) (by simp only [List.map_cons, List.map_nil, Datum.pv_eq]; rfl) (by assumption) rfl (by rw [List.length_singleton]; omega) ?_
   intro t2 ht2
   conv => whnf
   repeat' (first|refine aA2 ?_|((((apply zZ);(conv=>whnf);(repeat ((refine pC (list04_c) wR ?_);conv=>whnf));exact pZ));conv=>whnf)|(refine zX (fun hc=>?_) (fun hc=>?_)<;>(try simp only [SY] at hc)<;>omega))
   exact PRet.gen (y := .agg (listD (f.1 :: r.1)).cells) (Γ' := [mkE b r.2]) (Wk.refl _) (And.intro rfl rfl)
theorem letE_c (b : Nat) (ex : Datum → MkS → MkR) (bd : List Datum → MkS → MkR) (body : List Datum) (hb : BdOk b bd body) (hbl : body.length ≤ 1000000000) : ∀ (bs : List (Datum × Datum)) (key : List UInt8) (d : Datum) (l : List Datum), l = d :: body → bindsD d = some bs → d.pr = true → d.sz ≤ 1000000000 → (∀ x : Datum, x.pr = true → x.sz ≤ d.sz → ExOk b ex x) → ¬(key = kwLet ∧ varB d = true) →
  ∀ s : MkS, 0 ≤ s.n → s.n + d.sz + Datum.szs body ≤ 1000000000000 → Grow (d.sz + Datum.szs body) s (letE ex bd key bs body s).2 ∧
  ACall Tryz.prog 175 [.ptr b 0, .str key, .sl 5 (l.map Datum.pv) none] [mkE b s] (fun y Γ' => y = .agg (letE ex bd key bs body s).1.cells ∧ Γ' = [mkE b (letE ex bd key bs body s).2]) := by
 intro bs
 induction bs with
 | nil =>
  intro key d l hl hB hp hds hx hnv s h0 h1
  exact letP_c b ex bd body hb hbl [] key d l (fun _ => rfl) hl hB hp hds hx hnv s h0 h1
 | cons p bs ih =>
  intro key d l hl hB hp hds hx hnv s h0 h1
  have hll : l.length = body.length + 1 := by rw [hl]; rfl
  have e0 : l[0]'(by omega) = d := by simp only [hl, List.getElem_cons_zero]
  have e1 : l.drop 1 = body := by rw [hl]; rfl
  obtain ⟨hz, hpp⟩ := bindsD_sz hp hB
  have hbn : ACall Tryz.prog 110 [.agg (l[0]'(by omega)).cells] [] (BndP (bindsD d)) := by rw [e0]; exact bindings04_c d hp hds
  rw [hB] at hbn
  obtain ⟨N, hN⟩ : ∃ N, N = (p :: bs).map Prod.fst := ⟨_, rfl⟩
  obtain ⟨V, hV⟩ : ∃ V, V = (p :: bs).map Prod.snd := ⟨_, rfl⟩
  have hNl : N.length = bs.length + 1 := by rw [hN, List.length_map]; rfl
  have hVl : V.length = bs.length + 1 := by rw [hV, List.length_map]; rfl
  have eN : N[0]'(by omega) = p.1 := by simp only [hN, List.map_cons, List.getElem_cons_zero]
  have eV : V[0]'(by omega) = p.2 := by simp only [hV, List.map_cons, List.getElem_cons_zero]
  have eZ : (N.drop 1).zip (V.drop 1) = bs := by
   rw [hN, hV]
   show (bs.map Prod.fst).zip (bs.map Prod.snd) = bs
   exact zip_fst_snd bs
  simp only [List.map_cons, Datum.szs, List.length_cons] at hz
  by_cases hk : key = kwLetS
  ·subst hk
   have hL := ltsM_letE ex bd (p :: bs) body s
   rw [ltsM] at hL
   rw [hL]
   cases hv : varB p.1 with
   | false =>
    rw [if_pos rfl]
    refine ⟨Grow.fail _ s, ?_⟩
    have hvc := varD_c (N[0]'(by omega))
    rw [eN, hv, ← eN] at hvc
    unfold kwLetS
    refine ACall.of_body tt_ok Tryz.func175 rfl rfl (n := 136) rfl rfl ?_
    conv => whnf
    repeat' (first|refine aA2 ?_|((first|(((apply zY;intro hg));(conv=>whnf);(repeat ((first|refine pC (varD_c _) wR ?_|refine aH ?_);conv=>whnf));exact pZ)|intro _);conv=>whnf)|(refine zX (fun hc=>?_) (fun hc=>?_)<;>(try simp only [SY] at hc)<;>(conv=>whnf)))
    all_goals try exact absurd (‹([108, 101, 116, 42] : List UInt8) = [108, 101, 116] ∧ _›).1 (by decide)
    refine PCall.go (Γ1 := []) hbn (WkT.refl _) ?_
    rintro _ _ ⟨tk, htk, rfl, rfl⟩
    rw [← hN, ← hV]
    conv => whnf
    repeat' (first|refine aA2 ?_|((refine pC (hvc) wR ?_);conv=>whnf)|(refine zX (fun hc=>?_) (fun hc=>?_)<;>(try simp only [SY] at hc)<;>first|omega|(conv=>whnf)))
    refine PCall.go (failM_c b s) (WkT.refl _) ?_
    rintro _ _ ⟨rfl, rfl⟩
    conv => whnf
    repeat' (first|refine aA2 ?_|(refine zX (fun hc=>?_) (fun hc=>?_)<;>(try simp only [SY] at hc)<;>omega))
    exact PRet.gen (y := .agg (failM s).1.cells) (Γ' := [mkE b (failM s).2]) (Wk.refl _) (And.intro rfl rfl)
   | true =>
    rw [if_neg (by simp)]
    dsimp only
    have hsp : (pairsD bs).sz + p.1.sz + p.2.sz + 4 ≤ d.sz := by rw [pairsD_sz]; omega
    obtain ⟨g1, hc1⟩ := ih kwLetS (pairsD bs) ([pairsD ((N.drop 1).zip (V.drop 1))] ++ l.drop 1) (by rw [eZ, e1]; rfl) (bindsD_pairs bs) (pairsD_pr fun q hq => hpp q (by simp [hq])) (by omega) (fun x h2 h3 => hx x h2 (by omega)) (fun h => absurd h.1 (by decide)) s h0 (by omega)
    rw [ltsM_letE] at g1 hc1
    generalize ltsM ex bd bs body s = r at *
    have hex : ExOk b ex p.2 := hx _ (hpp p (by simp)).2 (by omega)
    have hg : Grow p.2.sz r.2 (ex p.2 r.2).2 := (hex r.2 (by unfold Grow at g1; omega) (by unfold Grow at g1; omega)).1
    refine ⟨(g1.trans hg).mono (by omega), ?_⟩
    have hbc : ACall Tryz.prog 180 [.ptr b 0, .agg (N[0]'(by omega)).cells, .agg r.1.cells, .agg (V[0]'(by omega)).cells] [mkE b r.2] (fun y Γ' => y = .agg (bndM ex p.1 r.1 p.2 r.2).1.cells ∧ Γ' = [mkE b (bndM ex p.1 r.1 p.2 r.2).2]) := by
     rw [eN, eV]
     exact bound04_c b ex p.1 r.1 p.2 hex r.2 (by unfold Grow at g1; omega) (by unfold Grow at g1; omega)
    have hvc := varD_c (N[0]'(by omega))
    rw [eN, hv, ← eN] at hvc
    unfold kwLetS at hc1 ⊢
    refine ACall.of_body tt_ok Tryz.func175 rfl rfl (n := 136) rfl rfl ?_
    conv => whnf
    repeat' (first|refine aA2 ?_|((first|(((apply zY;intro hg));(conv=>whnf);(repeat ((first|refine pC (varD_c _) wR ?_|refine aH ?_);conv=>whnf));exact pZ)|intro _);conv=>whnf)|(refine zX (fun hc=>?_) (fun hc=>?_)<;>(try simp only [SY] at hc)<;>(conv=>whnf)))
    all_goals try exact absurd (‹([108, 101, 116, 42] : List UInt8) = [108, 101, 116] ∧ _›).1 (by decide)
    refine PCall.go (Γ1 := []) hbn (WkT.refl _) ?_
    rintro _ _ ⟨tk, htk, rfl, rfl⟩
    rw [← hN, ← hV]
    conv => whnf
    repeat' (first|refine aA2 ?_|((refine pC (hvc) wR ?_);conv=>whnf)|(refine zX (fun hc=>?_) (fun hc=>?_)<;>(try simp only [SY] at hc)<;>first|omega|(conv=>whnf)))
    refine PDraw.sF (some 98) rfl [mkE b s] [6,9,10] [] [11] [12] tt_ok mixed ?_
    conv=>whnf
    repeat (first|refine aR2 ?_|((first|((apply zZ);(conv=>whnf);(repeat ((refine pC (pairsZ_c (N.drop 1) (V.drop 1) (by rw [List.length_drop]; omega) (by rw [List.length_drop, List.length_drop]; omega)) wR ?_);conv=>whnf));exact pZ)|intro _);conv=>whnf))
    refine PAppend.litD (l := [pairsD ((N.drop 1).zip (V.drop 1))]) (by simp only [List.map_cons, List.map_nil, Datum.pv_eq]) (by assumption) rfl (by rw [List.length_drop, List.length_singleton]; omega) ?_
    intro t2 ht2
    conv => whnf
    skip
    refine PCall.go hc1 (.cons (Wk.refl _) (.cons (Wk.refl _) (.cons (Wk.tok _ _ _) .nil))) ?_
    rintro _ _ ⟨rfl, rfl⟩
    conv => whnf
    repeat' (first|refine aA2 ?_|((first|refine drExp04daa ?_|intro _);conv=>whnf)|(refine zX (fun hc=>?_) (fun hc=>?_)<;>(try simp only [SY] at hc)<;>omega))
    refine PCall.go hbc (WkT.refl _) ?_
    rintro _ _ ⟨rfl, rfl⟩
    conv => whnf
    repeat' (first|refine aA2 ?_|(refine zX (fun hc=>?_) (fun hc=>?_)<;>(try simp only [SY] at hc)<;>omega))
    exact PRet.gen (y := .agg (bndM ex p.1 r.1 p.2 r.2).1.cells) (Γ' := [mkE b (bndM ex p.1 r.1 p.2 r.2).2]) (Wk.refl _) (And.intro rfl rfl)
  ·exact letP_c b ex bd body hb hbl (p :: bs) key d l (fun h => absurd h hk) hl hB hp hds hx hnv s h0 h1
theorem letM_eq (ex : Datum → MkS → MkR) (bd : List Datum → MkS → MkR) (key : List UInt8) (l : List Datum) (s : MkS) : letM ex bd key l s =
  if key = kwLet ∧ varB (l.getD 0 nulD) = true then
   if l.length < 3 then failM s else match bindsD (l.getD 1 nulD) with
    | none => failM s
    | some b => if distB (b.map Prod.fst) [] = false then failM s else
     (listD (listD [symD kwLetrec, listD [listD [l.getD 0 nulD, (lamM bd (listD (b.map Prod.fst)) (l.drop 2) s).1]], l.getD 0 nulD] :: (allM ex (b.map Prod.snd) (lamM bd (listD (b.map Prod.fst)) (l.drop 2) s).2).1), (allM ex (b.map Prod.snd) (lamM bd (listD (b.map Prod.fst)) (l.drop 2) s).2).2)
  else match bindsD (l.getD 0 nulD) with
   | none => failM s
   | some b => letE ex bd key b (l.drop 1) s := by
 unfold letM letE
 rfl
end Go.Cb
namespace Go.Cb
open Go.Proofs
set_option maxRecDepth 100000
set_option maxHeartbeats 4000000
theorem let04_c (b : Nat) (ex : Datum → MkS → MkR) (bd : List Datum → MkS → MkR) (key : List UInt8) (l : List Datum) (hll : 2 ≤ l.length) (hpr : ∀ x ∈ l, x.pr = true) (hls : Datum.szs l ≤ 1000000000) (hx : ∀ x : Datum, x.pr = true → x.sz ≤ Datum.szs l → ExOk b ex x) (hb : ∀ k, 1 ≤ k → BdOk b bd (l.drop k))
  (s : MkS) (h0 : 0 ≤ s.n) (h1 : s.n + Datum.szs l ≤ 1000000000000) : Grow (Datum.szs l) s (letM ex bd key l s).2 ∧
  ACall Tryz.prog 175 [.ptr b 0, .str key, .sl 5 (l.map Datum.pv) none] [mkE b s] (fun y Γ' => y = .agg (letM ex bd key l s).1.cells ∧ Γ' = [mkE b (letM ex bd key l s).2]) := by
 have hlen := Datum.szs_len l
 have hm0 : l[0]'(by omega) ∈ l := List.getElem_mem _
 have hm1 : l[1]'(by omega) ∈ l := List.getElem_mem _
 have hs0 := Datum.szs_mem hm0
 have hs1 := Datum.szs_mem hm1
 have hL := letM_eq ex bd key l s
 rw [datD_get (show 0 < l.length by omega), datD_get (show 1 < l.length by omega)] at hL
 by_cases hn : key = kwLet ∧ varB (l[0]'(by omega)) = true
 ·rw [if_pos hn] at hL
  obtain ⟨hk, hv⟩ := hn
  subst hk
  have hvc := varD_c (l[0]'(by omega))
  rw [hv] at hvc
  by_cases h3 : l.length < 3
  ·rw [if_pos h3] at hL
   rw [hL]
   refine ⟨Grow.fail _ s, ?_⟩
   unfold kwLet
   refine ACall.of_body tt_ok Tryz.func175 rfl rfl (n := 136) rfl rfl ?_
   conv => whnf
   repeat' (first|refine aA2 ?_|((first|(((apply zY;intro hg));(conv=>whnf);(repeat ((first|refine pC (hvc) wR ?_|refine aH ?_);conv=>whnf));exact pZ)|intro _);conv=>whnf)|(refine zX (fun hc=>?_) (fun hc=>?_)<;>(try simp only [SY] at hc)<;>first|omega|(conv=>whnf)))
   refine PCall.go (failM_c b s) (WkT.refl _) ?_
   rintro _ _ ⟨rfl, rfl⟩
   conv => whnf
   repeat' (first|refine aA2 ?_|(refine zX (fun hc=>?_) (fun hc=>?_)<;>(try simp only [SY] at hc)<;>omega))
   exact PRet.gen (y := .agg (failM s).1.cells) (Γ' := [mkE b (failM s).2]) (Wk.refl _) (And.intro rfl rfl)
  ·rw [if_neg h3] at hL
   have e2 : Datum.szs (l.drop 2) + (l[0]'(by omega)).sz + (l[1]'(by omega)).sz = Datum.szs l := by
    conv => rhs; rw [show l = l[0]'(by omega) :: l[1]'(by omega) :: l.drop 2 by rw [← List.drop_eq_getElem_cons, ← List.drop_eq_getElem_cons]; rfl]
    rw [Datum.szs, Datum.szs]; omega
   have hbn := bindings04_c (l[1]'(by omega)) (hpr _ hm1) (by omega)
   cases hB : bindsD (l[1]'(by omega)) with
   | none =>
    rw [hB] at hL hbn
    dsimp only at hL
    rw [hL]
    refine ⟨Grow.fail _ s, ?_⟩
    unfold kwLet
    refine ACall.of_body tt_ok Tryz.func175 rfl rfl (n := 136) rfl rfl ?_
    conv => whnf
    repeat' (first|refine aA2 ?_|((first|(((apply zY;intro hg));(conv=>whnf);(repeat ((first|refine pC (hvc) wR ?_|refine aH ?_);conv=>whnf));exact pZ)|intro _);conv=>whnf)|(refine zX (fun hc=>?_) (fun hc=>?_)<;>(try simp only [SY] at hc)<;>first|omega|(conv=>whnf)))
    refine PCall.go (Γ1 := []) hbn (WkT.refl _) ?_
    rintro _ _ ⟨rfl, rfl⟩
    conv => whnf
    repeat' (first|refine aA2 ?_|(refine zX (fun hc=>?_) (fun hc=>?_)<;>(try simp only [SY] at hc)<;>omega))
    refine PGuard.ways (fun hg => by simp at hg) (fun hg => ?_)
    conv => whnf
    skip
    refine PCall.go (failM_c b s) (WkT.refl _) ?_
    rintro _ _ ⟨rfl, rfl⟩
    conv => whnf
    repeat' (first|refine aA2 ?_|(refine zX (fun hc=>?_) (fun hc=>?_)<;>(try simp only [SY] at hc)<;>omega))
    exact PRet.gen (y := .agg (failM s).1.cells) (Γ' := [mkE b (failM s).2]) (Wk.refl _) (And.intro rfl rfl)
   | some bs =>
    rw [hB] at hL hbn
    dsimp only at hL
    obtain ⟨hz, hpp⟩ := bindsD_sz (hpr _ hm1) hB
    have hxs : ∀ x ∈ bs.map Prod.snd, ExOk b ex x := fun x hx' => by
     have h3 := Datum.szs_mem hx'
     obtain ⟨p, hp', rfl⟩ := List.mem_map.1 hx'
     exact hx _ (hpp p hp').2 (by omega)
    have hfp : (listD (bs.map Prod.fst)).pr = true := listD_pr fun x hx' => by
     obtain ⟨p, hp', rfl⟩ := List.mem_map.1 hx'
     exact (hpp p hp').1
    have hfs : (listD (bs.map Prod.fst)).sz ≤ 1000000000 := by rw [listD_szE, List.length_map]; omega
    have hg1 := lamM_grow (f := listD (bs.map Prod.fst)) (hb 2 (by omega)) s h0 (by omega)
    have hla := lambda04_c b bd (listD (bs.map Prod.fst)) (l.drop 2) hfp hfs (hb 2 (by omega)) s h0 (by omega)
    generalize lamM bd (listD (bs.map Prod.fst)) (l.drop 2) s = f at *
    have hg2 := allM_grow (ex := ex) hxs f.2 (by unfold Grow at hg1; omega) (by unfold Grow at hg1; omega)
    have hal := allM_len (ex := ex) (bs.map Prod.snd) f.2
    have hac := all04_c b ex (bs.map Prod.snd) hxs (by rw [List.length_map]; omega) f.2 (by unfold Grow at hg1; omega) (by unfold Grow at hg1; omega)
    generalize allM ex (bs.map Prod.snd) f.2 = r at *
    have hl1 : (bs.map Prod.fst).length = bs.length := List.length_map _
    have hl2 : (bs.map Prod.snd).length = bs.length := List.length_map _
    have hdc := distinct04_c (bs.map Prod.fst) (by omega)
    generalize hN : bs.map Prod.fst = N at *
    generalize hV : bs.map Prod.snd = V at *
    by_cases hd : distB N [] = false
    ·rw [if_pos hd] at hL
     rw [hL]
     refine ⟨Grow.fail _ s, ?_⟩
     rw [hd] at hdc
     unfold kwLet
     refine ACall.of_body tt_ok Tryz.func175 rfl rfl (n := 136) rfl rfl ?_
     conv => whnf
     repeat' (first|refine aA2 ?_|((first|(((apply zY;intro hg));(conv=>whnf);(repeat ((first|refine pC (hvc) wR ?_|refine aH ?_);conv=>whnf));exact pZ)|intro _);conv=>whnf)|(refine zX (fun hc=>?_) (fun hc=>?_)<;>(try simp only [SY] at hc)<;>first|omega|(conv=>whnf)))
     refine PCall.go (Γ1 := []) hbn (WkT.refl _) ?_
     rintro _ _ ⟨tk, htk, rfl, rfl⟩
     rw [hN, hV]
     conv => whnf
     repeat' (first|refine aA2 ?_|(((((apply zY;intro hg));(conv=>whnf);(repeat ((first|refine pC (hdc) wR ?_|refine aH ?_);conv=>whnf));exact pZ));conv=>whnf)|(refine zX (fun hc=>?_) (fun hc=>?_)<;>(try simp only [SY] at hc)<;>(conv=>whnf)))
     refine PCall.go (failM_c b s) (WkT.refl _) ?_
     rintro _ _ ⟨rfl, rfl⟩
     conv => whnf
     repeat' (first|refine aA2 ?_|(refine zX (fun hc=>?_) (fun hc=>?_)<;>(try simp only [SY] at hc)<;>omega))
     exact PRet.gen (y := .agg (failM s).1.cells) (Γ' := [mkE b (failM s).2]) (Wk.refl _) (And.intro rfl rfl)
    ·rw [if_neg hd] at hL
     rw [hL]
     refine ⟨(hg1.trans hg2).mono (by omega), ?_⟩
     have hd' : distB N [] = true := by simpa using hd
     rw [hd'] at hdc
     unfold kwLet
     refine ACall.of_body tt_ok Tryz.func175 rfl rfl (n := 136) rfl rfl ?_
     conv => whnf
     repeat' (first|refine aA2 ?_|((first|(((apply zY;intro hg));(conv=>whnf);(repeat ((first|refine pC (hvc) wR ?_|refine aH ?_);conv=>whnf));exact pZ)|intro _);conv=>whnf)|(refine zX (fun hc=>?_) (fun hc=>?_)<;>(try simp only [SY] at hc)<;>first|omega|(conv=>whnf)))
     refine PCall.go (Γ1 := []) hbn (WkT.refl _) ?_
     rintro _ _ ⟨tk, htk, rfl, rfl⟩
     rw [hN, hV]
     conv => whnf
     repeat' (first|refine aA2 ?_|(((((apply zY;intro hg));(conv=>whnf);(repeat ((first|refine pC (hdc) wR ?_|refine aH ?_);conv=>whnf));exact pZ));conv=>whnf)|(refine zX (fun hc=>?_) (fun hc=>?_)<;>(try simp only [SY] at hc)<;>(conv=>whnf)))
     refine PDraw.sF (some 46) rfl [mkE b s] [5] [] [6] [7] tt_ok mixed ?_
     conv=>whnf
     repeat (first|refine aR2 ?_|((((apply zZ);(conv=>whnf);(repeat ((refine pC (list04_c) wR ?_);conv=>whnf));exact pZ));conv=>whnf))
     refine PCall.go hla (WkT.refl _) ?_
     rintro _ _ ⟨rfl, rfl⟩
     conv => whnf
     repeat' (first|refine aA2 ?_|((intro _);conv=>whnf)|(refine zX (fun hc=>?_) (fun hc=>?_)<;>(try simp only [SY] at hc)<;>omega))
     refine PDraw.sW [mkE b f.2] 14 17 [18] [19] [20] tt_ok mixed ?_
     conv => whnf
     repeat (first|refine aR2 ?_|((((apply zZ);(conv=>whnf);(repeat ((first|refine pC (list04_c) wR ?_|refine pC (sym04_c _) wR ?_);conv=>whnf));exact pZ));conv=>whnf))
     refine ⟨?_, ?_⟩
     ·conv => whnf
      repeat (first|refine aR2 ?_|((intro _);conv=>whnf))
      refine PCall.go hac (.cons (Wk.refl _) (.cons (Wk.tok _ _ _) .nil)) ?_
      rintro _ _ ⟨rfl, rfl⟩
      conv => whnf
      skip
      refine PAppend.litD (l := [listD [symD kwLetrec, listD [listD [l[0]'(by omega), f.1]], l[0]'(by omega)]]) (by simp only [List.map_cons, List.map_nil, Datum.pv_eq]; rfl) (by assumption) rfl (by rw [List.length_singleton]; omega) ?_
      intro t2 ht2
      conv => whnf
      repeat' (first|refine aA2 ?_|((((apply zZ);(conv=>whnf);(repeat ((refine pC (list04_c) wR ?_);conv=>whnf));exact pZ));conv=>whnf)|(refine zX (fun hc=>?_) (fun hc=>?_)<;>(try simp only [SY] at hc)<;>omega))
      exact PRet.gen (y := .agg (listD (listD [symD kwLetrec, listD [listD [l[0]'(by omega), f.1]], l[0]'(by omega)] :: r.1)).cells) (Γ' := [mkE b r.2]) (Wk.refl _) (And.intro rfl rfl)
     ·conv => whnf
      skip
      refine PCall.go hac (.cons (Wk.refl _) (.cons (Wk.tok _ _ _) .nil)) ?_
      rintro _ _ ⟨rfl, rfl⟩
      conv => whnf
      repeat' (first|refine aA2 ?_|((intro _);conv=>whnf)|(refine zX (fun hc=>?_) (fun hc=>?_)<;>(try simp only [SY] at hc)<;>omega))
      refine PAppend.litD (l := [listD [symD kwLetrec, listD [listD [l[0]'(by omega), f.1]], l[0]'(by omega)]]) (by simp only [List.map_cons, List.map_nil, Datum.pv_eq]; rfl) (by assumption) rfl (by rw [List.length_singleton]; omega) ?_
      intro t2 ht2
      conv => whnf
      repeat' (first|refine aA2 ?_|((((apply zZ);(conv=>whnf);(repeat ((refine pC (list04_c) wR ?_);conv=>whnf));exact pZ));conv=>whnf)|(refine zX (fun hc=>?_) (fun hc=>?_)<;>(try simp only [SY] at hc)<;>omega))
      exact PRet.gen (y := .agg (listD (listD [symD kwLetrec, listD [listD [l[0]'(by omega), f.1]], l[0]'(by omega)] :: r.1)).cells) (Γ' := [mkE b r.2]) (Wk.refl _) (And.intro rfl rfl)
 ·rw [if_neg hn] at hL
  have e1 : l = l[0]'(by omega) :: l.drop 1 := by rw [← List.drop_eq_getElem_cons]; rfl
  have e2 : (l[0]'(by omega)).sz + Datum.szs (l.drop 1) = Datum.szs l := by
   conv => rhs; rw [e1, Datum.szs]
  have hdl : (l.drop 1).length = l.length - 1 := List.length_drop
  cases hB : bindsD (l[0]'(by omega)) with
  | none =>
   rw [hB] at hL
   dsimp only at hL
   rw [hL]
   refine ⟨Grow.fail _ s, ?_⟩
   have hbn := bindings04_c (l[0]'(by omega)) (hpr _ hm0) (by omega)
   rw [hB] at hbn
   have hn2 : ¬(key = [108, 101, 116] ∧ varB (l[0]'(by omega)) = true) := hn
   refine ACall.of_body tt_ok Tryz.func175 rfl rfl (n := 136) rfl rfl ?_
   conv => whnf
   repeat' (first|refine aA2 ?_|((first|(((apply zY;intro hg));(conv=>whnf);(repeat ((first|refine pC (varD_c _) wR ?_|refine aH ?_);conv=>whnf));exact pZ)|intro _);conv=>whnf)|(refine zX (fun hc=>?_) (fun hc=>?_)<;>(try simp only [SY] at hc)<;>(conv=>whnf)))
   all_goals try exact absurd ‹_› hn2
   refine PCall.go (Γ1 := []) hbn (WkT.refl _) ?_
   rintro _ _ ⟨rfl, rfl⟩
   conv => whnf
   repeat' ((refine zX (fun hc=>?_) (fun hc=>?_)<;>(try simp only [SY] at hc)<;>(conv=>whnf)))
   refine PCall.go (failM_c b s) (WkT.refl _) ?_
   rintro _ _ ⟨rfl, rfl⟩
   conv => whnf
   repeat' (first|refine aA2 ?_|(refine zX (fun hc=>?_) (fun hc=>?_)<;>(try simp only [SY] at hc)<;>omega))
   exact PRet.gen (y := .agg (failM s).1.cells) (Γ' := [mkE b (failM s).2]) (Wk.refl _) (And.intro rfl rfl)
  | some bs =>
   rw [hB] at hL
   dsimp only at hL
   rw [hL]
   have := letE_c b ex bd (l.drop 1) (hb 1 (Nat.le_refl _)) (by omega) bs key (l[0]'(by omega)) l e1 hB (hpr _ hm0) (by omega) (fun x h2 h3 => hx x h2 (by omega)) hn s h0 (by omega)
   rwa [e2] at this
end Go.Cb
namespace Go.Cb
open Go.Proofs
set_option maxRecDepth 100000
set_option maxHeartbeats 4000000
theorem begM_grow {b : Nat} {ex : Datum → MkS → MkR} {l : List Datum} (hx : ∀ x ∈ l, ExOk b ex x) (s : MkS) (h0 : 0 ≤ s.n) (h1 : s.n + Datum.szs l ≤ 1000000000000) : Grow (Datum.szs l) s (begM ex l s).2 := by
 unfold begM
 split
 ·exact Grow.fail _ s
 ·exact allM_grow hx s h0 h1
theorem cons_drop {l : List Datum} (h : 0 < l.length) : l = l[0] :: l.drop 1 := by rw [← List.drop_eq_getElem_cons]; rfl
theorem szs_cons_drop {l : List Datum} (h : 0 < l.length) : Datum.szs l = l[0].sz + Datum.szs (l.drop 1) := by
 conv => lhs; rw [cons_drop h, Datum.szs]
theorem when04_c (b : Nat) (ex : Datum → MkS → MkR) (key : List UInt8) (hk : key = kwWhen ∨ key = kwUnless) (l : List Datum) (hx : ∀ x ∈ l, ExOk b ex x) (hl : l.length ≤ 1000000000) (s : MkS) (h0 : 0 ≤ s.n) (h1 : s.n + Datum.szs l ≤ 1000000000000) :
  Grow (Datum.szs l) s (whnM ex key l s).2 ∧
  ACall Tryz.prog 176 [.ptr b 0, .str key, .sl 5 (l.map Datum.pv) none] [mkE b s] (fun y Γ' => y = .agg (whnM ex key l s).1.cells ∧ Γ' = [mkE b (whnM ex key l s).2]) := by
 have hL : whnM ex key l s = whnM ex key l s := rfl
 conv at hL => rhs; unfold whnM
 have hk2 : key = [119, 104, 101, 110] ∨ key = [117, 110, 108, 101, 115, 115] := hk
 by_cases h2 : l.length < 2
 ·rw [if_pos h2] at hL
  rw [hL]
  refine ⟨Grow.fail _ s, ?_⟩
  rcases hk2 with rfl | rfl
  ·refine ACall.of_body tt_ok Tryz.func176 rfl rfl (n := 99) rfl rfl ?_
   conv => whnf
   repeat' (first|refine aA2 ?_|((intro _);conv=>whnf)|(refine zX (fun hc=>?_) (fun hc=>?_)<;>(try simp only [SY] at hc)<;>first|omega|(conv=>whnf)))
   refine PCall.go (failM_c b s) (WkT.refl _) ?_
   rintro _ _ ⟨rfl, rfl⟩
   conv => whnf
   repeat' (first|refine aA2 ?_|(refine zX (fun hc=>?_) (fun hc=>?_)<;>(try simp only [SY] at hc)<;>omega))
   exact PRet.gen (y := .agg (failM s).1.cells) (Γ' := [mkE b (failM s).2]) (Wk.refl _) (And.intro rfl rfl)
  ·refine ACall.of_body tt_ok Tryz.func176 rfl rfl (n := 99) rfl rfl ?_
   conv => whnf
   repeat' (first|refine aA2 ?_|((intro _);conv=>whnf)|(refine zX (fun hc=>?_) (fun hc=>?_)<;>(try simp only [SY] at hc)<;>first|omega|(conv=>whnf)))
   refine PCall.go (failM_c b s) (WkT.refl _) ?_
   rintro _ _ ⟨rfl, rfl⟩
   conv => whnf
   repeat' (first|refine aA2 ?_|(refine zX (fun hc=>?_) (fun hc=>?_)<;>(try simp only [SY] at hc)<;>omega))
   exact PRet.gen (y := .agg (failM s).1.cells) (Γ' := [mkE b (failM s).2]) (Wk.refl _) (And.intro rfl rfl)
 ·rw [if_neg h2] at hL
  dsimp only at hL
  have hs := szs_cons_drop (show 0 < l.length by omega)
  have hm : l[0]'(by omega) ∈ l := List.getElem_mem _
  rw [datD_get (show 0 < l.length by omega)] at hL
  obtain ⟨g1, hc1⟩ := hx _ hm s h0 (by omega)
  generalize ex (l[0]'(by omega)) s = a at *
  have hxd : ∀ x ∈ l.drop 1, ExOk b ex x := fun x h => hx x (List.mem_of_mem_drop h)
  have g2 := begM_grow hxd a.2 (by unfold Grow at g1; omega) (by unfold Grow at g1; omega)
  have hc2 := begin04_c b ex (l.drop 1) hxd (by rw [List.length_drop]; omega) a.2 (by unfold Grow at g1; omega) (by unfold Grow at g1; omega)
  generalize begM ex (l.drop 1) a.2 = r at *
  by_cases hw : key = kwWhen
  ·rw [if_pos hw] at hL
   rw [hL]
   refine ⟨(g1.trans g2).mono (by omega), ?_⟩
   subst hw
   unfold kwWhen
   refine ACall.of_body tt_ok Tryz.func176 rfl rfl (n := 99) rfl rfl ?_
   conv => whnf
   repeat' (first|refine aA2 ?_|((intro _);conv=>whnf)|(refine zX (fun hc=>?_) (fun hc=>?_)<;>(try simp only [SY] at hc)<;>first|omega|(conv=>whnf)))
   refine PCall.go hc1 (WkT.refl _) ?_
   rintro _ _ ⟨rfl, rfl⟩
   conv => whnf
   repeat' (first|refine aA2 ?_|((intro _);conv=>whnf)|(refine zX (fun hc=>?_) (fun hc=>?_)<;>(try simp only [SY] at hc)<;>(conv=>whnf)))
   refine PDraw.sE [mkE b a.2] [5,6] [7,8,9] tt_ok mixed ?_
   conv=>whnf
   repeat (first|refine aR2 ?_|((((apply zZ);(conv=>whnf);(repeat ((refine pC (sym04_c _) wR ?_);conv=>whnf));exact pZ));conv=>whnf))
   refine PCall.go hc2 (WkT.refl _) ?_
   rintro _ _ ⟨rfl, rfl⟩
   conv => whnf
   repeat' (first|refine aA2 ?_|((first|refine pC (list04_c) wR ?_|refine pC (void04_c) wR ?_|intro _);conv=>whnf)|(refine zX (fun hc=>?_) (fun hc=>?_)<;>(try simp only [SY] at hc)<;>omega))
   exact PRet.gen (y := .agg (listD [symD kwIf, a.1, r.1, voidD]).cells) (Γ' := [mkE b r.2]) (Wk.refl _) (And.intro rfl rfl)
  ·rw [if_neg hw] at hL
   rw [hL]
   refine ⟨(g1.trans g2).mono (by omega), ?_⟩
   have hku : key = [117, 110, 108, 101, 115, 115] := hk2.resolve_left hw
   subst hku
   refine ACall.of_body tt_ok Tryz.func176 rfl rfl (n := 99) rfl rfl ?_
   conv => whnf
   repeat' (first|refine aA2 ?_|((intro _);conv=>whnf)|(refine zX (fun hc=>?_) (fun hc=>?_)<;>(try simp only [SY] at hc)<;>first|omega|(conv=>whnf)))
   refine PCall.go hc1 (WkT.refl _) ?_
   rintro _ _ ⟨rfl, rfl⟩
   conv => whnf
   repeat' (first|refine aA2 ?_|((intro _);conv=>whnf)|(refine zX (fun hc=>?_) (fun hc=>?_)<;>(try simp only [SY] at hc)<;>(conv=>whnf)))
   all_goals try exact absurd (‹([117, 110, 108, 101, 115, 115] : List UInt8) = [119, 104, 101, 110]›) (by decide)
   refine PDraw.sE [mkE b a.2] [6] [7,8,9] tt_ok mixed ?_
   conv=>whnf
   repeat (first|refine aR2 ?_|((((apply zZ);(conv=>whnf);(repeat ((first|refine pC (sym04_c _) wR ?_|refine pC (void04_c) wR ?_);conv=>whnf));exact pZ));conv=>whnf))
   refine PCall.go hc2 (WkT.refl _) ?_
   rintro _ _ ⟨rfl, rfl⟩
   conv => whnf
   repeat' (first|refine aA2 ?_|((first|refine pC (list04_c) wR ?_|intro _);conv=>whnf)|(refine zX (fun hc=>?_) (fun hc=>?_)<;>(try simp only [SY] at hc)<;>omega))
   exact PRet.gen (y := .agg (listD [symD kwIf, a.1, voidD, r.1]).cells) (Γ' := [mkE b r.2]) (Wk.refl _) (And.intro rfl rfl)
theorem andM_eq (ex : Datum → MkS → MkR) (l : List Datum) (s : MkS) : andM ex l s = (if l.length = 0 then (truD 1, s) else if l.length = 1 then ex (l.getD 0 nulD) s else
  (listD [symD kwIf, (ex (l.getD 0 nulD) s).1, (andM ex (l.drop 1) (ex (l.getD 0 nulD) s).2).1, truD 0], (andM ex (l.drop 1) (ex (l.getD 0 nulD) s).2).2)) := by
 match l with
 | [] => rfl
 | [x] => rfl
 | x :: y :: l => rfl
theorem and04_c (b : Nat) (ex : Datum → MkS → MkR) (n : Nat) (hn : n ≤ 1000000000) : ∀ (l : List Datum), l.length ≤ n → (∀ x ∈ l, ExOk b ex x) → ∀ s : MkS, 0 ≤ s.n → s.n + Datum.szs l + l.length ≤ 1000000000000 →
  Grow (Datum.szs l + l.length) s (andM ex l s).2 ∧
  ACall Tryz.prog 176 [.ptr b 0, .str kwAnd, .sl 5 (l.map Datum.pv) none] [mkE b s] (fun y Γ' => y = .agg (andM ex l s).1.cells ∧ Γ' = [mkE b (andM ex l s).2]) := by
 unfold kwAnd
 induction n with
 | zero =>
  intro l hl hx s h0 h1
  have hL := andM_eq ex l s
  rw [if_pos (by omega)] at hL
  rw [hL]
  refine ⟨Grow.refl _ s, ?_⟩
  refine ACall.of_body tt_ok Tryz.func176 rfl rfl (n := 99) rfl rfl ?_
  conv => whnf
  repeat' (first|refine aA2 ?_|((first|refine pC (truth04_c _) wR ?_|intro _);conv=>whnf)|(refine zX (fun hc=>?_) (fun hc=>?_)<;>(try simp only [SY] at hc)<;>first|omega|(conv=>whnf)))
  all_goals first
   | exact absurd ‹([97, 110, 100] : List UInt8) = [119, 104, 101, 110] ∨ _› (by decide)
   | (exfalso; omega)
   | exact PRet.gen (y := .agg (truD 1).cells) (Γ' := [mkE b s]) (Wk.refl _) (And.intro rfl rfl)
   | skip
  all_goals sorry
 | succ n ih =>
  intro l hl hx s h0 h1
  have hL := andM_eq ex l s
  by_cases h00 : l.length = 0
  ·have h0' : l = [] := List.eq_nil_of_length_eq_zero h00
   exact ih (by omega) l (by omega) hx s h0 h1
  rw [if_neg h00] at hL
  have hs := szs_cons_drop (show 0 < l.length by omega)
  have hm : l[0]'(by omega) ∈ l := List.getElem_mem _
  have hsd := Datum.szs_len (l.drop 1)
  have hdl : (l.drop 1).length = l.length - 1 := List.length_drop
  rw [datD_get (show 0 < l.length by omega)] at hL
  by_cases h11 : l.length = 1
  ·rw [if_pos h11] at hL
   obtain ⟨g, hc1⟩ := hx _ hm s h0 (by omega)
   rw [hL]
   refine ⟨g.mono (by omega), ?_⟩
   generalize ex (l[0]'(by omega)) s = a at *
   refine ACall.of_body tt_ok Tryz.func176 rfl rfl (n := 99) rfl rfl ?_
   conv => whnf
   repeat' (first|refine aA2 ?_|((intro _);conv=>whnf)|(refine zX (fun hc=>?_) (fun hc=>?_)<;>(try simp only [SY] at hc)<;>first|omega|(conv=>whnf)))
   all_goals first
    | exact absurd ‹([97, 110, 100] : List UInt8) = [119, 104, 101, 110] ∨ _› (by decide)
    | (exfalso; omega)
    | skip
   refine PCall.go hc1 (WkT.refl _) ?_
   rintro _ _ ⟨rfl, rfl⟩
   conv => whnf
   repeat' (first|refine aA2 ?_|(refine zX (fun hc=>?_) (fun hc=>?_)<;>(try simp only [SY] at hc)<;>omega))
   exact PRet.gen (y := .agg a.1.cells) (Γ' := [mkE b a.2]) (Wk.refl _) (And.intro rfl rfl)
  ·rw [if_neg h11] at hL
   have hxd : ∀ x ∈ l.drop 1, ExOk b ex x := fun x h => hx x (List.mem_of_mem_drop h)
   obtain ⟨g1, hc1⟩ := hx _ hm s h0 (by omega)
   generalize ex (l[0]'(by omega)) s = a at *
   obtain ⟨g2, hc2⟩ := ih (by omega) (l.drop 1) (by omega) hxd a.2 (by unfold Grow at g1; omega) (by unfold Grow at g1; omega)
   generalize andM ex (l.drop 1) a.2 = r at *
   rw [hL]
   refine ⟨(g1.trans g2).mono (by omega), ?_⟩
   refine ACall.of_body tt_ok Tryz.func176 rfl rfl (n := 99) rfl rfl ?_
   conv => whnf
   repeat' (first|refine aA2 ?_|((intro _);conv=>whnf)|(refine zX (fun hc=>?_) (fun hc=>?_)<;>(try simp only [SY] at hc)<;>first|omega|(conv=>whnf)))
   all_goals first
    | exact absurd ‹([97, 110, 100] : List UInt8) = [119, 104, 101, 110] ∨ _› (by decide)
    | (exfalso; omega)
    | skip
   refine PDraw.sE [mkE b s] [5] [10,11,12,13,14] tt_ok mixed ?_
   conv=>whnf
   repeat (first|refine aR2 ?_|((((apply zZ);(conv=>whnf);(repeat ((refine pC (sym04_c _) wR ?_);conv=>whnf));exact pZ));conv=>whnf))
   refine PCall.go hc1 (WkT.refl _) ?_
   rintro _ _ ⟨rfl, rfl⟩
   conv => whnf
   skip
   refine PCall.go hc2 (WkT.refl _) ?_
   rintro _ _ ⟨rfl, rfl⟩
   conv => whnf
   repeat' (first|refine aA2 ?_|((first|refine pC (list04_c) wR ?_|refine pC (truth04_c _) wR ?_|intro _);conv=>whnf)|(refine zX (fun hc=>?_) (fun hc=>?_)<;>(try simp only [SY] at hc)<;>omega))
   exact PRet.gen (y := .agg (listD [symD kwIf, a.1, r.1, truD 0]).cells) (Γ' := [mkE b r.2]) (Wk.refl _) (And.intro rfl rfl)
theorem orM_eq (ex : Datum → MkS → MkR) (l : List Datum) (s : MkS) : orM ex l s = (if l.length = 0 then (truD 0, s) else if l.length = 1 then ex (l.getD 0 nulD) s else
  bndM ex (frsM s).1 (listD [symD kwIf, (frsM s).1, (frsM s).1, (orM ex (l.drop 1) (frsM s).2).1]) (l.getD 0 nulD) (orM ex (l.drop 1) (frsM s).2).2) := by
 match l with
 | [] => rfl
 | [x] => rfl
 | x :: y :: l => rfl
theorem or04_c (b : Nat) (ex : Datum → MkS → MkR) (n : Nat) (hn : n ≤ 1000000000) : ∀ (l : List Datum), l.length ≤ n → (∀ x ∈ l, ExOk b ex x) → ∀ s : MkS, 0 ≤ s.n → s.n + Datum.szs l + l.length ≤ 1000000000000 →
  Grow (Datum.szs l + l.length) s (orM ex l s).2 ∧
  ACall Tryz.prog 176 [.ptr b 0, .str kwOr, .sl 5 (l.map Datum.pv) none] [mkE b s] (fun y Γ' => y = .agg (orM ex l s).1.cells ∧ Γ' = [mkE b (orM ex l s).2]) := by
 unfold kwOr
 induction n with
 | zero =>
  intro l hl hx s h0 h1
  have hL := orM_eq ex l s
  rw [if_pos (by omega)] at hL
  rw [hL]
  refine ⟨Grow.refl _ s, ?_⟩
  refine ACall.of_body tt_ok Tryz.func176 rfl rfl (n := 99) rfl rfl ?_
  conv => whnf
  repeat' (first|refine aA2 ?_|((first|refine pC (truth04_c _) wR ?_|intro _);conv=>whnf)|(refine zX (fun hc=>?_) (fun hc=>?_)<;>(try simp only [SY] at hc)<;>first|omega|(conv=>whnf)))
  all_goals first
   | exact absurd ‹([111, 114] : List UInt8) = [119, 104, 101, 110] ∨ _› (by decide)
   | (exfalso; omega)
   | exact absurd (‹_ ∧ ([111, 114] : List UInt8) = [97, 110, 100]›).2 (by decide)
   | exact PRet.gen (y := .agg (truD 0).cells) (Γ' := [mkE b s]) (Wk.refl _) (And.intro rfl rfl)
   | skip
  all_goals sorry
 | succ n ih =>
  intro l hl hx s h0 h1
  have hL := orM_eq ex l s
  by_cases h00 : l.length = 0
  ·have h0' : l = [] := List.eq_nil_of_length_eq_zero h00
   exact ih (by omega) l (by omega) hx s h0 h1
  rw [if_neg h00] at hL
  have hs := szs_cons_drop (show 0 < l.length by omega)
  have hm : l[0]'(by omega) ∈ l := List.getElem_mem _
  have hsd := Datum.szs_len (l.drop 1)
  have hdl : (l.drop 1).length = l.length - 1 := List.length_drop
  rw [datD_get (show 0 < l.length by omega)] at hL
  by_cases h11 : l.length = 1
  ·rw [if_pos h11] at hL
   obtain ⟨g, hc1⟩ := hx _ hm s h0 (by omega)
   rw [hL]
   refine ⟨g.mono (by omega), ?_⟩
   generalize ex (l[0]'(by omega)) s = a at *
   refine ACall.of_body tt_ok Tryz.func176 rfl rfl (n := 99) rfl rfl ?_
   conv => whnf
   repeat' (first|refine aA2 ?_|((intro _);conv=>whnf)|(refine zX (fun hc=>?_) (fun hc=>?_)<;>(try simp only [SY] at hc)<;>first|omega|(conv=>whnf)))
   all_goals first
    | exact absurd ‹([111, 114] : List UInt8) = [119, 104, 101, 110] ∨ _› (by decide)
    | (exfalso; omega)
    | skip
   refine PCall.go hc1 (WkT.refl _) ?_
   rintro _ _ ⟨rfl, rfl⟩
   conv => whnf
   repeat' (first|refine aA2 ?_|(refine zX (fun hc=>?_) (fun hc=>?_)<;>(try simp only [SY] at hc)<;>omega))
   exact PRet.gen (y := .agg a.1.cells) (Γ' := [mkE b a.2]) (Wk.refl _) (And.intro rfl rfl)
  ·rw [if_neg h11] at hL
   have hxd : ∀ x ∈ l.drop 1, ExOk b ex x := fun x h => hx x (List.mem_of_mem_drop h)
   have hf : Grow 1 s (frsM s).2 := Grow.frs 0 s
   have hfn : (frsM s).2.n = s.n + 1 := rfl
   have hfc := fresh04_c b s h0 (by omega)
   generalize frsM s = x at *
   obtain ⟨g2, hc2⟩ := ih (by omega) (l.drop 1) (by omega) hxd x.2 (by omega) (by omega)
   generalize orM ex (l.drop 1) x.2 = r at *
   obtain ⟨g3, _⟩ := hx _ hm r.2 (by unfold Grow at g2; omega) (by unfold Grow at g2; omega)
   have hbc := bound04_c b ex x.1 (listD [symD kwIf, x.1, x.1, r.1]) (l[0]'(by omega)) (hx _ hm) r.2 (by unfold Grow at g2; omega) (by unfold Grow at g2; omega)
   have hg : Grow (l[0]'(by omega)).sz r.2 (bndM ex x.1 (listD [symD kwIf, x.1, x.1, r.1]) (l[0]'(by omega)) r.2).2 := g3
   rw [hL]
   generalize hq : bndM ex x.1 (listD [symD kwIf, x.1, x.1, r.1]) (l[0]'(by omega)) r.2 = q at *
   refine ⟨((hf.trans g2).trans hg).mono (by omega), ?_⟩
   refine ACall.of_body tt_ok Tryz.func176 rfl rfl (n := 99) rfl rfl ?_
   conv => whnf
   repeat' (first|refine aA2 ?_|((intro _);conv=>whnf)|(refine zX (fun hc=>?_) (fun hc=>?_)<;>(try simp only [SY] at hc)<;>first|omega|(conv=>whnf)))
   all_goals first
    | exact absurd ‹([111, 114] : List UInt8) = [119, 104, 101, 110] ∨ _› (by decide)
    | exact absurd (‹_ ∧ ([111, 114] : List UInt8) = [97, 110, 100]›).2 (by decide)
    | (exfalso; omega)
    | skip
   all_goals try exact absurd ‹([111, 114] : List UInt8) = [97, 110, 100]› (by decide)
   refine PCall.go hfc (WkT.refl _) ?_
   rintro _ _ ⟨rfl, rfl⟩
   conv => whnf
   repeat' (first|refine aA2 ?_|((intro _);conv=>whnf)|(refine zX (fun hc=>?_) (fun hc=>?_)<;>(try simp only [SY] at hc)<;>omega))
   refine PDraw.sE [mkE b x.2] [9,10,11] [15,16] tt_ok mixed ?_
   conv=>whnf
   repeat (first|refine aR2 ?_|((((apply zZ);(conv=>whnf);(repeat ((refine pC (sym04_c _) wR ?_);conv=>whnf));exact pZ));conv=>whnf))
   refine PCall.go hc2 (WkT.refl _) ?_
   rintro _ _ ⟨rfl, rfl⟩
   conv => whnf
   repeat' (first|refine aA2 ?_|((first|refine pC (list04_c) wR ?_|intro _);conv=>whnf)|(refine zX (fun hc=>?_) (fun hc=>?_)<;>(try simp only [SY] at hc)<;>omega))
   refine PCall.go hbc (WkT.refl _) ?_
   rintro _ _ ⟨rfl, rfl⟩
   conv => whnf
   repeat' (first|refine aA2 ?_|(refine zX (fun hc=>?_) (fun hc=>?_)<;>(try simp only [SY] at hc)<;>omega))
   exact PRet.gen (y := .agg q.1.cells) (Γ' := [mkE b q.2]) (Wk.refl _) (And.intro rfl rfl)
end Go.Cb

