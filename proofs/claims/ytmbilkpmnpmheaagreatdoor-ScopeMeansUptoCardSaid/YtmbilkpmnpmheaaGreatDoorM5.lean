/-
 Contracts: core data: names, lists, formals, bindings.
 Plain laws: numbers in order, each once.
 Contracts: the program's check of terms: variables are bound.
 Contracts: package slices with functions that change what they hold.
 Contracts: the program's check of terms: what is done at the end.
 Contracts: the program's check of terms: whether a term is right.
 Plain law: the program's check of a term and the document's answer alike.
 Plain law: the program's data and the document's are right alike.
 Contracts: the program's check of programs.
 Plain law: the program's check of programs and the document's answer alike.
 Plain law: what a check says of a program, and how it leans on the number of constants.
 Contracts: package slices: Grow, Concat, Index, Contains, of numbers.
 Contracts: all terms of a term, one by one.
 Contracts: how many terms.
 Contracts: what is sorted already: one number.
 Contracts: what is named and not bound: one variable.
 Plain laws: what a term names, binds; how deep it lies.
 Plain law: a core datum's term: its variables in order; more names bound, fewer lost.
 Plain law: how great what a core datum comes to is.
 Plain law: what a core datum's parts are.
 Contracts: core data: what is one.
 Contracts: the maker of terms: names, parts, primitives.
 Contracts: the document's maker of terms: lists, recursive bindings.
 Contracts: the maker of terms: binding, names, lists.
 Contracts: the document's maker of terms: recursive bindings.
 Contracts: the maker of terms: procedures.
-/
import Derived.Lib.SlicesCompact
import Derived.Test.YtmbilkpmnpmheaaGreatDoorM4
set_option linter.unusedSimpArgs false
set_option linter.unusedVariables false
namespace Go.Cb
open Go.Proofs
set_option maxRecDepth 100000
set_option maxHeartbeats 4000000
theorem Shift.ofGhostS {x : PV} {Γ Γ' : List Ent} (g : Ghost Γ Γ') : Shift x Γ x Γ' := fun w0 F M w v hS hx => by
 obtain ⟨F', e, h⟩ := g w0 F M w hS
 exact ⟨F', e, h, Rep.mono e _ _ hx⟩
def setS (l : List (List UInt8)) (v : Value) : Option PV := match v with
 | .string b => if l.contains b.data.toList then some .btrue else none
 | _ => none
theorem PLook.setS {r : Nat} {l : List (List UInt8)} {x : List UInt8} {Γ : List Ent} {pend : List (Int × Value)} {put : (Value → Option PV) → List (Int × Value) → List Ent} [hp : PickMp Γ r .string (Go.Cb.setS l) pend put] {K : PV → Bool → Prop} (h : K (.bool (l.contains x)) (l.contains x)) :
  PLook r .string (some (.string ⟨x.toArray⟩)) .bfalse Γ K :=
 PLook.at_ (hp := hp) (.bool (l.contains x)) (l.contains x) (by simp [IsK, MapKept.IsKey]) (fun p hp => by
  simp only [Go.Cb.setS] at hp
  split at hp
  ·rename_i hc; cases hp; exact ⟨Wk.tt hc, hc⟩
  ·cases hp) (fun hn => by
  simp only [Go.Cb.setS] at hn
  split at hn
  ·cases hn
  ·rename_i hc; simp only [Bool.not_eq_true] at hc; exact ⟨Wk.ff hc, hc⟩) h
theorem PMapPut.setS {r : Nat} {l : List (List UInt8)} {x : List UInt8} {Γ : List Ent} {pend : List (Int × Value)} {put : (Value → Option PV) → List (Int × Value) → List Ent} [hp : PickMp Γ r .string (Go.Cb.setS l) pend put] {K : List Ent → Prop} (h : K (put (Go.Cb.setS (l ++ [x])) pend)) (hq : Go.Cb.setS l (.string ⟨x.toArray⟩) ≠ none ∨ ∀ q ∈ pend, q.2 ≠ .tuple #[] := by right; simp) :
  PMapPut r .string (some (.string ⟨x.toArray⟩)) .btrue Γ K :=
 PMapPut.at_ (hp := hp) (Go.Cb.setS (l ++ [x])) (by simp [IsK, MapKept.IsKey]) (by simp [Go.Cb.setS]) (fun k hk => by
  unfold Go.Cb.setS
  split
  ·rename_i b
   have : ¬b.data.toList = x := fun e => hk (by rw [← e])
   simp [this]
  ·rfl) h hq
theorem setS_nil : setS [] = fun _ => none := by
 funext v
 unfold setS
 split <;> simp
theorem keyS_c (s : List UInt8) : ACallP Tryz.prog 51 [.str s] (.bool (keyB s)) := by
 refine ACall.of_body tt_ok Tryz.func51 rfl rfl (n := 24) rfl rfl ?_
 conv => whnf
 repeat' (first|refine aA2 ?_|(refine zX (fun hc=>?_) (fun hc=>?_)<;>(try simp only [SY] at hc)<;>(conv=>whnf)))
 all_goals first
  | contradiction
  | (subst hc; exact PRet.pure (Wk.tt rfl))
  | exact PRet.pure (Wk.ff (by simp [keyB, keysL, kwQuote, kwIf, kwLambda, kwSet, kwBegin, kwLetrec, kwLetrecS, kwDefine, kwLet, kwLetS, kwCond, kwCase, kwAnd, kwOr, kwWhen, kwUnless, kwDo, kwElse, kwTo, *]))
theorem varS_c (d : Datum) : ACallP Tryz.prog 98 [.agg d.cells] (.bool (varB d)) := by
 refine ACall.of_body tt_ok Tryz.func98 rfl rfl (n := 12) rfl rfl ?_
 conv => whnf
 repeat' (first|refine aA2 ?_|((first|(((apply zY;intro hg));(conv=>whnf);(repeat ((first|refine pC (keyS_c _) wR ?_|refine aH ?_);conv=>whnf));exact pZ)|intro _);conv=>whnf)|(refine zX (fun hc=>?_) (fun hc=>?_)<;>(try simp only [SY] at hc)<;>omega))
 exact PRet.pure (Wk.refl _)
theorem isS_c (d : Datum) (x : List UInt8) : ACallP Tryz.prog 100 [.agg d.cells, .str x] (.bool (isKw d x)) := by
 refine ACall.of_body tt_ok Tryz.func100 rfl rfl (n := 14) rfl rfl ?_
 conv => whnf
 repeat' (first|refine aA2 ?_|((intro _);conv=>whnf)|(refine zX (fun hc=>?_) (fun hc=>?_)<;>(try simp only [SY] at hc)<;>omega))
 exact PRet.pure (Wk.refl _)
theorem drSyn04aa {p q : Prop} (k : q) (h : q → p := by intro hq; first | exact PDraw.sP (some 19) rfl [] [3] tt_ok mixed hq) : p := h k
theorem splitS_c (d : Datum) (hp : d.pr = true) (hs : d.sz ≤ 1000000000) : ACall Tryz.prog 144 [.agg d.cells] [] (fun y Γ' => ∃ tk : Tok, tk.e = 24 ∧ y = .tup [.sl 5 (d.its.1.map Datum.pv) (some tk), .agg d.its.2.cells] ∧ Γ' = [.tok tk]) := by
 refine ACall.of_body tt_ok Tryz.func144 rfl rfl (n := 21) rfl rfl ?_
 conv => whnf
 repeat' (first|((intro _);conv=>whnf)|(refine zX (fun hc=>?_) (fun hc=>?_)<;>(try simp only [SY] at hc)<;>omega))
 rename_i b1 b3
 refine PLoop.gh (Ghost.nil 5 24 _) ?_
 refine PLoop.over [4, 5, 6, 7, 8, 9, 10, 11, 12, 13, 14, 15, 16, 17, 18] (fun x : Datum × List Datum × Tok => [(4, .sl 5 (x.2.1.map Datum.pv) (some x.2.2))]) (fun x : Datum × List Datum × Tok => [.box b1 (datC x.1), .tok x.2.2, resE b3])
  (fun x => x.1.pr = true ∧ x.1.sz + x.2.1.length ≤ d.sz ∧ x.2.2.e = 24 ∧ x.2.1 ++ x.1.its.1 = d.its.1 ∧ x.1.its.2 = d.its.2) (fun x => x.1.sz) (d, [], nilTok 5 24) ⟨hp, by simp, rfl, rfl, rfl⟩ wA ?_
 rintro ⟨D, m, t1⟩ ⟨hD, hm, ht, h1, h2⟩
 dsimp only at hD hm ht h1 h2 ⊢
 have hlen := fun h => Datum.pr_two hD h
 have hpos := D.sz_pos
 conv => whnf
 repeat' (first|refine aA2 ?_|((first|refine drSyn04aa ?_|intro _);conv=>whnf)|(refine zX (fun hc=>?_) (fun hc=>?_)<;>(try simp only [SY] at hc)<;>(conv=>whnf)))
 ·rename_i ta tb htb
  have h3 := hlen hc
  have e := D.its_pair hc h3
  have hz := D.sz_two h3
  have hp0 := (D.l[0]'(by omega)).sz_pos
  rw [e] at h1 h2
  exact loopTo (D.l[1]'(by omega), m ++ [D.l[0]'(by omega)], tb) ⟨Datum.pr_mem hD (List.getElem_mem _), by simp; omega, htb, by dsimp only; rw [List.append_assoc]; exact h1, h2⟩ (by show (D.l[1]'(by omega)).sz < D.sz; omega) wA
 ·have e := D.its_end hc
  rw [e] at h1 h2
  rw [List.append_nil] at h1
  have h2' : D = d.its.2 := h2
  rw [← h1, ← h2']
  exact PRet.gen (y := .tup [.sl 5 (m.map Datum.pv) (some t1), .agg D.cells]) (Γ' := [.tok t1]) (Wk.refl _) ⟨t1, ht, rfl, rfl⟩
theorem drSyn04ab {p q : Prop} (k : q) (h : q → p := by intro hq; first | exact PDraw.sP (some 11) rfl [] [] tt_ok mixed hq) : p := h k
theorem itemsS_c (d : Datum) (hp : d.pr = true) (hs : d.sz ≤ 1000000000) : ACallP Tryz.prog 99 [.agg d.cells] (.tup [.sl 5 (d.its.1.map Datum.pv) none, .bool (itemsB d)]) := by
 have hsp := splitS_c d hp hs
 have hI : itemsB d = (d.its.2.kind == 4) := rfl
 generalize d.its = D at *
 obtain ⟨L, E⟩ := D
 dsimp only at hsp hI ⊢
 refine ACall.of_body tt_ok Tryz.func99 rfl rfl (n := 15) rfl rfl ?_
 conv => whnf
 repeat' (first|refine aA2 ?_|((intro _);conv=>whnf)|(refine zX (fun hc=>?_) (fun hc=>?_)<;>(try simp only [SY] at hc)<;>omega))
 refine PCall.go (Γ1 := []) hsp (WkT.refl _) ?_
 rintro _ _ ⟨tk, h1, rfl, rfl⟩
 conv => whnf
 repeat' (first|refine aA2 ?_|((first|refine drSyn04ab ?_|intro _);conv=>whnf)|(refine zX (fun hc=>?_) (fun hc=>?_)<;>(try simp only [SY] at hc)<;>omega))
 rw [hI]
 exact PRet.pure (Wk.tup (.cons (Wk.tok _ _ _) (.cons (Wk.refl _) .nil)))
theorem distinctS_c (l : List Datum) (hl : l.length ≤ 1000000000) : ACallP Tryz.prog 103 [.sl 5 (l.map Datum.pv) none] (.bool (distB l [])) := by
 refine ACall.of_body tt_ok Tryz.func103 rfl rfl (n := 26) rfl rfl ?_
 conv => whnf
 repeat' (first|refine aA2 ?_|((intro _);conv=>whnf)|(refine zX (fun hc=>?_) (fun hc=>?_)<;>(try simp only [SY] at hc)<;>omega))
 rename_i r _
 rw [← setS_nil]
 refine PLoop.over [2, 5, 9, 10, 11, 12, 13, 14, 15, 16, 17, 18, 19, 20, 21, 22, 23, 24, 25] (fun z : Nat × List (List UInt8) => [(9, .int .i64 z.1)]) (fun z : Nat × List (List UInt8) => [.mp r .string (setS z.2) []]) (fun z => z.1 ≤ l.length ∧ distB (l.drop z.1) z.2 = distB l []) (fun z => l.length - z.1) (0, []) ⟨Nat.zero_le _, rfl⟩ wA ?_
 rintro ⟨i, met⟩ ⟨hi, he⟩
 dsimp only at hi he ⊢
 conv => whnf
 repeat' (first|((first|(((apply zY;intro hg));first|exact tB|((conv=>whnf);(repeat ((first|(refine PLook.setS ?_)|refine aH ?_);conv=>whnf));exact pZ))|refine aM ?_|(refine PMapPut.setS ?_)|refine pC (varS_c _) wR ?_|refine aF ?_|intro _|refine zG ?_);conv=>whnf)|(refine zX (fun hc=>?_) (fun hc=>?_)<;>(try simp only [SY] at hc)<;>(conv=>whnf)))
 ·have hlt : i < l.length := by omega
  rw [drop_at hlt, distB] at he
  have : (varB l[i] && !met.contains l[i].s) = false := by
   rcases hc with h | h
   ·rw [h]; rfl
   ·rw [h, Bool.not_true, Bool.and_false]
  rw [this, Bool.false_and] at he
  exact PRet.pure (Wk.ff he.symm)
 ·have hlt : i < l.length := by omega
  rw [drop_at hlt, distB, hc.1, hc.2, Bool.not_false, Bool.true_and, Bool.true_and] at he
  exact loopTo (i + 1, met ++ [l[i].s]) ⟨by show i + 1 ≤ _; omega, he⟩ (by show l.length - (i + 1) < l.length - i; omega) wA
 ·rw [List.drop_of_length_le (by omega), distB] at he
  exact PRet.pure (Wk.tt he.symm)
theorem formalsS_c (d : Datum) (hp : d.pr = true) (hs : d.sz ≤ 1000000000) : ACallP Tryz.prog 101 [.agg d.cells] (.bool (formalsB d)) := by
 have hsp := splitS_c d hp hs
 have hss := Datum.its_szs hp
 have hln := Datum.szs_len d.its.1
 have hI : formalsB d = distB (d.its.1 ++ if d.its.2.kind = 4 then [] else [d.its.2]) [] := rfl
 generalize d.its = D at *
 obtain ⟨L, E⟩ := D
 dsimp only at hsp hI hss hln ⊢
 rw [hI]
 refine ACall.of_body tt_ok Tryz.func101 rfl rfl (n := 19) rfl rfl ?_
 conv => whnf
 repeat' (first|refine aA2 ?_|((intro _);conv=>whnf)|(refine zX (fun hc=>?_) (fun hc=>?_)<;>(try simp only [SY] at hc)<;>omega))
 refine PCall.go (Γ1 := []) hsp (WkT.refl _) ?_
 rintro _ _ ⟨tk, h1, rfl, rfl⟩
 conv => whnf
 repeat' (first|refine aA2 ?_|((intro _);conv=>whnf)|(refine zX (fun hc=>?_) (fun hc=>?_)<;>(try simp only [SY] at hc)<;>(conv=>whnf)))
 ·rw [if_neg hc]
  refine pC (distinctS_c (L ++ [E]) (by simp; omega)) (.cons (Wk.tok _ _ _) .nil) ?_
  conv => whnf
  skip
  exact PRet.pure (Wk.refl _)
 ·rw [if_pos hc, List.append_nil]
  refine pC (distinctS_c L (by omega)) (.cons (Wk.tok _ _ _) .nil) ?_
  conv => whnf
  skip
  exact PRet.pure (Wk.refl _)
def BndS (d : Datum) (y : PV) (Γ' : List Ent) : Prop := ∃ (tk : Tok) (N V : List Datum), tk.e = 24 ∧ N.length ≤ d.sz ∧ V.length ≤ d.sz ∧ y = .tup [.sl 5 (N.map Datum.pv) none, .sl 5 (V.map Datum.pv) (some tk), .bool (bindsD d).isSome] ∧ (∀ b, bindsD d = some b → N = b.map Prod.fst ∧ V = b.map Prod.snd) ∧ Γ' = [.tok tk]
theorem drSyn04ac {p q : Prop} (k : q) (h : q → p := by intro hq; first | exact PDraw.sT (some 33) rfl [5] [11,12,13] tt_ok mixed hq) : p := h k
theorem bindingsS_c (d : Datum) (hp : d.pr = true) (hs : d.sz ≤ 1000000000) : ACall Tryz.prog 102 [.agg d.cells] [] (BndS d) := by
 have hX : ∀ x ∈ d.its.1, x.pr = true ∧ x.sz ≤ 1000000000 := fun x hx => by have := Datum.its_lt hp hx; exact ⟨this.2, by omega⟩
 have hLs := Datum.its_szs hp
 have hLl := Datum.szs_len d.its.1
 have hD : bindsD d = if itemsB d = true then bindsF d.its.1 else none := rfl
 have hI := itemsS_c d hp hs
 unfold BndS
 generalize bindsD d = O at *
 generalize hib : itemsB d = ib at *
 generalize d.its.1 = L at *
 refine ACall.of_body tt_ok Tryz.func102 rfl rfl (n := 49) rfl rfl ?_
 conv => whnf
 repeat' (first|refine aA2 ?_|((first|refine pC (hI) wR ?_|intro _);conv=>whnf)|(refine zX (fun hc=>?_) (fun hc=>?_)<;>(try simp only [SY] at hc)<;>omega))
 refine PLoop.gh (Ghost.trans (Ghost.nil 5 24 _) (Ghost.nil 5 24 _)) ?_
 refine PLoop.over [2, 3, 4, 7, 8, 9, 17, 18, 19, 20, 21, 22, 23, 24, 25, 26, 27, 28, 29, 30, 31, 32, 33, 34, 35, 36, 37, 38, 39, 40, 41, 42, 43, 44, 45] (fun x : Nat × List (Datum × Datum) × Tok × Tok => [(2, .sl 5 ((x.2.1.map Prod.fst).map Datum.pv) (some x.2.2.1)), (3, .sl 5 ((x.2.1.map Prod.snd).map Datum.pv) (some x.2.2.2)), (4, .bool ib), (17, .int .i64 x.1)]) (fun x : Nat × List (Datum × Datum) × Tok × Tok => [.tok x.2.2.1, .tok x.2.2.2])
  (fun x => x.1 ≤ L.length ∧ x.2.1.length = x.1 ∧ x.2.2.1.e = 24 ∧ x.2.2.2.e = 24 ∧ bindsF L = (bindsF (L.drop x.1)).map (x.2.1 ++ ·)) (fun x => L.length - x.1) (0, [], nilTok 5 24, nilTok 5 24) ⟨Nat.zero_le _, rfl, rfl, rfl, by simp⟩ wA ?_
 rintro ⟨i, acc, t1, t2⟩ ⟨hi, hal, ht1, ht2, he⟩
 dsimp only at hi hal ht1 ht2 he ⊢
 have hl1 : (acc.map Prod.fst).length = i := by rw [List.length_map, hal]
 have hl2 : (acc.map Prod.snd).length = i := by rw [List.length_map, hal]
 conv => whnf
 repeat' (first|refine aA2 ?_|((first|refine pC (itemsS_c _ (hX _ (List.getElem_mem _)).1 (hX _ (List.getElem_mem _)).2) wR ?_|refine drSyn04ac ?_|intro _);conv=>whnf)|(refine zX (fun hc=>?_) (fun hc=>?_)<;>(try simp only [SY] at hc)<;>(conv=>whnf)))
 ·have hlt : i < L.length := by omega
  have hn : bindsF (L.drop i) = none := by
   rw [drop_at hlt, bindsF, if_neg]
   rintro ⟨h1, h2⟩
   rcases hc with h | h
   ·rw [h1] at h; cases h
   ·omega
  have hO : O = none := by
   rw [hD, he, hn]
   split <;> rfl
  rw [hO]
  exact ⟨.tup [.sl 5 (([] : List Datum).map Datum.pv) none, .sl 5 (([] : List Datum).map Datum.pv) (some (nilTok 5 24)), .bool false], [.tok (nilTok 5 24)], Shift.trans (Shift.ofGhostS (Ghost.nil 5 24 _)) (Shift.wk (Wk.tup (.cons (Wk.nil' rfl) (.cons (Wk.nilTok 5 24) (.cons (Wk.ff rfl) .nil)))) (List.Perm.refl _)),
   nilTok 5 24, [], [], rfl, Nat.zero_le _, Nat.zero_le _, rfl, fun b h => (by cases h), rfl⟩
 ·rename_i ta hta td htd
  have hlt : i < L.length := by omega
  have h2 : L[i].its.1.length = 2 := by omega
  have hs1 : bindsF (L.drop i) = (bindsF (L.drop (i + 1))).map ((L[i].its.1.getD 0 nulD, L[i].its.1.getD 1 nulD) :: ·) := by
   rw [drop_at hlt, bindsF, if_pos ⟨hc.1, h2⟩]
  have e1 : acc.map Prod.fst ++ [L[i].its.1[0]'(by omega)] = (acc ++ [(L[i].its.1.getD 0 nulD, L[i].its.1.getD 1 nulD)]).map Prod.fst := by simp [datD_get, h2]
  have e2 : acc.map Prod.snd ++ [L[i].its.1[1]'(by omega)] = (acc ++ [(L[i].its.1.getD 0 nulD, L[i].its.1.getD 1 nulD)]).map Prod.snd := by simp [datD_get, h2]
  rw [e1, e2]
  refine loopTo (i + 1, acc ++ [(L[i].its.1.getD 0 nulD, L[i].its.1.getD 1 nulD)], ta, td) ⟨by show i + 1 ≤ _; omega, by simp; omega, hta, htd, ?_⟩ (by show L.length - (i + 1) < L.length - i; omega) wA
  rw [he, hs1]
  dsimp only
  cases bindsF (L.drop (i + 1)) <;> simp
 ·have hF : bindsF L = some acc := by rw [he, List.drop_of_length_le (by omega), bindsF]; simp
  have hO : O = if ib = true then some acc else none := by rw [hD, hF]
  have hOs : O.isSome = ib := by rw [hO]; cases ib <;> rfl
  refine PRet.gen (y := .tup [.sl 5 ((acc.map Prod.fst).map Datum.pv) none, .sl 5 ((acc.map Prod.snd).map Datum.pv) (some t2), .bool ib]) (Γ' := [.tok t2]) (Wk.tup (.cons (Wk.tok _ _ _) (.cons (Wk.refl _) (.cons (Wk.refl _) .nil)))) ⟨t2, acc.map Prod.fst, acc.map Prod.snd, ht2, by omega, by omega, by rw [hOs], fun b h => ?_, rfl⟩
  rw [hO] at h
  split at h
  ·cases h; exact ⟨rfl, rfl⟩
  ·cases h
end Go.Cb
namespace Go.Cb
open Go.Lib
end Go.Cb
namespace Go.Cb
open Go.Proofs
set_option maxRecDepth 100000
set_option maxHeartbeats 4000000
def numberP (consts codes : Int) (free : Bool) (t : Trm) (scope : List Int) : Bool :=
 if t.op = 0 then decide (t.n ≥ 0) && decide (t.n < consts) else
 if t.op = 1 ∨ t.op = 2 ∨ t.op = 14 then scope.contains t.n else
 if t.op = 11 ∨ t.op = 10 then decide (0 ≤ t.n ∧ t.n < 31) else
 if t.op = 4 then t.n == 0 || (t.n == 1 && decide ((t.v.length : Int) > 0)) else
 if t.op = 7 then t.n == 0 || t.n == 1 else
 if t.op = 19 ∨ t.op = 21 ∨ t.op = 22 then decide (t.n ≥ 0) && decide (t.n < codes) else
 if t.op = 20 then decide (t.n ≥ 0) && free else t.n == 0
theorem bindR_congr : ∀ (l b1 b2 : List Int), (∀ x, x ∈ b1 ↔ x ∈ b2) → (bindR l b1).1 = (bindR l b2).1
 | [], _, _, _ => rfl
 | v :: l, b1, b2, h => by
  have hv : vOk b1 v = vOk b2 v := by
   have : b1.contains v = b2.contains v := by rw [Bool.eq_iff_iff]; simp [h]
   unfold vOk; rw [this]
  rw [bindR, bindR, hv]
  split
  ·exact bindR_congr l _ _ (by intro x; simp [h])
  ·rfl
theorem bind2p_c (c rb rs : Nat) (level consts codes size : Int) (frees : Bool) (l bound scope : List Int) (pb ps : List (Int × Value)) :
  ACall Tryz.prog 90 [.ptr c 0, .sl 1 (l.map (PV.int .i64)) none, .mp rs] [.box c (cpC level consts codes size frees rb), .mp rb (.int .i64) (setM bound) pb, .mp rs (.int .i64) (setM scope) ps]
  (fun y Γ' => y = .bool (bindR l bound).1 ∧ ∃ pb' mb ms, Γ' = [.box c (cpC level consts codes size frees rb), .mp rb (.int .i64) mb pb', .mp rs (.int .i64) ms []] ∧ ((bindR l bound).1 = true → mb = setM (bound ++ l) ∧ ms = setM (scope ++ l))) := by
 refine ACall.ghost (Γ' := [.box c (cpC level consts codes size frees rb), .mp rb (.int .i64) (setM bound) [], .mp rs (.int .i64) (setM scope) []]) (Ghost.trans (Γ' := [.box c (cpC level consts codes size frees rb), .mp rb (.int .i64) (setM bound) [], .mp rs (.int .i64) (setM scope) ps]) (Ghost.pendE rb) (Ghost.pendE rs)) ?_
 refine ACall.of_body tt_ok Tryz.func90 rfl rfl (n := 39) rfl rfl ?_
 conv => whnf
 repeat (first|refine aR0 ?_|((intro _);conv=>whnf))
 refine PLoop.over [6, 8, 11, 12, 13, 14, 15, 16, 17, 18, 19, 20, 21, 22, 23, 24, 25, 26, 27, 28, 29, 30, 31, 32, 33, 34, 35, 36, 37, 38] (fun | ((i, bd, sc, pb) : Nat × List Int × List Int × List (Int × Value)) => [(11, .int .i64 i)])
  (fun x => [.box c (cpC level consts codes size frees rb), .mp rb (.int .i64) (setM x.2.1) x.2.2.2, .mp rs (.int .i64) (setM x.2.2.1) []])
  (fun | (i, bd, sc, pb) => i ≤ l.length ∧ (∀ x, x ∈ bd ↔ x ∈ bound ∨ x ∈ l.take i) ∧ (∀ x, x ∈ sc ↔ x ∈ scope ∨ x ∈ l.take i) ∧ (bindR (l.drop i) bd).1 = (bindR l bound).1 ∧ ∀ q ∈ pb, q.2 ≠ .tuple #[]) (fun | (i, _) => l.length - i) (0, bound, scope, [])
  ⟨by omega, by simp, by simp, rfl, by simp⟩ wA ?_
 rintro ⟨i, bd, sc, pb'⟩ ⟨hi, hbd, hsc, hr, hpb⟩
 conv => whnf
 repeat' (first|refine aA0 ?_|(refine zX (fun hc=>?_) (fun hc=>?_)<;>(try simp only [SY] at hc)<;>(conv=>whnf)))
 ·have hlt : i < l.length := by omega
  have hb : (bindR l bound).1 = false := by
   rw [← hr, drop_at hlt, bindR, if_neg (by simp only [vOk, SS]; rintro ⟨h, h'⟩; rw [h'] at hc; simp at hc; omega)]
  exact PRet.gen (Wk.ff hb) ⟨rfl, pb', setM bd, setM sc, rfl, fun h => by rw [hb] at h; cases h⟩
 ·have hlt : i < l.length := by omega
  refine PMapEntry.set hc.2 ?_ (.inr hpb)
  intro j
  conv => whnf
  refine PEntryStore.set ?_
  conv => whnf
  repeat (refine aR0 ?_)
  have htk : ∀ x, x ∈ l.take (i + 1) ↔ x = l[i] ∨ x ∈ l.take i := by
   intro x
   rw [List.take_succ_eq_append_getElem hlt, List.mem_append, List.mem_singleton, or_comm]
  refine loopTo (i + 1, l[i] :: bd, l[i] :: sc, (j, .int .i64 l[i]) :: pb') ⟨by omega, fun x => ?_, fun x => ?_, ?_, ?_⟩ (by show l.length - (i + 1) < l.length - i; omega) wA
  ·rw [htk, List.mem_cons, hbd]
   constructor
   ·rintro (h | h | h)
    ·exact .inr (.inl h)
    ·exact .inl h
    ·exact .inr (.inr h)
   ·rintro (h | h | h)
    ·exact .inr (.inl h)
    ·exact .inl h
    ·exact .inr (.inr h)
  ·rw [htk, List.mem_cons, hsc]
   constructor
   ·rintro (h | h | h)
    ·exact .inr (.inl h)
    ·exact .inl h
    ·exact .inr (.inr h)
   ·rintro (h | h | h)
    ·exact .inr (.inl h)
    ·exact .inl h
    ·exact .inr (.inr h)
  ·rw [← hr, drop_at hlt, bindR, if_pos (by simp only [vOk, SS]; exact hc)]
   exact bindR_congr _ _ _ (by intro x; simp [or_comm])
  ·intro q hq
   rcases List.mem_cons.1 hq with rfl | hq
   ·simp
   ·exact hpb q hq
 ·have hb : (bindR l bound).1 = true := by rw [← hr, List.drop_of_length_le (by omega), bindR]
  have ht : l.take i = l := List.take_of_length_le (by omega)
  rw [ht] at hbd hsc
  exact PRet.gen (Wk.tt hb) ⟨rfl, pb', setM bd, setM sc, rfl, fun _ => ⟨setM_congr (by simpa using hbd), setM_congr (by simpa using hsc)⟩⟩
theorem drChk06qaa {p q : Prop} (k : q) (h : q → p := by intro hq; first | exact PDraw.sP (some 13) rfl [] [] tt_ok mixed hq | exact PDraw.sP (some 73) rfl [] [] tt_ok mixed hq) : p := h k
theorem number2p_c (c rb rs : Nat) (level consts codes size : Int) (frees : Bool) (t : Trm) (scope : List Int) (ps : List (Int × Value)) :
  ACall Tryz.prog 88 [.ptr c 0, .agg t.cells, .mp rs] [.box c (cpC level consts codes size frees rb), .mp rs (.int .i64) (setM scope) ps]
  (fun y Γ' => y = .bool (numberP consts codes frees t scope) ∧ Γ' = [.box c (cpC level consts codes size frees rb), .mp rs (.int .i64) (setM scope) ps]) := by
 have hs : numberP consts codes frees t scope = numberP consts codes frees t scope := rfl
 conv at hs => rhs; unfold numberP
 refine ACall.of_body tt_ok Tryz.func88 rfl rfl (n := 99) rfl rfl ?_
 conv => whnf
 repeat' (first|refine aA0 ?_|((first|refine pC (Facts_c _) wR ?_|refine drChk06qaa ?_|intro _);conv=>whnf)|(refine zX (fun hc=>?_) (fun hc=>?_)<;>(try simp only [SY] at hc)<;>first|omega|(conv=>whnf)))
 all_goals repeat (first|rw [if_neg (by omega)] at hs|rw [if_pos (by omega)] at hs)
 all_goals rw [hs]
 all_goals exact PRet.gen (Wk.refl _) ⟨rfl, rfl⟩
end Go.Cb
namespace Go.Cb
open Go.Proofs
set_option maxRecDepth 100000
set_option maxHeartbeats 4000000
theorem indexFuncTrmS_c (k : Nat) (cap : List PV) (l : List Trm) (J : Nat → List Ent → Prop) (X : Nat → List Ent → Prop)
  (hf : ∀ i x Γ, l[i]? = some x → J i Γ → ACall Tryz.prog k (.agg (Trm.cells x) :: cap) Γ (fun y Γ' => (y = .bool false ∧ J (i + 1) Γ') ∨ (y = .bool true ∧ X i Γ'))) (Γ0 : List Ent) (h0 : J 0 Γ0) :
  ACall Tryz.prog 139 [.sl 4 (l.map Trm.pv) none, .fn (.func k) cap] Γ0 (fun y Γ' => (y = .int .i64 (-1) ∧ J l.length Γ') ∨ ∃ i : Nat, y = .int .i64 i ∧ i < l.length ∧ X i Γ') := by
 refine ACall.of_body tt_ok Tryz.func139 rfl rfl (n := 19) rfl rfl ?_
 conv => whnf
 repeat (first|refine aR0 ?_|((intro _);conv=>whnf))
 refine PLoop.over [4, 5, 8, 9, 10, 11, 12, 13, 14, 15, 16, 17, 18] (fun s : Nat × List Ent => [(8, .int .i64 s.1)]) (fun s => s.2) (fun s => s.1 ≤ l.length ∧ J s.1 s.2) (fun s => l.length - s.1) (0, Γ0) ⟨by omega, h0⟩ wA ?_
 rintro ⟨i, Γ⟩ ⟨h1, h2⟩
 conv => whnf
 repeat' (first|refine aA0 ?_|(refine zX (fun hc=>?_) (fun hc=>?_)<;>(try simp only [SY] at hc)<;>(conv=>whnf)))
 ·have hlt : i < l.length := by omega
  refine PCall.same (hf i _ Γ (List.getElem?_eq_getElem hlt) h2) (WkT.refl _) ?_
  rintro _ Γ' (⟨rfl, h⟩ | ⟨rfl, h⟩)
  ·conv => whnf
   repeat' (first|refine aA0 ?_|(refine zX (fun hc=>?_) (fun hc=>?_)<;>(try simp only [SY] at hc)<;>(conv=>whnf)))
   ·exact loopTo (i + 1, Γ') ⟨by omega, h⟩ (by show l.length - (i + 1) < l.length - i; omega) wA
  ·conv => whnf
   repeat' ((refine zX (fun hc=>?_) (fun hc=>?_)<;>(try simp only [SY] at hc)<;>(conv=>whnf)))
   ·exact PRet.gen (Wk.refl _) (.inr ⟨i, rfl, hlt, h⟩)
 ·obtain rfl : i = l.length := by omega
  exact PRet.gen (Wk.refl _) (.inl ⟨rfl, h2⟩)
theorem containsFuncTrmS_c (k : Nat) (cap : List PV) (l : List Trm) (J : Nat → List Ent → Prop) (X : Nat → List Ent → Prop)
  (hf : ∀ i x Γ, l[i]? = some x → J i Γ → ACall Tryz.prog k (.agg (Trm.cells x) :: cap) Γ (fun y Γ' => (y = .bool false ∧ J (i + 1) Γ') ∨ (y = .bool true ∧ X i Γ'))) (Γ0 : List Ent) (h0 : J 0 Γ0) :
  ACall Tryz.prog 91 [.sl 4 (l.map Trm.pv) none, .fn (.func k) cap] Γ0 (fun y Γ' => (y = .bool false ∧ J l.length Γ') ∨ ∃ i : Nat, y = .bool true ∧ i < l.length ∧ X i Γ') := by
 refine ACall.of_body tt_ok Tryz.func91 rfl rfl (n := 9) rfl rfl ?_
 conv => whnf
 skip
 refine PCall.same (indexFuncTrmS_c k cap l J X hf Γ0 h0) (WkT.refl _) ?_
 rintro _ Γ' (⟨rfl, h⟩ | ⟨i, rfl, hi, h⟩)
 ·conv => whnf
  skip
  exact PRet.gen (Wk.bool rfl) (.inl ⟨rfl, h⟩)
 ·conv => whnf
  skip
  exact PRet.gen (Wk.bool (by simp)) (.inr ⟨i, rfl, hi, h⟩)
end Go.Cb
namespace Go.Cb
open Go.Proofs
set_option maxRecDepth 100000
set_option maxHeartbeats 4000000
def delS (s : List Int) (m : Value → Option PV) (v : Value) : Option PV := match v with
 | .int .i64 k => if s.contains k then none else m v
 | v => m v
theorem delS_nil (m : Value → Option PV) : delS [] m = m := by
 funext v; unfold delS; split <;> simp
theorem PMapDel.dels {r : Nat} {s : List Int} {n : Int} {m : Value → Option PV} {Γ : List Ent} {pend : List (Int × Value)} {put : (Value → Option PV) → List (Int × Value) → List Ent} [hp : PickMp Γ r (.int .i64) (delS s m) pend put] {K : List Ent → Prop} (h : K (put (delS (s ++ [n]) m) [])) :
  PMapDel r (.int .i64) (some (.int .i64 n)) Γ K :=
 PMapDel.at_ (hp := hp) (delS (s ++ [n]) m) (by simp [IsK, MapKept.IsKey]) (by simp [delS]) (fun k hk => by
  unfold delS
  split
  ·rename_i m
   have hm : m ≠ n := fun e => hk (by rw [e])
   have : (s ++ [n]).contains m = s.contains m := by rw [Bool.eq_iff_iff]; simp [hm]
   rw [this]
  ·rfl) h
theorem delS_setM (v scope : List Int) (h : ∀ x ∈ scope, x ∉ v) : delS v (setM (scope ++ v)) = setM scope := by
 funext k
 unfold delS setM
 split
 ·rename_i n
  by_cases h1 : n ∈ v
  ·have : n ∉ scope := fun h2 => h n h2 h1
   simp [h1, this]
  ·simp [h1]
 ·rename_i hne
  split
  ·rename_i n; exact absurd rfl (hne n)
  ·rfl
theorem defer_c (b5 b6 rs : Nat) (op n : Int) (v : List Int) (ts : List PV) (m : Value → Option PV) (ps : List (Int × Value)) :
  ACallD Tryz.prog 89 [.ptr b5 0, .ptr b6 0] [.box b5 [.int .i64 op, .int .i64 n, .sl 1 (v.map (PV.int .i64)) none, .sl 4 ts none], .box b6 [.mp rs], .mp rs (.int .i64) m ps]
  (fun _ Γ' => ∃ ps', Γ' = [.box b5 [.int .i64 op, .int .i64 n, .sl 1 (v.map (PV.int .i64)) none, .sl 4 ts none], .box b6 [.mp rs], .mp rs (.int .i64) (delS v m) ps']) := by
 have key : ACallD Tryz.prog 89 [.ptr b5 0, .ptr b6 0] [.box b5 [.int .i64 op, .int .i64 n, .sl 1 (v.map (PV.int .i64)) none, .sl 4 ts none], .box b6 [.mp rs], .mp rs (.int .i64) (delS (v.take 0) m) ps]
   (fun _ Γ' => ∃ ps', Γ' = [.box b5 [.int .i64 op, .int .i64 n, .sl 1 (v.map (PV.int .i64)) none, .sl 4 ts none], .box b6 [.mp rs], .mp rs (.int .i64) (delS v m) ps']) := by
  refine ACallD.of_body tt_ok Tryz.func89 rfl rfl (n := 14) rfl rfl ?_
  conv => whnf
  repeat (first|refine aR0 ?_|((intro _);conv=>whnf))
  refine PLoop.over [3, 7, 8, 9, 10, 11, 12, 13] (fun (x : Nat × List (Int × Value)) => [(7, .int .i64 x.1)])
   (fun (x : Nat × List (Int × Value)) => [.box b5 [.int .i64 op, .int .i64 n, .sl 1 (v.map (PV.int .i64)) none, .sl 4 ts none], .box b6 [.mp rs], .mp rs (.int .i64) (delS (v.take x.1) m) x.2]) (fun x => x.1 ≤ v.length) (fun x => v.length - x.1) (0, ps) (by simp) wA ?_
  rintro ⟨i, ps'⟩ hi
  conv => whnf
  repeat' (first|refine aA0 ?_|(refine zX (fun hc=>?_) (fun hc=>?_)<;>(try simp only [SY] at hc)<;>(conv=>whnf)))
  ·have hlt : i < v.length := by omega
   refine PMapDel.dels ?_
   conv => whnf
   repeat (refine aR0 ?_)
   show LoopTo _ _ _ _ _ _ _ _ _ [_, _, .mp rs (.int .i64) (delS (v.take i ++ [v[i]]) m) []] _
   rw [← List.take_succ_eq_append_getElem hlt]
   exact loopTo (i + 1, []) (by show i + 1 ≤ v.length; omega) (by show v.length - (i + 1) < v.length - i; omega) wA
  ·refine ⟨rfl, ?_⟩
   have ht : v.take i = v := List.take_of_length_le (by omega)
   show retK _ _ _ [_, _, .mp rs (.int .i64) (delS (v.take i) m) ps'] _
   rw [ht]
   conv => whnf
   exact PRet.gen (Wk.refl _) ⟨ps', rfl⟩
 rw [List.take_zero, delS_nil] at key
 exact key
end Go.Cb
namespace Go.Cb
open Go.Proofs
set_option maxRecDepth 100000
set_option maxHeartbeats 4000000
def badP (level consts codes : Int) (free : Bool) (t : Trm) (scope : List Int) (deep size : Int) : Bool :=
 !(shapeL t.op).2 || decide (deep > 400) || decide (size > 20000) || decide (level < (shapeL t.op).1.fm) || decide (level > (shapeL t.op).1.to) || !fitsL (shapeL t.op).1 t || !numberP consts codes free t scope
mutual
def Trm.ckP (level consts codes : Int) (free : Bool) : Trm → List Int → Int → Int → List Int → Option (Int × List Int)
 | .mk op n v t, scope, deep, size, bound =>
  if badP level consts codes free (.mk op n v t) scope deep (size + 1) = true then none else
  if groupB op = true then
   if (op == 9 && !procsL level t.dropLast) = true then none else if (bindR v bound).1 = true then Trm.cksG level consts codes free (scope ++ v) t (deep + 1) (size + 1) (bound ++ v) else none
  else Trm.cksI level consts codes free scope v t (deep + 1) (size + 1) bound
def Trm.cksG (level consts codes : Int) (free : Bool) (scope : List Int) : List Trm → Int → Int → List Int → Option (Int × List Int)
 | [], _, size, bound => some (size, bound)
 | x :: xs, deep, size, bound =>
  match Trm.ckP level consts codes free x scope deep size bound with
  | none => none
  | some (s, b) => Trm.cksG level consts codes free scope xs deep s b
def Trm.cksI (level consts codes : Int) (free : Bool) (scope v : List Int) : List Trm → Int → Int → List Int → Option (Int × List Int)
 | [], _, size, bound => if (bindR v bound).1 = true then some (size, bound ++ v) else none
 | x :: xs, deep, size, bound =>
  if xs.isEmpty = true then (if (bindR v bound).1 = true then Trm.ckP level consts codes free x (scope ++ v) deep size (bound ++ v) else none) else
  match Trm.ckP level consts codes free x scope deep size bound with
  | none => none
  | some (s, b) => Trm.cksI level consts codes free scope v xs deep s b
end
theorem Trm.ckP_eq (level consts codes : Int) (free : Bool) (t : Trm) (scope : List Int) (deep size : Int) (bound : List Int) : t.ckP level consts codes free scope deep size bound =
  if badP level consts codes free t scope deep (size + 1) = true then none else
  if groupB t.op = true then
   if (t.op == 9 && !procsL level t.t.dropLast) = true then none else if (bindR t.v bound).1 = true then Trm.cksG level consts codes free (scope ++ t.v) t.t (deep + 1) (size + 1) (bound ++ t.v) else none
  else Trm.cksI level consts codes free scope t.v t.t (deep + 1) (size + 1) bound := by
 cases t; rw [Trm.ckP]; rfl
theorem Trm.ckP_bd (level consts codes : Int) (free : Bool) (x : Trm) : ∀ (scope : List Int) (deep size : Int) (bound : List Int) (s : Int) (b : List Int), x.ckP level consts codes free scope deep size bound = some (s, b) →
  size < s ∧ s ≤ 20000 ∧ ∀ v ∈ bound, v ∈ b := by
 induction x using Trm.ind with
 | h x ih =>
  intro scope deep size bound s b h
  rw [Trm.ckP_eq] at h
  split at h
  ·cases h
  rename_i hc
  have hsz : size + 1 ≤ 20000 := by simp [badP] at hc; omega
  split at h
  ·split at h
   ·cases h
   split at h
   ·have key : ∀ (l : List Trm), (∀ y ∈ l, ∀ (scope : List Int) (deep size : Int) (bound : List Int) (s : Int) (b : List Int), y.ckP level consts codes free scope deep size bound = some (s, b) → size < s ∧ s ≤ 20000 ∧ ∀ v ∈ bound, v ∈ b) →
      ∀ (sc : List Int) (deep size : Int) (bound : List Int) (s : Int) (b : List Int), size ≤ 20000 → Trm.cksG level consts codes free sc l deep size bound = some (s, b) → size ≤ s ∧ s ≤ 20000 ∧ ∀ v ∈ bound, v ∈ b := by
     intro l
     induction l with
     | nil => intro _ sc deep size bound s b h0 h; rw [Trm.cksG] at h; cases h; exact ⟨by omega, by omega, fun _ h => h⟩
     | cons y l ihl =>
      intro hy sc deep size bound s b h0 h
      rw [Trm.cksG] at h
      split at h
      ·cases h
      ·rename_i s1 b1 h1
       have e1 := hy y (by simp) _ _ _ _ _ _ h1
       have e2 := ihl (fun z hz => hy z (by simp [hz])) _ _ _ _ _ _ (by omega) h
       exact ⟨by omega, e2.2.1, fun v hv => e2.2.2 v (e1.2.2 v hv)⟩
    have := key x.t ih _ _ _ _ _ _ hsz h
    exact ⟨by omega, this.2.1, fun v hv => this.2.2 v (by simp [hv])⟩
   ·cases h
  ·have key : ∀ (l : List Trm), (∀ y ∈ l, ∀ (scope : List Int) (deep size : Int) (bound : List Int) (s : Int) (b : List Int), y.ckP level consts codes free scope deep size bound = some (s, b) → size < s ∧ s ≤ 20000 ∧ ∀ v ∈ bound, v ∈ b) →
     ∀ (sc : List Int) (deep size : Int) (bound : List Int) (s : Int) (b : List Int), size ≤ 20000 → Trm.cksI level consts codes free sc x.v l deep size bound = some (s, b) → size ≤ s ∧ s ≤ 20000 ∧ ∀ v ∈ bound, v ∈ b := by
    intro l
    induction l with
    | nil =>
     intro _ sc deep size bound s b h0 h
     rw [Trm.cksI] at h
     split at h
     ·cases h; exact ⟨by omega, by omega, fun _ h => by simp [h]⟩
     ·cases h
    | cons y l ihl =>
     intro hy sc deep size bound s b h0 h
     rw [Trm.cksI] at h
     split at h
     ·split at h
      ·have e1 := hy y (by simp) _ _ _ _ _ _ h
       exact ⟨by omega, e1.2.1, fun v hv => e1.2.2 v (by simp [hv])⟩
      ·cases h
     split at h
     ·cases h
     ·rename_i s1 b1 h1
      have e1 := hy y (by simp) _ _ _ _ _ _ h1
      have e2 := ihl (fun z hz => hy z (by simp [hz])) _ _ _ _ _ _ (by omega) h
      exact ⟨by omega, e2.2.1, fun v hv => e2.2.2 v (e1.2.2 v hv)⟩
   have := key x.t ih _ _ _ _ _ _ hsz h
   exact ⟨by omega, this.2⟩
def rPost (c rb rs : Nat) (level consts codes : Int) (free : Bool) (scope : List Int) (r : Option (Int × List Int)) (y : PV) (Γ' : List Ent) : Prop :=
 y = .bool r.isSome ∧ ∃ size' mb ms pb' ps', Γ' = [.box c (cpC level consts codes size' free rb), .mp rb (.int .i64) mb pb', .mp rs (.int .i64) ms ps'] ∧ ∀ s b, r = some (s, b) → size' = s ∧ mb = setM b ∧ ms = setM scope
theorem right2p_c (c rb rs b4 b6 b7 : Nat) (level consts codes : Int) (free : Bool) (x : Trm) (scope : List Int) (deep size : Int) (bound : List Int) (pb ps : List (Int × Value)) (hd0 : 0 ≤ deep) (hd1 : deep ≤ 400)
  (hx : ACall Tryz.prog 44 [.ptr c 0, .agg x.cells, .mp rs, .int .i64 (deep + 1)] [.box c (cpC level consts codes size free rb), .mp rb (.int .i64) (setM bound) pb, .mp rs (.int .i64) (setM scope) ps]
   (rPost c rb rs level consts codes free scope (x.ckP level consts codes free scope (deep + 1) size bound))) :
  ACall Tryz.prog 92 [.agg x.cells, .ptr b4 0, .ptr b6 0, .ptr b7 0] [.box c (cpC level consts codes size free rb), .mp rb (.int .i64) (setM bound) pb, .mp rs (.int .i64) (setM scope) ps, .box b4 [.ptr c 0], .box b6 [.mp rs], .box b7 [.int .i64 deep]]
   (fun y Γ' => ∃ size' mb ms pb' ps', y = .bool (!(x.ckP level consts codes free scope (deep + 1) size bound).isSome) ∧ Γ' = [.box c (cpC level consts codes size' free rb), .mp rb (.int .i64) mb pb', .mp rs (.int .i64) ms ps', .box b4 [.ptr c 0], .box b6 [.mp rs], .box b7 [.int .i64 deep]] ∧
    ∀ s b, x.ckP level consts codes free scope (deep + 1) size bound = some (s, b) → size' = s ∧ mb = setM b ∧ ms = setM scope) := by
 refine ACall.of_body tt_ok Tryz.func92 rfl rfl (n := 13) rfl rfl ?_
 conv => whnf
 repeat' (first|refine aA0 ?_|((intro _);conv=>whnf)|(refine zX (fun hc=>?_) (fun hc=>?_)<;>(try simp only [SY] at hc)<;>omega))
 refine PCall.go hx (WkT.refl _) ?_
 rintro _ _ ⟨rfl, sz2, mb, ms, pb2, ps2, rfl, hs⟩
 conv => whnf
 skip
 exact PRet.gen (Wk.refl _) ⟨sz2, mb, ms, pb2, ps2, rfl, rfl, hs⟩
theorem all2p_c (c rb rs b4 b6 b7 : Nat) (level consts codes : Int) (free : Bool) (l : List Trm) (scope : List Int) (deep : Int) (hd0 : 0 ≤ deep) (hd1 : deep ≤ 400)
  (ih : ∀ x ∈ l, ∀ (size : Int) (bound : List Int) (pb ps : List (Int × Value)), 0 ≤ size → size ≤ 20000 → (∀ x ∈ scope, x ∈ bound) → ACall Tryz.prog 44 [.ptr c 0, .agg x.cells, .mp rs, .int .i64 (deep + 1)] [.box c (cpC level consts codes size free rb), .mp rb (.int .i64) (setM bound) pb, .mp rs (.int .i64) (setM scope) ps]
   (rPost c rb rs level consts codes free scope (x.ckP level consts codes free scope (deep + 1) size bound)))
  (size : Int) (bound : List Int) (pb ps : List (Int × Value)) (hs0 : 0 ≤ size) (hs1 : size ≤ 20000) (hsub : ∀ x ∈ scope, x ∈ bound) :
  ACall Tryz.prog 91 [.sl 4 (l.map Trm.pv) none, .fn (.func 92) [.ptr b4 0, .ptr b6 0, .ptr b7 0]] [.box c (cpC level consts codes size free rb), .mp rb (.int .i64) (setM bound) pb, .mp rs (.int .i64) (setM scope) ps, .box b4 [.ptr c 0], .box b6 [.mp rs], .box b7 [.int .i64 deep]]
   (fun y Γ' => ∃ size' mb ms pb' ps', y = .bool (!(Trm.cksG level consts codes free scope l (deep + 1) size bound).isSome) ∧ Γ' = [.box c (cpC level consts codes size' free rb), .mp rb (.int .i64) mb pb', .mp rs (.int .i64) ms ps', .box b4 [.ptr c 0], .box b6 [.mp rs], .box b7 [.int .i64 deep]] ∧
    ∀ s b, Trm.cksG level consts codes free scope l (deep + 1) size bound = some (s, b) → size' = s ∧ mb = setM b ∧ ms = setM scope) := by
 refine (containsFuncTrmS_c 92 [.ptr b4 0, .ptr b6 0, .ptr b7 0] l
  (fun i Γ => ∃ sz bd pb ps, Γ = [.box c (cpC level consts codes sz free rb), .mp rb (.int .i64) (setM bd) pb, .mp rs (.int .i64) (setM scope) ps, .box b4 [.ptr c 0], .box b6 [.mp rs], .box b7 [.int .i64 deep]] ∧ 0 ≤ sz ∧ sz ≤ 20000 ∧ (∀ x ∈ scope, x ∈ bd) ∧ Trm.cksG level consts codes free scope l (deep + 1) size bound = Trm.cksG level consts codes free scope (l.drop i) (deep + 1) sz bd)
  (fun _ Γ => ∃ sz mb ms pb ps, Γ = [.box c (cpC level consts codes sz free rb), .mp rb (.int .i64) mb pb, .mp rs (.int .i64) ms ps, .box b4 [.ptr c 0], .box b6 [.mp rs], .box b7 [.int .i64 deep]] ∧ Trm.cksG level consts codes free scope l (deep + 1) size bound = none)
  ?_ _ ⟨size, bound, pb, ps, rfl, hs0, hs1, hsub, rfl⟩).mono ?_
 ·rintro i x _ hx ⟨sz, bd, pb, ps, rfl, h0, h1, h2, h3⟩
  obtain ⟨hi, rfl⟩ := List.getElem?_eq_some_iff.1 hx
  refine (right2p_c c rb rs b4 b6 b7 level consts codes free l[i] scope deep sz bd pb ps hd0 hd1 (ih _ (List.getElem_mem _) sz bd pb ps h0 h1 h2)).mono ?_
  rintro _ _ ⟨sz2, mb, ms, pb2, ps2, rfl, rfl, hs⟩
  rw [drop_at hi, Trm.cksG] at h3
  cases e : Trm.ckP level consts codes free l[i] scope (deep + 1) sz bd with
  | none => rw [e] at h3; exact .inr ⟨by simp [PV.bool], sz2, mb, ms, pb2, ps2, rfl, h3⟩
  | some q =>
   obtain ⟨s1, b1⟩ := q
   obtain ⟨rfl, rfl, rfl⟩ := hs s1 b1 e
   have hbd := Trm.ckP_bd _ _ _ _ _ _ _ _ _ _ _ e
   rw [e] at h3
   exact .inl ⟨by simp [PV.bool], sz2, b1, pb2, ps2, rfl, by omega, hbd.2.1, fun x h => hbd.2.2 x (h2 x h), h3⟩
 ·rintro _ _ (⟨rfl, sz, bd, pb, ps, rfl, h0, h1, h2, h3⟩ | ⟨i, rfl, hi, sz, mb, ms, pb, ps, rfl, h3⟩)
  ·rw [List.drop_length, Trm.cksG] at h3
   rw [h3]
   exact ⟨sz, setM bd, setM scope, pb, ps, rfl, rfl, fun s b h => by cases h; exact ⟨rfl, rfl, rfl⟩⟩
  ·rw [h3]
   exact ⟨sz, mb, ms, pb, ps, rfl, rfl, fun s b h => by cases h⟩
theorem cksI_end {level consts codes : Int} {free : Bool} {scope v : List Int} {l : List Trm} {deep size : Int} {bound : List Int} (h : l.length ≤ 1) :
  Trm.cksI level consts codes free scope v l deep size bound = if (bindR v bound).1 = true then Trm.cksG level consts codes free (scope ++ v) l deep size (bound ++ v) else none := by
 match l, h with
 | [], _ => rw [Trm.cksI, Trm.cksG]
 | [x], _ =>
  rw [Trm.cksI, if_pos (show ([] : List Trm).isEmpty = true from rfl), Trm.cksG]
  split
  ·cases hx : Trm.ckP level consts codes free x (scope ++ v) deep size (bound ++ v) with
   | none => rfl
   | some q => obtain ⟨s, b⟩ := q; simp only [Trm.cksG]
  ·rfl
 | _ :: _ :: _, h => simp at h
theorem bindR_apart : ∀ {l bound : List Int}, (bindR l bound).1 = true → ∀ x, x ∈ l → x ∈ bound → False
 | [], _, _, _, h, _ => by cases h
 | v :: l, bound, h, x, hx, hb => by
  rw [bindR] at h
  split at h
  ·rename_i hv
   rcases List.mem_cons.1 hx with rfl | hx
   ·simp [vOk, hb] at hv
   ·exact bindR_apart h x hx (by simp [hb])
  ·cases h
theorem right_end {r ck : Option (Int × List Int)} {a : Int} {b : Bool} (hck : ck = if (a == 9 && !b) = true then none else r) : (!!r.isSome && (a != 9 || b)) = ck.isSome := by
 subst hck
 cases h : a == 9 <;> cases b <;> cases r <;> simp_all [bne]
theorem fits9 {t : Trm} (h : fitsL (shapeL t.op).1 t = true) (h9 : t.op = 9) : 1 ≤ t.t.length := by
 have e : shapeL 9 = (⟨1, 3, 0, false, true⟩, true) := rfl
 rw [h9, e] at h
 simp [fitsL, h9] at h
 omega
theorem drChk06raa {p q : Prop} (k : q) (h : q → p := by intro hq; first | exact PDraw.sP (some 27) rfl [] [41,42,43] tt_ok mixed hq | exact PDraw.sP (some 83) rfl [] [9,10] tt_ok mixed hq | exact PDraw.sP (some 106) rfl [] [17,18,19,20] tt_ok mixed hq) : p := h k
theorem rightp_c (c rb rs : Nat) (level consts codes : Int) (free : Bool) (t : Trm) : ∀ (scope : List Int) (deep size : Int) (bound : List Int) (pb ps : List (Int × Value)), 0 ≤ deep → deep ≤ 401 → 0 ≤ size → size ≤ 20000 → (∀ x ∈ scope, x ∈ bound) → t.bulk ≤ 1000000000 →
  ACall Tryz.prog 44 [.ptr c 0, .agg t.cells, .mp rs, .int .i64 deep] [.box c (cpC level consts codes size free rb), .mp rb (.int .i64) (setM bound) pb, .mp rs (.int .i64) (setM scope) ps]
  (rPost c rb rs level consts codes free scope (t.ckP level consts codes free scope deep size bound)) := by
 induction t using Trm.ind with
 | h t ih =>
  intro scope deep size bound pb ps hd0 hd1 hs0 hs1 hsub hbk
  have hbe := t.bulk_eq
  have hlv := Trm.bulks_length t.t
  have hr := t.ckP_eq level consts codes free scope deep size bound
  refine ACall.of_body tt_ok Tryz.func44 rfl rfl (n := 126) rfl rfl ?_
  conv => whnf
  repeat' (first|refine aA0 ?_|((first|(((apply zY;intro hg));(conv=>whnf);(repeat ((first|refine pC (fits_c (shapeL t.op).1 t OA) wR ?_|refine PCall.read (number2p_c c rb rs level consts codes (size + 1) free t scope ps) wR ?_|refine aG ?_);conv=>whnf));exact pZ)|refine pC (shapeOf_c _) wR ?_|refine pC (group_c t) wR ?_|refine drChk06raa ?_|intro _);conv=>whnf)|(refine zX (fun hc=>?_) (fun hc=>?_)<;>(try simp only [SY] at hc)<;>(conv=>whnf)))
  ·rw [hr, if_pos (by simp only [badP, SS]; exact hc)]
   exact PRet.gen (y := .bool false) (Wk.ff rfl) ⟨rfl, size + 1, setM bound, setM scope, pb, ps, rfl, fun _ _ h => by cases h⟩
  all_goals
   rename_i b4 b5 b6 b7 b9 hgood hlen
   have hfx : t.op = 9 → 1 ≤ t.t.length := fits9 hgood.1.2
   rw [if_neg (by simp only [badP, SS]; intro h; obtain ⟨⟨⟨⟨⟨⟨g1, g2⟩, g3⟩, g4⟩, g5⟩, g6⟩, g7⟩ := hgood; simp only [g1, g6, g7, Bool.true_eq_false, or_false, false_or] at h; omega)] at hr
  ·have hgr := hc
   rw [if_neg (by rw [hc]; simp)] at hr
   refine PLoop.over [8, 12, 78, 79, 80, 81, 82, 83, 84, 85, 86, 87, 88, 89, 90, 91, 92, 93] (fun (x : Nat × Int × List Int × List (Int × Value) × List (Int × Value)) => [(12, .int .i64 x.1)])
    (fun (x : Nat × Int × List Int × List (Int × Value) × List (Int × Value)) => [.box b9 (shapeL t.op).1.cells, .box b7 [.int .i64 deep], .box b6 [.mp rs], .box b5 [.int .i64 t.op, .int .i64 t.n, .sl 1 (t.v.map (PV.int .i64)) none, .sl 4 (t.t.map Trm.pv) none], .box b4 [.ptr c 0],
     .box c (cpC level consts codes x.2.1 free rb), .mp rb (.int .i64) (setM x.2.2.1) x.2.2.2.1, .mp rs (.int .i64) (setM scope) x.2.2.2.2])
    (fun | (k, sz, bd, pb, ps) => (k = 0 ∨ k < t.t.length) ∧ 0 ≤ sz ∧ sz ≤ 20000 ∧ (∀ x ∈ bound, x ∈ bd) ∧ t.ckP level consts codes free scope deep size bound = Trm.cksI level consts codes free scope t.v (t.t.drop k) (deep + 1) sz bd) (fun | (k, _) => t.t.length - k) (0, size + 1, bound, pb, ps)
    ⟨.inl rfl, by omega, by omega, fun _ h => h, by rw [hr]; rfl⟩ wA ?_
   rintro ⟨k, sz, bd, pb', ps'⟩ ⟨hk, hz0, hz1, hsb, hck⟩
   dsimp only
   conv => whnf
   repeat' (first|refine aA0 ?_|((refine drChk06raa ?_);conv=>whnf)|(refine zX (fun hc=>?_) (fun hc=>?_)<;>(try simp only [SY] at hc)<;>(conv=>whnf)))
   ·have hlt : k < t.t.length := by omega
    have hbm := Trm.bulks_mem (List.getElem_mem hlt)
    rw [drop_at hlt, Trm.cksI, if_neg (by rw [List.isEmpty_iff, List.drop_eq_nil_iff]; omega)] at hck
    refine PCall.go (ih t.t[k] (List.getElem_mem _) scope (deep + 1) sz bd pb' ps' (by omega) (by omega) hz0 hz1 (fun x h => hsb x (hsub x h)) (by omega)) (WkT.refl _) ?_
    rintro _ _ ⟨rfl, sz2, mb, ms, pb2, ps2, rfl, hs⟩
    conv => whnf
    repeat' (first|refine aA0 ?_|(refine zX (fun hc=>?_) (fun hc=>?_)<;>(try simp only [SY] at hc)<;>(conv=>whnf)))
    ·have hn := hc
     rw [Option.isSome_eq_false_iff, Option.isNone_iff_eq_none] at hn
     rw [hn] at hck
     exact PRet.gen (y := .bool false) (Wk.ff rfl) ⟨by rw [hck]; rfl, sz2, mb, ms, pb2, ps2, rfl, fun _ _ h => by rw [hck] at h; cases h⟩
    ·obtain ⟨⟨s1, b1⟩, e⟩ := Option.isSome_iff_exists.mp hc
     obtain ⟨rfl, rfl, rfl⟩ := hs s1 b1 e
     have hbd := Trm.ckP_bd _ _ _ _ _ _ _ _ _ _ _ e
     rw [e] at hck
     exact loopTo (k + 1, sz2, b1, pb2, ps2) ⟨.inr (by omega), by show (0 : Int) ≤ sz2; omega, hbd.2.1, fun x h => hbd.2.2 x (hsb x h), hck⟩ (by show t.t.length - (k + 1) < t.t.length - k; omega) wA
   ·rw [cksI_end (by rw [List.length_drop]; omega)] at hck
    have hop : t.op ≠ 9 := fun h => by simp [groupB, h] at hgr
    have hdk : (if (t.t.length : Int) - 1 < 0 then 0 else (t.t.length : Int) - 1).toNat = k := by split <;> omega
    have hck : t.ckP level consts codes free scope deep size bound = if (t.op == 9 && !procsL level t.t.dropLast) = true then none else if (bindR t.v bd).1 = true then Trm.cksG level consts codes free (scope ++ t.v) (t.t.drop (if (t.t.length : Int) - 1 < 0 then 0 else (t.t.length : Int) - 1).toNat) (deep + 1) sz (bd ++ t.v) else none := by
     rw [if_neg (by simp [hop]), hdk]; exact hck
    have hgc : ACallP Tryz.prog 81 [.agg t.cells] (.bool false) := by
     have := group_c t
     rw [hgr] at this
     exact this
    refine PCall.go (bind2p_c c rb rs level consts codes sz free t.v bd scope pb' ps') (WkT.refl _) ?_
    rintro _ _ ⟨rfl, pb3, mb, ms, rfl, hb⟩
    conv => whnf
    repeat' (first|refine aA0 ?_|((refine pC (hgc) wR ?_);conv=>whnf)|(refine zX (fun hc=>?_) (fun hc=>?_)<;>(try simp only [SY] at hc)<;>(conv=>whnf)))
    ·refine PCallD.go (defer_c b5 b6 rs t.op t.n t.v (t.t.map Trm.pv) ms []) (WkT.refl _) ?_
     rintro _ _ ⟨ps4, rfl⟩
     conv => whnf
     have hno : t.ckP level consts codes free scope deep size bound = none := by rw [hck]; split; rfl; exact if_neg (by rw [hc]; simp)
     exact PRet.gen (y := .bool false) (Wk.ff rfl) ⟨by rw [hno]; rfl, sz, mb, delS t.v ms, pb3, ps4, rfl, fun _ _ h => by rw [hno] at h; cases h⟩
    ·have hbt := ‹(bindR t.v bd).1 = true›
     obtain ⟨rfl, rfl⟩ := hb hbt
     rw [if_pos hbt] at hck
     refine PDraw.split2 tt_ok mixed [0, 1, 0, 7, 0, 31, 63, 127, 255, 511, 1023, 2047, 4095, 4095, 12287, 4095, 61439, 131071, 262143, 524287, 1048575] [0, 1, 2, 3, 4] [5] [6, 7, 8, 9, 10, 11, 12, 13, 14, 15, 16, 17, 18, 19, 20] [] [.box c (cpC level consts codes sz free rb), .mp rb (.int .i64) (setM (bd ++ t.v)) pb3, .mp rs (.int .i64) (setM (scope ++ t.v)) [], .box b4 [.ptr c 0], .box b6 [.mp rs], .box b7 [.int .i64 deep]] (by kernel_rfl) ?_
     conv => whnf
     repeat (refine aR0 ?_)
     have hdj : ∀ x ∈ scope, x ∉ t.v := fun x h h' => bindR_apart hbt x h' (hsb x (hsub x h))
     refine PCall.go (all2p_c c rb rs b4 b6 b7 level consts codes free (t.t.drop (if (t.t.length : Int) - 1 < 0 then 0 else (t.t.length : Int) - 1).toNat) (scope ++ t.v) deep hd0 (by omega) (fun x hx sz bd pb ps h0 h1 h2 => ih x (List.mem_of_mem_drop hx) (scope ++ t.v) (deep + 1) sz bd pb ps (by omega) (by omega) h0 h1 h2 (by have := Trm.bulks_mem (List.mem_of_mem_drop hx); omega)) sz (bd ++ t.v) pb3 [] (by omega) (by omega) (by intro x h; rw [List.mem_append] at h ⊢; exact h.imp (fun h => hsb x (hsub x h)) id)) (WkT.refl _) ?_
     rintro _ _ ⟨sz5, mb5, ms5, pb5, ps5, rfl, rfl, hs5⟩
     conv => whnf
     repeat (first|refine aR0 ?_|(((((apply zY;intro hg));(conv=>whnf);(repeat ((first|refine PCall.read (procs_c c rb level consts codes sz5 free (t.t.take (t.t.length - 1))) wR ?_|refine aG ?_);conv=>whnf));exact pZ));conv=>whnf))
     refine PCallD.go (defer_c b5 b6 rs t.op t.n t.v (t.t.map Trm.pv) ms5 ps5) (WkT.refl _) ?_
     rintro _ _ ⟨ps4, rfl⟩
     conv => whnf
     refine PRet.gen (y := .bool (t.ckP level consts codes free scope deep size bound).isSome) (Wk.bool ?_) ⟨rfl, sz5, mb5, delS t.v ms5, pb5, ps4, rfl, fun s b h => ?_⟩
     ·exact right_end (by rw [← List.dropLast_eq_take]; exact hck)
     ·rw [hck] at h
      split at h
      ·cases h
      ·obtain ⟨h1, h2, h3⟩ := hs5 s b h
       exact ⟨h1, h2, by rw [h3, delS_setM _ _ hdj]⟩
  ·have hgr := hc
   rw [if_pos hc] at hr
   have hck := hr
   have hgc : ACallP Tryz.prog 81 [.agg t.cells] (.bool true) := by
    have := group_c t
    rw [hgr] at this
    exact this
   refine PCall.go (bind2p_c c rb rs level consts codes (size + 1) free t.v bound scope pb ps) (WkT.refl _) ?_
   rintro _ _ ⟨rfl, pb3, mb, ms, rfl, hb⟩
   conv => whnf
   repeat' (first|refine aA0 ?_|((refine pC (hgc) wR ?_);conv=>whnf)|(refine zX (fun hc=>?_) (fun hc=>?_)<;>(try simp only [SY] at hc)<;>(conv=>whnf)))
   ·refine PCallD.go (defer_c b5 b6 rs t.op t.n t.v (t.t.map Trm.pv) ms []) (WkT.refl _) ?_
    rintro _ _ ⟨ps4, rfl⟩
    conv => whnf
    have hno : t.ckP level consts codes free scope deep size bound = none := by rw [hck]; split; rfl; exact if_neg (by rw [hc]; simp)
    exact PRet.gen (y := .bool false) (Wk.ff rfl) ⟨by rw [hno]; rfl, (size + 1), mb, delS t.v ms, pb3, ps4, rfl, fun _ _ h => by rw [hno] at h; cases h⟩
   ·have hbt := ‹(bindR t.v bound).1 = true›
    obtain ⟨rfl, rfl⟩ := hb hbt
    rw [if_pos hbt] at hck
    refine PDraw.split2 tt_ok mixed [0, 1, 0, 7, 0, 31, 63, 127, 255, 511, 1023, 2047, 4095, 4095, 12287, 4095, 61439, 131071, 262143, 524287, 1048575] [0, 1, 2, 3, 4] [5] [6, 7, 8, 9, 10, 11, 12, 13, 14, 15, 16, 17, 18, 19, 20] [] [.box c (cpC level consts codes (size + 1) free rb), .mp rb (.int .i64) (setM (bound ++ t.v)) pb3, .mp rs (.int .i64) (setM (scope ++ t.v)) [], .box b4 [.ptr c 0], .box b6 [.mp rs], .box b7 [.int .i64 deep]] (by kernel_rfl) ?_
    conv => whnf
    repeat (refine aR0 ?_)
    have hdj : ∀ x ∈ scope, x ∉ t.v := fun x h h' => bindR_apart hbt x h' (hsub x h)
    refine PCall.go (all2p_c c rb rs b4 b6 b7 level consts codes free (t.t.drop 0) (scope ++ t.v) deep hd0 (by omega) (fun x hx sz bd pb ps h0 h1 h2 => ih x (List.mem_of_mem_drop hx) (scope ++ t.v) (deep + 1) sz bd pb ps (by omega) (by omega) h0 h1 h2 (by have := Trm.bulks_mem (List.mem_of_mem_drop hx); omega)) (size + 1) (bound ++ t.v) pb3 [] (by omega) (by omega) (by intro x h; rw [List.mem_append] at h ⊢; exact h.imp (fun h => hsub x h) id)) (WkT.refl _) ?_
    rintro _ _ ⟨sz5, mb5, ms5, pb5, ps5, rfl, rfl, hs5⟩
    conv => whnf
    repeat (first|refine aR0 ?_|(((((apply zY;intro hg));(conv=>whnf);(repeat ((first|refine PCall.read (procs_c c rb level consts codes sz5 free (t.t.take (t.t.length - 1))) wR ?_|refine aG ?_);conv=>whnf));exact pZ));conv=>whnf))
    refine PCallD.go (defer_c b5 b6 rs t.op t.n t.v (t.t.map Trm.pv) ms5 ps5) (WkT.refl _) ?_
    rintro _ _ ⟨ps4, rfl⟩
    conv => whnf
    refine PRet.gen (y := .bool (t.ckP level consts codes free scope deep size bound).isSome) (Wk.bool ?_) ⟨rfl, sz5, mb5, delS t.v ms5, pb5, ps4, rfl, fun s b h => ?_⟩
    ·exact right_end (by rw [← List.dropLast_eq_take]; exact hck)
    ·rw [hck] at h
     split at h
     ·cases h
     ·obtain ⟨h1, h2, h3⟩ := hs5 s b h
      exact ⟨h1, h2, by rw [h3, delS_setM _ _ hdj]⟩
end Go.Cb
namespace Go.Cb
open Go.Proofs
set_option maxRecDepth 100000
set_option maxHeartbeats 4000000
def Dist (l bound : List Int) : Prop := (∀ x ∈ l, 0 ≤ x ∧ x ≤ 1000000 ∧ x ∉ bound) ∧ l.Nodup
theorem Dist.congr {l b c : List Int} (h : ∀ x, x ∈ b ↔ x ∈ c) : Dist l b ↔ Dist l c := by
 unfold Dist
 simp only [h]
theorem Dist.perm {l m b : List Int} (h : l.Perm m) : Dist l b ↔ Dist m b := by
 unfold Dist
 rw [h.nodup_iff]
 simp only [h.mem_iff]
theorem Dist.append {l m b c : List Int} (h : ∀ x, x ∈ c ↔ x ∈ b ∨ x ∈ l) : Dist (l ++ m) b ↔ Dist l b ∧ Dist m c := by
 unfold Dist
 simp only [List.mem_append, List.nodup_append, h]
 constructor
 ·rintro ⟨h1, h2, h3, h4⟩
  exact ⟨⟨fun x hx => h1 x (.inl hx), h2⟩, fun x hx => ⟨(h1 x (.inr hx)).1, (h1 x (.inr hx)).2.1, by rintro (h | h); exact (h1 x (.inr hx)).2.2 h; exact h4 x h x hx rfl⟩, h3⟩
 ·rintro ⟨⟨h1, h2⟩, h3, h4⟩
  refine ⟨?_, h2, h4, ?_⟩
  ·rintro x (hx | hx)
   ·exact h1 x hx
   ·exact ⟨(h3 x hx).1, (h3 x hx).2.1, fun h => (h3 x hx).2.2 (.inl h)⟩
  ·rintro x hx y hy rfl
   exact (h3 x hy).2.2 (.inr hx)
def Sp (r : Option (Int × List Int)) (c : Prop) (n : Int) (V : List Int) (size : Int) (bound : List Int) : Prop :=
 (r = none ∧ ¬(c ∧ size + n ≤ 20000 ∧ Dist V bound)) ∨ (∃ b, r = some (size + n, b) ∧ (c ∧ size + n ≤ 20000 ∧ Dist V bound) ∧ ∀ x, x ∈ b ↔ x ∈ bound ∨ x ∈ V)
theorem Sp.some_iff {r c n V size bound} (h : Sp r c n V size bound) : r.isSome = true ↔ (c ∧ size + n ≤ 20000 ∧ Dist V bound) := by
 rcases h with ⟨rfl, h⟩ | ⟨b, rfl, h, _⟩
 ·simpa using h
 ·simpa using h
theorem Sp.iff {r c c' n V size bound} (h : Sp r c n V size bound) (hc : c ↔ c') : Sp r c' n V size bound := by
 unfold Sp at h ⊢; rwa [hc] at h
theorem Sp.perm {r c n V W size bound} (h : Sp r c n V size bound) (hp : V.Perm W) : Sp r c n W size bound := by
 unfold Sp at h ⊢; simpa only [Dist.perm hp, hp.mem_iff] using h
theorem Sp.nil {size : Int} {bound : List Int} (h : size ≤ 20000) : Sp (some (size, bound)) True 0 [] size bound :=
 .inr ⟨bound, by simp, ⟨trivial, by omega, by simp [Dist]⟩, by simp⟩
theorem Sp.test {r c n V size bound} {p : Prop} [Decidable p] (h : ¬p → Sp r c n V size bound) : Sp (if p then none else r) (¬p ∧ c) n V size bound := by
 by_cases hp : p
 ·rw [if_pos hp]; exact .inl ⟨rfl, fun h => h.1.1 hp⟩
 ·rw [if_neg hp]; exact (h hp).iff (by simp [hp])
theorem Sp.seq {r1 : Option (Int × List Int)} {f : Int → List Int → Option (Int × List Int)} {c1 c2 : Prop} {n1 n2 : Int} {V1 V2 : List Int} {size : Int} {bound : List Int} (h1 : Sp r1 c1 n1 V1 size bound) (hn : 0 ≤ n2)
  (h2 : ∀ b, size + n1 ≤ 20000 → Sp (f (size + n1) b) c2 n2 V2 (size + n1) b) : Sp (match (generalizing := false) r1 with | none => none | some (s, b) => f s b) (c1 ∧ c2) (n1 + n2) (V1 ++ V2) size bound := by
 rcases h1 with ⟨rfl, h⟩ | ⟨b, rfl, ⟨k1, k2, k3⟩, hb⟩
 ·exact .inl ⟨rfl, fun ⟨⟨g1, g2⟩, g3, g4⟩ => h ⟨g1, by omega, ((Dist.append (c := bound ++ V1) (by simp)).1 g4).1⟩⟩
 ·rcases h2 b k2 with ⟨e, h⟩ | ⟨b', e, ⟨g1, g2, g3⟩, hb'⟩
  ·exact .inl ⟨e, fun ⟨⟨g1, g2⟩, g3, g4⟩ => h ⟨g2, by omega, ((Dist.append hb).1 g4).2⟩⟩
  ·exact .inr ⟨b', by rw [← Int.add_assoc]; exact e, ⟨⟨k1, g1⟩, by omega, (Dist.append hb).2 ⟨k3, g3⟩⟩, fun x => by rw [hb', hb, List.mem_append, or_assoc]⟩
theorem bindR_dist : ∀ (l bound : List Int), (bindR l bound).1 = true ↔ Dist l bound
 | [], bound => by simp [bindR, Dist]
 | v :: l, bound => by
  rw [bindR]
  split
  ·rename_i hv
   rw [bindR_dist l, show v :: l = [v] ++ l from rfl, Dist.append (l := [v]) (c := bound ++ [v]) (by simp)]
   simp [vOk] at hv
   simp [Dist]
   intro _ _
   exact ⟨by omega, by omega, hv.2⟩
  ·rename_i hv
   simp only [Bool.false_eq_true, false_iff]
   rintro ⟨h, _⟩
   have := h v (by simp)
   apply hv
   simp [vOk]
   exact ⟨by omega, this.2.2⟩
theorem bindR_snd : ∀ (l bound : List Int), (bindR l bound).1 = true → (bindR l bound).2 = bound ++ l
 | [], bound, _ => by simp [bindR]
 | v :: l, bound, h => by
  rw [bindR] at h ⊢
  split at h
  ·rename_i hv
   rw [if_pos hv, bindR_snd l _ h]; simp
  ·cases h
theorem Sp.bind {v bound : List Int} {size : Int} {r : Option (Int × List Int)} {c : Prop} {n : Int} {V : List Int} (h : (bindR v bound).1 = true → Sp r c n V size (bound ++ v)) : Sp (if (bindR v bound).1 = true then r else none) c n (v ++ V) size bound := by
 have ha : Dist (v ++ V) bound ↔ Dist v bound ∧ Dist V (bound ++ v) := Dist.append (by simp)
 by_cases hb : (bindR v bound).1 = true
 ·have hd := (bindR_dist _ _).1 hb
  rw [if_pos hb]
  rcases h hb with ⟨rfl, hh⟩ | ⟨b, rfl, ⟨k1, k2, k3⟩, hm⟩
  ·exact .inl ⟨rfl, fun ⟨g1, g2, g3⟩ => hh ⟨g1, g2, (ha.1 g3).2⟩⟩
  ·exact .inr ⟨b, rfl, ⟨k1, k2, ha.2 ⟨hd, k3⟩⟩, fun x => by rw [hm, List.mem_append, List.mem_append, or_assoc]⟩
 ·rw [if_neg hb]
  exact .inl ⟨rfl, fun ⟨_, _, g3⟩ => hb ((bindR_dist _ _).2 (ha.1 g3).1)⟩
theorem Sp.tick {r c n V size bound} (hn : 0 ≤ n) (h : size + 1 ≤ 20000 → Sp r c n V (size + 1) bound) : Sp (if size + 1 > 20000 then none else r) c (1 + n) V size bound := by
 split
 ·exact .inl ⟨rfl, fun ⟨_, h, _⟩ => by omega⟩
 ·rcases h (by omega) with ⟨rfl, hh⟩ | ⟨b, rfl, k, hm⟩
  ·exact .inl ⟨rfl, fun ⟨g1, g2, g3⟩ => hh ⟨g1, by omega, g3⟩⟩
  ·exact .inr ⟨b, by rw [← Int.add_assoc], ⟨k.1, by omega, k.2.2⟩, hm⟩
mutual
def Trm.cnt : Trm → Int
 | .mk _ _ _ t => 1 + Trm.cnts t
def Trm.cnts : List Trm → Int
 | [] => 0
 | x :: xs => Trm.cnt x + Trm.cnts xs
end
mutual
def Trm.vars : Trm → List Int
 | .mk _ _ v t => v ++ Trm.varss t
def Trm.varss : List Trm → List Int
 | [] => []
 | x :: xs => Trm.vars x ++ Trm.varss xs
end
theorem Trm.cnt_eq (t : Trm) : t.cnt = 1 + Trm.cnts t.t := by cases t; rfl
theorem Trm.vars_eq (t : Trm) : t.vars = t.v ++ Trm.varss t.t := by cases t; rfl
theorem Trm.cnt_pos (t : Trm) : 1 ≤ t.cnt := by
 induction t using Trm.ind with
 | h t ih =>
  rw [Trm.cnt_eq]
  have : ∀ l : List Trm, (∀ x ∈ l, 1 ≤ x.cnt) → 0 ≤ Trm.cnts l := by
   intro l
   induction l with
   | nil => intro _; rw [Trm.cnts]; omega
   | cons y l ih => intro h; rw [Trm.cnts]; have := h y (by simp); have := ih fun x hx => h x (by simp [hx]); omega
  have := this t.t ih
  omega
theorem Trm.cnts_pos : ∀ l : List Trm, 0 ≤ Trm.cnts l
 | [] => by rw [Trm.cnts]; omega
 | x :: l => by rw [Trm.cnts]; have := x.cnt_pos; have := Trm.cnts_pos l; omega
mutual
def Trm.okT (level consts codes : Int) (free : Bool) : Trm → List Int → Int → Prop
 | .mk op n v t, scope, deep => (deep ≤ 400 ∧ sortsL op level = true ∧ countsL (.mk op n v t) = true ∧ numberL consts codes free (.mk op n v t) scope = true) ∧ Trm.okTs level consts codes free op scope (scope ++ v) t (deep + 1)
def Trm.okTs (level consts codes : Int) (free : Bool) (op : Int) (scope inner : List Int) : List Trm → Int → Prop
 | [], _ => True
 | x :: xs, deep => (¬(op = 9 ∧ xs ≠ [] ∧ x.op ≠ wantOp level)) ∧ Trm.okT level consts codes free x (if xs = [] ∨ op = 7 ∨ op = 9 then inner else scope) deep ∧ Trm.okTs level consts codes free op scope inner xs deep
end
theorem Trm.okT_eq (level consts codes : Int) (free : Bool) (t : Trm) (scope : List Int) (deep : Int) : t.okT level consts codes free scope deep ↔
  (deep ≤ 400 ∧ sortsL t.op level = true ∧ countsL t = true ∧ numberL consts codes free t scope = true) ∧ Trm.okTs level consts codes free t.op scope (scope ++ t.v) t.t (deep + 1) := by cases t; rw [Trm.okT]; rfl
theorem Trm.ckD_sp (level consts codes : Int) (free : Bool) (t : Trm) : ∀ (scope : List Int) (deep size : Int) (bound : List Int), Sp (t.ckD level consts codes free scope deep size bound) (t.okT level consts codes free scope deep) t.cnt t.vars size bound := by
 induction t using Trm.ind with
 | h t ih =>
  intro scope deep size bound
  have key : ∀ l : List Trm, (∀ y ∈ l, ∀ (scope : List Int) (deep size : Int) (bound : List Int), Sp (y.ckD level consts codes free scope deep size bound) (y.okT level consts codes free scope deep) y.cnt y.vars size bound) →
    ∀ (deep size : Int) (bound : List Int), size ≤ 20000 → Sp (Trm.cksD level consts codes free t.op scope (scope ++ t.v) l deep size bound) (Trm.okTs level consts codes free t.op scope (scope ++ t.v) l deep) (Trm.cnts l) (Trm.varss l) size bound := by
   intro l
   induction l with
   | nil => intro _ deep size bound h; rw [Trm.cksD, Trm.okTs, Trm.cnts, Trm.varss]; exact Sp.nil h
   | cons x l ihl =>
    intro hy deep size bound h
    rw [Trm.cksD, Trm.okTs, Trm.cnts, Trm.varss]
    exact Sp.test fun _ => Sp.seq (hy x (by simp) _ _ _ _) (Trm.cnts_pos l) fun b hb => ihl (fun y hh => hy y (by simp [hh])) _ _ _ hb
  rw [Trm.ckD_eq, Trm.cnt_eq, Trm.vars_eq, Trm.okT_eq]
  have h1 : (if (decide (deep > 400) || decide (size + 1 > 20000) || !sortsL t.op level || !countsL t || !numberL consts codes free t scope) = true then none else
    if (bindR t.v bound).1 = true then Trm.cksD level consts codes free t.op scope (scope ++ t.v) t.t (deep + 1) (size + 1) (bindR t.v bound).2 else none) =
    (if ¬(deep ≤ 400 ∧ sortsL t.op level = true ∧ countsL t = true ∧ numberL consts codes free t scope = true) then none else if size + 1 > 20000 then none else
    if (bindR t.v bound).1 = true then Trm.cksD level consts codes free t.op scope (scope ++ t.v) t.t (deep + 1) (size + 1) (bound ++ t.v) else none) := by
   by_cases a : deep ≤ 400 ∧ sortsL t.op level = true ∧ countsL t = true ∧ numberL consts codes free t scope = true
   ·rw [if_neg (c := ¬ _) (by simpa using a)]
    by_cases b : size + 1 > 20000
    ·rw [if_pos b, if_pos (by simp [b])]
    ·rw [if_neg b, if_neg (by simp [a]; omega)]
     split
     ·rename_i hb; rw [bindR_snd _ _ hb]
     ·rfl
   ·rw [if_pos (c := ¬ _) a, if_pos]
    simp only [Bool.or_eq_true, decide_eq_true_eq, Bool.not_eq_true']
    apply Classical.byContradiction
    intro h
    apply a
    simp only [not_or, Bool.not_eq_false] at h
    exact ⟨by omega, h.1.1.2, h.1.2, h.2⟩
  rw [h1]
  refine (Sp.test fun _ => Sp.tick (Trm.cnts_pos _) fun hs => Sp.bind fun _ => key t.t ih _ _ _ hs).iff ?_
  rw [Classical.not_not]
theorem numberP_eq (consts codes : Int) (free : Bool) (t : Trm) (scope : List Int) : numberP consts codes free t scope = numberL consts codes free t scope := by
 unfold numberP numberL
 split; rfl
 split; rfl
 split
 ·rw [Bool.eq_iff_iff]; simp; omega
 ·rfl
theorem shape_eq (level : Int) (h0 : 0 ≤ level) (h3 : level ≤ 3) (t : Trm) :
  ((shapeL t.op).2 = true ∧ (shapeL t.op).1.fm ≤ level ∧ level ≤ (shapeL t.op).1.to ∧ fitsL (shapeL t.op).1 t = true) ↔ (sortsL t.op level = true ∧ countsL t = true) := by
 have hc : t.op < 0 ∨ t.op > 22 ∨ t.op = 0 ∨ t.op = 1 ∨ t.op = 2 ∨ t.op = 3 ∨ t.op = 4 ∨ t.op = 5 ∨ t.op = 6 ∨ t.op = 7 ∨ t.op = 8 ∨ t.op = 9 ∨ t.op = 10 ∨ t.op = 11 ∨ t.op = 12 ∨ t.op = 13 ∨ t.op = 14 ∨ t.op = 15 ∨ t.op = 16 ∨ t.op = 17 ∨ t.op = 18 ∨ t.op = 19 ∨ t.op = 20 ∨ t.op = 21 ∨ t.op = 22 := by omega
 rcases hc with h | h | h | h | h | h | h | h | h | h | h | h | h | h | h | h | h | h | h | h | h | h | h | h | h
 ·have e : shapeL t.op = (⟨0, 0, 0, false, false⟩, false) := by unfold shapeL; repeat rw [if_neg (by omega)]
  have e2 : sortsL t.op level = false := by unfold sortsL; repeat rw [if_neg (by omega)]
  simp [e, e2]
 ·have e : shapeL t.op = (⟨0, 0, 0, false, false⟩, false) := by unfold shapeL; repeat rw [if_neg (by omega)]
  have e2 : sortsL t.op level = false := by unfold sortsL; repeat rw [if_neg (by omega)]
  simp [e, e2]
 all_goals
  simp [shapeL, sortsL, countsL, fitsL, bindsB, h]
  try (first | omega | (simp only [← List.length_eq_zero_iff]; omega))
def Trm.okG (level consts codes : Int) (free : Bool) (inner : List Int) : List Trm → Int → Prop
 | [], _ => True
 | x :: xs, deep => Trm.okT level consts codes free x inner deep ∧ Trm.okG level consts codes free inner xs deep
theorem Trm.okTs_G {level consts codes : Int} {free : Bool} {op : Int} (hop : op = 7 ∨ op = 9) (scope inner : List Int) (deep : Int) : ∀ l : List Trm, Trm.okTs level consts codes free op scope inner l deep ↔ (¬((op == 9 && !procsL level l.dropLast) = true) ∧ Trm.okG level consts codes free inner l deep)
 | [] => by simp [Trm.okTs, Trm.okG, procsL]
 | [x] => by
  rw [Trm.okTs, Trm.okG, if_pos (.inl rfl)]
  simp [Trm.okTs, Trm.okG, procsL]
 | x :: y :: l => by
  rw [Trm.okTs, Trm.okG, if_pos (.inr hop), Trm.okTs_G hop scope inner deep (y :: l)]
  have e : (op == 9 && !procsL level (x :: y :: l).dropLast) = true ↔ (op = 9 ∧ x.op ≠ wantOp level) ∨ (op == 9 && !procsL level (y :: l).dropLast) = true := by
   rw [show (x :: y :: l).dropLast = x :: (y :: l).dropLast from rfl]
   simp only [procsL, wantOp, Bool.and_eq_true, beq_iff_eq, List.any_cons, Bool.not_not, Bool.or_eq_true, bne_iff_ne]
   constructor
   ·rintro ⟨h1, h2 | h2⟩
    ·exact .inl ⟨h1, h2⟩
    ·exact .inr ⟨h1, h2⟩
   ·rintro (⟨h1, h2⟩ | ⟨h1, h2⟩)
    ·exact ⟨h1, .inl h2⟩
    ·exact ⟨h1, .inr h2⟩
  rw [e]
  constructor
  ·rintro ⟨h1, h2, h3, h4⟩
   exact ⟨fun h => h.elim (fun h => h1 ⟨h.1, by simp, h.2⟩) h3, h2, h4⟩
  ·rintro ⟨h1, h2, h4⟩
   exact ⟨fun h => h1 (.inl ⟨h.1, h.2.2⟩), h2, fun h => h1 (.inr h), h4⟩
theorem Trm.ckP_sp (level consts codes : Int) (free : Bool) (h0 : 0 ≤ level) (h3 : level ≤ 3) (t : Trm) : ∀ (scope : List Int) (deep size : Int) (bound : List Int), Sp (t.ckP level consts codes free scope deep size bound) (t.okT level consts codes free scope deep) t.cnt t.vars size bound := by
 induction t using Trm.ind with
 | h t ih =>
  intro scope deep size bound
  have keyG : ∀ l : List Trm, (∀ y ∈ l, ∀ (scope : List Int) (deep size : Int) (bound : List Int), Sp (y.ckP level consts codes free scope deep size bound) (y.okT level consts codes free scope deep) y.cnt y.vars size bound) →
    ∀ (inner : List Int) (deep size : Int) (bound : List Int), size ≤ 20000 → Sp (Trm.cksG level consts codes free inner l deep size bound) (Trm.okG level consts codes free inner l deep) (Trm.cnts l) (Trm.varss l) size bound := by
   intro l
   induction l with
   | nil => intro _ inner deep size bound h; rw [Trm.cksG, Trm.okG, Trm.cnts, Trm.varss]; exact Sp.nil h
   | cons x l ihl =>
    intro hy inner deep size bound h
    rw [Trm.cksG, Trm.okG, Trm.cnts, Trm.varss]
    exact Sp.seq (hy x (by simp) _ _ _ _) (Trm.cnts_pos l) fun b hb => ihl (fun y hh => hy y (by simp [hh])) _ _ _ _ hb
  have keyI : t.op ≠ 7 → t.op ≠ 9 → ∀ l : List Trm, (∀ y ∈ l, ∀ (scope : List Int) (deep size : Int) (bound : List Int), Sp (y.ckP level consts codes free scope deep size bound) (y.okT level consts codes free scope deep) y.cnt y.vars size bound) →
    ∀ (deep size : Int) (bound : List Int), size ≤ 20000 → Sp (Trm.cksI level consts codes free scope t.v l deep size bound) (Trm.okTs level consts codes free t.op scope (scope ++ t.v) l deep) (Trm.cnts l) (t.v ++ Trm.varss l) size bound := by
   intro h7 h9 l
   induction l with
   | nil => intro _ deep size bound h; rw [Trm.cksI, Trm.okTs, Trm.cnts, Trm.varss]; exact Sp.bind fun _ => Sp.nil h
   | cons x l ihl =>
    intro hy deep size bound h
    rw [Trm.cksI, Trm.okTs, Trm.cnts, Trm.varss]
    cases l with
    | nil =>
     rw [if_pos (show ([] : List Trm).isEmpty = true from rfl), if_pos (show ([] : List Trm) = [] ∨ t.op = 7 ∨ t.op = 9 from .inl rfl), Trm.cnts, Trm.varss, List.append_nil, Int.add_zero]
     exact (Sp.bind fun _ => hy x (by simp) _ _ _ _).iff (by simp [h9, Trm.okTs])
    | cons y l =>
     rw [if_neg (show ¬((y :: l).isEmpty = true) by simp), if_neg (show ¬((y :: l) = [] ∨ t.op = 7 ∨ t.op = 9) by simp [h7, h9])]
     refine ((Sp.seq (hy x (by simp) _ _ _ _) (Trm.cnts_pos (y :: l)) fun b hb => ihl (fun y hh => hy y (by simp [hh])) _ _ _ hb).iff (by simp [h9])).perm ?_
     rw [← List.append_assoc, ← List.append_assoc]
     exact List.perm_append_comm.append_right _
  rw [Trm.ckP_eq, Trm.cnt_eq, Trm.vars_eq, Trm.okT_eq]
  have hsh := shape_eq level h0 h3 t
  have hloc : (deep ≤ 400 ∧ sortsL t.op level = true ∧ countsL t = true ∧ numberL consts codes free t scope = true) ↔ (deep ≤ 400 ∧ ((shapeL t.op).2 = true ∧ (shapeL t.op).1.fm ≤ level ∧ level ≤ (shapeL t.op).1.to ∧ fitsL (shapeL t.op).1 t = true) ∧ numberP consts codes free t scope = true) := by
   rw [hsh, numberP_eq, and_assoc]
  have hb : ∀ r : Option (Int × List Int), (if badP level consts codes free t scope deep (size + 1) = true then none else r) =
    (if ¬(deep ≤ 400 ∧ sortsL t.op level = true ∧ countsL t = true ∧ numberL consts codes free t scope = true) then none else if size + 1 > 20000 then none else r) := by
   intro r
   by_cases a : deep ≤ 400 ∧ sortsL t.op level = true ∧ countsL t = true ∧ numberL consts codes free t scope = true
   ·rw [if_neg (c := ¬ _) (by simpa using a)]
    have a' := hloc.1 a
    by_cases b : size + 1 > 20000
    ·rw [if_pos b, if_pos (by simp [badP, b])]
    ·rw [if_neg b, if_neg (by simp [badP, a']; omega)]
   ·rw [if_pos (c := ¬ _) a, if_pos]
    simp only [badP, Bool.or_eq_true, decide_eq_true_eq, Bool.not_eq_true']
    apply Classical.byContradiction
    intro h
    apply a
    rw [hloc]
    simp only [not_or, Bool.not_eq_false] at h
    exact ⟨by omega, ⟨h.1.1.1.1.1.1, by omega, by omega, h.1.2⟩, h.2⟩
  rw [hb]
  by_cases hg : groupB t.op = true
  ·have hop : t.op = 7 ∨ t.op = 9 := by simpa [groupB] using hg
   rw [if_pos hg]
   refine (Sp.test fun _ => Sp.tick (Trm.cnts_pos _) fun hs => Sp.test fun _ => Sp.bind fun _ => keyG t.t ih _ _ _ _ hs).iff ?_
   rw [Classical.not_not, Trm.okTs_G hop]
  ·have hop : t.op ≠ 7 ∧ t.op ≠ 9 := by simpa [groupB] using hg
   rw [if_neg hg]
   refine (Sp.test fun _ => Sp.tick (Trm.cnts_pos _) fun hs => keyI hop.1 hop.2 t.t ih _ _ _ hs).iff ?_
   rw [Classical.not_not]
theorem ck_eq (level consts codes : Int) (free : Bool) (h0 : 0 ≤ level) (h3 : level ≤ 3) (t : Trm) (scope : List Int) (deep size : Int) (bound : List Int) :
  (t.ckP level consts codes free scope deep size bound).isSome = (t.ckD level consts codes free scope deep size bound).isSome := by
 rw [Bool.eq_iff_iff, (t.ckP_sp level consts codes free h0 h3 scope deep size bound).some_iff, (t.ckD_sp level consts codes free scope deep size bound).some_iff]
end Go.Cb
namespace Go.Cb
open Go.Proofs
set_option maxRecDepth 100000
set_option maxHeartbeats 4000000
theorem digN_all {a : List UInt8} (r : List UInt8) (h : a.all isDig = true) : digN (a ++ r) = a.length + digN r := by
 induction a with
 | nil => simp
 | cons c a ih =>
  simp only [List.all_cons, Bool.and_eq_true] at h
  rw [List.cons_append, digN, if_pos h.1, ih h.2, List.length_cons]; omega
theorem digN_not {a : List UInt8} (r : List UInt8) (h : a.all isDig = false) : ∃ c, a[digN (a ++ r)]? = some c ∧ isDig c = false ∧ digN (a ++ r) < a.length := by
 induction a with
 | nil => simp at h
 | cons c a ih =>
  rw [List.cons_append, digN]
  by_cases hc : isDig c = true
  ·rw [List.all_cons, hc, Bool.true_and] at h
   obtain ⟨x, h1, h2, h3⟩ := ih h
   rw [if_pos hc]
   exact ⟨x, by simpa using h1, h2, by simp; exact h3⟩
  ·rw [if_neg hc]
   exact ⟨c, by simp, by simpa using hc, by simp⟩
theorem natB_part (a : List UInt8) : natB a = true ↔ ((partN a).2 ≠ 0 ∧ (partN a).2 = a.length) := by
 unfold natB partN
 cases h : a.all isDig
 ·obtain ⟨c, h1, h2, h3⟩ := digN_not [] h
  rw [List.append_nil] at h3
  simp only [Bool.and_false, Bool.false_eq_true, false_iff]
  split
  ·simp
  ·rintro ⟨_, h⟩; simp only at h; omega
 ·have hd := digN_all [] h
  rw [List.append_nil] at hd
  simp only [digN] at hd
  simp only [Bool.and_true, Bool.and_eq_true, decide_eq_true_eq]
  split
  ·simp; omega
  ·simp; omega
theorem natV_part {a : List UInt8} (h : natB a = true) : natV a = (partN a).1 := by
 have h2 := (natB_part a).1 h
 unfold natV
 rw [if_pos h]
 unfold partN at h2 ⊢
 split at h2
 ·simp at h2
 ·rename_i hd
  rw [if_neg hd]
  simp only at h2
  rw [h2.2, List.take_length]
theorem cut_cases (u : List UInt8) : (Go.Lib.indexByte u 47 < 0 ∧ cutA u 47 = u ∧ (47 : UInt8) ∉ u) ∨ (∃ a b, u = a ++ 47 :: b ∧ 0 ≤ Go.Lib.indexByte u 47 ∧ cutA u 47 = a ∧ cutB u 47 = b ∧ (47 : UInt8) ∉ a) := by
 induction u with
 | nil => left; simp [Go.Lib.indexByte, cutA]
 | cons c u ih =>
  by_cases h : c = 47
  ·subst h
   right
   have e : Go.Lib.indexByte (47 :: u) 47 = 0 := by simp [Go.Lib.indexByte]
   exact ⟨[], u, rfl, by omega, by simp [cutA, e], by simp [cutB, e], by simp⟩
  ·have h1 : (c == 47) = false := by simp [h]
   rcases ih with ⟨h2, h3, h4⟩ | ⟨a, b, rfl, h2, h3, h4, h5⟩
   ·have e : Go.Lib.indexByte (c :: u) 47 = -1 := by have := Go.Lib.indexByte_ge u 47; rw [Go.Lib.indexByte, h1]; simp; omega
    exact .inl ⟨by omega, by simp [cutA, e], by simp; exact ⟨fun e => h e.symm, h4⟩⟩
   ·have e : Go.Lib.indexByte (c :: (a ++ 47 :: b)) 47 = Go.Lib.indexByte (a ++ 47 :: b) 47 + 1 := by rw [Go.Lib.indexByte, h1]; simp; omega
    refine .inr ⟨c :: a, b, rfl, by omega, ?_, ?_, by simp; exact ⟨fun e => h e.symm, h5⟩⟩
    ·unfold cutA at h3 ⊢
     rw [if_pos h2] at h3
     rw [if_pos (by omega), e, show (Go.Lib.indexByte (a ++ 47 :: b) 47 + 1).toNat = (Go.Lib.indexByte (a ++ 47 :: b) 47).toNat + 1 by omega, List.take_succ_cons, h3]
    ·unfold cutB at h4 ⊢
     rw [if_pos h2] at h4
     rw [if_pos (by omega), e, show (Go.Lib.indexByte (a ++ 47 :: b) 47 + 1).toNat = (Go.Lib.indexByte (a ++ 47 :: b) 47).toNat + 1 by omega, List.drop_succ_cons, h4]
theorem isDig47 : isDig 47 = false := by decide
theorem parse_eq (s : List UInt8) : parseP s = parseN s := by
 have hu : (if negB s = true then s.drop 1 else s) = unneg s := rfl
 unfold parseP
 simp only [hu]
 rw [parseN_eq]
 generalize unneg s = u
 rcases cut_cases u with ⟨hi, ha, hn⟩ | ⟨a, b, rfl, hi, ha, hb, hn⟩
 ·rw [ha, if_neg (show ¬(0 ≤ Go.Lib.indexByte u 47) by omega)]
  have h49 : natB [49] = true := by decide
  have h49v : natV [49] = 1 := by decide
  rw [h49, h49v, Bool.and_true]
  cases hall : u.all isDig
  ·obtain ⟨c, h1, h2, h3⟩ := digN_not [] hall
   rw [List.append_nil] at h1 h3
   have hnb : natB u = false := by unfold natB; rw [hall]; simp
   rw [hnb]
   simp only [Bool.false_eq_true, if_false]
   unfold partN
   split
   ·rfl
   ·rename_i h10
    simp only
    split
    ·rfl
    ·have : lowerN u (digN u) = none := by
      unfold lowerN
      rw [if_pos h3, if_neg]
      rintro ⟨h, _⟩
      rw [h1] at h
      cases h
      exact hn (List.mem_of_getElem? h1)
     rw [this]
  ·have hd := digN_all [] hall
   rw [List.append_nil] at hd
   simp only [digN, Nat.add_zero] at hd
   by_cases hnb : natB u = true
   ·have hp := (natB_part u).1 hnb
    rw [hnb, if_pos rfl, if_neg hp.1, natV_part hnb]
    have : lowerN u (partN u).2 = some 1 := by unfold lowerN; rw [if_neg (by omega)]
    rw [this]
   ·have : (partN u).2 = 0 := by
     have := mt (natB_part u).2 hnb
     unfold partN at this ⊢
     split at this
     ·rename_i h; rw [if_pos h]
     ·rename_i h; rw [if_neg h]; simp only at this ⊢; omega
    rw [if_neg hnb, if_pos this]
 ·rw [ha, hb, if_pos hi]
  have h47 : digN (47 :: b) = 0 := by rw [digN, isDig47]; rfl
  cases hall : a.all isDig
  ·obtain ⟨c, h1, h2, h3⟩ := digN_not (47 :: b) hall
   have hnb : natB a = false := by unfold natB; rw [hall]; simp
   rw [hnb]
   simp only [Bool.false_and, Bool.false_eq_true, if_false]
   unfold partN
   split
   ·rfl
   ·simp only
    split
    ·rfl
    ·have : lowerN (a ++ 47 :: b) (digN (a ++ 47 :: b)) = none := by
      unfold lowerN
      rw [if_pos (by simp; omega), if_neg]
      rintro ⟨h, _⟩
      rw [List.getElem?_append_left h3, h1] at h
      cases h
      exact hn (List.mem_of_getElem? h1)
     rw [this]
  ·have hd := digN_all (47 :: b) hall
   rw [h47, Nat.add_zero] at hd
   by_cases hnb : natB a = true
   ·have hp := (natB_part a).1 hnb
    have hl : 1 ≤ a.length ∧ a.length ≤ 10 := by
     unfold natB at hnb; simp only [Bool.and_eq_true, decide_eq_true_eq] at hnb; exact ⟨hnb.1, hnb.2.1⟩
    have hpu : partN (a ++ 47 :: b) = (natV a, a.length) := by
     unfold partN natV
     rw [hd, if_neg (by omega), if_pos hnb, List.take_left]
    rw [hpu]
    simp only
    rw [if_neg (show ¬(a.length = 0) by omega), hnb, Bool.true_and]
    have hlo : lowerN (a ++ 47 :: b) a.length = if natB b = true then some (natV b) else none := by
     unfold lowerN
     rw [if_pos (by simp)]
     have e1 : (a ++ 47 :: b)[a.length]? = some 47 := by simp
     have e2 : (a ++ 47 :: b).drop (a.length + 1) = b := by rw [List.drop_append]; simp
     rw [e1, e2]
     by_cases hb' : natB b = true
     ·have := (natB_part b).1 hb'
      rw [if_pos hb', natV_part hb', if_pos ⟨rfl, this.1, by simp; omega⟩]
     ·rw [if_neg hb', if_neg]
      rintro ⟨_, g1, g2⟩
      exact hb' ((natB_part b).2 ⟨g1, by simp at g2; omega⟩)
    rw [hlo]
    by_cases hb' : natB b = true
    ·rw [if_pos hb', if_pos hb']
    ·rw [if_neg hb', if_neg hb']
   ·have : (partN (a ++ 47 :: b)).2 = 0 := by
     unfold partN
     rw [hd]
     split
     ·rfl
     ·simp only
      unfold natB at hnb
      rw [hall] at hnb
      simp only [Bool.and_true, Bool.and_eq_true, decide_eq_true_eq] at hnb
      omega
    rw [if_pos this, show natB a = false by simpa using hnb]
    rfl
theorem marks_eq : marksPL.contains = markB := by
 funext c
 simp only [markB, baseB, marksL, marksPL, List.contains_cons, List.contains_nil, Bool.or_false]
 rw [Bool.eq_iff_iff]
 simp only [Bool.or_eq_true, beq_iff_eq, Bool.and_eq_true, decide_eq_true_eq, ← UInt8.toNat_inj]
 simp
 omega
theorem name_eq (s : List UInt8) : namePB s = nameB s := by
 unfold namePB nameB
 rw [parse_eq, marks_eq]
 have ht : ((trimR markB s).dropWhile markB == []) = s.all markB := by
  rw [Bool.eq_iff_iff, beq_iff_eq, trim_nil]
 rw [ht]
 by_cases hs : s = []
 ·subst hs; simp
 ·have hl := List.length_pos_iff.2 hs
  cases s.all markB <;> cases (parseN s).2.2 <;> rw [Bool.eq_iff_iff] <;> simp [hs] <;> omega
theorem name_str {s : List UInt8} (h : nameB s = true) : s.any strB = false := by
 simp only [nameB, Bool.and_eq_true] at h
 rw [List.any_eq_false]
 intro c hc
 have hm := List.all_eq_true.1 h.2.2.1 c hc
 rw [← marks_eq] at hm
 simp only [marksPL, List.contains_cons, List.contains_nil, Bool.or_false, Bool.or_eq_true, beq_iff_eq, ← UInt8.toNat_inj] at hm
 simp only [strB, Bool.or_eq_true, decide_eq_true_eq]
 simp at hm ⊢
 omega
theorem bare_eq (d : Datum) (deep : Int) : bareBadP d deep = bareBad d deep := by
 obtain ⟨k, n, e, s, l⟩ := d
 have hn := name_eq s
 have hs := @name_str s
 have hz : s = [] → s.any strB = false := fun h => by rw [h]; rfl
 unfold bareBadP bareBad
 simp only [Datum.kind, Datum.n, Datum.d, Datum.s, Datum.l, bareL]
 generalize s.any strB = B at *
 have hc : k < 0 ∨ k > 7 ∨ k = 0 ∨ k = 1 ∨ k = 2 ∨ k = 3 ∨ k = 4 ∨ k = 5 ∨ k = 6 ∨ k = 7 := by omega
 rcases hc with h | h | h | h | h | h | h | h | h | h
 ·simp [h, show ¬k = 0 by omega, show ¬k = 1 by omega, show ¬k = 2 by omega, show ¬k = 3 by omega, show ¬k = 4 by omega, show ¬k = 5 by omega, show ¬k = 6 by omega, show ¬k = 7 by omega]
 ·simp [h, show ¬k = 0 by omega, show ¬k = 1 by omega, show ¬k = 2 by omega, show ¬k = 3 by omega, show ¬k = 4 by omega, show ¬k = 5 by omega, show ¬k = 6 by omega, show ¬k = 7 by omega]
 all_goals
  subst h
  rw [Bool.eq_iff_iff]
  simp
  grind
theorem right_eq (d : Datum) : ∀ deep : Int, d.rightP deep = d.rightD deep := by
 induction d using Datum.ind with
 | h d ih =>
  intro deep
  rw [Datum.rightP_eq, Datum.rightD_eq, bare_eq]
  congr 1
  have : ∀ l : List Datum, (∀ y ∈ l, ∀ deep : Int, y.rightP deep = y.rightD deep) → ∀ deep, Datum.rightPs l deep = Datum.rightDs l deep := by
   intro l
   induction l with
   | nil => intro _ deep; rw [Datum.rightPs, Datum.rightDs]
   | cons x l ihl => intro hy deep; rw [Datum.rightPs, Datum.rightDs, hy x (by simp), ihl fun y h => hy y (by simp [h])]
  exact this d.l ih _
end Go.Cb
namespace Go.Cb
open Go.Proofs
set_option maxRecDepth 100000
set_option maxHeartbeats 4000000
theorem constants1p_c (d : Datum) : ACall Tryz.prog 85 [.agg d.cells] [] (fun y Γ' => y = .bool (!d.rightP 0) ∧ Γ' = []) := by
 refine ACall.of_body tt_ok Tryz.func85 rfl rfl (n := 6) rfl rfl ?_
 conv => whnf
 repeat' (first|refine aA0 ?_|((first|refine pC (rightP_c d) wR ?_|intro _);conv=>whnf)|(refine zX (fun hc=>?_) (fun hc=>?_)<;>(try simp only [SY] at hc)<;>omega))
 exact PRet.gen (Wk.refl _) ⟨rfl, rfl⟩
theorem constantsp_c (l : List Datum) : ACallP Tryz.prog 43 [.sl 5 (l.map Datum.pv) none] (.bool (l.all fun d => d.rightP 0)) := by
 refine ACall.of_body tt_ok Tryz.func43 rfl rfl (n := 6) rfl rfl ?_
 conv => whnf
 skip
 refine PCall.go (containsFuncDat_c 85 [] [] (fun d => !d.rightP 0) l (fun d _ => constants1p_c d)) (WkT.refl _) ?_
 rintro _ _ ⟨rfl, rfl⟩
 conv => whnf
 skip
 exact PRet.pure (Wk.bool (by rw [List.not_any_eq_all_not]; simp))
theorem setM_nil : (fun (_ : Value) => (none : Option PV)) = setM [] := by
 funext v; unfold setM; split <;> simp
def checkP (p : Prog) (level : Int) : Int :=
 if (decide (level < 0) || decide (level ≥ 3)) = true then 1 else
 if (p.consts.all (fun d => d.rightP 0) && (p.body.ckP level p.consts.length 0 false [] 0 0 []).isSome) = true then 0 else 5
theorem checkp_c (p : Prog) (level : Int) (hb : p.body.bulk ≤ 1000000000) (hl : p.consts.length ≤ 1000000000) : ACallP Tryz.prog 25 [.agg p.cells, .int .i64 level] (.int .i64 (checkP p level)) := by
 have hs : checkP p level = checkP p level := rfl
 conv at hs => rhs; unfold checkP
 refine ACall.of_body tt_ok Tryz.func25 rfl rfl (n := 31) rfl rfl ?_
 conv => whnf
 repeat' (first|refine aA0 ?_|((first|refine pC (constantsp_c _) wR ?_|intro _);conv=>whnf)|(refine zX (fun hc=>?_) (fun hc=>?_)<;>(try simp only [SY] at hc)<;>(conv=>whnf)))
 ·rw [hs, if_pos (by simp only [SS]; exact hc)]
  exact PRet.pure (Wk.refl _)
 ·refine PGuard.ways (fun hg => ?_) (fun hg => ?_)
  ·conv => whnf
   conv => whnf
   repeat (first|refine aR0 ?_|((intro _);conv=>whnf))
   rename_i b1 r1 b2 r2
   have hall : (p.consts.all fun d => d.rightP 0) = true := by simpa using hg
   have hcall := rightp_c b2 r1 r2 level p.consts.length 0 false p.body [] 0 0 [] [] [] (by omega) (by omega) (by omega) (by omega) (by simp) hb
   rw [← setM_nil] at hcall
   refine PCall.goG (Ghost.box (b := b2) (cs := [.int .i64 level, .int .i64 p.consts.length, .int .i64 0, .bfalse, .int .i64 0, .mp r1]) (cs' := cpC level p.consts.length 0 0 false r1) wA) hcall (WkT.refl _) ?_
   rintro _ _ ⟨rfl, sz, mb, ms, pb, ps, rfl, hs2⟩
   conv => whnf
   repeat' ((refine zX (fun hc=>?_) (fun hc=>?_)<;>(try simp only [SY] at hc)<;>(conv=>whnf)))
   ·rw [hs, if_neg (by simp only [SS]; omega), if_neg (by rw [hc, hall]; simp)]
    exact PRet.pure (Wk.refl _)
   ·rw [hs, if_neg (by simp only [SS]; omega), if_pos (by rw [hc, hall]; rfl)]
    exact PRet.pure (Wk.refl _)
  ·conv => whnf
   rw [hs, if_neg (by simp only [SS]; omega), if_neg (by simp only [Bool.not_not] at hg; rw [hg]; simp)]
   exact PRet.pure (Wk.refl _)
end Go.Cb
namespace Go.Cb
open Go.Proofs
set_option maxRecDepth 100000
set_option maxHeartbeats 4000000
theorem check_eq (p : Prog) (level : Int) : checkP p level = checkD p level := by
 unfold checkP checkD
 have hr : (fun d : Datum => d.rightP 0) = fun d => d.rightD 0 := by funext d; exact right_eq d 0
 by_cases h : (decide (level < 0) || decide (level > 2)) = true
 ·rw [if_pos h, if_pos (by simp at h ⊢; omega)]
 ·rw [if_neg h, if_neg (by simp at h ⊢; omega), hr, ck_eq _ _ _ _ (by simp at h; omega) (by simp at h; omega)]
end Go.Cb
namespace Go.Cb
open Go.Proofs
set_option maxRecDepth 100000
set_option maxHeartbeats 4000000
def RightP (p : Prog) (level : Int) : Prop :=
 (0 ≤ level ∧ level ≤ 2) ∧ (∀ d ∈ p.consts, d.rightD 0 = true) ∧ p.body.okT level p.consts.length 0 false [] 0 ∧ p.body.cnt ≤ 20000 ∧ Dist p.body.vars []
mutual
def Trm.gre : Trm → Int
 | .mk op n _ t => Trm.gres t (if op = 0 then n else -1)
def Trm.gres : List Trm → Int → Int
 | [], m => m
 | x :: xs, m => Trm.gres xs (max m (Trm.gre x))
end
theorem Trm.gre_eq (t : Trm) : t.gre = Trm.gres t.t (if t.op = 0 then t.n else -1) := by cases t; rw [Trm.gre]; rfl
theorem Trm.gres_lt (c : Int) : ∀ (l : List Trm) (m : Int), Trm.gres l m < c ↔ m < c ∧ ∀ x ∈ l, x.gre < c
 | [], m => by simp [Trm.gres]
 | x :: l, m => by
  rw [Trm.gres, Trm.gres_lt c l]
  simp only [List.forall_mem_cons]
  constructor
  ·rintro ⟨h1, h2⟩; exact ⟨by omega, by omega, h2⟩
  ·rintro ⟨h1, h2, h3⟩; exact ⟨by omega, h3⟩
theorem numberL_other (c1 c2 codes : Int) (free : Bool) (t : Trm) (scope : List Int) (h : t.op ≠ 0) : numberL c1 codes free t scope = numberL c2 codes free t scope := by
 unfold numberL
 rw [if_neg h, if_neg h]
theorem Trm.okT_consts (level codes : Int) (free : Bool) (c1 c2 : Int) (h2 : 0 ≤ c2) (t : Trm) : ∀ (scope : List Int) (deep : Int), t.okT level c1 codes free scope deep → (t.okT level c2 codes free scope deep ↔ t.gre < c2) := by
 induction t using Trm.ind with
 | h t ih =>
  intro scope deep h
  have key : ∀ (op : Int) (sc inner : List Int) (deep : Int) (l : List Trm), (∀ y ∈ l, ∀ (scope : List Int) (deep : Int), y.okT level c1 codes free scope deep → (y.okT level c2 codes free scope deep ↔ y.gre < c2)) →
    Trm.okTs level c1 codes free op sc inner l deep → (Trm.okTs level c2 codes free op sc inner l deep ↔ ∀ x ∈ l, x.gre < c2) := by
   intro op sc inner deep l
   induction l with
   | nil => intro _ _; simp [Trm.okTs]
   | cons x l ihl =>
    intro hy hk
    rw [Trm.okTs] at hk
    rw [Trm.okTs, List.forall_mem_cons, hy x (by simp) _ _ hk.2.1, ihl (fun y hh => hy y (by simp [hh])) hk.2.2]
    simp only [hk.1, not_false_eq_true, true_and]
  rw [Trm.okT_eq] at h
  rw [Trm.okT_eq, Trm.gre_eq, Trm.gres_lt, key _ _ _ _ _ ih h.2]
  obtain ⟨⟨g1, g2, g3, g4⟩, _⟩ := h
  have hn : numberL c2 codes free t scope = true ↔ (if t.op = 0 then t.n else -1) < c2 := by
   by_cases h0 : t.op = 0
   ·rw [if_pos h0]
    unfold numberL at g4 ⊢
    rw [if_pos h0] at g4 ⊢
    simp at g4 ⊢
    omega
   ·rw [if_neg h0, numberL_other c2 c1 codes free t scope h0]
    simp only [g4, true_iff]
    omega
  rw [hn]
  simp only [g1, g2, g3, true_and]
theorem RightP.consts {p : Prog} {level : Int} (h : RightP p level) (cs : List Datum) (hc : ∀ d ∈ cs, d.rightD 0 = true) : RightP ⟨cs, p.body⟩ level ↔ p.body.gre < cs.length := by
 obtain ⟨h1, h2, h3, h4, h5⟩ := h
 unfold RightP
 simp only [h1, true_and, h4, h5, and_true]
 rw [Trm.okT_consts level 0 false p.consts.length cs.length (by omega) p.body [] 0 h3]
 simp [h1.1, h1.2]
 exact fun _ => hc
theorem RightP.gre {p : Prog} {level : Int} (h : RightP p level) : p.body.gre < p.consts.length := (h.consts p.consts h.2.1).1 h
end Go.Cb
namespace Go.Cb
open Go.Proofs
set_option maxRecDepth 100000
set_option maxHeartbeats 4000000
theorem Shift.nilRow (s : Nat) (e : TypeId) (Γ : List Ent) : Shift .nil Γ (.ms (nilTok s e)) (.row (nilTok s e) [] :: Γ) := fun w0 F M w v hS hx =>
 let ⟨F', h1, h2⟩ := Ghost.nilRow s e Γ w0 F M w hS
 ⟨F', h1, h2, Wk.nilRow s e F' v (Rep.mono h1 _ _ hx)⟩
theorem Shift.refl (x : PV) (Γ : List Ent) : Shift x Γ x Γ := fun _ F _ _ _ hS hx => ⟨F, Fz.le_refl F, hS, hx⟩
abbrev slI (l : List Int) : PV := .sl 1 (l.map (PV.int .i64)) none
instance : CellsOf slI (fun l => [slI l]) := ⟨fun _ => rfl⟩
end Go.Cb
namespace Go.Cb
open Go.Proofs
set_option maxRecDepth 100000
set_option maxHeartbeats 4000000
mutual
def Trm.met : Trm → List Int → Int → List (Trm × List Int)
 | .mk op n v t, sc, deep => (.mk op n v t, sc) :: if deep ≥ 1000 then [] else Trm.mets op sc (sc ++ v) t (deep + 1)
def Trm.mets (op : Int) (sc inner : List Int) : List Trm → Int → List (Trm × List Int)
 | [], _ => []
 | x :: xs, deep => Trm.met x (if groupB op = true ∨ xs = [] then inner else sc) deep ++ Trm.mets op sc inner xs deep
end
theorem Trm.met_eq (t : Trm) (sc : List Int) (deep : Int) : t.met sc deep = (t, sc) :: if deep ≥ 1000 then [] else Trm.mets t.op sc (sc ++ t.v) t.t (deep + 1) := by
 cases t; rw [Trm.met]; rfl
abbrev metP (x : Trm × List Int) : PV := .agg [.int .i64 x.1.op, .int .i64 x.1.n, .sl 1 (x.1.v.map (PV.int .i64)) none, .sl 4 (x.1.t.map Trm.pv) none, slI x.2]
def From (xs : List (List PV)) (i : Nat) (l : List (Trm × List Int)) : Prop := ∀ j (h : j < l.length), xs[i + j]? = some [metP l[j]]
theorem From.left {xs : List (List PV)} {i : Nat} {l m : List (Trm × List Int)} (h : From xs i (l ++ m)) : From xs i l := fun j hj => by
 have := h j (by rw [List.length_append]; omega)
 rwa [List.getElem_append_left hj] at this
theorem From.right {xs : List (List PV)} {i : Nat} {l m : List (Trm × List Int)} (h : From xs i (l ++ m)) : From xs (i + l.length) m := fun j hj => by
 have := h (l.length + j) (by rw [List.length_append]; omega)
 rw [List.getElem_append_right (by omega)] at this
 simpa [Nat.add_assoc] using this
theorem From.head {xs : List (List PV)} {i : Nat} {x : Trm × List Int} {m : List (Trm × List Int)} (h : From xs i (x :: m)) : From xs (i + 1) m := From.right (l := [x]) h
def Trm.all (t : Trm) : List (Trm × List Int) := t.met [] 0
end Go.Cb
namespace Go.Cb
open Go.Proofs
set_option maxRecDepth 100000
set_option maxHeartbeats 4000000
end Go.Cb
namespace Go.Cb
open Go.Proofs
set_option maxRecDepth 100000
set_option maxHeartbeats 4000000
theorem PLenM.one {x : PV} {Γ : List Ent} {t : Tok} {put : Tok → List PV → List Ent} [hp : PickRow Γ t [x] put] {K : Nat → Prop} (k : K 1) : PLenM t Γ K := PLenM.at_ (hp := hp) (fun _ => k)
end Go.Cb
namespace Go.Cb
open Go.Proofs
set_option maxRecDepth 100000
set_option maxHeartbeats 4000000
def namesB (op : Int) : Bool := op == 1 || op == 2 || op == 14
def freeOf (l : List (Trm × List Int)) : List Int := (l.filter fun m => namesB m.1.op && !m.2.contains m.1.n).map fun m => m.1.n
end Go.Cb
namespace Go.Cb
open Go.Proofs
set_option maxRecDepth 100000
set_option maxHeartbeats 4000000
mutual
def Trm.dep : Trm → Int
 | .mk _ _ _ t => Trm.deps t 0
def Trm.deps : List Trm → Int → Int
 | [], d => d
 | x :: xs, d => Trm.deps xs (max d (1 + Trm.dep x))
end
theorem Trm.dep_eq (t : Trm) : t.dep = Trm.deps t.t 0 := by cases t; rfl
theorem Trm.deps_le (c : Int) : ∀ (l : List Trm) (d : Int), Trm.deps l d ≤ c ↔ d ≤ c ∧ ∀ x ∈ l, 1 + x.dep ≤ c
 | [], d => by simp [Trm.deps]
 | x :: l, d => by
  rw [Trm.deps, Trm.deps_le c l]
  simp only [List.forall_mem_cons]
  constructor
  ·rintro ⟨h1, h2⟩; exact ⟨by omega, by omega, h2⟩
  ·rintro ⟨h1, h2, h3⟩; exact ⟨by omega, h3⟩
theorem Trm.deps_ge : ∀ (l : List Trm) (d : Int), d ≤ Trm.deps l d
 | [], d => by simp [Trm.deps]
 | x :: l, d => by rw [Trm.deps]; have := Trm.deps_ge l (max d (1 + x.dep)); omega
theorem Trm.okT_move {level c codes : Int} {free : Bool} (t : Trm) : ∀ {scope : List Int} {deep deep2 : Int}, t.okT level c codes free scope deep → deep2 + t.dep ≤ 400 → t.okT level c codes free scope deep2 := by
 induction t using Trm.ind with
 | h t ih =>
  intro scope deep deep2 h hd
  rw [Trm.okT_eq] at h ⊢
  rw [Trm.dep_eq] at hd
  have hd2 := (Trm.deps_le (400 - deep2) t.t 0).1 (by omega)
  have key : ∀ (op : Int) (sc inner : List Int) (deep deep2 : Int) (l : List Trm), (∀ y ∈ l, ∀ {scope : List Int} {deep deep2 : Int}, y.okT level c codes free scope deep → deep2 + y.dep ≤ 400 → y.okT level c codes free scope deep2) → (∀ x ∈ l, deep2 + x.dep ≤ 400) →
    Trm.okTs level c codes free op sc inner l deep → Trm.okTs level c codes free op sc inner l deep2 := by
   intro op sc inner deep deep2 l
   induction l with
   | nil => intro _ _ _; simp [Trm.okTs]
   | cons x l ihl =>
    intro hy hx hk
    rw [Trm.okTs] at hk ⊢
    exact ⟨hk.1, hy x (by simp) hk.2.1 (hx x (by simp)), ihl (fun z hz => hy z (by simp [hz])) (fun z hz => hx z (by simp [hz])) hk.2.2⟩
  exact ⟨⟨by have := Trm.deps_ge t.t 0; omega, h.1.2⟩, key _ _ _ _ _ _ ih (fun x hx => by have := hd2.2 x hx; omega) h.2⟩
theorem Trm.okT_names {level c codes : Int} {free : Bool} (t : Trm) : ∀ {scope : List Int} {deep : Int} (deep2 : Int), t.okT level c codes free scope deep → ∀ m ∈ t.met scope deep2, namesB m.1.op = true → m.2.contains m.1.n = true := by
 induction t using Trm.ind with
 | h t ih =>
  intro scope deep deep2 h
  rw [Trm.okT_eq] at h
  have key : ∀ (op : Int) (sc inner : List Int) (deep deep2 : Int) (l : List Trm), (∀ y ∈ l, ∀ {scope : List Int} {deep : Int} (deep2 : Int), y.okT level c codes free scope deep → ∀ m ∈ y.met scope deep2, namesB m.1.op = true → m.2.contains m.1.n = true) →
    Trm.okTs level c codes free op sc inner l deep → ∀ m ∈ Trm.mets op sc inner l deep2, namesB m.1.op = true → m.2.contains m.1.n = true := by
   intro op sc inner deep deep2 l
   induction l with
   | nil => intro _ _; simp [Trm.mets]
   | cons x l ihl =>
    intro hy hk m hm
    rw [Trm.okTs] at hk
    rw [Trm.mets, List.mem_append] at hm
    rcases hm with hm | hm
    ·have e : (if groupB op = true ∨ l = [] then inner else sc) = (if l = [] ∨ op = 7 ∨ op = 9 then inner else sc) := by
      by_cases h1 : l = [] <;> by_cases h2 : op = 7 <;> by_cases h3 : op = 9 <;> simp [groupB, h1, h2, h3]
     rw [e] at hm
     exact hy x (by simp) deep2 hk.2.1 m hm
    ·exact ihl (fun z hz => hy z (by simp [hz])) hk.2.2 m hm
  intro m hm
  rw [Trm.met_eq] at hm
  rcases List.mem_cons.1 hm with rfl | hm
  ·intro hn
   have h4 := h.1.2.2.2
   have ho : t.op = 1 ∨ t.op = 2 ∨ t.op = 14 := by simp [namesB] at hn; omega
   unfold numberL at h4
   rw [if_neg (by omega), if_pos ho] at h4
   exact h4
  ·split at hm
   ·cases hm
   ·exact key _ _ _ _ _ _ ih h.2 m hm
theorem RightP.free {p : Prog} {level : Int} (h : RightP p level) : freeOf p.body.all = [] := by
 unfold freeOf
 rw [List.map_eq_nil_iff, List.filter_eq_nil_iff]
 intro m hm
 have := p.body.okT_names 0 h.2.2.1 m hm
 simp
 simpa using this
theorem RightP.seq {p : Prog} {level : Int} (h : RightP p level) (hd : p.body.dep < 400) (hc : p.body.cnt ≤ 300) : RightP ⟨p.consts, .mk 6 0 [] [p.body]⟩ level := by
 obtain ⟨h1, h2, h3, h4, h5⟩ := h
 refine ⟨h1, h2, ?_, ?_, ?_⟩
 ·rw [Trm.okT, Trm.okTs, Trm.okTs]
  refine ⟨⟨by omega, ?_, ?_, ?_⟩, ⟨by simp, ?_, trivial⟩⟩
  ·simp [sortsL]
  ·simp [countsL, Trm.op, Trm.t, Trm.v]
  ·simp [numberL, Trm.op, Trm.n]
  ·rw [if_pos (.inl rfl)]
   exact Trm.okT_move _ h3 (by omega)
 ·show Trm.cnt (.mk 6 0 [] [p.body]) ≤ 20000
  rw [Trm.cnt_eq]
  show 1 + Trm.cnts [p.body] ≤ 20000
  rw [Trm.cnts, Trm.cnts]; omega
 ·show Dist (Trm.vars (.mk 6 0 [] [p.body])) []
  rw [Trm.vars_eq]
  show Dist ([] ++ Trm.varss [p.body]) []
  rw [Trm.varss, Trm.varss]
  simpa using h5
end Go.Cb
namespace Go.Cb
open Go.Proofs
set_option maxRecDepth 100000
set_option maxHeartbeats 4000000
theorem bindsD_lt {d : Datum} {b : List (Datum × Datum)} (hp : d.pr = true) (h : bindsD d = some b) {x : Datum × Datum} (hx : x ∈ b) : x.2.sz < d.sz ∧ x.2.pr = true := by
 obtain ⟨h1, h2⟩ := bindsD_sz hp h
 have h3 := Datum.szs_mem (List.mem_map_of_mem (f := Prod.snd) hx)
 exact ⟨by omega, (h2 x hx).2⟩
theorem upE_add (n : Int) (j k : Nat) : upE n (j + k) = upE n j ++ upE (n + j) k := by
 unfold upE
 rw [List.range_add, List.map_append, List.map_map]
 congr 1
 apply List.map_congr_left
 intro i _
 simp only [Function.comp_apply]
 omega
theorem upE_len (n : Int) (k : Nat) : (upE n k).length = k := by simp [upE]
def VarsOk (s : RsS) (vs : List Int) (s' : RsS) : Prop := ∃ k : Nat, vs = upE s.vars k ∧ s'.vars = s.vars + k
theorem VarsOk.trans {s s1 s2 : RsS} {u v : List Int} (h1 : VarsOk s u s1) (h2 : VarsOk s1 v s2) : VarsOk s (u ++ v) s2 := by
 obtain ⟨j, rfl, e1⟩ := h1
 obtain ⟨k, rfl, e2⟩ := h2
 exact ⟨j + k, by rw [upE_add, e1], by omega⟩
theorem VarsOk.nil (s s' : RsS) (h : s'.vars = s.vars) : VarsOk s [] s' := ⟨0, rfl, by omega⟩
theorem VarsOk.up {s s1 s2 : RsS} {n : Nat} {v : List Int} (e : s1.vars = s.vars + n) (h : VarsOk s1 v s2) : VarsOk s (upE s.vars n ++ v) s2 := VarsOk.trans (s1 := s1) ⟨n, rfl, e⟩ h
theorem VarsOk.from {s s1 s2 : RsS} {v : List Int} (e : s1.vars = s.vars) (h : VarsOk s1 v s2) : VarsOk s v s2 := by
 obtain ⟨k, h1, h2⟩ := h
 exact ⟨k, by rw [h1, e], by omega⟩
def Dom (e1 e2 : Env) : Prop := ∀ x, (fndE e1 x).isSome = true → (fndE e2 x).isSome = true
theorem Dom.cons {e1 e2 : Env} (h : Dom e1 e2) (x : List UInt8) (n m : Int) : Dom ((x, n) :: e1) ((x, m) :: e2) := fun y hy => by
 rw [fndE] at hy ⊢
 split
 ·rfl
 ·rename_i hne
  rw [if_neg hne] at hy
  exact h y hy
theorem Dom.nil (e : Env) : Dom [] e := fun x h => by cases h
end Go.Cb
namespace Go.Cb
open Go.Proofs
set_option maxRecDepth 100000
set_option maxHeartbeats 4000000
def RsOk (k : Nat) (s : RsS) : Prop := 0 ≤ s.vars ∧ s.vars + k ≤ 1000000000000 ∧ s.cs.length + k ≤ 1000000000
def RsGo (k : Nat) (s s' : RsS) : Prop := s.vars ≤ s'.vars ∧ s'.vars ≤ s.vars + k ∧ s'.cs.length ≤ s.cs.length + k
theorem RsGo.refl (k : Nat) (s : RsS) : RsGo k s s := ⟨Int.le_refl _, by omega, by omega⟩
theorem RsGo.trans {j k : Nat} {s s1 s2 : RsS} (h1 : RsGo j s s1) (h2 : RsGo k s1 s2) : RsGo (j + k) s s2 := by unfold RsGo at *; omega
theorem RsGo.mono {j k : Nat} {s s1 : RsS} (h : RsGo j s s1) (hk : j ≤ k) : RsGo k s s1 := by unfold RsGo at *; omega
theorem RsOk.step {j k : Nat} {s s1 : RsS} (h : RsOk (j + k) s) (h1 : RsGo j s s1) : RsOk k s1 := by unfold RsOk RsGo at *; omega
theorem RsOk.mono {j k : Nat} {s : RsS} (h : RsOk j s) (hk : k ≤ j) : RsOk k s := by unfold RsOk at *; omega
theorem RsGo.more {n k : Nat} {s s' : RsS} {c : List Datum} {l : Bool} (h : RsGo k ⟨s.cs, s.vars + n, l⟩ s') (hc : c = s.cs) : RsGo (n + k) s s' := by
 obtain ⟨h1, h2, h3⟩ := h
 dsimp only at h1 h2 h3
 exact ⟨by omega, by omega, by omega⟩
def GoOk (tm : Datum → Env → RsS → RsR) (x : Datum) : Prop := ∀ e s, RsGo x.sz s (tm x e s).2 ∧ (tm x e s).1.bulk ≤ x.sz
theorem allR_go {tm : Datum → Env → RsS → RsR} : ∀ (l : List Datum), (∀ x ∈ l, GoOk tm x) → ∀ (e : Env) (s : RsS), RsGo (Datum.szs l) s (allR tm l e s).2 ∧ Trm.bulks (allR tm l e s).1 ≤ Datum.szs l
 | [], _, _, s => ⟨RsGo.refl _ s, by simp [allR, Trm.bulks]⟩
 | x :: l, h, e, s => by
  have h1 := h x (by simp) e s
  have h2 := allR_go l (fun y hy => h y (List.mem_cons_of_mem _ hy)) e (tm x e s).2
  rw [allR, Datum.szs, Trm.bulks]
  exact ⟨h1.1.trans h2.1, by omega⟩
theorem formalsL_len {d : Datum} (hp : d.pr = true) : (formalsL d).length ≤ d.sz := by
 have h := (Datum.its_sz d.sz d (Nat.le_refl _) hp).1
 have h2 := d.its.2.sz_pos
 rw [formalsL, List.length_append]
 split <;> simp <;> omega
theorem szs_drop2 {l : List Datum} (h : 1 < l.length) : Datum.szs l = (l.getD 0 nulD).sz + (l.getD 1 nulD).sz + Datum.szs (l.drop 2) := by
 match l, h with
 | x :: y :: l, _ => simp [Datum.szs]; omega
theorem TF_go (nf : Int) : ∀ (n : Nat) (d : Datum), d.pr = true → GoOk (TF nf n) d
 | 0, d, _, e, s => ⟨RsGo.refl _ s, d.sz_pos⟩
 | n + 1, d, hp, e, s => by
  have hs := Datum.its_szs hp
  have hpl : ∀ x ∈ d.its.1, x.pr = true := fun x hx => (Datum.its_lt hp hx).2
  have key : ∀ l : List Datum, (∀ x ∈ l, x.pr = true) → ∀ e s, RsGo (Datum.szs l) s (allR (TF nf n) l e s).2 ∧ Trm.bulks (allR (TF nf n) l e s).1 ≤ Datum.szs l := fun l h => allR_go l fun x hx => TF_go nf n x (h x hx)
  have hpos := d.sz_pos
  have hb0 : ∀ (op k : Int) (l : List Trm), (Trm.mk op k [] l).bulk = 1 + Trm.bulks l := fun op k l => by rw [Trm.bulk]; simp
  have kd : ∀ k, ∀ e s, RsGo (Datum.szs (d.its.1.drop k)) s (allR (TF nf n) (d.its.1.drop k) e s).2 ∧ Trm.bulks (allR (TF nf n) (d.its.1.drop k) e s).1 ≤ Datum.szs (d.its.1.drop k) := fun k => key _ fun x hx => hpl x (List.mem_of_mem_drop hx)
  have hz1 := Datum.szs_drop d.its.1 1
  have hz2 := Datum.szs_drop d.its.1 2
  rw [TF]
  dsimp only
  split
  ·split
   ·exact ⟨RsGo.refl _ s, by rw [hb0]; simp [Trm.bulks]; omega⟩
   ·split
    ·exact ⟨RsGo.refl _ s, by rw [hb0]; simp [Trm.bulks]; omega⟩
    ·exact ⟨⟨Int.le_refl _, by dsimp only; omega, by simp⟩, by rw [hb0]; simp [Trm.bulks]; omega⟩
  split
  ·split
   ·exact ⟨⟨Int.le_refl _, by dsimp only; omega, by simp; omega⟩, by rw [hb0]; simp [Trm.bulks]; omega⟩
   split
   ·have h := kd 1 e s
    exact ⟨h.1.mono (by omega), by rw [hb0]; omega⟩
   split
   ·have h := kd 1 e s
    exact ⟨h.1.mono (by omega), by rw [hb0]; omega⟩
   split
   ·rcases Nat.lt_or_ge 1 d.its.1.length with hl | hl
    ·have hf := formalsL_len (hpl _ (datD_mem hl))
     have hsz := szs_drop2 hl
     have h := kd 2 (bndE e s.vars ((formalsL (d.its.1.getD 1 nulD)).map Datum.s)) ⟨s.cs, s.vars + (formalsL (d.its.1.getD 1 nulD)).length, s.lost⟩
     have hp0 := (d.its.1.getD 0 nulD).sz_pos
     refine ⟨(h.1.more rfl).mono (by omega), ?_⟩
     dsimp only
     rw [Trm.bulk, upE_len]
     omega
    ·have e1 : d.its.1.getD 1 nulD = nulD := by simp [List.getD, hl]
     have e2 : d.its.1.drop 2 = [] := List.drop_of_length_le (by omega)
     have hf : formalsL nulD = [] := rfl
     rw [e1, e2, hf]
     refine ⟨⟨?_, ?_, ?_⟩, ?_⟩ <;> simp [allR, Trm.bulk, Trm.bulks, upE] <;> omega
   split
   ·rcases Nat.lt_or_ge 1 d.its.1.length with hl | hl
    ·have hp1 := hpl _ (datD_mem hl)
     have hsz := szs_drop2 hl
     have hp0 := (d.its.1.getD 0 nulD).sz_pos
     have hp2 : (d.its.1.getD 2 nulD).pr = true ∧ (d.its.1.getD 2 nulD).sz ≤ Datum.szs (d.its.1.drop 2) + 1 := by
      rcases Nat.lt_or_ge 2 d.its.1.length with h2 | h2
      ·refine ⟨hpl _ (datD_mem h2), ?_⟩
       have : d.its.1.getD 2 nulD ∈ d.its.1.drop 2 := by
        rw [datD_get h2, List.mem_drop_iff_getElem]
        exact ⟨0, by omega, rfl⟩
       have := Datum.szs_mem this
       omega
      ·have : d.its.1.getD 2 nulD = nulD := by simp [List.getD, h2]
       rw [this]
       exact ⟨rfl, by show 1 ≤ _; omega⟩
     have hB : Datum.szs (((bindsD (d.its.1.getD 1 nulD)).getD []).map Prod.snd) + ((bindsD (d.its.1.getD 1 nulD)).getD []).length ≤ (d.its.1.getD 1 nulD).sz ∧ ∀ x ∈ ((bindsD (d.its.1.getD 1 nulD)).getD []).map Prod.snd, x.pr = true := by
      cases hb : bindsD (d.its.1.getD 1 nulD) with
      | none => simp [Datum.szs]
      | some b =>
       obtain ⟨h1, h2⟩ := bindsD_sz hp1 hb
       refine ⟨by simp only [Option.getD_some]; omega, fun x hx => ?_⟩
       obtain ⟨p, hp', rfl⟩ := List.mem_map.1 hx
       exact (h2 p hp').2
     generalize (bindsD (d.its.1.getD 1 nulD)).getD [] = B at *
     have h := key (B.map Prod.snd ++ [d.its.1.getD 2 nulD]) (fun x hx => by
      rcases List.mem_append.1 hx with hx | hx
      ·exact hB.2 x hx
      ·rw [List.mem_singleton] at hx; subst hx; exact hp2.1) (bndE e s.vars (B.map fun p => p.1.s)) ⟨s.cs, s.vars + B.length, s.lost⟩
     rw [Datum.szs_append, Datum.szs, Datum.szs] at h
     refine ⟨(h.1.more rfl).mono (by omega), ?_⟩
     dsimp only
     rw [Trm.bulk, upE_len]
     omega
    ·have e1 : d.its.1.getD 1 nulD = nulD := by simp [List.getD, hl]
     have e2 : d.its.1.getD 2 nulD = nulD := by simp [List.getD, show d.its.1.length ≤ 2 by omega]
     have hd3 : 3 ≤ d.sz := by
      have : 0 < d.its.1.length := by
       rcases Nat.eq_zero_or_pos d.its.1.length with h0 | h0
       ·rename_i hh _ _ _ _ _
        have := List.eq_nil_of_length_eq_zero h0
        rw [this] at hh
        exact absurd hh.1 (by decide)
       ·exact h0
      have := Datum.szs_len d.its.1
      omega
     have h := key [nulD] (fun x hx => by rw [List.mem_singleton] at hx; subst hx; rfl) e ⟨s.cs, s.vars + ((0 : Nat) : Int), s.lost⟩
     rw [e1, e2]
     have hb : (bindsD nulD).getD [] = [] := rfl
     rw [hb]
     have hz : Datum.szs [nulD] = 1 := rfl
     rw [hz] at h
     refine ⟨(RsGo.more h.1 rfl).mono (by omega), ?_⟩
     show (Trm.mk 7 _ (upE s.vars 0) (allR (TF nf n) [nulD] e ⟨s.cs, s.vars + ((0 : Nat) : Int), s.lost⟩).1).bulk ≤ _
     rw [Trm.bulk, upE_len]
     omega
   split
   ·split
    ·have h := kd 2 e s
     exact ⟨h.1.mono (by omega), by rw [hb0]; omega⟩
    ·have h := kd 2 e ⟨s.cs, s.vars, true⟩
     exact ⟨h.1.mono (by omega), by rw [hb0]; omega⟩
   ·have h := key _ hpl e s
    exact ⟨h.1.mono (by omega), by rw [hb0]; omega⟩
  ·have h := key _ hpl e s
   exact ⟨h.1.mono (by omega), by rw [hb0]; omega⟩
end Go.Cb
namespace Go.Cb
open Go.Proofs
set_option maxRecDepth 100000
set_option maxHeartbeats 4000000
theorem corF_its {n : Nat} {d : Datum} (h : corF (n + 1) d = true) (hk : ¬d.kind = 2) : itemsB d = true ∧ 0 < d.its.1.length := by
 rw [corF, if_neg hk] at h
 dsimp only at h
 split at h
 ·cases h
 ·rename_i h1
  refine ⟨by simpa using fun h2 => h1 (.inl h2), ?_⟩
  rcases Nat.eq_zero_or_pos d.its.1.length with h0 | h0
  ·exact absurd (.inr (List.eq_nil_of_length_eq_zero h0)) h1
  ·exact h0
theorem corF_rest {n : Nat} {d : Datum} (h : corF (n + 1) d = true) (hk : ¬d.kind = 2) : ∃ r : Bool, r = true ∧ r = (let l := d.its.1
  let h := l.getD 0 nulD
  if h.kind = 2 ∧ keyB h.s = true then
   if h.s = kwQuote then l.length == 2 else
   if h.s = kwIf then l.length == 4 && (l.drop 1).all (corF n) else
   if h.s = kwLambda then l.length == 3 && formalsB (l.getD 1 nulD) && (l.drop 2).all (corF n) else
   if h.s = kwSet then l.length == 3 && varB (l.getD 1 nulD) && (l.drop 2).all (corF n) else
   if h.s = kwBegin then decide (2 ≤ l.length) && (l.drop 1).all (corF n) else
   if h.s = kwLetrec ∨ h.s = kwLetrecS then
    if l.length ≠ 3 then false else match bindsD (l.getD 1 nulD) with
     | none => false
     | some b => distB (b.map Prod.fst) [] && (b.map Prod.snd ++ [l.getD 2 nulD]).all (corF n)
   else false
  else l.all (corF n)) := by
 refine ⟨_, h, ?_⟩
 rw [corF, if_neg hk]
 dsimp only
 split
 ·rename_i h1
  have := corF_its h hk
  rcases h1 with h1 | h1
  ·rw [h1] at this; cases this.1
  ·rw [h1] at this; simp at this
 ·rfl
section
variable {n : Nat} {d : Datum} (h : corF (n + 1) d = true) (hk : ¬d.kind = 2) (hh : (d.its.1.getD 0 nulD).kind = 2 ∧ keyB (d.its.1.getD 0 nulD).s = true)
include h hk
include hh in
theorem corF_quote (hs : (d.its.1.getD 0 nulD).s = kwQuote) : d.its.1.length = 2 := by
 obtain ⟨r, hr, e⟩ := corF_rest h hk
 rw [hr] at e
 dsimp only at e
 rw [if_pos hh, if_pos hs] at e
 simpa using e.symm
include hh in
theorem corF_if (hs : (d.its.1.getD 0 nulD).s = kwIf) : d.its.1.length = 4 ∧ ∀ x ∈ d.its.1.drop 1, corF n x = true := by
 obtain ⟨r, hr, e⟩ := corF_rest h hk
 have hq : ¬(d.its.1.getD 0 nulD).s = kwQuote := by rw [hs]; decide
 rw [hr] at e
 dsimp only at e
 rw [if_pos hh, if_neg hq, if_pos hs] at e
 have e := e.symm
 rw [Bool.and_eq_true, List.all_eq_true] at e
 exact ⟨by simpa using e.1, e.2⟩
include hh in
theorem corF_lambda (hs : (d.its.1.getD 0 nulD).s = kwLambda) : d.its.1.length = 3 ∧ formalsB (d.its.1.getD 1 nulD) = true ∧ ∀ x ∈ d.its.1.drop 2, corF n x = true := by
 obtain ⟨r, hr, e⟩ := corF_rest h hk
 have hq : ¬(d.its.1.getD 0 nulD).s = kwQuote := by rw [hs]; decide
 have q1 : ¬(d.its.1.getD 0 nulD).s = kwIf := by rw [hs]; decide
 rw [hr] at e
 dsimp only at e
 rw [if_pos hh, if_neg hq, if_neg q1, if_pos hs] at e
 have e := e.symm
 rw [Bool.and_eq_true, List.all_eq_true, Bool.and_eq_true] at e
 exact ⟨by simpa using e.1.1, e.1.2, e.2⟩
include hh in
theorem corF_set (hs : (d.its.1.getD 0 nulD).s = kwSet) : d.its.1.length = 3 ∧ varB (d.its.1.getD 1 nulD) = true ∧ ∀ x ∈ d.its.1.drop 2, corF n x = true := by
 obtain ⟨r, hr, e⟩ := corF_rest h hk
 have hq : ¬(d.its.1.getD 0 nulD).s = kwQuote := by rw [hs]; decide
 have q1 : ¬(d.its.1.getD 0 nulD).s = kwIf := by rw [hs]; decide
 have q2 : ¬(d.its.1.getD 0 nulD).s = kwLambda := by rw [hs]; decide
 rw [hr] at e
 dsimp only at e
 rw [if_pos hh, if_neg hq, if_neg q1, if_neg q2, if_pos hs] at e
 have e := e.symm
 rw [Bool.and_eq_true, List.all_eq_true, Bool.and_eq_true] at e
 exact ⟨by simpa using e.1.1, e.1.2, e.2⟩
include hh in
theorem corF_begin (hs : (d.its.1.getD 0 nulD).s = kwBegin) : 2 ≤ d.its.1.length ∧ ∀ x ∈ d.its.1.drop 1, corF n x = true := by
 obtain ⟨r, hr, e⟩ := corF_rest h hk
 have hq : ¬(d.its.1.getD 0 nulD).s = kwQuote := by rw [hs]; decide
 have q1 : ¬(d.its.1.getD 0 nulD).s = kwIf := by rw [hs]; decide
 have q2 : ¬(d.its.1.getD 0 nulD).s = kwLambda := by rw [hs]; decide
 have q3 : ¬(d.its.1.getD 0 nulD).s = kwSet := by rw [hs]; decide
 rw [hr] at e
 dsimp only at e
 rw [if_pos hh, if_neg hq, if_neg q1, if_neg q2, if_neg q3, if_pos hs] at e
 have e := e.symm
 rw [Bool.and_eq_true, List.all_eq_true] at e
 exact ⟨by simpa using e.1, e.2⟩
include hh in
theorem corF_rec (hs : (d.its.1.getD 0 nulD).s = kwLetrec ∨ (d.its.1.getD 0 nulD).s = kwLetrecS) : d.its.1.length = 3 ∧ ∃ B, bindsD (d.its.1.getD 1 nulD) = some B ∧ distB (B.map Prod.fst) [] = true ∧ ∀ x ∈ B.map Prod.snd ++ [d.its.1.getD 2 nulD], corF n x = true := by
 obtain ⟨r, hr, e⟩ := corF_rest h hk
 have hq : ¬(d.its.1.getD 0 nulD).s = kwQuote := by rcases hs with hs | hs <;> rw [hs] <;> decide
 have q1 : ¬(d.its.1.getD 0 nulD).s = kwIf := by rcases hs with hs | hs <;> rw [hs] <;> decide
 have q2 : ¬(d.its.1.getD 0 nulD).s = kwLambda := by rcases hs with hs | hs <;> rw [hs] <;> decide
 have q3 : ¬(d.its.1.getD 0 nulD).s = kwSet := by rcases hs with hs | hs <;> rw [hs] <;> decide
 have q4 : ¬(d.its.1.getD 0 nulD).s = kwBegin := by rcases hs with hs | hs <;> rw [hs] <;> decide
 rw [hr] at e
 dsimp only at e
 rw [if_pos hh, if_neg hq, if_neg q1, if_neg q2, if_neg q3, if_neg q4, if_pos hs] at e
 have e := e.symm
 split at e
 ·cases e
 ·rename_i h3
  refine ⟨by simpa using h3, ?_⟩
  cases hB : bindsD (d.its.1.getD 1 nulD) with
  | none => rw [hB] at e; cases e
  | some B =>
   rw [hB] at e
   dsimp only at e
   rw [Bool.and_eq_true, List.all_eq_true] at e
   exact ⟨B, rfl, e.1, e.2⟩
include hh in
theorem corF_none (h1 : ¬(d.its.1.getD 0 nulD).s = kwQuote) (h2 : ¬(d.its.1.getD 0 nulD).s = kwIf) (h3 : ¬(d.its.1.getD 0 nulD).s = kwLambda) (h4 : ¬(d.its.1.getD 0 nulD).s = kwSet) (h5 : ¬(d.its.1.getD 0 nulD).s = kwBegin) (h6 : ¬(d.its.1.getD 0 nulD).s = kwLetrec) (h7 : ¬(d.its.1.getD 0 nulD).s = kwLetrecS) : False := by
 obtain ⟨r, hr, e⟩ := corF_rest h hk
 rw [hr] at e
 dsimp only at e
 rw [if_pos hh, if_neg h1, if_neg h2, if_neg h3, if_neg h4, if_neg h5, if_neg (not_or.2 ⟨h6, h7⟩)] at e
 cases e
theorem corF_app (hn : ¬((d.its.1.getD 0 nulD).kind = 2 ∧ keyB (d.its.1.getD 0 nulD).s = true)) : ∀ x ∈ d.its.1, corF n x = true := by
 obtain ⟨r, hr, e⟩ := corF_rest h hk
 rw [hr] at e
 dsimp only at e
 rw [if_neg hn] at e
 exact List.all_eq_true.1 e.symm
end
theorem rightD_pr : ∀ (d : Datum) (deep : Int), d.rightD deep = true → d.pr = true := by
 intro d
 induction d using Datum.ind with
 | h d ih =>
  intro deep h
  rw [Datum.rightD_eq, Bool.and_eq_true] at h
  have key : ∀ l : List Datum, (∀ y ∈ l, ∀ deep : Int, y.rightD deep = true → y.pr = true) → ∀ deep, Datum.rightDs l deep = true → Datum.prs l = true := by
   intro l
   induction l with
   | nil => intro _ _ _; rfl
   | cons x l ihl =>
    intro hy deep h
    rw [Datum.rightDs, Bool.and_eq_true] at h
    rw [Datum.prs, hy x (by simp) deep h.1, ihl (fun y hm => hy y (List.mem_cons_of_mem _ hm)) deep h.2]
    rfl
  rw [Datum.pr_eq, key d.l ih _ h.2, Bool.and_true]
  have h1 := h.1
  unfold bareBad at h1
  simp only [Bool.not_eq_true', Bool.or_eq_false_iff] at h1
  have h2 := h1.2.1
  by_cases h6 : d.kind = 6
  ·simp [h6] at h2
   simp [h6]
   omega
  ·simp [h6]
end Go.Cb
namespace Go.Cb
open Go.Proofs
set_option maxRecDepth 100000
set_option maxHeartbeats 40000000
theorem core1S_c (n : Nat) (x : Datum) (h : ACallP Tryz.prog 48 [.agg x.cells] (.bool (corF n x))) : ACall Tryz.prog 104 [.agg x.cells] [] (fun y Γ' => y = .bool (!corF n x) ∧ Γ' = []) := by
 refine ACall.of_body tt_ok Tryz.func104 rfl rfl (n := 6) rfl rfl ?_
 conv => whnf
 repeat' (first|refine aA2 ?_|((first|refine pC (h) wR ?_|intro _);conv=>whnf)|(refine zX (fun hc=>?_) (fun hc=>?_)<;>(try simp only [SY] at hc)<;>omega))
 exact PRet.gen (Wk.refl _) ⟨rfl, rfl⟩
theorem anyS_c {n : Nat} {l : List Datum} (h : ∀ x ∈ l, ACallP Tryz.prog 48 [.agg x.cells] (.bool (corF n x))) :
  ACallP Tryz.prog 84 [.sl 5 (l.map Datum.pv) none, .fn (.func 104) []] (.bool (l.any fun x => !corF n x)) :=
 (containsFuncDat_c 104 [] [] (fun x => !corF n x) l (fun x hx => core1S_c n x (h x hx))).shift fun y Γ' hq => ⟨y, Γ', Shift.refl _ _, hq.1⟩
theorem isKwS_iff (d : Datum) (k : List UInt8) : isKw d k = true ↔ d.kind = 2 ∧ d.s = k := by unfold isKw; simp
theorem isKw_no {d : Datum} {k : List UInt8} (h2 : d.kind = 2) (h : isKw d k = false) : ¬d.s = k := fun e => by
 rw [(isKwS_iff d k).2 ⟨h2, e⟩] at h
 cases h
theorem not_any (n : Nat) : ∀ l : List Datum, (!l.any fun x => !corF n x) = l.all (corF n)
 | [] => rfl
 | x :: l => by rw [List.any_cons, List.all_cons, Bool.not_or, not_any n l, Bool.not_not]
theorem coreS_c (n : Nat) (hn : n ≤ 1000000000) : ∀ d : Datum, d.sz ≤ n → d.pr = true → ACallP Tryz.prog 48 [.agg d.cells] (.bool (corF n d)) := by
 induction n with
 | zero => intro d h; have := d.sz_pos; omega
 | succ n ih =>
  intro d hs hp
  have hX : ∀ x ∈ d.its.1, x.pr = true ∧ x.sz ≤ n := fun x hx => by have := Datum.its_lt hp hx; exact ⟨this.2, by omega⟩
  have hX9 : ∀ x ∈ d.its.1, x.pr = true ∧ x.sz ≤ 1000000000 := fun x hx => ⟨(hX x hx).1, by have := (hX x hx).2; omega⟩
  have hXd := datAll hX9 (by omega)
  have hLs := Datum.its_szs hp
  have hLl := Datum.szs_len d.its.1
  have hC : corF (n + 1) d = corF (n + 1) d := rfl
  conv at hC => rhs; rw [corF]; dsimp only
  unfold kwQuote kwIf kwLambda kwSet kwBegin kwLetrec kwLetrecS at hC
  have hI := itemsS_c d hp (by omega)
  have ih' := fun x (h : x ∈ d.its.1) => ih (by omega) x (hX x h).2 (hX x h).1
  generalize corF (n + 1) d = C at *
  generalize d.its.1 = L at *
  have hA0 := anyS_c (l := L) ih'
  have hA1 := anyS_c (l := L.drop 1) (fun x h => ih' x (List.mem_of_mem_drop h))
  rw [← Bool.not_not (L.any _), not_any] at hA0
  rw [← Bool.not_not ((L.drop 1).any _), not_any] at hA1
  have hAK := anyS_c (l := L.drop (if 2 < (L.length : Int) then 2 else (L.length : Int)).toNat) (fun x h => ih' x (List.mem_of_mem_drop h))
  rw [← Bool.not_not ((L.drop (if 2 < (L.length : Int) then 2 else (L.length : Int)).toNat).any _), not_any] at hAK
  have hK : L.length = 3 → (if 2 < (L.length : Int) then 2 else (L.length : Int)).toNat = 2 := fun h => by rw [h]; rfl
  have hbe : ∀ k : Nat, ((L.length : Int) == (k : Int)) = (L.length == k) := fun k => by rw [Bool.eq_iff_iff]; simp; omega
  refine ACall.of_body tt_ok Tryz.func48 rfl rfl (n := 137) rfl rfl ?_
  conv => whnf
  repeat (first|refine aR2 ?_|((intro _);conv=>whnf))
  rename_i b1
  conv => whnf
  repeat' (first|refine aA2 ?_|((first|(((apply zY;intro hg));(conv=>whnf);(repeat ((first|refine pC (keyS_c _) wR ?_|refine pC (varS_c _) wR ?_|refine pC (hA0) (by ((repeat' (first|exact WkT.nil|apply WkT.cons|exact Wk.refl _|exact Wk.int OA|exact Wk.tt rfl|exact Wk.ff rfl|exact Wk.nil' rfl|exact Wk.tok _ _ _)); first|done|fail)) ?_|refine pC (hA1) (by ((repeat' (first|exact WkT.nil|apply WkT.cons|exact Wk.refl _|exact Wk.int OA|exact Wk.tt rfl|exact Wk.ff rfl|exact Wk.nil' rfl|exact Wk.tok _ _ _)); first|done|fail)) ?_|refine pC (hAK) (by ((repeat' (first|exact WkT.nil|apply WkT.cons|exact Wk.refl _|exact Wk.int OA|exact Wk.tt rfl|exact Wk.ff rfl|exact Wk.nil' rfl|exact Wk.tok _ _ _)); first|done|fail)) ?_|refine pC (formalsS_c _ (hXd _).1 (hXd _).2) wR ?_|refine aH ?_);conv=>whnf));exact pZ)|refine pC (hI) wR ?_|refine pC (varS_c _) wR ?_|refine pC (isS_c _ _) wR ?_|intro _);conv=>whnf)|(refine zX (fun hc=>?_) (fun hc=>?_)<;>(try simp only [SY] at hc)<;>(conv=>whnf)))
  all_goals try contradiction
  all_goals try exact absurd ((‹isKw (L[0]'(by omega)) [108, 101, 116, 114, 101, 99] = true›).symm.trans ‹isKw (L[0]'(by omega)) [108, 101, 116, 114, 101, 99] = false›) (by decide)
  all_goals try exact absurd ((‹isKw (L[0]'(by omega)) [108, 101, 116, 114, 101, 99, 42] = true›).symm.trans ‹isKw (L[0]'(by omega)) [108, 101, 116, 114, 101, 99, 42] = false›) (by decide)
  ·rw [if_pos hc] at hC
   rw [hC]
   exact PRet.pure (Wk.bool (by unfold varB; rw [hc]; rfl))
  all_goals rw [if_neg ‹¬d.kind = 2›] at hC
  ·rw [if_pos (by
    rcases hc with h | h
    ·exact .inl h
    ·exact .inr (List.eq_nil_of_length_eq_zero (by omega)))] at hC
   rw [hC]
   exact PRet.pure (Wk.ff rfl)
  all_goals
   have hib := (‹itemsB d = true ∧ ¬(L.length : Int) = 0›).1
   have hL0 : 0 < L.length := by omega
   rw [if_neg (by
    rintro (h | h)
    ·rw [hib] at h; cases h
    ·rw [h] at hL0; simp at hL0), datD_get hL0] at hC
  ·rw [if_neg (fun h => by
    rcases hc with h3 | h3
    ·exact h3 h.1
    ·rw [h.2] at h3; cases h3)] at hC
   rw [hC]
   exact PRet.pure (Wk.bool (by rw [hib, Bool.not_not, Bool.true_and]))
  ·have hh := ‹L[0].kind = 2 ∧ keyB L[0].s = true›
   rw [if_pos hh, ((isKwS_iff _ _).1 hc).2, if_pos rfl] at hC
   rw [hC]
   exact PRet.pure (Wk.bool (hbe 2))
  ·have hh := ‹L[0].kind = 2 ∧ keyB L[0].s = true›
   rw [if_pos hh, ((isKwS_iff _ _).1 hc).2, if_neg (by decide), if_pos rfl] at hC
   rw [hC]
   exact PRet.pure (Wk.bool (by rw [Bool.not_not, ← hbe]; rfl))
  ·have hh := ‹L[0].kind = 2 ∧ keyB L[0].s = true›
   rw [if_pos hh, ((isKwS_iff _ _).1 hc).2, if_neg (by decide), if_neg (by decide), if_neg (by decide), if_neg (by decide), if_pos rfl] at hC
   rw [hC]
   exact PRet.pure (Wk.bool (by rw [Bool.not_not]; congr 1; rw [decide_eq_decide]; omega))
  ·have hh := ‹L[0].kind = 2 ∧ keyB L[0].s = true›
   rw [if_pos hh, ((isKwS_iff _ _).1 hc).2, if_neg (by decide), if_neg (by decide), if_pos rfl] at hC
   rw [hC]
   refine PRet.pure (Wk.bool ?_)
   rw [Bool.not_not, ← and_getD formalsB (Dfl.d : Datum) nulD, ← hbe]
   by_cases h3 : L.length = 3
   ·rw [hK h3]; rfl
   ·have e3 : ((L.length : Int) == 3) = false := beq_eq_false_iff_ne.2 (by omega)
    rw [show ((L.length : Int) == ((3 : Nat) : Int)) = false from e3, e3]; rfl
  ·have hh := ‹L[0].kind = 2 ∧ keyB L[0].s = true›
   rw [if_pos hh, ((isKwS_iff _ _).1 hc).2, if_neg (by decide), if_neg (by decide), if_neg (by decide), if_pos rfl] at hC
   rw [hC]
   refine PRet.pure (Wk.bool ?_)
   rw [Bool.not_not, ← and_getD varB (Dfl.d : Datum) nulD, ← hbe]
   by_cases h3 : L.length = 3
   ·rw [hK h3]; rfl
   ·have e3 : ((L.length : Int) == 3) = false := beq_eq_false_iff_ne.2 (by omega)
    rw [show ((L.length : Int) == ((3 : Nat) : Int)) = false from e3, e3]; rfl
  ·have hh := ‹L[0].kind = 2 ∧ keyB L[0].s = true›
   have hs0 := ((isKwS_iff _ _).1 (by assumption : isKw L[0] [108, 101, 116, 114, 101, 99] = true)).2
   rw [if_pos hh, hs0] at hC
   rw [if_neg (by decide), if_neg (by decide), if_neg (by decide), if_neg (by decide), if_neg (by decide), if_pos (by decide)] at hC
   rw [if_pos (by omega)] at hC
   rw [hC]
   exact PRet.pure (Wk.ff rfl)
  ·have hh := ‹L[0].kind = 2 ∧ keyB L[0].s = true›
   have hs0 := ((isKwS_iff _ _).1 (by assumption : isKw L[0] [108, 101, 116, 114, 101, 99] = true)).2
   rw [if_pos hh, hs0] at hC
   rw [if_neg (by decide), if_neg (by decide), if_neg (by decide), if_neg (by decide), if_neg (by decide), if_pos (by decide)] at hC
   rw [if_neg (by omega), datD_get (show 1 < L.length by omega), datD_get (show 2 < L.length by omega)] at hC
   have hm1 : L[1]'(by omega) ∈ L := List.getElem_mem _
   have hm2 : L[2]'(by omega) ∈ L := List.getElem_mem _
   have hb2 := (hX _ hm1).2
   refine PCall.go (Γ1 := []) (bindingsS_c L[1] (hX _ hm1).1 (hX9 _ hm1).2) (WkT.refl _) ?_
   rintro _ _ ⟨tk, N, V, htk, hN, hV, rfl, hbd, rfl⟩
   cases hB : bindsD (L[1]'(by omega)) with
   | none =>
    rw [hB] at hC
    dsimp only at hC
    conv => whnf
    repeat' (first|refine aA2 ?_|((intro _);conv=>whnf)|(refine zX (fun hc=>?_) (fun hc=>?_)<;>(try simp only [SY] at hc)<;>omega))
    refine PGuard.ways (fun hg => by simp at hg) (fun hg => ?_)
    conv => whnf
    repeat' (first|refine aA2 ?_|(refine zX (fun hc=>?_) (fun hc=>?_)<;>(try simp only [SY] at hc)<;>omega))
    rw [hC]
    exact PRet.pure (Wk.ff rfl)
   | some b =>
    rw [hB] at hC
    dsimp only at hC
    obtain ⟨rfl, rfl⟩ := hbd b hB
    obtain ⟨hz, hpp⟩ := bindsD_sz (hX _ hm1).1 hB
    have hM := anyS_c (n := n) (l := b.map Prod.snd ++ [L[2]'(by omega)]) (fun x hx => by
     rcases List.mem_append.1 hx with hx | hx
     ·have h1 := Datum.szs_mem hx
      obtain ⟨p, hp', rfl⟩ := List.mem_map.1 hx
      exact ih (by omega) _ (by omega) (hpp p hp').2
     ·rw [List.mem_singleton] at hx
      rw [hx]
      exact ih' _ hm2)
    rw [← Bool.not_not ((b.map Prod.snd ++ [L[2]'(by omega)]).any _), not_any] at hM
    conv => whnf
    repeat' (first|refine aA2 ?_|((first|(((apply zY;intro hg));(conv=>whnf);(repeat ((first|refine pC (distinctS_c (b.map Prod.fst) (by omega)) wR ?_|refine pC (hM) (by ((repeat' (first|exact WkT.nil|apply WkT.cons|exact Wk.refl _|exact Wk.int OA|exact Wk.tt rfl|exact Wk.ff rfl|exact Wk.nil' rfl|exact Wk.tok _ _ _)); first|done|fail)) ?_|refine aH ?_);conv=>whnf));exact pZ)|intro _);conv=>whnf)|(refine zX (fun hc=>?_) (fun hc=>?_)<;>(try simp only [SY] at hc)<;>omega))
    rw [hC]
    exact PRet.pure (Wk.bool (by rw [Bool.not_not]; rfl))
  ·have hh := ‹L[0].kind = 2 ∧ keyB L[0].s = true›
   have hs0 := ((isKwS_iff _ _).1 (by assumption : isKw L[0] [108, 101, 116, 114, 101, 99, 42] = true)).2
   rw [if_pos hh, hs0] at hC
   rw [if_neg (by decide), if_neg (by decide), if_neg (by decide), if_neg (by decide), if_neg (by decide), if_pos (by decide)] at hC
   rw [if_pos (by omega)] at hC
   rw [hC]
   exact PRet.pure (Wk.ff rfl)
  ·have hh := ‹L[0].kind = 2 ∧ keyB L[0].s = true›
   have hs0 := ((isKwS_iff _ _).1 (by assumption : isKw L[0] [108, 101, 116, 114, 101, 99, 42] = true)).2
   rw [if_pos hh, hs0] at hC
   rw [if_neg (by decide), if_neg (by decide), if_neg (by decide), if_neg (by decide), if_neg (by decide), if_pos (by decide)] at hC
   rw [if_neg (by omega), datD_get (show 1 < L.length by omega), datD_get (show 2 < L.length by omega)] at hC
   have hm1 : L[1]'(by omega) ∈ L := List.getElem_mem _
   have hm2 : L[2]'(by omega) ∈ L := List.getElem_mem _
   have hb2 := (hX _ hm1).2
   refine PCall.go (Γ1 := []) (bindingsS_c L[1] (hX _ hm1).1 (hX9 _ hm1).2) (WkT.refl _) ?_
   rintro _ _ ⟨tk, N, V, htk, hN, hV, rfl, hbd, rfl⟩
   cases hB : bindsD (L[1]'(by omega)) with
   | none =>
    rw [hB] at hC
    dsimp only at hC
    conv => whnf
    repeat' (first|refine aA2 ?_|((intro _);conv=>whnf)|(refine zX (fun hc=>?_) (fun hc=>?_)<;>(try simp only [SY] at hc)<;>omega))
    refine PGuard.ways (fun hg => by simp at hg) (fun hg => ?_)
    conv => whnf
    repeat' (first|refine aA2 ?_|(refine zX (fun hc=>?_) (fun hc=>?_)<;>(try simp only [SY] at hc)<;>omega))
    rw [hC]
    exact PRet.pure (Wk.ff rfl)
   | some b =>
    rw [hB] at hC
    dsimp only at hC
    obtain ⟨rfl, rfl⟩ := hbd b hB
    obtain ⟨hz, hpp⟩ := bindsD_sz (hX _ hm1).1 hB
    have hM := anyS_c (n := n) (l := b.map Prod.snd ++ [L[2]'(by omega)]) (fun x hx => by
     rcases List.mem_append.1 hx with hx | hx
     ·have h1 := Datum.szs_mem hx
      obtain ⟨p, hp', rfl⟩ := List.mem_map.1 hx
      exact ih (by omega) _ (by omega) (hpp p hp').2
     ·rw [List.mem_singleton] at hx
      rw [hx]
      exact ih' _ hm2)
    rw [← Bool.not_not ((b.map Prod.snd ++ [L[2]'(by omega)]).any _), not_any] at hM
    conv => whnf
    repeat' (first|refine aA2 ?_|((first|(((apply zY;intro hg));(conv=>whnf);(repeat ((first|refine pC (distinctS_c (b.map Prod.fst) (by omega)) wR ?_|refine pC (hM) (by ((repeat' (first|exact WkT.nil|apply WkT.cons|exact Wk.refl _|exact Wk.int OA|exact Wk.tt rfl|exact Wk.ff rfl|exact Wk.nil' rfl|exact Wk.tok _ _ _)); first|done|fail)) ?_|refine aH ?_);conv=>whnf));exact pZ)|intro _);conv=>whnf)|(refine zX (fun hc=>?_) (fun hc=>?_)<;>(try simp only [SY] at hc)<;>omega))
    rw [hC]
    exact PRet.pure (Wk.bool (by rw [Bool.not_not]; rfl))
  ·have hh := ‹L[0].kind = 2 ∧ keyB L[0].s = true›
   rw [if_pos hh, if_neg (isKw_no hh.1 ‹isKw L[0] [113, 117, 111, 116, 101] = false›), if_neg (isKw_no hh.1 ‹isKw L[0] [105, 102] = false›), if_neg (isKw_no hh.1 ‹isKw L[0] [108, 97, 109, 98, 100, 97] = false›), if_neg (isKw_no hh.1 ‹isKw L[0] [115, 101, 116, 33] = false›), if_neg (isKw_no hh.1 ‹isKw L[0] [98, 101, 103, 105, 110] = false›),
    if_neg (not_or.2 ⟨isKw_no hh.1 ‹isKw L[0] [108, 101, 116, 114, 101, 99] = false›, isKw_no hh.1 hc⟩)] at hC
   rw [hC]
   exact PRet.pure (Wk.ff rfl)
theorem CoreS_c (d : Datum) (hs : d.sz ≤ 1000000000) : ACallP Tryz.prog 28 [.agg d.cells] (.bool (coreD d)) := by
 have h1 := rightP_c d
 rw [right_eq] at h1
 unfold coreD
 cases hr : d.rightD 0 with
 | true =>
  rw [hr] at h1
  refine ACall.of_body tt_ok Tryz.func28 rfl rfl (n := 9) rfl rfl ?_
  conv => whnf
  repeat' (first|refine aA2 ?_|((first|(((apply zY;intro hg));(conv=>whnf);(repeat ((first|refine pC (coreS_c d.sz hs d (Nat.le_refl _) (rightD_pr d 0 hr)) wR ?_|refine aH ?_);conv=>whnf));exact pZ)|refine pC (h1) wR ?_|intro _);conv=>whnf)|(refine zX (fun hc=>?_) (fun hc=>?_)<;>(try simp only [SY] at hc)<;>omega))
  exact PRet.pure (Wk.refl _)
 | false =>
  rw [hr] at h1
  refine ACall.of_body tt_ok Tryz.func28 rfl rfl (n := 9) rfl rfl ?_
  conv => whnf
  repeat' (first|refine aA2 ?_|((first|refine pC (h1) wR ?_|intro _);conv=>whnf)|(refine zX (fun hc=>?_) (fun hc=>?_)<;>(try simp only [SY] at hc)<;>omega))
  refine PGuard.ways (fun hg => by cases hg) (fun hg => ?_)
  conv => whnf
  skip
  exact PRet.pure (Wk.ff rfl)
end Go.Cb
namespace Go.Cb
open Go.Proofs
set_option maxRecDepth 100000
set_option maxHeartbeats 4000000
def chP : Env → PV
 | [] => .np
 | (x, n) :: e => .ep [.str x, .int .i64 n, chP e]
theorem findP_c (e : Env) (s : List UInt8) : ACallP Tryz.prog 55 [chP e, .str s] (.tup [.int .i64 ((fndE e s).getD 0), .bool (fndE e s).isSome]) := by
 refine ACall.of_body tt_ok Tryz.func55 rfl rfl (n := 28) rfl rfl ?_
 conv => whnf
 skip
 refine PLoop.keep [0, 6, 7, 8, 9, 10, 11, 12, 13, 14, 15, 16, 17, 18, 19, 20, 21, 22, 23, 24, 25] (fun e' : Env => [(0, chP e'), (6, .int .i64 0), (7, .bfalse)]) (fun e' => fndE e' s = fndE e s) (fun e' => e'.length) e rfl wA ?_
 rintro (_ | ⟨⟨x, n⟩, e'⟩) he
 ·rw [← he]
  conv => whnf
  skip
  exact PRet.pure wA
 ·rw [fndE] at he
  simp only [chP]
  conv => whnf
  repeat' (first|refine aA2 ?_|(refine zX (fun hc=>?_) (fun hc=>?_)<;>(try simp only [SY] at hc)<;>(conv=>whnf)))
  ·rw [if_pos hc] at he
   rw [← he]
   exact PRet.pure wA
  ·rw [if_neg hc] at he
   exact loopTo e' he (by show e'.length < e'.length + 1; omega) wA
theorem drSco07aa {p q : Prop} (k : q) (h : q → p := by intro hq; first | exact PDraw.sP (some 19) rfl [] [3] tt_ok mixed hq) : p := h k
theorem partsP_c (d : Datum) (hp : d.pr = true) (hs : d.sz ≤ 1000000000) : ACall Tryz.prog 50 [.agg d.cells] [] (fun y Γ' => ∃ tk : Tok, tk.e = 24 ∧ y = .tup [.sl 5 (d.its.1.map Datum.pv) (some tk), .agg d.its.2.cells] ∧ Γ' = [.tok tk]) := by
 refine ACall.of_body tt_ok Tryz.func50 rfl rfl (n := 21) rfl rfl ?_
 conv => whnf
 repeat' (first|((intro _);conv=>whnf)|(refine zX (fun hc=>?_) (fun hc=>?_)<;>(try simp only [SY] at hc)<;>omega))
 rename_i b1 b3
 refine PLoop.gh (Ghost.nil 5 24 _) ?_
 refine PLoop.over [4, 5, 6, 7, 8, 9, 10, 11, 12, 13, 14, 15, 16, 17, 18] (fun x : Datum × List Datum × Tok => [(4, .sl 5 (x.2.1.map Datum.pv) (some x.2.2))]) (fun x : Datum × List Datum × Tok => [.box b1 (datC x.1), .tok x.2.2, resE b3])
  (fun x => x.1.pr = true ∧ x.1.sz + x.2.1.length ≤ d.sz ∧ x.2.2.e = 24 ∧ x.2.1 ++ x.1.its.1 = d.its.1 ∧ x.1.its.2 = d.its.2) (fun x => x.1.sz) (d, [], nilTok 5 24) ⟨hp, by simp, rfl, rfl, rfl⟩ wA ?_
 rintro ⟨D, m, t1⟩ ⟨hD, hm, ht, h1, h2⟩
 dsimp only at hD hm ht h1 h2 ⊢
 have hlen := fun h => Datum.pr_two hD h
 have hpos := D.sz_pos
 conv => whnf
 repeat' (first|refine aA2 ?_|((first|refine drSco07aa ?_|intro _);conv=>whnf)|(refine zX (fun hc=>?_) (fun hc=>?_)<;>(try simp only [SY] at hc)<;>(conv=>whnf)))
 ·rename_i ta tb htb
  have h3 := hlen hc
  have e := D.its_pair hc h3
  have hz := D.sz_two h3
  have hp0 := (D.l[0]'(by omega)).sz_pos
  rw [e] at h1 h2
  exact loopTo (D.l[1]'(by omega), m ++ [D.l[0]'(by omega)], tb) ⟨Datum.pr_mem hD (List.getElem_mem _), by simp; omega, htb, by dsimp only; rw [List.append_assoc]; exact h1, h2⟩ (by show (D.l[1]'(by omega)).sz < D.sz; omega) wA
 ·have e := D.its_end hc
  rw [e] at h1 h2
  rw [List.append_nil] at h1
  have h2' : D = d.its.2 := h2
  rw [← h1, ← h2']
  exact PRet.gen (y := .tup [.sl 5 (m.map Datum.pv) (some t1), .agg D.cells]) (Γ' := [.tok t1]) (Wk.refl _) ⟨t1, ht, rfl, rfl⟩
def Fct.pv (f : Fct) : PV := .agg f.cells
instance : CellsOf Fct.pv Fct.cells := ⟨fun _ => rfl⟩
theorem findFct_c (k : Nat) (cap : List PV) (Γ1 : List Ent) (p : Fct → Bool) (l : List Fct) (hf : ∀ x ∈ l, ACall Tryz.prog k (.agg (Fct.cells x) :: cap) Γ1 (fun y Γ' => y = .bool (p x) ∧ Γ' = Γ1)) :
  ACall Tryz.prog 146 [.sl 5 (l.map Fct.pv) none, .fn (.func k) cap] Γ1 (fun y Γ' => y = .int .i64 (findI p l) ∧ Γ' = Γ1) := by
 refine ACall.of_body tt_ok Tryz.func146 rfl rfl (n := 19) rfl rfl ?_
 conv => whnf
 repeat (first|refine aR2 ?_|((intro _);conv=>whnf))
 refine PLoop.keep [4, 5, 8, 9, 10, 11, 12, 13, 14, 15, 16, 17, 18] (fun i : Nat => [(8, .int .i64 i)]) (fun i => i ≤ l.length ∧ findI p l = if findI p (l.drop i) = -1 then -1 else i + findI p (l.drop i)) (fun i => l.length - i) 0 ⟨by omega, by simp only [List.drop_zero]; split <;> omega⟩ wA ?_
 rintro i ⟨h1, h2⟩
 conv => whnf
 repeat' (first|refine aA2 ?_|(refine zX (fun hc=>?_) (fun hc=>?_)<;>(try simp only [SY] at hc)<;>(conv=>whnf)))
 ·refine PCall.same (hf _ (List.getElem_mem (show i < l.length by omega))) (WkT.refl _) ?_
  rintro _ _ ⟨rfl, rfl⟩
  rw [drop_at (show i < l.length by omega), findI] at h2
  conv => whnf
  repeat' (first|refine aA2 ?_|(refine zX (fun hc=>?_) (fun hc=>?_)<;>(try simp only [SY] at hc)<;>(conv=>whnf)))
  ·rw [hc] at h2
   refine PRet.gen (Wk.int ?_) ⟨rfl, rfl⟩
   simpa using h2.symm
  ·rw [hc] at h2
   refine loopTo (i + 1) ⟨by omega, ?_⟩ (by show l.length - (i + 1) < l.length - i; omega) wA
   rw [h2]
   have hg := findI_ge p (l.drop (i + 1))
   simp only [Bool.false_eq_true, if_false]
   split
   ·simp
   ·rw [if_neg (by omega)]; omega
 ·rw [List.drop_of_length_le (by omega)] at h2
  exact PRet.gen (Wk.int (by rw [h2]; rfl)) ⟨rfl, rfl⟩
theorem findI_idx (x : List UInt8) : ∀ l : List Fct, findI (fun f => f.name == x) l = if prmF.idxN x l < l.length then (prmF.idxN x l : Int) else -1
 | [] => rfl
 | f :: l => by
  rw [findI, prmF.idxN, findI_idx x l]
  have hlen : (f :: l).length = l.length + 1 := rfl
  rw [hlen]
  by_cases h : f.name = x
  ·have hb : (f.name == x) = true := by simpa using h
   rw [if_pos h, hb]
   simp
  ·have hb : (f.name == x) = false := beq_eq_false_iff_ne.2 h
   rw [if_neg h, hb]
   generalize prmF.idxN x l = i
   show (if (if i < l.length then (i : Int) else -1) = -1 then (-1 : Int) else (if i < l.length then (i : Int) else -1) + 1) = _
   by_cases h2 : i < l.length
   ·rw [if_pos h2, if_neg (show ¬(i : Int) = -1 by omega), if_pos (show i + 1 < l.length + 1 by omega)]
    omega
   ·rw [if_neg h2, if_pos rfl, if_neg (show ¬i + 1 < l.length + 1 by omega)]
theorem prmF_find (x : List UInt8) : (max (findI (fun f => f.name == (if x = kwEq then [101, 113, 63] else x)) facts) 0 = (prmF x).getD 0) ∧ decide (findI (fun f => f.name == (if x = kwEq then [101, 113, 63] else x)) facts ≥ 0) = (prmF x).isSome := by
 rw [findI_idx]
 unfold prmF
 dsimp only
 generalize prmF.idxN (if x = kwEq then [101, 113, 63] else x) facts = i
 by_cases h : i < facts.length
 ·rw [if_pos h, if_pos h]
  refine ⟨?_, ?_⟩
  ·simp only [Option.getD_some]
   omega
  ·rw [decide_eq_true (by omega)]; rfl
 ·rw [if_neg h, if_neg h]
  exact ⟨rfl, rfl⟩
theorem find1P_c (b : Nat) (x : List UInt8) (f : Fct) : ACall Tryz.prog 147 [.agg f.cells, .ptr b 0] [.box b [.str x]] (fun y Γ' => y = .bool (f.name == x) ∧ Γ' = [.box b [.str x]]) := by
 refine ACall.of_body tt_ok Tryz.func147 rfl rfl (n := 8) rfl rfl ?_
 conv => whnf
 repeat' (first|refine aA2 ?_|((intro _);conv=>whnf)|(refine zX (fun hc=>?_) (fun hc=>?_)<;>(try simp only [SY] at hc)<;>omega))
 exact PRet.gen (Wk.refl _) ⟨rfl, rfl⟩
theorem findPrim_c (x : List UInt8) : ACallP Tryz.prog 105 [.str x] (.tup [.int .i64 ((prmF x).getD 0), .bool (prmF x).isSome]) := by
 obtain ⟨h1, h2⟩ := prmF_find x
 rw [← h1, ← h2]
 have hfl : (facts.flatMap Fct.cells).length = 155 := rfl
 have hft : facts.flatMap Fct.cells = flat (facts.map Fct.pv) := rfl
 refine ACall.of_body tt_ok Tryz.func105 rfl rfl (n := 16) rfl rfl ?_
 conv => whnf
 repeat' (first|refine aA2 ?_|((first|refine pC (table_c) wR ?_|intro _);conv=>whnf)|(refine zX (fun hc=>?_) (fun hc=>?_)<;>(try simp only [SY] at hc)<;>(conv=>whnf)))
 all_goals
  refine ⟨⟨_, facts.map Fct.pv, [], _, rfl, rfl, fun e he => by obtain ⟨f, _, rfl⟩ := List.mem_map.1 he; rfl, rfl, by decide, ?_⟩⟩
  conv => whnf
  skip
 all_goals simp only [List.nil_append]
 ·rename_i b1 _
  rw [show (if x = kwEq then [101, 113, 63] else x) = [101, 113, 63] from if_pos hc]
  refine PCall.go (findFct_c 147 [.ptr b1 0] [.box b1 [.str [101, 113, 63]]] (fun f => f.name == [101, 113, 63]) facts (fun f _ => find1P_c b1 [101, 113, 63] f)) (WkT.refl _) ?_
  rintro _ _ ⟨rfl, rfl⟩
  conv => whnf
  skip
  exact PRet.pure (Wk.tup (.cons (Wk.int (by split <;> omega)) (.cons (Wk.refl _) .nil)))
 ·rename_i b1 _
  rw [show (if x = kwEq then [101, 113, 63] else x) = x from if_neg hc]
  refine PCall.go (findFct_c 147 [.ptr b1 0] [.box b1 [.str x]] (fun f => f.name == x) facts (fun f _ => find1P_c b1 x f)) (WkT.refl _) ?_
  rintro _ _ ⟨rfl, rfl⟩
  conv => whnf
  skip
  exact PRet.pure (Wk.tup (.cons (Wk.int (by split <;> omega)) (.cons (Wk.refl _) .nil)))
end Go.Cb
namespace Go.Cb
open Go.Proofs
set_option maxRecDepth 100000
set_option maxHeartbeats 4000000
end Go.Cb
namespace Go.Cb
open Go.Proofs
set_option maxRecDepth 100000
set_option maxHeartbeats 4000000
abbrev tvE (bt : Nat) (op n : Int) (V : List Int) (tv : Tok) (x : PV) : Ent := .box bt [.int .i64 op, .int .i64 n, .sl 1 (V.map (PV.int .i64)) (some tv), x]
theorem drSco07baa {p q : Prop} (k : q) (h : q → p := by intro hq; first | exact PDraw.sT (some 9) rfl [10] [11,12,13] tt_ok mixed hq) : p := h k
theorem bindP_c (b bt : Nat) (tk tv : Tok) (s : RsS) (e : Env) (x : List UInt8) (op n : Int) (V : List Int) (z : PV) (htv : tv.e = 3) (hV : V.length ≤ 1000000000) (h0 : 0 ≤ s.vars) (h1 : s.vars ≤ 1000000000000) :
  ACall Tryz.prog 106 [.ptr b 0, chP e, .str x, .ptr bt 0] (tvE bt op n V tv z :: .tok tv :: rsE b tk s)
   (fun y Γ' => ∃ tv' : Tok, tv'.e = 3 ∧ y = chP ((x, s.vars) :: e) ∧ Γ' = tvE bt op n (V ++ [s.vars]) tv' z :: .tok tv' :: rsE b tk ⟨s.cs, s.vars + 1, s.lost⟩) := by
 have hc1 : (chP e).cellular = true := by cases e <;> rfl
 have hc2 : (chP e).cellsOf = [chP e] := by cases e <;> rfl
 refine ACall.of_body tt_ok Tryz.func106 rfl rfl (n := 38) rfl rfl ?_
 conv => whnf
 repeat' (first|refine aA2 ?_|((first|refine drSco07baa ?_|intro _);conv=>whnf)|(refine zX (fun hc=>?_) (fun hc=>?_)<;>(try simp only [SY] at hc)<;>omega))
 rw [hc1, hc2]
 conv => whnf
 repeat' (first|((intro _);conv=>whnf)|(refine zX (fun hc=>?_) (fun hc=>?_)<;>(try simp only [SY] at hc)<;>omega))
 rename_i tv2 htv2 b8
 rw [show s.vars + 1 - 1 = s.vars by omega]
 exact PRet.freeze (Γ' := tvE bt op n (V ++ [s.vars]) tv2 z :: .tok tv2 :: rsE b tk ⟨s.cs, s.vars + 1, s.lost⟩) (cs' := [.str x, .int .i64 s.vars, chP e]) (Wk.refl _) ⟨tv2, htv2, rfl, rfl⟩
theorem variableP_c (b : Nat) (tk : Tok) (s : RsS) (e : Env) (x : List UInt8) :
  ACall Tryz.prog 49 [.ptr b 0, .str x, chP e] (rsE b tk s)
   (fun y Γ' => y = .agg (match fndE e x with | some v => Trm.mk 1 v [] [] | none => match prmF x with | some p => .mk 11 p [] [] | none => .mk 11 0 [] []).cells ∧
    Γ' = rsE b tk (match fndE e x with | some v => s | none => match prmF x with | some p => s | none => ⟨s.cs, s.vars, true⟩)) := by
 refine ACall.of_body tt_ok Tryz.func49 rfl rfl (n := 38) rfl rfl ?_
 conv => whnf
 repeat' (first|refine aA2 ?_|((first|refine pC (findP_c e x) wR ?_|refine pC (findPrim_c x) wR ?_|intro _);conv=>whnf)|(refine zX (fun hc=>?_) (fun hc=>?_)<;>(try simp only [SY] at hc)<;>(conv=>whnf)))
 ·cases hf : fndE e x with
  | none => rw [hf] at hc; cases hc
  | some v => exact PRet.gen (y := .agg (Trm.mk 1 v [] []).cells) (Γ' := rsE b tk s) TrmOf.wk ⟨rfl, rfl⟩
 ·cases hf : fndE e x with
  | some v => rw [hf] at hc; cases hc
  | none =>
   dsimp only
   cases hP : prmF x with
   | some p =>
    have hb : (s.lost || !(some p).isSome) = s.lost := Bool.or_false _
    rw [hb]
    exact PRet.gen (y := .agg (Trm.mk 11 p [] []).cells) (Γ' := rsE b tk s) TrmOf.wk ⟨rfl, rfl⟩
   | none =>
    have hb : (s.lost || !(none : Option Int).isSome) = true := Bool.or_true _
    rw [hb]
    exact PRet.gen (y := .agg (Trm.mk 11 0 [] []).cells) (Γ' := rsE b tk ⟨s.cs, s.vars, true⟩) TrmOf.wk ⟨rfl, rfl⟩
def TmOkP (b : Nat) (tm : Datum → Env → RsS → RsR) (x : Datum) : Prop := ∀ (tk : Tok) (e : Env) (s : RsS), tk.e = 24 → tk.s = 5 → RsOk x.sz s →
 RsGo x.sz s (tm x e s).2 ∧ ACall Tryz.prog 29 [.ptr b 0, .agg x.cells, chP e] (rsE b tk s) (fun y Γ' => ∃ tk' : Tok, tk'.e = 24 ∧ tk'.s = 5 ∧ y = .agg (tm x e s).1.cells ∧ Γ' = rsE b tk' (tm x e s).2)
theorem allP_c (b : Nat) (tm : Datum → Env → RsS → RsR) (l : List Datum) (hx : ∀ x ∈ l, TmOkP b tm x) (hl : l.length ≤ 1000000000) (tk : Tok) (e : Env) (s : RsS) (h1 : tk.e = 24) (h2 : tk.s = 5) (hs : RsOk (Datum.szs l) s) :
  ACall Tryz.prog 52 [.ptr b 0, .sl 5 (l.map Datum.pv) none, chP e] (rsE b tk s) (fun y Γ' => ∃ tk' : Tok, tk'.e = 24 ∧ tk'.s = 5 ∧ y = .sl 4 ((allR tm l e s).1.map Trm.pv) none ∧ Γ' = rsE b tk' (allR tm l e s).2) := by
 generalize hR : allR tm l e s = R
 refine ACall.of_body tt_ok Tryz.func52 rfl rfl (n := 25) rfl rfl ?_
 conv => whnf
 repeat' (first|refine aA2 ?_|((intro _);conv=>whnf)|(refine zX (fun hc=>?_) (fun hc=>?_)<;>(try simp only [SY] at hc)<;>omega))
 refine PLoop.gh (Ghost.nil 4 30 _) ?_
 refine PLoop.over [7, 9, 12, 13, 14, 15, 16, 17, 18, 19, 20, 21, 22, 23] (fun x : Nat × List Trm × Tok × RsS × Tok => [(7, .sl 4 (x.2.1.map Trm.pv) (some x.2.2.1)), (12, .int .i64 x.1)]) (fun x : Nat × List Trm × Tok × RsS × Tok => .tok x.2.2.1 :: rsE b x.2.2.2.2 x.2.2.2.1)
  (fun x => x.1 ≤ l.length ∧ x.2.1.length = x.1 ∧ x.2.2.1.e = 30 ∧ x.2.2.2.2.e = 24 ∧ x.2.2.2.2.s = 5 ∧ RsOk (Datum.szs (l.drop x.1)) x.2.2.2.1 ∧ R = (x.2.1 ++ (allR tm (l.drop x.1) e x.2.2.2.1).1, (allR tm (l.drop x.1) e x.2.2.2.1).2)) (fun x => l.length - x.1) (0, [], nilTok 4 30, s, tk) ⟨Nat.zero_le _, rfl, rfl, h1, h2, hs, hR.symm⟩ wA ?_
 rintro ⟨i, m, t1, s1, t2⟩ ⟨hi, hml, ht1, ht2, ht3, hn, hR2⟩
 dsimp only at hi hml ht1 ht2 ht3 hn hR2 ⊢
 conv => whnf
 repeat' (first|refine aA2 ?_|((intro _);conv=>whnf)|(refine zX (fun hc=>?_) (fun hc=>?_)<;>(try simp only [SY] at hc)<;>(conv=>whnf)))
 ·have hlt : i < l.length := by omega
  rw [drop_at hlt, Datum.szs] at hn
  rw [drop_at hlt, allR] at hR2
  obtain ⟨g, hcall⟩ := hx _ (List.getElem_mem hlt) t2 e s1 ht2 ht3 (hn.mono (by omega))
  generalize tm l[i] e s1 = r at *
  refine PCall.go hcall (WkT.refl _) ?_
  rintro _ _ ⟨t3, k1, k2, rfl, rfl⟩
  conv => whnf
  repeat' (first|refine aA2 ?_|((intro _);conv=>whnf)|(refine zX (fun hc=>?_) (fun hc=>?_)<;>(try simp only [SY] at hc)<;>omega))
  rename_i t4 ht4
  refine loopTo (i + 1, m ++ [r.1], t4, r.2, t3) ⟨by show i + 1 ≤ _; omega, by simp; omega, ht4, k1, k2, hn.step g, ?_⟩ (by show l.length - (i + 1) < l.length - i; omega) wA
  dsimp only
  rw [hR2, List.append_assoc]
  rfl
 ·rw [List.drop_of_length_le (by omega), allR, List.append_nil] at hR2
  rw [hR2]
  exact PRet.gen (y := .sl 4 (m.map Trm.pv) none) (Γ' := rsE b t2 s1) (Wk.tok _ _ _) ⟨t2, ht2, ht3, rfl, rfl⟩
end Go.Cb
namespace Go.Cb
open Go.Proofs
set_option maxRecDepth 100000
set_option maxHeartbeats 40000000
theorem bndE_snoc : ∀ (l : List (List UInt8)) (e : Env) (n : Int) (x : List UInt8), bndE e n (l ++ [x]) = (x, n + l.length) :: bndE e n l
 | [], e, n, x => by simp [bndE]
 | y :: l, e, n, x => by
  rw [List.cons_append, bndE, bndE, bndE_snoc l]
  congr 2
  simp
  omega
theorem upE_snoc (n : Int) (k : Nat) : upE n (k + 1) = upE n k ++ [n + k] := by rw [upE_add]; simp [upE]
theorem bindsF_get : ∀ {l : List Datum} {b : List (Datum × Datum)}, bindsF l = some b → ∀ i, (h : i < l.length) → (h2 : i < b.length) → itemsB l[i] = true ∧ l[i].its.1.length = 2 ∧ b[i] = (l[i].its.1.getD 0 nulD, l[i].its.1.getD 1 nulD)
 | [], _, _, i, h, _ => by simp at h
 | x :: xs, b, hb, i, h, h2 => by
  rw [bindsF] at hb
  split at hb
  ·rename_i hc
   cases hb' : bindsF xs with
   | none => rw [hb'] at hb; cases hb
   | some b' =>
    rw [hb'] at hb
    cases hb
    cases i with
    | zero => exact ⟨hc.1, hc.2, rfl⟩
    | succ i =>
     simp only [List.getElem_cons_succ]
     exact bindsF_get hb' i (by simpa using h) (by simpa using h2)
  ·cases hb
theorem takeM_snoc {α β : Type} (f : α → β) (l : List α) (i : Nat) (h : i < l.length) : (l.take (i + 1)).map f = (l.take i).map f ++ [f l[i]] := by
 rw [List.take_succ_eq_append_getElem h, List.map_append]
 rfl
end Go.Cb
namespace Go.Cb
open Go.Proofs
set_option maxRecDepth 100000
set_option maxHeartbeats 40000000
theorem lambdaP_c (b : Nat) (tm : Datum → Env → RsS → RsR) (f : Datum) (l : List Datum) (hf : f.pr = true) (hfs : f.sz ≤ 1000000000) (hx : ∀ x ∈ l, TmOkP b tm x) (hl : l.length ≤ 1000000000) (tk : Tok) (e : Env) (s : RsS) (h1 : tk.e = 24) (h2 : tk.s = 5) (hs : RsOk (f.sz + Datum.szs l) s) :
  ACall Tryz.prog 53 [.ptr b 0, .agg f.cells, .sl 5 (l.map Datum.pv) none, chP e] (rsE b tk s) (fun y Γ' => ∃ tk' : Tok, tk'.e = 24 ∧ tk'.s = 5 ∧
   y = .agg (Trm.mk 4 (if f.its.2.kind = 4 then 0 else 1) (upE s.vars (formalsL f).length) (allR tm l (bndE e s.vars ((formalsL f).map Datum.s)) ⟨s.cs, s.vars + (formalsL f).length, s.lost⟩).1).cells ∧
   Γ' = rsE b tk' (allR tm l (bndE e s.vars ((formalsL f).map Datum.s)) ⟨s.cs, s.vars + (formalsL f).length, s.lost⟩).2) := by
 have hpt := partsP_c f hf hfs
 have hFl := formalsL_len hf
 have hF : formalsL f = f.its.1 ++ (if f.its.2.kind = 4 then [] else [f.its.2]) := rfl
 generalize formalsL f = F at *
 generalize f.its = D at *
 obtain ⟨L, E0⟩ := D
 dsimp only at hpt hF ⊢
 have hLl : L.length ≤ F.length := by rw [hF]; simp
 have hvb := hs.1
 have hvc := hs.2.1
 have hvd := hs.2.2
 have hall := fun tk' e' s' => allP_c b tm l hx hl tk' e' s'
 refine ACall.of_body tt_ok Tryz.func53 rfl rfl (n := 46) rfl rfl ?_
 conv => whnf
 repeat' (first|refine aA2 ?_|((intro _);conv=>whnf)|(refine zX (fun hc=>?_) (fun hc=>?_)<;>(try simp only [SY] at hc)<;>omega))
 refine PCall.go (Γ1 := []) hpt (WkT.refl _) ?_
 rintro _ _ ⟨t3, k3, rfl, rfl⟩
 conv => whnf
 repeat' (first|refine aA2 ?_|((intro _);conv=>whnf)|(refine zX (fun hc=>?_) (fun hc=>?_)<;>(try simp only [SY] at hc)<;>(conv=>whnf)))
 ·rename_i b5 b8 b9 b11 _ _ t10 ht10 _
  have hcE := hc
  have hFL : F = L ++ [E0] := by rw [hF, if_neg hc]
  subst hFL
  refine PLoop.gh (Ghost.trans (Ghost.nil 1 3 _) (Ghost.box (b := b9) (cs := [.int .i64 4, .int .i64 1, .nil, .nil]) (cs' := [.int .i64 4, .int .i64 1, .sl 1 (([] : List Int).map (PV.int .i64)) (some (nilTok 1 3)), .nil]) wA)) ?_
  refine PLoop.over [3, 13, 30, 31, 32, 33, 34, 35, 36, 37, 38, 39] (fun z : Nat × Env × List Int × Tok × RsS => [(3, chP z.2.1), (30, .int .i64 z.1)])
   (fun z : Nat × Env × List Int × Tok × RsS => .tok z.2.2.2.1 :: .box b9 [.int .i64 4, .int .i64 1, .sl 1 (z.2.2.1.map (PV.int .i64)) (some z.2.2.2.1), .nil] :: .box b8 [.int .i64 0, .int .i64 0, .nil, .nil] :: rsE b tk z.2.2.2.2)
   (fun z => z.1 ≤ (L ++ [E0]).length ∧ z.2.1 = bndE e s.vars (((L ++ [E0]).take z.1).map Datum.s) ∧ z.2.2.1 = upE s.vars z.1 ∧ z.2.2.2.2 = ⟨s.cs, s.vars + z.1, s.lost⟩ ∧ z.2.2.2.1.e = 3) (fun z => (L ++ [E0]).length - z.1)
   (0, e, [], nilTok 1 3, s) ⟨Nat.zero_le _, rfl, rfl, by simp, rfl⟩ wA ?_
  rintro ⟨i, E, V, tv, s1⟩ ⟨hi, hE, hV, hs1, htv⟩
  dsimp only at hi hE hV hs1 htv ⊢
  have hVl : V.length = i := by rw [hV, upE_len]
  have hv1 : s1.vars = s.vars + i := by rw [hs1]
  conv => whnf
  repeat' (first|refine aA2 ?_|((intro _);conv=>whnf)|(refine zX (fun hc=>?_) (fun hc=>?_)<;>(try simp only [SY] at hc)<;>(conv=>whnf)))
  ·have hlt : i < (L ++ [E0]).length := by omega
   refine PCall.go (bindP_c b b9 tk tv s1 E ((L ++ [E0])[i]'hlt).s 4 1 V .nil htv (by omega) (by omega) (by omega)) (WkT.refl _) ?_
   rintro _ _ ⟨tv2, htv2, rfl, rfl⟩
   conv => whnf
   repeat' (first|refine aA2 ?_|(refine zX (fun hc=>?_) (fun hc=>?_)<;>(try simp only [SY] at hc)<;>omega))
   refine loopTo (i + 1, (((L ++ [E0])[i]'hlt).s, s1.vars) :: E, V ++ [s1.vars], tv2, ⟨s1.cs, s1.vars + 1, s1.lost⟩) ⟨by show i + 1 ≤ _; omega, ?_, ?_, ?_, htv2⟩ (by show (L ++ [E0]).length - (i + 1) < (L ++ [E0]).length - i; omega) wA
   ·show (((L ++ [E0])[i]'hlt).s, s1.vars) :: E = bndE e s.vars (((L ++ [E0]).take (i + 1)).map Datum.s)
    rw [takeM_snoc _ _ _ hlt, bndE_snoc, hE, hv1]
    congr 2
    rw [List.length_map, List.length_take]
    omega
   ·show V ++ [s1.vars] = upE s.vars (i + 1)
    rw [upE_snoc, hv1, hV]
   ·show (⟨s1.cs, s1.vars + 1, s1.lost⟩ : RsS) = ⟨s.cs, s.vars + ((i + 1 : Nat) : Int), s.lost⟩
    rw [show s1.cs = s.cs by rw [hs1], show s1.lost = s.lost by rw [hs1], hv1]
    congr 1
    omega
  ·obtain rfl : i = (L ++ [E0]).length := by omega
   rw [List.take_length] at hE
   have hcall := hall tk E s1 h1 h2 (by rw [hs1]; exact ⟨by dsimp only; omega, by dsimp only; omega, by dsimp only; omega⟩)
   rw [← hE, ← hV, ← hs1, if_neg hcE]
   generalize allR tm l E s1 = r at *
   refine PCall.go hcall (WkT.refl _) ?_
   rintro _ _ ⟨t5, k1, k2, rfl, rfl⟩
   conv => whnf
   repeat' (first|refine aA2 ?_|(refine zX (fun hc=>?_) (fun hc=>?_)<;>(try simp only [SY] at hc)<;>omega))
   exact PRet.gen (y := .agg (Trm.mk 4 1 V r.1).cells) (Γ' := rsE b t5 r.2) TrmOf.wk ⟨t5, k1, k2, rfl, rfl⟩
 ·rename_i b5 b8 b9 b11 _
  have hcE := hc
  have hFL : F = L := by rw [hF, if_pos hc, List.append_nil]
  subst hFL
  refine PLoop.gh (Ghost.trans (Ghost.nil 1 3 _) (Ghost.box (b := b9) (cs := [.int .i64 4, .int .i64 0, .nil, .nil]) (cs' := [.int .i64 4, .int .i64 0, .sl 1 (([] : List Int).map (PV.int .i64)) (some (nilTok 1 3)), .nil]) wA)) ?_
  refine PLoop.over [3, 13, 30, 31, 32, 33, 34, 35, 36, 37, 38, 39] (fun z : Nat × Env × List Int × Tok × RsS => [(3, chP z.2.1), (30, .int .i64 z.1)])
   (fun z : Nat × Env × List Int × Tok × RsS => .tok z.2.2.2.1 :: .box b9 [.int .i64 4, .int .i64 0, .sl 1 (z.2.2.1.map (PV.int .i64)) (some z.2.2.2.1), .nil] :: .box b8 [.int .i64 0, .int .i64 0, .nil, .nil] :: rsE b tk z.2.2.2.2)
   (fun z => z.1 ≤ F.length ∧ z.2.1 = bndE e s.vars ((F.take z.1).map Datum.s) ∧ z.2.2.1 = upE s.vars z.1 ∧ z.2.2.2.2 = ⟨s.cs, s.vars + z.1, s.lost⟩ ∧ z.2.2.2.1.e = 3) (fun z => F.length - z.1)
   (0, e, [], nilTok 1 3, s) ⟨Nat.zero_le _, rfl, rfl, by simp, rfl⟩ wA ?_
  rintro ⟨i, E, V, tv, s1⟩ ⟨hi, hE, hV, hs1, htv⟩
  dsimp only at hi hE hV hs1 htv ⊢
  have hVl : V.length = i := by rw [hV, upE_len]
  have hv1 : s1.vars = s.vars + i := by rw [hs1]
  conv => whnf
  repeat' (first|refine aA2 ?_|((intro _);conv=>whnf)|(refine zX (fun hc=>?_) (fun hc=>?_)<;>(try simp only [SY] at hc)<;>(conv=>whnf)))
  ·have hlt : i < F.length := by omega
   refine PCall.go (bindP_c b b9 tk tv s1 E (F[i]'hlt).s 4 0 V .nil htv (by omega) (by omega) (by omega)) (WkT.refl _) ?_
   rintro _ _ ⟨tv2, htv2, rfl, rfl⟩
   conv => whnf
   repeat' (first|refine aA2 ?_|(refine zX (fun hc=>?_) (fun hc=>?_)<;>(try simp only [SY] at hc)<;>omega))
   refine loopTo (i + 1, ((F[i]'hlt).s, s1.vars) :: E, V ++ [s1.vars], tv2, ⟨s1.cs, s1.vars + 1, s1.lost⟩) ⟨by show i + 1 ≤ _; omega, ?_, ?_, ?_, htv2⟩ (by show F.length - (i + 1) < F.length - i; omega) wA
   ·show ((F[i]'hlt).s, s1.vars) :: E = bndE e s.vars ((F.take (i + 1)).map Datum.s)
    rw [takeM_snoc _ _ _ hlt, bndE_snoc, hE, hv1]
    congr 2
    rw [List.length_map, List.length_take]
    omega
   ·show V ++ [s1.vars] = upE s.vars (i + 1)
    rw [upE_snoc, hv1, hV]
   ·show (⟨s1.cs, s1.vars + 1, s1.lost⟩ : RsS) = ⟨s.cs, s.vars + ((i + 1 : Nat) : Int), s.lost⟩
    rw [show s1.cs = s.cs by rw [hs1], show s1.lost = s.lost by rw [hs1], hv1]
    congr 1
    omega
  ·obtain rfl : i = F.length := by omega
   rw [List.take_length] at hE
   have hcall := hall tk E s1 h1 h2 (by rw [hs1]; exact ⟨by dsimp only; omega, by dsimp only; omega, by dsimp only; omega⟩)
   rw [← hE, ← hV, ← hs1, if_pos hcE]
   generalize allR tm l E s1 = r at *
   refine PCall.go hcall (WkT.refl _) ?_
   rintro _ _ ⟨t5, k1, k2, rfl, rfl⟩
   conv => whnf
   repeat' (first|refine aA2 ?_|(refine zX (fun hc=>?_) (fun hc=>?_)<;>(try simp only [SY] at hc)<;>omega))
   exact PRet.gen (y := .agg (Trm.mk 4 0 V r.1).cells) (Γ' := rsE b t5 r.2) TrmOf.wk ⟨t5, k1, k2, rfl, rfl⟩
end Go.Cb

