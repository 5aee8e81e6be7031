/-
  Plain law and contract: a call of a known procedure.
  Contracts: a call of a known procedure.
  From the readings of arguments to values, and from a contract to what a statement asks.
  The program's data, read at the seat's types; the bulk.
  A world that holds the listed tables: the statements' witness.
-/
import Derived.Carry
import Derived.ChangeArms
import Derived.ChangeSame
import Derived.Deep.DeepHandedRow
import Derived.Deep.DeepWitnessRowRef
import Derived.KernelRfl
import Derived.Lib.LaidIn
import Derived.OpenShut
import Derived.OpenVars
import Derived.RowKit
import Derived.Test.YtpkgembbjlebcaaGreatDoorRows
import Derived.WideShapes
import Derived.Test.YtpkgembbjlebcaaGreatDoorO7
set_option linter.unusedSimpArgs false
set_option linter.unusedVariables false
namespace Go.Cb
open Go.Proofs
set_option maxRecDepth 100000
set_option maxHeartbeats 4000000
def refsO (k : Nat) : List Trm := (List.range k).map fun i : Nat => .mk 1 (1 + (i : Int)) [] []
def prefsO (j : Nat) : List Trm := (List.range j).map fun i : Nat => .mk 11 (i : Int) [] []
def varsO (k : Nat) : List Int := (List.range k).map fun i : Nat => 1 + (i : Int)
def lamO (k : Nat) : Trm := .mk 4 0 (varsO k) [.mk 10 20 [] (refsO k)]
def callO (j : Nat) : Trm := .mk 5 0 [] (.mk 1 0 [] [] :: prefsO j)
def onceP (k j : Nat) : Prog := ⟨[], .mk 8 0 [0] [lamO k, callO j]⟩
def Atm (x : Trm) : Prop := x.t = [] ∧ x.v = [] ∧ x.op ≠ 5
def InS.less (s : InS) (n : Nat) : InS := ⟨s.next, s.budget, s.effort - n, s.known⟩
theorem thr_atm {small : Int} {x : Trm} (h : Atm x) {s : InS} (h0 : 0 < s.effort) : x.thr small s = (x, s.less 1) := by
  obtain ⟨op, n, v, t⟩ := x
  obtain ⟨h1, h2, h3⟩ := h
  simp only [Trm.t, Trm.v, Trm.op] at h1 h2 h3
  subst h1 h2
  rw [Trm.thr, if_neg (by omega)]
  have hc : calledI small (.mk op n [] []) { s with effort := s.effort - 1 } = none := by
    unfold calledI
    rw [if_neg (by intro h; exact h3 h.1)]
  rw [hc]
  simp only
  have hl : ∀ s : InS, learnI op [] [] s = s := fun s => rfl
  split
  · rw [hl, Trm.thrs]; rfl
  · rw [Trm.thrL, hl]; rfl
theorem thrs_atm {small : Int} : ∀ (l : List Trm), (∀ x ∈ l, Atm x) → ∀ s : InS, (l.length : Int) ≤ s.effort → Trm.thrs small l s = (l, s.less l.length)
  | [], _, s, _ => by rw [Trm.thrs]; simp [InS.less]
  | x :: l, h, s, h0 => by
    rw [List.length_cons] at h0
    rw [Trm.thrs, thr_atm (h x (by simp)) (by omega)]
    simp only
    rw [thrs_atm l (fun y hy => h y (by simp [hy])) (s.less 1) (by show (l.length : Int) ≤ s.effort - ((1 : Nat) : Int); omega)]
    simp only [InS.less, List.length_cons, Prod.mk.injEq, InS.mk.injEq, true_and, and_true]
    omega
theorem thrL_atm {small : Int} {f : InS → InS} (hf : ∀ s, f s = s) : ∀ (l : List Trm), (∀ x ∈ l, Atm x) → ∀ s : InS, (l.length : Int) ≤ s.effort → Trm.thrL small f l s = (l, s.less l.length)
  | [], _, s, _ => by rw [Trm.thrL, hf]; simp [InS.less]
  | x :: l, h, s, h0 => by
    rw [List.length_cons] at h0
    rw [Trm.thrL]
    by_cases hl : l = []
    · subst hl
      rw [if_pos rfl, hf, thr_atm (h x (by simp)) (by omega)]
      rfl
    rw [if_neg hl, thr_atm (h x (by simp)) (by omega)]
    simp only
    rw [thrL_atm hf l (fun y hy => h y (by simp [hy])) (s.less 1) (by show (l.length : Int) ≤ s.effort - ((1 : Nat) : Int); omega)]
    simp only [InS.less, List.length_cons, Prod.mk.injEq, InS.mk.injEq, true_and, and_true]
    omega
theorem atm_refs (k : Nat) : ∀ x ∈ refsO k, Atm x := fun x hx => by
  obtain ⟨i, _, rfl⟩ := List.mem_map.1 hx
  exact ⟨rfl, rfl, by simp [Trm.op]⟩
theorem atm_prefs (k : Nat) : ∀ x ∈ prefsO k, Atm x := fun x hx => by
  obtain ⟨i, _, rfl⟩ := List.mem_map.1 hx
  exact ⟨rfl, rfl, by simp [Trm.op]⟩
theorem less_less (s : InS) (n m : Nat) : (s.less n).less m = s.less (n + m) := by
  simp only [InS.less, InS.mk.injEq, true_and, and_true]; omega
theorem thr_lamO {small : Int} (k : Nat) (s : InS) (h : (k : Int) + 3 ≤ s.effort) : (lamO k).thr small s = (lamO k, s.less (k + 2)) := by
  unfold lamO
  rw [Trm.thr, if_neg (by omega)]
  have e1 : ∀ s : InS, ({ s with effort := s.effort - 1 } : InS) = s.less 1 := fun s => rfl
  have c1 : ∀ (t : Trm) (s : InS), t.op ≠ 5 → calledI small t s = none := fun t s ht => by unfold calledI; rw [if_neg (fun h => ht h.1)]
  rw [c1 _ _ (by simp [Trm.op])]
  simp only
  rw [if_neg (by decide), e1, Trm.thrL, if_pos rfl]
  have l1 : ∀ s : InS, learnI 4 (varsO k) [.mk 10 20 [] (refsO k)] s = s := fun s => by
    cases varsO k with
    | nil => rfl
    | cons v vs => rw [learnI, if_neg (by simp [Trm.op])]; cases vs <;> rfl
  rw [l1, Trm.thr, if_neg (by show ¬ s.effort - ((1 : Nat) : Int) = 0; omega), c1 _ _ (by simp [Trm.op])]
  simp only
  rw [if_neg (by decide), e1, thrL_atm (f := learnI 10 [] (refsO k)) (fun s => by cases refsO k <;> rfl) _ (atm_refs k) _ (by show ((refsO k).length : Int) ≤ s.effort - ((1 : Nat) : Int) - ((1 : Nat) : Int); simp [refsO]; omega)]
  simp only [less_less]
  have : 1 + 1 + (refsO k).length = k + 2 := by simp [refsO]; omega
  rw [this]
theorem szI_body (k : Nat) (hk : k ≤ 7) : szI (firstT (lamO k)) = k + 1 := by
  match k, hk with
  | 0, _ => rfl
  | 1, _ => rfl
  | 2, _ => rfl
  | 3, _ => rfl
  | 4, _ => rfl
  | 5, _ => rfl
  | 6, _ => rfl
  | 7, _ => rfl
theorem once_thr (k j : Nat) (hk : k ≤ 7) (hj : j ≤ 7) (small budget nx : Int) :
    ∃ y : Trm, ∃ b : Int, (onceP k j).body.thr small ⟨nx, budget, 1000, fun _ => none⟩ = (.mk 8 0 [0] [lamO k, y], (((onceP k j).body.thr small ⟨nx, budget, 1000, fun _ => none⟩).2)) ∧ ((onceP k j).body.thr small ⟨nx, budget, 1000, fun _ => none⟩).2.budget = b ∧
      if k = j ∧ (k : Int) + 1 ≤ small ∧ (k : Int) + 1 ≤ budget then y = .mk 8 0 (renewN (varsO k) ⟨fun _ => none, nx⟩).1 (prefsO j ++ [((firstT (lamO k)).cpy (renewN (varsO k) ⟨fun _ => none, nx⟩).2).1]) ∧ b = budget - (k + 1)
      else y = callO j ∧ b = budget := by
  have c1 : ∀ (t : Trm) (s : InS), t.op ≠ 5 → calledI small t s = none := fun t s ht => by unfold calledI; rw [if_neg (fun h => ht h.1)]
  have e1 : ∀ s : InS, ({ s with effort := s.effort - 1 } : InS) = s.less 1 := fun s => rfl
  have hw : (onceP k j).body.thr small ⟨nx, budget, 1000, fun _ => none⟩ = (let r := (callO j).thr small ⟨nx, budget, 1000 - 1 - ((k + 2 : Nat) : Int), fun w => if w = 0 then some (lamO k) else none⟩; (.mk 8 0 [0] [lamO k, r.1], r.2)) := by
    show Trm.thr small (.mk 8 0 [0] [lamO k, callO j]) _ = _
    rw [Trm.thr, if_neg (by show ¬ (1000 : Int) = 0; decide), c1 _ _ (by simp [Trm.op])]
    simp only
    rw [if_neg (by decide), Trm.thrL, if_neg (by simp), thr_lamO k _ (by show (k : Int) + 3 ≤ 1000 - 1; omega)]
    simp only
    rw [Trm.thrL, if_pos rfl]
    have l1 : ∀ s : InS, learnI 8 [0] [lamO k, callO j] s = { s with known := fun w => if w = 0 then some (lamO k) else s.known w } := fun s => by
      rw [learnI, if_pos (by right; exact ⟨rfl, rfl⟩)]; rfl
    rw [l1]
    rfl
  rw [hw]
  simp only
  generalize hs : (⟨nx, budget, 1000 - 1 - ((k + 2 : Nat) : Int), fun w => if w = 0 then some (lamO k) else none⟩ : InS) = s
  have hse : s.effort = 1000 - 1 - ((k + 2 : Nat) : Int) := by rw [← hs]
  have hsb : s.budget = budget := by rw [← hs]
  have hsn : s.next = nx := by rw [← hs]
  have hsk : s.known 0 = some (lamO k) := by rw [← hs]; rfl
  have hsz := szI_body k hk
  have hci : calledI small (callO j) (s.less 1) = if k = j ∧ (k : Int) + 1 ≤ small ∧ (k : Int) + 1 ≤ budget then some (lamO k) else none := by
    unfold calledI
    rw [if_pos ⟨rfl, rfl⟩]
    have : (s.less 1).known (firstT (callO j)).n = some (lamO k) := hsk
    rw [this]
    simp only [hsz]
    have e : (lamO k).v.length + 1 = (callO j).t.length ↔ k = j := by simp [lamO, callO, varsO, prefsO, Trm.v, Trm.t]
    have eb : (s.less 1).budget = budget := hsb
    rw [eb]
    by_cases hf : k = j ∧ (k : Int) + 1 ≤ small ∧ (k : Int) + 1 ≤ budget
    · rw [if_pos hf, if_pos ⟨rfl, rfl, e.2 hf.1, hf.2⟩]
    · rw [if_neg hf, if_neg (fun h => hf ⟨e.1 h.2.2.1, h.2.2.2⟩)]
  have hpl : (prefsO j).length = j := by simp [prefsO]
  have ht : (callO j).thr small s = match calledI small (callO j) (s.less 1) with
        | some lam => bodyI small lam (prefsO j) (s.less 1)
        | none => (callO j, s.less (j + 2)) := by
    unfold callO
    rw [Trm.thr, if_neg (by omega)]
    split
    · rename_i lam h
      have h' : calledI small (.mk 5 0 [] (.mk 1 0 [] [] :: prefsO j)) (s.less 1) = some lam := h
      rw [h']
      rfl
    · rename_i h
      have h' : calledI small (.mk 5 0 [] (.mk 1 0 [] [] :: prefsO j)) (s.less 1) = none := h
      rw [h']
      simp only
      have ha : ∀ x ∈ (Trm.mk 1 0 [] [] :: prefsO j), Atm x := fun x hx => by
        rcases List.mem_cons.1 hx with rfl | hx
        · exact ⟨rfl, rfl, by simp [Trm.op]⟩
        · exact atm_prefs j x hx
      rw [if_neg (by decide), e1, thrL_atm (f := learnI 5 [] (.mk 1 0 [] [] :: prefsO j)) (fun s => rfl) _ ha _ (by show (((.mk 1 0 [] [] :: prefsO j : List Trm)).length : Int) ≤ s.effort - ((1 : Nat) : Int); rw [List.length_cons, hpl]; omega)]
      rw [less_less, List.length_cons, hpl]
      have : 1 + (j + 1) = j + 2 := by omega
      rw [this]
  rw [ht, hci]
  by_cases hf : k = j ∧ (k : Int) + 1 ≤ small ∧ (k : Int) + 1 ≤ budget
  · simp only [if_pos hf]
    have hth : Trm.thrs small (prefsO j) { s.less 1 with budget := (s.less 1).budget - szI (firstT (lamO k)) } = (prefsO j, ⟨nx, budget - (k + 1), s.effort - 1 - j, s.known⟩) := by
      rw [thrs_atm _ (atm_prefs j) _ (by show ((prefsO j).length : Int) ≤ s.effort - ((1 : Nat) : Int); rw [hpl]; omega), hpl, hsz]
      simp only [InS.less, hsb, hsn, Prod.mk.injEq, InS.mk.injEq, true_and, and_true]
      omega
    unfold bodyI
    rw [hth]
    exact ⟨_, _, rfl, rfl, rfl, rfl⟩
  · simp only [if_neg hf]
    exact ⟨_, _, rfl, rfl, rfl, hsb⟩
def nextB (t : Trm) : Int := if t.bD 0 [] = [] then 0 else (t.bD 0 []).getD ((t.bD 0 []).length - 1) 0 + 1
theorem nextT_B {t : Trm} (h : t.dep < 1000) : nextT t = nextB t := by unfold nextT nextB; rw [t.bD_rise h]
theorem once_dec : ∀ k j : Fin 8, checkP (onceP k.val j.val) 2 = 0 ∧ (onceP k.val j.val).body.dep < 1000 ∧ nextB (onceP k.val j.val).body = (k.val : Int) + 1 ∧ (onceP k.val j.val).body.bulk ≤ 100 := by decide +kernel
def onceY (k : Nat) : Trm := .mk 8 0 (renewN (varsO k) ⟨fun _ => none, (k : Int) + 1⟩).1 (prefsO k ++ [((firstT (lamO k)).cpy (renewN (varsO k) ⟨fun _ => none, (k : Int) + 1⟩).2).1])
theorem onceQ_dec : ∀ k : Fin 8, checkP ⟨[], .mk 8 0 [0] [lamO k.val, onceY k.val]⟩ 2 = 0 := by decide +kernel
theorem once_conv (k j : Nat) (hk : k ≤ 7) (hj : j ≤ 7) (s b : Int) (hs : 0 ≤ s) (hb : 0 ≤ b) :
    ∃ y c, conv12 (onceP k j) ⟨s, b, 1000⟩ = (⟨[], .mk 8 0 [0] [lamO k, y]⟩, c, 0) ∧ (if k = j ∧ (k : Int) + 1 ≤ s ∧ (k : Int) + 1 ≤ b then y.op = 8 ∧ c.budget = b - (k + 1) else y.op = 5 ∧ c.budget = b) := by
  obtain ⟨h1, h2, h3, _⟩ := once_dec ⟨k, by omega⟩ ⟨j, by omega⟩
  simp only at h1 h2 h3
  have hQ := onceQ_dec ⟨k, by omega⟩
  simp only at hQ
  have hn : nextT (onceP k j).body = (k : Int) + 1 := by rw [nextT_B h2, h3]
  have e0 : mx0 s = s := by unfold mx0; rw [if_neg (by omega)]
  have e1 : mx0 b = b := by unfold mx0; rw [if_neg (by omega)]
  have e2 : mx0 1000 = 1000 := by decide
  obtain ⟨y, bb, w1, w2, w3⟩ := once_thr k j hk hj s b ((k : Int) + 1)
  have eP : inlP (onceP k j) ⟨s, b, 1000⟩ = ⟨[], .mk 8 0 [0] [lamO k, y]⟩ := by
    unfold inlP startI
    simp only [e0, e1, e2, hn]
    rw [w1]
    rfl
  have eC : (inlC (onceP k j) ⟨s, b, 1000⟩).budget = bb := by
    unfold inlC startI
    simp only [e0, e1, e2, hn]
    exact w2
  refine ⟨y, inlC (onceP k j) ⟨s, b, 1000⟩, ?_, ?_⟩
  · rw [conv12, if_pos h1, eP, if_pos]
    by_cases hf : k = j ∧ (k : Int) + 1 ≤ s ∧ (k : Int) + 1 ≤ b
    · rw [if_pos hf] at w3
      obtain ⟨rfl, _⟩ := hf
      rw [w3.1]
      exact hQ
    · rw [if_neg hf] at w3
      rw [w3.1]
      exact h1
  · by_cases hf : k = j ∧ (k : Int) + 1 ≤ s ∧ (k : Int) + 1 ≤ b
    · rw [if_pos hf] at w3 ⊢
      rw [eC, w3.1]
      exact ⟨rfl, w3.2⟩
    · rw [if_neg hf] at w3 ⊢
      rw [eC, w3.1]
      exact ⟨rfl, w3.2⟩
end Go.Cb
namespace Go.Cb
open Go.Proofs
set_option maxRecDepth 100000
set_option maxHeartbeats 4000000
theorem bits_mask (a : Int) (m : Nat) (hm : m ≤ 65535) : ∃ k : Nat, k ≤ m ∧ bitsOf .and .i64 a m = k := by
  have e : ∀ v : Nat, v ≤ 65535 → IntKind.wrap .i64 (v : Int) = v := fun v hv => by
    simp [IntKind.wrap, IntKind.bits, IntKind.signed]; omega
  have h : (BitVec.ofInt IntKind.i64.bits a &&& BitVec.ofInt IntKind.i64.bits (m : Int)).toNat ≤ m := by
    rw [BitVec.toNat_and]
    refine Nat.le_trans Nat.and_le_right ?_
    rw [BitVec.toNat_ofInt]
    simp only [IntKind.bits]
    omega
  refine ⟨_, h, ?_⟩
  unfold bitsOf
  simp only
  exact e _ (by omega)
theorem varsO_succ (k : Nat) : varsO (k + 1) = varsO k ++ [1 + (k : Int)] := by simp [varsO, List.range_succ]
theorem refsO_succ (k : Nat) : refsO (k + 1) = refsO k ++ [.mk 1 (1 + (k : Int)) [] []] := by simp [refsO, List.range_succ]
theorem prefsO_succ (k : Nat) : prefsO (k + 1) = prefsO k ++ [.mk 11 (k : Int) [] []] := by simp [prefsO, List.range_succ]
theorem inlineOnce_c (n a s b : Int) : ACallP Tryz.prog 10 [.int .i64 n, .int .i64 a, .int .i64 s, .int .i64 b] (.bool true) := by
  obtain ⟨k, hk, ek⟩ := bits_mask n 7 (by decide)
  obtain ⟨j, hj, ej⟩ := bits_mask a 7 (by decide)
  obtain ⟨s', hs, es⟩ := bits_mask s 15 (by decide)
  obtain ⟨b', hb, eb⟩ := bits_mask b 15 (by decide)
  refine ACall.of_body tt_ok Tryz.func10 rfl rfl (n := 149) rfl rfl ?_
  conv => whnf
  repeat ((first | ((first | (apply zY;intro hg) | apply zZ);first | exact stA | exact stB | ((conv=>whnf);(repeat ((first | (refine zW ?_ ?_;exact gA) | refine pC (awake12_c) wR ?_ | intro _);conv=>whnf));first | exact pS | exact pL | exact pE)) | (refine zW ?_ ?_;exact gA) | refine zH rfl ?_ | refine zA ?_ | refine zI bA ?_ | refine zI rfl ?_ | refine zJ rfl rfl ?_ | refine zB ?_ | refine zK rfl ?_ | refine zL rfl ?_ | refine zC ?_ | (refine zO ?_ ?_ ?_;omega;omega) | (refine zP ?_ ?_ ?_;omega;omega) | refine zM rfl ?_ | (refine zQ ?_ ?_ ?_;omega;omega) | (refine zR ?_ ?_;omega) | (refine zI ?_ ?_;exact nA) | (refine zS ?_ ?_ ?_;omega;omega) | (refine zT ?_ ?_ ?_;omega;omega) | (refine zU ?_ ?_ ?_;omega;omega) | (refine zV ?_ ?_ ?_;omega;omega) | refine pC (awake12_c) wR ?_ | (refine yA ?_ rfl ?_ ?_;assumption;exact lA) | (refine yB ?_ rfl ?_ ?_;assumption;exact lA) | (refine yC rfl ?_ ?_;exact lA) | refine n0 ?_ | refine zN rfl rfl rfl ?_ | refine zD ?_ | refine zE ?_ | refine zF ?_ | intro _);conv=>whnf)
  have ek' : bitsOf .and .i64 n 7 = k := ek
  have ej' : bitsOf .and .i64 a 7 = j := ej
  have es' : bitsOf .and .i64 s 15 = s' := es
  have eb' : bitsOf .and .i64 b 15 = b' := eb
  rw [ek', ej']
  rename_i bl bb
  refine PLoop.ghost (Ghost.trans (Ghost.nil 1 3 _) (Ghost.trans (Ghost.nil 4 26 _)
    (Ghost.trans (Ghost.box (b := bl) (cs := [.int .i64 4, .int .i64 0, .nil, .nil]) (cs' := [.int .i64 4, .int .i64 0, .sl 1 (([] : List Int).map (PV.int .i64)) (some (nilTok 1 3)), .nil]) wA)
      (Ghost.box (b := bb) (cs := [.int .i64 10, .int .i64 20, .nil, .nil]) (cs' := [.int .i64 10, .int .i64 20, .nil, .sl 4 (([] : List Trm).map Trm.pv) (some (nilTok 4 26))]) wA)))) ?_
  refine PLoop.over [14, 31, 32, 33, 34, 35, 36, 37, 38, 39, 40, 41, 42, 43, 44, 45, 46, 47, 48, 49, 50] (fun x : Nat × (List Int × Tok) × (List Trm × Tok) => [(14, .int .i64 x.1)])
    (fun x : Nat × (List Int × Tok) × (List Trm × Tok) => [.box bl [.int .i64 4, .int .i64 0, .sl 1 (x.2.1.1.map (PV.int .i64)) (some x.2.1.2), .nil], .tok x.2.1.2, .box bb [.int .i64 10, .int .i64 20, .nil, .sl 4 (x.2.2.1.map Trm.pv) (some x.2.2.2)], .tok x.2.2.2])
    (fun x => x.1 ≤ k ∧ (x.2.1.2.e = 3 ∧ x.2.2.2.e = 26) ∧ x.2.1.1 = varsO x.1 ∧ x.2.2.1 = refsO x.1) (fun x => k - x.1) (0, ([], nilTok 1 3), ([], nilTok 4 26)) ⟨Nat.zero_le _, ⟨rfl, rfl⟩, rfl, rfl⟩ wA ?_
  rintro ⟨i, ⟨V, t1⟩, ⟨T, t2⟩⟩ ⟨hi, ⟨ht1, ht2⟩, hV, hT⟩
  dsimp only at hi ht1 ht2 hV hT ⊢
  have hvl : V.length = i := by rw [hV]; simp [varsO]
  have hrl : T.length = i := by rw [hT]; simp [refsO]
  conv => whnf
  repeat' (first | ((first | ((first | (apply zY;intro hg) | apply zZ);first | exact stA | exact stB | ((conv=>whnf);(repeat ((first | (refine zW ?_ ?_;exact gA) | refine pC (awake12_c) wR ?_ | intro _);conv=>whnf));first | exact pS | exact pL | exact pE)) | (refine zW ?_ ?_;exact gA) | refine zH rfl ?_ | refine zA ?_ | refine zI bA ?_ | refine zI rfl ?_ | refine zJ rfl rfl ?_ | refine zB ?_ | refine zK rfl ?_ | refine zL rfl ?_ | refine zC ?_ | (refine zO ?_ ?_ ?_;omega;omega) | (refine zP ?_ ?_ ?_;omega;omega) | refine zM rfl ?_ | (refine zQ ?_ ?_ ?_;omega;omega) | (refine zR ?_ ?_;omega) | (refine zI ?_ ?_;exact nA) | (refine zS ?_ ?_ ?_;omega;omega) | (refine zT ?_ ?_ ?_;omega;omega) | (refine zU ?_ ?_ ?_;omega;omega) | (refine zV ?_ ?_ ?_;omega;omega) | refine pC (awake12_c) wR ?_ | (refine yA ?_ rfl ?_ ?_;assumption;exact lA) | (refine yB ?_ rfl ?_ ?_;assumption;exact lA) | (refine yC rfl ?_ ?_;exact lA) | refine n0 ?_ | refine zN rfl rfl rfl ?_ | refine zD ?_ | refine zE ?_ | refine zF ?_ | intro _ | refine zG ?_);conv=>whnf) | (refine zX (fun hc => ?_) (fun hc => ?_)<;>(try simp only [SY] at hc)<;>first | omega | (conv=>whnf)))
  · rename_i ta hta tb htb tc htc td htd
    exact loopTo (i + 1, (V ++ [1 + (i : Int)], tb), (T ++ [.mk 1 (1 + (i : Int)) [] []], td)) ⟨by show i + 1 ≤ _; omega, ⟨htb, htd⟩, by show V ++ _ = _; rw [varsO_succ, hV], by show T ++ _ = _; rw [refsO_succ, hT]⟩ (by show k - (i + 1) < k - i; omega) wA
  have hik : i = k := by omega
  subst hik
  rename_i ta hta tc htc bc
  refine PLoop.ghost (Ghost.box (b := bc) (cs' := [.int .i64 5, .int .i64 0, .nil, .sl 4 (([.mk 1 0 [] []] : List Trm).map Trm.pv) (some tc)]) (.cons (Wk.refl _) (.cons (Wk.refl _) (.cons (Wk.refl _) (.cons (Wk.row (RowOf.h (f := Trm.pv) (es := [.agg [.int .i64 1, .int .i64 0, .nil, .nil]]) (l := [.mk 1 0 [] []]))) .nil))))) ?_
  refine PLoop.over [16, 57, 58, 59, 60, 61, 62, 63, 64, 65, 66, 67, 68] (fun x : Nat × (List Trm × Tok) => [(16, .int .i64 x.1)])
    (fun x : Nat × (List Trm × Tok) => [.box bc [.int .i64 5, .int .i64 0, .nil, .sl 4 (x.2.1.map Trm.pv) (some x.2.2)], .tok x.2.2, .box bl [.int .i64 4, .int .i64 0, .sl 1 (V.map (PV.int .i64)) (some t1), .sl 4 [.agg [.int .i64 10, .int .i64 20, .nil, .sl 4 (T.map Trm.pv) (some t2)]] (some ta)]])
    (fun x => x.1 ≤ j ∧ x.2.2.e = 26 ∧ x.2.1 = .mk 1 0 [] [] :: prefsO x.1) (fun x => j - x.1) (0, ([.mk 1 0 [] []], tc)) ⟨Nat.zero_le _, htc, rfl⟩ wA ?_
  rintro ⟨m, ⟨C, t3⟩⟩ ⟨hm, ht3, hC⟩
  dsimp only at hm ht3 hC ⊢
  have hcl : C.length = m + 1 := by rw [hC]; simp [prefsO]
  conv => whnf
  repeat' (first | ((first | ((first | (apply zY;intro hg) | apply zZ);first | exact stA | exact stB | ((conv=>whnf);(repeat ((first | (refine zW ?_ ?_;exact gA) | refine pC (awake12_c) wR ?_ | intro _);conv=>whnf));first | exact pS | exact pL | exact pE)) | (refine zW ?_ ?_;exact gA) | refine zH rfl ?_ | refine zA ?_ | refine zI bA ?_ | refine zI rfl ?_ | refine zJ rfl rfl ?_ | refine zB ?_ | refine zK rfl ?_ | refine zL rfl ?_ | refine zC ?_ | (refine zO ?_ ?_ ?_;omega;omega) | (refine zP ?_ ?_ ?_;omega;omega) | refine zM rfl ?_ | (refine zQ ?_ ?_ ?_;omega;omega) | (refine zR ?_ ?_;omega) | (refine zI ?_ ?_;exact nA) | (refine zS ?_ ?_ ?_;omega;omega) | (refine zT ?_ ?_ ?_;omega;omega) | (refine zU ?_ ?_ ?_;omega;omega) | (refine zV ?_ ?_ ?_;omega;omega) | refine pC (awake12_c) wR ?_ | (refine yA ?_ rfl ?_ ?_;assumption;exact lA) | (refine yB ?_ rfl ?_ ?_;assumption;exact lA) | (refine yC rfl ?_ ?_;exact lA) | refine n0 ?_ | refine zN rfl rfl rfl ?_ | refine zD ?_ | refine zE ?_ | refine zF ?_ | intro _ | refine zG ?_);conv=>whnf) | (refine zX (fun hc => ?_) (fun hc => ?_)<;>(try simp only [SY] at hc)<;>first | omega | (conv=>whnf)))
  · rename_i td htd te hte
    exact loopTo (m + 1, (C ++ [.mk 11 (m : Int) [] []], te)) ⟨by show m + 1 ≤ _; omega, hte, by show C ++ _ = _; rw [hC, prefsO_succ]; rfl⟩ (by show j - (m + 1) < j - m; omega) wA
  have hmj : m = j := by omega
  subst hmj
  have hbk : (Trm.mk 8 0 [0] [.mk 4 0 V [.mk 10 20 [] T], .mk 5 0 [] C]).bulk ≤ 1048576 := by
    have := (once_dec ⟨i, by omega⟩ ⟨m, by omega⟩).2.2.2
    rw [hV, hT, hC]
    simp only at this
    exact Nat.le_trans this (by decide)
  have hcv := fun {v t : PV} [h2 : SlOf (PV.int .i64) 1 v [0]] [h3 : SlOf Trm.pv 4 t [.mk 4 0 V [.mk 10 20 [] T], .mk 5 0 [] C]] => convX_c (c := .nil) (v := v) (t := t) 8 0 ⟨s', b', 1000⟩ hbk (by decide) (by show (b' : Int) ≤ 500; omega) (by show (1000 : Int) ≤ _; decide)
  obtain ⟨q, c, hco, hq2, hcr⟩ : ∃ q c, conv12 (onceP i m) ⟨s', b', 1000⟩ = (q, c, 0) ∧ q.body.t.length = 2 ∧ (if i = m ∧ (i : Int) + 1 ≤ s' ∧ (i : Int) + 1 ≤ b' then (q.body.t.getD 1 Dfl.d).op = 8 ∧ c.budget = b' - (i + 1) else (q.body.t.getD 1 Dfl.d).op = 5 ∧ c.budget = b') := by
    obtain ⟨y, c, h1, h2⟩ := once_conv i m (by omega) (by omega) s' b' (by omega) (by omega)
    exact ⟨_, c, h1, rfl, h2⟩
  have hP : (⟨[], .mk 8 0 [0] [.mk 4 0 V [.mk 10 20 [] T], .mk 5 0 [] C]⟩ : Prog) = onceP i m := by rw [hV, hT, hC]; rfl
  rw [hP, hco] at hcv
  dsimp only at hcv
  conv => whnf
  repeat' (first | ((first | ((first | (apply zY;intro hg) | apply zZ);first | exact stA | exact stB | ((conv=>whnf);(repeat ((first | (refine zW ?_ ?_;exact gA) | refine pC (awake12_c) wR ?_ | intro _);conv=>whnf));first | exact pS | exact pL | exact pE)) | (refine zW ?_ ?_;exact gA) | refine zH rfl ?_ | refine zA ?_ | refine zI bA ?_ | refine zI rfl ?_ | refine zJ rfl rfl ?_ | refine zB ?_ | refine zK rfl ?_ | refine zL rfl ?_ | refine zC ?_ | (refine zO ?_ ?_ ?_;omega;omega) | (refine zP ?_ ?_ ?_;omega;omega) | refine zM rfl ?_ | (refine zQ ?_ ?_ ?_;omega;omega) | (refine zR ?_ ?_;omega) | (refine zI ?_ ?_;exact nA) | (refine zS ?_ ?_ ?_;omega;omega) | (refine zT ?_ ?_ ?_;omega;omega) | (refine zU ?_ ?_ ?_;omega;omega) | (refine zV ?_ ?_ ?_;omega;omega) | refine pC (awake12_c) wR ?_ | (refine yA ?_ rfl ?_ ?_;assumption;exact lA) | (refine yB ?_ rfl ?_ ?_;assumption;exact lA) | (refine yC rfl ?_ ?_;exact lA) | refine n0 ?_ | refine zN rfl rfl rfl ?_ | refine zD ?_ | refine zE ?_ | refine zF ?_ | intro _ | refine zG ?_);conv=>whnf) | (refine zX (fun hc => ?_) (fun hc => ?_)<;>(try simp only [SY] at hc)<;>first | omega | (conv=>whnf)))
  rw [es', eb']
  conv => whnf
  repeat' (first | ((first | ((first | (apply zY;intro hg) | apply zZ);first | exact stA | exact stB | ((conv=>whnf);(repeat ((first | (refine zW ?_ ?_;exact gA) | refine pC (hcv) wR ?_ | intro _);conv=>whnf));first | exact pS | exact pL | exact pE)) | (refine zW ?_ ?_;exact gA) | refine zH rfl ?_ | refine zA ?_ | refine zI bA ?_ | refine zI rfl ?_ | refine zJ rfl rfl ?_ | refine zB ?_ | refine zK rfl ?_ | refine zL rfl ?_ | refine zC ?_ | (refine zO ?_ ?_ ?_;omega;omega) | (refine zP ?_ ?_ ?_;omega;omega) | refine zM rfl ?_ | (refine zQ ?_ ?_ ?_;omega;omega) | (refine zR ?_ ?_;omega) | (refine zI ?_ ?_;exact nA) | (refine zS ?_ ?_ ?_;omega;omega) | (refine zT ?_ ?_ ?_;omega;omega) | (refine zU ?_ ?_ ?_;omega;omega) | (refine zV ?_ ?_ ?_;omega;omega) | refine pC (hcv) wR ?_ | (refine yA ?_ rfl ?_ ?_;assumption;exact lA) | (refine yB ?_ rfl ?_ ?_;assumption;exact lA) | (refine yC rfl ?_ ?_;exact lA) | refine n0 ?_ | refine zN rfl rfl rfl ?_ | refine zD ?_ | refine zE ?_ | refine zF ?_ | intro _ | refine zG ?_);conv=>whnf) | (refine zX (fun hc => ?_) (fun hc => ?_)<;>(try simp only [SY] at hc)<;>first | omega | (conv=>whnf)))
  · have e1 : q.body.t.getD 1 Dfl.d = q.body.t[1] := by simp [List.getD, hq2]
    rw [if_pos ⟨by omega, hc.1.2, hc.2⟩, e1] at hcr
    have f : ((i : Int) == (m : Int) && decide ((i : Int) + 1 ≤ s') && decide ((i : Int) + 1 ≤ b')) = true := by simp only [SS]; exact hc
    have g : (c.budget == (b' : Int) - i - 1) = true := by simp only [SS]; omega
    have l : ((q.body.t.length : Int) == 2) = true := by simp only [SS]; omega
    have o : (q.body.t[1].op == 8) = true := by simp only [SS]; omega
    rw [f, g, l, o]
    exact PRet.pure (Wk.refl _)
  · have e1 : q.body.t.getD 1 Dfl.d = q.body.t[1] := by simp [List.getD, hq2]
    rw [if_neg (by omega), e1] at hcr
    have f : ((i : Int) == (m : Int) && decide ((i : Int) + 1 ≤ s') && decide ((i : Int) + 1 ≤ b')) = false := by simp only [SS]; exact hc
    have g : (c.budget == (b' : Int) - i - 1) = false := by simp only [SS]; omega
    have g2 : (c.budget == (b' : Int)) = true := by simp only [SS]; omega
    have l : ((q.body.t.length : Int) == 2) = true := by simp only [SS]; omega
    have o : (q.body.t[1].op == 5) = true := by simp only [SS]; omega
    rw [f, g, g2, l, o]
    exact PRet.pure (Wk.refl _)
end Go.Cb
namespace Go.Cb
open Go.RowKit (Below)
open Go.ChangeShapes
def Fz.of (w : World) : Fz := fun b o => w.cell? ⟨b, o, none⟩
theorem Sim.start (w : World) : Sim w (Fz.of w) [] w := ⟨Below.refl _ w, fun _ _ _ h => h, by simp, .nil⟩
section
variable {H : Type} {enc : TypeId × Value → H} {P : Program} {w : World} {UB : DataW H → Nat} {UBs : List (DataW H) → Nat}
structure Bulk (UB : DataW H → Nat) (UBs : List (DataW H) → Nat) : Prop where
  nil : UBs [] = 0
  cons : ∀ x l, UBs (x :: l) = UB x + UBs l
  agg : ∀ l, 1 + UBs l ≤ UB (.agg l)
  slice : ∀ l m, 1 + UBs l ≤ UB (.slice l m)
  str : ∀ s, s.length + 1 ≤ UB (.lit (.string s))
  pos : ∀ d, 1 ≤ UB d
end
section
variable {H : Type} {enc : TypeId × Value → H} {P : Program} {w : World} {UB : DataW H → Nat} {UBs : List (DataW H) → Nat}
theorem arg_int {t : TypeId} {k : IntKind} (ht : P.underlying t = some (.int k)) {r : Reach} {b0 : Nat} {v : Value} {d : DataW H} {p : List MemPlace} (hv : Value.okWide P w r b0 t v) (h : DataW.Trod enc P w 0 (fun _ => true) true t v d p) :
    ∃ n : Int, Rep (Fz.of w) (.int k n) v ∧ (Lit.int k n).wf = true := by
  obtain ⟨n, rfl, _, _, h4⟩ := open_int ht hv h
  exact ⟨n, by simp only [Rep], h4⟩
theorem trodAll_below (hl : laidOutB P = true) {W W' : World} (hb : Below W.heap.size W W') : ∀ {ts : List TypeId} {vs : List Value} {ds : List (DataW H)} {ps : List MemPlace}, (∀ t ∈ ts, P.readableRec t = true ∧ t < P.types.size) →
    DataW.TrodAll enc P W 0 (fun _ => true) true ts vs ds ps → (∀ x ∈ ps, x.block < W.heap.size) → DataW.TrodAll enc P W' 0 (fun b => decide (b < W.heap.size)) true ts vs ds ps
  | [], _, _, _, _, h, _ => by
    obtain ⟨rfl, rfl, rfl⟩ := trodAll_nil h
    exact trodAll_mk0
  | t :: ts, _, _, _, hr, h, hlt => by
    obtain ⟨v, vs, d, ds, p, q, rfl, rfl, rfl, h1, h2⟩ := trodAll_cons h
    exact trodAll_cons_mk (Go.RowKit.Below.trod hl (hr t (by simp)).1 (hr t (by simp)).2 h1 hb fun x hx => hlt x (by simp [hx])) (trodAll_below hl hb (fun t ht => hr t (by simp [ht])) h2 fun x hx => hlt x (by simp [hx]))
theorem trodAll_len {spare : Nat → Bool} {base : Nat} {held : Bool} : ∀ {ts : List TypeId} {vs : List Value} {ds : List (DataW H)} {ps : List MemPlace}, DataW.TrodAll enc P w base spare held ts vs ds ps → ds.length = ts.length
  | [], _, _, _, h => by obtain ⟨rfl, rfl, rfl⟩ := trodAll_nil h; rfl
  | t :: ts, _, _, _, h => by
    obtain ⟨v, vs, d, ds, p, q, rfl, rfl, rfl, h1, h2⟩ := trodAll_cons h
    simp [trodAll_len h2]
theorem law_post {f : Func} {s : ChangeSpec} {tb : TypeId} {W W' : World} {args : Array Value} {ds gs : List (DataW H)} {before : List MemPlace} (hl : laidOutB P = true) (hr : ∀ t ∈ f.params.toList, P.readableRec t = true ∧ t < P.types.size)
    (hres : f.resultTypes = #[tb]) (hb : P.underlying tb = some .bool) (hv : s.vars = []) (hfn : ∀ ds : List (DataW H), ds.length = f.params.size → s.fn H ds = { results := [.lit (.bool true)], args := ds })
    (hW : DataW.Whole enc P f.params.toList s.vars false W args.toList ds gs before) (hbel : Below W.heap.size W W') : s.post enc P f false true false false W args (.bool true) W' := by
  have hW' := hW
  obtain ⟨p, q, hA, hV, rfl, _, _⟩ := hW
  have hV0 : DataW.TrodVars enc P W (fun _ => true) [] gs q := by rw [← hv]; exact hV
  obtain ⟨rfl, rfl⟩ := trodVars_none hV0
  have hfn' := hfn (ds ++ []) (by rw [List.append_nil, trodAll_len hA]; simp)
  refine ⟨ds, [], p ++ [], [], p, [], hW', ?_, ?_, ?_, hbel.frame _, fun h => by cases h⟩
  · rw [hfn', hres]
    exact trodAll_mk1 (Go.RowKit.shut_bool hb _)
  · rw [hfn', List.append_nil]
    exact trodAll_below hl hbel hr hA fun x hx => hW'.lt x (by simp [hx])
  · rw [hfn', hv]; rfl
end
section
variable {H : Type} {enc : TypeId × Value → H} {P : Program} {w : World} {UB : DataW H → Nat} {UBs : List (DataW H) → Nat}
end
end Go.Cb
namespace Go.Cb
open Go.Proofs Go.Proofs.YtpkgembbjlebcaaGreatDoor
open Go.RowKit (Below)
section
variable {H : Type} {enc : TypeId × Value → H} {w : World}
def Prog.bulk (p : Prog) : Nat := Datum.bulks p.consts + p.body.bulk
theorem okI : Tryz.prog.readableRec 3 = true ∧ 3 < Tryz.prog.types.size := ⟨by kernel_rfl, of_decide_eq_true (by kernel_rfl)⟩
theorem okT : Tryz.prog.readableRec 26 = true ∧ 26 < Tryz.prog.types.size := ⟨by kernel_rfl, of_decide_eq_true (by kernel_rfl)⟩
theorem calls_true {f : FuncId} {args : List PV} {vs : List Value} {W : World} (h : ACallP Tryz.prog f args (.bool true)) (hr : RepT (Fz.of W) args vs) : Calls Tryz.prog f vs.toArray W fun e W' => e = .returned (.bool true) ∧ Below W.heap.size W W' := by
  refine (h.2 W (Fz.of W) [] W vs (Sim.start W) hr).mono ?_
  rintro e W' ⟨v, F', y, Γ', rfl, _, hS, hR, rfl⟩
  exact ⟨by rw [show v = .bool true by simpa only [Rep] using hR], hS.below⟩
end
end Go.Cb
namespace Go.Cb
open Go.Proofs Go.Proofs.YtpkgembbjlebcaaGreatDoor
mutual
def cellsD : DataW Unit → List Value
  | .lit (.int k n) => [.int k n]
  | .lit (.bool b) => [.bool b]
  | .lit (.string s) => [.string ⟨s.toArray⟩]
  | .agg l => cellsDs l
  | _ => []
def cellsDs : List (DataW Unit) → List Value
  | [] => []
  | d :: l => cellsD d ++ cellsDs l
end
def newBlocks (e : TypeId) : List (String × DataW Unit) → List Obj
  | [] => []
  | (_, .iface _ (.ptr d)) :: l => .cells (cellsD d).toArray e :: newBlocks e l
  | _ :: l => newBlocks e l
def putCs (h : Array Obj) (g : Option Nat) (cs : Array Value) : Array Obj := match g with
  | some g => h.modify g fun
    | .cells _ t frozen => .cells cs t frozen
    | o => o
  | none => h
def layAll (P : Program) (p : TypeId) : List (String × DataW Unit) → Nat → Array Obj → Array Obj
  | [], _, h => h
  | (n, .iface _ _) :: l, k, h => layAll P p l (k + 1) (putCs h (P.globalNamed n) #[.iface p (.pointer (some ⟨k, 0, none⟩))])
  | (n, d) :: l, k, h => layAll P p l k (putCs h (P.globalNamed n) (cellsD d).toArray)
noncomputable def laidWorld (os : Os) : World :=
  let w0 := World.holding Tryz.prog os ⟨(newBlocks 256 Rows.termConstsRow.laid).toArray, #[], []⟩
  { w0 with heap := layAll Tryz.prog 254 Rows.termConstsRow.laid (World.settled Tryz.prog os).heap.size w0.heap }
theorem laid_met (os : Os) (args : Array Value) : laidMet Tryz.prog Rows.termConstsRow.laid ((laidWorld os).forCall (fun _ _ => 0) ⟨#[], args, []⟩).memory :=
  (LaidIn.of_run (l := Rows.termConstsRow.laid) (List.range 1000) 16 (by kernel_rfl) (by kernel_rfl) (by kernel_rfl) (by kernel_rfl)).met
theorem own_none : ownKnob Tryz.prog.godebug = none := by kernel_rfl
theorem laidOut : laidOutB Tryz.prog = true := by kernel_rfl
end Go.Cb

