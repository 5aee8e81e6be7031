/-
  Contracts: the program's check of terms: whether a term is right.
  Contracts: the document's check of terms, the rest of it.
  Contracts: the document's check of terms, within a scope.
  Contracts: the document's check of programs.
  Plain law: the program's check of a term and the document's answer alike.
  Plain law: the program's data and the document's are right alike.
  Contracts: the program's check of programs.
  Plain law: the program's check of programs and the document's answer alike.
  Contracts: the document's words for the check of terms.
  From the readings of arguments to values, and from a contract to what a statement asks.
  The program's data, read at the seat's types; the bulk.
  A world that holds the listed tables: the statements' witness.
  Drawn regions with allocations that may come at any time.
-/
import Derived.Carry
import Derived.ChangeArms
import Derived.ChangeSame
import Derived.Deep.DeepHandedRow
import Derived.Deep.DeepWitnessRowRef
import Derived.KernelRfl
import Derived.Lib.LaidIn
import Derived.OpenShut
import Derived.OpenVars
import Derived.RowKit
import Derived.Test.YtpkgembbjlebcaaGreatDoorRows
import Derived.WideShapes
import Derived.Test.YtpkgembbjlebcaaGreatDoorC4
set_option linter.unusedSimpArgs false
set_option linter.unusedVariables false
namespace Go.Cb
open Go.Proofs
set_option maxRecDepth 100000
set_option maxHeartbeats 4000000
def badP (level consts codes : Int) (free : Bool) (t : Trm) (scope : List Int) (deep size : Int) : Bool :=
  !(shapeL t.op).2 || decide (deep > 400) || decide (size > 20000) || decide (level < (shapeL t.op).1.fm) || decide (level > (shapeL t.op).1.to) || !fitsL (shapeL t.op).1 t || !numberP consts codes free t scope
mutual
def Trm.ckP (level consts codes : Int) (free : Bool) : Trm → List Int → Int → Int → List Int → Option (Int × List Int)
  | .mk op n v t, scope, deep, size, bound =>
    if badP level consts codes free (.mk op n v t) scope deep (size + 1) = true then none else
    if groupB op = true then
      if (op == 9 && !procsL level t.dropLast) = true then none else if (bindR v bound).1 = true then Trm.cksG level consts codes free (scope ++ v) t (deep + 1) (size + 1) (bound ++ v) else none
    else Trm.cksI level consts codes free scope v t (deep + 1) (size + 1) bound
def Trm.cksG (level consts codes : Int) (free : Bool) (scope : List Int) : List Trm → Int → Int → List Int → Option (Int × List Int)
  | [], _, size, bound => some (size, bound)
  | x :: xs, deep, size, bound =>
    match Trm.ckP level consts codes free x scope deep size bound with
    | none => none
    | some (s, b) => Trm.cksG level consts codes free scope xs deep s b
def Trm.cksI (level consts codes : Int) (free : Bool) (scope v : List Int) : List Trm → Int → Int → List Int → Option (Int × List Int)
  | [], _, size, bound => if (bindR v bound).1 = true then some (size, bound ++ v) else none
  | x :: xs, deep, size, bound =>
    if xs.isEmpty = true then (if (bindR v bound).1 = true then Trm.ckP level consts codes free x (scope ++ v) deep size (bound ++ v) else none) else
    match Trm.ckP level consts codes free x scope deep size bound with
    | none => none
    | some (s, b) => Trm.cksI level consts codes free scope v xs deep s b
end
theorem Trm.ckP_eq (level consts codes : Int) (free : Bool) (t : Trm) (scope : List Int) (deep size : Int) (bound : List Int) : t.ckP level consts codes free scope deep size bound =
    if badP level consts codes free t scope deep (size + 1) = true then none else
    if groupB t.op = true then
      if (t.op == 9 && !procsL level t.t.dropLast) = true then none else if (bindR t.v bound).1 = true then Trm.cksG level consts codes free (scope ++ t.v) t.t (deep + 1) (size + 1) (bound ++ t.v) else none
    else Trm.cksI level consts codes free scope t.v t.t (deep + 1) (size + 1) bound := by
  cases t; rw [Trm.ckP]; rfl
theorem Trm.ckP_bd (level consts codes : Int) (free : Bool) (x : Trm) : ∀ (scope : List Int) (deep size : Int) (bound : List Int) (s : Int) (b : List Int), x.ckP level consts codes free scope deep size bound = some (s, b) →
    size < s ∧ s ≤ 20000 ∧ ∀ v ∈ bound, v ∈ b := by
  induction x using Trm.ind with
  | h x ih =>
    intro scope deep size bound s b h
    rw [Trm.ckP_eq] at h
    split at h
    · cases h
    rename_i hc
    have hsz : size + 1 ≤ 20000 := by simp [badP] at hc; omega
    split at h
    · split at h
      · cases h
      split at h
      · have key : ∀ (l : List Trm), (∀ y ∈ l, ∀ (scope : List Int) (deep size : Int) (bound : List Int) (s : Int) (b : List Int), y.ckP level consts codes free scope deep size bound = some (s, b) → size < s ∧ s ≤ 20000 ∧ ∀ v ∈ bound, v ∈ b) →
            ∀ (sc : List Int) (deep size : Int) (bound : List Int) (s : Int) (b : List Int), size ≤ 20000 → Trm.cksG level consts codes free sc l deep size bound = some (s, b) → size ≤ s ∧ s ≤ 20000 ∧ ∀ v ∈ bound, v ∈ b := by
          intro l
          induction l with
          | nil => intro _ sc deep size bound s b h0 h; rw [Trm.cksG] at h; cases h; exact ⟨by omega, by omega, fun _ h => h⟩
          | cons y l ihl =>
            intro hy sc deep size bound s b h0 h
            rw [Trm.cksG] at h
            split at h
            · cases h
            · rename_i s1 b1 h1
              have e1 := hy y (by simp) _ _ _ _ _ _ h1
              have e2 := ihl (fun z hz => hy z (by simp [hz])) _ _ _ _ _ _ (by omega) h
              exact ⟨by omega, e2.2.1, fun v hv => e2.2.2 v (e1.2.2 v hv)⟩
        have := key x.t ih _ _ _ _ _ _ hsz h
        exact ⟨by omega, this.2.1, fun v hv => this.2.2 v (by simp [hv])⟩
      · cases h
    · have key : ∀ (l : List Trm), (∀ y ∈ l, ∀ (scope : List Int) (deep size : Int) (bound : List Int) (s : Int) (b : List Int), y.ckP level consts codes free scope deep size bound = some (s, b) → size < s ∧ s ≤ 20000 ∧ ∀ v ∈ bound, v ∈ b) →
          ∀ (sc : List Int) (deep size : Int) (bound : List Int) (s : Int) (b : List Int), size ≤ 20000 → Trm.cksI level consts codes free sc x.v l deep size bound = some (s, b) → size ≤ s ∧ s ≤ 20000 ∧ ∀ v ∈ bound, v ∈ b := by
        intro l
        induction l with
        | nil =>
          intro _ sc deep size bound s b h0 h
          rw [Trm.cksI] at h
          split at h
          · cases h; exact ⟨by omega, by omega, fun _ h => by simp [h]⟩
          · cases h
        | cons y l ihl =>
          intro hy sc deep size bound s b h0 h
          rw [Trm.cksI] at h
          split at h
          · split at h
            · have e1 := hy y (by simp) _ _ _ _ _ _ h
              exact ⟨by omega, e1.2.1, fun v hv => e1.2.2 v (by simp [hv])⟩
            · cases h
          split at h
          · cases h
          · rename_i s1 b1 h1
            have e1 := hy y (by simp) _ _ _ _ _ _ h1
            have e2 := ihl (fun z hz => hy z (by simp [hz])) _ _ _ _ _ _ (by omega) h
            exact ⟨by omega, e2.2.1, fun v hv => e2.2.2 v (e1.2.2 v hv)⟩
      have := key x.t ih _ _ _ _ _ _ hsz h
      exact ⟨by omega, this.2⟩
def rPost (c rb rs : Nat) (level consts codes : Int) (free : Bool) (scope : List Int) (r : Option (Int × List Int)) (y : PV) (Γ' : List Ent) : Prop :=
  y = .bool r.isSome ∧ ∃ size' mb ms pb' ps', Γ' = [.box c (cpC level consts codes size' free rb), .mp rb (.int .i64) mb pb', .mp rs (.int .i64) ms ps'] ∧ ∀ s b, r = some (s, b) → size' = s ∧ mb = setM b ∧ ms = setM scope
theorem right2p_c (c rb rs b4 b6 b7 : Nat) (level consts codes : Int) (free : Bool) (x : Trm) (scope : List Int) (deep size : Int) (bound : List Int) (pb ps : List (Int × Value)) (hd0 : 0 ≤ deep) (hd1 : deep ≤ 400)
    (hx : ACall Tryz.prog 49 [.ptr c 0, .agg x.cells, .mp rs, .int .i64 (deep + 1)] [.box c (cpC level consts codes size free rb), .mp rb (.int .i64) (setM bound) pb, .mp rs (.int .i64) (setM scope) ps]
      (rPost c rb rs level consts codes free scope (x.ckP level consts codes free scope (deep + 1) size bound))) :
    ACall Tryz.prog 81 [.agg x.cells, .ptr b4 0, .ptr b6 0, .ptr b7 0] [.box c (cpC level consts codes size free rb), .mp rb (.int .i64) (setM bound) pb, .mp rs (.int .i64) (setM scope) ps, .box b4 [.ptr c 0], .box b6 [.mp rs], .box b7 [.int .i64 deep]]
      (fun y Γ' => ∃ size' mb ms pb' ps', y = .bool (!(x.ckP level consts codes free scope (deep + 1) size bound).isSome) ∧ Γ' = [.box c (cpC level consts codes size' free rb), .mp rb (.int .i64) mb pb', .mp rs (.int .i64) ms ps', .box b4 [.ptr c 0], .box b6 [.mp rs], .box b7 [.int .i64 deep]] ∧
        ∀ s b, x.ckP level consts codes free scope (deep + 1) size bound = some (s, b) → size' = s ∧ mb = setM b ∧ ms = setM scope) := by
  refine ACall.of_body tt_ok Tryz.func81 rfl rfl (n := 13) rfl rfl ?_
  conv => whnf
  repeat ((first | ((first | (apply zY;intro hg) | apply zZ);exact stA) | (refine zW ?_ ?_;exact gA) | refine zH rfl ?_ | refine zA ?_ | refine zI bA ?_ | refine zI rfl ?_ | refine zJ rfl rfl ?_ | refine zB ?_ | refine zK rfl ?_ | refine zL rfl ?_ | refine zC ?_ | (refine zO ?_ ?_ ?_;omega;omega) | (refine zP ?_ ?_ ?_;omega;omega) | refine zM rfl ?_ | (refine zQ ?_ ?_ ?_;omega;omega) | (refine zR ?_ ?_;omega) | (refine zI ?_ ?_;exact nA) | (refine zS ?_ ?_ ?_;omega;omega) | (refine zT ?_ ?_ ?_;omega;omega) | (refine zU ?_ ?_ ?_;omega;omega) | (refine zV ?_ ?_ ?_;omega;omega) | refine zN rfl rfl rfl ?_ | refine zD ?_ | refine zE ?_ | refine zF ?_ | intro _);conv=>whnf)
  conv => whnf
  repeat' (first | ((first | ((first | (apply zY;intro hg) | apply zZ);exact stA) | (refine zW ?_ ?_;exact gA) | refine zH rfl ?_ | refine zA ?_ | refine zI bA ?_ | refine zI rfl ?_ | refine zJ rfl rfl ?_ | refine zB ?_ | refine zK rfl ?_ | refine zL rfl ?_ | refine zC ?_ | (refine zO ?_ ?_ ?_;omega;omega) | (refine zP ?_ ?_ ?_;omega;omega) | refine zM rfl ?_ | (refine zQ ?_ ?_ ?_;omega;omega) | (refine zR ?_ ?_;omega) | (refine zI ?_ ?_;exact nA) | (refine zS ?_ ?_ ?_;omega;omega) | (refine zT ?_ ?_ ?_;omega;omega) | (refine zU ?_ ?_ ?_;omega;omega) | (refine zV ?_ ?_ ?_;omega;omega) | refine zN rfl rfl rfl ?_ | refine zD ?_ | refine zE ?_ | refine zF ?_ | intro _ | refine zG ?_);conv=>whnf) | (refine zX (fun hc => ?_) (fun hc => ?_)<;>(try simp only [SY] at hc)<;>first | omega | (conv=>whnf)))
  refine PCall.go hx (WkT.refl _) ?_
  rintro _ _ ⟨rfl, sz2, mb, ms, pb2, ps2, rfl, hs⟩
  conv => whnf
  repeat' (first | ((first | ((first | (apply zY;intro hg) | apply zZ);exact stA) | (refine zW ?_ ?_;exact gA) | refine zH rfl ?_ | refine zA ?_ | refine zI bA ?_ | refine zI rfl ?_ | refine zJ rfl rfl ?_ | refine zB ?_ | refine zK rfl ?_ | refine zL rfl ?_ | refine zC ?_ | (refine zO ?_ ?_ ?_;omega;omega) | (refine zP ?_ ?_ ?_;omega;omega) | refine zM rfl ?_ | (refine zQ ?_ ?_ ?_;omega;omega) | (refine zR ?_ ?_;omega) | (refine zI ?_ ?_;exact nA) | (refine zS ?_ ?_ ?_;omega;omega) | (refine zT ?_ ?_ ?_;omega;omega) | (refine zU ?_ ?_ ?_;omega;omega) | (refine zV ?_ ?_ ?_;omega;omega) | refine zN rfl rfl rfl ?_ | refine zD ?_ | refine zE ?_ | refine zF ?_ | intro _ | refine zG ?_);conv=>whnf) | (refine zX (fun hc => ?_) (fun hc => ?_)<;>(try simp only [SY] at hc)<;>first | omega | (conv=>whnf)))
  exact PRet.gen (Wk.refl _) ⟨sz2, mb, ms, pb2, ps2, rfl, rfl, hs⟩
theorem all2p_c (c rb rs b4 b6 b7 : Nat) (level consts codes : Int) (free : Bool) (l : List Trm) (scope : List Int) (deep : Int) (hd0 : 0 ≤ deep) (hd1 : deep ≤ 400)
    (ih : ∀ x ∈ l, ∀ (size : Int) (bound : List Int) (pb ps : List (Int × Value)), 0 ≤ size → size ≤ 20000 → (∀ x ∈ scope, x ∈ bound) → ACall Tryz.prog 49 [.ptr c 0, .agg x.cells, .mp rs, .int .i64 (deep + 1)] [.box c (cpC level consts codes size free rb), .mp rb (.int .i64) (setM bound) pb, .mp rs (.int .i64) (setM scope) ps]
      (rPost c rb rs level consts codes free scope (x.ckP level consts codes free scope (deep + 1) size bound)))
    (size : Int) (bound : List Int) (pb ps : List (Int × Value)) (hs0 : 0 ≤ size) (hs1 : size ≤ 20000) (hsub : ∀ x ∈ scope, x ∈ bound) :
    ACall Tryz.prog 80 [.sl 4 (l.map Trm.pv) none, .fn (.func 81) [.ptr b4 0, .ptr b6 0, .ptr b7 0]] [.box c (cpC level consts codes size free rb), .mp rb (.int .i64) (setM bound) pb, .mp rs (.int .i64) (setM scope) ps, .box b4 [.ptr c 0], .box b6 [.mp rs], .box b7 [.int .i64 deep]]
      (fun y Γ' => ∃ size' mb ms pb' ps', y = .bool (!(Trm.cksG level consts codes free scope l (deep + 1) size bound).isSome) ∧ Γ' = [.box c (cpC level consts codes size' free rb), .mp rb (.int .i64) mb pb', .mp rs (.int .i64) ms ps', .box b4 [.ptr c 0], .box b6 [.mp rs], .box b7 [.int .i64 deep]] ∧
        ∀ s b, Trm.cksG level consts codes free scope l (deep + 1) size bound = some (s, b) → size' = s ∧ mb = setM b ∧ ms = setM scope) := by
  refine (containsFuncTrmS_c 81 [.ptr b4 0, .ptr b6 0, .ptr b7 0] l
    (fun i Γ => ∃ sz bd pb ps, Γ = [.box c (cpC level consts codes sz free rb), .mp rb (.int .i64) (setM bd) pb, .mp rs (.int .i64) (setM scope) ps, .box b4 [.ptr c 0], .box b6 [.mp rs], .box b7 [.int .i64 deep]] ∧ 0 ≤ sz ∧ sz ≤ 20000 ∧ (∀ x ∈ scope, x ∈ bd) ∧ Trm.cksG level consts codes free scope l (deep + 1) size bound = Trm.cksG level consts codes free scope (l.drop i) (deep + 1) sz bd)
    (fun _ Γ => ∃ sz mb ms pb ps, Γ = [.box c (cpC level consts codes sz free rb), .mp rb (.int .i64) mb pb, .mp rs (.int .i64) ms ps, .box b4 [.ptr c 0], .box b6 [.mp rs], .box b7 [.int .i64 deep]] ∧ Trm.cksG level consts codes free scope l (deep + 1) size bound = none)
    ?_ _ ⟨size, bound, pb, ps, rfl, hs0, hs1, hsub, rfl⟩).mono ?_
  · rintro i x _ hx ⟨sz, bd, pb, ps, rfl, h0, h1, h2, h3⟩
    obtain ⟨hi, rfl⟩ := List.getElem?_eq_some_iff.1 hx
    refine (right2p_c c rb rs b4 b6 b7 level consts codes free l[i] scope deep sz bd pb ps hd0 hd1 (ih _ (List.getElem_mem _) sz bd pb ps h0 h1 h2)).mono ?_
    rintro _ _ ⟨sz2, mb, ms, pb2, ps2, rfl, rfl, hs⟩
    rw [drop_at hi, Trm.cksG] at h3
    cases e : Trm.ckP level consts codes free l[i] scope (deep + 1) sz bd with
    | none => rw [e] at h3; exact .inr ⟨by simp [PV.bool], sz2, mb, ms, pb2, ps2, rfl, h3⟩
    | some q =>
      obtain ⟨s1, b1⟩ := q
      obtain ⟨rfl, rfl, rfl⟩ := hs s1 b1 e
      have hbd := Trm.ckP_bd _ _ _ _ _ _ _ _ _ _ _ e
      rw [e] at h3
      exact .inl ⟨by simp [PV.bool], sz2, b1, pb2, ps2, rfl, by omega, hbd.2.1, fun x h => hbd.2.2 x (h2 x h), h3⟩
  · rintro _ _ (⟨rfl, sz, bd, pb, ps, rfl, h0, h1, h2, h3⟩ | ⟨i, rfl, hi, sz, mb, ms, pb, ps, rfl, h3⟩)
    · rw [List.drop_length, Trm.cksG] at h3
      rw [h3]
      exact ⟨sz, setM bd, setM scope, pb, ps, rfl, rfl, fun s b h => by cases h; exact ⟨rfl, rfl, rfl⟩⟩
    · rw [h3]
      exact ⟨sz, mb, ms, pb, ps, rfl, rfl, fun s b h => by cases h⟩
theorem cksI_end {level consts codes : Int} {free : Bool} {scope v : List Int} {l : List Trm} {deep size : Int} {bound : List Int} (h : l.length ≤ 1) :
    Trm.cksI level consts codes free scope v l deep size bound = if (bindR v bound).1 = true then Trm.cksG level consts codes free (scope ++ v) l deep size (bound ++ v) else none := by
  match l, h with
  | [], _ => rw [Trm.cksI, Trm.cksG]
  | [x], _ =>
    rw [Trm.cksI, if_pos (show ([] : List Trm).isEmpty = true from rfl), Trm.cksG]
    split
    · cases hx : Trm.ckP level consts codes free x (scope ++ v) deep size (bound ++ v) with
      | none => rfl
      | some q => obtain ⟨s, b⟩ := q; simp only [Trm.cksG]
    · rfl
  | _ :: _ :: _, h => simp at h
theorem bindR_apart : ∀ {l bound : List Int}, (bindR l bound).1 = true → ∀ x, x ∈ l → x ∈ bound → False
  | [], _, _, _, h, _ => by cases h
  | v :: l, bound, h, x, hx, hb => by
    rw [bindR] at h
    split at h
    · rename_i hv
      rcases List.mem_cons.1 hx with rfl | hx
      · simp [vOk, hb] at hv
      · exact bindR_apart h x hx (by simp [hb])
    · cases h
theorem right_end {r ck : Option (Int × List Int)} {a : Int} {b : Bool} (hck : ck = if (a == 9 && !b) = true then none else r) : (!!r.isSome && (a != 9 || b)) = ck.isSome := by
  subst hck
  cases h : a == 9 <;> cases b <;> cases r <;> simp_all [bne]
theorem fits9 {t : Trm} (h : fitsL (shapeL t.op).1 t = true) (h9 : t.op = 9) : 1 ≤ t.t.length := by
  have e : shapeL 9 = (⟨1, 3, 0, false, true⟩, true) := rfl
  rw [h9, e] at h
  simp [fitsL, h9] at h
  omega
theorem rightp_c (c rb rs : Nat) (level consts codes : Int) (free : Bool) (t : Trm) : ∀ (scope : List Int) (deep size : Int) (bound : List Int) (pb ps : List (Int × Value)), 0 ≤ deep → deep ≤ 401 → 0 ≤ size → size ≤ 20000 → (∀ x ∈ scope, x ∈ bound) → t.bulk ≤ 1000000000 →
    ACall Tryz.prog 49 [.ptr c 0, .agg t.cells, .mp rs, .int .i64 deep] [.box c (cpC level consts codes size free rb), .mp rb (.int .i64) (setM bound) pb, .mp rs (.int .i64) (setM scope) ps]
    (rPost c rb rs level consts codes free scope (t.ckP level consts codes free scope deep size bound)) := by
  induction t using Trm.ind with
  | h t ih =>
    intro scope deep size bound pb ps hd0 hd1 hs0 hs1 hsub hbk
    have hbe := t.bulk_eq
    have hlv := Trm.bulks_length t.t
    have hr := t.ckP_eq level consts codes free scope deep size bound
    refine ACall.of_body tt_ok Tryz.func49 rfl rfl (n := 126) rfl rfl ?_
    conv => whnf
    repeat ((first | ((first | (apply zY;intro hg) | apply zZ);focus ((conv=>whnf);(repeat ((first | (refine zW ?_ ?_;exact gA) | refine zH rfl ?_ | refine zA ?_ | refine zI bA ?_ | refine zI rfl ?_ | refine zJ rfl rfl ?_ | refine zB ?_ | refine zK rfl ?_ | refine zL rfl ?_ | refine zC ?_ | (refine zO ?_ ?_ ?_;exact OA;exact OA) | (refine zP ?_ ?_ ?_;exact OA;exact OA) | refine zM rfl ?_ | (refine zQ ?_ ?_ ?_;exact OA;exact OA) | (refine zR ?_ ?_;exact OA) | (refine zI ?_ ?_;exact NA) | (refine zS ?_ ?_ ?_;exact OA;exact OA) | (refine zT ?_ ?_ ?_;exact OA;exact OA) | (refine zU ?_ ?_ ?_;exact OA;exact OA) | (refine zV ?_ ?_ ?_;exact OA;exact OA) | refine PCall.pure (shapeOf_c _) (WkT.refl _) ?_ | refine PCall.pure (shapeOf_c _) cA ?_ | refine PCall.pure (fits_c (shapeL t.op).1 t OA) (WkT.refl _) ?_ | refine PCall.pure (fits_c (shapeL t.op).1 t OA) cA ?_ | refine PCall.read (number2p_c c rb rs level consts codes (size + 1) free t scope ps) (WkT.refl _) ?_ | refine PCall.pure (group_c t) (WkT.refl _) ?_ | refine PCall.pure (group_c t) cA ?_ | intro _);conv=>whnf));first | exact PShift.same | exact PShift.lit | exact PShift.ep)) | (refine zW ?_ ?_;exact gA) | refine zH rfl ?_ | refine zA ?_ | refine zI bA ?_ | refine zI rfl ?_ | refine zJ rfl rfl ?_ | refine zB ?_ | refine zK rfl ?_ | refine zL rfl ?_ | refine zC ?_ | (refine zO ?_ ?_ ?_;omega;omega) | (refine zP ?_ ?_ ?_;omega;omega) | refine zM rfl ?_ | (refine zQ ?_ ?_ ?_;omega;omega) | (refine zR ?_ ?_;omega) | (refine zI ?_ ?_;exact nA) | (refine zS ?_ ?_ ?_;omega;omega) | (refine zT ?_ ?_ ?_;omega;omega) | (refine zU ?_ ?_ ?_;omega;omega) | (refine zV ?_ ?_ ?_;omega;omega) | refine PCall.pure (shapeOf_c _) (WkT.refl _) ?_ | refine PCall.pure (shapeOf_c _) cA ?_ | refine PCall.pure (fits_c (shapeL t.op).1 t OA) (WkT.refl _) ?_ | refine PCall.pure (fits_c (shapeL t.op).1 t OA) cA ?_ | refine PCall.read (number2p_c c rb rs level consts codes (size + 1) free t scope ps) (WkT.refl _) ?_ | refine PCall.pure (group_c t) (WkT.refl _) ?_ | refine PCall.pure (group_c t) cA ?_ | refine zN rfl rfl rfl ?_ | refine zD ?_ | refine zE ?_ | refine zF ?_ | refine PDraw.sP (some 27) rfl [] [41,42,43] tt_ok mixed ?_ | refine PDraw.sP (some 83) rfl [] [9,10] tt_ok mixed ?_ | refine PDraw.sP (some 106) rfl [] [17,18,19,20] tt_ok mixed ?_ | intro _);conv=>whnf)
    conv => whnf
    repeat' (first | ((first | ((first | (apply zY;intro hg) | apply zZ);focus ((conv=>whnf);(repeat ((first | (refine zW ?_ ?_;exact gA) | refine zH rfl ?_ | refine zA ?_ | refine zI bA ?_ | refine zI rfl ?_ | refine zJ rfl rfl ?_ | refine zB ?_ | refine zK rfl ?_ | refine zL rfl ?_ | refine zC ?_ | (refine zO ?_ ?_ ?_;exact OA;exact OA) | (refine zP ?_ ?_ ?_;exact OA;exact OA) | refine zM rfl ?_ | (refine zQ ?_ ?_ ?_;exact OA;exact OA) | (refine zR ?_ ?_;exact OA) | (refine zI ?_ ?_;exact NA) | (refine zS ?_ ?_ ?_;exact OA;exact OA) | (refine zT ?_ ?_ ?_;exact OA;exact OA) | (refine zU ?_ ?_ ?_;exact OA;exact OA) | (refine zV ?_ ?_ ?_;exact OA;exact OA) | refine PCall.pure (shapeOf_c _) (WkT.refl _) ?_ | refine PCall.pure (shapeOf_c _) cA ?_ | refine PCall.pure (fits_c (shapeL t.op).1 t OA) (WkT.refl _) ?_ | refine PCall.pure (fits_c (shapeL t.op).1 t OA) cA ?_ | refine PCall.read (number2p_c c rb rs level consts codes (size + 1) free t scope ps) (WkT.refl _) ?_ | refine PCall.pure (group_c t) (WkT.refl _) ?_ | refine PCall.pure (group_c t) cA ?_ | intro _);conv=>whnf));first | exact PShift.same | exact PShift.lit | exact PShift.ep)) | (refine zW ?_ ?_;exact gA) | refine zH rfl ?_ | refine zA ?_ | refine zI bA ?_ | refine zI rfl ?_ | refine zJ rfl rfl ?_ | refine zB ?_ | refine zK rfl ?_ | refine zL rfl ?_ | refine zC ?_ | (refine zO ?_ ?_ ?_;omega;omega) | (refine zP ?_ ?_ ?_;omega;omega) | refine zM rfl ?_ | (refine zQ ?_ ?_ ?_;omega;omega) | (refine zR ?_ ?_;omega) | (refine zI ?_ ?_;exact nA) | (refine zS ?_ ?_ ?_;omega;omega) | (refine zT ?_ ?_ ?_;omega;omega) | (refine zU ?_ ?_ ?_;omega;omega) | (refine zV ?_ ?_ ?_;omega;omega) | refine PCall.pure (shapeOf_c _) (WkT.refl _) ?_ | refine PCall.pure (shapeOf_c _) cA ?_ | refine PCall.pure (fits_c (shapeL t.op).1 t OA) (WkT.refl _) ?_ | refine PCall.pure (fits_c (shapeL t.op).1 t OA) cA ?_ | refine PCall.read (number2p_c c rb rs level consts codes (size + 1) free t scope ps) (WkT.refl _) ?_ | refine PCall.pure (group_c t) (WkT.refl _) ?_ | refine PCall.pure (group_c t) cA ?_ | refine zN rfl rfl rfl ?_ | refine zD ?_ | refine zE ?_ | refine zF ?_ | refine PDraw.sP (some 27) rfl [] [41,42,43] tt_ok mixed ?_ | refine PDraw.sP (some 83) rfl [] [9,10] tt_ok mixed ?_ | refine PDraw.sP (some 106) rfl [] [17,18,19,20] tt_ok mixed ?_ | intro _ | refine zG ?_);conv=>whnf) | (refine zX (fun hc => ?_) (fun hc => ?_)<;>(try simp only [SY] at hc)<;>first | omega | (conv=>whnf)))
    · rw [hr, if_pos (by simp only [badP, SS]; exact hc)]
      exact PRet.gen (y := .bool false) (Wk.ff rfl) ⟨rfl, size + 1, setM bound, setM scope, pb, ps, rfl, fun _ _ h => by cases h⟩
    all_goals
      rename_i b4 b5 b6 b7 b9 hgood hlen
      have hfx : t.op = 9 → 1 ≤ t.t.length := fits9 hgood.1.2
      rw [if_neg (by simp only [badP, SS]; intro h; obtain ⟨⟨⟨⟨⟨⟨g1, g2⟩, g3⟩, g4⟩, g5⟩, g6⟩, g7⟩ := hgood; simp only [g1, g6, g7, Bool.true_eq_false, or_false, false_or] at h; omega)] at hr
    · have hgr := hc
      rw [if_neg (by rw [hc]; simp)] at hr
      refine PLoop.over [8, 12, 78, 79, 80, 81, 82, 83, 84, 85, 86, 87, 88, 89, 90, 91, 92, 93] (fun (x : Nat × Int × List Int × List (Int × Value) × List (Int × Value)) => [(12, .int .i64 x.1)])
        (fun (x : Nat × Int × List Int × List (Int × Value) × List (Int × Value)) => [.box b9 (shapeL t.op).1.cells, .box b7 [.int .i64 deep], .box b6 [.mp rs], .box b5 [.int .i64 t.op, .int .i64 t.n, .sl 1 (t.v.map (PV.int .i64)) none, .sl 4 (t.t.map Trm.pv) none], .box b4 [.ptr c 0],
          .box c (cpC level consts codes x.2.1 free rb), .mp rb (.int .i64) (setM x.2.2.1) x.2.2.2.1, .mp rs (.int .i64) (setM scope) x.2.2.2.2])
        (fun | (k, sz, bd, pb, ps) => (k = 0 ∨ k < t.t.length) ∧ 0 ≤ sz ∧ sz ≤ 20000 ∧ (∀ x ∈ bound, x ∈ bd) ∧ t.ckP level consts codes free scope deep size bound = Trm.cksI level consts codes free scope t.v (t.t.drop k) (deep + 1) sz bd) (fun | (k, _) => t.t.length - k) (0, size + 1, bound, pb, ps)
        ⟨.inl rfl, by omega, by omega, fun _ h => h, by rw [hr]; rfl⟩ wA ?_
      rintro ⟨k, sz, bd, pb', ps'⟩ ⟨hk, hz0, hz1, hsb, hck⟩
      dsimp only
      conv => whnf
      repeat' (first | ((first | ((first | (apply zY;intro hg) | apply zZ);focus ((conv=>whnf);(repeat ((first | (refine zW ?_ ?_;exact gA) | refine zH rfl ?_ | refine zA ?_ | refine zI bA ?_ | refine zI rfl ?_ | refine zJ rfl rfl ?_ | refine zB ?_ | refine zK rfl ?_ | refine zL rfl ?_ | refine zC ?_ | (refine zO ?_ ?_ ?_;exact OA;exact OA) | (refine zP ?_ ?_ ?_;exact OA;exact OA) | refine zM rfl ?_ | (refine zQ ?_ ?_ ?_;exact OA;exact OA) | (refine zR ?_ ?_;exact OA) | (refine zI ?_ ?_;exact NA) | (refine zS ?_ ?_ ?_;exact OA;exact OA) | (refine zT ?_ ?_ ?_;exact OA;exact OA) | (refine zU ?_ ?_ ?_;exact OA;exact OA) | (refine zV ?_ ?_ ?_;exact OA;exact OA) | refine PCall.pure (shapeOf_c _) (WkT.refl _) ?_ | refine PCall.pure (shapeOf_c _) cA ?_ | refine PCall.pure (fits_c (shapeL t.op).1 t OA) (WkT.refl _) ?_ | refine PCall.pure (fits_c (shapeL t.op).1 t OA) cA ?_ | refine PCall.read (number2p_c c rb rs level consts codes (size + 1) free t scope ps) (WkT.refl _) ?_ | refine PCall.pure (group_c t) (WkT.refl _) ?_ | refine PCall.pure (group_c t) cA ?_ | intro _);conv=>whnf));first | exact PShift.same | exact PShift.lit | exact PShift.ep)) | (refine zW ?_ ?_;exact gA) | refine zH rfl ?_ | refine zA ?_ | refine zI bA ?_ | refine zI rfl ?_ | refine zJ rfl rfl ?_ | refine zB ?_ | refine zK rfl ?_ | refine zL rfl ?_ | refine zC ?_ | (refine zO ?_ ?_ ?_;omega;omega) | (refine zP ?_ ?_ ?_;omega;omega) | refine zM rfl ?_ | (refine zQ ?_ ?_ ?_;omega;omega) | (refine zR ?_ ?_;omega) | (refine zI ?_ ?_;exact nA) | (refine zS ?_ ?_ ?_;omega;omega) | (refine zT ?_ ?_ ?_;omega;omega) | (refine zU ?_ ?_ ?_;omega;omega) | (refine zV ?_ ?_ ?_;omega;omega) | refine PCall.pure (shapeOf_c _) (WkT.refl _) ?_ | refine PCall.pure (shapeOf_c _) cA ?_ | refine PCall.pure (fits_c (shapeL t.op).1 t OA) (WkT.refl _) ?_ | refine PCall.pure (fits_c (shapeL t.op).1 t OA) cA ?_ | refine PCall.read (number2p_c c rb rs level consts codes (size + 1) free t scope ps) (WkT.refl _) ?_ | refine PCall.pure (group_c t) (WkT.refl _) ?_ | refine PCall.pure (group_c t) cA ?_ | refine zN rfl rfl rfl ?_ | refine zD ?_ | refine zE ?_ | refine zF ?_ | refine PDraw.sP (some 27) rfl [] [41,42,43] tt_ok mixed ?_ | refine PDraw.sP (some 83) rfl [] [9,10] tt_ok mixed ?_ | refine PDraw.sP (some 106) rfl [] [17,18,19,20] tt_ok mixed ?_ | intro _ | refine zG ?_);conv=>whnf) | (refine zX (fun hc => ?_) (fun hc => ?_)<;>(try simp only [SY] at hc)<;>first | omega | (conv=>whnf)))
      · have hlt : k < t.t.length := by omega
        have hbm := Trm.bulks_mem (List.getElem_mem hlt)
        rw [drop_at hlt, Trm.cksI, if_neg (by rw [List.isEmpty_iff, List.drop_eq_nil_iff]; omega)] at hck
        refine PCall.go (ih t.t[k] (List.getElem_mem _) scope (deep + 1) sz bd pb' ps' (by omega) (by omega) hz0 hz1 (fun x h => hsb x (hsub x h)) (by omega)) (WkT.refl _) ?_
        rintro _ _ ⟨rfl, sz2, mb, ms, pb2, ps2, rfl, hs⟩
        conv => whnf
        repeat' (first | ((first | ((first | (apply zY;intro hg) | apply zZ);focus ((conv=>whnf);(repeat ((first | (refine zW ?_ ?_;exact gA) | refine zH rfl ?_ | refine zA ?_ | refine zI bA ?_ | refine zI rfl ?_ | refine zJ rfl rfl ?_ | refine zB ?_ | refine zK rfl ?_ | refine zL rfl ?_ | refine zC ?_ | (refine zO ?_ ?_ ?_;exact OA;exact OA) | (refine zP ?_ ?_ ?_;exact OA;exact OA) | refine zM rfl ?_ | (refine zQ ?_ ?_ ?_;exact OA;exact OA) | (refine zR ?_ ?_;exact OA) | (refine zI ?_ ?_;exact NA) | (refine zS ?_ ?_ ?_;exact OA;exact OA) | (refine zT ?_ ?_ ?_;exact OA;exact OA) | (refine zU ?_ ?_ ?_;exact OA;exact OA) | (refine zV ?_ ?_ ?_;exact OA;exact OA) | refine PCall.pure (shapeOf_c _) (WkT.refl _) ?_ | refine PCall.pure (shapeOf_c _) cA ?_ | refine PCall.pure (fits_c (shapeL t.op).1 t OA) (WkT.refl _) ?_ | refine PCall.pure (fits_c (shapeL t.op).1 t OA) cA ?_ | refine PCall.read (number2p_c c rb rs level consts codes (size + 1) free t scope ps) (WkT.refl _) ?_ | refine PCall.pure (group_c t) (WkT.refl _) ?_ | refine PCall.pure (group_c t) cA ?_ | intro _);conv=>whnf));first | exact PShift.same | exact PShift.lit | exact PShift.ep)) | (refine zW ?_ ?_;exact gA) | refine zH rfl ?_ | refine zA ?_ | refine zI bA ?_ | refine zI rfl ?_ | refine zJ rfl rfl ?_ | refine zB ?_ | refine zK rfl ?_ | refine zL rfl ?_ | refine zC ?_ | (refine zO ?_ ?_ ?_;omega;omega) | (refine zP ?_ ?_ ?_;omega;omega) | refine zM rfl ?_ | (refine zQ ?_ ?_ ?_;omega;omega) | (refine zR ?_ ?_;omega) | (refine zI ?_ ?_;exact nA) | (refine zS ?_ ?_ ?_;omega;omega) | (refine zT ?_ ?_ ?_;omega;omega) | (refine zU ?_ ?_ ?_;omega;omega) | (refine zV ?_ ?_ ?_;omega;omega) | refine PCall.pure (shapeOf_c _) (WkT.refl _) ?_ | refine PCall.pure (shapeOf_c _) cA ?_ | refine PCall.pure (fits_c (shapeL t.op).1 t OA) (WkT.refl _) ?_ | refine PCall.pure (fits_c (shapeL t.op).1 t OA) cA ?_ | refine PCall.read (number2p_c c rb rs level consts codes (size + 1) free t scope ps) (WkT.refl _) ?_ | refine PCall.pure (group_c t) (WkT.refl _) ?_ | refine PCall.pure (group_c t) cA ?_ | refine zN rfl rfl rfl ?_ | refine zD ?_ | refine zE ?_ | refine zF ?_ | refine PDraw.sP (some 27) rfl [] [41,42,43] tt_ok mixed ?_ | refine PDraw.sP (some 83) rfl [] [9,10] tt_ok mixed ?_ | refine PDraw.sP (some 106) rfl [] [17,18,19,20] tt_ok mixed ?_ | intro _ | refine zG ?_);conv=>whnf) | (refine zX (fun hc => ?_) (fun hc => ?_)<;>(try simp only [SY] at hc)<;>first | omega | (conv=>whnf)))
        · have hn := hc
          rw [Option.isSome_eq_false_iff, Option.isNone_iff_eq_none] at hn
          rw [hn] at hck
          exact PRet.gen (y := .bool false) (Wk.ff rfl) ⟨by rw [hck]; rfl, sz2, mb, ms, pb2, ps2, rfl, fun _ _ h => by rw [hck] at h; cases h⟩
        · obtain ⟨⟨s1, b1⟩, e⟩ := Option.isSome_iff_exists.mp hc
          obtain ⟨rfl, rfl, rfl⟩ := hs s1 b1 e
          have hbd := Trm.ckP_bd _ _ _ _ _ _ _ _ _ _ _ e
          rw [e] at hck
          exact loopTo (k + 1, sz2, b1, pb2, ps2) ⟨.inr (by omega), by show (0 : Int) ≤ sz2; omega, hbd.2.1, fun x h => hbd.2.2 x (hsb x h), hck⟩ (by show t.t.length - (k + 1) < t.t.length - k; omega) wA
      · rw [cksI_end (by rw [List.length_drop]; omega)] at hck
        have hop : t.op ≠ 9 := fun h => by simp [groupB, h] at hgr
        have hdk : (if (t.t.length : Int) - 1 < 0 then 0 else (t.t.length : Int) - 1).toNat = k := by split <;> omega
        have hck : t.ckP level consts codes free scope deep size bound = if (t.op == 9 && !procsL level t.t.dropLast) = true then none else if (bindR t.v bd).1 = true then Trm.cksG level consts codes free (scope ++ t.v) (t.t.drop (if (t.t.length : Int) - 1 < 0 then 0 else (t.t.length : Int) - 1).toNat) (deep + 1) sz (bd ++ t.v) else none := by
          rw [if_neg (by simp [hop]), hdk]; exact hck
        have hgc : ACallP Tryz.prog 77 [.agg t.cells] (.bool false) := by
          have := group_c t
          rw [hgr] at this
          exact this
        refine PCall.go (bind2p_c c rb rs level consts codes sz free t.v bd scope pb' ps') (WkT.refl _) ?_
        rintro _ _ ⟨rfl, pb3, mb, ms, rfl, hb⟩
        conv => whnf
        repeat' (first | ((first | ((first | (apply zY;intro hg) | apply zZ);focus ((conv=>whnf);(repeat ((first | (refine zW ?_ ?_;exact gA) | refine zH rfl ?_ | refine zA ?_ | refine zI bA ?_ | refine zI rfl ?_ | refine zJ rfl rfl ?_ | refine zB ?_ | refine zK rfl ?_ | refine zL rfl ?_ | refine zC ?_ | (refine zO ?_ ?_ ?_;exact OA;exact OA) | (refine zP ?_ ?_ ?_;exact OA;exact OA) | refine zM rfl ?_ | (refine zQ ?_ ?_ ?_;exact OA;exact OA) | (refine zR ?_ ?_;exact OA) | (refine zI ?_ ?_;exact NA) | (refine zS ?_ ?_ ?_;exact OA;exact OA) | (refine zT ?_ ?_ ?_;exact OA;exact OA) | (refine zU ?_ ?_ ?_;exact OA;exact OA) | (refine zV ?_ ?_ ?_;exact OA;exact OA) | refine PCall.pure (hgc) (WkT.refl _) ?_ | refine PCall.pure (hgc) cA ?_ | intro _);conv=>whnf));first | exact PShift.same | exact PShift.lit | exact PShift.ep)) | (refine zW ?_ ?_;exact gA) | refine zH rfl ?_ | refine zA ?_ | refine zI bA ?_ | refine zI rfl ?_ | refine zJ rfl rfl ?_ | refine zB ?_ | refine zK rfl ?_ | refine zL rfl ?_ | refine zC ?_ | (refine zO ?_ ?_ ?_;omega;omega) | (refine zP ?_ ?_ ?_;omega;omega) | refine zM rfl ?_ | (refine zQ ?_ ?_ ?_;omega;omega) | (refine zR ?_ ?_;omega) | (refine zI ?_ ?_;exact nA) | (refine zS ?_ ?_ ?_;omega;omega) | (refine zT ?_ ?_ ?_;omega;omega) | (refine zU ?_ ?_ ?_;omega;omega) | (refine zV ?_ ?_ ?_;omega;omega) | refine PCall.pure (hgc) (WkT.refl _) ?_ | refine PCall.pure (hgc) cA ?_ | refine zN rfl rfl rfl ?_ | refine zD ?_ | refine zE ?_ | refine zF ?_ | refine PDraw.sP (some 27) rfl [] [41,42,43] tt_ok mixed ?_ | refine PDraw.sP (some 83) rfl [] [9,10] tt_ok mixed ?_ | intro _ | refine zG ?_);conv=>whnf) | (refine zX (fun hc => ?_) (fun hc => ?_)<;>(try simp only [SY] at hc)<;>first | omega | (conv=>whnf)))
        · refine PCallD.go (defer_c b5 b6 rs t.op t.n t.v (t.t.map Trm.pv) ms ps') (WkT.refl _) ?_
          rintro _ _ ⟨ps4, rfl⟩
          conv => whnf
          have hno : t.ckP level consts codes free scope deep size bound = none := by rw [hck]; split; rfl; exact if_neg (by rw [hc]; simp)
          exact PRet.gen (y := .bool false) (Wk.ff rfl) ⟨by rw [hno]; rfl, sz, mb, delS t.v ms, pb3, ps4, rfl, fun _ _ h => by rw [hno] at h; cases h⟩
        · have hbt := ‹(bindR t.v bd).1 = true›
          obtain ⟨rfl, rfl⟩ := hb hbt
          rw [if_pos hbt] at hck
          refine PDraw.split2 tt_ok mixed [0, 1, 0, 7, 0, 31, 63, 127, 255, 511, 1023, 2047, 4095, 4095, 12287, 4095, 61439, 131071, 262143, 524287, 1048575] [0, 1, 2, 3, 4] [5] [6, 7, 8, 9, 10, 11, 12, 13, 14, 15, 16, 17, 18, 19, 20] [] [.box c (cpC level consts codes sz free rb), .mp rb (.int .i64) (setM (bd ++ t.v)) pb3, .mp rs (.int .i64) (setM (scope ++ t.v)) ps', .box b4 [.ptr c 0], .box b6 [.mp rs], .box b7 [.int .i64 deep]] (by kernel_rfl) ?_
          conv => whnf
          repeat ((first | ((first | (apply zY;intro hg) | apply zZ);focus ((conv=>whnf);(repeat ((first | (refine zW ?_ ?_;exact gA) | refine zH rfl ?_ | refine zA ?_ | refine zI bA ?_ | refine zI rfl ?_ | refine zJ rfl rfl ?_ | refine zB ?_ | refine zK rfl ?_ | refine zL rfl ?_ | refine zC ?_ | (refine zO ?_ ?_ ?_;exact OA;exact OA) | (refine zP ?_ ?_ ?_;exact OA;exact OA) | refine zM rfl ?_ | (refine zQ ?_ ?_ ?_;exact OA;exact OA) | (refine zR ?_ ?_;exact OA) | (refine zI ?_ ?_;exact NA) | (refine zS ?_ ?_ ?_;exact OA;exact OA) | (refine zT ?_ ?_ ?_;exact OA;exact OA) | (refine zU ?_ ?_ ?_;exact OA;exact OA) | (refine zV ?_ ?_ ?_;exact OA;exact OA) | refine PCall.pure (hgc) (WkT.refl _) ?_ | refine PCall.pure (hgc) cA ?_ | intro _);conv=>whnf));first | exact PShift.same | exact PShift.lit | exact PShift.ep)) | (refine zW ?_ ?_;exact gA) | refine zH rfl ?_ | refine zA ?_ | refine zI bA ?_ | refine zI rfl ?_ | refine zJ rfl rfl ?_ | refine zB ?_ | refine zK rfl ?_ | refine zL rfl ?_ | refine zC ?_ | (refine zO ?_ ?_ ?_;omega;omega) | (refine zP ?_ ?_ ?_;omega;omega) | refine zM rfl ?_ | (refine zQ ?_ ?_ ?_;omega;omega) | (refine zR ?_ ?_;omega) | (refine zI ?_ ?_;exact nA) | (refine zS ?_ ?_ ?_;omega;omega) | (refine zT ?_ ?_ ?_;omega;omega) | (refine zU ?_ ?_ ?_;omega;omega) | (refine zV ?_ ?_ ?_;omega;omega) | refine PCall.pure (hgc) (WkT.refl _) ?_ | refine PCall.pure (hgc) cA ?_ | refine zN rfl rfl rfl ?_ | refine zD ?_ | refine zE ?_ | refine zF ?_ | refine PDraw.sP (some 27) rfl [] [41,42,43] tt_ok mixed ?_ | refine PDraw.sP (some 83) rfl [] [9,10] tt_ok mixed ?_ | intro _);conv=>whnf)
          have hdj : ∀ x ∈ scope, x ∉ t.v := fun x h h' => bindR_apart hbt x h' (hsb x (hsub x h))
          refine PCall.go (all2p_c c rb rs b4 b6 b7 level consts codes free (t.t.drop (if (t.t.length : Int) - 1 < 0 then 0 else (t.t.length : Int) - 1).toNat) (scope ++ t.v) deep hd0 (by omega) (fun x hx sz bd pb ps h0 h1 h2 => ih x (List.mem_of_mem_drop hx) (scope ++ t.v) (deep + 1) sz bd pb ps (by omega) (by omega) h0 h1 h2 (by have := Trm.bulks_mem (List.mem_of_mem_drop hx); omega)) sz (bd ++ t.v) pb3 ps' (by omega) (by omega) (by intro x h; rw [List.mem_append] at h ⊢; exact h.imp (fun h => hsb x (hsub x h)) id)) (WkT.refl _) ?_
          rintro _ _ ⟨sz5, mb5, ms5, pb5, ps5, rfl, rfl, hs5⟩
          conv => whnf
          repeat ((first | ((first | (apply zY;intro hg) | apply zZ);focus ((conv=>whnf);(repeat ((first | (refine zW ?_ ?_;exact gA) | refine zH rfl ?_ | refine zA ?_ | refine zI bA ?_ | refine zI rfl ?_ | refine zJ rfl rfl ?_ | refine zB ?_ | refine zK rfl ?_ | refine zL rfl ?_ | refine zC ?_ | (refine zO ?_ ?_ ?_;exact OA;exact OA) | (refine zP ?_ ?_ ?_;exact OA;exact OA) | refine zM rfl ?_ | (refine zQ ?_ ?_ ?_;exact OA;exact OA) | (refine zR ?_ ?_;exact OA) | (refine zI ?_ ?_;exact NA) | (refine zS ?_ ?_ ?_;exact OA;exact OA) | (refine zT ?_ ?_ ?_;exact OA;exact OA) | (refine zU ?_ ?_ ?_;exact OA;exact OA) | (refine zV ?_ ?_ ?_;exact OA;exact OA) | refine PCall.read (procs_c c rb level consts codes sz5 free (t.t.take (t.t.length - 1))) (WkT.refl _) ?_ | intro _);conv=>whnf));first | exact PShift.same | exact PShift.lit | exact PShift.ep)) | (refine zW ?_ ?_;exact gA) | refine zH rfl ?_ | refine zA ?_ | refine zI bA ?_ | refine zI rfl ?_ | refine zJ rfl rfl ?_ | refine zB ?_ | refine zK rfl ?_ | refine zL rfl ?_ | refine zC ?_ | (refine zO ?_ ?_ ?_;omega;omega) | (refine zP ?_ ?_ ?_;omega;omega) | refine zM rfl ?_ | (refine zQ ?_ ?_ ?_;omega;omega) | (refine zR ?_ ?_;omega) | (refine zI ?_ ?_;exact nA) | (refine zS ?_ ?_ ?_;omega;omega) | (refine zT ?_ ?_ ?_;omega;omega) | (refine zU ?_ ?_ ?_;omega;omega) | (refine zV ?_ ?_ ?_;omega;omega) | refine PCall.read (procs_c c rb level consts codes sz5 free (t.t.take (t.t.length - 1))) (WkT.refl _) ?_ | refine zN rfl rfl rfl ?_ | refine zD ?_ | refine zE ?_ | refine zF ?_ | refine PDraw.sP (some 27) rfl [] [41,42,43] tt_ok mixed ?_ | refine PDraw.sP (some 83) rfl [] [9,10] tt_ok mixed ?_ | intro _);conv=>whnf)
          refine PCallD.go (defer_c b5 b6 rs t.op t.n t.v (t.t.map Trm.pv) ms5 ps5) (WkT.refl _) ?_
          rintro _ _ ⟨ps4, rfl⟩
          conv => whnf
          refine PRet.gen (y := .bool (t.ckP level consts codes free scope deep size bound).isSome) (Wk.bool ?_) ⟨rfl, sz5, mb5, delS t.v ms5, pb5, ps4, rfl, fun s b h => ?_⟩
          · exact right_end (by rw [← List.dropLast_eq_take]; exact hck)
          · rw [hck] at h
            split at h
            · cases h
            · obtain ⟨h1, h2, h3⟩ := hs5 s b h
              exact ⟨h1, h2, by rw [h3, delS_setM _ _ hdj]⟩
    · have hgr := hc
      rw [if_pos hc] at hr
      have hck := hr
      have hgc : ACallP Tryz.prog 77 [.agg t.cells] (.bool true) := by
        have := group_c t
        rw [hgr] at this
        exact this
      refine PCall.go (bind2p_c c rb rs level consts codes (size + 1) free t.v bound scope pb ps) (WkT.refl _) ?_
      rintro _ _ ⟨rfl, pb3, mb, ms, rfl, hb⟩
      conv => whnf
      repeat' (first | ((first | ((first | (apply zY;intro hg) | apply zZ);focus ((conv=>whnf);(repeat ((first | (refine zW ?_ ?_;exact gA) | refine zH rfl ?_ | refine zA ?_ | refine zI bA ?_ | refine zI rfl ?_ | refine zJ rfl rfl ?_ | refine zB ?_ | refine zK rfl ?_ | refine zL rfl ?_ | refine zC ?_ | (refine zO ?_ ?_ ?_;exact OA;exact OA) | (refine zP ?_ ?_ ?_;exact OA;exact OA) | refine zM rfl ?_ | (refine zQ ?_ ?_ ?_;exact OA;exact OA) | (refine zR ?_ ?_;exact OA) | (refine zI ?_ ?_;exact NA) | (refine zS ?_ ?_ ?_;exact OA;exact OA) | (refine zT ?_ ?_ ?_;exact OA;exact OA) | (refine zU ?_ ?_ ?_;exact OA;exact OA) | (refine zV ?_ ?_ ?_;exact OA;exact OA) | refine PCall.pure (hgc) (WkT.refl _) ?_ | refine PCall.pure (hgc) cA ?_ | intro _);conv=>whnf));first | exact PShift.same | exact PShift.lit | exact PShift.ep)) | (refine zW ?_ ?_;exact gA) | refine zH rfl ?_ | refine zA ?_ | refine zI bA ?_ | refine zI rfl ?_ | refine zJ rfl rfl ?_ | refine zB ?_ | refine zK rfl ?_ | refine zL rfl ?_ | refine zC ?_ | (refine zO ?_ ?_ ?_;omega;omega) | (refine zP ?_ ?_ ?_;omega;omega) | refine zM rfl ?_ | (refine zQ ?_ ?_ ?_;omega;omega) | (refine zR ?_ ?_;omega) | (refine zI ?_ ?_;exact nA) | (refine zS ?_ ?_ ?_;omega;omega) | (refine zT ?_ ?_ ?_;omega;omega) | (refine zU ?_ ?_ ?_;omega;omega) | (refine zV ?_ ?_ ?_;omega;omega) | refine PCall.pure (hgc) (WkT.refl _) ?_ | refine PCall.pure (hgc) cA ?_ | refine zN rfl rfl rfl ?_ | refine zD ?_ | refine zE ?_ | refine zF ?_ | refine PDraw.sP (some 27) rfl [] [41,42,43] tt_ok mixed ?_ | refine PDraw.sP (some 83) rfl [] [9,10] tt_ok mixed ?_ | intro _ | refine zG ?_);conv=>whnf) | (refine zX (fun hc => ?_) (fun hc => ?_)<;>(try simp only [SY] at hc)<;>first | omega | (conv=>whnf)))
      · refine PCallD.go (defer_c b5 b6 rs t.op t.n t.v (t.t.map Trm.pv) ms ps) (WkT.refl _) ?_
        rintro _ _ ⟨ps4, rfl⟩
        conv => whnf
        have hno : t.ckP level consts codes free scope deep size bound = none := by rw [hck]; split; rfl; exact if_neg (by rw [hc]; simp)
        exact PRet.gen (y := .bool false) (Wk.ff rfl) ⟨by rw [hno]; rfl, (size + 1), mb, delS t.v ms, pb3, ps4, rfl, fun _ _ h => by rw [hno] at h; cases h⟩
      · have hbt := ‹(bindR t.v bound).1 = true›
        obtain ⟨rfl, rfl⟩ := hb hbt
        rw [if_pos hbt] at hck
        refine PDraw.split2 tt_ok mixed [0, 1, 0, 7, 0, 31, 63, 127, 255, 511, 1023, 2047, 4095, 4095, 12287, 4095, 61439, 131071, 262143, 524287, 1048575] [0, 1, 2, 3, 4] [5] [6, 7, 8, 9, 10, 11, 12, 13, 14, 15, 16, 17, 18, 19, 20] [] [.box c (cpC level consts codes (size + 1) free rb), .mp rb (.int .i64) (setM (bound ++ t.v)) pb3, .mp rs (.int .i64) (setM (scope ++ t.v)) ps, .box b4 [.ptr c 0], .box b6 [.mp rs], .box b7 [.int .i64 deep]] (by kernel_rfl) ?_
        conv => whnf
        repeat ((first | ((first | (apply zY;intro hg) | apply zZ);focus ((conv=>whnf);(repeat ((first | (refine zW ?_ ?_;exact gA) | refine zH rfl ?_ | refine zA ?_ | refine zI bA ?_ | refine zI rfl ?_ | refine zJ rfl rfl ?_ | refine zB ?_ | refine zK rfl ?_ | refine zL rfl ?_ | refine zC ?_ | (refine zO ?_ ?_ ?_;exact OA;exact OA) | (refine zP ?_ ?_ ?_;exact OA;exact OA) | refine zM rfl ?_ | (refine zQ ?_ ?_ ?_;exact OA;exact OA) | (refine zR ?_ ?_;exact OA) | (refine zI ?_ ?_;exact NA) | (refine zS ?_ ?_ ?_;exact OA;exact OA) | (refine zT ?_ ?_ ?_;exact OA;exact OA) | (refine zU ?_ ?_ ?_;exact OA;exact OA) | (refine zV ?_ ?_ ?_;exact OA;exact OA) | refine PCall.pure (hgc) (WkT.refl _) ?_ | refine PCall.pure (hgc) cA ?_ | intro _);conv=>whnf));first | exact PShift.same | exact PShift.lit | exact PShift.ep)) | (refine zW ?_ ?_;exact gA) | refine zH rfl ?_ | refine zA ?_ | refine zI bA ?_ | refine zI rfl ?_ | refine zJ rfl rfl ?_ | refine zB ?_ | refine zK rfl ?_ | refine zL rfl ?_ | refine zC ?_ | (refine zO ?_ ?_ ?_;omega;omega) | (refine zP ?_ ?_ ?_;omega;omega) | refine zM rfl ?_ | (refine zQ ?_ ?_ ?_;omega;omega) | (refine zR ?_ ?_;omega) | (refine zI ?_ ?_;exact nA) | (refine zS ?_ ?_ ?_;omega;omega) | (refine zT ?_ ?_ ?_;omega;omega) | (refine zU ?_ ?_ ?_;omega;omega) | (refine zV ?_ ?_ ?_;omega;omega) | refine PCall.pure (hgc) (WkT.refl _) ?_ | refine PCall.pure (hgc) cA ?_ | refine zN rfl rfl rfl ?_ | refine zD ?_ | refine zE ?_ | refine zF ?_ | refine PDraw.sP (some 27) rfl [] [41,42,43] tt_ok mixed ?_ | refine PDraw.sP (some 83) rfl [] [9,10] tt_ok mixed ?_ | intro _);conv=>whnf)
        have hdj : ∀ x ∈ scope, x ∉ t.v := fun x h h' => bindR_apart hbt x h' (hsub x h)
        refine PCall.go (all2p_c c rb rs b4 b6 b7 level consts codes free (t.t.drop 0) (scope ++ t.v) deep hd0 (by omega) (fun x hx sz bd pb ps h0 h1 h2 => ih x (List.mem_of_mem_drop hx) (scope ++ t.v) (deep + 1) sz bd pb ps (by omega) (by omega) h0 h1 h2 (by have := Trm.bulks_mem (List.mem_of_mem_drop hx); omega)) (size + 1) (bound ++ t.v) pb3 ps (by omega) (by omega) (by intro x h; rw [List.mem_append] at h ⊢; exact h.imp (fun h => hsub x h) id)) (WkT.refl _) ?_
        rintro _ _ ⟨sz5, mb5, ms5, pb5, ps5, rfl, rfl, hs5⟩
        conv => whnf
        repeat ((first | ((first | (apply zY;intro hg) | apply zZ);focus ((conv=>whnf);(repeat ((first | (refine zW ?_ ?_;exact gA) | refine zH rfl ?_ | refine zA ?_ | refine zI bA ?_ | refine zI rfl ?_ | refine zJ rfl rfl ?_ | refine zB ?_ | refine zK rfl ?_ | refine zL rfl ?_ | refine zC ?_ | (refine zO ?_ ?_ ?_;exact OA;exact OA) | (refine zP ?_ ?_ ?_;exact OA;exact OA) | refine zM rfl ?_ | (refine zQ ?_ ?_ ?_;exact OA;exact OA) | (refine zR ?_ ?_;exact OA) | (refine zI ?_ ?_;exact NA) | (refine zS ?_ ?_ ?_;exact OA;exact OA) | (refine zT ?_ ?_ ?_;exact OA;exact OA) | (refine zU ?_ ?_ ?_;exact OA;exact OA) | (refine zV ?_ ?_ ?_;exact OA;exact OA) | refine PCall.read (procs_c c rb level consts codes sz5 free (t.t.take (t.t.length - 1))) (WkT.refl _) ?_ | intro _);conv=>whnf));first | exact PShift.same | exact PShift.lit | exact PShift.ep)) | (refine zW ?_ ?_;exact gA) | refine zH rfl ?_ | refine zA ?_ | refine zI bA ?_ | refine zI rfl ?_ | refine zJ rfl rfl ?_ | refine zB ?_ | refine zK rfl ?_ | refine zL rfl ?_ | refine zC ?_ | (refine zO ?_ ?_ ?_;omega;omega) | (refine zP ?_ ?_ ?_;omega;omega) | refine zM rfl ?_ | (refine zQ ?_ ?_ ?_;omega;omega) | (refine zR ?_ ?_;omega) | (refine zI ?_ ?_;exact nA) | (refine zS ?_ ?_ ?_;omega;omega) | (refine zT ?_ ?_ ?_;omega;omega) | (refine zU ?_ ?_ ?_;omega;omega) | (refine zV ?_ ?_ ?_;omega;omega) | refine PCall.read (procs_c c rb level consts codes sz5 free (t.t.take (t.t.length - 1))) (WkT.refl _) ?_ | refine zN rfl rfl rfl ?_ | refine zD ?_ | refine zE ?_ | refine zF ?_ | refine PDraw.sP (some 27) rfl [] [41,42,43] tt_ok mixed ?_ | refine PDraw.sP (some 83) rfl [] [9,10] tt_ok mixed ?_ | intro _);conv=>whnf)
        refine PCallD.go (defer_c b5 b6 rs t.op t.n t.v (t.t.map Trm.pv) ms5 ps5) (WkT.refl _) ?_
        rintro _ _ ⟨ps4, rfl⟩
        conv => whnf
        refine PRet.gen (y := .bool (t.ckP level consts codes free scope deep size bound).isSome) (Wk.bool ?_) ⟨rfl, sz5, mb5, delS t.v ms5, pb5, ps4, rfl, fun s b h => ?_⟩
        · exact right_end (by rw [← List.dropLast_eq_take]; exact hck)
        · rw [hck] at h
          split at h
          · cases h
          · obtain ⟨h1, h2, h3⟩ := hs5 s b h
            exact ⟨h1, h2, by rw [h3, delS_setM _ _ hdj]⟩
end Go.Cb
namespace Go.Cb
open Go.Proofs
set_option maxRecDepth 100000
set_option maxHeartbeats 4000000
abbrev ckC (level consts codes size : Int) (free : Bool) (bound : List Int) (t : Tok) (ok : Bool) : List PV :=
  [.int .i64 level, .int .i64 consts, .int .i64 codes, .bool free, .int .i64 size, .sl 1 (bound.map (PV.int .i64)) (some t), .bool ok]
def numberL (consts codes : Int) (free : Bool) (t : Trm) (scope : List Int) : Bool :=
  if t.op = 0 then decide (t.n ≥ 0) && decide (t.n < consts) else
  if t.op = 1 ∨ t.op = 2 ∨ t.op = 14 then scope.contains t.n else
  if t.op = 11 ∨ t.op = 10 then decide (t.n ≥ 0) && decide (t.n ≤ 30) else
  if t.op = 4 then t.n == 0 || (t.n == 1 && decide ((t.v.length : Int) > 0)) else
  if t.op = 7 then t.n == 0 || t.n == 1 else
  if t.op = 19 ∨ t.op = 21 ∨ t.op = 22 then decide (t.n ≥ 0) && decide (t.n < codes) else
  if t.op = 20 then decide (t.n ≥ 0) && free else t.n == 0
theorem number2_c (b : Nat) (level consts codes size : Int) (free ok : Bool) (bound : List Int) (tk : Tok) (t : Trm) (scope : List Int) :
    ACall Tryz.prog 138 [.ptr b 0, .agg t.cells, .sl 1 (scope.map (PV.int .i64)) none] [.box b (ckC level consts codes size free bound tk ok)]
    (fun y Γ' => y = .bool (numberL consts codes free t scope) ∧ Γ' = [.box b (ckC level consts codes size free bound tk ok)]) := by
  have hs : numberL consts codes free t scope = numberL consts codes free t scope := rfl
  conv at hs => rhs; unfold numberL
  refine ACall.of_body tt_ok Tryz.func138 rfl rfl (n := 98) rfl rfl ?_
  conv => whnf
  repeat ((first | ((first | (apply zY;intro hg) | apply zZ);focus ((conv=>whnf);(repeat ((first | (refine zW ?_ ?_;exact gA) | refine zH rfl ?_ | refine zA ?_ | refine zI bA ?_ | refine zI rfl ?_ | refine zJ rfl rfl ?_ | refine zB ?_ | refine zK rfl ?_ | refine zL rfl ?_ | refine zC ?_ | (refine zO ?_ ?_ ?_;exact OA;exact OA) | (refine zP ?_ ?_ ?_;exact OA;exact OA) | refine zM rfl ?_ | (refine zQ ?_ ?_ ?_;exact OA;exact OA) | (refine zR ?_ ?_;exact OA) | (refine zI ?_ ?_;exact NA) | (refine zS ?_ ?_ ?_;exact OA;exact OA) | (refine zT ?_ ?_ ?_;exact OA;exact OA) | (refine zU ?_ ?_ ?_;exact OA;exact OA) | (refine zV ?_ ?_ ?_;exact OA;exact OA) | refine PCall.pure (has_c _ _) (WkT.refl _) ?_ | refine PCall.pure (has_c _ _) cA ?_ | intro _);conv=>whnf));first | exact PShift.same | exact PShift.lit | exact PShift.ep)) | (refine zW ?_ ?_;exact gA) | refine zH rfl ?_ | refine zA ?_ | refine zI bA ?_ | refine zI rfl ?_ | refine zJ rfl rfl ?_ | refine zB ?_ | refine zK rfl ?_ | refine zL rfl ?_ | refine zC ?_ | (refine zO ?_ ?_ ?_;omega;omega) | (refine zP ?_ ?_ ?_;omega;omega) | refine zM rfl ?_ | (refine zQ ?_ ?_ ?_;omega;omega) | (refine zR ?_ ?_;omega) | (refine zI ?_ ?_;exact nA) | (refine zS ?_ ?_ ?_;omega;omega) | (refine zT ?_ ?_ ?_;omega;omega) | (refine zU ?_ ?_ ?_;omega;omega) | (refine zV ?_ ?_ ?_;omega;omega) | refine PCall.pure (has_c _ _) (WkT.refl _) ?_ | refine PCall.pure (has_c _ _) cA ?_ | refine zN rfl rfl rfl ?_ | refine zD ?_ | refine zE ?_ | refine zF ?_ | refine PDraw.sP (some 11) rfl [] [] tt_ok mixed ?_ | refine PDraw.sP (some 72) rfl [] [] tt_ok mixed ?_ | intro _);conv=>whnf)
  conv => whnf
  repeat' (first | ((first | ((first | (apply zY;intro hg) | apply zZ);focus ((conv=>whnf);(repeat ((first | (refine zW ?_ ?_;exact gA) | refine zH rfl ?_ | refine zA ?_ | refine zI bA ?_ | refine zI rfl ?_ | refine zJ rfl rfl ?_ | refine zB ?_ | refine zK rfl ?_ | refine zL rfl ?_ | refine zC ?_ | (refine zO ?_ ?_ ?_;exact OA;exact OA) | (refine zP ?_ ?_ ?_;exact OA;exact OA) | refine zM rfl ?_ | (refine zQ ?_ ?_ ?_;exact OA;exact OA) | (refine zR ?_ ?_;exact OA) | (refine zI ?_ ?_;exact NA) | (refine zS ?_ ?_ ?_;exact OA;exact OA) | (refine zT ?_ ?_ ?_;exact OA;exact OA) | (refine zU ?_ ?_ ?_;exact OA;exact OA) | (refine zV ?_ ?_ ?_;exact OA;exact OA) | refine PCall.pure (has_c _ _) (WkT.refl _) ?_ | refine PCall.pure (has_c _ _) cA ?_ | intro _);conv=>whnf));first | exact PShift.same | exact PShift.lit | exact PShift.ep)) | (refine zW ?_ ?_;exact gA) | refine zH rfl ?_ | refine zA ?_ | refine zI bA ?_ | refine zI rfl ?_ | refine zJ rfl rfl ?_ | refine zB ?_ | refine zK rfl ?_ | refine zL rfl ?_ | refine zC ?_ | (refine zO ?_ ?_ ?_;omega;omega) | (refine zP ?_ ?_ ?_;omega;omega) | refine zM rfl ?_ | (refine zQ ?_ ?_ ?_;omega;omega) | (refine zR ?_ ?_;omega) | (refine zI ?_ ?_;exact nA) | (refine zS ?_ ?_ ?_;omega;omega) | (refine zT ?_ ?_ ?_;omega;omega) | (refine zU ?_ ?_ ?_;omega;omega) | (refine zV ?_ ?_ ?_;omega;omega) | refine PCall.pure (has_c _ _) (WkT.refl _) ?_ | refine PCall.pure (has_c _ _) cA ?_ | refine zN rfl rfl rfl ?_ | refine zD ?_ | refine zE ?_ | refine zF ?_ | refine PDraw.sP (some 11) rfl [] [] tt_ok mixed ?_ | refine PDraw.sP (some 72) rfl [] [] tt_ok mixed ?_ | intro _ | refine zG ?_);conv=>whnf) | (refine zX (fun hc => ?_) (fun hc => ?_)<;>(try simp only [SY] at hc)<;>first | omega | (conv=>whnf)))
  all_goals repeat (first | rw [if_neg (by omega)] at hs | rw [if_pos (by omega)] at hs)
  all_goals rw [hs]
  all_goals exact PRet.gen (Wk.refl _) ⟨rfl, rfl⟩
end Go.Cb
namespace Go.Cb
open Go.Proofs
set_option maxRecDepth 100000
set_option maxHeartbeats 4000000
def wantOp (level : Int) : Int := if level = 3 then 19 else 4
mutual
def Trm.ckD (level consts codes : Int) (free : Bool) : Trm → List Int → Int → Int → List Int → Option (Int × List Int)
  | .mk op n v t, scope, deep, size, bound =>
    if (decide (deep > 400) || decide (size + 1 > 20000) || !sortsL op level || !countsL (.mk op n v t) || !numberL consts codes free (.mk op n v t) scope) = true then none else
    if (bindR v bound).1 = true then Trm.cksD level consts codes free op scope (scope ++ v) t (deep + 1) (size + 1) (bindR v bound).2 else none
def Trm.cksD (level consts codes : Int) (free : Bool) (op : Int) (scope inner : List Int) : List Trm → Int → Int → List Int → Option (Int × List Int)
  | [], _, size, bound => some (size, bound)
  | x :: xs, deep, size, bound =>
    if op = 9 ∧ xs ≠ [] ∧ x.op ≠ wantOp level then none else
    match Trm.ckD level consts codes free x (if xs = [] ∨ op = 7 ∨ op = 9 then inner else scope) deep size bound with
    | none => none
    | some (s, b) => Trm.cksD level consts codes free op scope inner xs deep s b
end
theorem Trm.ckD_eq (level consts codes : Int) (free : Bool) (x : Trm) (scope : List Int) (deep size : Int) (bound : List Int) : x.ckD level consts codes free scope deep size bound =
    if (decide (deep > 400) || decide (size + 1 > 20000) || !sortsL x.op level || !countsL x || !numberL consts codes free x scope) = true then none else
    if (bindR x.v bound).1 = true then Trm.cksD level consts codes free x.op scope (scope ++ x.v) x.t (deep + 1) (size + 1) (bindR x.v bound).2 else none := by
  cases x; rw [Trm.ckD]; rfl
theorem bindR_len : ∀ (l bound : List Int), (bindR l bound).2.length ≤ bound.length + l.length
  | [], bound => by simp [bindR]
  | v :: l, bound => by
    rw [bindR]
    split
    · have := bindR_len l (bound ++ [v]); simp at this ⊢; omega
    · simp
theorem Trm.ckD_bd (level consts codes : Int) (free : Bool) (x : Trm) : ∀ (scope : List Int) (deep size : Int) (bound : List Int) (s : Int) (b : List Int), x.ckD level consts codes free scope deep size bound = some (s, b) →
    size < s ∧ s ≤ 20000 ∧ b.length ≤ bound.length + x.bulk := by
  induction x using Trm.ind with
  | h x ih =>
    intro scope deep size bound s b h
    rw [Trm.ckD_eq] at h
    split at h
    · cases h
    rename_i hc
    split at h
    · have key : ∀ (l : List Trm), (∀ y ∈ l, ∀ (scope : List Int) (deep size : Int) (bound : List Int) (s : Int) (b : List Int), y.ckD level consts codes free scope deep size bound = some (s, b) → size < s ∧ s ≤ 20000 ∧ b.length ≤ bound.length + y.bulk) →
          ∀ (deep size : Int) (bound : List Int) (s : Int) (b : List Int), size ≤ 20000 → Trm.cksD level consts codes free x.op scope (scope ++ x.v) l deep size bound = some (s, b) → size ≤ s ∧ s ≤ 20000 ∧ b.length ≤ bound.length + Trm.bulks l := by
        intro l
        induction l with
        | nil => intro _ deep size bound s b h0 h; rw [Trm.cksD] at h; cases h; rw [Trm.bulks]; omega
        | cons y l ihl =>
          intro hy deep size bound s b h0 h
          rw [Trm.cksD] at h
          split at h
          · cases h
          split at h
          · cases h
          · rename_i s1 b1 h1
            have e1 := hy y (by simp) _ _ _ _ _ _ h1
            have e2 := ihl (fun z hz => hy z (by simp [hz])) _ _ _ _ _ (by omega) h
            rw [Trm.bulks]; omega
      have hb := bindR_len x.v bound
      have h2 : size + 1 ≤ 20000 := by simp at hc; omega
      have := key x.t ih _ _ _ _ _ h2 h
      rw [Trm.bulk_eq]; omega
    · cases h
theorem Trm.cksD_nil (level consts codes : Int) (free : Bool) (op : Int) (scope inner : List Int) (deep size : Int) (bound : List Int) : Trm.cksD level consts codes free op scope inner [] deep size bound = some (size, bound) := by rw [Trm.cksD]
def ckPost (b : Nat) (level consts codes : Int) (free : Bool) (r : Option (Int × List Int)) (y : PV) (Γ' : List Ent) : Prop :=
  y = .tup [] ∧ ∃ size' bound' tk' ok', tk'.e = 3 ∧ Γ' = [.box b (ckC level consts codes size' free bound' tk' ok'), .tok tk'] ∧ (ok' = true → r = some (size', bound')) ∧ (ok' = false → r = none)
theorem cks_step {level consts codes : Int} {free : Bool} {op : Int} {scope inner : List Int} {l : List Trm} {i : Nat} (hlt : i < l.length) {deep sz : Int} {bd : List Int} {total : Option (Int × List Int)}
    (h : total = Trm.cksD level consts codes free op scope inner (l.drop i) deep sz bd) (okv : Bool) (sc : List Int) (h1 : okv = true ↔ (op = 9 ∧ i + 1 ≠ l.length → l[i].op = wantOp level)) (h2 : sc = if i + 1 = l.length ∨ op = 7 ∨ op = 9 then inner else scope) :
    (∀ s b, (if okv = true then l[i].ckD level consts codes free sc deep sz bd else none) = some (s, b) → total = Trm.cksD level consts codes free op scope inner (l.drop (i + 1)) deep s b) ∧
    ((if okv = true then l[i].ckD level consts codes free sc deep sz bd else none) = none → total = none) := by
  have e : l.drop (i + 1) = [] ↔ i + 1 = l.length := by rw [List.drop_eq_nil_iff]; omega
  rw [drop_at hlt, Trm.cksD] at h
  simp only [ne_eq, e] at h
  rw [← h2] at h
  by_cases ho : okv = true
  · rw [if_pos ho]
    have := h1.1 ho
    rw [if_neg (fun hh => hh.2.2 (this ⟨hh.1, hh.2.1⟩))] at h
    refine ⟨fun s b hr => ?_, fun hr => ?_⟩
    · rw [hr] at h; exact h
    · rw [hr] at h; exact h
  · rw [if_neg ho]
    refine ⟨fun s b hr => (by cases hr), fun _ => ?_⟩
    rw [if_pos] at h
    · exact h
    · refine ⟨?_, ?_, ?_⟩
      · apply Classical.byContradiction; intro hh; exact ho (h1.2 fun x => absurd x.1 hh)
      · intro hh; exact ho (h1.2 fun x => absurd hh x.2)
      · intro hh; exact ho (h1.2 fun _ => hh)
theorem ck_next {level consts codes : Int} {free : Bool} {x : Trm} {sc : List Int} {deep sz : Int} {bd : List Int} {R : Int → List Int → Prop} {n : Nat} (okv : Bool) {s : Int} {b : List Int}
    (h : (if okv = true then x.ckD level consts codes free sc deep sz bd else none) = some (s, b)) (k : ∀ s b, (if okv = true then x.ckD level consts codes free sc deep sz bd else none) = some (s, b) → R s b) (h0 : 0 ≤ sz) (hn : bd.length + (x.bulk + n) ≤ 1000000000) :
    0 ≤ s ∧ s ≤ 20000 ∧ b.length + n ≤ 1000000000 ∧ R s b := by
  have hk := k s b h
  split at h
  · have := x.ckD_bd level consts codes free sc deep sz bd s b h
    exact ⟨by omega, by omega, by omega, hk⟩
  · cases h
theorem term2_c (b : Nat) (level consts codes : Int) (free : Bool) (t : Trm) : ∀ (size deep : Int) (bound scope : List Int) (ok0 : Bool) (tk : Tok), tk.e = 3 → 0 ≤ size → size ≤ 20000 → 0 ≤ deep → deep ≤ 401 → bound.length + t.bulk ≤ 1000000000 → scope.length + t.bulk ≤ 1000000000 →
    ACall Tryz.prog 98 [.ptr b 0, .agg t.cells, .sl 1 (scope.map (PV.int .i64)) none, .int .i64 deep] [.box b (ckC level consts codes size free bound tk ok0), .tok tk]
    (ckPost b level consts codes free (if ok0 = true then t.ckD level consts codes free scope deep size bound else none)) := by
  induction t using Trm.ind with
  | h t ih =>
    intro size deep bound scope ok0 tk htk hs0 hs1 hd0 hd1 hb1 hb2
    have hbk := t.bulk_eq
    have hr := t.ckD_eq level consts codes free scope deep size bound
    refine ACall.of_body tt_ok Tryz.func98 rfl rfl (n := 141) rfl rfl ?_
    conv => whnf
    repeat ((first | ((first | (apply zY;intro hg) | apply zZ);focus ((conv=>whnf);(repeat ((first | (refine zW ?_ ?_;exact gA) | refine zH rfl ?_ | refine zA ?_ | refine zI bA ?_ | refine zI rfl ?_ | refine zJ rfl rfl ?_ | refine zB ?_ | refine zK rfl ?_ | refine zL rfl ?_ | refine zC ?_ | (refine zO ?_ ?_ ?_;exact OA;exact OA) | (refine zP ?_ ?_ ?_;exact OA;exact OA) | refine zM rfl ?_ | (refine zQ ?_ ?_ ?_;exact OA;exact OA) | (refine zR ?_ ?_;exact OA) | (refine zI ?_ ?_;exact NA) | (refine zS ?_ ?_ ?_;exact OA;exact OA) | (refine zT ?_ ?_ ?_;exact OA;exact OA) | (refine zU ?_ ?_ ?_;exact OA;exact OA) | (refine zV ?_ ?_ ?_;exact OA;exact OA) | refine PCall.pure (sorts_c _ _) (WkT.refl _) ?_ | refine PCall.pure (sorts_c _ _) cA ?_ | refine PCall.pure (counts_c t OA) (WkT.refl _) ?_ | refine PCall.pure (counts_c t OA) cA ?_ | refine PCall.read (number2_c b level consts codes (size + 1) free ok0 bound tk t scope) (WkT.refl _) ?_ | intro _);conv=>whnf));first | exact PShift.same | exact PShift.lit | exact PShift.ep)) | (refine zW ?_ ?_;exact gA) | refine zH rfl ?_ | refine zA ?_ | refine zI bA ?_ | refine zI rfl ?_ | refine zJ rfl rfl ?_ | refine zB ?_ | refine zK rfl ?_ | refine zL rfl ?_ | refine zC ?_ | (refine zO ?_ ?_ ?_;omega;omega) | (refine zP ?_ ?_ ?_;omega;omega) | refine zM rfl ?_ | (refine zQ ?_ ?_ ?_;omega;omega) | (refine zR ?_ ?_;omega) | (refine zI ?_ ?_;exact nA) | (refine zS ?_ ?_ ?_;omega;omega) | (refine zT ?_ ?_ ?_;omega;omega) | (refine zU ?_ ?_ ?_;omega;omega) | (refine zV ?_ ?_ ?_;omega;omega) | refine PCall.pure (sorts_c _ _) (WkT.refl _) ?_ | refine PCall.pure (sorts_c _ _) cA ?_ | refine PCall.pure (counts_c t OA) (WkT.refl _) ?_ | refine PCall.pure (counts_c t OA) cA ?_ | refine PCall.read (number2_c b level consts codes (size + 1) free ok0 bound tk t scope) (WkT.refl _) ?_ | refine zN rfl rfl rfl ?_ | refine zD ?_ | refine zE ?_ | refine zF ?_ | refine PDraw.sP (some 19) rfl [] [28,29,30] tt_ok mixed ?_ | intro _);conv=>whnf)
    conv => whnf
    repeat' (first | ((first | ((first | (apply zY;intro hg) | apply zZ);focus ((conv=>whnf);(repeat ((first | (refine zW ?_ ?_;exact gA) | refine zH rfl ?_ | refine zA ?_ | refine zI bA ?_ | refine zI rfl ?_ | refine zJ rfl rfl ?_ | refine zB ?_ | refine zK rfl ?_ | refine zL rfl ?_ | refine zC ?_ | (refine zO ?_ ?_ ?_;exact OA;exact OA) | (refine zP ?_ ?_ ?_;exact OA;exact OA) | refine zM rfl ?_ | (refine zQ ?_ ?_ ?_;exact OA;exact OA) | (refine zR ?_ ?_;exact OA) | (refine zI ?_ ?_;exact NA) | (refine zS ?_ ?_ ?_;exact OA;exact OA) | (refine zT ?_ ?_ ?_;exact OA;exact OA) | (refine zU ?_ ?_ ?_;exact OA;exact OA) | (refine zV ?_ ?_ ?_;exact OA;exact OA) | refine PCall.pure (sorts_c _ _) (WkT.refl _) ?_ | refine PCall.pure (sorts_c _ _) cA ?_ | refine PCall.pure (counts_c t OA) (WkT.refl _) ?_ | refine PCall.pure (counts_c t OA) cA ?_ | refine PCall.read (number2_c b level consts codes (size + 1) free ok0 bound tk t scope) (WkT.refl _) ?_ | intro _);conv=>whnf));first | exact PShift.same | exact PShift.lit | exact PShift.ep)) | (refine zW ?_ ?_;exact gA) | refine zH rfl ?_ | refine zA ?_ | refine zI bA ?_ | refine zI rfl ?_ | refine zJ rfl rfl ?_ | refine zB ?_ | refine zK rfl ?_ | refine zL rfl ?_ | refine zC ?_ | (refine zO ?_ ?_ ?_;omega;omega) | (refine zP ?_ ?_ ?_;omega;omega) | refine zM rfl ?_ | (refine zQ ?_ ?_ ?_;omega;omega) | (refine zR ?_ ?_;omega) | (refine zI ?_ ?_;exact nA) | (refine zS ?_ ?_ ?_;omega;omega) | (refine zT ?_ ?_ ?_;omega;omega) | (refine zU ?_ ?_ ?_;omega;omega) | (refine zV ?_ ?_ ?_;omega;omega) | refine PCall.pure (sorts_c _ _) (WkT.refl _) ?_ | refine PCall.pure (sorts_c _ _) cA ?_ | refine PCall.pure (counts_c t OA) (WkT.refl _) ?_ | refine PCall.pure (counts_c t OA) cA ?_ | refine PCall.read (number2_c b level consts codes (size + 1) free ok0 bound tk t scope) (WkT.refl _) ?_ | refine zN rfl rfl rfl ?_ | refine zD ?_ | refine zE ?_ | refine zF ?_ | refine PDraw.sP (some 19) rfl [] [28,29,30] tt_ok mixed ?_ | intro _ | refine zG ?_);conv=>whnf) | (refine zX (fun hc => ?_) (fun hc => ?_)<;>(try simp only [SY] at hc)<;>first | omega | (conv=>whnf)))
    · exact PRet.gen (Wk.refl _) ⟨rfl, size + 1, bound, tk, false, htk, rfl, fun h => (by cases h), fun _ => (by split; rw [hr, if_pos (by simp only [SS]; exact ‹_ ∨ _›)]; rfl)⟩
    · exact PRet.gen (Wk.refl _) ⟨rfl, size + 1, bound, tk, ok0, htk, rfl, fun h => (by rw [h] at hc; simp at hc), fun h => by rw [if_neg (by simp [h])]⟩
    rename_i b2 hgood
    obtain ⟨⟨⟨⟨g1, g2⟩, g3⟩, g4⟩, g5⟩ := hgood
    obtain rfl : ok0 = true := by simpa using hc
    rw [if_pos rfl]
    rw [if_neg (by simp [g3, g4, g5]; omega)] at hr
    refine PCall.go (bind2_c b level consts codes (size + 1) free t.v bound tk htk (by omega)) (WkT.refl _) ?_
    rintro _ _ ⟨rfl, tk2, htk2, rfl⟩
    conv => whnf
    repeat ((first | ((first | (apply zY;intro hg) | apply zZ);focus ((conv=>whnf);(repeat ((first | (refine zW ?_ ?_;exact gA) | refine zH rfl ?_ | refine zA ?_ | refine zI bA ?_ | refine zI rfl ?_ | refine zJ rfl rfl ?_ | refine zB ?_ | refine zK rfl ?_ | refine zL rfl ?_ | refine zC ?_ | (refine zO ?_ ?_ ?_;exact OA;exact OA) | (refine zP ?_ ?_ ?_;exact OA;exact OA) | refine zM rfl ?_ | (refine zQ ?_ ?_ ?_;exact OA;exact OA) | (refine zR ?_ ?_;exact OA) | (refine zI ?_ ?_;exact NA) | (refine zS ?_ ?_ ?_;exact OA;exact OA) | (refine zT ?_ ?_ ?_;exact OA;exact OA) | (refine zU ?_ ?_ ?_;exact OA;exact OA) | (refine zV ?_ ?_ ?_;exact OA;exact OA) | refine PCall.pure (sorts_c _ _) (WkT.refl _) ?_ | refine PCall.pure (sorts_c _ _) cA ?_ | refine PCall.pure (counts_c t OA) (WkT.refl _) ?_ | refine PCall.pure (counts_c t OA) cA ?_ | refine PCall.read (number2_c b level consts codes (size + 1) free ok0 bound tk t scope) (WkT.refl _) ?_ | intro _);conv=>whnf));first | exact PShift.same | exact PShift.lit | exact PShift.ep)) | (refine zW ?_ ?_;exact gA) | refine zH rfl ?_ | refine zA ?_ | refine zI bA ?_ | refine zI rfl ?_ | refine zJ rfl rfl ?_ | refine zB ?_ | refine zK rfl ?_ | refine zL rfl ?_ | refine zC ?_ | (refine zO ?_ ?_ ?_;omega;omega) | (refine zP ?_ ?_ ?_;omega;omega) | refine zM rfl ?_ | (refine zQ ?_ ?_ ?_;omega;omega) | (refine zR ?_ ?_;omega) | (refine zI ?_ ?_;exact nA) | (refine zS ?_ ?_ ?_;omega;omega) | (refine zT ?_ ?_ ?_;omega;omega) | (refine zU ?_ ?_ ?_;omega;omega) | (refine zV ?_ ?_ ?_;omega;omega) | refine PCall.pure (sorts_c _ _) (WkT.refl _) ?_ | refine PCall.pure (sorts_c _ _) cA ?_ | refine PCall.pure (counts_c t OA) (WkT.refl _) ?_ | refine PCall.pure (counts_c t OA) cA ?_ | refine PCall.read (number2_c b level consts codes (size + 1) free ok0 bound tk t scope) (WkT.refl _) ?_ | refine zN rfl rfl rfl ?_ | refine zD ?_ | refine zE ?_ | refine zF ?_ | refine PDraw.sP (some 19) rfl [] [28,29,30] tt_ok mixed ?_ | intro _);conv=>whnf)
    refine PDraw.sE [] [0,2] [5,6] tt_ok mixed ?_
    conv=>whnf
    repeat ((first | ((first | (apply zY;intro hg) | apply zZ);focus ((conv=>whnf);(repeat ((first | (refine zW ?_ ?_;exact gA) | refine zH rfl ?_ | refine zA ?_ | refine zI bA ?_ | refine zI rfl ?_ | refine zJ rfl rfl ?_ | refine zB ?_ | refine zK rfl ?_ | refine zL rfl ?_ | refine zC ?_ | (refine zO ?_ ?_ ?_;exact OA;exact OA) | (refine zP ?_ ?_ ?_;exact OA;exact OA) | refine zM rfl ?_ | (refine zQ ?_ ?_ ?_;exact OA;exact OA) | (refine zR ?_ ?_;exact OA) | (refine zI ?_ ?_;exact NA) | (refine zS ?_ ?_ ?_;exact OA;exact OA) | (refine zT ?_ ?_ ?_;exact OA;exact OA) | (refine zU ?_ ?_ ?_;exact OA;exact OA) | (refine zV ?_ ?_ ?_;exact OA;exact OA) | refine PCall.pure (sorts_c _ _) (WkT.refl _) ?_ | refine PCall.pure (sorts_c _ _) cA ?_ | refine PCall.pure (counts_c t OA) (WkT.refl _) ?_ | refine PCall.pure (counts_c t OA) cA ?_ | refine PCall.read (number2_c b level consts codes (size + 1) free ok0 bound tk t scope) (WkT.refl _) ?_ | intro _);conv=>whnf));first | exact PShift.same | exact PShift.lit | exact PShift.ep)) | (refine zW ?_ ?_;exact gA) | refine zH rfl ?_ | refine zA ?_ | refine zI bA ?_ | refine zI rfl ?_ | refine zJ rfl rfl ?_ | refine zB ?_ | refine zK rfl ?_ | refine zL rfl ?_ | refine zC ?_ | (refine zO ?_ ?_ ?_;omega;omega) | (refine zP ?_ ?_ ?_;omega;omega) | refine zM rfl ?_ | (refine zQ ?_ ?_ ?_;omega;omega) | (refine zR ?_ ?_;omega) | (refine zI ?_ ?_;exact nA) | (refine zS ?_ ?_ ?_;omega;omega) | (refine zT ?_ ?_ ?_;omega;omega) | (refine zU ?_ ?_ ?_;omega;omega) | (refine zV ?_ ?_ ?_;omega;omega) | refine PCall.pure (sorts_c _ _) (WkT.refl _) ?_ | refine PCall.pure (sorts_c _ _) cA ?_ | refine PCall.pure (counts_c t OA) (WkT.refl _) ?_ | refine PCall.pure (counts_c t OA) cA ?_ | refine PCall.read (number2_c b level consts codes (size + 1) free ok0 bound tk t scope) (WkT.refl _) ?_ | refine zN rfl rfl rfl ?_ | refine zD ?_ | refine zE ?_ | refine zF ?_ | refine PDraw.sP (some 19) rfl [] [28,29,30] tt_ok mixed ?_ | intro _);conv=>whnf)
    rename_i t3 ht3
    refine PAppend.list (l := ([] : List Int)) (f := PV.int .i64) ht3 (by simp; omega) (by show _ * 8 ≤ _; simp; omega) ?_
    intro t4 ht4
    conv => whnf
    repeat ((first | ((first | (apply zY;intro hg) | apply zZ);focus ((conv=>whnf);(repeat ((first | (refine zW ?_ ?_;exact gA) | refine zH rfl ?_ | refine zA ?_ | refine zI bA ?_ | refine zI rfl ?_ | refine zJ rfl rfl ?_ | refine zB ?_ | refine zK rfl ?_ | refine zL rfl ?_ | refine zC ?_ | (refine zO ?_ ?_ ?_;exact OA;exact OA) | (refine zP ?_ ?_ ?_;exact OA;exact OA) | refine zM rfl ?_ | (refine zQ ?_ ?_ ?_;exact OA;exact OA) | (refine zR ?_ ?_;exact OA) | (refine zI ?_ ?_;exact NA) | (refine zS ?_ ?_ ?_;exact OA;exact OA) | (refine zT ?_ ?_ ?_;exact OA;exact OA) | (refine zU ?_ ?_ ?_;exact OA;exact OA) | (refine zV ?_ ?_ ?_;exact OA;exact OA) | refine PCall.pure (sorts_c _ _) (WkT.refl _) ?_ | refine PCall.pure (sorts_c _ _) cA ?_ | refine PCall.pure (counts_c t OA) (WkT.refl _) ?_ | refine PCall.pure (counts_c t OA) cA ?_ | refine PCall.read (number2_c b level consts codes (size + 1) free ok0 bound tk t scope) (WkT.refl _) ?_ | intro _);conv=>whnf));first | exact PShift.same | exact PShift.lit | exact PShift.ep)) | (refine zW ?_ ?_;exact gA) | refine zH rfl ?_ | refine zA ?_ | refine zI bA ?_ | refine zI rfl ?_ | refine zJ rfl rfl ?_ | refine zB ?_ | refine zK rfl ?_ | refine zL rfl ?_ | refine zC ?_ | (refine zO ?_ ?_ ?_;omega;omega) | (refine zP ?_ ?_ ?_;omega;omega) | refine zM rfl ?_ | (refine zQ ?_ ?_ ?_;omega;omega) | (refine zR ?_ ?_;omega) | (refine zI ?_ ?_;exact nA) | (refine zS ?_ ?_ ?_;omega;omega) | (refine zT ?_ ?_ ?_;omega;omega) | (refine zU ?_ ?_ ?_;omega;omega) | (refine zV ?_ ?_ ?_;omega;omega) | refine PCall.pure (sorts_c _ _) (WkT.refl _) ?_ | refine PCall.pure (sorts_c _ _) cA ?_ | refine PCall.pure (counts_c t OA) (WkT.refl _) ?_ | refine PCall.pure (counts_c t OA) cA ?_ | refine PCall.read (number2_c b level consts codes (size + 1) free ok0 bound tk t scope) (WkT.refl _) ?_ | refine zN rfl rfl rfl ?_ | refine zD ?_ | refine zE ?_ | refine zF ?_ | refine PDraw.sP (some 19) rfl [] [28,29,30] tt_ok mixed ?_ | intro _);conv=>whnf)
    refine PAppend.list (l := [] ++ scope) (f := PV.int .i64) ht4 (by simp; omega) (by show _ * 8 ≤ _; simp; omega) ?_
    intro t5 ht5
    conv => whnf
    repeat ((first | ((first | (apply zY;intro hg) | apply zZ);focus ((conv=>whnf);(repeat ((first | (refine zW ?_ ?_;exact gA) | refine zH rfl ?_ | refine zA ?_ | refine zI bA ?_ | refine zI rfl ?_ | refine zJ rfl rfl ?_ | refine zB ?_ | refine zK rfl ?_ | refine zL rfl ?_ | refine zC ?_ | (refine zO ?_ ?_ ?_;exact OA;exact OA) | (refine zP ?_ ?_ ?_;exact OA;exact OA) | refine zM rfl ?_ | (refine zQ ?_ ?_ ?_;exact OA;exact OA) | (refine zR ?_ ?_;exact OA) | (refine zI ?_ ?_;exact NA) | (refine zS ?_ ?_ ?_;exact OA;exact OA) | (refine zT ?_ ?_ ?_;exact OA;exact OA) | (refine zU ?_ ?_ ?_;exact OA;exact OA) | (refine zV ?_ ?_ ?_;exact OA;exact OA) | refine PCall.pure (sorts_c _ _) (WkT.refl _) ?_ | refine PCall.pure (sorts_c _ _) cA ?_ | refine PCall.pure (counts_c t OA) (WkT.refl _) ?_ | refine PCall.pure (counts_c t OA) cA ?_ | refine PCall.read (number2_c b level consts codes (size + 1) free ok0 bound tk t scope) (WkT.refl _) ?_ | intro _);conv=>whnf));first | exact PShift.same | exact PShift.lit | exact PShift.ep)) | (refine zW ?_ ?_;exact gA) | refine zH rfl ?_ | refine zA ?_ | refine zI bA ?_ | refine zI rfl ?_ | refine zJ rfl rfl ?_ | refine zB ?_ | refine zK rfl ?_ | refine zL rfl ?_ | refine zC ?_ | (refine zO ?_ ?_ ?_;omega;omega) | (refine zP ?_ ?_ ?_;omega;omega) | refine zM rfl ?_ | (refine zQ ?_ ?_ ?_;omega;omega) | (refine zR ?_ ?_;omega) | (refine zI ?_ ?_;exact nA) | (refine zS ?_ ?_ ?_;omega;omega) | (refine zT ?_ ?_ ?_;omega;omega) | (refine zU ?_ ?_ ?_;omega;omega) | (refine zV ?_ ?_ ?_;omega;omega) | refine PCall.pure (sorts_c _ _) (WkT.refl _) ?_ | refine PCall.pure (sorts_c _ _) cA ?_ | refine PCall.pure (counts_c t OA) (WkT.refl _) ?_ | refine PCall.pure (counts_c t OA) cA ?_ | refine PCall.read (number2_c b level consts codes (size + 1) free ok0 bound tk t scope) (WkT.refl _) ?_ | refine zN rfl rfl rfl ?_ | refine zD ?_ | refine zE ?_ | refine zF ?_ | refine PDraw.sP (some 19) rfl [] [28,29,30] tt_ok mixed ?_ | intro _);conv=>whnf)
    rw [List.nil_append]
    have hbl := bindR_len t.v bound
    refine PLoop.over [9, 10, 11, 68, 69, 70, 71, 72, 73, 74, 75, 76, 77, 78, 79, 80, 81, 82, 83, 84, 85, 86, 87, 88, 89, 90, 91, 92, 93, 94, 95, 96, 97, 98, 99, 100, 101, 102, 103, 104, 105, 106, 107, 108, 109, 110, 111, 112, 113, 114, 115, 116, 117, 118, 119, 120, 121, 122, 123, 124, 125, 126, 127, 128, 129, 130, 131, 132, 133, 134, 135, 136, 137, 138, 139, 140] (fun | ((i, sz, bd, ok, tk') : Nat × Int × List Int × Bool × Tok) => [(9, .int .i64 i)])
      (fun x => [.box b (ckC level consts codes x.2.1 free x.2.2.1 x.2.2.2.2 x.2.2.2.1), .tok x.2.2.2.2, .box b2 [.int .i64 t.op, .int .i64 t.n, .sl 1 (t.v.map (PV.int .i64)) none, .sl 4 (t.t.map Trm.pv) none]])
      (fun | (i, sz, bd, ok, tk') => i ≤ t.t.length ∧ tk'.e = 3 ∧ (ok = true → 0 ≤ sz ∧ sz ≤ 20000 ∧ bd.length + Trm.bulks (t.t.drop i) ≤ 1000000000 ∧ t.ckD level consts codes free scope deep size bound = Trm.cksD level consts codes free t.op scope (scope ++ t.v) (t.t.drop i) (deep + 1) sz bd) ∧
        (ok = false → t.ckD level consts codes free scope deep size bound = none)) (fun | (i, _) => t.t.length - i) (0, size + 1, (bindR t.v bound).2, (bindR t.v bound).1, tk2)
      ⟨by simp, htk2, fun h => ⟨by omega, by omega, by rw [List.drop_zero]; omega, by rw [hr, if_pos h]; rfl⟩, fun h => by rw [hr, if_neg (by simp [h])]⟩ wA ?_
    rintro ⟨i, sz, bd, ok, tk'⟩ ⟨hi, htk', hok, hno⟩
    conv => whnf
    repeat' (first | ((first | ((first | (apply zY;intro hg) | apply zZ);focus ((conv=>whnf);(repeat ((first | (refine zW ?_ ?_;exact gA) | refine zH rfl ?_ | refine zA ?_ | refine zI bA ?_ | refine zI rfl ?_ | refine zJ rfl rfl ?_ | refine zB ?_ | refine zK rfl ?_ | refine zL rfl ?_ | refine zC ?_ | (refine zO ?_ ?_ ?_;exact OA;exact OA) | (refine zP ?_ ?_ ?_;exact OA;exact OA) | refine zM rfl ?_ | (refine zQ ?_ ?_ ?_;exact OA;exact OA) | (refine zR ?_ ?_;exact OA) | (refine zI ?_ ?_;exact NA) | (refine zS ?_ ?_ ?_;exact OA;exact OA) | (refine zT ?_ ?_ ?_;exact OA;exact OA) | (refine zU ?_ ?_ ?_;exact OA;exact OA) | (refine zV ?_ ?_ ?_;exact OA;exact OA) | refine PCall.pure (sorts_c _ _) (WkT.refl _) ?_ | refine PCall.pure (sorts_c _ _) cA ?_ | refine PCall.pure (counts_c t OA) (WkT.refl _) ?_ | refine PCall.pure (counts_c t OA) cA ?_ | refine PCall.read (number2_c b level consts codes (size + 1) free ok0 bound tk t scope) (WkT.refl _) ?_ | intro _);conv=>whnf));first | exact PShift.same | exact PShift.lit | exact PShift.ep)) | (refine zW ?_ ?_;exact gA) | refine zH rfl ?_ | refine zA ?_ | refine zI bA ?_ | refine zI rfl ?_ | refine zJ rfl rfl ?_ | refine zB ?_ | refine zK rfl ?_ | refine zL rfl ?_ | refine zC ?_ | (refine zO ?_ ?_ ?_;omega;omega) | (refine zP ?_ ?_ ?_;omega;omega) | refine zM rfl ?_ | (refine zQ ?_ ?_ ?_;omega;omega) | (refine zR ?_ ?_;omega) | (refine zI ?_ ?_;exact nA) | (refine zS ?_ ?_ ?_;omega;omega) | (refine zT ?_ ?_ ?_;omega;omega) | (refine zU ?_ ?_ ?_;omega;omega) | (refine zV ?_ ?_ ?_;omega;omega) | refine PCall.pure (sorts_c _ _) (WkT.refl _) ?_ | refine PCall.pure (sorts_c _ _) cA ?_ | refine PCall.pure (counts_c t OA) (WkT.refl _) ?_ | refine PCall.pure (counts_c t OA) cA ?_ | refine PCall.read (number2_c b level consts codes (size + 1) free ok0 bound tk t scope) (WkT.refl _) ?_ | refine zN rfl rfl rfl ?_ | refine zD ?_ | refine zE ?_ | refine zF ?_ | refine PDraw.sP (some 19) rfl [] [28,29,30] tt_ok mixed ?_ | intro _ | refine zG ?_);conv=>whnf) | (refine zX (fun hc => ?_) (fun hc => ?_)<;>(try simp only [SY] at hc)<;>first | omega | (conv=>whnf)))
    rotate_right
    · refine PRet.gen (Wk.refl _) ⟨rfl, sz, bd, tk', ok, htk', rfl, fun h => ?_, hno⟩
      obtain ⟨_, _, _, h3⟩ := hok h
      rw [h3, List.drop_of_length_le (by rcases hc with hc | hc; omega; rw [h] at hc; cases hc), Trm.cksD]
    all_goals
      have hlt : i < t.t.length := by omega
      obtain rfl : ok = true := (‹_ ∧ ok = true›).2
      obtain ⟨hz, q1, q2, q3⟩ := hok rfl
      have hbm := Trm.bulks_mem (List.getElem_mem hlt)
      rw [drop_at hlt, Trm.bulks] at q2
    · obtain ⟨k1, k2⟩ := cks_step hlt q3 (t.t[i].op == 19) (scope ++ t.v) (by simp [wantOp, *]; omega) (by rw [if_pos (by omega)])
      refine PCall.go (ih t.t[i] (List.getElem_mem _) sz (deep + 1) bd (scope ++ t.v) (t.t[i].op == 19) tk' htk' hz q1 (by omega) (by omega) (by omega) (by first | omega | (simp; omega))) wA ?_
      rintro _ _ ⟨rfl, s', b', tk2', ok2, h1, rfl, h3, h4⟩
      conv => whnf
      repeat ((first | ((first | (apply zY;intro hg) | apply zZ);focus ((conv=>whnf);(repeat ((first | (refine zW ?_ ?_;exact gA) | refine zH rfl ?_ | refine zA ?_ | refine zI bA ?_ | refine zI rfl ?_ | refine zJ rfl rfl ?_ | refine zB ?_ | refine zK rfl ?_ | refine zL rfl ?_ | refine zC ?_ | (refine zO ?_ ?_ ?_;exact OA;exact OA) | (refine zP ?_ ?_ ?_;exact OA;exact OA) | refine zM rfl ?_ | (refine zQ ?_ ?_ ?_;exact OA;exact OA) | (refine zR ?_ ?_;exact OA) | (refine zI ?_ ?_;exact NA) | (refine zS ?_ ?_ ?_;exact OA;exact OA) | (refine zT ?_ ?_ ?_;exact OA;exact OA) | (refine zU ?_ ?_ ?_;exact OA;exact OA) | (refine zV ?_ ?_ ?_;exact OA;exact OA) | refine PCall.pure (sorts_c _ _) (WkT.refl _) ?_ | refine PCall.pure (sorts_c _ _) cA ?_ | refine PCall.pure (counts_c t OA) (WkT.refl _) ?_ | refine PCall.pure (counts_c t OA) cA ?_ | refine PCall.read (number2_c b level consts codes (size + 1) free ok0 bound tk t scope) (WkT.refl _) ?_ | intro _);conv=>whnf));first | exact PShift.same | exact PShift.lit | exact PShift.ep)) | (refine zW ?_ ?_;exact gA) | refine zH rfl ?_ | refine zA ?_ | refine zI bA ?_ | refine zI rfl ?_ | refine zJ rfl rfl ?_ | refine zB ?_ | refine zK rfl ?_ | refine zL rfl ?_ | refine zC ?_ | (refine zO ?_ ?_ ?_;omega;omega) | (refine zP ?_ ?_ ?_;omega;omega) | refine zM rfl ?_ | (refine zQ ?_ ?_ ?_;omega;omega) | (refine zR ?_ ?_;omega) | (refine zI ?_ ?_;exact nA) | (refine zS ?_ ?_ ?_;omega;omega) | (refine zT ?_ ?_ ?_;omega;omega) | (refine zU ?_ ?_ ?_;omega;omega) | (refine zV ?_ ?_ ?_;omega;omega) | refine PCall.pure (sorts_c _ _) (WkT.refl _) ?_ | refine PCall.pure (sorts_c _ _) cA ?_ | refine PCall.pure (counts_c t OA) (WkT.refl _) ?_ | refine PCall.pure (counts_c t OA) cA ?_ | refine PCall.read (number2_c b level consts codes (size + 1) free ok0 bound tk t scope) (WkT.refl _) ?_ | refine zN rfl rfl rfl ?_ | refine zD ?_ | refine zE ?_ | refine zF ?_ | refine PDraw.sP (some 19) rfl [] [28,29,30] tt_ok mixed ?_ | intro _);conv=>whnf)
      exact loopTo (i + 1, s', b', ok2, tk2') ⟨by omega, h1, fun h => ck_next _ (h3 h) k1 hz (by omega), fun h => k2 (h4 h)⟩ (by show t.t.length - (i + 1) < t.t.length - i; omega) wA
    · obtain ⟨k1, k2⟩ := cks_step hlt q3 (t.t[i].op == 4) (scope ++ t.v) (by simp [wantOp, *]; omega) (by rw [if_pos (by omega)])
      refine PCall.go (ih t.t[i] (List.getElem_mem _) sz (deep + 1) bd (scope ++ t.v) (t.t[i].op == 4) tk' htk' hz q1 (by omega) (by omega) (by omega) (by first | omega | (simp; omega))) wA ?_
      rintro _ _ ⟨rfl, s', b', tk2', ok2, h1, rfl, h3, h4⟩
      conv => whnf
      repeat ((first | ((first | (apply zY;intro hg) | apply zZ);focus ((conv=>whnf);(repeat ((first | (refine zW ?_ ?_;exact gA) | refine zH rfl ?_ | refine zA ?_ | refine zI bA ?_ | refine zI rfl ?_ | refine zJ rfl rfl ?_ | refine zB ?_ | refine zK rfl ?_ | refine zL rfl ?_ | refine zC ?_ | (refine zO ?_ ?_ ?_;exact OA;exact OA) | (refine zP ?_ ?_ ?_;exact OA;exact OA) | refine zM rfl ?_ | (refine zQ ?_ ?_ ?_;exact OA;exact OA) | (refine zR ?_ ?_;exact OA) | (refine zI ?_ ?_;exact NA) | (refine zS ?_ ?_ ?_;exact OA;exact OA) | (refine zT ?_ ?_ ?_;exact OA;exact OA) | (refine zU ?_ ?_ ?_;exact OA;exact OA) | (refine zV ?_ ?_ ?_;exact OA;exact OA) | refine PCall.pure (sorts_c _ _) (WkT.refl _) ?_ | refine PCall.pure (sorts_c _ _) cA ?_ | refine PCall.pure (counts_c t OA) (WkT.refl _) ?_ | refine PCall.pure (counts_c t OA) cA ?_ | refine PCall.read (number2_c b level consts codes (size + 1) free ok0 bound tk t scope) (WkT.refl _) ?_ | intro _);conv=>whnf));first | exact PShift.same | exact PShift.lit | exact PShift.ep)) | (refine zW ?_ ?_;exact gA) | refine zH rfl ?_ | refine zA ?_ | refine zI bA ?_ | refine zI rfl ?_ | refine zJ rfl rfl ?_ | refine zB ?_ | refine zK rfl ?_ | refine zL rfl ?_ | refine zC ?_ | (refine zO ?_ ?_ ?_;omega;omega) | (refine zP ?_ ?_ ?_;omega;omega) | refine zM rfl ?_ | (refine zQ ?_ ?_ ?_;omega;omega) | (refine zR ?_ ?_;omega) | (refine zI ?_ ?_;exact nA) | (refine zS ?_ ?_ ?_;omega;omega) | (refine zT ?_ ?_ ?_;omega;omega) | (refine zU ?_ ?_ ?_;omega;omega) | (refine zV ?_ ?_ ?_;omega;omega) | refine PCall.pure (sorts_c _ _) (WkT.refl _) ?_ | refine PCall.pure (sorts_c _ _) cA ?_ | refine PCall.pure (counts_c t OA) (WkT.refl _) ?_ | refine PCall.pure (counts_c t OA) cA ?_ | refine PCall.read (number2_c b level consts codes (size + 1) free ok0 bound tk t scope) (WkT.refl _) ?_ | refine zN rfl rfl rfl ?_ | refine zD ?_ | refine zE ?_ | refine zF ?_ | refine PDraw.sP (some 19) rfl [] [28,29,30] tt_ok mixed ?_ | intro _);conv=>whnf)
      exact loopTo (i + 1, s', b', ok2, tk2') ⟨by omega, h1, fun h => ck_next _ (h3 h) k1 hz (by omega), fun h => k2 (h4 h)⟩ (by show t.t.length - (i + 1) < t.t.length - i; omega) wA
    · obtain ⟨k1, k2⟩ := cks_step hlt q3 true (scope ++ t.v) ⟨fun _ hh => (by omega), fun _ => rfl⟩ (by rw [if_pos (by omega)])
      refine PCall.go (ih t.t[i] (List.getElem_mem _) sz (deep + 1) bd (scope ++ t.v) (true) tk' htk' hz q1 (by omega) (by omega) (by omega) (by first | omega | (simp; omega))) wA ?_
      rintro _ _ ⟨rfl, s', b', tk2', ok2, h1, rfl, h3, h4⟩
      conv => whnf
      repeat ((first | ((first | (apply zY;intro hg) | apply zZ);focus ((conv=>whnf);(repeat ((first | (refine zW ?_ ?_;exact gA) | refine zH rfl ?_ | refine zA ?_ | refine zI bA ?_ | refine zI rfl ?_ | refine zJ rfl rfl ?_ | refine zB ?_ | refine zK rfl ?_ | refine zL rfl ?_ | refine zC ?_ | (refine zO ?_ ?_ ?_;exact OA;exact OA) | (refine zP ?_ ?_ ?_;exact OA;exact OA) | refine zM rfl ?_ | (refine zQ ?_ ?_ ?_;exact OA;exact OA) | (refine zR ?_ ?_;exact OA) | (refine zI ?_ ?_;exact NA) | (refine zS ?_ ?_ ?_;exact OA;exact OA) | (refine zT ?_ ?_ ?_;exact OA;exact OA) | (refine zU ?_ ?_ ?_;exact OA;exact OA) | (refine zV ?_ ?_ ?_;exact OA;exact OA) | refine PCall.pure (sorts_c _ _) (WkT.refl _) ?_ | refine PCall.pure (sorts_c _ _) cA ?_ | refine PCall.pure (counts_c t OA) (WkT.refl _) ?_ | refine PCall.pure (counts_c t OA) cA ?_ | refine PCall.read (number2_c b level consts codes (size + 1) free ok0 bound tk t scope) (WkT.refl _) ?_ | intro _);conv=>whnf));first | exact PShift.same | exact PShift.lit | exact PShift.ep)) | (refine zW ?_ ?_;exact gA) | refine zH rfl ?_ | refine zA ?_ | refine zI bA ?_ | refine zI rfl ?_ | refine zJ rfl rfl ?_ | refine zB ?_ | refine zK rfl ?_ | refine zL rfl ?_ | refine zC ?_ | (refine zO ?_ ?_ ?_;omega;omega) | (refine zP ?_ ?_ ?_;omega;omega) | refine zM rfl ?_ | (refine zQ ?_ ?_ ?_;omega;omega) | (refine zR ?_ ?_;omega) | (refine zI ?_ ?_;exact nA) | (refine zS ?_ ?_ ?_;omega;omega) | (refine zT ?_ ?_ ?_;omega;omega) | (refine zU ?_ ?_ ?_;omega;omega) | (refine zV ?_ ?_ ?_;omega;omega) | refine PCall.pure (sorts_c _ _) (WkT.refl _) ?_ | refine PCall.pure (sorts_c _ _) cA ?_ | refine PCall.pure (counts_c t OA) (WkT.refl _) ?_ | refine PCall.pure (counts_c t OA) cA ?_ | refine PCall.read (number2_c b level consts codes (size + 1) free ok0 bound tk t scope) (WkT.refl _) ?_ | refine zN rfl rfl rfl ?_ | refine zD ?_ | refine zE ?_ | refine zF ?_ | refine PDraw.sP (some 19) rfl [] [28,29,30] tt_ok mixed ?_ | intro _);conv=>whnf)
      exact loopTo (i + 1, s', b', ok2, tk2') ⟨by omega, h1, fun h => ck_next _ (h3 h) k1 hz (by omega), fun h => k2 (h4 h)⟩ (by show t.t.length - (i + 1) < t.t.length - i; omega) wA
    · obtain ⟨k1, k2⟩ := cks_step hlt q3 true scope ⟨fun _ hh => (by omega), fun _ => rfl⟩ (by rw [if_neg (by omega)])
      refine PCall.go (ih t.t[i] (List.getElem_mem _) sz (deep + 1) bd (scope) (true) tk' htk' hz q1 (by omega) (by omega) (by omega) (by first | omega | (simp; omega))) wA ?_
      rintro _ _ ⟨rfl, s', b', tk2', ok2, h1, rfl, h3, h4⟩
      conv => whnf
      repeat ((first | ((first | (apply zY;intro hg) | apply zZ);focus ((conv=>whnf);(repeat ((first | (refine zW ?_ ?_;exact gA) | refine zH rfl ?_ | refine zA ?_ | refine zI bA ?_ | refine zI rfl ?_ | refine zJ rfl rfl ?_ | refine zB ?_ | refine zK rfl ?_ | refine zL rfl ?_ | refine zC ?_ | (refine zO ?_ ?_ ?_;exact OA;exact OA) | (refine zP ?_ ?_ ?_;exact OA;exact OA) | refine zM rfl ?_ | (refine zQ ?_ ?_ ?_;exact OA;exact OA) | (refine zR ?_ ?_;exact OA) | (refine zI ?_ ?_;exact NA) | (refine zS ?_ ?_ ?_;exact OA;exact OA) | (refine zT ?_ ?_ ?_;exact OA;exact OA) | (refine zU ?_ ?_ ?_;exact OA;exact OA) | (refine zV ?_ ?_ ?_;exact OA;exact OA) | refine PCall.pure (sorts_c _ _) (WkT.refl _) ?_ | refine PCall.pure (sorts_c _ _) cA ?_ | refine PCall.pure (counts_c t OA) (WkT.refl _) ?_ | refine PCall.pure (counts_c t OA) cA ?_ | refine PCall.read (number2_c b level consts codes (size + 1) free ok0 bound tk t scope) (WkT.refl _) ?_ | intro _);conv=>whnf));first | exact PShift.same | exact PShift.lit | exact PShift.ep)) | (refine zW ?_ ?_;exact gA) | refine zH rfl ?_ | refine zA ?_ | refine zI bA ?_ | refine zI rfl ?_ | refine zJ rfl rfl ?_ | refine zB ?_ | refine zK rfl ?_ | refine zL rfl ?_ | refine zC ?_ | (refine zO ?_ ?_ ?_;omega;omega) | (refine zP ?_ ?_ ?_;omega;omega) | refine zM rfl ?_ | (refine zQ ?_ ?_ ?_;omega;omega) | (refine zR ?_ ?_;omega) | (refine zI ?_ ?_;exact nA) | (refine zS ?_ ?_ ?_;omega;omega) | (refine zT ?_ ?_ ?_;omega;omega) | (refine zU ?_ ?_ ?_;omega;omega) | (refine zV ?_ ?_ ?_;omega;omega) | refine PCall.pure (sorts_c _ _) (WkT.refl _) ?_ | refine PCall.pure (sorts_c _ _) cA ?_ | refine PCall.pure (counts_c t OA) (WkT.refl _) ?_ | refine PCall.pure (counts_c t OA) cA ?_ | refine PCall.read (number2_c b level consts codes (size + 1) free ok0 bound tk t scope) (WkT.refl _) ?_ | refine zN rfl rfl rfl ?_ | refine zD ?_ | refine zE ?_ | refine zF ?_ | refine PDraw.sP (some 19) rfl [] [28,29,30] tt_ok mixed ?_ | intro _);conv=>whnf)
      exact loopTo (i + 1, s', b', ok2, tk2') ⟨by omega, h1, fun h => ck_next _ (h3 h) k1 hz (by omega), fun h => k2 (h4 h)⟩ (by show t.t.length - (i + 1) < t.t.length - i; omega) wA
end Go.Cb
namespace Go.Cb
open Go.Proofs
set_option maxRecDepth 100000
set_option maxHeartbeats 4000000
structure Prog where
  consts : List Datum
  body : Trm
def Prog.cells (p : Prog) : List PV := .sl 5 (p.consts.map Datum.pv) none :: p.body.cells
def checkD (p : Prog) (level : Int) : Int :=
  if (decide (level < 0) || decide (level > 2)) = true then 1 else
  if (p.consts.all (fun d => d.rightD 0) && (p.body.ckD level p.consts.length 0 false [] 0 0 []).isSome) = true then 0 else 5
theorem check2_c (p : Prog) (level : Int) (hb : p.body.bulk ≤ 1000000000) (hl : p.consts.length ≤ 1000000000) : ACallP Tryz.prog 57 [.agg p.cells, .int .i64 level] (.int .i64 (checkD p level)) := by
  have hs : checkD p level = checkD p level := rfl
  conv at hs => rhs; unfold checkD
  refine ACall.of_body tt_ok Tryz.func57 rfl rfl (n := 34) rfl rfl ?_
  conv => whnf
  repeat ((first | ((first | (apply zY;intro hg) | apply zZ);focus ((conv=>whnf);(repeat ((first | (refine zW ?_ ?_;exact gA) | refine zH rfl ?_ | refine zA ?_ | refine zI bA ?_ | refine zI rfl ?_ | refine zJ rfl rfl ?_ | refine zB ?_ | refine zK rfl ?_ | refine zL rfl ?_ | refine zC ?_ | (refine zO ?_ ?_ ?_;exact OA;exact OA) | (refine zP ?_ ?_ ?_;exact OA;exact OA) | refine zM rfl ?_ | (refine zQ ?_ ?_ ?_;exact OA;exact OA) | (refine zR ?_ ?_;exact OA) | (refine zI ?_ ?_;exact NA) | (refine zS ?_ ?_ ?_;exact OA;exact OA) | (refine zT ?_ ?_ ?_;exact OA;exact OA) | (refine zU ?_ ?_ ?_;exact OA;exact OA) | (refine zV ?_ ?_ ?_;exact OA;exact OA) | refine PCall.pure (constants2_c _) (WkT.refl _) ?_ | refine PCall.pure (constants2_c _) cA ?_ | intro _);conv=>whnf));first | exact PShift.same | exact PShift.lit | exact PShift.ep)) | (refine zW ?_ ?_;exact gA) | refine zH rfl ?_ | refine zA ?_ | refine zI bA ?_ | refine zI rfl ?_ | refine zJ rfl rfl ?_ | refine zB ?_ | refine zK rfl ?_ | refine zL rfl ?_ | refine zC ?_ | (refine zO ?_ ?_ ?_;omega;omega) | (refine zP ?_ ?_ ?_;omega;omega) | refine zM rfl ?_ | (refine zQ ?_ ?_ ?_;omega;omega) | (refine zR ?_ ?_;omega) | (refine zI ?_ ?_;exact nA) | (refine zS ?_ ?_ ?_;omega;omega) | (refine zT ?_ ?_ ?_;omega;omega) | (refine zU ?_ ?_ ?_;omega;omega) | (refine zV ?_ ?_ ?_;omega;omega) | refine PCall.pure (constants2_c _) (WkT.refl _) ?_ | refine PCall.pure (constants2_c _) cA ?_ | refine zN rfl rfl rfl ?_ | refine zD ?_ | refine zE ?_ | refine zF ?_ | refine PDraw.sP (some 12) rfl [] [8,9] tt_ok mixed ?_ | intro _);conv=>whnf)
  conv => whnf
  repeat' (first | ((first | ((first | (apply zY;intro hg) | apply zZ);focus ((conv=>whnf);(repeat ((first | (refine zW ?_ ?_;exact gA) | refine zH rfl ?_ | refine zA ?_ | refine zI bA ?_ | refine zI rfl ?_ | refine zJ rfl rfl ?_ | refine zB ?_ | refine zK rfl ?_ | refine zL rfl ?_ | refine zC ?_ | (refine zO ?_ ?_ ?_;exact OA;exact OA) | (refine zP ?_ ?_ ?_;exact OA;exact OA) | refine zM rfl ?_ | (refine zQ ?_ ?_ ?_;exact OA;exact OA) | (refine zR ?_ ?_;exact OA) | (refine zI ?_ ?_;exact NA) | (refine zS ?_ ?_ ?_;exact OA;exact OA) | (refine zT ?_ ?_ ?_;exact OA;exact OA) | (refine zU ?_ ?_ ?_;exact OA;exact OA) | (refine zV ?_ ?_ ?_;exact OA;exact OA) | refine PCall.pure (constants2_c _) (WkT.refl _) ?_ | refine PCall.pure (constants2_c _) cA ?_ | intro _);conv=>whnf));first | exact PShift.same | exact PShift.lit | exact PShift.ep)) | (refine zW ?_ ?_;exact gA) | refine zH rfl ?_ | refine zA ?_ | refine zI bA ?_ | refine zI rfl ?_ | refine zJ rfl rfl ?_ | refine zB ?_ | refine zK rfl ?_ | refine zL rfl ?_ | refine zC ?_ | (refine zO ?_ ?_ ?_;omega;omega) | (refine zP ?_ ?_ ?_;omega;omega) | refine zM rfl ?_ | (refine zQ ?_ ?_ ?_;omega;omega) | (refine zR ?_ ?_;omega) | (refine zI ?_ ?_;exact nA) | (refine zS ?_ ?_ ?_;omega;omega) | (refine zT ?_ ?_ ?_;omega;omega) | (refine zU ?_ ?_ ?_;omega;omega) | (refine zV ?_ ?_ ?_;omega;omega) | refine PCall.pure (constants2_c _) (WkT.refl _) ?_ | refine PCall.pure (constants2_c _) cA ?_ | refine zN rfl rfl rfl ?_ | refine zD ?_ | refine zE ?_ | refine zF ?_ | refine PDraw.sP (some 12) rfl [] [8,9] tt_ok mixed ?_ | intro _ | refine zG ?_);conv=>whnf) | (refine zX (fun hc => ?_) (fun hc => ?_)<;>(try simp only [SY] at hc)<;>first | omega | (conv=>whnf)))
  · rw [hs, if_pos (by simp only [SS]; exact hc)]
    exact PRet.pure (Wk.refl _)
  · rename_i b1 b2
    refine PCall.goG (Ghost.trans (Ghost.nil 1 3 _) (Ghost.box (b := b2) (cs := [.int .i64 level, .int .i64 p.consts.length, .int .i64 0, .bfalse, .int .i64 0, .nil, .bool (p.consts.all fun d => d.rightD 0)]) (cs' := ckC level p.consts.length 0 0 false [] (nilTok 1 3) (p.consts.all fun d => d.rightD 0)) wA))
      (term2_c b2 level p.consts.length 0 false p.body 0 0 [] [] (p.consts.all fun d => d.rightD 0) (nilTok 1 3) rfl (by omega) (by omega) (by omega) (by omega) (by simp; omega) (by simp; omega)) wA ?_
    rintro _ _ ⟨rfl, s', b', tk, ok, h1, rfl, h3, h4⟩
    rw [hc] at h3 h4
    simp only [if_true] at h3 h4
    conv => whnf
    repeat' (first | ((first | ((first | (apply zY;intro hg) | apply zZ);focus ((conv=>whnf);(repeat ((first | (refine zW ?_ ?_;exact gA) | refine zH rfl ?_ | refine zA ?_ | refine zI bA ?_ | refine zI rfl ?_ | refine zJ rfl rfl ?_ | refine zB ?_ | refine zK rfl ?_ | refine zL rfl ?_ | refine zC ?_ | (refine zO ?_ ?_ ?_;exact OA;exact OA) | (refine zP ?_ ?_ ?_;exact OA;exact OA) | refine zM rfl ?_ | (refine zQ ?_ ?_ ?_;exact OA;exact OA) | (refine zR ?_ ?_;exact OA) | (refine zI ?_ ?_;exact NA) | (refine zS ?_ ?_ ?_;exact OA;exact OA) | (refine zT ?_ ?_ ?_;exact OA;exact OA) | (refine zU ?_ ?_ ?_;exact OA;exact OA) | (refine zV ?_ ?_ ?_;exact OA;exact OA) | refine PCall.pure (constants2_c _) (WkT.refl _) ?_ | refine PCall.pure (constants2_c _) cA ?_ | intro _);conv=>whnf));first | exact PShift.same | exact PShift.lit | exact PShift.ep)) | (refine zW ?_ ?_;exact gA) | refine zH rfl ?_ | refine zA ?_ | refine zI bA ?_ | refine zI rfl ?_ | refine zJ rfl rfl ?_ | refine zB ?_ | refine zK rfl ?_ | refine zL rfl ?_ | refine zC ?_ | (refine zO ?_ ?_ ?_;omega;omega) | (refine zP ?_ ?_ ?_;omega;omega) | refine zM rfl ?_ | (refine zQ ?_ ?_ ?_;omega;omega) | (refine zR ?_ ?_;omega) | (refine zI ?_ ?_;exact nA) | (refine zS ?_ ?_ ?_;omega;omega) | (refine zT ?_ ?_ ?_;omega;omega) | (refine zU ?_ ?_ ?_;omega;omega) | (refine zV ?_ ?_ ?_;omega;omega) | refine PCall.pure (constants2_c _) (WkT.refl _) ?_ | refine PCall.pure (constants2_c _) cA ?_ | refine zN rfl rfl rfl ?_ | refine zD ?_ | refine zE ?_ | refine zF ?_ | refine PDraw.sP (some 12) rfl [] [8,9] tt_ok mixed ?_ | intro _ | refine zG ?_);conv=>whnf) | (refine zX (fun hc => ?_) (fun hc => ?_)<;>(try simp only [SY] at hc)<;>first | omega | (conv=>whnf)))
    · rw [hs, if_neg (by simp only [SS]; omega), if_neg (by rw [h4 hc]; simp)]
      exact PRet.pure (Wk.refl _)
    · rw [hs, if_neg (by simp only [SS]; omega), if_pos (by rw [h3 hc]; simp [*])]
      exact PRet.pure (Wk.refl _)
  · rw [hs, if_neg (by simp only [SS]; omega), if_neg (by simp [*])]
    exact PRet.pure (Wk.refl _)
  · rename_i hx; rw [hc] at hx; cases hx
end Go.Cb
namespace Go.Cb
open Go.Proofs
set_option maxRecDepth 100000
set_option maxHeartbeats 4000000
def Dist (l bound : List Int) : Prop := (∀ x ∈ l, 0 ≤ x ∧ x ≤ 1000000 ∧ x ∉ bound) ∧ l.Nodup
theorem Dist.congr {l b c : List Int} (h : ∀ x, x ∈ b ↔ x ∈ c) : Dist l b ↔ Dist l c := by
  unfold Dist
  simp only [h]
theorem Dist.perm {l m b : List Int} (h : l.Perm m) : Dist l b ↔ Dist m b := by
  unfold Dist
  rw [h.nodup_iff]
  simp only [h.mem_iff]
theorem Dist.append {l m b c : List Int} (h : ∀ x, x ∈ c ↔ x ∈ b ∨ x ∈ l) : Dist (l ++ m) b ↔ Dist l b ∧ Dist m c := by
  unfold Dist
  simp only [List.mem_append, List.nodup_append, h]
  constructor
  · rintro ⟨h1, h2, h3, h4⟩
    exact ⟨⟨fun x hx => h1 x (.inl hx), h2⟩, fun x hx => ⟨(h1 x (.inr hx)).1, (h1 x (.inr hx)).2.1, by rintro (h | h); exact (h1 x (.inr hx)).2.2 h; exact h4 x h x hx rfl⟩, h3⟩
  · rintro ⟨⟨h1, h2⟩, h3, h4⟩
    refine ⟨?_, h2, h4, ?_⟩
    · rintro x (hx | hx)
      · exact h1 x hx
      · exact ⟨(h3 x hx).1, (h3 x hx).2.1, fun h => (h3 x hx).2.2 (.inl h)⟩
    · rintro x hx y hy rfl
      exact (h3 x hy).2.2 (.inr hx)
def Sp (r : Option (Int × List Int)) (c : Prop) (n : Int) (V : List Int) (size : Int) (bound : List Int) : Prop :=
  (r = none ∧ ¬(c ∧ size + n ≤ 20000 ∧ Dist V bound)) ∨ (∃ b, r = some (size + n, b) ∧ (c ∧ size + n ≤ 20000 ∧ Dist V bound) ∧ ∀ x, x ∈ b ↔ x ∈ bound ∨ x ∈ V)
theorem Sp.some_iff {r c n V size bound} (h : Sp r c n V size bound) : r.isSome = true ↔ (c ∧ size + n ≤ 20000 ∧ Dist V bound) := by
  rcases h with ⟨rfl, h⟩ | ⟨b, rfl, h, _⟩
  · simpa using h
  · simpa using h
theorem Sp.iff {r c c' n V size bound} (h : Sp r c n V size bound) (hc : c ↔ c') : Sp r c' n V size bound := by
  unfold Sp at h ⊢; rwa [hc] at h
theorem Sp.perm {r c n V W size bound} (h : Sp r c n V size bound) (hp : V.Perm W) : Sp r c n W size bound := by
  unfold Sp at h ⊢; simpa only [Dist.perm hp, hp.mem_iff] using h
theorem Sp.nil {size : Int} {bound : List Int} (h : size ≤ 20000) : Sp (some (size, bound)) True 0 [] size bound :=
  .inr ⟨bound, by simp, ⟨trivial, by omega, by simp [Dist]⟩, by simp⟩
theorem Sp.test {r c n V size bound} {p : Prop} [Decidable p] (h : ¬p → Sp r c n V size bound) : Sp (if p then none else r) (¬p ∧ c) n V size bound := by
  by_cases hp : p
  · rw [if_pos hp]; exact .inl ⟨rfl, fun h => h.1.1 hp⟩
  · rw [if_neg hp]; exact (h hp).iff (by simp [hp])
theorem Sp.seq {r1 : Option (Int × List Int)} {f : Int → List Int → Option (Int × List Int)} {c1 c2 : Prop} {n1 n2 : Int} {V1 V2 : List Int} {size : Int} {bound : List Int} (h1 : Sp r1 c1 n1 V1 size bound) (hn : 0 ≤ n2)
    (h2 : ∀ b, size + n1 ≤ 20000 → Sp (f (size + n1) b) c2 n2 V2 (size + n1) b) : Sp (match (generalizing := false) r1 with | none => none | some (s, b) => f s b) (c1 ∧ c2) (n1 + n2) (V1 ++ V2) size bound := by
  rcases h1 with ⟨rfl, h⟩ | ⟨b, rfl, ⟨k1, k2, k3⟩, hb⟩
  · exact .inl ⟨rfl, fun ⟨⟨g1, g2⟩, g3, g4⟩ => h ⟨g1, by omega, ((Dist.append (c := bound ++ V1) (by simp)).1 g4).1⟩⟩
  · rcases h2 b k2 with ⟨e, h⟩ | ⟨b', e, ⟨g1, g2, g3⟩, hb'⟩
    · exact .inl ⟨e, fun ⟨⟨g1, g2⟩, g3, g4⟩ => h ⟨g2, by omega, ((Dist.append hb).1 g4).2⟩⟩
    · exact .inr ⟨b', by rw [← Int.add_assoc]; exact e, ⟨⟨k1, g1⟩, by omega, (Dist.append hb).2 ⟨k3, g3⟩⟩, fun x => by rw [hb', hb, List.mem_append, or_assoc]⟩
theorem bindR_dist : ∀ (l bound : List Int), (bindR l bound).1 = true ↔ Dist l bound
  | [], bound => by simp [bindR, Dist]
  | v :: l, bound => by
    rw [bindR]
    split
    · rename_i hv
      rw [bindR_dist l, show v :: l = [v] ++ l from rfl, Dist.append (l := [v]) (c := bound ++ [v]) (by simp)]
      simp [vOk] at hv
      simp [Dist]
      intro _ _
      exact ⟨by omega, by omega, hv.2⟩
    · rename_i hv
      simp only [Bool.false_eq_true, false_iff]
      rintro ⟨h, _⟩
      have := h v (by simp)
      apply hv
      simp [vOk]
      exact ⟨by omega, this.2.2⟩
theorem bindR_snd : ∀ (l bound : List Int), (bindR l bound).1 = true → (bindR l bound).2 = bound ++ l
  | [], bound, _ => by simp [bindR]
  | v :: l, bound, h => by
    rw [bindR] at h ⊢
    split at h
    · rename_i hv
      rw [if_pos hv, bindR_snd l _ h]; simp
    · cases h
theorem Sp.bind {v bound : List Int} {size : Int} {r : Option (Int × List Int)} {c : Prop} {n : Int} {V : List Int} (h : (bindR v bound).1 = true → Sp r c n V size (bound ++ v)) : Sp (if (bindR v bound).1 = true then r else none) c n (v ++ V) size bound := by
  have ha : Dist (v ++ V) bound ↔ Dist v bound ∧ Dist V (bound ++ v) := Dist.append (by simp)
  by_cases hb : (bindR v bound).1 = true
  · have hd := (bindR_dist _ _).1 hb
    rw [if_pos hb]
    rcases h hb with ⟨rfl, hh⟩ | ⟨b, rfl, ⟨k1, k2, k3⟩, hm⟩
    · exact .inl ⟨rfl, fun ⟨g1, g2, g3⟩ => hh ⟨g1, g2, (ha.1 g3).2⟩⟩
    · exact .inr ⟨b, rfl, ⟨k1, k2, ha.2 ⟨hd, k3⟩⟩, fun x => by rw [hm, List.mem_append, List.mem_append, or_assoc]⟩
  · rw [if_neg hb]
    exact .inl ⟨rfl, fun ⟨_, _, g3⟩ => hb ((bindR_dist _ _).2 (ha.1 g3).1)⟩
theorem Sp.tick {r c n V size bound} (hn : 0 ≤ n) (h : size + 1 ≤ 20000 → Sp r c n V (size + 1) bound) : Sp (if size + 1 > 20000 then none else r) c (1 + n) V size bound := by
  split
  · exact .inl ⟨rfl, fun ⟨_, h, _⟩ => by omega⟩
  · rcases h (by omega) with ⟨rfl, hh⟩ | ⟨b, rfl, k, hm⟩
    · exact .inl ⟨rfl, fun ⟨g1, g2, g3⟩ => hh ⟨g1, by omega, g3⟩⟩
    · exact .inr ⟨b, by rw [← Int.add_assoc], ⟨k.1, by omega, k.2.2⟩, hm⟩
mutual
def Trm.cnt : Trm → Int
  | .mk _ _ _ t => 1 + Trm.cnts t
def Trm.cnts : List Trm → Int
  | [] => 0
  | x :: xs => Trm.cnt x + Trm.cnts xs
end
mutual
def Trm.vars : Trm → List Int
  | .mk _ _ v t => v ++ Trm.varss t
def Trm.varss : List Trm → List Int
  | [] => []
  | x :: xs => Trm.vars x ++ Trm.varss xs
end
theorem Trm.cnt_eq (t : Trm) : t.cnt = 1 + Trm.cnts t.t := by cases t; rfl
theorem Trm.vars_eq (t : Trm) : t.vars = t.v ++ Trm.varss t.t := by cases t; rfl
theorem Trm.cnt_pos (t : Trm) : 1 ≤ t.cnt := by
  induction t using Trm.ind with
  | h t ih =>
    rw [Trm.cnt_eq]
    have : ∀ l : List Trm, (∀ x ∈ l, 1 ≤ x.cnt) → 0 ≤ Trm.cnts l := by
      intro l
      induction l with
      | nil => intro _; rw [Trm.cnts]; omega
      | cons y l ih => intro h; rw [Trm.cnts]; have := h y (by simp); have := ih fun x hx => h x (by simp [hx]); omega
    have := this t.t ih
    omega
theorem Trm.cnts_pos : ∀ l : List Trm, 0 ≤ Trm.cnts l
  | [] => by rw [Trm.cnts]; omega
  | x :: l => by rw [Trm.cnts]; have := x.cnt_pos; have := Trm.cnts_pos l; omega
mutual
def Trm.okT (level consts codes : Int) (free : Bool) : Trm → List Int → Int → Prop
  | .mk op n v t, scope, deep => (deep ≤ 400 ∧ sortsL op level = true ∧ countsL (.mk op n v t) = true ∧ numberL consts codes free (.mk op n v t) scope = true) ∧ Trm.okTs level consts codes free op scope (scope ++ v) t (deep + 1)
def Trm.okTs (level consts codes : Int) (free : Bool) (op : Int) (scope inner : List Int) : List Trm → Int → Prop
  | [], _ => True
  | x :: xs, deep => (¬(op = 9 ∧ xs ≠ [] ∧ x.op ≠ wantOp level)) ∧ Trm.okT level consts codes free x (if xs = [] ∨ op = 7 ∨ op = 9 then inner else scope) deep ∧ Trm.okTs level consts codes free op scope inner xs deep
end
theorem Trm.okT_eq (level consts codes : Int) (free : Bool) (t : Trm) (scope : List Int) (deep : Int) : t.okT level consts codes free scope deep ↔
    (deep ≤ 400 ∧ sortsL t.op level = true ∧ countsL t = true ∧ numberL consts codes free t scope = true) ∧ Trm.okTs level consts codes free t.op scope (scope ++ t.v) t.t (deep + 1) := by cases t; rw [Trm.okT]; rfl
theorem Trm.ckD_sp (level consts codes : Int) (free : Bool) (t : Trm) : ∀ (scope : List Int) (deep size : Int) (bound : List Int), Sp (t.ckD level consts codes free scope deep size bound) (t.okT level consts codes free scope deep) t.cnt t.vars size bound := by
  induction t using Trm.ind with
  | h t ih =>
    intro scope deep size bound
    have key : ∀ l : List Trm, (∀ y ∈ l, ∀ (scope : List Int) (deep size : Int) (bound : List Int), Sp (y.ckD level consts codes free scope deep size bound) (y.okT level consts codes free scope deep) y.cnt y.vars size bound) →
        ∀ (deep size : Int) (bound : List Int), size ≤ 20000 → Sp (Trm.cksD level consts codes free t.op scope (scope ++ t.v) l deep size bound) (Trm.okTs level consts codes free t.op scope (scope ++ t.v) l deep) (Trm.cnts l) (Trm.varss l) size bound := by
      intro l
      induction l with
      | nil => intro _ deep size bound h; rw [Trm.cksD, Trm.okTs, Trm.cnts, Trm.varss]; exact Sp.nil h
      | cons x l ihl =>
        intro hy deep size bound h
        rw [Trm.cksD, Trm.okTs, Trm.cnts, Trm.varss]
        exact Sp.test fun _ => Sp.seq (hy x (by simp) _ _ _ _) (Trm.cnts_pos l) fun b hb => ihl (fun y hh => hy y (by simp [hh])) _ _ _ hb
    rw [Trm.ckD_eq, Trm.cnt_eq, Trm.vars_eq, Trm.okT_eq]
    have h1 : (if (decide (deep > 400) || decide (size + 1 > 20000) || !sortsL t.op level || !countsL t || !numberL consts codes free t scope) = true then none else
        if (bindR t.v bound).1 = true then Trm.cksD level consts codes free t.op scope (scope ++ t.v) t.t (deep + 1) (size + 1) (bindR t.v bound).2 else none) =
        (if ¬(deep ≤ 400 ∧ sortsL t.op level = true ∧ countsL t = true ∧ numberL consts codes free t scope = true) then none else if size + 1 > 20000 then none else
        if (bindR t.v bound).1 = true then Trm.cksD level consts codes free t.op scope (scope ++ t.v) t.t (deep + 1) (size + 1) (bound ++ t.v) else none) := by
      by_cases a : deep ≤ 400 ∧ sortsL t.op level = true ∧ countsL t = true ∧ numberL consts codes free t scope = true
      · rw [if_neg (c := ¬ _) (by simpa using a)]
        by_cases b : size + 1 > 20000
        · rw [if_pos b, if_pos (by simp [b])]
        · rw [if_neg b, if_neg (by simp [a]; omega)]
          split
          · rename_i hb; rw [bindR_snd _ _ hb]
          · rfl
      · rw [if_pos (c := ¬ _) a, if_pos]
        simp only [Bool.or_eq_true, decide_eq_true_eq, Bool.not_eq_true']
        apply Classical.byContradiction
        intro h
        apply a
        simp only [not_or, Bool.not_eq_false] at h
        exact ⟨by omega, h.1.1.2, h.1.2, h.2⟩
    rw [h1]
    refine (Sp.test fun _ => Sp.tick (Trm.cnts_pos _) fun hs => Sp.bind fun _ => key t.t ih _ _ _ hs).iff ?_
    rw [Classical.not_not]
theorem numberP_eq (consts codes : Int) (free : Bool) (t : Trm) (scope : List Int) : numberP consts codes free t scope = numberL consts codes free t scope := by
  unfold numberP numberL
  split; rfl
  split; rfl
  split
  · rw [Bool.eq_iff_iff]; simp; omega
  · rfl
theorem shape_eq (level : Int) (h0 : 0 ≤ level) (h3 : level ≤ 3) (t : Trm) :
    ((shapeL t.op).2 = true ∧ (shapeL t.op).1.fm ≤ level ∧ level ≤ (shapeL t.op).1.to ∧ fitsL (shapeL t.op).1 t = true) ↔ (sortsL t.op level = true ∧ countsL t = true) := by
  have hc : t.op < 0 ∨ t.op > 22 ∨ t.op = 0 ∨ t.op = 1 ∨ t.op = 2 ∨ t.op = 3 ∨ t.op = 4 ∨ t.op = 5 ∨ t.op = 6 ∨ t.op = 7 ∨ t.op = 8 ∨ t.op = 9 ∨ t.op = 10 ∨ t.op = 11 ∨ t.op = 12 ∨ t.op = 13 ∨ t.op = 14 ∨ t.op = 15 ∨ t.op = 16 ∨ t.op = 17 ∨ t.op = 18 ∨ t.op = 19 ∨ t.op = 20 ∨ t.op = 21 ∨ t.op = 22 := by omega
  rcases hc with h | h | h | h | h | h | h | h | h | h | h | h | h | h | h | h | h | h | h | h | h | h | h | h | h
  · have e : shapeL t.op = (⟨0, 0, 0, false, false⟩, false) := by unfold shapeL; repeat rw [if_neg (by omega)]
    have e2 : sortsL t.op level = false := by unfold sortsL; repeat rw [if_neg (by omega)]
    simp [e, e2]
  · have e : shapeL t.op = (⟨0, 0, 0, false, false⟩, false) := by unfold shapeL; repeat rw [if_neg (by omega)]
    have e2 : sortsL t.op level = false := by unfold sortsL; repeat rw [if_neg (by omega)]
    simp [e, e2]
  all_goals
    simp [shapeL, sortsL, countsL, fitsL, bindsB, h]
    try (first | omega | (simp only [← List.length_eq_zero_iff]; omega))
def Trm.okG (level consts codes : Int) (free : Bool) (inner : List Int) : List Trm → Int → Prop
  | [], _ => True
  | x :: xs, deep => Trm.okT level consts codes free x inner deep ∧ Trm.okG level consts codes free inner xs deep
theorem Trm.okTs_G {level consts codes : Int} {free : Bool} {op : Int} (hop : op = 7 ∨ op = 9) (scope inner : List Int) (deep : Int) : ∀ l : List Trm, Trm.okTs level consts codes free op scope inner l deep ↔ (¬((op == 9 && !procsL level l.dropLast) = true) ∧ Trm.okG level consts codes free inner l deep)
  | [] => by simp [Trm.okTs, Trm.okG, procsL]
  | [x] => by
    rw [Trm.okTs, Trm.okG, if_pos (.inl rfl)]
    simp [Trm.okTs, Trm.okG, procsL]
  | x :: y :: l => by
    rw [Trm.okTs, Trm.okG, if_pos (.inr hop), Trm.okTs_G hop scope inner deep (y :: l)]
    have e : (op == 9 && !procsL level (x :: y :: l).dropLast) = true ↔ (op = 9 ∧ x.op ≠ wantOp level) ∨ (op == 9 && !procsL level (y :: l).dropLast) = true := by
      rw [show (x :: y :: l).dropLast = x :: (y :: l).dropLast from rfl]
      simp only [procsL, wantOp, Bool.and_eq_true, beq_iff_eq, List.any_cons, Bool.not_not, Bool.or_eq_true, bne_iff_ne]
      constructor
      · rintro ⟨h1, h2 | h2⟩
        · exact .inl ⟨h1, h2⟩
        · exact .inr ⟨h1, h2⟩
      · rintro (⟨h1, h2⟩ | ⟨h1, h2⟩)
        · exact ⟨h1, .inl h2⟩
        · exact ⟨h1, .inr h2⟩
    rw [e]
    constructor
    · rintro ⟨h1, h2, h3, h4⟩
      exact ⟨fun h => h.elim (fun h => h1 ⟨h.1, by simp, h.2⟩) h3, h2, h4⟩
    · rintro ⟨h1, h2, h4⟩
      exact ⟨fun h => h1 (.inl ⟨h.1, h.2.2⟩), h2, fun h => h1 (.inr h), h4⟩
theorem Trm.ckP_sp (level consts codes : Int) (free : Bool) (h0 : 0 ≤ level) (h3 : level ≤ 3) (t : Trm) : ∀ (scope : List Int) (deep size : Int) (bound : List Int), Sp (t.ckP level consts codes free scope deep size bound) (t.okT level consts codes free scope deep) t.cnt t.vars size bound := by
  induction t using Trm.ind with
  | h t ih =>
    intro scope deep size bound
    have keyG : ∀ l : List Trm, (∀ y ∈ l, ∀ (scope : List Int) (deep size : Int) (bound : List Int), Sp (y.ckP level consts codes free scope deep size bound) (y.okT level consts codes free scope deep) y.cnt y.vars size bound) →
        ∀ (inner : List Int) (deep size : Int) (bound : List Int), size ≤ 20000 → Sp (Trm.cksG level consts codes free inner l deep size bound) (Trm.okG level consts codes free inner l deep) (Trm.cnts l) (Trm.varss l) size bound := by
      intro l
      induction l with
      | nil => intro _ inner deep size bound h; rw [Trm.cksG, Trm.okG, Trm.cnts, Trm.varss]; exact Sp.nil h
      | cons x l ihl =>
        intro hy inner deep size bound h
        rw [Trm.cksG, Trm.okG, Trm.cnts, Trm.varss]
        exact Sp.seq (hy x (by simp) _ _ _ _) (Trm.cnts_pos l) fun b hb => ihl (fun y hh => hy y (by simp [hh])) _ _ _ _ hb
    have keyI : t.op ≠ 7 → t.op ≠ 9 → ∀ l : List Trm, (∀ y ∈ l, ∀ (scope : List Int) (deep size : Int) (bound : List Int), Sp (y.ckP level consts codes free scope deep size bound) (y.okT level consts codes free scope deep) y.cnt y.vars size bound) →
        ∀ (deep size : Int) (bound : List Int), size ≤ 20000 → Sp (Trm.cksI level consts codes free scope t.v l deep size bound) (Trm.okTs level consts codes free t.op scope (scope ++ t.v) l deep) (Trm.cnts l) (t.v ++ Trm.varss l) size bound := by
      intro h7 h9 l
      induction l with
      | nil => intro _ deep size bound h; rw [Trm.cksI, Trm.okTs, Trm.cnts, Trm.varss]; exact Sp.bind fun _ => Sp.nil h
      | cons x l ihl =>
        intro hy deep size bound h
        rw [Trm.cksI, Trm.okTs, Trm.cnts, Trm.varss]
        cases l with
        | nil =>
          rw [if_pos (show ([] : List Trm).isEmpty = true from rfl), if_pos (show ([] : List Trm) = [] ∨ t.op = 7 ∨ t.op = 9 from .inl rfl), Trm.cnts, Trm.varss, List.append_nil, Int.add_zero]
          exact (Sp.bind fun _ => hy x (by simp) _ _ _ _).iff (by simp [h9, Trm.okTs])
        | cons y l =>
          rw [if_neg (show ¬((y :: l).isEmpty = true) by simp), if_neg (show ¬((y :: l) = [] ∨ t.op = 7 ∨ t.op = 9) by simp [h7, h9])]
          refine ((Sp.seq (hy x (by simp) _ _ _ _) (Trm.cnts_pos (y :: l)) fun b hb => ihl (fun y hh => hy y (by simp [hh])) _ _ _ hb).iff (by simp [h9])).perm ?_
          rw [← List.append_assoc, ← List.append_assoc]
          exact List.perm_append_comm.append_right _
    rw [Trm.ckP_eq, Trm.cnt_eq, Trm.vars_eq, Trm.okT_eq]
    have hsh := shape_eq level h0 h3 t
    have hloc : (deep ≤ 400 ∧ sortsL t.op level = true ∧ countsL t = true ∧ numberL consts codes free t scope = true) ↔ (deep ≤ 400 ∧ ((shapeL t.op).2 = true ∧ (shapeL t.op).1.fm ≤ level ∧ level ≤ (shapeL t.op).1.to ∧ fitsL (shapeL t.op).1 t = true) ∧ numberP consts codes free t scope = true) := by
      rw [hsh, numberP_eq, and_assoc]
    have hb : ∀ r : Option (Int × List Int), (if badP level consts codes free t scope deep (size + 1) = true then none else r) =
        (if ¬(deep ≤ 400 ∧ sortsL t.op level = true ∧ countsL t = true ∧ numberL consts codes free t scope = true) then none else if size + 1 > 20000 then none else r) := by
      intro r
      by_cases a : deep ≤ 400 ∧ sortsL t.op level = true ∧ countsL t = true ∧ numberL consts codes free t scope = true
      · rw [if_neg (c := ¬ _) (by simpa using a)]
        have a' := hloc.1 a
        by_cases b : size + 1 > 20000
        · rw [if_pos b, if_pos (by simp [badP, b])]
        · rw [if_neg b, if_neg (by simp [badP, a']; omega)]
      · rw [if_pos (c := ¬ _) a, if_pos]
        simp only [badP, Bool.or_eq_true, decide_eq_true_eq, Bool.not_eq_true']
        apply Classical.byContradiction
        intro h
        apply a
        rw [hloc]
        simp only [not_or, Bool.not_eq_false] at h
        exact ⟨by omega, ⟨h.1.1.1.1.1.1, by omega, by omega, h.1.2⟩, h.2⟩
    rw [hb]
    by_cases hg : groupB t.op = true
    · have hop : t.op = 7 ∨ t.op = 9 := by simpa [groupB] using hg
      rw [if_pos hg]
      refine (Sp.test fun _ => Sp.tick (Trm.cnts_pos _) fun hs => Sp.test fun _ => Sp.bind fun _ => keyG t.t ih _ _ _ _ hs).iff ?_
      rw [Classical.not_not, Trm.okTs_G hop]
    · have hop : t.op ≠ 7 ∧ t.op ≠ 9 := by simpa [groupB] using hg
      rw [if_neg hg]
      refine (Sp.test fun _ => Sp.tick (Trm.cnts_pos _) fun hs => keyI hop.1 hop.2 t.t ih _ _ _ hs).iff ?_
      rw [Classical.not_not]
theorem ck_eq (level consts codes : Int) (free : Bool) (h0 : 0 ≤ level) (h3 : level ≤ 3) (t : Trm) (scope : List Int) (deep size : Int) (bound : List Int) :
    (t.ckP level consts codes free scope deep size bound).isSome = (t.ckD level consts codes free scope deep size bound).isSome := by
  rw [Bool.eq_iff_iff, (t.ckP_sp level consts codes free h0 h3 scope deep size bound).some_iff, (t.ckD_sp level consts codes free scope deep size bound).some_iff]
end Go.Cb
namespace Go.Cb
open Go.Proofs
set_option maxRecDepth 100000
set_option maxHeartbeats 4000000
theorem digN_all {a : List UInt8} (r : List UInt8) (h : a.all isDig = true) : digN (a ++ r) = a.length + digN r := by
  induction a with
  | nil => simp
  | cons c a ih =>
    simp only [List.all_cons, Bool.and_eq_true] at h
    rw [List.cons_append, digN, if_pos h.1, ih h.2, List.length_cons]; omega
theorem digN_not {a : List UInt8} (r : List UInt8) (h : a.all isDig = false) : ∃ c, a[digN (a ++ r)]? = some c ∧ isDig c = false ∧ digN (a ++ r) < a.length := by
  induction a with
  | nil => simp at h
  | cons c a ih =>
    rw [List.cons_append, digN]
    by_cases hc : isDig c = true
    · rw [List.all_cons, hc, Bool.true_and] at h
      obtain ⟨x, h1, h2, h3⟩ := ih h
      rw [if_pos hc]
      exact ⟨x, by simpa using h1, h2, by simp; exact h3⟩
    · rw [if_neg hc]
      exact ⟨c, by simp, by simpa using hc, by simp⟩
theorem natB_part (a : List UInt8) : natB a = true ↔ ((partN a).2 ≠ 0 ∧ (partN a).2 = a.length) := by
  unfold natB partN
  cases h : a.all isDig
  · obtain ⟨c, h1, h2, h3⟩ := digN_not [] h
    rw [List.append_nil] at h3
    simp only [Bool.and_false, Bool.false_eq_true, false_iff]
    split
    · simp
    · rintro ⟨_, h⟩; simp only at h; omega
  · have hd := digN_all [] h
    rw [List.append_nil] at hd
    simp only [digN] at hd
    simp only [Bool.and_true, Bool.and_eq_true, decide_eq_true_eq]
    split
    · simp; omega
    · simp; omega
theorem natV_part {a : List UInt8} (h : natB a = true) : natV a = (partN a).1 := by
  have h2 := (natB_part a).1 h
  unfold natV
  rw [if_pos h]
  unfold partN at h2 ⊢
  split at h2
  · simp at h2
  · rename_i hd
    rw [if_neg hd]
    simp only at h2
    rw [h2.2, List.take_length]
theorem cut_cases (u : List UInt8) : (Go.Lib.indexByte u 47 < 0 ∧ cutA u 47 = u ∧ (47 : UInt8) ∉ u) ∨ (∃ a b, u = a ++ 47 :: b ∧ 0 ≤ Go.Lib.indexByte u 47 ∧ cutA u 47 = a ∧ cutB u 47 = b ∧ (47 : UInt8) ∉ a) := by
  induction u with
  | nil => left; simp [Go.Lib.indexByte, cutA]
  | cons c u ih =>
    by_cases h : c = 47
    · subst h
      right
      have e : Go.Lib.indexByte (47 :: u) 47 = 0 := by simp [Go.Lib.indexByte]
      exact ⟨[], u, rfl, by omega, by simp [cutA, e], by simp [cutB, e], by simp⟩
    · have h1 : (c == 47) = false := by simp [h]
      rcases ih with ⟨h2, h3, h4⟩ | ⟨a, b, rfl, h2, h3, h4, h5⟩
      · have e : Go.Lib.indexByte (c :: u) 47 = -1 := by have := Go.Lib.indexByte_ge u 47; rw [Go.Lib.indexByte, h1]; simp; omega
        exact .inl ⟨by omega, by simp [cutA, e], by simp; exact ⟨fun e => h e.symm, h4⟩⟩
      · have e : Go.Lib.indexByte (c :: (a ++ 47 :: b)) 47 = Go.Lib.indexByte (a ++ 47 :: b) 47 + 1 := by rw [Go.Lib.indexByte, h1]; simp; omega
        refine .inr ⟨c :: a, b, rfl, by omega, ?_, ?_, by simp; exact ⟨fun e => h e.symm, h5⟩⟩
        · unfold cutA at h3 ⊢
          rw [if_pos h2] at h3
          rw [if_pos (by omega), e, show (Go.Lib.indexByte (a ++ 47 :: b) 47 + 1).toNat = (Go.Lib.indexByte (a ++ 47 :: b) 47).toNat + 1 by omega, List.take_succ_cons, h3]
        · unfold cutB at h4 ⊢
          rw [if_pos h2] at h4
          rw [if_pos (by omega), e, show (Go.Lib.indexByte (a ++ 47 :: b) 47 + 1).toNat = (Go.Lib.indexByte (a ++ 47 :: b) 47).toNat + 1 by omega, List.drop_succ_cons, h4]
theorem isDig47 : isDig 47 = false := by decide
theorem parse_eq (s : List UInt8) : parseP s = parseN s := by
  have hu : (if negB s = true then s.drop 1 else s) = unneg s := rfl
  unfold parseP
  simp only [hu]
  rw [parseN_eq]
  generalize unneg s = u
  rcases cut_cases u with ⟨hi, ha, hn⟩ | ⟨a, b, rfl, hi, ha, hb, hn⟩
  · rw [ha, if_neg (show ¬(0 ≤ Go.Lib.indexByte u 47) by omega)]
    have h49 : natB [49] = true := by decide
    have h49v : natV [49] = 1 := by decide
    rw [h49, h49v, Bool.and_true]
    cases hall : u.all isDig
    · obtain ⟨c, h1, h2, h3⟩ := digN_not [] hall
      rw [List.append_nil] at h1 h3
      have hnb : natB u = false := by unfold natB; rw [hall]; simp
      rw [hnb]
      simp only [Bool.false_eq_true, if_false]
      unfold partN
      split
      · rfl
      · rename_i h10
        simp only
        split
        · rfl
        · have : lowerN u (digN u) = none := by
            unfold lowerN
            rw [if_pos h3, if_neg]
            rintro ⟨h, _⟩
            rw [h1] at h
            cases h
            exact hn (List.mem_of_getElem? h1)
          rw [this]
    · have hd := digN_all [] hall
      rw [List.append_nil] at hd
      simp only [digN, Nat.add_zero] at hd
      by_cases hnb : natB u = true
      · have hp := (natB_part u).1 hnb
        rw [hnb, if_pos rfl, if_neg hp.1, natV_part hnb]
        have : lowerN u (partN u).2 = some 1 := by unfold lowerN; rw [if_neg (by omega)]
        rw [this]
      · have : (partN u).2 = 0 := by
          have := mt (natB_part u).2 hnb
          unfold partN at this ⊢
          split at this
          · rename_i h; rw [if_pos h]
          · rename_i h; rw [if_neg h]; simp only at this ⊢; omega
        rw [if_neg hnb, if_pos this]
  · rw [ha, hb, if_pos hi]
    have h47 : digN (47 :: b) = 0 := by rw [digN, isDig47]; rfl
    cases hall : a.all isDig
    · obtain ⟨c, h1, h2, h3⟩ := digN_not (47 :: b) hall
      have hnb : natB a = false := by unfold natB; rw [hall]; simp
      rw [hnb]
      simp only [Bool.false_and, Bool.false_eq_true, if_false]
      unfold partN
      split
      · rfl
      · simp only
        split
        · rfl
        · have : lowerN (a ++ 47 :: b) (digN (a ++ 47 :: b)) = none := by
            unfold lowerN
            rw [if_pos (by simp; omega), if_neg]
            rintro ⟨h, _⟩
            rw [List.getElem?_append_left h3, h1] at h
            cases h
            exact hn (List.mem_of_getElem? h1)
          rw [this]
    · have hd := digN_all (47 :: b) hall
      rw [h47, Nat.add_zero] at hd
      by_cases hnb : natB a = true
      · have hp := (natB_part a).1 hnb
        have hl : 1 ≤ a.length ∧ a.length ≤ 10 := by
          unfold natB at hnb; simp only [Bool.and_eq_true, decide_eq_true_eq] at hnb; exact ⟨hnb.1, hnb.2.1⟩
        have hpu : partN (a ++ 47 :: b) = (natV a, a.length) := by
          unfold partN natV
          rw [hd, if_neg (by omega), if_pos hnb, List.take_left]
        rw [hpu]
        simp only
        rw [if_neg (show ¬(a.length = 0) by omega), hnb, Bool.true_and]
        have hlo : lowerN (a ++ 47 :: b) a.length = if natB b = true then some (natV b) else none := by
          unfold lowerN
          rw [if_pos (by simp)]
          have e1 : (a ++ 47 :: b)[a.length]? = some 47 := by simp
          have e2 : (a ++ 47 :: b).drop (a.length + 1) = b := by rw [List.drop_append]; simp
          rw [e1, e2]
          by_cases hb' : natB b = true
          · have := (natB_part b).1 hb'
            rw [if_pos hb', natV_part hb', if_pos ⟨rfl, this.1, by simp; omega⟩]
          · rw [if_neg hb', if_neg]
            rintro ⟨_, g1, g2⟩
            exact hb' ((natB_part b).2 ⟨g1, by simp at g2; omega⟩)
        rw [hlo]
        by_cases hb' : natB b = true
        · rw [if_pos hb', if_pos hb']
        · rw [if_neg hb', if_neg hb']
      · have : (partN (a ++ 47 :: b)).2 = 0 := by
          unfold partN
          rw [hd]
          split
          · rfl
          · simp only
            unfold natB at hnb
            rw [hall] at hnb
            simp only [Bool.and_true, Bool.and_eq_true, decide_eq_true_eq] at hnb
            omega
        rw [if_pos this, show natB a = false by simpa using hnb]
        rfl
theorem marks_eq : marksPL.contains = markB := by
  funext c
  simp only [markB, baseB, marksL, marksPL, List.contains_cons, List.contains_nil, Bool.or_false]
  rw [Bool.eq_iff_iff]
  simp only [Bool.or_eq_true, beq_iff_eq, Bool.and_eq_true, decide_eq_true_eq, ← UInt8.toNat_inj]
  simp
  omega
theorem name_eq (s : List UInt8) : namePB s = nameB s := by
  unfold namePB nameB
  rw [parse_eq, marks_eq]
  have ht : ((trimR markB s).dropWhile markB == []) = s.all markB := by
    rw [Bool.eq_iff_iff, beq_iff_eq, trim_nil]
  rw [ht]
  by_cases hs : s = []
  · subst hs; simp
  · have hl := List.length_pos_iff.2 hs
    cases s.all markB <;> cases (parseN s).2.2 <;> rw [Bool.eq_iff_iff] <;> simp [hs] <;> omega
theorem name_str {s : List UInt8} (h : nameB s = true) : s.any strB = false := by
  simp only [nameB, Bool.and_eq_true] at h
  rw [List.any_eq_false]
  intro c hc
  have hm := List.all_eq_true.1 h.2.2.1 c hc
  rw [← marks_eq] at hm
  simp only [marksPL, List.contains_cons, List.contains_nil, Bool.or_false, Bool.or_eq_true, beq_iff_eq, ← UInt8.toNat_inj] at hm
  simp only [strB, Bool.or_eq_true, decide_eq_true_eq]
  simp at hm ⊢
  omega
theorem bare_eq (d : Datum) (deep : Int) : bareBadP d deep = bareBad d deep := by
  obtain ⟨k, n, e, s, l⟩ := d
  have hn := name_eq s
  have hs := @name_str s
  have hz : s = [] → s.any strB = false := fun h => by rw [h]; rfl
  unfold bareBadP bareBad
  simp only [Datum.kind, Datum.n, Datum.d, Datum.s, Datum.l, bareL]
  generalize s.any strB = B at *
  have hc : k < 0 ∨ k > 7 ∨ k = 0 ∨ k = 1 ∨ k = 2 ∨ k = 3 ∨ k = 4 ∨ k = 5 ∨ k = 6 ∨ k = 7 := by omega
  rcases hc with h | h | h | h | h | h | h | h | h | h
  · simp [h, show ¬k = 0 by omega, show ¬k = 1 by omega, show ¬k = 2 by omega, show ¬k = 3 by omega, show ¬k = 4 by omega, show ¬k = 5 by omega, show ¬k = 6 by omega, show ¬k = 7 by omega]
  · simp [h, show ¬k = 0 by omega, show ¬k = 1 by omega, show ¬k = 2 by omega, show ¬k = 3 by omega, show ¬k = 4 by omega, show ¬k = 5 by omega, show ¬k = 6 by omega, show ¬k = 7 by omega]
  all_goals
    subst h
    rw [Bool.eq_iff_iff]
    simp
    grind
theorem right_eq (d : Datum) : ∀ deep : Int, d.rightP deep = d.rightD deep := by
  induction d using Datum.ind with
  | h d ih =>
    intro deep
    rw [Datum.rightP_eq, Datum.rightD_eq, bare_eq]
    congr 1
    have : ∀ l : List Datum, (∀ y ∈ l, ∀ deep : Int, y.rightP deep = y.rightD deep) → ∀ deep, Datum.rightPs l deep = Datum.rightDs l deep := by
      intro l
      induction l with
      | nil => intro _ deep; rw [Datum.rightPs, Datum.rightDs]
      | cons x l ihl => intro hy deep; rw [Datum.rightPs, Datum.rightDs, hy x (by simp), ihl fun y h => hy y (by simp [h])]
    exact this d.l ih _
end Go.Cb
namespace Go.Cb
open Go.Proofs
set_option maxRecDepth 100000
set_option maxHeartbeats 4000000
theorem constants1p_c (d : Datum) : ACall Tryz.prog 72 [.agg d.cells] [] (fun y Γ' => y = .bool (!d.rightP 0) ∧ Γ' = []) := by
  refine ACall.of_body tt_ok Tryz.func72 rfl rfl (n := 6) rfl rfl ?_
  conv => whnf
  repeat ((first | ((first | (apply zY;intro hg) | apply zZ);focus ((conv=>whnf);(repeat ((first | (refine zW ?_ ?_;exact gA) | refine zH rfl ?_ | refine zA ?_ | refine zI bA ?_ | refine zI rfl ?_ | refine zJ rfl rfl ?_ | refine zB ?_ | refine zK rfl ?_ | refine zL rfl ?_ | refine zC ?_ | (refine zO ?_ ?_ ?_;exact OA;exact OA) | (refine zP ?_ ?_ ?_;exact OA;exact OA) | refine zM rfl ?_ | (refine zQ ?_ ?_ ?_;exact OA;exact OA) | (refine zR ?_ ?_;exact OA) | (refine zI ?_ ?_;exact NA) | (refine zS ?_ ?_ ?_;exact OA;exact OA) | (refine zT ?_ ?_ ?_;exact OA;exact OA) | (refine zU ?_ ?_ ?_;exact OA;exact OA) | (refine zV ?_ ?_ ?_;exact OA;exact OA) | refine PCall.pure (rightP_c d) (WkT.refl _) ?_ | refine PCall.pure (rightP_c d) cA ?_ | intro _);conv=>whnf));first | exact PShift.same | exact PShift.lit | exact PShift.ep)) | (refine zW ?_ ?_;exact gA) | refine zH rfl ?_ | refine zA ?_ | refine zI bA ?_ | refine zI rfl ?_ | refine zJ rfl rfl ?_ | refine zB ?_ | refine zK rfl ?_ | refine zL rfl ?_ | refine zC ?_ | (refine zO ?_ ?_ ?_;omega;omega) | (refine zP ?_ ?_ ?_;omega;omega) | refine zM rfl ?_ | (refine zQ ?_ ?_ ?_;omega;omega) | (refine zR ?_ ?_;omega) | (refine zI ?_ ?_;exact nA) | (refine zS ?_ ?_ ?_;omega;omega) | (refine zT ?_ ?_ ?_;omega;omega) | (refine zU ?_ ?_ ?_;omega;omega) | (refine zV ?_ ?_ ?_;omega;omega) | refine PCall.pure (rightP_c d) (WkT.refl _) ?_ | refine PCall.pure (rightP_c d) cA ?_ | refine zN rfl rfl rfl ?_ | refine zD ?_ | refine zE ?_ | refine zF ?_ | intro _);conv=>whnf)
  conv => whnf
  repeat' (first | ((first | ((first | (apply zY;intro hg) | apply zZ);focus ((conv=>whnf);(repeat ((first | (refine zW ?_ ?_;exact gA) | refine zH rfl ?_ | refine zA ?_ | refine zI bA ?_ | refine zI rfl ?_ | refine zJ rfl rfl ?_ | refine zB ?_ | refine zK rfl ?_ | refine zL rfl ?_ | refine zC ?_ | (refine zO ?_ ?_ ?_;exact OA;exact OA) | (refine zP ?_ ?_ ?_;exact OA;exact OA) | refine zM rfl ?_ | (refine zQ ?_ ?_ ?_;exact OA;exact OA) | (refine zR ?_ ?_;exact OA) | (refine zI ?_ ?_;exact NA) | (refine zS ?_ ?_ ?_;exact OA;exact OA) | (refine zT ?_ ?_ ?_;exact OA;exact OA) | (refine zU ?_ ?_ ?_;exact OA;exact OA) | (refine zV ?_ ?_ ?_;exact OA;exact OA) | refine PCall.pure (rightP_c d) (WkT.refl _) ?_ | refine PCall.pure (rightP_c d) cA ?_ | intro _);conv=>whnf));first | exact PShift.same | exact PShift.lit | exact PShift.ep)) | (refine zW ?_ ?_;exact gA) | refine zH rfl ?_ | refine zA ?_ | refine zI bA ?_ | refine zI rfl ?_ | refine zJ rfl rfl ?_ | refine zB ?_ | refine zK rfl ?_ | refine zL rfl ?_ | refine zC ?_ | (refine zO ?_ ?_ ?_;omega;omega) | (refine zP ?_ ?_ ?_;omega;omega) | refine zM rfl ?_ | (refine zQ ?_ ?_ ?_;omega;omega) | (refine zR ?_ ?_;omega) | (refine zI ?_ ?_;exact nA) | (refine zS ?_ ?_ ?_;omega;omega) | (refine zT ?_ ?_ ?_;omega;omega) | (refine zU ?_ ?_ ?_;omega;omega) | (refine zV ?_ ?_ ?_;omega;omega) | refine PCall.pure (rightP_c d) (WkT.refl _) ?_ | refine PCall.pure (rightP_c d) cA ?_ | refine zN rfl rfl rfl ?_ | refine zD ?_ | refine zE ?_ | refine zF ?_ | intro _ | refine zG ?_);conv=>whnf) | (refine zX (fun hc => ?_) (fun hc => ?_)<;>(try simp only [SY] at hc)<;>first | omega | (conv=>whnf)))
  exact PRet.gen (Wk.refl _) ⟨rfl, rfl⟩
theorem constantsp_c (l : List Datum) : ACallP Tryz.prog 48 [.sl 5 (l.map Datum.pv) none] (.bool (l.all fun d => d.rightP 0)) := by
  refine ACall.of_body tt_ok Tryz.func48 rfl rfl (n := 6) rfl rfl ?_
  conv => whnf
  repeat ((first | ((first | (apply zY;intro hg) | apply zZ);focus ((conv=>whnf);(repeat ((first | (refine zW ?_ ?_;exact gA) | refine zH rfl ?_ | refine zA ?_ | refine zI bA ?_ | refine zI rfl ?_ | refine zJ rfl rfl ?_ | refine zB ?_ | refine zK rfl ?_ | refine zL rfl ?_ | refine zC ?_ | (refine zO ?_ ?_ ?_;exact OA;exact OA) | (refine zP ?_ ?_ ?_;exact OA;exact OA) | refine zM rfl ?_ | (refine zQ ?_ ?_ ?_;exact OA;exact OA) | (refine zR ?_ ?_;exact OA) | (refine zI ?_ ?_;exact NA) | (refine zS ?_ ?_ ?_;exact OA;exact OA) | (refine zT ?_ ?_ ?_;exact OA;exact OA) | (refine zU ?_ ?_ ?_;exact OA;exact OA) | (refine zV ?_ ?_ ?_;exact OA;exact OA) | refine PCall.pure (rightP_c d) (WkT.refl _) ?_ | refine PCall.pure (rightP_c d) cA ?_ | intro _);conv=>whnf));first | exact PShift.same | exact PShift.lit | exact PShift.ep)) | (refine zW ?_ ?_;exact gA) | refine zH rfl ?_ | refine zA ?_ | refine zI bA ?_ | refine zI rfl ?_ | refine zJ rfl rfl ?_ | refine zB ?_ | refine zK rfl ?_ | refine zL rfl ?_ | refine zC ?_ | (refine zO ?_ ?_ ?_;omega;omega) | (refine zP ?_ ?_ ?_;omega;omega) | refine zM rfl ?_ | (refine zQ ?_ ?_ ?_;omega;omega) | (refine zR ?_ ?_;omega) | (refine zI ?_ ?_;exact nA) | (refine zS ?_ ?_ ?_;omega;omega) | (refine zT ?_ ?_ ?_;omega;omega) | (refine zU ?_ ?_ ?_;omega;omega) | (refine zV ?_ ?_ ?_;omega;omega) | refine PCall.pure (rightP_c d) (WkT.refl _) ?_ | refine PCall.pure (rightP_c d) cA ?_ | refine zN rfl rfl rfl ?_ | refine zD ?_ | refine zE ?_ | refine zF ?_ | intro _);conv=>whnf)
  conv => whnf
  repeat' (first | ((first | ((first | (apply zY;intro hg) | apply zZ);focus ((conv=>whnf);(repeat ((first | (refine zW ?_ ?_;exact gA) | refine zH rfl ?_ | refine zA ?_ | refine zI bA ?_ | refine zI rfl ?_ | refine zJ rfl rfl ?_ | refine zB ?_ | refine zK rfl ?_ | refine zL rfl ?_ | refine zC ?_ | (refine zO ?_ ?_ ?_;exact OA;exact OA) | (refine zP ?_ ?_ ?_;exact OA;exact OA) | refine zM rfl ?_ | (refine zQ ?_ ?_ ?_;exact OA;exact OA) | (refine zR ?_ ?_;exact OA) | (refine zI ?_ ?_;exact NA) | (refine zS ?_ ?_ ?_;exact OA;exact OA) | (refine zT ?_ ?_ ?_;exact OA;exact OA) | (refine zU ?_ ?_ ?_;exact OA;exact OA) | (refine zV ?_ ?_ ?_;exact OA;exact OA) | refine PCall.pure (rightP_c d) (WkT.refl _) ?_ | refine PCall.pure (rightP_c d) cA ?_ | intro _);conv=>whnf));first | exact PShift.same | exact PShift.lit | exact PShift.ep)) | (refine zW ?_ ?_;exact gA) | refine zH rfl ?_ | refine zA ?_ | refine zI bA ?_ | refine zI rfl ?_ | refine zJ rfl rfl ?_ | refine zB ?_ | refine zK rfl ?_ | refine zL rfl ?_ | refine zC ?_ | (refine zO ?_ ?_ ?_;omega;omega) | (refine zP ?_ ?_ ?_;omega;omega) | refine zM rfl ?_ | (refine zQ ?_ ?_ ?_;omega;omega) | (refine zR ?_ ?_;omega) | (refine zI ?_ ?_;exact nA) | (refine zS ?_ ?_ ?_;omega;omega) | (refine zT ?_ ?_ ?_;omega;omega) | (refine zU ?_ ?_ ?_;omega;omega) | (refine zV ?_ ?_ ?_;omega;omega) | refine PCall.pure (rightP_c d) (WkT.refl _) ?_ | refine PCall.pure (rightP_c d) cA ?_ | refine zN rfl rfl rfl ?_ | refine zD ?_ | refine zE ?_ | refine zF ?_ | intro _ | refine zG ?_);conv=>whnf) | (refine zX (fun hc => ?_) (fun hc => ?_)<;>(try simp only [SY] at hc)<;>first | omega | (conv=>whnf)))
  refine PCall.go (containsFuncDat_c 72 [] [] (fun d => !d.rightP 0) l (fun d _ => constants1p_c d)) (WkT.refl _) ?_
  rintro _ _ ⟨rfl, rfl⟩
  conv => whnf
  repeat' (first | ((first | ((first | (apply zY;intro hg) | apply zZ);focus ((conv=>whnf);(repeat ((first | (refine zW ?_ ?_;exact gA) | refine zH rfl ?_ | refine zA ?_ | refine zI bA ?_ | refine zI rfl ?_ | refine zJ rfl rfl ?_ | refine zB ?_ | refine zK rfl ?_ | refine zL rfl ?_ | refine zC ?_ | (refine zO ?_ ?_ ?_;exact OA;exact OA) | (refine zP ?_ ?_ ?_;exact OA;exact OA) | refine zM rfl ?_ | (refine zQ ?_ ?_ ?_;exact OA;exact OA) | (refine zR ?_ ?_;exact OA) | (refine zI ?_ ?_;exact NA) | (refine zS ?_ ?_ ?_;exact OA;exact OA) | (refine zT ?_ ?_ ?_;exact OA;exact OA) | (refine zU ?_ ?_ ?_;exact OA;exact OA) | (refine zV ?_ ?_ ?_;exact OA;exact OA) | refine PCall.pure (rightP_c d) (WkT.refl _) ?_ | refine PCall.pure (rightP_c d) cA ?_ | intro _);conv=>whnf));first | exact PShift.same | exact PShift.lit | exact PShift.ep)) | (refine zW ?_ ?_;exact gA) | refine zH rfl ?_ | refine zA ?_ | refine zI bA ?_ | refine zI rfl ?_ | refine zJ rfl rfl ?_ | refine zB ?_ | refine zK rfl ?_ | refine zL rfl ?_ | refine zC ?_ | (refine zO ?_ ?_ ?_;omega;omega) | (refine zP ?_ ?_ ?_;omega;omega) | refine zM rfl ?_ | (refine zQ ?_ ?_ ?_;omega;omega) | (refine zR ?_ ?_;omega) | (refine zI ?_ ?_;exact nA) | (refine zS ?_ ?_ ?_;omega;omega) | (refine zT ?_ ?_ ?_;omega;omega) | (refine zU ?_ ?_ ?_;omega;omega) | (refine zV ?_ ?_ ?_;omega;omega) | refine PCall.pure (rightP_c d) (WkT.refl _) ?_ | refine PCall.pure (rightP_c d) cA ?_ | refine zN rfl rfl rfl ?_ | refine zD ?_ | refine zE ?_ | refine zF ?_ | intro _ | refine zG ?_);conv=>whnf) | (refine zX (fun hc => ?_) (fun hc => ?_)<;>(try simp only [SY] at hc)<;>first | omega | (conv=>whnf)))
  exact PRet.pure (Wk.bool (by rw [List.not_any_eq_all_not]; simp))
theorem setM_nil : (fun (_ : Value) => (none : Option PV)) = setM [] := by
  funext v; unfold setM; split <;> simp
def checkP (p : Prog) (level : Int) : Int :=
  if (decide (level < 0) || decide (level ≥ 3)) = true then 1 else
  if (p.consts.all (fun d => d.rightP 0) && (p.body.ckP level p.consts.length 0 false [] 0 0 []).isSome) = true then 0 else 5
theorem checkp_c (p : Prog) (level : Int) (hb : p.body.bulk ≤ 1000000000) (hl : p.consts.length ≤ 1000000000) : ACallP Tryz.prog 18 [.agg p.cells, .int .i64 level] (.int .i64 (checkP p level)) := by
  have hs : checkP p level = checkP p level := rfl
  conv at hs => rhs; unfold checkP
  refine ACall.of_body tt_ok Tryz.func18 rfl rfl (n := 31) rfl rfl ?_
  conv => whnf
  repeat ((first | ((first | (apply zY;intro hg) | apply zZ);focus ((conv=>whnf);(repeat ((first | (refine zW ?_ ?_;exact gA) | refine zH rfl ?_ | refine zA ?_ | refine zI bA ?_ | refine zI rfl ?_ | refine zJ rfl rfl ?_ | refine zB ?_ | refine zK rfl ?_ | refine zL rfl ?_ | refine zC ?_ | (refine zO ?_ ?_ ?_;exact OA;exact OA) | (refine zP ?_ ?_ ?_;exact OA;exact OA) | refine zM rfl ?_ | (refine zQ ?_ ?_ ?_;exact OA;exact OA) | (refine zR ?_ ?_;exact OA) | (refine zI ?_ ?_;exact NA) | (refine zS ?_ ?_ ?_;exact OA;exact OA) | (refine zT ?_ ?_ ?_;exact OA;exact OA) | (refine zU ?_ ?_ ?_;exact OA;exact OA) | (refine zV ?_ ?_ ?_;exact OA;exact OA) | refine PCall.pure (constantsp_c _) (WkT.refl _) ?_ | refine PCall.pure (constantsp_c _) cA ?_ | intro _);conv=>whnf));first | exact PShift.same | exact PShift.lit | exact PShift.ep)) | (refine zW ?_ ?_;exact gA) | refine zH rfl ?_ | refine zA ?_ | refine zI bA ?_ | refine zI rfl ?_ | refine zJ rfl rfl ?_ | refine zB ?_ | refine zK rfl ?_ | refine zL rfl ?_ | refine zC ?_ | (refine zO ?_ ?_ ?_;omega;omega) | (refine zP ?_ ?_ ?_;omega;omega) | refine zM rfl ?_ | (refine zQ ?_ ?_ ?_;omega;omega) | (refine zR ?_ ?_;omega) | (refine zI ?_ ?_;exact nA) | (refine zS ?_ ?_ ?_;omega;omega) | (refine zT ?_ ?_ ?_;omega;omega) | (refine zU ?_ ?_ ?_;omega;omega) | (refine zV ?_ ?_ ?_;omega;omega) | refine PCall.pure (constantsp_c _) (WkT.refl _) ?_ | refine PCall.pure (constantsp_c _) cA ?_ | refine zN rfl rfl rfl ?_ | refine zD ?_ | refine zE ?_ | refine zF ?_ | intro _);conv=>whnf)
  conv => whnf
  repeat' (first | ((first | ((first | (apply zY;intro hg) | apply zZ);focus ((conv=>whnf);(repeat ((first | (refine zW ?_ ?_;exact gA) | refine zH rfl ?_ | refine zA ?_ | refine zI bA ?_ | refine zI rfl ?_ | refine zJ rfl rfl ?_ | refine zB ?_ | refine zK rfl ?_ | refine zL rfl ?_ | refine zC ?_ | (refine zO ?_ ?_ ?_;exact OA;exact OA) | (refine zP ?_ ?_ ?_;exact OA;exact OA) | refine zM rfl ?_ | (refine zQ ?_ ?_ ?_;exact OA;exact OA) | (refine zR ?_ ?_;exact OA) | (refine zI ?_ ?_;exact NA) | (refine zS ?_ ?_ ?_;exact OA;exact OA) | (refine zT ?_ ?_ ?_;exact OA;exact OA) | (refine zU ?_ ?_ ?_;exact OA;exact OA) | (refine zV ?_ ?_ ?_;exact OA;exact OA) | refine PCall.pure (constantsp_c _) (WkT.refl _) ?_ | refine PCall.pure (constantsp_c _) cA ?_ | intro _);conv=>whnf));first | exact PShift.same | exact PShift.lit | exact PShift.ep)) | (refine zW ?_ ?_;exact gA) | refine zH rfl ?_ | refine zA ?_ | refine zI bA ?_ | refine zI rfl ?_ | refine zJ rfl rfl ?_ | refine zB ?_ | refine zK rfl ?_ | refine zL rfl ?_ | refine zC ?_ | (refine zO ?_ ?_ ?_;omega;omega) | (refine zP ?_ ?_ ?_;omega;omega) | refine zM rfl ?_ | (refine zQ ?_ ?_ ?_;omega;omega) | (refine zR ?_ ?_;omega) | (refine zI ?_ ?_;exact nA) | (refine zS ?_ ?_ ?_;omega;omega) | (refine zT ?_ ?_ ?_;omega;omega) | (refine zU ?_ ?_ ?_;omega;omega) | (refine zV ?_ ?_ ?_;omega;omega) | refine PCall.pure (constantsp_c _) (WkT.refl _) ?_ | refine PCall.pure (constantsp_c _) cA ?_ | refine zN rfl rfl rfl ?_ | refine zD ?_ | refine zE ?_ | refine zF ?_ | intro _ | refine zG ?_);conv=>whnf) | (refine zX (fun hc => ?_) (fun hc => ?_)<;>(try simp only [SY] at hc)<;>first | omega | (conv=>whnf)))
  · rw [hs, if_pos (by simp only [SS]; exact hc)]
    exact PRet.pure (Wk.refl _)
  · refine PGuard.ways (fun hg => ?_) (fun hg => ?_)
    · conv => whnf
      conv => whnf
      repeat ((first | ((first | (apply zY;intro hg) | apply zZ);focus ((conv=>whnf);(repeat ((first | (refine zW ?_ ?_;exact gA) | refine zH rfl ?_ | refine zA ?_ | refine zI bA ?_ | refine zI rfl ?_ | refine zJ rfl rfl ?_ | refine zB ?_ | refine zK rfl ?_ | refine zL rfl ?_ | refine zC ?_ | (refine zO ?_ ?_ ?_;exact OA;exact OA) | (refine zP ?_ ?_ ?_;exact OA;exact OA) | refine zM rfl ?_ | (refine zQ ?_ ?_ ?_;exact OA;exact OA) | (refine zR ?_ ?_;exact OA) | (refine zI ?_ ?_;exact NA) | (refine zS ?_ ?_ ?_;exact OA;exact OA) | (refine zT ?_ ?_ ?_;exact OA;exact OA) | (refine zU ?_ ?_ ?_;exact OA;exact OA) | (refine zV ?_ ?_ ?_;exact OA;exact OA) | refine PCall.pure (constantsp_c _) (WkT.refl _) ?_ | refine PCall.pure (constantsp_c _) cA ?_ | intro _);conv=>whnf));first | exact PShift.same | exact PShift.lit | exact PShift.ep)) | (refine zW ?_ ?_;exact gA) | refine zH rfl ?_ | refine zA ?_ | refine zI bA ?_ | refine zI rfl ?_ | refine zJ rfl rfl ?_ | refine zB ?_ | refine zK rfl ?_ | refine zL rfl ?_ | refine zC ?_ | (refine zO ?_ ?_ ?_;omega;omega) | (refine zP ?_ ?_ ?_;omega;omega) | refine zM rfl ?_ | (refine zQ ?_ ?_ ?_;omega;omega) | (refine zR ?_ ?_;omega) | (refine zI ?_ ?_;exact nA) | (refine zS ?_ ?_ ?_;omega;omega) | (refine zT ?_ ?_ ?_;omega;omega) | (refine zU ?_ ?_ ?_;omega;omega) | (refine zV ?_ ?_ ?_;omega;omega) | refine PCall.pure (constantsp_c _) (WkT.refl _) ?_ | refine PCall.pure (constantsp_c _) cA ?_ | refine zN rfl rfl rfl ?_ | refine zD ?_ | refine zE ?_ | refine zF ?_ | intro _);conv=>whnf)
      rename_i b1 r1 b2 r2
      have hall : (p.consts.all fun d => d.rightP 0) = true := by simpa using hg
      have hcall := rightp_c b2 r1 r2 level p.consts.length 0 false p.body [] 0 0 [] [] [] (by omega) (by omega) (by omega) (by omega) (by simp) hb
      rw [← setM_nil] at hcall
      refine PCall.goG (Ghost.box (b := b2) (cs := [.int .i64 level, .int .i64 p.consts.length, .int .i64 0, .bfalse, .int .i64 0, .mp r1]) (cs' := cpC level p.consts.length 0 0 false r1) wA) hcall (WkT.refl _) ?_
      rintro _ _ ⟨rfl, sz, mb, ms, pb, ps, rfl, hs2⟩
      conv => whnf
      repeat' (first | ((first | ((first | (apply zY;intro hg) | apply zZ);focus ((conv=>whnf);(repeat ((first | (refine zW ?_ ?_;exact gA) | refine zH rfl ?_ | refine zA ?_ | refine zI bA ?_ | refine zI rfl ?_ | refine zJ rfl rfl ?_ | refine zB ?_ | refine zK rfl ?_ | refine zL rfl ?_ | refine zC ?_ | (refine zO ?_ ?_ ?_;exact OA;exact OA) | (refine zP ?_ ?_ ?_;exact OA;exact OA) | refine zM rfl ?_ | (refine zQ ?_ ?_ ?_;exact OA;exact OA) | (refine zR ?_ ?_;exact OA) | (refine zI ?_ ?_;exact NA) | (refine zS ?_ ?_ ?_;exact OA;exact OA) | (refine zT ?_ ?_ ?_;exact OA;exact OA) | (refine zU ?_ ?_ ?_;exact OA;exact OA) | (refine zV ?_ ?_ ?_;exact OA;exact OA) | refine PCall.pure (constantsp_c _) (WkT.refl _) ?_ | refine PCall.pure (constantsp_c _) cA ?_ | intro _);conv=>whnf));first | exact PShift.same | exact PShift.lit | exact PShift.ep)) | (refine zW ?_ ?_;exact gA) | refine zH rfl ?_ | refine zA ?_ | refine zI bA ?_ | refine zI rfl ?_ | refine zJ rfl rfl ?_ | refine zB ?_ | refine zK rfl ?_ | refine zL rfl ?_ | refine zC ?_ | (refine zO ?_ ?_ ?_;omega;omega) | (refine zP ?_ ?_ ?_;omega;omega) | refine zM rfl ?_ | (refine zQ ?_ ?_ ?_;omega;omega) | (refine zR ?_ ?_;omega) | (refine zI ?_ ?_;exact nA) | (refine zS ?_ ?_ ?_;omega;omega) | (refine zT ?_ ?_ ?_;omega;omega) | (refine zU ?_ ?_ ?_;omega;omega) | (refine zV ?_ ?_ ?_;omega;omega) | refine PCall.pure (constantsp_c _) (WkT.refl _) ?_ | refine PCall.pure (constantsp_c _) cA ?_ | refine zN rfl rfl rfl ?_ | refine zD ?_ | refine zE ?_ | refine zF ?_ | intro _ | refine zG ?_);conv=>whnf) | (refine zX (fun hc => ?_) (fun hc => ?_)<;>(try simp only [SY] at hc)<;>first | omega | (conv=>whnf)))
      · rw [hs, if_neg (by simp only [SS]; omega), if_neg (by rw [hc, hall]; simp)]
        exact PRet.pure (Wk.refl _)
      · rw [hs, if_neg (by simp only [SS]; omega), if_pos (by rw [hc, hall]; rfl)]
        exact PRet.pure (Wk.refl _)
    · conv => whnf
      rw [hs, if_neg (by simp only [SS]; omega), if_neg (by simp only [Bool.not_not] at hg; rw [hg]; simp)]
      exact PRet.pure (Wk.refl _)
end Go.Cb
namespace Go.Cb
open Go.Proofs
set_option maxRecDepth 100000
set_option maxHeartbeats 4000000
theorem check_eq (p : Prog) (level : Int) : checkP p level = checkD p level := by
  unfold checkP checkD
  have hr : (fun d : Datum => d.rightP 0) = fun d => d.rightD 0 := by funext d; exact right_eq d 0
  by_cases h : (decide (level < 0) || decide (level > 2)) = true
  · rw [if_pos h, if_pos (by simp at h ⊢; omega)]
  · rw [if_neg h, if_neg (by simp at h ⊢; omega), hr, ck_eq _ _ _ _ (by simp at h; omega) (by simp at h; omega)]
end Go.Cb
namespace Go.Cb
open Go.Proofs
set_option maxRecDepth 100000
set_option maxHeartbeats 4000000
def oneP : Prog := ⟨[.mk 0 1 1 [] []], .mk 4 0 [3] [.mk 1 3 [] []]⟩
def twoP : Prog := ⟨[], .mk 1 3 [] []⟩
theorem Wk.rowTok {s : Nat} {es fs : List PV} {tk : Option Tok} (h : WkR es fs) : Wk (.sl s es tk) (.sl s fs none) := Wk.trans (Wk.tok _ _ _) (Wk.row h)
theorem wkRef : Wk (.agg [.int .i64 1, .int .i64 3, .nil, .nil]) (.agg [.int .i64 1, .int .i64 3, .sl 1 [] none, .sl 4 [] none]) := Wk.agg (.cons (Wk.refl _) (.cons (Wk.refl _) (.cons (Wk.nil' rfl) (.cons (Wk.nil' rfl) .nil))))
theorem one_check (t1 t2 t3 : Tok) : ACallP Tryz.prog 18 [.agg [.sl 5 [.agg [.int .i64 0, .int .i64 1, .int .i64 1, .str [], .nil]] (some t1), .int .i64 4, .int .i64 0, .sl 1 [.int .i64 3] (some t2), .sl 4 [.agg [.int .i64 1, .int .i64 3, .nil, .nil]] (some t3)], .int .i64 0] (.int .i64 0) := by
  have h := checkp_c oneP 0 (by decide) (by decide)
  rw [show checkP oneP 0 = 0 by decide] at h
  refine ACall.wk h (.cons (Wk.agg (.cons (Wk.rowTok ?_) (.cons (Wk.refl _) (.cons (Wk.refl _) (.cons (Wk.tok _ _ _) (.cons (Wk.rowTok ?_) .nil)))))) (WkT.refl _))
  · exact .cons (.cons (Wk.refl _) (.cons (Wk.refl _) (.cons (Wk.refl _) (.cons (Wk.refl _) (.cons (Wk.nil' rfl) .nil))))) .nil
  · exact .cons (.cons (Wk.refl _) (.cons (Wk.refl _) (.cons (Wk.nil' rfl) (.cons (Wk.nil' rfl) .nil)))) .nil
theorem two_check : ACallP Tryz.prog 18 [.agg [.nil, .int .i64 1, .int .i64 3, .nil, .nil], .int .i64 0] (.int .i64 5) := by
  have h := checkp_c twoP 0 (by decide) (by decide)
  rw [show checkP twoP 0 = 5 by decide] at h
  exact ACall.wk h (.cons (Wk.agg (.cons (Wk.nil' rfl) (.cons (Wk.refl _) (.cons (Wk.refl _) (.cons (Wk.nil' rfl) (.cons (Wk.nil' rfl) .nil)))))) (WkT.refl _))
theorem one_size (t2 t3 : Tok) : ACallP Tryz.prog 46 [.agg [.int .i64 4, .int .i64 0, .sl 1 [.int .i64 3] (some t2), .sl 4 [.agg [.int .i64 1, .int .i64 3, .nil, .nil]] (some t3)]] (.int .i64 2) := by
  have h := size_c2 oneP.body (by decide)
  rw [show oneP.body.all.length = 2 by decide] at h
  refine ACall.wk h (.cons (Wk.agg (.cons (Wk.refl _) (.cons (Wk.refl _) (.cons (Wk.tok _ _ _) (.cons (Wk.rowTok ?_) .nil))))) .nil)
  exact .cons (.cons (Wk.refl _) (.cons (Wk.refl _) (.cons (Wk.nil' rfl) (.cons (Wk.nil' rfl) .nil)))) .nil
theorem two_free : ACallP Tryz.prog 21 [.agg [.int .i64 1, .int .i64 3, .nil, .nil]] (.sl 1 (([3] : List Int).map (PV.int .i64)) none) :=
  ACall.wk (free1_c twoP.body 3 (by decide) (by decide)) (.cons wkRef .nil)
theorem awake_c : ACallP Tryz.prog 15 [] (.bool true) := by
  refine ACall.of_body tt_ok Tryz.func15 rfl rfl (n := 33) rfl rfl ?_
  conv => whnf
  repeat ((first | ((first | (apply zY;intro hg) | apply zZ);focus ((conv=>whnf);(repeat ((first | (refine zW ?_ ?_;exact gA) | refine zH rfl ?_ | refine zA ?_ | refine zI bA ?_ | refine zI rfl ?_ | refine zJ rfl rfl ?_ | refine zB ?_ | refine zK rfl ?_ | refine zL rfl ?_ | refine zC ?_ | (refine zO ?_ ?_ ?_;exact OA;exact OA) | (refine zP ?_ ?_ ?_;exact OA;exact OA) | refine zM rfl ?_ | (refine zQ ?_ ?_ ?_;exact OA;exact OA) | (refine zR ?_ ?_;exact OA) | (refine zI ?_ ?_;exact NA) | (refine zS ?_ ?_ ?_;exact OA;exact OA) | (refine zT ?_ ?_ ?_;exact OA;exact OA) | (refine zU ?_ ?_ ?_;exact OA;exact OA) | (refine zV ?_ ?_ ?_;exact OA;exact OA) | refine PCall.pure (one_check _ _ _) (WkT.refl _) ?_ | refine PCall.pure (two_check) (WkT.refl _) ?_ | refine PCall.pure (one_size _ _) (WkT.refl _) ?_ | refine PCall.pure (two_free) (WkT.refl _) ?_ | intro _);conv=>whnf));first | exact PShift.same | exact PShift.lit | exact PShift.ep)) | (refine zW ?_ ?_;exact gA) | refine zH rfl ?_ | refine zA ?_ | refine zI bA ?_ | refine zI rfl ?_ | refine zJ rfl rfl ?_ | refine zB ?_ | refine zK rfl ?_ | refine zL rfl ?_ | refine zC ?_ | (refine zO ?_ ?_ ?_;omega;omega) | (refine zP ?_ ?_ ?_;omega;omega) | refine zM rfl ?_ | (refine zQ ?_ ?_ ?_;omega;omega) | (refine zR ?_ ?_;omega) | (refine zI ?_ ?_;exact nA) | (refine zS ?_ ?_ ?_;omega;omega) | (refine zT ?_ ?_ ?_;omega;omega) | (refine zU ?_ ?_ ?_;omega;omega) | (refine zV ?_ ?_ ?_;omega;omega) | refine PCall.pure (one_check _ _ _) (WkT.refl _) ?_ | refine PCall.pure (two_check) (WkT.refl _) ?_ | refine PCall.pure (one_size _ _) (WkT.refl _) ?_ | refine PCall.pure (two_free) (WkT.refl _) ?_ | refine zN rfl rfl rfl ?_ | refine zD ?_ | refine zE ?_ | refine zF ?_ | intro _);conv=>whnf)
  conv => whnf
  repeat' (first | ((first | ((first | (apply zY;intro hg) | apply zZ);focus ((conv=>whnf);(repeat ((first | (refine zW ?_ ?_;exact gA) | refine zH rfl ?_ | refine zA ?_ | refine zI bA ?_ | refine zI rfl ?_ | refine zJ rfl rfl ?_ | refine zB ?_ | refine zK rfl ?_ | refine zL rfl ?_ | refine zC ?_ | (refine zO ?_ ?_ ?_;exact OA;exact OA) | (refine zP ?_ ?_ ?_;exact OA;exact OA) | refine zM rfl ?_ | (refine zQ ?_ ?_ ?_;exact OA;exact OA) | (refine zR ?_ ?_;exact OA) | (refine zI ?_ ?_;exact NA) | (refine zS ?_ ?_ ?_;exact OA;exact OA) | (refine zT ?_ ?_ ?_;exact OA;exact OA) | (refine zU ?_ ?_ ?_;exact OA;exact OA) | (refine zV ?_ ?_ ?_;exact OA;exact OA) | refine PCall.pure (one_check _ _ _) (WkT.refl _) ?_ | refine PCall.pure (two_check) (WkT.refl _) ?_ | refine PCall.pure (one_size _ _) (WkT.refl _) ?_ | refine PCall.pure (two_free) (WkT.refl _) ?_ | intro _);conv=>whnf));first | exact PShift.same | exact PShift.lit | exact PShift.ep)) | (refine zW ?_ ?_;exact gA) | refine zH rfl ?_ | refine zA ?_ | refine zI bA ?_ | refine zI rfl ?_ | refine zJ rfl rfl ?_ | refine zB ?_ | refine zK rfl ?_ | refine zL rfl ?_ | refine zC ?_ | (refine zO ?_ ?_ ?_;omega;omega) | (refine zP ?_ ?_ ?_;omega;omega) | refine zM rfl ?_ | (refine zQ ?_ ?_ ?_;omega;omega) | (refine zR ?_ ?_;omega) | (refine zI ?_ ?_;exact nA) | (refine zS ?_ ?_ ?_;omega;omega) | (refine zT ?_ ?_ ?_;omega;omega) | (refine zU ?_ ?_ ?_;omega;omega) | (refine zV ?_ ?_ ?_;omega;omega) | refine PCall.pure (one_check _ _ _) (WkT.refl _) ?_ | refine PCall.pure (two_check) (WkT.refl _) ?_ | refine PCall.pure (one_size _ _) (WkT.refl _) ?_ | refine PCall.pure (two_free) (WkT.refl _) ?_ | refine zN rfl rfl rfl ?_ | refine zD ?_ | refine zE ?_ | refine zF ?_ | intro _ | refine zG ?_);conv=>whnf) | (refine zX (fun hc => ?_) (fun hc => ?_)<;>(try simp only [SY] at hc)<;>first | omega | (conv=>whnf)))
  exact PRet.pure (Wk.bool rfl)
theorem few_c (t : Trm) (n : Int) (h0 : 0 ≤ n) (h1 : n ≤ 1000000000) : ACallP Tryz.prog 16 [.agg t.cells, .int .i64 n] (.bool (decide (0 ≤ t.few n))) := by
  refine ACall.of_body tt_ok Tryz.func16 rfl rfl (n := 8) rfl rfl ?_
  conv => whnf
  repeat ((first | ((first | (apply zY;intro hg) | apply zZ);focus ((conv=>whnf);(repeat ((first | (refine zW ?_ ?_;exact gA) | refine zH rfl ?_ | refine zA ?_ | refine zI bA ?_ | refine zI rfl ?_ | refine zJ rfl rfl ?_ | refine zB ?_ | refine zK rfl ?_ | refine zL rfl ?_ | refine zC ?_ | (refine zO ?_ ?_ ?_;exact OA;exact OA) | (refine zP ?_ ?_ ?_;exact OA;exact OA) | refine zM rfl ?_ | (refine zQ ?_ ?_ ?_;exact OA;exact OA) | (refine zR ?_ ?_;exact OA) | (refine zI ?_ ?_;exact NA) | (refine zS ?_ ?_ ?_;exact OA;exact OA) | (refine zT ?_ ?_ ?_;exact OA;exact OA) | (refine zU ?_ ?_ ?_;exact OA;exact OA) | (refine zV ?_ ?_ ?_;exact OA;exact OA) | refine PCall.pure (FewTrm_c t n h0 h1) (WkT.refl _) ?_ | refine PCall.pure (FewTrm_c t n h0 h1) cA ?_ | intro _);conv=>whnf));first | exact PShift.same | exact PShift.lit | exact PShift.ep)) | (refine zW ?_ ?_;exact gA) | refine zH rfl ?_ | refine zA ?_ | refine zI bA ?_ | refine zI rfl ?_ | refine zJ rfl rfl ?_ | refine zB ?_ | refine zK rfl ?_ | refine zL rfl ?_ | refine zC ?_ | (refine zO ?_ ?_ ?_;omega;omega) | (refine zP ?_ ?_ ?_;omega;omega) | refine zM rfl ?_ | (refine zQ ?_ ?_ ?_;omega;omega) | (refine zR ?_ ?_;omega) | (refine zI ?_ ?_;exact nA) | (refine zS ?_ ?_ ?_;omega;omega) | (refine zT ?_ ?_ ?_;omega;omega) | (refine zU ?_ ?_ ?_;omega;omega) | (refine zV ?_ ?_ ?_;omega;omega) | refine PCall.pure (FewTrm_c t n h0 h1) (WkT.refl _) ?_ | refine PCall.pure (FewTrm_c t n h0 h1) cA ?_ | refine zN rfl rfl rfl ?_ | refine zD ?_ | refine zE ?_ | refine zF ?_ | intro _);conv=>whnf)
  conv => whnf
  repeat' (first | ((first | ((first | (apply zY;intro hg) | apply zZ);focus ((conv=>whnf);(repeat ((first | (refine zW ?_ ?_;exact gA) | refine zH rfl ?_ | refine zA ?_ | refine zI bA ?_ | refine zI rfl ?_ | refine zJ rfl rfl ?_ | refine zB ?_ | refine zK rfl ?_ | refine zL rfl ?_ | refine zC ?_ | (refine zO ?_ ?_ ?_;exact OA;exact OA) | (refine zP ?_ ?_ ?_;exact OA;exact OA) | refine zM rfl ?_ | (refine zQ ?_ ?_ ?_;exact OA;exact OA) | (refine zR ?_ ?_;exact OA) | (refine zI ?_ ?_;exact NA) | (refine zS ?_ ?_ ?_;exact OA;exact OA) | (refine zT ?_ ?_ ?_;exact OA;exact OA) | (refine zU ?_ ?_ ?_;exact OA;exact OA) | (refine zV ?_ ?_ ?_;exact OA;exact OA) | refine PCall.pure (FewTrm_c t n h0 h1) (WkT.refl _) ?_ | refine PCall.pure (FewTrm_c t n h0 h1) cA ?_ | intro _);conv=>whnf));first | exact PShift.same | exact PShift.lit | exact PShift.ep)) | (refine zW ?_ ?_;exact gA) | refine zH rfl ?_ | refine zA ?_ | refine zI bA ?_ | refine zI rfl ?_ | refine zJ rfl rfl ?_ | refine zB ?_ | refine zK rfl ?_ | refine zL rfl ?_ | refine zC ?_ | (refine zO ?_ ?_ ?_;omega;omega) | (refine zP ?_ ?_ ?_;omega;omega) | refine zM rfl ?_ | (refine zQ ?_ ?_ ?_;omega;omega) | (refine zR ?_ ?_;omega) | (refine zI ?_ ?_;exact nA) | (refine zS ?_ ?_ ?_;omega;omega) | (refine zT ?_ ?_ ?_;omega;omega) | (refine zU ?_ ?_ ?_;omega;omega) | (refine zV ?_ ?_ ?_;omega;omega) | refine PCall.pure (FewTrm_c t n h0 h1) (WkT.refl _) ?_ | refine PCall.pure (FewTrm_c t n h0 h1) cA ?_ | refine zN rfl rfl rfl ?_ | refine zD ?_ | refine zE ?_ | refine zF ?_ | intro _ | refine zG ?_);conv=>whnf) | (refine zX (fun hc => ?_) (fun hc => ?_)<;>(try simp only [SY] at hc)<;>first | omega | (conv=>whnf)))
  exact PRet.pure (Wk.refl _)
end Go.Cb
namespace Go.Cb
open Go.RowKit (Below)
open Go.ChangeShapes
def Fz.of (w : World) : Fz := fun b o => w.cell? ⟨b, o, none⟩
theorem Sim.start (w : World) : Sim w (Fz.of w) [] w := ⟨Below.refl _ w, fun _ _ _ h => h, by simp, .nil⟩
theorem choose_list {α : Type} {p : Nat → α → Prop} : ∀ {n : Nat}, (∀ i, i < n → ∃ a, p i a) → ∃ l : List α, l.length = n ∧ ∀ i a, l[i]? = some a → p i a
  | 0, _ => ⟨[], rfl, by simp⟩
  | n + 1, h => by
    obtain ⟨l, h1, h2⟩ := choose_list (n := n) fun i hi => h i (by omega)
    obtain ⟨a, ha⟩ := h n (by omega)
    refine ⟨l ++ [a], by simp [h1], fun i b hb => ?_⟩
    by_cases hi : i < l.length
    · rw [List.getElem?_append_left hi] at hb; exact h2 i b hb
    · rw [List.getElem?_append_right (by omega)] at hb
      have h0 : i - l.length = 0 := by
        rcases Nat.eq_zero_or_pos (i - l.length) with h | h
        · exact h
        · rw [List.getElem?_eq_none (by simp; omega)] at hb; cases hb
      rw [h0] at hb
      simp at hb
      obtain rfl : i = n := by omega
      rwa [← hb]
section
variable {H : Type} {enc : TypeId × Value → H} {P : Program} {w : World} {UB : DataW H → Nat} {UBs : List (DataW H) → Nat}
structure Bulk (UB : DataW H → Nat) (UBs : List (DataW H) → Nat) : Prop where
  nil : UBs [] = 0
  cons : ∀ x l, UBs (x :: l) = UB x + UBs l
  agg : ∀ l, 1 + UBs l ≤ UB (.agg l)
  slice : ∀ l m, 1 + UBs l ≤ UB (.slice l m)
  str : ∀ s, s.length + 1 ≤ UB (.lit (.string s))
  pos : ∀ d, 1 ≤ UB d
def Rd {α : Type} (enc : TypeId × Value → H) (P : Program) (w : World) (UB : DataW H → Nat) (n : Nat) (t : TypeId) (cells : α → List PV) (bk : α → Nat) : Prop :=
  ∀ cs x, DataW.trod enc P w 0 (fun _ => true) true n t cs = some x → ∃ a : α, RepL (Fz.of w) (cells a) cs ∧ bk a ≤ UB x.1
theorem rd_int (hB : Bulk UB UBs) {t : TypeId} {k : IntKind} (ht : P.underlying t = some (.int k)) (n : Nat) : Rd enc P w UB n t (fun n : Int => [.int k n]) fun _ => 1 := by
  intro cs x h
  obtain ⟨m, rfl, rfl, _⟩ := DataW.trod_int ht h
  exact ⟨m, by simp only [RepL, Rep, and_true]; exact rfl, hB.pos _⟩
theorem rd_bool (hB : Bulk UB UBs) {t : TypeId} (ht : P.underlying t = some .bool) (n : Nat) : Rd enc P w UB n t (fun n : Bool => [.bool n]) fun _ => 1 := by
  intro cs x h
  obtain ⟨m, rfl, rfl⟩ := DataW.trod_bool ht h
  exact ⟨m, by simp only [RepL, Rep, and_true]; exact rfl, hB.pos _⟩
theorem rd_str (hB : Bulk UB UBs) {t : TypeId} (ht : P.underlying t = some .string) (n : Nat) : Rd enc P w UB n t (fun s : List UInt8 => [.str s]) fun s => s.length := by
  intro cs x h
  obtain ⟨s, rfl, rfl, hs⟩ := DataW.trod_string ht h
  refine ⟨s.data.toList, ?_, by have := hB.str s.data.toList; show s.data.toList.length ≤ UB (.lit (.string s.data.toList)); omega⟩
  have : s.data.toList.length ≤ 9223372036854775807 := by
    have h1 : s.data.toList.length = s.size := Array.length_toList
    have h2 : maxLen ≤ 9223372036854775807 := by simp only [maxLen]; omega
    omega
  exact RepL_cons.2 ⟨⟨rfl, by unfold Rep; exact ⟨rfl, this⟩⟩, RepL_nil _⟩
theorem rep_row {α : Type} {pv : α → PV} {cells : α → List PV} [c : CellsOf pv cells] {s b o : Nat} (hs : ∀ a, (cells a).length = s) : ∀ (l : List α) (i : Nat),
    (∀ j a, l[j]? = some a → ∃ cs, w.cells? 0 ((⟨b, o, none⟩ : Addr).add ((i + j) * s)) s = some cs ∧ RepL (Fz.of w) (cells a) cs) → RepRow (Fz.of w) s b (o + i * s) (l.map pv)
  | [], _, _ => by simp [RepRow]
  | a :: l, i, h => by
    rw [List.map_cons, RepRow_cons]
    obtain ⟨cs, h1, h2⟩ := h 0 a rfl
    obtain ⟨_, h3, h4⟩ := World.cells?_some h1
    refine ⟨⟨by rw [c.eq]; exact hs a, ?_⟩, ?_⟩
    · rw [c.eq, RepCells_iff]
      refine ⟨cs, h2, fun j u hu => ?_⟩
      have hj : j < cs.length := by
        rcases Nat.lt_or_ge j cs.length with h | h
        · exact h
        · rw [List.getElem?_eq_none h] at hu; cases hu
      have := h4 j (by omega)
      rw [hu, Addr.add_lit, Addr.add_lit] at this
      simpa [Fz.of] using this
    · have := rep_row (pv := pv) hs l (i + 1) fun j a ha => by
        have := h (j + 1) a (by simpa using ha)
        rwa [show i + (j + 1) = i + 1 + j by omega] at this
      rwa [show o + (i + 1) * s = o + i * s + s by rw [Nat.succ_mul]; omega] at this
def sumBk {α : Type} (bk : α → Nat) : List α → Nat
  | [] => 0
  | a :: l => bk a + sumBk bk l
theorem sumBk_le (hB : Bulk UB UBs) {α : Type} {bk : α → Nat} : ∀ (l : List α) (ds : List (DataW H)), l.length ≤ ds.length → (∀ (i : Nat) (a : α) (d : DataW H), l[i]? = some a → ds[i]? = some d → bk a ≤ UB d) → sumBk bk l ≤ UBs ds
  | [], _, _, _ => by simp [sumBk]
  | a :: l, [], h, _ => by simp at h
  | a :: l, d :: ds, h, k => by
    rw [sumBk, hB.cons]
    have h1 := k 0 a d rfl rfl
    have h2 := sumBk_le hB l ds (by simpa using h) fun i a d ha hd => k (i + 1) a d (by simpa using ha) (by simpa using hd)
    omega
theorem rd_slice (hB : Bulk UB UBs) {n : Nat} {t e : TypeId} (ht : P.underlying t = some (.slice e)) {s : Nat} (hs : P.cellsOf e = s) (hp : 0 < s) {α : Type} {pv : α → PV} {cells : α → List PV} [c : CellsOf pv cells] {bk : α → Nat}
    (hc : ∀ a, (cells a).length = s) (he : ∀ m, m < n → Rd enc P w UB m e cells bk) : Rd enc P w UB n t (fun l : List α => [.sl s (l.map pv) none]) fun l => 1 + sumBk bk l := by
  intro cs x h
  rcases DataW.trod_slice ht h with ⟨rfl, rfl⟩ | ⟨a, len, cap, elems, rest, m, rfl, rfl, rfl, _, hlc, hcm, hel, hx, hr, _⟩
  · refine ⟨[], ?_, by have := hB.pos (DataW.nil : DataW H); simpa [sumBk] using this⟩
    exact RepL_cons.2 ⟨⟨rfl, by unfold Rep; exact ⟨by simp, .inl ⟨rfl, rfl⟩⟩⟩, RepL_nil _⟩
  · have hx' : ∀ i, i < len → ∃ a' : α, ∃ cs d, elems[i]? = some d ∧ w.cells? 0 (a.add (i * s)) s = some cs ∧ RepL (Fz.of w) (cells a') cs ∧ bk a' ≤ UB d.1 := by
      intro i hi
      have h1 := hx i hi
      have h2 : elems[i]? = some elems[i] := List.getElem?_eq_getElem (by omega)
      rw [h2, hs] at h1
      obtain ⟨cs, h3, h4⟩ := Option.bind_eq_some_iff.1 h1
      obtain ⟨a', h5, h6⟩ := he m (by omega) cs _ h4
      exact ⟨a', cs, _, h2, h3, h5, h6⟩
    obtain ⟨l, hl, hl2⟩ := choose_list hx'
    have hcount : 1 + sumBk bk l ≤ UB (.slice (elems.map (·.1)) (rest.map (·.1))) := by
      have := sumBk_le hB (bk := bk) l (elems.map (·.1)) (by simp; omega) (by
        intro i a' d ha hd
        obtain ⟨_, d', h2, _, _, h5⟩ := hl2 i a' ha
        rw [List.getElem?_map, h2] at hd
        simp at hd
        rw [← hd]; exact h5)
      have := hB.slice (elems.map (·.1)) (rest.map (·.1))
      omega
    refine ⟨l, ?_, hcount⟩
    refine RepL_cons.2 ⟨⟨rfl, ?_⟩, RepL_nil _⟩
    unfold Rep
    refine ⟨fun t ht => (by cases ht), ?_⟩
    by_cases h0 : cap = 0
    · subst h0
      obtain rfl : len = 0 := by omega
      have : l = [] := List.eq_nil_of_length_eq_zero hl
      subst this
      exact .inr (.inr ⟨rfl, a, rfl⟩)
    ·
      have hsp : a.spot = none := by
        have h1 : ∃ cs, w.cells? 0 a s = some cs := by
          by_cases h2 : 0 < len
          · obtain ⟨_, cs, _, _, h3, _⟩ := hx' 0 h2
            exact ⟨cs, by simpa [Addr.add] using h3⟩
          · obtain ⟨h3, h4⟩ := hr rfl
            have h5 := h4 0 (by omega)
            have h6 : rest[0]? = some (rest[0]'(by omega)) := List.getElem?_eq_getElem (by omega)
            rw [h6, hs] at h5
            obtain ⟨cs, h7, _⟩ := Option.bind_eq_some_iff.1 h5
            have : len = 0 := by omega
            subst this
            exact ⟨cs, by simpa [Addr.add] using h7⟩
        obtain ⟨cs, h1⟩ := h1
        obtain ⟨_, h3, h4⟩ := World.cells?_some h1
        have h5 := h4 0 hp
        have h6 : cs[0]? = some (cs[0]'(by omega)) := List.getElem?_eq_getElem (by omega)
        rw [h6] at h5
        simp only [Addr.add, if_true, World.cell?] at h5
        split at h5
        · split at h5
          · cases h5
          · rename_i hn; simpa using hn
        · cases h5
      obtain ⟨b, o, sp⟩ := a
      simp only at hsp
      subst hsp
      refine .inr (.inl ⟨b, o, cap, by simp [hl], by simp; omega, hcm, by simp, ?_⟩)
      have := rep_row (pv := pv) (w := w) (b := b) (o := o) hc l 0 fun j a' ha => by
        obtain ⟨cs, _, _, h3, h4, _⟩ := hl2 j a' ha
        exact ⟨cs, by simpa using h3, h4⟩
      simpa using this
end
section
variable {H : Type} {enc : TypeId × Value → H} {P : Program} {w : World} {UB : DataW H → Nat} {UBs : List (DataW H) → Nat}
theorem repL_cat {F : Fz} {ps bs : List PV} {cs : List Value} {o s : Nat} (h1 : RepL F ps ((cs.drop o).take s)) (h2 : RepL F bs (cs.drop (o + s))) : RepL F (ps ++ bs) (cs.drop o) := by
  have := RepL_append h1 h2
  rwa [← List.drop_drop, List.take_append_drop] at this
theorem rd_field {α : Type} {n o s : Nat} {t : TypeId} {cells : α → List PV} {bk : α → Nat} (hR : Rd enc P w UB n t cells bk) {fs : Array Field} {cs : List Value} {xs : List (DataW H × List MemPlace)} (hlen : xs.length = fs.size)
    (hf : ∀ (i : Nat) (f : Field), fs[i]? = some f → DataW.trod enc P w 0 (fun _ => true) true n f.type ((cs.drop f.offset).take (P.cellsOf f.type)) = xs[i]?) (i : Nat) (h : (fs.toList.map fun f => (f.type, f.offset))[i]? = some (t, o)) (hs : P.cellsOf t = s) :
    ∃ a y, xs[i]? = some y ∧ RepL (Fz.of w) (cells a) ((cs.drop o).take s) ∧ bk a ≤ UB y.1 := by
  rw [List.getElem?_map] at h
  obtain ⟨f, hfi, hft⟩ := Option.map_eq_some_iff.1 h
  rw [Array.getElem?_toList] at hfi
  simp only [Prod.mk.injEq] at hft
  obtain ⟨rfl, rfl⟩ := hft
  have h1 := hf i f hfi
  have hi : i < xs.length := by rw [hlen]; exact (Array.getElem?_eq_some_iff.1 hfi).1
  have h2 : xs[i]? = some xs[i] := List.getElem?_eq_getElem hi
  rw [h2] at h1
  obtain ⟨a, h3, h4⟩ := hR _ _ h1
  exact ⟨a, _, h2, by rw [← hs]; exact h3, h4⟩
theorem arg_struct {α : Type} {t : TypeId} {cells : α → List PV} {bk : α → Nat} {fs : Array Field} (hs : P.underlying t = some (.struct fs)) (hR : ∀ n, Rd enc P w UB n t cells bk) {r : Reach} {b0 : Nat} {v : Value} {d : DataW H} {p : List MemPlace}
    (hv : Value.okWide P w r b0 t v) (h : DataW.Trod enc P w 0 (fun _ => true) true t v d p) : ∃ a, Rep (Fz.of w) (.agg (cells a)) v ∧ bk a ≤ UB d := by
  obtain ⟨cs, rfl, _⟩ := Go.WideShapes.okWide_struct hs hv
  obtain ⟨fuel, hf⟩ := h
  obtain ⟨a, h1, h2⟩ := hR fuel _ _ hf
  refine ⟨a, ?_, h2⟩
  simp only [Rep]
  exact ⟨cs.toList, by simp, by simpa [Value.cells] using h1⟩
theorem arg_int {t : TypeId} {k : IntKind} (ht : P.underlying t = some (.int k)) {r : Reach} {b0 : Nat} {v : Value} {d : DataW H} {p : List MemPlace} (hv : Value.okWide P w r b0 t v) (h : DataW.Trod enc P w 0 (fun _ => true) true t v d p) :
    ∃ n : Int, Rep (Fz.of w) (.int k n) v ∧ (Lit.int k n).wf = true := by
  obtain ⟨n, rfl, _, _, h4⟩ := open_int ht hv h
  exact ⟨n, by simp only [Rep], h4⟩
theorem arg_str (hB : Bulk UB UBs) {t : TypeId} (ht : P.underlying t = some .string) {r : Reach} {b0 : Nat} {v : Value} {d : DataW H} {p : List MemPlace} (hv : Value.okWide P w r b0 t v) (h : DataW.Trod enc P w 0 (fun _ => true) true t v d p) :
    ∃ s : List UInt8, Rep (Fz.of w) (.str s) v ∧ s.length ≤ UB d := by
  obtain ⟨s, rfl⟩ := Go.WideShapes.okWide_string ht hv
  obtain ⟨fuel, hf⟩ := h
  obtain ⟨a, h1, h2⟩ := rd_str (w := w) (enc := enc) hB ht fuel _ _ hf
  refine ⟨a, ?_, h2⟩
  have : (Value.string s).cells.toList = [.string s] := rfl
  rw [this] at h1
  exact (RepL_cons.1 h1).1.2
theorem trodAll_below (hl : laidOutB P = true) {W W' : World} (hb : Below W.heap.size W W') : ∀ {ts : List TypeId} {vs : List Value} {ds : List (DataW H)} {ps : List MemPlace}, (∀ t ∈ ts, P.readableRec t = true ∧ t < P.types.size) →
    DataW.TrodAll enc P W 0 (fun _ => true) true ts vs ds ps → (∀ x ∈ ps, x.block < W.heap.size) → DataW.TrodAll enc P W' 0 (fun b => decide (b < W.heap.size)) true ts vs ds ps
  | [], _, _, _, _, h, _ => by
    obtain ⟨rfl, rfl, rfl⟩ := trodAll_nil h
    exact trodAll_mk0
  | t :: ts, _, _, _, hr, h, hlt => by
    obtain ⟨v, vs, d, ds, p, q, rfl, rfl, rfl, h1, h2⟩ := trodAll_cons h
    exact trodAll_cons_mk (Go.RowKit.Below.trod hl (hr t (by simp)).1 (hr t (by simp)).2 h1 hb fun x hx => hlt x (by simp [hx])) (trodAll_below hl hb (fun t ht => hr t (by simp [ht])) h2 fun x hx => hlt x (by simp [hx]))
theorem trodAll_len {spare : Nat → Bool} {base : Nat} {held : Bool} : ∀ {ts : List TypeId} {vs : List Value} {ds : List (DataW H)} {ps : List MemPlace}, DataW.TrodAll enc P w base spare held ts vs ds ps → ds.length = ts.length
  | [], _, _, _, h => by obtain ⟨rfl, rfl, rfl⟩ := trodAll_nil h; rfl
  | t :: ts, _, _, _, h => by
    obtain ⟨v, vs, d, ds, p, q, rfl, rfl, rfl, h1, h2⟩ := trodAll_cons h
    simp [trodAll_len h2]
theorem law_post {f : Func} {s : ChangeSpec} {tb : TypeId} {W W' : World} {args : Array Value} {ds gs : List (DataW H)} {before : List MemPlace} (hl : laidOutB P = true) (hr : ∀ t ∈ f.params.toList, P.readableRec t = true ∧ t < P.types.size)
    (hres : f.resultTypes = #[tb]) (hb : P.underlying tb = some .bool) (hv : s.vars = []) (hfn : ∀ ds : List (DataW H), ds.length = f.params.size → s.fn H ds = { results := [.lit (.bool true)], args := ds })
    (hW : DataW.Whole enc P f.params.toList s.vars false W args.toList ds gs before) (hbel : Below W.heap.size W W') : s.post enc P f false true false false W args (.bool true) W' := by
  have hW' := hW
  obtain ⟨p, q, hA, hV, rfl, _, _⟩ := hW
  have hV0 : DataW.TrodVars enc P W (fun _ => true) [] gs q := by rw [← hv]; exact hV
  obtain ⟨rfl, rfl⟩ := trodVars_none hV0
  have hfn' := hfn (ds ++ []) (by rw [List.append_nil, trodAll_len hA]; simp)
  refine ⟨ds, [], p ++ [], [], p, [], hW', ?_, ?_, ?_, hbel.frame _, fun h => by cases h⟩
  · rw [hfn', hres]
    exact trodAll_mk1 (Go.RowKit.shut_bool hb _)
  · rw [hfn', List.append_nil]
    exact trodAll_below hl hbel hr hA fun x hx => hW'.lt x (by simp [hx])
  · rw [hfn', hv]; rfl
end
theorem sumBk_datum : ∀ l : List Datum, sumBk Datum.bulk l = Datum.bulks l
  | [] => rfl
  | x :: l => by rw [sumBk, Datum.bulks, sumBk_datum l]
theorem sumBk_trm : ∀ l : List Trm, sumBk Trm.bulk l = Trm.bulks l
  | [] => rfl
  | x :: l => by rw [sumBk, Trm.bulks, sumBk_trm l]
theorem sumBk_one {α : Type} : ∀ l : List α, sumBk (fun _ => 1) l = l.length
  | [] => rfl
  | x :: l => by rw [sumBk, sumBk_one l, List.length_cons]; omega
section
variable {H : Type} {enc : TypeId × Value → H} {P : Program} {w : World} {UB : DataW H → Nat} {UBs : List (DataW H) → Nat}
theorem repL_end {F : Fz} {cs : List Value} {n : Nat} (h : cs.length = n) : RepL F [] (cs.drop n) := by
  rw [List.drop_of_length_le (by omega)]; exact RepL_nil F
theorem rd_datum (hB : Bulk UB UBs) {tI tS tL tD : TypeId} (hI : P.underlying tI = some (.int .i64)) (hS : P.underlying tS = some .string) (hL : P.underlying tL = some (.slice tD)) {fs : Array Field} (hD : P.underlying tD = some (.struct fs))
    (hfs : (fs.toList.map fun f => (f.type, f.offset)) = [(tI, 0), (tI, 1), (tI, 2), (tS, 3), (tL, 4)]) (cI : P.cellsOf tI = 1) (cS : P.cellsOf tS = 1) (cL : P.cellsOf tL = 1) (cD : P.cellsOf tD = 5) : ∀ n, Rd enc P w UB n tD Datum.cells Datum.bulk := by
  intro n
  induction n using Nat.strongRecOn with
  | ind n ih =>
    intro cs x h
    obtain ⟨xs, m, rfl, rfl, hl, hlen, hf⟩ := DataW.trod_struct hD h
    obtain ⟨a0, y0, e0, r0, _⟩ := rd_field (rd_int (w := w) (enc := enc) hB hI m) hlen hf 0 (by rw [hfs]; rfl) cI
    obtain ⟨a1, y1, e1, r1, _⟩ := rd_field (rd_int (w := w) (enc := enc) hB hI m) hlen hf 1 (by rw [hfs]; rfl) cI
    obtain ⟨a2, y2, e2, r2, _⟩ := rd_field (rd_int (w := w) (enc := enc) hB hI m) hlen hf 2 (by rw [hfs]; rfl) cI
    obtain ⟨a3, y3, e3, r3, b3⟩ := rd_field (rd_str (w := w) (enc := enc) hB hS m) hlen hf 3 (by rw [hfs]; rfl) cS
    obtain ⟨a4, y4, e4, r4, b4⟩ := rd_field (rd_slice (pv := Datum.pv) hB hL cD (by omega) (fun a => rfl) (fun k hk => ih k (by omega))) hlen hf 4 (by rw [hfs]; rfl) cL
    refine ⟨.mk a0 a1 a2 a3 a4, ?_, ?_⟩
    · exact repL_cat r0 (repL_cat r1 (repL_cat r2 (repL_cat r3 (repL_cat r4 (repL_end (hl.trans cD))))))
    · have h5 : xs.length = 5 := by
        have := congrArg List.length hfs
        simp at this; omega
      match xs, h5 with
      | [z0, z1, z2, z3, z4], _ =>
        simp at e3 e4
        subst e3 e4
        have := hB.agg ([z0, z1, z2, z3, z4].map (·.1))
        simp only [List.map_cons, List.map_nil, hB.cons, hB.nil] at this
        rw [sumBk_datum] at b4
        rw [Datum.bulk_eq]
        show 1 + a3.length + Datum.bulks a4 ≤ _
        simp only [List.map_cons, List.map_nil]
        omega
theorem rd_ints (hB : Bulk UB UBs) {tI tV : TypeId} (hI : P.underlying tI = some (.int .i64)) (hV : P.underlying tV = some (.slice tI)) (cI : P.cellsOf tI = 1) (n : Nat) : Rd enc P w UB n tV (fun l : List Int => [.sl 1 (l.map (PV.int .i64)) none]) fun l => 1 + l.length := by
  intro cs x h
  obtain ⟨a, h1, h2⟩ := rd_slice (pv := PV.int .i64) hB hV cI (by omega) (fun a => rfl) (fun k hk => rd_int (w := w) (enc := enc) hB hI k) cs x h
  exact ⟨a, h1, by have := sumBk_one a; show 1 + a.length ≤ _; have h3 : 1 + sumBk (fun _ => 1) a ≤ UB x.1 := h2; omega⟩
theorem rd_trm (hB : Bulk UB UBs) {tI tV tL tT : TypeId} (hI : P.underlying tI = some (.int .i64)) (hV : P.underlying tV = some (.slice tI)) (hL : P.underlying tL = some (.slice tT)) {fs : Array Field} (hT : P.underlying tT = some (.struct fs))
    (hfs : (fs.toList.map fun f => (f.type, f.offset)) = [(tI, 0), (tI, 1), (tV, 2), (tL, 3)]) (cI : P.cellsOf tI = 1) (cV : P.cellsOf tV = 1) (cL : P.cellsOf tL = 1) (cT : P.cellsOf tT = 4) : ∀ n, Rd enc P w UB n tT Trm.cells Trm.bulk := by
  intro n
  induction n using Nat.strongRecOn with
  | ind n ih =>
    intro cs x h
    obtain ⟨xs, m, rfl, rfl, hl, hlen, hf⟩ := DataW.trod_struct hT h
    obtain ⟨a0, y0, e0, r0, _⟩ := rd_field (rd_int (w := w) (enc := enc) hB hI m) hlen hf 0 (by rw [hfs]; rfl) cI
    obtain ⟨a1, y1, e1, r1, _⟩ := rd_field (rd_int (w := w) (enc := enc) hB hI m) hlen hf 1 (by rw [hfs]; rfl) cI
    obtain ⟨a2, y2, e2, r2, b2⟩ := rd_field (rd_ints (w := w) (enc := enc) hB hI hV cI m) hlen hf 2 (by rw [hfs]; rfl) cV
    obtain ⟨a3, y3, e3, r3, b3⟩ := rd_field (rd_slice (pv := Trm.pv) hB hL cT (by omega) (fun a => rfl) (fun k hk => ih k (by omega))) hlen hf 3 (by rw [hfs]; rfl) cL
    refine ⟨.mk a0 a1 a2 a3, ?_, ?_⟩
    · exact repL_cat r0 (repL_cat r1 (repL_cat r2 (repL_cat r3 (repL_end (hl.trans cT)))))
    · have h5 : xs.length = 4 := by
        have := congrArg List.length hfs
        simp at this; omega
      match xs, h5 with
      | [z0, z1, z2, z3], _ =>
        simp at e2 e3
        subst e2 e3
        have := hB.agg ([z0, z1, z2, z3].map (·.1))
        simp only [List.map_cons, List.map_nil, hB.cons, hB.nil] at this
        rw [sumBk_trm] at b3
        rw [Trm.bulk_eq]
        show 1 + a2.length + Trm.bulks a3 ≤ _
        simp only [List.map_cons, List.map_nil]
        omega
end
end Go.Cb
namespace Go.Cb
open Go.Proofs Go.Proofs.YtpkgembbjlebcaaGreatDoor
open Go.RowKit (Below)
theorem uptoOne {H : Type} (d : DataW H) : 1 ≤ Rows.uptoBulk d := by
  cases d with
  | lit l => cases l <;> simp [Rows.uptoBulk]
  | nil => simp [Rows.uptoBulk]
  | ptr d => simp [Rows.uptoBulk]
  | slice elems spare => simp [Rows.uptoBulk]
  | agg parts => simp [Rows.uptoBulk]
  | iface t d => simp [Rows.uptoBulk]
  | map entries => simp [Rows.uptoBulk]
  | held h => simp [Rows.uptoBulk]
theorem bulkR {H : Type} : Bulk (H := H) Rows.uptoBulk Rows.uptoBulkAll where
  nil := by simp [Rows.uptoBulkAll]
  cons x l := by simp [Rows.uptoBulkAll]
  agg l := by simp [Rows.uptoBulk]; omega
  slice l m := by simp [Rows.uptoBulk]; omega
  str s := by simp [Rows.uptoBulk]
  pos d := uptoOne d
section
variable {H : Type} {enc : TypeId × Value → H} {w : World}
theorem cInt : Tryz.prog.cellsOf 3 = 1 := by kernel_rfl
theorem cStr : Tryz.prog.cellsOf 9 = 1 := by kernel_rfl
theorem cBool : Tryz.prog.cellsOf 4 = 1 := by kernel_rfl
theorem cInts : Tryz.prog.cellsOf 23 = 1 := by kernel_rfl
theorem cDs : Tryz.prog.cellsOf 22 = 1 := by kernel_rfl
theorem cTs : Tryz.prog.cellsOf 24 = 1 := by kernel_rfl
theorem cD : Tryz.prog.cellsOf 35 = 5 := by kernel_rfl
theorem cT : Tryz.prog.cellsOf 26 = 4 := by kernel_rfl
theorem cP : Tryz.prog.cellsOf 28 = 5 := by kernel_rfl
theorem rdD (n : Nat) : Rd enc Tryz.prog w Rows.uptoBulk n 35 Datum.cells Datum.bulk :=
  rd_datum bulkR Tryz.underlying3 Tryz.underlying9 Tryz.underlying22 Tryz.underlying35 rfl cInt cStr cDs cD n
theorem rdT (n : Nat) : Rd enc Tryz.prog w Rows.uptoBulk n 26 Trm.cells Trm.bulk :=
  rd_trm bulkR Tryz.underlying3 Tryz.underlying23 Tryz.underlying24 Tryz.underlying26 rfl cInt cInts cTs cT n
theorem rdDs (n : Nat) : Rd enc Tryz.prog w Rows.uptoBulk n 22 (fun l : List Datum => [.sl 5 (l.map Datum.pv) none]) fun l => 1 + Datum.bulks l := by
  intro cs x h
  obtain ⟨a, h1, h2⟩ := rd_slice (pv := Datum.pv) bulkR Tryz.underlying22 cD (by omega) (fun a => rfl) (fun k hk => rdD (w := w) (enc := enc) k) cs x h
  have h3 : 1 + sumBk Datum.bulk a ≤ Rows.uptoBulk x.1 := h2
  rw [sumBk_datum] at h3
  exact ⟨a, h1, h3⟩
def Prog.bulk (p : Prog) : Nat := Datum.bulks p.consts + p.body.bulk
theorem rdP (n : Nat) : Rd enc Tryz.prog w Rows.uptoBulk n 28 Prog.cells Prog.bulk := by
  intro cs x h
  obtain ⟨xs, m, rfl, rfl, hl, hlen, hf⟩ := DataW.trod_struct Tryz.underlying28 h
  obtain ⟨a0, y0, e0, r0, b0⟩ := rd_field (rdDs (w := w) (enc := enc) m) hlen hf 0 rfl cDs
  obtain ⟨a1, y1, e1, r1, b1⟩ := rd_field (rdT (w := w) (enc := enc) m) hlen hf 1 rfl cT
  refine ⟨⟨a0, a1⟩, ?_, ?_⟩
  · have := repL_cat r0 (repL_cat r1 (repL_end (hl.trans cP)))
    rwa [List.append_nil] at this
  · match xs, hlen with
    | [z0, z1], _ =>
      simp at e0 e1
      subst e0 e1
      have := (bulkR (H := H)).agg ([z0, z1].map (·.1))
      simp only [List.map_cons, List.map_nil, (bulkR (H := H)).cons, (bulkR (H := H)).nil] at this
      show Datum.bulks a0 + a1.bulk ≤ _
      simp only [List.map_cons, List.map_nil]
      omega
theorem okI : Tryz.prog.readableRec 3 = true ∧ 3 < Tryz.prog.types.size := ⟨by kernel_rfl, of_decide_eq_true (by kernel_rfl)⟩
theorem okP : Tryz.prog.readableRec 28 = true ∧ 28 < Tryz.prog.types.size := ⟨by kernel_rfl, of_decide_eq_true (by kernel_rfl)⟩
theorem okT : Tryz.prog.readableRec 26 = true ∧ 26 < Tryz.prog.types.size := ⟨by kernel_rfl, of_decide_eq_true (by kernel_rfl)⟩
theorem okD : Tryz.prog.readableRec 35 = true ∧ 35 < Tryz.prog.types.size := ⟨by kernel_rfl, of_decide_eq_true (by kernel_rfl)⟩
theorem calls_true {f : FuncId} {args : List PV} {vs : List Value} {W : World} (h : ACallP Tryz.prog f args (.bool true)) (hr : RepT (Fz.of W) args vs) : Calls Tryz.prog f vs.toArray W fun e W' => e = .returned (.bool true) ∧ Below W.heap.size W W' := by
  refine (h.2 W (Fz.of W) [] W vs (Sim.start W) hr).mono ?_
  rintro e W' ⟨v, F', y, Γ', rfl, _, hS, hR, rfl⟩
  exact ⟨by rw [show v = .bool true by simpa only [Rep] using hR], hS.below⟩
end
end Go.Cb
namespace Go.Cb
open Go.Proofs Go.Proofs.YtpkgembbjlebcaaGreatDoor
mutual
def cellsD : DataW Unit → List Value
  | .lit (.int k n) => [.int k n]
  | .lit (.bool b) => [.bool b]
  | .lit (.string s) => [.string ⟨s.toArray⟩]
  | .agg l => cellsDs l
  | _ => []
def cellsDs : List (DataW Unit) → List Value
  | [] => []
  | d :: l => cellsD d ++ cellsDs l
end
def newBlocks (e : TypeId) : List (String × DataW Unit) → List Obj
  | [] => []
  | (_, .iface _ (.ptr d)) :: l => .cells (cellsD d).toArray e :: newBlocks e l
  | _ :: l => newBlocks e l
def putCs (h : Array Obj) (g : Option Nat) (cs : Array Value) : Array Obj := match g with
  | some g => h.modify g fun
    | .cells _ t frozen => .cells cs t frozen
    | o => o
  | none => h
def layAll (P : Program) (p : TypeId) : List (String × DataW Unit) → Nat → Array Obj → Array Obj
  | [], _, h => h
  | (n, .iface _ _) :: l, k, h => layAll P p l (k + 1) (putCs h (P.globalNamed n) #[.iface p (.pointer (some ⟨k, 0, none⟩))])
  | (n, d) :: l, k, h => layAll P p l k (putCs h (P.globalNamed n) (cellsD d).toArray)
noncomputable def laidWorld (os : Os) : World :=
  let w0 := World.holding Tryz.prog os ⟨(newBlocks 256 Rows.termConstsRow.laid).toArray, #[], []⟩
  { w0 with heap := layAll Tryz.prog 254 Rows.termConstsRow.laid (World.settled Tryz.prog os).heap.size w0.heap }
theorem laid_met (os : Os) (args : Array Value) : laidMet Tryz.prog Rows.termConstsRow.laid ((laidWorld os).forCall (fun _ _ => 0) ⟨#[], args, []⟩).memory :=
  (LaidIn.of_run (l := Rows.termConstsRow.laid) (List.range 1000) 16 (by kernel_rfl) (by kernel_rfl) (by kernel_rfl) (by kernel_rfl)).met
theorem own_none : ownKnob Tryz.prog.godebug = none := by kernel_rfl
theorem laidOut : laidOutB Tryz.prog = true := by kernel_rfl
end Go.Cb
namespace Go.Cb
open Go.RowKit (Below)
set_option maxRecDepth 100000
set_option maxHeartbeats 4000000
section
variable {P : Program} {tt : Nat → TI}
def fltOf (tt : Nat → TI) : Op → Option (Nat → PV × Ent)
  | .alloc t => match (tt t).und with
    | .other => none
    | _ => some fun b => (.ptr b 0, .box b ((tt t).zero.map ZK.pv))
  | .makeMap t none => match (tt t).und with
    | .mp kt _ => match keyD (tt kt).und with
      | some d => some fun r => (.mp r, .mp r d (fun _ => none) [])
      | none => none
    | _ => none
  | _ => none
theorem fltOf_iff {op : Op} {f : Nat → PV × Ent} (h : fltOf tt op = some f) {T : List PV} {Γ : List Ent} {K : PV → List Ent → Prop} : WOp P tt op T Γ K ↔ ∀ b, K (f b).1 ((f b).2 :: Γ) := by
  unfold fltOf at h
  split at h
  · split at h
    · cases h
    · rename_i hne
      cases h
      simp only [WOp, zerosK_eq]
  · split at h
    · rename_i hu
      split at h
      · rename_i hd
        cases h
        simp only [WOp, hu, hd]
      · cases h
    · cases h
  · cases h
theorem fltOf_noDef {op : Op} {f : Nat → PV × Ent} (h : fltOf tt op = some f) : noDef op = true := by
  cases op <;> first | rfl | cases h
def fDst (ops : Array Oper) (i : Nat) : Option Tmp := (ops[i]?).bind (·.dst)
abbrev FE := Nat → Option (PV × Ent)
def putE (ops : Array Oper) (e : FE) : List Nat → List PV → List PV
  | [], T => T
  | i :: l, T => putE ops e l (match e i with
    | some x => putT T (fDst ops i) x.1
    | none => T)
theorem fm_congr {β : Type} {f g : Nat → Option β} : ∀ {l : List Nat}, (∀ x ∈ l, f x = g x) → l.filterMap f = l.filterMap g
  | [], _ => rfl
  | x :: l, h => by
    rw [List.forall_mem_cons] at h
    rw [List.filterMap_cons, List.filterMap_cons, h.1, fm_congr h.2]
theorem beq_ne {i j : Nat} (h : j ≠ i) : Nat.beq j i = false := by
  cases hb : Nat.beq j i
  · rfl
  · exact (h (Nat.eq_of_beq_eq_true hb)).elim
def entE (e : FE) (l : List Nat) : List Ent := l.filterMap fun i => (e i).map (·.2)
def updE (e : FE) (i : Nat) (x : PV × Ent) : FE := fun j => if j = i then some x else e j
def pendE (e : FE) (l : List Nat) : List Nat := l.filter fun i => (e i).isNone
theorem entE_none {e : FE} {l : List Nat} (h : ∀ i ∈ l, e i = none) : entE e l = [] := by
  unfold entE
  rw [List.filterMap_eq_nil_iff]
  intro i hi
  rw [h i hi]; rfl
theorem putE_none {ops : Array Oper} {e : FE} : ∀ {l : List Nat} {T : List PV}, (∀ i ∈ l, e i = none) → putE ops e l T = T
  | [], _, _ => rfl
  | i :: l, T, h => by
    rw [List.forall_mem_cons] at h
    rw [putE, h.1]
    exact putE_none h.2
theorem updE_ne {e : FE} {i j : Nat} {x : PV × Ent} (h : j ≠ i) : updE e i x j = e j := by simp [updE, h]
theorem updE_self {e : FE} {i : Nat} {x : PV × Ent} : updE e i x i = some x := by simp [updE]
theorem entE_upd {e : FE} {i : Nat} {x : PV × Ent} (he : e i = none) : ∀ {l : List Nat}, i ∈ l → l.Nodup → (entE (updE e i x) l).Perm (x.2 :: entE e l)
  | [], h, _ => by cases h
  | j :: l, h, hn => by
    rw [List.nodup_cons] at hn
    rcases List.mem_cons.1 h with rfl | h
    · have h1 : entE (updE e i x) l = entE e l := by
        unfold entE
        refine fm_congr fun j hj => ?_
        rw [updE_ne (j := j) (i := i) fun e => hn.1 (e ▸ hj)]
      unfold entE at h1 ⊢
      rw [List.filterMap_cons, List.filterMap_cons, updE_self, he, h1]
      exact List.Perm.refl _
    · have hne : j ≠ i := fun e => hn.1 (e ▸ h)
      have ih := entE_upd (x := x) he h hn.2
      unfold entE at ih ⊢
      rw [List.filterMap_cons, List.filterMap_cons, updE_ne hne]
      cases hj : e j with
      | none => simpa using ih
      | some y =>
        simp only [Option.map_some]
        exact (ih.cons _).trans (List.Perm.swap _ _ _)
theorem putE_put {ops : Array Oper} {e : FE} {d : Option Tmp} {v : PV} : ∀ {l : List Nat} {T : List PV}, (∀ i ∈ l, ∀ k, d = some k → fDst ops i ≠ some k) → putE ops e l (putT T d v) = putT (putE ops e l T) d v
  | [], _, _ => rfl
  | i :: l, T, h => by
    rw [List.forall_mem_cons] at h
    rw [putE, putE]
    cases he : e i with
    | none => exact putE_put h.2
    | some x =>
      simp only
      rw [putT_comm T h.1]
      exact putE_put h.2
theorem putE_congr {ops : Array Oper} {e e' : FE} : ∀ {l : List Nat} {T : List PV}, (∀ i ∈ l, e i = e' i) → putE ops e l T = putE ops e' l T
  | [], _, _ => rfl
  | i :: l, T, h => by
    rw [List.forall_mem_cons] at h
    rw [putE, putE, h.1]
    exact putE_congr h.2
theorem putE_upd {ops : Array Oper} {e : FE} {i : Nat} {x : PV × Ent} (he : e i = none) : ∀ {l : List Nat} {T : List PV}, i ∈ l → l.Nodup → (∀ j ∈ l, j ≠ i → ∀ k, fDst ops i = some k → fDst ops j ≠ some k) →
    putE ops (updE e i x) l T = putT (putE ops e l T) (fDst ops i) x.1
  | [], _, h, _, _ => by cases h
  | j :: l, T, h, hn, hd => by
    rw [List.nodup_cons] at hn
    rw [List.forall_mem_cons] at hd
    rcases List.mem_cons.1 h with rfl | h
    · rw [putE, putE, updE_self, he]
      simp only
      rw [putE_congr (e := updE e i x) (e' := e) fun j hj => updE_ne fun e => hn.1 (e ▸ hj)]
      exact putE_put fun j hj => hd.2 j hj fun e => hn.1 (e ▸ hj)
    · have hne : j ≠ i := fun e => hn.1 (e ▸ h)
      rw [putE, putE, updE_ne hne]
      exact putE_upd he h hn.2 hd.2
theorem pendE_upd {e : FE} {i : Nat} {x : PV × Ent} {l l1 l2 : List Nat} (hn : l.Nodup) (h : pendE e l = l1 ++ i :: l2) : pendE (updE e i x) l = l1 ++ l2 := by
  have h1 : pendE (updE e i x) l = (pendE e l).filter fun j => !(Nat.beq j i) := by
    unfold pendE
    rw [List.filter_filter]
    refine List.filter_congr fun j _ => ?_
    by_cases hj : j = i
    · subst hj; rw [updE_self]; simp
    · rw [updE_ne hj]
      simp [beq_ne hj]
  have hn2 : (l1 ++ i :: l2).Nodup := h ▸ hn.sublist List.filter_sublist
  rw [h1, h, List.filter_append, List.filter_cons]
  have hni := (List.perm_middle (a := i) (l₁ := l1) (l₂ := l2)).nodup_iff.1 hn2
  rw [List.nodup_cons, List.mem_append, not_or] at hni
  have hf : ∀ m : List Nat, i ∉ m → m.filter (fun j => !(Nat.beq j i)) = m := fun m hm => List.filter_eq_self.2 fun j hj => by
    rw [beq_ne (j := j) (i := i) fun e => hm (e ▸ hj)]; rfl
  rw [hf l1 hni.1.1, hf l2 hni.1.2]
  simp
theorem mem_pendE {e : FE} {l : List Nat} {i : Nat} : i ∈ pendE e l ↔ i ∈ l ∧ e i = none := by
  unfold pendE
  rw [List.mem_filter, Option.isNone_iff_eq_none]
theorem ev_putE {ops : Array Oper} {e : FE} {o : Oper} : ∀ {l : List Nat} {T : List PV}, (∀ i ∈ l, ∀ k, fDst ops i = some k → k ∉ o.looksAt ops) → ∀ y ∈ o.op.operands.toList, ev (putE ops e l T) y = ev T y
  | [], _, _ => fun _ _ => rfl
  | i :: l, T, h => fun y hy => by
    rw [List.forall_mem_cons] at h
    rw [putE, ev_putE h.2 y hy]
    cases e i with
    | none => rfl
    | some x => exact looks_operands h.1 y hy
theorem SVal_putE {ops : Array Oper} {e : FE} {o : Oper} {Γ : List Ent} {v : PV} : ∀ {l : List Nat} {T : List PV}, (∀ i ∈ l, ∀ k, fDst ops i = some k → k ∉ o.looksAt ops) → (SVal P tt ops.toList o (putE ops e l T) Γ v ↔ SVal P tt ops.toList o T Γ v)
  | [], _, _ => Iff.rfl
  | i :: l, T, h => by
    rw [List.forall_mem_cons] at h
    rw [putE, SVal_putE h.2]
    cases e i with
    | none => exact Iff.rfl
    | some x => exact SVal_put h.1
def EOk (tt : Nat → TI) (ops : Array Oper) (e : FE) (l : List Nat) : Prop := ∀ i ∈ l, e i = none ∨ ∃ o f b, ops[i]? = some o ∧ fltOf tt o.op = some f ∧ e i = some (f b)
structure Flts (tt : Nat → TI) (ops : Array Oper) (l : List Nat) : Prop where
  fl : ∀ i ∈ l, ∃ o f, ops[i]? = some o ∧ o.guard = none ∧ fltOf tt o.op = some f
  ff : l.Pairwise fun j i => apartAt ops j i = true
  nd : l.Nodup
theorem apart_dst {ops : Array Oper} {j i : Nat} (h : apartAt ops j i = true) : ∀ k, fDst ops i = some k → fDst ops j ≠ some k := by
  intro k hk hj
  unfold apartAt at h
  unfold fDst at hk hj
  cases hx : ops[j]? with
  | none => rw [hx] at hj; cases hj
  | some x =>
    cases hy : ops[i]? with
    | none => rw [hy] at hk; cases hk
    | some y =>
      rw [hx, hy] at h
      rw [hx] at hj
      rw [hy] at hk
      obtain ⟨a1, a2, a3⟩ := Oper.apart_spec h
      simp only [Option.bind_some] at hk hj
      exact a2 k hj hk
theorem Flts.dst {ops : Array Oper} {l : List Nat} (h : Flts tt ops l) : ∀ i ∈ l, ∀ j ∈ l, j ≠ i → ∀ k, fDst ops i = some k → fDst ops j ≠ some k := by
  intro i hi j hj hne k hk hjk
  have key : ∀ {l : List Nat}, l.Pairwise (fun j i => apartAt ops j i = true) → i ∈ l → j ∈ l → apartAt ops i j = true ∨ apartAt ops j i = true := by
    intro l hp hi hj
    induction l with
    | nil => cases hi
    | cons x l ih =>
      rw [List.pairwise_cons] at hp
      rcases List.mem_cons.1 hi with e1 | h1
      · rcases List.mem_cons.1 hj with e2 | h2
        · exact (hne (e2.trans e1.symm)).elim
        · subst e1; exact .inl (hp.1 j h2)
      · rcases List.mem_cons.1 hj with e2 | h2
        · subst e2; exact .inr (hp.1 i h1)
        · exact ih hp.2 h1 h2
  rcases key h.ff hi hj with h | h
  · exact apart_dst h k hjk hk
  · exact apart_dst h k hk hjk
theorem flt_step (hk : TT.ok P tt) {rd : Option Nat} {nn : Nat} {ops : Array Oper} {l : List Nat} (hF : Flts tt ops l) {e : FE} {i : Nat} {o : Oper} (hi : i ∈ l) (he : e i = none) (ho : ops[i]? = some o) (hE : EOk tt ops e l)
    {w0 : World} {F : Fz} {Γ M : List Ent} {w : World} {T : List PV} {a : Act} {next : Act → World → Prop} {Q : Exit → Act → World → Prop} (hS : Sim w0 F (Γ ++ (entE e l ++ M)) w) (hT : RepT F (putE ops e l T) a.tmps.toList)
    (hn : ∀ e' F' u w', EOk tt ops e' l → e' = updE e i ((e' i).getD (.any, .tok (nilTok 0 0))) → F.le F' → Sim w0 F' (Γ ++ (entE e' l ++ M)) w' → RepT F' (putE ops e' l T) (a.put o.dst u).tmps.toList → next (a.put o.dst u) w') :
    wpOpIn (Fen rd) nn P ops Q i next a w := by
  obtain ⟨o', f, ho', hg, hf⟩ := hF.fl i hi
  rw [ho] at ho'
  cases ho'
  unfold wpOpIn
  simp only [ho]
  rw [if_pos (by simp [Region.wanted, hg])]
  have hW : WOp P tt o.op (putE ops e l T) [] fun x Γ' => ∃ b, x = (f b).1 ∧ Γ' = [(f b).2] := (fltOf_iff hf).2 fun b => ⟨b, rfl, rfl⟩
  refine WOp_sound hk (Γ := []) (M := Γ ++ (entE e l ++ M)) hS hT hW ?_
  rintro F' x Γ' u w' hle hS' hx ⟨b, rfl, rfl⟩
  have hp := entE_upd (x := f b) he hi hF.nd
  have hd : fDst ops i = o.dst := by simp [fDst, ho]
  refine hn (updE e i (f b)) F' u w' ?_ (by rw [updE_self]; rfl) hle ?_ ?_
  · intro j hj
    by_cases hji : j = i
    · subst hji; rw [updE_self]; exact .inr ⟨o, f, b, ho, hf, rfl⟩
    · rw [updE_ne hji]; exact hE j hj
  · refine hS'.perm ?_
    have h1 : ((f b).2 :: (Γ ++ (entE e l ++ M))).Perm (Γ ++ ((f b).2 :: (entE e l ++ M))) := List.perm_middle.symm
    refine h1.trans ?_
    have h2 : ((f b).2 :: (entE e l ++ M)).Perm (entE (updE e i (f b)) l ++ M) := (hp.symm.append_right M)
    exact h2.append_left Γ
  · rw [putE_upd he hi hF.nd (hF.dst i hi), hd]
    exact put_rep (RepT.mono hle _ _ hT) hx o.dst
theorem flts_done {ops : Array Oper} {e : FE} {K : List PV → List Ent → Ds → Prop} : ∀ (l : List Nat) (T : List PV) (Γ : List Ent), (∀ i ∈ l, ∃ o f b, ops[i]? = some o ∧ o.guard = none ∧ fltOf tt o.op = some f ∧ e i = some (f b)) →
    WOps P tt ops.toList (l.filterMap (ops[·]?)) T Γ [] K → ∃ Γ4, K (putE ops e l T) Γ4 [] ∧ Γ4.Perm (entE e l ++ Γ)
  | [], T, Γ, _, h => ⟨Γ, h, List.Perm.refl _⟩
  | i :: l, T, Γ, hl, h => by
    rw [List.forall_mem_cons] at hl
    obtain ⟨o, f, b, ho, hg, hf, he⟩ := hl.1
    rw [List.filterMap_cons, ho] at h
    simp only [WOps, hg, WOpD_noDef (fltOf_noDef hf), putK_T] at h
    have h2 := (fltOf_iff hf).1 h b
    obtain ⟨Γ4, h3, h4⟩ := flts_done l _ _ hl.2 h2
    refine ⟨Γ4, ?_, h4.trans ?_⟩
    · rw [putE, he]
      have hd : fDst ops i = o.dst := by simp [fDst, ho]
      rw [hd]; exact h3
    · unfold entE
      rw [List.filterMap_cons, he]
      exact List.perm_middle
theorem gameF (hk : TT.ok P tt) (rd : Option Nat) (nn : Nat) {ops : Array Oper} {tab Fl R2 : List Nat} (hF : Flts tt ops Fl) (hc : tabChk ops tab = true) {w0 : World} {M Γ2 : List Ent} {F0 : Fz} {ds : List Deferred} {Q' : Exit → Act → World → Prop}
    {Tl : List PV → List Ent → Prop} (hTl : ∀ (fuel : Nat) (listed : Array Bool) (T : List PV) (Γ : List Ent) (e : FE) (F : Fz) (a : Act) (w : World), (pendE e Fl).length + R2.length ≤ fuel → Down ops listed → Pend ops listed (pendE e Fl ++ R2) → EOk tt ops e Fl → F0.le F →
      Sim w0 F (Γ ++ (entE e Fl ++ M)) w → RepT F (putE ops e Fl T) a.tmps.toList → a.defers = ds → Tl T Γ → wpAnyIn (Fen rd) nn P .any ops Q' fuel listed a w) :
    ∀ (n : Nat) (A R1 : List Nat) (e : FE) (fuel : Nat) (listed : Array Bool) (T : List PV) (Γ1 : List Ent) (F : Fz) (a : Act) (w : World), A.length + R1.length + (pendE e Fl).length = n → n + R2.length ≤ fuel →
      Down ops listed → Pend ops listed (A ++ (R1 ++ (pendE e Fl ++ R2))) → Split0 ops tab A R1 R2 → (∀ j ∈ A ++ R1, ∀ i ∈ Fl, apartAt ops j i = true) → EOk tt ops e Fl → F0.le F → Sim w0 F (Γ1 ++ (Γ2 ++ (entE e Fl ++ M))) w → RepT F (putE ops e Fl T) a.tmps.toList → a.defers = ds →
      (SSeq P tt ops.toList (A.filterMap (ops[·]?)) T Γ2 fun T' => WOps P tt ops.toList (R1.filterMap (ops[·]?)) T' Γ1 [] fun T2 Γ1' _ => Tl T2 (Γ1' ++ Γ2)) →
      wpAnyIn (Fen rd) nn P .any ops Q' fuel listed a w := by
  intro n
  induction n with
  | zero =>
    intro A R1 e fuel listed T Γ1 F a w hn hf hd hp hsp hfx hE hle hS hT hds h
    obtain rfl : A = [] := List.eq_nil_of_length_eq_zero (by omega)
    obtain rfl : R1 = [] := List.eq_nil_of_length_eq_zero (by omega)
    exact hTl fuel listed T (Γ1 ++ Γ2) e F a w (by simp at hn; rw [hn]; simpa using hf) hd (by simpa using hp) hE hle (by simpa using hS) hT hds h
  | succ n ih =>
    intro A R1 e fuel listed T Γ1 F a w hn hf hd hp hsp hfx hE hle hS hT hds h
    by_cases hAR0 : A = [] ∧ R1 = []
    · obtain ⟨rfl, rfl⟩ := hAR0
      exact hTl fuel listed T (Γ1 ++ Γ2) e F a w (by simp at hn; omega) hd (by simpa using hp) hE hle (by simpa using hS) hT hds h
    cases fuel with
    | zero => omega
    | succ fuel =>
    refine ⟨fun hnil => ?_, fun i hi => ?_⟩
    · exfalso
      cases hAR : A ++ (R1 ++ (pendE e Fl ++ R2)) with
      | nil => simp at hAR; exact hAR0 ⟨hAR.1, hAR.2.1⟩
      | cons x xs =>
        rw [hAR] at hp
        obtain ⟨k, hk'⟩ := ready_exists hc hp
        rw [hnil] at hk'
        cases hk'
    · obtain ⟨o, ho⟩ := hp.2.2 i (hp.ready hi)
      have un : ∀ {j : Nat}, j ∈ A ++ (R1 ++ (pendE e Fl ++ R2)) → anc tab i j = true → False := fun {j} hj ha => blocked hc hd i ho ha ((hp.2.1 j).2 hj) hi
      have free : ∀ {j : Nat} {x : Oper}, j ∈ A ++ (R1 ++ (pendE e Fl ++ R2)) → ops[j]? = some x → (anc tab i j = true ∨ apartAt ops j i = true) → x.apart ops o = true := by
        intro j x hj hx h
        rcases h with h | h
        · exact (un hj h).elim
        · simpa [apartAt, hx, ho] using h
      have looks : i ∈ A ++ R1 → ∀ f ∈ Fl, ∀ k, fDst ops f = some k → k ∉ o.looksAt ops := by
        intro hiA f hf k hk
        have := hfx i hiA f hf
        obtain ⟨of, _, hof, _, _⟩ := hF.fl f hf
        simp only [apartAt, ho, hof] at this
        obtain ⟨a1, a2, a3⟩ := Oper.apart_spec this
        exact a3 k (by simpa [fDst, hof] using hk)
      have dsts : i ∈ A ++ R1 → ∀ f ∈ Fl, ∀ k, o.dst = some k → fDst ops f ≠ some k := by
        intro hiA f hf k hk hfk
        exact apart_dst (hfx i hiA f hf) k hfk (by simp [fDst, ho, hk])
      have hmem := hp.ready hi
      rw [List.mem_append, List.mem_append, List.mem_append] at hmem
      rcases hmem with hm | hm | hm | hm
      ·
        obtain ⟨A1, A2, rfl⟩ := List.append_of_mem hm
        rw [filterMap_split ho] at h
        have hap : ∀ x ∈ A1.filterMap (ops[·]?), x.apart ops o = true := by
          intro x hx
          obtain ⟨j, hj, hx⟩ := List.mem_filterMap.1 hx
          exact free (by simp [hj]) hx ((List.pairwise_append.1 hsp.pa).2.2 j hj i (by simp))
        obtain ⟨v, h1, h2⟩ := SSeq_move _ T hap h
        have h1' := (SVal_putE (e := e) (looks (by simp))).2 h1
        have hS2 : Sim w0 F (Γ2 ++ (Γ1 ++ (entE e Fl ++ M))) w := hS.perm (by
          rw [← List.append_assoc, ← List.append_assoc Γ2]
          exact List.perm_append_comm.append_right _)
        unfold wpOpIn
        simp only [ho]
        have key := SVal_sound hk (rd := rd) (nn := nn) (Q := Q') (next := fun a w => wpAnyIn (Fen rd) nn P .any ops Q' fuel (listed.setIfInBounds i true) a w) hS2 hT h1' ?_
        · split at key <;> rename_i hw
          · rw [if_pos hw]; exact key
          · rw [if_neg hw]; exact ⟨fun _ _ => trivial, key⟩
        intro F' u w' hle' hS' hx
        refine ih (A1 ++ A2) R1 e fuel _ (putT T o.dst v) Γ1 F' _ w' (by simp at hn ⊢; omega) (by omega) (hd.set hi) ?_ hsp.dropA (fun j hj => hfx j ?_) hE (Fz.le_trans hle hle') ?_ ?_
          ((put_defers a o.dst u).trans hds) ?_
        · have := Pend.set (l1 := A1) (l2 := A2 ++ (R1 ++ (pendE e Fl ++ R2))) (i := i) (by simpa using hp)
          rwa [List.append_assoc]
        · simp only [List.mem_append, List.mem_cons] at hj ⊢
          rcases hj with (h | h) | h
          · exact .inl (.inl h)
          · exact .inl (.inr (.inr h))
          · exact .inr h
        · exact hS'.perm (by
            rw [← List.append_assoc, ← List.append_assoc Γ1]
            exact List.perm_append_comm.append_right _)
        · rw [putE_put (dsts (by simp))]
          exact put_rep (RepT.mono hle' _ _ hT) hx o.dst
        · rw [List.filterMap_append]; exact h2
      ·
        cases R1 with
        | nil => cases hm
        | cons r R1 =>
          rcases List.mem_cons.1 hm with hir | hir
          · subst hir
            have hg : o.guard = none := hsp.ug i (by simp) o ho
            have e1 : (i :: R1).filterMap (ops[·]?) = o :: R1.filterMap (ops[·]?) := by rw [List.filterMap_cons, ho]
            rw [e1] at h
            have hap : ∀ x ∈ A.filterMap (ops[·]?), x.apart ops o = true := by
              intro x hx
              obtain ⟨j, hj, hx⟩ := List.mem_filterMap.1 hx
              exact free (by simp [hj]) hx (hsp.par j hj i (by simp))
            have h2 := SSeq_eff (kk := fun T' Γ1' => WOps P tt ops.toList (R1.filterMap (ops[·]?)) T' Γ1' [] fun T2 Γ1' _ => Tl T2 (Γ1' ++ Γ2)) _ T hap (by
              have hnd := hsp.nd i (by simp) o ho
              simpa only [WOps, hg, WOpD_noDef hnd, putK_T] using h)
            have h3 := WOp_congr (T' := putE ops e Fl T) (fun y hy => (ev_putE (looks (by simp)) y hy).symm) h2
            unfold wpOpIn
            simp only [ho]
            rw [if_pos (by simp [Region.wanted, hg])]
            refine WOp_sound hk (M := Γ2 ++ (entE e Fl ++ M)) hS hT h3 ?_
            rintro F' x Γ' v' w' hle' hS' hx hK
            refine ih A R1 e fuel _ (putT T o.dst x) Γ' F' _ w' (by simp at hn ⊢; omega) (by omega) (hd.set hi) ?_ hsp.dropR (fun j hj => hfx j ?_) hE (Fz.le_trans hle hle') hS' ?_
              ((put_defers a o.dst v').trans hds) hK
            · have := Pend.set (l1 := A) (l2 := R1 ++ (pendE e Fl ++ R2)) (i := i) (by simpa using hp)
              simpa using this
            · simp only [List.mem_append, List.mem_cons] at hj ⊢
              rcases hj with h | h
              · exact .inl h
              · exact .inr (.inr h)
            · rw [putE_put (dsts (by simp))]
              exact put_rep (RepT.mono hle' _ _ hT) hx o.dst
          · exact (un (j := r) (by simp) ((List.pairwise_cons.1 hsp.r1).1 i hir)).elim
      ·
        obtain ⟨hiF, hie⟩ := mem_pendE.1 hm
        obtain ⟨l1, l2, hl⟩ := List.append_of_mem hm
        have hS2 : Sim w0 F ((Γ1 ++ Γ2) ++ (entE e Fl ++ M)) w := by simpa using hS
        refine flt_step hk hF hiF hie ho hE hS2 hT ?_
        intro e' F' u w' hE' he' hle' hS' hT'
        have hpe : pendE e' Fl = l1 ++ l2 := by rw [he']; exact pendE_upd hF.nd hl
        have hlen : (pendE e Fl).length = l1.length + l2.length + 1 := by rw [hl]; simp; omega
        refine ih A R1 e' fuel _ T Γ1 F' _ w' (by rw [hpe]; simp; omega) (by omega) (hd.set hi) ?_ hsp hfx hE' (Fz.le_trans hle hle') (by simpa using hS') hT' ((put_defers a o.dst u).trans hds) h
        rw [hpe]
        have := Pend.set (l1 := A ++ (R1 ++ l1)) (l2 := l2 ++ R2) (i := i) (by rw [hl] at hp; simpa using hp)
        simpa using this
      ·
        exfalso
        cases A with
        | cons j A => exact un (j := j) (by simp) (hsp.tl j (by simp) i hm)
        | nil =>
          cases R1 with
          | cons j R1 => exact un (j := j) (by simp) (hsp.tl j (by simp) i hm)
          | nil => exact hAR0 ⟨rfl, rfl⟩
theorem gameF2 (hk : TT.ok P tt) (rd : Option Nat) (nn : Nat) {ops : Array Oper} {tab Fl R2 : List Nat} (hF : Flts tt ops Fl) (hc : tabChk ops tab = true) (hr2 : R2.Pairwise fun j i => anc tab i j = true) (hfr : ∀ j ∈ Fl, ∀ i ∈ R2, anc tab i j = true)
    (hnd : ∀ i ∈ R2, ∀ o, ops[i]? = some o → noDef o.op = true) {w0 : World} {M : List Ent} {F0 : Fz} {ds : List Deferred} {Q' : Exit → Act → World → Prop}
    {K : List PV → List Ent → Prop} (hQ : ∀ F' T' Γ' a' w', F0.le F' → Sim w0 F' (Γ' ++ M) w' → RepT F' T' a'.tmps.toList → a'.defers = ds → K T' Γ' → Q' .normal a' w') :
    ∀ (n : Nat) (e : FE) (fuel : Nat) (listed : Array Bool) (T : List PV) (Γ : List Ent) (F : Fz) (a : Act) (w : World), (pendE e Fl).length = n → n + R2.length ≤ fuel →
      Down ops listed → Pend ops listed (pendE e Fl ++ R2) → EOk tt ops e Fl → F0.le F → Sim w0 F (Γ ++ (entE e Fl ++ M)) w → RepT F (putE ops e Fl T) a.tmps.toList → a.defers = ds →
      (WOps P tt ops.toList (Fl.filterMap (ops[·]?)) T Γ [] fun T4 Γ4 _ => WOps P tt ops.toList (R2.filterMap (ops[·]?)) T4 Γ4 [] fun T' Γ' _ => K T' Γ') →
      wpAnyIn (Fen rd) nn P .any ops Q' fuel listed a w := by
  intro n
  induction n with
  | zero =>
    intro e fuel listed T Γ F a w hn hf hd hp hE hle hS hT hds h
    have hnil : pendE e Fl = [] := List.eq_nil_of_length_eq_zero hn
    obtain ⟨Γ4, h4, hpm⟩ := flts_done (e := e) Fl T Γ (fun i hi => by
      rcases hE i hi with h0 | ⟨o, f, b, ho, hf, he⟩
      · have : i ∈ pendE e Fl := mem_pendE.2 ⟨hi, h0⟩
        rw [hnil] at this; cases this
      · obtain ⟨o', f', ho', hg, _⟩ := hF.fl i hi
        rw [ho] at ho'; cases ho'
        exact ⟨o, f, b, ho, hg, hf, he⟩) h
    have hS4 : Sim w0 F (Γ4 ++ M) w := hS.perm (by
      rw [← List.append_assoc]
      exact (List.perm_append_comm.trans hpm.symm).append_right M)
    refine wpAny_chain hc R2 fuel listed a w (by omega) hd (by simpa [hnil] using hp) hr2 (wpOps_filter (fun _ => trivial) ops _ _ a w ?_)
    refine WOps_sound hk rd nn ops (ds := ds) (K := fun T' Γ' D' => D' = [] ∧ K T' Γ') ?_ _ (.inr (quiet_of fun o ho => by
      obtain ⟨j, hj, ho⟩ := List.mem_filterMap.1 ho
      exact hnd j hj o ho)) _ Γ4 [] F a w hle hS4 hT (by rw [hds]; exact DRel.nil F ds) (WOps_keep _ _ _ _ _ ?_ h4)
    · rintro F' T' Γ' D' a' w' k1 k2 k3 ⟨new, k4, k5⟩ ⟨rfl, k6⟩
      have : new = [] := by cases new with
        | nil => rfl
        | cons d l => exact k5.elim
      subst this
      exact hQ F' T' Γ' a' w' k1 k2 k3 k4 k6
    · intro o ho
      obtain ⟨j, hj, ho⟩ := List.mem_filterMap.1 ho
      exact hnd j hj o ho
  | succ n ih =>
    intro e fuel listed T Γ F a w hn hf hd hp hE hle hS hT hds h
    cases fuel with
    | zero => omega
    | succ fuel =>
    have hpos : ∃ j, j ∈ pendE e Fl := by
      cases hpe : pendE e Fl with
      | nil => rw [hpe] at hn; cases hn
      | cons j l => exact ⟨j, by simp⟩
    obtain ⟨j0, hj0⟩ := hpos
    refine ⟨fun hnil => ?_, fun i hi => ?_⟩
    · exfalso
      cases hAR : pendE e Fl ++ R2 with
      | nil => simp at hAR; rw [hAR.1] at hn; cases hn
      | cons x xs =>
        rw [hAR] at hp
        obtain ⟨k, hk'⟩ := ready_exists hc hp
        rw [hnil] at hk'
        cases hk'
    · obtain ⟨o, ho⟩ := hp.2.2 i (hp.ready hi)
      rcases List.mem_append.1 (hp.ready hi) with hm | hm
      · obtain ⟨hiF, hie⟩ := mem_pendE.1 hm
        obtain ⟨l1, l2, hl⟩ := List.append_of_mem hm
        refine flt_step hk hF hiF hie ho hE hS hT ?_
        intro e' F' u w' hE' he' hle' hS' hT'
        have hpe : pendE e' Fl = l1 ++ l2 := by rw [he']; exact pendE_upd hF.nd hl
        have hlen : (pendE e Fl).length = l1.length + l2.length + 1 := by rw [hl]; simp; omega
        refine ih e' fuel _ T Γ F' _ w' (by rw [hpe]; simp; omega) (by omega) (hd.set hi) ?_ hE' (Fz.le_trans hle hle') hS' hT' ((put_defers a o.dst u).trans hds) h
        rw [hpe]
        have := Pend.set (l1 := l1) (l2 := l2 ++ R2) (i := i) (by rw [hl] at hp; simpa using hp)
        simpa using this
      · exact (blocked hc hd i ho (hfr j0 (mem_pendE.1 hj0).1 i hm) ((hp.2.1 j0).2 (by simp [hj0])) hi).elim
def splitFB (tt : Nat → TI) (ops : Array Oper) (tab A R1 B Fl R2 : List Nat) : Bool :=
  tabChk ops tab &&
  pairB (fun j i => anc tab i j || apartAt ops j i) A && A.all (fun j => R1.all fun i => anc tab i j || apartAt ops j i) &&
  pairB (fun j i => anc tab i j) R1 && (A ++ R1).all (fun j => (B ++ R2).all fun i => anc tab i j) &&
  R1.all (fun i => match ops[i]? with | some o => o.guard.isNone | none => false) && (R1 ++ R2).all (fun i => match ops[i]? with | some o => noDef o.op | none => false) &&
  pairB (fun j i => anc tab i j || apartAt ops j i) B && pairB (fun j i => anc tab i j) R2 && B.all (fun j => R2.all fun i => anc tab i j) &&
  Fl.all (fun i => match ops[i]? with | some o => o.guard.isNone && (fltOf tt o.op).isSome | none => false) && pairB (fun j i => apartAt ops j i) Fl && (A ++ (R1 ++ B)).all (fun j => Fl.all fun i => apartAt ops j i) && Fl.all (fun j => R2.all fun i => anc tab i j) &&
  pairB (fun j i => !(Nat.beq j i)) (A ++ (R1 ++ (B ++ (Fl ++ R2)))) && (List.range ops.size).all (fun i => (A ++ (R1 ++ (B ++ (Fl ++ R2)))).contains i) && (A ++ (R1 ++ (B ++ (Fl ++ R2)))).all (fun i => Nat.blt i ops.size)
theorem PDraw.splitF (hk : TT.ok P tt) (hm : P.follows .mixedOrders = true) {ops : Array Oper} {T : List PV} {Γ Γ2 : List Ent} {K : List PV → List Ent → Prop} (tab A R1 B Fl R2 : List Nat) (Γ1 : List Ent)
    (hchk : splitFB tt ops tab A R1 B Fl R2 = true) [hp : PickL Γ Γ1 Γ2]
    (h : SSeq P tt ops.toList (pickO ops.toList A) T Γ2 fun T' => WOps P tt ops.toList (pickO ops.toList R1) T' Γ1 [] fun T2 Γ1' _ => appE Γ1' Γ2 fun Γ' =>
      SSeq P tt ops.toList (pickO ops.toList B) T2 Γ' fun T3 => WOps P tt ops.toList (pickO ops.toList Fl) T3 Γ' [] fun T4 Γ4 _ => WOps P tt ops.toList (pickO ops.toList R2) T4 Γ4 [] fun T' Γ' _ => K T' Γ') : PDraw P ops T Γ K := by
  refine ⟨fun rd nn id w0 F M w a Q' hS hT hQ => wpIn_region_any hm ?_⟩
  simp only [splitFB, Bool.and_eq_true] at hchk
  obtain ⟨⟨⟨⟨⟨⟨⟨⟨⟨⟨⟨⟨⟨⟨⟨⟨h0, h1⟩, h2⟩, h3⟩, h5⟩, h6⟩, h6'⟩, b1⟩, b2⟩, b3⟩, f1⟩, f2⟩, f3⟩, f4⟩, h7⟩, h8⟩, h9⟩ := hchk
  have hlt : ∀ i ∈ A ++ (R1 ++ (B ++ (Fl ++ R2))), i < ops.size := fun i hi => by
    have := List.all_eq_true.1 h9 i hi
    simpa [Nat.blt, Nat.succ_le_iff] using this
  have hnd : ∀ i ∈ R1 ++ R2, ∀ o, ops[i]? = some o → noDef o.op = true := by
    intro i hi o ho
    have := List.all_eq_true.1 h6' i hi
    rw [ho] at this
    exact this
  have hnodup : (A ++ (R1 ++ (B ++ (Fl ++ R2)))).Nodup := (pairB_iff h7).imp fun h => by
    intro e
    subst e
    simp at h
  have hpend : Pend ops (Array.replicate ops.size false) (A ++ (R1 ++ (B ++ (Fl ++ R2)))) := by
    refine ⟨hnodup, ?_, fun i hi => ⟨_, Array.getElem?_eq_getElem (hlt i hi)⟩⟩
    intro i
    constructor
    · intro hi
      rcases Nat.lt_or_ge i ops.size with h' | h'
      · have := List.all_eq_true.1 h8 i (List.mem_range.2 h')
        simpa only [List.contains_iff_mem] using this
      · simp [Array.getElem?_eq_none, h'] at hi
    · intro hi
      simp [hlt i hi]
  have hF : Flts tt ops Fl := by
    refine ⟨fun i hi => ?_, pairB_iff f2, ?_⟩
    · have := List.all_eq_true.1 f1 i hi
      cases ho : ops[i]? with
      | none => rw [ho] at this; cases this
      | some o =>
        rw [ho] at this
        simp only [Bool.and_eq_true, Option.isNone_iff_eq_none, Option.isSome_iff_exists] at this
        obtain ⟨g, f, hf⟩ := this
        exact ⟨o, f, rfl, g, hf⟩
    · exact hnodup.sublist (((List.sublist_append_left Fl R2).trans (List.sublist_append_right B _)).trans ((List.sublist_append_right R1 _).trans (List.sublist_append_right A _)))
  have hs1 : Split0 ops tab A R1 (B ++ R2) := by
    refine ⟨(pairB_iff h1).imp fun h => by simpa using h, fun j hj i hi => ?_, pairB_iff h3, fun j hj i hi => ?_, fun i hi o ho => ?_, fun i hi => hnd i (by simp [hi])⟩
    · have := List.all_eq_true.1 (List.all_eq_true.1 h2 j hj) i hi
      simpa using this
    · exact List.all_eq_true.1 (List.all_eq_true.1 h5 j hj) i hi
    · have := List.all_eq_true.1 h6 i hi
      rw [ho] at this
      simpa using this
  have hs2 : Split0 ops tab B [] R2 := by
    refine ⟨(pairB_iff b1).imp fun h => by simpa using h, fun _ _ _ h => (by cases h), List.Pairwise.nil, fun j hj i hi => ?_, fun _ h => (by cases h), fun _ h => (by cases h)⟩
    exact List.all_eq_true.1 (List.all_eq_true.1 b3 j (by simpa using hj)) i hi
  have hfx : ∀ j ∈ A ++ (R1 ++ B), ∀ i ∈ Fl, apartAt ops j i = true := fun j hj i hi => List.all_eq_true.1 (List.all_eq_true.1 f3 j hj) i hi
  have hfr : ∀ j ∈ Fl, ∀ i ∈ R2, anc tab i j = true := fun j hj i hi => List.all_eq_true.1 (List.all_eq_true.1 f4 j hj) i hi
  have hlen : A.length + R1.length + (B.length + (Fl.length + R2.length)) ≤ ops.size := by
    have hsub : (A ++ (R1 ++ (B ++ (Fl ++ R2)))) ⊆ List.range ops.size := fun i hi => List.mem_range.2 (hlt i hi)
    have := hpend.1.length_le_of_subset hsub
    simpa [Nat.add_assoc] using this
  have hS' : Sim w0 F (Γ1 ++ (Γ2 ++ M)) { w with drawn := w.drawn + 1 } := by
    have := (hS.perm (hp.p.append_right M)).of_heap (w' := { w with drawn := w.drawn + 1 }) rfl rfl rfl rfl
    simpa using this
  have e0 : ∀ i ∈ Fl, (fun _ => none : FE) i = none := fun _ _ => rfl
  have p0 : pendE (fun _ => none) Fl = Fl := List.filter_eq_self.2 fun _ _ => rfl
  refine gameF hk rd nn hF h0 (w0 := w0) (tab := tab) (R2 := B ++ R2) (Γ2 := Γ2) (M := M) (F0 := F) (ds := a.defers) (Tl := fun T2 Γ' => SSeq P tt ops.toList (pickO ops.toList B) T2 Γ' fun T3 => WOps P tt ops.toList (pickO ops.toList Fl) T3 Γ' [] fun T4 Γ4 _ => WOps P tt ops.toList (pickO ops.toList R2) T4 Γ4 [] fun T' Γ' _ => K T' Γ') ?_
    _ A R1 (fun _ => none) ops.size _ T Γ1 F a _ rfl ?_ ?_ ?_ hs1 (fun j hj i hi => hfx j (by simp only [List.mem_append] at hj ⊢; rcases hj with h | h; exact .inl h; exact .inr (.inl h)) i hi) (fun i hi => .inl rfl) (Fz.le_refl F) ?_ ?_ rfl ?_
  · intro fuel listed T2 Γ' e F' a' w' hf hd hpd hE hle hS2 hT2 hds ht
    refine gameF hk rd nn hF h0 (w0 := w0) (tab := tab) (R2 := R2) (Γ2 := Γ') (M := M) (F0 := F) (ds := a.defers) (Tl := fun T3 Γ' => WOps P tt ops.toList (pickO ops.toList Fl) T3 Γ' [] fun T4 Γ4 _ => WOps P tt ops.toList (pickO ops.toList R2) T4 Γ4 [] fun T' Γ' _ => K T' Γ') ?_
      _ B [] e fuel listed T2 [] F' a' w' rfl (by simp at hf ⊢; omega) hd ?_ hs2 (fun j hj i hi => hfx j (by simp at hj ⊢; exact .inr (.inr hj)) i hi) hE hle (by simpa using hS2) hT2 hds ?_
    · intro fuel3 listed3 T3 Γ3 e3 F3 a3 w3 hf3 hd3 hpd3 hE3 hle3 hS3 hT3 hds3 ht3
      refine gameF2 hk rd nn hF h0 (pairB_iff b2) hfr (fun i hi => hnd i (by simp [hi])) (F0 := F) (ds := a.defers) hQ _ e3 fuel3 listed3 T3 Γ3 F3 a3 w3 rfl hf3 hd3 hpd3 hE3 hle3 hS3 hT3 hds3 ?_
      simpa only [pickO_eq, Array.getElem?_toList] using ht3
    · simp only [List.nil_append]
      refine ⟨?_, fun i => ?_, fun i hi => hpd.2.2 i ?_⟩
      · have hperm : (pendE e Fl ++ (B ++ R2)).Perm (B ++ (pendE e Fl ++ R2)) := by
          rw [← List.append_assoc, ← List.append_assoc]
          exact List.perm_append_comm.append_right R2
        exact hperm.nodup_iff.1 hpd.1
      · rw [hpd.2.1 i]
        simp only [List.mem_append]
        constructor
        · rintro (h | h | h)
          · exact .inr (.inl h)
          · exact .inl h
          · exact .inr (.inr h)
        · rintro (h | h | h)
          · exact .inr (.inl h)
          · exact .inl h
          · exact .inr (.inr h)
      · simp only [List.mem_append] at hi ⊢
        rcases hi with h | h | h
        · exact .inr (.inl h)
        · exact .inl h
        · exact .inr (.inr h)
    · simpa only [pickO_eq, Array.getElem?_toList, List.filterMap_nil, WOps, List.nil_append] using ht
  · rw [p0]; simp; omega
  · intro k o hk'
    rcases Nat.lt_or_ge k ops.size with h' | h'
    · simp [h'] at hk'
    · intro ho
      have := (Array.getElem?_eq_some_iff.1 ho).1
      omega
  · rw [p0]
    refine ⟨?_, fun i => ?_, fun i hi => hpend.2.2 i ?_⟩
    · have hperm : (A ++ (R1 ++ (B ++ (Fl ++ R2)))).Perm (A ++ (R1 ++ (Fl ++ (B ++ R2)))) := by
        refine List.Perm.append_left A (List.Perm.append_left R1 ?_)
        rw [← List.append_assoc, ← List.append_assoc]
        exact List.perm_append_comm.append_right R2
      exact hperm.nodup_iff.1 hpend.1
    · rw [hpend.2.1 i]
      simp only [List.mem_append]
      constructor
      · rintro (h | h | h | h | h)
        · exact .inl h
        · exact .inr (.inl h)
        · exact .inr (.inr (.inr (.inl h)))
        · exact .inr (.inr (.inl h))
        · exact .inr (.inr (.inr (.inr h)))
      · rintro (h | h | h | h | h)
        · exact .inl h
        · exact .inr (.inl h)
        · exact .inr (.inr (.inr (.inl h)))
        · exact .inr (.inr (.inl h))
        · exact .inr (.inr (.inr (.inr h)))
    · simp only [List.mem_append] at hi ⊢
      rcases hi with h | h | h | h | h
      · exact .inl h
      · exact .inr (.inl h)
      · exact .inr (.inr (.inr (.inl h)))
      · exact .inr (.inr (.inl h))
      · exact .inr (.inr (.inr (.inr h)))
  · rw [entE_none e0]; simpa using hS'
  · rw [putE_none e0]; exact hT
  · simpa only [pickO_eq, Array.getElem?_toList, appE_eq] using h
theorem PDraw.atF (d : Option Nat) {ops : Array Oper} (hd : fstDst ops = d) (hk : TT.ok P tt) (hm : P.follows .mixedOrders = true) {T : List PV} {Γ Γ2 : List Ent} {K : List PV → List Ent → Prop} (tab A R1 B Fl R2 : List Nat) (Γ1 : List Ent)
    (hchk : splitFB tt ops tab A R1 B Fl R2 = true) [hp : PickL Γ Γ1 Γ2]
    (h : SSeq P tt ops.toList (pickO ops.toList A) T Γ2 fun T' => WOps P tt ops.toList (pickO ops.toList R1) T' Γ1 [] fun T2 Γ1' _ => appE Γ1' Γ2 fun Γ' =>
      SSeq P tt ops.toList (pickO ops.toList B) T2 Γ' fun T3 => WOps P tt ops.toList (pickO ops.toList Fl) T3 Γ' [] fun T4 Γ4 _ => WOps P tt ops.toList (pickO ops.toList R2) T4 Γ4 [] fun T' Γ' _ => K T' Γ') : PDraw P ops T Γ K :=
  PDraw.splitF hk hm tab A R1 B Fl R2 Γ1 hchk h
def entR (e : FE) : List Nat → List Ent → List Ent
  | [], Γ => Γ
  | i :: l, Γ => entR e l (match e i with
    | some x => x.2 :: Γ
    | none => Γ)
theorem entR_perm (e : FE) : ∀ (l : List Nat) (Γ : List Ent), (entR e l Γ).Perm (entE e l ++ Γ)
  | [], _ => List.Perm.refl _
  | i :: l, Γ => by
    rw [entR]
    refine (entR_perm e l _).trans ?_
    unfold entE
    rw [List.filterMap_cons]
    cases e i with
    | none => exact List.Perm.refl _
    | some x => exact List.perm_middle
theorem flts_run {ops : Array Oper} {e : FE} {K : List PV → List Ent → Ds → Prop} : ∀ (l : List Nat) (T : List PV) (Γ : List Ent), (∀ i ∈ l, ∃ o f b, ops[i]? = some o ∧ o.guard = none ∧ fltOf tt o.op = some f ∧ e i = some (f b)) →
    WOps P tt ops.toList (l.filterMap (ops[·]?)) T Γ [] K → K (putE ops e l T) (entR e l Γ) []
  | [], T, Γ, _, h => h
  | i :: l, T, Γ, hl, h => by
    rw [List.forall_mem_cons] at hl
    obtain ⟨o, f, b, ho, hg, hf, he⟩ := hl.1
    rw [List.filterMap_cons, ho] at h
    simp only [WOps, hg, WOpD_noDef (fltOf_noDef hf), putK_T] at h
    have h3 := flts_run l _ _ hl.2 ((fltOf_iff hf).1 h b)
    have hd : fDst ops i = o.dst := by simp [fDst, ho]
    rw [putE, entR, he, hd]
    exact h3
theorem SSeq_putE {ops : Array Oper} {e : FE} {Fl : List Nat} {Γ : List Ent} {k : List PV → Prop} : ∀ (l : List Nat) (T : List PV), (∀ j ∈ l, ∀ i ∈ Fl, apartAt ops j i = true) → Flts tt ops Fl →
    SSeq P tt ops.toList (l.filterMap (ops[·]?)) T Γ (fun T' => k (putE ops e Fl T')) → SSeq P tt ops.toList (l.filterMap (ops[·]?)) (putE ops e Fl T) Γ k
  | [], T, _, _, h => h
  | j :: l, T, ha, hF, h => by
    rw [List.forall_mem_cons] at ha
    cases ho : ops[j]? with
    | none => rw [List.filterMap_cons, ho] at h ⊢; exact SSeq_putE l T ha.2 hF h
    | some o =>
      rw [List.filterMap_cons, ho] at h ⊢
      obtain ⟨v, h1, h2⟩ := SSeq_cons.1 h
      have looks : ∀ f ∈ Fl, ∀ k, fDst ops f = some k → k ∉ o.looksAt ops := by
        intro f hf k hk
        have := ha.1 f hf
        obtain ⟨of, _, hof, _, _⟩ := hF.fl f hf
        simp only [apartAt, ho, hof] at this
        exact (Oper.apart_spec this).2.2 k (by simpa [fDst, hof] using hk)
      refine SSeq_cons.2 ⟨v, (SVal_putE looks).2 h1, ?_⟩
      have := SSeq_putE l _ ha.2 hF h2
      rwa [putE_put (fun f hf k hk hfk => apart_dst (ha.1 f hf) k hfk (by simp [fDst, ho, hk]))] at this
theorem gameG (hk : TT.ok P tt) (rd : Option Nat) (nn : Nat) {ops : Array Oper} {tab Fl R1 R2 : List Nat} (hF : Flts tt ops Fl) (hc : tabChk ops tab = true) (hfr : ∀ j ∈ Fl, ∀ i ∈ R1 ++ R2, anc tab i j = true) {w0 : World} {M Γ1 Γ2 : List Ent} {F0 : Fz} {ds : List Deferred} {Q' : Exit → Act → World → Prop}
    {K : List PV → List Ent → Prop} (hQ : ∀ F' T' Γ' a' w', F0.le F' → Sim w0 F' (Γ' ++ M) w' → RepT F' T' a'.tmps.toList → a'.defers = ds → K T' Γ' → Q' .normal a' w') :
    ∀ (n : Nat) (A : List Nat) (e : FE) (fuel : Nat) (listed : Array Bool) (T : List PV) (F : Fz) (a : Act) (w : World), A.length + (pendE e Fl).length = n → n + (R1.length + R2.length) ≤ fuel →
      Down ops listed → Pend ops listed (A ++ (pendE e Fl ++ (R1 ++ R2))) → Split ops tab A R1 R2 → (∀ j ∈ A, ∀ i ∈ Fl, apartAt ops j i = true) → EOk tt ops e Fl → F0.le F → Sim w0 F ((Γ1 ++ Γ2) ++ (entE e Fl ++ M)) w → RepT F (putE ops e Fl T) a.tmps.toList → a.defers = ds →
      (SSeq P tt ops.toList (A.filterMap (ops[·]?)) T Γ2 fun T' => WOps P tt ops.toList (Fl.filterMap (ops[·]?)) T' Γ1 [] fun T1 Γ1' _ => WOps P tt ops.toList (R1.filterMap (ops[·]?)) T1 Γ1' [] fun T2 Γ1' _ => WOps P tt ops.toList (R2.filterMap (ops[·]?)) T2 (Γ1' ++ Γ2) [] fun T' Γ' _ => K T' Γ') →
      wpAnyIn (Fen rd) nn P .any ops Q' fuel listed a w := by
  have done : ∀ (A : List Nat) (e : FE) (fuel : Nat) (listed : Array Bool) (T : List PV) (F : Fz) (a : Act) (w : World), pendE e Fl = [] → A.length + (R1.length + R2.length) ≤ fuel →
      Down ops listed → Pend ops listed (A ++ (pendE e Fl ++ (R1 ++ R2))) → Split ops tab A R1 R2 → (∀ j ∈ A, ∀ i ∈ Fl, apartAt ops j i = true) → EOk tt ops e Fl → F0.le F → Sim w0 F ((Γ1 ++ Γ2) ++ (entE e Fl ++ M)) w → RepT F (putE ops e Fl T) a.tmps.toList → a.defers = ds →
      (SSeq P tt ops.toList (A.filterMap (ops[·]?)) T Γ2 fun T' => WOps P tt ops.toList (Fl.filterMap (ops[·]?)) T' Γ1 [] fun T1 Γ1' _ => WOps P tt ops.toList (R1.filterMap (ops[·]?)) T1 Γ1' [] fun T2 Γ1' _ => WOps P tt ops.toList (R2.filterMap (ops[·]?)) T2 (Γ1' ++ Γ2) [] fun T' Γ' _ => K T' Γ') →
      wpAnyIn (Fen rd) nn P .any ops Q' fuel listed a w := by
    intro A e fuel listed T F a w hnil hf hd hp hsp hfx hE hle hS hT hds h
    have hall : ∀ i ∈ Fl, ∃ o f b, ops[i]? = some o ∧ o.guard = none ∧ fltOf tt o.op = some f ∧ e i = some (f b) := fun i hi => by
      rcases hE i hi with h0 | ⟨o, f, b, ho, hf, he⟩
      · have : i ∈ pendE e Fl := mem_pendE.2 ⟨hi, h0⟩
        rw [hnil] at this; cases this
      · obtain ⟨o', f', ho', hg, _⟩ := hF.fl i hi
        rw [ho] at ho'; cases ho'
        exact ⟨o, f, b, ho, hg, hf, he⟩
    have h2 := SSeq_putE (e := e) (k := fun T1 => WOps P tt ops.toList (R1.filterMap (ops[·]?)) T1 (entR e Fl Γ1) [] fun T2 Γ1' _ => WOps P tt ops.toList (R2.filterMap (ops[·]?)) T2 (Γ1' ++ Γ2) [] fun T' Γ' _ => K T' Γ') A T hfx hF (by
      have mono : ∀ (l : List Oper) (T : List PV) (k k' : List PV → Prop), (∀ T, k T → k' T) → SSeq P tt ops.toList l T Γ2 k → SSeq P tt ops.toList l T Γ2 k' := by
        intro l
        induction l with
        | nil => intro T k k' hk h; exact hk T h
        | cons o l ih => intro T k k' hk h; obtain ⟨v, h1, h2⟩ := SSeq_cons.1 h; exact SSeq_cons.2 ⟨v, h1, ih _ _ _ hk h2⟩
      exact mono _ _ _ _ (fun T' h => flts_run Fl T' Γ1 hall h) h)
    refine game hk rd nn hc (R2 := R2) (Γ2 := Γ2) (F0 := F0) (ds := ds) hQ _ A R1 fuel listed _ (entR e Fl Γ1) F a w rfl (by omega) hd (by simpa [hnil] using hp) hsp hle (hS.perm ?_) hT hds h2
    have h3 := (entR_perm e Fl Γ1).symm.append_right (Γ2 ++ M)
    refine List.Perm.trans ?_ h3
    have h4 : (Γ1 ++ Γ2 ++ (entE e Fl ++ M)).Perm (entE e Fl ++ (Γ1 ++ Γ2 ++ M)) := by
      rw [← List.append_assoc (Γ1 ++ Γ2), ← List.append_assoc (entE e Fl)]
      exact List.perm_append_comm.append_right M
    simpa using h4
  intro n
  induction n with
  | zero =>
    intro A e fuel listed T F a w hn hf hd hp hsp hfx hE hle hS hT hds h
    exact done A e fuel listed T F a w (List.eq_nil_of_length_eq_zero (by omega)) (by omega) hd hp hsp hfx hE hle hS hT hds h
  | succ n ih =>
    intro A e fuel listed T F a w hn hf hd hp hsp hfx hE hle hS hT hds h
    by_cases hnil : pendE e Fl = []
    · exact done A e fuel listed T F a w hnil (by rw [hnil] at hn; simp at hn; omega) hd hp hsp hfx hE hle hS hT hds h
    obtain ⟨j0, hj0⟩ : ∃ j, j ∈ pendE e Fl := List.exists_mem_of_ne_nil _ hnil
    cases fuel with
    | zero => omega
    | succ fuel =>
    refine ⟨fun hnil => ?_, fun i hi => ?_⟩
    · exfalso
      cases hAR : A ++ (pendE e Fl ++ (R1 ++ R2)) with
      | nil => simp at hAR; rw [hAR.2.1] at hj0; cases hj0
      | cons x xs =>
        rw [hAR] at hp
        obtain ⟨k, hk'⟩ := ready_exists hc hp
        rw [hnil] at hk'
        cases hk'
    · obtain ⟨o, ho⟩ := hp.2.2 i (hp.ready hi)
      have un : ∀ {j : Nat}, j ∈ A ++ (pendE e Fl ++ (R1 ++ R2)) → anc tab i j = true → False := fun {j} hj ha => blocked hc hd i ho ha ((hp.2.1 j).2 hj) hi
      have free : ∀ {j : Nat} {x : Oper}, j ∈ A ++ (pendE e Fl ++ (R1 ++ R2)) → ops[j]? = some x → (anc tab i j = true ∨ apartAt ops j i = true) → x.apart ops o = true := by
        intro j x hj hx h
        rcases h with h | h
        · exact (un hj h).elim
        · simpa [apartAt, hx, ho] using h
      have hmem := hp.ready hi
      rw [List.mem_append, List.mem_append] at hmem
      rcases hmem with hm | hm | hm
      ·
        have looks : ∀ f ∈ Fl, ∀ k, fDst ops f = some k → k ∉ o.looksAt ops := by
          intro f hf k hk
          have := hfx i hm f hf
          obtain ⟨of, _, hof, _, _⟩ := hF.fl f hf
          simp only [apartAt, ho, hof] at this
          exact (Oper.apart_spec this).2.2 k (by simpa [fDst, hof] using hk)
        have dsts : ∀ f ∈ Fl, ∀ k, o.dst = some k → fDst ops f ≠ some k := fun f hf k hk hfk => apart_dst (hfx i hm f hf) k hfk (by simp [fDst, ho, hk])
        obtain ⟨A1, A2, rfl⟩ := List.append_of_mem hm
        rw [filterMap_split ho] at h
        have hap : ∀ x ∈ A1.filterMap (ops[·]?), x.apart ops o = true := by
          intro x hx
          obtain ⟨j, hj, hx⟩ := List.mem_filterMap.1 hx
          exact free (by simp [hj]) hx ((List.pairwise_append.1 hsp.pa).2.2 j hj i (by simp))
        obtain ⟨v, h1, h2⟩ := SSeq_move _ T hap h
        have h1' := (SVal_putE (e := e) looks).2 h1
        have hS2 : Sim w0 F (Γ2 ++ (Γ1 ++ (entE e Fl ++ M))) w := hS.perm (by
          rw [← List.append_assoc Γ2]
          exact List.perm_append_comm.append_right _)
        unfold wpOpIn
        simp only [ho]
        have key := SVal_sound hk (rd := rd) (nn := nn) (Q := Q') (next := fun a w => wpAnyIn (Fen rd) nn P .any ops Q' fuel (listed.setIfInBounds i true) a w) hS2 hT h1' ?_
        · split at key <;> rename_i hw
          · rw [if_pos hw]; exact key
          · rw [if_neg hw]; exact ⟨fun _ _ => trivial, key⟩
        intro F' u w' hle' hS' hx
        refine ih (A1 ++ A2) e fuel _ (putT T o.dst v) F' _ w' (by simp at hn ⊢; omega) (by omega) (hd.set hi) ?_ hsp.dropA (fun j hj => hfx j ?_) hE (Fz.le_trans hle hle') ?_ ?_
          ((put_defers a o.dst u).trans hds) ?_
        · have := Pend.set (l1 := A1) (l2 := A2 ++ (pendE e Fl ++ (R1 ++ R2))) (i := i) (by simpa using hp)
          rwa [List.append_assoc]
        · simp only [List.mem_append, List.mem_cons] at hj ⊢
          rcases hj with h | h
          · exact .inl h
          · exact .inr (.inr h)
        · exact hS'.perm (by
            rw [← List.append_assoc Γ2]
            exact List.perm_append_comm.append_right _)
        · rw [putE_put dsts]
          exact put_rep (RepT.mono hle' _ _ hT) hx o.dst
        · rw [List.filterMap_append]; exact h2
      ·
        obtain ⟨hiF, hie⟩ := mem_pendE.1 hm
        obtain ⟨l1, l2, hl⟩ := List.append_of_mem hm
        refine flt_step hk hF hiF hie ho hE hS hT ?_
        intro e' F' u w' hE' he' hle' hS' hT'
        have hpe : pendE e' Fl = l1 ++ l2 := by rw [he']; exact pendE_upd hF.nd hl
        have hlen : (pendE e Fl).length = l1.length + l2.length + 1 := by rw [hl]; simp; omega
        refine ih A e' fuel _ T F' _ w' (by rw [hpe]; simp; omega) (by omega) (hd.set hi) ?_ hsp hfx hE' (Fz.le_trans hle hle') hS' hT' ((put_defers a o.dst u).trans hds) h
        rw [hpe]
        have := Pend.set (l1 := A ++ l1) (l2 := l2 ++ (R1 ++ R2)) (i := i) (by rw [hl] at hp; simpa using hp)
        simpa using this
      · exact (un (j := j0) (by simp [hj0]) (hfr j0 (mem_pendE.1 hj0).1 i (by simpa using hm))).elim
def splitGB (tt : Nat → TI) (ops : Array Oper) (tab A Fl R1 R2 : List Nat) : Bool :=
  tabChk ops tab &&
  pairB (fun j i => anc tab i j || apartAt ops j i) A && A.all (fun j => R1.all fun i => anc tab i j || apartAt ops j i) &&
  pairB (fun j i => anc tab i j) R1 && pairB (fun j i => anc tab i j) R2 &&
  (A ++ R1).all (fun j => R2.all fun i => anc tab i j) &&
  R1.all (fun i => match ops[i]? with | some o => o.guard.isNone | none => false) && (R1 ++ R2).all (fun i => match ops[i]? with | some o => noDef o.op | none => false) &&
  Fl.all (fun i => match ops[i]? with | some o => o.guard.isNone && (fltOf tt o.op).isSome | none => false) && pairB (fun j i => apartAt ops j i) Fl && A.all (fun j => Fl.all fun i => apartAt ops j i) && Fl.all (fun j => (R1 ++ R2).all fun i => anc tab i j) &&
  pairB (fun j i => !(Nat.beq j i)) (A ++ (Fl ++ (R1 ++ R2))) && (List.range ops.size).all (fun i => (A ++ (Fl ++ (R1 ++ R2))).contains i) && (A ++ (Fl ++ (R1 ++ R2))).all (fun i => Nat.blt i ops.size)
theorem PDraw.splitG (hk : TT.ok P tt) (hm : P.follows .mixedOrders = true) {ops : Array Oper} {T : List PV} {Γ Γ2 : List Ent} {K : List PV → List Ent → Prop} (tab A Fl R1 R2 : List Nat) (Γ1 : List Ent)
    (hchk : splitGB tt ops tab A Fl R1 R2 = true) [hp : PickL Γ Γ1 Γ2]
    (h : SSeq P tt ops.toList (pickO ops.toList A) T Γ2 fun T' => WOps P tt ops.toList (pickO ops.toList Fl) T' Γ1 [] fun T1 Γ1' _ => WOps P tt ops.toList (pickO ops.toList R1) T1 Γ1' [] fun T2 Γ1' _ => appE Γ1' Γ2 fun Γ' => WOps P tt ops.toList (pickO ops.toList R2) T2 Γ' [] fun T' Γ' _ => K T' Γ') : PDraw P ops T Γ K := by
  refine ⟨fun rd nn id w0 F M w a Q' hS hT hQ => wpIn_region_any hm ?_⟩
  simp only [splitGB, Bool.and_eq_true] at hchk
  obtain ⟨⟨⟨⟨⟨⟨⟨⟨⟨⟨⟨⟨⟨⟨h0, h1⟩, h2⟩, h3⟩, h4⟩, h5⟩, h6⟩, h6'⟩, f1⟩, f2⟩, f3⟩, f4⟩, h7⟩, h8⟩, h9⟩ := hchk
  have hlt : ∀ i ∈ A ++ (Fl ++ (R1 ++ R2)), i < ops.size := fun i hi => by
    have := List.all_eq_true.1 h9 i hi
    simpa [Nat.blt, Nat.succ_le_iff] using this
  have hnodup : (A ++ (Fl ++ (R1 ++ R2))).Nodup := (pairB_iff h7).imp fun h => by
    intro e
    subst e
    simp at h
  have hpend : Pend ops (Array.replicate ops.size false) (A ++ (Fl ++ (R1 ++ R2))) := by
    refine ⟨hnodup, ?_, fun i hi => ⟨_, Array.getElem?_eq_getElem (hlt i hi)⟩⟩
    intro i
    constructor
    · intro hi
      rcases Nat.lt_or_ge i ops.size with h' | h'
      · have := List.all_eq_true.1 h8 i (List.mem_range.2 h')
        simpa only [List.contains_iff_mem] using this
      · simp [Array.getElem?_eq_none, h'] at hi
    · intro hi
      simp [hlt i hi]
  have hF : Flts tt ops Fl := by
    refine ⟨fun i hi => ?_, pairB_iff f2, ?_⟩
    · have := List.all_eq_true.1 f1 i hi
      cases ho : ops[i]? with
      | none => rw [ho] at this; cases this
      | some o =>
        rw [ho] at this
        simp only [Bool.and_eq_true, Option.isNone_iff_eq_none, Option.isSome_iff_exists] at this
        obtain ⟨g, f, hf⟩ := this
        exact ⟨o, f, rfl, g, hf⟩
    · exact hnodup.sublist ((List.sublist_append_left Fl _).trans (List.sublist_append_right A _))
  have hs1 : Split ops tab A R1 R2 := by
    refine ⟨(pairB_iff h1).imp fun h => by simpa using h, fun j hj i hi => ?_, pairB_iff h3, pairB_iff h4, fun j hj i hi => List.all_eq_true.1 (List.all_eq_true.1 h5 j hj) i hi, fun i hi o ho => ?_, fun i hi o ho => ?_⟩
    · have := List.all_eq_true.1 (List.all_eq_true.1 h2 j hj) i hi
      simpa using this
    · have := List.all_eq_true.1 h6 i hi
      rw [ho] at this
      simpa using this
    · have := List.all_eq_true.1 h6' i hi
      rw [ho] at this
      exact this
  have hlen : A.length + (Fl.length + (R1.length + R2.length)) ≤ ops.size := by
    have hsub : (A ++ (Fl ++ (R1 ++ R2))) ⊆ List.range ops.size := fun i hi => List.mem_range.2 (hlt i hi)
    have := hpend.1.length_le_of_subset hsub
    simpa [Nat.add_assoc] using this
  have hS' : Sim w0 F (Γ1 ++ (Γ2 ++ M)) { w with drawn := w.drawn + 1 } := by
    have := (hS.perm (hp.p.append_right M)).of_heap (w' := { w with drawn := w.drawn + 1 }) rfl rfl rfl rfl
    simpa using this
  have e0 : ∀ i ∈ Fl, (fun _ => none : FE) i = none := fun _ _ => rfl
  have p0 : pendE (fun _ => none) Fl = Fl := List.filter_eq_self.2 fun _ _ => rfl
  refine gameG hk rd nn hF h0 (w0 := w0) (tab := tab) (R1 := R1) (R2 := R2) (Γ1 := Γ1) (Γ2 := Γ2) (M := M) (F0 := F) (ds := a.defers) (fun j hj i hi => List.all_eq_true.1 (List.all_eq_true.1 f4 j hj) i hi) hQ
    _ A (fun _ => none) ops.size _ T F a _ rfl ?_ ?_ (by rw [p0]; exact hpend) hs1 (fun j hj i hi => List.all_eq_true.1 (List.all_eq_true.1 f3 j hj) i hi) (fun i hi => .inl rfl) (Fz.le_refl F) ?_ ?_ rfl ?_
  · rw [p0]; omega
  · intro k o hk'
    rcases Nat.lt_or_ge k ops.size with h' | h'
    · simp [h'] at hk'
    · intro ho
      have := (Array.getElem?_eq_some_iff.1 ho).1
      omega
  · rw [entE_none e0]; simpa using hS'
  · rw [putE_none e0]; exact hT
  · simpa only [pickO_eq, Array.getElem?_toList, appE_eq] using h
theorem PDraw.atG (d : Option Nat) {ops : Array Oper} (hd : fstDst ops = d) (hk : TT.ok P tt) (hm : P.follows .mixedOrders = true) {T : List PV} {Γ Γ2 : List Ent} {K : List PV → List Ent → Prop} (tab A Fl R1 R2 : List Nat) (Γ1 : List Ent)
    (hchk : splitGB tt ops tab A Fl R1 R2 = true) [hp : PickL Γ Γ1 Γ2]
    (h : SSeq P tt ops.toList (pickO ops.toList A) T Γ2 fun T' => WOps P tt ops.toList (pickO ops.toList Fl) T' Γ1 [] fun T1 Γ1' _ => WOps P tt ops.toList (pickO ops.toList R1) T1 Γ1' [] fun T2 Γ1' _ => appE Γ1' Γ2 fun Γ' => WOps P tt ops.toList (pickO ops.toList R2) T2 Γ' [] fun T' Γ' _ => K T' Γ') : PDraw P ops T Γ K :=
  PDraw.splitG hk hm tab A Fl R1 R2 Γ1 hchk h
theorem PDraw.sF (d : Option Nat) {ops : Array Oper} (hd : fstDst ops = d) (Γ1 : List Ent) (R1 B Fl R2 : List Nat) (hk : TT.ok P tt) (hm : P.follows .mixedOrders = true) {T : List PV} {Γ Γ2 : List Ent} {K : List PV → List Ent → Prop} [hp : PickL Γ Γ1 Γ2]
    (h : SSeq P tt ops.toList (pickO ops.toList (restL ops.toList 0 (R1 ++ (B ++ (Fl ++ R2))))) T Γ2 fun T' => WOps P tt ops.toList (pickO ops.toList R1) T' Γ1 [] fun T2 Γ1' _ => appE Γ1' Γ2 fun Γ' =>
      SSeq P tt ops.toList (pickO ops.toList B) T2 Γ' fun T3 => WOps P tt ops.toList (pickO ops.toList Fl) T3 Γ' [] fun T4 Γ4 _ => WOps P tt ops.toList (pickO ops.toList R2) T4 Γ4 [] fun T' Γ' _ => K T' Γ')
    (hchk : splitFB tt ops (tabOf ops.toList []) (restL ops.toList 0 (R1 ++ (B ++ (Fl ++ R2)))) R1 B Fl R2 = true := by kernel_rfl) : PDraw P ops T Γ K :=
  PDraw.splitF hk hm _ _ R1 B Fl R2 Γ1 hchk h
theorem PDraw.sG (d : Option Nat) {ops : Array Oper} (hd : fstDst ops = d) (Γ1 : List Ent) (Fl R1 R2 : List Nat) (hk : TT.ok P tt) (hm : P.follows .mixedOrders = true) {T : List PV} {Γ Γ2 : List Ent} {K : List PV → List Ent → Prop} [hp : PickL Γ Γ1 Γ2]
    (h : SSeq P tt ops.toList (pickO ops.toList (restL ops.toList 0 (Fl ++ (R1 ++ R2)))) T Γ2 fun T' => WOps P tt ops.toList (pickO ops.toList Fl) T' Γ1 [] fun T1 Γ1' _ => WOps P tt ops.toList (pickO ops.toList R1) T1 Γ1' [] fun T2 Γ1' _ => appE Γ1' Γ2 fun Γ' => WOps P tt ops.toList (pickO ops.toList R2) T2 Γ' [] fun T' Γ' _ => K T' Γ')
    (hchk : splitGB tt ops (tabOf ops.toList []) (restL ops.toList 0 (Fl ++ (R1 ++ R2))) Fl R1 R2 = true := by kernel_rfl) : PDraw P ops T Γ K :=
  PDraw.splitG hk hm _ _ Fl R1 R2 Γ1 hchk h
end
end Go.Cb
