/-
  Plain laws: assigned variables become boxes.
  Plain laws: chapter 10, what is right; the document's counts; programs.
  Plain laws: chapter 10, sizes of what is converted.
  Contracts: variables that are assigned become boxes, the program.
  Contracts: the document's comparisons, counts, bindings.
  Contracts: the document's bindings; all variables greater.
  Contracts: all variables greater by the same, of any term.
  Contracts: a procedure, converted.
  Contracts: a Fix with assigned variables, converted.
  Contracts: a term, converted.
  Contracts: the document's words for the check of terms.
  Contracts: what is right names what it binds.
  Contracts: a program, converted.
-/
import Derived.Test.YtpkgembbjlebcaaGreatDoorV5
set_option linter.unusedSimpArgs false
set_option linter.unusedVariables false
namespace Go.Cb
open Go.Proofs
set_option maxRecDepth 100000
set_option maxHeartbeats 4000000
mutual
def Trm.asg : Trm → List Int
  | .mk op n _ t => (if op = 2 ∨ op = 14 then [n] else []) ++ Trm.asgs t
def Trm.asgs : List Trm → List Int
  | [] => []
  | x :: xs => Trm.asg x ++ Trm.asgs xs
end
theorem Trm.asg_eq (t : Trm) : t.asg = (if t.op = 2 ∨ t.op = 14 then [t.n] else []) ++ Trm.asgs t.t := by cases t; rw [Trm.asg]; rfl
theorem Trm.asgs_flat : ∀ l : List Trm, Trm.asgs l = l.flatMap Trm.asg
  | [] => by simp [Trm.asgs]
  | x :: l => by rw [Trm.asgs, Trm.asgs_flat l]; rfl
def refT (v : Int) : Trm := .mk 1 v [] []
def boxT (t : Trm) : Trm := .mk 15 0 [] [t]
def lamV (A : Int → Bool) : List Int → Int → List Int
  | [], _ => []
  | x :: xs, k => if A x = true then k :: lamV A xs (k + 1) else x :: lamV A xs k
def lamT (A : Int → Bool) : List Int → Int → List Trm
  | [], _ => []
  | x :: xs, k => if A x = true then boxT (refT k) :: lamT A xs (k + 1) else lamT A xs k
def lamN (A : Int → Bool) (l : List Int) : Int := ((l.filter A).length : Int)
def boxAll (A : Int → Bool) : List Int → List Trm → List Trm
  | v :: vs, x :: xs => (if A v = true then boxT x else x) :: boxAll A vs xs
  | _, l => l
def fixT (A : Int → Bool) : List Int → List Trm → List Trm
  | v :: vs, x :: xs => if A v = true then fixT A vs xs else x :: fixT A vs xs
  | _, _ => []
def fixO (A : Int → Bool) : List Int → List Trm → Trm → Trm
  | v :: vs, x :: xs, o => if A v = true then .mk 6 0 [] [.mk 17 0 [] [refT v, x], fixO A vs xs o] else fixO A vs xs o
  | _, _, o => o
def fixE (A : Int → Bool) (vs : List Int) (l : List Trm) : Trm :=
  let o := fixO A vs l (l.getD vs.length (refT 0))
  if vs.filter (fun v => !A v) = [] then o else .mk 9 0 (vs.filter fun v => !A v) (fixT A vs l ++ [o])
def fixR (A : Int → Bool) (vs : List Int) (l : List Trm) : Trm :=
  .mk 8 0 (vs.filter A) ((vs.filter A).map (fun _ => boxT (.mk 13 0 [] [])) ++ [fixE A vs l])
mutual
def Trm.fr (A : Int → Bool) : Trm → Int
  | .mk op _ v t => (if op = 4 then lamN A v else 0) + Trm.frs A t
def Trm.frs (A : Int → Bool) : List Trm → Int
  | [] => 0
  | x :: xs => Trm.fr A x + Trm.frs A xs
end
theorem Trm.fr_eq (A : Int → Bool) (t : Trm) : t.fr A = (if t.op = 4 then lamN A t.v else 0) + Trm.frs A t.t := by cases t; rw [Trm.fr]; rfl
mutual
def Trm.cv (A : Int → Bool) : Trm → Int → Trm
  | .mk op n v t, k =>
    if op = 1 ∧ A n = true then .mk 16 0 [] [.mk op n v t]
    else if op = 2 then .mk 17 0 [] (refT n :: Trm.cvs A t k)
    else if op = 14 then .mk 18 0 [] (refT n :: Trm.cvs A t k)
    else if op = 4 then .mk 4 n (lamV A v k) (if v.filter A = [] then Trm.cvs A t (k + lamN A v) else [.mk 8 0 (v.filter A) (lamT A v k ++ Trm.cvs A t (k + lamN A v))])
    else if op = 9 ∧ v.any A = true then fixR A v (Trm.cvs A t k)
    else .mk op n v (if op = 8 then boxAll A v (Trm.cvs A t k) else Trm.cvs A t k)
def Trm.cvs (A : Int → Bool) : List Trm → Int → List Trm
  | [], _ => []
  | x :: xs, k => Trm.cv A x k :: Trm.cvs A xs (k + Trm.fr A x)
end
theorem Trm.cv_eq (A : Int → Bool) (t : Trm) (k : Int) : t.cv A k =
    if t.op = 1 ∧ A t.n = true then .mk 16 0 [] [t]
    else if t.op = 2 then .mk 17 0 [] (refT t.n :: Trm.cvs A t.t k)
    else if t.op = 14 then .mk 18 0 [] (refT t.n :: Trm.cvs A t.t k)
    else if t.op = 4 then .mk 4 t.n (lamV A t.v k) (if t.v.filter A = [] then Trm.cvs A t.t (k + lamN A t.v) else [.mk 8 0 (t.v.filter A) (lamT A t.v k ++ Trm.cvs A t.t (k + lamN A t.v))])
    else if t.op = 9 ∧ t.v.any A = true then fixR A t.v (Trm.cvs A t.t k)
    else .mk t.op t.n t.v (if t.op = 8 then boxAll A t.v (Trm.cvs A t.t k) else Trm.cvs A t.t k) := by cases t; rw [Trm.cv]; rfl
theorem Trm.cvs_length (A : Int → Bool) : ∀ (l : List Trm) (k : Int), (Trm.cvs A l k).length = l.length
  | [], _ => by rw [Trm.cvs]
  | x :: l, k => by rw [Trm.cvs, List.length_cons, List.length_cons, Trm.cvs_length A l]
mutual
def Trm.shp : Trm → Prop
  | .mk op n v t => ((op = 1 → v = [] ∧ t = []) ∧ (op = 2 ∨ op = 14 ∨ op = 4 → t.length = 1) ∧ (op = 8 ∨ op = 9 → t.length = v.length + 1) ∧ (op = 9 → n = 0)) ∧ Trm.shps t
def Trm.shps : List Trm → Prop
  | [] => True
  | x :: xs => Trm.shp x ∧ Trm.shps xs
end
theorem Trm.shp_eq (t : Trm) : t.shp ↔ ((t.op = 1 → t.v = [] ∧ t.t = []) ∧ (t.op = 2 ∨ t.op = 14 ∨ t.op = 4 → t.t.length = 1) ∧ (t.op = 8 ∨ t.op = 9 → t.t.length = t.v.length + 1) ∧ (t.op = 9 → t.n = 0)) ∧ Trm.shps t.t := by
  cases t; rw [Trm.shp]; rfl
theorem Trm.shps_mem : ∀ {l : List Trm}, Trm.shps l → ∀ x ∈ l, x.shp
  | [], _, x, h => by cases h
  | y :: l, hs, x, h => by
    rw [Trm.shps] at hs
    rcases List.mem_cons.1 h with rfl | h
    · exact hs.1
    · exact Trm.shps_mem hs.2 x h
mutual
def Trm.nam : Trm → List Int
  | .mk op n v t => (if op = 1 then [n] else []) ++ v ++ Trm.nams t
def Trm.nams : List Trm → List Int
  | [] => []
  | x :: xs => Trm.nam x ++ Trm.nams xs
end
theorem Trm.nam_eq (t : Trm) : t.nam = (if t.op = 1 then [t.n] else []) ++ t.v ++ Trm.nams t.t := by cases t; rw [Trm.nam]; rfl
theorem lamV_congr {A B : Int → Bool} : ∀ (l : List Int) (k : Int), (∀ v ∈ l, A v = B v) → lamV A l k = lamV B l k
  | [], _, _ => rfl
  | v :: l, k, h => by
    rw [List.forall_mem_cons] at h
    rw [lamV, lamV, h.1, lamV_congr l _ h.2, lamV_congr l _ h.2]
theorem lamT_congr {A B : Int → Bool} : ∀ (l : List Int) (k : Int), (∀ v ∈ l, A v = B v) → lamT A l k = lamT B l k
  | [], _, _ => rfl
  | v :: l, k, h => by
    rw [List.forall_mem_cons] at h
    rw [lamT, lamT, h.1, lamT_congr l _ h.2, lamT_congr l _ h.2]
theorem boxAll_congr {A B : Int → Bool} : ∀ (vs : List Int) (l : List Trm), (∀ v ∈ vs, A v = B v) → boxAll A vs l = boxAll B vs l
  | [], l, _ => by simp [boxAll]
  | _ :: _, [], _ => by simp [boxAll]
  | v :: vs, x :: l, h => by
    rw [List.forall_mem_cons] at h
    rw [boxAll, boxAll, h.1, boxAll_congr vs l h.2]
theorem fixT_congr {A B : Int → Bool} : ∀ (vs : List Int) (l : List Trm), (∀ v ∈ vs, A v = B v) → fixT A vs l = fixT B vs l
  | [], l, _ => by simp [fixT]
  | _ :: _, [], _ => by simp [fixT]
  | v :: vs, x :: l, h => by
    rw [List.forall_mem_cons] at h
    rw [fixT, fixT, h.1, fixT_congr vs l h.2]
theorem fixO_congr {A B : Int → Bool} : ∀ (vs : List Int) (l : List Trm) (o : Trm), (∀ v ∈ vs, A v = B v) → fixO A vs l o = fixO B vs l o
  | [], l, o, _ => by simp [fixO]
  | _ :: _, [], o, _ => by simp [fixO]
  | v :: vs, x :: l, o, h => by
    rw [List.forall_mem_cons] at h
    rw [fixO, fixO, h.1, fixO_congr vs l o h.2]
theorem filter_congr' {A B : Int → Bool} {l : List Int} (h : ∀ v ∈ l, A v = B v) : l.filter A = l.filter B := List.filter_congr h
theorem any_congr' {A B : Int → Bool} : ∀ {l : List Int}, (∀ v ∈ l, A v = B v) → l.any A = l.any B
  | [], _ => rfl
  | v :: l, h => by
    rw [List.forall_mem_cons] at h
    rw [List.any_cons, List.any_cons, h.1, any_congr' h.2]
theorem fixR_congr {A B : Int → Bool} {vs : List Int} {l : List Trm} (h : ∀ v ∈ vs, A v = B v) : fixR A vs l = fixR B vs l := by
  have hn : vs.filter (fun v => !A v) = vs.filter (fun v => !B v) := List.filter_congr fun v hv => by rw [h v hv]
  unfold fixR fixE
  simp only [filter_congr' h, hn, fixO_congr vs l _ h, fixT_congr vs l h]
theorem Trm.fr_congr {A B : Int → Bool} (t : Trm) : (∀ v ∈ t.nam, A v = B v) → t.fr A = t.fr B := by
  induction t using Trm.ind with
  | h t ih =>
    intro h
    rw [Trm.nam_eq] at h
    have key : ∀ l : List Trm, (∀ y ∈ l, (∀ v ∈ y.nam, A v = B v) → y.fr A = y.fr B) → (∀ v ∈ Trm.nams l, A v = B v) → Trm.frs A l = Trm.frs B l := by
      intro l
      induction l with
      | nil => intro _ _; rw [Trm.frs, Trm.frs]
      | cons y l ihl =>
        intro h1 h2
        rw [Trm.nams] at h2
        rw [Trm.frs, Trm.frs, h1 y (by simp) (fun v hv => h2 v (by simp [hv])), ihl (fun z hz => h1 z (by simp [hz])) (fun v hv => h2 v (by simp [hv]))]
    rw [Trm.fr_eq, Trm.fr_eq, key t.t ih (fun v hv => h v (by simp [hv]))]
    unfold lamN
    rw [filter_congr' (fun v hv => h v (by simp [hv]))]
theorem Trm.cv_congr {A B : Int → Bool} (t : Trm) : ∀ k : Int, (∀ v ∈ t.nam, A v = B v) → t.cv A k = t.cv B k := by
  induction t using Trm.ind with
  | h t ih =>
    intro k h
    rw [Trm.nam_eq] at h
    have key : ∀ l : List Trm, (∀ y ∈ l, ∀ k : Int, (∀ v ∈ y.nam, A v = B v) → y.cv A k = y.cv B k) → (∀ v ∈ Trm.nams l, A v = B v) → ∀ k, Trm.cvs A l k = Trm.cvs B l k := by
      intro l
      induction l with
      | nil => intro _ _ k; rw [Trm.cvs, Trm.cvs]
      | cons y l ihl =>
        intro h1 h2 k
        rw [Trm.nams] at h2
        rw [Trm.cvs, Trm.cvs, h1 y (by simp) k (fun v hv => h2 v (by simp [hv])), y.fr_congr (fun v hv => h2 v (by simp [hv])), ihl (fun z hz => h1 z (by simp [hz])) (fun v hv => h2 v (by simp [hv]))]
    have hk := key t.t ih (fun v hv => h v (by simp [hv]))
    have hv : ∀ v ∈ t.v, A v = B v := fun v hv => h v (by simp [hv])
    have hn : t.op = 1 → A t.n = B t.n := fun e => h _ (by simp [e])
    have h1 : (t.op = 1 ∧ A t.n = true) ↔ (t.op = 1 ∧ B t.n = true) := ⟨fun ⟨a, b⟩ => ⟨a, by rw [← hn a]; exact b⟩, fun ⟨a, b⟩ => ⟨a, by rw [hn a]; exact b⟩⟩
    rw [Trm.cv_eq, Trm.cv_eq]
    simp only [hk, lamV_congr _ _ hv, lamT_congr _ _ hv, filter_congr' hv, any_congr' hv, boxAll_congr _ _ hv, fixR_congr hv, lamN, h1]
def Trm.sz (l : List Trm) : Int := Trm.cnts l
theorem Trm.cnts_append : ∀ l m : List Trm, Trm.cnts (l ++ m) = Trm.cnts l + Trm.cnts m
  | [], m => by simp [Trm.cnts]
  | x :: l, m => by rw [List.cons_append, Trm.cnts, Trm.cnts, Trm.cnts_append l m]; omega
theorem boxT_cnt (t : Trm) : (boxT t).cnt = 1 + t.cnt := by rw [boxT, Trm.cnt, Trm.cnts, Trm.cnts]; omega
def Szs : List Trm → List Trm → Prop
  | [], [] => True
  | x :: l, y :: m => x.cnt = y.cnt ∧ Szs l m
  | _, _ => False
theorem Szs.cnts : ∀ {l m : List Trm}, Szs l m → Trm.cnts l = Trm.cnts m
  | [], [], _ => rfl
  | x :: l, y :: m, h => by rw [Trm.cnts, Trm.cnts, h.1, h.2.cnts]
  | [], _ :: _, h => h.elim
  | _ :: _, [], h => h.elim
theorem Szs.getD : ∀ {l m : List Trm} (i : Nat) (d : Trm), Szs l m → (l.getD i d).cnt = (m.getD i d).cnt
  | [], [], _, _, _ => rfl
  | x :: l, y :: m, 0, d, h => by simpa using h.1
  | x :: l, y :: m, i + 1, d, h => by simpa using h.2.getD i d
  | [], _ :: _, _, _, h => h.elim
  | _ :: _, [], _, _, h => h.elim
theorem Szs.boxAll (A : Int → Bool) : ∀ (vs : List Int) {l m : List Trm}, Szs l m → Szs (boxAll A vs l) (boxAll A vs m)
  | [], l, m, h => by simpa [Go.Cb.boxAll] using h
  | _ :: _, [], [], h => by simp [Go.Cb.boxAll, Szs]
  | v :: vs, x :: l, y :: m, h => by
    rw [Go.Cb.boxAll, Go.Cb.boxAll]
    refine ⟨?_, h.2.boxAll A vs⟩
    split
    · rw [boxT_cnt, boxT_cnt, h.1]
    · exact h.1
  | _ :: _, [], _ :: _, h => h.elim
  | _ :: _, _ :: _, [], h => h.elim
theorem Szs.fixT (A : Int → Bool) : ∀ (vs : List Int) {l m : List Trm}, Szs l m → Szs (fixT A vs l) (fixT A vs m)
  | [], l, m, h => by simp [Go.Cb.fixT, Szs]
  | _ :: _, [], [], h => by simp [Go.Cb.fixT, Szs]
  | v :: vs, x :: l, y :: m, h => by
    rw [Go.Cb.fixT, Go.Cb.fixT]
    split
    · exact h.2.fixT A vs
    · exact ⟨h.1, h.2.fixT A vs⟩
  | _ :: _, [], _ :: _, h => h.elim
  | _ :: _, _ :: _, [], h => h.elim
theorem Szs.fixO (A : Int → Bool) : ∀ (vs : List Int) {l m : List Trm} {o u : Trm}, Szs l m → o.cnt = u.cnt → (fixO A vs l o).cnt = (fixO A vs m u).cnt
  | [], l, m, o, u, h, ho => by simpa [Go.Cb.fixO] using ho
  | _ :: _, [], [], o, u, h, ho => by simpa [Go.Cb.fixO] using ho
  | v :: vs, x :: l, y :: m, o, u, h, ho => by
    rw [Go.Cb.fixO, Go.Cb.fixO]
    have ih := h.2.fixO A vs ho
    split
    · simp only [Trm.cnt, Trm.cnts, h.1, ih]
    · exact ih
  | _ :: _, [], _ :: _, _, _, h, _ => h.elim
  | _ :: _, _ :: _, [], _, _, h, _ => h.elim
theorem Szs.fixR (A : Int → Bool) (vs : List Int) {l m : List Trm} (h : Szs l m) : (fixR A vs l).cnt = (fixR A vs m).cnt := by
  have ho := h.fixO A vs (h.getD vs.length (refT 0))
  have ht := (h.fixT A vs).cnts
  unfold Go.Cb.fixR fixE
  simp only
  split
  · simp only [Trm.cnt, Trm.cnts_append, Trm.cnts, ho]
  · simp only [Trm.cnt, Trm.cnts_append, Trm.cnts, ho, ht]
section
variable {A B : Int → Bool} {s : Int} (hAB : ∀ v, B (v + s) = A v)
include hAB
end
end Go.Cb
namespace Go.Cb
open Go.Proofs
set_option maxRecDepth 100000
set_option maxHeartbeats 4000000
theorem Trm.okT_shp {level c codes : Int} {free : Bool} (t : Trm) : ∀ {scope : List Int} {deep : Int}, t.okT level c codes free scope deep → t.shp := by
  induction t using Trm.ind with
  | h t ih =>
    intro scope deep h
    rw [Trm.okT_eq] at h
    rw [Trm.shp_eq]
    have key : ∀ (op : Int) (sc inner : List Int) (deep : Int) (l : List Trm), (∀ y ∈ l, ∀ {scope : List Int} {deep : Int}, y.okT level c codes free scope deep → y.shp) → Trm.okTs level c codes free op sc inner l deep → Trm.shps l := by
      intro op sc inner deep l
      induction l with
      | nil => intro _ _; rw [Trm.shps]; trivial
      | cons x l ihl =>
        intro hy hk
        rw [Trm.okTs] at hk
        rw [Trm.shps]
        exact ⟨hy x (by simp) hk.2.1, ihl (fun z hz => hy z (by simp [hz])) hk.2.2⟩
    refine ⟨?_, key _ _ _ _ _ ih h.2⟩
    obtain ⟨⟨_, _, h3, h4⟩, _⟩ := h
    unfold countsL at h3
    refine ⟨fun e => ?_, fun e => ?_, fun e => ?_, fun e => ?_⟩
    · rw [e] at h3
      simp [bindsB] at h3
      exact h3
    · split at h3
      · cases h3
      · rw [if_neg (by omega), if_pos (by omega)] at h3
        have : (t.t.length : Int) = 1 := by simpa using h3
        omega
    · split at h3
      · cases h3
      · rw [if_neg (by omega), if_neg (by omega), if_neg (by omega), if_neg (by omega), if_neg (by omega), if_pos (by omega)] at h3
        have : (t.t.length : Int) = (t.v.length : Int) + 1 := by simpa using h3
        omega
    · unfold numberL at h4
      rw [if_neg (by omega), if_neg (by omega), if_neg (by omega), if_neg (by omega), if_neg (by omega), if_neg (by omega), if_neg (by omega)] at h4
      simpa using h4
mutual
def Trm.uC (P : Int → Int → Bool) : Trm → Int → Int
  | .mk op n _ t, deep => (if P op n = true then 1 else 0) + (if deep < 1000 then Trm.uCs P t (deep + 1) else 0)
def Trm.uCs (P : Int → Int → Bool) : List Trm → Int → Int
  | [], _ => 0
  | x :: xs, deep => Trm.uC P x deep + Trm.uCs P xs deep
end
theorem Trm.uC_eq (P : Int → Int → Bool) (t : Trm) (deep : Int) : t.uC P deep = (if P t.op t.n = true then 1 else 0) + (if deep < 1000 then Trm.uCs P t.t (deep + 1) else 0) := by cases t; rw [Trm.uC]; rfl
theorem Trm.uC_bd (P : Int → Int → Bool) (t : Trm) : ∀ deep : Int, 0 ≤ t.uC P deep ∧ t.uC P deep ≤ t.cnt := by
  induction t using Trm.ind with
  | h t ih =>
    intro deep
    have key : ∀ l : List Trm, (∀ y ∈ l, ∀ deep : Int, 0 ≤ y.uC P deep ∧ y.uC P deep ≤ y.cnt) → ∀ deep, 0 ≤ Trm.uCs P l deep ∧ Trm.uCs P l deep ≤ Trm.cnts l := by
      intro l
      induction l with
      | nil => intro _ _; rw [Trm.uCs, Trm.cnts]; omega
      | cons x l ihl => intro hy deep; rw [Trm.uCs, Trm.cnts]; have := hy x (by simp) deep; have := ihl (fun z hz => hy z (by simp [hz])) deep; omega
    have := key t.t ih (deep + 1)
    have := Trm.cnts_pos t.t
    rw [Trm.uC_eq, Trm.cnt_eq]
    split <;> split <;> omega
theorem Trm.uCs_bd (P : Int → Int → Bool) (l : List Trm) (deep : Int) : 0 ≤ Trm.uCs P l deep ∧ Trm.uCs P l deep ≤ Trm.cnts l := by
  induction l with
  | nil => rw [Trm.uCs, Trm.cnts]; omega
  | cons x l ih => rw [Trm.uCs, Trm.cnts]; have := x.uC_bd P deep; omega
def setP (v op n : Int) : Bool := (op == 2 || op == 14) && n == v
def refP (v op n : Int) : Bool := op == 1 && n == v
theorem Trm.uS_pos (v : Int) (t : Trm) : ∀ deep : Int, deep + t.dep < 1000 → (0 < t.uC (setP v) deep ↔ v ∈ t.asg) := by
  induction t using Trm.ind with
  | h t ih =>
    intro deep h
    have hge := Trm.deps_ge t.t 0
    rw [Trm.dep_eq] at h
    have hd := (Trm.deps_le (999 - deep) t.t 0).1 (by omega)
    have key : ∀ l : List Trm, (∀ y ∈ l, ∀ deep : Int, deep + y.dep < 1000 → (0 < y.uC (setP v) deep ↔ v ∈ y.asg)) → ∀ deep, (∀ x ∈ l, deep + x.dep < 1000) → (0 < Trm.uCs (setP v) l deep ↔ v ∈ Trm.asgs l) := by
      intro l
      induction l with
      | nil => intro _ _ _; rw [Trm.uCs, Trm.asgs]; simp
      | cons x l ihl =>
        intro hy deep hx
        rw [Trm.uCs, Trm.asgs, List.mem_append, ← hy x (by simp) deep (hx x (by simp)), ← ihl (fun z hz => hy z (by simp [hz])) deep fun z hz => hx z (by simp [hz])]
        have := x.uC_bd (setP v) deep
        have := Trm.uCs_bd (setP v) l deep
        omega
    have hk := key t.t ih (deep + 1) fun x hx => by have := hd.2 x hx; omega
    have hb := Trm.uCs_bd (setP v) t.t (deep + 1)
    have hlt : deep < 1000 := by omega
    rw [Trm.uC_eq, if_pos hlt, Trm.asg_eq, List.mem_append, ← hk]
    by_cases hp : setP v t.op t.n = true
    · rw [if_pos hp]
      simp [setP] at hp
      rw [if_pos hp.1]
      simp [hp.2]
      omega
    · rw [if_neg hp]
      have : ¬ v ∈ (if t.op = 2 ∨ t.op = 14 then [t.n] else []) := by
        split
        · rename_i ho
          intro hv
          exact hp (by simp [setP, ho]; simp at hv; exact hv.symm)
        · simp
      simp only [this, false_or]
      omega
def putI (l : List Int) (v : Int) : List Int := l.takeWhile (fun x => decide (x < v)) ++ (if (l.dropWhile fun x => decide (x < v)).head? = some v then l.dropWhile (fun x => decide (x < v)) else v :: l.dropWhile fun x => decide (x < v))
theorem putI_cons (x : Int) (l : List Int) (v : Int) : putI (x :: l) v = if x < v then x :: putI l v else if x = v then x :: l else v :: x :: l := by
  unfold putI
  by_cases h : x < v
  · simp [List.takeWhile_cons, List.dropWhile_cons, h]
  · simp [List.takeWhile_cons, List.dropWhile_cons, h]
theorem mem_putI (v x : Int) : ∀ l : List Int, x ∈ putI l v ↔ x = v ∨ x ∈ l
  | [] => by simp [putI]
  | y :: l => by
    rw [putI_cons]
    split
    · rw [List.mem_cons, mem_putI v x l, List.mem_cons]
      constructor
      · rintro (h | h | h)
        · exact .inr (.inl h)
        · exact .inl h
        · exact .inr (.inr h)
      · rintro (h | h | h)
        · exact .inr (.inl h)
        · exact .inl h
        · exact .inr (.inr h)
    · split
      · rename_i e; rw [List.mem_cons, e]
        constructor
        · rintro (h | h)
          · exact .inl h
          · exact .inr (.inr h)
        · rintro (h | h | h)
          · exact .inl h
          · exact .inl h
          · exact .inr h
      · rw [List.mem_cons]
theorem putI_lt (v : Int) : ∀ {l : List Int}, l.Pairwise (· < ·) → (putI l v).Pairwise (· < ·)
  | [], _ => by simp [putI]
  | y :: l, h => by
    rw [List.pairwise_cons] at h
    rw [putI_cons]
    split
    · rw [List.pairwise_cons]
      refine ⟨fun z hz => ?_, putI_lt v h.2⟩
      rcases (mem_putI v z l).1 hz with rfl | hz
      · assumption
      · exact h.1 z hz
    · split
      · exact List.pairwise_cons.2 h
      · rw [List.pairwise_cons]
        refine ⟨fun z hz => ?_, List.pairwise_cons.2 h⟩
        rcases List.mem_cons.1 hz with rfl | hz
        · omega
        · have := h.1 z hz; omega
theorem putI_len (v : Int) : ∀ l : List Int, (putI l v).length ≤ l.length + 1
  | [] => by simp [putI]
  | y :: l => by
    rw [putI_cons]
    have := putI_len v l
    split
    · simp; omega
    · split <;> simp
mutual
def Trm.bD : Trm → Int → List Int → List Int
  | .mk _ _ v t, deep, out => if deep < 1000 then Trm.bDs t (deep + 1) (v.foldl putI out) else v.foldl putI out
def Trm.bDs : List Trm → Int → List Int → List Int
  | [], _, out => out
  | x :: xs, deep, out => Trm.bDs xs deep (Trm.bD x deep out)
end
theorem Trm.bD_eq (t : Trm) (deep : Int) (out : List Int) : t.bD deep out = if deep < 1000 then Trm.bDs t.t (deep + 1) (t.v.foldl putI out) else t.v.foldl putI out := by cases t; rw [Trm.bD]; rfl
theorem foldl_putI_lt : ∀ (v out : List Int), out.Pairwise (· < ·) → (v.foldl putI out).Pairwise (· < ·)
  | [], _, h => h
  | x :: v, out, h => foldl_putI_lt v _ (putI_lt x h)
theorem mem_foldl_putI (x : Int) : ∀ (v out : List Int), x ∈ v.foldl putI out ↔ x ∈ out ∨ x ∈ v
  | [], _ => by simp
  | y :: v, out => by
    rw [List.foldl_cons, mem_foldl_putI x v, mem_putI, List.mem_cons]
    constructor
    · rintro ((h | h) | h)
      · exact .inr (.inl h)
      · exact .inl h
      · exact .inr (.inr h)
    · rintro (h | h | h)
      · exact .inl (.inr h)
      · exact .inl (.inl h)
      · exact .inr h
theorem foldl_putI_len : ∀ (v out : List Int), (v.foldl putI out).length ≤ out.length + v.length
  | [], _ => by simp
  | x :: v, out => by
    rw [List.foldl_cons, List.length_cons]
    have := foldl_putI_len v (putI out x)
    have := putI_len x out
    omega
theorem Trm.bD_spec (t : Trm) : ∀ (deep : Int) (out : List Int), out.Pairwise (· < ·) → (t.bD deep out).Pairwise (· < ·) ∧ (t.bD deep out).length ≤ out.length + t.bulk ∧ (deep + t.dep < 1000 → ∀ x, x ∈ t.bD deep out ↔ x ∈ out ∨ x ∈ t.vars) := by
  induction t using Trm.ind with
  | h t ih =>
    intro deep out ho
    have hge := Trm.deps_ge t.t 0
    have hbe := t.bulk_eq
    have key : ∀ l : List Trm, (∀ y ∈ l, ∀ (deep : Int) (out : List Int), out.Pairwise (· < ·) → (y.bD deep out).Pairwise (· < ·) ∧ (y.bD deep out).length ≤ out.length + y.bulk ∧ (deep + y.dep < 1000 → ∀ x, x ∈ y.bD deep out ↔ x ∈ out ∨ x ∈ y.vars)) →
        ∀ (deep : Int) (out : List Int), out.Pairwise (· < ·) → (Trm.bDs l deep out).Pairwise (· < ·) ∧ (Trm.bDs l deep out).length ≤ out.length + Trm.bulks l ∧ ((∀ x ∈ l, deep + x.dep < 1000) → ∀ x, x ∈ Trm.bDs l deep out ↔ x ∈ out ∨ x ∈ Trm.varss l) := by
      intro l
      induction l with
      | nil => intro _ deep out ho; rw [Trm.bDs, Trm.varss]; exact ⟨ho, by omega, by simp⟩
      | cons x l ihl =>
        intro hy deep out ho
        obtain ⟨a1, a2, a3⟩ := hy x (by simp) deep out ho
        obtain ⟨b1, b2, b3⟩ := ihl (fun z hz => hy z (by simp [hz])) deep (x.bD deep out) a1
        rw [Trm.bDs, Trm.varss, Trm.bulks]
        refine ⟨b1, by omega, fun hd z => ?_⟩
        rw [b3 (fun y hz => hd y (by simp [hz])), a3 (hd x (by simp)), List.mem_append, or_assoc]
    have hf := foldl_putI_lt t.v out ho
    have hl := foldl_putI_len t.v out
    obtain ⟨b1, b2, b3⟩ := key t.t ih (deep + 1) _ hf
    rw [Trm.bD_eq]
    split
    · refine ⟨b1, by omega, fun hd z => ?_⟩
      rw [Trm.dep_eq] at hd
      have hd2 := (Trm.deps_le (999 - deep) t.t 0).1 (by omega)
      rw [b3 fun x hx => by have := hd2.2 x hx; omega]
      rw [mem_foldl_putI, Trm.vars_eq, List.mem_append, or_assoc]
    · exact ⟨hf, by omega, fun hd => by rw [Trm.dep_eq] at hd; omega⟩
def bndL (t : Trm) : List Int := riseL t.vars
theorem Trm.bD_rise (t : Trm) (h : t.dep < 1000) : t.bD 0 [] = bndL t := by
  obtain ⟨h1, _, h3⟩ := t.bD_spec 0 [] List.Pairwise.nil
  exact lt_ext h1 (rise_lt _) fun x => by rw [h3 (by omega), bndL, mem_rise]; simp
theorem Trm.binds_rise (t : Trm) (h : t.dep < 1000) : riseL (bindsOf t.all) = bndL t := by
  have := (t.met_all [] 0 (by omega)).2
  unfold bndL bindsOf
  exact congrArg riseL this
def nextT (t : Trm) : Int := if bndL t = [] then 0 else (bndL t).getD ((bndL t).length - 1) 0 + 1
def noP : Prog := ⟨[], .mk 0 0 [] []⟩
def asgB (t : Trm) (v : Int) : Bool := t.asg.contains v
def cvP (p : Prog) : Prog := ⟨p.consts, p.body.cv (asgB p.body) (nextT p.body)⟩
def conv10 (p : Prog) : Prog × Int := if checkP p 1 = 0 then (if checkP (cvP p) 2 = 0 then (cvP p, 0) else (noP, 5)) else (noP, 5)
end Go.Cb
namespace Go.Cb
open Go.Proofs
set_option maxRecDepth 100000
set_option maxHeartbeats 4000000
theorem Trm.frs_append (A : Int → Bool) : ∀ l m : List Trm, Trm.frs A (l ++ m) = Trm.frs A l + Trm.frs A m
  | [], m => by simp [Trm.frs]
  | x :: l, m => by rw [List.cons_append, Trm.frs, Trm.frs, Trm.frs_append A l m]; omega
theorem Trm.frs_take (A : Int → Bool) {l : List Trm} {i : Nat} (h : i < l.length) : Trm.frs A (l.take (i + 1)) = Trm.frs A (l.take i) + (l[i]).fr A := by
  rw [List.take_succ_eq_append_getElem h, Trm.frs_append, Trm.frs, Trm.frs]; omega
theorem Trm.cvs_get (A : Int → Bool) : ∀ (l : List Trm) (k : Int) (i : Nat) (h : i < l.length), (Trm.cvs A l k)[i]'(by rw [Trm.cvs_length]; exact h) = (l[i]).cv A (k + Trm.frs A (l.take i))
  | x :: l, k, 0, _ => by simp [Trm.cvs, Trm.frs]
  | x :: l, k, i + 1, h => by
    have ih := Trm.cvs_get A l (k + x.fr A) i (by simpa using h)
    simp only [Trm.cvs, List.getElem_cons_succ, List.take_succ_cons, Trm.frs]
    rw [ih]
    congr 1; omega
theorem lamN_bd (A : Int → Bool) (l : List Int) : 0 ≤ lamN A l ∧ lamN A l ≤ l.length := by
  unfold lamN
  have := List.length_filter_le A l
  omega
theorem Trm.fr_bd (A : Int → Bool) (t : Trm) : 0 ≤ t.fr A ∧ t.fr A ≤ t.bulk := by
  induction t using Trm.ind with
  | h t ih =>
    have key : ∀ l : List Trm, (∀ x ∈ l, 0 ≤ x.fr A ∧ x.fr A ≤ x.bulk) → 0 ≤ Trm.frs A l ∧ Trm.frs A l ≤ Trm.bulks l := by
      intro l
      induction l with
      | nil => intro _; rw [Trm.frs, Trm.bulks]; omega
      | cons y l ihl => intro h; rw [Trm.frs, Trm.bulks]; have := h y (by simp); have := ihl fun z hz => h z (by simp [hz]); omega
    have := key t.t ih
    have := lamN_bd A t.v
    rw [Trm.fr_eq, Trm.bulk_eq]
    split <;> omega
theorem Trm.frs_bd (A : Int → Bool) : ∀ l : List Trm, 0 ≤ Trm.frs A l ∧ Trm.frs A l ≤ Trm.bulks l
  | [] => by rw [Trm.frs, Trm.bulks]; omega
  | y :: l => by rw [Trm.frs, Trm.bulks]; have := y.fr_bd A; have := Trm.frs_bd A l; omega
theorem Trm.bulks_append : ∀ l m : List Trm, Trm.bulks (l ++ m) = Trm.bulks l + Trm.bulks m
  | [], m => by simp [Trm.bulks]
  | x :: l, m => by rw [List.cons_append, Trm.bulks, Trm.bulks, Trm.bulks_append l m]; omega
theorem lamV_len (A : Int → Bool) : ∀ (l : List Int) (k : Int), (lamV A l k).length = l.length
  | [], _ => rfl
  | v :: l, k => by rw [lamV]; split <;> rw [List.length_cons, List.length_cons, lamV_len A l]
theorem lamT_bulk (A : Int → Bool) : ∀ (l : List Int) (k : Int), Trm.bulks (lamT A l k) ≤ 2 * l.length
  | [], _ => by simp [lamT, Trm.bulks]
  | v :: l, k => by
    have := lamT_bulk A l k
    have := lamT_bulk A l (k + 1)
    rw [lamT, List.length_cons]
    split
    · simp only [Trm.bulks, boxT, refT, Trm.bulk, List.length_nil]; omega
    · omega
theorem boxT_bulk (t : Trm) : (boxT t).bulk = 1 + t.bulk := by rw [boxT, Trm.bulk, Trm.bulks, Trm.bulks]; simp
theorem boxAll_bulk (A : Int → Bool) : ∀ (vs : List Int) (l : List Trm), Trm.bulks (boxAll A vs l) ≤ vs.length + Trm.bulks l
  | [], l => by simp [boxAll]
  | _ :: _, [] => by simp [boxAll, Trm.bulks]
  | v :: vs, x :: l => by
    have := boxAll_bulk A vs l
    rw [boxAll, Trm.bulks, Trm.bulks, List.length_cons]
    split
    · rw [boxT_bulk]; omega
    · omega
theorem fix_bulk (A : Int → Bool) : ∀ (vs : List Int) (l : List Trm) (o : Trm), Trm.bulks (fixT A vs l) + (fixO A vs l o).bulk ≤ 3 * vs.length + Trm.bulks (l.take vs.length) + o.bulk
  | [], l, o => by simp [fixT, fixO, Trm.bulks]
  | v :: vs, [], o => by simp only [fixT, fixO, Trm.bulks, List.take_nil]; omega
  | v :: vs, x :: l, o => by
    have := fix_bulk A vs l o
    rw [fixT, fixO, List.length_cons, List.take_succ_cons, Trm.bulks]
    split
    · simp only [Trm.bulk, Trm.bulks, refT, List.length_nil]; omega
    · rw [Trm.bulks]; omega
theorem getD_bulk : ∀ (l : List Trm) (i : Nat), Trm.bulks (l.take i) + (l.getD i (refT 0)).bulk ≤ 1 + Trm.bulks l
  | [], _ => by simp [refT, Trm.bulk, Trm.bulks]
  | x :: l, 0 => by simp [Trm.bulks]; omega
  | x :: l, i + 1 => by
    have := getD_bulk l i
    rw [List.take_succ_cons, Trm.bulks, Trm.bulks]
    simp only [List.getD_cons_succ]
    omega
theorem boxes_bulk (l : List Int) : Trm.bulks (l.map fun _ => boxT (.mk 13 0 [] [])) = 2 * l.length := by
  induction l with
  | nil => rfl
  | cons v l ih => rw [List.map_cons, Trm.bulks, ih, boxT_bulk, Trm.bulk, Trm.bulks, List.length_cons, List.length_nil]; omega
theorem fixR_bulk (A : Int → Bool) (vs : List Int) (l : List Trm) : (fixR A vs l).bulk ≤ 4 + 7 * vs.length + Trm.bulks l := by
  have h1 := fix_bulk A vs l (l.getD vs.length (refT 0))
  have h2 := getD_bulk l vs.length
  have h4 := List.length_filter_le A vs
  have h5 := List.length_filter_le (fun v => !A v) vs
  have hE : (fixE A vs l).bulk ≤ 2 + 4 * vs.length + Trm.bulks l := by
    unfold fixE
    simp only
    split
    · omega
    · rw [Trm.bulk, Trm.bulks_append, Trm.bulks, Trm.bulks]; omega
  unfold fixR
  rw [Trm.bulk, Trm.bulks_append, boxes_bulk, Trm.bulks, Trm.bulks]
  omega
theorem Trm.cv_bulk (A : Int → Bool) (t : Trm) : ∀ k : Int, (t.cv A k).bulk ≤ 8 * t.bulk := by
  induction t using Trm.ind with
  | h t ih =>
    intro k
    have hb := t.bulk_eq
    have key : ∀ l : List Trm, (∀ x ∈ l, ∀ k : Int, (x.cv A k).bulk ≤ 8 * x.bulk) → ∀ k, Trm.bulks (Trm.cvs A l k) ≤ 8 * Trm.bulks l := by
      intro l
      induction l with
      | nil => intro _ k; rw [Trm.cvs, Trm.bulks]; omega
      | cons y l ihl => intro h k; rw [Trm.cvs, Trm.bulks, Trm.bulks]; have := h y (by simp) k; have := ihl (fun z hz => h z (by simp [hz])) (k + y.fr A); omega
    have hk := key t.t ih
    have h4 := List.length_filter_le A t.v
    rw [Trm.cv_eq]
    split
    · simp only [Trm.bulk, Trm.bulks, List.length_nil]; omega
    split
    · have := hk k; simp only [Trm.bulk, Trm.bulks, refT, List.length_nil]; omega
    split
    · have := hk k; simp only [Trm.bulk, Trm.bulks, refT, List.length_nil]; omega
    split
    · have := hk (k + lamN A t.v)
      have := lamV_len A t.v k
      have := lamT_bulk A t.v k
      split
      · simp only [Trm.bulk]; omega
      · simp only [Trm.bulk, Trm.bulks, Trm.bulks_append]; omega
    split
    · have := hk k; have := fixR_bulk A t.v (Trm.cvs A t.t k); omega
    · have := hk k
      have := boxAll_bulk A t.v (Trm.cvs A t.t k)
      split
      · simp only [Trm.bulk]; omega
      · simp only [Trm.bulk]; omega
end Go.Cb
namespace Go.Cb
open Go.Proofs
set_option maxRecDepth 100000
set_option maxHeartbeats 4000000
theorem made_c {x : PV} {l : List Trm} [h : SlOf Trm.pv 4 x l] (op : Int) : ACallP Tryz.prog 89 [.int .i64 op, x] (.agg (Trm.mk op 0 [] l).cells) := by
  refine ACall.wk (args' := [.int .i64 op, .sl 4 (l.map Trm.pv) none]) ?_ (.cons (Wk.refl _) (.cons h.wk .nil))
  refine ACall.of_body tt_ok Tryz.func89 rfl rfl (n := 8) rfl rfl ?_
  conv => whnf
  repeat ((first | ((first | (apply zY;intro hg) | apply zZ);first | exact stA | exact stB) | (refine zW ?_ ?_;exact gA) | refine zH rfl ?_ | refine zA ?_ | refine zI bA ?_ | refine zI rfl ?_ | refine zJ rfl rfl ?_ | refine zB ?_ | refine zK rfl ?_ | refine zL rfl ?_ | refine zC ?_ | (refine zO ?_ ?_ ?_;omega;omega) | (refine zP ?_ ?_ ?_;omega;omega) | refine zM rfl ?_ | (refine zQ ?_ ?_ ?_;omega;omega) | (refine zR ?_ ?_;omega) | (refine zI ?_ ?_;exact nA) | (refine zS ?_ ?_ ?_;omega;omega) | (refine zT ?_ ?_ ?_;omega;omega) | (refine zU ?_ ?_ ?_;omega;omega) | (refine zV ?_ ?_ ?_;omega;omega) | (refine yA ?_ rfl ?_ ?_;assumption;exact lA) | (refine yB ?_ rfl ?_ ?_;assumption;exact lA) | (refine yC rfl ?_ ?_;exact lA) | refine n0 ?_ | refine zN rfl rfl rfl ?_ | refine zD ?_ | refine zE ?_ | refine zF ?_ | intro _);conv=>whnf)
  exact PRet.pure wA
theorem ref_c (v : Int) : ACallP Tryz.prog 90 [.int .i64 v] (.agg (refT v).cells) := by
  refine ACall.of_body tt_ok Tryz.func90 rfl rfl (n := 5) rfl rfl ?_
  conv => whnf
  repeat ((first | ((first | (apply zY;intro hg) | apply zZ);first | exact stA | exact stB) | (refine zW ?_ ?_;exact gA) | refine zH rfl ?_ | refine zA ?_ | refine zI bA ?_ | refine zI rfl ?_ | refine zJ rfl rfl ?_ | refine zB ?_ | refine zK rfl ?_ | refine zL rfl ?_ | refine zC ?_ | (refine zO ?_ ?_ ?_;omega;omega) | (refine zP ?_ ?_ ?_;omega;omega) | refine zM rfl ?_ | (refine zQ ?_ ?_ ?_;omega;omega) | (refine zR ?_ ?_;omega) | (refine zI ?_ ?_;exact nA) | (refine zS ?_ ?_ ?_;omega;omega) | (refine zT ?_ ?_ ?_;omega;omega) | (refine zU ?_ ?_ ?_;omega;omega) | (refine zV ?_ ?_ ?_;omega;omega) | (refine yA ?_ rfl ?_ ?_;assumption;exact lA) | (refine yB ?_ rfl ?_ ?_;assumption;exact lA) | (refine yC rfl ?_ ?_;exact lA) | refine n0 ?_ | refine zN rfl rfl rfl ?_ | refine zD ?_ | refine zE ?_ | refine zF ?_ | intro _);conv=>whnf)
  exact PRet.pure wA
abbrev cvG (b r : Nat) (L : List Int) (k : Int) : List Ent := [.box b [.mp r, .int .i64 k], .mp r (.int .i64) (setM L) []]
theorem note_c (b r : Nat) (k : Int) (t : Trm) : ∀ (L : List Int), t.bulk ≤ 1000000000 → ACall Tryz.prog 54 [.ptr b 0, .agg t.cells] (cvG b r L k) (fun y Γ' => y = .tup [] ∧ ∃ L', (∀ x, x ∈ L' ↔ x ∈ L ∨ x ∈ t.asg) ∧ Γ' = cvG b r L' k) := by
  induction t using Trm.ind with
  | h t ih =>
    intro L hb
    have hbe := t.bulk_eq
    have hbs := Trm.bulks_length t.t
    have he := t.asg_eq
    refine ACall.of_body tt_ok Tryz.func54 rfl rfl (n := 31) rfl rfl ?_
    conv => whnf
    repeat ((first | ((first | (apply zY;intro hg) | apply zZ);first | exact stA | exact stB) | (refine zW ?_ ?_;exact gA) | refine zH rfl ?_ | refine zA ?_ | refine zI bA ?_ | refine zI rfl ?_ | refine zJ rfl rfl ?_ | refine zB ?_ | refine zK rfl ?_ | refine zL rfl ?_ | refine zC ?_ | (refine zO ?_ ?_ ?_;omega;omega) | (refine zP ?_ ?_ ?_;omega;omega) | refine zM rfl ?_ | (refine zQ ?_ ?_ ?_;omega;omega) | (refine zR ?_ ?_;omega) | (refine zI ?_ ?_;exact nA) | (refine zS ?_ ?_ ?_;omega;omega) | (refine zT ?_ ?_ ?_;omega;omega) | (refine zU ?_ ?_ ?_;omega;omega) | (refine zV ?_ ?_ ?_;omega;omega) | (refine yA ?_ rfl ?_ ?_;assumption;exact lA) | (refine yB ?_ rfl ?_ ?_;assumption;exact lA) | (refine yC rfl ?_ ?_;exact lA) | refine n0 ?_ | refine zN rfl rfl rfl ?_ | refine zD ?_ | refine zE ?_ | refine zF ?_ | refine PDraw.sP (some 14) rfl [] [6] tt_ok mixed ?_ | intro _);conv=>whnf)
    rename_i b1
    refine PSeq.join (fun _ => []) (fun L' => .box b1 [.int .i64 t.op, .int .i64 t.n, .sl 1 (t.v.map (PV.int .i64)) none, .sl 4 (t.t.map Trm.pv) none] :: cvG b r L' k) (fun L' => ∀ x, x ∈ L' ↔ x ∈ L ∨ x ∈ (if t.op = 2 ∨ t.op = 14 then [t.n] else [])) ?_ ?_
    · conv => whnf
      repeat' (first | ((first | ((first | (apply zY;intro hg) | apply zZ);first | exact stA | exact stB) | (refine zW ?_ ?_;exact gA) | refine zH rfl ?_ | refine zA ?_ | refine zI bA ?_ | refine zI rfl ?_ | refine zJ rfl rfl ?_ | refine zB ?_ | refine zK rfl ?_ | refine zL rfl ?_ | refine zC ?_ | (refine zO ?_ ?_ ?_;omega;omega) | (refine zP ?_ ?_ ?_;omega;omega) | refine zM rfl ?_ | (refine zQ ?_ ?_ ?_;omega;omega) | (refine zR ?_ ?_;omega) | (refine zI ?_ ?_;exact nA) | (refine zS ?_ ?_ ?_;omega;omega) | (refine zT ?_ ?_ ?_;omega;omega) | (refine zU ?_ ?_ ?_;omega;omega) | (refine zV ?_ ?_ ?_;omega;omega) | (refine yA ?_ rfl ?_ ?_;assumption;exact lA) | (refine yB ?_ rfl ?_ ?_;assumption;exact lA) | (refine yC rfl ?_ ?_;exact lA) | refine n0 ?_ | refine zN rfl rfl rfl ?_ | refine zD ?_ | refine zE ?_ | refine zF ?_ | refine PDraw.sP (some 14) rfl [] [6] tt_ok mixed ?_ | intro _ | refine zG ?_);conv=>whnf) | (refine zX (fun hc => ?_) (fun hc => ?_)<;>(try simp only [SY] at hc)<;>first | omega | (conv=>whnf)))
      · exact joinEnd (t.n :: L) (by intro x; rw [if_pos hc]; simp [or_comm]) wA
      · exact joinEnd L (by intro x; rw [if_neg (by omega)]; simp) wA
    · intro L1 hL1
      conv => whnf
      repeat ((first | ((first | (apply zY;intro hg) | apply zZ);first | exact stA | exact stB) | (refine zW ?_ ?_;exact gA) | refine zH rfl ?_ | refine zA ?_ | refine zI bA ?_ | refine zI rfl ?_ | refine zJ rfl rfl ?_ | refine zB ?_ | refine zK rfl ?_ | refine zL rfl ?_ | refine zC ?_ | (refine zO ?_ ?_ ?_;omega;omega) | (refine zP ?_ ?_ ?_;omega;omega) | refine zM rfl ?_ | (refine zQ ?_ ?_ ?_;omega;omega) | (refine zR ?_ ?_;omega) | (refine zI ?_ ?_;exact nA) | (refine zS ?_ ?_ ?_;omega;omega) | (refine zT ?_ ?_ ?_;omega;omega) | (refine zU ?_ ?_ ?_;omega;omega) | (refine zV ?_ ?_ ?_;omega;omega) | (refine yA ?_ rfl ?_ ?_;assumption;exact lA) | (refine yB ?_ rfl ?_ ?_;assumption;exact lA) | (refine yC rfl ?_ ?_;exact lA) | refine n0 ?_ | refine zN rfl rfl rfl ?_ | refine zD ?_ | refine zE ?_ | refine zF ?_ | refine PDraw.sP (some 14) rfl [] [6] tt_ok mixed ?_ | intro _);conv=>whnf)
      refine PLoop.over [5, 23, 24, 25, 26, 27, 28, 29, 30] (fun x : Nat × List Int => [(23, .int .i64 x.1)]) (fun x : Nat × List Int => .box b1 [.int .i64 t.op, .int .i64 t.n, .sl 1 (t.v.map (PV.int .i64)) none, .sl 4 (t.t.map Trm.pv) none] :: cvG b r x.2 k)
        (fun x => x.1 ≤ t.t.length ∧ ∀ y, y ∈ x.2 ↔ y ∈ L1 ∨ y ∈ Trm.asgs (t.t.take x.1)) (fun x => t.t.length - x.1) (0, L1) ⟨Nat.zero_le _, by simp [Trm.asgs]⟩ wA ?_
      rintro ⟨i, L2⟩ ⟨hi, hL2⟩
      dsimp only at hi hL2 ⊢
      conv => whnf
      repeat' (first | ((first | ((first | (apply zY;intro hg) | apply zZ);first | exact stA | exact stB) | (refine zW ?_ ?_;exact gA) | refine zH rfl ?_ | refine zA ?_ | refine zI bA ?_ | refine zI rfl ?_ | refine zJ rfl rfl ?_ | refine zB ?_ | refine zK rfl ?_ | refine zL rfl ?_ | refine zC ?_ | (refine zO ?_ ?_ ?_;omega;omega) | (refine zP ?_ ?_ ?_;omega;omega) | refine zM rfl ?_ | (refine zQ ?_ ?_ ?_;omega;omega) | (refine zR ?_ ?_;omega) | (refine zI ?_ ?_;exact nA) | (refine zS ?_ ?_ ?_;omega;omega) | (refine zT ?_ ?_ ?_;omega;omega) | (refine zU ?_ ?_ ?_;omega;omega) | (refine zV ?_ ?_ ?_;omega;omega) | (refine yA ?_ rfl ?_ ?_;assumption;exact lA) | (refine yB ?_ rfl ?_ ?_;assumption;exact lA) | (refine yC rfl ?_ ?_;exact lA) | refine n0 ?_ | refine zN rfl rfl rfl ?_ | refine zD ?_ | refine zE ?_ | refine zF ?_ | refine PDraw.sP (some 14) rfl [] [6] tt_ok mixed ?_ | intro _ | refine zG ?_);conv=>whnf) | (refine zX (fun hc => ?_) (fun hc => ?_)<;>(try simp only [SY] at hc)<;>first | omega | (conv=>whnf)))
      · have hlt : i < t.t.length := by omega
        refine PCall.go (ih _ (List.getElem_mem hlt) L2 (by have := Trm.bulks_mem (List.getElem_mem hlt); omega)) (WkT.refl _) ?_
        rintro _ _ ⟨rfl, L3, hL3, rfl⟩
        conv => whnf
        repeat' (first | ((first | ((first | (apply zY;intro hg) | apply zZ);first | exact stA | exact stB) | (refine zW ?_ ?_;exact gA) | refine zH rfl ?_ | refine zA ?_ | refine zI bA ?_ | refine zI rfl ?_ | refine zJ rfl rfl ?_ | refine zB ?_ | refine zK rfl ?_ | refine zL rfl ?_ | refine zC ?_ | (refine zO ?_ ?_ ?_;omega;omega) | (refine zP ?_ ?_ ?_;omega;omega) | refine zM rfl ?_ | (refine zQ ?_ ?_ ?_;omega;omega) | (refine zR ?_ ?_;omega) | (refine zI ?_ ?_;exact nA) | (refine zS ?_ ?_ ?_;omega;omega) | (refine zT ?_ ?_ ?_;omega;omega) | (refine zU ?_ ?_ ?_;omega;omega) | (refine zV ?_ ?_ ?_;omega;omega) | (refine yA ?_ rfl ?_ ?_;assumption;exact lA) | (refine yB ?_ rfl ?_ ?_;assumption;exact lA) | (refine yC rfl ?_ ?_;exact lA) | refine n0 ?_ | refine zN rfl rfl rfl ?_ | refine zD ?_ | refine zE ?_ | refine zF ?_ | refine PDraw.sP (some 14) rfl [] [6] tt_ok mixed ?_ | intro _ | refine zG ?_);conv=>whnf) | (refine zX (fun hc => ?_) (fun hc => ?_)<;>(try simp only [SY] at hc)<;>first | omega | (conv=>whnf)))
        refine loopTo (i + 1, L3) ⟨by show i + 1 ≤ _; omega, fun y => ?_⟩ (by show t.t.length - (i + 1) < t.t.length - i; omega) wA
        rw [hL3, hL2, List.take_succ_eq_append_getElem hlt, Trm.asgs_flat, Trm.asgs_flat, List.flatMap_append, List.mem_append, or_assoc]
        simp
      · rw [List.take_of_length_le (by omega)] at hL2
        refine PRet.gen (Γ' := cvG b r L2 k) (Wk.refl _) ⟨rfl, L2, fun y => ?_, rfl⟩
        rw [hL2, hL1, he, List.mem_append, or_assoc]
def CvOk (b r : Nat) (L : List Int) (x : Trm) : Prop := ∀ k : Int, 0 ≤ k → k + x.bulk ≤ 1000000000000000 →
  ACall Tryz.prog 56 [.ptr b 0, .agg x.cells] (cvG b r L k) (fun y Γ' => y = .agg (x.cv L.contains k).cells ∧ Γ' = cvG b r L (k + x.fr L.contains))
theorem asgAll_c (b r : Nat) (L : List Int) (l : List Trm) (k : Int) (hf : ∀ x ∈ l, CvOk b r L x) (h0 : 0 ≤ k) (hk : k + Trm.bulks l ≤ 1000000000000000) (hl : l.length ≤ 1000000000) :
    ACall Tryz.prog 96 [.sl 4 (l.map Trm.pv) none, .fm 56 (.ptr b 0)] (cvG b r L k)
      (fun y Γ' => ∃ tk : Tok, tk.e = 26 ∧ tk.s = 4 ∧ y = .ms tk ∧ Γ' = .row tk ((Trm.cvs L.contains l k).map Trm.pv) :: cvG b r L (k + Trm.frs L.contains l)) := by
  refine ACall.of_body tt_ok Tryz.func96 rfl rfl (n := 22) rfl rfl ?_
  conv => whnf
  repeat ((first | ((first | (apply zY;intro hg) | apply zZ);first | exact stA | exact stB) | (refine zW ?_ ?_;exact gA) | refine zH rfl ?_ | refine zA ?_ | refine zI bA ?_ | refine zI rfl ?_ | refine zJ rfl rfl ?_ | refine zB ?_ | refine zK rfl ?_ | refine zL rfl ?_ | refine zC ?_ | (refine zO ?_ ?_ ?_;omega;omega) | (refine zP ?_ ?_ ?_;omega;omega) | refine zM rfl ?_ | (refine zQ ?_ ?_ ?_;omega;omega) | (refine zR ?_ ?_;omega) | (refine zI ?_ ?_;exact nA) | (refine zS ?_ ?_ ?_;omega;omega) | (refine zT ?_ ?_ ?_;omega;omega) | (refine zU ?_ ?_ ?_;omega;omega) | (refine zV ?_ ?_ ?_;omega;omega) | (refine yA ?_ rfl ?_ ?_;assumption;exact lA) | (refine yB ?_ rfl ?_ ?_;assumption;exact lA) | (refine yC rfl ?_ ?_;exact lA) | refine n0 ?_ | refine zN rfl rfl rfl ?_ | refine zD ?_ | refine zE ?_ | refine zF ?_ | intro _);conv=>whnf)
  refine PLoop.enter [5, 7, 10, 11, 12, 13, 14, 15, 16, 17, 18, 19, 20] (fun x : Nat × List Trm × Tok => [(5, .ms x.2.2), (10, .int .i64 x.1)]) (fun x : Nat × List Trm × Tok => .row x.2.2 (x.2.1.map Trm.pv) :: cvG b r L (k + Trm.frs L.contains (l.take x.1)))
    (fun x => x.1 ≤ l.length ∧ (x.2.2.e = 26 ∧ x.2.2.s = 4) ∧ x.2.1 = (Trm.cvs L.contains l k).take x.1) (fun x => l.length - x.1) (0, [], nilTok 4 26) ⟨Nat.zero_le _, ⟨rfl, rfl⟩, rfl⟩
    (by (repeat' (first | exact trivial | exact Wk.refl _ | (refine And.intro ?_ ?_) | exact Wk.nilRow _ _ | exact Wk.any _))) (by simpa [Trm.frs] using Ghost.nilRow 4 26 _) ?_
  rintro ⟨i, m, tk⟩ ⟨hi, ⟨hte, hts⟩, hm⟩
  dsimp only at hi hte hts hm ⊢
  have hlen := Trm.cvs_length L.contains l k
  have hfb := Trm.frs_bd L.contains (l.take i)
  have hml : m.length ≤ 1000000000 := by rw [hm, List.length_take]; omega
  conv => whnf
  repeat' (first | ((first | ((first | (apply zY;intro hg) | apply zZ);first | exact stA | exact stB) | (refine zW ?_ ?_;exact gA) | refine zH rfl ?_ | refine zA ?_ | refine zI bA ?_ | refine zI rfl ?_ | refine zJ rfl rfl ?_ | refine zB ?_ | refine zK rfl ?_ | refine zL rfl ?_ | refine zC ?_ | (refine zO ?_ ?_ ?_;omega;omega) | (refine zP ?_ ?_ ?_;omega;omega) | refine zM rfl ?_ | (refine zQ ?_ ?_ ?_;omega;omega) | (refine zR ?_ ?_;omega) | (refine zI ?_ ?_;exact nA) | (refine zS ?_ ?_ ?_;omega;omega) | (refine zT ?_ ?_ ?_;omega;omega) | (refine zU ?_ ?_ ?_;omega;omega) | (refine zV ?_ ?_ ?_;omega;omega) | (refine yA ?_ rfl ?_ ?_;assumption;exact lA) | (refine yB ?_ rfl ?_ ?_;assumption;exact lA) | (refine yC rfl ?_ ?_;exact lA) | refine n0 ?_ | refine zN rfl rfl rfl ?_ | refine zD ?_ | refine zE ?_ | refine zF ?_ | intro _ | refine zG ?_);conv=>whnf) | (refine zX (fun hc => ?_) (fun hc => ?_)<;>(try simp only [SY] at hc)<;>first | omega | (conv=>whnf)))
  · have hlt : i < l.length := by omega
    have hbt : Trm.bulks (l.take i) + (l[i]).bulk ≤ Trm.bulks l := by
      have h1 : l.take (i + 1) ++ l.drop (i + 1) = l := List.take_append_drop _ _
      have h2 := congrArg Trm.bulks h1
      rw [List.take_succ_eq_append_getElem hlt, Trm.bulks_append, Trm.bulks_append, Trm.bulks, Trm.bulks] at h2
      omega
    refine PCall.go (hf _ (List.getElem_mem hlt) (k + Trm.frs L.contains (l.take i)) (by omega) (by omega)) (WkT.refl _) ?_
    rintro _ _ ⟨rfl, rfl⟩
    conv => whnf
    repeat' (first | ((first | ((first | (apply zY;intro hg) | apply zZ);first | exact stA | exact stB) | (refine zW ?_ ?_;exact gA) | refine zH rfl ?_ | refine zA ?_ | refine zI bA ?_ | refine zI rfl ?_ | refine zJ rfl rfl ?_ | refine zB ?_ | refine zK rfl ?_ | refine zL rfl ?_ | refine zC ?_ | (refine zO ?_ ?_ ?_;omega;omega) | (refine zP ?_ ?_ ?_;omega;omega) | refine zM rfl ?_ | (refine zQ ?_ ?_ ?_;omega;omega) | (refine zR ?_ ?_;omega) | (refine zI ?_ ?_;exact nA) | (refine zS ?_ ?_ ?_;omega;omega) | (refine zT ?_ ?_ ?_;omega;omega) | (refine zU ?_ ?_ ?_;omega;omega) | (refine zV ?_ ?_ ?_;omega;omega) | (refine yA ?_ rfl ?_ ?_;assumption;exact lA) | (refine yB ?_ rfl ?_ ?_;assumption;exact lA) | (refine yC rfl ?_ ?_;exact lA) | refine n0 ?_ | refine zN rfl rfl rfl ?_ | refine zD ?_ | refine zE ?_ | refine zF ?_ | intro _ | refine zG ?_);conv=>whnf) | (refine zX (fun hc => ?_) (fun hc => ?_)<;>(try simp only [SY] at hc)<;>first | omega | (conv=>whnf)))
    refine yD hte hts rfl (by simp; omega) ?_
    intro t2 ht2 hs2
    conv => whnf
    repeat' (first | ((first | ((first | (apply zY;intro hg) | apply zZ);first | exact stA | exact stB) | (refine zW ?_ ?_;exact gA) | refine zH rfl ?_ | refine zA ?_ | refine zI bA ?_ | refine zI rfl ?_ | refine zJ rfl rfl ?_ | refine zB ?_ | refine zK rfl ?_ | refine zL rfl ?_ | refine zC ?_ | (refine zO ?_ ?_ ?_;omega;omega) | (refine zP ?_ ?_ ?_;omega;omega) | refine zM rfl ?_ | (refine zQ ?_ ?_ ?_;omega;omega) | (refine zR ?_ ?_;omega) | (refine zI ?_ ?_;exact nA) | (refine zS ?_ ?_ ?_;omega;omega) | (refine zT ?_ ?_ ?_;omega;omega) | (refine zU ?_ ?_ ?_;omega;omega) | (refine zV ?_ ?_ ?_;omega;omega) | (refine yA ?_ rfl ?_ ?_;assumption;exact lA) | (refine yB ?_ rfl ?_ ?_;assumption;exact lA) | (refine yC rfl ?_ ?_;exact lA) | refine n0 ?_ | refine zN rfl rfl rfl ?_ | refine zD ?_ | refine zE ?_ | refine zF ?_ | intro _ | refine zG ?_);conv=>whnf) | (refine zX (fun hc => ?_) (fun hc => ?_)<;>(try simp only [SY] at hc)<;>first | omega | (conv=>whnf)))
    have e : k + Trm.frs L.contains (l.take i) + (l[i]).fr L.contains = k + Trm.frs L.contains (l.take (i + 1)) := by rw [Trm.frs_take _ hlt]; omega
    rw [e]
    refine loopTo (i + 1, m ++ [(l[i]).cv L.contains (k + Trm.frs L.contains (l.take i))], t2) ⟨by show i + 1 ≤ _; omega, ⟨ht2, hs2⟩, ?_⟩ (by show l.length - (i + 1) < l.length - i; omega) wA
    show m ++ [_] = (Trm.cvs L.contains l k).take (i + 1)
    rw [List.take_succ_eq_append_getElem (by omega), ← hm, Trm.cvs_get _ _ _ _ hlt]
  · have e : m = Trm.cvs L.contains l k := by rw [hm, List.take_of_length_le (by omega)]
    subst e
    rw [List.take_of_length_le (by omega)]
    exact PRet.gen (Γ' := .row tk ((Trm.cvs L.contains l k).map Trm.pv) :: cvG b r L (k + Trm.frs L.contains l)) (Wk.refl _) ⟨tk, hte, hts, rfl, rfl⟩
theorem assignedF_c (b r b2 : Nat) (L : List Int) (k v : Int) : ACall Tryz.prog 93 [.int .i64 v, .ptr b2 0] (.box b2 [.ptr b 0] :: cvG b r L k) (fun y Γ' => y = .bool (L.contains v) ∧ Γ' = .box b2 [.ptr b 0] :: cvG b r L k) := by
  refine ACall.of_body tt_ok Tryz.func93 rfl rfl (n := 10) rfl rfl ?_
  conv => whnf
  repeat ((first | ((first | (apply zY;intro hg) | apply zZ);first | exact stA | exact stB) | (refine zW ?_ ?_;exact gA) | refine zH rfl ?_ | refine zA ?_ | refine zI bA ?_ | refine zI rfl ?_ | refine zJ rfl rfl ?_ | refine zB ?_ | refine zK rfl ?_ | refine zL rfl ?_ | refine zC ?_ | (refine zO ?_ ?_ ?_;omega;omega) | (refine zP ?_ ?_ ?_;omega;omega) | refine zM rfl ?_ | (refine zQ ?_ ?_ ?_;omega;omega) | (refine zR ?_ ?_;omega) | (refine zI ?_ ?_;exact nA) | (refine zS ?_ ?_ ?_;omega;omega) | (refine zT ?_ ?_ ?_;omega;omega) | (refine zU ?_ ?_ ?_;omega;omega) | (refine zV ?_ ?_ ?_;omega;omega) | (refine yA ?_ rfl ?_ ?_;assumption;exact lA) | (refine yB ?_ rfl ?_ ?_;assumption;exact lA) | (refine yC rfl ?_ ?_;exact lA) | refine n0 ?_ | refine zN rfl rfl rfl ?_ | refine zD ?_ | refine zE ?_ | refine zF ?_ | intro _);conv=>whnf)
  exact PRet.gen (Wk.refl _) ⟨rfl, rfl⟩
theorem asgAllF_c (b r : Nat) (L : List Int) (l : List Trm) (k : Int) (hf : ∀ x ∈ l, CvOk b r L x) (h0 : 0 ≤ k) (hk : k + Trm.bulks l ≤ 1000000000000000) (hl : l.length ≤ 1000000000) :
    ACall Tryz.prog 96 [.sl 4 (l.map Trm.pv) none, .fm 56 (.ptr b 0)] (cvG b r L k)
      (fun y Γ' => y = .sl 4 ((Trm.cvs L.contains l k).map Trm.pv) none ∧ Γ' = cvG b r L (k + Trm.frs L.contains l)) :=
  (asgAll_c b r L l k hf h0 hk hl).shift fun y Γ' h => by
    obtain ⟨tk, _, hs, rfl, rfl⟩ := h
    exact ⟨_, _, Shift.trans (Shift.freezeRow (hp := ⟨List.Perm.refl _⟩) (WkF.ms' hs)) (Shift.wk (Wk.refl _) (Γ1 := [.tok tk]) (List.perm_append_singleton _ _).symm), rfl, rfl⟩
end Go.Cb
namespace Go.Cb
open Go.Proofs
set_option maxRecDepth 100000
set_option maxHeartbeats 4000000
mutual
def Trm.alk : Trm → Trm → Bool
  | .mk op n v t, .mk op' n' v' t' => op == op' && n == n' && v == v' && Trm.alks t t'
def Trm.alks : List Trm → List Trm → Bool
  | [], [] => true
  | x :: xs, y :: ys => Trm.alk x y && Trm.alks xs ys
  | _, _ => false
end
theorem Trm.alk_eq (a b : Trm) : a.alk b = (a.op == b.op && a.n == b.n && a.v == b.v && Trm.alks a.t b.t) := by cases a; cases b; rw [Trm.alk]; rfl
theorem Trm.alk_self (a : Trm) : a.alk a = true := by
  induction a using Trm.ind with
  | h t ih =>
    have key : ∀ l : List Trm, (∀ x ∈ l, x.alk x = true) → Trm.alks l l = true := by
      intro l
      induction l with
      | nil => intro _; rw [Trm.alks]
      | cons x l ihl => intro h; rw [Trm.alks, h x (by simp), ihl fun y hy => h y (by simp [hy])]; rfl
    rw [Trm.alk_eq, key _ ih]; simp
theorem Trm.alks_len : ∀ {l m : List Trm}, Trm.alks l m = true → l.length = m.length
  | [], [], _ => rfl
  | x :: l, y :: m, h => by rw [Trm.alks, Bool.and_eq_true] at h; rw [List.length_cons, List.length_cons, Trm.alks_len h.2]
  | [], _ :: _, h => by simp [Trm.alks] at h
  | _ :: _, [], h => by simp [Trm.alks] at h
theorem take_snoc {l m : List Int} {i : Nat} (h : l.take i = m.take i) (hl : i < l.length) (hm : i < m.length) (e : l[i] = m[i]) : l.take (i + 1) = m.take (i + 1) := by
  rw [List.take_succ_eq_append_getElem hl, List.take_succ_eq_append_getElem hm, h, e]
theorem alike_c (a : Trm) : ∀ b : Trm, ACallP Tryz.prog 61 [.agg a.cells, .agg b.cells] (.bool (a.alk b)) := by
  induction a using Trm.ind with
  | h a ih =>
    intro b
    have he := a.alk_eq b
    refine ACall.of_body tt_ok Tryz.func61 rfl rfl (n := 74) rfl rfl ?_
    conv => whnf
    repeat ((first | ((first | (apply zY;intro hg) | apply zZ);first | exact stA | exact stB) | (refine zW ?_ ?_;exact gA) | refine zH rfl ?_ | refine zA ?_ | refine zI bA ?_ | refine zI rfl ?_ | refine zJ rfl rfl ?_ | refine zB ?_ | refine zK rfl ?_ | refine zL rfl ?_ | refine zC ?_ | (refine zO ?_ ?_ ?_;omega;omega) | (refine zP ?_ ?_ ?_;omega;omega) | refine zM rfl ?_ | (refine zQ ?_ ?_ ?_;omega;omega) | (refine zR ?_ ?_;omega) | (refine zI ?_ ?_;exact nA) | (refine zS ?_ ?_ ?_;omega;omega) | (refine zT ?_ ?_ ?_;omega;omega) | (refine zU ?_ ?_ ?_;omega;omega) | (refine zV ?_ ?_ ?_;omega;omega) | (refine yA ?_ rfl ?_ ?_;assumption;exact lA) | (refine yB ?_ rfl ?_ ?_;assumption;exact lA) | (refine yC rfl ?_ ?_;exact lA) | refine n0 ?_ | refine zN rfl rfl rfl ?_ | refine zD ?_ | refine zE ?_ | refine zF ?_ | refine PDraw.sP (some 44) rfl [] [] tt_ok mixed ?_ | refine PDraw.sP (some 62) rfl [] [] tt_ok mixed ?_ | intro _);conv=>whnf)
    conv => whnf
    repeat' (first | ((first | ((first | (apply zY;intro hg) | apply zZ);first | exact stA | exact stB) | (refine zW ?_ ?_;exact gA) | refine zH rfl ?_ | refine zA ?_ | refine zI bA ?_ | refine zI rfl ?_ | refine zJ rfl rfl ?_ | refine zB ?_ | refine zK rfl ?_ | refine zL rfl ?_ | refine zC ?_ | (refine zO ?_ ?_ ?_;omega;omega) | (refine zP ?_ ?_ ?_;omega;omega) | refine zM rfl ?_ | (refine zQ ?_ ?_ ?_;omega;omega) | (refine zR ?_ ?_;omega) | (refine zI ?_ ?_;exact nA) | (refine zS ?_ ?_ ?_;omega;omega) | (refine zT ?_ ?_ ?_;omega;omega) | (refine zU ?_ ?_ ?_;omega;omega) | (refine zV ?_ ?_ ?_;omega;omega) | (refine yA ?_ rfl ?_ ?_;assumption;exact lA) | (refine yB ?_ rfl ?_ ?_;assumption;exact lA) | (refine yC rfl ?_ ?_;exact lA) | refine n0 ?_ | refine zN rfl rfl rfl ?_ | refine zD ?_ | refine zE ?_ | refine zF ?_ | refine PDraw.sP (some 44) rfl [] [] tt_ok mixed ?_ | refine PDraw.sP (some 62) rfl [] [] tt_ok mixed ?_ | intro _ | refine zG ?_);conv=>whnf) | (refine zX (fun hc => ?_) (fun hc => ?_)<;>(try simp only [SY] at hc)<;>first | omega | (conv=>whnf)))
    · exact PRet.pure (Wk.ff (by
        rw [he, Bool.eq_false_iff]
        intro h
        simp only [Bool.and_eq_true, beq_iff_eq] at h
        obtain ⟨⟨⟨h1, h2⟩, h3⟩, h4⟩ := h
        have h5 := Trm.alks_len h4
        simp only [h1, h2, h3, h5, not_true_eq_false, or_self] at hc))
    have h0 := hc
    refine PLoop.keep [4, 5, 37, 38, 39, 40, 41, 42, 43, 44, 45, 46, 47, 48, 49, 50, 51, 52, 53, 54] (fun i : Nat => [(5, .int .i64 i)]) (fun i => i ≤ a.v.length ∧ a.v.take i = b.v.take i) (fun i => a.v.length - i) 0 ⟨Nat.zero_le _, by simp⟩ wA ?_
    rintro i ⟨hi, hm⟩
    conv => whnf
    repeat' (first | ((first | ((first | (apply zY;intro hg) | apply zZ);first | exact stA | exact stB) | (refine zW ?_ ?_;exact gA) | refine zH rfl ?_ | refine zA ?_ | refine zI bA ?_ | refine zI rfl ?_ | refine zJ rfl rfl ?_ | refine zB ?_ | refine zK rfl ?_ | refine zL rfl ?_ | refine zC ?_ | (refine zO ?_ ?_ ?_;omega;omega) | (refine zP ?_ ?_ ?_;omega;omega) | refine zM rfl ?_ | (refine zQ ?_ ?_ ?_;omega;omega) | (refine zR ?_ ?_;omega) | (refine zI ?_ ?_;exact nA) | (refine zS ?_ ?_ ?_;omega;omega) | (refine zT ?_ ?_ ?_;omega;omega) | (refine zU ?_ ?_ ?_;omega;omega) | (refine zV ?_ ?_ ?_;omega;omega) | (refine yA ?_ rfl ?_ ?_;assumption;exact lA) | (refine yB ?_ rfl ?_ ?_;assumption;exact lA) | (refine yC rfl ?_ ?_;exact lA) | refine n0 ?_ | refine zN rfl rfl rfl ?_ | refine zD ?_ | refine zE ?_ | refine zF ?_ | refine PDraw.sP (some 44) rfl [] [] tt_ok mixed ?_ | refine PDraw.sP (some 62) rfl [] [] tt_ok mixed ?_ | intro _ | refine zG ?_);conv=>whnf) | (refine zX (fun hc => ?_) (fun hc => ?_)<;>(try simp only [SY] at hc)<;>first | omega | (conv=>whnf)))
    · have ha : i < a.v.length := by omega
      have hb : i < b.v.length := by omega
      exact PRet.pure (Wk.ff (by
        rw [he, Bool.eq_false_iff]
        intro h
        simp only [Bool.and_eq_true, beq_iff_eq] at h
        apply hc
        simp only [h.1.2]))
    · exact loopTo (i + 1) ⟨by omega, take_snoc hm (by omega) (by omega) hc⟩ (by show a.v.length - (i + 1) < a.v.length - i; omega) wA
    have hv : a.v = b.v := by rw [List.take_of_length_le (by omega), List.take_of_length_le (by omega)] at hm; exact hm
    have he2 : a.alk b = Trm.alks a.t b.t := by rw [he, h0.1.1.1, h0.1.1.2, hv]; simp
    rw [he2]
    refine PLoop.keep [4, 6, 55, 56, 57, 58, 59, 60, 61, 62, 63, 64, 65, 66, 67, 68, 69, 70, 71, 72, 73] (fun i : Nat => [(6, .int .i64 i)]) (fun i => i ≤ a.t.length ∧ Trm.alks (a.t.drop i) (b.t.drop i) = Trm.alks a.t b.t) (fun i => a.t.length - i) 0 ⟨Nat.zero_le _, rfl⟩ wA ?_
    rintro j ⟨hj, hm⟩
    conv => whnf
    repeat' (first | ((first | ((first | (apply zY;intro hg) | apply zZ);first | exact stA | exact stB | ((conv=>whnf);(repeat ((first | (refine zW ?_ ?_;exact gA) | refine pC (ih _ (List.getElem_mem _) _) wR ?_ | refine pC (ih _ (List.getElem_mem _) _) cA ?_ | intro _);conv=>whnf));first | exact pS | exact pL | exact pE)) | (refine zW ?_ ?_;exact gA) | refine zH rfl ?_ | refine zA ?_ | refine zI bA ?_ | refine zI rfl ?_ | refine zJ rfl rfl ?_ | refine zB ?_ | refine zK rfl ?_ | refine zL rfl ?_ | refine zC ?_ | (refine zO ?_ ?_ ?_;omega;omega) | (refine zP ?_ ?_ ?_;omega;omega) | refine zM rfl ?_ | (refine zQ ?_ ?_ ?_;omega;omega) | (refine zR ?_ ?_;omega) | (refine zI ?_ ?_;exact nA) | (refine zS ?_ ?_ ?_;omega;omega) | (refine zT ?_ ?_ ?_;omega;omega) | (refine zU ?_ ?_ ?_;omega;omega) | (refine zV ?_ ?_ ?_;omega;omega) | refine pC (ih _ (List.getElem_mem _) _) wR ?_ | refine pC (ih _ (List.getElem_mem _) _) cA ?_ | (refine yA ?_ rfl ?_ ?_;assumption;exact lA) | (refine yB ?_ rfl ?_ ?_;assumption;exact lA) | (refine yC rfl ?_ ?_;exact lA) | refine n0 ?_ | refine zN rfl rfl rfl ?_ | refine zD ?_ | refine zE ?_ | refine zF ?_ | refine PDraw.sP (some 44) rfl [] [] tt_ok mixed ?_ | refine PDraw.sP (some 62) rfl [] [] tt_ok mixed ?_ | intro _ | refine zG ?_);conv=>whnf) | (refine zX (fun hc => ?_) (fun hc => ?_)<;>(try simp only [SY] at hc)<;>first | omega | (conv=>whnf)))
    · rw [drop_at (show j < a.t.length by omega), drop_at (show j < b.t.length by omega), Trm.alks, hc, Bool.false_and] at hm
      exact PRet.pure (Wk.ff hm.symm)
    · rw [drop_at (show j < a.t.length by omega), drop_at (show j < b.t.length by omega), Trm.alks, hc, Bool.true_and] at hm
      exact loopTo (j + 1) ⟨by omega, hm⟩ (by show a.t.length - (j + 1) < a.t.length - j; omega) wA
    · rw [List.drop_of_length_le (by omega), List.drop_of_length_le (by omega), Trm.alks] at hm
      exact PRet.pure (Wk.tt hm.symm)
mutual
def Datum.alk : Datum → Datum → Bool
  | .mk k n d s l, .mk k' n' d' s' l' => k == k' && n == n' && d == d' && s == s' && Datum.alks l l'
def Datum.alks : List Datum → List Datum → Bool
  | [], [] => true
  | x :: xs, y :: ys => Datum.alk x y && Datum.alks xs ys
  | _, _ => false
end
theorem Datum.alk_eq (a b : Datum) : a.alk b = (a.kind == b.kind && a.n == b.n && a.d == b.d && a.s == b.s && Datum.alks a.l b.l) := by cases a; cases b; rw [Datum.alk]; rfl
theorem Datum.alk_self (a : Datum) : a.alk a = true := by
  induction a using Datum.ind with
  | h t ih =>
    have key : ∀ l : List Datum, (∀ x ∈ l, x.alk x = true) → Datum.alks l l = true := by
      intro l
      induction l with
      | nil => intro _; rw [Datum.alks]
      | cons x l ihl => intro h; rw [Datum.alks, h x (by simp), ihl fun y hy => h y (by simp [hy])]; rfl
    rw [Datum.alk_eq, key _ ih]; simp
theorem Datum.alks_self (l : List Datum) : Datum.alks l l = true := by
  induction l with
  | nil => rw [Datum.alks]
  | cons x l ih => rw [Datum.alks, x.alk_self, ih]; rfl
theorem Datum.alks_len : ∀ {l m : List Datum}, Datum.alks l m = true → l.length = m.length
  | [], [], _ => rfl
  | x :: l, y :: m, h => by rw [Datum.alks, Bool.and_eq_true] at h; rw [List.length_cons, List.length_cons, Datum.alks_len h.2]
  | [], _ :: _, h => by simp [Datum.alks] at h
  | _ :: _, [], h => by simp [Datum.alks] at h
theorem dalike_c (a : Datum) : ∀ b : Datum, ACallP Tryz.prog 105 [.agg a.cells, .agg b.cells] (.bool (a.alk b)) := by
  induction a using Datum.ind with
  | h a ih =>
    intro b
    have he := a.alk_eq b
    refine ACall.of_body tt_ok Tryz.func105 rfl rfl (n := 60) rfl rfl ?_
    conv => whnf
    repeat ((first | ((first | (apply zY;intro hg) | apply zZ);first | exact stA | exact stB | ((conv=>whnf);(repeat ((first | (refine zW ?_ ?_;exact gA) | refine pC (ih _ (List.getElem_mem _) _) wR ?_ | refine pC (ih _ (List.getElem_mem _) _) cA ?_ | intro _);conv=>whnf));first | exact pS | exact pL | exact pE)) | (refine zW ?_ ?_;exact gA) | refine zH rfl ?_ | refine zA ?_ | refine zI bA ?_ | refine zI rfl ?_ | refine zJ rfl rfl ?_ | refine zB ?_ | refine zK rfl ?_ | refine zL rfl ?_ | refine zC ?_ | (refine zO ?_ ?_ ?_;omega;omega) | (refine zP ?_ ?_ ?_;omega;omega) | refine zM rfl ?_ | (refine zQ ?_ ?_ ?_;omega;omega) | (refine zR ?_ ?_;omega) | (refine zI ?_ ?_;exact nA) | (refine zS ?_ ?_ ?_;omega;omega) | (refine zT ?_ ?_ ?_;omega;omega) | (refine zU ?_ ?_ ?_;omega;omega) | (refine zV ?_ ?_ ?_;omega;omega) | refine pC (ih _ (List.getElem_mem _) _) wR ?_ | refine pC (ih _ (List.getElem_mem _) _) cA ?_ | (refine yA ?_ rfl ?_ ?_;assumption;exact lA) | (refine yB ?_ rfl ?_ ?_;assumption;exact lA) | (refine yC rfl ?_ ?_;exact lA) | refine n0 ?_ | refine zN rfl rfl rfl ?_ | refine zD ?_ | refine zE ?_ | refine zF ?_ | refine PDraw.sP (some 48) rfl [] [] tt_ok mixed ?_ | intro _);conv=>whnf)
    conv => whnf
    repeat' (first | ((first | ((first | (apply zY;intro hg) | apply zZ);first | exact stA | exact stB | ((conv=>whnf);(repeat ((first | (refine zW ?_ ?_;exact gA) | refine pC (ih _ (List.getElem_mem _) _) wR ?_ | refine pC (ih _ (List.getElem_mem _) _) cA ?_ | intro _);conv=>whnf));first | exact pS | exact pL | exact pE)) | (refine zW ?_ ?_;exact gA) | refine zH rfl ?_ | refine zA ?_ | refine zI bA ?_ | refine zI rfl ?_ | refine zJ rfl rfl ?_ | refine zB ?_ | refine zK rfl ?_ | refine zL rfl ?_ | refine zC ?_ | (refine zO ?_ ?_ ?_;omega;omega) | (refine zP ?_ ?_ ?_;omega;omega) | refine zM rfl ?_ | (refine zQ ?_ ?_ ?_;omega;omega) | (refine zR ?_ ?_;omega) | (refine zI ?_ ?_;exact nA) | (refine zS ?_ ?_ ?_;omega;omega) | (refine zT ?_ ?_ ?_;omega;omega) | (refine zU ?_ ?_ ?_;omega;omega) | (refine zV ?_ ?_ ?_;omega;omega) | refine pC (ih _ (List.getElem_mem _) _) wR ?_ | refine pC (ih _ (List.getElem_mem _) _) cA ?_ | (refine yA ?_ rfl ?_ ?_;assumption;exact lA) | (refine yB ?_ rfl ?_ ?_;assumption;exact lA) | (refine yC rfl ?_ ?_;exact lA) | refine n0 ?_ | refine zN rfl rfl rfl ?_ | refine zD ?_ | refine zE ?_ | refine zF ?_ | refine PDraw.sP (some 48) rfl [] [] tt_ok mixed ?_ | intro _ | refine zG ?_);conv=>whnf) | (refine zX (fun hc => ?_) (fun hc => ?_)<;>(try simp only [SY] at hc)<;>first | omega | (conv=>whnf)))
    · exact PRet.pure (Wk.ff (by
        rw [he, Bool.eq_false_iff]
        intro h
        simp only [Bool.and_eq_true, beq_iff_eq] at h
        obtain ⟨⟨⟨⟨h1, h2⟩, h3⟩, h4⟩, h5⟩ := h
        have h6 := Datum.alks_len h5
        simp only [h1, h2, h3, h4, h6, not_true_eq_false, or_self] at hc))
    have h0 := hc
    have he2 : a.alk b = Datum.alks a.l b.l := by rw [he, h0.1.1.1.1, h0.1.1.1.2, h0.1.1.2, h0.1.2]; simp
    rw [he2]
    refine PLoop.keep [4, 5, 41, 42, 43, 44, 45, 46, 47, 48, 49, 50, 51, 52, 53, 54, 55, 56, 57, 58, 59] (fun i : Nat => [(5, .int .i64 i)]) (fun i => i ≤ a.l.length ∧ Datum.alks (a.l.drop i) (b.l.drop i) = Datum.alks a.l b.l) (fun i => a.l.length - i) 0 ⟨Nat.zero_le _, rfl⟩ wA ?_
    rintro j ⟨hj, hm⟩
    conv => whnf
    repeat' (first | ((first | ((first | (apply zY;intro hg) | apply zZ);first | exact stA | exact stB | ((conv=>whnf);(repeat ((first | (refine zW ?_ ?_;exact gA) | refine pC (ih _ (List.getElem_mem _) _) wR ?_ | refine pC (ih _ (List.getElem_mem _) _) cA ?_ | intro _);conv=>whnf));first | exact pS | exact pL | exact pE)) | (refine zW ?_ ?_;exact gA) | refine zH rfl ?_ | refine zA ?_ | refine zI bA ?_ | refine zI rfl ?_ | refine zJ rfl rfl ?_ | refine zB ?_ | refine zK rfl ?_ | refine zL rfl ?_ | refine zC ?_ | (refine zO ?_ ?_ ?_;omega;omega) | (refine zP ?_ ?_ ?_;omega;omega) | refine zM rfl ?_ | (refine zQ ?_ ?_ ?_;omega;omega) | (refine zR ?_ ?_;omega) | (refine zI ?_ ?_;exact nA) | (refine zS ?_ ?_ ?_;omega;omega) | (refine zT ?_ ?_ ?_;omega;omega) | (refine zU ?_ ?_ ?_;omega;omega) | (refine zV ?_ ?_ ?_;omega;omega) | refine pC (ih _ (List.getElem_mem _) _) wR ?_ | refine pC (ih _ (List.getElem_mem _) _) cA ?_ | (refine yA ?_ rfl ?_ ?_;assumption;exact lA) | (refine yB ?_ rfl ?_ ?_;assumption;exact lA) | (refine yC rfl ?_ ?_;exact lA) | refine n0 ?_ | refine zN rfl rfl rfl ?_ | refine zD ?_ | refine zE ?_ | refine zF ?_ | refine PDraw.sP (some 48) rfl [] [] tt_ok mixed ?_ | intro _ | refine zG ?_);conv=>whnf) | (refine zX (fun hc => ?_) (fun hc => ?_)<;>(try simp only [SY] at hc)<;>first | omega | (conv=>whnf)))
    · rw [drop_at (show j < a.l.length by omega), drop_at (show j < b.l.length by omega), Datum.alks, hc, Bool.false_and] at hm
      exact PRet.pure (Wk.ff hm.symm)
    · rw [drop_at (show j < a.l.length by omega), drop_at (show j < b.l.length by omega), Datum.alks, hc, Bool.true_and] at hm
      exact loopTo (j + 1) ⟨by omega, hm⟩ (by show a.l.length - (j + 1) < a.l.length - j; omega) wA
    · rw [List.drop_of_length_le (by omega), List.drop_of_length_le (by omega), Datum.alks] at hm
      exact PRet.pure (Wk.tt hm.symm)
theorem consts_c (a b : List Datum) : ACallP Tryz.prog 60 [.sl 5 (a.map Datum.pv) none, .sl 5 (b.map Datum.pv) none] (.bool (Datum.alks a b)) := by
  refine ACall.of_body tt_ok Tryz.func60 rfl rfl (n := 27) rfl rfl ?_
  conv => whnf
  repeat ((first | ((first | (apply zY;intro hg) | apply zZ);first | exact stA | exact stB | ((conv=>whnf);(repeat ((first | (refine zW ?_ ?_;exact gA) | refine pC (ih _ (List.getElem_mem _) _) wR ?_ | refine pC (ih _ (List.getElem_mem _) _) cA ?_ | intro _);conv=>whnf));first | exact pS | exact pL | exact pE)) | (refine zW ?_ ?_;exact gA) | refine zH rfl ?_ | refine zA ?_ | refine zI bA ?_ | refine zI rfl ?_ | refine zJ rfl rfl ?_ | refine zB ?_ | refine zK rfl ?_ | refine zL rfl ?_ | refine zC ?_ | (refine zO ?_ ?_ ?_;omega;omega) | (refine zP ?_ ?_ ?_;omega;omega) | refine zM rfl ?_ | (refine zQ ?_ ?_ ?_;omega;omega) | (refine zR ?_ ?_;omega) | (refine zI ?_ ?_;exact nA) | (refine zS ?_ ?_ ?_;omega;omega) | (refine zT ?_ ?_ ?_;omega;omega) | (refine zU ?_ ?_ ?_;omega;omega) | (refine zV ?_ ?_ ?_;omega;omega) | refine pC (ih _ (List.getElem_mem _) _) wR ?_ | refine pC (ih _ (List.getElem_mem _) _) cA ?_ | (refine yA ?_ rfl ?_ ?_;assumption;exact lA) | (refine yB ?_ rfl ?_ ?_;assumption;exact lA) | (refine yC rfl ?_ ?_;exact lA) | refine n0 ?_ | refine zN rfl rfl rfl ?_ | refine zD ?_ | refine zE ?_ | refine zF ?_ | refine PDraw.sP (some 17) rfl [] [] tt_ok mixed ?_ | intro _);conv=>whnf)
  conv => whnf
  repeat' (first | ((first | ((first | (apply zY;intro hg) | apply zZ);first | exact stA | exact stB | ((conv=>whnf);(repeat ((first | (refine zW ?_ ?_;exact gA) | refine pC (ih _ (List.getElem_mem _) _) wR ?_ | refine pC (ih _ (List.getElem_mem _) _) cA ?_ | intro _);conv=>whnf));first | exact pS | exact pL | exact pE)) | (refine zW ?_ ?_;exact gA) | refine zH rfl ?_ | refine zA ?_ | refine zI bA ?_ | refine zI rfl ?_ | refine zJ rfl rfl ?_ | refine zB ?_ | refine zK rfl ?_ | refine zL rfl ?_ | refine zC ?_ | (refine zO ?_ ?_ ?_;omega;omega) | (refine zP ?_ ?_ ?_;omega;omega) | refine zM rfl ?_ | (refine zQ ?_ ?_ ?_;omega;omega) | (refine zR ?_ ?_;omega) | (refine zI ?_ ?_;exact nA) | (refine zS ?_ ?_ ?_;omega;omega) | (refine zT ?_ ?_ ?_;omega;omega) | (refine zU ?_ ?_ ?_;omega;omega) | (refine zV ?_ ?_ ?_;omega;omega) | refine pC (ih _ (List.getElem_mem _) _) wR ?_ | refine pC (ih _ (List.getElem_mem _) _) cA ?_ | (refine yA ?_ rfl ?_ ?_;assumption;exact lA) | (refine yB ?_ rfl ?_ ?_;assumption;exact lA) | (refine yC rfl ?_ ?_;exact lA) | refine n0 ?_ | refine zN rfl rfl rfl ?_ | refine zD ?_ | refine zE ?_ | refine zF ?_ | refine PDraw.sP (some 17) rfl [] [] tt_ok mixed ?_ | intro _ | refine zG ?_);conv=>whnf) | (refine zX (fun hc => ?_) (fun hc => ?_)<;>(try simp only [SY] at hc)<;>first | omega | (conv=>whnf)))
  · exact PRet.pure (Wk.ff (by
      rw [Bool.eq_false_iff]
      intro h
      have := Datum.alks_len h
      omega))
  refine PLoop.keep [4, 5, 11, 12, 13, 14, 15, 16, 17, 18, 19, 20, 21, 22, 23, 24, 25, 26] (fun i : Nat => [(5, .int .i64 i)]) (fun i => i ≤ a.length ∧ Datum.alks (a.drop i) (b.drop i) = Datum.alks a b) (fun i => a.length - i) 0 ⟨Nat.zero_le _, rfl⟩ wA ?_
  rintro j ⟨hj, hm⟩
  conv => whnf
  repeat' (first | ((first | ((first | (apply zY;intro hg) | apply zZ);first | exact stA | exact stB | ((conv=>whnf);(repeat ((first | (refine zW ?_ ?_;exact gA) | refine pC (dalike_c _ _) wR ?_ | refine pC (dalike_c _ _) cA ?_ | intro _);conv=>whnf));first | exact pS | exact pL | exact pE)) | (refine zW ?_ ?_;exact gA) | refine zH rfl ?_ | refine zA ?_ | refine zI bA ?_ | refine zI rfl ?_ | refine zJ rfl rfl ?_ | refine zB ?_ | refine zK rfl ?_ | refine zL rfl ?_ | refine zC ?_ | (refine zO ?_ ?_ ?_;omega;omega) | (refine zP ?_ ?_ ?_;omega;omega) | refine zM rfl ?_ | (refine zQ ?_ ?_ ?_;omega;omega) | (refine zR ?_ ?_;omega) | (refine zI ?_ ?_;exact nA) | (refine zS ?_ ?_ ?_;omega;omega) | (refine zT ?_ ?_ ?_;omega;omega) | (refine zU ?_ ?_ ?_;omega;omega) | (refine zV ?_ ?_ ?_;omega;omega) | refine pC (dalike_c _ _) wR ?_ | refine pC (dalike_c _ _) cA ?_ | (refine yA ?_ rfl ?_ ?_;assumption;exact lA) | (refine yB ?_ rfl ?_ ?_;assumption;exact lA) | (refine yC rfl ?_ ?_;exact lA) | refine n0 ?_ | refine zN rfl rfl rfl ?_ | refine zD ?_ | refine zE ?_ | refine zF ?_ | refine PDraw.sP (some 17) rfl [] [] tt_ok mixed ?_ | intro _ | refine zG ?_);conv=>whnf) | (refine zX (fun hc => ?_) (fun hc => ?_)<;>(try simp only [SY] at hc)<;>first | omega | (conv=>whnf)))
  · rw [drop_at (show j < a.length by omega), drop_at (show j < b.length by omega), Datum.alks, hc, Bool.false_and] at hm
    exact PRet.pure (Wk.ff hm.symm)
  · rw [drop_at (show j < a.length by omega), drop_at (show j < b.length by omega), Datum.alks, hc, Bool.true_and] at hm
    exact loopTo (j + 1) ⟨by omega, hm⟩ (by show a.length - (j + 1) < a.length - j; omega) wA
  · rw [List.drop_of_length_le (by omega), List.drop_of_length_le (by omega), Datum.alks] at hm
    exact PRet.pure (Wk.tt hm.symm)
def Prog.same (p q : Prog) : Bool := Datum.alks p.consts q.consts && p.body.alk q.body
theorem Prog.same_self (p : Prog) : p.same p = true := by rw [Prog.same, Datum.alks_self, Trm.alk_self]; rfl
theorem same_c (p q : Prog) : ACallP Tryz.prog 28 [.agg p.cells, .agg q.cells] (.bool (p.same q)) := by
  refine ACall.of_body tt_ok Tryz.func28 rfl rfl (n := 17) rfl rfl ?_
  conv => whnf
  repeat ((first | ((first | (apply zY;intro hg) | apply zZ);first | exact stA | exact stB | ((conv=>whnf);(repeat ((first | (refine zW ?_ ?_;exact gA) | refine pC (consts_c p.consts q.consts) wR ?_ | refine pC (alike_c p.body q.body) wR ?_ | intro _);conv=>whnf));first | exact pS | exact pL | exact pE)) | (refine zW ?_ ?_;exact gA) | refine zH rfl ?_ | refine zA ?_ | refine zI bA ?_ | refine zI rfl ?_ | refine zJ rfl rfl ?_ | refine zB ?_ | refine zK rfl ?_ | refine zL rfl ?_ | refine zC ?_ | (refine zO ?_ ?_ ?_;omega;omega) | (refine zP ?_ ?_ ?_;omega;omega) | refine zM rfl ?_ | (refine zQ ?_ ?_ ?_;omega;omega) | (refine zR ?_ ?_;omega) | (refine zI ?_ ?_;exact nA) | (refine zS ?_ ?_ ?_;omega;omega) | (refine zT ?_ ?_ ?_;omega;omega) | (refine zU ?_ ?_ ?_;omega;omega) | (refine zV ?_ ?_ ?_;omega;omega) | refine pC (consts_c p.consts q.consts) wR ?_ | refine pC (alike_c p.body q.body) wR ?_ | (refine yA ?_ rfl ?_ ?_;assumption;exact lA) | (refine yB ?_ rfl ?_ ?_;assumption;exact lA) | (refine yC rfl ?_ ?_;exact lA) | refine n0 ?_ | refine zN rfl rfl rfl ?_ | refine zD ?_ | refine zE ?_ | refine zF ?_ | intro _);conv=>whnf)
  conv => whnf
  repeat' (first | ((first | ((first | (apply zY;intro hg) | apply zZ);first | exact stA | exact stB | ((conv=>whnf);(repeat ((first | (refine zW ?_ ?_;exact gA) | refine pC (consts_c p.consts q.consts) wR ?_ | refine pC (alike_c p.body q.body) wR ?_ | intro _);conv=>whnf));first | exact pS | exact pL | exact pE)) | (refine zW ?_ ?_;exact gA) | refine zH rfl ?_ | refine zA ?_ | refine zI bA ?_ | refine zI rfl ?_ | refine zJ rfl rfl ?_ | refine zB ?_ | refine zK rfl ?_ | refine zL rfl ?_ | refine zC ?_ | (refine zO ?_ ?_ ?_;omega;omega) | (refine zP ?_ ?_ ?_;omega;omega) | refine zM rfl ?_ | (refine zQ ?_ ?_ ?_;omega;omega) | (refine zR ?_ ?_;omega) | (refine zI ?_ ?_;exact nA) | (refine zS ?_ ?_ ?_;omega;omega) | (refine zT ?_ ?_ ?_;omega;omega) | (refine zU ?_ ?_ ?_;omega;omega) | (refine zV ?_ ?_ ?_;omega;omega) | refine pC (consts_c p.consts q.consts) wR ?_ | refine pC (alike_c p.body q.body) wR ?_ | (refine yA ?_ rfl ?_ ?_;assumption;exact lA) | (refine yB ?_ rfl ?_ ?_;assumption;exact lA) | (refine yC rfl ?_ ?_;exact lA) | refine n0 ?_ | refine zN rfl rfl rfl ?_ | refine zD ?_ | refine zE ?_ | refine zF ?_ | intro _ | refine zG ?_);conv=>whnf) | (refine zX (fun hc => ?_) (fun hc => ?_)<;>(try simp only [SY] at hc)<;>first | omega | (conv=>whnf)))
  exact PRet.pure (Wk.refl _)
theorem size_d (t : Trm) : ∀ deep : Int, 0 ≤ deep → deep ≤ 1000 → t.bulk ≤ 1000000000 → ACallP Tryz.prog 64 [.agg t.cells, .int .i64 deep] (.int .i64 (t.uC (fun _ _ => true) deep)) := by
  induction t using Trm.ind with
  | h t ih =>
    intro deep h0 h1 hb
    have hbe := t.bulk_eq
    have he := t.uC_eq (fun _ _ => true) deep
    have hbd := t.uC_bd (fun _ _ => true) deep
    have hcb := t.cnt_bulk
    have ih' : ∀ x ∈ t.t, ∀ deep : Int, 0 ≤ deep → deep ≤ 1000 → ACallP Tryz.prog 64 [.agg x.cells, .int .i64 deep] (.int .i64 (x.uC (fun _ _ => true) deep)) := fun x hx d a b => ih x hx d a b (by have := Trm.bulks_mem hx; omega)
    refine ACall.of_body tt_ok Tryz.func64 rfl rfl (n := 29) rfl rfl ?_
    conv => whnf
    repeat ((first | ((first | (apply zY;intro hg) | apply zZ);first | exact stA | exact stB | ((conv=>whnf);(repeat ((first | (refine zW ?_ ?_;exact gA) | refine pC (consts_c p.consts q.consts) wR ?_ | refine pC (alike_c p.body q.body) wR ?_ | intro _);conv=>whnf));first | exact pS | exact pL | exact pE)) | (refine zW ?_ ?_;exact gA) | refine zH rfl ?_ | refine zA ?_ | refine zI bA ?_ | refine zI rfl ?_ | refine zJ rfl rfl ?_ | refine zB ?_ | refine zK rfl ?_ | refine zL rfl ?_ | refine zC ?_ | (refine zO ?_ ?_ ?_;omega;omega) | (refine zP ?_ ?_ ?_;omega;omega) | refine zM rfl ?_ | (refine zQ ?_ ?_ ?_;omega;omega) | (refine zR ?_ ?_;omega) | (refine zI ?_ ?_;exact nA) | (refine zS ?_ ?_ ?_;omega;omega) | (refine zT ?_ ?_ ?_;omega;omega) | (refine zU ?_ ?_ ?_;omega;omega) | (refine zV ?_ ?_ ?_;omega;omega) | refine pC (consts_c p.consts q.consts) wR ?_ | refine pC (alike_c p.body q.body) wR ?_ | (refine yA ?_ rfl ?_ ?_;assumption;exact lA) | (refine yB ?_ rfl ?_ ?_;assumption;exact lA) | (refine yC rfl ?_ ?_;exact lA) | refine n0 ?_ | refine zN rfl rfl rfl ?_ | refine zD ?_ | refine zE ?_ | refine zF ?_ | intro _);conv=>whnf)
    refine PLoop.keep [5, 6, 7, 8, 9, 10, 11, 12, 13, 14, 15, 16, 17, 18, 19, 20, 21, 22, 23, 24, 25, 26, 27] (fun x : Nat × Int => [(5, .int .i64 x.2), (6, .int .i64 x.1)]) (fun x => x.1 ≤ t.t.length ∧ (x.1 = 0 ∨ deep < 1000) ∧ 1 ≤ x.2 ∧ x.2 + (if deep < 1000 then Trm.uCs (fun _ _ => true) (t.t.drop x.1) (deep + 1) else 0) = t.uC (fun _ _ => true) deep) (fun x => t.t.length - x.1) (0, 1) ⟨Nat.zero_le _, .inl rfl, by simp, by rw [he]; simp⟩ wA ?_
    rintro ⟨i, n⟩ ⟨hi, hd, hn, hm⟩
    dsimp only at hi hd hn hm ⊢
    conv => whnf
    repeat' (first | ((first | ((first | (apply zY;intro hg) | apply zZ);first | exact stA | exact stB | ((conv=>whnf);(repeat ((first | (refine zW ?_ ?_;exact gA) | refine pC (ih' _ (List.getElem_mem _) _ (by omega) (by omega)) wR ?_ | refine pC (ih' _ (List.getElem_mem _) _ (by omega) (by omega)) cA ?_ | intro _);conv=>whnf));first | exact pS | exact pL | exact pE)) | (refine zW ?_ ?_;exact gA) | refine zH rfl ?_ | refine zA ?_ | refine zI bA ?_ | refine zI rfl ?_ | refine zJ rfl rfl ?_ | refine zB ?_ | refine zK rfl ?_ | refine zL rfl ?_ | refine zC ?_ | (refine zO ?_ ?_ ?_;omega;omega) | (refine zP ?_ ?_ ?_;omega;omega) | refine zM rfl ?_ | (refine zQ ?_ ?_ ?_;omega;omega) | (refine zR ?_ ?_;omega) | (refine zI ?_ ?_;exact nA) | (refine zS ?_ ?_ ?_;omega;omega) | (refine zT ?_ ?_ ?_;omega;omega) | (refine zU ?_ ?_ ?_;omega;omega) | (refine zV ?_ ?_ ?_;omega;omega) | refine pC (ih' _ (List.getElem_mem _) _ (by omega) (by omega)) wR ?_ | refine pC (ih' _ (List.getElem_mem _) _ (by omega) (by omega)) cA ?_ | (refine yA ?_ rfl ?_ ?_;assumption;exact lA) | (refine yB ?_ rfl ?_ ?_;assumption;exact lA) | (refine yC rfl ?_ ?_;exact lA) | refine n0 ?_ | refine zN rfl rfl rfl ?_ | refine zD ?_ | refine zE ?_ | refine zF ?_ | intro _ | refine zG ?_);conv=>whnf) | (refine zX (fun hc => ?_) (fun hc => ?_)<;>(try simp only [SY] at hc)<;>first | omega | (conv=>whnf)))
    · rw [if_pos (by omega), drop_at (show i < t.t.length by omega), Trm.uCs] at hm
      have hx := (t.t[i]).uC_bd (fun _ _ => true) (deep + 1)
      have hr := Trm.uCs_bd (fun _ _ => true) (t.t.drop (i + 1)) (deep + 1)
      refine PInt.ok (by omega) (by omega) ?_
      conv => whnf
      repeat' (first | ((first | ((first | (apply zY;intro hg) | apply zZ);first | exact stA | exact stB | ((conv=>whnf);(repeat ((first | (refine zW ?_ ?_;exact gA) | refine pC (ih' _ (List.getElem_mem _) _ (by omega) (by omega)) wR ?_ | refine pC (ih' _ (List.getElem_mem _) _ (by omega) (by omega)) cA ?_ | intro _);conv=>whnf));first | exact pS | exact pL | exact pE)) | (refine zW ?_ ?_;exact gA) | refine zH rfl ?_ | refine zA ?_ | refine zI bA ?_ | refine zI rfl ?_ | refine zJ rfl rfl ?_ | refine zB ?_ | refine zK rfl ?_ | refine zL rfl ?_ | refine zC ?_ | (refine zO ?_ ?_ ?_;omega;omega) | (refine zP ?_ ?_ ?_;omega;omega) | refine zM rfl ?_ | (refine zQ ?_ ?_ ?_;omega;omega) | (refine zR ?_ ?_;omega) | (refine zI ?_ ?_;exact nA) | (refine zS ?_ ?_ ?_;omega;omega) | (refine zT ?_ ?_ ?_;omega;omega) | (refine zU ?_ ?_ ?_;omega;omega) | (refine zV ?_ ?_ ?_;omega;omega) | refine pC (ih' _ (List.getElem_mem _) _ (by omega) (by omega)) wR ?_ | refine pC (ih' _ (List.getElem_mem _) _ (by omega) (by omega)) cA ?_ | (refine yA ?_ rfl ?_ ?_;assumption;exact lA) | (refine yB ?_ rfl ?_ ?_;assumption;exact lA) | (refine yC rfl ?_ ?_;exact lA) | refine n0 ?_ | refine zN rfl rfl rfl ?_ | refine zD ?_ | refine zE ?_ | refine zF ?_ | intro _ | refine zG ?_);conv=>whnf) | (refine zX (fun hc => ?_) (fun hc => ?_)<;>(try simp only [SY] at hc)<;>first | omega | (conv=>whnf)))
      exact loopTo (i + 1, n + t.t[i].uC (fun _ _ => true) (deep + 1)) ⟨by show i + 1 ≤ _; omega, .inr (by omega), by show 1 ≤ n + (t.t[i]).uC _ (deep + 1); omega, by dsimp only; rw [if_pos (by omega)]; omega⟩ (by show t.t.length - (i + 1) < t.t.length - i; omega) wA
    · refine PRet.pure (Wk.int ?_)
      rw [← hm]
      split
      · rw [List.drop_of_length_le (by omega), Trm.uCs]; omega
      · omega
theorem uses_d (v : Int) (t : Trm) : ∀ deep : Int, 0 ≤ deep → deep ≤ 1000 → t.bulk ≤ 1000000000 → ACallP Tryz.prog 169 [.agg t.cells, .int .i64 v, .int .i64 deep] (.tup [.int .i64 (t.uC (refP v) deep), .int .i64 (t.uC (setP v) deep)]) := by
  induction t using Trm.ind with
  | h t ih =>
    intro deep h0 h1 hb
    have hbe := t.bulk_eq
    have he := t.uC_eq (refP v) deep
    have he2 := t.uC_eq (setP v) deep
    have hbd := t.uC_bd (refP v) deep
    have hbd2 := t.uC_bd (setP v) deep
    have hcb := t.cnt_bulk
    have ih' : ∀ x ∈ t.t, ∀ deep : Int, 0 ≤ deep → deep ≤ 1000 → ACallP Tryz.prog 169 [.agg x.cells, .int .i64 v, .int .i64 deep] (.tup [.int .i64 (x.uC (refP v) deep), .int .i64 (x.uC (setP v) deep)]) := fun x hx d a b => ih x hx d a b (by have := Trm.bulks_mem hx; omega)
    refine ACall.of_body tt_ok Tryz.func169 rfl rfl (n := 67) rfl rfl ?_
    conv => whnf
    repeat ((first | ((first | (apply zY;intro hg) | apply zZ);first | exact stA | exact stB | ((conv=>whnf);(repeat ((first | (refine zW ?_ ?_;exact gA) | refine pC (size_d t 0 (by omega) (by omega) hb) wR ?_ | intro _);conv=>whnf));first | exact pS | exact pL | exact pE)) | (refine zW ?_ ?_;exact gA) | refine zH rfl ?_ | refine zA ?_ | refine zI bA ?_ | refine zI rfl ?_ | refine zJ rfl rfl ?_ | refine zB ?_ | refine zK rfl ?_ | refine zL rfl ?_ | refine zC ?_ | (refine zO ?_ ?_ ?_;omega;omega) | (refine zP ?_ ?_ ?_;omega;omega) | refine zM rfl ?_ | (refine zQ ?_ ?_ ?_;omega;omega) | (refine zR ?_ ?_;omega) | (refine zI ?_ ?_;exact nA) | (refine zS ?_ ?_ ?_;omega;omega) | (refine zT ?_ ?_ ?_;omega;omega) | (refine zU ?_ ?_ ?_;omega;omega) | (refine zV ?_ ?_ ?_;omega;omega) | refine pC (size_d t 0 (by omega) (by omega) hb) wR ?_ | (refine yA ?_ rfl ?_ ?_;assumption;exact lA) | (refine yB ?_ rfl ?_ ?_;assumption;exact lA) | (refine yC rfl ?_ ?_;exact lA) | refine n0 ?_ | refine zN rfl rfl rfl ?_ | refine zD ?_ | refine zE ?_ | refine zF ?_ | intro _);conv=>whnf)
    refine PSeq.keep (fun r : Int => [(8, .int .i64 r)]) (fun r => r = if refP v t.op t.n = true then 1 else 0) ?_ ?_
    · conv => whnf
      repeat' (first | ((first | ((first | (apply zY;intro hg) | apply zZ);first | exact stA | exact stB | ((conv=>whnf);(repeat ((first | (refine zW ?_ ?_;exact gA) | refine pC (size_d t 0 (by omega) (by omega) hb) wR ?_ | intro _);conv=>whnf));first | exact pS | exact pL | exact pE)) | (refine zW ?_ ?_;exact gA) | refine zH rfl ?_ | refine zA ?_ | refine zI bA ?_ | refine zI rfl ?_ | refine zJ rfl rfl ?_ | refine zB ?_ | refine zK rfl ?_ | refine zL rfl ?_ | refine zC ?_ | (refine zO ?_ ?_ ?_;omega;omega) | (refine zP ?_ ?_ ?_;omega;omega) | refine zM rfl ?_ | (refine zQ ?_ ?_ ?_;omega;omega) | (refine zR ?_ ?_;omega) | (refine zI ?_ ?_;exact nA) | (refine zS ?_ ?_ ?_;omega;omega) | (refine zT ?_ ?_ ?_;omega;omega) | (refine zU ?_ ?_ ?_;omega;omega) | (refine zV ?_ ?_ ?_;omega;omega) | refine pC (size_d t 0 (by omega) (by omega) hb) wR ?_ | (refine yA ?_ rfl ?_ ?_;assumption;exact lA) | (refine yB ?_ rfl ?_ ?_;assumption;exact lA) | (refine yC rfl ?_ ?_;exact lA) | refine n0 ?_ | refine zN rfl rfl rfl ?_ | refine zD ?_ | refine zE ?_ | refine zF ?_ | intro _ | refine zG ?_);conv=>whnf) | (refine zX (fun hc => ?_) (fun hc => ?_)<;>(try simp only [SY] at hc)<;>first | omega | (conv=>whnf)))
      · exact joinEnd 1 (by rw [if_pos (by simp [refP, hc])]) wA
      · exact joinEnd 0 (by rw [if_neg (by simp only [refP, Bool.and_eq_true, beq_iff_eq]; omega)]) wA
    rintro r hr
    conv => whnf
    repeat ((first | ((first | (apply zY;intro hg) | apply zZ);first | exact stA | exact stB | ((conv=>whnf);(repeat ((first | (refine zW ?_ ?_;exact gA) | refine pC (size_d t 0 (by omega) (by omega) hb) wR ?_ | intro _);conv=>whnf));first | exact pS | exact pL | exact pE)) | (refine zW ?_ ?_;exact gA) | refine zH rfl ?_ | refine zA ?_ | refine zI bA ?_ | refine zI rfl ?_ | refine zJ rfl rfl ?_ | refine zB ?_ | refine zK rfl ?_ | refine zL rfl ?_ | refine zC ?_ | (refine zO ?_ ?_ ?_;omega;omega) | (refine zP ?_ ?_ ?_;omega;omega) | refine zM rfl ?_ | (refine zQ ?_ ?_ ?_;omega;omega) | (refine zR ?_ ?_;omega) | (refine zI ?_ ?_;exact nA) | (refine zS ?_ ?_ ?_;omega;omega) | (refine zT ?_ ?_ ?_;omega;omega) | (refine zU ?_ ?_ ?_;omega;omega) | (refine zV ?_ ?_ ?_;omega;omega) | refine pC (size_d t 0 (by omega) (by omega) hb) wR ?_ | (refine yA ?_ rfl ?_ ?_;assumption;exact lA) | (refine yB ?_ rfl ?_ ?_;assumption;exact lA) | (refine yC rfl ?_ ?_;exact lA) | refine n0 ?_ | refine zN rfl rfl rfl ?_ | refine zD ?_ | refine zE ?_ | refine zF ?_ | intro _);conv=>whnf)
    refine PSeq.keep (fun s : Int => [(9, .int .i64 s)]) (fun s => s = if setP v t.op t.n = true then 1 else 0) ?_ ?_
    · conv => whnf
      repeat' (first | ((first | ((first | (apply zY;intro hg) | apply zZ);first | exact stA | exact stB | ((conv=>whnf);(repeat ((first | (refine zW ?_ ?_;exact gA) | refine pC (size_d t 0 (by omega) (by omega) hb) wR ?_ | intro _);conv=>whnf));first | exact pS | exact pL | exact pE)) | (refine zW ?_ ?_;exact gA) | refine zH rfl ?_ | refine zA ?_ | refine zI bA ?_ | refine zI rfl ?_ | refine zJ rfl rfl ?_ | refine zB ?_ | refine zK rfl ?_ | refine zL rfl ?_ | refine zC ?_ | (refine zO ?_ ?_ ?_;omega;omega) | (refine zP ?_ ?_ ?_;omega;omega) | refine zM rfl ?_ | (refine zQ ?_ ?_ ?_;omega;omega) | (refine zR ?_ ?_;omega) | (refine zI ?_ ?_;exact nA) | (refine zS ?_ ?_ ?_;omega;omega) | (refine zT ?_ ?_ ?_;omega;omega) | (refine zU ?_ ?_ ?_;omega;omega) | (refine zV ?_ ?_ ?_;omega;omega) | refine pC (size_d t 0 (by omega) (by omega) hb) wR ?_ | (refine yA ?_ rfl ?_ ?_;assumption;exact lA) | (refine yB ?_ rfl ?_ ?_;assumption;exact lA) | (refine yC rfl ?_ ?_;exact lA) | refine n0 ?_ | refine zN rfl rfl rfl ?_ | refine zD ?_ | refine zE ?_ | refine zF ?_ | intro _ | refine zG ?_);conv=>whnf) | (refine zX (fun hc => ?_) (fun hc => ?_)<;>(try simp only [SY] at hc)<;>first | omega | (conv=>whnf)))
      · exact joinEnd 1 (by rw [if_pos (by simp only [setP, Bool.and_eq_true, Bool.or_eq_true, beq_iff_eq]; omega)]) wA
      · exact joinEnd 0 (by rw [if_neg (by simp only [setP, Bool.and_eq_true, Bool.or_eq_true, beq_iff_eq]; omega)]) wA
    rintro s hs
    have hr1 : 0 ≤ r ∧ r ≤ 1 := by rw [hr]; split <;> omega
    have hs1 : 0 ≤ s ∧ s ≤ 1 := by rw [hs]; split <;> omega
    rw [← hr] at he
    rw [← hs] at he2
    conv => whnf
    repeat ((first | ((first | (apply zY;intro hg) | apply zZ);first | exact stA | exact stB | ((conv=>whnf);(repeat ((first | (refine zW ?_ ?_;exact gA) | refine pC (size_d t 0 (by omega) (by omega) hb) wR ?_ | intro _);conv=>whnf));first | exact pS | exact pL | exact pE)) | (refine zW ?_ ?_;exact gA) | refine zH rfl ?_ | refine zA ?_ | refine zI bA ?_ | refine zI rfl ?_ | refine zJ rfl rfl ?_ | refine zB ?_ | refine zK rfl ?_ | refine zL rfl ?_ | refine zC ?_ | (refine zO ?_ ?_ ?_;omega;omega) | (refine zP ?_ ?_ ?_;omega;omega) | refine zM rfl ?_ | (refine zQ ?_ ?_ ?_;omega;omega) | (refine zR ?_ ?_;omega) | (refine zI ?_ ?_;exact nA) | (refine zS ?_ ?_ ?_;omega;omega) | (refine zT ?_ ?_ ?_;omega;omega) | (refine zU ?_ ?_ ?_;omega;omega) | (refine zV ?_ ?_ ?_;omega;omega) | refine pC (size_d t 0 (by omega) (by omega) hb) wR ?_ | (refine yA ?_ rfl ?_ ?_;assumption;exact lA) | (refine yB ?_ rfl ?_ ?_;assumption;exact lA) | (refine yC rfl ?_ ?_;exact lA) | refine n0 ?_ | refine zN rfl rfl rfl ?_ | refine zD ?_ | refine zE ?_ | refine zF ?_ | intro _);conv=>whnf)
    refine PLoop.keep [8, 9, 10, 11, 12, 36, 37, 38, 39, 40, 41, 42, 43, 44, 45, 46, 47, 48, 49, 50, 51, 52, 53, 54, 55, 56, 57, 58, 59, 60, 61, 62, 63, 64] (fun x : Nat × Int × Int => [(8, .int .i64 x.2.1), (9, .int .i64 x.2.2), (10, .int .i64 x.1)])
      (fun x => x.1 ≤ t.t.length ∧ (0 ≤ x.2.1 ∧ 0 ≤ x.2.2) ∧ x.2.1 + (if deep < 1000 then Trm.uCs (refP v) (t.t.drop x.1) (deep + 1) else 0) = t.uC (refP v) deep ∧ x.2.2 + (if deep < 1000 then Trm.uCs (setP v) (t.t.drop x.1) (deep + 1) else 0) = t.uC (setP v) deep)
      (fun x => t.t.length - x.1) (0, r, s) ⟨Nat.zero_le _, ⟨by simp; omega, by simp; omega⟩, by rw [he]; simp, by rw [he2]; simp⟩ wA ?_
    rintro ⟨i, n, m⟩ ⟨hi, hn, hm, hm2⟩
    dsimp only at hi hn hm hm2 ⊢
    conv => whnf
    repeat' (first | ((first | ((first | (apply zY;intro hg) | apply zZ);first | exact stA | exact stB | ((conv=>whnf);(repeat ((first | (refine zW ?_ ?_;exact gA) | refine pC (ih' _ (List.getElem_mem _) _ (by omega) (by omega)) wR ?_ | refine pC (ih' _ (List.getElem_mem _) _ (by omega) (by omega)) cA ?_ | intro _);conv=>whnf));first | exact pS | exact pL | exact pE)) | (refine zW ?_ ?_;exact gA) | refine zH rfl ?_ | refine zA ?_ | refine zI bA ?_ | refine zI rfl ?_ | refine zJ rfl rfl ?_ | refine zB ?_ | refine zK rfl ?_ | refine zL rfl ?_ | refine zC ?_ | (refine zO ?_ ?_ ?_;omega;omega) | (refine zP ?_ ?_ ?_;omega;omega) | refine zM rfl ?_ | (refine zQ ?_ ?_ ?_;omega;omega) | (refine zR ?_ ?_;omega) | (refine zI ?_ ?_;exact nA) | (refine zS ?_ ?_ ?_;omega;omega) | (refine zT ?_ ?_ ?_;omega;omega) | (refine zU ?_ ?_ ?_;omega;omega) | (refine zV ?_ ?_ ?_;omega;omega) | refine pC (ih' _ (List.getElem_mem _) _ (by omega) (by omega)) wR ?_ | refine pC (ih' _ (List.getElem_mem _) _ (by omega) (by omega)) cA ?_ | (refine yA ?_ rfl ?_ ?_;assumption;exact lA) | (refine yB ?_ rfl ?_ ?_;assumption;exact lA) | (refine yC rfl ?_ ?_;exact lA) | refine n0 ?_ | refine zN rfl rfl rfl ?_ | refine zD ?_ | refine zE ?_ | refine zF ?_ | intro _ | refine zG ?_);conv=>whnf) | (refine zX (fun hc => ?_) (fun hc => ?_)<;>(try simp only [SY] at hc)<;>first | omega | (conv=>whnf)))
    · have hlt : deep < 1000 := by omega
      rw [if_pos hlt, drop_at (show i < t.t.length by omega), Trm.uCs] at hm hm2
      have hx := (t.t[i]).uC_bd (refP v) (deep + 1)
      have hr := Trm.uCs_bd (refP v) (t.t.drop (i + 1)) (deep + 1)
      have hx2 := (t.t[i]).uC_bd (setP v) (deep + 1)
      have hr2 := Trm.uCs_bd (setP v) (t.t.drop (i + 1)) (deep + 1)
      refine PInt.ok (by omega) (by omega) ?_
      conv => whnf
      repeat' (first | ((first | ((first | (apply zY;intro hg) | apply zZ);first | exact stA | exact stB | ((conv=>whnf);(repeat ((first | (refine zW ?_ ?_;exact gA) | refine pC (ih' _ (List.getElem_mem _) _ (by omega) (by omega)) wR ?_ | refine pC (ih' _ (List.getElem_mem _) _ (by omega) (by omega)) cA ?_ | intro _);conv=>whnf));first | exact pS | exact pL | exact pE)) | (refine zW ?_ ?_;exact gA) | refine zH rfl ?_ | refine zA ?_ | refine zI bA ?_ | refine zI rfl ?_ | refine zJ rfl rfl ?_ | refine zB ?_ | refine zK rfl ?_ | refine zL rfl ?_ | refine zC ?_ | (refine zO ?_ ?_ ?_;omega;omega) | (refine zP ?_ ?_ ?_;omega;omega) | refine zM rfl ?_ | (refine zQ ?_ ?_ ?_;omega;omega) | (refine zR ?_ ?_;omega) | (refine zI ?_ ?_;exact nA) | (refine zS ?_ ?_ ?_;omega;omega) | (refine zT ?_ ?_ ?_;omega;omega) | (refine zU ?_ ?_ ?_;omega;omega) | (refine zV ?_ ?_ ?_;omega;omega) | refine pC (ih' _ (List.getElem_mem _) _ (by omega) (by omega)) wR ?_ | refine pC (ih' _ (List.getElem_mem _) _ (by omega) (by omega)) cA ?_ | (refine yA ?_ rfl ?_ ?_;assumption;exact lA) | (refine yB ?_ rfl ?_ ?_;assumption;exact lA) | (refine yC rfl ?_ ?_;exact lA) | refine n0 ?_ | refine zN rfl rfl rfl ?_ | refine zD ?_ | refine zE ?_ | refine zF ?_ | intro _ | refine zG ?_);conv=>whnf) | (refine zX (fun hc => ?_) (fun hc => ?_)<;>(try simp only [SY] at hc)<;>first | omega | (conv=>whnf)))
      exact loopTo (i + 1, n + t.t[i].uC (refP v) (deep + 1), m + t.t[i].uC (setP v) (deep + 1)) ⟨by show i + 1 ≤ _; omega, ⟨by show 0 ≤ n + (t.t[i]).uC _ (deep + 1); omega, by show 0 ≤ m + (t.t[i]).uC _ (deep + 1); omega⟩, by dsimp only; rw [if_pos hlt]; omega, by dsimp only; rw [if_pos hlt]; omega⟩ (by show t.t.length - (i + 1) < t.t.length - i; omega) wA
    · have e1 : n = t.uC (refP v) deep := by
        rw [← hm]
        split
        · rw [List.drop_of_length_le (by omega), Trm.uCs]; omega
        · omega
      have e2 : m = t.uC (setP v) deep := by
        rw [← hm2]
        split
        · rw [List.drop_of_length_le (by omega), Trm.uCs]; omega
        · omega
      rw [← e1, ← e2]
      exact PRet.pure (Wk.refl _)
theorem Uses_d (v : Int) (t : Trm) (hb : t.bulk ≤ 1000000000) : ACallP Tryz.prog 139 [.agg t.cells, .int .i64 v] (.tup [.int .i64 (t.uC (refP v) 0), .int .i64 (t.uC (setP v) 0)]) := by
  refine ACall.of_body tt_ok Tryz.func139 rfl rfl (n := 11) rfl rfl ?_
  conv => whnf
  repeat ((first | ((first | (apply zY;intro hg) | apply zZ);first | exact stA | exact stB | ((conv=>whnf);(repeat ((first | (refine zW ?_ ?_;exact gA) | refine pC (uses_d v t 0 (by omega) (by omega) hb) wR ?_ | intro _);conv=>whnf));first | exact pS | exact pL | exact pE)) | (refine zW ?_ ?_;exact gA) | refine zH rfl ?_ | refine zA ?_ | refine zI bA ?_ | refine zI rfl ?_ | refine zJ rfl rfl ?_ | refine zB ?_ | refine zK rfl ?_ | refine zL rfl ?_ | refine zC ?_ | (refine zO ?_ ?_ ?_;omega;omega) | (refine zP ?_ ?_ ?_;omega;omega) | refine zM rfl ?_ | (refine zQ ?_ ?_ ?_;omega;omega) | (refine zR ?_ ?_;omega) | (refine zI ?_ ?_;exact nA) | (refine zS ?_ ?_ ?_;omega;omega) | (refine zT ?_ ?_ ?_;omega;omega) | (refine zU ?_ ?_ ?_;omega;omega) | (refine zV ?_ ?_ ?_;omega;omega) | refine pC (uses_d v t 0 (by omega) (by omega) hb) wR ?_ | (refine yA ?_ rfl ?_ ?_;assumption;exact lA) | (refine yB ?_ rfl ?_ ?_;assumption;exact lA) | (refine yC rfl ?_ ?_;exact lA) | refine n0 ?_ | refine zN rfl rfl rfl ?_ | refine zD ?_ | refine zE ?_ | refine zF ?_ | intro _);conv=>whnf)
  exact PRet.pure (Wk.refl _)
end Go.Cb
namespace Go.Cb
open Go.Proofs
set_option maxRecDepth 100000
set_option maxHeartbeats 4000000
theorem takeWhile_at {p : Int → Bool} : ∀ {l : List Int} {k : Nat}, k ≤ l.length → (∀ j (h : j < l.length), j < k → p l[j] = true) → (∀ h : k < l.length, p (l[k]) = false) → l.takeWhile p = l.take k ∧ l.dropWhile p = l.drop k
  | [], k, _, _, _ => by simp
  | x :: l, 0, _, _, h => by
    have := h (by simp)
    simp at this
    simp [List.takeWhile_cons, List.dropWhile_cons, this]
  | x :: l, k + 1, hk, h1, h2 => by
    have h0 := h1 0 (by simp) (by omega)
    simp at h0
    have ih := takeWhile_at (p := p) (l := l) (k := k) (by simpa using hk) (fun j hj hjk => h1 (j + 1) (by simpa using hj) (by omega)) (fun h => h2 (by simpa using h))
    simp [List.takeWhile_cons, List.dropWhile_cons, h0, ih]
theorem put_c (l : List Int) (v : Int) (hl : l.length ≤ 1000000000) : ACallP Tryz.prog 106 [slI l, .int .i64 v] (slI (putI l v)) := by
  refine ACall.of_body tt_ok Tryz.func106 rfl rfl (n := 45) rfl rfl ?_
  conv => whnf
  repeat ((first | ((first | (apply zY;intro hg) | apply zZ);first | exact stA | exact stB) | (refine zW ?_ ?_;exact gA) | refine zH rfl ?_ | refine zA ?_ | refine zI bA ?_ | refine zI rfl ?_ | refine zJ rfl rfl ?_ | refine zB ?_ | refine zK rfl ?_ | refine zL rfl ?_ | refine zC ?_ | (refine zO ?_ ?_ ?_;omega;omega) | (refine zP ?_ ?_ ?_;omega;omega) | refine zM rfl ?_ | (refine zQ ?_ ?_ ?_;omega;omega) | (refine zR ?_ ?_;omega) | (refine zI ?_ ?_;exact nA) | (refine zS ?_ ?_ ?_;omega;omega) | (refine zT ?_ ?_ ?_;omega;omega) | (refine zU ?_ ?_ ?_;omega;omega) | (refine zV ?_ ?_ ?_;omega;omega) | (refine yA ?_ rfl ?_ ?_;assumption;exact lA) | (refine yB ?_ rfl ?_ ?_;assumption;exact lA) | (refine yC rfl ?_ ?_;exact lA) | refine n0 ?_ | refine zN rfl rfl rfl ?_ | refine zD ?_ | refine zE ?_ | refine zF ?_ | refine PDraw.sT (some 33) rfl [0,4,7] [11,12] tt_ok mixed ?_ | intro _);conv=>whnf)
  refine PLoop.keep [5, 6, 7, 8, 9, 10, 11, 12, 13, 14, 15, 16, 17, 18, 19] (fun k : Nat => [(5, .int .i64 k)]) (fun k => k ≤ l.length ∧ ∀ j (h : j < l.length), j < k → l[j] < v) (fun k => l.length - k) 0 ⟨Nat.zero_le _, fun _ _ h => by omega⟩ wA ?_
  rintro k ⟨hk, hm⟩
  have hgd : ∀ h : k < l.length, l.getD k Dfl.d = l[k] := fun h => by simp [List.getD, h]
  conv => whnf
  repeat' (first | ((first | ((first | (apply zY;intro hg) | apply zZ);first | exact stA | exact stB) | (refine zW ?_ ?_;exact gA) | refine zH rfl ?_ | refine zA ?_ | refine zI bA ?_ | refine zI rfl ?_ | refine zJ rfl rfl ?_ | refine zB ?_ | refine zK rfl ?_ | refine zL rfl ?_ | refine zC ?_ | (refine zO ?_ ?_ ?_;omega;omega) | (refine zP ?_ ?_ ?_;omega;omega) | refine zM rfl ?_ | (refine zQ ?_ ?_ ?_;omega;omega) | (refine zR ?_ ?_;omega) | (refine zI ?_ ?_;exact nA) | (refine zS ?_ ?_ ?_;omega;omega) | (refine zT ?_ ?_ ?_;omega;omega) | (refine zU ?_ ?_ ?_;omega;omega) | (refine zV ?_ ?_ ?_;omega;omega) | (refine yA ?_ rfl ?_ ?_;assumption;exact lA) | (refine yB ?_ rfl ?_ ?_;assumption;exact lA) | (refine yC rfl ?_ ?_;exact lA) | refine n0 ?_ | refine zN rfl rfl rfl ?_ | refine zD ?_ | refine zE ?_ | refine zF ?_ | refine PDraw.sT (some 33) rfl [0,4,7] [11,12] tt_ok mixed ?_ | intro _ | refine zG ?_);conv=>whnf) | (refine zX (fun hc => ?_) (fun hc => ?_)<;>(try simp only [SY] at hc)<;>first | omega | (conv=>whnf)))
  · have hlt : k < l.length := by omega
    rw [hgd hlt] at hc
    refine loopTo (k + 1) ⟨by omega, fun j hj hjk => ?_⟩ (by show l.length - (k + 1) < l.length - k; omega) wA
    by_cases e : j = k
    · subst e; exact hc.2
    · exact hm j hj (by omega)
  · have hlt : k < l.length := by omega
    rw [hgd hlt] at hc
    obtain ⟨h1, h2⟩ := takeWhile_at (p := fun x => decide (x < v)) hk (fun j hj hjk => by simpa using hm j hj hjk) (fun h => by simp; omega)
    refine PRet.pure (Wk.sl ?_)
    congr 1
    unfold putI
    rw [h1, h2, drop_at hlt, hc.2]
    simp only [List.head?_cons, if_true]
    rw [← hc.2, ← drop_at hlt, List.take_append_drop]
  · have h0 : (l.length : Int) ≤ (k : Int) ∨ v ≤ l.getD k Dfl.d := by assumption
    obtain ⟨h1, h2⟩ := takeWhile_at (p := fun x => decide (x < v)) hk (fun j hj hjk => by simpa using hm j hj hjk) (fun h => by
      have := hgd h
      rw [this] at h0
      simp; omega)
    have e : putI l v = l.take k ++ [v] ++ l.drop k := by
      unfold putI
      rw [h1, h2, if_neg, List.append_assoc]
      · rfl
      · intro h
        rcases Nat.lt_or_ge k l.length with hlt | hge
        · rw [drop_at hlt] at h
          simp only [List.head?_cons, Option.some.injEq] at h
          rw [hgd hlt] at hc
          rcases hc with hc | hc
          · omega
          · exact hc h
        · rw [List.drop_of_length_le hge] at h; cases h
    rw [e]
    exact PRet.pure wA
theorem slI_nil : Wk .nil (slI []) := Wk.nil' rfl
theorem binds_d (t : Trm) : ∀ (deep : Int) (out : List Int), 0 ≤ deep → deep ≤ 1000 → out.Pairwise (· < ·) → out.length + t.bulk ≤ 1000000000 → ACallP Tryz.prog 63 [.agg t.cells, .int .i64 deep, slI out] (slI (t.bD deep out)) := by
  induction t using Trm.ind with
  | h t ih =>
    intro deep out h0 h1 ho hb
    have hbe := t.bulk_eq
    have he := t.bD_eq deep out
    have ih' : ∀ x ∈ t.t, ∀ (deep : Int) (out : List Int), 0 ≤ deep → deep ≤ 1000 → out.Pairwise (· < ·) → out.length + x.bulk ≤ 1000000000 → ACallP Tryz.prog 63 [.agg x.cells, .int .i64 deep, slI out] (slI (x.bD deep out)) := ih
    have hbs := Trm.bulks_length t.t
    refine ACall.of_body tt_ok Tryz.func63 rfl rfl (n := 44) rfl rfl ?_
    conv => whnf
    repeat ((first | ((first | (apply zY;intro hg) | apply zZ);first | exact stA | exact stB) | (refine zW ?_ ?_;exact gA) | refine zH rfl ?_ | refine zA ?_ | refine zI bA ?_ | refine zI rfl ?_ | refine zJ rfl rfl ?_ | refine zB ?_ | refine zK rfl ?_ | refine zL rfl ?_ | refine zC ?_ | (refine zO ?_ ?_ ?_;omega;omega) | (refine zP ?_ ?_ ?_;omega;omega) | refine zM rfl ?_ | (refine zQ ?_ ?_ ?_;omega;omega) | (refine zR ?_ ?_;omega) | (refine zI ?_ ?_;exact nA) | (refine zS ?_ ?_ ?_;omega;omega) | (refine zT ?_ ?_ ?_;omega;omega) | (refine zU ?_ ?_ ?_;omega;omega) | (refine zV ?_ ?_ ?_;omega;omega) | (refine yA ?_ rfl ?_ ?_;assumption;exact lA) | (refine yB ?_ rfl ?_ ?_;assumption;exact lA) | (refine yC rfl ?_ ?_;exact lA) | refine n0 ?_ | refine zN rfl rfl rfl ?_ | refine zD ?_ | refine zE ?_ | refine zF ?_ | intro _);conv=>whnf)
    refine PLoop.keep [2, 7, 9, 10, 11, 12, 13, 14, 15, 16, 17, 18, 19, 20, 21, 22] (fun x : Nat × List Int => [(2, slI x.2), (7, .int .i64 x.1)]) (fun x => x.1 ≤ t.v.length ∧ x.2.Pairwise (· < ·) ∧ x.2.length ≤ out.length + x.1 ∧ (t.v.drop x.1).foldl putI x.2 = t.v.foldl putI out) (fun x => t.v.length - x.1) (0, out) ⟨Nat.zero_le _, ho, by simp, rfl⟩ wA ?_
    rintro ⟨i, o⟩ ⟨hi, hp, hl, hm⟩
    dsimp only at hi hp hl hm ⊢
    conv => whnf
    repeat' (first | ((first | ((first | (apply zY;intro hg) | apply zZ);first | exact stA | exact stB | ((conv=>whnf);(repeat ((first | (refine zW ?_ ?_;exact gA) | refine pC (put_c o _ (by omega)) wR ?_ | refine pC (put_c o _ (by omega)) cA ?_ | intro _);conv=>whnf));first | exact pS | exact pL | exact pE)) | (refine zW ?_ ?_;exact gA) | refine zH rfl ?_ | refine zA ?_ | refine zI bA ?_ | refine zI rfl ?_ | refine zJ rfl rfl ?_ | refine zB ?_ | refine zK rfl ?_ | refine zL rfl ?_ | refine zC ?_ | (refine zO ?_ ?_ ?_;omega;omega) | (refine zP ?_ ?_ ?_;omega;omega) | refine zM rfl ?_ | (refine zQ ?_ ?_ ?_;omega;omega) | (refine zR ?_ ?_;omega) | (refine zI ?_ ?_;exact nA) | (refine zS ?_ ?_ ?_;omega;omega) | (refine zT ?_ ?_ ?_;omega;omega) | (refine zU ?_ ?_ ?_;omega;omega) | (refine zV ?_ ?_ ?_;omega;omega) | refine pC (put_c o _ (by omega)) wR ?_ | refine pC (put_c o _ (by omega)) cA ?_ | (refine yA ?_ rfl ?_ ?_;assumption;exact lA) | (refine yB ?_ rfl ?_ ?_;assumption;exact lA) | (refine yC rfl ?_ ?_;exact lA) | refine n0 ?_ | refine zN rfl rfl rfl ?_ | refine zD ?_ | refine zE ?_ | refine zF ?_ | intro _ | refine zG ?_);conv=>whnf) | (refine zX (fun hc => ?_) (fun hc => ?_)<;>(try simp only [SY] at hc)<;>first | omega | (conv=>whnf)))
    · have hlt : i < t.v.length := by omega
      rw [drop_at hlt, List.foldl_cons] at hm
      have := putI_len t.v[i] o
      exact loopTo (i + 1, putI o t.v[i]) ⟨by show i + 1 ≤ _; omega, putI_lt _ hp, by show (putI o t.v[i]).length ≤ out.length + (i + 1); omega, hm⟩ (by show t.v.length - (i + 1) < t.v.length - i; omega) wA
    rw [List.drop_of_length_le (by omega), List.foldl_nil] at hm
    subst hm
    refine PLoop.keep [2, 8, 23, 24, 25, 26, 27, 28, 29, 30, 31, 32, 33, 34, 35, 36, 37, 38, 39, 40, 41, 42] (fun x : Nat × List Int => [(2, slI x.2), (8, .int .i64 x.1)]) (fun x => x.1 ≤ t.t.length ∧ x.2.Pairwise (· < ·) ∧ (x.1 = 0 ∨ deep < 1000) ∧ x.2.length + Trm.bulks (t.t.drop x.1) ≤ 1000000000 ∧ (if deep < 1000 then Trm.bDs (t.t.drop x.1) (deep + 1) x.2 else x.2) = t.bD deep out) (fun x => t.t.length - x.1) (0, t.v.foldl putI out) ⟨Nat.zero_le _, hp, .inl rfl, by simp only [List.drop_zero]; omega, by rw [he]; rfl⟩ wA ?_
    rintro ⟨j, o⟩ ⟨hj, hp, hd, hl, hm⟩
    dsimp only at hj hp hd hl hm ⊢
    conv => whnf
    repeat' (first | ((first | ((first | (apply zY;intro hg) | apply zZ);first | exact stA | exact stB | ((conv=>whnf);(repeat ((first | (refine zW ?_ ?_;exact gA) | refine pC (ih' _ (List.getElem_mem _) _ o (by omega) (by omega) hp (by rw [drop_at (by omega), Trm.bulks] at hl; omega)) wR ?_ | refine pC (ih' _ (List.getElem_mem _) _ o (by omega) (by omega) hp (by rw [drop_at (by omega), Trm.bulks] at hl; omega)) cA ?_ | intro _);conv=>whnf));first | exact pS | exact pL | exact pE)) | (refine zW ?_ ?_;exact gA) | refine zH rfl ?_ | refine zA ?_ | refine zI bA ?_ | refine zI rfl ?_ | refine zJ rfl rfl ?_ | refine zB ?_ | refine zK rfl ?_ | refine zL rfl ?_ | refine zC ?_ | (refine zO ?_ ?_ ?_;omega;omega) | (refine zP ?_ ?_ ?_;omega;omega) | refine zM rfl ?_ | (refine zQ ?_ ?_ ?_;omega;omega) | (refine zR ?_ ?_;omega) | (refine zI ?_ ?_;exact nA) | (refine zS ?_ ?_ ?_;omega;omega) | (refine zT ?_ ?_ ?_;omega;omega) | (refine zU ?_ ?_ ?_;omega;omega) | (refine zV ?_ ?_ ?_;omega;omega) | refine pC (ih' _ (List.getElem_mem _) _ o (by omega) (by omega) hp (by rw [drop_at (by omega), Trm.bulks] at hl; omega)) wR ?_ | refine pC (ih' _ (List.getElem_mem _) _ o (by omega) (by omega) hp (by rw [drop_at (by omega), Trm.bulks] at hl; omega)) cA ?_ | (refine yA ?_ rfl ?_ ?_;assumption;exact lA) | (refine yB ?_ rfl ?_ ?_;assumption;exact lA) | (refine yC rfl ?_ ?_;exact lA) | refine n0 ?_ | refine zN rfl rfl rfl ?_ | refine zD ?_ | refine zE ?_ | refine zF ?_ | intro _ | refine zG ?_);conv=>whnf) | (refine zX (fun hc => ?_) (fun hc => ?_)<;>(try simp only [SY] at hc)<;>first | omega | (conv=>whnf)))
    · have hlt : j < t.t.length := by omega
      rw [if_pos (by omega), drop_at hlt, Trm.bDs] at hm
      rw [drop_at hlt, Trm.bulks] at hl
      obtain ⟨b1, b2, _⟩ := (t.t[j]).bD_spec (deep + 1) o hp
      exact loopTo (j + 1, t.t[j].bD (deep + 1) o) ⟨by show j + 1 ≤ _; omega, b1, .inr (by omega), by dsimp only; omega, by dsimp only; rw [if_pos (by omega)]; exact hm⟩ (by show t.t.length - (j + 1) < t.t.length - j; omega) wA
    · rw [← hm]
      have e : (if deep < 1000 then Trm.bDs (t.t.drop j) (deep + 1) o else o) = o := by
        split
        · rw [List.drop_of_length_le (by omega), Trm.bDs]
        · rfl
      rw [e]
      exact PRet.pure (Wk.refl _)
theorem Binds_d (t : Trm) (hb : t.bulk ≤ 1000000000) (hd : t.dep < 1000) : ACallP Tryz.prog 31 [.agg t.cells] (slI (bndL t)) := by
  have h := binds_d t 0 [] (by omega) (by omega) List.Pairwise.nil (by simpa using hb)
  rw [t.bD_rise hd] at h
  have h2 : ACallP Tryz.prog 63 [.agg t.cells, .int .i64 0, .nil] (slI (bndL t)) := ACall.wk h (.cons (Wk.refl _) (.cons (Wk.refl _) (.cons slI_nil .nil)))
  refine ACall.of_body tt_ok Tryz.func31 rfl rfl (n := 5) rfl rfl ?_
  conv => whnf
  repeat ((first | ((first | (apply zY;intro hg) | apply zZ);first | exact stA | exact stB | ((conv=>whnf);(repeat ((first | (refine zW ?_ ?_;exact gA) | refine pC (h2) wR ?_ | intro _);conv=>whnf));first | exact pS | exact pL | exact pE)) | (refine zW ?_ ?_;exact gA) | refine zH rfl ?_ | refine zA ?_ | refine zI bA ?_ | refine zI rfl ?_ | refine zJ rfl rfl ?_ | refine zB ?_ | refine zK rfl ?_ | refine zL rfl ?_ | refine zC ?_ | (refine zO ?_ ?_ ?_;omega;omega) | (refine zP ?_ ?_ ?_;omega;omega) | refine zM rfl ?_ | (refine zQ ?_ ?_ ?_;omega;omega) | (refine zR ?_ ?_;omega) | (refine zI ?_ ?_;exact nA) | (refine zS ?_ ?_ ?_;omega;omega) | (refine zT ?_ ?_ ?_;omega;omega) | (refine zU ?_ ?_ ?_;omega;omega) | (refine zV ?_ ?_ ?_;omega;omega) | refine pC (h2) wR ?_ | (refine yA ?_ rfl ?_ ?_;assumption;exact lA) | (refine yB ?_ rfl ?_ ?_;assumption;exact lA) | (refine yC rfl ?_ ?_;exact lA) | refine n0 ?_ | refine zN rfl rfl rfl ?_ | refine zD ?_ | refine zE ?_ | refine zF ?_ | intro _);conv=>whnf)
  exact PRet.pure (Wk.refl _)
theorem bndL_len (t : Trm) (h : t.dep < 1000) : (bndL t).length ≤ t.bulk := by
  have := (t.bD_spec 0 [] List.Pairwise.nil).2.1
  rw [t.bD_rise h] at this
  simpa using this
theorem next_d (t : Trm) (hb : t.bulk ≤ 1000000000) (hd : t.dep < 1000) (hv : ∀ x ∈ t.vars, 0 ≤ x ∧ x ≤ 1000000) : ACallP Tryz.prog 58 [.agg t.cells] (.int .i64 (nextT t)) := by
  have hl := bndL_len t hd
  have hx : ∀ x ∈ bndL t, 0 ≤ x ∧ x ≤ 1000000 := fun x h => hv x ((mem_rise _ _).1 h)
  refine ACall.of_body tt_ok Tryz.func58 rfl rfl (n := 16) rfl rfl ?_
  conv => whnf
  repeat ((first | ((first | (apply zY;intro hg) | apply zZ);first | exact stA | exact stB | ((conv=>whnf);(repeat ((first | (refine zW ?_ ?_;exact gA) | refine pC (Binds_d t hb hd) wR ?_ | intro _);conv=>whnf));first | exact pS | exact pL | exact pE)) | (refine zW ?_ ?_;exact gA) | refine zH rfl ?_ | refine zA ?_ | refine zI bA ?_ | refine zI rfl ?_ | refine zJ rfl rfl ?_ | refine zB ?_ | refine zK rfl ?_ | refine zL rfl ?_ | refine zC ?_ | (refine zO ?_ ?_ ?_;omega;omega) | (refine zP ?_ ?_ ?_;omega;omega) | refine zM rfl ?_ | (refine zQ ?_ ?_ ?_;omega;omega) | (refine zR ?_ ?_;omega) | (refine zI ?_ ?_;exact nA) | (refine zS ?_ ?_ ?_;omega;omega) | (refine zT ?_ ?_ ?_;omega;omega) | (refine zU ?_ ?_ ?_;omega;omega) | (refine zV ?_ ?_ ?_;omega;omega) | refine pC (Binds_d t hb hd) wR ?_ | (refine yA ?_ rfl ?_ ?_;assumption;exact lA) | (refine yB ?_ rfl ?_ ?_;assumption;exact lA) | (refine yC rfl ?_ ?_;exact lA) | refine n0 ?_ | refine zN rfl rfl rfl ?_ | refine zD ?_ | refine zE ?_ | refine zF ?_ | intro _);conv=>whnf)
  conv => whnf
  repeat' (first | ((first | ((first | (apply zY;intro hg) | apply zZ);first | exact stA | exact stB | ((conv=>whnf);(repeat ((first | (refine zW ?_ ?_;exact gA) | refine pC (Binds_d t hb hd) wR ?_ | intro _);conv=>whnf));first | exact pS | exact pL | exact pE)) | (refine zW ?_ ?_;exact gA) | refine zH rfl ?_ | refine zA ?_ | refine zI bA ?_ | refine zI rfl ?_ | refine zJ rfl rfl ?_ | refine zB ?_ | refine zK rfl ?_ | refine zL rfl ?_ | refine zC ?_ | (refine zO ?_ ?_ ?_;omega;omega) | (refine zP ?_ ?_ ?_;omega;omega) | refine zM rfl ?_ | (refine zQ ?_ ?_ ?_;omega;omega) | (refine zR ?_ ?_;omega) | (refine zI ?_ ?_;exact nA) | (refine zS ?_ ?_ ?_;omega;omega) | (refine zT ?_ ?_ ?_;omega;omega) | (refine zU ?_ ?_ ?_;omega;omega) | (refine zV ?_ ?_ ?_;omega;omega) | refine pC (Binds_d t hb hd) wR ?_ | (refine yA ?_ rfl ?_ ?_;assumption;exact lA) | (refine yB ?_ rfl ?_ ?_;assumption;exact lA) | (refine yC rfl ?_ ?_;exact lA) | refine n0 ?_ | refine zN rfl rfl rfl ?_ | refine zD ?_ | refine zE ?_ | refine zF ?_ | intro _ | refine zG ?_);conv=>whnf) | (refine zX (fun hc => ?_) (fun hc => ?_)<;>(try simp only [SY] at hc)<;>first | omega | (conv=>whnf)))
  · exact PRet.pure (Wk.int (by unfold nextT; rw [if_pos (List.eq_nil_of_length_eq_zero (by omega))]))
  · have hlt : (bndL t).length - 1 < (bndL t).length := by omega
    have e : (bndL t).getD ((bndL t).length - 1) 0 = (bndL t)[(bndL t).length - 1] := by simp [List.getD, hlt]
    have h1 := hx _ (List.getElem_mem hlt)
    have hn : nextT t = (bndL t)[(bndL t).length - 1] + 1 := by
      unfold nextT
      rw [if_neg (by intro h; rw [h] at hlt; simp at hlt), e]
    rw [hn]
    refine PInt.ok (by omega) (by omega) ?_
    conv => whnf
    repeat' (first | ((first | ((first | (apply zY;intro hg) | apply zZ);first | exact stA | exact stB | ((conv=>whnf);(repeat ((first | (refine zW ?_ ?_;exact gA) | refine pC (Binds_d t hb hd) wR ?_ | intro _);conv=>whnf));first | exact pS | exact pL | exact pE)) | (refine zW ?_ ?_;exact gA) | refine zH rfl ?_ | refine zA ?_ | refine zI bA ?_ | refine zI rfl ?_ | refine zJ rfl rfl ?_ | refine zB ?_ | refine zK rfl ?_ | refine zL rfl ?_ | refine zC ?_ | (refine zO ?_ ?_ ?_;omega;omega) | (refine zP ?_ ?_ ?_;omega;omega) | refine zM rfl ?_ | (refine zQ ?_ ?_ ?_;omega;omega) | (refine zR ?_ ?_;omega) | (refine zI ?_ ?_;exact nA) | (refine zS ?_ ?_ ?_;omega;omega) | (refine zT ?_ ?_ ?_;omega;omega) | (refine zU ?_ ?_ ?_;omega;omega) | (refine zV ?_ ?_ ?_;omega;omega) | refine pC (Binds_d t hb hd) wR ?_ | (refine yA ?_ rfl ?_ ?_;assumption;exact lA) | (refine yB ?_ rfl ?_ ?_;assumption;exact lA) | (refine yC rfl ?_ ?_;exact lA) | refine n0 ?_ | refine zN rfl rfl rfl ?_ | refine zD ?_ | refine zE ?_ | refine zF ?_ | intro _ | refine zG ?_);conv=>whnf) | (refine zX (fun hc => ?_) (fun hc => ?_)<;>(try simp only [SY] at hc)<;>first | omega | (conv=>whnf)))
    exact PRet.pure (Wk.refl _)
end Go.Cb
namespace Go.Cb
open Go.Proofs
set_option maxRecDepth 100000
set_option maxHeartbeats 4000000
section
variable {P : Program} {tt : Nat → TI}
theorem PLoop.ghost {B : List PV → List Ent → Ds → QT → Prop} {T : List PV} {Γ Γ' : List Ent} {D : Ds} {Q : QT} (hg : Ghost Γ Γ') (h : PLoop B T Γ' D Q) : PLoop B T Γ D Q := by
  obtain ⟨I, J, ⟨n, T0, Γ0, h1, h2⟩, h3, h4⟩ := h.h
  refine ⟨I, J, ⟨n, T0, Γ0, fun w0 F M w vs hS hT => ?_, h2⟩, h3, h4⟩
  obtain ⟨F1, e1, hS1⟩ := hg w0 F M w hS
  obtain ⟨F2, e2, hS2, hT2⟩ := h1 w0 F1 M w vs hS1 (RepT.mono e1 _ _ hT)
  exact ⟨F2, Fz.le_trans e1 e2, hS2, hT2⟩
theorem PInt.w {k : IntKind} {v : Int} {K : Int → Prop} (h : K (k.wrap v)) : PInt k v K := ⟨h⟩
end
mutual
def Trm.shw (k : Int) : Trm → Trm
  | .mk op n v t => .mk op (if namesB op = true then IntKind.i64.wrap (n + k) else n) (v.map fun x => IntKind.i64.wrap (x + k)) (Trm.shws k t)
def Trm.shws (k : Int) : List Trm → List Trm
  | [] => []
  | x :: xs => Trm.shw k x :: Trm.shws k xs
end
end Go.Cb
namespace Go.Cb
open Go.Proofs
set_option maxRecDepth 100000
set_option maxHeartbeats 4000000
theorem lamN_cons (A : Int → Bool) (v : Int) (l : List Int) : lamN A (v :: l) = (if A v = true then 1 else 0) + lamN A l := by
  unfold lamN
  rw [List.filter_cons]
  split
  · rw [List.length_cons]; omega
  · omega
theorem lam_c (b r : Nat) (L : List Int) (t : Trm) (hop : t.op = 4) (hlen : t.t.length = 1) (hf : ∀ x ∈ t.t, CvOk b r L x) (hb : t.bulk ≤ 1000000000) (k : Int) (h0 : 0 ≤ k) (hk : k + t.bulk ≤ 1000000000000000) :
    ACall Tryz.prog 91 [.ptr b 0, .agg t.cells] (cvG b r L k) (fun y Γ' => y = .agg (t.cv L.contains k).cells ∧ Γ' = cvG b r L (k + t.fr L.contains)) := by
  have hbe := t.bulk_eq
  have hle0 := lamN_bd L.contains t.v
  refine ACall.of_body tt_ok Tryz.func91 rfl rfl (n := 84) rfl rfl ?_
  conv => whnf
  repeat ((first | ((first | (apply zY;intro hg) | apply zZ);first | exact stA | exact stB) | (refine zW ?_ ?_;exact gA) | refine zH rfl ?_ | refine zA ?_ | refine zI bA ?_ | refine zI rfl ?_ | refine zJ rfl rfl ?_ | refine zB ?_ | refine zK rfl ?_ | refine zL rfl ?_ | refine zC ?_ | (refine zO ?_ ?_ ?_;omega;omega) | (refine zP ?_ ?_ ?_;omega;omega) | refine zM rfl ?_ | (refine zQ ?_ ?_ ?_;omega;omega) | (refine zR ?_ ?_;omega) | (refine zI ?_ ?_;exact nA) | (refine zS ?_ ?_ ?_;omega;omega) | (refine zT ?_ ?_ ?_;omega;omega) | (refine zU ?_ ?_ ?_;omega;omega) | (refine zV ?_ ?_ ?_;omega;omega) | (refine yA ?_ rfl ?_ ?_;assumption;exact lA) | (refine yB ?_ rfl ?_ ?_;assumption;exact lA) | (refine yC rfl ?_ ?_;exact lA) | refine n0 ?_ | refine zN rfl rfl rfl ?_ | refine zD ?_ | refine zE ?_ | refine zF ?_ | refine PDraw.sT (some 27) rfl [4,11,12,13,14,15] [17,18,19] tt_ok mixed ?_ | intro _);conv=>whnf)
  rename_i b1 b2 b3 b4 hvl
  refine PLoop.ghost (Ghost.trans (Ghost.nil 1 3 _) (Ghost.trans (Ghost.nil 1 3 _) (Ghost.trans (Ghost.nil 4 26 _)
    (Ghost.trans (Ghost.box (b := b3) (cs := [.int .i64 4, .int .i64 t.n, .nil, .nil]) (cs' := [.int .i64 4, .int .i64 t.n, .sl 1 (([] : List Int).map (PV.int .i64)) (some (nilTok 1 3)), .nil]) wA)
      (Ghost.box (b := b4) (cs := [.int .i64 8, .int .i64 0, .nil, .nil]) (cs' := [.int .i64 8, .int .i64 0, .sl 1 (([] : List Int).map (PV.int .i64)) (some (nilTok 1 3)), .sl 4 (([] : List Trm).map Trm.pv) (some (nilTok 4 26))]) wA))))) ?_
  refine PLoop.over [8, 17, 18, 19, 20, 21, 22, 23, 24, 25, 26, 27, 28, 29, 30, 31, 32, 33, 34, 35, 36, 37, 38, 39, 40, 41, 42, 43, 44, 45, 46, 47, 48, 49, 50, 51, 52, 53, 54, 55, 56, 57, 58, 59, 60, 61, 62] (fun x : Nat × (List Int × Tok) × (List Int × Tok) × (List Trm × Tok) × Int => [(17, .int .i64 x.1)])
    (fun x : Nat × (List Int × Tok) × (List Int × Tok) × (List Trm × Tok) × Int => [.box b3 [.int .i64 4, .int .i64 t.n, .sl 1 (x.2.1.1.map (PV.int .i64)) (some x.2.1.2), .nil], .tok x.2.1.2, .box b4 [.int .i64 8, .int .i64 0, .sl 1 (x.2.2.1.1.map (PV.int .i64)) (some x.2.2.1.2), .sl 4 (x.2.2.2.1.1.map Trm.pv) (some x.2.2.2.1.2)], .tok x.2.2.1.2, .tok x.2.2.2.1.2, .box b2 [.int .i64 0, .int .i64 0, .nil, .nil], .box b1 [.int .i64 t.op, .int .i64 t.n, .sl 1 (t.v.map (PV.int .i64)) none, .sl 4 (t.t.map Trm.pv) none], .box b [.mp r, .int .i64 x.2.2.2.2], .mp r (.int .i64) (setM L) []])
    (fun x => x.1 ≤ t.v.length ∧ (x.2.1.2.e = 3 ∧ x.2.2.1.2.e = 3 ∧ x.2.2.2.1.2.e = 26) ∧ (x.2.1.1.length ≤ x.1 ∧ x.2.2.1.1.length ≤ x.1 ∧ x.2.2.2.1.1.length ≤ x.1) ∧ x.2.1.1 ++ lamV L.contains (t.v.drop x.1) x.2.2.2.2 = lamV L.contains t.v k ∧ x.2.2.1.1 ++ (t.v.drop x.1).filter L.contains = t.v.filter L.contains ∧ x.2.2.2.1.1 ++ lamT L.contains (t.v.drop x.1) x.2.2.2.2 = lamT L.contains t.v k ∧ x.2.2.2.2 + lamN L.contains (t.v.drop x.1) = k + lamN L.contains t.v)
    (fun x => t.v.length - x.1) (0, ([], nilTok 1 3), ([], nilTok 1 3), ([], nilTok 4 26), k) ⟨Nat.zero_le _, ⟨rfl, rfl, rfl⟩, ⟨by simp, by simp, by simp⟩, rfl, rfl, rfl, rfl⟩ wA ?_
  rintro ⟨i, ⟨ov, t1⟩, ⟨lv, t2⟩, ⟨lt, t3⟩, nx⟩ ⟨hi, ⟨ht1, ht2, ht3⟩, ⟨hl1, hl2, hl3⟩, ho, hv, hT, hn⟩
  dsimp only at hi ht1 ht2 ht3 hl1 hl2 hl3 ho hv hT hn ⊢
  have hnb := lamN_bd L.contains (t.v.drop i)
  have hdl : (t.v.drop i).length = t.v.length - i := List.length_drop
  conv => whnf
  repeat' (first | ((first | ((first | (apply zY;intro hg) | apply zZ);first | exact stA | exact stB | ((conv=>whnf);(repeat ((first | (refine zW ?_ ?_;exact gA) | refine pC (ref_c _) wR ?_ | refine pC (ref_c _) cA ?_ | refine pC (made_c 15) wR ?_ | intro _);conv=>whnf));first | exact pS | exact pL | exact pE)) | (refine zW ?_ ?_;exact gA) | refine zH rfl ?_ | refine zA ?_ | refine zI bA ?_ | refine zI rfl ?_ | refine zJ rfl rfl ?_ | refine zB ?_ | refine zK rfl ?_ | refine zL rfl ?_ | refine zC ?_ | (refine zO ?_ ?_ ?_;omega;omega) | (refine zP ?_ ?_ ?_;omega;omega) | refine zM rfl ?_ | (refine zQ ?_ ?_ ?_;omega;omega) | (refine zR ?_ ?_;omega) | (refine zI ?_ ?_;exact nA) | (refine zS ?_ ?_ ?_;omega;omega) | (refine zT ?_ ?_ ?_;omega;omega) | (refine zU ?_ ?_ ?_;omega;omega) | (refine zV ?_ ?_ ?_;omega;omega) | refine pC (ref_c _) wR ?_ | refine pC (ref_c _) cA ?_ | refine pC (made_c 15) wR ?_ | (refine yA ?_ rfl ?_ ?_;assumption;exact lA) | (refine yB ?_ rfl ?_ ?_;assumption;exact lA) | (refine yC rfl ?_ ?_;exact lA) | refine n0 ?_ | refine zN rfl rfl rfl ?_ | refine zD ?_ | refine zE ?_ | refine zF ?_ | refine PDraw.sT (some 27) rfl [4,11,12,13,14,15] [17,18,19] tt_ok mixed ?_ | intro _ | refine zG ?_);conv=>whnf) | (refine zX (fun hc => ?_) (fun hc => ?_)<;>(try simp only [SY] at hc)<;>first | omega | (conv=>whnf)))
  · rename_i ta hta tb htb tc htc td htd te hte tf htf
    have hlt : i < t.v.length := by omega
    rw [drop_at hlt] at ho hv hT hn
    rw [lamV, if_pos hc] at ho
    rw [List.filter_cons, if_pos hc] at hv
    rw [lamT, if_pos hc] at hT
    rw [lamN_cons, if_pos hc] at hn
    exact loopTo (i + 1, (ov ++ [nx], tf), (lv ++ [t.v[i]], ta), (lt ++ [Trm.mk 15 0 [] [refT nx]], td), nx + 1) ⟨by show i + 1 ≤ _; omega, ⟨htf, hta, htd⟩, ⟨by simp; omega, by simp; omega, by simp; omega⟩, by dsimp only; rw [List.append_assoc]; exact ho, by dsimp only; rw [List.append_assoc]; exact hv, by dsimp only; rw [List.append_assoc]; exact hT, by dsimp only; omega⟩ (by show t.v.length - (i + 1) < t.v.length - i; omega) wA
  · rename_i te hte tf htf
    have hlt : i < t.v.length := by omega
    have hc' : ¬ L.contains t.v[i] = true := by rw [hc]; simp
    rw [drop_at hlt] at ho hv hT hn
    rw [lamV, if_neg hc'] at ho
    rw [List.filter_cons, if_neg hc'] at hv
    rw [lamT, if_neg hc'] at hT
    rw [lamN_cons, if_neg hc'] at hn
    exact loopTo (i + 1, (ov ++ [t.v[i]], tf), (lv, t2), (lt, t3), nx) ⟨by show i + 1 ≤ _; omega, ⟨htf, ht2, ht3⟩, ⟨by simp; omega, by dsimp only; omega, by dsimp only; omega⟩, by dsimp only; rw [List.append_assoc]; exact ho, hv, hT, by dsimp only; omega⟩ (by show t.v.length - (i + 1) < t.v.length - i; omega) wA
  · rw [List.drop_of_length_le (by omega)] at ho hv hT hn
    rw [lamV, List.append_nil] at ho
    rw [List.filter_nil, List.append_nil] at hv
    rw [lamT, List.append_nil] at hT
    have hn' : nx = k + lamN L.contains t.v := by rw [← hn]; simp [lamN]
    have hm0 : t.t[0]'(by omega) ∈ t.t := List.getElem_mem _
    have hb0 := Trm.bulks_mem hm0
    refine PCall.go (hf _ hm0 nx (by omega) (by omega)) (WkT.refl _) ?_
    rintro _ _ ⟨rfl, rfl⟩
    generalize hX : (t.t[0]'(by omega)).cv L.contains nx = X
    have hcvs : Trm.cvs L.contains t.t nx = [X] := by
      rw [← hX]
      obtain ⟨x, hx⟩ : ∃ x, t.t = [x] := List.length_eq_one_iff.1 hlen
      simp only [hx, Trm.cvs, List.getElem_cons_zero]
    have hfr : Trm.frs L.contains t.t = (t.t[0]'(by omega)).fr L.contains := by
      obtain ⟨x, hx⟩ : ∃ x, t.t = [x] := List.length_eq_one_iff.1 hlen
      simp only [hx, Trm.frs, List.getElem_cons_zero]; omega
    have hcv := t.cv_eq L.contains k
    rw [if_neg (by omega), if_neg (by omega), if_neg (by omega), if_pos hop, ← hn', hcvs, ← ho, ← hv, ← hT] at hcv
    have hfe := t.fr_eq L.contains
    rw [if_pos hop] at hfe
    have hkf : nx + (t.t[0]'(by omega)).fr L.contains = k + t.fr L.contains := by omega
    rw [← hkf]
    conv => whnf
    repeat' (first | ((first | ((first | (apply zY;intro hg) | apply zZ);first | exact stA | exact stB | ((conv=>whnf);(repeat ((first | (refine zW ?_ ?_;exact gA) | refine pC (ref_c _) wR ?_ | refine pC (ref_c _) cA ?_ | refine pC (made_c 15) wR ?_ | intro _);conv=>whnf));first | exact pS | exact pL | exact pE)) | (refine zW ?_ ?_;exact gA) | refine zH rfl ?_ | refine zA ?_ | refine zI bA ?_ | refine zI rfl ?_ | refine zJ rfl rfl ?_ | refine zB ?_ | refine zK rfl ?_ | refine zL rfl ?_ | refine zC ?_ | (refine zO ?_ ?_ ?_;omega;omega) | (refine zP ?_ ?_ ?_;omega;omega) | refine zM rfl ?_ | (refine zQ ?_ ?_ ?_;omega;omega) | (refine zR ?_ ?_;omega) | (refine zI ?_ ?_;exact nA) | (refine zS ?_ ?_ ?_;omega;omega) | (refine zT ?_ ?_ ?_;omega;omega) | (refine zU ?_ ?_ ?_;omega;omega) | (refine zV ?_ ?_ ?_;omega;omega) | refine pC (ref_c _) wR ?_ | refine pC (ref_c _) cA ?_ | refine pC (made_c 15) wR ?_ | (refine yA ?_ rfl ?_ ?_;assumption;exact lA) | (refine yB ?_ rfl ?_ ?_;assumption;exact lA) | (refine yC rfl ?_ ?_;exact lA) | refine n0 ?_ | refine zN rfl rfl rfl ?_ | refine zD ?_ | refine zE ?_ | refine zF ?_ | refine PDraw.sT (some 27) rfl [4,11,12,13,14,15] [17,18,19] tt_ok mixed ?_ | intro _ | refine zG ?_);conv=>whnf) | (refine zX (fun hc => ?_) (fun hc => ?_)<;>(try simp only [SY] at hc)<;>first | omega | (conv=>whnf)))
    · rw [if_neg (by intro h; rw [h] at hc; simp at hc)] at hcv
      rw [hcv]
      exact PRet.gen (y := .agg (Trm.mk 4 t.n ov [Trm.mk 8 0 lv (lt ++ [X])]).cells) (Γ' := cvG b r L (nx + (t.t[0]'(by omega)).fr L.contains)) TrmOf.wk ⟨rfl, rfl⟩
    · rw [if_pos (List.eq_nil_of_length_eq_zero (by omega))] at hcv
      rw [hcv]
      exact PRet.gen (y := .agg (Trm.mk 4 t.n ov [X]).cells) (Γ' := cvG b r L (nx + (t.t[0]'(by omega)).fr L.contains)) TrmOf.wk ⟨rfl, rfl⟩
end Go.Cb
namespace Go.Cb
open Go.Proofs
set_option maxRecDepth 100000
set_option maxHeartbeats 4000000
theorem backL_get {l : List Int} {k : Nat} {ys : List PV} (h : (backL l)[k]? = some ys) : ∃ m, ∃ hm : m < l.length, k + 1 + m = l.length ∧ ys = [.int .i64 (m : Int), .int .i64 l[m]] := by
  unfold backL at h
  rw [List.getElem?_map] at h
  rcases Nat.lt_or_ge k l.length with hk | hk
  · rw [List.getElem?_range hk] at h
    simp only [Option.map_some, Option.some.injEq] at h
    refine ⟨l.length - 1 - k, by omega, by omega, ?_⟩
    have hlt : l.length - 1 - k < l.length := by omega
    rw [← h]
    simp [List.getD, hlt]
  · rw [List.getElem?_eq_none (by simpa using hk)] at h; cases h
theorem fix_c (b r : Nat) (L : List Int) (t : Trm) (hop : t.op = 9) (ha : t.v.any L.contains = true) (hlen : t.t.length = t.v.length + 1) (hf : ∀ x ∈ t.t, CvOk b r L x) (hb : t.bulk ≤ 1000000000) (k : Int) (h0 : 0 ≤ k) (hk : k + t.bulk ≤ 1000000000000000) :
    ACall Tryz.prog 94 [.ptr b 0, .agg t.cells] (cvG b r L k) (fun y Γ' => y = .agg (t.cv L.contains k).cells ∧ Γ' = cvG b r L (k + t.fr L.contains)) := by
  have hbe := t.bulk_eq
  refine ACall.of_body tt_ok Tryz.func94 rfl rfl (n := 112) rfl rfl ?_
  conv => whnf
  repeat ((first | ((first | (apply zY;intro hg) | apply zZ);first | exact stA | exact stB) | (refine zW ?_ ?_;exact gA) | refine zH rfl ?_ | refine zA ?_ | refine zI bA ?_ | refine zI rfl ?_ | refine zJ rfl rfl ?_ | refine zB ?_ | refine zK rfl ?_ | refine zL rfl ?_ | refine zC ?_ | (refine zO ?_ ?_ ?_;omega;omega) | (refine zP ?_ ?_ ?_;omega;omega) | refine zM rfl ?_ | (refine zQ ?_ ?_ ?_;omega;omega) | (refine zR ?_ ?_;omega) | (refine zI ?_ ?_;exact nA) | (refine zS ?_ ?_ ?_;omega;omega) | (refine zT ?_ ?_ ?_;omega;omega) | (refine zU ?_ ?_ ?_;omega;omega) | (refine zV ?_ ?_ ?_;omega;omega) | (refine yA ?_ rfl ?_ ?_;assumption;exact lA) | (refine yB ?_ rfl ?_ ?_;assumption;exact lA) | (refine yC rfl ?_ ?_;exact lA) | refine n0 ?_ | refine zN rfl rfl rfl ?_ | refine zD ?_ | refine zE ?_ | refine zF ?_ | refine PDraw.sT (some 38) rfl [4,9,10,11] [13,14,15] tt_ok mixed ?_ | refine PDraw.sT (some 52) rfl [4,12] [14,15,16] tt_ok mixed ?_ | refine PDraw.sP (some 83) rfl [] [11] tt_ok mixed ?_ | intro _);conv=>whnf)
  refine PCall.go (asgAllF_c b r L t.t k hf h0 (by omega) (by omega)) (WkT.refl _) ?_
  rintro _ _ ⟨rfl, rfl⟩
  have hcl := Trm.cvs_length L.contains t.t k
  have hfr : k + t.fr L.contains = k + Trm.frs L.contains t.t := by rw [t.fr_eq, if_neg (by omega)]; omega
  have hcv := t.cv_eq L.contains k
  rw [if_neg (by omega), if_neg (by omega), if_neg (by omega), if_neg (by omega), if_pos ⟨hop, ha⟩] at hcv
  rw [hfr, hcv]
  generalize Trm.cvs L.contains t.t k = l at *
  generalize k + Trm.frs L.contains t.t = k' at *
  conv => whnf
  repeat' (first | ((first | ((first | (apply zY;intro hg) | apply zZ);first | exact stA | exact stB) | (refine zW ?_ ?_;exact gA) | refine zH rfl ?_ | refine zA ?_ | refine zI bA ?_ | refine zI rfl ?_ | refine zJ rfl rfl ?_ | refine zB ?_ | refine zK rfl ?_ | refine zL rfl ?_ | refine zC ?_ | (refine zO ?_ ?_ ?_;omega;omega) | (refine zP ?_ ?_ ?_;omega;omega) | refine zM rfl ?_ | (refine zQ ?_ ?_ ?_;omega;omega) | (refine zR ?_ ?_;omega) | (refine zI ?_ ?_;exact nA) | (refine zS ?_ ?_ ?_;omega;omega) | (refine zT ?_ ?_ ?_;omega;omega) | (refine zU ?_ ?_ ?_;omega;omega) | (refine zV ?_ ?_ ?_;omega;omega) | (refine yA ?_ rfl ?_ ?_;assumption;exact lA) | (refine yB ?_ rfl ?_ ?_;assumption;exact lA) | (refine yC rfl ?_ ?_;exact lA) | refine n0 ?_ | refine zN rfl rfl rfl ?_ | refine zD ?_ | refine zE ?_ | refine zF ?_ | refine PDraw.sT (some 38) rfl [4,9,10,11] [13,14,15] tt_ok mixed ?_ | refine PDraw.sT (some 52) rfl [4,12] [14,15,16] tt_ok mixed ?_ | refine PDraw.sP (some 83) rfl [] [11] tt_ok mixed ?_ | intro _ | refine zG ?_);conv=>whnf) | (refine zX (fun hc => ?_) (fun hc => ?_)<;>(try simp only [SY] at hc)<;>first | omega | (conv=>whnf)))
  rename_i b1 b2 b3 hv1 bl bt bf hv2
  refine PLoop.ghost (Ghost.trans (Ghost.nil 1 3 _) (Ghost.trans (Ghost.nil 1 3 _) (Ghost.trans (Ghost.nil 4 26 _) (Ghost.trans (Ghost.nil 4 26 _)
    (Ghost.trans (Ghost.box (b := bt) (cs := [.int .i64 8, .int .i64 0, .nil, .nil]) (cs' := [.int .i64 8, .int .i64 0, .sl 1 (([] : List Int).map (PV.int .i64)) (some (nilTok 1 3)), .sl 4 (([] : List Trm).map Trm.pv) (some (nilTok 4 26))]) wA)
      (Ghost.box (b := bf) (cs := [.int .i64 9, .int .i64 0, .nil, .nil]) (cs' := [.int .i64 9, .int .i64 0, .sl 1 (([] : List Int).map (PV.int .i64)) (some (nilTok 1 3)), .sl 4 (([] : List Trm).map Trm.pv) (some (nilTok 4 26))]) wA)))))) ?_
  refine PLoop.over [9, 10, 27, 28, 29, 30, 31, 32, 33, 34, 35, 36, 37, 38, 39, 40, 41, 42, 43, 44, 45, 46, 47, 48, 49, 50, 51, 52, 53, 54, 55, 56, 57, 58, 59, 60, 61, 62, 63, 64, 65, 66, 67] (fun x : Nat × (List Int × Tok) × (List Trm × Tok) × (List Int × Tok) × (List Trm × Tok) => [(27, .int .i64 x.1)])
    (fun x : Nat × (List Int × Tok) × (List Trm × Tok) × (List Int × Tok) × (List Trm × Tok) => [.box bt [.int .i64 8, .int .i64 0, .sl 1 (x.2.1.1.map (PV.int .i64)) (some x.2.1.2), .sl 4 (x.2.2.1.1.map Trm.pv) (some x.2.2.1.2)], .tok x.2.1.2, .tok x.2.2.1.2, .box bf [.int .i64 9, .int .i64 0, .sl 1 (x.2.2.2.1.1.map (PV.int .i64)) (some x.2.2.2.1.2), .sl 4 (x.2.2.2.2.1.map Trm.pv) (some x.2.2.2.2.2)], .tok x.2.2.2.1.2, .tok x.2.2.2.2.2, .box bl [.sl 4 (l.map Trm.pv) none], .box b [.mp r, .int .i64 k'], .mp r (.int .i64) (setM L) [], .box b3 [.int .i64 0, .int .i64 0, .nil, .nil], .box b2 [.int .i64 t.op, .int .i64 t.n, .sl 1 (t.v.map (PV.int .i64)) none, .sl 4 (t.t.map Trm.pv) none], .box b1 [.ptr b 0]])
    (fun x => x.1 ≤ t.v.length ∧ (x.2.1.2.e = 3 ∧ x.2.2.1.2.e = 26 ∧ x.2.2.2.1.2.e = 3 ∧ x.2.2.2.2.2.e = 26) ∧ (x.2.1.1.length ≤ x.1 ∧ x.2.2.1.1.length ≤ x.1 ∧ x.2.2.2.1.1.length ≤ x.1 ∧ x.2.2.2.2.1.length ≤ x.1) ∧ x.2.1.1 ++ (t.v.drop x.1).filter L.contains = t.v.filter L.contains ∧ x.2.2.1.1 = x.2.1.1.map (fun _ => boxT (.mk 13 0 [] [])) ∧ x.2.2.2.1.1 ++ (t.v.drop x.1).filter (fun v => !L.contains v) = t.v.filter (fun v => !L.contains v) ∧ x.2.2.2.2.1 ++ fixT L.contains (t.v.drop x.1) (l.drop x.1) = fixT L.contains t.v l)
    (fun x => t.v.length - x.1) (0, ([], nilTok 1 3), ([], nilTok 4 26), ([], nilTok 1 3), ([], nilTok 4 26)) ⟨Nat.zero_le _, ⟨rfl, rfl, rfl, rfl⟩, ⟨by simp, by simp, by simp, by simp⟩, rfl, rfl, rfl, rfl⟩ wA ?_
  rintro ⟨i, ⟨lv, t1⟩, ⟨lt, t2⟩, ⟨fv, t3⟩, ⟨ft, t4⟩⟩ ⟨hi, ⟨ht1, ht2, ht3, ht4⟩, ⟨hl1, hl2, hl3, hl4⟩, hlv, hlt, hfv, hft⟩
  dsimp only at hi ht1 ht2 ht3 ht4 hl1 hl2 hl3 hl4 hlv hlt hfv hft ⊢
  conv => whnf
  repeat' (first | ((first | ((first | (apply zY;intro hg) | apply zZ);first | exact stA | exact stB | ((conv=>whnf);(repeat ((first | (refine zW ?_ ?_;exact gA) | refine pC (ref_c _) wR ?_ | refine pC (ref_c _) cA ?_ | refine pC (made_c 15) wR ?_ | refine pC (made_c 17) wR ?_ | refine pC (made_c 6) wR ?_ | intro _);conv=>whnf));first | exact pS | exact pL | exact pE)) | (refine zW ?_ ?_;exact gA) | refine zH rfl ?_ | refine zA ?_ | refine zI bA ?_ | refine zI rfl ?_ | refine zJ rfl rfl ?_ | refine zB ?_ | refine zK rfl ?_ | refine zL rfl ?_ | refine zC ?_ | (refine zO ?_ ?_ ?_;omega;omega) | (refine zP ?_ ?_ ?_;omega;omega) | refine zM rfl ?_ | (refine zQ ?_ ?_ ?_;omega;omega) | (refine zR ?_ ?_;omega) | (refine zI ?_ ?_;exact nA) | (refine zS ?_ ?_ ?_;omega;omega) | (refine zT ?_ ?_ ?_;omega;omega) | (refine zU ?_ ?_ ?_;omega;omega) | (refine zV ?_ ?_ ?_;omega;omega) | refine pC (ref_c _) wR ?_ | refine pC (ref_c _) cA ?_ | refine pC (made_c 15) wR ?_ | refine pC (made_c 17) wR ?_ | refine pC (made_c 6) wR ?_ | (refine yA ?_ rfl ?_ ?_;assumption;exact lA) | (refine yB ?_ rfl ?_ ?_;assumption;exact lA) | (refine yC rfl ?_ ?_;exact lA) | refine n0 ?_ | refine zN rfl rfl rfl ?_ | refine zD ?_ | refine zE ?_ | refine zF ?_ | refine PDraw.sT (some 38) rfl [4,9,10,11] [13,14,15] tt_ok mixed ?_ | refine PDraw.sT (some 52) rfl [4,12] [14,15,16] tt_ok mixed ?_ | refine PDraw.sP (some 83) rfl [] [11] tt_ok mixed ?_ | intro _ | refine zG ?_);conv=>whnf) | (refine zX (fun hc => ?_) (fun hc => ?_)<;>(try simp only [SY] at hc)<;>first | omega | (conv=>whnf)))
  · rename_i ta hta tb htb tc htc
    have h1 : i < t.v.length := by omega
    have h2 : i < l.length := by omega
    rw [drop_at h1] at hlv hfv hft
    rw [List.filter_cons, if_pos hc] at hlv
    rw [List.filter_cons, if_neg (by rw [hc]; decide)] at hfv
    rw [drop_at h2, fixT, if_pos hc] at hft
    exact loopTo (i + 1, (lv ++ [t.v[i]], ta), (lt ++ [Trm.mk 15 0 [] [Trm.mk 13 0 [] []]], tc), (fv, t3), (ft, t4)) ⟨by show i + 1 ≤ _; omega, ⟨hta, htc, ht3, ht4⟩, ⟨by simp; omega, by simp; omega, by dsimp only; omega, by dsimp only; omega⟩, by dsimp only; rw [List.append_assoc]; exact hlv, by dsimp only; rw [List.map_append, ← hlt]; rfl, hfv, hft⟩ (by show t.v.length - (i + 1) < t.v.length - i; omega) wA
  · rename_i ta hta tb htb
    have h1 : i < t.v.length := by omega
    have h2 : i < l.length := by omega
    have hc' : ¬ L.contains t.v[i] = true := by rw [hc]; simp
    rw [drop_at h1] at hlv hfv hft
    rw [List.filter_cons, if_neg hc'] at hlv
    rw [List.filter_cons, if_pos (by rw [hc]; rfl)] at hfv
    rw [drop_at h2, fixT, if_neg hc'] at hft
    exact loopTo (i + 1, (lv, t1), (lt, t2), (fv ++ [t.v[i]], ta), (ft ++ [l[i]], tb)) ⟨by show i + 1 ≤ _; omega, ⟨ht1, ht2, hta, htb⟩, ⟨by dsimp only; omega, by dsimp only; omega, by simp; omega, by simp; omega⟩, hlv, hlt, by dsimp only; rw [List.append_assoc]; exact hfv, by dsimp only; rw [List.append_assoc]; exact hft⟩ (by show t.v.length - (i + 1) < t.v.length - i; omega) wA
  rename_i bo
  rw [List.drop_of_length_le (by omega)] at hlv hfv hft
  rw [List.filter_nil, List.append_nil] at hlv hfv
  have e0 : fixT L.contains [] (l.drop i) = [] := by simp [fixT]
  rw [e0, List.append_nil] at hft
  have hnl : t.v.length < l.length := by omega
  generalize hO : l[t.v.length] = o0
  refine PCall.go (backward_c t.v) (WkT.refl _) ?_
  rintro _ _ ⟨bb, rfl, rfl⟩
  conv => whnf
  repeat ((first | ((first | (apply zY;intro hg) | apply zZ);first | exact stA | exact stB | ((conv=>whnf);(repeat ((first | (refine zW ?_ ?_;exact gA) | refine pC (ref_c _) wR ?_ | refine pC (ref_c _) cA ?_ | refine pC (made_c 15) wR ?_ | refine pC (made_c 17) wR ?_ | refine pC (made_c 6) wR ?_ | intro _);conv=>whnf));first | exact pS | exact pL | exact pE)) | (refine zW ?_ ?_;exact gA) | refine zH rfl ?_ | refine zA ?_ | refine zI bA ?_ | refine zI rfl ?_ | refine zJ rfl rfl ?_ | refine zB ?_ | refine zK rfl ?_ | refine zL rfl ?_ | refine zC ?_ | (refine zO ?_ ?_ ?_;omega;omega) | (refine zP ?_ ?_ ?_;omega;omega) | refine zM rfl ?_ | (refine zQ ?_ ?_ ?_;omega;omega) | (refine zR ?_ ?_;omega) | (refine zI ?_ ?_;exact nA) | (refine zS ?_ ?_ ?_;omega;omega) | (refine zT ?_ ?_ ?_;omega;omega) | (refine zU ?_ ?_ ?_;omega;omega) | (refine zV ?_ ?_ ?_;omega;omega) | refine pC (ref_c _) wR ?_ | refine pC (ref_c _) cA ?_ | refine pC (made_c 15) wR ?_ | refine pC (made_c 17) wR ?_ | refine pC (made_c 6) wR ?_ | (refine yA ?_ rfl ?_ ?_;assumption;exact lA) | (refine yB ?_ rfl ?_ ?_;assumption;exact lA) | (refine yC rfl ?_ ?_;exact lA) | refine n0 ?_ | refine zN rfl rfl rfl ?_ | refine zD ?_ | refine zE ?_ | refine zF ?_ | refine PDraw.sT (some 38) rfl [4,9,10,11] [13,14,15] tt_ok mixed ?_ | refine PDraw.sT (some 52) rfl [4,12] [14,15,16] tt_ok mixed ?_ | refine PDraw.sP (some 83) rfl [] [11] tt_ok mixed ?_ | intro _);conv=>whnf)
  refine PRange.go (backL t.v) (fun o : Trm => [.box bo [.int .i64 o.op, .int .i64 o.n, .sl 1 (o.v.map (PV.int .i64)) none, .sl 4 (o.t.map Trm.pv) none], .box bt [.int .i64 8, .int .i64 0, .sl 1 (lv.map (PV.int .i64)) (some t1), .sl 4 (lt.map Trm.pv) (some t2)], .tok t1, .tok t2, .box bf [.int .i64 9, .int .i64 0, .sl 1 (fv.map (PV.int .i64)) (some t3), .sl 4 (ft.map Trm.pv) (some t4)], .tok t3, .tok t4, .box bl [.sl 4 (l.map Trm.pv) none], .box b [.mp r, .int .i64 k'], .mp r (.int .i64) (setM L) [], .box b3 [.int .i64 0, .int .i64 0, .nil, .nil], .box b2 [.int .i64 t.op, .int .i64 t.n, .sl 1 (t.v.map (PV.int .i64)) none, .sl 4 (t.t.map Trm.pv) none], .box b1 [.ptr b 0]])
    (fun k o => k ≤ t.v.length ∧ o = fixO L.contains (t.v.drop (t.v.length - k)) (l.drop (t.v.length - k)) o0) (fun _ _ => False) o0 (backward1_c bb t.v (by omega)) ⟨Nat.zero_le _, by rw [Nat.sub_zero, List.drop_length]; simp [fixO]⟩ (hp := ⟨by rw [List.append_nil]; exact (List.perm_append_singleton _ _).symm⟩) (Γ1 := []) (by intro ys hy; obtain ⟨m, _, rfl⟩ := List.mem_map.1 hy; rfl) ?_ ?_ (fun _ _ _ h => h.elim)
  · rintro j ys o hk ⟨hj, ho⟩
    obtain ⟨m, hm, hjm, rfl⟩ := backL_get hk
    have hml : m < l.length := by omega
    have hd1 : t.v.length - j = m + 1 := by omega
    have hd2 : t.v.length - (j + 1) = m := by omega
    rw [hd1] at ho
    conv => whnf
    repeat' (first | ((first | ((first | (apply zY;intro hg) | apply zZ);first | exact stA | exact stB | ((conv=>whnf);(repeat ((first | (refine zW ?_ ?_;exact gA) | refine pC (ref_c _) wR ?_ | refine pC (ref_c _) cA ?_ | refine pC (made_c 15) wR ?_ | refine pC (made_c 17) wR ?_ | refine pC (made_c 6) wR ?_ | intro _);conv=>whnf));first | exact pS | exact pL | exact pE)) | (refine zW ?_ ?_;exact gA) | refine zH rfl ?_ | refine zA ?_ | refine zI bA ?_ | refine zI rfl ?_ | refine zJ rfl rfl ?_ | refine zB ?_ | refine zK rfl ?_ | refine zL rfl ?_ | refine zC ?_ | (refine zO ?_ ?_ ?_;omega;omega) | (refine zP ?_ ?_ ?_;omega;omega) | refine zM rfl ?_ | (refine zQ ?_ ?_ ?_;omega;omega) | (refine zR ?_ ?_;omega) | (refine zI ?_ ?_;exact nA) | (refine zS ?_ ?_ ?_;omega;omega) | (refine zT ?_ ?_ ?_;omega;omega) | (refine zU ?_ ?_ ?_;omega;omega) | (refine zV ?_ ?_ ?_;omega;omega) | refine pC (ref_c _) wR ?_ | refine pC (ref_c _) cA ?_ | refine pC (made_c 15) wR ?_ | refine pC (made_c 17) wR ?_ | refine pC (made_c 6) wR ?_ | (refine yA ?_ rfl ?_ ?_;assumption;exact lA) | (refine yB ?_ rfl ?_ ?_;assumption;exact lA) | (refine yC rfl ?_ ?_;exact lA) | refine n0 ?_ | refine zN rfl rfl rfl ?_ | refine zD ?_ | refine zE ?_ | refine zF ?_ | refine PDraw.sT (some 38) rfl [4,9,10,11] [13,14,15] tt_ok mixed ?_ | refine PDraw.sT (some 52) rfl [4,12] [14,15,16] tt_ok mixed ?_ | refine PDraw.sP (some 83) rfl [] [11] tt_ok mixed ?_ | intro _ | refine zG ?_);conv=>whnf) | (refine zX (fun hc => ?_) (fun hc => ?_)<;>(try simp only [SY] at hc)<;>first | omega | (conv=>whnf)))
    refine ⟨rfl, ?_⟩
    conv => whnf
    repeat' (first | ((first | ((first | (apply zY;intro hg) | apply zZ);first | exact stA | exact stB | ((conv=>whnf);(repeat ((first | (refine zW ?_ ?_;exact gA) | refine pC (ref_c _) wR ?_ | refine pC (ref_c _) cA ?_ | refine pC (made_c 15) wR ?_ | refine pC (made_c 17) wR ?_ | refine pC (made_c 6) wR ?_ | intro _);conv=>whnf));first | exact pS | exact pL | exact pE)) | (refine zW ?_ ?_;exact gA) | refine zH rfl ?_ | refine zA ?_ | refine zI bA ?_ | refine zI rfl ?_ | refine zJ rfl rfl ?_ | refine zB ?_ | refine zK rfl ?_ | refine zL rfl ?_ | refine zC ?_ | (refine zO ?_ ?_ ?_;omega;omega) | (refine zP ?_ ?_ ?_;omega;omega) | refine zM rfl ?_ | (refine zQ ?_ ?_ ?_;omega;omega) | (refine zR ?_ ?_;omega) | (refine zI ?_ ?_;exact nA) | (refine zS ?_ ?_ ?_;omega;omega) | (refine zT ?_ ?_ ?_;omega;omega) | (refine zU ?_ ?_ ?_;omega;omega) | (refine zV ?_ ?_ ?_;omega;omega) | refine pC (ref_c _) wR ?_ | refine pC (ref_c _) cA ?_ | refine pC (made_c 15) wR ?_ | refine pC (made_c 17) wR ?_ | refine pC (made_c 6) wR ?_ | (refine yA ?_ rfl ?_ ?_;assumption;exact lA) | (refine yB ?_ rfl ?_ ?_;assumption;exact lA) | (refine yC rfl ?_ ?_;exact lA) | refine n0 ?_ | refine zN rfl rfl rfl ?_ | refine zD ?_ | refine zE ?_ | refine zF ?_ | refine PDraw.sT (some 38) rfl [4,9,10,11] [13,14,15] tt_ok mixed ?_ | refine PDraw.sT (some 52) rfl [4,12] [14,15,16] tt_ok mixed ?_ | refine PDraw.sP (some 83) rfl [] [11] tt_ok mixed ?_ | intro _ | refine zG ?_);conv=>whnf) | (refine zX (fun hc => ?_) (fun hc => ?_)<;>(try simp only [SY] at hc)<;>first | omega | (conv=>whnf)))
    · refine ⟨rfl, _, _, Weak.of (WkT.refl _) (Ghost.refl _), Trm.mk 6 0 [] [Trm.mk 17 0 [] [refT t.v[m], l[m]], o], ⟨by omega, ?_⟩, rfl⟩
      rw [hd2, drop_at hm, drop_at hml, fixO, if_pos hc, ← ho]
    · refine ⟨rfl, _, _, Weak.of (WkT.refl _) (Ghost.refl _), o, ⟨by omega, ?_⟩, rfl⟩
      rw [hd2, drop_at hm, drop_at hml, fixO, if_neg (by rw [hc]; simp), ← ho]
  · rintro bd o ⟨hle, ho⟩
    have hbl : (backL t.v).length = t.v.length := by simp [backL]
    rw [hbl, Nat.sub_self, List.drop_zero, List.drop_zero] at ho
    have hgd : l.getD t.v.length (refT 0) = o0 := by rw [← hO]; simp [List.getD, hnl]
    have hR : fixR L.contains t.v l = Trm.mk 8 0 lv (lt ++ [if fv = [] then o else Trm.mk 9 0 fv (ft ++ [o])]) := by
      unfold fixR fixE
      simp only [hgd]
      rw [← ho, ← hlv, ← hfv, ← hft, hlt]
    rw [hR]
    conv => whnf
    repeat' (first | ((first | ((first | (apply zY;intro hg) | apply zZ);first | exact stA | exact stB | ((conv=>whnf);(repeat ((first | (refine zW ?_ ?_;exact gA) | refine pC (ref_c _) wR ?_ | refine pC (ref_c _) cA ?_ | refine pC (made_c 15) wR ?_ | refine pC (made_c 17) wR ?_ | refine pC (made_c 6) wR ?_ | intro _);conv=>whnf));first | exact pS | exact pL | exact pE)) | (refine zW ?_ ?_;exact gA) | refine zH rfl ?_ | refine zA ?_ | refine zI bA ?_ | refine zI rfl ?_ | refine zJ rfl rfl ?_ | refine zB ?_ | refine zK rfl ?_ | refine zL rfl ?_ | refine zC ?_ | (refine zO ?_ ?_ ?_;omega;omega) | (refine zP ?_ ?_ ?_;omega;omega) | refine zM rfl ?_ | (refine zQ ?_ ?_ ?_;omega;omega) | (refine zR ?_ ?_;omega) | (refine zI ?_ ?_;exact nA) | (refine zS ?_ ?_ ?_;omega;omega) | (refine zT ?_ ?_ ?_;omega;omega) | (refine zU ?_ ?_ ?_;omega;omega) | (refine zV ?_ ?_ ?_;omega;omega) | refine pC (ref_c _) wR ?_ | refine pC (ref_c _) cA ?_ | refine pC (made_c 15) wR ?_ | refine pC (made_c 17) wR ?_ | refine pC (made_c 6) wR ?_ | (refine yA ?_ rfl ?_ ?_;assumption;exact lA) | (refine yB ?_ rfl ?_ ?_;assumption;exact lA) | (refine yC rfl ?_ ?_;exact lA) | refine n0 ?_ | refine zN rfl rfl rfl ?_ | refine zD ?_ | refine zE ?_ | refine zF ?_ | refine PDraw.sT (some 38) rfl [4,9,10,11] [13,14,15] tt_ok mixed ?_ | refine PDraw.sT (some 52) rfl [4,12] [14,15,16] tt_ok mixed ?_ | refine PDraw.sP (some 83) rfl [] [11] tt_ok mixed ?_ | intro _ | refine zG ?_);conv=>whnf) | (refine zX (fun hc => ?_) (fun hc => ?_)<;>(try simp only [SY] at hc)<;>first | omega | (conv=>whnf)))
    · refine ⟨⟨[], [], [_, _], _, rfl, ?_⟩⟩
      simp only [List.cons_append, List.nil_append]
      conv => whnf
      repeat ((first | ((first | (apply zY;intro hg) | apply zZ);first | exact stA | exact stB | ((conv=>whnf);(repeat ((first | (refine zW ?_ ?_;exact gA) | refine pC (ref_c _) wR ?_ | refine pC (ref_c _) cA ?_ | refine pC (made_c 15) wR ?_ | refine pC (made_c 17) wR ?_ | refine pC (made_c 6) wR ?_ | intro _);conv=>whnf));first | exact pS | exact pL | exact pE)) | (refine zW ?_ ?_;exact gA) | refine zH rfl ?_ | refine zA ?_ | refine zI bA ?_ | refine zI rfl ?_ | refine zJ rfl rfl ?_ | refine zB ?_ | refine zK rfl ?_ | refine zL rfl ?_ | refine zC ?_ | (refine zO ?_ ?_ ?_;omega;omega) | (refine zP ?_ ?_ ?_;omega;omega) | refine zM rfl ?_ | (refine zQ ?_ ?_ ?_;omega;omega) | (refine zR ?_ ?_;omega) | (refine zI ?_ ?_;exact nA) | (refine zS ?_ ?_ ?_;omega;omega) | (refine zT ?_ ?_ ?_;omega;omega) | (refine zU ?_ ?_ ?_;omega;omega) | (refine zV ?_ ?_ ?_;omega;omega) | refine pC (ref_c _) wR ?_ | refine pC (ref_c _) cA ?_ | refine pC (made_c 15) wR ?_ | refine pC (made_c 17) wR ?_ | refine pC (made_c 6) wR ?_ | (refine yA ?_ rfl ?_ ?_;assumption;exact lA) | (refine yB ?_ rfl ?_ ?_;assumption;exact lA) | (refine yC rfl ?_ ?_;exact lA) | refine n0 ?_ | refine zN rfl rfl rfl ?_ | refine zD ?_ | refine zE ?_ | refine zF ?_ | refine PDraw.sT (some 38) rfl [4,9,10,11] [13,14,15] tt_ok mixed ?_ | refine PDraw.sT (some 52) rfl [4,12] [14,15,16] tt_ok mixed ?_ | refine PDraw.sP (some 83) rfl [] [11] tt_ok mixed ?_ | intro _);conv=>whnf)
      rw [if_neg (by intro h; rw [h] at hc; simp at hc)]
      exact PRet.gen (y := .agg (Trm.mk 8 0 lv (lt ++ [Trm.mk 9 0 fv (ft ++ [o])])).cells) (Γ' := cvG b r L k') TrmOf.wk (And.intro rfl rfl)
    · refine ⟨⟨[], [], [_], _, rfl, ?_⟩⟩
      simp only [List.cons_append, List.nil_append]
      conv => whnf
      repeat ((first | ((first | (apply zY;intro hg) | apply zZ);first | exact stA | exact stB | ((conv=>whnf);(repeat ((first | (refine zW ?_ ?_;exact gA) | refine pC (ref_c _) wR ?_ | refine pC (ref_c _) cA ?_ | refine pC (made_c 15) wR ?_ | refine pC (made_c 17) wR ?_ | refine pC (made_c 6) wR ?_ | intro _);conv=>whnf));first | exact pS | exact pL | exact pE)) | (refine zW ?_ ?_;exact gA) | refine zH rfl ?_ | refine zA ?_ | refine zI bA ?_ | refine zI rfl ?_ | refine zJ rfl rfl ?_ | refine zB ?_ | refine zK rfl ?_ | refine zL rfl ?_ | refine zC ?_ | (refine zO ?_ ?_ ?_;omega;omega) | (refine zP ?_ ?_ ?_;omega;omega) | refine zM rfl ?_ | (refine zQ ?_ ?_ ?_;omega;omega) | (refine zR ?_ ?_;omega) | (refine zI ?_ ?_;exact nA) | (refine zS ?_ ?_ ?_;omega;omega) | (refine zT ?_ ?_ ?_;omega;omega) | (refine zU ?_ ?_ ?_;omega;omega) | (refine zV ?_ ?_ ?_;omega;omega) | refine pC (ref_c _) wR ?_ | refine pC (ref_c _) cA ?_ | refine pC (made_c 15) wR ?_ | refine pC (made_c 17) wR ?_ | refine pC (made_c 6) wR ?_ | (refine yA ?_ rfl ?_ ?_;assumption;exact lA) | (refine yB ?_ rfl ?_ ?_;assumption;exact lA) | (refine yC rfl ?_ ?_;exact lA) | refine n0 ?_ | refine zN rfl rfl rfl ?_ | refine zD ?_ | refine zE ?_ | refine zF ?_ | refine PDraw.sT (some 38) rfl [4,9,10,11] [13,14,15] tt_ok mixed ?_ | refine PDraw.sT (some 52) rfl [4,12] [14,15,16] tt_ok mixed ?_ | refine PDraw.sP (some 83) rfl [] [11] tt_ok mixed ?_ | intro _);conv=>whnf)
      rw [if_pos (List.eq_nil_of_length_eq_zero (by omega))]
      exact PRet.gen (y := .agg (Trm.mk 8 0 lv (lt ++ [o])).cells) (Γ' := cvG b r L k') TrmOf.wk (And.intro rfl rfl)
end Go.Cb
namespace Go.Cb
open Go.Proofs
set_option maxRecDepth 100000
set_option maxHeartbeats 4000000
theorem PRet.frz {t : Tok} {es : List PV} {x y : PV} {Γ Γ1 Γ' Γ2 : List Ent} {Q : PV → List Ent → Prop} [hp : PickE Γ (.row t es) Γ1] (h : WkF t es x y) [hq : PickL (.tok t :: Γ1) Γ' Γ2] (q : Q y Γ') : PRet x Γ Q :=
  ⟨y, Γ', Shift.trans (Shift.freezeRow (hp := hp) h) (Shift.wk (Wk.refl _) hq.p), q⟩
theorem boxAll_len (A : Int → Bool) : ∀ (vs : List Int) (l : List Trm), (boxAll A vs l).length = l.length
  | [], l => by simp [boxAll]
  | _ :: _, [] => by simp [boxAll]
  | v :: vs, x :: l => by rw [boxAll, List.length_cons, List.length_cons, boxAll_len A vs l]
theorem boxAll_get (A : Int → Bool) : ∀ (vs : List Int) (l : List Trm) (i : Nat) (h : i < vs.length) (h2 : i < l.length), (boxAll A vs l)[i]'(by rw [boxAll_len]; exact h2) = if A vs[i] = true then boxT l[i] else l[i]
  | v :: vs, x :: l, 0, _, _ => by simp [boxAll]
  | v :: vs, x :: l, i + 1, h, h2 => by
    simp only [boxAll, List.getElem_cons_succ]
    exact boxAll_get A vs l i (by simpa using h) (by simpa using h2)
theorem boxAll_drop (A : Int → Bool) : ∀ (vs : List Int) (l : List Trm), (boxAll A vs l).drop vs.length = l.drop vs.length
  | [], l => by simp [boxAll]
  | _ :: _, [] => by simp [boxAll]
  | v :: vs, x :: l => by rw [boxAll, List.length_cons, List.drop_succ_cons, List.drop_succ_cons, boxAll_drop A vs l]
theorem mixed_set {l m : List Trm} {i : Nat} (h : m.length = l.length) (hi : i < l.length) (y : Trm) (hy : y = m[i]'(by omega)) : (m.take i ++ l.drop i).set i y = m.take (i + 1) ++ l.drop (i + 1) := by
  have hl : (m.take i).length = i := by rw [List.length_take]; omega
  rw [List.set_append_right _ _ (by omega), hl, Nat.sub_self, drop_at hi, List.set_cons_zero, List.take_succ_eq_append_getElem (by omega), hy, List.append_assoc]
  rfl
theorem cvOk (b r : Nat) (L : List Int) (t : Trm) : t.shp → t.bulk ≤ 1000000000 → CvOk b r L t := by
  induction t using Trm.ind with
  | h t ih =>
    intro hsp hb k h0 hk
    have hbe := t.bulk_eq
    have hbs := Trm.bulks_length t.t
    rw [Trm.shp_eq] at hsp
    obtain ⟨⟨s1, s2, s3, s4⟩, hps⟩ := hsp
    have hf : ∀ x ∈ t.t, CvOk b r L x := fun x hx => ih x hx (Trm.shps_mem hps x hx) (by have := Trm.bulks_mem hx; omega)
    have hfr := t.fr_eq L.contains
    have one : t.t.length = 1 → ∀ hl : 0 < t.t.length, Trm.cvs L.contains t.t k = [(t.t[0]).cv L.contains k] ∧ Trm.frs L.contains t.t = (t.t[0]).fr L.contains := by
      intro h1 hl
      obtain ⟨x, hx⟩ : ∃ x, t.t = [x] := List.length_eq_one_iff.1 h1
      simp only [hx, Trm.cvs, Trm.frs, List.getElem_cons_zero]
      exact ⟨trivial, by omega⟩
    refine ACall.of_body tt_ok Tryz.func56 rfl rfl (n := 119) rfl rfl ?_
    conv => whnf
    repeat ((first | ((first | (apply zY;intro hg) | apply zZ);first | exact stA | exact stB | ((conv=>whnf);(repeat ((first | (refine zW ?_ ?_;exact gA) | refine zA ?_ | refine zH rfl ?_ | refine zB ?_ | (refine yE ?_ ?_ ?_ ?_;assumption;omega;omega) | (refine yF ?_ rfl ?_;omega) | intro _);conv=>whnf));first | exact pS | exact pL | exact pE)) | (refine zW ?_ ?_;exact gA) | refine zH rfl ?_ | refine zA ?_ | refine zI bA ?_ | refine zI rfl ?_ | refine zJ rfl rfl ?_ | refine zB ?_ | refine zK rfl ?_ | refine zL rfl ?_ | refine zC ?_ | (refine zO ?_ ?_ ?_;omega;omega) | (refine zP ?_ ?_ ?_;omega;omega) | refine zM rfl ?_ | (refine zQ ?_ ?_ ?_;omega;omega) | (refine zR ?_ ?_;omega) | (refine zI ?_ ?_;exact nA) | (refine zS ?_ ?_ ?_;omega;omega) | (refine zT ?_ ?_ ?_;omega;omega) | (refine zU ?_ ?_ ?_;omega;omega) | (refine zV ?_ ?_ ?_;omega;omega) | (refine yA ?_ rfl ?_ ?_;assumption;exact lA) | (refine yB ?_ rfl ?_ ?_;assumption;exact lA) | (refine yC rfl ?_ ?_;exact lA) | (refine yD ?_ ?_ rfl ?_ ?_;assumption;assumption;exact lA) | (refine yE ?_ ?_ ?_ ?_;assumption;omega;omega) | (refine yF ?_ rfl ?_;omega) | (refine yG ?_ rfl rfl rfl ?_;omega) | refine n0 ?_ | refine zN rfl rfl rfl ?_ | refine zD ?_ | refine zE ?_ | refine zF ?_ | refine PDraw.sP (some 12) rfl [] [] tt_ok mixed ?_ | refine PDraw.sP (some 31) rfl [] [8,9,10,11] tt_ok mixed ?_ | refine PDraw.sP (some 46) rfl [] [8,9,10,11] tt_ok mixed ?_ | refine PDraw.sP (some 106) rfl [] [11] tt_ok mixed ?_ | intro _);conv=>whnf)
    rename_i b1 b2 b3
    have hcf := containsFuncInt_c 93 [.ptr b1 0] (.box b1 [.ptr b 0] :: cvG b r L k) L.contains t.v (fun x _ => assignedF_c b r b1 L k x)
    conv => whnf
    repeat' (first | ((first | ((first | (apply zY;intro hg) | apply zZ);first | exact stA | exact stB | ((conv=>whnf);(repeat ((first | (refine zW ?_ ?_;exact gA) | refine pC (ref_c _) wR ?_ | refine pC (ref_c _) cA ?_ | refine pC (made_c 16) wR ?_ | refine pC (made_c 17) wR ?_ | refine pC (made_c 18) wR ?_ | refine pC (cloneInt_c t.v (by omega)) wR ?_ | refine PCall.read (hcf) wR ?_ | refine zA ?_ | refine zH rfl ?_ | refine zB ?_ | (refine yE ?_ ?_ ?_ ?_;assumption;omega;omega) | (refine yF ?_ rfl ?_;omega) | intro _);conv=>whnf));first | exact pS | exact pL | exact pE)) | (refine zW ?_ ?_;exact gA) | refine zH rfl ?_ | refine zA ?_ | refine zI bA ?_ | refine zI rfl ?_ | refine zJ rfl rfl ?_ | refine zB ?_ | refine zK rfl ?_ | refine zL rfl ?_ | refine zC ?_ | (refine zO ?_ ?_ ?_;omega;omega) | (refine zP ?_ ?_ ?_;omega;omega) | refine zM rfl ?_ | (refine zQ ?_ ?_ ?_;omega;omega) | (refine zR ?_ ?_;omega) | (refine zI ?_ ?_;exact nA) | (refine zS ?_ ?_ ?_;omega;omega) | (refine zT ?_ ?_ ?_;omega;omega) | (refine zU ?_ ?_ ?_;omega;omega) | (refine zV ?_ ?_ ?_;omega;omega) | refine pC (ref_c _) wR ?_ | refine pC (ref_c _) cA ?_ | refine pC (made_c 16) wR ?_ | refine pC (made_c 17) wR ?_ | refine pC (made_c 18) wR ?_ | refine pC (cloneInt_c t.v (by omega)) wR ?_ | refine PCall.read (hcf) wR ?_ | (refine yA ?_ rfl ?_ ?_;assumption;exact lA) | (refine yB ?_ rfl ?_ ?_;assumption;exact lA) | (refine yC rfl ?_ ?_;exact lA) | (refine yD ?_ ?_ rfl ?_ ?_;assumption;assumption;exact lA) | (refine yE ?_ ?_ ?_ ?_;assumption;omega;omega) | (refine yF ?_ rfl ?_;omega) | (refine yG ?_ rfl rfl rfl ?_;omega) | refine n0 ?_ | refine zN rfl rfl rfl ?_ | refine zD ?_ | refine zE ?_ | refine zF ?_ | refine PDraw.sP (some 12) rfl [] [] tt_ok mixed ?_ | refine PDraw.sP (some 31) rfl [] [8,9,10,11] tt_ok mixed ?_ | refine PDraw.sP (some 46) rfl [] [8,9,10,11] tt_ok mixed ?_ | refine PDraw.sP (some 106) rfl [] [11] tt_ok mixed ?_ | intro _ | refine zG ?_);conv=>whnf) | (refine zX (fun hc => ?_) (fun hc => ?_)<;>(try simp only [SY] at hc)<;>first | omega | (conv=>whnf)))
    · have e1 : t.cv L.contains k = Trm.mk 16 0 [] [t] := by rw [t.cv_eq, if_pos hc]
      have e2 : t.fr L.contains = 0 := by rw [hfr, if_neg (by omega), (s1 hc.1).2, Trm.frs]; rfl
      rw [e1, e2, Int.add_zero]
      exact PRet.gen (y := .agg (Trm.mk 16 0 [] [t]).cells) (Γ' := cvG b r L k) (Wk.refl _) (And.intro rfl rfl)
    · have h1 := s2 (.inl hc)
      have hm : t.t[0]'(by omega) ∈ t.t := List.getElem_mem _
      obtain ⟨o1, o2⟩ := one h1 (by omega)
      refine PCall.go (hf _ hm k h0 (by have := Trm.bulks_mem hm; omega)) (WkT.refl _) ?_
      rintro _ _ ⟨rfl, rfl⟩
      have e1 : t.cv L.contains k = Trm.mk 17 0 [] [refT t.n, (t.t[0]'(by omega)).cv L.contains k] := by rw [t.cv_eq, if_neg (by omega), if_pos hc, o1]
      have e2 : t.fr L.contains = (t.t[0]'(by omega)).fr L.contains := by rw [hfr, if_neg (by omega), o2]; omega
      rw [e1, e2]
      conv => whnf
      repeat' (first | ((first | ((first | (apply zY;intro hg) | apply zZ);first | exact stA | exact stB | ((conv=>whnf);(repeat ((first | (refine zW ?_ ?_;exact gA) | refine pC (ref_c _) wR ?_ | refine pC (ref_c _) cA ?_ | refine pC (made_c 16) wR ?_ | refine pC (made_c 17) wR ?_ | refine pC (made_c 18) wR ?_ | refine pC (cloneInt_c t.v (by omega)) wR ?_ | refine PCall.read (hcf) wR ?_ | refine zA ?_ | refine zH rfl ?_ | refine zB ?_ | (refine yE ?_ ?_ ?_ ?_;assumption;omega;omega) | (refine yF ?_ rfl ?_;omega) | intro _);conv=>whnf));first | exact pS | exact pL | exact pE)) | (refine zW ?_ ?_;exact gA) | refine zH rfl ?_ | refine zA ?_ | refine zI bA ?_ | refine zI rfl ?_ | refine zJ rfl rfl ?_ | refine zB ?_ | refine zK rfl ?_ | refine zL rfl ?_ | refine zC ?_ | (refine zO ?_ ?_ ?_;omega;omega) | (refine zP ?_ ?_ ?_;omega;omega) | refine zM rfl ?_ | (refine zQ ?_ ?_ ?_;omega;omega) | (refine zR ?_ ?_;omega) | (refine zI ?_ ?_;exact nA) | (refine zS ?_ ?_ ?_;omega;omega) | (refine zT ?_ ?_ ?_;omega;omega) | (refine zU ?_ ?_ ?_;omega;omega) | (refine zV ?_ ?_ ?_;omega;omega) | refine pC (ref_c _) wR ?_ | refine pC (ref_c _) cA ?_ | refine pC (made_c 16) wR ?_ | refine pC (made_c 17) wR ?_ | refine pC (made_c 18) wR ?_ | refine pC (cloneInt_c t.v (by omega)) wR ?_ | refine PCall.read (hcf) wR ?_ | (refine yA ?_ rfl ?_ ?_;assumption;exact lA) | (refine yB ?_ rfl ?_ ?_;assumption;exact lA) | (refine yC rfl ?_ ?_;exact lA) | (refine yD ?_ ?_ rfl ?_ ?_;assumption;assumption;exact lA) | (refine yE ?_ ?_ ?_ ?_;assumption;omega;omega) | (refine yF ?_ rfl ?_;omega) | (refine yG ?_ rfl rfl rfl ?_;omega) | refine n0 ?_ | refine zN rfl rfl rfl ?_ | refine zD ?_ | refine zE ?_ | refine zF ?_ | refine PDraw.sP (some 12) rfl [] [] tt_ok mixed ?_ | refine PDraw.sP (some 31) rfl [] [8,9,10,11] tt_ok mixed ?_ | refine PDraw.sP (some 46) rfl [] [8,9,10,11] tt_ok mixed ?_ | refine PDraw.sP (some 106) rfl [] [11] tt_ok mixed ?_ | intro _ | refine zG ?_);conv=>whnf) | (refine zX (fun hc => ?_) (fun hc => ?_)<;>(try simp only [SY] at hc)<;>first | omega | (conv=>whnf)))
      exact PRet.gen (y := .agg (Trm.mk 17 0 [] [refT t.n, (t.t[0]'(by omega)).cv L.contains k]).cells) (Γ' := cvG b r L _) (Wk.refl _) (And.intro rfl rfl)
    · have h1 := s2 (.inr (.inl hc))
      have hm : t.t[0]'(by omega) ∈ t.t := List.getElem_mem _
      obtain ⟨o1, o2⟩ := one h1 (by omega)
      refine PCall.go (hf _ hm k h0 (by have := Trm.bulks_mem hm; omega)) (WkT.refl _) ?_
      rintro _ _ ⟨rfl, rfl⟩
      have e1 : t.cv L.contains k = Trm.mk 18 0 [] [refT t.n, (t.t[0]'(by omega)).cv L.contains k] := by rw [t.cv_eq, if_neg (by omega), if_neg (by omega), if_pos hc, o1]
      have e2 : t.fr L.contains = (t.t[0]'(by omega)).fr L.contains := by rw [hfr, if_neg (by omega), o2]; omega
      rw [e1, e2]
      conv => whnf
      repeat' (first | ((first | ((first | (apply zY;intro hg) | apply zZ);first | exact stA | exact stB | ((conv=>whnf);(repeat ((first | (refine zW ?_ ?_;exact gA) | refine pC (ref_c _) wR ?_ | refine pC (ref_c _) cA ?_ | refine pC (made_c 16) wR ?_ | refine pC (made_c 17) wR ?_ | refine pC (made_c 18) wR ?_ | refine pC (cloneInt_c t.v (by omega)) wR ?_ | refine PCall.read (hcf) wR ?_ | refine zA ?_ | refine zH rfl ?_ | refine zB ?_ | (refine yE ?_ ?_ ?_ ?_;assumption;omega;omega) | (refine yF ?_ rfl ?_;omega) | intro _);conv=>whnf));first | exact pS | exact pL | exact pE)) | (refine zW ?_ ?_;exact gA) | refine zH rfl ?_ | refine zA ?_ | refine zI bA ?_ | refine zI rfl ?_ | refine zJ rfl rfl ?_ | refine zB ?_ | refine zK rfl ?_ | refine zL rfl ?_ | refine zC ?_ | (refine zO ?_ ?_ ?_;omega;omega) | (refine zP ?_ ?_ ?_;omega;omega) | refine zM rfl ?_ | (refine zQ ?_ ?_ ?_;omega;omega) | (refine zR ?_ ?_;omega) | (refine zI ?_ ?_;exact nA) | (refine zS ?_ ?_ ?_;omega;omega) | (refine zT ?_ ?_ ?_;omega;omega) | (refine zU ?_ ?_ ?_;omega;omega) | (refine zV ?_ ?_ ?_;omega;omega) | refine pC (ref_c _) wR ?_ | refine pC (ref_c _) cA ?_ | refine pC (made_c 16) wR ?_ | refine pC (made_c 17) wR ?_ | refine pC (made_c 18) wR ?_ | refine pC (cloneInt_c t.v (by omega)) wR ?_ | refine PCall.read (hcf) wR ?_ | (refine yA ?_ rfl ?_ ?_;assumption;exact lA) | (refine yB ?_ rfl ?_ ?_;assumption;exact lA) | (refine yC rfl ?_ ?_;exact lA) | (refine yD ?_ ?_ rfl ?_ ?_;assumption;assumption;exact lA) | (refine yE ?_ ?_ ?_ ?_;assumption;omega;omega) | (refine yF ?_ rfl ?_;omega) | (refine yG ?_ rfl rfl rfl ?_;omega) | refine n0 ?_ | refine zN rfl rfl rfl ?_ | refine zD ?_ | refine zE ?_ | refine zF ?_ | refine PDraw.sP (some 12) rfl [] [] tt_ok mixed ?_ | refine PDraw.sP (some 31) rfl [] [8,9,10,11] tt_ok mixed ?_ | refine PDraw.sP (some 46) rfl [] [8,9,10,11] tt_ok mixed ?_ | refine PDraw.sP (some 106) rfl [] [11] tt_ok mixed ?_ | intro _ | refine zG ?_);conv=>whnf) | (refine zX (fun hc => ?_) (fun hc => ?_)<;>(try simp only [SY] at hc)<;>first | omega | (conv=>whnf)))
      exact PRet.gen (y := .agg (Trm.mk 18 0 [] [refT t.n, (t.t[0]'(by omega)).cv L.contains k]).cells) (Γ' := cvG b r L _) (Wk.refl _) (And.intro rfl rfl)
    · refine PCall.go (lam_c b r L t hc (s2 (.inr (.inr hc))) hf hb k h0 hk) (WkT.refl _) ?_
      rintro _ _ ⟨rfl, rfl⟩
      conv => whnf
      repeat' (first | ((first | ((first | (apply zY;intro hg) | apply zZ);first | exact stA | exact stB | ((conv=>whnf);(repeat ((first | (refine zW ?_ ?_;exact gA) | refine pC (ref_c _) wR ?_ | refine pC (ref_c _) cA ?_ | refine pC (made_c 16) wR ?_ | refine pC (made_c 17) wR ?_ | refine pC (made_c 18) wR ?_ | refine pC (cloneInt_c t.v (by omega)) wR ?_ | refine PCall.read (hcf) wR ?_ | refine zA ?_ | refine zH rfl ?_ | refine zB ?_ | (refine yE ?_ ?_ ?_ ?_;assumption;omega;omega) | (refine yF ?_ rfl ?_;omega) | intro _);conv=>whnf));first | exact pS | exact pL | exact pE)) | (refine zW ?_ ?_;exact gA) | refine zH rfl ?_ | refine zA ?_ | refine zI bA ?_ | refine zI rfl ?_ | refine zJ rfl rfl ?_ | refine zB ?_ | refine zK rfl ?_ | refine zL rfl ?_ | refine zC ?_ | (refine zO ?_ ?_ ?_;omega;omega) | (refine zP ?_ ?_ ?_;omega;omega) | refine zM rfl ?_ | (refine zQ ?_ ?_ ?_;omega;omega) | (refine zR ?_ ?_;omega) | (refine zI ?_ ?_;exact nA) | (refine zS ?_ ?_ ?_;omega;omega) | (refine zT ?_ ?_ ?_;omega;omega) | (refine zU ?_ ?_ ?_;omega;omega) | (refine zV ?_ ?_ ?_;omega;omega) | refine pC (ref_c _) wR ?_ | refine pC (ref_c _) cA ?_ | refine pC (made_c 16) wR ?_ | refine pC (made_c 17) wR ?_ | refine pC (made_c 18) wR ?_ | refine pC (cloneInt_c t.v (by omega)) wR ?_ | refine PCall.read (hcf) wR ?_ | (refine yA ?_ rfl ?_ ?_;assumption;exact lA) | (refine yB ?_ rfl ?_ ?_;assumption;exact lA) | (refine yC rfl ?_ ?_;exact lA) | (refine yD ?_ ?_ rfl ?_ ?_;assumption;assumption;exact lA) | (refine yE ?_ ?_ ?_ ?_;assumption;omega;omega) | (refine yF ?_ rfl ?_;omega) | (refine yG ?_ rfl rfl rfl ?_;omega) | refine n0 ?_ | refine zN rfl rfl rfl ?_ | refine zD ?_ | refine zE ?_ | refine zF ?_ | refine PDraw.sP (some 12) rfl [] [] tt_ok mixed ?_ | refine PDraw.sP (some 31) rfl [] [8,9,10,11] tt_ok mixed ?_ | refine PDraw.sP (some 46) rfl [] [8,9,10,11] tt_ok mixed ?_ | refine PDraw.sP (some 106) rfl [] [11] tt_ok mixed ?_ | intro _ | refine zG ?_);conv=>whnf) | (refine zX (fun hc => ?_) (fun hc => ?_)<;>(try simp only [SY] at hc)<;>first | omega | (conv=>whnf)))
      exact PRet.gen (y := .agg (t.cv L.contains k).cells) (Γ' := cvG b r L _) (Wk.refl _) (And.intro rfl rfl)
    · refine PCall.go (fix_c b r L t hc.1 hc.2 (s3 (.inr hc.1)) hf hb k h0 hk) (WkT.refl _) ?_
      rintro _ _ ⟨rfl, rfl⟩
      conv => whnf
      repeat' (first | ((first | ((first | (apply zY;intro hg) | apply zZ);first | exact stA | exact stB | ((conv=>whnf);(repeat ((first | (refine zW ?_ ?_;exact gA) | refine pC (ref_c _) wR ?_ | refine pC (ref_c _) cA ?_ | refine pC (made_c 16) wR ?_ | refine pC (made_c 17) wR ?_ | refine pC (made_c 18) wR ?_ | refine pC (cloneInt_c t.v (by omega)) wR ?_ | refine PCall.read (hcf) wR ?_ | refine zA ?_ | refine zH rfl ?_ | refine zB ?_ | (refine yE ?_ ?_ ?_ ?_;assumption;omega;omega) | (refine yF ?_ rfl ?_;omega) | intro _);conv=>whnf));first | exact pS | exact pL | exact pE)) | (refine zW ?_ ?_;exact gA) | refine zH rfl ?_ | refine zA ?_ | refine zI bA ?_ | refine zI rfl ?_ | refine zJ rfl rfl ?_ | refine zB ?_ | refine zK rfl ?_ | refine zL rfl ?_ | refine zC ?_ | (refine zO ?_ ?_ ?_;omega;omega) | (refine zP ?_ ?_ ?_;omega;omega) | refine zM rfl ?_ | (refine zQ ?_ ?_ ?_;omega;omega) | (refine zR ?_ ?_;omega) | (refine zI ?_ ?_;exact nA) | (refine zS ?_ ?_ ?_;omega;omega) | (refine zT ?_ ?_ ?_;omega;omega) | (refine zU ?_ ?_ ?_;omega;omega) | (refine zV ?_ ?_ ?_;omega;omega) | refine pC (ref_c _) wR ?_ | refine pC (ref_c _) cA ?_ | refine pC (made_c 16) wR ?_ | refine pC (made_c 17) wR ?_ | refine pC (made_c 18) wR ?_ | refine pC (cloneInt_c t.v (by omega)) wR ?_ | refine PCall.read (hcf) wR ?_ | (refine yA ?_ rfl ?_ ?_;assumption;exact lA) | (refine yB ?_ rfl ?_ ?_;assumption;exact lA) | (refine yC rfl ?_ ?_;exact lA) | (refine yD ?_ ?_ rfl ?_ ?_;assumption;assumption;exact lA) | (refine yE ?_ ?_ ?_ ?_;assumption;omega;omega) | (refine yF ?_ rfl ?_;omega) | (refine yG ?_ rfl rfl rfl ?_;omega) | refine n0 ?_ | refine zN rfl rfl rfl ?_ | refine zD ?_ | refine zE ?_ | refine zF ?_ | refine PDraw.sP (some 12) rfl [] [] tt_ok mixed ?_ | refine PDraw.sP (some 31) rfl [] [8,9,10,11] tt_ok mixed ?_ | refine PDraw.sP (some 46) rfl [] [8,9,10,11] tt_ok mixed ?_ | refine PDraw.sP (some 106) rfl [] [11] tt_ok mixed ?_ | intro _ | refine zG ?_);conv=>whnf) | (refine zX (fun hc => ?_) (fun hc => ?_)<;>(try simp only [SY] at hc)<;>first | omega | (conv=>whnf)))
      exact PRet.gen (y := .agg (t.cv L.contains k).cells) (Γ' := cvG b r L _) (Wk.refl _) (And.intro rfl rfl)
    refine PDraw.sF (some 77) rfl [.box b [.mp r, .int .i64 k], .mp r (.int .i64) (setM L) []] [10,11] [] [12] [13] tt_ok mixed ?_
    conv=>whnf
    repeat ((first | ((first | (apply zY;intro hg) | apply zZ);first | exact stA | exact stB | ((conv=>whnf);(repeat ((first | (refine zW ?_ ?_;exact gA) | refine pC (ref_c _) wR ?_ | refine pC (ref_c _) cA ?_ | refine pC (made_c 16) wR ?_ | refine pC (made_c 17) wR ?_ | refine pC (made_c 18) wR ?_ | refine pC (cloneInt_c t.v (by omega)) wR ?_ | refine PCall.read (hcf) wR ?_ | refine zA ?_ | refine zH rfl ?_ | refine zB ?_ | (refine yE ?_ ?_ ?_ ?_;assumption;omega;omega) | (refine yF ?_ rfl ?_;omega) | intro _);conv=>whnf));first | exact pS | exact pL | exact pE)) | (refine zW ?_ ?_;exact gA) | refine zH rfl ?_ | refine zA ?_ | refine zI bA ?_ | refine zI rfl ?_ | refine zJ rfl rfl ?_ | refine zB ?_ | refine zK rfl ?_ | refine zL rfl ?_ | refine zC ?_ | (refine zO ?_ ?_ ?_;omega;omega) | (refine zP ?_ ?_ ?_;omega;omega) | refine zM rfl ?_ | (refine zQ ?_ ?_ ?_;omega;omega) | (refine zR ?_ ?_;omega) | (refine zI ?_ ?_;exact nA) | (refine zS ?_ ?_ ?_;omega;omega) | (refine zT ?_ ?_ ?_;omega;omega) | (refine zU ?_ ?_ ?_;omega;omega) | (refine zV ?_ ?_ ?_;omega;omega) | refine pC (ref_c _) wR ?_ | refine pC (ref_c _) cA ?_ | refine pC (made_c 16) wR ?_ | refine pC (made_c 17) wR ?_ | refine pC (made_c 18) wR ?_ | refine pC (cloneInt_c t.v (by omega)) wR ?_ | refine PCall.read (hcf) wR ?_ | (refine yA ?_ rfl ?_ ?_;assumption;exact lA) | (refine yB ?_ rfl ?_ ?_;assumption;exact lA) | (refine yC rfl ?_ ?_;exact lA) | (refine yD ?_ ?_ rfl ?_ ?_;assumption;assumption;exact lA) | (refine yE ?_ ?_ ?_ ?_;assumption;omega;omega) | (refine yF ?_ rfl ?_;omega) | (refine yG ?_ rfl rfl rfl ?_;omega) | refine n0 ?_ | refine zN rfl rfl rfl ?_ | refine zD ?_ | refine zE ?_ | refine zF ?_ | refine PDraw.sP (some 12) rfl [] [] tt_ok mixed ?_ | refine PDraw.sP (some 31) rfl [] [8,9,10,11] tt_ok mixed ?_ | refine PDraw.sP (some 46) rfl [] [8,9,10,11] tt_ok mixed ?_ | refine PDraw.sP (some 106) rfl [] [11] tt_ok mixed ?_ | intro _);conv=>whnf)
    have e1 : t.cv L.contains k = Trm.mk t.op t.n t.v (if t.op = 8 then boxAll L.contains t.v (Trm.cvs L.contains t.t k) else Trm.cvs L.contains t.t k) := by
      rw [t.cv_eq, if_neg (by rintro ⟨h1, h2⟩; rcases ‹¬t.op = 1 ∨ L.contains t.n = false› with h | h; exact h h1; rw [h] at h2; cases h2), if_neg (by omega), if_neg (by omega), if_neg (by omega), if_neg (by rintro ⟨h1, h2⟩; rcases hc with h | h; exact h h1; rw [h] at h2; cases h2)]
    have e2 : k + t.fr L.contains = k + Trm.frs L.contains t.t := by rw [hfr, if_neg (by omega)]; omega
    have hcl := Trm.cvs_length L.contains t.t k
    rw [e1, e2]
    refine PCall.go (asgAll_c b r L t.t k hf h0 (by omega) (by omega)) (WkT.refl _) ?_
    rintro _ _ ⟨tk, hte, hts, rfl, rfl⟩
    clear e1 hcf one hfr
    generalize Trm.cvs L.contains t.t k = l at *
    generalize k + Trm.frs L.contains t.t = k' at *
    conv => whnf
    repeat' (first | ((first | ((first | (apply zY;intro hg) | apply zZ);first | exact stA | exact stB | ((conv=>whnf);(repeat ((first | (refine zW ?_ ?_;exact gA) | refine pC (ref_c _) wR ?_ | refine pC (ref_c _) cA ?_ | refine pC (made_c 16) wR ?_ | refine pC (made_c 17) wR ?_ | refine pC (made_c 18) wR ?_ | refine pC (cloneInt_c t.v (by omega)) wR ?_ | refine PCall.read (hcf) wR ?_ | refine zA ?_ | refine zH rfl ?_ | refine zB ?_ | (refine yE ?_ ?_ ?_ ?_;assumption;omega;omega) | (refine yF ?_ rfl ?_;omega) | intro _);conv=>whnf));first | exact pS | exact pL | exact pE)) | (refine zW ?_ ?_;exact gA) | refine zH rfl ?_ | refine zA ?_ | refine zI bA ?_ | refine zI rfl ?_ | refine zJ rfl rfl ?_ | refine zB ?_ | refine zK rfl ?_ | refine zL rfl ?_ | refine zC ?_ | (refine zO ?_ ?_ ?_;omega;omega) | (refine zP ?_ ?_ ?_;omega;omega) | refine zM rfl ?_ | (refine zQ ?_ ?_ ?_;omega;omega) | (refine zR ?_ ?_;omega) | (refine zI ?_ ?_;exact nA) | (refine zS ?_ ?_ ?_;omega;omega) | (refine zT ?_ ?_ ?_;omega;omega) | (refine zU ?_ ?_ ?_;omega;omega) | (refine zV ?_ ?_ ?_;omega;omega) | refine pC (ref_c _) wR ?_ | refine pC (ref_c _) cA ?_ | refine pC (made_c 16) wR ?_ | refine pC (made_c 17) wR ?_ | refine pC (made_c 18) wR ?_ | refine pC (cloneInt_c t.v (by omega)) wR ?_ | refine PCall.read (hcf) wR ?_ | (refine yA ?_ rfl ?_ ?_;assumption;exact lA) | (refine yB ?_ rfl ?_ ?_;assumption;exact lA) | (refine yC rfl ?_ ?_;exact lA) | (refine yD ?_ ?_ rfl ?_ ?_;assumption;assumption;exact lA) | (refine yE ?_ ?_ ?_ ?_;assumption;omega;omega) | (refine yF ?_ rfl ?_;omega) | (refine yG ?_ rfl rfl rfl ?_;omega) | refine n0 ?_ | refine zN rfl rfl rfl ?_ | refine zD ?_ | refine zE ?_ | refine zF ?_ | refine PDraw.sP (some 12) rfl [] [] tt_ok mixed ?_ | refine PDraw.sP (some 31) rfl [] [8,9,10,11] tt_ok mixed ?_ | refine PDraw.sP (some 46) rfl [] [8,9,10,11] tt_ok mixed ?_ | refine PDraw.sP (some 106) rfl [] [11] tt_ok mixed ?_ | intro _ | refine zG ?_);conv=>whnf) | (refine zX (fun hc => ?_) (fun hc => ?_)<;>(try simp only [SY] at hc)<;>first | omega | (conv=>whnf)))
    · have hl8 := s3 (.inl hc)
      rename_i b6 hvl
      rw [if_pos hc]
      generalize hM : boxAll L.contains t.v l = M
      have hMl : M.length = l.length := by rw [← hM, boxAll_len]
      rw [show l.map Trm.pv = (M.take 0 ++ l.drop 0).map Trm.pv by rw [List.take_zero, List.nil_append, List.drop_zero]]
      refine PLoop.over [7, 8, 95, 96, 97, 98, 99, 100, 101, 102, 103, 104, 105, 106, 107, 108, 109, 110, 111, 112, 113, 114, 115, 116, 117] (fun i : Nat => [(95, .int .i64 i)])
        (fun i : Nat => [.box b6 [.int .i64 t.op, .int .i64 t.n, slI t.v, .ms tk], .row tk ((M.take i ++ l.drop i).map Trm.pv), .box b [.mp r, .int .i64 k'], .mp r (.int .i64) (setM L) [], .box b3 [.int .i64 0, .int .i64 0, .nil, .nil], .box b2 [.int .i64 t.op, .int .i64 t.n, .sl 1 (t.v.map (PV.int .i64)) none, .sl 4 (t.t.map Trm.pv) none], .box b1 [.ptr b 0]])
        (fun i => i ≤ t.v.length) (fun i => t.v.length - i) 0 (Nat.zero_le _) wA ?_
      intro i hi
      have hmix : (M.take i ++ l.drop i).length = l.length := by rw [List.length_append, List.length_take, List.length_drop]; omega
      conv => whnf
      repeat' (first | ((first | ((first | (apply zY;intro hg) | apply zZ);first | exact stA | exact stB | ((conv=>whnf);(repeat ((first | (refine zW ?_ ?_;exact gA) | refine pC (made_c 15) wR ?_ | refine zA ?_ | refine zH rfl ?_ | refine zB ?_ | (refine yE ?_ ?_ ?_ ?_;assumption;omega;omega) | (refine yF ?_ rfl ?_;omega) | intro _);conv=>whnf));first | exact pS | exact pL | exact pE)) | (refine zW ?_ ?_;exact gA) | refine zH rfl ?_ | refine zA ?_ | refine zI bA ?_ | refine zI rfl ?_ | refine zJ rfl rfl ?_ | refine zB ?_ | refine zK rfl ?_ | refine zL rfl ?_ | refine zC ?_ | (refine zO ?_ ?_ ?_;omega;omega) | (refine zP ?_ ?_ ?_;omega;omega) | refine zM rfl ?_ | (refine zQ ?_ ?_ ?_;omega;omega) | (refine zR ?_ ?_;omega) | (refine zI ?_ ?_;exact nA) | (refine zS ?_ ?_ ?_;omega;omega) | (refine zT ?_ ?_ ?_;omega;omega) | (refine zU ?_ ?_ ?_;omega;omega) | (refine zV ?_ ?_ ?_;omega;omega) | refine pC (made_c 15) wR ?_ | (refine yA ?_ rfl ?_ ?_;assumption;exact lA) | (refine yB ?_ rfl ?_ ?_;assumption;exact lA) | (refine yC rfl ?_ ?_;exact lA) | (refine yD ?_ ?_ rfl ?_ ?_;assumption;assumption;exact lA) | (refine yE ?_ ?_ ?_ ?_;assumption;omega;omega) | (refine yF ?_ rfl ?_;omega) | (refine yG ?_ rfl rfl rfl ?_;omega) | refine n0 ?_ | refine zN rfl rfl rfl ?_ | refine zD ?_ | refine zE ?_ | refine zF ?_ | refine PDraw.sP (some 12) rfl [] [] tt_ok mixed ?_ | refine PDraw.sP (some 31) rfl [] [8,9,10,11] tt_ok mixed ?_ | refine PDraw.sP (some 46) rfl [] [8,9,10,11] tt_ok mixed ?_ | refine PDraw.sP (some 106) rfl [] [11] tt_ok mixed ?_ | intro _ | refine zG ?_);conv=>whnf) | (refine zX (fun hc => ?_) (fun hc => ?_)<;>(try simp only [SY] at hc)<;>first | omega | (conv=>whnf)))
      · have hiv : i < t.v.length := by omega
        have hil : i < l.length := by omega
        have e3 : (M.take i ++ l.drop i)[i]'(by omega) = l[i] := by
          rw [List.getElem_append_right (by rw [List.length_take]; omega)]
          simp [List.getElem_drop, List.length_take, Nat.min_eq_left (show i ≤ M.length by omega)]
        have e4 : M[i]'(by omega) = Trm.mk 15 0 [] [l[i]] := by
          have := boxAll_get L.contains t.v l i hiv hil
          rw [if_pos hc] at this
          subst hM
          exact this
        rw [e3, mixed_set hMl hil _ e4.symm]
        exact loopTo (i + 1) (by show i + 1 ≤ _; omega) (by show t.v.length - (i + 1) < t.v.length - i; omega) wA
      · have hiv : i < t.v.length := by omega
        have hil : i < l.length := by omega
        have e4 : M[i]'(by omega) = l[i] := by
          have := boxAll_get L.contains t.v l i hiv hil
          rw [if_neg (by rw [hc]; decide)] at this
          subst hM
          exact this
        have e5 : M.take i ++ l.drop i = M.take (i + 1) ++ l.drop (i + 1) := by
          rw [← mixed_set hMl hil _ e4.symm]
          apply List.ext_getElem (by simp)
          intro j h1 h2
          rw [List.getElem_set]
          split
          · rename_i hj
            subst hj
            rw [List.getElem_append_right (by rw [List.length_take]; omega)]
            simp [List.getElem_drop, List.length_take, Nat.min_eq_left (show i ≤ M.length by omega)]
          · rfl
        rw [e5]
        exact loopTo (i + 1) (by show i + 1 ≤ _; omega) (by show t.v.length - (i + 1) < t.v.length - i; omega) wA
      · have e5 : M.take i ++ l.drop i = M := by
          have : i = t.v.length := by omega
          rw [this, ← boxAll_drop L.contains t.v l, hM, List.take_append_drop]
        rw [e5]
        exact PRet.frz (es := M.map Trm.pv) (y := .agg (Trm.mk t.op t.n t.v M).cells) (Γ' := cvG b r L k') (WkF.agg (.cons (WkF.of (Wk.refl _)) (.cons (WkF.of (Wk.refl _)) (.cons (WkF.of (Wk.refl _)) (.cons (WkF.ms' hts) .nil))))) (And.intro rfl rfl)
    · rw [if_neg hc]
      exact PRet.frz (es := l.map Trm.pv) (y := .agg (Trm.mk t.op t.n t.v l).cells) (Γ' := cvG b r L k') (WkF.agg (.cons (WkF.of (Wk.refl _)) (.cons (WkF.of (Wk.refl _)) (.cons (WkF.of (Wk.refl _)) (.cons (WkF.ms' hts) .nil))))) (And.intro rfl rfl)
end Go.Cb
namespace Go.Cb
open Go.Proofs
set_option maxRecDepth 100000
set_option maxHeartbeats 4000000
theorem Wk.rowTok {s : Nat} {es fs : List PV} {tk : Option Tok} (h : WkR es fs) : Wk (.sl s es tk) (.sl s fs none) := Wk.trans (Wk.tok _ _ _) (Wk.row h)
end Go.Cb
namespace Go.Cb
open Go.Proofs
set_option maxRecDepth 100000
set_option maxHeartbeats 4000000
theorem RightP.binds {p : Prog} {level : Int} (h : RightP p level) : (riseL (bindsOf p.body.all)).length = p.body.vars.length := by
  have h1 := p.body.met_all [] 0 (by have := p.body.okT_deep h.2.2.1; omega)
  have h2 : bindsOf p.body.all = p.body.vars := h1.2
  rw [h2]
  exact rise_len h.2.2.2.2.2
end Go.Cb
namespace Go.Cb
open Go.Proofs
set_option maxRecDepth 100000
set_option maxHeartbeats 4000000
theorem bndL_mem (t : Trm) (x : Int) : x ∈ bndL t ↔ x ∈ t.vars := by unfold bndL; exact mem_rise _ _
theorem RightP.fits {p : Prog} {level : Int} (h : RightP p level) : p.body.shp ∧ p.body.dep ≤ 400 ∧ (∀ x ∈ p.body.vars, 0 ≤ x ∧ x ≤ 1000000) := by
  have h1 := p.body.okT_deep h.2.2.1
  exact ⟨p.body.okT_shp h.2.2.1, by omega, fun x hx => ⟨(h.2.2.2.2.1 x hx).1, (h.2.2.2.2.1 x hx).2.1⟩⟩
theorem bndL_len' (t : Trm) (h : t.dep < 1000) : (bndL t).length ≤ t.bulk := by
  have := (t.bD_spec 0 [] List.Pairwise.nil).2.1
  rw [t.bD_rise h] at this
  simpa using this
theorem noP_wk : Wk (.agg [.nil, .int .i64 0, .int .i64 0, .nil, .nil]) (.agg noP.cells) := Wk.agg (.cons (Wk.nil' rfl) (.cons (Wk.refl _) (.cons (Wk.refl _) (.cons (Wk.nil' rfl) (.cons (Wk.nil' rfl) .nil)))))
theorem conv_c (p : Prog) (hb : p.body.bulk ≤ 100000000) (hl : p.consts.length ≤ 1000000000) :
    ACallP Tryz.prog 26 [.agg p.cells] (.tup [.agg (conv10 p).1.cells, .int .i64 (conv10 p).2]) := by
  have he := check_eq p 1
  have hR : checkP p 1 = 0 → RightP p 1 := fun h => (checkD_right p 1).1 (by rw [← he]; exact h)
  refine ACall.of_body tt_ok Tryz.func26 rfl rfl (n := 47) rfl rfl ?_
  conv => whnf
  repeat ((first | ((first | (apply zY;intro hg) | apply zZ);first | exact stA | exact stB | ((conv=>whnf);(repeat ((first | (refine zW ?_ ?_;exact gA) | refine pC (checkp_c p 1 (by omega) (by omega)) wR ?_ | refine pC (binds_c p.body (by omega)) wR ?_ | refine pC (cloneDat_c p.consts hl) wR ?_ | refine zA ?_ | refine zH rfl ?_ | refine zB ?_ | (refine yE ?_ ?_ ?_ ?_;assumption;omega;omega) | (refine yF ?_ rfl ?_;omega) | intro _);conv=>whnf));first | exact pS | exact pL | exact pE)) | (refine zW ?_ ?_;exact gA) | refine zH rfl ?_ | refine zA ?_ | refine zI bA ?_ | refine zI rfl ?_ | refine zJ rfl rfl ?_ | refine zB ?_ | refine zK rfl ?_ | refine zL rfl ?_ | refine zC ?_ | (refine zO ?_ ?_ ?_;omega;omega) | (refine zP ?_ ?_ ?_;omega;omega) | refine zM rfl ?_ | (refine zQ ?_ ?_ ?_;omega;omega) | (refine zR ?_ ?_;omega) | (refine zI ?_ ?_;exact nA) | (refine zS ?_ ?_ ?_;omega;omega) | (refine zT ?_ ?_ ?_;omega;omega) | (refine zU ?_ ?_ ?_;omega;omega) | (refine zV ?_ ?_ ?_;omega;omega) | refine pC (checkp_c p 1 (by omega) (by omega)) wR ?_ | refine pC (binds_c p.body (by omega)) wR ?_ | refine pC (cloneDat_c p.consts hl) wR ?_ | (refine yA ?_ rfl ?_ ?_;assumption;exact lA) | (refine yB ?_ rfl ?_ ?_;assumption;exact lA) | (refine yC rfl ?_ ?_;exact lA) | (refine yD ?_ ?_ rfl ?_ ?_;assumption;assumption;exact lA) | (refine yE ?_ ?_ ?_ ?_;assumption;omega;omega) | (refine yF ?_ rfl ?_;omega) | (refine yG ?_ rfl rfl rfl ?_;omega) | refine n0 ?_ | refine zN rfl rfl rfl ?_ | refine zD ?_ | refine zE ?_ | refine zF ?_ | intro _);conv=>whnf)
  conv => whnf
  repeat' (first | ((first | ((first | (apply zY;intro hg) | apply zZ);first | exact stA | exact stB | ((conv=>whnf);(repeat ((first | (refine zW ?_ ?_;exact gA) | refine pC (checkp_c p 1 (by omega) (by omega)) wR ?_ | refine pC (binds_c p.body (by omega)) wR ?_ | refine pC (cloneDat_c p.consts hl) wR ?_ | refine zA ?_ | refine zH rfl ?_ | refine zB ?_ | (refine yE ?_ ?_ ?_ ?_;assumption;omega;omega) | (refine yF ?_ rfl ?_;omega) | intro _);conv=>whnf));first | exact pS | exact pL | exact pE)) | (refine zW ?_ ?_;exact gA) | refine zH rfl ?_ | refine zA ?_ | refine zI bA ?_ | refine zI rfl ?_ | refine zJ rfl rfl ?_ | refine zB ?_ | refine zK rfl ?_ | refine zL rfl ?_ | refine zC ?_ | (refine zO ?_ ?_ ?_;omega;omega) | (refine zP ?_ ?_ ?_;omega;omega) | refine zM rfl ?_ | (refine zQ ?_ ?_ ?_;omega;omega) | (refine zR ?_ ?_;omega) | (refine zI ?_ ?_;exact nA) | (refine zS ?_ ?_ ?_;omega;omega) | (refine zT ?_ ?_ ?_;omega;omega) | (refine zU ?_ ?_ ?_;omega;omega) | (refine zV ?_ ?_ ?_;omega;omega) | refine pC (checkp_c p 1 (by omega) (by omega)) wR ?_ | refine pC (binds_c p.body (by omega)) wR ?_ | refine pC (cloneDat_c p.consts hl) wR ?_ | (refine yA ?_ rfl ?_ ?_;assumption;exact lA) | (refine yB ?_ rfl ?_ ?_;assumption;exact lA) | (refine yC rfl ?_ ?_;exact lA) | (refine yD ?_ ?_ rfl ?_ ?_;assumption;assumption;exact lA) | (refine yE ?_ ?_ ?_ ?_;assumption;omega;omega) | (refine yF ?_ rfl ?_;omega) | (refine yG ?_ rfl rfl rfl ?_;omega) | refine n0 ?_ | refine zN rfl rfl rfl ?_ | refine zD ?_ | refine zE ?_ | refine zF ?_ | intro _ | refine zG ?_);conv=>whnf) | (refine zX (fun hc => ?_) (fun hc => ?_)<;>(try simp only [SY] at hc)<;>first | omega | (conv=>whnf)))
  · rename_i hc
    exact PRet.pure (Wk.tup (.cons (by rw [conv10, if_neg hc]; exact noP_wk) (.cons (by rw [conv10, if_neg hc]; exact Wk.refl _) .nil)))
  · rename_i b1 b2 r bc
    obtain ⟨hshp, hdep, hvr⟩ := (hR hc).fits
    have hrise := p.body.binds_rise (by omega)
    have hbl := bndL_len' p.body (by omega)
    have hcn : conv10 p = if checkP ⟨p.consts, p.body.cv (asgB p.body) (nextT p.body)⟩ 2 = 0 then (⟨p.consts, p.body.cv (asgB p.body) (nextT p.body)⟩, 0) else (noP, 5) := by rw [conv10, if_pos hc]; rfl
    have hcb : (p.body.cv (asgB p.body) (nextT p.body)).bulk ≤ 1000000000 := by have := p.body.cv_bulk (asgB p.body) (nextT p.body); omega
    rw [setM_nil]
    refine PCall.go (note_c bc r 0 p.body [] (by omega)) (WkT.refl _) ?_
    rintro _ _ ⟨rfl, L', hL', rfl⟩
    have hcv : p.body.cv L'.contains (nextT p.body) = p.body.cv (asgB p.body) (nextT p.body) := Trm.cv_congr _ _ fun v _ => by
      rw [Bool.eq_iff_iff]; simp [asgB, hL']
    have hn0 : 0 ≤ nextT p.body ∧ nextT p.body ≤ 1000001 := by
      unfold nextT
      split
      · omega
      · rename_i h0
        have hlt : (bndL p.body).length - 1 < (bndL p.body).length := by have := List.length_pos_iff.2 h0; omega
        have e : (bndL p.body).getD ((bndL p.body).length - 1) 0 = (bndL p.body)[(bndL p.body).length - 1] := by simp [List.getD, hlt]
        have := hvr _ ((bndL_mem _ _).1 (List.getElem_mem hlt))
        rw [e]
        omega
    obtain ⟨hn0, hn1⟩ := hn0
    have hbc := binds_c p.body (by omega)
    rw [hrise] at hbc
    have hcl := cloneDat_c p.consts hl
    conv => whnf
    repeat' (first | ((first | ((first | (apply zY;intro hg) | apply zZ);first | exact stA | exact stB | ((conv=>whnf);(repeat ((first | (refine zW ?_ ?_;exact gA) | refine pC (hbc) wR ?_ | refine zA ?_ | refine zH rfl ?_ | refine zB ?_ | (refine yE ?_ ?_ ?_ ?_;assumption;omega;omega) | (refine yF ?_ rfl ?_;omega) | intro _);conv=>whnf));first | exact pS | exact pL | exact pE)) | (refine zW ?_ ?_;exact gA) | refine zH rfl ?_ | refine zA ?_ | refine zI bA ?_ | refine zI rfl ?_ | refine zJ rfl rfl ?_ | refine zB ?_ | refine zK rfl ?_ | refine zL rfl ?_ | refine zC ?_ | (refine zO ?_ ?_ ?_;omega;omega) | (refine zP ?_ ?_ ?_;omega;omega) | refine zM rfl ?_ | (refine zQ ?_ ?_ ?_;omega;omega) | (refine zR ?_ ?_;omega) | (refine zI ?_ ?_;exact nA) | (refine zS ?_ ?_ ?_;omega;omega) | (refine zT ?_ ?_ ?_;omega;omega) | (refine zU ?_ ?_ ?_;omega;omega) | (refine zV ?_ ?_ ?_;omega;omega) | refine pC (hbc) wR ?_ | (refine yA ?_ rfl ?_ ?_;assumption;exact lA) | (refine yB ?_ rfl ?_ ?_;assumption;exact lA) | (refine yC rfl ?_ ?_;exact lA) | (refine yD ?_ ?_ rfl ?_ ?_;assumption;assumption;exact lA) | (refine yE ?_ ?_ ?_ ?_;assumption;omega;omega) | (refine yF ?_ rfl ?_;omega) | (refine yG ?_ rfl rfl rfl ?_;omega) | refine n0 ?_ | refine zN rfl rfl rfl ?_ | refine zD ?_ | refine zE ?_ | refine zF ?_ | intro _ | refine zG ?_);conv=>whnf) | (refine zX (fun hc => ?_) (fun hc => ?_)<;>(try simp only [SY] at hc)<;>first | omega | (conv=>whnf)))
    · have hlt : (bndL p.body).length - 1 < (bndL p.body).length := by omega
      have e : (bndL p.body).getD ((bndL p.body).length - 1) 0 = (bndL p.body)[(bndL p.body).length - 1] := by simp [List.getD, hlt]
      have h1 := hvr _ ((bndL_mem _ _).1 (List.getElem_mem hlt))
      have hn : nextT p.body = (bndL p.body)[(bndL p.body).length - 1] + 1 := by
        unfold nextT
        rw [if_neg (by intro h; rw [h] at hlt; simp at hlt), e]
      refine PInt.ok (by omega) (by omega) ?_
      rw [← hn]
      conv => whnf
      repeat' (first | ((first | ((first | (apply zY;intro hg) | apply zZ);first | exact stA | exact stB | ((conv=>whnf);(repeat ((first | (refine zW ?_ ?_;exact gA) | refine pC (hcl) wR ?_ | refine zA ?_ | refine zH rfl ?_ | refine zB ?_ | (refine yE ?_ ?_ ?_ ?_;assumption;omega;omega) | (refine yF ?_ rfl ?_;omega) | intro _);conv=>whnf));first | exact pS | exact pL | exact pE)) | (refine zW ?_ ?_;exact gA) | refine zH rfl ?_ | refine zA ?_ | refine zI bA ?_ | refine zI rfl ?_ | refine zJ rfl rfl ?_ | refine zB ?_ | refine zK rfl ?_ | refine zL rfl ?_ | refine zC ?_ | (refine zO ?_ ?_ ?_;omega;omega) | (refine zP ?_ ?_ ?_;omega;omega) | refine zM rfl ?_ | (refine zQ ?_ ?_ ?_;omega;omega) | (refine zR ?_ ?_;omega) | (refine zI ?_ ?_;exact nA) | (refine zS ?_ ?_ ?_;omega;omega) | (refine zT ?_ ?_ ?_;omega;omega) | (refine zU ?_ ?_ ?_;omega;omega) | (refine zV ?_ ?_ ?_;omega;omega) | refine pC (hcl) wR ?_ | (refine yA ?_ rfl ?_ ?_;assumption;exact lA) | (refine yB ?_ rfl ?_ ?_;assumption;exact lA) | (refine yC rfl ?_ ?_;exact lA) | (refine yD ?_ ?_ rfl ?_ ?_;assumption;assumption;exact lA) | (refine yE ?_ ?_ ?_ ?_;assumption;omega;omega) | (refine yF ?_ rfl ?_;omega) | (refine yG ?_ rfl rfl rfl ?_;omega) | refine n0 ?_ | refine zN rfl rfl rfl ?_ | refine zD ?_ | refine zE ?_ | refine zF ?_ | intro _ | refine zG ?_);conv=>whnf) | (refine zX (fun hc => ?_) (fun hc => ?_)<;>(try simp only [SY] at hc)<;>first | omega | (conv=>whnf)))
      refine PDraw.sF (some 34) rfl [.box bc [.mp r, .int .i64 (nextT p.body)], .mp r (.int .i64) (setM L') []] [6,7] [] [8] [9] tt_ok mixed ?_
      conv=>whnf
      repeat ((first | ((first | (apply zY;intro hg) | apply zZ);first | exact stA | exact stB | ((conv=>whnf);(repeat ((first | (refine zW ?_ ?_;exact gA) | refine pC (hcl) wR ?_ | refine zA ?_ | refine zH rfl ?_ | refine zB ?_ | (refine yE ?_ ?_ ?_ ?_;assumption;omega;omega) | (refine yF ?_ rfl ?_;omega) | intro _);conv=>whnf));first | exact pS | exact pL | exact pE)) | (refine zW ?_ ?_;exact gA) | refine zH rfl ?_ | refine zA ?_ | refine zI bA ?_ | refine zI rfl ?_ | refine zJ rfl rfl ?_ | refine zB ?_ | refine zK rfl ?_ | refine zL rfl ?_ | refine zC ?_ | (refine zO ?_ ?_ ?_;omega;omega) | (refine zP ?_ ?_ ?_;omega;omega) | refine zM rfl ?_ | (refine zQ ?_ ?_ ?_;omega;omega) | (refine zR ?_ ?_;omega) | (refine zI ?_ ?_;exact nA) | (refine zS ?_ ?_ ?_;omega;omega) | (refine zT ?_ ?_ ?_;omega;omega) | (refine zU ?_ ?_ ?_;omega;omega) | (refine zV ?_ ?_ ?_;omega;omega) | refine pC (hcl) wR ?_ | (refine yA ?_ rfl ?_ ?_;assumption;exact lA) | (refine yB ?_ rfl ?_ ?_;assumption;exact lA) | (refine yC rfl ?_ ?_;exact lA) | (refine yD ?_ ?_ rfl ?_ ?_;assumption;assumption;exact lA) | (refine yE ?_ ?_ ?_ ?_;assumption;omega;omega) | (refine yF ?_ rfl ?_;omega) | (refine yG ?_ rfl rfl rfl ?_;omega) | refine n0 ?_ | refine zN rfl rfl rfl ?_ | refine zD ?_ | refine zE ?_ | refine zF ?_ | intro _);conv=>whnf)
      refine PCall.go (cvOk bc r L' p.body hshp (by omega) (nextT p.body) hn0 (by omega)) (WkT.refl _) ?_
      rintro _ _ ⟨rfl, rfl⟩
      rw [hcv]
      have hck := checkp_c ⟨p.consts, p.body.cv (asgB p.body) (nextT p.body)⟩ 2 hcb hl
      conv => whnf
      repeat' (first | ((first | ((first | (apply zY;intro hg) | apply zZ);first | exact stA | exact stB | ((conv=>whnf);(repeat ((first | (refine zW ?_ ?_;exact gA) | refine pC (hck) wR ?_ | refine zA ?_ | refine zH rfl ?_ | refine zB ?_ | (refine yE ?_ ?_ ?_ ?_;assumption;omega;omega) | (refine yF ?_ rfl ?_;omega) | intro _);conv=>whnf));first | exact pS | exact pL | exact pE)) | (refine zW ?_ ?_;exact gA) | refine zH rfl ?_ | refine zA ?_ | refine zI bA ?_ | refine zI rfl ?_ | refine zJ rfl rfl ?_ | refine zB ?_ | refine zK rfl ?_ | refine zL rfl ?_ | refine zC ?_ | (refine zO ?_ ?_ ?_;omega;omega) | (refine zP ?_ ?_ ?_;omega;omega) | refine zM rfl ?_ | (refine zQ ?_ ?_ ?_;omega;omega) | (refine zR ?_ ?_;omega) | (refine zI ?_ ?_;exact nA) | (refine zS ?_ ?_ ?_;omega;omega) | (refine zT ?_ ?_ ?_;omega;omega) | (refine zU ?_ ?_ ?_;omega;omega) | (refine zV ?_ ?_ ?_;omega;omega) | refine pC (hck) wR ?_ | (refine yA ?_ rfl ?_ ?_;assumption;exact lA) | (refine yB ?_ rfl ?_ ?_;assumption;exact lA) | (refine yC rfl ?_ ?_;exact lA) | (refine yD ?_ ?_ rfl ?_ ?_;assumption;assumption;exact lA) | (refine yE ?_ ?_ ?_ ?_;assumption;omega;omega) | (refine yF ?_ rfl ?_;omega) | (refine yG ?_ rfl rfl rfl ?_;omega) | refine n0 ?_ | refine zN rfl rfl rfl ?_ | refine zD ?_ | refine zE ?_ | refine zF ?_ | intro _ | refine zG ?_);conv=>whnf) | (refine zX (fun hc => ?_) (fun hc => ?_)<;>(try simp only [SY] at hc)<;>first | omega | (conv=>whnf)))
      · exact PRet.pure (Wk.tup (.cons (by rw [hcn, if_neg hc]; exact noP_wk) (.cons (by rw [hcn, if_neg hc]; exact Wk.refl _) .nil)))
      · exact PRet.pure (Wk.tup (.cons (by rw [hcn, if_pos hc]; exact Wk.refl _) (.cons (by rw [hcn, if_pos hc]; exact Wk.refl _) .nil)))
    · have hn : nextT p.body = 0 := by
        unfold nextT
        rw [if_pos (List.eq_nil_of_length_eq_zero (by omega))]
      rw [show PV.int .i64 0 = PV.int .i64 (nextT p.body) by rw [hn]]
      refine PDraw.sF (some 34) rfl [.box bc [.mp r, .int .i64 (nextT p.body)], .mp r (.int .i64) (setM L') []] [6,7] [] [8] [9] tt_ok mixed ?_
      conv=>whnf
      repeat ((first | ((first | (apply zY;intro hg) | apply zZ);first | exact stA | exact stB | ((conv=>whnf);(repeat ((first | (refine zW ?_ ?_;exact gA) | refine pC (hcl) wR ?_ | refine zA ?_ | refine zH rfl ?_ | refine zB ?_ | (refine yE ?_ ?_ ?_ ?_;assumption;omega;omega) | (refine yF ?_ rfl ?_;omega) | intro _);conv=>whnf));first | exact pS | exact pL | exact pE)) | (refine zW ?_ ?_;exact gA) | refine zH rfl ?_ | refine zA ?_ | refine zI bA ?_ | refine zI rfl ?_ | refine zJ rfl rfl ?_ | refine zB ?_ | refine zK rfl ?_ | refine zL rfl ?_ | refine zC ?_ | (refine zO ?_ ?_ ?_;omega;omega) | (refine zP ?_ ?_ ?_;omega;omega) | refine zM rfl ?_ | (refine zQ ?_ ?_ ?_;omega;omega) | (refine zR ?_ ?_;omega) | (refine zI ?_ ?_;exact nA) | (refine zS ?_ ?_ ?_;omega;omega) | (refine zT ?_ ?_ ?_;omega;omega) | (refine zU ?_ ?_ ?_;omega;omega) | (refine zV ?_ ?_ ?_;omega;omega) | refine pC (hcl) wR ?_ | (refine yA ?_ rfl ?_ ?_;assumption;exact lA) | (refine yB ?_ rfl ?_ ?_;assumption;exact lA) | (refine yC rfl ?_ ?_;exact lA) | (refine yD ?_ ?_ rfl ?_ ?_;assumption;assumption;exact lA) | (refine yE ?_ ?_ ?_ ?_;assumption;omega;omega) | (refine yF ?_ rfl ?_;omega) | (refine yG ?_ rfl rfl rfl ?_;omega) | refine n0 ?_ | refine zN rfl rfl rfl ?_ | refine zD ?_ | refine zE ?_ | refine zF ?_ | intro _);conv=>whnf)
      refine PCall.go (cvOk bc r L' p.body hshp (by omega) (nextT p.body) hn0 (by omega)) (WkT.refl _) ?_
      rintro _ _ ⟨rfl, rfl⟩
      rw [hcv]
      have hck := checkp_c ⟨p.consts, p.body.cv (asgB p.body) (nextT p.body)⟩ 2 hcb hl
      conv => whnf
      repeat' (first | ((first | ((first | (apply zY;intro hg) | apply zZ);first | exact stA | exact stB | ((conv=>whnf);(repeat ((first | (refine zW ?_ ?_;exact gA) | refine pC (hck) wR ?_ | refine zA ?_ | refine zH rfl ?_ | refine zB ?_ | (refine yE ?_ ?_ ?_ ?_;assumption;omega;omega) | (refine yF ?_ rfl ?_;omega) | intro _);conv=>whnf));first | exact pS | exact pL | exact pE)) | (refine zW ?_ ?_;exact gA) | refine zH rfl ?_ | refine zA ?_ | refine zI bA ?_ | refine zI rfl ?_ | refine zJ rfl rfl ?_ | refine zB ?_ | refine zK rfl ?_ | refine zL rfl ?_ | refine zC ?_ | (refine zO ?_ ?_ ?_;omega;omega) | (refine zP ?_ ?_ ?_;omega;omega) | refine zM rfl ?_ | (refine zQ ?_ ?_ ?_;omega;omega) | (refine zR ?_ ?_;omega) | (refine zI ?_ ?_;exact nA) | (refine zS ?_ ?_ ?_;omega;omega) | (refine zT ?_ ?_ ?_;omega;omega) | (refine zU ?_ ?_ ?_;omega;omega) | (refine zV ?_ ?_ ?_;omega;omega) | refine pC (hck) wR ?_ | (refine yA ?_ rfl ?_ ?_;assumption;exact lA) | (refine yB ?_ rfl ?_ ?_;assumption;exact lA) | (refine yC rfl ?_ ?_;exact lA) | (refine yD ?_ ?_ rfl ?_ ?_;assumption;assumption;exact lA) | (refine yE ?_ ?_ ?_ ?_;assumption;omega;omega) | (refine yF ?_ rfl ?_;omega) | (refine yG ?_ rfl rfl rfl ?_;omega) | refine n0 ?_ | refine zN rfl rfl rfl ?_ | refine zD ?_ | refine zE ?_ | refine zF ?_ | intro _ | refine zG ?_);conv=>whnf) | (refine zX (fun hc => ?_) (fun hc => ?_)<;>(try simp only [SY] at hc)<;>first | omega | (conv=>whnf)))
      · exact PRet.pure (Wk.tup (.cons (by rw [hcn, if_neg hc]; exact noP_wk) (.cons (by rw [hcn, if_neg hc]; exact Wk.refl _) .nil)))
      · exact PRet.pure (Wk.tup (.cons (by rw [hcn, if_pos hc]; exact Wk.refl _) (.cons (by rw [hcn, if_pos hc]; exact Wk.refl _) .nil)))
end Go.Cb

