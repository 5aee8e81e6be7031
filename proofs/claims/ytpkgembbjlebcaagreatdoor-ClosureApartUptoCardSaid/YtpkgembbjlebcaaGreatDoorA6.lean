/-
  Plain law: the inliner keeps within its bounds.
  Plain law: procedures stand apart, as a function.
  Drawn regions with allocations that may come at any time.
  Indices within bounds by a condition.
  More for the walk: elements within bounds on a condition; what values are as data; appends.
  Appends onto rows of one's own; maps from numbers.
  Contracts: package slices: Clone, ContainsFunc, Backward, of numbers.
  Contracts: package slices: DeleteFunc, of numbers.
  Contracts: the maker of closures: what a term is over, references, numbers.
  Plain law: how many codes there are.
  Contracts: the document's comparisons, counts, bindings.
  Contracts: the document's bindings; all variables greater.
-/
import Derived.Test.YtpkgembbjlebcaaGreatDoorA5
set_option linter.unusedSimpArgs false
set_option linter.unusedVariables false
namespace Go.Cb
open Go.Proofs
set_option maxRecDepth 100000
set_option maxHeartbeats 4000000
mutual
def Trm.shI : Trm → Prop
  | .mk op _ v t => ((op = 5 → t ≠ []) ∧ (op = 4 → t.length = 1) ∧ (op = 8 ∨ op = 9 → t.length = v.length + 1) ∧ (op = 9 → ∀ x ∈ t.dropLast, x.op = 4)) ∧ Trm.shIs t
def Trm.shIs : List Trm → Prop
  | [] => True
  | x :: xs => Trm.shI x ∧ Trm.shIs xs
end
theorem Trm.shI_eq (t : Trm) : t.shI ↔ ((t.op = 5 → t.t ≠ []) ∧ (t.op = 4 → t.t.length = 1) ∧ (t.op = 8 ∨ t.op = 9 → t.t.length = t.v.length + 1) ∧ (t.op = 9 → ∀ x ∈ t.t.dropLast, x.op = 4)) ∧ Trm.shIs t.t := by cases t; rw [Trm.shI]; rfl
theorem Trm.shIs_mem : ∀ {l : List Trm}, Trm.shIs l → ∀ x ∈ l, x.shI
  | [], _, x, hx => by cases hx
  | y :: l, h, x, hx => by
    rw [Trm.shIs] at h
    rcases List.mem_cons.1 hx with rfl | hx
    · exact h.1
    · exact Trm.shIs_mem h.2 x hx
theorem Trm.okT_shI {level c codes : Int} {free : Bool} (hl : level ≠ 3) (t : Trm) : ∀ {scope : List Int} {deep : Int}, t.okT level c codes free scope deep → t.shI := by
  induction t using Trm.ind with
  | h t ih =>
    intro scope deep h
    rw [Trm.okT_eq] at h
    rw [Trm.shI_eq]
    have key : ∀ (op : Int) (sc inner : List Int) (deep : Int) (l : List Trm), (∀ y ∈ l, ∀ {scope : List Int} {deep : Int}, y.okT level c codes free scope deep → y.shI) → Trm.okTs level c codes free op sc inner l deep → Trm.shIs l ∧ (op = 9 → ∀ x ∈ l.dropLast, x.op = 4) := by
      intro op sc inner deep l
      induction l with
      | nil => intro _ _; rw [Trm.shIs]; exact ⟨trivial, fun _ x hx => by cases hx⟩
      | cons x l ihl =>
        intro hy hk
        rw [Trm.okTs] at hk
        rw [Trm.shIs]
        obtain ⟨a1, a2⟩ := ihl (fun z hz => hy z (by simp [hz])) hk.2.2
        refine ⟨⟨hy x (by simp) hk.2.1, a1⟩, fun h9 y hy => ?_⟩
        cases l with
        | nil => simp at hy
        | cons z l =>
          rw [List.dropLast_cons_cons] at hy
          rcases List.mem_cons.1 hy with rfl | hy
          · have h1 := hk.1
            unfold wantOp at h1
            rw [if_neg hl] at h1
            exact Classical.byContradiction fun h4 => h1 ⟨h9, by simp, h4⟩
          · exact a2 h9 y hy
    obtain ⟨k1, k2⟩ := key _ _ _ _ _ ih h.2
    refine ⟨?_, k1⟩
    obtain ⟨⟨_, _, h3, h4⟩, _⟩ := h
    unfold countsL at h3
    refine ⟨fun e => ?_, fun e => ?_, fun e => ?_, k2⟩
    · intro h0
      rw [h0, e] at h3
      simp [bindsB] at h3
    · split at h3
      · cases h3
      · rw [if_neg (by omega), if_pos (by omega)] at h3
        have : (t.t.length : Int) = 1 := by simpa using h3
        omega
    · split at h3
      · cases h3
      · rw [if_neg (by omega), if_neg (by omega), if_neg (by omega), if_neg (by omega), if_neg (by omega), if_pos (by omega)] at h3
        have : (t.t.length : Int) = (t.v.length : Int) + 1 := by simpa using h3
        omega
structure GoodI (B : Nat) (s : InS) : Prop where
  ok : ∀ v x, s.known v = some x → x.op = 4 ∧ x.t.length = 1 ∧ x.bulk ≤ B
  n0 : 0 ≤ s.next
  nb : s.next + s.budget * B ≤ 900000000000
  b0 : 0 ≤ s.budget
  b1 : s.budget ≤ 1000
  e0 : 0 ≤ s.effort
  e1 : s.effort ≤ 9223372036854775807
theorem GoodI.next {B : Nat} {s : InS} (h : GoodI B s) : s.next ≤ 900000000000 := by
  have := h.nb
  have : 0 ≤ s.budget * B := Int.mul_nonneg h.b0 (by omega)
  omega
end Go.Cb
namespace Go.Cb
open Go.Proofs
set_option maxRecDepth 100000
set_option maxHeartbeats 4000000
structure Kn where
  code : Int
  st : Bool
abbrev Fm := Int → Option Kn
def stF (fm : Fm) (v : Int) : Bool := match fm v with
  | some f => f.st
  | none => false
def codeF (fm : Fm) (v : Int) : Int := match fm v with
  | some f => f.code
  | none => 0
def overF (fm : Fm) (t : Trm) : List Int := (riseL (freeOf t.all)).filter fun v => !stF fm v
def refF (fm : Fm) (ov : List Int) (v : Int) : Trm := if stF fm v = true then .mk 21 (codeF fm v) [] [] else if idxL ov v 0 ≥ 0 then .mk 20 (idxL ov v 0) [] [] else .mk 1 v [] []
def setF (w : Bool) (fm : Fm) (v : Int) (f : Kn) : Fm := fun k => if w = true ∧ (fm k).isSome = true then fm k else if k = v then some f else fm k
def learnF (w : Bool) : List (Int × Kn) → Fm → Fm
  | [], fm => fm
  | x :: l, fm => learnF w l (setF w fm x.1 x.2)
def fixF (w : Bool) : List Int → Int → Bool → Fm → Fm
  | [], _, _, fm => fm
  | v :: vs, n, st, fm => fixF w vs (n + 1) st (setF w fm v ⟨n, st⟩)
def fixS (fm : Fm) (vs : List Int) (t : List Trm) : Bool := (t.take vs.length).all fun x => (overF fm x).all fun u => vs.contains u
def callF (fm : Fm) (op k : Int) (t : List Trm) : Int × Int := if op = 5 ∧ (t.headD (.mk 0 0 [] [])).op = 1 then match fm (t.headD (.mk 0 0 [] [])).n with
  | some f => (22, f.code)
  | none => (op, k)
  else (op, k)
def cloT (n : Int) (l : List Trm) : Trm := if l.length = 0 then .mk 21 n [] [] else .mk 19 n [] l
structure ClR where
  t : Trm
  c : List Cod
  fm : Fm
structure ClL where
  v : List Int
  t : List Trm
  last : Trm
  own : List Cod
  c : List Cod
  fm : Fm
abbrev noT : Trm := .mk 0 0 [] []
mutual
def Trm.clo (w : Bool) : Trm → List Int → Nat → Fm → ClR
  | .mk op k v t, ov, n, fm =>
    if op = 1 then ⟨refF fm ov k, [], fm⟩
    else if op = 4 then
      let b := Trm.cloH w t (overF fm (.mk op k v t)) (n + 1) fm
      ⟨cloT n ((if w = true then overF b.fm (.mk op k v t) else overF fm (.mk op k v t)).map (refF b.fm ov)), ⟨v, k == 1, b.t⟩ :: b.c, b.fm⟩
    else if op = 8 then
      let r := Trm.cloL w t v ov n fm []
      ⟨if r.v.length = 0 then r.last else .mk 8 0 r.v (r.t ++ [r.last]), r.c, r.fm⟩
    else if op = 9 then
      let r := Trm.cloF w t v ov n (n + v.length) (fixF w v n (fixS fm v t) fm)
      ⟨if fixS fm v t = true then r.last else .mk 9 0 v (r.t ++ [r.last]), r.own ++ r.c, r.fm⟩
    else
      let r := Trm.clos w t ov n fm
      ⟨.mk (callF fm op k t).1 (callF fm op k t).2 v r.t, r.c, r.fm⟩
def Trm.cloH (w : Bool) : List Trm → List Int → Nat → Fm → ClR
  | [], _, _, fm => ⟨noT, [], fm⟩
  | x :: _, ov, n, fm => Trm.clo w x ov n fm
def Trm.cloB (w : Bool) : Trm → List Int → Nat → Fm → ClR
  | .mk _ _ _ t, ov, n, fm => Trm.cloH w t ov n fm
def Trm.clos (w : Bool) : List Trm → List Int → Nat → Fm → ClL
  | [], _, _, fm => ⟨[], [], noT, [], [], fm⟩
  | x :: xs, ov, n, fm =>
    let a := Trm.clo w x ov n fm
    let b := Trm.clos w xs ov (n + a.c.length) a.fm
    ⟨[], a.t :: b.t, noT, [], a.c ++ b.c, b.fm⟩
def Trm.cloL (w : Bool) : List Trm → List Int → List Int → Nat → Fm → List (Int × Kn) → ClL
  | [], _, _, _, fm, lrn => ⟨[], [], noT, [], [], learnF w lrn fm⟩
  | x :: _, [], ov, n, fm, lrn =>
    let a := Trm.clo w x ov n (learnF w lrn fm)
    ⟨[], [], a.t, [], a.c, a.fm⟩
  | x :: xs, v :: vs, ov, n, fm, lrn =>
    let a := Trm.clo w x ov n fm
    let b := Trm.cloL w xs vs ov (n + a.c.length) a.fm (if x.op = 4 then lrn ++ [(v, ⟨n, a.t.op == 21⟩)] else lrn)
    ⟨if x.op = 4 ∧ a.t.op = 21 then b.v else v :: b.v, if x.op = 4 ∧ a.t.op = 21 then b.t else a.t :: b.t, b.last, [], a.c ++ b.c, b.fm⟩
def Trm.cloF (w : Bool) : List Trm → List Int → List Int → Int → Nat → Fm → ClL
  | [], _, _, _, _, fm => ⟨[], [], noT, [], [], fm⟩
  | x :: _, [], ov, _, n, fm =>
    let a := Trm.clo w x ov n fm
    ⟨[], [], a.t, [], a.c, a.fm⟩
  | x :: xs, _ :: vs, ov, c, n, fm =>
    let a := Trm.cloB w x (overF fm x) n fm
    let b := Trm.cloF w xs vs ov (c + 1) (n + a.c.length) a.fm
    ⟨[], .mk 19 c [] ((if w = true then overF a.fm x else overF fm x).map (refF a.fm ov)) :: b.t, b.last, ⟨x.v, x.n == 1, a.t⟩ :: b.own, a.c ++ b.c, b.fm⟩
end
def conM (p : Prog) : Mdl := let r := p.body.clo false [] 0 (fun _ => none); ⟨p.consts, r.c, r.t⟩
def noM : Mdl := ⟨[], [], noT⟩
def conv13 (p : Prog) : Mdl × Int := if checkP p 2 = 0 then (if mckP (conM p) = 0 then (conM p, 0) else (noM, 5)) else (noM, 5)
end Go.Cb
namespace Go.Cb
open Go.RowKit (Below)
set_option maxRecDepth 100000
set_option maxHeartbeats 4000000
section
variable {P : Program} {tt : Nat → TI}
def fltOf (tt : Nat → TI) : Op → Option (Nat → PV × Ent)
  | .alloc t => match (tt t).und with
    | .other => none
    | _ => some fun b => (.ptr b 0, .box b ((tt t).zero.map ZK.pv))
  | .makeMap t none => match (tt t).und with
    | .mp kt _ => match keyD (tt kt).und with
      | some d => some fun r => (.mp r, .mp r d (fun _ => none) [])
      | none => none
    | _ => none
  | _ => none
theorem fltOf_iff {op : Op} {f : Nat → PV × Ent} (h : fltOf tt op = some f) {T : List PV} {Γ : List Ent} {K : PV → List Ent → Prop} : WOp P tt op T Γ K ↔ ∀ b, K (f b).1 ((f b).2 :: Γ) := by
  unfold fltOf at h
  split at h
  · split at h
    · cases h
    · rename_i hne
      cases h
      simp only [WOp, zerosK_eq]
  · split at h
    · rename_i hu
      split at h
      · rename_i hd
        cases h
        simp only [WOp, hu, hd]
      · cases h
    · cases h
  · cases h
theorem fltOf_noDef {op : Op} {f : Nat → PV × Ent} (h : fltOf tt op = some f) : noDef op = true := by
  cases op <;> first | rfl | cases h
def fDst (ops : Array Oper) (i : Nat) : Option Tmp := (ops[i]?).bind (·.dst)
abbrev FE := Nat → Option (PV × Ent)
def putE (ops : Array Oper) (e : FE) : List Nat → List PV → List PV
  | [], T => T
  | i :: l, T => putE ops e l (match e i with
    | some x => putT T (fDst ops i) x.1
    | none => T)
theorem fm_congr {β : Type} {f g : Nat → Option β} : ∀ {l : List Nat}, (∀ x ∈ l, f x = g x) → l.filterMap f = l.filterMap g
  | [], _ => rfl
  | x :: l, h => by
    rw [List.forall_mem_cons] at h
    rw [List.filterMap_cons, List.filterMap_cons, h.1, fm_congr h.2]
theorem beq_ne {i j : Nat} (h : j ≠ i) : Nat.beq j i = false := by
  cases hb : Nat.beq j i
  · rfl
  · exact (h (Nat.eq_of_beq_eq_true hb)).elim
def entE (e : FE) (l : List Nat) : List Ent := l.filterMap fun i => (e i).map (·.2)
def updE (e : FE) (i : Nat) (x : PV × Ent) : FE := fun j => if j = i then some x else e j
def pendE (e : FE) (l : List Nat) : List Nat := l.filter fun i => (e i).isNone
theorem entE_none {e : FE} {l : List Nat} (h : ∀ i ∈ l, e i = none) : entE e l = [] := by
  unfold entE
  rw [List.filterMap_eq_nil_iff]
  intro i hi
  rw [h i hi]; rfl
theorem putE_none {ops : Array Oper} {e : FE} : ∀ {l : List Nat} {T : List PV}, (∀ i ∈ l, e i = none) → putE ops e l T = T
  | [], _, _ => rfl
  | i :: l, T, h => by
    rw [List.forall_mem_cons] at h
    rw [putE, h.1]
    exact putE_none h.2
theorem updE_ne {e : FE} {i j : Nat} {x : PV × Ent} (h : j ≠ i) : updE e i x j = e j := by simp [updE, h]
theorem updE_self {e : FE} {i : Nat} {x : PV × Ent} : updE e i x i = some x := by simp [updE]
theorem entE_upd {e : FE} {i : Nat} {x : PV × Ent} (he : e i = none) : ∀ {l : List Nat}, i ∈ l → l.Nodup → (entE (updE e i x) l).Perm (x.2 :: entE e l)
  | [], h, _ => by cases h
  | j :: l, h, hn => by
    rw [List.nodup_cons] at hn
    rcases List.mem_cons.1 h with rfl | h
    · have h1 : entE (updE e i x) l = entE e l := by
        unfold entE
        refine fm_congr fun j hj => ?_
        rw [updE_ne (j := j) (i := i) fun e => hn.1 (e ▸ hj)]
      unfold entE at h1 ⊢
      rw [List.filterMap_cons, List.filterMap_cons, updE_self, he, h1]
      exact List.Perm.refl _
    · have hne : j ≠ i := fun e => hn.1 (e ▸ h)
      have ih := entE_upd (x := x) he h hn.2
      unfold entE at ih ⊢
      rw [List.filterMap_cons, List.filterMap_cons, updE_ne hne]
      cases hj : e j with
      | none => simpa using ih
      | some y =>
        simp only [Option.map_some]
        exact (ih.cons _).trans (List.Perm.swap _ _ _)
theorem putE_put {ops : Array Oper} {e : FE} {d : Option Tmp} {v : PV} : ∀ {l : List Nat} {T : List PV}, (∀ i ∈ l, ∀ k, d = some k → fDst ops i ≠ some k) → putE ops e l (putT T d v) = putT (putE ops e l T) d v
  | [], _, _ => rfl
  | i :: l, T, h => by
    rw [List.forall_mem_cons] at h
    rw [putE, putE]
    cases he : e i with
    | none => exact putE_put h.2
    | some x =>
      simp only
      rw [putT_comm T h.1]
      exact putE_put h.2
theorem putE_congr {ops : Array Oper} {e e' : FE} : ∀ {l : List Nat} {T : List PV}, (∀ i ∈ l, e i = e' i) → putE ops e l T = putE ops e' l T
  | [], _, _ => rfl
  | i :: l, T, h => by
    rw [List.forall_mem_cons] at h
    rw [putE, putE, h.1]
    exact putE_congr h.2
theorem putE_upd {ops : Array Oper} {e : FE} {i : Nat} {x : PV × Ent} (he : e i = none) : ∀ {l : List Nat} {T : List PV}, i ∈ l → l.Nodup → (∀ j ∈ l, j ≠ i → ∀ k, fDst ops i = some k → fDst ops j ≠ some k) →
    putE ops (updE e i x) l T = putT (putE ops e l T) (fDst ops i) x.1
  | [], _, h, _, _ => by cases h
  | j :: l, T, h, hn, hd => by
    rw [List.nodup_cons] at hn
    rw [List.forall_mem_cons] at hd
    rcases List.mem_cons.1 h with rfl | h
    · rw [putE, putE, updE_self, he]
      simp only
      rw [putE_congr (e := updE e i x) (e' := e) fun j hj => updE_ne fun e => hn.1 (e ▸ hj)]
      exact putE_put fun j hj => hd.2 j hj fun e => hn.1 (e ▸ hj)
    · have hne : j ≠ i := fun e => hn.1 (e ▸ h)
      rw [putE, putE, updE_ne hne]
      exact putE_upd he h hn.2 hd.2
theorem pendE_upd {e : FE} {i : Nat} {x : PV × Ent} {l l1 l2 : List Nat} (hn : l.Nodup) (h : pendE e l = l1 ++ i :: l2) : pendE (updE e i x) l = l1 ++ l2 := by
  have h1 : pendE (updE e i x) l = (pendE e l).filter fun j => !(Nat.beq j i) := by
    unfold pendE
    rw [List.filter_filter]
    refine List.filter_congr fun j _ => ?_
    by_cases hj : j = i
    · subst hj; rw [updE_self]; simp
    · rw [updE_ne hj]
      simp [beq_ne hj]
  have hn2 : (l1 ++ i :: l2).Nodup := h ▸ hn.sublist List.filter_sublist
  rw [h1, h, List.filter_append, List.filter_cons]
  have hni := (List.perm_middle (a := i) (l₁ := l1) (l₂ := l2)).nodup_iff.1 hn2
  rw [List.nodup_cons, List.mem_append, not_or] at hni
  have hf : ∀ m : List Nat, i ∉ m → m.filter (fun j => !(Nat.beq j i)) = m := fun m hm => List.filter_eq_self.2 fun j hj => by
    rw [beq_ne (j := j) (i := i) fun e => hm (e ▸ hj)]; rfl
  rw [hf l1 hni.1.1, hf l2 hni.1.2]
  simp
theorem mem_pendE {e : FE} {l : List Nat} {i : Nat} : i ∈ pendE e l ↔ i ∈ l ∧ e i = none := by
  unfold pendE
  rw [List.mem_filter, Option.isNone_iff_eq_none]
theorem ev_putE {ops : Array Oper} {e : FE} {o : Oper} : ∀ {l : List Nat} {T : List PV}, (∀ i ∈ l, ∀ k, fDst ops i = some k → k ∉ o.looksAt ops) → ∀ y ∈ o.op.operands.toList, ev (putE ops e l T) y = ev T y
  | [], _, _ => fun _ _ => rfl
  | i :: l, T, h => fun y hy => by
    rw [List.forall_mem_cons] at h
    rw [putE, ev_putE h.2 y hy]
    cases e i with
    | none => rfl
    | some x => exact looks_operands h.1 y hy
theorem SVal_putE {ops : Array Oper} {e : FE} {o : Oper} {Γ : List Ent} {v : PV} : ∀ {l : List Nat} {T : List PV}, (∀ i ∈ l, ∀ k, fDst ops i = some k → k ∉ o.looksAt ops) → (SVal P tt ops.toList o (putE ops e l T) Γ v ↔ SVal P tt ops.toList o T Γ v)
  | [], _, _ => Iff.rfl
  | i :: l, T, h => by
    rw [List.forall_mem_cons] at h
    rw [putE, SVal_putE h.2]
    cases e i with
    | none => exact Iff.rfl
    | some x => exact SVal_put h.1
def EOk (tt : Nat → TI) (ops : Array Oper) (e : FE) (l : List Nat) : Prop := ∀ i ∈ l, e i = none ∨ ∃ o f b, ops[i]? = some o ∧ fltOf tt o.op = some f ∧ e i = some (f b)
structure Flts (tt : Nat → TI) (ops : Array Oper) (l : List Nat) : Prop where
  fl : ∀ i ∈ l, ∃ o f, ops[i]? = some o ∧ o.guard = none ∧ fltOf tt o.op = some f
  ff : l.Pairwise fun j i => apartAt ops j i = true
  nd : l.Nodup
theorem apart_dst {ops : Array Oper} {j i : Nat} (h : apartAt ops j i = true) : ∀ k, fDst ops i = some k → fDst ops j ≠ some k := by
  intro k hk hj
  unfold apartAt at h
  unfold fDst at hk hj
  cases hx : ops[j]? with
  | none => rw [hx] at hj; cases hj
  | some x =>
    cases hy : ops[i]? with
    | none => rw [hy] at hk; cases hk
    | some y =>
      rw [hx, hy] at h
      rw [hx] at hj
      rw [hy] at hk
      obtain ⟨a1, a2, a3⟩ := Oper.apart_spec h
      simp only [Option.bind_some] at hk hj
      exact a2 k hj hk
theorem Flts.dst {ops : Array Oper} {l : List Nat} (h : Flts tt ops l) : ∀ i ∈ l, ∀ j ∈ l, j ≠ i → ∀ k, fDst ops i = some k → fDst ops j ≠ some k := by
  intro i hi j hj hne k hk hjk
  have key : ∀ {l : List Nat}, l.Pairwise (fun j i => apartAt ops j i = true) → i ∈ l → j ∈ l → apartAt ops i j = true ∨ apartAt ops j i = true := by
    intro l hp hi hj
    induction l with
    | nil => cases hi
    | cons x l ih =>
      rw [List.pairwise_cons] at hp
      rcases List.mem_cons.1 hi with e1 | h1
      · rcases List.mem_cons.1 hj with e2 | h2
        · exact (hne (e2.trans e1.symm)).elim
        · subst e1; exact .inl (hp.1 j h2)
      · rcases List.mem_cons.1 hj with e2 | h2
        · subst e2; exact .inr (hp.1 i h1)
        · exact ih hp.2 h1 h2
  rcases key h.ff hi hj with h | h
  · exact apart_dst h k hjk hk
  · exact apart_dst h k hk hjk
theorem flt_step (hk : TT.ok P tt) {rd : Option Nat} {nn : Nat} {ops : Array Oper} {l : List Nat} (hF : Flts tt ops l) {e : FE} {i : Nat} {o : Oper} (hi : i ∈ l) (he : e i = none) (ho : ops[i]? = some o) (hE : EOk tt ops e l)
    {w0 : World} {F : Fz} {Γ M : List Ent} {w : World} {T : List PV} {a : Act} {next : Act → World → Prop} {Q : Exit → Act → World → Prop} (hS : Sim w0 F (Γ ++ (entE e l ++ M)) w) (hT : RepT F (putE ops e l T) a.tmps.toList)
    (hn : ∀ e' F' u w', EOk tt ops e' l → e' = updE e i ((e' i).getD (.any, .tok (nilTok 0 0))) → F.le F' → Sim w0 F' (Γ ++ (entE e' l ++ M)) w' → RepT F' (putE ops e' l T) (a.put o.dst u).tmps.toList → next (a.put o.dst u) w') :
    wpOpIn (Fen rd) nn P ops Q i next a w := by
  obtain ⟨o', f, ho', hg, hf⟩ := hF.fl i hi
  rw [ho] at ho'
  cases ho'
  unfold wpOpIn
  simp only [ho]
  rw [if_pos (by simp [Region.wanted, hg])]
  have hW : WOp P tt o.op (putE ops e l T) [] fun x Γ' => ∃ b, x = (f b).1 ∧ Γ' = [(f b).2] := (fltOf_iff hf).2 fun b => ⟨b, rfl, rfl⟩
  refine WOp_sound hk (Γ := []) (M := Γ ++ (entE e l ++ M)) hS hT hW ?_
  rintro F' x Γ' u w' hle hS' hx ⟨b, rfl, rfl⟩
  have hp := entE_upd (x := f b) he hi hF.nd
  have hd : fDst ops i = o.dst := by simp [fDst, ho]
  refine hn (updE e i (f b)) F' u w' ?_ (by rw [updE_self]; rfl) hle ?_ ?_
  · intro j hj
    by_cases hji : j = i
    · subst hji; rw [updE_self]; exact .inr ⟨o, f, b, ho, hf, rfl⟩
    · rw [updE_ne hji]; exact hE j hj
  · refine hS'.perm ?_
    have h1 : ((f b).2 :: (Γ ++ (entE e l ++ M))).Perm (Γ ++ ((f b).2 :: (entE e l ++ M))) := List.perm_middle.symm
    refine h1.trans ?_
    have h2 : ((f b).2 :: (entE e l ++ M)).Perm (entE (updE e i (f b)) l ++ M) := (hp.symm.append_right M)
    exact h2.append_left Γ
  · rw [putE_upd he hi hF.nd (hF.dst i hi), hd]
    exact put_rep (RepT.mono hle _ _ hT) hx o.dst
theorem flts_done {ops : Array Oper} {e : FE} {K : List PV → List Ent → Ds → Prop} : ∀ (l : List Nat) (T : List PV) (Γ : List Ent), (∀ i ∈ l, ∃ o f b, ops[i]? = some o ∧ o.guard = none ∧ fltOf tt o.op = some f ∧ e i = some (f b)) →
    WOps P tt ops.toList (l.filterMap (ops[·]?)) T Γ [] K → ∃ Γ4, K (putE ops e l T) Γ4 [] ∧ Γ4.Perm (entE e l ++ Γ)
  | [], T, Γ, _, h => ⟨Γ, h, List.Perm.refl _⟩
  | i :: l, T, Γ, hl, h => by
    rw [List.forall_mem_cons] at hl
    obtain ⟨o, f, b, ho, hg, hf, he⟩ := hl.1
    rw [List.filterMap_cons, ho] at h
    simp only [WOps, hg, WOpD_noDef (fltOf_noDef hf), putK_T] at h
    have h2 := (fltOf_iff hf).1 h b
    obtain ⟨Γ4, h3, h4⟩ := flts_done l _ _ hl.2 h2
    refine ⟨Γ4, ?_, h4.trans ?_⟩
    · rw [putE, he]
      have hd : fDst ops i = o.dst := by simp [fDst, ho]
      rw [hd]; exact h3
    · unfold entE
      rw [List.filterMap_cons, he]
      exact List.perm_middle
theorem gameF (hk : TT.ok P tt) (rd : Option Nat) (nn : Nat) {ops : Array Oper} {tab Fl R2 : List Nat} (hF : Flts tt ops Fl) (hc : tabChk ops tab = true) {w0 : World} {M Γ2 : List Ent} {F0 : Fz} {ds : List Deferred} {Q' : Exit → Act → World → Prop}
    {Tl : List PV → List Ent → Prop} (hTl : ∀ (fuel : Nat) (listed : Array Bool) (T : List PV) (Γ : List Ent) (e : FE) (F : Fz) (a : Act) (w : World), (pendE e Fl).length + R2.length ≤ fuel → Down ops listed → Pend ops listed (pendE e Fl ++ R2) → EOk tt ops e Fl → F0.le F →
      Sim w0 F (Γ ++ (entE e Fl ++ M)) w → RepT F (putE ops e Fl T) a.tmps.toList → a.defers = ds → Tl T Γ → wpAnyIn (Fen rd) nn P .any ops Q' fuel listed a w) :
    ∀ (n : Nat) (A R1 : List Nat) (e : FE) (fuel : Nat) (listed : Array Bool) (T : List PV) (Γ1 : List Ent) (F : Fz) (a : Act) (w : World), A.length + R1.length + (pendE e Fl).length = n → n + R2.length ≤ fuel →
      Down ops listed → Pend ops listed (A ++ (R1 ++ (pendE e Fl ++ R2))) → Split0 ops tab A R1 R2 → (∀ j ∈ A ++ R1, ∀ i ∈ Fl, apartAt ops j i = true) → EOk tt ops e Fl → F0.le F → Sim w0 F (Γ1 ++ (Γ2 ++ (entE e Fl ++ M))) w → RepT F (putE ops e Fl T) a.tmps.toList → a.defers = ds →
      (SSeq P tt ops.toList (A.filterMap (ops[·]?)) T Γ2 fun T' => WOps P tt ops.toList (R1.filterMap (ops[·]?)) T' Γ1 [] fun T2 Γ1' _ => Tl T2 (Γ1' ++ Γ2)) →
      wpAnyIn (Fen rd) nn P .any ops Q' fuel listed a w := by
  intro n
  induction n with
  | zero =>
    intro A R1 e fuel listed T Γ1 F a w hn hf hd hp hsp hfx hE hle hS hT hds h
    obtain rfl : A = [] := List.eq_nil_of_length_eq_zero (by omega)
    obtain rfl : R1 = [] := List.eq_nil_of_length_eq_zero (by omega)
    exact hTl fuel listed T (Γ1 ++ Γ2) e F a w (by simp at hn; rw [hn]; simpa using hf) hd (by simpa using hp) hE hle (by simpa using hS) hT hds h
  | succ n ih =>
    intro A R1 e fuel listed T Γ1 F a w hn hf hd hp hsp hfx hE hle hS hT hds h
    by_cases hAR0 : A = [] ∧ R1 = []
    · obtain ⟨rfl, rfl⟩ := hAR0
      exact hTl fuel listed T (Γ1 ++ Γ2) e F a w (by simp at hn; omega) hd (by simpa using hp) hE hle (by simpa using hS) hT hds h
    cases fuel with
    | zero => omega
    | succ fuel =>
    refine ⟨fun hnil => ?_, fun i hi => ?_⟩
    · exfalso
      cases hAR : A ++ (R1 ++ (pendE e Fl ++ R2)) with
      | nil => simp at hAR; exact hAR0 ⟨hAR.1, hAR.2.1⟩
      | cons x xs =>
        rw [hAR] at hp
        obtain ⟨k, hk'⟩ := ready_exists hc hp
        rw [hnil] at hk'
        cases hk'
    · obtain ⟨o, ho⟩ := hp.2.2 i (hp.ready hi)
      have un : ∀ {j : Nat}, j ∈ A ++ (R1 ++ (pendE e Fl ++ R2)) → anc tab i j = true → False := fun {j} hj ha => blocked hc hd i ho ha ((hp.2.1 j).2 hj) hi
      have free : ∀ {j : Nat} {x : Oper}, j ∈ A ++ (R1 ++ (pendE e Fl ++ R2)) → ops[j]? = some x → (anc tab i j = true ∨ apartAt ops j i = true) → x.apart ops o = true := by
        intro j x hj hx h
        rcases h with h | h
        · exact (un hj h).elim
        · simpa [apartAt, hx, ho] using h
      have looks : i ∈ A ++ R1 → ∀ f ∈ Fl, ∀ k, fDst ops f = some k → k ∉ o.looksAt ops := by
        intro hiA f hf k hk
        have := hfx i hiA f hf
        obtain ⟨of, _, hof, _, _⟩ := hF.fl f hf
        simp only [apartAt, ho, hof] at this
        obtain ⟨a1, a2, a3⟩ := Oper.apart_spec this
        exact a3 k (by simpa [fDst, hof] using hk)
      have dsts : i ∈ A ++ R1 → ∀ f ∈ Fl, ∀ k, o.dst = some k → fDst ops f ≠ some k := by
        intro hiA f hf k hk hfk
        exact apart_dst (hfx i hiA f hf) k hfk (by simp [fDst, ho, hk])
      have hmem := hp.ready hi
      rw [List.mem_append, List.mem_append, List.mem_append] at hmem
      rcases hmem with hm | hm | hm | hm
      ·
        obtain ⟨A1, A2, rfl⟩ := List.append_of_mem hm
        rw [filterMap_split ho] at h
        have hap : ∀ x ∈ A1.filterMap (ops[·]?), x.apart ops o = true := by
          intro x hx
          obtain ⟨j, hj, hx⟩ := List.mem_filterMap.1 hx
          exact free (by simp [hj]) hx ((List.pairwise_append.1 hsp.pa).2.2 j hj i (by simp))
        obtain ⟨v, h1, h2⟩ := SSeq_move _ T hap h
        have h1' := (SVal_putE (e := e) (looks (by simp))).2 h1
        have hS2 : Sim w0 F (Γ2 ++ (Γ1 ++ (entE e Fl ++ M))) w := hS.perm (by
          rw [← List.append_assoc, ← List.append_assoc Γ2]
          exact List.perm_append_comm.append_right _)
        unfold wpOpIn
        simp only [ho]
        have key := SVal_sound hk (rd := rd) (nn := nn) (Q := Q') (next := fun a w => wpAnyIn (Fen rd) nn P .any ops Q' fuel (listed.setIfInBounds i true) a w) hS2 hT h1' ?_
        · split at key <;> rename_i hw
          · rw [if_pos hw]; exact key
          · rw [if_neg hw]; exact ⟨fun _ _ => trivial, key⟩
        intro F' u w' hle' hS' hx
        refine ih (A1 ++ A2) R1 e fuel _ (putT T o.dst v) Γ1 F' _ w' (by simp at hn ⊢; omega) (by omega) (hd.set hi) ?_ hsp.dropA (fun j hj => hfx j ?_) hE (Fz.le_trans hle hle') ?_ ?_
          ((put_defers a o.dst u).trans hds) ?_
        · have := Pend.set (l1 := A1) (l2 := A2 ++ (R1 ++ (pendE e Fl ++ R2))) (i := i) (by simpa using hp)
          rwa [List.append_assoc]
        · simp only [List.mem_append, List.mem_cons] at hj ⊢
          rcases hj with (h | h) | h
          · exact .inl (.inl h)
          · exact .inl (.inr (.inr h))
          · exact .inr h
        · exact hS'.perm (by
            rw [← List.append_assoc, ← List.append_assoc Γ1]
            exact List.perm_append_comm.append_right _)
        · rw [putE_put (dsts (by simp))]
          exact put_rep (RepT.mono hle' _ _ hT) hx o.dst
        · rw [List.filterMap_append]; exact h2
      ·
        cases R1 with
        | nil => cases hm
        | cons r R1 =>
          rcases List.mem_cons.1 hm with hir | hir
          · subst hir
            have hg : o.guard = none := hsp.ug i (by simp) o ho
            have e1 : (i :: R1).filterMap (ops[·]?) = o :: R1.filterMap (ops[·]?) := by rw [List.filterMap_cons, ho]
            rw [e1] at h
            have hap : ∀ x ∈ A.filterMap (ops[·]?), x.apart ops o = true := by
              intro x hx
              obtain ⟨j, hj, hx⟩ := List.mem_filterMap.1 hx
              exact free (by simp [hj]) hx (hsp.par j hj i (by simp))
            have h2 := SSeq_eff (kk := fun T' Γ1' => WOps P tt ops.toList (R1.filterMap (ops[·]?)) T' Γ1' [] fun T2 Γ1' _ => Tl T2 (Γ1' ++ Γ2)) _ T hap (by
              have hnd := hsp.nd i (by simp) o ho
              simpa only [WOps, hg, WOpD_noDef hnd, putK_T] using h)
            have h3 := WOp_congr (T' := putE ops e Fl T) (fun y hy => (ev_putE (looks (by simp)) y hy).symm) h2
            unfold wpOpIn
            simp only [ho]
            rw [if_pos (by simp [Region.wanted, hg])]
            refine WOp_sound hk (M := Γ2 ++ (entE e Fl ++ M)) hS hT h3 ?_
            rintro F' x Γ' v' w' hle' hS' hx hK
            refine ih A R1 e fuel _ (putT T o.dst x) Γ' F' _ w' (by simp at hn ⊢; omega) (by omega) (hd.set hi) ?_ hsp.dropR (fun j hj => hfx j ?_) hE (Fz.le_trans hle hle') hS' ?_
              ((put_defers a o.dst v').trans hds) hK
            · have := Pend.set (l1 := A) (l2 := R1 ++ (pendE e Fl ++ R2)) (i := i) (by simpa using hp)
              simpa using this
            · simp only [List.mem_append, List.mem_cons] at hj ⊢
              rcases hj with h | h
              · exact .inl h
              · exact .inr (.inr h)
            · rw [putE_put (dsts (by simp))]
              exact put_rep (RepT.mono hle' _ _ hT) hx o.dst
          · exact (un (j := r) (by simp) ((List.pairwise_cons.1 hsp.r1).1 i hir)).elim
      ·
        obtain ⟨hiF, hie⟩ := mem_pendE.1 hm
        obtain ⟨l1, l2, hl⟩ := List.append_of_mem hm
        have hS2 : Sim w0 F ((Γ1 ++ Γ2) ++ (entE e Fl ++ M)) w := by simpa using hS
        refine flt_step hk hF hiF hie ho hE hS2 hT ?_
        intro e' F' u w' hE' he' hle' hS' hT'
        have hpe : pendE e' Fl = l1 ++ l2 := by rw [he']; exact pendE_upd hF.nd hl
        have hlen : (pendE e Fl).length = l1.length + l2.length + 1 := by rw [hl]; simp; omega
        refine ih A R1 e' fuel _ T Γ1 F' _ w' (by rw [hpe]; simp; omega) (by omega) (hd.set hi) ?_ hsp hfx hE' (Fz.le_trans hle hle') (by simpa using hS') hT' ((put_defers a o.dst u).trans hds) h
        rw [hpe]
        have := Pend.set (l1 := A ++ (R1 ++ l1)) (l2 := l2 ++ R2) (i := i) (by rw [hl] at hp; simpa using hp)
        simpa using this
      ·
        exfalso
        cases A with
        | cons j A => exact un (j := j) (by simp) (hsp.tl j (by simp) i hm)
        | nil =>
          cases R1 with
          | cons j R1 => exact un (j := j) (by simp) (hsp.tl j (by simp) i hm)
          | nil => exact hAR0 ⟨rfl, rfl⟩
theorem gameF2 (hk : TT.ok P tt) (rd : Option Nat) (nn : Nat) {ops : Array Oper} {tab Fl R2 : List Nat} (hF : Flts tt ops Fl) (hc : tabChk ops tab = true) (hr2 : R2.Pairwise fun j i => anc tab i j = true) (hfr : ∀ j ∈ Fl, ∀ i ∈ R2, anc tab i j = true)
    (hnd : ∀ i ∈ R2, ∀ o, ops[i]? = some o → noDef o.op = true) {w0 : World} {M : List Ent} {F0 : Fz} {ds : List Deferred} {Q' : Exit → Act → World → Prop}
    {K : List PV → List Ent → Prop} (hQ : ∀ F' T' Γ' a' w', F0.le F' → Sim w0 F' (Γ' ++ M) w' → RepT F' T' a'.tmps.toList → a'.defers = ds → K T' Γ' → Q' .normal a' w') :
    ∀ (n : Nat) (e : FE) (fuel : Nat) (listed : Array Bool) (T : List PV) (Γ : List Ent) (F : Fz) (a : Act) (w : World), (pendE e Fl).length = n → n + R2.length ≤ fuel →
      Down ops listed → Pend ops listed (pendE e Fl ++ R2) → EOk tt ops e Fl → F0.le F → Sim w0 F (Γ ++ (entE e Fl ++ M)) w → RepT F (putE ops e Fl T) a.tmps.toList → a.defers = ds →
      (WOps P tt ops.toList (Fl.filterMap (ops[·]?)) T Γ [] fun T4 Γ4 _ => WOps P tt ops.toList (R2.filterMap (ops[·]?)) T4 Γ4 [] fun T' Γ' _ => K T' Γ') →
      wpAnyIn (Fen rd) nn P .any ops Q' fuel listed a w := by
  intro n
  induction n with
  | zero =>
    intro e fuel listed T Γ F a w hn hf hd hp hE hle hS hT hds h
    have hnil : pendE e Fl = [] := List.eq_nil_of_length_eq_zero hn
    obtain ⟨Γ4, h4, hpm⟩ := flts_done (e := e) Fl T Γ (fun i hi => by
      rcases hE i hi with h0 | ⟨o, f, b, ho, hf, he⟩
      · have : i ∈ pendE e Fl := mem_pendE.2 ⟨hi, h0⟩
        rw [hnil] at this; cases this
      · obtain ⟨o', f', ho', hg, _⟩ := hF.fl i hi
        rw [ho] at ho'; cases ho'
        exact ⟨o, f, b, ho, hg, hf, he⟩) h
    have hS4 : Sim w0 F (Γ4 ++ M) w := hS.perm (by
      rw [← List.append_assoc]
      exact (List.perm_append_comm.trans hpm.symm).append_right M)
    refine wpAny_chain hc R2 fuel listed a w (by omega) hd (by simpa [hnil] using hp) hr2 (wpOps_filter (fun _ => trivial) ops _ _ a w ?_)
    refine WOps_sound hk rd nn ops (ds := ds) (K := fun T' Γ' D' => D' = [] ∧ K T' Γ') ?_ _ (.inr (quiet_of fun o ho => by
      obtain ⟨j, hj, ho⟩ := List.mem_filterMap.1 ho
      exact hnd j hj o ho)) _ Γ4 [] F a w hle hS4 hT (by rw [hds]; exact DRel.nil F ds) (WOps_keep _ _ _ _ _ ?_ h4)
    · rintro F' T' Γ' D' a' w' k1 k2 k3 ⟨new, k4, k5⟩ ⟨rfl, k6⟩
      have : new = [] := by cases new with
        | nil => rfl
        | cons d l => exact k5.elim
      subst this
      exact hQ F' T' Γ' a' w' k1 k2 k3 k4 k6
    · intro o ho
      obtain ⟨j, hj, ho⟩ := List.mem_filterMap.1 ho
      exact hnd j hj o ho
  | succ n ih =>
    intro e fuel listed T Γ F a w hn hf hd hp hE hle hS hT hds h
    cases fuel with
    | zero => omega
    | succ fuel =>
    have hpos : ∃ j, j ∈ pendE e Fl := by
      cases hpe : pendE e Fl with
      | nil => rw [hpe] at hn; cases hn
      | cons j l => exact ⟨j, by simp⟩
    obtain ⟨j0, hj0⟩ := hpos
    refine ⟨fun hnil => ?_, fun i hi => ?_⟩
    · exfalso
      cases hAR : pendE e Fl ++ R2 with
      | nil => simp at hAR; rw [hAR.1] at hn; cases hn
      | cons x xs =>
        rw [hAR] at hp
        obtain ⟨k, hk'⟩ := ready_exists hc hp
        rw [hnil] at hk'
        cases hk'
    · obtain ⟨o, ho⟩ := hp.2.2 i (hp.ready hi)
      rcases List.mem_append.1 (hp.ready hi) with hm | hm
      · obtain ⟨hiF, hie⟩ := mem_pendE.1 hm
        obtain ⟨l1, l2, hl⟩ := List.append_of_mem hm
        refine flt_step hk hF hiF hie ho hE hS hT ?_
        intro e' F' u w' hE' he' hle' hS' hT'
        have hpe : pendE e' Fl = l1 ++ l2 := by rw [he']; exact pendE_upd hF.nd hl
        have hlen : (pendE e Fl).length = l1.length + l2.length + 1 := by rw [hl]; simp; omega
        refine ih e' fuel _ T Γ F' _ w' (by rw [hpe]; simp; omega) (by omega) (hd.set hi) ?_ hE' (Fz.le_trans hle hle') hS' hT' ((put_defers a o.dst u).trans hds) h
        rw [hpe]
        have := Pend.set (l1 := l1) (l2 := l2 ++ R2) (i := i) (by rw [hl] at hp; simpa using hp)
        simpa using this
      · exact (blocked hc hd i ho (hfr j0 (mem_pendE.1 hj0).1 i hm) ((hp.2.1 j0).2 (by simp [hj0])) hi).elim
def splitFB (tt : Nat → TI) (ops : Array Oper) (tab A R1 B Fl R2 : List Nat) : Bool :=
  tabChk ops tab &&
  pairB (fun j i => anc tab i j || apartAt ops j i) A && A.all (fun j => R1.all fun i => anc tab i j || apartAt ops j i) &&
  pairB (fun j i => anc tab i j) R1 && (A ++ R1).all (fun j => (B ++ R2).all fun i => anc tab i j) &&
  R1.all (fun i => match ops[i]? with | some o => o.guard.isNone | none => false) && (R1 ++ R2).all (fun i => match ops[i]? with | some o => noDef o.op | none => false) &&
  pairB (fun j i => anc tab i j || apartAt ops j i) B && pairB (fun j i => anc tab i j) R2 && B.all (fun j => R2.all fun i => anc tab i j) &&
  Fl.all (fun i => match ops[i]? with | some o => o.guard.isNone && (fltOf tt o.op).isSome | none => false) && pairB (fun j i => apartAt ops j i) Fl && (A ++ (R1 ++ B)).all (fun j => Fl.all fun i => apartAt ops j i) && Fl.all (fun j => R2.all fun i => anc tab i j) &&
  pairB (fun j i => !(Nat.beq j i)) (A ++ (R1 ++ (B ++ (Fl ++ R2)))) && (List.range ops.size).all (fun i => (A ++ (R1 ++ (B ++ (Fl ++ R2)))).contains i) && (A ++ (R1 ++ (B ++ (Fl ++ R2)))).all (fun i => Nat.blt i ops.size)
theorem PDraw.splitF (hk : TT.ok P tt) (hm : P.follows .mixedOrders = true) {ops : Array Oper} {T : List PV} {Γ Γ2 : List Ent} {K : List PV → List Ent → Prop} (tab A R1 B Fl R2 : List Nat) (Γ1 : List Ent)
    (hchk : splitFB tt ops tab A R1 B Fl R2 = true) [hp : PickL Γ Γ1 Γ2]
    (h : SSeq P tt ops.toList (pickO ops.toList A) T Γ2 fun T' => WOps P tt ops.toList (pickO ops.toList R1) T' Γ1 [] fun T2 Γ1' _ => appE Γ1' Γ2 fun Γ' =>
      SSeq P tt ops.toList (pickO ops.toList B) T2 Γ' fun T3 => WOps P tt ops.toList (pickO ops.toList Fl) T3 Γ' [] fun T4 Γ4 _ => WOps P tt ops.toList (pickO ops.toList R2) T4 Γ4 [] fun T' Γ' _ => K T' Γ') : PDraw P ops T Γ K := by
  refine ⟨fun rd nn id w0 F M w a Q' hS hT hQ => wpIn_region_any hm ?_⟩
  simp only [splitFB, Bool.and_eq_true] at hchk
  obtain ⟨⟨⟨⟨⟨⟨⟨⟨⟨⟨⟨⟨⟨⟨⟨⟨h0, h1⟩, h2⟩, h3⟩, h5⟩, h6⟩, h6'⟩, b1⟩, b2⟩, b3⟩, f1⟩, f2⟩, f3⟩, f4⟩, h7⟩, h8⟩, h9⟩ := hchk
  have hlt : ∀ i ∈ A ++ (R1 ++ (B ++ (Fl ++ R2))), i < ops.size := fun i hi => by
    have := List.all_eq_true.1 h9 i hi
    simpa [Nat.blt, Nat.succ_le_iff] using this
  have hnd : ∀ i ∈ R1 ++ R2, ∀ o, ops[i]? = some o → noDef o.op = true := by
    intro i hi o ho
    have := List.all_eq_true.1 h6' i hi
    rw [ho] at this
    exact this
  have hnodup : (A ++ (R1 ++ (B ++ (Fl ++ R2)))).Nodup := (pairB_iff h7).imp fun h => by
    intro e
    subst e
    simp at h
  have hpend : Pend ops (Array.replicate ops.size false) (A ++ (R1 ++ (B ++ (Fl ++ R2)))) := by
    refine ⟨hnodup, ?_, fun i hi => ⟨_, Array.getElem?_eq_getElem (hlt i hi)⟩⟩
    intro i
    constructor
    · intro hi
      rcases Nat.lt_or_ge i ops.size with h' | h'
      · have := List.all_eq_true.1 h8 i (List.mem_range.2 h')
        simpa only [List.contains_iff_mem] using this
      · simp [Array.getElem?_eq_none, h'] at hi
    · intro hi
      simp [hlt i hi]
  have hF : Flts tt ops Fl := by
    refine ⟨fun i hi => ?_, pairB_iff f2, ?_⟩
    · have := List.all_eq_true.1 f1 i hi
      cases ho : ops[i]? with
      | none => rw [ho] at this; cases this
      | some o =>
        rw [ho] at this
        simp only [Bool.and_eq_true, Option.isNone_iff_eq_none, Option.isSome_iff_exists] at this
        obtain ⟨g, f, hf⟩ := this
        exact ⟨o, f, rfl, g, hf⟩
    · exact hnodup.sublist (((List.sublist_append_left Fl R2).trans (List.sublist_append_right B _)).trans ((List.sublist_append_right R1 _).trans (List.sublist_append_right A _)))
  have hs1 : Split0 ops tab A R1 (B ++ R2) := by
    refine ⟨(pairB_iff h1).imp fun h => by simpa using h, fun j hj i hi => ?_, pairB_iff h3, fun j hj i hi => ?_, fun i hi o ho => ?_, fun i hi => hnd i (by simp [hi])⟩
    · have := List.all_eq_true.1 (List.all_eq_true.1 h2 j hj) i hi
      simpa using this
    · exact List.all_eq_true.1 (List.all_eq_true.1 h5 j hj) i hi
    · have := List.all_eq_true.1 h6 i hi
      rw [ho] at this
      simpa using this
  have hs2 : Split0 ops tab B [] R2 := by
    refine ⟨(pairB_iff b1).imp fun h => by simpa using h, fun _ _ _ h => (by cases h), List.Pairwise.nil, fun j hj i hi => ?_, fun _ h => (by cases h), fun _ h => (by cases h)⟩
    exact List.all_eq_true.1 (List.all_eq_true.1 b3 j (by simpa using hj)) i hi
  have hfx : ∀ j ∈ A ++ (R1 ++ B), ∀ i ∈ Fl, apartAt ops j i = true := fun j hj i hi => List.all_eq_true.1 (List.all_eq_true.1 f3 j hj) i hi
  have hfr : ∀ j ∈ Fl, ∀ i ∈ R2, anc tab i j = true := fun j hj i hi => List.all_eq_true.1 (List.all_eq_true.1 f4 j hj) i hi
  have hlen : A.length + R1.length + (B.length + (Fl.length + R2.length)) ≤ ops.size := by
    have hsub : (A ++ (R1 ++ (B ++ (Fl ++ R2)))) ⊆ List.range ops.size := fun i hi => List.mem_range.2 (hlt i hi)
    have := hpend.1.length_le_of_subset hsub
    simpa [Nat.add_assoc] using this
  have hS' : Sim w0 F (Γ1 ++ (Γ2 ++ M)) { w with drawn := w.drawn + 1 } := by
    have := (hS.perm (hp.p.append_right M)).of_heap (w' := { w with drawn := w.drawn + 1 }) rfl rfl rfl rfl
    simpa using this
  have e0 : ∀ i ∈ Fl, (fun _ => none : FE) i = none := fun _ _ => rfl
  have p0 : pendE (fun _ => none) Fl = Fl := List.filter_eq_self.2 fun _ _ => rfl
  refine gameF hk rd nn hF h0 (w0 := w0) (tab := tab) (R2 := B ++ R2) (Γ2 := Γ2) (M := M) (F0 := F) (ds := a.defers) (Tl := fun T2 Γ' => SSeq P tt ops.toList (pickO ops.toList B) T2 Γ' fun T3 => WOps P tt ops.toList (pickO ops.toList Fl) T3 Γ' [] fun T4 Γ4 _ => WOps P tt ops.toList (pickO ops.toList R2) T4 Γ4 [] fun T' Γ' _ => K T' Γ') ?_
    _ A R1 (fun _ => none) ops.size _ T Γ1 F a _ rfl ?_ ?_ ?_ hs1 (fun j hj i hi => hfx j (by simp only [List.mem_append] at hj ⊢; rcases hj with h | h; exact .inl h; exact .inr (.inl h)) i hi) (fun i hi => .inl rfl) (Fz.le_refl F) ?_ ?_ rfl ?_
  · intro fuel listed T2 Γ' e F' a' w' hf hd hpd hE hle hS2 hT2 hds ht
    refine gameF hk rd nn hF h0 (w0 := w0) (tab := tab) (R2 := R2) (Γ2 := Γ') (M := M) (F0 := F) (ds := a.defers) (Tl := fun T3 Γ' => WOps P tt ops.toList (pickO ops.toList Fl) T3 Γ' [] fun T4 Γ4 _ => WOps P tt ops.toList (pickO ops.toList R2) T4 Γ4 [] fun T' Γ' _ => K T' Γ') ?_
      _ B [] e fuel listed T2 [] F' a' w' rfl (by simp at hf ⊢; omega) hd ?_ hs2 (fun j hj i hi => hfx j (by simp at hj ⊢; exact .inr (.inr hj)) i hi) hE hle (by simpa using hS2) hT2 hds ?_
    · intro fuel3 listed3 T3 Γ3 e3 F3 a3 w3 hf3 hd3 hpd3 hE3 hle3 hS3 hT3 hds3 ht3
      refine gameF2 hk rd nn hF h0 (pairB_iff b2) hfr (fun i hi => hnd i (by simp [hi])) (F0 := F) (ds := a.defers) hQ _ e3 fuel3 listed3 T3 Γ3 F3 a3 w3 rfl hf3 hd3 hpd3 hE3 hle3 hS3 hT3 hds3 ?_
      simpa only [pickO_eq, Array.getElem?_toList] using ht3
    · simp only [List.nil_append]
      refine ⟨?_, fun i => ?_, fun i hi => hpd.2.2 i ?_⟩
      · have hperm : (pendE e Fl ++ (B ++ R2)).Perm (B ++ (pendE e Fl ++ R2)) := by
          rw [← List.append_assoc, ← List.append_assoc]
          exact List.perm_append_comm.append_right R2
        exact hperm.nodup_iff.1 hpd.1
      · rw [hpd.2.1 i]
        simp only [List.mem_append]
        constructor
        · rintro (h | h | h)
          · exact .inr (.inl h)
          · exact .inl h
          · exact .inr (.inr h)
        · rintro (h | h | h)
          · exact .inr (.inl h)
          · exact .inl h
          · exact .inr (.inr h)
      · simp only [List.mem_append] at hi ⊢
        rcases hi with h | h | h
        · exact .inr (.inl h)
        · exact .inl h
        · exact .inr (.inr h)
    · simpa only [pickO_eq, Array.getElem?_toList, List.filterMap_nil, WOps, List.nil_append] using ht
  · rw [p0]; simp; omega
  · intro k o hk'
    rcases Nat.lt_or_ge k ops.size with h' | h'
    · simp [h'] at hk'
    · intro ho
      have := (Array.getElem?_eq_some_iff.1 ho).1
      omega
  · rw [p0]
    refine ⟨?_, fun i => ?_, fun i hi => hpend.2.2 i ?_⟩
    · have hperm : (A ++ (R1 ++ (B ++ (Fl ++ R2)))).Perm (A ++ (R1 ++ (Fl ++ (B ++ R2)))) := by
        refine List.Perm.append_left A (List.Perm.append_left R1 ?_)
        rw [← List.append_assoc, ← List.append_assoc]
        exact List.perm_append_comm.append_right R2
      exact hperm.nodup_iff.1 hpend.1
    · rw [hpend.2.1 i]
      simp only [List.mem_append]
      constructor
      · rintro (h | h | h | h | h)
        · exact .inl h
        · exact .inr (.inl h)
        · exact .inr (.inr (.inr (.inl h)))
        · exact .inr (.inr (.inl h))
        · exact .inr (.inr (.inr (.inr h)))
      · rintro (h | h | h | h | h)
        · exact .inl h
        · exact .inr (.inl h)
        · exact .inr (.inr (.inr (.inl h)))
        · exact .inr (.inr (.inl h))
        · exact .inr (.inr (.inr (.inr h)))
    · simp only [List.mem_append] at hi ⊢
      rcases hi with h | h | h | h | h
      · exact .inl h
      · exact .inr (.inl h)
      · exact .inr (.inr (.inr (.inl h)))
      · exact .inr (.inr (.inl h))
      · exact .inr (.inr (.inr (.inr h)))
  · rw [entE_none e0]; simpa using hS'
  · rw [putE_none e0]; exact hT
  · simpa only [pickO_eq, Array.getElem?_toList, appE_eq] using h
theorem PDraw.sF (d : Option Nat) {ops : Array Oper} (hd : fstDst ops = d) (Γ1 : List Ent) (R1 B Fl R2 : List Nat) (hk : TT.ok P tt) (hm : P.follows .mixedOrders = true) {T : List PV} {Γ Γ2 : List Ent} {K : List PV → List Ent → Prop} [hp : PickL Γ Γ1 Γ2]
    (h : SSeq P tt ops.toList (pickO ops.toList (restL ops.toList 0 (R1 ++ (B ++ (Fl ++ R2))))) T Γ2 fun T' => WOps P tt ops.toList (pickO ops.toList R1) T' Γ1 [] fun T2 Γ1' _ => appE Γ1' Γ2 fun Γ' =>
      SSeq P tt ops.toList (pickO ops.toList B) T2 Γ' fun T3 => WOps P tt ops.toList (pickO ops.toList Fl) T3 Γ' [] fun T4 Γ4 _ => WOps P tt ops.toList (pickO ops.toList R2) T4 Γ4 [] fun T' Γ' _ => K T' Γ')
    (hchk : splitFB tt ops (tabOf ops.toList []) (restL ops.toList 0 (R1 ++ (B ++ (Fl ++ R2)))) R1 B Fl R2 = true := by kernel_rfl) : PDraw P ops T Γ K :=
  PDraw.splitF hk hm _ _ R1 B Fl R2 Γ1 hchk h
end
end Go.Cb
namespace Go.Cb
theorem PIndexA.ixE {α : Type} {f : α → PV} {g : α → List PV} [c : CellsOf f g] {sz : Nat} {l : List α} {tk : Option Tok} {k : IntKind} {n : Int} {i : Nat} [x : IdxOf n i] {K : PV → Prop} (d : α) (h0 : 0 ≤ n) (h : n < l.length)
    (hk : K (.ep (g (l.getD i d)))) : PIndexA sz (.sl sz (l.map f) tk) (.int k n) K := by
  have hi := IdxOf.lt h0 h
  refine PIndexA.ix h0 h ?_
  have e : l.getD i d = l[i] := by simp [List.getD, hi]
  rwa [e] at hk
end Go.Cb
namespace Go.Cb
open Go.Proofs
set_option maxRecDepth 100000
class Dfl (α : Type) where
  d : α
instance : Dfl Int := ⟨0⟩
instance : Dfl UInt8 := ⟨0⟩
instance : Dfl Trm := ⟨.mk 0 0 [] []⟩
instance : Dfl Datum := ⟨.mk 0 0 0 [] []⟩
theorem zPG {α : Type} {f : α → PV} {g : α → List PV} [c : CellsOf f g] {sz : Nat} {l : List α} {tk : Option Tok} {k : IntKind} {n : Int} {i : Nat} [x : IdxOf n i] {K : PV → Prop} [q : Dfl α] (h0 : 0 ≤ n) (h : n < l.length)
    (hk : K (.ep (g (l.getD i q.d)))) : PIndexA sz (.sl sz (l.map f) tk) (.int k n) K := PIndexA.ixE q.d h0 h hk
theorem stB {p : Prop} (h : p := by
  conv => whnf
  repeat ((first|(refine zW ?_ ?_; exact gA)|refine zH rfl ?_|refine zA ?_|refine zI bA ?_|refine zI rfl ?_|refine zJ rfl rfl ?_|refine zB ?_|refine zK rfl ?_|refine zL rfl ?_|refine zC ?_|(refine zO ?_ ?_ ?_; exact OA; exact OA)|(refine zPG ?_ ?_ ?_; exact OA; exact OA)|refine zM rfl ?_|(refine zQ ?_ ?_ ?_; exact OA; exact OA)|(refine zR ?_ ?_; exact OA)|(refine zI ?_ ?_; exact NA)|(refine zS ?_ ?_ ?_; exact OA; exact OA)|(refine zT ?_ ?_ ?_; exact OA; exact OA)|(refine zU ?_ ?_ ?_; exact OA; exact OA)|(refine zV ?_ ?_ ?_; exact OA; exact OA)|intro _); conv=>whnf)
  first | exact PShift.same | exact PShift.lit | exact PShift.ep) : p := h
class ElOf {α : Type} (f : α → PV) (x : PV) (v : outParam α) : Prop where
  wk : Wk x (f v)
  wl : WkL x.cellsOf (f v).cellsOf
class RowOf {α : Type} (f : α → PV) (es : List PV) (l : outParam (List α)) : Prop where
  h : WkR es (l.map f)
class SlOf {α : Type} (f : α → PV) (s : Nat) (x : PV) (l : outParam (List α)) : Prop where
  wk : Wk x (.sl s (l.map f) none)
instance (priority := high) RowOf.map {α : Type} (f : α → PV) (l : List α) : RowOf f (l.map f) l := ⟨WkR.refl _⟩
instance RowOf.nil {α : Type} (f : α → PV) : RowOf f [] [] := ⟨.nil⟩
instance RowOf.cons {α : Type} (f : α → PV) (x : PV) (es : List PV) (v : α) (l : List α) [h : ElOf f x v] [k : RowOf f es l] : RowOf f (x :: es) (v :: l) := ⟨.cons h.wl k.h⟩
instance SlOf.nil {α : Type} (f : α → PV) (s : Nat) : SlOf f s .nil [] := ⟨Wk.nil' rfl⟩
instance SlOf.sl {α : Type} (f : α → PV) (s : Nat) (es : List PV) (l : List α) (tk : Option Tok) [h : RowOf f es l] : SlOf f s (.sl s es tk) l := ⟨Wk.trans (Wk.tok _ _ _) (Wk.row h.h)⟩
theorem WkL.one {x y : PV} (h : Wk x y) : WkL [x] [y] := .cons h .nil
instance (k : IntKind) (n : Int) : ElOf (PV.int k) (.int k n) n := ⟨Wk.refl _, WkL.refl _⟩
instance (b : Bool) : ElOf PV.bool (.bool b) b := ⟨Wk.refl _, WkL.refl _⟩
instance (s : List UInt8) : ElOf PV.str (.str s) s := ⟨Wk.refl _, WkL.refl _⟩
instance (priority := high) ElOf.same (t : Trm) : ElOf Trm.pv (Trm.pv t) t := ⟨Wk.refl _, WkL.refl _⟩
instance (priority := high) ElOf.cells (t : Trm) : ElOf Trm.pv (.agg t.cells) t := ⟨by rw [Trm.pv_eq]; exact Wk.refl _, by rw [Trm.pv_eq]; exact WkL.refl _⟩
theorem ElOf.ofL {x : List PV} {t : Trm} (h : WkL x t.cells) : ElOf Trm.pv (.agg x) t := ⟨by rw [Trm.pv_eq]; exact Wk.agg h, by rw [Trm.pv_eq]; exact h⟩
instance (priority := high) ElOf.parts (t : Trm) (tk1 tk2 : Option Tok) : ElOf Trm.pv (.agg [.int .i64 (Trm.op t), .int .i64 (Trm.n t), .sl 1 ((Trm.v t).map (PV.int .i64)) tk1, .sl 4 ((Trm.t t).map Trm.pv) tk2]) t :=
  ElOf.ofL (.cons (Wk.refl _) (.cons (Wk.refl _) (.cons (Wk.tok _ _ _) (.cons (Wk.tok _ _ _) .nil))))
instance ElOf.mk' (a b : Int) (x y : PV) (v : List Int) (t : List Trm) [h : SlOf (PV.int .i64) 1 x v] [k : SlOf Trm.pv 4 y t] : ElOf Trm.pv (.agg [.int .i64 a, .int .i64 b, x, y]) (.mk a b v t) :=
  ElOf.ofL (.cons (Wk.refl _) (.cons (Wk.refl _) (.cons h.wk (.cons k.wk .nil))))
theorem TrmOf.wk {x : PV} {t : Trm} [h : ElOf Trm.pv x t] : Wk x (.agg t.cells) := by rw [← Trm.pv_eq]; exact h.wk
instance (priority := high) ElOf.dsame (t : Datum) : ElOf Datum.pv (Datum.pv t) t := ⟨Wk.refl _, WkL.refl _⟩
instance (priority := high) ElOf.dcells (t : Datum) : ElOf Datum.pv (.agg t.cells) t := ⟨by rw [Datum.pv_eq]; exact Wk.refl _, by rw [Datum.pv_eq]; exact WkL.refl _⟩
theorem ElOf.ofD {x : List PV} {t : Datum} (h : WkL x t.cells) : ElOf Datum.pv (.agg x) t := ⟨by rw [Datum.pv_eq]; exact Wk.agg h, by rw [Datum.pv_eq]; exact h⟩
instance (priority := high) ElOf.dparts (t : Datum) (tk : Option Tok) : ElOf Datum.pv (.agg [.int .i64 (Datum.kind t), .int .i64 (Datum.n t), .int .i64 (Datum.d t), .str (Datum.s t), .sl 5 ((Datum.l t).map Datum.pv) tk]) t :=
  ElOf.ofD (.cons (Wk.refl _) (.cons (Wk.refl _) (.cons (Wk.refl _) (.cons (Wk.refl _) (.cons (Wk.tok _ _ _) .nil)))))
instance ElOf.dmk (a b c : Int) (s : List UInt8) (x : PV) (l : List Datum) [h : SlOf Datum.pv 5 x l] : ElOf Datum.pv (.agg [.int .i64 a, .int .i64 b, .int .i64 c, .str s, x]) (.mk a b c s l) :=
  ElOf.ofD (.cons (Wk.refl _) (.cons (Wk.refl _) (.cons (Wk.refl _) (.cons (Wk.refl _) (.cons h.wk .nil)))))
section
theorem bytes_ok {n by_ : Nat} (hb : Nat.ble by_ 4096 = true) (h : n ≤ 34359738368) : n * by_ ≤ 140737488355328 :=
  Nat.le_trans (Nat.mul_le_mul h (Nat.le_of_ble_eq_true hb)) (by decide)
theorem PAppend.more {α : Type} {f : α → PV} {l m : List α} {es : List PV} {s by_ : Nat} {e : TypeId} {tk : Option Tok} {t : Tok} {Γ : List Ent} {put : Tok → List Ent} [hp : PickTok Γ t put] [hm : RowOf f es m] {K : PV → List Ent → Prop} (he : t.e = e)
    (hb : Nat.ble by_ 4096 = true) (h1 : l.length + m.length ≤ 34359738368)
    (k : ∀ t' : Tok, t'.e = e → K (.sl s ((l ++ m).map f) (some t')) (put t')) : PAppend s by_ e (.sl s (l.map f) (some t)) (.sl s es tk) Γ K := by
  obtain ⟨Γ1, Γ2, e1, e2⟩ := hp.at_
  refine ⟨l.map f, m.map f, .inl ⟨tk, Wk.row hm.h⟩, by simp; omega, by simpa using bytes_ok hb h1, .inr (.inl ⟨t, Γ1, Γ2, rfl, e1, he, fun t' ht => ?_⟩)⟩
  have := k t' ht
  rw [List.map_append, e2] at this
  exact this
theorem PAppend.empty {ys : List PV} {s by_ : Nat} {e : TypeId} {tk : Option Tok} {t : Tok} {Γ : List Ent} {put : Tok → List Ent} [hp : PickTok Γ t put] {K : PV → List Ent → Prop} (he : t.e = e)
    (hb : Nat.ble by_ 4096 = true) (h1 : ys.length ≤ 34359738368)
    (k : ∀ t' : Tok, t'.e = e → K (.sl s ys (some t')) (put t')) : PAppend s by_ e (.sl s [] (some t)) (.sl s ys tk) Γ K := by
  obtain ⟨Γ1, Γ2, e1, e2⟩ := hp.at_
  refine ⟨[], ys, .inl ⟨tk, Wk.refl _⟩, by simp; omega, by simpa using bytes_ok hb h1, .inr (.inl ⟨t, Γ1, Γ2, rfl, e1, he, fun t' ht => ?_⟩)⟩
  have := k t' ht
  rw [e2] at this
  exact this
theorem PAppend.ofNil {ys : List PV} {s by_ : Nat} {e : TypeId} {tk : Option Tok} {Γ : List Ent} {K : PV → List Ent → Prop}
    (hb : Nat.ble by_ 4096 = true) (h1 : ys.length ≤ 34359738368)
    (k : ∀ t : Tok, t.e = e → K (.sl s ys (some t)) (.tok t :: Γ)) : PAppend s by_ e .nil (.sl s ys tk) Γ K :=
  ⟨[], ys, .inl ⟨tk, Wk.refl _⟩, by simp; omega, by simpa using bytes_ok hb h1, .inl ⟨rfl, rfl, .inl k⟩⟩
theorem PAppend.nothing {α : Type} {f : α → PV} {l : List α} {s by_ : Nat} {e : TypeId} {t : Tok} {Γ : List Ent} {put : Tok → List Ent} [hp : PickTok Γ t put] {K : PV → List Ent → Prop} (he : t.e = e)
    (hb : Nat.ble by_ 4096 = true) (h1 : l.length ≤ 34359738368)
    (k : ∀ t' : Tok, t'.e = e → K (.sl s (l.map f) (some t')) (put t')) : PAppend s by_ e (.sl s (l.map f) (some t)) .nil Γ K := by
  obtain ⟨Γ1, Γ2, e1, e2⟩ := hp.at_
  refine ⟨l.map f, [], .inl ⟨none, Wk.nil s⟩, by simp; omega, by simpa using bytes_ok hb h1, .inr (.inl ⟨t, Γ1, Γ2, rfl, e1, he, fun t' ht => ?_⟩)⟩
  have := k t' ht
  rw [e2] at this
  simpa using this
end
class TokL (Γ : List Ent) (Γ1 Γ2 : outParam (List Ent)) : Prop where
  p : Γ.Perm (Γ1 ++ Γ2)
instance TokL.nil : TokL [] [] [] := ⟨List.Perm.refl _⟩
instance (priority := high) TokL.tok (t : Tok) (Γ Γ1 Γ2 : List Ent) [h : TokL Γ Γ1 Γ2] : TokL (.tok t :: Γ) (.tok t :: Γ1) Γ2 := ⟨h.p.cons _⟩
instance TokL.other (e : Ent) (Γ Γ1 Γ2 : List Ent) [h : TokL Γ Γ1 Γ2] : TokL (e :: Γ) Γ1 (e :: Γ2) := ⟨(h.p.cons e).trans List.perm_middle.symm⟩
section
variable {P : Program} {tt : Nat → TI}
theorem PDraw.sT (d : Option Nat) {ops : Array Oper} (hd : fstDst ops = d) (R1 R2 : List Nat) {T : List PV} {Γ Γ1 Γ2 : List Ent} {K : List PV → List Ent → Prop} (hk : TT.ok P tt) (hm : P.follows .mixedOrders = true) [hp : TokL Γ Γ1 Γ2]
    (h : SSeq P tt ops.toList (pickO ops.toList (restL ops.toList 0 (R1 ++ R2))) T Γ2 fun T' => WOps P tt ops.toList (pickO ops.toList R1) T' Γ1 [] fun T2 Γ1' _ => appE Γ1' Γ2 fun Γ' => WOps P tt ops.toList (pickO ops.toList R2) T2 Γ' [] fun T' Γ' _ => K T' Γ')
    (hchk : splitB ops (tabOf ops.toList []) (restL ops.toList 0 (R1 ++ R2)) R1 R2 = true := by kernel_rfl) : PDraw P ops T Γ K :=
  PDraw.split hk hm _ _ R1 R2 Γ1 (hp := ⟨hp.p⟩) hchk h
end
theorem yA : type_of% @PAppend.more := @PAppend.more
theorem yB : type_of% @PAppend.empty := @PAppend.empty
theorem yC : type_of% @PAppend.ofNil := @PAppend.ofNil
theorem lA {p : Prop} (h : p := by first | omega | (simp only [List.length_cons, List.length_nil, List.length_map, List.length_append, List.length_take, List.length_drop]; omega)) : p := h
end Go.Cb
namespace Go.Cb
open Go.Proofs
set_option maxRecDepth 100000
theorem PAppend.rowMore {α : Type} {f : α → PV} {l m : List α} {es : List PV} {s by_ : Nat} {e : TypeId} {tk : Option Tok} {t : Tok} {Γ : List Ent} {put : Tok → List PV → List Ent} [hp : PickRow Γ t (l.map f) put] [hm : RowOf f es m] {K : PV → List Ent → Prop} (he : t.e = e) (hs : t.s = s)
    (hb : Nat.ble by_ 4096 = true) (h1 : l.length + m.length ≤ 34359738368)
    (k : ∀ t' : Tok, t'.e = e → t'.s = s → K (.ms t') (put t' ((l ++ m).map f))) : PAppend s by_ e (.ms t) (.sl s es tk) Γ K := by
  obtain ⟨Γ1, Γ2, e1, e2⟩ := hp.at_
  refine ⟨l.map f, m.map f, .inl ⟨none, Wk.trans (Wk.tok _ _ _) (Wk.row hm.h)⟩, by simp; omega, by simpa using bytes_ok hb h1, .inr (.inr ⟨t, Γ1, Γ2, rfl, e1, he, hs, fun t' ht hs' => ?_⟩)⟩
  have := k t' ht hs'
  rw [List.map_append, e2] at this
  exact this
theorem yD : type_of% @PAppend.rowMore := @PAppend.rowMore
def mapM {α : Type} (f : α → PV) (m : Int → Option α) (v : Value) : Option PV := match v with
  | .int .i64 k => (m k).map f
  | _ => none
theorem PLook.num {α : Type} {f : α → PV} {r : Nat} {m : Int → Option α} {n : Int} {z : PV} {Γ : List Ent} {pend : List (Int × Value)} {put : (Value → Option PV) → List (Int × Value) → List Ent} [hp : PickMp Γ r (.int .i64) (mapM f m) pend put] {K : PV → Bool → Prop}
    (h : K (match m n with | some x => f x | none => z) (m n).isSome) : PLook r (.int .i64) (some (.int .i64 n)) z Γ K :=
  PLook.at_ (hp := hp) _ _ (by simp [MapKept.IsKey]) (fun p hp => by
    simp only [mapM] at hp
    cases hm : m n with
    | none => rw [hm] at hp; cases hp
    | some x => rw [hm] at hp; cases hp; exact ⟨Wk.refl _, rfl⟩) (fun hn => by
    simp only [mapM] at hn
    cases hm : m n with
    | none => exact ⟨Wk.refl _, rfl⟩
    | some x => rw [hm] at hn; cases hn) h
theorem yH {α : Type} {f : α → PV} {r : Nat} {m : Int → Option α} {n : Int} {x : α} {z : PV} {Γ : List Ent} {pend : List (Int × Value)} {put : (Value → Option PV) → List (Int × Value) → List Ent} [hp : PickMp Γ r (.int .i64) (mapM f m) pend put] {K : PV → Bool → Prop}
    (hx : m n = some x) (h : K (f x) true) : PLook r (.int .i64) (some (.int .i64 n)) z Γ K := PLook.num (hp := hp) (by rw [hx]; exact h)
theorem yI {α : Type} {f : α → PV} {r : Nat} {m : Int → Option α} {n : Int} {z : PV} {Γ : List Ent} {pend : List (Int × Value)} {put : (Value → Option PV) → List (Int × Value) → List Ent} [hp : PickMp Γ r (.int .i64) (mapM f m) pend put] {K : PV → Bool → Prop}
    (hx : m n = none) (h : K z false) : PLook r (.int .i64) (some (.int .i64 n)) z Γ K := PLook.num (hp := hp) (by rw [hx]; exact h)
def upd {α : Type} (m : Int → Option α) (n : Int) (x : α) : Int → Option α := fun k => if k = n then some x else m k
theorem PMapPut.num {α : Type} {f : α → PV} {r : Nat} {m : Int → Option α} {n : Int} {p : PV} {Γ : List Ent} {pend : List (Int × Value)} {put : (Value → Option PV) → List (Int × Value) → List Ent} [hp : PickMp Γ r (.int .i64) (mapM f m) pend put] {K : List Ent → Prop} (x : α) (hx : p = f x)
    (h : K (put (mapM f (upd m n x)) pend)) (hq : mapM f m (.int .i64 n) ≠ none ∨ ∀ q ∈ pend, q.2 ≠ .tuple #[] := by right; simp) : PMapPut r (.int .i64) (some (.int .i64 n)) p Γ K :=
  PMapPut.at_ (hp := hp) (mapM f (upd m n x)) (by simp [MapKept.IsKey]) (by simp [mapM, upd, hx]) (fun k hk => by
    unfold mapM
    split
    · rename_i j
      have : j ≠ n := fun e => hk (by rw [e])
      simp [upd, this]
    · rfl) h hq
theorem nodup_inj {α β : Type} {f : α → β} : ∀ {l : List α}, (l.map f).Nodup → ∀ {x y : α}, x ∈ l → y ∈ l → f x = f y → x = y
  | [], _, x, _, hx, _, _ => by cases hx
  | a :: l, h, x, y, hx, hy, e => by
    rw [List.map_cons, List.nodup_cons] at h
    rcases List.mem_cons.1 hx with hx1 | hx
    · rcases List.mem_cons.1 hy with hy1 | hy
      · rw [hx1, hy1]
      · exact absurd (List.mem_map.2 ⟨y, hy, by rw [← e, hx1]⟩) h.1
    · rcases List.mem_cons.1 hy with hy1 | hy
      · exact absurd (List.mem_map.2 ⟨x, hx, by rw [e, hy1]⟩) h.1
      · exact nodup_inj h.2 hx hy e
structure AllI {α : Type} (m : Int → Option α) (all : List (Nat × Int)) : Prop where
  dom : ∀ z, m z ≠ none ↔ ∃ n, (n, z) ∈ all
  nk : (all.map (·.2)).Nodup
  nb : (all.map (·.1)).Nodup
def pdI (cl : Nat) (all : List (Nat × Int)) : List (Int × Value) := ((cl : Int), .tuple #[]) :: all.map fun q => ((q.1 : Int), .int .i64 q.2)
abbrev itO (r cl : Nat) (seen : Array Nat) : Obj := .mapIter (some r) cl seen cl
theorem isKeyI {v : Value} (h : MapKept.IsKey (.int .i64) v) : ∃ z, v = .int .i64 z := by
  cases v <;> first | exact h.elim | skip
  rename_i k z
  have : k = .i64 := h
  exact ⟨z, by rw [this]⟩
theorem allI_ints : ∀ l : List (Int × Value), (∀ q ∈ l, 0 ≤ q.1 ∧ MapKept.IsKey (.int .i64) q.2) → ∃ all : List (Nat × Int), l = all.map fun q => ((q.1 : Int), Value.int .i64 q.2)
  | [], _ => ⟨[], rfl⟩
  | (a, v) :: l, h => by
    obtain ⟨h1, h2⟩ := h (a, v) (by simp)
    obtain ⟨z, rfl⟩ := isKeyI h2
    obtain ⟨all, rfl⟩ := allI_ints l fun q hq => h q (by simp [hq])
    simp only at h1
    exact ⟨(a.toNat, z) :: all, by rw [List.map_cons]; simp only [List.cons.injEq, Prod.mk.injEq, and_true]; omega⟩
theorem PRangeM.num {α : Type} {f : α → PV} {r : Nat} {m : Int → Option α} {Γ : List Ent} {pend : List (Int × Value)} {put : (Value → Option PV) → List (Int × Value) → List Ent} [hp : PickMp Γ r (.int .i64) (mapM f m) pend put] {K : PV → List Ent → Prop}
    (h : ∀ b all cl, AllI m all → (∀ q ∈ all, q.1 < cl) → K (.ptr b 0) (.ob b (itO r cl #[]) [] [] :: put (mapM f m) (pdI cl all))) : PRangeM r (.int .i64) Γ K := by
  obtain ⟨Γ1, Γ2, e1, e2⟩ := hp.at_
  refine ⟨mapM f m, pend, Γ1, Γ2, e1, fun b l cl ha => ?_⟩
  obtain ⟨all, rfl⟩ := allI_ints l fun q hq => ⟨(ha.lt q hq).1, (ha.key q hq).1⟩
  have hA : AllI m all := by
    refine ⟨fun z => ⟨fun hz => ?_, fun ⟨n, hn⟩ hz => ?_⟩, ?_, ?_⟩
    · cases hm : m z with
      | none => exact absurd hm hz
      | some x =>
        obtain ⟨n, hn⟩ := ha.dom (.int .i64 z) (f x) (by simp [mapM, hm])
        obtain ⟨q, hq, e⟩ := List.mem_map.1 hn
        simp only [Prod.mk.injEq, Value.int.injEq, true_and] at e
        exact ⟨q.1, by rw [← e.2]; exact hq⟩
    · have := (ha.key ((n : Int), .int .i64 z) (List.mem_map.2 ⟨(n, z), hn, rfl⟩)).2
      exact this (by simp [mapM, hz])
    · have := ha.nk
      rw [List.map_map, List.Nodup, List.pairwise_map] at this
      rw [List.Nodup, List.pairwise_map]
      exact this.imp fun {x y} h e => h (by simp only [Function.comp, e])
    · have := ha.nb
      rw [List.map_map, List.Nodup, List.pairwise_map] at this
      rw [List.Nodup, List.pairwise_map]
      exact this.imp fun {x y} h e => h (by simp only [Function.comp, e])
  have := h b all cl hA fun q hq => by have := (ha.lt _ (List.mem_map.2 ⟨q, hq, rfl⟩)).2; simp only at this; omega
  rw [e2] at this
  exact this
class PickOb (Γ : List Ent) (b : Nat) (o : outParam Obj) (put : outParam (Obj → List Ent)) : Prop where
  at_ : ∃ Γ1 Γ2, Γ = Γ1 ++ .ob b o [] [] :: Γ2 ∧ ∀ o', put o' = Γ1 ++ .ob b o' [] [] :: Γ2
instance (priority := high) PickOb.head (Γ : List Ent) (b : Nat) (o : Obj) : PickOb (.ob b o [] [] :: Γ) b o (fun o' => .ob b o' [] [] :: Γ) := ⟨[], Γ, rfl, fun _ => rfl⟩
instance PickOb.tail (e : Ent) (Γ : List Ent) (b : Nat) (o : Obj) (put : Obj → List Ent) [h : PickOb Γ b o put] : PickOb (e :: Γ) b o (fun o' => e :: put o') := by
  obtain ⟨Γ1, Γ2, h1, h2⟩ := h.at_
  exact ⟨e :: Γ1, Γ2, by rw [h1]; rfl, fun o' => by rw [h2]; rfl⟩
theorem mem_pdI {cl : Nat} {all : List (Nat × Int)} {n : Nat} {z : Int} : ((n : Int), Value.int .i64 z) ∈ all.map (fun q => ((q.1 : Int), Value.int .i64 q.2)) ↔ (n, z) ∈ all := by
  rw [List.mem_map]
  constructor
  · rintro ⟨q, hq, e⟩
    simp only [Prod.mk.injEq, Value.int.injEq, true_and] at e
    have : q = (n, z) := Prod.ext (by have := e.1; simp only; omega) e.2
    rw [← this]; exact hq
  · intro h; exact ⟨_, h, rfl⟩
theorem PNextM.num {α : Type} {f : α → PV} {b r cl : Nat} {seen : Array Nat} {m : Int → Option α} {all : List (Nat × Int)} {Γ : List Ent} {put : Obj → List Ent} [hb : PickOb Γ b (itO r cl seen) put] {put2 : (Value → Option PV) → List (Int × Value) → List Ent} [hp : PickMp Γ r (.int .i64) (mapM f m) (pdI cl all) put2] {K : PV → List Ent → Prop}
    (hA : AllI m all) (hl : ∀ q ∈ all, q.1 < cl) (h1 : ∀ n z x, (n, z) ∈ all → m z = some x → n ∉ seen.toList → K (.tup [.btrue, .any, .any]) (put (itO r cl (seen.push n)))) (h2 : (∀ q ∈ all, q.1 ∈ seen.toList) → K (.tup [.bfalse]) Γ) : PNextM b Γ K := by
  obtain ⟨Γ1, Γ2, e1, e2⟩ := hb.at_
  obtain ⟨Γ3, Γ4, e3, e4⟩ := hp.at_
  have hdom : ∀ k p, mapM f m k = some p → ∃ z x, k = .int .i64 z ∧ m z = some x := fun k p hk => by
    unfold mapM at hk
    split at hk
    · rename_i z
      cases hm : m z with
      | none => rw [hm] at hk; cases hk
      | some x => exact ⟨z, x, rfl, hm⟩
    · cases hk
  refine ⟨r, cl, seen, .int .i64, mapM f m, all.map (fun q => ((q.1 : Int), .int .i64 q.2)), Γ1, Γ2, e1, by rw [e3]; simp [pdI], fun k p hk => ?_, fun q hq => ?_, fun n k p hn hk hs => ?_, fun hs => h2 fun q hq => ?_⟩
  · obtain ⟨z, x, rfl, hm⟩ := hdom k p hk
    obtain ⟨n, hn⟩ := (hA.dom z).1 (by simp [hm])
    exact ⟨(n : Int), (mem_pdI (cl := cl)).2 hn⟩
  · obtain ⟨q', hq', rfl⟩ := List.mem_map.1 hq
    have := hl q' hq'
    simp only
    omega
  · obtain ⟨z, x, rfl, hm⟩ := hdom k p hk
    have := h1 n z x ((mem_pdI (cl := cl)).1 hn) hm hs
    rw [e2] at this
    exact this
  · obtain ⟨n, z⟩ := q
    have hz : m z ≠ none := (hA.dom z).2 ⟨n, hq⟩
    cases hm : m z with
    | none => exact absurd hm hz
    | some x =>
      obtain ⟨n', hn', hs'⟩ := hs (.int .i64 z) (f x) (by simp [mapM, hm])
      have hn2 := (mem_pdI (cl := cl)).1 hn'
      have := nodup_inj hA.nk hq hn2 rfl
      cases this
      exact hs'
theorem PEntryM.num {α : Type} {f : α → PV} {b r cl n : Nat} {seen : Array Nat} {m : Int → Option α} {all : List (Nat × Int)} {Γ : List Ent} {put : Obj → List Ent} [hb : PickOb Γ b (itO r cl (seen.push n)) put] {put2 : (Value → Option PV) → List (Int × Value) → List Ent} [hp : PickMp Γ r (.int .i64) (mapM f m) (pdI cl all) put2] {K : PV → Prop}
    (z : Int) (x : α) (hn : (n, z) ∈ all) (hm : m z = some x) (h : K (.tup [.int .i64 z, f x])) : PEntryM b Γ K := by
  obtain ⟨Γ1, Γ2, e1, _⟩ := hb.at_
  obtain ⟨Γ3, Γ4, e3, _⟩ := hp.at_
  exact ⟨r, cl, seen, n, .int .i64 z, .int .i64 z, f x, .int .i64, mapM f m, all.map (fun q => ((q.1 : Int), .int .i64 q.2)), by rw [e1]; simp, by rw [e3]; simp [pdI], (mem_pdI (cl := cl)).2 hn, by simp, by simp [mapM, hm], fun F => by simp [Rep], h⟩
theorem PIndexM.atL {α : Type} {f : α → PV} {l : List α} {sz : Nat} {Γ : List Ent} {t : Tok} {put : Tok → List PV → List Ent} [hp : PickRow Γ t (l.map f) put] {k : IntKind} {n : Int} {i : Nat} [x : IdxOf n i] {K : PV → Prop} (hs : t.s = sz) (h0 : 0 ≤ n) (h : n < l.length) (hk : K (.rp t i 0)) : PIndexM sz t (.int k n) Γ K :=
  PIndexM.at_ (hp := hp) hs h0 (by have := x.eq h0; rw [List.length_map]; omega) hk
theorem yE : type_of% @PIndexM.atL := @PIndexM.atL
theorem yF : type_of% @PLoad.row := @PLoad.row
theorem PStore.rowAll {α : Type} {f : α → PV} {c : α → List PV} [hc : CellsOf f c] {l : List α} {Γ : List Ent} {t : Tok} {put : Tok → List PV → List Ent} [hp : PickRow Γ t (l.map f) put] {i n : Nat} {x : PV} {v : α} [hv : ElOf f x v] {K : List Ent → Prop} (hi : i < l.length)
    (hl : Nat.beq (c l[i]).length n = true) (hx : lenIs x.cellsOf n = true) (hcl : x.cellular = true) (k : K (put t ((l.set i v).map f))) : PStore n (.rp t i 0) x Γ K := by
  have hn : (c l[i]).length = n := Nat.eq_of_beq_eq_true hl
  have hw : WkL x.cellsOf (c v) := by have := hv.wl; rwa [hc.eq] at this
  refine PStore.row (hp := hp) v hi (by rw [hn, Nat.zero_add]; exact Nat.ble_eq_true_of_le (Nat.le_refl _)) hx hcl hw ?_ k
  rw [List.take_zero, List.nil_append, Nat.zero_add, List.drop_of_length_le (by omega), List.append_nil]
theorem yG : type_of% @PStore.rowAll := @PStore.rowAll
end Go.Cb
namespace Go.Cb
open Go.Proofs
set_option maxRecDepth 100000
set_option maxHeartbeats 4000000
theorem cloneInt_c (l : List Int) (hl : l.length ≤ 1000000000) : ACallP Tryz.prog 95 [slI l] (slI l) := by
  refine ACall.of_body tt_ok Tryz.func95 rfl rfl (n := 8) rfl rfl ?_
  conv => whnf
  repeat' (first|((first|((first|(apply zY;intro hg)|apply zZ);first|exact stA|exact stB)|(refine zW ?_ ?_;exact gA)|refine zH rfl ?_|refine zA ?_|refine zI bA ?_|refine zI rfl ?_|refine zJ rfl rfl ?_|refine zB ?_|refine zK rfl ?_|refine zL rfl ?_|refine zC ?_|(refine zO ?_ ?_ ?_;omega;omega)|(refine zP ?_ ?_ ?_;omega;omega)|refine zM rfl ?_|(refine zQ ?_ ?_ ?_;omega;omega)|(refine zR ?_ ?_;omega)|(refine zI ?_ ?_;exact nA)|(refine zS ?_ ?_ ?_;omega;omega)|(refine zT ?_ ?_ ?_;omega;omega)|(refine zU ?_ ?_ ?_;omega;omega)|(refine zV ?_ ?_ ?_;omega;omega)|(refine yA ?_ rfl ?_ ?_;assumption;exact lA)|(refine yB ?_ rfl ?_ ?_;assumption;exact lA)|(refine yC rfl ?_ ?_;exact lA)|refine n0 ?_|refine zN rfl rfl rfl ?_|refine zD ?_|refine zE ?_|refine zF ?_|intro _|refine zG ?_);conv=>whnf)|(refine zX (fun hc => ?_) (fun hc => ?_)<;>(try simp only [SY] at hc)<;>first|omega|(conv=>whnf)))
  · rename_i q hq
    have : l = [] := by simpa using hq hc
    subst this
    exact PRet.pure (Wk.nil' rfl)
  · exact PRet.pure wA
theorem cloneDat_c (l : List Datum) (hl : l.length ≤ 1000000000) : ACallP Tryz.prog 55 [.sl 5 (l.map Datum.pv) none] (.sl 5 (l.map Datum.pv) none) := by
  refine ACall.of_body tt_ok Tryz.func55 rfl rfl (n := 8) rfl rfl ?_
  conv => whnf
  repeat' (first|((first|((first|(apply zY;intro hg)|apply zZ);first|exact stA|exact stB)|(refine zW ?_ ?_;exact gA)|refine zH rfl ?_|refine zA ?_|refine zI bA ?_|refine zI rfl ?_|refine zJ rfl rfl ?_|refine zB ?_|refine zK rfl ?_|refine zL rfl ?_|refine zC ?_|(refine zO ?_ ?_ ?_;omega;omega)|(refine zP ?_ ?_ ?_;omega;omega)|refine zM rfl ?_|(refine zQ ?_ ?_ ?_;omega;omega)|(refine zR ?_ ?_;omega)|(refine zI ?_ ?_;exact nA)|(refine zS ?_ ?_ ?_;omega;omega)|(refine zT ?_ ?_ ?_;omega;omega)|(refine zU ?_ ?_ ?_;omega;omega)|(refine zV ?_ ?_ ?_;omega;omega)|(refine yA ?_ rfl ?_ ?_;assumption;exact lA)|(refine yB ?_ rfl ?_ ?_;assumption;exact lA)|(refine yC rfl ?_ ?_;exact lA)|refine n0 ?_|refine zN rfl rfl rfl ?_|refine zD ?_|refine zE ?_|refine zF ?_|intro _|refine zG ?_);conv=>whnf)|(refine zX (fun hc => ?_) (fun hc => ?_)<;>(try simp only [SY] at hc)<;>first|omega|(conv=>whnf)))
  · rename_i q hq
    have : l = [] := by simpa using hq hc
    subst this
    exact PRet.pure (Wk.nil' rfl)
  · exact PRet.pure wA
theorem indexFuncInt_c (k : Nat) (cap : List PV) (Γ1 : List Ent) (p : Int → Bool) (l : List Int) (hf : ∀ x ∈ l, ACall Tryz.prog k (.int .i64 x :: cap) Γ1 (fun y Γ' => y = .bool (p x) ∧ Γ' = Γ1)) :
    ACall Tryz.prog 133 [slI l, .fn (.func k) cap] Γ1 (fun y Γ' => y = .int .i64 (findI p l) ∧ Γ' = Γ1) := by
  refine ACall.of_body tt_ok Tryz.func133 rfl rfl (n := 19) rfl rfl ?_
  conv => whnf
  repeat ((first|((first|(apply zY;intro hg)|apply zZ);first|exact stA|exact stB)|(refine zW ?_ ?_;exact gA)|refine zH rfl ?_|refine zA ?_|refine zI bA ?_|refine zI rfl ?_|refine zJ rfl rfl ?_|refine zB ?_|refine zK rfl ?_|refine zL rfl ?_|refine zC ?_|(refine zO ?_ ?_ ?_;omega;omega)|(refine zP ?_ ?_ ?_;omega;omega)|refine zM rfl ?_|(refine zQ ?_ ?_ ?_;omega;omega)|(refine zR ?_ ?_;omega)|(refine zI ?_ ?_;exact nA)|(refine zS ?_ ?_ ?_;omega;omega)|(refine zT ?_ ?_ ?_;omega;omega)|(refine zU ?_ ?_ ?_;omega;omega)|(refine zV ?_ ?_ ?_;omega;omega)|(refine yA ?_ rfl ?_ ?_;assumption;exact lA)|(refine yB ?_ rfl ?_ ?_;assumption;exact lA)|(refine yC rfl ?_ ?_;exact lA)|refine n0 ?_|refine zN rfl rfl rfl ?_|refine zD ?_|refine zE ?_|refine zF ?_|intro _);conv=>whnf)
  refine PLoop.keep [4, 5, 8, 9, 10, 11, 12, 13, 14, 15, 16, 17, 18] (fun i : Nat => [(8, .int .i64 i)]) (fun i => i ≤ l.length ∧ findI p l = if findI p (l.drop i) = -1 then -1 else i + findI p (l.drop i)) (fun i => l.length - i) 0 ⟨by omega, by simp only [List.drop_zero]; split <;> omega⟩ wA ?_
  rintro i ⟨h1, h2⟩
  conv => whnf
  repeat' (first|((first|((first|(apply zY;intro hg)|apply zZ);first|exact stA|exact stB)|(refine zW ?_ ?_;exact gA)|refine zH rfl ?_|refine zA ?_|refine zI bA ?_|refine zI rfl ?_|refine zJ rfl rfl ?_|refine zB ?_|refine zK rfl ?_|refine zL rfl ?_|refine zC ?_|(refine zO ?_ ?_ ?_;omega;omega)|(refine zP ?_ ?_ ?_;omega;omega)|refine zM rfl ?_|(refine zQ ?_ ?_ ?_;omega;omega)|(refine zR ?_ ?_;omega)|(refine zI ?_ ?_;exact nA)|(refine zS ?_ ?_ ?_;omega;omega)|(refine zT ?_ ?_ ?_;omega;omega)|(refine zU ?_ ?_ ?_;omega;omega)|(refine zV ?_ ?_ ?_;omega;omega)|(refine yA ?_ rfl ?_ ?_;assumption;exact lA)|(refine yB ?_ rfl ?_ ?_;assumption;exact lA)|(refine yC rfl ?_ ?_;exact lA)|refine n0 ?_|refine zN rfl rfl rfl ?_|refine zD ?_|refine zE ?_|refine zF ?_|intro _|refine zG ?_);conv=>whnf)|(refine zX (fun hc => ?_) (fun hc => ?_)<;>(try simp only [SY] at hc)<;>first|omega|(conv=>whnf)))
  · refine PCall.same (hf _ (List.getElem_mem (show i < l.length by omega))) (WkT.refl _) ?_
    rintro _ _ ⟨rfl, rfl⟩
    rw [drop_at (show i < l.length by omega), findI] at h2
    conv => whnf
    repeat' (first|((first|((first|(apply zY;intro hg)|apply zZ);first|exact stA|exact stB)|(refine zW ?_ ?_;exact gA)|refine zH rfl ?_|refine zA ?_|refine zI bA ?_|refine zI rfl ?_|refine zJ rfl rfl ?_|refine zB ?_|refine zK rfl ?_|refine zL rfl ?_|refine zC ?_|(refine zO ?_ ?_ ?_;omega;omega)|(refine zP ?_ ?_ ?_;omega;omega)|refine zM rfl ?_|(refine zQ ?_ ?_ ?_;omega;omega)|(refine zR ?_ ?_;omega)|(refine zI ?_ ?_;exact nA)|(refine zS ?_ ?_ ?_;omega;omega)|(refine zT ?_ ?_ ?_;omega;omega)|(refine zU ?_ ?_ ?_;omega;omega)|(refine zV ?_ ?_ ?_;omega;omega)|(refine yA ?_ rfl ?_ ?_;assumption;exact lA)|(refine yB ?_ rfl ?_ ?_;assumption;exact lA)|(refine yC rfl ?_ ?_;exact lA)|refine n0 ?_|refine zN rfl rfl rfl ?_|refine zD ?_|refine zE ?_|refine zF ?_|intro _|refine zG ?_);conv=>whnf)|(refine zX (fun hc => ?_) (fun hc => ?_)<;>(try simp only [SY] at hc)<;>first|omega|(conv=>whnf)))
    · rw [hc] at h2
      refine PRet.gen (Wk.int ?_) ⟨rfl, rfl⟩
      simpa using h2.symm
    · rw [hc] at h2
      refine loopTo (i + 1) ⟨by omega, ?_⟩ (by show l.length - (i + 1) < l.length - i; omega) wA
      rw [h2]
      have hg := findI_ge p (l.drop (i + 1))
      simp only [Bool.false_eq_true, if_false]
      split
      · simp
      · rw [if_neg (by omega)]; omega
  · rw [List.drop_of_length_le (by omega)] at h2
    exact PRet.gen (Wk.int (by rw [h2]; rfl)) ⟨rfl, rfl⟩
theorem containsFuncInt_c (k : Nat) (cap : List PV) (Γ1 : List Ent) (p : Int → Bool) (l : List Int) (hf : ∀ x ∈ l, ACall Tryz.prog k (.int .i64 x :: cap) Γ1 (fun y Γ' => y = .bool (p x) ∧ Γ' = Γ1)) :
    ACall Tryz.prog 92 [slI l, .fn (.func k) cap] Γ1 (fun y Γ' => y = .bool (l.any p) ∧ Γ' = Γ1) := by
  refine ACall.of_body tt_ok Tryz.func92 rfl rfl (n := 9) rfl rfl ?_
  conv => whnf
  repeat ((first|((first|(apply zY;intro hg)|apply zZ);first|exact stA|exact stB)|(refine zW ?_ ?_;exact gA)|refine zH rfl ?_|refine zA ?_|refine zI bA ?_|refine zI rfl ?_|refine zJ rfl rfl ?_|refine zB ?_|refine zK rfl ?_|refine zL rfl ?_|refine zC ?_|(refine zO ?_ ?_ ?_;omega;omega)|(refine zP ?_ ?_ ?_;omega;omega)|refine zM rfl ?_|(refine zQ ?_ ?_ ?_;omega;omega)|(refine zR ?_ ?_;omega)|(refine zI ?_ ?_;exact nA)|(refine zS ?_ ?_ ?_;omega;omega)|(refine zT ?_ ?_ ?_;omega;omega)|(refine zU ?_ ?_ ?_;omega;omega)|(refine zV ?_ ?_ ?_;omega;omega)|(refine yA ?_ rfl ?_ ?_;assumption;exact lA)|(refine yB ?_ rfl ?_ ?_;assumption;exact lA)|(refine yC rfl ?_ ?_;exact lA)|refine n0 ?_|refine zN rfl rfl rfl ?_|refine zD ?_|refine zE ?_|refine zF ?_|intro _);conv=>whnf)
  refine PCall.same (indexFuncInt_c k cap Γ1 p l hf) (WkT.refl _) ?_
  rintro _ _ ⟨rfl, rfl⟩
  conv => whnf
  repeat ((first|((first|(apply zY;intro hg)|apply zZ);first|exact stA|exact stB)|(refine zW ?_ ?_;exact gA)|refine zH rfl ?_|refine zA ?_|refine zI bA ?_|refine zI rfl ?_|refine zJ rfl rfl ?_|refine zB ?_|refine zK rfl ?_|refine zL rfl ?_|refine zC ?_|(refine zO ?_ ?_ ?_;omega;omega)|(refine zP ?_ ?_ ?_;omega;omega)|refine zM rfl ?_|(refine zQ ?_ ?_ ?_;omega;omega)|(refine zR ?_ ?_;omega)|(refine zI ?_ ?_;exact nA)|(refine zS ?_ ?_ ?_;omega;omega)|(refine zT ?_ ?_ ?_;omega;omega)|(refine zU ?_ ?_ ?_;omega;omega)|(refine zV ?_ ?_ ?_;omega;omega)|(refine yA ?_ rfl ?_ ?_;assumption;exact lA)|(refine yB ?_ rfl ?_ ?_;assumption;exact lA)|(refine yC rfl ?_ ?_;exact lA)|refine n0 ?_|refine zN rfl rfl rfl ?_|refine zD ?_|refine zE ?_|refine zF ?_|intro _);conv=>whnf)
  exact PRet.gen (Wk.bool (findI_any p l)) ⟨rfl, rfl⟩
end Go.Cb
namespace Go.Cb
open Go.Proofs
set_option maxRecDepth 100000
set_option maxHeartbeats 4000000
theorem indexFuncRow_c (k : Nat) (cap : List PV) (Γ1 : List Ent) (p : Int → Bool) (t : Tok) (l : List Int) (hs : t.s = 1) (hll : l.length ≤ 1000000000) (hf : ∀ x ∈ l, ACall Tryz.prog k (.int .i64 x :: cap) Γ1 (fun y Γ' => y = .bool (p x) ∧ Γ' = Γ1)) :
    ACall Tryz.prog 133 [.ms t, .fn (.func k) cap] (.row t (l.map (PV.int .i64)) :: Γ1) (fun y Γ' => y = .int .i64 (findI p l) ∧ Γ' = .row t (l.map (PV.int .i64)) :: Γ1) := by
  refine ACall.of_body tt_ok Tryz.func133 rfl rfl (n := 19) rfl rfl ?_
  conv => whnf
  repeat ((first|((first|(apply zY;intro hg)|apply zZ);first|exact stA|exact stB|((conv=>whnf);(repeat ((first|(refine zW ?_ ?_;exact gA)|refine zA ?_|refine zH rfl ?_|refine zB ?_|(refine yE ?_ ?_ ?_ ?_;assumption;omega;omega)|(refine yF ?_ rfl ?_;omega)|(apply yH;assumption)|(refine yI ?_ ?_;assumption)|intro _);conv=>whnf));first|exact pS|exact pL|exact pE))|(refine zW ?_ ?_;exact gA)|refine zH rfl ?_|refine zA ?_|refine zI bA ?_|refine zI rfl ?_|refine zJ rfl rfl ?_|refine zB ?_|refine zK rfl ?_|refine zL rfl ?_|refine zC ?_|(refine zO ?_ ?_ ?_;omega;omega)|(refine zP ?_ ?_ ?_;omega;omega)|refine zM rfl ?_|(refine zQ ?_ ?_ ?_;omega;omega)|(refine zR ?_ ?_;omega)|(refine zI ?_ ?_;exact nA)|(refine zS ?_ ?_ ?_;omega;omega)|(refine zT ?_ ?_ ?_;omega;omega)|(refine zU ?_ ?_ ?_;omega;omega)|(refine zV ?_ ?_ ?_;omega;omega)|(refine yA ?_ rfl ?_ ?_;assumption;exact lA)|(refine yB ?_ rfl ?_ ?_;assumption;exact lA)|(refine yC rfl ?_ ?_;exact lA)|(refine yD ?_ ?_ rfl ?_ ?_;assumption;assumption;exact lA)|(refine yE ?_ ?_ ?_ ?_;assumption;omega;omega)|(refine yF ?_ rfl ?_;omega)|(apply yH;assumption)|(refine yI ?_ ?_;assumption)|(refine yG ?_ rfl rfl rfl ?_;omega)|refine n0 ?_|refine zN rfl rfl rfl ?_|refine zD ?_|refine zE ?_|refine zF ?_|intro _);conv=>whnf)
  refine PLenM.map fun _ => ?_
  conv => whnf
  repeat' (first|((first|((first|(apply zY;intro hg)|apply zZ);first|exact stA|exact stB|((conv=>whnf);(repeat ((first|(refine zW ?_ ?_;exact gA)|refine zA ?_|refine zH rfl ?_|refine zB ?_|(refine yE ?_ ?_ ?_ ?_;assumption;omega;omega)|(refine yF ?_ rfl ?_;omega)|(apply yH;assumption)|(refine yI ?_ ?_;assumption)|intro _);conv=>whnf));first|exact pS|exact pL|exact pE))|(refine zW ?_ ?_;exact gA)|refine zH rfl ?_|refine zA ?_|refine zI bA ?_|refine zI rfl ?_|refine zJ rfl rfl ?_|refine zB ?_|refine zK rfl ?_|refine zL rfl ?_|refine zC ?_|(refine zO ?_ ?_ ?_;omega;omega)|(refine zP ?_ ?_ ?_;omega;omega)|refine zM rfl ?_|(refine zQ ?_ ?_ ?_;omega;omega)|(refine zR ?_ ?_;omega)|(refine zI ?_ ?_;exact nA)|(refine zS ?_ ?_ ?_;omega;omega)|(refine zT ?_ ?_ ?_;omega;omega)|(refine zU ?_ ?_ ?_;omega;omega)|(refine zV ?_ ?_ ?_;omega;omega)|(refine yA ?_ rfl ?_ ?_;assumption;exact lA)|(refine yB ?_ rfl ?_ ?_;assumption;exact lA)|(refine yC rfl ?_ ?_;exact lA)|(refine yD ?_ ?_ rfl ?_ ?_;assumption;assumption;exact lA)|(refine yE ?_ ?_ ?_ ?_;assumption;omega;omega)|(refine yF ?_ rfl ?_;omega)|(apply yH;assumption)|(refine yI ?_ ?_;assumption)|(refine yG ?_ rfl rfl rfl ?_;omega)|refine n0 ?_|refine zN rfl rfl rfl ?_|refine zD ?_|refine zE ?_|refine zF ?_|intro _|refine zG ?_);conv=>whnf)|(refine zX (fun hc => ?_) (fun hc => ?_)<;>(try simp only [SY] at hc)<;>first|omega|(conv=>whnf)))
  refine PLoop.keep [4, 5, 8, 9, 10, 11, 12, 13, 14, 15, 16, 17, 18] (fun i : Nat => [(8, .int .i64 i)]) (fun i => i ≤ l.length ∧ findI p l = if findI p (l.drop i) = -1 then -1 else i + findI p (l.drop i)) (fun i => l.length - i) 0 ⟨by omega, by simp only [List.drop_zero]; split <;> omega⟩ wA ?_
  rintro i ⟨h1, h2⟩
  conv => whnf
  repeat' (first|((first|((first|(apply zY;intro hg)|apply zZ);first|exact stA|exact stB|((conv=>whnf);(repeat ((first|(refine zW ?_ ?_;exact gA)|refine zA ?_|refine zH rfl ?_|refine zB ?_|(refine yE ?_ ?_ ?_ ?_;assumption;omega;omega)|(refine yF ?_ rfl ?_;omega)|(apply yH;assumption)|(refine yI ?_ ?_;assumption)|intro _);conv=>whnf));first|exact pS|exact pL|exact pE))|(refine zW ?_ ?_;exact gA)|refine zH rfl ?_|refine zA ?_|refine zI bA ?_|refine zI rfl ?_|refine zJ rfl rfl ?_|refine zB ?_|refine zK rfl ?_|refine zL rfl ?_|refine zC ?_|(refine zO ?_ ?_ ?_;omega;omega)|(refine zP ?_ ?_ ?_;omega;omega)|refine zM rfl ?_|(refine zQ ?_ ?_ ?_;omega;omega)|(refine zR ?_ ?_;omega)|(refine zI ?_ ?_;exact nA)|(refine zS ?_ ?_ ?_;omega;omega)|(refine zT ?_ ?_ ?_;omega;omega)|(refine zU ?_ ?_ ?_;omega;omega)|(refine zV ?_ ?_ ?_;omega;omega)|(refine yA ?_ rfl ?_ ?_;assumption;exact lA)|(refine yB ?_ rfl ?_ ?_;assumption;exact lA)|(refine yC rfl ?_ ?_;exact lA)|(refine yD ?_ ?_ rfl ?_ ?_;assumption;assumption;exact lA)|(refine yE ?_ ?_ ?_ ?_;assumption;omega;omega)|(refine yF ?_ rfl ?_;omega)|(apply yH;assumption)|(refine yI ?_ ?_;assumption)|(refine yG ?_ rfl rfl rfl ?_;omega)|refine n0 ?_|refine zN rfl rfl rfl ?_|refine zD ?_|refine zE ?_|refine zF ?_|intro _|refine zG ?_);conv=>whnf)|(refine zX (fun hc => ?_) (fun hc => ?_)<;>(try simp only [SY] at hc)<;>first|omega|(conv=>whnf)))
  · have hlt : i < l.length := by omega
    refine PCall.goR [.row t (l.map (PV.int .i64))] (hf _ (List.getElem_mem hlt)) (WkT.refl _) (List.Perm.refl _) ?_
    rintro _ Γ0 ⟨rfl, e0⟩
    rw [e0]
    clear e0
    rw [drop_at hlt, findI] at h2
    conv => whnf
    repeat' (first|((first|((first|(apply zY;intro hg)|apply zZ);first|exact stA|exact stB|((conv=>whnf);(repeat ((first|(refine zW ?_ ?_;exact gA)|refine zA ?_|refine zH rfl ?_|refine zB ?_|(refine yE ?_ ?_ ?_ ?_;assumption;omega;omega)|(refine yF ?_ rfl ?_;omega)|(apply yH;assumption)|(refine yI ?_ ?_;assumption)|intro _);conv=>whnf));first|exact pS|exact pL|exact pE))|(refine zW ?_ ?_;exact gA)|refine zH rfl ?_|refine zA ?_|refine zI bA ?_|refine zI rfl ?_|refine zJ rfl rfl ?_|refine zB ?_|refine zK rfl ?_|refine zL rfl ?_|refine zC ?_|(refine zO ?_ ?_ ?_;omega;omega)|(refine zP ?_ ?_ ?_;omega;omega)|refine zM rfl ?_|(refine zQ ?_ ?_ ?_;omega;omega)|(refine zR ?_ ?_;omega)|(refine zI ?_ ?_;exact nA)|(refine zS ?_ ?_ ?_;omega;omega)|(refine zT ?_ ?_ ?_;omega;omega)|(refine zU ?_ ?_ ?_;omega;omega)|(refine zV ?_ ?_ ?_;omega;omega)|(refine yA ?_ rfl ?_ ?_;assumption;exact lA)|(refine yB ?_ rfl ?_ ?_;assumption;exact lA)|(refine yC rfl ?_ ?_;exact lA)|(refine yD ?_ ?_ rfl ?_ ?_;assumption;assumption;exact lA)|(refine yE ?_ ?_ ?_ ?_;assumption;omega;omega)|(refine yF ?_ rfl ?_;omega)|(apply yH;assumption)|(refine yI ?_ ?_;assumption)|(refine yG ?_ rfl rfl rfl ?_;omega)|refine n0 ?_|refine zN rfl rfl rfl ?_|refine zD ?_|refine zE ?_|refine zF ?_|intro _|refine zG ?_);conv=>whnf)|(refine zX (fun hc => ?_) (fun hc => ?_)<;>(try simp only [SY] at hc)<;>first|omega|(conv=>whnf)))
    · rw [hc] at h2
      refine PRet.gen (Γ' := .row t (l.map (PV.int .i64)) :: Γ1) (Wk.int ?_) ⟨rfl, rfl⟩
      simpa using h2.symm
    · rw [hc] at h2
      refine loopTo (i + 1) ⟨by omega, ?_⟩ (by show l.length - (i + 1) < l.length - i; omega) wA
      rw [h2]
      have hg := findI_ge p (l.drop (i + 1))
      simp only [Bool.false_eq_true, if_false]
      split
      · simp
      · rw [if_neg (by omega)]; omega
  · rw [List.drop_of_length_le (by omega)] at h2
    exact PRet.gen (Γ' := .row t (l.map (PV.int .i64)) :: Γ1) (Wk.int (by rw [h2]; rfl)) ⟨rfl, rfl⟩
theorem findI_len (p : Int → Bool) : ∀ l : List Int, findI p l < l.length
  | [] => by simp [findI]
  | x :: l => by
    have := findI_len p l
    rw [findI]
    simp only [List.length_cons]
    split
    · omega
    · split <;> omega
theorem findI_none (p : Int → Bool) : ∀ l : List Int, findI p l = -1 → l.filter (fun x => !p x) = l
  | [], _ => rfl
  | x :: l, h => by
    rw [findI] at h
    have := findI_ge p l
    by_cases hp : p x = true
    · rw [if_pos hp] at h; omega
    · rw [if_neg hp] at h
      rw [Bool.not_eq_true] at hp
      rw [List.filter_cons_of_pos (by simp [hp]), findI_none p l (by split at h <;> omega)]
theorem findI_head (p : Int → Bool) : ∀ (l : List Int) (i : Nat), findI p l = i → (l.take (i + 1)).filter (fun x => !p x) = l.take i
  | [], i, h => by rw [findI] at h; omega
  | x :: l, i, h => by
    rw [findI] at h
    have := findI_ge p l
    by_cases hp : p x = true
    · rw [if_pos hp] at h
      obtain rfl : i = 0 := by omega
      simp [hp]
    · rw [if_neg hp] at h
      rw [Bool.not_eq_true] at hp
      obtain ⟨j, rfl⟩ : ∃ j, i = j + 1 := ⟨i - 1, by split at h <;> omega⟩
      rw [List.take_succ_cons, List.filter_cons_of_pos (by simp [hp]), List.take_succ_cons, findI_head p l j (by split at h <;> omega)]
theorem deleteFunc_c (k : Nat) (cap : List PV) (Γ1 : List Ent) (p : Int → Bool) (t : Tok) (l : List Int) (hs : t.s = 1) (hll : l.length ≤ 1000000000) (hf : ∀ x ∈ l, ACall Tryz.prog k (.int .i64 x :: cap) Γ1 (fun y Γ' => y = .bool (p x) ∧ Γ' = Γ1)) :
    ACall Tryz.prog 170 [.ms t, .fn (.func k) cap] (.row t (l.map (PV.int .i64)) :: Γ1)
      (fun y Γ' => ∃ t' : Tok, t'.s = 1 ∧ y = .ms t' ∧ Γ' = .row t' ((l.filter fun x => !p x).map (PV.int .i64)) :: Γ1) := by
  refine ACall.of_body tt_ok Tryz.func170 rfl rfl (n := 42) rfl rfl ?_
  conv => whnf
  repeat ((first|((first|(apply zY;intro hg)|apply zZ);first|exact stA|exact stB|((conv=>whnf);(repeat ((first|(refine zW ?_ ?_;exact gA)|refine zA ?_|refine zH rfl ?_|refine zB ?_|(refine yE ?_ ?_ ?_ ?_;assumption;omega;omega)|(refine yF ?_ rfl ?_;omega)|(apply yH;assumption)|(refine yI ?_ ?_;assumption)|intro _);conv=>whnf));first|exact pS|exact pL|exact pE))|(refine zW ?_ ?_;exact gA)|refine zH rfl ?_|refine zA ?_|refine zI bA ?_|refine zI rfl ?_|refine zJ rfl rfl ?_|refine zB ?_|refine zK rfl ?_|refine zL rfl ?_|refine zC ?_|(refine zO ?_ ?_ ?_;omega;omega)|(refine zP ?_ ?_ ?_;omega;omega)|refine zM rfl ?_|(refine zQ ?_ ?_ ?_;omega;omega)|(refine zR ?_ ?_;omega)|(refine zI ?_ ?_;exact nA)|(refine zS ?_ ?_ ?_;omega;omega)|(refine zT ?_ ?_ ?_;omega;omega)|(refine zU ?_ ?_ ?_;omega;omega)|(refine zV ?_ ?_ ?_;omega;omega)|(refine yA ?_ rfl ?_ ?_;assumption;exact lA)|(refine yB ?_ rfl ?_ ?_;assumption;exact lA)|(refine yC rfl ?_ ?_;exact lA)|(refine yD ?_ ?_ rfl ?_ ?_;assumption;assumption;exact lA)|(refine yE ?_ ?_ ?_ ?_;assumption;omega;omega)|(refine yF ?_ rfl ?_;omega)|(apply yH;assumption)|(refine yI ?_ ?_;assumption)|(refine yG ?_ rfl rfl rfl ?_;omega)|refine n0 ?_|refine zN rfl rfl rfl ?_|refine zD ?_|refine zE ?_|refine zF ?_|intro _);conv=>whnf)
  refine PCall.same (indexFuncRow_c k cap Γ1 p t l hs hll hf) (WkT.refl _) ?_
  rintro _ _ ⟨rfl, rfl⟩
  have hge := findI_ge p l
  have hlt := findI_len p l
  conv => whnf
  repeat' (first|((first|((first|(apply zY;intro hg)|apply zZ);first|exact stA|exact stB|((conv=>whnf);(repeat ((first|(refine zW ?_ ?_;exact gA)|refine zA ?_|refine zH rfl ?_|refine zB ?_|(refine yE ?_ ?_ ?_ ?_;assumption;omega;omega)|(refine yF ?_ rfl ?_;omega)|(apply yH;assumption)|(refine yI ?_ ?_;assumption)|intro _);conv=>whnf));first|exact pS|exact pL|exact pE))|(refine zW ?_ ?_;exact gA)|refine zH rfl ?_|refine zA ?_|refine zI bA ?_|refine zI rfl ?_|refine zJ rfl rfl ?_|refine zB ?_|refine zK rfl ?_|refine zL rfl ?_|refine zC ?_|(refine zO ?_ ?_ ?_;omega;omega)|(refine zP ?_ ?_ ?_;omega;omega)|refine zM rfl ?_|(refine zQ ?_ ?_ ?_;omega;omega)|(refine zR ?_ ?_;omega)|(refine zI ?_ ?_;exact nA)|(refine zS ?_ ?_ ?_;omega;omega)|(refine zT ?_ ?_ ?_;omega;omega)|(refine zU ?_ ?_ ?_;omega;omega)|(refine zV ?_ ?_ ?_;omega;omega)|(refine yA ?_ rfl ?_ ?_;assumption;exact lA)|(refine yB ?_ rfl ?_ ?_;assumption;exact lA)|(refine yC rfl ?_ ?_;exact lA)|(refine yD ?_ ?_ rfl ?_ ?_;assumption;assumption;exact lA)|(refine yE ?_ ?_ ?_ ?_;assumption;omega;omega)|(refine yF ?_ rfl ?_;omega)|(apply yH;assumption)|(refine yI ?_ ?_;assumption)|(refine yG ?_ rfl rfl rfl ?_;omega)|refine n0 ?_|refine zN rfl rfl rfl ?_|refine zD ?_|refine zE ?_|refine zF ?_|intro _|refine zG ?_);conv=>whnf)|(refine zX (fun hc => ?_) (fun hc => ?_)<;>(try simp only [SY] at hc)<;>first|omega|(conv=>whnf)))
  · rw [findI_none p l (by omega)]
    exact PRet.gen (y := .ms t) (Γ' := .row t (l.map (PV.int .i64)) :: Γ1) (Wk.refl _) ⟨t, hs, rfl, rfl⟩
  obtain ⟨i0, hi0⟩ : ∃ i0 : Nat, findI p l = i0 := ⟨(findI p l).toNat, by omega⟩
  have hhd := findI_head p l i0 hi0
  rw [hi0]
  refine PLoop.over [5, 6, 7, 16, 17, 18, 19, 20, 21, 22, 23, 24, 25, 26, 27, 28, 29, 30, 31, 32, 33, 34, 35] (fun x : Nat × Nat × List Int => [(5, .int .i64 x.1), (6, .int .i64 x.2.1)]) (fun x : Nat × Nat × List Int => .row t (x.2.2.map (PV.int .i64)) :: Γ1)
    (fun x => x.1 < x.2.1 ∧ x.2.1 ≤ l.length ∧ x.2.2.length = l.length ∧ x.2.2.take x.1 = (l.take x.2.1).filter (fun x => !p x) ∧ x.2.2.drop x.2.1 = l.drop x.2.1) (fun x => l.length - x.2.1) (i0, i0 + 1, l) ⟨by show i0 < i0 + 1; omega, by show i0 + 1 ≤ _; omega, rfl, hhd.symm, rfl⟩ wA ?_
  rintro ⟨i, j, m⟩ ⟨h1, h2, h3, h4, h5⟩
  dsimp only at h1 h2 h3 h4 h5 ⊢
  refine PLenM.map fun _ => ?_
  conv => whnf
  repeat' (first|((first|((first|(apply zY;intro hg)|apply zZ);first|exact stA|exact stB|((conv=>whnf);(repeat ((first|(refine zW ?_ ?_;exact gA)|refine zA ?_|refine zH rfl ?_|refine zB ?_|(refine yE ?_ ?_ ?_ ?_;assumption;omega;omega)|(refine yF ?_ rfl ?_;omega)|(apply yH;assumption)|(refine yI ?_ ?_;assumption)|intro _);conv=>whnf));first|exact pS|exact pL|exact pE))|(refine zW ?_ ?_;exact gA)|refine zH rfl ?_|refine zA ?_|refine zI bA ?_|refine zI rfl ?_|refine zJ rfl rfl ?_|refine zB ?_|refine zK rfl ?_|refine zL rfl ?_|refine zC ?_|(refine zO ?_ ?_ ?_;omega;omega)|(refine zP ?_ ?_ ?_;omega;omega)|refine zM rfl ?_|(refine zQ ?_ ?_ ?_;omega;omega)|(refine zR ?_ ?_;omega)|(refine zI ?_ ?_;exact nA)|(refine zS ?_ ?_ ?_;omega;omega)|(refine zT ?_ ?_ ?_;omega;omega)|(refine zU ?_ ?_ ?_;omega;omega)|(refine zV ?_ ?_ ?_;omega;omega)|(refine yA ?_ rfl ?_ ?_;assumption;exact lA)|(refine yB ?_ rfl ?_ ?_;assumption;exact lA)|(refine yC rfl ?_ ?_;exact lA)|(refine yD ?_ ?_ rfl ?_ ?_;assumption;assumption;exact lA)|(refine yE ?_ ?_ ?_ ?_;assumption;omega;omega)|(refine yF ?_ rfl ?_;omega)|(apply yH;assumption)|(refine yI ?_ ?_;assumption)|(refine yG ?_ rfl rfl rfl ?_;omega)|refine n0 ?_|refine zN rfl rfl rfl ?_|refine zD ?_|refine zE ?_|refine zF ?_|intro _|refine zG ?_);conv=>whnf)|(refine zX (fun hc => ?_) (fun hc => ?_)<;>(try simp only [SY] at hc)<;>first|omega|(conv=>whnf)))
  · have hlt2 : j < l.length := by omega
    have hjm : j < m.length := by omega
    have hmj : m[j] = l[j] := by
      rw [drop_at hjm, drop_at hlt2] at h5
      exact (List.cons.inj h5).1
    have hd : m.drop (j + 1) = l.drop (j + 1) := by
      rw [drop_at hjm, drop_at hlt2] at h5
      exact (List.cons.inj h5).2
    have htk : (l.take (j + 1)).filter (fun x => !p x) = (l.take j).filter (fun x => !p x) ++ (if p l[j] = true then [] else [l[j]]) := by
      rw [List.take_succ_eq_append_getElem hlt2, List.filter_append]
      congr 1
      by_cases hp : p l[j] = true
      · rw [if_pos hp]; simp [hp]
      · rw [if_neg hp]; simp [hp]
    rw [hmj]
    refine PCall.goR [.row t (m.map (PV.int .i64))] (hf _ (List.getElem_mem hlt2)) (WkT.refl _) (List.Perm.refl _) ?_
    rintro _ Γ0 ⟨rfl, e0⟩
    rw [e0]
    clear e0
    conv => whnf
    repeat' (first|((first|((first|(apply zY;intro hg)|apply zZ);first|exact stA|exact stB|((conv=>whnf);(repeat ((first|(refine zW ?_ ?_;exact gA)|refine zA ?_|refine zH rfl ?_|refine zB ?_|(refine yE ?_ ?_ ?_ ?_;assumption;omega;omega)|(refine yF ?_ rfl ?_;omega)|(apply yH;assumption)|(refine yI ?_ ?_;assumption)|intro _);conv=>whnf));first|exact pS|exact pL|exact pE))|(refine zW ?_ ?_;exact gA)|refine zH rfl ?_|refine zA ?_|refine zI bA ?_|refine zI rfl ?_|refine zJ rfl rfl ?_|refine zB ?_|refine zK rfl ?_|refine zL rfl ?_|refine zC ?_|(refine zO ?_ ?_ ?_;omega;omega)|(refine zP ?_ ?_ ?_;omega;omega)|refine zM rfl ?_|(refine zQ ?_ ?_ ?_;omega;omega)|(refine zR ?_ ?_;omega)|(refine zI ?_ ?_;exact nA)|(refine zS ?_ ?_ ?_;omega;omega)|(refine zT ?_ ?_ ?_;omega;omega)|(refine zU ?_ ?_ ?_;omega;omega)|(refine zV ?_ ?_ ?_;omega;omega)|(refine yA ?_ rfl ?_ ?_;assumption;exact lA)|(refine yB ?_ rfl ?_ ?_;assumption;exact lA)|(refine yC rfl ?_ ?_;exact lA)|(refine yD ?_ ?_ rfl ?_ ?_;assumption;assumption;exact lA)|(refine yE ?_ ?_ ?_ ?_;assumption;omega;omega)|(refine yF ?_ rfl ?_;omega)|(apply yH;assumption)|(refine yI ?_ ?_;assumption)|(refine yG ?_ rfl rfl rfl ?_;omega)|refine n0 ?_|refine zN rfl rfl rfl ?_|refine zD ?_|refine zE ?_|refine zF ?_|intro _|refine zG ?_);conv=>whnf)|(refine zX (fun hc => ?_) (fun hc => ?_)<;>(try simp only [SY] at hc)<;>first|omega|(conv=>whnf)))
    · rw [if_neg (by simp [hc])] at htk
      refine loopTo (i + 1, j + 1, m.set i l[j]) ⟨by show i + 1 < j + 1; omega, by show j + 1 ≤ _; omega, by simp [h3], ?_, ?_⟩ (by show l.length - (j + 1) < l.length - j; omega) wA
      · show (m.set i l[j]).take (i + 1) = _
        rw [htk, ← h4, List.take_succ_eq_append_getElem (by simp; omega), List.take_set_of_le (Nat.le_refl _)]
        simp
      · show (m.set i l[j]).drop (j + 1) = _
        rw [List.drop_set_of_lt (by omega), hd]
    · rw [if_pos (by simpa using hc), List.append_nil] at htk
      exact loopTo (i, j + 1, m) ⟨by show i < j + 1; omega, by show j + 1 ≤ _; omega, h3, by show m.take i = _; rw [htk, h4], hd⟩ (by show l.length - (j + 1) < l.length - j; omega) wA
  · obtain rfl : j = l.length := by omega
    rw [List.take_length] at h4
    refine PSliceT.tail (i := i) hs (by omega) (by simp; omega) fun v hv => ?_
    conv => whnf
    repeat' (first|((first|((first|(apply zY;intro hg)|apply zZ);first|exact stA|exact stB|((conv=>whnf);(repeat ((first|(refine zW ?_ ?_;exact gA)|refine zA ?_|refine zH rfl ?_|refine zB ?_|(refine yE ?_ ?_ ?_ ?_;assumption;omega;omega)|(refine yF ?_ rfl ?_;omega)|(apply yH;assumption)|(refine yI ?_ ?_;assumption)|intro _);conv=>whnf));first|exact pS|exact pL|exact pE))|(refine zW ?_ ?_;exact gA)|refine zH rfl ?_|refine zA ?_|refine zI bA ?_|refine zI rfl ?_|refine zJ rfl rfl ?_|refine zB ?_|refine zK rfl ?_|refine zL rfl ?_|refine zC ?_|(refine zO ?_ ?_ ?_;omega;omega)|(refine zP ?_ ?_ ?_;omega;omega)|refine zM rfl ?_|(refine zQ ?_ ?_ ?_;omega;omega)|(refine zR ?_ ?_;omega)|(refine zI ?_ ?_;exact nA)|(refine zS ?_ ?_ ?_;omega;omega)|(refine zT ?_ ?_ ?_;omega;omega)|(refine zU ?_ ?_ ?_;omega;omega)|(refine zV ?_ ?_ ?_;omega;omega)|(refine yA ?_ rfl ?_ ?_;assumption;exact lA)|(refine yB ?_ rfl ?_ ?_;assumption;exact lA)|(refine yC rfl ?_ ?_;exact lA)|(refine yD ?_ ?_ rfl ?_ ?_;assumption;assumption;exact lA)|(refine yE ?_ ?_ ?_ ?_;assumption;omega;omega)|(refine yF ?_ rfl ?_;omega)|(apply yH;assumption)|(refine yI ?_ ?_;assumption)|(refine yG ?_ rfl rfl rfl ?_;omega)|refine n0 ?_|refine zN rfl rfl rfl ?_|refine zD ?_|refine zE ?_|refine zF ?_|intro _|refine zG ?_);conv=>whnf)|(refine zX (fun hc => ?_) (fun hc => ?_)<;>(try simp only [SY] at hc)<;>first|omega|(conv=>whnf)))
    refine PClear.at_ hv hs (by simp; omega) ?_
    conv => whnf
    repeat' (first|((first|((first|(apply zY;intro hg)|apply zZ);first|exact stA|exact stB|((conv=>whnf);(repeat ((first|(refine zW ?_ ?_;exact gA)|refine zA ?_|refine zH rfl ?_|refine zB ?_|(refine yE ?_ ?_ ?_ ?_;assumption;omega;omega)|(refine yF ?_ rfl ?_;omega)|(apply yH;assumption)|(refine yI ?_ ?_;assumption)|intro _);conv=>whnf));first|exact pS|exact pL|exact pE))|(refine zW ?_ ?_;exact gA)|refine zH rfl ?_|refine zA ?_|refine zI bA ?_|refine zI rfl ?_|refine zJ rfl rfl ?_|refine zB ?_|refine zK rfl ?_|refine zL rfl ?_|refine zC ?_|(refine zO ?_ ?_ ?_;omega;omega)|(refine zP ?_ ?_ ?_;omega;omega)|refine zM rfl ?_|(refine zQ ?_ ?_ ?_;omega;omega)|(refine zR ?_ ?_;omega)|(refine zI ?_ ?_;exact nA)|(refine zS ?_ ?_ ?_;omega;omega)|(refine zT ?_ ?_ ?_;omega;omega)|(refine zU ?_ ?_ ?_;omega;omega)|(refine zV ?_ ?_ ?_;omega;omega)|(refine yA ?_ rfl ?_ ?_;assumption;exact lA)|(refine yB ?_ rfl ?_ ?_;assumption;exact lA)|(refine yC rfl ?_ ?_;exact lA)|(refine yD ?_ ?_ rfl ?_ ?_;assumption;assumption;exact lA)|(refine yE ?_ ?_ ?_ ?_;assumption;omega;omega)|(refine yF ?_ rfl ?_;omega)|(apply yH;assumption)|(refine yI ?_ ?_;assumption)|(refine yG ?_ rfl rfl rfl ?_;omega)|refine n0 ?_|refine zN rfl rfl rfl ?_|refine zD ?_|refine zE ?_|refine zF ?_|intro _|refine zG ?_);conv=>whnf)|(refine zX (fun hc => ?_) (fun hc => ?_)<;>(try simp only [SY] at hc)<;>first|omega|(conv=>whnf)))
    have hap : List.take i (m.map (PV.int .i64)) = (l.filter fun x => !p x).map (PV.int .i64) := by rw [← List.map_take, h4]
    have hil : (List.take i (m.map (PV.int .i64))).length = i := by simp; omega
    refine PSliceM.hi (i := i) hs (by omega) (by simp; omega) fun t' e1 e2 => ?_
    rw [List.take_append_of_le_length (by omega), List.take_of_length_le (by omega), hap]
    conv => whnf
    repeat' (first|((first|((first|(apply zY;intro hg)|apply zZ);first|exact stA|exact stB|((conv=>whnf);(repeat ((first|(refine zW ?_ ?_;exact gA)|refine zA ?_|refine zH rfl ?_|refine zB ?_|(refine yE ?_ ?_ ?_ ?_;assumption;omega;omega)|(refine yF ?_ rfl ?_;omega)|(apply yH;assumption)|(refine yI ?_ ?_;assumption)|intro _);conv=>whnf));first|exact pS|exact pL|exact pE))|(refine zW ?_ ?_;exact gA)|refine zH rfl ?_|refine zA ?_|refine zI bA ?_|refine zI rfl ?_|refine zJ rfl rfl ?_|refine zB ?_|refine zK rfl ?_|refine zL rfl ?_|refine zC ?_|(refine zO ?_ ?_ ?_;omega;omega)|(refine zP ?_ ?_ ?_;omega;omega)|refine zM rfl ?_|(refine zQ ?_ ?_ ?_;omega;omega)|(refine zR ?_ ?_;omega)|(refine zI ?_ ?_;exact nA)|(refine zS ?_ ?_ ?_;omega;omega)|(refine zT ?_ ?_ ?_;omega;omega)|(refine zU ?_ ?_ ?_;omega;omega)|(refine zV ?_ ?_ ?_;omega;omega)|(refine yA ?_ rfl ?_ ?_;assumption;exact lA)|(refine yB ?_ rfl ?_ ?_;assumption;exact lA)|(refine yC rfl ?_ ?_;exact lA)|(refine yD ?_ ?_ rfl ?_ ?_;assumption;assumption;exact lA)|(refine yE ?_ ?_ ?_ ?_;assumption;omega;omega)|(refine yF ?_ rfl ?_;omega)|(apply yH;assumption)|(refine yI ?_ ?_;assumption)|(refine yG ?_ rfl rfl rfl ?_;omega)|refine n0 ?_|refine zN rfl rfl rfl ?_|refine zD ?_|refine zE ?_|refine zF ?_|intro _|refine zG ?_);conv=>whnf)|(refine zX (fun hc => ?_) (fun hc => ?_)<;>(try simp only [SY] at hc)<;>first|omega|(conv=>whnf)))
    exact PRet.gen (y := .ms t') (Γ' := .row t' ((l.filter fun x => !p x).map (PV.int .i64)) :: Γ1) (Wk.refl _) ⟨t', by omega, rfl, rfl⟩
end Go.Cb
namespace Go.Cb
open Go.Proofs
set_option maxRecDepth 100000
set_option maxHeartbeats 4000000
def Kn.pa (f : Kn) : PV := .agg [.int .i64 f.code, .bool f.st]
theorem PLook.kn {r : Nat} {fm : Fm} {n : Int} {Γ : List Ent} {pend : List (Int × Value)} {put : (Value → Option PV) → List (Int × Value) → List Ent} [hp : PickMp Γ r (.int .i64) (mapM Kn.pa fm) pend put] {K : PV → Bool → Prop}
    (h : K (.agg [.int .i64 (codeF fm n), .bool (stF fm n)]) (fm n).isSome) : PLook r (.int .i64) (some (.int .i64 n)) (.agg [.int .i64 0, .bfalse]) Γ K :=
  PLook.at_ (hp := hp) _ _ (by simp [MapKept.IsKey]) (fun p hp => by
    simp only [mapM] at hp
    cases hm : fm n with
    | none => rw [hm] at hp; cases hp
    | some x => rw [hm] at hp; cases hp; exact ⟨by rw [Kn.pa, codeF, stF, hm]; exact Wk.refl _, rfl⟩) (fun hn => by
    simp only [mapM] at hn
    cases hm : fm n with
    | none => exact ⟨by rw [codeF, stF, hm]; exact Wk.agg (.cons (Wk.refl _) (.cons (Wk.ff rfl) .nil)), rfl⟩
    | some x => rw [hm] at hn; cases hn) h
instance ElOf.cod (b : Bool) (o n : Int) (x y z : PV) (v u : List Int) (t : List Trm) [h : SlOf (PV.int .i64) 1 x v] [k : SlOf (PV.int .i64) 1 y u] [j : SlOf Trm.pv 4 z t] : ElOf Cod.pv (.agg [x, .bool b, .int .i64 o, .int .i64 n, y, z]) ⟨v, b, .mk o n u t⟩ :=
  have e : WkL [x, .bool b, .int .i64 o, .int .i64 n, y, z] (Cod.cells ⟨v, b, .mk o n u t⟩) := .cons h.wk (.cons (Wk.refl _) (.cons (Wk.refl _) (.cons (Wk.refl _) (.cons k.wk (.cons j.wk .nil)))))
  ⟨Wk.agg e, e⟩
abbrev mkrG (b r : Nat) (tk : Tok) (A : List Cod) (fm : Fm) : List Ent := [.box b [.ms tk, .mp r], .row tk (A.map Cod.pv), .mp r (.int .i64) (mapM Kn.pa fm) []]
theorem over1_c (b0 b r : Nat) (tk : Tok) (A : List Cod) (fm : Fm) (v : Int) :
    ACall Tryz.prog 171 [.int .i64 v, .ptr b0 0] (.box b0 [.ptr b 0] :: mkrG b r tk A fm) (fun y Γ' => y = .bool (stF fm v) ∧ Γ' = .box b0 [.ptr b 0] :: mkrG b r tk A fm) := by
  refine ACall.of_body tt_ok Tryz.func171 rfl rfl (n := 11) rfl rfl ?_
  conv => whnf
  repeat' (first|((first|((first|(apply zY;intro hg)|apply zZ);first|exact stA|exact stB|((conv=>whnf);(repeat ((first|(refine zW ?_ ?_;exact gA)|refine zA ?_|refine zH rfl ?_|refine zB ?_|(refine yE ?_ ?_ ?_ ?_;assumption;omega;omega)|(refine yF ?_ rfl ?_;omega)|(apply yH;assumption)|(refine yI ?_ ?_;assumption)|intro _);conv=>whnf));first|exact pS|exact pL|exact pE))|(refine zW ?_ ?_;exact gA)|refine zH rfl ?_|refine zA ?_|refine zI bA ?_|refine zI rfl ?_|refine zJ rfl rfl ?_|refine zB ?_|refine zK rfl ?_|refine zL rfl ?_|refine zC ?_|(refine zO ?_ ?_ ?_;omega;omega)|(refine zP ?_ ?_ ?_;omega;omega)|refine zM rfl ?_|(refine zQ ?_ ?_ ?_;omega;omega)|(refine zR ?_ ?_;omega)|(refine zI ?_ ?_;exact nA)|(refine zS ?_ ?_ ?_;omega;omega)|(refine zT ?_ ?_ ?_;omega;omega)|(refine zU ?_ ?_ ?_;omega;omega)|(refine zV ?_ ?_ ?_;omega;omega)|(refine yA ?_ rfl ?_ ?_;assumption;exact lA)|(refine yB ?_ rfl ?_ ?_;assumption;exact lA)|(refine yC rfl ?_ ?_;exact lA)|(refine yD ?_ ?_ rfl ?_ ?_;assumption;assumption;exact lA)|(refine yE ?_ ?_ ?_ ?_;assumption;omega;omega)|(refine yF ?_ rfl ?_;omega)|(apply yH;assumption)|(refine yI ?_ ?_;assumption)|(refine yG ?_ rfl rfl rfl ?_;omega)|refine n0 ?_|refine zN rfl rfl rfl ?_|refine zD ?_|refine zE ?_|refine zF ?_|intro _|refine zG ?_);conv=>whnf)|(refine zX (fun hc => ?_) (fun hc => ?_)<;>(try simp only [SY] at hc)<;>first|omega|(conv=>whnf)))
  refine PLook.kn ?_
  conv => whnf
  repeat' (first|((first|((first|(apply zY;intro hg)|apply zZ);first|exact stA|exact stB|((conv=>whnf);(repeat ((first|(refine zW ?_ ?_;exact gA)|refine zA ?_|refine zH rfl ?_|refine zB ?_|(refine yE ?_ ?_ ?_ ?_;assumption;omega;omega)|(refine yF ?_ rfl ?_;omega)|(apply yH;assumption)|(refine yI ?_ ?_;assumption)|intro _);conv=>whnf));first|exact pS|exact pL|exact pE))|(refine zW ?_ ?_;exact gA)|refine zH rfl ?_|refine zA ?_|refine zI bA ?_|refine zI rfl ?_|refine zJ rfl rfl ?_|refine zB ?_|refine zK rfl ?_|refine zL rfl ?_|refine zC ?_|(refine zO ?_ ?_ ?_;omega;omega)|(refine zP ?_ ?_ ?_;omega;omega)|refine zM rfl ?_|(refine zQ ?_ ?_ ?_;omega;omega)|(refine zR ?_ ?_;omega)|(refine zI ?_ ?_;exact nA)|(refine zS ?_ ?_ ?_;omega;omega)|(refine zT ?_ ?_ ?_;omega;omega)|(refine zU ?_ ?_ ?_;omega;omega)|(refine zV ?_ ?_ ?_;omega;omega)|(refine yA ?_ rfl ?_ ?_;assumption;exact lA)|(refine yB ?_ rfl ?_ ?_;assumption;exact lA)|(refine yC rfl ?_ ?_;exact lA)|(refine yD ?_ ?_ rfl ?_ ?_;assumption;assumption;exact lA)|(refine yE ?_ ?_ ?_ ?_;assumption;omega;omega)|(refine yF ?_ rfl ?_;omega)|(apply yH;assumption)|(refine yI ?_ ?_;assumption)|(refine yG ?_ rfl rfl rfl ?_;omega)|refine n0 ?_|refine zN rfl rfl rfl ?_|refine zD ?_|refine zE ?_|refine zF ?_|intro _|refine zG ?_);conv=>whnf)|(refine zX (fun hc => ?_) (fun hc => ?_)<;>(try simp only [SY] at hc)<;>first|omega|(conv=>whnf)))
  exact PRet.gen (y := .bool (stF fm v)) (Γ' := .box b0 [.ptr b 0] :: mkrG b r tk A fm) (Wk.refl _) ⟨rfl, rfl⟩
theorem number13_c (b r : Nat) (tk : Tok) (A : List Cod) (fm : Fm) (t : Trm) (hb : t.bulk ≤ 1000000000) (h1 : tk.e = 62) (h2 : tk.s = 6) (hA : A.length ≤ 1000000000) :
    ACall Tryz.prog 143 [.ptr b 0, .agg t.cells] (mkrG b r tk A fm) (fun y Γ' => ∃ tk', tk'.e = 62 ∧ tk'.s = 6 ∧ y = .int .i64 A.length ∧ Γ' = mkrG b r tk' (A ++ [⟨t.v, t.n == 1, noT⟩]) fm) := by
  have hbe := t.bulk_eq
  refine ACall.of_body tt_ok Tryz.func143 rfl rfl (n := 27) rfl rfl ?_
  conv => whnf
  repeat ((first|((first|(apply zY;intro hg)|apply zZ);first|exact stA|exact stB|((conv=>whnf);(repeat ((first|(refine zW ?_ ?_;exact gA)|refine pC (cloneInt_c t.v (by omega)) wR ?_|refine zA ?_|refine zH rfl ?_|refine zB ?_|(refine yE ?_ ?_ ?_ ?_;assumption;omega;omega)|(refine yF ?_ rfl ?_;omega)|(apply yH;assumption)|(refine yI ?_ ?_;assumption)|intro _);conv=>whnf));first|exact pS|exact pL|exact pE))|(refine zW ?_ ?_;exact gA)|refine zH rfl ?_|refine zA ?_|refine zI bA ?_|refine zI rfl ?_|refine zJ rfl rfl ?_|refine zB ?_|refine zK rfl ?_|refine zL rfl ?_|refine zC ?_|(refine zO ?_ ?_ ?_;omega;omega)|(refine zP ?_ ?_ ?_;omega;omega)|refine zM rfl ?_|(refine zQ ?_ ?_ ?_;omega;omega)|(refine zR ?_ ?_;omega)|(refine zI ?_ ?_;exact nA)|(refine zS ?_ ?_ ?_;omega;omega)|(refine zT ?_ ?_ ?_;omega;omega)|(refine zU ?_ ?_ ?_;omega;omega)|(refine zV ?_ ?_ ?_;omega;omega)|refine pC (cloneInt_c t.v (by omega)) wR ?_|(refine yA ?_ rfl ?_ ?_;assumption;exact lA)|(refine yB ?_ rfl ?_ ?_;assumption;exact lA)|(refine yC rfl ?_ ?_;exact lA)|(refine yD ?_ ?_ rfl ?_ ?_;assumption;assumption;exact lA)|(refine yE ?_ ?_ ?_ ?_;assumption;omega;omega)|(refine yF ?_ rfl ?_;omega)|(apply yH;assumption)|(refine yI ?_ ?_;assumption)|(refine yG ?_ rfl rfl rfl ?_;omega)|refine n0 ?_|refine zN rfl rfl rfl ?_|refine zD ?_|refine zE ?_|refine zF ?_|intro _);conv=>whnf)
  refine PDraw.sE [.box b [.ms tk, .mp r], .row tk (A.map Cod.pv)] [4,13] [14,15,16] tt_ok mixed ?_
  conv=>whnf
  repeat' (first|((first|((first|(apply zY;intro hg)|apply zZ);first|exact stA|exact stB|((conv=>whnf);(repeat ((first|(refine zW ?_ ?_;exact gA)|refine pC (cloneInt_c t.v (by omega)) wR ?_|refine zA ?_|refine zH rfl ?_|refine zB ?_|(refine yE ?_ ?_ ?_ ?_;assumption;omega;omega)|(refine yF ?_ rfl ?_;omega)|(apply yH;assumption)|(refine yI ?_ ?_;assumption)|intro _);conv=>whnf));first|exact pS|exact pL|exact pE))|(refine zW ?_ ?_;exact gA)|refine zH rfl ?_|refine zA ?_|refine zI bA ?_|refine zI rfl ?_|refine zJ rfl rfl ?_|refine zB ?_|refine zK rfl ?_|refine zL rfl ?_|refine zC ?_|(refine zO ?_ ?_ ?_;omega;omega)|(refine zP ?_ ?_ ?_;omega;omega)|refine zM rfl ?_|(refine zQ ?_ ?_ ?_;omega;omega)|(refine zR ?_ ?_;omega)|(refine zI ?_ ?_;exact nA)|(refine zS ?_ ?_ ?_;omega;omega)|(refine zT ?_ ?_ ?_;omega;omega)|(refine zU ?_ ?_ ?_;omega;omega)|(refine zV ?_ ?_ ?_;omega;omega)|refine pC (cloneInt_c t.v (by omega)) wR ?_|(refine yA ?_ rfl ?_ ?_;assumption;exact lA)|(refine yB ?_ rfl ?_ ?_;assumption;exact lA)|(refine yC rfl ?_ ?_;exact lA)|(refine yD ?_ ?_ rfl ?_ ?_;assumption;assumption;exact lA)|(refine yE ?_ ?_ ?_ ?_;assumption;omega;omega)|(refine yF ?_ rfl ?_;omega)|(apply yH;assumption)|(refine yI ?_ ?_;assumption)|(refine yG ?_ rfl rfl rfl ?_;omega)|refine n0 ?_|refine zN rfl rfl rfl ?_|refine zD ?_|refine zE ?_|refine zF ?_|intro _|refine zG ?_);conv=>whnf)|(refine zX (fun hc => ?_) (fun hc => ?_)<;>(try simp only [SY] at hc)<;>first|omega|(conv=>whnf)))
  rename_i b3 tk2 e1 e2
  refine PLenM.map fun _ => ?_
  conv => whnf
  repeat' (first|((first|((first|(apply zY;intro hg)|apply zZ);first|exact stA|exact stB|((conv=>whnf);(repeat ((first|(refine zW ?_ ?_;exact gA)|refine pC (cloneInt_c t.v (by omega)) wR ?_|refine zA ?_|refine zH rfl ?_|refine zB ?_|(refine yE ?_ ?_ ?_ ?_;assumption;omega;omega)|(refine yF ?_ rfl ?_;omega)|(apply yH;assumption)|(refine yI ?_ ?_;assumption)|intro _);conv=>whnf));first|exact pS|exact pL|exact pE))|(refine zW ?_ ?_;exact gA)|refine zH rfl ?_|refine zA ?_|refine zI bA ?_|refine zI rfl ?_|refine zJ rfl rfl ?_|refine zB ?_|refine zK rfl ?_|refine zL rfl ?_|refine zC ?_|(refine zO ?_ ?_ ?_;omega;omega)|(refine zP ?_ ?_ ?_;omega;omega)|refine zM rfl ?_|(refine zQ ?_ ?_ ?_;omega;omega)|(refine zR ?_ ?_;omega)|(refine zI ?_ ?_;exact nA)|(refine zS ?_ ?_ ?_;omega;omega)|(refine zT ?_ ?_ ?_;omega;omega)|(refine zU ?_ ?_ ?_;omega;omega)|(refine zV ?_ ?_ ?_;omega;omega)|refine pC (cloneInt_c t.v (by omega)) wR ?_|(refine yA ?_ rfl ?_ ?_;assumption;exact lA)|(refine yB ?_ rfl ?_ ?_;assumption;exact lA)|(refine yC rfl ?_ ?_;exact lA)|(refine yD ?_ ?_ rfl ?_ ?_;assumption;assumption;exact lA)|(refine yE ?_ ?_ ?_ ?_;assumption;omega;omega)|(refine yF ?_ rfl ?_;omega)|(apply yH;assumption)|(refine yI ?_ ?_;assumption)|(refine yG ?_ rfl rfl rfl ?_;omega)|refine n0 ?_|refine zN rfl rfl rfl ?_|refine zD ?_|refine zE ?_|refine zF ?_|intro _|refine zG ?_);conv=>whnf)|(refine zX (fun hc => ?_) (fun hc => ?_)<;>(try simp only [SY] at hc)<;>first|omega|(conv=>whnf)))
  exact PRet.gen (y := .int .i64 (A.length : Int)) (Γ' := mkrG b r tk2 (A ++ [⟨t.v, t.n == 1, noT⟩]) fm) (Wk.int (by simp)) ⟨tk2, e1, e2, rfl, rfl⟩
theorem ref13_c (b r : Nat) (tk : Tok) (A : List Cod) (fm : Fm) (v : Int) (ov : List Int) :
    ACall Tryz.prog 111 [.ptr b 0, .int .i64 v, slI ov] (mkrG b r tk A fm) (fun y Γ' => y = .agg (refF fm ov v).cells ∧ Γ' = mkrG b r tk A fm) := by
  refine ACall.of_body tt_ok Tryz.func111 rfl rfl (n := 29) rfl rfl ?_
  conv => whnf
  repeat' (first|((first|((first|(apply zY;intro hg)|apply zZ);first|exact stA|exact stB|((conv=>whnf);(repeat ((first|(refine zW ?_ ?_;exact gA)|refine pC (indexInt_c ov v) wR ?_|refine zA ?_|refine zH rfl ?_|refine zB ?_|(refine yE ?_ ?_ ?_ ?_;assumption;omega;omega)|(refine yF ?_ rfl ?_;omega)|(apply yH;assumption)|(refine yI ?_ ?_;assumption)|intro _);conv=>whnf));first|exact pS|exact pL|exact pE))|(refine zW ?_ ?_;exact gA)|refine zH rfl ?_|refine zA ?_|refine zI bA ?_|refine zI rfl ?_|refine zJ rfl rfl ?_|refine zB ?_|refine zK rfl ?_|refine zL rfl ?_|refine zC ?_|(refine zO ?_ ?_ ?_;omega;omega)|(refine zP ?_ ?_ ?_;omega;omega)|refine zM rfl ?_|(refine zQ ?_ ?_ ?_;omega;omega)|(refine zR ?_ ?_;omega)|(refine zI ?_ ?_;exact nA)|(refine zS ?_ ?_ ?_;omega;omega)|(refine zT ?_ ?_ ?_;omega;omega)|(refine zU ?_ ?_ ?_;omega;omega)|(refine zV ?_ ?_ ?_;omega;omega)|refine pC (indexInt_c ov v) wR ?_|(refine yA ?_ rfl ?_ ?_;assumption;exact lA)|(refine yB ?_ rfl ?_ ?_;assumption;exact lA)|(refine yC rfl ?_ ?_;exact lA)|(refine yD ?_ ?_ rfl ?_ ?_;assumption;assumption;exact lA)|(refine yE ?_ ?_ ?_ ?_;assumption;omega;omega)|(refine yF ?_ rfl ?_;omega)|(apply yH;assumption)|(refine yI ?_ ?_;assumption)|(refine yG ?_ rfl rfl rfl ?_;omega)|refine n0 ?_|refine zN rfl rfl rfl ?_|refine zD ?_|refine zE ?_|refine zF ?_|intro _|refine zG ?_);conv=>whnf)|(refine zX (fun hc => ?_) (fun hc => ?_)<;>(try simp only [SY] at hc)<;>first|omega|(conv=>whnf)))
  refine PLook.kn ?_
  conv => whnf
  repeat' (first|((first|((first|(apply zY;intro hg)|apply zZ);first|exact stA|exact stB|((conv=>whnf);(repeat ((first|(refine zW ?_ ?_;exact gA)|refine pC (indexInt_c ov v) wR ?_|refine zA ?_|refine zH rfl ?_|refine zB ?_|(refine yE ?_ ?_ ?_ ?_;assumption;omega;omega)|(refine yF ?_ rfl ?_;omega)|(apply yH;assumption)|(refine yI ?_ ?_;assumption)|intro _);conv=>whnf));first|exact pS|exact pL|exact pE))|(refine zW ?_ ?_;exact gA)|refine zH rfl ?_|refine zA ?_|refine zI bA ?_|refine zI rfl ?_|refine zJ rfl rfl ?_|refine zB ?_|refine zK rfl ?_|refine zL rfl ?_|refine zC ?_|(refine zO ?_ ?_ ?_;omega;omega)|(refine zP ?_ ?_ ?_;omega;omega)|refine zM rfl ?_|(refine zQ ?_ ?_ ?_;omega;omega)|(refine zR ?_ ?_;omega)|(refine zI ?_ ?_;exact nA)|(refine zS ?_ ?_ ?_;omega;omega)|(refine zT ?_ ?_ ?_;omega;omega)|(refine zU ?_ ?_ ?_;omega;omega)|(refine zV ?_ ?_ ?_;omega;omega)|refine pC (indexInt_c ov v) wR ?_|(refine yA ?_ rfl ?_ ?_;assumption;exact lA)|(refine yB ?_ rfl ?_ ?_;assumption;exact lA)|(refine yC rfl ?_ ?_;exact lA)|(refine yD ?_ ?_ rfl ?_ ?_;assumption;assumption;exact lA)|(refine yE ?_ ?_ ?_ ?_;assumption;omega;omega)|(refine yF ?_ rfl ?_;omega)|(apply yH;assumption)|(refine yI ?_ ?_;assumption)|(refine yG ?_ rfl rfl rfl ?_;omega)|refine n0 ?_|refine zN rfl rfl rfl ?_|refine zD ?_|refine zE ?_|refine zF ?_|intro _|refine zG ?_);conv=>whnf)|(refine zX (fun hc => ?_) (fun hc => ?_)<;>(try simp only [SY] at hc)<;>first|omega|(conv=>whnf)))
  · rw [refF, if_pos hc]
    exact PRet.gen (y := .agg (Trm.mk 21 (codeF fm v) [] []).cells) (Γ' := mkrG b r tk A fm) TrmOf.wk ⟨rfl, rfl⟩
  · rw [refF, if_neg (by simp [‹stF fm v = false›]), if_pos hc]
    exact PRet.gen (y := .agg (Trm.mk 20 (idxL ov v 0) [] []).cells) (Γ' := mkrG b r tk A fm) TrmOf.wk ⟨rfl, rfl⟩
  · rw [refF, if_neg (by simp [‹stF fm v = false›]), if_neg (by omega)]
    exact PRet.gen (y := .agg (Trm.mk 1 v [] []).cells) (Γ' := mkrG b r tk A fm) TrmOf.wk ⟨rfl, rfl⟩
theorem freeL_len (t : Trm) : (riseL (freeOf t.all)).length ≤ t.bulk := by
  have h1 : t.all.length ≤ t.bulk := t.met_len [] 0
  have h2 : (freeOf t.all).length ≤ t.all.length := by rw [freeOf, List.length_map]; exact List.length_filter_le _ _
  have h3 : (riseL (freeOf t.all)).length ≤ ((freeOf t.all).mergeSort fun x y => decide (x ≤ y)).length := by
    unfold riseL Lib.compact Lib.compactUpTo
    rw [List.length_map]
    exact Nat.le_trans (List.length_filter_le _ _) (by simp)
  rw [List.length_mergeSort] at h3
  omega
theorem over13_c0 (b r : Nat) (tk : Tok) (A : List Cod) (fm : Fm) (t : Trm) (hb : t.bulk ≤ 1000000000) :
    ACall Tryz.prog 147 [.ptr b 0, .agg t.cells] (mkrG b r tk A fm) (fun y Γ' => ∃ t' : Tok, t'.s = 1 ∧ y = .ms t' ∧ Γ' = .row t' ((overF fm t).map (PV.int .i64)) :: mkrG b r tk A fm) := by
  have hrl : (riseL (freeOf t.all)).length ≤ 1000000000 := by have := freeL_len t; omega
  refine ACall.of_body tt_ok Tryz.func147 rfl rfl (n := 9) rfl rfl ?_
  conv => whnf
  repeat ((first|((first|(apply zY;intro hg)|apply zZ);first|exact stA|exact stB|((conv=>whnf);(repeat ((first|(refine zW ?_ ?_;exact gA)|refine pC (indexInt_c ov v) wR ?_|refine zA ?_|refine zH rfl ?_|refine zB ?_|(refine yE ?_ ?_ ?_ ?_;assumption;omega;omega)|(refine yF ?_ rfl ?_;omega)|(apply yH;assumption)|(refine yI ?_ ?_;assumption)|intro _);conv=>whnf));first|exact pS|exact pL|exact pE))|(refine zW ?_ ?_;exact gA)|refine zH rfl ?_|refine zA ?_|refine zI bA ?_|refine zI rfl ?_|refine zJ rfl rfl ?_|refine zB ?_|refine zK rfl ?_|refine zL rfl ?_|refine zC ?_|(refine zO ?_ ?_ ?_;omega;omega)|(refine zP ?_ ?_ ?_;omega;omega)|refine zM rfl ?_|(refine zQ ?_ ?_ ?_;omega;omega)|(refine zR ?_ ?_;omega)|(refine zI ?_ ?_;exact nA)|(refine zS ?_ ?_ ?_;omega;omega)|(refine zT ?_ ?_ ?_;omega;omega)|(refine zU ?_ ?_ ?_;omega;omega)|(refine zV ?_ ?_ ?_;omega;omega)|refine pC (indexInt_c ov v) wR ?_|(refine yA ?_ rfl ?_ ?_;assumption;exact lA)|(refine yB ?_ rfl ?_ ?_;assumption;exact lA)|(refine yC rfl ?_ ?_;exact lA)|(refine yD ?_ ?_ rfl ?_ ?_;assumption;assumption;exact lA)|(refine yE ?_ ?_ ?_ ?_;assumption;omega;omega)|(refine yF ?_ rfl ?_;omega)|(apply yH;assumption)|(refine yI ?_ ?_;assumption)|(refine yG ?_ rfl rfl rfl ?_;omega)|refine n0 ?_|refine zN rfl rfl rfl ?_|refine zD ?_|refine zE ?_|refine zF ?_|intro _);conv=>whnf)
  rename_i b2 b3
  refine PCall.go (free_c0 t hb) (WkT.refl _) ?_
  rintro _ _ ⟨tf, e1, e2, rfl, rfl⟩
  refine PCall.go (deleteFunc_c 171 [.ptr b2 0] (.box b2 [.ptr b 0] :: mkrG b r tk A fm) (stF fm) tf (riseL (freeOf t.all)) e2 hrl (fun x _ => over1_c b2 b r tk A fm x)) (WkT.refl _) ?_
  rintro _ _ ⟨t2, s2, rfl, rfl⟩
  conv => whnf
  repeat' (first|((first|((first|(apply zY;intro hg)|apply zZ);first|exact stA|exact stB|((conv=>whnf);(repeat ((first|(refine zW ?_ ?_;exact gA)|refine pC (indexInt_c ov v) wR ?_|refine zA ?_|refine zH rfl ?_|refine zB ?_|(refine yE ?_ ?_ ?_ ?_;assumption;omega;omega)|(refine yF ?_ rfl ?_;omega)|(apply yH;assumption)|(refine yI ?_ ?_;assumption)|intro _);conv=>whnf));first|exact pS|exact pL|exact pE))|(refine zW ?_ ?_;exact gA)|refine zH rfl ?_|refine zA ?_|refine zI bA ?_|refine zI rfl ?_|refine zJ rfl rfl ?_|refine zB ?_|refine zK rfl ?_|refine zL rfl ?_|refine zC ?_|(refine zO ?_ ?_ ?_;omega;omega)|(refine zP ?_ ?_ ?_;omega;omega)|refine zM rfl ?_|(refine zQ ?_ ?_ ?_;omega;omega)|(refine zR ?_ ?_;omega)|(refine zI ?_ ?_;exact nA)|(refine zS ?_ ?_ ?_;omega;omega)|(refine zT ?_ ?_ ?_;omega;omega)|(refine zU ?_ ?_ ?_;omega;omega)|(refine zV ?_ ?_ ?_;omega;omega)|refine pC (indexInt_c ov v) wR ?_|(refine yA ?_ rfl ?_ ?_;assumption;exact lA)|(refine yB ?_ rfl ?_ ?_;assumption;exact lA)|(refine yC rfl ?_ ?_;exact lA)|(refine yD ?_ ?_ rfl ?_ ?_;assumption;assumption;exact lA)|(refine yE ?_ ?_ ?_ ?_;assumption;omega;omega)|(refine yF ?_ rfl ?_;omega)|(apply yH;assumption)|(refine yI ?_ ?_;assumption)|(refine yG ?_ rfl rfl rfl ?_;omega)|refine n0 ?_|refine zN rfl rfl rfl ?_|refine zD ?_|refine zE ?_|refine zF ?_|intro _|refine zG ?_);conv=>whnf)|(refine zX (fun hc => ?_) (fun hc => ?_)<;>(try simp only [SY] at hc)<;>first|omega|(conv=>whnf)))
  exact PRet.gen (y := .ms t2) (Γ' := .row t2 (((riseL (freeOf t.all)).filter fun v => !stF fm v).map (PV.int .i64)) :: mkrG b r tk A fm) (Wk.refl _) ⟨t2, s2, rfl, rfl⟩
theorem over13_c (b r : Nat) (tk : Tok) (A : List Cod) (fm : Fm) (t : Trm) (hb : t.bulk ≤ 1000000000) :
    ACall Tryz.prog 147 [.ptr b 0, .agg t.cells] (mkrG b r tk A fm) (fun y Γ' => y = slI (overF fm t) ∧ Γ' = mkrG b r tk A fm) :=
  ((over13_c0 b r tk A fm t hb).shift fun y Γ' hq => by
    obtain ⟨t2, h2, rfl, rfl⟩ := hq
    exact ⟨slI (overF fm t), mkrG b r tk A fm, Shift.trans (Shift.freezeRow (es := (overF fm t).map (PV.int .i64)) (WkF.ms' h2)) (Shift.wk (Γ1 := [.tok t2]) (Wk.refl _) (List.perm_append_singleton _ _).symm), rfl, rfl⟩)
end Go.Cb
namespace Go.Cb
open Go.Proofs
set_option maxRecDepth 100000
set_option maxHeartbeats 4000000
def LenOk (w : Bool) (t : Trm) : Prop := ∀ ov n fm, (t.clo w ov n fm).c.length ≤ t.bulk
def LenB (w : Bool) (t : Trm) : Prop := ∀ ov n fm, (t.cloB w ov n fm).c.length + 1 ≤ t.bulk
theorem Trm.clos_len (w : Bool) : ∀ l : List Trm, (∀ y ∈ l, LenOk w y) → ∀ ov n fm, (Trm.clos w l ov n fm).c.length ≤ Trm.bulks l
  | [], _, ov, n, fm => by rw [Trm.clos]; simp
  | y :: l, h, ov, n, fm => by
    rw [Trm.clos, Trm.bulks]
    have a := h y (by simp) ov n fm
    have b := Trm.clos_len w l (fun z hz => h z (by simp [hz])) ov (n + (y.clo w ov n fm).c.length) (y.clo w ov n fm).fm
    simp only [List.length_append]
    omega
theorem Trm.cloL_len (w : Bool) : ∀ (l : List Trm), (∀ y ∈ l, LenOk w y) → ∀ vs ov n fm lrn, (Trm.cloL w l vs ov n fm lrn).c.length ≤ Trm.bulks l ∧ (Trm.cloL w l vs ov n fm lrn).t.length ≤ l.length ∧ (Trm.cloL w l vs ov n fm lrn).v.length ≤ l.length
  | [], _, vs, ov, n, fm, lrn => by rw [Trm.cloL]; simp
  | y :: l, h, [], ov, n, fm, lrn => by
    rw [Trm.cloL, Trm.bulks]
    have a := h y (by simp) ov n (learnF w lrn fm)
    refine ⟨?_, by simp, by simp⟩
    show (y.clo w ov n (learnF w lrn fm)).c.length ≤ _
    omega
  | y :: l, h, v :: vs, ov, n, fm, lrn => by
    rw [Trm.cloL, Trm.bulks]
    have a := h y (by simp) ov n fm
    have b := Trm.cloL_len w l (fun z hz => h z (by simp [hz])) vs ov (n + (y.clo w ov n fm).c.length) (y.clo w ov n fm).fm (if y.op = 4 then lrn ++ [(v, ⟨n, (y.clo w ov n fm).t.op == 21⟩)] else lrn)
    refine ⟨?_, ?_, ?_⟩
    · simp only [List.length_append]
      omega
    · dsimp only
      split <;> simp only [List.length_cons] <;> omega
    · dsimp only
      split <;> simp only [List.length_cons] <;> omega
theorem Trm.cloF_len (w : Bool) : ∀ (l : List Trm), (∀ y ∈ l, LenOk w y) → (∀ y ∈ l, LenB w y) → ∀ vs ov c n fm, (Trm.cloF w l vs ov c n fm).own.length + (Trm.cloF w l vs ov c n fm).c.length ≤ Trm.bulks l ∧ (vs.length < l.length → (Trm.cloF w l vs ov c n fm).own.length = vs.length) ∧ (Trm.cloF w l vs ov c n fm).t.length = (Trm.cloF w l vs ov c n fm).own.length
  | [], _, _, vs, ov, c, n, fm => by rw [Trm.cloF]; simp
  | y :: l, h, _, [], ov, c, n, fm => by
    rw [Trm.cloF, Trm.bulks]
    have a := h y (by simp) ov n fm
    refine ⟨?_, by simp, by simp⟩
    show 0 + (y.clo w ov n fm).c.length ≤ _
    omega
  | y :: l, h, k, v :: vs, ov, c, n, fm => by
    rw [Trm.cloF, Trm.bulks]
    have a := k y (by simp) (overF fm y) n fm
    have b := Trm.cloF_len w l (fun z hz => h z (by simp [hz])) (fun z hz => k z (by simp [hz])) vs ov (c + 1) (n + (y.cloB w (overF fm y) n fm).c.length) (y.cloB w (overF fm y) n fm).fm
    refine ⟨?_, ?_, ?_⟩
    · simp only [List.length_append, List.length_cons]
      omega
    · intro hl
      simp only [List.length_cons] at hl ⊢
      omega
    · simp only [List.length_cons]
      omega
theorem Trm.clo_eq (w : Bool) (t : Trm) (ov : List Int) (n : Nat) (fm : Fm) : t.clo w ov n fm =
    if t.op = 1 then ⟨refF fm ov t.n, [], fm⟩
    else if t.op = 4 then ⟨cloT n ((if w = true then overF (t.cloB w (overF fm t) (n + 1) fm).fm t else overF fm t).map (refF (t.cloB w (overF fm t) (n + 1) fm).fm ov)), ⟨t.v, t.n == 1, (t.cloB w (overF fm t) (n + 1) fm).t⟩ :: (t.cloB w (overF fm t) (n + 1) fm).c, (t.cloB w (overF fm t) (n + 1) fm).fm⟩
    else if t.op = 8 then ⟨if (Trm.cloL w t.t t.v ov n fm []).v.length = 0 then (Trm.cloL w t.t t.v ov n fm []).last else .mk 8 0 (Trm.cloL w t.t t.v ov n fm []).v ((Trm.cloL w t.t t.v ov n fm []).t ++ [(Trm.cloL w t.t t.v ov n fm []).last]), (Trm.cloL w t.t t.v ov n fm []).c, (Trm.cloL w t.t t.v ov n fm []).fm⟩
    else if t.op = 9 then ⟨if fixS fm t.v t.t = true then (Trm.cloF w t.t t.v ov n (n + t.v.length) (fixF w t.v n (fixS fm t.v t.t) fm)).last else .mk 9 0 t.v ((Trm.cloF w t.t t.v ov n (n + t.v.length) (fixF w t.v n (fixS fm t.v t.t) fm)).t ++ [(Trm.cloF w t.t t.v ov n (n + t.v.length) (fixF w t.v n (fixS fm t.v t.t) fm)).last]),
        (Trm.cloF w t.t t.v ov n (n + t.v.length) (fixF w t.v n (fixS fm t.v t.t) fm)).own ++ (Trm.cloF w t.t t.v ov n (n + t.v.length) (fixF w t.v n (fixS fm t.v t.t) fm)).c, (Trm.cloF w t.t t.v ov n (n + t.v.length) (fixF w t.v n (fixS fm t.v t.t) fm)).fm⟩
    else ⟨.mk (callF fm t.op t.n t.t).1 (callF fm t.op t.n t.t).2 t.v (Trm.clos w t.t ov n fm).t, (Trm.clos w t.t ov n fm).c, (Trm.clos w t.t ov n fm).fm⟩ := by
  obtain ⟨op, k, v, l⟩ := t
  rw [Trm.clo]
  rfl
theorem Trm.cloB_eq (w : Bool) (t : Trm) (ov : List Int) (n : Nat) (fm : Fm) : t.cloB w ov n fm = Trm.cloH w t.t ov n fm := by
  obtain ⟨op, k, v, l⟩ := t
  rw [Trm.cloB]
  rfl
theorem Trm.clo_lens (w : Bool) (t : Trm) : LenOk w t ∧ LenB w t := by
  induction t using Trm.ind with
  | h t ih =>
    have hbe := t.bulk_eq
    have hB : LenB w t := by
      intro ov n fm
      rw [Trm.cloB_eq]
      cases ht : t.t with
      | nil => rw [Trm.cloH]; show 0 + 1 ≤ _; omega
      | cons x xs =>
        rw [Trm.cloH]
        have := (ih x (by rw [ht]; simp)).1 ov n fm
        rw [ht, Trm.bulks] at hbe
        omega
    refine ⟨?_, hB⟩
    intro ov n fm
    rw [Trm.clo_eq]
    split
    · show 0 ≤ _; omega
    split
    · have := hB (overF fm t) (n + 1) fm
      show (_ :: _).length ≤ _
      rw [List.length_cons]
      exact this
    split
    · have := (Trm.cloL_len w t.t (fun y hy => (ih y hy).1) t.v ov n fm []).1
      dsimp only
      omega
    split
    · have := (Trm.cloF_len w t.t (fun y hy => (ih y hy).1) (fun y hy => (ih y hy).2) t.v ov n (n + t.v.length) (fixF w t.v n (fixS fm t.v t.t) fm)).1
      dsimp only
      rw [List.length_append]
      omega
    · have := Trm.clos_len w t.t (fun y hy => (ih y hy).1) ov n fm
      dsimp only
      omega
end Go.Cb
namespace Go.Cb
open Go.Proofs
set_option maxRecDepth 100000
set_option maxHeartbeats 4000000
mutual
def Trm.alk : Trm → Trm → Bool
  | .mk op n v t, .mk op' n' v' t' => op == op' && n == n' && v == v' && Trm.alks t t'
def Trm.alks : List Trm → List Trm → Bool
  | [], [] => true
  | x :: xs, y :: ys => Trm.alk x y && Trm.alks xs ys
  | _, _ => false
end
mutual
def Datum.alk : Datum → Datum → Bool
  | .mk k n d s l, .mk k' n' d' s' l' => k == k' && n == n' && d == d' && s == s' && Datum.alks l l'
def Datum.alks : List Datum → List Datum → Bool
  | [], [] => true
  | x :: xs, y :: ys => Datum.alk x y && Datum.alks xs ys
  | _, _ => false
end
def Prog.same (p q : Prog) : Bool := Datum.alks p.consts q.consts && p.body.alk q.body
end Go.Cb
namespace Go.Cb
open Go.Proofs
set_option maxRecDepth 100000
set_option maxHeartbeats 4000000
end Go.Cb

