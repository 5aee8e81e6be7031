/-
 Contracts: the document's reader of images: a procedure's code.
 Contracts: many moves at once, one by one.
 Contracts: moves, told one by one.
 Contracts: moves that happen at once, in an order.
 Contracts: a call that ends its procedure, as words; the moves are given.
 Contracts: the image of a unit, its calls moved.
 Plain law: what is written of a unit is read.
 Plain law: other words, other procedures; a word more is too much.
 Plain law: where an image's procedures stand; what is read of each, place by place.
 Plain law: sets of registers as words.
 Plain law: moves at once, as the document finds them.
 Contracts: moves at once, the document's.
 Contracts: sets of registers.
 Plain law: the document's check of an instruction is the program's.
 Plain law: what is needed of a procedure's registers, and its slots, as the document finds them: as functions.
 Plain law: what a checked unit's procedures are.
-/
import Derived.Test.YtklpioocdgfbmaaGreatDoorQ6
set_option linter.unusedSimpArgs false
set_option linter.unusedVariables false
namespace Go.Cb
open Go.Proofs
set_option maxRecDepth 100000
set_option maxHeartbeats 4000000
end Go.Cb
namespace Go.Cb
open Go.Proofs
set_option maxRecDepth 100000
set_option maxHeartbeats 4000000
theorem Shift.ghost {x : PV} {Γ Γ' : List Ent} (hg : Ghost Γ Γ') : Shift x Γ x Γ' := fun w0 F M w v hS hx => by
 obtain ⟨F', h1, h2⟩ := hg w0 F M w hS
 exact ⟨F', h1, h2, Rep.mono h1 x v hx⟩
theorem PRet.ghost {x : PV} {Γ Γ' : List Ent} {Q : PV → List Ent → Prop} (hg : Ghost Γ Γ') (h : PRet x Γ' Q) : PRet x Γ Q := by
 obtain ⟨y, Γ2, h1, h2⟩ := h
 exact ⟨y, Γ2, Shift.trans (Shift.ghost hg) h1, h2⟩
end Go.Cb
namespace Go.Cb
open Go.Proofs
set_option maxRecDepth 100000
set_option maxHeartbeats 4000000
theorem mvM_set {s : Lft} {i : Nat} (z : Int) : mvM (s.set i none) z = if z = (i : Int) then none else mvM s z := by
 unfold mvM
 by_cases e : z = (i : Int)
 ·subst e
  rw [if_pos rfl, if_pos (by omega), Int.toNat_natCast, List.getD_eq_getElem?_getD, List.getElem?_set, if_pos rfl]
  split <;> rfl
 ·rw [if_neg e]
  by_cases h : 0 ≤ z
  ·rw [if_pos h, if_pos h, List.getD_eq_getElem?_getD, List.getElem?_set, if_neg (by omega), List.getD_eq_getElem?_getD]
  ·rw [if_neg h, if_neg h]
theorem PMapDel.mv {r : Nat} {s : Lft} {i : Nat} {Γ : List Ent} {pend : List (Int × Value)} {put : (Value → Option PV) → List (Int × Value) → List Ent} [hp : PickMp Γ r (.int .i64) (mapM (PV.int .i64) (mvM s)) pend put] {K : List Ent → Prop} (h : K (put (mapM (PV.int .i64) (mvM (s.set i none))) [])) :
  PMapDel r (.int .i64) (some (.int .i64 (i : Int))) Γ K :=
 PMapDel.at_ (hp := hp) (mapM (PV.int .i64) (mvM (s.set i none))) (by simp [IsK, MapKept.IsKey]) (by simp [mapM, mvM_set]) (fun k hk => by
  unfold mapM
  split
  ·rename_i z
   rw [mvM_set, if_neg (fun e => hk (by rw [e]))]
  ·rfl) h
theorem PYield.ghost {P : Program} {l : Nat} {args : List PV} {Γ Γ' : List Ent} {K : PV → List Ent → Prop} (hg : Ghost Γ Γ') (h : PYield P l args Γ' K) : PYield P l args Γ K :=
 ⟨fun w0 F M w vs hS hT => by
  obtain ⟨F1, a1, a2⟩ := hg w0 F M w hS
  obtain ⟨fn, tmps, asg, bd, e1, e2⟩ := h.h w0 F1 M w vs a2 (RepT.mono a1 _ _ hT)
  refine ⟨fn, tmps, asg, bd, e1, e2.mono ?_⟩
  rintro e w' ⟨v, F', y, Γ2, e1, e2, e3⟩
  exact ⟨v, F', y, Γ2, e1, Fz.le_trans a1 e2, e3⟩⟩
end Go.Cb
namespace Go.Cb
open Go.Proofs
set_option maxRecDepth 100000
set_option maxHeartbeats 4000000
instance {m : Mov} : ElOf Mov.pv (.agg [.int .i64 m.to, .int .i64 m.frm]) m := ⟨Wk.refl _, WkL.refl _⟩
end Go.Cb
namespace Go.Cb
open Go.Proofs
set_option maxRecDepth 100000
set_option maxHeartbeats 4000000
theorem ACall.weak {P : Program} {f : FuncId} {args args' : List PV} {Γ Γ' : List Ent} {Q : PV → List Ent → Prop} (hg : Weak args Γ args' Γ') (h : ACall P f args' Γ' Q) : ACall P f args Γ Q :=
 ⟨h.1, fun w0 F M w vs hS hT => by
  obtain ⟨F1, a1, a2, a3⟩ := hg w0 F M w vs hS hT
  refine (h.2 w0 F1 M w vs a2 a3).mono ?_
  rintro e w' ⟨v, F', y, Γ2, e1, e2, e3⟩
  exact ⟨v, F', y, Γ2, e1, Fz.le_trans a1 e2, e3⟩⟩
def movI (m : Mov) : Ins := ⟨1, m.to, m.frm, 0, []⟩
def movW (ms : List Mov) : List Int := ms.flatMap fun m => insW (movI m) []
def upTo (n : Nat) : List Int := (List.range n).map Int.ofNat
def endI (x : Ins) : Ins := ⟨x.op, x.d, if x.op = 19 then x.l.length else x.a, if x.op = 20 then x.l.length else x.b, upTo x.l.length⟩
end Go.Cb
namespace Go.Cb
open Go.Proofs
set_option maxRecDepth 100000
set_option maxHeartbeats 4000000
def cwM : CwF := fun sp x al => movW (ordF (takF x) sp).1 ++ insW (endI x) al
theorem chksU_mem (u : Unt) : ∀ (ps : List Prc) (all : Int), chksU u ps all = true → ∀ p ∈ ps, headB p = false ∧ endB p = false ∧ ∀ x ∈ p.code, fitB x p u = true
 | [], _, _, _, h => by cases h
 | q :: ps, all, hc, p, hp => by
  rw [chksU] at hc
  split at hc
  ·cases hc
  rename_i h1
  split at hc
  ·cases hc
  rename_i h2
  split at hc
  ·cases hc
  rename_i h3
  rcases List.mem_cons.1 hp with rfl | hp
  ·refine ⟨by simpa using h1, ?_, fun x hx => ?_⟩
   ·rw [Bool.or_eq_true, not_or] at h2
    simpa using h2.2
   ·rw [Bool.not_eq_true, List.any_eq_false] at h3
    simpa using h3 x hx
  ·exact chksU_mem u ps _ hc p hp
theorem insW_len (x : Ins) (al : List Int) : (insW x al).length = 6 + x.l.length + al.length := by
 simp [insW]; omega
def Lim (u : Unt) : Prop := u.procs.length ≤ 30 ∧ ∀ p ∈ u.procs, p.code.length ≤ 200 ∧ ∀ x ∈ p.code, x.l.length ≤ 1000
end Go.Cb
namespace Go.Cb
open Go.Proofs
set_option maxRecDepth 100000
set_option maxHeartbeats 4000000
def AtW (l : List Int) (k : Nat) (s : List Int) : Prop := ∃ r, l.drop k = s ++ r
theorem AtW.snd {l : List Int} {k : Nat} {s t : List Int} (h : AtW l k (s ++ t)) : AtW l (k + s.length) t := by
 obtain ⟨r, h⟩ := h
 exact ⟨r, by rw [← List.drop_drop, h, List.append_assoc, List.drop_left]⟩
theorem AtW.cons {l : List Int} {k : Nat} {a : Int} {s : List Int} (h : AtW l k (a :: s)) : k < l.length ∧ l.getD k 0 = a ∧ AtW l (k + 1) s := by
 obtain ⟨r, h⟩ := h
 have hk : k < l.length := by
  refine Nat.lt_of_not_le fun hk => ?_
  rw [List.drop_of_length_le hk] at h
  cases h
 rw [drop_at hk, List.cons_append, List.cons.injEq] at h
 refine ⟨hk, ?_, ⟨r, h.2⟩⟩
 rw [List.getD_eq_getElem?_getD, List.getElem?_eq_getElem hk]
 exact h.1
theorem AtW.len {l : List Int} {k : Nat} {s : List Int} (h : AtW l k s) (hs : s ≠ []) : k + s.length ≤ l.length := by
 obtain ⟨r, h⟩ := h
 have h2 := congrArg List.length h
 rw [List.length_drop, List.length_append] at h2
 have := List.length_pos_iff.2 hs
 omega
abbrev InE := Ins × List Int
def wrdE (E : List InE) : List Int := E.flatMap fun q => insW q.1 q.2
theorem wrdE_cons (q : InE) (E : List InE) : wrdE (q :: E) = insW q.1 q.2 ++ wrdE E := by rw [wrdE, List.flatMap_cons]; rfl
theorem wrdE_app (E F : List InE) : wrdE (E ++ F) = wrdE E ++ wrdE F := by rw [wrdE, List.flatMap_append]; rfl
theorem wrdE_len : ∀ E : List InE, 6 * E.length ≤ (wrdE E).length
 | [] => Nat.zero_le _
 | q :: E => by
  have := wrdE_len E
  rw [wrdE_cons, List.length_append, insW_len, List.length_cons]
  omega
def expE (sp : Int) (x : Ins) (al : List Int) : List InE := if lvsB x = true then ((ordF (takF x) sp).1.map fun m => (movI m, [])) ++ [(endI x, al)] else [(x, al)]
def allE (sp : Int) (f : Ins → Ins) : List Ins → List (List Int) → List InE
 | x :: xs, a :: al => expE sp (f x) a ++ allE sp f xs al
 | _, _ => []
theorem expE_w (sp : Int) (x : Ins) (al : List Int) : wrdE (expE sp x al) = oneW (cwM sp) x al := by
 unfold expE oneW
 split
 ·rw [wrdE_app, wrdE_cons, cwM, movW]
  congr 1
  ·rw [wrdE, List.flatMap_map]
  ·show insW (endI x) al ++ [] = _
   rw [List.append_nil]
 ·show insW x al ++ [] = _
  rw [List.append_nil]
theorem allE_w (sp : Int) (f : Ins → Ins) : ∀ (c : List Ins) (al : List (List Int)), wrdE (allE sp f c al) = allW (cwM sp) f c al
 | [], _ => by simp [allE, allW, wrdE]
 | _ :: _, [] => by simp [allE, allW, wrdE]
 | x :: c, a :: al => by rw [allE, allW, wrdE_app, expE_w, allE_w]
abbrev cdE (p : Prc) : List InE := allE (spareL p.code p.regs) (jmpT (stsP cwM p)) p.code p.alive
def RdOf (p q : Prc) : Prop := q.args = p.args ∧ q.rest = p.rest ∧ q.regs = spareL p.code p.regs + 1 ∧ q.alive = (cdE p).map Prod.snd ∧ q.code.map (fun x => (x.op, x.l)) = (cdE p).map fun x => (x.1.op, x.1.l)
inductive RdsOf : List Prc → List Prc → Prop
 | nil : RdsOf [] []
 | cons {p q ps qs} : RdOf p q → RdsOf ps qs → RdsOf (p :: ps) (q :: qs)
theorem RdsOf.length {ps qs : List Prc} (h : RdsOf ps qs) : qs.length = ps.length := by
 induction h with
 | nil => rfl
 | cons _ _ ih => rw [List.length_cons, List.length_cons, ih]
theorem RdsOf.at_ {ps qs : List Prc} (h : RdsOf ps qs) : ∀ {i : Nat} (h1 : i < ps.length) (h2 : i < qs.length), RdOf ps[i] qs[i] := by
 induction h with
 | nil => intro i h1; cases h1
 | cons a _ ih =>
  intro i h1 h2
  cases i with
  | zero => exact a
  | succ i => exact ih (by simpa using h1) (by simpa using h2)
end Go.Cb
namespace Go.Cb
open Go.Proofs
set_option maxRecDepth 100000
set_option maxHeartbeats 4000000
theorem AtW.mk {l : List Int} {k : Nat} (h : k < l.length) {s : List Int} (hs : AtW l (k + 1) s) : AtW l k (l.getD k 0 :: s) := by
 obtain ⟨r, hr⟩ := hs
 refine ⟨r, ?_⟩
 rw [drop_at h, hr, List.getD_eq_getElem?_getD, List.getElem?_eq_getElem h]
 rfl
theorem AtW.app {l : List Int} {k : Nat} {s t : List Int} (h : AtW l k s) (g : AtW l (k + s.length) t) : AtW l k (s ++ t) := by
 obtain ⟨r, h⟩ := h
 obtain ⟨q, g⟩ := g
 rw [← List.drop_drop, h, List.drop_left] at g
 exact ⟨q, by rw [h, g, List.append_assoc]⟩
end Go.Cb
namespace Go.Cb
open Go.Proofs
set_option maxRecDepth 100000
set_option maxHeartbeats 4000000
theorem offW_get (cw : CwF) (n : Int) : ∀ (ps : List Prc) (k : Nat) (i : Nat), i < ps.length → (offW cw n ps k).getD i 0 = 2 + n + k + (bodyW cw (ps.take i)).length
 | [], _, _, h => by simp at h
 | p :: ps, k, 0, _ => by rw [offW, List.take_zero]; simp [bodyW]
 | p :: ps, k, i + 1, h => by
  have ih := offW_get cw n ps (k + (procW cw p).length) i (by simpa using h)
  rw [offW, List.getD_cons_succ, List.take_succ_cons, bodyW, List.flatMap_cons, ← bodyW, List.length_append]
  rw [show ((k : Int) + ((procW cw p).length : Int)) = ((k + (procW cw p).length : Nat) : Int) by omega, ih]
  omega
abbrev imgW (ps : List Prc) : List Int := headW cwM ps ++ bodyW cwM ps
def atP (ps : List Prc) (i : Nat) : Nat := 2 + ps.length + (bodyW cwM (ps.take i)).length
theorem headW_len (ps : List Prc) : (headW cwM ps).length = 2 + ps.length := by
 show ([6516594, (ps.length : Int)] ++ offW cwM ps.length ps 0).length = _
 rw [List.length_append, offW_len]
 rfl
theorem atP_succ {ps : List Prc} {i : Nat} (h : i < ps.length) : atP ps (i + 1) = atP ps i + (procW cwM ps[i]).length := by
 rw [atP, atP, List.take_succ_eq_append_getElem h, bodyW, List.flatMap_append, List.length_append, ← bodyW]
 have : List.flatMap (procW cwM) [ps[i]] = procW cwM ps[i] := by simp
 rw [this]
 omega
theorem procW_len (p : Prc) : (procW cwM p).length = 4 + (wrdP cwM p).length := by
 rw [procW, List.length_append, List.length_cons]
 simp only [List.length_cons, List.length_nil]
 omega
theorem imgW_head {ps : List Prc} {i : Nat} (h : i < ps.length) : (imgW ps).getD (2 + i) 0 = (atP ps i : Int) := by
 have h0 : imgW ps = 6516594 :: (ps.length : Int) :: (offW cwM ps.length ps 0 ++ bodyW cwM ps) := rfl
 rw [h0, show 2 + i = i + 1 + 1 by omega, List.getD_cons_succ, List.getD_cons_succ, List.getD_eq_getElem?_getD, List.getElem?_append_left (by rw [offW_len]; exact h), ← List.getD_eq_getElem?_getD]
 have := offW_get cwM ps.length ps 0 i h
 rw [show (((0 : Nat) : Int)) = 0 from rfl] at this
 rw [this, atP]
 omega
theorem imgW_at {ps : List Prc} {i : Nat} (h : i < ps.length) : AtW (imgW ps) (atP ps i) (procW cwM ps[i]) := by
 refine ⟨bodyW cwM (ps.drop (i + 1)), ?_⟩
 rw [imgW, atP, ← headW_len, List.drop_append, List.drop_of_length_le (by omega), List.nil_append, Nat.add_sub_cancel_left]
 have h1 : bodyW cwM ps = bodyW cwM (ps.take i) ++ bodyW cwM (ps.drop i) := by
  rw [bodyW, bodyW, bodyW, ← List.flatMap_append, List.take_append_drop]
 rw [h1, List.drop_left, drop_at h, bodyW, List.flatMap_cons]
 rfl
theorem allE_len (sp : Int) (f : Ins → Ins) : ∀ (c : List Ins) (al : List (List Int)), al.length = c.length → c.length ≤ (allE sp f c al).length
 | [], _, _ => Nat.zero_le _
 | _ :: _, [], h => by simp at h
 | x :: c, a :: al, h => by
  have := allE_len sp f c al (by simpa using h)
  rw [allE, List.length_append, List.length_cons]
  have h1 : 1 ≤ (expE sp (f x) a).length := by
   unfold expE
   split
   ·rw [List.length_append, List.length_singleton]; omega
   ·exact Nat.le_refl 1
  omega
theorem wrdP_ge {p : Prc} (h : p.alive.length = p.code.length) : 6 * p.code.length ≤ (wrdP cwM p).length := by
 have h1 : wrdP cwM p = wrdE (cdE p) := (allE_w _ _ _ _).symm
 have h2 := wrdE_len (cdE p)
 have h3 := allE_len (spareL p.code p.regs) (jmpT (stsP cwM p)) p.code p.alive h
 rw [h1]
 have h4 : p.code.length ≤ (cdE p).length := h3
 omega
theorem place {ps : List Prc} {i : Nat} (h : i < ps.length) (ha : ps[i].alive.length = ps[i].code.length) :
  (imgW ps).getD (2 + i) 0 = (atP ps i : Int) ∧ atP ps i + 3 < (imgW ps).length ∧ (imgW ps).getD (atP ps i) 0 = ps[i].args ∧ (imgW ps).getD (atP ps i + 2) 0 > ps[i].regs ∧ (imgW ps).getD (atP ps i + 3) 0 ≥ 6 * (ps[i].code.length : Int) ∧
   (atP ps i : Int) + 4 + (imgW ps).getD (atP ps i + 3) 0 = (atP ps (i + 1) : Int) ∧ atP ps (i + 1) ≤ (imgW ps).length := by
 have h0 := imgW_at h
 have hle := h0.len (by simp [procW])
 have hpl := procW_len ps[i]
 have hs := atP_succ h
 have h1 : procW cwM ps[i] = ps[i].args :: (if ps[i].rest = true then 1 else 0) :: (spareL ps[i].code ps[i].regs + 1) :: (((wrdP cwM ps[i]).length : Int) :: wrdP cwM ps[i]) := rfl
 rw [h1] at h0
 obtain ⟨_, e1, h0⟩ := h0.cons
 obtain ⟨_, e2, h0⟩ := h0.cons
 obtain ⟨_, e3, h0⟩ := h0.cons
 obtain ⟨_, e4, h0⟩ := h0.cons
 have g := wrdP_ge ha
 have g2 := spareL_ge ps[i].code ps[i].regs
 refine ⟨imgW_head h, by omega, e1, ?_, ?_, ?_, by omega⟩
 ·rw [show atP ps i + 2 = atP ps i + 1 + 1 by omega, e3]; omega
 ·rw [show atP ps i + 3 = atP ps i + 1 + 1 + 1 by omega, e4]; omega
 ·rw [show atP ps i + 3 = atP ps i + 1 + 1 + 1 by omega, e4]; omega
def kkE (sp : Int) (f : Ins → Ins) (c : List Ins) (al : List (List Int)) (i : Nat) : Nat := (allE sp f (c.take i) (al.take i)).length
def mvN (sp : Int) (x : Ins) : Nat := if lvsB x = true then (ordF (takF x) sp).1.length else 0
structure RdAt (p q : Prc) : Prop where
 args : q.args = p.args
 rest : q.rest = p.rest
 len : q.alive.length = q.code.length
 all : kkE (spareL p.code p.regs) (jmpT (stsP cwM p)) p.code p.alive p.code.length = q.code.length
 mv : ∀ (i : Nat) (_ : i < p.code.length) (j : Nat), j < mvN (spareL p.code p.regs) p.code[i] → ∃ (h1 : kkE (spareL p.code p.regs) (jmpT (stsP cwM p)) p.code p.alive i + j < q.code.length) (h2 : kkE (spareL p.code p.regs) (jmpT (stsP cwM p)) p.code p.alive i + j < q.alive.length),
  q.code[kkE (spareL p.code p.regs) (jmpT (stsP cwM p)) p.code p.alive i + j].op = 1 ∧ q.alive[kkE (spareL p.code p.regs) (jmpT (stsP cwM p)) p.code p.alive i + j] = []
 en : ∀ (i : Nat) (_ : i < p.code.length) (h0 : i < p.alive.length), ∃ (h1 : kkE (spareL p.code p.regs) (jmpT (stsP cwM p)) p.code p.alive i + mvN (spareL p.code p.regs) p.code[i] < q.code.length) (h2 : kkE (spareL p.code p.regs) (jmpT (stsP cwM p)) p.code p.alive i + mvN (spareL p.code p.regs) p.code[i] < q.alive.length),
  q.code[kkE (spareL p.code p.regs) (jmpT (stsP cwM p)) p.code p.alive i + mvN (spareL p.code p.regs) p.code[i]].op = p.code[i].op ∧
  q.code[kkE (spareL p.code p.regs) (jmpT (stsP cwM p)) p.code p.alive i + mvN (spareL p.code p.regs) p.code[i]].l = (if lvsB p.code[i] = true then upTo p.code[i].l.length else p.code[i].l) ∧
  q.alive[kkE (spareL p.code p.regs) (jmpT (stsP cwM p)) p.code p.alive i + mvN (spareL p.code p.regs) p.code[i]] = p.alive[i]
end Go.Cb
namespace Go.Cb
open Go.Proofs
set_option maxRecDepth 100000
set_option maxHeartbeats 4000000
def bitN (w : Int) (i : Nat) : Bool := w.toNat.testBit i
def bitB (ws : List Int) (r : Nat) : Bool := bitN (ws.getD (r / 64) 0) (r % 64)
def okW (w : Int) : Prop := 0 ≤ w ∧ w < 2 ^ 64
theorem wrap_u (n : Nat) (h : n < 2 ^ 64) : IntKind.u64.wrap (n : Int) = n := by
 show (if (false && decide ((n : Int) % (2 ^ 64 : Int) ≥ (2 ^ 63 : Int))) = true then (n : Int) % (2 ^ 64 : Int) - (2 ^ 64 : Int) else (n : Int) % (2 ^ 64 : Int)) = _
 rw [if_neg (by simp)]
 omega
theorem ofInt_nat {a : Int} (h : okW a) : (BitVec.ofInt 64 a).toNat = a.toNat := by
 rw [BitVec.toNat_ofInt]
 have := h.1
 have := h.2
 omega
theorem bits_w (op : BinOp) (a b : Int) (v : BitVec 64) (h : bitsOf op .u64 a b = IntKind.u64.wrap (v.toNat : Nat)) : bitsOf op .u64 a b = (v.toNat : Int) := by
 rw [h, wrap_u _ v.isLt]
theorem orW_eq (a b : Int) : bitsOf .or .u64 a b = ((BitVec.ofInt 64 a ||| BitVec.ofInt 64 b).toNat : Int) := bits_w _ _ _ _ rfl
theorem anW_eq (a b : Int) : bitsOf .andNot .u64 a b = ((BitVec.ofInt 64 a &&& ~~~BitVec.ofInt 64 b).toNat : Int) := bits_w _ _ _ _ rfl
theorem adW_eq (a b : Int) : bitsOf .and .u64 a b = ((BitVec.ofInt 64 a &&& BitVec.ofInt 64 b).toNat : Int) := bits_w _ _ _ _ rfl
theorem bv_ok (v : BitVec 64) : okW (v.toNat : Int) := ⟨by omega, by have := v.isLt; omega⟩
theorem bitN_v {a : Int} (h : okW a) (i : Nat) : (BitVec.ofInt 64 a).getLsbD i = bitN a i := by
 rw [← BitVec.testBit_toNat, ofInt_nat h]
 rfl
theorem orW_bit {a b : Int} (ha : okW a) (hb : okW b) (i : Nat) : bitN (bitsOf .or .u64 a b) i = (bitN a i || bitN b i) := by
 rw [orW_eq]
 show (((BitVec.ofInt 64 a ||| BitVec.ofInt 64 b).toNat : Nat) : Int).toNat.testBit i = _
 rw [Int.toNat_natCast, BitVec.testBit_toNat, BitVec.getLsbD_or, bitN_v ha, bitN_v hb]
theorem anW_bit {a b : Int} (ha : okW a) (hb : okW b) (i : Nat) (hi : i < 64) : bitN (bitsOf .andNot .u64 a b) i = (bitN a i && !bitN b i) := by
 rw [anW_eq]
 show (((BitVec.ofInt 64 a &&& ~~~BitVec.ofInt 64 b).toNat : Nat) : Int).toNat.testBit i = _
 rw [Int.toNat_natCast, BitVec.testBit_toNat, BitVec.getLsbD_and, BitVec.getLsbD_not, bitN_v ha, bitN_v hb]
 simp [hi]
def oneB (i : Nat) : Int := ((2 ^ i : Nat) : Int)
theorem oneB_ok {i : Nat} (h : i < 64) : okW (oneB i) := by
 have h1 : (2 : Nat) ^ i < 2 ^ 64 := Nat.pow_lt_pow_right (by decide) h
 unfold oneB okW
 generalize (2 : Nat) ^ i = m at *
 exact ⟨by omega, by omega⟩
theorem oneB_shl {i : Nat} (h : i < 64) : IntKind.u64.wrap (1 * 2 ^ (min i 64)) = oneB i := by
 rw [Nat.min_eq_left (by omega), Int.one_mul]
 have h1 : (2 : Nat) ^ i < 2 ^ 64 := Nat.pow_lt_pow_right (by decide) h
 have := wrap_u (2 ^ i) h1
 rw [show ((2 ^ i : Nat) : Int) = (2 : Int) ^ i by simp] at this
 rw [this]
 unfold oneB
 simp
theorem oneB_bit (i j : Nat) : bitN (oneB i) j = decide (i = j) := by
 unfold bitN oneB
 rw [Int.toNat_natCast, Nat.testBit_two_pow]
theorem has_bit {a : Int} (ha : okW a) {i : Nat} (h : i < 64) : (bitsOf .and .u64 (a.fdiv (2 ^ (min i 64))) 1 == 1) = bitN a i := by
 obtain ⟨n, rfl⟩ := Int.eq_ofNat_of_zero_le ha.1
 have hn : n < 2 ^ 64 := by have := ha.2; omega
 rw [Nat.min_eq_left (by omega)]
 have hd : (n : Int).fdiv (2 ^ i) = ((n / 2 ^ i : Nat) : Int) := by
  rw [show ((2 : Int) ^ i) = ((2 ^ i : Nat) : Int) by simp, Int.fdiv_eq_ediv_of_nonneg _ (Int.natCast_nonneg _)]
  simp
 have hd2 : n / 2 ^ i < 2 ^ 64 := Nat.lt_of_le_of_lt (Nat.div_le_self ..) hn
 rw [hd, adW_eq]
 have hb : bitN (n : Int) i = decide (n / 2 ^ i % 2 = 1) := by
  unfold bitN
  rw [Int.toNat_natCast, Nat.testBit_eq_decide_div_mod_eq]
 rw [hb]
 generalize n / 2 ^ i = d at *
 rw [BitVec.toNat_and, ofInt_nat ⟨by omega, by omega⟩, ofInt_nat (by unfold okW; omega), Int.toNat_natCast]
 show (((d &&& 1 : Nat) : Int) == 1) = _
 rw [Nat.and_one_is_mod, Bool.eq_iff_iff, beq_iff_eq, decide_eq_true_eq]
 omega
theorem word_ext {a b : Int} (ha : okW a) (hb : okW b) (h : ∀ i, i < 64 → bitN a i = bitN b i) : a = b := by
 have h1 : a.toNat = b.toNat := by
  apply Nat.eq_of_testBit_eq
  intro i
  by_cases hi : i < 64
  ·exact h i hi
  ·have e : ∀ x : Int, okW x → x.toNat.testBit i = false := fun x hx => Nat.testBit_lt_two_pow (Nat.lt_of_lt_of_le (by have := hx.1; have := hx.2; omega : x.toNat < 2 ^ 64) (Nat.pow_le_pow_right (by decide) (by omega)))
   rw [e a ha, e b hb]
 have := ha.1
 have := hb.1
 omega
theorem bitN_zero (i : Nat) : bitN 0 i = false := by unfold bitN; simp
def okWs (ws : List Int) : Prop := ∀ w ∈ ws, okW w
theorem okWs_get {ws : List Int} (h : okWs ws) (k : Nat) : okW (ws.getD k 0) := by
 rw [List.getD_eq_getElem?_getD]
 by_cases hk : k < ws.length
 ·rw [List.getElem?_eq_getElem hk]; exact h _ (List.getElem_mem hk)
 ·rw [List.getElem?_eq_none (by omega)]; exact ⟨by decide, by decide⟩
theorem words_ext {a b : List Int} (ha : okWs a) (hb : okWs b) (hl : a.length = b.length) (h : ∀ r, r < 64 * a.length → bitB a r = bitB b r) : a = b := by
 apply List.ext_getElem hl
 intro k h1 h2
 refine word_ext (ha _ (List.getElem_mem h1)) (hb _ (List.getElem_mem h2)) fun i hi => ?_
 have := h (64 * k + i) (by omega)
 unfold bitB at this
 rw [show (64 * k + i) / 64 = k by omega, show (64 * k + i) % 64 = i by omega] at this
 rw [List.getD_eq_getElem?_getD, List.getD_eq_getElem?_getD, List.getElem?_eq_getElem h1, List.getElem?_eq_getElem h2] at this
 exact this
def addW (ws : List Int) (r : Nat) : List Int := ws.set (r / 64) (bitsOf .or .u64 (ws.getD (r / 64) 0) (oneB (r % 64)))
theorem addW_ok {ws : List Int} (h : okWs ws) (r : Nat) : okWs (addW ws r) := fun w hw => by
 rcases List.mem_or_eq_of_mem_set hw with hw | rfl
 ·exact h w hw
 ·rw [orW_eq]; exact bv_ok _
theorem addW_len (ws : List Int) (r : Nat) : (addW ws r).length = ws.length := List.length_set ..
theorem addW_bit {ws : List Int} (h : okWs ws) {r : Nat} (hr : r / 64 < ws.length) (q : Nat) : bitB (addW ws r) q = (bitB ws q || decide (r = q)) := by
 unfold bitB addW
 by_cases e : r / 64 = q / 64
 ·rw [← e, List.getD_eq_getElem?_getD, List.getElem?_set_self hr]
  show bitN (bitsOf .or .u64 (ws.getD (r / 64) 0) (oneB (r % 64))) (q % 64) = _
  rw [orW_bit (okWs_get h _) (oneB_ok (Nat.mod_lt _ (by decide))), oneB_bit]
  congr 1
  rw [Bool.eq_iff_iff, decide_eq_true_eq, decide_eq_true_eq]
  omega
 ·rw [List.getD_eq_getElem?_getD, List.getElem?_set_ne e, ← List.getD_eq_getElem?_getD, decide_eq_false (by omega), Bool.or_false]
def mskW (but : Int) (k : Nat) (w : Int) : Int := if 0 ≤ but ∧ but.toNat / 64 = k then bitsOf .andNot .u64 w (oneB (but.toNat % 64)) else w
theorem mskW_ok {w : Int} (h : okW w) (but : Int) (k : Nat) : okW (mskW but k w) := by
 unfold mskW
 split
 ·rw [anW_eq]; exact bv_ok _
 ·exact h
theorem mskW_bit {w : Int} (h : okW w) (but : Int) (k i : Nat) (hi : i < 64) : bitN (mskW but k w) i = (bitN w i && decide (but ≠ ((64 * k + i : Nat) : Int))) := by
 unfold mskW
 split
 ·rename_i hc
  rw [anW_bit h (oneB_ok (Nat.mod_lt _ (by decide))) i hi, oneB_bit]
  congr 1
  rw [Bool.eq_iff_iff, Bool.not_eq_true', decide_eq_false_iff_not, decide_eq_true_eq]
  omega
 ·rw [decide_eq_true (by omega), Bool.and_true]
def joinW (ws ts : List Int) (but : Int) : List Int := (List.range ws.length).map fun k => bitsOf .or .u64 (ws.getD k 0) (mskW but k (ts.getD k 0))
theorem joinW_len (ws ts : List Int) (but : Int) : (joinW ws ts but).length = ws.length := by simp [joinW]
theorem joinW_get {ws ts : List Int} {but : Int} {k : Nat} (h : k < ws.length) : (joinW ws ts but).getD k 0 = bitsOf .or .u64 (ws.getD k 0) (mskW but k (ts.getD k 0)) := by
 rw [List.getD_eq_getElem?_getD, List.getElem?_eq_getElem (by rw [joinW_len]; exact h)]
 simp [joinW]
theorem joinW_ok (ws ts : List Int) (but : Int) : okWs (joinW ws ts but) := fun w hw => by
 obtain ⟨k, _, rfl⟩ := List.mem_map.1 hw
 rw [orW_eq]; exact bv_ok _
theorem joinW_bit {ws ts : List Int} (hw : okWs ws) (ht : okWs ts) (but : Int) {q : Nat} (hq : q < 64 * ws.length) : bitB (joinW ws ts but) q = (bitB ws q || (bitB ts q && decide (but ≠ (q : Int)))) := by
 unfold bitB
 rw [joinW_get (by omega), orW_bit (okWs_get hw _) (mskW_ok (okWs_get ht _) _ _), mskW_bit (okWs_get ht _) _ _ _ (Nat.mod_lt _ (by decide)), show 64 * (q / 64) + q % 64 = q by omega]
def chgB (ws ts : List Int) (but : Int) (n : Nat) : Bool := (List.range n).any fun k => bitsOf .andNot .u64 (mskW but k (ts.getD k 0)) (ws.getD k 0) != 0
theorem chgB_iff {ws ts : List Int} (hw : okWs ws) (ht : okWs ts) (but : Int) : chgB ws ts but ws.length = true ↔ ∃ q, q < 64 * ws.length ∧ bitB ws q = false ∧ bitB ts q = true ∧ but ≠ (q : Int) := by
 unfold chgB
 rw [List.any_eq_true]
 constructor
 ·rintro ⟨k, hk, hc⟩
  rw [List.mem_range] at hk
  rw [bne_iff_ne] at hc
  have : ∃ i, i < 64 ∧ bitN (bitsOf .andNot .u64 (mskW but k (ts.getD k 0)) (ws.getD k 0)) i = true := by
   refine Classical.byContradiction fun hno => hc ?_
   refine word_ext (by rw [anW_eq]; exact bv_ok _) ⟨by decide, by decide⟩ fun i hi => ?_
   rw [bitN_zero, Bool.eq_false_iff]
   exact fun h => hno ⟨i, hi, h⟩
  obtain ⟨i, hi, hb⟩ := this
  rw [anW_bit (mskW_ok (okWs_get ht _) _ _) (okWs_get hw _) i hi, mskW_bit (okWs_get ht _) _ _ _ hi] at hb
  simp only [Bool.and_eq_true, decide_eq_true_eq, Bool.not_eq_true'] at hb
  refine ⟨64 * k + i, by omega, ?_, ?_, hb.1.2⟩
  ·unfold bitB
   rw [show (64 * k + i) / 64 = k by omega, show (64 * k + i) % 64 = i by omega]
   exact hb.2
  ·unfold bitB
   rw [show (64 * k + i) / 64 = k by omega, show (64 * k + i) % 64 = i by omega]
   exact hb.1.1
 ·rintro ⟨q, hq, h1, h2, h3⟩
  refine ⟨q / 64, List.mem_range.2 (by omega), ?_⟩
  rw [bne_iff_ne]
  intro h0
  have hb := anW_bit (mskW_ok (okWs_get ht (q / 64)) but (q / 64)) (okWs_get hw (q / 64)) (q % 64) (Nat.mod_lt _ (by decide))
  rw [h0, bitN_zero, mskW_bit (okWs_get ht _) _ _ _ (Nat.mod_lt _ (by decide)), show 64 * (q / 64) + q % 64 = q by omega] at hb
  unfold bitB at h1 h2
  rw [h1, h2, decide_eq_true h3] at hb
  cases hb
end Go.Cb
namespace Go.Cb
open Go.Proofs
set_option maxRecDepth 100000
set_option maxHeartbeats 4000000
end Go.Cb
namespace Go.Cb
open Go.Proofs
set_option maxRecDepth 100000
set_option maxHeartbeats 4000000
instance (priority := high) (a b : Int) : ElOf Mov.pv (.agg [.int .i64 a, .int .i64 b]) ⟨a, b⟩ := ⟨Wk.refl _, WkL.refl _⟩
instance : ElOf PV.bool .btrue true := ⟨Wk.tt rfl, .cons (Wk.tt rfl) .nil⟩
instance : ElOf PV.bool .bfalse false := ⟨Wk.ff rfl, .cons (Wk.ff rfl) .nil⟩
instance : CellsOf PV.bool (fun b => [PV.bool b]) := ⟨fun _ => rfl⟩
theorem Ghost.row {Γ Γ1 : List Ent} {t : Tok} {es es' : List PV} [hp : PickE Γ (.row t es) Γ1] (h : WkR es es') : Ghost Γ (.row t es' :: Γ1) := fun w0 F M w hS => by
 have hS' := hS.perm (hp.p.append_right M)
 have hS' : Sim w0 F (.row t es :: (Γ1 ++ M)) w := by simpa using hS'
 refine ⟨F, Fz.le_refl F, ⟨hS'.below, hS'.fz, fun x hx => ?_, ?_⟩⟩
 ·rcases List.mem_cons.1 hx with rfl | hx
  ·obtain ⟨⟨xs, hown, hr⟩, hes, e2, hfree⟩ := hS'.ent _ (List.mem_cons_self ..)
   exact ⟨⟨xs, hown, h.flat.rep hr⟩, h.sizes hes, h.length ▸ e2, hfree⟩
  ·exact hS'.ent x (List.mem_cons_of_mem _ hx)
 ·have := List.pairwise_cons.1 hS'.sep
  exact List.pairwise_cons.2 ⟨this.1, this.2⟩
theorem wkR_false (n : Nat) : WkR (List.replicate n PV.bfalse) ((List.replicate n false).map PV.bool) := by
 induction n with
 | zero => exact .nil
 | succ n ih => exact .cons (.cons (Wk.ff rfl) .nil) ih
theorem PRow.nilInts {s : Nat} {e : TypeId} {K : PV → Ent → Prop} (k : ∀ t : Tok, t.e = e → t.s = s → K (.ms t) (.row t (([] : List Int).map (PV.int .i64)))) : PRow s [] e K :=
 ⟨by simp, by simp, .inr k⟩
end Go.Cb
namespace Go.Cb
open Go.Proofs
set_option maxRecDepth 100000
set_option maxHeartbeats 4000000
abbrev slU (ws : List Int) : PV := .sl 1 (ws.map (PV.int .u64)) none
theorem has17l_c (ws : List Int) (r : Nat) (hw : okWs ws) (hr : r / 64 < ws.length) (hb : r ≤ 1000000) : ACallP Tryz.prog 139 [slU ws, .int .i64 r] (.bool (bitB ws r)) := by
 have e1 : (r : Int).tdiv 64 = ((r / 64 : Nat) : Int) := rfl
 have e2 : (r : Int).tmod 64 = ((r % 64 : Nat) : Int) := rfl
 have e3 : 0 ≤ (r : Int).tmod 64 := by rw [e2]; omega
 refine ACall.of_body tt_ok Tryz.func139 rfl rfl (n := 15) rfl rfl ?_
 conv => whnf
 repeat' (first|((first|refine PSide.mk (And.intro e3 ?_)|((first|(apply zY;intro hg)|apply zZ);first|exact stA|exact stB|exact stC)|(refine zW ?_ ?_;exact gA)|refine zH rfl ?_|refine zA ?_|refine zI bA ?_|refine zI rfl ?_|refine sB ?_|(refine zO ?_ ?_ ?_;omega;omega)|(refine zP ?_ ?_ ?_;omega;omega)|refine zM rfl ?_|(refine zQ ?_ ?_ ?_;omega;omega)|(refine zR ?_ ?_;omega)|(refine zI ?_ ?_;exact nA)|refine sS ?_|refine sF ?_|refine n0 ?_|refine sD ?_|intro _|refine zG ?_);conv=>whnf)|(refine zX (fun hc => ?_) (fun hc => ?_)<;>(try simp only [SY] at hc)<;>first|omega|(conv=>whnf)))
 have hg : ws[((r : Int).tdiv 64).toNat]'(by rw [e1]; omega) = ws.getD (r / 64) 0 := by
  rw [List.getD_eq_getElem?_getD, List.getElem?_eq_getElem hr]; rfl
 rw [hg]
 refine PRet.pure (Wk.bool ?_)
 exact has_bit (okWs_get hw _) (Nat.mod_lt _ (by decide))
theorem add17_c (t : Tok) (ws : List Int) (r : Nat) (hs : t.s = 1) (hr : r / 64 < ws.length) (hb : r ≤ 1000000) : ACall Tryz.prog 136 [.ms t, .int .i64 r] [.row t (ws.map (PV.int .u64))] (fun y Γ' => y = .tup [] ∧ Γ' = [.row t ((addW ws r).map (PV.int .u64))]) := by
 have e1 : (r : Int).tdiv 64 = ((r / 64 : Nat) : Int) := rfl
 have e2 : (r : Int).tmod 64 = ((r % 64 : Nat) : Int) := rfl
 have e3 : 0 ≤ (r : Int).tmod 64 := by rw [e2]; omega
 refine ACall.of_body tt_ok Tryz.func136 rfl rfl (n := 14) rfl rfl ?_
 conv => whnf
 repeat' (first|((first|refine PSide.mk (And.intro e3 ?_)|((first|(apply zY;intro hg)|apply zZ);first|exact stA|exact stB|exact stC)|(refine zW ?_ ?_;exact gA)|refine zH rfl ?_|refine zA ?_|refine zI bA ?_|refine zI rfl ?_|refine sB ?_|(refine zO ?_ ?_ ?_;omega;omega)|(refine zP ?_ ?_ ?_;omega;omega)|refine zM rfl ?_|(refine zQ ?_ ?_ ?_;omega;omega)|(refine zR ?_ ?_;omega)|(refine zI ?_ ?_;exact nA)|refine sS ?_|refine sF ?_|refine n0 ?_|refine sD ?_|refine PDraw.sP (some 4) rfl [] [10] tt_ok mixed ?_|intro _|refine zG ?_);conv=>whnf)|(refine zX (fun hc => ?_) (fun hc => ?_)<;>(try simp only [SY] at hc)<;>first|omega|(conv=>whnf)))
 have hg : ws[((r : Int).tdiv 64).toNat]'(by rw [e1]; omega) = ws.getD (r / 64) 0 := by
  rw [List.getD_eq_getElem?_getD, List.getElem?_eq_getElem hr]; rfl
 have hsh : IntKind.u64.wrap (1 * 2 ^ min ((r : Int).tmod 64).toNat IntKind.u64.bits) = oneB (r % 64) := oneB_shl (Nat.mod_lt _ (by decide))
 rw [hg, hsh]
 exact PRet.gen (y := .tup []) (Γ' := [.row t ((ws.set ((r : Int).tdiv 64).toNat (bitsOf .or .u64 (ws.getD (r / 64) 0) (oneB (r % 64)))).map (PV.int .u64))]) (Wk.refl _) ⟨rfl, rfl⟩
theorem chgB_succ (ws ts : List Int) (but : Int) (k : Nat) : chgB ws ts but (k + 1) = (chgB ws ts but k || bitsOf .andNot .u64 (mskW but k (ts.getD k 0)) (ws.getD k 0) != 0) := by
 unfold chgB
 rw [List.range_succ, List.any_append, List.any_cons, List.any_nil, Bool.or_false]
theorem join_step {ws ts vs : List Int} {but : Int} {k : Nat} (hk : k < ws.length) (hv : vs = (joinW ws ts but).take k ++ ws.drop k) : vs.set k (bitsOf .or .u64 (ws.getD k 0) (mskW but k (ts.getD k 0))) = (joinW ws ts but).take (k + 1) ++ ws.drop (k + 1) := by
 have hj : k < (joinW ws ts but).length := by rw [joinW_len]; exact hk
 have hg := joinW_get (ts := ts) (but := but) hk
 rw [List.getD_eq_getElem?_getD, List.getElem?_eq_getElem hj, Option.getD_some] at hg
 rw [hv, List.set_append_right _ _ (by rw [List.length_take]; omega), List.length_take, Nat.min_eq_left (by omega), Nat.sub_self, drop_at hk, List.set_cons_zero, ← hg, List.take_succ_eq_append_getElem hj, List.append_assoc]
 rfl
theorem join17_c (t1 t2 : Tok) (ws ts : List Int) (but : Int) (h1 : t1.s = 1) (h2 : t2.s = 1) (hl : ts.length = ws.length) (hw : okWs ws) (ht : okWs ts) (hb : -1 ≤ but ∧ but ≤ 1000000) :
  ACall Tryz.prog 138 [.ms t1, .ms t2, .int .i64 but] [.row t1 (ws.map (PV.int .u64)), .row t2 (ts.map (PV.int .u64))] (fun y Γ' => y = .bool (chgB ws ts but ws.length) ∧ Γ' = [.row t1 ((joinW ws ts but).map (PV.int .u64)), .row t2 (ts.map (PV.int .u64))]) := by
 have e3 : 0 ≤ but → 0 ≤ but.tmod 64 ∧ but.tmod 64 = ((but.toNat % 64 : Nat) : Int) ∧ but.tdiv 64 = ((but.toNat / 64 : Nat) : Int) := fun h => by
  obtain ⟨b, rfl⟩ := Int.eq_ofNat_of_zero_le h
  have h2 : (b : Int).tmod 64 = ((b % 64 : Nat) : Int) := rfl
  have h3 : (b : Int).tdiv 64 = ((b / 64 : Nat) : Int) := rfl
  rw [h2, h3, Int.toNat_natCast]
  exact ⟨by omega, rfl, rfl⟩
 refine ACall.of_body tt_ok Tryz.func138 rfl rfl (n := 49) rfl rfl ?_
 conv => whnf
 repeat' (first|((first|((first|(apply zY;intro hg)|apply zZ);first|exact stA|exact stB|((conv=>whnf);(repeat ((first|(refine zW ?_ ?_;exact gA)|(refine PLenM.map fun _ => ?_)|refine zA ?_|refine zH rfl ?_|refine zB ?_|refine sG ?_|intro _);conv=>whnf));first|exact pS|exact pL|exact pE))|(refine zW ?_ ?_;exact gA)|refine zH rfl ?_|refine zA ?_|refine zI bA ?_|refine zI rfl ?_|refine sB ?_|(refine zO ?_ ?_ ?_;omega;omega)|(refine zP ?_ ?_ ?_;omega;omega)|refine zM rfl ?_|(refine zQ ?_ ?_ ?_;omega;omega)|(refine zR ?_ ?_;omega)|(refine zI ?_ ?_;exact nA)|refine sS ?_|(refine PLenM.map fun _ => ?_)|refine sF ?_|refine n0 ?_|refine sD ?_|intro _|refine zG ?_);conv=>whnf)|(refine zX (fun hc => ?_) (fun hc => ?_)<;>(try simp only [SY] at hc)<;>first|omega|(conv=>whnf)))
 refine PLoop.over [7, 8, 9, 12, 13, 14, 15, 16, 17, 18, 19, 20, 21, 22, 23, 24, 25, 26, 27, 28, 29, 30, 31, 32, 33, 34, 35, 36, 37, 38, 39, 40, 41, 42, 43, 44, 45, 46, 47] (fun x : Nat × List Int => [(7, .bool (chgB ws ts but x.1)), (12, .int .i64 x.1)]) (fun x => [.row t1 (x.2.map (PV.int .u64)), .row t2 (ts.map (PV.int .u64))]) (fun x => x.1 ≤ ws.length ∧ x.2 = (joinW ws ts but).take x.1 ++ ws.drop x.1) (fun x => ws.length - x.1) (0, ws) ⟨Nat.zero_le _, by simp⟩ wA ?_
 rintro ⟨k, vs⟩ ⟨hk, hv⟩
 dsimp only at hk hv ⊢
 have hvl := congrArg List.length hv
 rw [List.length_append, List.length_take, List.length_drop, joinW_len] at hvl
 rcases Nat.lt_or_ge k ws.length with hkl | hkl
 ·have hvk : vs[k]'(by omega) = ws.getD k 0 := by
   simp only [hv]
   rw [List.getElem_append_right (by rw [List.length_take, joinW_len]; omega), List.getElem_drop, List.getD_eq_getElem?_getD, List.getElem?_eq_getElem hkl]
   simp only [List.length_take, joinW_len, Nat.min_eq_left (by omega : k ≤ ws.length), Nat.sub_self, Nat.add_zero]
   rfl
  have htk : ts[k]'(by omega) = ts.getD k 0 := by rw [List.getD_eq_getElem?_getD, List.getElem?_eq_getElem (by omega)]; rfl
  conv => whnf
  repeat' (first|((first|((first|(apply zY;intro hg)|apply zZ);first|exact stA|exact stB|((conv=>whnf);(repeat ((first|(refine zW ?_ ?_;exact gA)|(refine PLenM.map fun _ => ?_)|refine zA ?_|refine zH rfl ?_|refine zB ?_|refine sG ?_|intro _);conv=>whnf));first|exact pS|exact pL|exact pE))|(refine zW ?_ ?_;exact gA)|refine zH rfl ?_|refine zA ?_|refine zI bA ?_|refine zI rfl ?_|refine sB ?_|(refine zO ?_ ?_ ?_;omega;omega)|(refine zP ?_ ?_ ?_;omega;omega)|refine zM rfl ?_|(refine zQ ?_ ?_ ?_;omega;omega)|(refine zR ?_ ?_;omega)|(refine zI ?_ ?_;exact nA)|refine sS ?_|(refine PLenM.map fun _ => ?_)|refine sF ?_|refine n0 ?_|refine sD ?_|intro _|refine zG ?_);conv=>whnf)|(refine zX (fun hc => ?_) (fun hc => ?_)<;>(try simp only [SY] at hc)<;>first|omega|(conv=>whnf)))
  ·refine PSide.mk (And.intro (e3 hc.1).1 ?_)
   conv => whnf
   repeat' (first|((first|((first|(apply zY;intro hg)|apply zZ);first|exact stA|exact stB|((conv=>whnf);(repeat ((first|(refine zW ?_ ?_;exact gA)|(refine PLenM.map fun _ => ?_)|refine zA ?_|refine zH rfl ?_|refine zB ?_|refine sG ?_|intro _);conv=>whnf));first|exact pS|exact pL|exact pE))|(refine zW ?_ ?_;exact gA)|refine zH rfl ?_|refine zA ?_|refine zI bA ?_|refine zI rfl ?_|refine sB ?_|(refine zO ?_ ?_ ?_;omega;omega)|(refine zP ?_ ?_ ?_;omega;omega)|refine zM rfl ?_|(refine zQ ?_ ?_ ?_;omega;omega)|(refine zR ?_ ?_;omega)|(refine zI ?_ ?_;exact nA)|refine sS ?_|(refine PLenM.map fun _ => ?_)|refine sF ?_|refine n0 ?_|refine sD ?_|intro _|refine zG ?_);conv=>whnf)|(refine zX (fun hc => ?_) (fun hc => ?_)<;>(try simp only [SY] at hc)<;>first|omega|(conv=>whnf)))
   have e4 := (e3 hc.1).2.1
   have e5 : (but.tmod 64).toNat = but.toNat % 64 := by omega
   have e6 := (e3 hc.1).2.2
   have hm : mskW but k (ts.getD k 0) = bitsOf .andNot .u64 (ts.getD k 0) (oneB (but.toNat % 64)) := if_pos ⟨hc.1, by omega⟩
   rw [hvk, htk, e5, show IntKind.u64.bits = 64 from rfl, oneB_shl (Nat.mod_lt _ (by decide)), ← hm, join_step hkl hv]
   exact loopTo (k + 1, (joinW ws ts but).take (k + 1) ++ ws.drop (k + 1)) ⟨by show k + 1 ≤ _; omega, rfl⟩ (by show ws.length - (k + 1) < ws.length - k; omega) (by rw [chgB_succ]; exact wA)
  ·have hm : mskW but k (ts.getD k 0) = ts.getD k 0 := if_neg (fun h => by have := (e3 h.1).2.2; omega)
   have hs := join_step hkl hv
   have hc2 := chgB_succ ws ts but k
   rw [hm] at hs hc2
   rw [hvk, htk, hs]
   exact loopTo (k + 1, (joinW ws ts but).take (k + 1) ++ ws.drop (k + 1)) ⟨by show k + 1 ≤ _; omega, rfl⟩ (by show ws.length - (k + 1) < ws.length - k; omega) (by rw [hc2]; exact wA)
 ·conv => whnf
  repeat' (first|((first|((first|(apply zY;intro hg)|apply zZ);first|exact stA|exact stB|((conv=>whnf);(repeat ((first|(refine zW ?_ ?_;exact gA)|(refine PLenM.map fun _ => ?_)|refine zA ?_|refine zH rfl ?_|refine zB ?_|refine sG ?_|intro _);conv=>whnf));first|exact pS|exact pL|exact pE))|(refine zW ?_ ?_;exact gA)|refine zH rfl ?_|refine zA ?_|refine zI bA ?_|refine zI rfl ?_|refine sB ?_|(refine zO ?_ ?_ ?_;omega;omega)|(refine zP ?_ ?_ ?_;omega;omega)|refine zM rfl ?_|(refine zQ ?_ ?_ ?_;omega;omega)|(refine zR ?_ ?_;omega)|(refine zI ?_ ?_;exact nA)|refine sS ?_|(refine PLenM.map fun _ => ?_)|refine sF ?_|refine n0 ?_|refine sD ?_|intro _|refine zG ?_);conv=>whnf)|(refine zX (fun hc => ?_) (fun hc => ?_)<;>(try simp only [SY] at hc)<;>first|omega|(conv=>whnf)))
  obtain rfl : k = ws.length := by omega
  rw [List.drop_length, List.append_nil, List.take_of_length_le (by rw [joinW_len]; exact Nat.le_refl _)] at hv
  subst hv
  exact PRet.gen (y := .bool (chgB ws ts but ws.length)) (Γ' := [.row t1 ((joinW ws ts but).map (PV.int .u64)), .row t2 (ts.map (PV.int .u64))]) (Wk.refl _) ⟨rfl, rfl⟩
end Go.Cb
namespace Go.Cb
open Go.Proofs
set_option maxRecDepth 100000
set_option maxHeartbeats 4000000
def namedL (x : Ins) : List Int :=
 if x.op = 1 ∨ x.op = 10 ∨ x.op = 11 ∨ x.op = 14 then [x.a] else if x.op = 12 ∨ x.op = 13 then [x.a, x.b] else if x.op = 7 ∨ x.op = 9 ∨ x.op = 21 then x.l else
 if x.op = 8 ∨ x.op = 17 ∨ x.op = 19 then x.a :: x.l else if x.op = 18 ∨ x.op = 20 then x.b :: x.l else if x.op = 16 ∨ x.op = 22 then [x.a] else []
def givesI (x : Ins) : Int := if x.op ≤ 7 ∨ (9 ≤ x.op ∧ x.op ≤ 11) ∨ x.op = 14 ∨ x.op = 17 ∨ x.op = 18 then x.d else -1
def bareB (x : Ins) : Bool :=
 if givesI x < 0 ∧ x.d ≠ 0 then false else if x.a ≠ 0 ∧ (x.op = 3 ∨ x.op = 4) then false else
 if x.b ≠ 0 ∧ x.op ≠ 12 ∧ x.op ≠ 13 ∧ x.op ≠ 16 ∧ x.op ≠ 18 ∧ x.op ≠ 20 then false else
 decide ((x.l.length : Int) = 0) || (decide (7 ≤ x.op) && decide (x.op ≤ 9)) || (decide (17 ≤ x.op) && decide (x.op ≤ 21))
def outB (regs n : Int) : Bool := decide (n < 0) || decide (n ≥ regs)
def preD (x : Ins) (regs : Int) : Bool := if x.op < 0 ∨ x.op > 22 ∨ bareB x = false then false else if (namedL x).any (outB regs) = true then false else if givesI x ≥ regs ∨ givesI x < -1 ∨ x.d < 0 then false else true
theorem any_outB (regs : Int) (l : List Int) : l.any (outB regs) = l.any fun n => !belB n regs := by
 congr 1
 funext n
 unfold outB belB
 rw [Bool.eq_iff_iff]
 simp only [Bool.or_eq_true, decide_eq_true_eq, Bool.not_eq_true', Bool.and_eq_false_imp, decide_eq_false_iff_not]
 omega
theorem preD_fitA (x : Ins) (regs : Int) (h0 : 0 ≤ regs) : preD x regs = fitA x regs := by
 obtain ⟨op, d, a, b, l⟩ := x
 by_cases hop : op < 0 ∨ op > 22
 ·have e1 : preD ⟨op, d, a, b, l⟩ regs = false := by
   unfold preD
   rw [if_pos (by rcases hop with h | h; exact .inl h; exact .inr (.inl h))]
  have e2 : (partsL op).2 = false := by
   unfold partsL
   repeat (first|rw [if_neg (by omega)])
  rw [e1, fitA]
  show false = ((partsL op).2 && _ && _)
  rw [e2]
  rfl
 ·unfold preD fitA
  rw [← any_outB]
  rcases (by omega : op = 0 ∨ op = 1 ∨ op = 2 ∨ op = 3 ∨ op = 4 ∨ op = 5 ∨ op = 6 ∨ op = 7 ∨ op = 8 ∨ op = 9 ∨ op = 10 ∨ op = 11 ∨ op = 12 ∨ op = 13 ∨ op = 14 ∨ op = 15 ∨ op = 16 ∨ op = 17 ∨ op = 18 ∨ op = 19 ∨ op = 20 ∨ op = 21 ∨ op = 22) with
   rfl | rfl | rfl | rfl | rfl | rfl | rfl | rfl | rfl | rfl | rfl | rfl | rfl | rfl | rfl | rfl | rfl | rfl | rfl | rfl | rfl | rfl | rfl
  all_goals
   simp only [bareB, namedL, givesI, partsL, regB, belB]
   rw [Bool.eq_iff_iff]
   by_cases hl : l = []
   ·subst hl
    simp [outB]
    try omega
   ·by_cases ho : l.any (outB regs) = true
    ·simp [ho, outB, hl]
     try omega
    ·simp [ho, outB, hl]
     try omega
end Go.Cb
namespace Go.Cb
open Go.Proofs
set_option maxRecDepth 100000
set_option maxHeartbeats 4000000
def nxtL (x : Ins) (k : Int) : List Int := (if x.op ≠ 15 ∧ x.op < 19 then [k + 1] else []) ++ ((if x.op = 15 then [x.a] else []) ++ (if x.op = 16 then [x.b] else []))
def insD (c : List Ins) (k : Int) : Ins := c.getD k.toNat Dfl.d
def needF (c : List Ins) (r : Int) : Nat → List Bool → List Int → Bool
 | 0, _, _ => false
 | n + 1, met, todo => if todo = [] then false else
  if met.getD (todo.getLastD 0).toNat false = true then needF c r n met todo.dropLast else
  if (namedL (insD c (todo.getLastD 0))).contains r = true then true else
  needF c r n (met.set (todo.getLastD 0).toNat true) (if givesI (insD c (todo.getLastD 0)) ≠ r then todo.dropLast ++ nxtL (insD c (todo.getLastD 0)) (todo.getLastD 0) else todo.dropLast)
def unmet (met : List Bool) : Nat := met.count false
theorem unmet_set {met : List Bool} {i : Nat} (h : i < met.length) (hm : met.getD i false = false) : unmet (met.set i true) + 1 = unmet met := by
 have h0 : met[i] = false := by rw [List.getD_eq_getElem?_getD, List.getElem?_eq_getElem h] at hm; exact hm
 have hc : 0 < met.count false := List.count_pos_iff.2 (by rw [← h0]; exact List.getElem_mem h)
 unfold unmet
 rw [List.count_set h, h0]
 simp
 omega
def needU (c : List Ins) (r : Int) (frm : List Int) : Bool := needF c r (3 * c.length + frm.length + 1) (List.replicate c.length false) frm
def liveF (c : List Ins) (regs : Nat) (frm : List Int) : List Int := ((List.range regs).map Int.ofNat).filter fun r => needU c r frm
theorem liveF_succ (c : List Ins) (n : Nat) (frm : List Int) : liveF c (n + 1) frm = if needU c n frm = true then liveF c n frm ++ [(n : Int)] else liveF c n frm := by
 unfold liveF
 rw [List.range_succ, List.map_append, List.filter_append]
 by_cases h : needU c n frm = true
 ·rw [if_pos h]
  congr 1
  exact List.filter_cons_of_pos h
 ·rw [if_neg h]
  have : List.filter (fun r => needU c r frm) (List.map Int.ofNat [n]) = [] := List.filter_cons_of_neg h
  rw [this, List.append_nil]
theorem liveF_len (c : List Ins) (n : Nat) (frm : List Int) : (liveF c n frm).length ≤ n := by
 refine Nat.le_trans (List.length_filter_le ..) ?_
 simp
theorem liveF_mem {c : List Ins} {n : Nat} {frm : List Int} {r : Int} (h : r ∈ liveF c n frm) : 0 ≤ r ∧ r < n := by
 unfold liveF at h
 obtain ⟨i, hi, rfl⟩ := List.mem_map.1 (List.mem_filter.1 h).1
 rw [List.mem_range] at hi
 exact ⟨Int.natCast_nonneg i, by show (i : Int) < n; omega⟩
def aftF (c : List Ins) (regs n : Nat) : List (List Int) := (List.range n).map fun k : Nat => liveF c regs (nxtL (insD c k) k)
theorem aftF_succ (c : List Ins) (regs n : Nat) : aftF c regs (n + 1) = aftF c regs n ++ [liveF c regs (nxtL (insD c n) n)] := by
 unfold aftF
 rw [List.range_succ, List.map_append]
 rfl
theorem aftF_len (c : List Ins) (regs n : Nat) : (aftF c regs n).length = n := by simp [aftF]
abbrev aftP (p : Prc) : List (List Int) := aftF p.code p.regs.toNat p.code.length
def begP (p : Prc) : List Int := liveF p.code p.regs.toNat [0]
def begB (p : Prc) : Bool := decide (((begP p).length : Int) > 0) && decide ((begP p).getLastD 0 ≥ p.args)
def sndB (u : Unt) : Bool := chkU u == 0 && !u.procs.any begB
def itfB (c : List Ins) (af : List (List Int)) (a b : Int) : Bool := (c.zip af).any fun q => (givesI q.1 == a && q.2.contains b) || (givesI q.1 == b && q.2.contains a)
def nmdB (c : List Ins) (r : Int) : Bool := c.any fun x => givesI x == r || (namedL x).contains r
def clsB (c : List Ins) (af : List (List Int)) (out : List Int) (r : Nat) (s : Int) : Bool := (List.range r).any fun q => out.getD q 0 == s && itfB c af q r
def srcF (f : Int → Bool) : Nat → Int → Int
 | 0, s => s
 | n + 1, s => if f s = true then srcF f n (s + 1) else s
def sltF (args : Int) (c : List Ins) (af : List (List Int)) : Nat → List Int
 | 0 => []
 | r + 1 => sltF args c af r ++ [if (r : Int) < args then (r : Int) else if nmdB c r = true then srcF (clsB c af (sltF args c af r) r) (r + 1) 0 else -1]
theorem sltF_len (args : Int) (c : List Ins) (af : List (List Int)) : ∀ r, (sltF args c af r).length = r
 | 0 => rfl
 | r + 1 => by rw [sltF, List.length_append, sltF_len args c af r]; rfl
theorem sltF_le (args : Int) (c : List Ins) (af : List (List Int)) : ∀ (r q : Nat), q < r → -1 ≤ (sltF args c af r).getD q 0 ∧ (sltF args c af r).getD q 0 ≤ q
 | 0, q, h => by omega
 | r + 1, q, h => by
  rw [sltF, List.getD_eq_getElem?_getD]
  by_cases hq : q < r
  ·rw [List.getElem?_append_left (by rw [sltF_len]; exact hq), ← List.getD_eq_getElem?_getD]
   exact sltF_le args c af r q hq
  ·obtain rfl : q = r := by omega
   rw [List.getElem?_append_right (by rw [sltF_len]; omega), sltF_len, Nat.sub_self]
   rw [List.getElem?_cons_zero, Option.getD_some]
   show -1 ≤ (if (q : Int) < args then (q : Int) else if nmdB c q = true then srcF (clsB c af (sltF args c af q) q) (q + 1) 0 else -1) ∧ (if (q : Int) < args then (q : Int) else if nmdB c q = true then srcF (clsB c af (sltF args c af q) q) (q + 1) 0 else -1) ≤ (q : Int)
   split
   ·omega
   ·split
    ·have hin : ∀ s : Int, clsB c af (sltF args c af q) q s = true → s < q := fun s hs => by
      unfold clsB at hs
      obtain ⟨i, hi, hb⟩ := List.any_eq_true.1 hs
      rw [List.mem_range] at hi
      rw [Bool.and_eq_true, beq_iff_eq] at hb
      have := sltF_le args c af q i hi
      omega
     have key : ∀ (n : Nat) (s : Int), 0 ≤ s → s ≤ q → srcF (clsB c af (sltF args c af q) q) n s ≤ q ∧ 0 ≤ srcF (clsB c af (sltF args c af q) q) n s := by
      intro n
      induction n with
      | zero => intro s h0 h1; rw [srcF]; exact ⟨h1, h0⟩
      | succ n ih =>
       intro s h0 h1
       rw [srcF]
       split
       ·rename_i hs
        have := hin s hs
        exact ih (s + 1) (by omega) (by omega)
       ·exact ⟨h1, h0⟩
     have := key (q + 1) 0 (by omega) (by omega)
     omega
    ·omega
def renI (x : Ins) (at_ : List Int) : Ins :=
 ⟨x.op, if givesI x ≥ 0 then at_.getD (givesI x).toNat 0 else x.d,
  if x.op = 1 ∨ x.op = 8 ∨ x.op = 10 ∨ x.op = 11 ∨ x.op = 14 ∨ x.op = 16 ∨ x.op = 17 ∨ x.op = 19 ∨ x.op = 22 ∨ x.op = 12 ∨ x.op = 13 then at_.getD x.a.toNat 0 else x.a,
  if x.op = 12 ∨ x.op = 13 ∨ x.op = 18 ∨ x.op = 20 then at_.getD x.b.toNat 0 else x.b, x.l.map fun n => at_.getD n.toNat 0⟩
def putR (l : List Int) (v : Int) : List Int := l.takeWhile (fun x => decide (x < v)) ++ (if (l.dropWhile fun x => decide (x < v)).head? = some v then l.dropWhile (fun x => decide (x < v)) else v :: l.dropWhile fun x => decide (x < v))
def alvF (at_ : List Int) (d : Int) : List Int → List Int → List Int
 | [], out => out
 | a :: l, out => alvF at_ d l (if a ≠ d then putR out (at_.getD a.toNat 0) else out)
abbrev sltP (p : Prc) : List Int := sltF p.args p.code (aftP p) p.regs.toNat
def regsF (at_ : List Int) (s : Int) : Int := at_.foldl (fun s x => max s (x + 1)) s
def colP (p : Prc) : Prc := ⟨p.args, p.rest, regsF (sltP p) p.args, p.code.map fun x => renI x (sltP p), (p.code.zip (aftP p)).map fun q => alvF (sltP p) (givesI q.1) q.2 []⟩
def colU (u : Unt) : Unt := ⟨u.consts, u.procs.map colP⟩
def colR (u : Unt) : Unt × Int := if sndB u = true then (colU u, 0) else (⟨[], []⟩, 5)
def colPV (u : Unt) : PV := .tup [.agg (colR u).1.cells, .int .i64 (colR u).2]
end Go.Cb
namespace Go.Cb
open Go.Proofs
set_option maxRecDepth 100000
set_option maxHeartbeats 4000000
theorem chk_no {u : Unt} (h0 : chkU u = 0) : ∀ p ∈ u.procs, headB p = false ∧ endB p = false ∧ ∀ x ∈ p.code, fitB x p u = true := by
 have h1 : chksU u u.procs 0 = true := by
  unfold chkU at h0
  split at h0
  ·cases h0
  ·split at h0
   ·assumption
   ·cases h0
 exact fun p hp => chksU_mem u u.procs 0 h1 p hp
structure PrF (p : Prc) : Prop where
 rg : 0 ≤ p.regs ∧ p.regs ≤ 20000
 ag : 0 ≤ p.args ∧ p.args ≤ p.regs
 ln : 0 < p.code.length ∧ p.code.length ≤ 50000
 nx : ∀ (k : Nat) (h : k < p.code.length), ∀ j ∈ nxtL p.code[k] k, 0 ≤ j ∧ j < p.code.length
 nm : ∀ x ∈ p.code, ∀ n ∈ namedL x, 0 ≤ n ∧ n < p.regs
 gv : ∀ x ∈ p.code, -1 ≤ givesI x ∧ givesI x < p.regs
 ls : ∀ x ∈ p.code, ∀ n ∈ x.l, 0 ≤ n ∧ n < p.regs
theorem prF {u : Unt} (h0 : chkU u = 0) : ∀ p ∈ u.procs, PrF p := by
 intro p hp
 obtain ⟨h1, h2, h3⟩ := chk_no h0 p hp
 unfold headB at h1
 simp only [Bool.or_eq_false_iff, decide_eq_false_iff_not, beq_eq_false_iff_ne, Bool.and_eq_false_imp] at h1
 have hrg : 0 ≤ p.regs := by omega
 have hpre : ∀ x ∈ p.code, fitA x p.regs = true ∧ fitN x p.code.length u.consts.length u.procs.length = true := fun x hx => by
  have := h3 x hx
  unfold fitB at this
  rwa [Bool.and_eq_true] at this
 have hA : ∀ x ∈ p.code, (namedL x).any (outB p.regs) = false ∧ -1 ≤ givesI x ∧ givesI x < p.regs := fun x hx => by
  have h4 := (hpre x hx).1
  rw [← preD_fitA x p.regs hrg] at h4
  unfold preD at h4
  split at h4
  ·cases h4
  ·split at h4
   ·cases h4
   ·rename_i hq
    split at h4
    ·cases h4
    ·exact ⟨by simpa using hq, by omega, by omega⟩
 refine ⟨⟨hrg, by omega⟩, ⟨by omega, by omega⟩, ⟨by omega, by omega⟩, ?_, ?_, fun x hx => (hA x hx).2, ?_⟩
 ·intro k hk j hj
  have hN := (hpre p.code[k] (List.getElem_mem hk)).2
  unfold endB at h2
  rw [Bool.and_eq_false_imp] at h2
  have hlo : lastOp p = (p.code[p.code.length - 1]'(by omega)).op := by unfold lastOp; rw [List.getD_eq_getElem?_getD, List.getElem?_eq_getElem (by omega)]; rfl
  rw [hlo] at h2
  simp only [bne_iff_ne, Bool.or_eq_false_iff, decide_eq_false_iff_not] at h2
  unfold nxtL at hj
  rw [List.mem_append, List.mem_append] at hj
  rcases hj with hj | hj | hj
  ·split at hj
   ·rename_i hc
    rw [List.mem_singleton] at hj
    subst hj
    by_cases e : k = p.code.length - 1
    ·subst e
     have := h2 hc.1
     omega
    ·omega
   ·cases hj
  ·split at hj
   ·rename_i hc
    rw [List.mem_singleton] at hj
    subst hj
    unfold fitN at hN
    repeat (first|rw [if_neg (by omega)] at hN|rw [if_pos (by omega)] at hN)
    unfold belB at hN
    rw [Bool.and_eq_true, decide_eq_true_eq, decide_eq_true_eq] at hN
    omega
   ·cases hj
  ·split at hj
   ·rename_i hc
    rw [List.mem_singleton] at hj
    subst hj
    unfold fitN at hN
    repeat (first|rw [if_neg (by omega)] at hN|rw [if_pos (by omega)] at hN)
    unfold belB at hN
    rw [Bool.and_eq_true, decide_eq_true_eq, decide_eq_true_eq] at hN
    omega
   ·cases hj
 ·intro x hx n hn
  have := List.any_eq_false.1 (hA x hx).1 n hn
  unfold outB at this
  simp only [Bool.or_eq_true, decide_eq_true_eq, not_or] at this
  omega
 ·intro x hx n hn
  have h4 := (hpre x hx).1
  unfold fitA at h4
  rw [Bool.and_eq_true, Bool.not_eq_true', List.any_eq_false] at h4
  have := h4.2 n hn
  unfold belB at this
  simp only [Bool.not_eq_true', Bool.not_eq_false, Bool.and_eq_true, decide_eq_true_eq] at this
  omega
end Go.Cb

