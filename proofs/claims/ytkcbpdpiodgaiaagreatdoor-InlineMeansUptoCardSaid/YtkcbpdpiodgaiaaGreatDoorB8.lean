/-
 Contracts: the document's bindings; all variables greater.
 Contracts: all variables greater by the same, of any term.
 Contracts: the inliner: copies, calls, terms.
 Contracts: the inliner: lists, bodies, terms.
 Contracts: variables that are assigned become boxes, the program.
 Contracts: a procedure, converted.
 Contracts: a Fix with assigned variables, converted.
 Contracts: a term, converted.
 Contracts: the document's words for the check of terms.
 Contracts: what is right names what it binds.
 Contracts: a program, converted.
 Contracts: a program, inlined.
 Contracts: the document's words for assignment conversion.
 Contracts: assignment conversion, all variables greater by the same.
 Plain law: names say nothing to the inlined program.
 Contracts: the inliner's laws: the document's example, sizes, counters; names say nothing.
 Plain: how many variables a right program has; the next one.
 The law InlineMeans, as a contract.
 From the readings of arguments to values, and from a contract to what a statement asks.
 The program's data, read at the seat's types; the bulk.
 Counters, read.
 A world that holds the listed tables: the statements' witness.
-/
import Derived.Carry
import Derived.ChangeArms
import Derived.ChangeSame
import Derived.Deep.DeepHandedRow
import Derived.Deep.DeepWitnessRowRef
import Derived.KernelRfl
import Derived.Lib.LaidIn
import Derived.OpenShut
import Derived.OpenVars
import Derived.RowKit
import Derived.Test.YtkcbpdpiodgaiaaGreatDoorRows
import Derived.WideShapes
import Derived.Test.YtkcbpdpiodgaiaaGreatDoorB7
set_option linter.unusedSimpArgs false
set_option linter.unusedVariables false
namespace Go.Cb
open Go.Proofs
set_option maxRecDepth 100000
set_option maxHeartbeats 4000000
end Go.Cb
namespace Go.Cb
open Go.Proofs
set_option maxRecDepth 100000
set_option maxHeartbeats 4000000
section
variable {P : Program} {tt : Nat → TI}
theorem PLoop.ghost {B : List PV → List Ent → Ds → QT → Prop} {T : List PV} {Γ Γ' : List Ent} {D : Ds} {Q : QT} (hg : Ghost Γ Γ') (h : PLoop B T Γ' D Q) : PLoop B T Γ D Q := by
 obtain ⟨I, J, ⟨n, T0, Γ0, h1, h2⟩, h3, h4⟩ := h.h
 refine ⟨I, J, ⟨n, T0, Γ0, fun w0 F M w vs hS hT => ?_, h2⟩, h3, h4⟩
 obtain ⟨F1, e1, hS1⟩ := hg w0 F M w hS
 obtain ⟨F2, e2, hS2, hT2⟩ := h1 w0 F1 M w vs hS1 (RepT.mono e1 _ _ hT)
 exact ⟨F2, Fz.le_trans e1 e2, hS2, hT2⟩
end
mutual
def Trm.shw (k : Int) : Trm → Trm
 | .mk op n v t => .mk op (if namesB op = true then IntKind.i64.wrap (n + k) else n) (v.map fun x => IntKind.i64.wrap (x + k)) (Trm.shws k t)
def Trm.shws (k : Int) : List Trm → List Trm
 | [] => []
 | x :: xs => Trm.shw k x :: Trm.shws k xs
end
end Go.Cb
namespace Go.Cb
open Go.Proofs
set_option maxRecDepth 100000
set_option maxHeartbeats 4000000
abbrev nmG (bx bn r2 b r : Nat) (small : Int) (s : InS) (n : Nm) : List Ent := .box bx [.ptr b 0] :: .box bn [.mp r2] :: .mp r2 (.int .i64) (mapM (PV.int .i64) n.map) [] :: inG b r small { s with next := n.next }
theorem renew_c (bx bn r2 b r : Nat) (small : Int) (s : InS) (n : Nm) (l : List Int) (h0 : 0 ≤ n.next) (h1 : n.next + l.length ≤ 1000000000000) (hl : l.length ≤ 1000000000) :
  ACall Tryz.prog 82 [slI l, .ptr bx 0, .ptr bn 0] (nmG bx bn r2 b r small s n) (fun y Γ' => y = slI (renewN l n).1 ∧ Γ' = nmG bx bn r2 b r small s (renewN l n).2) := by
 refine ACall.of_body tt_ok Tryz.func82 rfl rfl (n := 26) rfl rfl ?_
 conv => whnf
 repeat (first|refine aR2 ?_|((intro _);conv=>whnf))
 refine PLoop.ghost (Ghost.nil 1 3 _) ?_
 refine PLoop.over [5, 7, 10, 11, 12, 13, 14, 15, 16, 17, 18, 19, 20, 21, 22, 23, 24] (fun x : Nat × (List Int × Tok) × Nm => [(5, .sl 1 (x.2.1.1.map (PV.int .i64)) (some x.2.1.2)), (10, .int .i64 x.1)]) (fun x : Nat × (List Int × Tok) × Nm => .tok x.2.1.2 :: nmG bx bn r2 b r small s x.2.2)
  (fun x => x.1 ≤ l.length ∧ x.2.1.2.e = 3 ∧ x.2.1.1.length = x.1 ∧ x.2.2.next = n.next + x.1 ∧ renewN l n = (x.2.1.1 ++ (renewN (l.drop x.1) x.2.2).1, (renewN (l.drop x.1) x.2.2).2)) (fun x => l.length - x.1) (0, ([], nilTok 1 3), n) ⟨Nat.zero_le _, rfl, rfl, by simp, by simp⟩ wA ?_
 rintro ⟨i, ⟨m, tk⟩, n1⟩ ⟨hi, hte, hml, hn1, he⟩
 dsimp only at hi hte hml hn1 he ⊢
 conv => whnf
 repeat' (first|refine aA2 ?_|(refine zX (fun hc=>?_) (fun hc=>?_)<;>(try simp only [SY] at hc)<;>(conv=>whnf)))
 ·have hlt : i < l.length := by omega
  rw [drop_at hlt, renewN] at he
  refine PDraw.sE [.box b [.int .i64 small, .int .i64 s.budget, .int .i64 s.effort, .int .i64 n1.next, .mp r], .mp r (.int .i64) (mapM Trm.pa s.known) [], .mp r2 (.int .i64) (mapM (PV.int .i64) n1.map) []] [3] [4] tt_ok mixed ?_
  conv=>whnf
  repeat (refine aR2 ?_)
  refine PCall.go (fresh_c b r small { s with next := n1.next } (by show 0 ≤ n1.next; omega) (by show n1.next ≤ _; omega)) (WkT.refl _) ?_
  rintro _ _ ⟨rfl, rfl⟩
  conv => whnf
  skip
  refine PMapPut.num n1.next rfl ?_
  have hu : upd n1.map l[i] n1.next l[i] = some n1.next := by simp [upd]
  conv => whnf
  repeat' (first|refine aA2 ?_|((intro _);conv=>whnf)|(refine zX (fun hc=>?_) (fun hc=>?_)<;>(try simp only [SY] at hc)<;>omega))
  rename_i t2 ht2
  refine loopTo (i + 1, (m ++ [n1.next], t2), ⟨upd n1.map l[i] n1.next, n1.next + 1⟩) ⟨by show i + 1 ≤ _; omega, ht2, by simp; omega, by show n1.next + 1 = n.next + ((i + 1 : Nat) : Int); omega, ?_⟩ (by show l.length - (i + 1) < l.length - i; omega) wA
  rw [he]
  simp only [List.append_assoc, List.cons_append, List.nil_append]
  rfl
 ·rw [List.drop_of_length_le (by omega)] at he
  simp only [renewN, List.append_nil] at he
  rw [he]
  exact PRet.gen (y := slI m) (Γ' := nmG bx bn r2 b r small s n1) (Wk.tok _ _ _) ⟨rfl, rfl⟩
theorem PLook.numI {r : Nat} {m : Int → Option Int} {n : Int} {Γ : List Ent} {pend : List (Int × Value)} {put : (Value → Option PV) → List (Int × Value) → List Ent} [hp : PickMp Γ r (.int .i64) (mapM (PV.int .i64) m) pend put] {K : PV → Bool → Prop}
  (h : K (.int .i64 ((m n).getD 0)) (m n).isSome) : PLook r (.int .i64) (some (.int .i64 n)) (.int .i64 0) Γ K := by
 refine PLook.num (hp := hp) ?_
 cases hm : m n <;> (rw [hm] at h; exact h)
abbrev cpG (b9 b10 bx bn r2 b r : Nat) (small : Int) (s : InS) (n : Nm) : List Ent := .box b10 [.fn (.func 84) [.ptr b9 0, .ptr bn 0, .ptr b10 0]] :: .box b9 [.fn (.func 82) [.ptr bx 0, .ptr bn 0]] :: nmG bx bn r2 b r small s n
theorem copied_c (b9 b10 bx bn r2 b r : Nat) (small : Int) (s : InS) (t : Trm) : t.bulk ≤ 1000000000 → ∀ n : Nm, 0 ≤ n.next → n.next + t.bulk ≤ 1000000000000 →
  ACall Tryz.prog 84 [.agg t.cells, .ptr b9 0, .ptr bn 0, .ptr b10 0] (cpG b9 b10 bx bn r2 b r small s n) (fun y Γ' => y = .agg (t.cpy n).1.cells ∧ Γ' = cpG b9 b10 bx bn r2 b r small s (t.cpy n).2) := by
 induction t using Trm.ind with
 | h t ih =>
  intro hb n h0 h1
  have hbe := t.bulk_eq
  have hbs := Trm.bulks_length t.t
  obtain ⟨r1, r2'⟩ := renewN_bd t.v n
  refine ACall.of_body tt_ok Tryz.func84 rfl rfl (n := 52) rfl rfl ?_
  conv => whnf
  repeat (((intro _);conv=>whnf))
  rename_i b4 b5
  refine PDraw.sF (some 11) rfl [.box bx [.ptr b 0], .box bn [.mp r2], .mp r2 (.int .i64) (mapM (PV.int .i64) n.map) [], .box b [.int .i64 small, .int .i64 s.budget, .int .i64 s.effort, .int .i64 n.next, .mp r], .mp r (.int .i64) (mapM Trm.pa s.known) []] [7,8] [] [9] [10] tt_ok mixed ?_
  conv=>whnf
  repeat (refine aR2 ?_)
  refine PCall.go (renew_c bx bn r2 b r small s n t.v h0 (by omega) (by omega)) (WkT.refl _) ?_
  rintro _ _ ⟨rfl, rfl⟩
  have hcp : t.cpy n = (.mk t.op (if t.op = 1 then ((renewN t.v n).2.map t.n).getD t.n else t.n) (renewN t.v n).1 (Trm.cpys t.t (renewN t.v n).2).1, (Trm.cpys t.t (renewN t.v n).2).2) := by cases t; rfl
  rw [hcp]
  generalize renewN t.v n = q at *
  obtain ⟨v', n1⟩ := q
  dsimp only at r1 r2' ⊢
  conv => whnf
  repeat (first|refine aR2 ?_|((intro _);conv=>whnf))
  rename_i b6
  refine PSeq.join (fun _ : Unit => []) (fun _ => .box b6 [.int .i64 t.op, .int .i64 (if t.op = 1 then (n1.map t.n).getD t.n else t.n), slI v', .nil] :: .box b5 [.int .i64 0, .int .i64 0, .nil, .nil] :: .box b4 [.int .i64 t.op, .int .i64 t.n, .sl 1 (t.v.map (PV.int .i64)) none, .sl 4 (t.t.map Trm.pv) none] :: cpG b9 b10 bx bn r2 b r small s n1) (fun _ => True) ?_ ?_
  ·conv => whnf
   repeat' (first|refine aA2 ?_|(refine zX (fun hc=>?_) (fun hc=>?_)<;>(try simp only [SY] at hc)<;>omega))
   refine PLook.numI ?_
   conv => whnf
   repeat' (first|refine aA2 ?_|(refine zX (fun hc=>?_) (fun hc=>?_)<;>(try simp only [SY] at hc)<;>(conv=>whnf)))
   ·have e : (if t.op = 1 then (n1.map t.n).getD t.n else t.n) = (n1.map t.n).getD 0 := by
     rw [if_pos hc.2]
     obtain ⟨x, hx⟩ := Option.isSome_iff_exists.1 hc.1
     rw [hx]; rfl
    rw [← e]
    exact joinEnd () trivial wA
   ·have e : (if t.op = 1 then (n1.map t.n).getD t.n else t.n) = t.n := by
     split
     ·have : (n1.map t.n) = none := by
       rcases hc with h | h
       ·simpa using h
       ·omega
      rw [this]; rfl
     ·rfl
    rw [e]
    exact joinEnd () trivial wA
  rintro ⟨⟩ -
  generalize (if t.op = 1 then (n1.map t.n).getD t.n else t.n) = N
  conv => whnf
  repeat (first|refine aR2 ?_|((intro _);conv=>whnf))
  refine PLoop.ghost (Ghost.trans (Ghost.nil 4 26 _) (Ghost.box (b := b6) (cs := [.int .i64 t.op, .int .i64 N, slI v', .nil]) (cs' := [.int .i64 t.op, .int .i64 N, slI v', .sl 4 (([] : List Trm).map Trm.pv) (some (nilTok 4 26))]) wA)) ?_
  refine PLoop.over [10, 38, 39, 40, 41, 42, 43, 44, 45, 46, 47, 48, 49, 50] (fun x : Nat × (List Trm × Tok) × Nm => [(38, .int .i64 x.1)]) (fun x : Nat × (List Trm × Tok) × Nm => .box b6 [.int .i64 t.op, .int .i64 N, slI v', .sl 4 (x.2.1.1.map Trm.pv) (some x.2.1.2)] :: .tok x.2.1.2 :: .box b5 [.int .i64 0, .int .i64 0, .nil, .nil] :: .box b4 [.int .i64 t.op, .int .i64 t.n, .sl 1 (t.v.map (PV.int .i64)) none, .sl 4 (t.t.map Trm.pv) none] :: cpG b9 b10 bx bn r2 b r small s x.2.2)
   (fun x => x.1 ≤ t.t.length ∧ x.2.1.2.e = 26 ∧ x.2.1.1.length = x.1 ∧ 0 ≤ x.2.2.next ∧ x.2.2.next + Trm.bulks (t.t.drop x.1) ≤ 1000000000000 ∧ Trm.cpys t.t n1 = (x.2.1.1 ++ (Trm.cpys (t.t.drop x.1) x.2.2).1, (Trm.cpys (t.t.drop x.1) x.2.2).2)) (fun x => t.t.length - x.1) (0, ([], nilTok 4 26), n1) ⟨Nat.zero_le _, rfl, rfl, by dsimp only; omega, by rw [List.drop_zero]; dsimp only; omega, by simp⟩ wA ?_
  rintro ⟨i, ⟨m, tk⟩, n2⟩ ⟨hi, hte, hml, hn1, hn2, he⟩
  dsimp only at hi hte hml hn1 hn2 he ⊢
  conv => whnf
  repeat' (first|refine aA2 ?_|((intro _);conv=>whnf)|(refine zX (fun hc=>?_) (fun hc=>?_)<;>(try simp only [SY] at hc)<;>(conv=>whnf)))
  ·have hlt : i < t.t.length := by omega
   rw [drop_at hlt, Trm.bulks] at hn2
   rw [drop_at hlt, Trm.cpys] at he
   have hbi := Trm.bulks_mem (List.getElem_mem hlt)
   obtain ⟨c1, c2, c3⟩ := (t.t[i]).cpy_bd n2
   refine PDraw.sE [.tok tk, .box b10 [.fn (.func 84) [.ptr b9 0, .ptr bn 0, .ptr b10 0]], .box b9 [.fn (.func 82) [.ptr bx 0, .ptr bn 0]], .box bx [.ptr b 0], .box bn [.mp r2], .mp r2 (.int .i64) (mapM (PV.int .i64) n2.map) [], .box b [.int .i64 small, .int .i64 s.budget, .int .i64 s.effort, .int .i64 n2.next, .mp r], .mp r (.int .i64) (mapM Trm.pa s.known) []] [2,4,5] [6,7,8] tt_ok mixed ?_
   conv=>whnf
   repeat (refine aR2 ?_)
   refine PCall.go (ih _ (List.getElem_mem hlt) (by omega) n2 hn1 (by omega)) (WkT.refl _) ?_
   rintro _ _ ⟨rfl, rfl⟩
   conv => whnf
   repeat' (first|refine aA2 ?_|((intro _);conv=>whnf)|(refine zX (fun hc=>?_) (fun hc=>?_)<;>(try simp only [SY] at hc)<;>omega))
   rename_i t2 ht2
   refine loopTo (i + 1, (m ++ [((t.t[i]).cpy n2).1], t2), ((t.t[i]).cpy n2).2) ⟨by show i + 1 ≤ _; omega, ht2, by simp; omega, by show 0 ≤ ((t.t[i]).cpy n2).2.next; omega, by show ((t.t[i]).cpy n2).2.next + Trm.bulks (t.t.drop (i + 1)) ≤ _; omega, ?_⟩ (by show t.t.length - (i + 1) < t.t.length - i; omega) wA
   rw [he]
   simp only [List.append_assoc, List.cons_append, List.nil_append]
  ·rw [List.drop_of_length_le (by omega)] at he
   simp only [Trm.cpys, List.append_nil] at he
   rw [he]
   exact PRet.gen (y := .agg (Trm.mk t.op N v' m).cells) (Γ' := cpG b9 b10 bx bn r2 b r small s n2) TrmOf.wk ⟨rfl, rfl⟩
end Go.Cb
namespace Go.Cb
open Go.Proofs
set_option maxRecDepth 100000
set_option maxHeartbeats 4000000
def ThOk (B b r : Nat) (small : Int) (x : Trm) : Prop := ∀ s : InS, GoodI B s →
 ACall Tryz.prog 26 [.ptr b 0, .agg x.cells] (inG b r small s) (fun y Γ' => y = .agg (x.thr small s).1.cells ∧ Γ' = inG b r small (x.thr small s).2)
theorem allI_c (B b r : Nat) (small : Int) (l : List Trm) (hf : ∀ x ∈ l, ThOk B b r small x) (hs : ∀ x ∈ l, x.shI ∧ x.bulk ≤ B) (hl : l.length ≤ 1000000000) (s : InS) (hg : GoodI B s) :
  ACall Tryz.prog 46 [.ptr b 0, .sl 4 (l.map Trm.pv) none] (inG b r small s)
   (fun y Γ' => ∃ tk : Tok, tk.e = 26 ∧ y = .sl 4 ((Trm.thrs small l s).1.map Trm.pv) (some tk) ∧ Γ' = .tok tk :: inG b r small (Trm.thrs small l s).2) := by
 refine ACall.of_body tt_ok Tryz.func46 rfl rfl (n := 22) rfl rfl ?_
 conv => whnf
 repeat (first|refine aR2 ?_|((intro _);conv=>whnf))
 refine PLoop.ghost (Ghost.nil 4 26 _) ?_
 refine PLoop.over [5, 7, 10, 11, 12, 13, 14, 15, 16, 17, 18, 19, 20] (fun x : Nat × (List Trm × Tok) × InS => [(5, .sl 4 (x.2.1.1.map Trm.pv) (some x.2.1.2)), (10, .int .i64 x.1)]) (fun x : Nat × (List Trm × Tok) × InS => .tok x.2.1.2 :: inG b r small x.2.2)
  (fun x => x.1 ≤ l.length ∧ x.2.1.2.e = 26 ∧ x.2.1.1.length = x.1 ∧ GoodI B x.2.2 ∧ Trm.thrs small l s = (x.2.1.1 ++ (Trm.thrs small (l.drop x.1) x.2.2).1, (Trm.thrs small (l.drop x.1) x.2.2).2)) (fun x => l.length - x.1) (0, ([], nilTok 4 26), s) ⟨Nat.zero_le _, rfl, rfl, hg, by simp⟩ wA ?_
 rintro ⟨i, ⟨m, tk⟩, s1⟩ ⟨hi, hte, hml, hg1, he⟩
 dsimp only at hi hte hml hg1 he ⊢
 conv => whnf
 repeat' (first|refine aA2 ?_|((intro _);conv=>whnf)|(refine zX (fun hc=>?_) (fun hc=>?_)<;>(try simp only [SY] at hc)<;>(conv=>whnf)))
 ·have hlt : i < l.length := by omega
  rw [drop_at hlt, Trm.thrs] at he
  obtain ⟨q1, q2⟩ := hs _ (List.getElem_mem hlt)
  have hg2 := ((l[i]).thr_bd small B q1 q2 s1 hg1).1
  refine PCall.go (hf _ (List.getElem_mem hlt) s1 hg1) (WkT.refl _) ?_
  rintro _ _ ⟨rfl, rfl⟩
  conv => whnf
  repeat' (first|refine aA2 ?_|((intro _);conv=>whnf)|(refine zX (fun hc=>?_) (fun hc=>?_)<;>(try simp only [SY] at hc)<;>omega))
  rename_i t2 ht2
  refine loopTo (i + 1, (m ++ [((l[i]).thr small s1).1], t2), ((l[i]).thr small s1).2) ⟨by show i + 1 ≤ _; omega, ht2, by simp; omega, hg2, ?_⟩ (by show l.length - (i + 1) < l.length - i; omega) wA
  rw [he]
  simp only [List.append_assoc, List.cons_append, List.nil_append]
 ·rw [List.drop_of_length_le (by omega)] at he
  simp only [Trm.thrs, List.append_nil] at he
  rw [he]
  exact PRet.gen (y := .sl 4 (m.map Trm.pv) (some tk)) (Γ' := .tok tk :: inG b r small s1) (Wk.refl _) ⟨tk, hte, rfl, rfl⟩
theorem mapM_nil {α : Type} (f : α → PV) : (fun _ => none : Value → Option PV) = mapM f (fun _ => none) := by
 funext v
 unfold mapM
 split <;> rfl
def bodyI (small : Int) (lam : Trm) (xs : List Trm) (s : InS) : Trm × InS :=
 (.mk 8 0 (renewN lam.v ⟨fun _ => none, (Trm.thrs small xs { s with budget := s.budget - szI (firstT lam) }).2.next⟩).1 ((Trm.thrs small xs { s with budget := s.budget - szI (firstT lam) }).1 ++ [((firstT lam).cpy (renewN lam.v ⟨fun _ => none, (Trm.thrs small xs { s with budget := s.budget - szI (firstT lam) }).2.next⟩).2).1]),
  { (Trm.thrs small xs { s with budget := s.budget - szI (firstT lam) }).2 with next := ((firstT lam).cpy (renewN lam.v ⟨fun _ => none, (Trm.thrs small xs { s with budget := s.budget - szI (firstT lam) }).2.next⟩).2).2.next })
theorem drInl12caa {p q : Prop} (k : q) (h : q → p := by intro hq; first | exact PDraw.sP (some 11) rfl [] [14] tt_ok mixed hq) : p := h k
theorem body_c (B b r : Nat) (small : Int) (t lam : Trm) (x : Trm) (xs : List Trm) (ht : t.t = x :: xs) (hf : ∀ x ∈ xs, ThOk B b r small x) (hs : ∀ x ∈ xs, x.shI ∧ x.bulk ≤ B) (hl : t.bulk ≤ 1000000000)
  (hlam : lam.t.length = 1) (hlb : lam.bulk ≤ B) (hB : B ≤ 1000000000) (s : InS) (hg : GoodI B s) (hz : szI (firstT lam) ≤ s.budget) :
  ACall Tryz.prog 43 [.ptr b 0, .agg t.cells, .agg lam.cells] (inG b r small s) (fun y Γ' => y = .agg (bodyI small lam xs s).1.cells ∧ Γ' = inG b r small (bodyI small lam xs s).2) := by
 have hbe := t.bulk_eq
 have hbs := Trm.bulks_length t.t
 have hlbe := lam.bulk_eq
 have hl2 : 0 < lam.t.length := by omega
 have h2 : lam.t[0] = firstT lam := by rw [firstT_getD, List.getD_eq_getElem?_getD, List.getElem?_eq_getElem hl2]; rfl
 have hlb2 := Trm.bulks_mem (List.getElem_mem hl2)
 have hsz := size_c2 lam.t[0] (by omega)
 have hzp := szI_pos (firstT lam)
 have hb1 := hg.b1
 have hb0 := hg.b0
 have hlen : t.t.length = xs.length + 1 := by rw [ht]; rfl
 have hz2 : ((lam.t[0].all.length : Nat) : Int) = szI (firstT lam) := by rw [← h2]; rfl
 refine ACall.of_body tt_ok Tryz.func43 rfl rfl (n := 51) rfl rfl ?_
 conv => whnf
 repeat (first|refine aR2 ?_|((first|((apply zZ);(conv=>whnf);(repeat ((refine pC (hsz) wR ?_);conv=>whnf));exact pZ)|refine drInl12caa ?_|intro _);conv=>whnf))
 rename_i b3 b4 b5 b6
 conv => whnf
 skip
 refine PDraw.sF (some 25) rfl [.box b [.int .i64 small, .int .i64 (s.budget - lam.t[0].all.length), .int .i64 s.effort, .int .i64 s.next, .mp r], .mp r (.int .i64) (mapM Trm.pa s.known) []] [4,5] [] [6] [7] tt_ok mixed ?_
 conv=>whnf
 repeat (refine aR2 ?_)
 have hd1 : List.drop 1 t.t = xs := by rw [ht]; rfl
 have hbl := bud_le (b := s.budget) (B := B) hzp
 have hg2 : GoodI B { s with budget := s.budget - szI (firstT lam) } := by
  refine ⟨hg.ok, hg.n0, ?_, ?_, ?_, hg.e0, hg.e1⟩
  ·have := hg.nb; show s.next + (s.budget - szI (firstT lam)) * B ≤ _; omega
  ·show 0 ≤ s.budget - szI (firstT lam); omega
  ·show s.budget - szI (firstT lam) ≤ _; omega
 rw [hd1, hz2]
 have hbx : Trm.bulks t.t = x.bulk + Trm.bulks xs := by rw [ht, Trm.bulks]
 have hbxl := Trm.bulks_length xs
 refine PCall.go (allI_c B b r small xs hf hs (by omega) { s with budget := s.budget - szI (firstT lam) } hg2) (WkT.refl _) ?_
 rintro _ _ ⟨tk, hte, rfl, rfl⟩
 obtain ⟨a1, a2, a3, a4, a5⟩ := Trm.thrs_bd small B xs hs { s with budget := s.budget - szI (firstT lam) } hg2
 unfold bodyI
 generalize hLe : Trm.thrs small xs { s with budget := s.budget - szI (firstT lam) } = a at *
 obtain ⟨L, s1⟩ := a
 dsimp only at a1 a2 a3 a4 a5 ⊢
 have hn0 := a1.n0
 have hn1 := a1.nextB
 conv => whnf
 repeat' (first|refine aA2 ?_|((intro _);conv=>whnf)|(refine zX (fun hc=>?_) (fun hc=>?_)<;>(try simp only [SY] at hc)<;>omega))
 rename_i b7 r2 b8 b9
 rw [mapM_nil (PV.int .i64)]
 have hlv : lam.v.length + 1 ≤ lam.bulk := by omega
 refine PCall.go (renew_c b3 b8 r2 b r small s1 ⟨fun _ => none, s1.next⟩ lam.v hn0 (by show s1.next + _ ≤ _; omega) (by omega)) (WkT.refl _) ?_
 rintro _ _ ⟨rfl, rfl⟩
 obtain ⟨q1, q2⟩ := renewN_bd lam.v ⟨fun _ => none, s1.next⟩
 generalize renewN lam.v ⟨fun _ => none, s1.next⟩ = q at *
 obtain ⟨v', n1⟩ := q
 dsimp only at q1 q2 ⊢
 conv => whnf
 repeat' (first|refine aA2 ?_|((intro _);conv=>whnf)|(refine zX (fun hc=>?_) (fun hc=>?_)<;>(try simp only [SY] at hc)<;>omega))
 rename_i b10
 refine PDraw.sE [.tok tk, .box b10 [.fn (.func 84) [.ptr b9 0, .ptr b8 0, .ptr b10 0]], .box b9 [.fn (.func 82) [.ptr b3 0, .ptr b8 0]], .box b3 [.ptr b 0], .box b8 [.mp r2], .mp r2 (.int .i64) (mapM (PV.int .i64) n1.map) [], .box b [.int .i64 small, .int .i64 s1.budget, .int .i64 s1.effort, .int .i64 n1.next, .mp r], .mp r (.int .i64) (mapM Trm.pa s1.known) []] [2,7,8] [9,10,11] tt_ok mixed ?_
 conv=>whnf
 repeat (refine aR2 ?_)
 refine PCall.go (copied_c b9 b10 b3 b8 r2 b r small s1 lam.t[0] (by omega) n1 (by omega) (by omega)) (WkT.refl _) ?_
 rintro _ _ ⟨rfl, rfl⟩
 rw [h2]
 generalize (firstT lam).cpy n1 = c
 have hLl : L.length ≤ 1000000000 := by
  have := Trm.thrs_len small xs { s with budget := s.budget - szI (firstT lam) }
  rw [hLe] at this
  dsimp only at this
  omega
 conv => whnf
 repeat' (first|refine aA2 ?_|((intro _);conv=>whnf)|(refine zX (fun hc=>?_) (fun hc=>?_)<;>(try simp only [SY] at hc)<;>omega))
 exact PRet.gen (y := .agg (Trm.mk 8 0 v' (L ++ [c.1])).cells) (Γ' := inG b r small { s1 with next := c.2.next }) TrmOf.wk ⟨rfl, rfl⟩
theorem drInl12cab {p q : Prop} (k : q) (h : q → p := by intro hq; first | exact PDraw.sP (some 36) rfl [8] [9] tt_ok mixed hq) : p := h k
theorem thOk (B b r : Nat) (small : Int) (hB : B ≤ 1000000000) (t : Trm) : t.shI → t.bulk ≤ B → ThOk B b r small t := by
 induction t using Trm.ind with
 | h t ih =>
  intro hs hb s hg
  have hbe := t.bulk_eq
  have hbs := Trm.bulks_length t.t
  have hs0 := hs
  rw [Trm.shI_eq] at hs
  obtain ⟨⟨s1, s2, s3, s4⟩, s5⟩ := hs
  have hf : ∀ x ∈ t.t, ThOk B b r small x := fun x hx => ih x hx (Trm.shIs_mem s5 x hx) (by have := Trm.bulks_mem hx; omega)
  have hp : ∀ x ∈ t.t, x.shI ∧ x.bulk ≤ B := fun x hx => ⟨Trm.shIs_mem s5 x hx, by have := Trm.bulks_mem hx; omega⟩
  have hthr : t.thr small s = if s.effort = 0 then (t, s) else
    match calledI small t { s with effort := s.effort - 1 } with
    | some lam => match t.t with
     | [] => (t, s)
     | _ :: xs => bodyI small lam xs { s with effort := s.effort - 1 }
    | none => if t.op = 9 then (.mk t.op t.n t.v (Trm.thrs small t.t (learnI t.op t.v t.t { s with effort := s.effort - 1 })).1, (Trm.thrs small t.t (learnI t.op t.v t.t { s with effort := s.effort - 1 })).2)
     else (.mk t.op t.n t.v (Trm.thrL small (learnI t.op t.v t.t) t.t { s with effort := s.effort - 1 }).1, (Trm.thrL small (learnI t.op t.v t.t) t.t { s with effort := s.effort - 1 }).2) := by
   cases t; rw [Trm.thr]; rfl
  have he0 := hg.e0
  have he1 := hg.e1
  have h5 : t.op = 5 → 1 ≤ t.t.length := fun h => List.length_pos_iff.2 (s1 h)
  refine ACall.of_body tt_ok Tryz.func26 rfl rfl (n := 88) rfl rfl ?_
  conv => whnf
  repeat (first|refine aR2 ?_|((intro _);conv=>whnf))
  rename_i b3 b4
  conv => whnf
  repeat' (first|refine aA2 ?_|(refine zX (fun hc=>?_) (fun hc=>?_)<;>(try simp only [SY] at hc)<;>(conv=>whnf)))
  ·rw [hthr, if_pos hc]
   exact PRet.gen (y := .agg t.cells) (Γ' := inG b r small s) (Wk.refl _) ⟨rfl, rfl⟩
  rw [hthr, if_neg hc]
  have hg1 := hg.eff hc
  refine PCall.go (called_c B b r small t h5 (by omega) hB { s with effort := s.effort - 1 } hg1) (WkT.refl _) ?_
  rintro y _ ⟨hq, rfl⟩
  generalize ({ s with effort := s.effort - 1 } : InS) = sa at *
  cases hci : calledI small t sa with
  | some lam =>
   rw [hci] at hq
   obtain rfl : y = .tup [.agg lam.cells, .bool true] := hq
   obtain ⟨c1, c2, c3, c4, c5, c6, c7, c8⟩ := calledI_some hci
   obtain ⟨o1, o2, o3⟩ := hg1.ok _ _ c3
   cases htt : t.t with
   | nil => exact absurd htt (s1 c1)
   | cons x xs =>
    dsimp only
    rw [← htt]
    conv => whnf
    repeat' (first|refine aA2 ?_|((intro _);conv=>whnf)|(refine zX (fun hc=>?_) (fun hc=>?_)<;>(try simp only [SY] at hc)<;>(conv=>whnf)))
    ·refine PCall.go (body_c B b r small t lam x xs htt (fun y hy => hf y (by rw [htt]; exact List.mem_cons_of_mem _ hy)) (fun y hy => hp y (by rw [htt]; exact List.mem_cons_of_mem _ hy)) (by omega) o2 o3 hB sa hg1 c8) (WkT.refl _) ?_
     rintro _ _ ⟨rfl, rfl⟩
     conv => whnf
     repeat' (first|refine aA2 ?_|(refine zX (fun hc=>?_) (fun hc=>?_)<;>(try simp only [SY] at hc)<;>omega))
     exact PRet.gen (y := .agg (bodyI small lam xs sa).1.cells) (Γ' := inG b r small (bodyI small lam xs sa).2) (Wk.refl _) ⟨rfl, rfl⟩
  | none =>
   rw [hci] at hq
   obtain ⟨u, rfl⟩ : ∃ u : Trm, y = .tup [.agg u.cells, .bool false] := hq
   dsimp only
   conv => whnf
   repeat' (first|refine aA2 ?_|((first|((apply zZ);(conv=>whnf);(repeat ((refine pC (cloneInt_c t.v (by omega)) wR ?_);conv=>whnf));exact pZ)|refine drInl12cab ?_|intro _);conv=>whnf)|(refine zX (fun hc=>?_) (fun hc=>?_)<;>(try simp only [SY] at hc)<;>(conv=>whnf)))
   ·have hA : (if t.op = 9 then (Trm.mk t.op t.n t.v (Trm.thrs small t.t (learnI t.op t.v t.t sa)).1, (Trm.thrs small t.t (learnI t.op t.v t.t sa)).2)
      else (.mk t.op t.n t.v (Trm.thrL small (learnI t.op t.v t.t) t.t sa).1, (Trm.thrL small (learnI t.op t.v t.t) t.t sa).2)) = (Trm.mk t.op t.n t.v (Trm.thrs small t.t (learnI t.op t.v t.t sa)).1, (Trm.thrs small t.t (learnI t.op t.v t.t sa)).2) := by
     split
     ·rfl
     ·have : t.t = [] := List.eq_nil_of_length_eq_zero (by omega)
      rw [this, Trm.thrL, Trm.thrs]
    rw [hA]
    refine PCall.go (learn_c b r small t s3 (by omega) sa) (WkT.refl _) ?_
    rintro _ _ ⟨rfl, rfl⟩
    have hg2 := hg1.learnT hs0 hb
    generalize learnI t.op t.v t.t sa = sb at *
    conv => whnf
    repeat' (first|refine aA2 ?_|(refine zX (fun hc=>?_) (fun hc=>?_)<;>(try simp only [SY] at hc)<;>omega))
    refine PCall.go (allI_c B b r small t.t hf hp (by omega) sb hg2) (WkT.refl _) ?_
    rintro _ _ ⟨tk, hte, rfl, rfl⟩
    generalize Trm.thrs small t.t sb = a at *
    conv => whnf
    repeat' (first|refine aA2 ?_|(refine zX (fun hc=>?_) (fun hc=>?_)<;>(try simp only [SY] at hc)<;>omega))
    exact PRet.gen (y := .agg (Trm.mk t.op t.n t.v a.1).cells) (Γ' := inG b r small a.2) TrmOf.wk ⟨rfl, rfl⟩
   ·have hne : t.t ≠ [] := by intro h; rw [h] at hc; simp at hc
    obtain ⟨ini, la, hil⟩ : ∃ ini la, t.t = ini ++ [la] := ⟨t.t.dropLast, t.t.getLast hne, (List.dropLast_concat_getLast hne).symm⟩
    have hlen : t.t.length = ini.length + 1 := by rw [hil]; simp
    have htk : List.take (t.t.length - 1) t.t = ini := by rw [hil]; simp
    have hla : t.t[t.t.length - 1]'(by omega) = la := by simp [hil]
    have hlm : la ∈ t.t := by rw [hil]; simp
    have him : ∀ y ∈ ini, y ∈ t.t := fun y hy => by rw [hil]; simp [hy]
    have hbi : Trm.bulks t.t = Trm.bulks ini + la.bulk := by rw [hil, Trm.bulks_append]; simp [Trm.bulks]
    have hbil := Trm.bulks_length ini
    rw [if_neg hc.1]
    have hL := Trm.thrL_last small (learnI t.op t.v t.t) ini la sa
    rw [← hil] at hL
    rw [hL, htk]
    refine PCall.go (allI_c B b r small ini (fun y hy => hf y (him y hy)) (fun y hy => hp y (him y hy)) (by omega) sa hg1) (WkT.refl _) ?_
    rintro _ _ ⟨tk, hte, rfl, rfl⟩
    have hg2 := (Trm.thrs_bd small B ini (fun y hy => hp y (him y hy)) sa hg1).1
    have hal := Trm.thrs_len small ini sa
    generalize Trm.thrs small ini sa = a at *
    obtain ⟨L, sb⟩ := a
    dsimp only at hg2 hal ⊢
    conv => whnf
    repeat' (first|refine aA2 ?_|(refine zX (fun hc=>?_) (fun hc=>?_)<;>(try simp only [SY] at hc)<;>omega))
    refine PCall.go (learn_c b r small t s3 (by omega) sb) (WkT.refl _) ?_
    rintro _ _ ⟨rfl, rfl⟩
    have hg3 := hg2.learnT hs0 hb
    generalize learnI t.op t.v t.t sb = sc at *
    conv => whnf
    skip
    refine PDraw.sE [.tok tk, .box b [.int .i64 small, .int .i64 sc.budget, .int .i64 sc.effort, .int .i64 sc.next, .mp r], .mp r (.int .i64) (mapM Trm.pa sc.known) []] [9,10] [11,12,13] tt_ok mixed ?_
    conv=>whnf
    repeat (refine aR2 ?_)
    refine PCall.go (hf _ (by rw [hla]; exact hlm) sc hg3) (WkT.refl _) ?_
    rintro _ _ ⟨rfl, rfl⟩
    rw [hla]
    generalize la.thr small sc = c
    conv => whnf
    repeat' (first|refine aA2 ?_|((intro _);conv=>whnf)|(refine zX (fun hc=>?_) (fun hc=>?_)<;>(try simp only [SY] at hc)<;>omega))
    exact PRet.gen (y := .agg (Trm.mk t.op t.n t.v (L ++ [c.1])).cells) (Γ' := inG b r small c.2) TrmOf.wk ⟨rfl, rfl⟩
end Go.Cb
namespace Go.Cb
open Go.Proofs
set_option maxRecDepth 100000
set_option maxHeartbeats 4000000
end Go.Cb
namespace Go.Cb
open Go.Proofs
set_option maxRecDepth 100000
set_option maxHeartbeats 4000000
end Go.Cb
namespace Go.Cb
open Go.Proofs
set_option maxRecDepth 100000
set_option maxHeartbeats 4000000
end Go.Cb
namespace Go.Cb
open Go.Proofs
set_option maxRecDepth 100000
set_option maxHeartbeats 4000000
end Go.Cb
namespace Go.Cb
open Go.Proofs
set_option maxRecDepth 100000
set_option maxHeartbeats 4000000
end Go.Cb
namespace Go.Cb
open Go.Proofs
set_option maxRecDepth 100000
set_option maxHeartbeats 4000000
theorem RightP.binds {p : Prog} {level : Int} (h : RightP p level) : (riseL (bindsOf p.body.all)).length = p.body.vars.length := by
 have h1 := p.body.met_all [] 0 (by have := p.body.okT_deep h.2.2.1; omega)
 have h2 : bindsOf p.body.all = p.body.vars := h1.2
 rw [h2]
 exact rise_len h.2.2.2.2.2
end Go.Cb
namespace Go.Cb
open Go.Proofs
set_option maxRecDepth 100000
set_option maxHeartbeats 4000000
theorem bndL_mem (t : Trm) (x : Int) : x ∈ bndL t ↔ x ∈ t.vars := by unfold bndL; exact mem_rise _ _
theorem RightP.fits {p : Prog} {level : Int} (h : RightP p level) : p.body.shp ∧ p.body.dep ≤ 400 ∧ (∀ x ∈ p.body.vars, 0 ≤ x ∧ x ≤ 1000000) := by
 have h1 := p.body.okT_deep h.2.2.1
 exact ⟨p.body.okT_shp h.2.2.1, by omega, fun x hx => ⟨(h.2.2.2.2.1 x hx).1, (h.2.2.2.2.1 x hx).2.1⟩⟩
theorem bndL_len' (t : Trm) (h : t.dep < 1000) : (bndL t).length ≤ t.bulk := by
 have := (t.bD_spec 0 [] List.Pairwise.nil).2.1
 rw [t.bD_rise h] at this
 simpa using this
theorem noP_wk : Wk (.agg [.nil, .int .i64 0, .int .i64 0, .nil, .nil]) (.agg noP.cells) := Wk.agg (.cons (Wk.nil' rfl) (.cons (Wk.refl _) (.cons (Wk.refl _) (.cons (Wk.nil' rfl) (.cons (Wk.nil' rfl) .nil)))))
end Go.Cb
namespace Go.Cb
open Go.Proofs
set_option maxRecDepth 100000
set_option maxHeartbeats 4000000
structure Ctr where
 small : Int
 budget : Int
 effort : Int
abbrev mx0 (a : Int) : Int := if a < 0 then 0 else a
theorem mx0_eq (a : Int) : mx0 a = max a 0 := by unfold mx0; split <;> omega
def Ctr.cells (c : Ctr) : List PV := [.int .i64 c.small, .int .i64 c.budget, .int .i64 c.effort]
abbrev startI (t : Trm) (c : Ctr) : InS := ⟨nextT t, mx0 c.budget, mx0 c.effort, fun _ => none⟩
def inlP (p : Prog) (c : Ctr) : Prog := ⟨p.consts, (p.body.thr (mx0 c.small) (startI p.body c)).1⟩
def inlC (p : Prog) (c : Ctr) : Ctr := ⟨mx0 c.small, (p.body.thr (mx0 c.small) (startI p.body c)).2.budget, (p.body.thr (mx0 c.small) (startI p.body c)).2.effort⟩
def conv12 (p : Prog) (c : Ctr) : Prog × Ctr × Int := if checkP p 2 = 0 then (if checkP (inlP p c) 2 = 0 then (inlP p c, inlC p c, 0) else (noP, ⟨0, 0, 0⟩, 5)) else (noP, ⟨0, 0, 0⟩, 5)
theorem nextT_bd {t : Trm} (hvr : ∀ x ∈ t.vars, 0 ≤ x ∧ x ≤ 1000000) : 0 ≤ nextT t ∧ nextT t ≤ 1000001 := by
 unfold nextT
 split
 ·omega
 ·rename_i h0
  have hlt : (bndL t).length - 1 < (bndL t).length := by have := List.length_pos_iff.2 h0; omega
  have e : (bndL t).getD ((bndL t).length - 1) 0 = (bndL t)[(bndL t).length - 1] := by simp [List.getD, hlt]
  have := hvr _ ((bndL_mem _ _).1 (List.getElem_mem hlt))
  rw [e]
  omega
theorem startI_good {p : Prog} {c : Ctr} (h : RightP p 2) (hb : p.body.bulk ≤ 1048576) (hc : c.budget ≤ 500) (he : c.effort ≤ 9223372036854775807) : GoodI p.body.bulk (startI p.body c) := by
 obtain ⟨hn0, hn1⟩ := nextT_bd h.fits.2.2
 refine ⟨fun v x hx => (by simp [startI] at hx), hn0, ?_, ?_, ?_, ?_, ?_⟩
 ·show nextT p.body + mx0 c.budget * _ ≤ _
  rw [mx0_eq]
  have : max c.budget 0 * (p.body.bulk : Int) ≤ 500 * 1048576 := Int.mul_le_mul (by omega) (by omega) (by omega) (by omega)
  omega
 ·show 0 ≤ mx0 c.budget; rw [mx0_eq]; omega
 ·show mx0 c.budget ≤ 1000; rw [mx0_eq]; omega
 ·show 0 ≤ mx0 c.effort; rw [mx0_eq]; omega
 ·show mx0 c.effort ≤ _; rw [mx0_eq]; omega
theorem inl_bd {p : Prog} {c : Ctr} (h : RightP p 2) (hb : p.body.bulk ≤ 1048576) (hc : c.budget ≤ 500) (he : c.effort ≤ 9223372036854775807) :
  BndI p.body.bulk (startI p.body c) p.body.bulk (p.body.thr (mx0 c.small) (startI p.body c)).1.bulk (p.body.thr (mx0 c.small) (startI p.body c)).2 :=
 p.body.thr_bd (mx0 c.small) p.body.bulk (p.body.okT_shI (by decide) h.2.2.1) (Nat.le_refl _) _ (startI_good h hb hc he)
theorem inlP_bulk {p : Prog} {c : Ctr} (h : RightP p 2) (hb : p.body.bulk ≤ 1048576) (hc : c.budget ≤ 500) (he : c.effort ≤ 9223372036854775807) : (inlP p c).body.bulk ≤ 1000000000 := by
 obtain ⟨a1, a2, a3, a4, a5⟩ := inl_bd h hb hc he
 have : (startI p.body c).budget * (p.body.bulk : Int) ≤ 500 * 1048576 := Int.mul_le_mul (by show mx0 c.budget ≤ _; rw [mx0_eq]; omega) (by omega) (by omega) (by omega)
 have : 0 ≤ (p.body.thr (mx0 c.small) (startI p.body c)).2.budget * (p.body.bulk : Int) := Int.mul_nonneg a1.b0 (by omega)
 show (p.body.thr (mx0 c.small) (startI p.body c)).1.bulk ≤ _
 omega
theorem conv12_c (p : Prog) (c : Ctr) (hb : p.body.bulk ≤ 1048576) (hl : p.consts.length ≤ 1000000000) (hc2 : c.budget ≤ 500) (he : c.effort ≤ 9223372036854775807) :
  ACallP Tryz.prog 9 [.agg p.cells, .agg c.cells] (.tup [.agg (conv12 p c).1.cells, .agg (conv12 p c).2.1.cells, .int .i64 (conv12 p c).2.2]) := by
 have hen := check_eq p 2
 have hR : checkP p 2 = 0 → RightP p 2 := fun h => (checkD_right p 2).1 (by rw [← hen]; exact h)
 refine ACall.of_body tt_ok Tryz.func9 rfl rfl (n := 62) rfl rfl ?_
 conv => whnf
 repeat (first|refine aR2 ?_|((first|refine pC (checkp_c p 2 (by omega) (by omega)) wR ?_|intro _);conv=>whnf))
 rename_i b2 b3 b4 b5
 refine zX (fun hc => ?_) (fun hc => ?_) <;> (try simp only [SY] at hc)
 ·conv => whnf
  repeat (refine aR2 ?_)
  have hcn : conv12 p c = (noP, ⟨0, 0, 0⟩, 5) := by rw [conv12, if_neg hc]
  rw [hcn]
  exact PRet.pure (Wk.tup (.cons noP_wk (.cons (Wk.refl _) (.cons (Wk.refl _) .nil))))
 have hr := hR hc
 obtain ⟨hshp, hdep, hvr⟩ := hr.fits
 have hrise := p.body.binds_rise (by omega)
 have hbl := bndL_len' p.body (by omega)
 obtain ⟨hn0, hn1⟩ := nextT_bd hvr
 have hbc := binds_c p.body (by omega)
 rw [hrise] at hbc
 have hcl := cloneDat_c p.consts hl
 have hg := startI_good hr hb hc2 he
 have hib := inlP_bulk (c := c) hr hb hc2 he
 have hcn : conv12 p c = if checkP (inlP p c) 2 = 0 then (inlP p c, inlC p c, 0) else (noP, ⟨0, 0, 0⟩, 5) := by rw [conv12, if_pos hc]
 conv => whnf
 repeat (first|refine aR2 ?_|((intro _);conv=>whnf))
 rename_i r b6
 rw [mapM_nil Trm.pa]
 refine PSeq.join (fun _ : Unit => []) (fun _ => .box b2 [.sl 5 (p.consts.map Datum.pv) none, .int .i64 p.body.op, .int .i64 p.body.n, .sl 1 (p.body.v.map (PV.int .i64)) none, .sl 4 (p.body.t.map Trm.pv) none] :: .box b4 [.nil, .int .i64 0, .int .i64 0, .nil, .nil] :: .box b5 [.int .i64 0, .int .i64 0, .int .i64 0] :: .box b6 [.int .i64 (mx0 c.small), .int .i64 (mx0 c.budget), .int .i64 (mx0 c.effort), .int .i64 (nextT p.body), .mp r] :: .mp r (.int .i64) (mapM Trm.pa (fun _ => none)) [] :: []) (fun _ => True) ?_ ?_
 ·conv => whnf
  repeat' (first|refine aA2 ?_|((first|refine pC (hbc) wR ?_|intro _);conv=>whnf)|(refine zX (fun hc=>?_) (fun hc=>?_)<;>(try simp only [SY] at hc)<;>(conv=>whnf)))
  ·have hlt : (bndL p.body).length - 1 < (bndL p.body).length := by omega
   have e : (bndL p.body).getD ((bndL p.body).length - 1) 0 = (bndL p.body)[(bndL p.body).length - 1] := by simp [List.getD, hlt]
   have hn : nextT p.body = (bndL p.body)[(bndL p.body).length - 1] + 1 := by
    unfold nextT
    rw [if_neg (by intro h; rw [h] at hlt; simp at hlt), e]
   refine PInt.ok (by omega) (by omega) ?_
   rw [← hn]
   conv => whnf
   repeat' (first|refine aA2 ?_|(refine zX (fun hc=>?_) (fun hc=>?_)<;>(try simp only [SY] at hc)<;>omega))
   exact joinEnd () trivial wA
  ·have hn : nextT p.body = 0 := by
    unfold nextT
    rw [if_pos (List.eq_nil_of_length_eq_zero (by omega))]
   rw [hn]
   exact joinEnd () trivial wA
 rintro ⟨⟩ -
 conv => whnf
 refine PDraw.sF (some 44) rfl [.box b6 [.int .i64 (mx0 c.small), .int .i64 (mx0 c.budget), .int .i64 (mx0 c.effort), .int .i64 (nextT p.body), .mp r], .mp r (.int .i64) (mapM Trm.pa (fun _ => none)) []] [6,7] [] [8] [9] tt_ok mixed ?_
 conv=>whnf
 repeat (first|refine aR2 ?_|((((apply zZ);(conv=>whnf);(repeat ((refine pC (hcl) wR ?_);conv=>whnf));exact pZ));conv=>whnf))
 refine PCall.go (thOk p.body.bulk b6 r (mx0 c.small) (by omega) p.body (p.body.okT_shI (by decide) hr.2.2.1) (Nat.le_refl _) (startI p.body c) hg) (WkT.refl _) ?_
 rintro _ _ ⟨rfl, rfl⟩
 have hck := checkp_c (inlP p c) 2 hib hl
 conv => whnf
 repeat' (first|refine aA2 ?_|((first|refine pC (hck) wR ?_|intro _);conv=>whnf)|(refine zX (fun hc=>?_) (fun hc=>?_)<;>(try simp only [SY] at hc)<;>(conv=>whnf)))
 ·rw [hcn, if_neg hc]
  exact PRet.pure (Wk.tup (.cons noP_wk (.cons (Wk.refl _) (.cons (Wk.refl _) .nil))))
 ·rw [hcn, if_pos hc]
  refine PDraw.sE [.box b4 [.nil, .int .i64 0, .int .i64 0, .nil, .nil], .box b5 [.int .i64 0, .int .i64 0, .int .i64 0]] [5] [6,7] tt_ok mixed ?_
  conv=>whnf
  repeat (refine aR2 ?_)
  exact PRet.pure (y := .tup [.agg (inlP p c).cells, .agg (inlC p c).cells, .int .i64 0]) (Wk.refl _)
end Go.Cb
namespace Go.Cb
open Go.Proofs
set_option maxRecDepth 100000
set_option maxHeartbeats 4000000
end Go.Cb
namespace Go.Cb
open Go.Proofs
set_option maxRecDepth 100000
set_option maxHeartbeats 4000000
end Go.Cb
namespace Go.Cb
open Go.Proofs
set_option maxRecDepth 100000
set_option maxHeartbeats 4000000
theorem conv12_ok {p : Prog} {c : Ctr} (h : (conv12 p c).2.2 = 0) : RightP p 2 ∧ RightP (inlP p c) 2 ∧ conv12 p c = (inlP p c, inlC p c, 0) := by
 unfold conv12 at h ⊢
 split at h
 ·rename_i h1
  split at h
  ·rename_i h2
   rw [if_pos h1, if_pos h2]
   exact ⟨(checkD_right p 2).1 (by rw [← check_eq]; exact h1), (checkD_right (inlP p c) 2).1 (by rw [← check_eq]; exact h2), rfl⟩
  ·cases h
 ·cases h
end Go.Cb
namespace Go.Cb
open Go.Proofs
set_option maxRecDepth 100000
set_option maxHeartbeats 4000000
def tweP : Prog := ⟨[.mk 0 1 1 [] []], .mk 8 0 [0] [.mk 4 0 [1] [.mk 1 1 [] []], .mk 5 0 [] [.mk 1 0 [] [], .mk 0 0 [] []]]⟩
def tweQ : Prog := ⟨[.mk 0 1 1 [] []], .mk 8 0 [0] [.mk 4 0 [1] [.mk 1 1 [] []], .mk 8 0 [2] [.mk 0 0 [] [], .mk 1 2 [] []]]⟩
theorem twe_next : nextT tweP.body = 2 := by
 unfold nextT
 rw [← Trm.bD_rise _ (by decide)]
 rfl
theorem twe_inl : inlP tweP ⟨5, 5, 9⟩ = tweQ ∧ inlC tweP ⟨5, 5, 9⟩ = ⟨5, 4, 4⟩ := by
 unfold inlP inlC startI
 rw [twe_next]
 exact ⟨rfl, rfl⟩
theorem twe_conv : conv12 tweP ⟨5, 5, 9⟩ = (tweQ, ⟨5, 4, 4⟩, 0) := by
 rw [conv12, if_pos (by decide), twe_inl.1, if_pos (by decide), twe_inl.2]
theorem convX_c {c v t : PV} {cs : List Datum} {vs : List Int} {ts : List Trm} [h1 : SlOf Datum.pv 5 c cs] [h2 : SlOf (PV.int .i64) 1 v vs] [h3 : SlOf Trm.pv 4 t ts] (op n : Int) (k : Ctr) (hb : (Trm.mk op n vs ts).bulk ≤ 1048576) (hl : cs.length ≤ 1000000000) (hk : k.budget ≤ 500) (he : k.effort ≤ 9223372036854775807) :
  ACallP Tryz.prog 9 [.agg [c, .int .i64 op, .int .i64 n, v, t], .agg [.int .i64 k.small, .int .i64 k.budget, .int .i64 k.effort]] (.tup [.agg (conv12 ⟨cs, .mk op n vs ts⟩ k).1.cells, .agg (conv12 ⟨cs, .mk op n vs ts⟩ k).2.1.cells, .int .i64 (conv12 ⟨cs, .mk op n vs ts⟩ k).2.2]) :=
 ACall.wk (conv12_c ⟨cs, .mk op n vs ts⟩ k hb hl hk he) (.cons (Wk.agg (.cons h1.wk (.cons (Wk.refl _) (.cons (Wk.refl _) (.cons h2.wk (.cons h3.wk .nil)))))) (.cons (Wk.refl _) .nil))
theorem twe_c {c v t : PV} [h1 : SlOf Datum.pv 5 c [.mk 0 1 1 [] []]] [h2 : SlOf (PV.int .i64) 1 v [0]] [h3 : SlOf Trm.pv 4 t [.mk 4 0 [1] [.mk 1 1 [] []], .mk 5 0 [] [.mk 1 0 [] [], .mk 0 0 [] []]]] :
  ACallP Tryz.prog 9 [.agg [c, .int .i64 8, .int .i64 0, v, t], .agg [.int .i64 5, .int .i64 5, .int .i64 9]] (.tup [.agg tweQ.cells, .agg [.int .i64 5, .int .i64 4, .int .i64 4], .int .i64 0]) := by
 have h := convX_c (c := c) (v := v) (t := t) 8 0 ⟨5, 5, 9⟩ (by decide) (by decide) (by decide) (by decide)
 have e := twe_conv
 unfold tweP at e
 rw [e] at h
 exact h
theorem awake12_c : ACallP Tryz.prog 6 [] (.bool true) := by
 refine ACall.of_body tt_ok Tryz.func6 rfl rfl (n := 62) rfl rfl ?_
 conv => whnf
 repeat' (first|refine aA1 ?_|((first|refine pC (twe_c) wR ?_|intro _);conv=>whnf)|(refine zX (fun hc=>?_) (fun hc=>?_)<;>(try simp only [SY] at hc)<;>omega))
 exact PRet.pure (Wk.bool rfl)
theorem few12_c (p : Prog) (n : Int) (h0 : 0 ≤ n) (h1 : n ≤ 1000000000) : ACallP Tryz.prog 7 [.agg p.cells, .int .i64 n] (.bool (decide (0 ≤ p.body.few n) && decide (0 ≤ Datum.fews p.consts 2000))) := by
 refine ACall.of_body tt_ok Tryz.func7 rfl rfl (n := 14) rfl rfl ?_
 conv => whnf
 repeat' (first|refine aA1 ?_|((first|(((apply zY;intro hg));(conv=>whnf);(repeat ((first|refine pC (FewAll_c p.consts 2000 (by omega) (by omega)) wR ?_|refine aG ?_);conv=>whnf));exact pZ)|refine pC (FewTrm_c p.body n h0 h1) wR ?_|intro _);conv=>whnf)|(refine zX (fun hc=>?_) (fun hc=>?_)<;>(try simp only [SY] at hc)<;>omega))
 exact PRet.pure (Wk.refl _)
theorem low_c (c : Ctr) : ACallP Tryz.prog 8 [.agg c.cells] (.bool (decide (c.budget ≤ 500) && (decide (c.small ≤ 500) || decide (c.budget ≤ 500)))) := by
 refine ACall.of_body tt_ok Tryz.func8 rfl rfl (n := 16) rfl rfl ?_
 conv => whnf
 repeat' (first|refine aA1 ?_|((intro _);conv=>whnf)|(refine zX (fun hc=>?_) (fun hc=>?_)<;>(try simp only [SY] at hc)<;>omega))
 exact PRet.pure (Wk.refl _)
theorem counters_c (c : Ctr) : ACallP Tryz.prog 10 [.agg c.cells] (.agg c.cells) := by
 refine ACall.of_body tt_ok Tryz.func10 rfl rfl (n := 10) rfl rfl ?_
 conv => whnf
 repeat' (first|refine aA1 ?_|((intro _);conv=>whnf)|(refine zX (fun hc=>?_) (fun hc=>?_)<;>(try simp only [SY] at hc)<;>omega))
 exact PRet.pure (Wk.refl _)
end Go.Cb
namespace Go.Cb
open Go.Proofs
set_option maxRecDepth 100000
set_option maxHeartbeats 4000000
theorem Trm.vars_len (t : Trm) : t.vars.length ≤ t.bulk := by
 induction t using Trm.ind with
 | h t ih =>
  have key : ∀ l : List Trm, (∀ x ∈ l, x.vars.length ≤ x.bulk) → (Trm.varss l).length ≤ Trm.bulks l := by
   intro l
   induction l with
   | nil => intro _; rw [Trm.varss]; exact Nat.zero_le _
   | cons x l ihl =>
    intro h
    rw [Trm.varss, Trm.bulks, List.length_append]
    have := h x (List.mem_cons_self ..)
    have := ihl fun y hy => h y (List.mem_cons_of_mem _ hy)
    omega
  have := key t.t ih
  rw [Trm.vars_eq, Trm.bulk_eq, List.length_append]
  omega
theorem nextT_lt (t : Trm) : ∀ v ∈ t.vars, v < nextT t := fun v hv => by
 have hs : (bndL t).Pairwise (· < ·) := rise_lt _
 have hm : v ∈ bndL t := (mem_rise _ _).2 hv
 unfold nextT
 by_cases h0 : bndL t = []
 ·rw [h0] at hm; cases hm
 ·rw [if_neg h0]
  obtain ⟨i, hi, rfl⟩ := List.mem_iff_getElem.1 hm
  have hlt : (bndL t).length - 1 < (bndL t).length := by omega
  rw [getD_at hlt]
  by_cases hie : i = (bndL t).length - 1
  ·subst hie; omega
  ·have := List.pairwise_iff_getElem.1 hs i ((bndL t).length - 1) hi hlt (by omega)
   omega
theorem bitsN (a : Int) : 0 ≤ bitsOf .and .i64 a 1023 ∧ bitsOf .and .i64 a 1023 ≤ 1023 := by
 have e : ∀ v : Nat, v ≤ 1023 → IntKind.wrap .i64 (v : Int) = v := fun v hv => by
  simp [IntKind.wrap, IntKind.bits, IntKind.signed]; omega
 have h : (BitVec.ofInt IntKind.i64.bits a &&& BitVec.ofInt IntKind.i64.bits 1023).toNat ≤ 1023 := by
  rw [BitVec.toNat_and]
  exact Nat.le_trans Nat.and_le_right (by decide)
 unfold bitsOf
 simp only
 rw [e _ h]
 omega
theorem nd_len : ∀ (n : Nat) (l : List Int), l.Nodup → (∀ x ∈ l, 0 ≤ x ∧ x < n) → l.length ≤ n
 | 0, l, _, h => by
  cases l with
  | nil => exact Nat.zero_le _
  | cons x l => have := h x (List.mem_cons_self ..); omega
 | n + 1, l, hd, h => by
  by_cases hm : (n : Int) ∈ l
  ·have h1 := nd_len n (l.erase n) (hd.erase _) fun x hx => by
    have h2 := h x (List.mem_of_mem_erase hx)
    have h3 : x ≠ n := fun e => (List.Nodup.mem_erase_iff hd).1 hx |>.1 e
    omega
   rw [List.length_erase_of_mem hm] at h1
   omega
  ·have h1 := nd_len n l hd fun x hx => by
    have h2 := h x hx
    have h3 : x ≠ n := fun e => hm (e ▸ hx)
    omega
   omega
theorem RightP.vars_len {p : Prog} {lv : Int} (h : RightP p lv) : p.body.vars.length ≤ 1000001 :=
 nd_len 1000001 _ h.2.2.2.2.2 fun x hx => by have := h.2.2.2.2.1 x hx; omega
end Go.Cb
namespace Go.Cb
open Go.Proofs
set_option maxRecDepth 100000
set_option maxHeartbeats 4000000
theorem conv12_err (p : Prog) (c : Ctr) (h : ¬(conv12 p c).2.2 = 0) : (conv12 p c).2.2 = 5 := by
 unfold conv12 at h ⊢
 split
 ·split
  ·rename_i h1 h2
   rw [if_pos h1, if_pos h2] at h
   exact absurd rfl h
  ·rfl
 ·rfl
theorem drInm12aa {p q : Prop} (k : q) (h : q → p := by intro hq; first | exact PDraw.sG (some 22) rfl [] [8,9] [10,11] [12] tt_ok mixed hq) : p := h k
theorem inlineMeans_c (p : Prog) (c : Ctr) (z : Int) (hbb : Datum.bulks p.consts + p.body.bulk ≤ 1048576) (he : c.effort ≤ 9223372036854775807) : ACallP Tryz.prog 3 [.agg p.cells, .agg c.cells, .int .i64 z] (.bool true) := by
 have hlen := Datum.bulks_length p.consts
 refine ACall.of_body tt_ok Tryz.func3 rfl rfl (n := 49) rfl rfl ?_
 conv => whnf
 repeat' (first|refine aA1 ?_|((first|((first|(apply zY;intro hg)|apply zZ);(conv=>whnf);(repeat ((first|refine pC (low_c c) wR ?_|refine pC (counters_c c) wR ?_|refine aG ?_);conv=>whnf));exact pZ)|refine pC (awake12_c) wR ?_|refine pC (few12_c p 250 (by omega) (by omega)) wR ?_|refine drInm12aa ?_|intro _);conv=>whnf)|(refine zX (fun hc=>?_) (fun hc=>?_)<;>(try simp only [SY] at hc)<;>(conv=>whnf)))
 ·exact PRet.pure (Wk.refl _)
 have hcc := hc
 have hc5 := hc.2.1
 have hcv := conv12_c p c (by omega) (by omega) hc5 he
 conv => whnf
 repeat' (first|refine aA1 ?_|((first|((first|(apply zY;intro hg)|apply zZ);(conv=>whnf);(repeat ((first|refine pC (hcv) wR ?_|refine aG ?_);conv=>whnf));exact pZ)|intro _);conv=>whnf)|(refine zX (fun hc=>?_) (fun hc=>?_)<;>(try simp only [SY] at hc)<;>(conv=>whnf)))
 ·exact PRet.pure (Wk.bool (by rw [conv12_err p c hc]; rfl))
 ·obtain ⟨hR1, hR2, hcq⟩ := conv12_ok hc
  have hsz := Datum.fews_szN p.consts 2000 hcc.1.2
  have hvl := hR1.vars_len
  have hvl2 := hR2.vars_len
  have hib := inlP_bulk hR1 (by omega) hc5 he
  have hb := bitsN z
  have hF1 : Fit p 2 := ⟨hR1, by omega, by omega, by omega⟩
  have hF2 : Fit (inlP p c) 2 := ⟨hR2, by show Datum.bulks p.consts ≤ _; omega, by show Datum.szs p.consts ≤ _; omega, by omega⟩
  have hck := check2_c (conv12 p c).1 2 (by rw [hcq]; exact hib) (by rw [hcq]; show p.consts.length ≤ _; omega)
  rw [show checkD (conv12 p c).1 2 = 0 by rw [hcq]; exact (checkD_right _ _).2 hR2] at hck
  have hmn : ACallP Tryz.prog 12 [.agg p.cells, .agg (conv12 p c).1.cells, .int .i64 (bitsOf .and .i64 z 1023)] (.bool true) := by
   rw [hcq]
   exact (means_c p (inlP p c) 2 2 hF1 hF2 _ hb (fun x c s' x' c' t' h1 h2 n1 n2 => inline_sim p hR1 _ _ (fun v hv => ⟨nextT_lt p.body v hv, rfl⟩) h1 h2 n1 n2)).mono fun y Γ' h => h.1
  conv => whnf
  repeat' (first|refine aA1 ?_|(((((apply zY;intro hg));(conv=>whnf);(repeat ((first|refine pC (hck) wR ?_|refine pC (hmn) wR ?_|refine aG ?_);conv=>whnf));exact pZ));conv=>whnf)|(refine zX (fun hc=>?_) (fun hc=>?_)<;>(try simp only [SY] at hc)<;>omega))
  all_goals exact PRet.pure (Wk.bool rfl)
end Go.Cb
namespace Go.Cb
open Go.RowKit (Below)
open Go.ChangeShapes
def Fz.of (w : World) : Fz := fun b o => w.cell? ⟨b, o, none⟩
theorem Sim.start (w : World) : Sim w (Fz.of w) [] w := ⟨Below.refl _ w, fun _ _ _ h => h, by simp, .nil⟩
theorem choose_list {α : Type} {p : Nat → α → Prop} : ∀ {n : Nat}, (∀ i, i < n → ∃ a, p i a) → ∃ l : List α, l.length = n ∧ ∀ i a, l[i]? = some a → p i a
 | 0, _ => ⟨[], rfl, by simp⟩
 | n + 1, h => by
  obtain ⟨l, h1, h2⟩ := choose_list (n := n) fun i hi => h i (by omega)
  obtain ⟨a, ha⟩ := h n (by omega)
  refine ⟨l ++ [a], by simp [h1], fun i b hb => ?_⟩
  by_cases hi : i < l.length
  ·rw [List.getElem?_append_left hi] at hb; exact h2 i b hb
  ·rw [List.getElem?_append_right (by omega)] at hb
   have h0 : i - l.length = 0 := by
    rcases Nat.eq_zero_or_pos (i - l.length) with h | h
    ·exact h
    ·rw [List.getElem?_eq_none (by simp; omega)] at hb; cases hb
   rw [h0] at hb
   simp at hb
   obtain rfl : i = n := by omega
   rwa [← hb]
section
variable {H : Type} {enc : TypeId × Value → H} {P : Program} {w : World} {UB : DataW H → Nat} {UBs : List (DataW H) → Nat}
structure Bulk (UB : DataW H → Nat) (UBs : List (DataW H) → Nat) : Prop where
 nil : UBs [] = 0
 cons : ∀ x l, UBs (x :: l) = UB x + UBs l
 agg : ∀ l, 1 + UBs l ≤ UB (.agg l)
 slice : ∀ l m, 1 + UBs l ≤ UB (.slice l m)
 str : ∀ s, s.length + 1 ≤ UB (.lit (.string s))
 pos : ∀ d, 1 ≤ UB d
def Rd {α : Type} (enc : TypeId × Value → H) (P : Program) (w : World) (UB : DataW H → Nat) (n : Nat) (t : TypeId) (cells : α → List PV) (bk : α → Nat) : Prop :=
 ∀ cs x, DataW.trod enc P w 0 (fun _ => true) true n t cs = some x → ∃ a : α, RepL (Fz.of w) (cells a) cs ∧ bk a ≤ UB x.1
theorem rd_int (hB : Bulk UB UBs) {t : TypeId} {k : IntKind} (ht : P.underlying t = some (.int k)) (n : Nat) : Rd enc P w UB n t (fun n : Int => [.int k n]) fun _ => 1 := by
 intro cs x h
 obtain ⟨m, rfl, rfl, _⟩ := DataW.trod_int ht h
 exact ⟨m, by simp only [RepL, Rep, and_true]; exact rfl, hB.pos _⟩
theorem rd_str (hB : Bulk UB UBs) {t : TypeId} (ht : P.underlying t = some .string) (n : Nat) : Rd enc P w UB n t (fun s : List UInt8 => [.str s]) fun s => s.length := by
 intro cs x h
 obtain ⟨s, rfl, rfl, hs⟩ := DataW.trod_string ht h
 refine ⟨s.data.toList, ?_, by have := hB.str s.data.toList; show s.data.toList.length ≤ UB (.lit (.string s.data.toList)); omega⟩
 have : s.data.toList.length ≤ 9223372036854775807 := by
  have h1 : s.data.toList.length = s.size := Array.length_toList
  have h2 : maxLen ≤ 9223372036854775807 := by simp only [maxLen]; omega
  omega
 exact RepL_cons.2 ⟨⟨rfl, by unfold Rep; exact ⟨rfl, this⟩⟩, RepL_nil _⟩
theorem rep_row {α : Type} {pv : α → PV} {cells : α → List PV} [c : CellsOf pv cells] {s b o : Nat} (hs : ∀ a, (cells a).length = s) : ∀ (l : List α) (i : Nat),
  (∀ j a, l[j]? = some a → ∃ cs, w.cells? 0 ((⟨b, o, none⟩ : Addr).add ((i + j) * s)) s = some cs ∧ RepL (Fz.of w) (cells a) cs) → RepRow (Fz.of w) s b (o + i * s) (l.map pv)
 | [], _, _ => by simp [RepRow]
 | a :: l, i, h => by
  rw [List.map_cons, RepRow_cons]
  obtain ⟨cs, h1, h2⟩ := h 0 a rfl
  obtain ⟨_, h3, h4⟩ := World.cells?_some h1
  refine ⟨⟨by rw [c.eq]; exact hs a, ?_⟩, ?_⟩
  ·rw [c.eq, RepCells_iff]
   refine ⟨cs, h2, fun j u hu => ?_⟩
   have hj : j < cs.length := by
    rcases Nat.lt_or_ge j cs.length with h | h
    ·exact h
    ·rw [List.getElem?_eq_none h] at hu; cases hu
   have := h4 j (by omega)
   rw [hu, Addr.add_lit, Addr.add_lit] at this
   simpa [Fz.of] using this
  ·have := rep_row (pv := pv) hs l (i + 1) fun j a ha => by
    have := h (j + 1) a (by simpa using ha)
    rwa [show i + (j + 1) = i + 1 + j by omega] at this
   rwa [show o + (i + 1) * s = o + i * s + s by rw [Nat.succ_mul]; omega] at this
def sumBk {α : Type} (bk : α → Nat) : List α → Nat
 | [] => 0
 | a :: l => bk a + sumBk bk l
theorem sumBk_le (hB : Bulk UB UBs) {α : Type} {bk : α → Nat} : ∀ (l : List α) (ds : List (DataW H)), l.length ≤ ds.length → (∀ (i : Nat) (a : α) (d : DataW H), l[i]? = some a → ds[i]? = some d → bk a ≤ UB d) → sumBk bk l ≤ UBs ds
 | [], _, _, _ => by simp [sumBk]
 | a :: l, [], h, _ => by simp at h
 | a :: l, d :: ds, h, k => by
  rw [sumBk, hB.cons]
  have h1 := k 0 a d rfl rfl
  have h2 := sumBk_le hB l ds (by simpa using h) fun i a d ha hd => k (i + 1) a d (by simpa using ha) (by simpa using hd)
  omega
theorem rd_slice (hB : Bulk UB UBs) {n : Nat} {t e : TypeId} (ht : P.underlying t = some (.slice e)) {s : Nat} (hs : P.cellsOf e = s) (hp : 0 < s) {α : Type} {pv : α → PV} {cells : α → List PV} [c : CellsOf pv cells] {bk : α → Nat}
  (hc : ∀ a, (cells a).length = s) (he : ∀ m, m < n → Rd enc P w UB m e cells bk) : Rd enc P w UB n t (fun l : List α => [.sl s (l.map pv) none]) fun l => 1 + sumBk bk l := by
 intro cs x h
 rcases DataW.trod_slice ht h with ⟨rfl, rfl⟩ | ⟨a, len, cap, elems, rest, m, rfl, rfl, rfl, _, hlc, hcm, hel, hx, hr, _⟩
 ·refine ⟨[], ?_, by have := hB.pos (DataW.nil : DataW H); simpa [sumBk] using this⟩
  exact RepL_cons.2 ⟨⟨rfl, by unfold Rep; exact ⟨by simp, .inl ⟨rfl, rfl⟩⟩⟩, RepL_nil _⟩
 ·have hx' : ∀ i, i < len → ∃ a' : α, ∃ cs d, elems[i]? = some d ∧ w.cells? 0 (a.add (i * s)) s = some cs ∧ RepL (Fz.of w) (cells a') cs ∧ bk a' ≤ UB d.1 := by
   intro i hi
   have h1 := hx i hi
   have h2 : elems[i]? = some elems[i] := List.getElem?_eq_getElem (by omega)
   rw [h2, hs] at h1
   obtain ⟨cs, h3, h4⟩ := Option.bind_eq_some_iff.1 h1
   obtain ⟨a', h5, h6⟩ := he m (by omega) cs _ h4
   exact ⟨a', cs, _, h2, h3, h5, h6⟩
  obtain ⟨l, hl, hl2⟩ := choose_list hx'
  have hcount : 1 + sumBk bk l ≤ UB (.slice (elems.map (·.1)) (rest.map (·.1))) := by
   have := sumBk_le hB (bk := bk) l (elems.map (·.1)) (by simp; omega) (by
    intro i a' d ha hd
    obtain ⟨_, d', h2, _, _, h5⟩ := hl2 i a' ha
    rw [List.getElem?_map, h2] at hd
    simp at hd
    rw [← hd]; exact h5)
   have := hB.slice (elems.map (·.1)) (rest.map (·.1))
   omega
  refine ⟨l, ?_, hcount⟩
  refine RepL_cons.2 ⟨⟨rfl, ?_⟩, RepL_nil _⟩
  unfold Rep
  refine ⟨fun t ht => (by cases ht), ?_⟩
  by_cases h0 : cap = 0
  ·subst h0
   obtain rfl : len = 0 := by omega
   have : l = [] := List.eq_nil_of_length_eq_zero hl
   subst this
   exact .inr (.inr ⟨rfl, a, rfl⟩)
  ·
   have hsp : a.spot = none := by
    have h1 : ∃ cs, w.cells? 0 a s = some cs := by
     by_cases h2 : 0 < len
     ·obtain ⟨_, cs, _, _, h3, _⟩ := hx' 0 h2
      exact ⟨cs, by simpa [Addr.add] using h3⟩
     ·obtain ⟨h3, h4⟩ := hr rfl
      have h5 := h4 0 (by omega)
      have h6 : rest[0]? = some (rest[0]'(by omega)) := List.getElem?_eq_getElem (by omega)
      rw [h6, hs] at h5
      obtain ⟨cs, h7, _⟩ := Option.bind_eq_some_iff.1 h5
      have : len = 0 := by omega
      subst this
      exact ⟨cs, by simpa [Addr.add] using h7⟩
    obtain ⟨cs, h1⟩ := h1
    obtain ⟨_, h3, h4⟩ := World.cells?_some h1
    have h5 := h4 0 hp
    have h6 : cs[0]? = some (cs[0]'(by omega)) := List.getElem?_eq_getElem (by omega)
    rw [h6] at h5
    simp only [Addr.add, if_true, World.cell?] at h5
    split at h5
    ·split at h5
     ·cases h5
     ·rename_i hn; simpa using hn
    ·cases h5
   obtain ⟨b, o, sp⟩ := a
   simp only at hsp
   subst hsp
   refine .inr (.inl ⟨b, o, cap, by simp [hl], by simp; omega, hcm, by simp, ?_⟩)
   have := rep_row (pv := pv) (w := w) (b := b) (o := o) hc l 0 fun j a' ha => by
    obtain ⟨cs, _, _, h3, h4, _⟩ := hl2 j a' ha
    exact ⟨cs, by simpa using h3, h4⟩
   simpa using this
end
section
variable {H : Type} {enc : TypeId × Value → H} {P : Program} {w : World} {UB : DataW H → Nat} {UBs : List (DataW H) → Nat}
theorem repL_cat {F : Fz} {ps bs : List PV} {cs : List Value} {o s : Nat} (h1 : RepL F ps ((cs.drop o).take s)) (h2 : RepL F bs (cs.drop (o + s))) : RepL F (ps ++ bs) (cs.drop o) := by
 have := RepL_append h1 h2
 rwa [← List.drop_drop, List.take_append_drop] at this
theorem rd_field {α : Type} {n o s : Nat} {t : TypeId} {cells : α → List PV} {bk : α → Nat} (hR : Rd enc P w UB n t cells bk) {fs : Array Field} {cs : List Value} {xs : List (DataW H × List MemPlace)} (hlen : xs.length = fs.size)
  (hf : ∀ (i : Nat) (f : Field), fs[i]? = some f → DataW.trod enc P w 0 (fun _ => true) true n f.type ((cs.drop f.offset).take (P.cellsOf f.type)) = xs[i]?) (i : Nat) (h : (fs.toList.map fun f => (f.type, f.offset))[i]? = some (t, o)) (hs : P.cellsOf t = s) :
  ∃ a y, xs[i]? = some y ∧ RepL (Fz.of w) (cells a) ((cs.drop o).take s) ∧ bk a ≤ UB y.1 := by
 rw [List.getElem?_map] at h
 obtain ⟨f, hfi, hft⟩ := Option.map_eq_some_iff.1 h
 rw [Array.getElem?_toList] at hfi
 simp only [Prod.mk.injEq] at hft
 obtain ⟨rfl, rfl⟩ := hft
 have h1 := hf i f hfi
 have hi : i < xs.length := by rw [hlen]; exact (Array.getElem?_eq_some_iff.1 hfi).1
 have h2 : xs[i]? = some xs[i] := List.getElem?_eq_getElem hi
 rw [h2] at h1
 obtain ⟨a, h3, h4⟩ := hR _ _ h1
 exact ⟨a, _, h2, by rw [← hs]; exact h3, h4⟩
theorem arg_struct {α : Type} {t : TypeId} {cells : α → List PV} {bk : α → Nat} {fs : Array Field} (hs : P.underlying t = some (.struct fs)) (hR : ∀ n, Rd enc P w UB n t cells bk) {r : Reach} {b0 : Nat} {v : Value} {d : DataW H} {p : List MemPlace}
  (hv : Value.okWide P w r b0 t v) (h : DataW.Trod enc P w 0 (fun _ => true) true t v d p) : ∃ a, Rep (Fz.of w) (.agg (cells a)) v ∧ bk a ≤ UB d := by
 obtain ⟨cs, rfl, _⟩ := Go.WideShapes.okWide_struct hs hv
 obtain ⟨fuel, hf⟩ := h
 obtain ⟨a, h1, h2⟩ := hR fuel _ _ hf
 refine ⟨a, ?_, h2⟩
 simp only [Rep]
 exact ⟨cs.toList, by simp, by simpa [Value.cells] using h1⟩
theorem arg_int {t : TypeId} {k : IntKind} (ht : P.underlying t = some (.int k)) {r : Reach} {b0 : Nat} {v : Value} {d : DataW H} {p : List MemPlace} (hv : Value.okWide P w r b0 t v) (h : DataW.Trod enc P w 0 (fun _ => true) true t v d p) :
  ∃ n : Int, Rep (Fz.of w) (.int k n) v ∧ (Lit.int k n).wf = true := by
 obtain ⟨n, rfl, _, _, h4⟩ := open_int ht hv h
 exact ⟨n, by simp only [Rep], h4⟩
theorem trodAll_below (hl : laidOutB P = true) {W W' : World} (hb : Below W.heap.size W W') : ∀ {ts : List TypeId} {vs : List Value} {ds : List (DataW H)} {ps : List MemPlace}, (∀ t ∈ ts, P.readableRec t = true ∧ t < P.types.size) →
  DataW.TrodAll enc P W 0 (fun _ => true) true ts vs ds ps → (∀ x ∈ ps, x.block < W.heap.size) → DataW.TrodAll enc P W' 0 (fun b => decide (b < W.heap.size)) true ts vs ds ps
 | [], _, _, _, _, h, _ => by
  obtain ⟨rfl, rfl, rfl⟩ := trodAll_nil h
  exact trodAll_mk0
 | t :: ts, _, _, _, hr, h, hlt => by
  obtain ⟨v, vs, d, ds, p, q, rfl, rfl, rfl, h1, h2⟩ := trodAll_cons h
  exact trodAll_cons_mk (Go.RowKit.Below.trod hl (hr t (by simp)).1 (hr t (by simp)).2 h1 hb fun x hx => hlt x (by simp [hx])) (trodAll_below hl hb (fun t ht => hr t (by simp [ht])) h2 fun x hx => hlt x (by simp [hx]))
theorem trodAll_len {spare : Nat → Bool} {base : Nat} {held : Bool} : ∀ {ts : List TypeId} {vs : List Value} {ds : List (DataW H)} {ps : List MemPlace}, DataW.TrodAll enc P w base spare held ts vs ds ps → ds.length = ts.length
 | [], _, _, _, h => by obtain ⟨rfl, rfl, rfl⟩ := trodAll_nil h; rfl
 | t :: ts, _, _, _, h => by
  obtain ⟨v, vs, d, ds, p, q, rfl, rfl, rfl, h1, h2⟩ := trodAll_cons h
  simp [trodAll_len h2]
theorem law_post {f : Func} {s : ChangeSpec} {tb : TypeId} {W W' : World} {args : Array Value} {ds gs : List (DataW H)} {before : List MemPlace} (hl : laidOutB P = true) (hr : ∀ t ∈ f.params.toList, P.readableRec t = true ∧ t < P.types.size)
  (hres : f.resultTypes = #[tb]) (hb : P.underlying tb = some .bool) (hv : s.vars = []) (hfn : ∀ ds : List (DataW H), ds.length = f.params.size → s.fn H ds = { results := [.lit (.bool true)], args := ds })
  (hW : DataW.Whole enc P f.params.toList s.vars false W args.toList ds gs before) (hbel : Below W.heap.size W W') : s.post enc P f false true false false W args (.bool true) W' := by
 have hW' := hW
 obtain ⟨p, q, hA, hV, rfl, _, _⟩ := hW
 have hV0 : DataW.TrodVars enc P W (fun _ => true) [] gs q := by rw [← hv]; exact hV
 obtain ⟨rfl, rfl⟩ := trodVars_none hV0
 have hfn' := hfn (ds ++ []) (by rw [List.append_nil, trodAll_len hA]; simp)
 refine ⟨ds, [], p ++ [], [], p, [], hW', ?_, ?_, ?_, hbel.frame _, fun h => by cases h⟩
 ·rw [hfn', hres]
  exact trodAll_mk1 (Go.RowKit.shut_bool hb _)
 ·rw [hfn', List.append_nil]
  exact trodAll_below hl hbel hr hA fun x hx => hW'.lt x (by simp [hx])
 ·rw [hfn', hv]; rfl
end
theorem sumBk_datum : ∀ l : List Datum, sumBk Datum.bulk l = Datum.bulks l
 | [] => rfl
 | x :: l => by rw [sumBk, Datum.bulks, sumBk_datum l]
theorem sumBk_trm : ∀ l : List Trm, sumBk Trm.bulk l = Trm.bulks l
 | [] => rfl
 | x :: l => by rw [sumBk, Trm.bulks, sumBk_trm l]
theorem sumBk_one {α : Type} : ∀ l : List α, sumBk (fun _ => 1) l = l.length
 | [] => rfl
 | x :: l => by rw [sumBk, sumBk_one l, List.length_cons]; omega
section
variable {H : Type} {enc : TypeId × Value → H} {P : Program} {w : World} {UB : DataW H → Nat} {UBs : List (DataW H) → Nat}
theorem repL_end {F : Fz} {cs : List Value} {n : Nat} (h : cs.length = n) : RepL F [] (cs.drop n) := by
 rw [List.drop_of_length_le (by omega)]; exact RepL_nil F
theorem rd_datum (hB : Bulk UB UBs) {tI tS tL tD : TypeId} (hI : P.underlying tI = some (.int .i64)) (hS : P.underlying tS = some .string) (hL : P.underlying tL = some (.slice tD)) {fs : Array Field} (hD : P.underlying tD = some (.struct fs))
  (hfs : (fs.toList.map fun f => (f.type, f.offset)) = [(tI, 0), (tI, 1), (tI, 2), (tS, 3), (tL, 4)]) (cI : P.cellsOf tI = 1) (cS : P.cellsOf tS = 1) (cL : P.cellsOf tL = 1) (cD : P.cellsOf tD = 5) : ∀ n, Rd enc P w UB n tD Datum.cells Datum.bulk := by
 intro n
 induction n using Nat.strongRecOn with
 | ind n ih =>
  intro cs x h
  obtain ⟨xs, m, rfl, rfl, hl, hlen, hf⟩ := DataW.trod_struct hD h
  obtain ⟨a0, y0, e0, r0, _⟩ := rd_field (rd_int (w := w) (enc := enc) hB hI m) hlen hf 0 (by rw [hfs]; rfl) cI
  obtain ⟨a1, y1, e1, r1, _⟩ := rd_field (rd_int (w := w) (enc := enc) hB hI m) hlen hf 1 (by rw [hfs]; rfl) cI
  obtain ⟨a2, y2, e2, r2, _⟩ := rd_field (rd_int (w := w) (enc := enc) hB hI m) hlen hf 2 (by rw [hfs]; rfl) cI
  obtain ⟨a3, y3, e3, r3, b3⟩ := rd_field (rd_str (w := w) (enc := enc) hB hS m) hlen hf 3 (by rw [hfs]; rfl) cS
  obtain ⟨a4, y4, e4, r4, b4⟩ := rd_field (rd_slice (pv := Datum.pv) hB hL cD (by omega) (fun a => rfl) (fun k hk => ih k (by omega))) hlen hf 4 (by rw [hfs]; rfl) cL
  refine ⟨.mk a0 a1 a2 a3 a4, ?_, ?_⟩
  ·exact repL_cat r0 (repL_cat r1 (repL_cat r2 (repL_cat r3 (repL_cat r4 (repL_end (hl.trans cD))))))
  ·have h5 : xs.length = 5 := by
    have := congrArg List.length hfs
    simp at this; omega
   match xs, h5 with
   | [z0, z1, z2, z3, z4], _ =>
    simp at e3 e4
    subst e3 e4
    have := hB.agg ([z0, z1, z2, z3, z4].map (·.1))
    simp only [List.map_cons, List.map_nil, hB.cons, hB.nil] at this
    rw [sumBk_datum] at b4
    rw [Datum.bulk_eq]
    show 1 + a3.length + Datum.bulks a4 ≤ _
    simp only [List.map_cons, List.map_nil]
    omega
theorem rd_ints (hB : Bulk UB UBs) {tI tV : TypeId} (hI : P.underlying tI = some (.int .i64)) (hV : P.underlying tV = some (.slice tI)) (cI : P.cellsOf tI = 1) (n : Nat) : Rd enc P w UB n tV (fun l : List Int => [.sl 1 (l.map (PV.int .i64)) none]) fun l => 1 + l.length := by
 intro cs x h
 obtain ⟨a, h1, h2⟩ := rd_slice (pv := PV.int .i64) hB hV cI (by omega) (fun a => rfl) (fun k hk => rd_int (w := w) (enc := enc) hB hI k) cs x h
 exact ⟨a, h1, by have := sumBk_one a; show 1 + a.length ≤ _; have h3 : 1 + sumBk (fun _ => 1) a ≤ UB x.1 := h2; omega⟩
theorem rd_trm (hB : Bulk UB UBs) {tI tV tL tT : TypeId} (hI : P.underlying tI = some (.int .i64)) (hV : P.underlying tV = some (.slice tI)) (hL : P.underlying tL = some (.slice tT)) {fs : Array Field} (hT : P.underlying tT = some (.struct fs))
  (hfs : (fs.toList.map fun f => (f.type, f.offset)) = [(tI, 0), (tI, 1), (tV, 2), (tL, 3)]) (cI : P.cellsOf tI = 1) (cV : P.cellsOf tV = 1) (cL : P.cellsOf tL = 1) (cT : P.cellsOf tT = 4) : ∀ n, Rd enc P w UB n tT Trm.cells Trm.bulk := by
 intro n
 induction n using Nat.strongRecOn with
 | ind n ih =>
  intro cs x h
  obtain ⟨xs, m, rfl, rfl, hl, hlen, hf⟩ := DataW.trod_struct hT h
  obtain ⟨a0, y0, e0, r0, _⟩ := rd_field (rd_int (w := w) (enc := enc) hB hI m) hlen hf 0 (by rw [hfs]; rfl) cI
  obtain ⟨a1, y1, e1, r1, _⟩ := rd_field (rd_int (w := w) (enc := enc) hB hI m) hlen hf 1 (by rw [hfs]; rfl) cI
  obtain ⟨a2, y2, e2, r2, b2⟩ := rd_field (rd_ints (w := w) (enc := enc) hB hI hV cI m) hlen hf 2 (by rw [hfs]; rfl) cV
  obtain ⟨a3, y3, e3, r3, b3⟩ := rd_field (rd_slice (pv := Trm.pv) hB hL cT (by omega) (fun a => rfl) (fun k hk => ih k (by omega))) hlen hf 3 (by rw [hfs]; rfl) cL
  refine ⟨.mk a0 a1 a2 a3, ?_, ?_⟩
  ·exact repL_cat r0 (repL_cat r1 (repL_cat r2 (repL_cat r3 (repL_end (hl.trans cT)))))
  ·have h5 : xs.length = 4 := by
    have := congrArg List.length hfs
    simp at this; omega
   match xs, h5 with
   | [z0, z1, z2, z3], _ =>
    simp at e2 e3
    subst e2 e3
    have := hB.agg ([z0, z1, z2, z3].map (·.1))
    simp only [List.map_cons, List.map_nil, hB.cons, hB.nil] at this
    rw [sumBk_trm] at b3
    rw [Trm.bulk_eq]
    show 1 + a2.length + Trm.bulks a3 ≤ _
    simp only [List.map_cons, List.map_nil]
    omega
end
end Go.Cb
namespace Go.Cb
open Go.Proofs Go.Proofs.YtkcbpdpiodgaiaaGreatDoor
open Go.RowKit (Below)
theorem uptoOne {H : Type} (d : DataW H) : 1 ≤ Rows.uptoBulk d := by
 cases d with
 | lit l => cases l <;> simp [Rows.uptoBulk]
 | nil => simp [Rows.uptoBulk]
 | ptr d => simp [Rows.uptoBulk]
 | slice elems spare => simp [Rows.uptoBulk]
 | agg parts => simp [Rows.uptoBulk]
 | iface t d => simp [Rows.uptoBulk]
 | map entries => simp [Rows.uptoBulk]
 | held h => simp [Rows.uptoBulk]
theorem bulkR {H : Type} : Bulk (H := H) Rows.uptoBulk Rows.uptoBulkAll where
 nil := by simp [Rows.uptoBulkAll]
 cons x l := by simp [Rows.uptoBulkAll]
 agg l := by simp [Rows.uptoBulk]; omega
 slice l m := by simp [Rows.uptoBulk]; omega
 str s := by simp [Rows.uptoBulk]
 pos d := uptoOne d
section
variable {H : Type} {enc : TypeId × Value → H} {w : World}
theorem cInt : Tryz.prog.cellsOf 3 = 1 := by kernel_rfl
theorem cStr : Tryz.prog.cellsOf 9 = 1 := by kernel_rfl
theorem cInts : Tryz.prog.cellsOf 23 = 1 := by kernel_rfl
theorem cDs : Tryz.prog.cellsOf 22 = 1 := by kernel_rfl
theorem cTs : Tryz.prog.cellsOf 24 = 1 := by kernel_rfl
theorem cD : Tryz.prog.cellsOf 54 = 5 := by kernel_rfl
theorem cT : Tryz.prog.cellsOf 26 = 4 := by kernel_rfl
theorem cP : Tryz.prog.cellsOf 28 = 5 := by kernel_rfl
theorem rdD (n : Nat) : Rd enc Tryz.prog w Rows.uptoBulk n 54 Datum.cells Datum.bulk :=
 rd_datum bulkR Tryz.underlying3 Tryz.underlying9 Tryz.underlying22 Tryz.underlying54 rfl cInt cStr cDs cD n
theorem rdT (n : Nat) : Rd enc Tryz.prog w Rows.uptoBulk n 26 Trm.cells Trm.bulk :=
 rd_trm bulkR Tryz.underlying3 Tryz.underlying23 Tryz.underlying24 Tryz.underlying26 rfl cInt cInts cTs cT n
theorem rdDs (n : Nat) : Rd enc Tryz.prog w Rows.uptoBulk n 22 (fun l : List Datum => [.sl 5 (l.map Datum.pv) none]) fun l => 1 + Datum.bulks l := by
 intro cs x h
 obtain ⟨a, h1, h2⟩ := rd_slice (pv := Datum.pv) bulkR Tryz.underlying22 cD (by omega) (fun a => rfl) (fun k hk => rdD (w := w) (enc := enc) k) cs x h
 have h3 : 1 + sumBk Datum.bulk a ≤ Rows.uptoBulk x.1 := h2
 rw [sumBk_datum] at h3
 exact ⟨a, h1, h3⟩
def Prog.bulk (p : Prog) : Nat := Datum.bulks p.consts + p.body.bulk
theorem rdP (n : Nat) : Rd enc Tryz.prog w Rows.uptoBulk n 28 Prog.cells Prog.bulk := by
 intro cs x h
 obtain ⟨xs, m, rfl, rfl, hl, hlen, hf⟩ := DataW.trod_struct Tryz.underlying28 h
 obtain ⟨a0, y0, e0, r0, b0⟩ := rd_field (rdDs (w := w) (enc := enc) m) hlen hf 0 rfl cDs
 obtain ⟨a1, y1, e1, r1, b1⟩ := rd_field (rdT (w := w) (enc := enc) m) hlen hf 1 rfl cT
 refine ⟨⟨a0, a1⟩, ?_, ?_⟩
 ·have := repL_cat r0 (repL_cat r1 (repL_end (hl.trans cP)))
  rwa [List.append_nil] at this
 ·match xs, hlen with
  | [z0, z1], _ =>
   simp at e0 e1
   subst e0 e1
   have := (bulkR (H := H)).agg ([z0, z1].map (·.1))
   simp only [List.map_cons, List.map_nil, (bulkR (H := H)).cons, (bulkR (H := H)).nil] at this
   show Datum.bulks a0 + a1.bulk ≤ _
   simp only [List.map_cons, List.map_nil]
   omega
theorem okI : Tryz.prog.readableRec 3 = true ∧ 3 < Tryz.prog.types.size := ⟨by kernel_rfl, of_decide_eq_true (by kernel_rfl)⟩
theorem okP : Tryz.prog.readableRec 28 = true ∧ 28 < Tryz.prog.types.size := ⟨by kernel_rfl, of_decide_eq_true (by kernel_rfl)⟩
theorem okT : Tryz.prog.readableRec 26 = true ∧ 26 < Tryz.prog.types.size := ⟨by kernel_rfl, of_decide_eq_true (by kernel_rfl)⟩
theorem calls_true {f : FuncId} {args : List PV} {vs : List Value} {W : World} (h : ACallP Tryz.prog f args (.bool true)) (hr : RepT (Fz.of W) args vs) : Calls Tryz.prog f vs.toArray W fun e W' => e = .returned (.bool true) ∧ Below W.heap.size W W' := by
 refine (h.2 W (Fz.of W) [] W vs (Sim.start W) hr).mono ?_
 rintro e W' ⟨v, F', y, Γ', rfl, _, hS, hR, rfl⟩
 exact ⟨by rw [show v = .bool true by simpa only [Rep] using hR], hS.below⟩
end
end Go.Cb
namespace Go.Cb
open Go.Proofs Go.Proofs.YtkcbpdpiodgaiaaGreatDoor
section
variable {H : Type} {enc : TypeId × Value → H} {w : World}
abbrev CtrR := { c : Ctr // c.effort ≤ 9223372036854775807 }
abbrev IntR := { n : Int // n ≤ 9223372036854775807 }
theorem rd_intR {UB : DataW H → Nat} {UBs : List (DataW H) → Nat} (hB : Bulk UB UBs) {t : TypeId} (ht : Tryz.prog.underlying t = some (.int .i64)) (n : Nat) : Rd enc Tryz.prog w UB n t (fun n : IntR => [.int .i64 n.1]) fun _ => 1 := by
 intro cs x h
 obtain ⟨m, rfl, rfl, hw⟩ := DataW.trod_int ht h
 simp [Lit.wf, IntKind.min, IntKind.max, IntKind.signed, IntKind.bits] at hw
 exact ⟨⟨m, by omega⟩, by simp only [RepL, Rep, and_true]; exact rfl, hB.pos _⟩
theorem cCt : Tryz.prog.cellsOf 30 = 3 := by kernel_rfl
theorem rdCt (n : Nat) : Rd enc Tryz.prog w Rows.uptoBulk n 30 (fun c : CtrR => c.1.cells) (fun _ => 1) := by
 intro cs x h
 obtain ⟨xs, m, rfl, rfl, hl, hlen, hf⟩ := DataW.trod_struct Tryz.underlying30 h
 obtain ⟨a0, y0, e0, r0, b0⟩ := rd_field (rd_intR (w := w) (enc := enc) bulkR Tryz.underlying3 m) hlen hf 0 rfl cInt
 obtain ⟨a1, y1, e1, r1, b1⟩ := rd_field (rd_intR (w := w) (enc := enc) bulkR Tryz.underlying3 m) hlen hf 1 rfl cInt
 obtain ⟨a2, y2, e2, r2, b2⟩ := rd_field (rd_intR (w := w) (enc := enc) bulkR Tryz.underlying3 m) hlen hf 2 rfl cInt
 refine ⟨⟨⟨a0.1, a1.1, a2.1⟩, a2.2⟩, ?_, uptoOne _⟩
 have := repL_cat r0 (repL_cat r1 (repL_cat r2 (repL_end (hl.trans cCt))))
 rwa [List.append_nil] at this
theorem okCt : Tryz.prog.readableRec 30 = true ∧ 30 < Tryz.prog.types.size := ⟨by kernel_rfl, of_decide_eq_true (by kernel_rfl)⟩
end
end Go.Cb
namespace Go.Cb
open Go.Proofs Go.Proofs.YtkcbpdpiodgaiaaGreatDoor
mutual
def cellsD : DataW Unit → List Value
 | .lit (.int k n) => [.int k n]
 | .lit (.bool b) => [.bool b]
 | .lit (.string s) => [.string ⟨s.toArray⟩]
 | .agg l => cellsDs l
 | _ => []
def cellsDs : List (DataW Unit) → List Value
 | [] => []
 | d :: l => cellsD d ++ cellsDs l
end
def newBlocks (e : TypeId) : List (String × DataW Unit) → List Obj
 | [] => []
 | (_, .iface _ (.ptr d)) :: l => .cells (cellsD d).toArray e :: newBlocks e l
 | _ :: l => newBlocks e l
def putCs (h : Array Obj) (g : Option Nat) (cs : Array Value) : Array Obj := match g with
 | some g => h.modify g fun
  | .cells _ t frozen => .cells cs t frozen
  | o => o
 | none => h
def layAll (P : Program) (p : TypeId) : List (String × DataW Unit) → Nat → Array Obj → Array Obj
 | [], _, h => h
 | (n, .iface _ _) :: l, k, h => layAll P p l (k + 1) (putCs h (P.globalNamed n) #[.iface p (.pointer (some ⟨k, 0, none⟩))])
 | (n, d) :: l, k, h => layAll P p l k (putCs h (P.globalNamed n) (cellsD d).toArray)
noncomputable def laidWorld (os : Os) : World :=
 let w0 := World.holding Tryz.prog os ⟨(newBlocks 293 Rows.inlineMeansRow.laid).toArray, #[], []⟩
 { w0 with heap := layAll Tryz.prog 291 Rows.inlineMeansRow.laid (World.settled Tryz.prog os).heap.size w0.heap }
theorem laid_met (os : Os) (args : Array Value) : laidMet Tryz.prog Rows.inlineMeansRow.laid ((laidWorld os).forCall (fun _ _ => 0) ⟨#[], args, []⟩).memory :=
 (LaidIn.of_run (l := Rows.inlineMeansRow.laid) (List.range 1000) 16 (by kernel_rfl) (by kernel_rfl) (by kernel_rfl) (by kernel_rfl)).met
theorem own_none : ownKnob Tryz.prog.godebug = none := by kernel_rfl
theorem laidOut : laidOutB Tryz.prog = true := by kernel_rfl
end Go.Cb





