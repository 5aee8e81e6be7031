/-
 Appends onto rows of one's own; maps from numbers.
 Contracts: the document's maker of closures: what is known, references.
 Contracts: the document's comparisons, counts, bindings.
 Contracts: the document's bindings; all variables greater.
 Contracts: what the document says is free.
 Contracts: package slices: Clone, ContainsFunc, Backward, of numbers.
 Contracts: package slices: DeleteFunc, of numbers.
 Contracts: the maker of closures: what a term is over, references, numbers.
 Plain law: how many codes there are.
 Contracts: all variables greater by the same, of any term.
 Contracts: the maker of closures: bodies, procedures.
 Contracts: the maker of closures: Let.
 Drawn regions with two effects that no order binds to one another: both orders are walked.
 Drawn regions with a read that no order binds to two effects: it is walked at each place.
 Contracts: the maker of closures: Fix.
-/
import Derived.Test.YtklpioocdgfbmaaGreatDoorC5
set_option linter.unusedSimpArgs false
set_option linter.unusedVariables false
namespace Go.Cb
open Go.Proofs
set_option maxRecDepth 100000
theorem PAppend.rowMore {α : Type} {f : α → PV} {l m : List α} {es : List PV} {s by_ : Nat} {e : TypeId} {tk : Option Tok} {t : Tok} {Γ : List Ent} {put : Tok → List PV → List Ent} [hp : PickRow Γ t (l.map f) put] [hm : RowOf f es m] {K : PV → List Ent → Prop} (he : t.e = e) (hs : t.s = s)
  (hb : Nat.ble by_ 4096 = true) (h1 : l.length + m.length ≤ 34359738368)
  (k : ∀ t' : Tok, t'.e = e → t'.s = s → K (.ms t') (put t' ((l ++ m).map f))) : PAppend s by_ e (.ms t) (.sl s es tk) Γ K := by
 obtain ⟨Γ1, Γ2, e1, e2⟩ := hp.at_
 refine ⟨l.map f, m.map f, .inl ⟨none, Wk.trans (Wk.tok _ _ _) (Wk.row hm.h)⟩, by simp; omega, by simpa using bytes_ok hb h1, .inr (.inr ⟨t, Γ1, Γ2, rfl, e1, he, hs, fun t' ht hs' => ?_⟩)⟩
 have := k t' ht hs'
 rw [List.map_append, e2] at this
 exact this
theorem yD : type_of% @PAppend.rowMore := @PAppend.rowMore
def mapM {α : Type} (f : α → PV) (m : Int → Option α) (v : Value) : Option PV := match v with
 | .int .i64 k => (m k).map f
 | _ => none
theorem PLook.num {α : Type} {f : α → PV} {r : Nat} {m : Int → Option α} {n : Int} {z : PV} {Γ : List Ent} {pend : List (Int × Value)} {put : (Value → Option PV) → List (Int × Value) → List Ent} [hp : PickMp Γ r (.int .i64) (mapM f m) pend put] {K : PV → Bool → Prop}
  (h : K (match m n with | some x => f x | none => z) (m n).isSome) : PLook r (.int .i64) (some (.int .i64 n)) z Γ K :=
 PLook.at_ (hp := hp) _ _ (by simp [MapKept.IsKey]) (fun p hp => by
  simp only [mapM] at hp
  cases hm : m n with
  | none => rw [hm] at hp; cases hp
  | some x => rw [hm] at hp; cases hp; exact ⟨Wk.refl _, rfl⟩) (fun hn => by
  simp only [mapM] at hn
  cases hm : m n with
  | none => exact ⟨Wk.refl _, rfl⟩
  | some x => rw [hm] at hn; cases hn) h
theorem yH {α : Type} {f : α → PV} {r : Nat} {m : Int → Option α} {n : Int} {x : α} {z : PV} {Γ : List Ent} {pend : List (Int × Value)} {put : (Value → Option PV) → List (Int × Value) → List Ent} [hp : PickMp Γ r (.int .i64) (mapM f m) pend put] {K : PV → Bool → Prop}
  (hx : m n = some x) (h : K (f x) true) : PLook r (.int .i64) (some (.int .i64 n)) z Γ K := PLook.num (hp := hp) (by rw [hx]; exact h)
theorem yI {α : Type} {f : α → PV} {r : Nat} {m : Int → Option α} {n : Int} {z : PV} {Γ : List Ent} {pend : List (Int × Value)} {put : (Value → Option PV) → List (Int × Value) → List Ent} [hp : PickMp Γ r (.int .i64) (mapM f m) pend put] {K : PV → Bool → Prop}
  (hx : m n = none) (h : K z false) : PLook r (.int .i64) (some (.int .i64 n)) z Γ K := PLook.num (hp := hp) (by rw [hx]; exact h)
def upd {α : Type} (m : Int → Option α) (n : Int) (x : α) : Int → Option α := fun k => if k = n then some x else m k
theorem PMapPut.num {α : Type} {f : α → PV} {r : Nat} {m : Int → Option α} {n : Int} {p : PV} {Γ : List Ent} {pend : List (Int × Value)} {put : (Value → Option PV) → List (Int × Value) → List Ent} [hp : PickMp Γ r (.int .i64) (mapM f m) pend put] {K : List Ent → Prop} (x : α) (hx : p = f x)
  (h : K (put (mapM f (upd m n x)) pend)) (hq : mapM f m (.int .i64 n) ≠ none ∨ ∀ q ∈ pend, q.2 ≠ .tuple #[] := by right; simp) : PMapPut r (.int .i64) (some (.int .i64 n)) p Γ K :=
 PMapPut.at_ (hp := hp) (mapM f (upd m n x)) (by simp [MapKept.IsKey]) (by simp [mapM, upd, hx]) (fun k hk => by
  unfold mapM
  split
  ·rename_i j
   have : j ≠ n := fun e => hk (by rw [e])
   simp [upd, this]
  ·rfl) h hq
theorem nodup_inj {α β : Type} {f : α → β} : ∀ {l : List α}, (l.map f).Nodup → ∀ {x y : α}, x ∈ l → y ∈ l → f x = f y → x = y
 | [], _, x, _, hx, _, _ => by cases hx
 | a :: l, h, x, y, hx, hy, e => by
  rw [List.map_cons, List.nodup_cons] at h
  rcases List.mem_cons.1 hx with hx1 | hx
  ·rcases List.mem_cons.1 hy with hy1 | hy
   ·rw [hx1, hy1]
   ·exact absurd (List.mem_map.2 ⟨y, hy, by rw [← e, hx1]⟩) h.1
  ·rcases List.mem_cons.1 hy with hy1 | hy
   ·exact absurd (List.mem_map.2 ⟨x, hx, by rw [e, hy1]⟩) h.1
   ·exact nodup_inj h.2 hx hy e
structure AllI {α : Type} (m : Int → Option α) (all : List (Nat × Int)) : Prop where
 dom : ∀ z, m z ≠ none ↔ ∃ n, (n, z) ∈ all
 nk : (all.map (·.2)).Nodup
 nb : (all.map (·.1)).Nodup
def pdI (cl : Nat) (all : List (Nat × Int)) : List (Int × Value) := ((cl : Int), .tuple #[]) :: all.map fun q => ((q.1 : Int), .int .i64 q.2)
abbrev itO (r cl : Nat) (seen : Array Nat) : Obj := .mapIter (some r) cl seen cl
theorem isKeyI {v : Value} (h : MapKept.IsKey (.int .i64) v) : ∃ z, v = .int .i64 z := by
 cases v <;> first | exact h.elim | skip
 rename_i k z
 have : k = .i64 := h
 exact ⟨z, by rw [this]⟩
theorem allI_ints : ∀ l : List (Int × Value), (∀ q ∈ l, 0 ≤ q.1 ∧ MapKept.IsKey (.int .i64) q.2) → ∃ all : List (Nat × Int), l = all.map fun q => ((q.1 : Int), Value.int .i64 q.2)
 | [], _ => ⟨[], rfl⟩
 | (a, v) :: l, h => by
  obtain ⟨h1, h2⟩ := h (a, v) (by simp)
  obtain ⟨z, rfl⟩ := isKeyI h2
  obtain ⟨all, rfl⟩ := allI_ints l fun q hq => h q (by simp [hq])
  simp only at h1
  exact ⟨(a.toNat, z) :: all, by rw [List.map_cons]; simp only [List.cons.injEq, Prod.mk.injEq, and_true]; omega⟩
theorem PRangeM.num {α : Type} {f : α → PV} {r : Nat} {m : Int → Option α} {Γ : List Ent} {pend : List (Int × Value)} {put : (Value → Option PV) → List (Int × Value) → List Ent} [hp : PickMp Γ r (.int .i64) (mapM f m) pend put] {K : PV → List Ent → Prop}
  (h : ∀ b all cl, AllI m all → (∀ q ∈ all, q.1 < cl) → K (.ptr b 0) (.ob b (itO r cl #[]) [] [] :: put (mapM f m) (pdI cl all))) : PRangeM r (.int .i64) Γ K := by
 obtain ⟨Γ1, Γ2, e1, e2⟩ := hp.at_
 refine ⟨mapM f m, pend, Γ1, Γ2, e1, fun b l cl ha => ?_⟩
 obtain ⟨all, rfl⟩ := allI_ints l fun q hq => ⟨(ha.lt q hq).1, (ha.key q hq).1⟩
 have hA : AllI m all := by
  refine ⟨fun z => ⟨fun hz => ?_, fun ⟨n, hn⟩ hz => ?_⟩, ?_, ?_⟩
  ·cases hm : m z with
   | none => exact absurd hm hz
   | some x =>
    obtain ⟨n, hn⟩ := ha.dom (.int .i64 z) (f x) (by simp [mapM, hm])
    obtain ⟨q, hq, e⟩ := List.mem_map.1 hn
    simp only [Prod.mk.injEq, Value.int.injEq, true_and] at e
    exact ⟨q.1, by rw [← e.2]; exact hq⟩
  ·have := (ha.key ((n : Int), .int .i64 z) (List.mem_map.2 ⟨(n, z), hn, rfl⟩)).2
   exact this (by simp [mapM, hz])
  ·have := ha.nk
   rw [List.map_map, List.Nodup, List.pairwise_map] at this
   rw [List.Nodup, List.pairwise_map]
   exact this.imp fun {x y} h e => h (by simp only [Function.comp, e])
  ·have := ha.nb
   rw [List.map_map, List.Nodup, List.pairwise_map] at this
   rw [List.Nodup, List.pairwise_map]
   exact this.imp fun {x y} h e => h (by simp only [Function.comp, e])
 have := h b all cl hA fun q hq => by have := (ha.lt _ (List.mem_map.2 ⟨q, hq, rfl⟩)).2; simp only at this; omega
 rw [e2] at this
 exact this
class PickOb (Γ : List Ent) (b : Nat) (o : outParam Obj) (put : outParam (Obj → List Ent)) : Prop where
 at_ : ∃ Γ1 Γ2, Γ = Γ1 ++ .ob b o [] [] :: Γ2 ∧ ∀ o', put o' = Γ1 ++ .ob b o' [] [] :: Γ2
instance (priority := high) PickOb.head (Γ : List Ent) (b : Nat) (o : Obj) : PickOb (.ob b o [] [] :: Γ) b o (fun o' => .ob b o' [] [] :: Γ) := ⟨[], Γ, rfl, fun _ => rfl⟩
instance PickOb.tail (e : Ent) (Γ : List Ent) (b : Nat) (o : Obj) (put : Obj → List Ent) [h : PickOb Γ b o put] : PickOb (e :: Γ) b o (fun o' => e :: put o') := by
 obtain ⟨Γ1, Γ2, h1, h2⟩ := h.at_
 exact ⟨e :: Γ1, Γ2, by rw [h1]; rfl, fun o' => by rw [h2]; rfl⟩
theorem mem_pdI {cl : Nat} {all : List (Nat × Int)} {n : Nat} {z : Int} : ((n : Int), Value.int .i64 z) ∈ all.map (fun q => ((q.1 : Int), Value.int .i64 q.2)) ↔ (n, z) ∈ all := by
 rw [List.mem_map]
 constructor
 ·rintro ⟨q, hq, e⟩
  simp only [Prod.mk.injEq, Value.int.injEq, true_and] at e
  have : q = (n, z) := Prod.ext (by have := e.1; simp only; omega) e.2
  rw [← this]; exact hq
 ·intro h; exact ⟨_, h, rfl⟩
theorem PNextM.num {α : Type} {f : α → PV} {b r cl : Nat} {seen : Array Nat} {m : Int → Option α} {all : List (Nat × Int)} {Γ : List Ent} {put : Obj → List Ent} [hb : PickOb Γ b (itO r cl seen) put] {put2 : (Value → Option PV) → List (Int × Value) → List Ent} [hp : PickMp Γ r (.int .i64) (mapM f m) (pdI cl all) put2] {K : PV → List Ent → Prop}
  (hA : AllI m all) (hl : ∀ q ∈ all, q.1 < cl) (h1 : ∀ n z x, (n, z) ∈ all → m z = some x → n ∉ seen.toList → K (.tup [.btrue, .any, .any]) (put (itO r cl (seen.push n)))) (h2 : (∀ q ∈ all, q.1 ∈ seen.toList) → K (.tup [.bfalse]) Γ) : PNextM b Γ K := by
 obtain ⟨Γ1, Γ2, e1, e2⟩ := hb.at_
 obtain ⟨Γ3, Γ4, e3, e4⟩ := hp.at_
 have hdom : ∀ k p, mapM f m k = some p → ∃ z x, k = .int .i64 z ∧ m z = some x := fun k p hk => by
  unfold mapM at hk
  split at hk
  ·rename_i z
   cases hm : m z with
   | none => rw [hm] at hk; cases hk
   | some x => exact ⟨z, x, rfl, hm⟩
  ·cases hk
 refine ⟨r, cl, seen, .int .i64, mapM f m, all.map (fun q => ((q.1 : Int), .int .i64 q.2)), Γ1, Γ2, e1, by rw [e3]; simp [pdI], fun k p hk => ?_, fun q hq => ?_, fun n k p hn hk hs => ?_, fun hs => h2 fun q hq => ?_⟩
 ·obtain ⟨z, x, rfl, hm⟩ := hdom k p hk
  obtain ⟨n, hn⟩ := (hA.dom z).1 (by simp [hm])
  exact ⟨(n : Int), (mem_pdI (cl := cl)).2 hn⟩
 ·obtain ⟨q', hq', rfl⟩ := List.mem_map.1 hq
  have := hl q' hq'
  simp only
  omega
 ·obtain ⟨z, x, rfl, hm⟩ := hdom k p hk
  have := h1 n z x ((mem_pdI (cl := cl)).1 hn) hm hs
  rw [e2] at this
  exact this
 ·obtain ⟨n, z⟩ := q
  have hz : m z ≠ none := (hA.dom z).2 ⟨n, hq⟩
  cases hm : m z with
  | none => exact absurd hm hz
  | some x =>
   obtain ⟨n', hn', hs'⟩ := hs (.int .i64 z) (f x) (by simp [mapM, hm])
   have hn2 := (mem_pdI (cl := cl)).1 hn'
   have := nodup_inj hA.nk hq hn2 rfl
   cases this
   exact hs'
theorem PEntryM.num {α : Type} {f : α → PV} {b r cl n : Nat} {seen : Array Nat} {m : Int → Option α} {all : List (Nat × Int)} {Γ : List Ent} {put : Obj → List Ent} [hb : PickOb Γ b (itO r cl (seen.push n)) put] {put2 : (Value → Option PV) → List (Int × Value) → List Ent} [hp : PickMp Γ r (.int .i64) (mapM f m) (pdI cl all) put2] {K : PV → Prop}
  (z : Int) (x : α) (hn : (n, z) ∈ all) (hm : m z = some x) (h : K (.tup [.int .i64 z, f x])) : PEntryM b Γ K := by
 obtain ⟨Γ1, Γ2, e1, _⟩ := hb.at_
 obtain ⟨Γ3, Γ4, e3, _⟩ := hp.at_
 exact ⟨r, cl, seen, n, .int .i64 z, .int .i64 z, f x, .int .i64, mapM f m, all.map (fun q => ((q.1 : Int), .int .i64 q.2)), by rw [e1]; simp, by rw [e3]; simp [pdI], (mem_pdI (cl := cl)).2 hn, by simp, by simp [mapM, hm], fun F => by simp [Rep], h⟩
theorem PIndexM.atL {α : Type} {f : α → PV} {l : List α} {sz : Nat} {Γ : List Ent} {t : Tok} {put : Tok → List PV → List Ent} [hp : PickRow Γ t (l.map f) put] {k : IntKind} {n : Int} {i : Nat} [x : IdxOf n i] {K : PV → Prop} (hs : t.s = sz) (h0 : 0 ≤ n) (h : n < l.length) (hk : K (.rp t i 0)) : PIndexM sz t (.int k n) Γ K :=
 PIndexM.at_ (hp := hp) hs h0 (by have := x.eq h0; rw [List.length_map]; omega) hk
theorem yE : type_of% @PIndexM.atL := @PIndexM.atL
theorem yF : type_of% @PLoad.row := @PLoad.row
theorem PStore.rowAll {α : Type} {f : α → PV} {c : α → List PV} [hc : CellsOf f c] {l : List α} {Γ : List Ent} {t : Tok} {put : Tok → List PV → List Ent} [hp : PickRow Γ t (l.map f) put] {i n : Nat} {x : PV} {v : α} [hv : ElOf f x v] {K : List Ent → Prop} (hi : i < l.length)
  (hl : Nat.beq (c l[i]).length n = true) (hx : lenIs x.cellsOf n = true) (hcl : x.cellular = true) (k : K (put t ((l.set i v).map f))) : PStore n (.rp t i 0) x Γ K := by
 have hn : (c l[i]).length = n := Nat.eq_of_beq_eq_true hl
 have hw : WkL x.cellsOf (c v) := by have := hv.wl; rwa [hc.eq] at this
 refine PStore.row (hp := hp) v hi (by rw [hn, Nat.zero_add]; exact Nat.ble_eq_true_of_le (Nat.le_refl _)) hx hcl hw ?_ k
 rw [List.take_zero, List.nil_append, Nat.zero_add, List.drop_of_length_le (by omega), List.append_nil]
theorem yG : type_of% @PStore.rowAll := @PStore.rowAll
theorem sG {p q : Prop} (k : q) (h : q → p := by intro hq; first | exact yE (by clear hq; assumption) (by clear hq; omega) (by clear hq; omega) hq | exact yF (by clear hq; omega) rfl hq | exact yH (by clear hq; assumption) hq | exact yI (by clear hq; assumption) hq) : p := h k
theorem sF {p q : Prop} (k : q) (h : q → p := by intro hq; first | exact yA (by clear hq; assumption) rfl lA hq | exact yB (by clear hq; assumption) rfl lA hq | exact yC rfl lA hq | exact yD (by clear hq; assumption) (by clear hq; assumption) rfl lA hq | exact yE (by clear hq; assumption) (by clear hq; omega) (by clear hq; omega) hq | exact yF (by clear hq; omega) rfl hq | exact yH (by clear hq; assumption) hq | exact yI (by clear hq; assumption) hq | exact yG (by clear hq; omega) rfl rfl rfl hq) : p := h k
theorem stC {p : Prop} (h : p := by
 conv => whnf
 repeat ((first|(refine zW ?_ ?_; exact gA)|refine zA ?_|refine zH rfl ?_|refine zB ?_|(refine yE ?_ ?_ ?_ ?_; assumption; omega; omega)|(refine yF ?_ rfl ?_; omega)|(apply yH; assumption)|(refine yI ?_ ?_; assumption)|intro _); conv=>whnf)
 first | exact pS | exact pL | exact pE) : p := h
end Go.Cb
namespace Go.Cb
open Go.Proofs
set_option maxRecDepth 100000
set_option maxHeartbeats 4000000
structure Kw where
 v : Int
 k : Kn
def Kw.cells (x : Kw) : List PV := [.int .i64 x.v, .int .i64 x.k.code, .bool x.k.st]
def Kw.pv (x : Kw) : PV := .agg x.cells
instance : CellsOf Kw.pv Kw.cells := ⟨fun _ => rfl⟩
def lkK : List Kw → Int → Option Kw
 | [], _ => none
 | x :: l, v => if x.v = v then some x else lkK l v
def lkF (l : List Kw) : Fm := fun v => (lkK l v).map Kw.k
theorem lkF_app : ∀ (l : List Kw) (x : Kw), lkF (l ++ [x]) = setF true (lkF l) x.v x.k := by
 intro l x
 funext u
 unfold lkF setF
 induction l with
 | nil =>
  by_cases h : x.v = u
  ·simp [lkK, h]
  ·have : ¬u = x.v := fun e => h e.symm
   simp [lkK, h, this]
 | cons y l ih =>
  by_cases h : y.v = u
  ·simp [lkK, h]
  ·simp only [List.cons_append, lkK, if_neg h]; simpa using ih
abbrev dmG (b : Nat) (tk : Tok) (A : List Cod) (tkk : Tok) (l : List Kw) : List Ent := [.box b [.ms tk, .sl 3 (l.map Kw.pv) (some tkk)], .row tk (A.map Cod.pv), .tok tkk]
def kwO : Option Kw → List PV
 | some x => x.cells
 | none => [.int .i64 0, .int .i64 0, .bool false]
theorem find13_c (b : Nat) (tk : Tok) (A : List Cod) (tkk : Tok) (l : List Kw) (v : Int) :
  ACall Tryz.prog 97 [.ptr b 0, .int .i64 v] (dmG b tk A tkk l) (fun y Γ' => y = .tup [.agg (kwO (lkK l v)), .bool (lkK l v).isSome] ∧ Γ' = dmG b tk A tkk l) := by
 refine ACall.of_body tt_ok Tryz.func97 rfl rfl (n := 34) rfl rfl ?_
 conv => whnf
 repeat ((first|((first|(apply zY;intro hg)|apply zZ);first|exact stA|exact stB|exact stC)|(refine zW ?_ ?_;exact gA)|refine zH rfl ?_|refine zA ?_|refine zI bA ?_|refine zI rfl ?_|refine sB ?_|(refine zO ?_ ?_ ?_;omega;omega)|(refine zP ?_ ?_ ?_;omega;omega)|refine zM rfl ?_|(refine zQ ?_ ?_ ?_;omega;omega)|(refine zR ?_ ?_;omega)|(refine zI ?_ ?_;exact nA)|refine sS ?_|refine sF ?_|refine n0 ?_|refine sD ?_|intro _);conv=>whnf)
 rename_i b4
 refine PLoop.over [5, 6, 7, 8, 9, 10, 11, 12, 13, 14, 15, 16, 17, 18, 19, 20, 21, 22, 23, 24, 25, 26, 27, 28, 29, 30, 31, 32] (fun x : Nat => [(6, .int .i64 x)]) (fun _ => .box b4 [.int .i64 0, .int .i64 0, .bfalse] :: dmG b tk A tkk l) (fun x => x ≤ l.length ∧ lkK (l.drop x) v = lkK l v) (fun x => l.length - x) 0 ⟨Nat.zero_le _, rfl⟩ wA ?_
 rintro i ⟨hi, he⟩
 dsimp only at hi he ⊢
 conv => whnf
 repeat' (first|((first|((first|(apply zY;intro hg)|apply zZ);first|exact stA|exact stB|exact stC)|(refine zW ?_ ?_;exact gA)|refine zH rfl ?_|refine zA ?_|refine zI bA ?_|refine zI rfl ?_|refine sB ?_|(refine zO ?_ ?_ ?_;omega;omega)|(refine zP ?_ ?_ ?_;omega;omega)|refine zM rfl ?_|(refine zQ ?_ ?_ ?_;omega;omega)|(refine zR ?_ ?_;omega)|(refine zI ?_ ?_;exact nA)|refine sS ?_|refine sF ?_|refine n0 ?_|refine sD ?_|intro _|refine zG ?_);conv=>whnf)|(refine zX (fun hc => ?_) (fun hc => ?_)<;>(try simp only [SY] at hc)<;>first|omega|(conv=>whnf)))
 ·have hlt : i < l.length := by omega
  rw [drop_at hlt, lkK, if_pos hc] at he
  rw [← he]
  exact PRet.gen (y := .tup [.agg l[i].cells, .bool true]) (Γ' := dmG b tk A tkk l) (Wk.tup (.cons (Wk.refl _) (.cons (Wk.tt rfl) .nil))) ⟨rfl, rfl⟩
 ·have hlt : i < l.length := by omega
  rw [drop_at hlt, lkK, if_neg hc] at he
  exact loopTo (i + 1) ⟨by omega, he⟩ (by show l.length - (i + 1) < l.length - i; omega) wA
 ·rw [List.drop_of_length_le (by omega), lkK] at he
  rw [← he]
  exact PRet.gen (y := .tup [.agg (kwO none), .bool false]) (Γ' := dmG b tk A tkk l) (Wk.tup (.cons (Wk.refl _) (.cons (Wk.ff rfl) .nil))) ⟨rfl, rfl⟩
theorem stF_lkF (l : List Kw) (v : Int) : stF (lkF l) v = match lkK l v with
 | some x => x.k.st
 | none => false := by
 unfold stF lkF
 cases lkK l v <;> rfl
theorem codeF_lkF (l : List Kw) (v : Int) : codeF (lkF l) v = match lkK l v with
 | some x => x.k.code
 | none => 0 := by
 unfold codeF lkF
 cases lkK l v <;> rfl
theorem refD13_c (b : Nat) (tk : Tok) (A : List Cod) (tkk : Tok) (l : List Kw) (v : Int) (ov : List Int) :
  ACall Tryz.prog 91 [.ptr b 0, .int .i64 v, slI ov] (dmG b tk A tkk l) (fun y Γ' => y = .agg (refF (lkF l) ov v).cells ∧ Γ' = dmG b tk A tkk l) := by
 refine ACall.of_body tt_ok Tryz.func91 rfl rfl (n := 40) rfl rfl ?_
 conv => whnf
 repeat ((first|((first|(apply zY;intro hg)|apply zZ);first|exact stA|exact stB|exact stC)|(refine zW ?_ ?_;exact gA)|refine zH rfl ?_|refine zA ?_|refine zI bA ?_|refine zI rfl ?_|refine sB ?_|(refine zO ?_ ?_ ?_;omega;omega)|(refine zP ?_ ?_ ?_;omega;omega)|refine zM rfl ?_|(refine zQ ?_ ?_ ?_;omega;omega)|(refine zR ?_ ?_;omega)|(refine zI ?_ ?_;exact nA)|refine sS ?_|refine sF ?_|refine n0 ?_|refine sD ?_|intro _);conv=>whnf)
 rename_i b6
 refine PCall.go (find13_c b tk A tkk l v) (WkT.refl _) ?_
 rintro _ _ ⟨rfl, rfl⟩
 have h1 := stF_lkF l v
 have h2 := codeF_lkF l v
 cases hl : lkK l v with
 | some x =>
  rw [hl] at h1 h2
  dsimp only at h1 h2
  conv => whnf
  repeat' (first|((first|((first|(apply zY;intro hg)|apply zZ);first|exact stA|exact stB|exact stC)|(refine zW ?_ ?_;exact gA)|refine zH rfl ?_|refine zA ?_|refine zI bA ?_|refine zI rfl ?_|refine sB ?_|(refine zO ?_ ?_ ?_;omega;omega)|(refine zP ?_ ?_ ?_;omega;omega)|refine zM rfl ?_|(refine zQ ?_ ?_ ?_;omega;omega)|(refine zR ?_ ?_;omega)|(refine zI ?_ ?_;exact nA)|refine sS ?_|refine sF ?_|refine n0 ?_|refine sD ?_|intro _|refine zG ?_);conv=>whnf)|(refine zX (fun hc => ?_) (fun hc => ?_)<;>(try simp only [SY] at hc)<;>first|omega|(conv=>whnf)))
  ·rw [refF, if_pos (by rw [h1]; exact hc.2), h2]
   exact PRet.gen (y := .agg (Trm.mk 21 x.k.code [] []).cells) (Γ' := dmG b tk A tkk l) TrmOf.wk ⟨rfl, rfl⟩
  ·have hns : ¬stF (lkF l) v = true := by
    rw [h1]
    rcases hc with hc | hc
    ·cases hc
    ·rw [hc]; simp
   refine PLoop.keep [9, 24, 25, 26, 27, 28, 29, 30, 31, 32, 33, 34, 35, 36, 37] (fun i : Nat => [(9, .int .i64 i)]) (fun i => i ≤ ov.length ∧ idxL (ov.drop i) v i = idxL ov v 0) (fun i => ov.length - i) 0 ⟨Nat.zero_le _, rfl⟩ wA ?_
   rintro i ⟨hi, he⟩
   conv => whnf
   repeat' (first|((first|((first|(apply zY;intro hg)|apply zZ);first|exact stA|exact stB|exact stC)|(refine zW ?_ ?_;exact gA)|refine zH rfl ?_|refine zA ?_|refine zI bA ?_|refine zI rfl ?_|refine sB ?_|(refine zO ?_ ?_ ?_;omega;omega)|(refine zP ?_ ?_ ?_;omega;omega)|refine zM rfl ?_|(refine zQ ?_ ?_ ?_;omega;omega)|(refine zR ?_ ?_;omega)|(refine zI ?_ ?_;exact nA)|refine sS ?_|refine sF ?_|refine n0 ?_|refine sD ?_|intro _|refine zG ?_);conv=>whnf)|(refine zX (fun hc => ?_) (fun hc => ?_)<;>(try simp only [SY] at hc)<;>first|omega|(conv=>whnf)))
   ·have hlt : i < ov.length := by omega
    rw [drop_at hlt, idxL, if_pos (by omega)] at he
    rw [refF, if_neg hns, ← he, if_pos (by omega)]
    exact PRet.gen (y := .agg (Trm.mk 20 i [] []).cells) (Γ' := dmG b tk A tkk l) TrmOf.wk ⟨rfl, rfl⟩
   ·have hlt : i < ov.length := by omega
    rw [drop_at hlt, idxL, if_neg (by omega)] at he
    exact loopTo (i + 1) ⟨by omega, he⟩ (by show ov.length - (i + 1) < ov.length - i; omega) wA
   ·rw [List.drop_of_length_le (by omega), idxL] at he
    rw [refF, if_neg hns, ← he, if_neg (by omega)]
    exact PRet.gen (y := .agg (Trm.mk 1 v [] []).cells) (Γ' := dmG b tk A tkk l) TrmOf.wk ⟨rfl, rfl⟩
 | none =>
  rw [hl] at h1 h2
  dsimp only at h1 h2
  conv => whnf
  repeat' (first|((first|((first|(apply zY;intro hg)|apply zZ);first|exact stA|exact stB|exact stC)|(refine zW ?_ ?_;exact gA)|refine zH rfl ?_|refine zA ?_|refine zI bA ?_|refine zI rfl ?_|refine sB ?_|(refine zO ?_ ?_ ?_;omega;omega)|(refine zP ?_ ?_ ?_;omega;omega)|refine zM rfl ?_|(refine zQ ?_ ?_ ?_;omega;omega)|(refine zR ?_ ?_;omega)|(refine zI ?_ ?_;exact nA)|refine sS ?_|refine sF ?_|refine n0 ?_|refine sD ?_|intro _|refine zG ?_);conv=>whnf)|(refine zX (fun hc => ?_) (fun hc => ?_)<;>(try simp only [SY] at hc)<;>first|omega|(conv=>whnf)))
  ·have hns : ¬stF (lkF l) v = true := by rw [h1]; simp
   refine PLoop.keep [9, 24, 25, 26, 27, 28, 29, 30, 31, 32, 33, 34, 35, 36, 37] (fun i : Nat => [(9, .int .i64 i)]) (fun i => i ≤ ov.length ∧ idxL (ov.drop i) v i = idxL ov v 0) (fun i => ov.length - i) 0 ⟨Nat.zero_le _, rfl⟩ wA ?_
   rintro i ⟨hi, he⟩
   conv => whnf
   repeat' (first|((first|((first|(apply zY;intro hg)|apply zZ);first|exact stA|exact stB|exact stC)|(refine zW ?_ ?_;exact gA)|refine zH rfl ?_|refine zA ?_|refine zI bA ?_|refine zI rfl ?_|refine sB ?_|(refine zO ?_ ?_ ?_;omega;omega)|(refine zP ?_ ?_ ?_;omega;omega)|refine zM rfl ?_|(refine zQ ?_ ?_ ?_;omega;omega)|(refine zR ?_ ?_;omega)|(refine zI ?_ ?_;exact nA)|refine sS ?_|refine sF ?_|refine n0 ?_|refine sD ?_|intro _|refine zG ?_);conv=>whnf)|(refine zX (fun hc => ?_) (fun hc => ?_)<;>(try simp only [SY] at hc)<;>first|omega|(conv=>whnf)))
   ·have hlt : i < ov.length := by omega
    rw [drop_at hlt, idxL, if_pos (by omega)] at he
    rw [refF, if_neg hns, ← he, if_pos (by omega)]
    exact PRet.gen (y := .agg (Trm.mk 20 i [] []).cells) (Γ' := dmG b tk A tkk l) TrmOf.wk ⟨rfl, rfl⟩
   ·have hlt : i < ov.length := by omega
    rw [drop_at hlt, idxL, if_neg (by omega)] at he
    exact loopTo (i + 1) ⟨by omega, he⟩ (by show ov.length - (i + 1) < ov.length - i; omega) wA
   ·rw [List.drop_of_length_le (by omega), idxL] at he
    rw [refF, if_neg hns, ← he, if_neg (by omega)]
    exact PRet.gen (y := .agg (Trm.mk 1 v [] []).cells) (Γ' := dmG b tk A tkk l) TrmOf.wk ⟨rfl, rfl⟩
end Go.Cb
namespace Go.Cb
open Go.Proofs
set_option maxRecDepth 100000
set_option maxHeartbeats 4000000
mutual
def Trm.alk : Trm → Trm → Bool
 | .mk op n v t, .mk op' n' v' t' => op == op' && n == n' && v == v' && Trm.alks t t'
def Trm.alks : List Trm → List Trm → Bool
 | [], [] => true
 | x :: xs, y :: ys => Trm.alk x y && Trm.alks xs ys
 | _, _ => false
end
theorem Trm.alk_eq (a b : Trm) : a.alk b = (a.op == b.op && a.n == b.n && a.v == b.v && Trm.alks a.t b.t) := by cases a; cases b; rw [Trm.alk]; rfl
theorem Trm.alk_self (a : Trm) : a.alk a = true := by
 induction a using Trm.ind with
 | h t ih =>
  have key : ∀ l : List Trm, (∀ x ∈ l, x.alk x = true) → Trm.alks l l = true := by
   intro l
   induction l with
   | nil => intro _; rw [Trm.alks]
   | cons x l ihl => intro h; rw [Trm.alks, h x (by simp), ihl fun y hy => h y (by simp [hy])]; rfl
  rw [Trm.alk_eq, key _ ih]; simp
theorem Trm.alks_len : ∀ {l m : List Trm}, Trm.alks l m = true → l.length = m.length
 | [], [], _ => rfl
 | x :: l, y :: m, h => by rw [Trm.alks, Bool.and_eq_true] at h; rw [List.length_cons, List.length_cons, Trm.alks_len h.2]
 | [], _ :: _, h => by simp [Trm.alks] at h
 | _ :: _, [], h => by simp [Trm.alks] at h
theorem take_snoc {l m : List Int} {i : Nat} (h : l.take i = m.take i) (hl : i < l.length) (hm : i < m.length) (e : l[i] = m[i]) : l.take (i + 1) = m.take (i + 1) := by
 rw [List.take_succ_eq_append_getElem hl, List.take_succ_eq_append_getElem hm, h, e]
theorem alike_c (a : Trm) : ∀ b : Trm, ACallP Tryz.prog 48 [.agg a.cells, .agg b.cells] (.bool (a.alk b)) := by
 induction a using Trm.ind with
 | h a ih =>
  intro b
  have he := a.alk_eq b
  refine ACall.of_body tt_ok Tryz.func48 rfl rfl (n := 74) rfl rfl ?_
  conv => whnf
  repeat' (first|((first|((first|(apply zY;intro hg)|apply zZ);first|exact stA|exact stB)|(refine zW ?_ ?_;exact gA)|refine zH rfl ?_|refine zA ?_|refine zI bA ?_|refine zI rfl ?_|refine sB ?_|(refine zO ?_ ?_ ?_;omega;omega)|(refine zP ?_ ?_ ?_;omega;omega)|refine zM rfl ?_|(refine zQ ?_ ?_ ?_;omega;omega)|(refine zR ?_ ?_;omega)|(refine zI ?_ ?_;exact nA)|refine sS ?_|refine sE ?_|refine n0 ?_|refine sD ?_|refine PDraw.sP (some 44) rfl [] [] tt_ok mixed ?_|refine PDraw.sP (some 62) rfl [] [] tt_ok mixed ?_|intro _|refine zG ?_);conv=>whnf)|(refine zX (fun hc => ?_) (fun hc => ?_)<;>(try simp only [SY] at hc)<;>first|omega|(conv=>whnf)))
  ·exact PRet.pure (Wk.ff (by
    rw [he, Bool.eq_false_iff]
    intro h
    simp only [Bool.and_eq_true, beq_iff_eq] at h
    obtain ⟨⟨⟨h1, h2⟩, h3⟩, h4⟩ := h
    have h5 := Trm.alks_len h4
    simp only [h1, h2, h3, h5, not_true_eq_false, or_self] at hc))
  have h0 := hc
  refine PLoop.keep [4, 5, 37, 38, 39, 40, 41, 42, 43, 44, 45, 46, 47, 48, 49, 50, 51, 52, 53, 54] (fun i : Nat => [(5, .int .i64 i)]) (fun i => i ≤ a.v.length ∧ a.v.take i = b.v.take i) (fun i => a.v.length - i) 0 ⟨Nat.zero_le _, by simp⟩ wA ?_
  rintro i ⟨hi, hm⟩
  conv => whnf
  repeat' (first|((first|((first|(apply zY;intro hg)|apply zZ);first|exact stA|exact stB)|(refine zW ?_ ?_;exact gA)|refine zH rfl ?_|refine zA ?_|refine zI bA ?_|refine zI rfl ?_|refine sB ?_|(refine zO ?_ ?_ ?_;omega;omega)|(refine zP ?_ ?_ ?_;omega;omega)|refine zM rfl ?_|(refine zQ ?_ ?_ ?_;omega;omega)|(refine zR ?_ ?_;omega)|(refine zI ?_ ?_;exact nA)|refine sS ?_|refine sE ?_|refine n0 ?_|refine sD ?_|refine PDraw.sP (some 44) rfl [] [] tt_ok mixed ?_|refine PDraw.sP (some 62) rfl [] [] tt_ok mixed ?_|intro _|refine zG ?_);conv=>whnf)|(refine zX (fun hc => ?_) (fun hc => ?_)<;>(try simp only [SY] at hc)<;>first|omega|(conv=>whnf)))
  ·have ha : i < a.v.length := by omega
   have hb : i < b.v.length := by omega
   exact PRet.pure (Wk.ff (by
    rw [he, Bool.eq_false_iff]
    intro h
    simp only [Bool.and_eq_true, beq_iff_eq] at h
    apply hc
    simp only [h.1.2]))
  ·exact loopTo (i + 1) ⟨by omega, take_snoc hm (by omega) (by omega) hc⟩ (by show a.v.length - (i + 1) < a.v.length - i; omega) wA
  have hv : a.v = b.v := by rw [List.take_of_length_le (by omega), List.take_of_length_le (by omega)] at hm; exact hm
  have he2 : a.alk b = Trm.alks a.t b.t := by rw [he, h0.1.1.1, h0.1.1.2, hv]; simp
  rw [he2]
  refine PLoop.keep [4, 6, 55, 56, 57, 58, 59, 60, 61, 62, 63, 64, 65, 66, 67, 68, 69, 70, 71, 72, 73] (fun i : Nat => [(6, .int .i64 i)]) (fun i => i ≤ a.t.length ∧ Trm.alks (a.t.drop i) (b.t.drop i) = Trm.alks a.t b.t) (fun i => a.t.length - i) 0 ⟨Nat.zero_le _, rfl⟩ wA ?_
  rintro j ⟨hj, hm⟩
  conv => whnf
  repeat' (first|((first|((first|(apply zY;intro hg)|apply zZ);first|exact stA|exact stB|((conv=>whnf);(repeat ((first|(refine zW ?_ ?_;exact gA)|refine pC (ih _ (List.getElem_mem _) _) wR ?_|refine pC (ih _ (List.getElem_mem _) _) cA ?_|intro _);conv=>whnf));first|exact pS|exact pL|exact pE))|(refine zW ?_ ?_;exact gA)|refine zH rfl ?_|refine zA ?_|refine zI bA ?_|refine zI rfl ?_|refine sB ?_|(refine zO ?_ ?_ ?_;omega;omega)|(refine zP ?_ ?_ ?_;omega;omega)|refine zM rfl ?_|(refine zQ ?_ ?_ ?_;omega;omega)|(refine zR ?_ ?_;omega)|(refine zI ?_ ?_;exact nA)|refine sS ?_|refine pC (ih _ (List.getElem_mem _) _) wR ?_|refine pC (ih _ (List.getElem_mem _) _) cA ?_|refine sE ?_|refine n0 ?_|refine sD ?_|refine PDraw.sP (some 44) rfl [] [] tt_ok mixed ?_|refine PDraw.sP (some 62) rfl [] [] tt_ok mixed ?_|intro _|refine zG ?_);conv=>whnf)|(refine zX (fun hc => ?_) (fun hc => ?_)<;>(try simp only [SY] at hc)<;>first|omega|(conv=>whnf)))
  ·rw [drop_at (show j < a.t.length by omega), drop_at (show j < b.t.length by omega), Trm.alks, hc, Bool.false_and] at hm
   exact PRet.pure (Wk.ff hm.symm)
  ·rw [drop_at (show j < a.t.length by omega), drop_at (show j < b.t.length by omega), Trm.alks, hc, Bool.true_and] at hm
   exact loopTo (j + 1) ⟨by omega, hm⟩ (by show a.t.length - (j + 1) < a.t.length - j; omega) wA
  ·rw [List.drop_of_length_le (by omega), List.drop_of_length_le (by omega), Trm.alks] at hm
   exact PRet.pure (Wk.tt hm.symm)
mutual
def Datum.alk : Datum → Datum → Bool
 | .mk k n d s l, .mk k' n' d' s' l' => k == k' && n == n' && d == d' && s == s' && Datum.alks l l'
def Datum.alks : List Datum → List Datum → Bool
 | [], [] => true
 | x :: xs, y :: ys => Datum.alk x y && Datum.alks xs ys
 | _, _ => false
end
theorem Datum.alk_eq (a b : Datum) : a.alk b = (a.kind == b.kind && a.n == b.n && a.d == b.d && a.s == b.s && Datum.alks a.l b.l) := by cases a; cases b; rw [Datum.alk]; rfl
theorem Datum.alk_self (a : Datum) : a.alk a = true := by
 induction a using Datum.ind with
 | h t ih =>
  have key : ∀ l : List Datum, (∀ x ∈ l, x.alk x = true) → Datum.alks l l = true := by
   intro l
   induction l with
   | nil => intro _; rw [Datum.alks]
   | cons x l ihl => intro h; rw [Datum.alks, h x (by simp), ihl fun y hy => h y (by simp [hy])]; rfl
  rw [Datum.alk_eq, key _ ih]; simp
theorem Datum.alks_self (l : List Datum) : Datum.alks l l = true := by
 induction l with
 | nil => rw [Datum.alks]
 | cons x l ih => rw [Datum.alks, x.alk_self, ih]; rfl
theorem Datum.alks_len : ∀ {l m : List Datum}, Datum.alks l m = true → l.length = m.length
 | [], [], _ => rfl
 | x :: l, y :: m, h => by rw [Datum.alks, Bool.and_eq_true] at h; rw [List.length_cons, List.length_cons, Datum.alks_len h.2]
 | [], _ :: _, h => by simp [Datum.alks] at h
 | _ :: _, [], h => by simp [Datum.alks] at h
theorem dalike_c (a : Datum) : ∀ b : Datum, ACallP Tryz.prog 99 [.agg a.cells, .agg b.cells] (.bool (a.alk b)) := by
 induction a using Datum.ind with
 | h a ih =>
  intro b
  have he := a.alk_eq b
  refine ACall.of_body tt_ok Tryz.func99 rfl rfl (n := 60) rfl rfl ?_
  conv => whnf
  repeat' (first|((first|((first|(apply zY;intro hg)|apply zZ);first|exact stA|exact stB|((conv=>whnf);(repeat ((first|(refine zW ?_ ?_;exact gA)|refine pC (ih _ (List.getElem_mem _) _) wR ?_|refine pC (ih _ (List.getElem_mem _) _) cA ?_|intro _);conv=>whnf));first|exact pS|exact pL|exact pE))|(refine zW ?_ ?_;exact gA)|refine zH rfl ?_|refine zA ?_|refine zI bA ?_|refine zI rfl ?_|refine sB ?_|(refine zO ?_ ?_ ?_;omega;omega)|(refine zP ?_ ?_ ?_;omega;omega)|refine zM rfl ?_|(refine zQ ?_ ?_ ?_;omega;omega)|(refine zR ?_ ?_;omega)|(refine zI ?_ ?_;exact nA)|refine sS ?_|refine pC (ih _ (List.getElem_mem _) _) wR ?_|refine pC (ih _ (List.getElem_mem _) _) cA ?_|refine sE ?_|refine n0 ?_|refine sD ?_|refine PDraw.sP (some 48) rfl [] [] tt_ok mixed ?_|intro _|refine zG ?_);conv=>whnf)|(refine zX (fun hc => ?_) (fun hc => ?_)<;>(try simp only [SY] at hc)<;>first|omega|(conv=>whnf)))
  ·exact PRet.pure (Wk.ff (by
    rw [he, Bool.eq_false_iff]
    intro h
    simp only [Bool.and_eq_true, beq_iff_eq] at h
    obtain ⟨⟨⟨⟨h1, h2⟩, h3⟩, h4⟩, h5⟩ := h
    have h6 := Datum.alks_len h5
    simp only [h1, h2, h3, h4, h6, not_true_eq_false, or_self] at hc))
  have h0 := hc
  have he2 : a.alk b = Datum.alks a.l b.l := by rw [he, h0.1.1.1.1, h0.1.1.1.2, h0.1.1.2, h0.1.2]; simp
  rw [he2]
  refine PLoop.keep [4, 5, 41, 42, 43, 44, 45, 46, 47, 48, 49, 50, 51, 52, 53, 54, 55, 56, 57, 58, 59] (fun i : Nat => [(5, .int .i64 i)]) (fun i => i ≤ a.l.length ∧ Datum.alks (a.l.drop i) (b.l.drop i) = Datum.alks a.l b.l) (fun i => a.l.length - i) 0 ⟨Nat.zero_le _, rfl⟩ wA ?_
  rintro j ⟨hj, hm⟩
  conv => whnf
  repeat' (first|((first|((first|(apply zY;intro hg)|apply zZ);first|exact stA|exact stB|((conv=>whnf);(repeat ((first|(refine zW ?_ ?_;exact gA)|refine pC (ih _ (List.getElem_mem _) _) wR ?_|refine pC (ih _ (List.getElem_mem _) _) cA ?_|intro _);conv=>whnf));first|exact pS|exact pL|exact pE))|(refine zW ?_ ?_;exact gA)|refine zH rfl ?_|refine zA ?_|refine zI bA ?_|refine zI rfl ?_|refine sB ?_|(refine zO ?_ ?_ ?_;omega;omega)|(refine zP ?_ ?_ ?_;omega;omega)|refine zM rfl ?_|(refine zQ ?_ ?_ ?_;omega;omega)|(refine zR ?_ ?_;omega)|(refine zI ?_ ?_;exact nA)|refine sS ?_|refine pC (ih _ (List.getElem_mem _) _) wR ?_|refine pC (ih _ (List.getElem_mem _) _) cA ?_|refine sE ?_|refine n0 ?_|refine sD ?_|refine PDraw.sP (some 48) rfl [] [] tt_ok mixed ?_|intro _|refine zG ?_);conv=>whnf)|(refine zX (fun hc => ?_) (fun hc => ?_)<;>(try simp only [SY] at hc)<;>first|omega|(conv=>whnf)))
  ·rw [drop_at (show j < a.l.length by omega), drop_at (show j < b.l.length by omega), Datum.alks, hc, Bool.false_and] at hm
   exact PRet.pure (Wk.ff hm.symm)
  ·rw [drop_at (show j < a.l.length by omega), drop_at (show j < b.l.length by omega), Datum.alks, hc, Bool.true_and] at hm
   exact loopTo (j + 1) ⟨by omega, hm⟩ (by show a.l.length - (j + 1) < a.l.length - j; omega) wA
  ·rw [List.drop_of_length_le (by omega), List.drop_of_length_le (by omega), Datum.alks] at hm
   exact PRet.pure (Wk.tt hm.symm)
theorem consts_c (a b : List Datum) : ACallP Tryz.prog 47 [.sl 5 (a.map Datum.pv) none, .sl 5 (b.map Datum.pv) none] (.bool (Datum.alks a b)) := by
 refine ACall.of_body tt_ok Tryz.func47 rfl rfl (n := 27) rfl rfl ?_
 conv => whnf
 repeat' (first|((first|((first|(apply zY;intro hg)|apply zZ);first|exact stA|exact stB|((conv=>whnf);(repeat ((first|(refine zW ?_ ?_;exact gA)|refine pC (ih _ (List.getElem_mem _) _) wR ?_|refine pC (ih _ (List.getElem_mem _) _) cA ?_|intro _);conv=>whnf));first|exact pS|exact pL|exact pE))|(refine zW ?_ ?_;exact gA)|refine zH rfl ?_|refine zA ?_|refine zI bA ?_|refine zI rfl ?_|refine sB ?_|(refine zO ?_ ?_ ?_;omega;omega)|(refine zP ?_ ?_ ?_;omega;omega)|refine zM rfl ?_|(refine zQ ?_ ?_ ?_;omega;omega)|(refine zR ?_ ?_;omega)|(refine zI ?_ ?_;exact nA)|refine sS ?_|refine pC (ih _ (List.getElem_mem _) _) wR ?_|refine pC (ih _ (List.getElem_mem _) _) cA ?_|refine sE ?_|refine n0 ?_|refine sD ?_|refine PDraw.sP (some 17) rfl [] [] tt_ok mixed ?_|intro _|refine zG ?_);conv=>whnf)|(refine zX (fun hc => ?_) (fun hc => ?_)<;>(try simp only [SY] at hc)<;>first|omega|(conv=>whnf)))
 ·exact PRet.pure (Wk.ff (by
   rw [Bool.eq_false_iff]
   intro h
   have := Datum.alks_len h
   omega))
 refine PLoop.keep [4, 5, 11, 12, 13, 14, 15, 16, 17, 18, 19, 20, 21, 22, 23, 24, 25, 26] (fun i : Nat => [(5, .int .i64 i)]) (fun i => i ≤ a.length ∧ Datum.alks (a.drop i) (b.drop i) = Datum.alks a b) (fun i => a.length - i) 0 ⟨Nat.zero_le _, rfl⟩ wA ?_
 rintro j ⟨hj, hm⟩
 conv => whnf
 repeat' (first|((first|((first|(apply zY;intro hg)|apply zZ);first|exact stA|exact stB|((conv=>whnf);(repeat ((first|(refine zW ?_ ?_;exact gA)|refine pC (dalike_c _ _) wR ?_|refine pC (dalike_c _ _) cA ?_|intro _);conv=>whnf));first|exact pS|exact pL|exact pE))|(refine zW ?_ ?_;exact gA)|refine zH rfl ?_|refine zA ?_|refine zI bA ?_|refine zI rfl ?_|refine sB ?_|(refine zO ?_ ?_ ?_;omega;omega)|(refine zP ?_ ?_ ?_;omega;omega)|refine zM rfl ?_|(refine zQ ?_ ?_ ?_;omega;omega)|(refine zR ?_ ?_;omega)|(refine zI ?_ ?_;exact nA)|refine sS ?_|refine pC (dalike_c _ _) wR ?_|refine pC (dalike_c _ _) cA ?_|refine sE ?_|refine n0 ?_|refine sD ?_|refine PDraw.sP (some 17) rfl [] [] tt_ok mixed ?_|intro _|refine zG ?_);conv=>whnf)|(refine zX (fun hc => ?_) (fun hc => ?_)<;>(try simp only [SY] at hc)<;>first|omega|(conv=>whnf)))
 ·rw [drop_at (show j < a.length by omega), drop_at (show j < b.length by omega), Datum.alks, hc, Bool.false_and] at hm
  exact PRet.pure (Wk.ff hm.symm)
 ·rw [drop_at (show j < a.length by omega), drop_at (show j < b.length by omega), Datum.alks, hc, Bool.true_and] at hm
  exact loopTo (j + 1) ⟨by omega, hm⟩ (by show a.length - (j + 1) < a.length - j; omega) wA
 ·rw [List.drop_of_length_le (by omega), List.drop_of_length_le (by omega), Datum.alks] at hm
  exact PRet.pure (Wk.tt hm.symm)
def Prog.same (p q : Prog) : Bool := Datum.alks p.consts q.consts && p.body.alk q.body
end Go.Cb
namespace Go.Cb
open Go.Proofs
set_option maxRecDepth 100000
set_option maxHeartbeats 4000000
theorem takeWhile_at {p : Int → Bool} : ∀ {l : List Int} {k : Nat}, k ≤ l.length → (∀ j (h : j < l.length), j < k → p l[j] = true) → (∀ h : k < l.length, p (l[k]) = false) → l.takeWhile p = l.take k ∧ l.dropWhile p = l.drop k
 | [], k, _, _, _ => by simp
 | x :: l, 0, _, _, h => by
  have := h (by simp)
  simp at this
  simp [List.takeWhile_cons, List.dropWhile_cons, this]
 | x :: l, k + 1, hk, h1, h2 => by
  have h0 := h1 0 (by simp) (by omega)
  simp at h0
  have ih := takeWhile_at (p := p) (l := l) (k := k) (by simpa using hk) (fun j hj hjk => h1 (j + 1) (by simpa using hj) (by omega)) (fun h => h2 (by simpa using h))
  simp [List.takeWhile_cons, List.dropWhile_cons, h0, ih]
theorem put_c (l : List Int) (v : Int) (hl : l.length ≤ 1000000000) : ACallP Tryz.prog 233 [slI l, .int .i64 v] (slI (putI l v)) := by
 refine ACall.of_body tt_ok Tryz.func233 rfl rfl (n := 45) rfl rfl ?_
 conv => whnf
 repeat ((first|((first|(apply zY;intro hg)|apply zZ);first|exact stA|exact stB)|(refine zW ?_ ?_;exact gA)|refine zH rfl ?_|refine zA ?_|refine zI bA ?_|refine zI rfl ?_|refine sB ?_|(refine zO ?_ ?_ ?_;omega;omega)|(refine zP ?_ ?_ ?_;omega;omega)|refine zM rfl ?_|(refine zQ ?_ ?_ ?_;omega;omega)|(refine zR ?_ ?_;omega)|(refine zI ?_ ?_;exact nA)|refine sS ?_|refine sE ?_|refine n0 ?_|refine sD ?_|refine PDraw.sT (some 33) rfl [0,4,7] [11,12] tt_ok mixed ?_|intro _);conv=>whnf)
 refine PLoop.keep [5, 6, 7, 8, 9, 10, 11, 12, 13, 14, 15, 16, 17, 18, 19] (fun k : Nat => [(5, .int .i64 k)]) (fun k => k ≤ l.length ∧ ∀ j (h : j < l.length), j < k → l[j] < v) (fun k => l.length - k) 0 ⟨Nat.zero_le _, fun _ _ h => by omega⟩ wA ?_
 rintro k ⟨hk, hm⟩
 have hgd : ∀ h : k < l.length, l.getD k Dfl.d = l[k] := fun h => by simp [List.getD, h]
 conv => whnf
 repeat' (first|((first|((first|(apply zY;intro hg)|apply zZ);first|exact stA|exact stB)|(refine zW ?_ ?_;exact gA)|refine zH rfl ?_|refine zA ?_|refine zI bA ?_|refine zI rfl ?_|refine sB ?_|(refine zO ?_ ?_ ?_;omega;omega)|(refine zP ?_ ?_ ?_;omega;omega)|refine zM rfl ?_|(refine zQ ?_ ?_ ?_;omega;omega)|(refine zR ?_ ?_;omega)|(refine zI ?_ ?_;exact nA)|refine sS ?_|refine sE ?_|refine n0 ?_|refine sD ?_|refine PDraw.sT (some 33) rfl [0,4,7] [11,12] tt_ok mixed ?_|intro _|refine zG ?_);conv=>whnf)|(refine zX (fun hc => ?_) (fun hc => ?_)<;>(try simp only [SY] at hc)<;>first|omega|(conv=>whnf)))
 ·have hlt : k < l.length := by omega
  rw [hgd hlt] at hc
  refine loopTo (k + 1) ⟨by omega, fun j hj hjk => ?_⟩ (by show l.length - (k + 1) < l.length - k; omega) wA
  by_cases e : j = k
  ·subst e; exact hc.2
  ·exact hm j hj (by omega)
 ·have hlt : k < l.length := by omega
  rw [hgd hlt] at hc
  obtain ⟨h1, h2⟩ := takeWhile_at (p := fun x => decide (x < v)) hk (fun j hj hjk => by simpa using hm j hj hjk) (fun h => by simp; omega)
  refine PRet.pure (Wk.sl ?_)
  congr 1
  unfold putI
  rw [h1, h2, drop_at hlt, hc.2]
  simp only [List.head?_cons, if_true]
  rw [← hc.2, ← drop_at hlt, List.take_append_drop]
 ·have h0 : (l.length : Int) ≤ (k : Int) ∨ v ≤ l.getD k Dfl.d := by assumption
  obtain ⟨h1, h2⟩ := takeWhile_at (p := fun x => decide (x < v)) hk (fun j hj hjk => by simpa using hm j hj hjk) (fun h => by
   have := hgd h
   rw [this] at h0
   simp; omega)
  have e : putI l v = l.take k ++ [v] ++ l.drop k := by
   unfold putI
   rw [h1, h2, if_neg, List.append_assoc]
   ·rfl
   ·intro h
    rcases Nat.lt_or_ge k l.length with hlt | hge
    ·rw [drop_at hlt] at h
     simp only [List.head?_cons, Option.some.injEq] at h
     rw [hgd hlt] at hc
     rcases hc with hc | hc
     ·omega
     ·exact hc h
    ·rw [List.drop_of_length_le hge] at h; cases h
  rw [e]
  exact PRet.pure wA
theorem slI_nil : Wk .nil (slI []) := Wk.nil' rfl
end Go.Cb
namespace Go.Cb
open Go.Proofs
set_option maxRecDepth 100000
set_option maxHeartbeats 4000000
theorem freeOf_append (a b : List (Trm × List Int)) : freeOf (a ++ b) = freeOf a ++ freeOf b := by simp [freeOf]
theorem fold_put : ∀ (l out : List Int), out.Pairwise (· < ·) → (l.foldl putI out).Pairwise (· < ·) ∧ (l.foldl putI out).length ≤ out.length + l.length
 | [], out, h => ⟨h, by simp⟩
 | x :: l, out, h => by
  obtain ⟨a, b⟩ := fold_put l (putI out x) (putI_lt x h)
  have := putI_len x out
  refine ⟨a, ?_⟩
  simp only [List.foldl_cons, List.length_cons]
  omega
theorem free_len (t : Trm) (sc : List Int) (deep : Int) (o : List Int) (ho : o.Pairwise (· < ·)) : ((freeOf (t.met sc deep)).foldl putI o).Pairwise (· < ·) ∧ ((freeOf (t.met sc deep)).foldl putI o).length ≤ o.length + t.bulk := by
 obtain ⟨a, b⟩ := fold_put (freeOf (t.met sc deep)) o ho
 have h1 := t.met_len sc deep
 have h2 : (freeOf (t.met sc deep)).length ≤ (t.met sc deep).length := by rw [freeOf, List.length_map]; exact List.length_filter_le _ _
 exact ⟨a, by omega⟩
theorem mets_in {t : Trm} {j : Nat} (hlt : j < t.t.length) (hc : (j : Int) = (t.t.length : Int) - 1 ∨ t.op = 7 ∨ t.op = 9) : groupB t.op = true ∨ t.t.drop (j + 1) = [] := by
 rcases hc with hc | hc
 ·right; exact List.drop_of_length_le (by omega)
 ·left; simp [groupB]; exact hc
theorem mets_out {t : Trm} {j : Nat} (hlt : j < t.t.length) (hc : ¬(j : Int) = (t.t.length : Int) - 1) (h7 : ¬t.op = 7) (h9 : ¬t.op = 9) : ¬(groupB t.op = true ∨ t.t.drop (j + 1) = []) := by
 rintro (h | h)
 ·simp [groupB] at h; omega
 ·have := congrArg List.length h
  rw [List.length_drop, List.length_nil] at this
  omega
theorem free_d (t : Trm) : ∀ (sc : List Int) (deep : Int) (out : List Int), 0 ≤ deep → deep ≤ 1000 → out.Pairwise (· < ·) → out.length + t.bulk ≤ 1000000000 → sc.length + t.bulk ≤ 1000000000 →
  ACallP Tryz.prog 207 [.agg t.cells, slI sc, .int .i64 deep, slI out] (slI ((freeOf (t.met sc deep)).foldl putI out)) := by
 induction t using Trm.ind with
 | h t ih =>
  intro sc deep out h0 h1 ho hb hs
  have hbe := t.bulk_eq
  have hbs := Trm.bulks_length t.t
  refine ACall.of_body tt_ok Tryz.func207 rfl rfl (n := 89) rfl rfl ?_
  conv => whnf
  repeat ((first|((first|(apply zY;intro hg)|apply zZ);first|exact stA|exact stB|((conv=>whnf);(repeat ((first|(refine zW ?_ ?_;exact gA)|refine pC (has_c sc t.n) wR ?_|refine pC (has_c sc t.n) cA ?_|refine pC (put_c out t.n (by omega)) wR ?_|intro _);conv=>whnf));first|exact pS|exact pL|exact pE))|(refine zW ?_ ?_;exact gA)|refine zH rfl ?_|refine zA ?_|refine zI bA ?_|refine zI rfl ?_|refine sB ?_|(refine zO ?_ ?_ ?_;omega;omega)|(refine zP ?_ ?_ ?_;omega;omega)|refine zM rfl ?_|(refine zQ ?_ ?_ ?_;omega;omega)|(refine zR ?_ ?_;omega)|(refine zI ?_ ?_;exact nA)|refine sS ?_|refine pC (has_c sc t.n) wR ?_|refine pC (has_c sc t.n) cA ?_|refine pC (put_c out t.n (by omega)) wR ?_|refine sE ?_|refine n0 ?_|refine sD ?_|refine PDraw.sT (some 35) rfl [0,2] [5,6] tt_ok mixed ?_|intro _);conv=>whnf)
  have hfm : freeOf (t.met sc deep) = (if namesB t.op = true ∧ sc.contains t.n = false then [t.n] else []) ++ if deep ≥ 1000 then [] else freeOf (Trm.mets t.op sc (sc ++ t.v) t.t (deep + 1)) := by
   rw [Trm.met_eq, ← List.singleton_append, freeOf_append]
   congr 1
   ·unfold freeOf
    by_cases hc : namesB t.op = true ∧ sc.contains t.n = false
    ·rw [if_pos hc, List.filter_cons_of_pos (by simp only [hc.1, hc.2]; rfl)]; rfl
    ·rw [if_neg hc]
     simp only [List.map_eq_nil_iff, List.filter_eq_nil_iff, List.mem_singleton]
     rintro m rfl
     simp only [Bool.and_eq_true, Bool.not_eq_true']
     exact hc
   ·split <;> rfl
  conv => whnf
  repeat' (first|((first|((first|(apply zY;intro hg)|apply zZ);first|exact stA|exact stB|((conv=>whnf);(repeat ((first|(refine zW ?_ ?_;exact gA)|refine pC (has_c sc t.n) wR ?_|refine pC (has_c sc t.n) cA ?_|refine pC (put_c out t.n (by omega)) wR ?_|intro _);conv=>whnf));first|exact pS|exact pL|exact pE))|(refine zW ?_ ?_;exact gA)|refine zH rfl ?_|refine zA ?_|refine zI bA ?_|refine zI rfl ?_|refine sB ?_|(refine zO ?_ ?_ ?_;omega;omega)|(refine zP ?_ ?_ ?_;omega;omega)|refine zM rfl ?_|(refine zQ ?_ ?_ ?_;omega;omega)|(refine zR ?_ ?_;omega)|(refine zI ?_ ?_;exact nA)|refine sS ?_|refine pC (has_c sc t.n) wR ?_|refine pC (has_c sc t.n) cA ?_|refine pC (put_c out t.n (by omega)) wR ?_|refine sE ?_|refine n0 ?_|refine sD ?_|refine PDraw.sT (some 35) rfl [0,2] [5,6] tt_ok mixed ?_|intro _|refine zG ?_);conv=>whnf)|(refine zX (fun hc => ?_) (fun hc => ?_)<;>(try simp only [SY] at hc)<;>first|omega|(conv=>whnf)))
  ·have hnb : namesB t.op = true := by simp [namesB]; omega
   have hp0 : (putI out t.n).Pairwise (· < ·) := putI_lt _ ho
   have hpl := putI_len t.n out
   have hst : (if deep ≥ 1000 then putI out t.n else (freeOf (Trm.mets t.op sc (sc ++ t.v) (t.t.drop 0) (deep + 1))).foldl putI (putI out t.n)) = (freeOf (t.met sc deep)).foldl putI out := by
    have e1 : (if namesB t.op = true ∧ sc.contains t.n = false then [t.n] else []) = [t.n] := if_pos ⟨hnb, hc.2⟩
    rw [hfm, e1, List.drop_zero]
    split <;> rfl
   refine PLoop.keep [3, 10, 41, 42, 43, 44, 45, 46, 47, 48, 49, 50, 51, 52, 53, 54, 55, 56, 57, 58, 59, 60, 61, 62, 63, 64, 65, 66, 67, 68, 69, 70, 71, 72, 73, 74, 75, 76, 77, 78, 79, 80, 81, 82, 83, 84, 85, 86, 87] (fun x : Nat × List Int => [(3, slI x.2), (10, .int .i64 x.1)]) (fun x => x.1 ≤ t.t.length ∧ x.2.Pairwise (· < ·) ∧ (x.1 = 0 ∨ deep < 1000) ∧ x.2.length + Trm.bulks (t.t.drop x.1) ≤ 1000000000 ∧ (if deep ≥ 1000 then x.2 else (freeOf (Trm.mets t.op sc (sc ++ t.v) (t.t.drop x.1) (deep + 1))).foldl putI x.2) = (freeOf (t.met sc deep)).foldl putI out) (fun x => t.t.length - x.1) (0, putI out t.n) ⟨Nat.zero_le _, hp0, .inl rfl, by simp only [List.drop_zero]; omega, hst⟩ wA ?_
   rintro ⟨j, o⟩ ⟨hj, hp, hd, hl, hm⟩
   dsimp only at hj hp hd hl hm ⊢
   conv => whnf
   repeat' (first|((first|((first|(apply zY;intro hg)|apply zZ);first|exact stA|exact stB|((conv=>whnf);(repeat ((first|(refine zW ?_ ?_;exact gA)|refine pC (has_c sc t.n) wR ?_|refine pC (has_c sc t.n) cA ?_|refine pC (put_c out t.n (by omega)) wR ?_|intro _);conv=>whnf));first|exact pS|exact pL|exact pE))|(refine zW ?_ ?_;exact gA)|refine zH rfl ?_|refine zA ?_|refine zI bA ?_|refine zI rfl ?_|refine sB ?_|(refine zO ?_ ?_ ?_;omega;omega)|(refine zP ?_ ?_ ?_;omega;omega)|refine zM rfl ?_|(refine zQ ?_ ?_ ?_;omega;omega)|(refine zR ?_ ?_;omega)|(refine zI ?_ ?_;exact nA)|refine sS ?_|refine pC (has_c sc t.n) wR ?_|refine pC (has_c sc t.n) cA ?_|refine pC (put_c out t.n (by omega)) wR ?_|refine sE ?_|refine n0 ?_|refine sD ?_|refine PDraw.sT (some 35) rfl [0,2] [5,6] tt_ok mixed ?_|intro _|refine zG ?_);conv=>whnf)|(refine zX (fun hc => ?_) (fun hc => ?_)<;>(try simp only [SY] at hc)<;>first|omega|(conv=>whnf)))
   ·have hlt : j < t.t.length := by omega
    have hxb := Trm.bulks_mem (List.getElem_mem hlt)
    rw [drop_at hlt, Trm.bulks] at hl
    rw [if_neg (by omega), drop_at hlt, Trm.mets, if_pos (mets_in hlt (by omega)), freeOf_append, List.foldl_append] at hm
    have hfl := free_len t.t[j] (sc ++ t.v) (deep + 1) o hp
    refine PCall.pure (ih _ (List.getElem_mem hlt) (sc ++ t.v) (deep + 1) o (by omega) (by omega) hp (by omega) (by rw [List.length_append]; omega)) (.cons (Wk.refl _) (.cons (Wk.tok _ _ _) (.cons (Wk.refl _) (.cons (Wk.refl _) .nil)))) ?_
    conv => whnf
    repeat' (first|((first|((first|(apply zY;intro hg)|apply zZ);first|exact stA|exact stB|((conv=>whnf);(repeat ((first|(refine zW ?_ ?_;exact gA)|refine pC (has_c sc t.n) wR ?_|refine pC (has_c sc t.n) cA ?_|refine pC (put_c out t.n (by omega)) wR ?_|intro _);conv=>whnf));first|exact pS|exact pL|exact pE))|(refine zW ?_ ?_;exact gA)|refine zH rfl ?_|refine zA ?_|refine zI bA ?_|refine zI rfl ?_|refine sB ?_|(refine zO ?_ ?_ ?_;omega;omega)|(refine zP ?_ ?_ ?_;omega;omega)|refine zM rfl ?_|(refine zQ ?_ ?_ ?_;omega;omega)|(refine zR ?_ ?_;omega)|(refine zI ?_ ?_;exact nA)|refine sS ?_|refine pC (has_c sc t.n) wR ?_|refine pC (has_c sc t.n) cA ?_|refine pC (put_c out t.n (by omega)) wR ?_|refine sE ?_|refine n0 ?_|refine sD ?_|refine PDraw.sT (some 35) rfl [0,2] [5,6] tt_ok mixed ?_|intro _|refine zG ?_);conv=>whnf)|(refine zX (fun hc => ?_) (fun hc => ?_)<;>(try simp only [SY] at hc)<;>first|omega|(conv=>whnf)))
    exact loopTo (j + 1, (freeOf (t.t[j].met (sc ++ t.v) (deep + 1))).foldl putI o) ⟨by show j + 1 ≤ _; omega, hfl.1, .inr (by omega), by dsimp only; omega, by dsimp only; rw [if_neg (by omega)]; exact hm⟩ (by show t.t.length - (j + 1) < t.t.length - j; omega) wA
   ·have hlt : j < t.t.length := by omega
    have hxb := Trm.bulks_mem (List.getElem_mem hlt)
    rw [drop_at hlt, Trm.bulks] at hl
    rw [if_neg (by omega), drop_at hlt, Trm.mets, if_neg (mets_out hlt (by omega) (by omega) (by omega)), freeOf_append, List.foldl_append] at hm
    have hfl := free_len t.t[j] (sc) (deep + 1) o hp
    refine PCall.pure (ih _ (List.getElem_mem hlt) (sc) (deep + 1) o (by omega) (by omega) hp (by omega) (by omega)) (.cons (Wk.refl _) (.cons (Wk.refl _) (.cons (Wk.refl _) (.cons (Wk.refl _) .nil)))) ?_
    conv => whnf
    repeat' (first|((first|((first|(apply zY;intro hg)|apply zZ);first|exact stA|exact stB|((conv=>whnf);(repeat ((first|(refine zW ?_ ?_;exact gA)|refine pC (has_c sc t.n) wR ?_|refine pC (has_c sc t.n) cA ?_|refine pC (put_c out t.n (by omega)) wR ?_|intro _);conv=>whnf));first|exact pS|exact pL|exact pE))|(refine zW ?_ ?_;exact gA)|refine zH rfl ?_|refine zA ?_|refine zI bA ?_|refine zI rfl ?_|refine sB ?_|(refine zO ?_ ?_ ?_;omega;omega)|(refine zP ?_ ?_ ?_;omega;omega)|refine zM rfl ?_|(refine zQ ?_ ?_ ?_;omega;omega)|(refine zR ?_ ?_;omega)|(refine zI ?_ ?_;exact nA)|refine sS ?_|refine pC (has_c sc t.n) wR ?_|refine pC (has_c sc t.n) cA ?_|refine pC (put_c out t.n (by omega)) wR ?_|refine sE ?_|refine n0 ?_|refine sD ?_|refine PDraw.sT (some 35) rfl [0,2] [5,6] tt_ok mixed ?_|intro _|refine zG ?_);conv=>whnf)|(refine zX (fun hc => ?_) (fun hc => ?_)<;>(try simp only [SY] at hc)<;>first|omega|(conv=>whnf)))
    exact loopTo (j + 1, (freeOf (t.t[j].met (sc) (deep + 1))).foldl putI o) ⟨by show j + 1 ≤ _; omega, hfl.1, .inr (by omega), by dsimp only; omega, by dsimp only; rw [if_neg (by omega)]; exact hm⟩ (by show t.t.length - (j + 1) < t.t.length - j; omega) wA
   ·rw [← hm]
    have e : (if deep ≥ 1000 then o else (freeOf (Trm.mets t.op sc (sc ++ t.v) (t.t.drop j) (deep + 1))).foldl putI o) = o := by
     split
     ·rfl
     ·rw [List.drop_of_length_le (by omega), Trm.mets]; rfl
    rw [e]
    exact PRet.pure (Wk.refl _)
  ·have hp0 := ho
   have hst : (if deep ≥ 1000 then out else (freeOf (Trm.mets t.op sc (sc ++ t.v) (t.t.drop 0) (deep + 1))).foldl putI out) = (freeOf (t.met sc deep)).foldl putI out := by
    have hn : ¬(namesB t.op = true ∧ sc.contains t.n = false) := by
     rintro ⟨h1, h2⟩
     simp [namesB] at h1
     rcases hc with hc | hc
     ·omega
     ·rw [h2] at hc; cases hc
    have e1 : (if namesB t.op = true ∧ sc.contains t.n = false then [t.n] else []) = [] := if_neg hn
    rw [hfm, e1, List.drop_zero]
    split <;> rfl
   refine PLoop.keep [3, 10, 41, 42, 43, 44, 45, 46, 47, 48, 49, 50, 51, 52, 53, 54, 55, 56, 57, 58, 59, 60, 61, 62, 63, 64, 65, 66, 67, 68, 69, 70, 71, 72, 73, 74, 75, 76, 77, 78, 79, 80, 81, 82, 83, 84, 85, 86, 87] (fun x : Nat × List Int => [(3, slI x.2), (10, .int .i64 x.1)]) (fun x => x.1 ≤ t.t.length ∧ x.2.Pairwise (· < ·) ∧ (x.1 = 0 ∨ deep < 1000) ∧ x.2.length + Trm.bulks (t.t.drop x.1) ≤ 1000000000 ∧ (if deep ≥ 1000 then x.2 else (freeOf (Trm.mets t.op sc (sc ++ t.v) (t.t.drop x.1) (deep + 1))).foldl putI x.2) = (freeOf (t.met sc deep)).foldl putI out) (fun x => t.t.length - x.1) (0, out) ⟨Nat.zero_le _, hp0, .inl rfl, by simp only [List.drop_zero]; omega, hst⟩ wA ?_
   rintro ⟨j, o⟩ ⟨hj, hp, hd, hl, hm⟩
   dsimp only at hj hp hd hl hm ⊢
   conv => whnf
   repeat' (first|((first|((first|(apply zY;intro hg)|apply zZ);first|exact stA|exact stB|((conv=>whnf);(repeat ((first|(refine zW ?_ ?_;exact gA)|refine pC (has_c sc t.n) wR ?_|refine pC (has_c sc t.n) cA ?_|refine pC (put_c out t.n (by omega)) wR ?_|intro _);conv=>whnf));first|exact pS|exact pL|exact pE))|(refine zW ?_ ?_;exact gA)|refine zH rfl ?_|refine zA ?_|refine zI bA ?_|refine zI rfl ?_|refine sB ?_|(refine zO ?_ ?_ ?_;omega;omega)|(refine zP ?_ ?_ ?_;omega;omega)|refine zM rfl ?_|(refine zQ ?_ ?_ ?_;omega;omega)|(refine zR ?_ ?_;omega)|(refine zI ?_ ?_;exact nA)|refine sS ?_|refine pC (has_c sc t.n) wR ?_|refine pC (has_c sc t.n) cA ?_|refine pC (put_c out t.n (by omega)) wR ?_|refine sE ?_|refine n0 ?_|refine sD ?_|refine PDraw.sT (some 35) rfl [0,2] [5,6] tt_ok mixed ?_|intro _|refine zG ?_);conv=>whnf)|(refine zX (fun hc => ?_) (fun hc => ?_)<;>(try simp only [SY] at hc)<;>first|omega|(conv=>whnf)))
   ·have hlt : j < t.t.length := by omega
    have hxb := Trm.bulks_mem (List.getElem_mem hlt)
    rw [drop_at hlt, Trm.bulks] at hl
    rw [if_neg (by omega), drop_at hlt, Trm.mets, if_pos (mets_in hlt (by omega)), freeOf_append, List.foldl_append] at hm
    have hfl := free_len t.t[j] (sc ++ t.v) (deep + 1) o hp
    refine PCall.pure (ih _ (List.getElem_mem hlt) (sc ++ t.v) (deep + 1) o (by omega) (by omega) hp (by omega) (by rw [List.length_append]; omega)) (.cons (Wk.refl _) (.cons (Wk.tok _ _ _) (.cons (Wk.refl _) (.cons (Wk.refl _) .nil)))) ?_
    conv => whnf
    repeat' (first|((first|((first|(apply zY;intro hg)|apply zZ);first|exact stA|exact stB|((conv=>whnf);(repeat ((first|(refine zW ?_ ?_;exact gA)|refine pC (has_c sc t.n) wR ?_|refine pC (has_c sc t.n) cA ?_|refine pC (put_c out t.n (by omega)) wR ?_|intro _);conv=>whnf));first|exact pS|exact pL|exact pE))|(refine zW ?_ ?_;exact gA)|refine zH rfl ?_|refine zA ?_|refine zI bA ?_|refine zI rfl ?_|refine sB ?_|(refine zO ?_ ?_ ?_;omega;omega)|(refine zP ?_ ?_ ?_;omega;omega)|refine zM rfl ?_|(refine zQ ?_ ?_ ?_;omega;omega)|(refine zR ?_ ?_;omega)|(refine zI ?_ ?_;exact nA)|refine sS ?_|refine pC (has_c sc t.n) wR ?_|refine pC (has_c sc t.n) cA ?_|refine pC (put_c out t.n (by omega)) wR ?_|refine sE ?_|refine n0 ?_|refine sD ?_|refine PDraw.sT (some 35) rfl [0,2] [5,6] tt_ok mixed ?_|intro _|refine zG ?_);conv=>whnf)|(refine zX (fun hc => ?_) (fun hc => ?_)<;>(try simp only [SY] at hc)<;>first|omega|(conv=>whnf)))
    exact loopTo (j + 1, (freeOf (t.t[j].met (sc ++ t.v) (deep + 1))).foldl putI o) ⟨by show j + 1 ≤ _; omega, hfl.1, .inr (by omega), by dsimp only; omega, by dsimp only; rw [if_neg (by omega)]; exact hm⟩ (by show t.t.length - (j + 1) < t.t.length - j; omega) wA
   ·have hlt : j < t.t.length := by omega
    have hxb := Trm.bulks_mem (List.getElem_mem hlt)
    rw [drop_at hlt, Trm.bulks] at hl
    rw [if_neg (by omega), drop_at hlt, Trm.mets, if_neg (mets_out hlt (by omega) (by omega) (by omega)), freeOf_append, List.foldl_append] at hm
    have hfl := free_len t.t[j] (sc) (deep + 1) o hp
    refine PCall.pure (ih _ (List.getElem_mem hlt) (sc) (deep + 1) o (by omega) (by omega) hp (by omega) (by omega)) (.cons (Wk.refl _) (.cons (Wk.refl _) (.cons (Wk.refl _) (.cons (Wk.refl _) .nil)))) ?_
    conv => whnf
    repeat' (first|((first|((first|(apply zY;intro hg)|apply zZ);first|exact stA|exact stB|((conv=>whnf);(repeat ((first|(refine zW ?_ ?_;exact gA)|refine pC (has_c sc t.n) wR ?_|refine pC (has_c sc t.n) cA ?_|refine pC (put_c out t.n (by omega)) wR ?_|intro _);conv=>whnf));first|exact pS|exact pL|exact pE))|(refine zW ?_ ?_;exact gA)|refine zH rfl ?_|refine zA ?_|refine zI bA ?_|refine zI rfl ?_|refine sB ?_|(refine zO ?_ ?_ ?_;omega;omega)|(refine zP ?_ ?_ ?_;omega;omega)|refine zM rfl ?_|(refine zQ ?_ ?_ ?_;omega;omega)|(refine zR ?_ ?_;omega)|(refine zI ?_ ?_;exact nA)|refine sS ?_|refine pC (has_c sc t.n) wR ?_|refine pC (has_c sc t.n) cA ?_|refine pC (put_c out t.n (by omega)) wR ?_|refine sE ?_|refine n0 ?_|refine sD ?_|refine PDraw.sT (some 35) rfl [0,2] [5,6] tt_ok mixed ?_|intro _|refine zG ?_);conv=>whnf)|(refine zX (fun hc => ?_) (fun hc => ?_)<;>(try simp only [SY] at hc)<;>first|omega|(conv=>whnf)))
    exact loopTo (j + 1, (freeOf (t.t[j].met (sc) (deep + 1))).foldl putI o) ⟨by show j + 1 ≤ _; omega, hfl.1, .inr (by omega), by dsimp only; omega, by dsimp only; rw [if_neg (by omega)]; exact hm⟩ (by show t.t.length - (j + 1) < t.t.length - j; omega) wA
   ·rw [← hm]
    have e : (if deep ≥ 1000 then o else (freeOf (Trm.mets t.op sc (sc ++ t.v) (t.t.drop j) (deep + 1))).foldl putI o) = o := by
     split
     ·rfl
     ·rw [List.drop_of_length_le (by omega), Trm.mets]; rfl
    rw [e]
    exact PRet.pure (Wk.refl _)
theorem FreeD_c (t : Trm) (hb : t.bulk ≤ 1000000000) : ACallP Tryz.prog 184 [.agg t.cells] (slI (riseL (freeOf t.all))) := by
 have h := free_d t [] 0 [] (by omega) (by omega) List.Pairwise.nil (by simpa using hb) (by simpa using hb)
 have e : (freeOf (t.met [] 0)).foldl putI [] = riseL (freeOf t.all) := lt_ext (foldl_putI_lt _ [] List.Pairwise.nil) (rise_lt _) fun x => by rw [mem_foldl_putI, mem_rise]; simp [Trm.all]
 rw [e] at h
 have h2 : ACallP Tryz.prog 207 [.agg t.cells, .nil, .int .i64 0, .nil] (slI (riseL (freeOf t.all))) := ACall.wk h (.cons (Wk.refl _) (.cons slI_nil (.cons (Wk.refl _) (.cons slI_nil .nil))))
 refine ACall.of_body tt_ok Tryz.func184 rfl rfl (n := 5) rfl rfl ?_
 conv => whnf
 repeat ((first|((first|(apply zY;intro hg)|apply zZ);first|exact stA|exact stB|((conv=>whnf);(repeat ((first|(refine zW ?_ ?_;exact gA)|refine pC (h2) wR ?_|intro _);conv=>whnf));first|exact pS|exact pL|exact pE))|(refine zW ?_ ?_;exact gA)|refine zH rfl ?_|refine zA ?_|refine zI bA ?_|refine zI rfl ?_|refine sB ?_|(refine zO ?_ ?_ ?_;omega;omega)|(refine zP ?_ ?_ ?_;omega;omega)|refine zM rfl ?_|(refine zQ ?_ ?_ ?_;omega;omega)|(refine zR ?_ ?_;omega)|(refine zI ?_ ?_;exact nA)|refine sS ?_|refine pC (h2) wR ?_|refine sE ?_|refine n0 ?_|refine sD ?_|intro _);conv=>whnf)
 exact PRet.pure (Wk.refl _)
end Go.Cb
namespace Go.Cb
open Go.Proofs
set_option maxRecDepth 100000
set_option maxHeartbeats 4000000
theorem cloneInt_c (l : List Int) (hl : l.length ≤ 1000000000) : ACallP Tryz.prog 100 [slI l] (slI l) := by
 refine ACall.of_body tt_ok Tryz.func100 rfl rfl (n := 8) rfl rfl ?_
 conv => whnf
 repeat' (first|((first|((first|(apply zY;intro hg)|apply zZ);first|exact stA|exact stB)|(refine zW ?_ ?_;exact gA)|refine zH rfl ?_|refine zA ?_|refine zI bA ?_|refine zI rfl ?_|refine sB ?_|(refine zO ?_ ?_ ?_;omega;omega)|(refine zP ?_ ?_ ?_;omega;omega)|refine zM rfl ?_|(refine zQ ?_ ?_ ?_;omega;omega)|(refine zR ?_ ?_;omega)|(refine zI ?_ ?_;exact nA)|refine sS ?_|refine sE ?_|refine n0 ?_|refine sD ?_|intro _|refine zG ?_);conv=>whnf)|(refine zX (fun hc => ?_) (fun hc => ?_)<;>(try simp only [SY] at hc)<;>first|omega|(conv=>whnf)))
 ·rename_i q hq
  have : l = [] := by simpa using hq hc
  subst this
  exact PRet.pure (Wk.nil' rfl)
 ·exact PRet.pure wA
theorem cloneDat_c (l : List Datum) (hl : l.length ≤ 1000000000) : ACallP Tryz.prog 42 [.sl 5 (l.map Datum.pv) none] (.sl 5 (l.map Datum.pv) none) := by
 refine ACall.of_body tt_ok Tryz.func42 rfl rfl (n := 8) rfl rfl ?_
 conv => whnf
 repeat' (first|((first|((first|(apply zY;intro hg)|apply zZ);first|exact stA|exact stB)|(refine zW ?_ ?_;exact gA)|refine zH rfl ?_|refine zA ?_|refine zI bA ?_|refine zI rfl ?_|refine sB ?_|(refine zO ?_ ?_ ?_;omega;omega)|(refine zP ?_ ?_ ?_;omega;omega)|refine zM rfl ?_|(refine zQ ?_ ?_ ?_;omega;omega)|(refine zR ?_ ?_;omega)|(refine zI ?_ ?_;exact nA)|refine sS ?_|refine sE ?_|refine n0 ?_|refine sD ?_|intro _|refine zG ?_);conv=>whnf)|(refine zX (fun hc => ?_) (fun hc => ?_)<;>(try simp only [SY] at hc)<;>first|omega|(conv=>whnf)))
 ·rename_i q hq
  have : l = [] := by simpa using hq hc
  subst this
  exact PRet.pure (Wk.nil' rfl)
 ·exact PRet.pure wA
theorem indexFuncInt_c (k : Nat) (cap : List PV) (Γ1 : List Ent) (p : Int → Bool) (l : List Int) (hf : ∀ x ∈ l, ACall Tryz.prog k (.int .i64 x :: cap) Γ1 (fun y Γ' => y = .bool (p x) ∧ Γ' = Γ1)) :
  ACall Tryz.prog 177 [slI l, .fn (.func k) cap] Γ1 (fun y Γ' => y = .int .i64 (findI p l) ∧ Γ' = Γ1) := by
 refine ACall.of_body tt_ok Tryz.func177 rfl rfl (n := 19) rfl rfl ?_
 conv => whnf
 repeat ((first|((first|(apply zY;intro hg)|apply zZ);first|exact stA|exact stB)|(refine zW ?_ ?_;exact gA)|refine zH rfl ?_|refine zA ?_|refine zI bA ?_|refine zI rfl ?_|refine sB ?_|(refine zO ?_ ?_ ?_;omega;omega)|(refine zP ?_ ?_ ?_;omega;omega)|refine zM rfl ?_|(refine zQ ?_ ?_ ?_;omega;omega)|(refine zR ?_ ?_;omega)|(refine zI ?_ ?_;exact nA)|refine sS ?_|refine sE ?_|refine n0 ?_|refine sD ?_|intro _);conv=>whnf)
 refine PLoop.keep [4, 5, 8, 9, 10, 11, 12, 13, 14, 15, 16, 17, 18] (fun i : Nat => [(8, .int .i64 i)]) (fun i => i ≤ l.length ∧ findI p l = if findI p (l.drop i) = -1 then -1 else i + findI p (l.drop i)) (fun i => l.length - i) 0 ⟨by omega, by simp only [List.drop_zero]; split <;> omega⟩ wA ?_
 rintro i ⟨h1, h2⟩
 conv => whnf
 repeat' (first|((first|((first|(apply zY;intro hg)|apply zZ);first|exact stA|exact stB)|(refine zW ?_ ?_;exact gA)|refine zH rfl ?_|refine zA ?_|refine zI bA ?_|refine zI rfl ?_|refine sB ?_|(refine zO ?_ ?_ ?_;omega;omega)|(refine zP ?_ ?_ ?_;omega;omega)|refine zM rfl ?_|(refine zQ ?_ ?_ ?_;omega;omega)|(refine zR ?_ ?_;omega)|(refine zI ?_ ?_;exact nA)|refine sS ?_|refine sE ?_|refine n0 ?_|refine sD ?_|intro _|refine zG ?_);conv=>whnf)|(refine zX (fun hc => ?_) (fun hc => ?_)<;>(try simp only [SY] at hc)<;>first|omega|(conv=>whnf)))
 ·refine PCall.same (hf _ (List.getElem_mem (show i < l.length by omega))) (WkT.refl _) ?_
  rintro _ _ ⟨rfl, rfl⟩
  rw [drop_at (show i < l.length by omega), findI] at h2
  conv => whnf
  repeat' (first|((first|((first|(apply zY;intro hg)|apply zZ);first|exact stA|exact stB)|(refine zW ?_ ?_;exact gA)|refine zH rfl ?_|refine zA ?_|refine zI bA ?_|refine zI rfl ?_|refine sB ?_|(refine zO ?_ ?_ ?_;omega;omega)|(refine zP ?_ ?_ ?_;omega;omega)|refine zM rfl ?_|(refine zQ ?_ ?_ ?_;omega;omega)|(refine zR ?_ ?_;omega)|(refine zI ?_ ?_;exact nA)|refine sS ?_|refine sE ?_|refine n0 ?_|refine sD ?_|intro _|refine zG ?_);conv=>whnf)|(refine zX (fun hc => ?_) (fun hc => ?_)<;>(try simp only [SY] at hc)<;>first|omega|(conv=>whnf)))
  ·rw [hc] at h2
   refine PRet.gen (Wk.int ?_) ⟨rfl, rfl⟩
   simpa using h2.symm
  ·rw [hc] at h2
   refine loopTo (i + 1) ⟨by omega, ?_⟩ (by show l.length - (i + 1) < l.length - i; omega) wA
   rw [h2]
   have hg := findI_ge p (l.drop (i + 1))
   simp only [Bool.false_eq_true, if_false]
   split
   ·simp
   ·rw [if_neg (by omega)]; omega
 ·rw [List.drop_of_length_le (by omega)] at h2
  exact PRet.gen (Wk.int (by rw [h2]; rfl)) ⟨rfl, rfl⟩
theorem containsFuncInt_c (k : Nat) (cap : List PV) (Γ1 : List Ent) (p : Int → Bool) (l : List Int) (hf : ∀ x ∈ l, ACall Tryz.prog k (.int .i64 x :: cap) Γ1 (fun y Γ' => y = .bool (p x) ∧ Γ' = Γ1)) :
  ACall Tryz.prog 132 [slI l, .fn (.func k) cap] Γ1 (fun y Γ' => y = .bool (l.any p) ∧ Γ' = Γ1) := by
 refine ACall.of_body tt_ok Tryz.func132 rfl rfl (n := 9) rfl rfl ?_
 conv => whnf
 repeat ((first|((first|(apply zY;intro hg)|apply zZ);first|exact stA|exact stB)|(refine zW ?_ ?_;exact gA)|refine zH rfl ?_|refine zA ?_|refine zI bA ?_|refine zI rfl ?_|refine sB ?_|(refine zO ?_ ?_ ?_;omega;omega)|(refine zP ?_ ?_ ?_;omega;omega)|refine zM rfl ?_|(refine zQ ?_ ?_ ?_;omega;omega)|(refine zR ?_ ?_;omega)|(refine zI ?_ ?_;exact nA)|refine sS ?_|refine sE ?_|refine n0 ?_|refine sD ?_|intro _);conv=>whnf)
 refine PCall.same (indexFuncInt_c k cap Γ1 p l hf) (WkT.refl _) ?_
 rintro _ _ ⟨rfl, rfl⟩
 conv => whnf
 repeat ((first|((first|(apply zY;intro hg)|apply zZ);first|exact stA|exact stB)|(refine zW ?_ ?_;exact gA)|refine zH rfl ?_|refine zA ?_|refine zI bA ?_|refine zI rfl ?_|refine sB ?_|(refine zO ?_ ?_ ?_;omega;omega)|(refine zP ?_ ?_ ?_;omega;omega)|refine zM rfl ?_|(refine zQ ?_ ?_ ?_;omega;omega)|(refine zR ?_ ?_;omega)|(refine zI ?_ ?_;exact nA)|refine sS ?_|refine sE ?_|refine n0 ?_|refine sD ?_|intro _);conv=>whnf)
 exact PRet.gen (Wk.bool (findI_any p l)) ⟨rfl, rfl⟩
end Go.Cb
namespace Go.Cb
open Go.Proofs
set_option maxRecDepth 100000
set_option maxHeartbeats 4000000
theorem indexFuncRow_c (k : Nat) (cap : List PV) (Γ1 : List Ent) (p : Int → Bool) (t : Tok) (l : List Int) (hs : t.s = 1) (hll : l.length ≤ 1000000000) (hf : ∀ x ∈ l, ACall Tryz.prog k (.int .i64 x :: cap) Γ1 (fun y Γ' => y = .bool (p x) ∧ Γ' = Γ1)) :
  ACall Tryz.prog 177 [.ms t, .fn (.func k) cap] (.row t (l.map (PV.int .i64)) :: Γ1) (fun y Γ' => y = .int .i64 (findI p l) ∧ Γ' = .row t (l.map (PV.int .i64)) :: Γ1) := by
 refine ACall.of_body tt_ok Tryz.func177 rfl rfl (n := 19) rfl rfl ?_
 conv => whnf
 repeat ((first|((first|(apply zY;intro hg)|apply zZ);first|exact stA|exact stB|exact stC)|(refine zW ?_ ?_;exact gA)|refine zH rfl ?_|refine zA ?_|refine zI bA ?_|refine zI rfl ?_|refine sB ?_|(refine zO ?_ ?_ ?_;omega;omega)|(refine zP ?_ ?_ ?_;omega;omega)|refine zM rfl ?_|(refine zQ ?_ ?_ ?_;omega;omega)|(refine zR ?_ ?_;omega)|(refine zI ?_ ?_;exact nA)|refine sS ?_|refine sF ?_|refine n0 ?_|refine sD ?_|intro _);conv=>whnf)
 refine PLenM.map fun _ => ?_
 conv => whnf
 repeat' (first|((first|((first|(apply zY;intro hg)|apply zZ);first|exact stA|exact stB|exact stC)|(refine zW ?_ ?_;exact gA)|refine zH rfl ?_|refine zA ?_|refine zI bA ?_|refine zI rfl ?_|refine sB ?_|(refine zO ?_ ?_ ?_;omega;omega)|(refine zP ?_ ?_ ?_;omega;omega)|refine zM rfl ?_|(refine zQ ?_ ?_ ?_;omega;omega)|(refine zR ?_ ?_;omega)|(refine zI ?_ ?_;exact nA)|refine sS ?_|refine sF ?_|refine n0 ?_|refine sD ?_|intro _|refine zG ?_);conv=>whnf)|(refine zX (fun hc => ?_) (fun hc => ?_)<;>(try simp only [SY] at hc)<;>first|omega|(conv=>whnf)))
 refine PLoop.keep [4, 5, 8, 9, 10, 11, 12, 13, 14, 15, 16, 17, 18] (fun i : Nat => [(8, .int .i64 i)]) (fun i => i ≤ l.length ∧ findI p l = if findI p (l.drop i) = -1 then -1 else i + findI p (l.drop i)) (fun i => l.length - i) 0 ⟨by omega, by simp only [List.drop_zero]; split <;> omega⟩ wA ?_
 rintro i ⟨h1, h2⟩
 conv => whnf
 repeat' (first|((first|((first|(apply zY;intro hg)|apply zZ);first|exact stA|exact stB|exact stC)|(refine zW ?_ ?_;exact gA)|refine zH rfl ?_|refine zA ?_|refine zI bA ?_|refine zI rfl ?_|refine sB ?_|(refine zO ?_ ?_ ?_;omega;omega)|(refine zP ?_ ?_ ?_;omega;omega)|refine zM rfl ?_|(refine zQ ?_ ?_ ?_;omega;omega)|(refine zR ?_ ?_;omega)|(refine zI ?_ ?_;exact nA)|refine sS ?_|refine sF ?_|refine n0 ?_|refine sD ?_|intro _|refine zG ?_);conv=>whnf)|(refine zX (fun hc => ?_) (fun hc => ?_)<;>(try simp only [SY] at hc)<;>first|omega|(conv=>whnf)))
 ·have hlt : i < l.length := by omega
  refine PCall.goR [.row t (l.map (PV.int .i64))] (hf _ (List.getElem_mem hlt)) (WkT.refl _) (List.Perm.refl _) ?_
  rintro _ Γ0 ⟨rfl, e0⟩
  rw [e0]
  clear e0
  rw [drop_at hlt, findI] at h2
  conv => whnf
  repeat' (first|((first|((first|(apply zY;intro hg)|apply zZ);first|exact stA|exact stB|exact stC)|(refine zW ?_ ?_;exact gA)|refine zH rfl ?_|refine zA ?_|refine zI bA ?_|refine zI rfl ?_|refine sB ?_|(refine zO ?_ ?_ ?_;omega;omega)|(refine zP ?_ ?_ ?_;omega;omega)|refine zM rfl ?_|(refine zQ ?_ ?_ ?_;omega;omega)|(refine zR ?_ ?_;omega)|(refine zI ?_ ?_;exact nA)|refine sS ?_|refine sF ?_|refine n0 ?_|refine sD ?_|intro _|refine zG ?_);conv=>whnf)|(refine zX (fun hc => ?_) (fun hc => ?_)<;>(try simp only [SY] at hc)<;>first|omega|(conv=>whnf)))
  ·rw [hc] at h2
   refine PRet.gen (Γ' := .row t (l.map (PV.int .i64)) :: Γ1) (Wk.int ?_) ⟨rfl, rfl⟩
   simpa using h2.symm
  ·rw [hc] at h2
   refine loopTo (i + 1) ⟨by omega, ?_⟩ (by show l.length - (i + 1) < l.length - i; omega) wA
   rw [h2]
   have hg := findI_ge p (l.drop (i + 1))
   simp only [Bool.false_eq_true, if_false]
   split
   ·simp
   ·rw [if_neg (by omega)]; omega
 ·rw [List.drop_of_length_le (by omega)] at h2
  exact PRet.gen (Γ' := .row t (l.map (PV.int .i64)) :: Γ1) (Wk.int (by rw [h2]; rfl)) ⟨rfl, rfl⟩
theorem findI_len (p : Int → Bool) : ∀ l : List Int, findI p l < l.length
 | [] => by simp [findI]
 | x :: l => by
  have := findI_len p l
  rw [findI]
  simp only [List.length_cons]
  split
  ·omega
  ·split <;> omega
theorem findI_none (p : Int → Bool) : ∀ l : List Int, findI p l = -1 → l.filter (fun x => !p x) = l
 | [], _ => rfl
 | x :: l, h => by
  rw [findI] at h
  have := findI_ge p l
  by_cases hp : p x = true
  ·rw [if_pos hp] at h; omega
  ·rw [if_neg hp] at h
   rw [Bool.not_eq_true] at hp
   rw [List.filter_cons_of_pos (by simp [hp]), findI_none p l (by split at h <;> omega)]
theorem findI_head (p : Int → Bool) : ∀ (l : List Int) (i : Nat), findI p l = i → (l.take (i + 1)).filter (fun x => !p x) = l.take i
 | [], i, h => by rw [findI] at h; omega
 | x :: l, i, h => by
  rw [findI] at h
  have := findI_ge p l
  by_cases hp : p x = true
  ·rw [if_pos hp] at h
   obtain rfl : i = 0 := by omega
   simp [hp]
  ·rw [if_neg hp] at h
   rw [Bool.not_eq_true] at hp
   obtain ⟨j, rfl⟩ : ∃ j, i = j + 1 := ⟨i - 1, by split at h <;> omega⟩
   rw [List.take_succ_cons, List.filter_cons_of_pos (by simp [hp]), List.take_succ_cons, findI_head p l j (by split at h <;> omega)]
theorem deleteFunc_c (k : Nat) (cap : List PV) (Γ1 : List Ent) (p : Int → Bool) (t : Tok) (l : List Int) (hs : t.s = 1) (hll : l.length ≤ 1000000000) (hf : ∀ x ∈ l, ACall Tryz.prog k (.int .i64 x :: cap) Γ1 (fun y Γ' => y = .bool (p x) ∧ Γ' = Γ1)) :
  ACall Tryz.prog 181 [.ms t, .fn (.func k) cap] (.row t (l.map (PV.int .i64)) :: Γ1)
   (fun y Γ' => ∃ t' : Tok, t'.s = 1 ∧ y = .ms t' ∧ Γ' = .row t' ((l.filter fun x => !p x).map (PV.int .i64)) :: Γ1) := by
 refine ACall.of_body tt_ok Tryz.func181 rfl rfl (n := 42) rfl rfl ?_
 conv => whnf
 repeat ((first|((first|(apply zY;intro hg)|apply zZ);first|exact stA|exact stB|exact stC)|(refine zW ?_ ?_;exact gA)|refine zH rfl ?_|refine zA ?_|refine zI bA ?_|refine zI rfl ?_|refine sB ?_|(refine zO ?_ ?_ ?_;omega;omega)|(refine zP ?_ ?_ ?_;omega;omega)|refine zM rfl ?_|(refine zQ ?_ ?_ ?_;omega;omega)|(refine zR ?_ ?_;omega)|(refine zI ?_ ?_;exact nA)|refine sS ?_|refine sF ?_|refine n0 ?_|refine sD ?_|intro _);conv=>whnf)
 refine PCall.same (indexFuncRow_c k cap Γ1 p t l hs hll hf) (WkT.refl _) ?_
 rintro _ _ ⟨rfl, rfl⟩
 have hge := findI_ge p l
 have hlt := findI_len p l
 conv => whnf
 repeat' (first|((first|((first|(apply zY;intro hg)|apply zZ);first|exact stA|exact stB|exact stC)|(refine zW ?_ ?_;exact gA)|refine zH rfl ?_|refine zA ?_|refine zI bA ?_|refine zI rfl ?_|refine sB ?_|(refine zO ?_ ?_ ?_;omega;omega)|(refine zP ?_ ?_ ?_;omega;omega)|refine zM rfl ?_|(refine zQ ?_ ?_ ?_;omega;omega)|(refine zR ?_ ?_;omega)|(refine zI ?_ ?_;exact nA)|refine sS ?_|refine sF ?_|refine n0 ?_|refine sD ?_|intro _|refine zG ?_);conv=>whnf)|(refine zX (fun hc => ?_) (fun hc => ?_)<;>(try simp only [SY] at hc)<;>first|omega|(conv=>whnf)))
 ·rw [findI_none p l (by omega)]
  exact PRet.gen (y := .ms t) (Γ' := .row t (l.map (PV.int .i64)) :: Γ1) (Wk.refl _) ⟨t, hs, rfl, rfl⟩
 obtain ⟨i0, hi0⟩ : ∃ i0 : Nat, findI p l = i0 := ⟨(findI p l).toNat, by omega⟩
 have hhd := findI_head p l i0 hi0
 rw [hi0]
 refine PLoop.over [5, 6, 7, 16, 17, 18, 19, 20, 21, 22, 23, 24, 25, 26, 27, 28, 29, 30, 31, 32, 33, 34, 35] (fun x : Nat × Nat × List Int => [(5, .int .i64 x.1), (6, .int .i64 x.2.1)]) (fun x : Nat × Nat × List Int => .row t (x.2.2.map (PV.int .i64)) :: Γ1)
  (fun x => x.1 < x.2.1 ∧ x.2.1 ≤ l.length ∧ x.2.2.length = l.length ∧ x.2.2.take x.1 = (l.take x.2.1).filter (fun x => !p x) ∧ x.2.2.drop x.2.1 = l.drop x.2.1) (fun x => l.length - x.2.1) (i0, i0 + 1, l) ⟨by show i0 < i0 + 1; omega, by show i0 + 1 ≤ _; omega, rfl, hhd.symm, rfl⟩ wA ?_
 rintro ⟨i, j, m⟩ ⟨h1, h2, h3, h4, h5⟩
 dsimp only at h1 h2 h3 h4 h5 ⊢
 refine PLenM.map fun _ => ?_
 conv => whnf
 repeat' (first|((first|((first|(apply zY;intro hg)|apply zZ);first|exact stA|exact stB|exact stC)|(refine zW ?_ ?_;exact gA)|refine zH rfl ?_|refine zA ?_|refine zI bA ?_|refine zI rfl ?_|refine sB ?_|(refine zO ?_ ?_ ?_;omega;omega)|(refine zP ?_ ?_ ?_;omega;omega)|refine zM rfl ?_|(refine zQ ?_ ?_ ?_;omega;omega)|(refine zR ?_ ?_;omega)|(refine zI ?_ ?_;exact nA)|refine sS ?_|refine sF ?_|refine n0 ?_|refine sD ?_|intro _|refine zG ?_);conv=>whnf)|(refine zX (fun hc => ?_) (fun hc => ?_)<;>(try simp only [SY] at hc)<;>first|omega|(conv=>whnf)))
 ·have hlt2 : j < l.length := by omega
  have hjm : j < m.length := by omega
  have hmj : m[j] = l[j] := by
   rw [drop_at hjm, drop_at hlt2] at h5
   exact (List.cons.inj h5).1
  have hd : m.drop (j + 1) = l.drop (j + 1) := by
   rw [drop_at hjm, drop_at hlt2] at h5
   exact (List.cons.inj h5).2
  have htk : (l.take (j + 1)).filter (fun x => !p x) = (l.take j).filter (fun x => !p x) ++ (if p l[j] = true then [] else [l[j]]) := by
   rw [List.take_succ_eq_append_getElem hlt2, List.filter_append]
   congr 1
   by_cases hp : p l[j] = true
   ·rw [if_pos hp]; simp [hp]
   ·rw [if_neg hp]; simp [hp]
  rw [hmj]
  refine PCall.goR [.row t (m.map (PV.int .i64))] (hf _ (List.getElem_mem hlt2)) (WkT.refl _) (List.Perm.refl _) ?_
  rintro _ Γ0 ⟨rfl, e0⟩
  rw [e0]
  clear e0
  conv => whnf
  repeat' (first|((first|((first|(apply zY;intro hg)|apply zZ);first|exact stA|exact stB|exact stC)|(refine zW ?_ ?_;exact gA)|refine zH rfl ?_|refine zA ?_|refine zI bA ?_|refine zI rfl ?_|refine sB ?_|(refine zO ?_ ?_ ?_;omega;omega)|(refine zP ?_ ?_ ?_;omega;omega)|refine zM rfl ?_|(refine zQ ?_ ?_ ?_;omega;omega)|(refine zR ?_ ?_;omega)|(refine zI ?_ ?_;exact nA)|refine sS ?_|refine sF ?_|refine n0 ?_|refine sD ?_|intro _|refine zG ?_);conv=>whnf)|(refine zX (fun hc => ?_) (fun hc => ?_)<;>(try simp only [SY] at hc)<;>first|omega|(conv=>whnf)))
  ·rw [if_neg (by simp [hc])] at htk
   refine loopTo (i + 1, j + 1, m.set i l[j]) ⟨by show i + 1 < j + 1; omega, by show j + 1 ≤ _; omega, by simp [h3], ?_, ?_⟩ (by show l.length - (j + 1) < l.length - j; omega) wA
   ·show (m.set i l[j]).take (i + 1) = _
    rw [htk, ← h4, List.take_succ_eq_append_getElem (by simp; omega), List.take_set_of_le (Nat.le_refl _)]
    simp
   ·show (m.set i l[j]).drop (j + 1) = _
    rw [List.drop_set_of_lt (by omega), hd]
  ·rw [if_pos (by simpa using hc), List.append_nil] at htk
   exact loopTo (i, j + 1, m) ⟨by show i < j + 1; omega, by show j + 1 ≤ _; omega, h3, by show m.take i = _; rw [htk, h4], hd⟩ (by show l.length - (j + 1) < l.length - j; omega) wA
 ·obtain rfl : j = l.length := by omega
  rw [List.take_length] at h4
  refine PSliceT.tail (i := i) hs (by omega) (by simp; omega) fun v hv => ?_
  conv => whnf
  repeat' (first|((first|((first|(apply zY;intro hg)|apply zZ);first|exact stA|exact stB|exact stC)|(refine zW ?_ ?_;exact gA)|refine zH rfl ?_|refine zA ?_|refine zI bA ?_|refine zI rfl ?_|refine sB ?_|(refine zO ?_ ?_ ?_;omega;omega)|(refine zP ?_ ?_ ?_;omega;omega)|refine zM rfl ?_|(refine zQ ?_ ?_ ?_;omega;omega)|(refine zR ?_ ?_;omega)|(refine zI ?_ ?_;exact nA)|refine sS ?_|refine sF ?_|refine n0 ?_|refine sD ?_|intro _|refine zG ?_);conv=>whnf)|(refine zX (fun hc => ?_) (fun hc => ?_)<;>(try simp only [SY] at hc)<;>first|omega|(conv=>whnf)))
  refine PClear.at_ hv hs (by simp; omega) ?_
  conv => whnf
  repeat' (first|((first|((first|(apply zY;intro hg)|apply zZ);first|exact stA|exact stB|exact stC)|(refine zW ?_ ?_;exact gA)|refine zH rfl ?_|refine zA ?_|refine zI bA ?_|refine zI rfl ?_|refine sB ?_|(refine zO ?_ ?_ ?_;omega;omega)|(refine zP ?_ ?_ ?_;omega;omega)|refine zM rfl ?_|(refine zQ ?_ ?_ ?_;omega;omega)|(refine zR ?_ ?_;omega)|(refine zI ?_ ?_;exact nA)|refine sS ?_|refine sF ?_|refine n0 ?_|refine sD ?_|intro _|refine zG ?_);conv=>whnf)|(refine zX (fun hc => ?_) (fun hc => ?_)<;>(try simp only [SY] at hc)<;>first|omega|(conv=>whnf)))
  have hap : List.take i (m.map (PV.int .i64)) = (l.filter fun x => !p x).map (PV.int .i64) := by rw [← List.map_take, h4]
  have hil : (List.take i (m.map (PV.int .i64))).length = i := by simp; omega
  refine PSliceM.hi (i := i) hs (by omega) (by simp; omega) fun t' e1 e2 => ?_
  rw [List.take_append_of_le_length (by omega), List.take_of_length_le (by omega), hap]
  conv => whnf
  repeat' (first|((first|((first|(apply zY;intro hg)|apply zZ);first|exact stA|exact stB|exact stC)|(refine zW ?_ ?_;exact gA)|refine zH rfl ?_|refine zA ?_|refine zI bA ?_|refine zI rfl ?_|refine sB ?_|(refine zO ?_ ?_ ?_;omega;omega)|(refine zP ?_ ?_ ?_;omega;omega)|refine zM rfl ?_|(refine zQ ?_ ?_ ?_;omega;omega)|(refine zR ?_ ?_;omega)|(refine zI ?_ ?_;exact nA)|refine sS ?_|refine sF ?_|refine n0 ?_|refine sD ?_|intro _|refine zG ?_);conv=>whnf)|(refine zX (fun hc => ?_) (fun hc => ?_)<;>(try simp only [SY] at hc)<;>first|omega|(conv=>whnf)))
  exact PRet.gen (y := .ms t') (Γ' := .row t' ((l.filter fun x => !p x).map (PV.int .i64)) :: Γ1) (Wk.refl _) ⟨t', by omega, rfl, rfl⟩
end Go.Cb
namespace Go.Cb
open Go.Proofs
set_option maxRecDepth 100000
set_option maxHeartbeats 4000000
def Kn.pa (f : Kn) : PV := .agg [.int .i64 f.code, .bool f.st]
theorem PLook.kn {r : Nat} {fm : Fm} {n : Int} {Γ : List Ent} {pend : List (Int × Value)} {put : (Value → Option PV) → List (Int × Value) → List Ent} [hp : PickMp Γ r (.int .i64) (mapM Kn.pa fm) pend put] {K : PV → Bool → Prop}
  (h : K (.agg [.int .i64 (codeF fm n), .bool (stF fm n)]) (fm n).isSome) : PLook r (.int .i64) (some (.int .i64 n)) (.agg [.int .i64 0, .bfalse]) Γ K :=
 PLook.at_ (hp := hp) _ _ (by simp [MapKept.IsKey]) (fun p hp => by
  simp only [mapM] at hp
  cases hm : fm n with
  | none => rw [hm] at hp; cases hp
  | some x => rw [hm] at hp; cases hp; exact ⟨by rw [Kn.pa, codeF, stF, hm]; exact Wk.refl _, rfl⟩) (fun hn => by
  simp only [mapM] at hn
  cases hm : fm n with
  | none => exact ⟨by rw [codeF, stF, hm]; exact Wk.agg (.cons (Wk.refl _) (.cons (Wk.ff rfl) .nil)), rfl⟩
  | some x => rw [hm] at hn; cases hn) h
instance ElOf.cod (b : Bool) (o n : Int) (x y z : PV) (v u : List Int) (t : List Trm) [h : SlOf (PV.int .i64) 1 x v] [k : SlOf (PV.int .i64) 1 y u] [j : SlOf Trm.pv 4 z t] : ElOf Cod.pv (.agg [x, .bool b, .int .i64 o, .int .i64 n, y, z]) ⟨v, b, .mk o n u t⟩ :=
 have e : WkL [x, .bool b, .int .i64 o, .int .i64 n, y, z] (Cod.cells ⟨v, b, .mk o n u t⟩) := .cons h.wk (.cons (Wk.refl _) (.cons (Wk.refl _) (.cons (Wk.refl _) (.cons k.wk (.cons j.wk .nil)))))
 ⟨Wk.agg e, e⟩
abbrev mkrG (b r : Nat) (tk : Tok) (A : List Cod) (fm : Fm) : List Ent := [.box b [.ms tk, .mp r], .row tk (A.map Cod.pv), .mp r (.int .i64) (mapM Kn.pa fm) []]
theorem over1_c (b0 b r : Nat) (tk : Tok) (A : List Cod) (fm : Fm) (v : Int) :
  ACall Tryz.prog 183 [.int .i64 v, .ptr b0 0] (.box b0 [.ptr b 0] :: mkrG b r tk A fm) (fun y Γ' => y = .bool (stF fm v) ∧ Γ' = .box b0 [.ptr b 0] :: mkrG b r tk A fm) := by
 refine ACall.of_body tt_ok Tryz.func183 rfl rfl (n := 11) rfl rfl ?_
 conv => whnf
 repeat' (first|((first|((first|(apply zY;intro hg)|apply zZ);first|exact stA|exact stB|exact stC)|(refine zW ?_ ?_;exact gA)|refine zH rfl ?_|refine zA ?_|refine zI bA ?_|refine zI rfl ?_|refine sB ?_|(refine zO ?_ ?_ ?_;omega;omega)|(refine zP ?_ ?_ ?_;omega;omega)|refine zM rfl ?_|(refine zQ ?_ ?_ ?_;omega;omega)|(refine zR ?_ ?_;omega)|(refine zI ?_ ?_;exact nA)|refine sS ?_|refine sF ?_|refine n0 ?_|refine sD ?_|intro _|refine zG ?_);conv=>whnf)|(refine zX (fun hc => ?_) (fun hc => ?_)<;>(try simp only [SY] at hc)<;>first|omega|(conv=>whnf)))
 refine PLook.kn ?_
 conv => whnf
 repeat' (first|((first|((first|(apply zY;intro hg)|apply zZ);first|exact stA|exact stB|exact stC)|(refine zW ?_ ?_;exact gA)|refine zH rfl ?_|refine zA ?_|refine zI bA ?_|refine zI rfl ?_|refine sB ?_|(refine zO ?_ ?_ ?_;omega;omega)|(refine zP ?_ ?_ ?_;omega;omega)|refine zM rfl ?_|(refine zQ ?_ ?_ ?_;omega;omega)|(refine zR ?_ ?_;omega)|(refine zI ?_ ?_;exact nA)|refine sS ?_|refine sF ?_|refine n0 ?_|refine sD ?_|intro _|refine zG ?_);conv=>whnf)|(refine zX (fun hc => ?_) (fun hc => ?_)<;>(try simp only [SY] at hc)<;>first|omega|(conv=>whnf)))
 exact PRet.gen (y := .bool (stF fm v)) (Γ' := .box b0 [.ptr b 0] :: mkrG b r tk A fm) (Wk.refl _) ⟨rfl, rfl⟩
theorem number13_c (b r : Nat) (tk : Tok) (A : List Cod) (fm : Fm) (t : Trm) (hb : t.bulk ≤ 1000000000) (h1 : tk.e = 88) (h2 : tk.s = 6) (hA : A.length ≤ 1000000000) :
  ACall Tryz.prog 150 [.ptr b 0, .agg t.cells] (mkrG b r tk A fm) (fun y Γ' => ∃ tk', tk'.e = 88 ∧ tk'.s = 6 ∧ y = .int .i64 A.length ∧ Γ' = mkrG b r tk' (A ++ [⟨t.v, t.n == 1, noT⟩]) fm) := by
 have hbe := t.bulk_eq
 refine ACall.of_body tt_ok Tryz.func150 rfl rfl (n := 27) rfl rfl ?_
 conv => whnf
 repeat ((first|((first|(apply zY;intro hg)|apply zZ);first|exact stA|exact stB|((conv=>whnf);(repeat ((first|(refine zW ?_ ?_;exact gA)|refine pC (cloneInt_c t.v (by omega)) wR ?_|refine zA ?_|refine zH rfl ?_|refine zB ?_|refine sG ?_|intro _);conv=>whnf));first|exact pS|exact pL|exact pE))|(refine zW ?_ ?_;exact gA)|refine zH rfl ?_|refine zA ?_|refine zI bA ?_|refine zI rfl ?_|refine sB ?_|(refine zO ?_ ?_ ?_;omega;omega)|(refine zP ?_ ?_ ?_;omega;omega)|refine zM rfl ?_|(refine zQ ?_ ?_ ?_;omega;omega)|(refine zR ?_ ?_;omega)|(refine zI ?_ ?_;exact nA)|refine sS ?_|refine pC (cloneInt_c t.v (by omega)) wR ?_|refine sF ?_|refine n0 ?_|refine sD ?_|intro _);conv=>whnf)
 refine PDraw.sE [.box b [.ms tk, .mp r], .row tk (A.map Cod.pv)] [4,13] [14,15,16] tt_ok mixed ?_
 conv=>whnf
 repeat' (first|((first|((first|(apply zY;intro hg)|apply zZ);first|exact stA|exact stB|((conv=>whnf);(repeat ((first|(refine zW ?_ ?_;exact gA)|refine pC (cloneInt_c t.v (by omega)) wR ?_|refine zA ?_|refine zH rfl ?_|refine zB ?_|refine sG ?_|intro _);conv=>whnf));first|exact pS|exact pL|exact pE))|(refine zW ?_ ?_;exact gA)|refine zH rfl ?_|refine zA ?_|refine zI bA ?_|refine zI rfl ?_|refine sB ?_|(refine zO ?_ ?_ ?_;omega;omega)|(refine zP ?_ ?_ ?_;omega;omega)|refine zM rfl ?_|(refine zQ ?_ ?_ ?_;omega;omega)|(refine zR ?_ ?_;omega)|(refine zI ?_ ?_;exact nA)|refine sS ?_|refine pC (cloneInt_c t.v (by omega)) wR ?_|refine sF ?_|refine n0 ?_|refine sD ?_|intro _|refine zG ?_);conv=>whnf)|(refine zX (fun hc => ?_) (fun hc => ?_)<;>(try simp only [SY] at hc)<;>first|omega|(conv=>whnf)))
 rename_i b3 tk2 e1 e2
 refine PLenM.map fun _ => ?_
 conv => whnf
 repeat' (first|((first|((first|(apply zY;intro hg)|apply zZ);first|exact stA|exact stB|((conv=>whnf);(repeat ((first|(refine zW ?_ ?_;exact gA)|refine pC (cloneInt_c t.v (by omega)) wR ?_|refine zA ?_|refine zH rfl ?_|refine zB ?_|refine sG ?_|intro _);conv=>whnf));first|exact pS|exact pL|exact pE))|(refine zW ?_ ?_;exact gA)|refine zH rfl ?_|refine zA ?_|refine zI bA ?_|refine zI rfl ?_|refine sB ?_|(refine zO ?_ ?_ ?_;omega;omega)|(refine zP ?_ ?_ ?_;omega;omega)|refine zM rfl ?_|(refine zQ ?_ ?_ ?_;omega;omega)|(refine zR ?_ ?_;omega)|(refine zI ?_ ?_;exact nA)|refine sS ?_|refine pC (cloneInt_c t.v (by omega)) wR ?_|refine sF ?_|refine n0 ?_|refine sD ?_|intro _|refine zG ?_);conv=>whnf)|(refine zX (fun hc => ?_) (fun hc => ?_)<;>(try simp only [SY] at hc)<;>first|omega|(conv=>whnf)))
 exact PRet.gen (y := .int .i64 (A.length : Int)) (Γ' := mkrG b r tk2 (A ++ [⟨t.v, t.n == 1, noT⟩]) fm) (Wk.int (by simp)) ⟨tk2, e1, e2, rfl, rfl⟩
theorem ref13_c (b r : Nat) (tk : Tok) (A : List Cod) (fm : Fm) (v : Int) (ov : List Int) :
  ACall Tryz.prog 84 [.ptr b 0, .int .i64 v, slI ov] (mkrG b r tk A fm) (fun y Γ' => y = .agg (refF fm ov v).cells ∧ Γ' = mkrG b r tk A fm) := by
 refine ACall.of_body tt_ok Tryz.func84 rfl rfl (n := 29) rfl rfl ?_
 conv => whnf
 repeat' (first|((first|((first|(apply zY;intro hg)|apply zZ);first|exact stA|exact stB|((conv=>whnf);(repeat ((first|(refine zW ?_ ?_;exact gA)|refine pC (indexInt_c ov v) wR ?_|refine zA ?_|refine zH rfl ?_|refine zB ?_|refine sG ?_|intro _);conv=>whnf));first|exact pS|exact pL|exact pE))|(refine zW ?_ ?_;exact gA)|refine zH rfl ?_|refine zA ?_|refine zI bA ?_|refine zI rfl ?_|refine sB ?_|(refine zO ?_ ?_ ?_;omega;omega)|(refine zP ?_ ?_ ?_;omega;omega)|refine zM rfl ?_|(refine zQ ?_ ?_ ?_;omega;omega)|(refine zR ?_ ?_;omega)|(refine zI ?_ ?_;exact nA)|refine sS ?_|refine pC (indexInt_c ov v) wR ?_|refine sF ?_|refine n0 ?_|refine sD ?_|intro _|refine zG ?_);conv=>whnf)|(refine zX (fun hc => ?_) (fun hc => ?_)<;>(try simp only [SY] at hc)<;>first|omega|(conv=>whnf)))
 refine PLook.kn ?_
 conv => whnf
 repeat' (first|((first|((first|(apply zY;intro hg)|apply zZ);first|exact stA|exact stB|((conv=>whnf);(repeat ((first|(refine zW ?_ ?_;exact gA)|refine pC (indexInt_c ov v) wR ?_|refine zA ?_|refine zH rfl ?_|refine zB ?_|refine sG ?_|intro _);conv=>whnf));first|exact pS|exact pL|exact pE))|(refine zW ?_ ?_;exact gA)|refine zH rfl ?_|refine zA ?_|refine zI bA ?_|refine zI rfl ?_|refine sB ?_|(refine zO ?_ ?_ ?_;omega;omega)|(refine zP ?_ ?_ ?_;omega;omega)|refine zM rfl ?_|(refine zQ ?_ ?_ ?_;omega;omega)|(refine zR ?_ ?_;omega)|(refine zI ?_ ?_;exact nA)|refine sS ?_|refine pC (indexInt_c ov v) wR ?_|refine sF ?_|refine n0 ?_|refine sD ?_|intro _|refine zG ?_);conv=>whnf)|(refine zX (fun hc => ?_) (fun hc => ?_)<;>(try simp only [SY] at hc)<;>first|omega|(conv=>whnf)))
 ·rw [refF, if_pos hc]
  exact PRet.gen (y := .agg (Trm.mk 21 (codeF fm v) [] []).cells) (Γ' := mkrG b r tk A fm) TrmOf.wk ⟨rfl, rfl⟩
 ·rw [refF, if_neg (by simp [‹stF fm v = false›]), if_pos hc]
  exact PRet.gen (y := .agg (Trm.mk 20 (idxL ov v 0) [] []).cells) (Γ' := mkrG b r tk A fm) TrmOf.wk ⟨rfl, rfl⟩
 ·rw [refF, if_neg (by simp [‹stF fm v = false›]), if_neg (by omega)]
  exact PRet.gen (y := .agg (Trm.mk 1 v [] []).cells) (Γ' := mkrG b r tk A fm) TrmOf.wk ⟨rfl, rfl⟩
theorem freeL_len (t : Trm) : (riseL (freeOf t.all)).length ≤ t.bulk := by
 have h1 : t.all.length ≤ t.bulk := t.met_len [] 0
 have h2 : (freeOf t.all).length ≤ t.all.length := by rw [freeOf, List.length_map]; exact List.length_filter_le _ _
 have h3 : (riseL (freeOf t.all)).length ≤ ((freeOf t.all).mergeSort fun x y => decide (x ≤ y)).length := by
  unfold riseL Lib.compact Lib.compactUpTo
  rw [List.length_map]
  exact Nat.le_trans (List.length_filter_le _ _) (by simp)
 rw [List.length_mergeSort] at h3
 omega
theorem over13_c0 (b r : Nat) (tk : Tok) (A : List Cod) (fm : Fm) (t : Trm) (hb : t.bulk ≤ 1000000000) :
  ACall Tryz.prog 155 [.ptr b 0, .agg t.cells] (mkrG b r tk A fm) (fun y Γ' => ∃ t' : Tok, t'.s = 1 ∧ y = .ms t' ∧ Γ' = .row t' ((overF fm t).map (PV.int .i64)) :: mkrG b r tk A fm) := by
 have hrl : (riseL (freeOf t.all)).length ≤ 1000000000 := by have := freeL_len t; omega
 refine ACall.of_body tt_ok Tryz.func155 rfl rfl (n := 9) rfl rfl ?_
 conv => whnf
 repeat ((first|((first|(apply zY;intro hg)|apply zZ);first|exact stA|exact stB|((conv=>whnf);(repeat ((first|(refine zW ?_ ?_;exact gA)|refine pC (indexInt_c ov v) wR ?_|refine zA ?_|refine zH rfl ?_|refine zB ?_|refine sG ?_|intro _);conv=>whnf));first|exact pS|exact pL|exact pE))|(refine zW ?_ ?_;exact gA)|refine zH rfl ?_|refine zA ?_|refine zI bA ?_|refine zI rfl ?_|refine sB ?_|(refine zO ?_ ?_ ?_;omega;omega)|(refine zP ?_ ?_ ?_;omega;omega)|refine zM rfl ?_|(refine zQ ?_ ?_ ?_;omega;omega)|(refine zR ?_ ?_;omega)|(refine zI ?_ ?_;exact nA)|refine sS ?_|refine pC (indexInt_c ov v) wR ?_|refine sF ?_|refine n0 ?_|refine sD ?_|intro _);conv=>whnf)
 rename_i b2 b3
 refine PCall.go (free_c0 t hb) (WkT.refl _) ?_
 rintro _ _ ⟨tf, e1, e2, rfl, rfl⟩
 refine PCall.go (deleteFunc_c 183 [.ptr b2 0] (.box b2 [.ptr b 0] :: mkrG b r tk A fm) (stF fm) tf (riseL (freeOf t.all)) e2 hrl (fun x _ => over1_c b2 b r tk A fm x)) (WkT.refl _) ?_
 rintro _ _ ⟨t2, s2, rfl, rfl⟩
 conv => whnf
 repeat' (first|((first|((first|(apply zY;intro hg)|apply zZ);first|exact stA|exact stB|((conv=>whnf);(repeat ((first|(refine zW ?_ ?_;exact gA)|refine pC (indexInt_c ov v) wR ?_|refine zA ?_|refine zH rfl ?_|refine zB ?_|refine sG ?_|intro _);conv=>whnf));first|exact pS|exact pL|exact pE))|(refine zW ?_ ?_;exact gA)|refine zH rfl ?_|refine zA ?_|refine zI bA ?_|refine zI rfl ?_|refine sB ?_|(refine zO ?_ ?_ ?_;omega;omega)|(refine zP ?_ ?_ ?_;omega;omega)|refine zM rfl ?_|(refine zQ ?_ ?_ ?_;omega;omega)|(refine zR ?_ ?_;omega)|(refine zI ?_ ?_;exact nA)|refine sS ?_|refine pC (indexInt_c ov v) wR ?_|refine sF ?_|refine n0 ?_|refine sD ?_|intro _|refine zG ?_);conv=>whnf)|(refine zX (fun hc => ?_) (fun hc => ?_)<;>(try simp only [SY] at hc)<;>first|omega|(conv=>whnf)))
 exact PRet.gen (y := .ms t2) (Γ' := .row t2 (((riseL (freeOf t.all)).filter fun v => !stF fm v).map (PV.int .i64)) :: mkrG b r tk A fm) (Wk.refl _) ⟨t2, s2, rfl, rfl⟩
theorem over13_c (b r : Nat) (tk : Tok) (A : List Cod) (fm : Fm) (t : Trm) (hb : t.bulk ≤ 1000000000) :
  ACall Tryz.prog 155 [.ptr b 0, .agg t.cells] (mkrG b r tk A fm) (fun y Γ' => y = slI (overF fm t) ∧ Γ' = mkrG b r tk A fm) :=
 ((over13_c0 b r tk A fm t hb).shift fun y Γ' hq => by
  obtain ⟨t2, h2, rfl, rfl⟩ := hq
  exact ⟨slI (overF fm t), mkrG b r tk A fm, Shift.trans (Shift.freezeRow (es := (overF fm t).map (PV.int .i64)) (WkF.ms' h2)) (Shift.wk (Γ1 := [.tok t2]) (Wk.refl _) (List.perm_append_singleton _ _).symm), rfl, rfl⟩)
end Go.Cb
namespace Go.Cb
open Go.Proofs
set_option maxRecDepth 100000
set_option maxHeartbeats 4000000
def LenOk (w : Bool) (t : Trm) : Prop := ∀ ov n fm, (t.clo w ov n fm).c.length ≤ t.bulk
def LenB (w : Bool) (t : Trm) : Prop := ∀ ov n fm, (t.cloB w ov n fm).c.length + 1 ≤ t.bulk
theorem Trm.clos_len (w : Bool) : ∀ l : List Trm, (∀ y ∈ l, LenOk w y) → ∀ ov n fm, (Trm.clos w l ov n fm).c.length ≤ Trm.bulks l
 | [], _, ov, n, fm => by rw [Trm.clos]; simp
 | y :: l, h, ov, n, fm => by
  rw [Trm.clos, Trm.bulks]
  have a := h y (by simp) ov n fm
  have b := Trm.clos_len w l (fun z hz => h z (by simp [hz])) ov (n + (y.clo w ov n fm).c.length) (y.clo w ov n fm).fm
  simp only [List.length_append]
  omega
theorem Trm.cloL_len (w : Bool) : ∀ (l : List Trm), (∀ y ∈ l, LenOk w y) → ∀ vs ov n fm lrn, (Trm.cloL w l vs ov n fm lrn).c.length ≤ Trm.bulks l ∧ (Trm.cloL w l vs ov n fm lrn).t.length ≤ l.length ∧ (Trm.cloL w l vs ov n fm lrn).v.length ≤ l.length
 | [], _, vs, ov, n, fm, lrn => by rw [Trm.cloL]; simp
 | y :: l, h, [], ov, n, fm, lrn => by
  rw [Trm.cloL, Trm.bulks]
  have a := h y (by simp) ov n (learnF w lrn fm)
  refine ⟨?_, by simp, by simp⟩
  show (y.clo w ov n (learnF w lrn fm)).c.length ≤ _
  omega
 | y :: l, h, v :: vs, ov, n, fm, lrn => by
  rw [Trm.cloL, Trm.bulks]
  have a := h y (by simp) ov n fm
  have b := Trm.cloL_len w l (fun z hz => h z (by simp [hz])) vs ov (n + (y.clo w ov n fm).c.length) (y.clo w ov n fm).fm (if y.op = 4 then lrn ++ [(v, ⟨n, (y.clo w ov n fm).t.op == 21⟩)] else lrn)
  refine ⟨?_, ?_, ?_⟩
  ·simp only [List.length_append]
   omega
  ·dsimp only
   split <;> simp only [List.length_cons] <;> omega
  ·dsimp only
   split <;> simp only [List.length_cons] <;> omega
theorem Trm.cloF_len (w : Bool) : ∀ (l : List Trm), (∀ y ∈ l, LenOk w y) → (∀ y ∈ l, LenB w y) → ∀ vs ov c n fm, (Trm.cloF w l vs ov c n fm).own.length + (Trm.cloF w l vs ov c n fm).c.length ≤ Trm.bulks l ∧ (vs.length < l.length → (Trm.cloF w l vs ov c n fm).own.length = vs.length) ∧ (Trm.cloF w l vs ov c n fm).t.length = (Trm.cloF w l vs ov c n fm).own.length
 | [], _, _, vs, ov, c, n, fm => by rw [Trm.cloF]; simp
 | y :: l, h, _, [], ov, c, n, fm => by
  rw [Trm.cloF, Trm.bulks]
  have a := h y (by simp) ov n fm
  refine ⟨?_, by simp, by simp⟩
  show 0 + (y.clo w ov n fm).c.length ≤ _
  omega
 | y :: l, h, k, v :: vs, ov, c, n, fm => by
  rw [Trm.cloF, Trm.bulks]
  have a := k y (by simp) (overF fm y) n fm
  have b := Trm.cloF_len w l (fun z hz => h z (by simp [hz])) (fun z hz => k z (by simp [hz])) vs ov (c + 1) (n + (y.cloB w (overF fm y) n fm).c.length) (y.cloB w (overF fm y) n fm).fm
  refine ⟨?_, ?_, ?_⟩
  ·simp only [List.length_append, List.length_cons]
   omega
  ·intro hl
   simp only [List.length_cons] at hl ⊢
   omega
  ·simp only [List.length_cons]
   omega
theorem Trm.clo_eq (w : Bool) (t : Trm) (ov : List Int) (n : Nat) (fm : Fm) : t.clo w ov n fm =
  if t.op = 1 then ⟨refF fm ov t.n, [], fm⟩
  else if t.op = 4 then ⟨cloT n ((if w = true then overF (t.cloB w (overF fm t) (n + 1) fm).fm t else overF fm t).map (refF (t.cloB w (overF fm t) (n + 1) fm).fm ov)), ⟨t.v, t.n == 1, (t.cloB w (overF fm t) (n + 1) fm).t⟩ :: (t.cloB w (overF fm t) (n + 1) fm).c, (t.cloB w (overF fm t) (n + 1) fm).fm⟩
  else if t.op = 8 then ⟨if (Trm.cloL w t.t t.v ov n fm []).v.length = 0 then (Trm.cloL w t.t t.v ov n fm []).last else .mk 8 0 (Trm.cloL w t.t t.v ov n fm []).v ((Trm.cloL w t.t t.v ov n fm []).t ++ [(Trm.cloL w t.t t.v ov n fm []).last]), (Trm.cloL w t.t t.v ov n fm []).c, (Trm.cloL w t.t t.v ov n fm []).fm⟩
  else if t.op = 9 then ⟨if fixS fm t.v t.t = true then (Trm.cloF w t.t t.v ov n (n + t.v.length) (fixF w t.v n (fixS fm t.v t.t) fm)).last else .mk 9 0 t.v ((Trm.cloF w t.t t.v ov n (n + t.v.length) (fixF w t.v n (fixS fm t.v t.t) fm)).t ++ [(Trm.cloF w t.t t.v ov n (n + t.v.length) (fixF w t.v n (fixS fm t.v t.t) fm)).last]),
    (Trm.cloF w t.t t.v ov n (n + t.v.length) (fixF w t.v n (fixS fm t.v t.t) fm)).own ++ (Trm.cloF w t.t t.v ov n (n + t.v.length) (fixF w t.v n (fixS fm t.v t.t) fm)).c, (Trm.cloF w t.t t.v ov n (n + t.v.length) (fixF w t.v n (fixS fm t.v t.t) fm)).fm⟩
  else ⟨.mk (callF fm t.op t.n t.t).1 (callF fm t.op t.n t.t).2 t.v (Trm.clos w t.t ov n fm).t, (Trm.clos w t.t ov n fm).c, (Trm.clos w t.t ov n fm).fm⟩ := by
 obtain ⟨op, k, v, l⟩ := t
 rw [Trm.clo]
 rfl
theorem Trm.cloB_eq (w : Bool) (t : Trm) (ov : List Int) (n : Nat) (fm : Fm) : t.cloB w ov n fm = Trm.cloH w t.t ov n fm := by
 obtain ⟨op, k, v, l⟩ := t
 rw [Trm.cloB]
 rfl
theorem Trm.clo_lens (w : Bool) (t : Trm) : LenOk w t ∧ LenB w t := by
 induction t using Trm.ind with
 | h t ih =>
  have hbe := t.bulk_eq
  have hB : LenB w t := by
   intro ov n fm
   rw [Trm.cloB_eq]
   cases ht : t.t with
   | nil => rw [Trm.cloH]; show 0 + 1 ≤ _; omega
   | cons x xs =>
    rw [Trm.cloH]
    have := (ih x (by rw [ht]; simp)).1 ov n fm
    rw [ht, Trm.bulks] at hbe
    omega
  refine ⟨?_, hB⟩
  intro ov n fm
  rw [Trm.clo_eq]
  split
  ·show 0 ≤ _; omega
  split
  ·have := hB (overF fm t) (n + 1) fm
   show (_ :: _).length ≤ _
   rw [List.length_cons]
   exact this
  split
  ·have := (Trm.cloL_len w t.t (fun y hy => (ih y hy).1) t.v ov n fm []).1
   dsimp only
   omega
  split
  ·have := (Trm.cloF_len w t.t (fun y hy => (ih y hy).1) (fun y hy => (ih y hy).2) t.v ov n (n + t.v.length) (fixF w t.v n (fixS fm t.v t.t) fm)).1
   dsimp only
   rw [List.length_append]
   omega
  ·have := Trm.clos_len w t.t (fun y hy => (ih y hy).1) ov n fm
   dsimp only
   omega
end Go.Cb
namespace Go.Cb
open Go.Proofs
set_option maxRecDepth 100000
set_option maxHeartbeats 4000000
section
variable {P : Program} {tt : Nat → TI}
theorem PLoop.ghost {B : List PV → List Ent → Ds → QT → Prop} {T : List PV} {Γ Γ' : List Ent} {D : Ds} {Q : QT} (hg : Ghost Γ Γ') (h : PLoop B T Γ' D Q) : PLoop B T Γ D Q := by
 obtain ⟨I, J, ⟨n, T0, Γ0, h1, h2⟩, h3, h4⟩ := h.h
 refine ⟨I, J, ⟨n, T0, Γ0, fun w0 F M w vs hS hT => ?_, h2⟩, h3, h4⟩
 obtain ⟨F1, e1, hS1⟩ := hg w0 F M w hS
 obtain ⟨F2, e2, hS2, hT2⟩ := h1 w0 F1 M w vs hS1 (RepT.mono e1 _ _ hT)
 exact ⟨F2, Fz.le_trans e1 e2, hS2, hT2⟩
theorem PInt.w {k : IntKind} {v : Int} {K : Int → Prop} (h : K (k.wrap v)) : PInt k v K := ⟨h⟩
end
mutual
def Trm.shw (k : Int) : Trm → Trm
 | .mk op n v t => .mk op (if namesB op = true then IntKind.i64.wrap (n + k) else n) (v.map fun x => IntKind.i64.wrap (x + k)) (Trm.shws k t)
def Trm.shws (k : Int) : List Trm → List Trm
 | [] => []
 | x :: xs => Trm.shw k x :: Trm.shws k xs
end
end Go.Cb
namespace Go.Cb
open Go.Proofs
set_option maxRecDepth 100000
set_option maxHeartbeats 4000000
def ClOk (b r : Nat) (x : Trm) : Prop := ∀ tk A fm ov, tk.e = 88 → tk.s = 6 → A.length + x.bulk ≤ 1000000000 → ov.length ≤ 1000000000 →
 ACall Tryz.prog 41 [.ptr b 0, .agg x.cells, slI ov] (mkrG b r tk A fm) (fun y Γ' => ∃ tk', tk'.e = 88 ∧ tk'.s = 6 ∧ y = .agg (x.clo false ov A.length fm).t.cells ∧ Γ' = mkrG b r tk' (A ++ (x.clo false ov A.length fm).c) (x.clo false ov A.length fm).fm)
theorem overF_len (fm : Fm) (t : Trm) : (overF fm t).length ≤ t.bulk := Nat.le_trans (List.length_filter_le _ _) (freeL_len t)
theorem fill13_c (b r : Nat) (tk : Tok) (A : List Cod) (fm : Fm) (n : Nat) (t x : Trm) (hA : A[n]? = some ⟨t.v, t.n == 1, noT⟩) (xs : List Trm) (ht : t.t = x :: xs) (hx : ClOk b r x) (ov : List Int) (h1 : tk.e = 88) (h2 : tk.s = 6) (hb : A.length + x.bulk ≤ 1000000000) (htb : t.bulk ≤ 1000000000) (hov : ov.length ≤ 1000000000) :
  ACall Tryz.prog 151 [.ptr b 0, .int .i64 n, .agg t.cells, slI ov] (mkrG b r tk A fm)
   (fun y Γ' => ∃ tk' tk2 : Tok, tk'.e = 88 ∧ tk'.s = 6 ∧ y = .sl 4 (((overF fm t).map (refF (t.cloB false (overF fm t) A.length fm).fm ov)).map Trm.pv) (some tk2) ∧
    Γ' = .tok tk2 :: mkrG b r tk' (A.set n ⟨t.v, t.n == 1, (t.cloB false (overF fm t) A.length fm).t⟩ ++ (t.cloB false (overF fm t) A.length fm).c) (t.cloB false (overF fm t) A.length fm).fm) := by
 obtain ⟨hn, hAn⟩ := List.getElem?_eq_some_iff.1 hA
 have hbe := t.bulk_eq
 have hbx : Trm.bulks t.t = x.bulk + Trm.bulks xs := by rw [ht, Trm.bulks]
 have hol := overF_len fm t
 have hl0 : 0 < t.t.length := by rw [ht]; simp
 have h0 : t.t[0] = x := by simp [ht]
 have hcb : ∀ ov n fm, t.cloB false ov n fm = x.clo false ov n fm := fun ov n fm => by rw [Trm.cloB_eq, ht, Trm.cloH]
 rw [hcb]
 refine ACall.of_body tt_ok Tryz.func151 rfl rfl (n := 47) rfl rfl ?_
 conv => whnf
 repeat ((first|((first|(apply zY;intro hg)|apply zZ);first|exact stA|exact stB|exact stC)|(refine zW ?_ ?_;exact gA)|refine zH rfl ?_|refine zA ?_|refine zI bA ?_|refine zI rfl ?_|refine sB ?_|(refine zO ?_ ?_ ?_;omega;omega)|(refine zP ?_ ?_ ?_;omega;omega)|refine zM rfl ?_|(refine zQ ?_ ?_ ?_;omega;omega)|(refine zR ?_ ?_;omega)|(refine zI ?_ ?_;exact nA)|refine sS ?_|refine sF ?_|refine n0 ?_|refine sD ?_|intro _);conv=>whnf)
 rename_i b6
 refine PCall.go (over13_c b r tk A fm t (by omega)) (WkT.refl _) ?_
 rintro _ _ ⟨rfl, rfl⟩
 generalize hown : overF fm t = own at *
 conv => whnf
 repeat' (first|((first|((first|(apply zY;intro hg)|apply zZ);first|exact stA|exact stB|exact stC)|(refine zW ?_ ?_;exact gA)|refine zH rfl ?_|refine zA ?_|refine zI bA ?_|refine zI rfl ?_|refine sB ?_|(refine zO ?_ ?_ ?_;omega;omega)|(refine zP ?_ ?_ ?_;omega;omega)|refine zM rfl ?_|(refine zQ ?_ ?_ ?_;omega;omega)|(refine zR ?_ ?_;omega)|(refine zI ?_ ?_;exact nA)|refine sS ?_|refine sF ?_|refine n0 ?_|refine sD ?_|intro _|refine zG ?_);conv=>whnf)|(refine zX (fun hc => ?_) (fun hc => ?_)<;>(try simp only [SY] at hc)<;>first|omega|(conv=>whnf)))
 have hx0 : ClOk b r t.t[0] := by rw [h0]; exact hx
 refine PCall.go (hx0 tk A fm own h1 h2 (by rw [h0]; omega) (by omega)) (WkT.refl _) ?_
 rintro _ _ ⟨tk1, k1, k2, rfl, rfl⟩
 rw [h0]
 have hcl := (x.clo_lens false).1 own A.length fm
 generalize x.clo false own A.length fm = bo at *
 obtain ⟨bt, bc, fm1⟩ := bo
 dsimp only at hcl ⊢
 conv => whnf
 repeat' (first|((first|((first|(apply zY;intro hg)|apply zZ);first|exact stA|exact stB|exact stC)|(refine zW ?_ ?_;exact gA)|refine zH rfl ?_|refine zA ?_|refine zI bA ?_|refine zI rfl ?_|refine sB ?_|(refine zO ?_ ?_ ?_;omega;omega)|(refine zP ?_ ?_ ?_;omega;omega)|refine zM rfl ?_|(refine zQ ?_ ?_ ?_;omega;omega)|(refine zR ?_ ?_;omega)|(refine zI ?_ ?_;exact nA)|refine sS ?_|refine sF ?_|refine n0 ?_|refine sD ?_|intro _|refine zG ?_);conv=>whnf)|(refine zX (fun hc => ?_) (fun hc => ?_)<;>(try simp only [SY] at hc)<;>first|omega|(conv=>whnf)))
 rename_i b10
 have hnl : n < (A ++ bc).length := by rw [List.length_append]; omega
 refine PDraw.sE [.box b [.ms tk1, .mp r], .row tk1 ((A ++ bc).map Cod.pv)] [3] [6,7,8] tt_ok mixed ?_
 conv=>whnf
 repeat ((first|((first|(apply zY;intro hg)|apply zZ);first|exact stA|exact stB|exact stC)|(refine zW ?_ ?_;exact gA)|refine zH rfl ?_|refine zA ?_|refine zI bA ?_|refine zI rfl ?_|refine sB ?_|(refine zO ?_ ?_ ?_;omega;omega)|(refine zP ?_ ?_ ?_;omega;omega)|refine zM rfl ?_|(refine zQ ?_ ?_ ?_;omega;omega)|(refine zR ?_ ?_;omega)|(refine zI ?_ ?_;exact nA)|refine sS ?_|refine sF ?_|refine n0 ?_|refine sD ?_|intro _);conv=>whnf)
 refine PStore.row (f := Cod.pv) (l := A ++ bc) (⟨(A ++ bc)[n].v, (A ++ bc)[n].rest, bt⟩ : Cod) hnl rfl rfl rfl (xs := bt.cells) (WkL.refl _) rfl ?_
 have hset : (A ++ bc).set n ⟨(A ++ bc)[n].v, (A ++ bc)[n].rest, bt⟩ = A.set n ⟨t.v, t.n == 1, bt⟩ ++ bc := by
  rw [List.getElem_append_left hn, List.set_append_left _ _ hn, hAn]
 rw [hset]
 generalize A.set n ⟨t.v, t.n == 1, bt⟩ ++ bc = A2
 conv => whnf
 repeat' (first|((first|((first|(apply zY;intro hg)|apply zZ);first|exact stA|exact stB|exact stC)|(refine zW ?_ ?_;exact gA)|refine zH rfl ?_|refine zA ?_|refine zI bA ?_|refine zI rfl ?_|refine sB ?_|(refine zO ?_ ?_ ?_;omega;omega)|(refine zP ?_ ?_ ?_;omega;omega)|refine zM rfl ?_|(refine zQ ?_ ?_ ?_;omega;omega)|(refine zR ?_ ?_;omega)|(refine zI ?_ ?_;exact nA)|refine sS ?_|refine sF ?_|refine n0 ?_|refine sD ?_|intro _|refine zG ?_);conv=>whnf)|(refine zX (fun hc => ?_) (fun hc => ?_)<;>(try simp only [SY] at hc)<;>first|omega|(conv=>whnf)))
 refine PLoop.ghost (Ghost.nil 4 26 _) ?_
 refine PLoop.over [11, 13, 34, 35, 36, 37, 38, 39, 40, 41, 42, 43, 44, 45] (fun x : Nat × List Trm × Tok => [(11, .sl 4 (x.2.1.map Trm.pv) (some x.2.2)), (34, .int .i64 x.1)]) (fun x : Nat × List Trm × Tok => .tok x.2.2 :: mkrG b r tk1 A2 fm1)
  (fun x => x.1 ≤ own.length ∧ x.2.2.e = 26 ∧ x.2.1 = (own.take x.1).map (refF fm1 ov)) (fun x => own.length - x.1) (0, [], nilTok 4 26) ⟨Nat.zero_le _, rfl, rfl⟩ wA ?_
 rintro ⟨i, m, tk3⟩ ⟨hi, hte, hm⟩
 dsimp only at hi hte hm ⊢
 have hml : m.length = i := by rw [hm]; simp; omega
 conv => whnf
 repeat' (first|((first|((first|(apply zY;intro hg)|apply zZ);first|exact stA|exact stB|exact stC)|(refine zW ?_ ?_;exact gA)|refine zH rfl ?_|refine zA ?_|refine zI bA ?_|refine zI rfl ?_|refine sB ?_|(refine zO ?_ ?_ ?_;omega;omega)|(refine zP ?_ ?_ ?_;omega;omega)|refine zM rfl ?_|(refine zQ ?_ ?_ ?_;omega;omega)|(refine zR ?_ ?_;omega)|(refine zI ?_ ?_;exact nA)|refine sS ?_|refine sF ?_|refine n0 ?_|refine sD ?_|intro _|refine zG ?_);conv=>whnf)|(refine zX (fun hc => ?_) (fun hc => ?_)<;>(try simp only [SY] at hc)<;>first|omega|(conv=>whnf)))
 ·have hlt : i < own.length := by omega
  refine PCall.go (ref13_c b r tk1 A2 fm1 own[i] ov) (WkT.refl _) ?_
  rintro _ _ ⟨rfl, rfl⟩
  conv => whnf
  repeat' (first|((first|((first|(apply zY;intro hg)|apply zZ);first|exact stA|exact stB|exact stC)|(refine zW ?_ ?_;exact gA)|refine zH rfl ?_|refine zA ?_|refine zI bA ?_|refine zI rfl ?_|refine sB ?_|(refine zO ?_ ?_ ?_;omega;omega)|(refine zP ?_ ?_ ?_;omega;omega)|refine zM rfl ?_|(refine zQ ?_ ?_ ?_;omega;omega)|(refine zR ?_ ?_;omega)|(refine zI ?_ ?_;exact nA)|refine sS ?_|refine sF ?_|refine n0 ?_|refine sD ?_|intro _|refine zG ?_);conv=>whnf)|(refine zX (fun hc => ?_) (fun hc => ?_)<;>(try simp only [SY] at hc)<;>first|omega|(conv=>whnf)))
  rename_i t5 ht5
  refine loopTo (i + 1, m ++ [refF fm1 ov own[i]], t5) ⟨by show i + 1 ≤ _; omega, ht5, ?_⟩ (by show own.length - (i + 1) < own.length - i; omega) wA
  show m ++ [_] = _
  rw [hm, List.take_succ_eq_append_getElem hlt, List.map_append]
  rfl
 ·rw [List.take_of_length_le (by omega)] at hm
  rw [← hm]
  exact PRet.gen (y := .sl 4 (m.map Trm.pv) (some tk3)) (Γ' := .tok tk3 :: mkrG b r tk1 A2 fm1) (Wk.refl _) ⟨tk1, tk3, k1, k2, rfl, rfl⟩
theorem lam_c13 (b r : Nat) (tk : Tok) (A : List Cod) (fm : Fm) (t x : Trm) (xs : List Trm) (ht : t.t = x :: xs) (hx : ClOk b r x) (ov : List Int) (h4 : t.op = 4) (h1 : tk.e = 88) (h2 : tk.s = 6) (hb : A.length + t.bulk ≤ 1000000000) (hov : ov.length ≤ 1000000000) :
  ACall Tryz.prog 85 [.ptr b 0, .agg t.cells, slI ov] (mkrG b r tk A fm)
   (fun y Γ' => ∃ tk', tk'.e = 88 ∧ tk'.s = 6 ∧ y = .tup [.agg (t.clo false ov A.length fm).t.cells, .int .i64 A.length] ∧ Γ' = mkrG b r tk' (A ++ (t.clo false ov A.length fm).c) (t.clo false ov A.length fm).fm) := by
 have hbe := t.bulk_eq
 have hbx : Trm.bulks t.t = x.bulk + Trm.bulks xs := by rw [ht, Trm.bulks]
 rw [Trm.clo_eq, if_neg (by omega), if_pos h4, if_neg (by simp)]
 refine ACall.of_body tt_ok Tryz.func85 rfl rfl (n := 28) rfl rfl ?_
 conv => whnf
 repeat ((first|((first|(apply zY;intro hg)|apply zZ);first|exact stA|exact stB|exact stC)|(refine zW ?_ ?_;exact gA)|refine zH rfl ?_|refine zA ?_|refine zI bA ?_|refine zI rfl ?_|refine sB ?_|(refine zO ?_ ?_ ?_;omega;omega)|(refine zP ?_ ?_ ?_;omega;omega)|refine zM rfl ?_|(refine zQ ?_ ?_ ?_;omega;omega)|(refine zR ?_ ?_;omega)|(refine zI ?_ ?_;exact nA)|refine sS ?_|refine sF ?_|refine n0 ?_|refine sD ?_|intro _);conv=>whnf)
 rename_i b4 b6
 refine PCall.go (number13_c b r tk A fm t (by omega) h1 h2 (by omega)) (WkT.refl _) ?_
 rintro _ _ ⟨tk1, k1, k2, rfl, rfl⟩
 conv => whnf
 repeat' (first|((first|((first|(apply zY;intro hg)|apply zZ);first|exact stA|exact stB|exact stC)|(refine zW ?_ ?_;exact gA)|refine zH rfl ?_|refine zA ?_|refine zI bA ?_|refine zI rfl ?_|refine sB ?_|(refine zO ?_ ?_ ?_;omega;omega)|(refine zP ?_ ?_ ?_;omega;omega)|refine zM rfl ?_|(refine zQ ?_ ?_ ?_;omega;omega)|(refine zR ?_ ?_;omega)|(refine zI ?_ ?_;exact nA)|refine sS ?_|refine sF ?_|refine n0 ?_|refine sD ?_|intro _|refine zG ?_);conv=>whnf)|(refine zX (fun hc => ?_) (fun hc => ?_)<;>(try simp only [SY] at hc)<;>first|omega|(conv=>whnf)))
 refine PCall.go (fill13_c b r tk1 (A ++ [⟨t.v, t.n == 1, noT⟩]) fm A.length t x (by simp) xs ht hx ov k1 k2 (by simp; omega) (by omega) hov) (WkT.refl _) ?_
 rintro _ _ ⟨tk2, tk3, k3, k4, rfl, rfl⟩
 have hL : (A ++ [(⟨t.v, t.n == 1, noT⟩ : Cod)]).length = A.length + 1 := by simp
 rw [hL]
 generalize t.cloB false (overF fm t) (A.length + 1) fm = bo
 have hset : (A ++ [(⟨t.v, t.n == 1, noT⟩ : Cod)]).set A.length ⟨t.v, t.n == 1, bo.t⟩ ++ bo.c = A ++ (⟨t.v, t.n == 1, bo.t⟩ :: bo.c) := by simp
 rw [hset]
 generalize A ++ (⟨t.v, t.n == 1, bo.t⟩ :: bo.c) = A2
 generalize hrs : (overF fm t).map (refF bo.fm ov) = rs
 conv => whnf
 repeat' (first|((first|((first|(apply zY;intro hg)|apply zZ);first|exact stA|exact stB|exact stC)|(refine zW ?_ ?_;exact gA)|refine zH rfl ?_|refine zA ?_|refine zI bA ?_|refine zI rfl ?_|refine sB ?_|(refine zO ?_ ?_ ?_;omega;omega)|(refine zP ?_ ?_ ?_;omega;omega)|refine zM rfl ?_|(refine zQ ?_ ?_ ?_;omega;omega)|(refine zR ?_ ?_;omega)|(refine zI ?_ ?_;exact nA)|refine sS ?_|refine sF ?_|refine n0 ?_|refine sD ?_|intro _|refine zG ?_);conv=>whnf)|(refine zX (fun hc => ?_) (fun hc => ?_)<;>(try simp only [SY] at hc)<;>first|omega|(conv=>whnf)))
 ·rw [cloT, if_pos (by omega)]
  exact PRet.gen (y := .tup [.agg (Trm.mk 21 A.length [] []).cells, .int .i64 A.length]) (Γ' := mkrG b r tk2 A2 bo.fm) (Wk.tup (.cons TrmOf.wk (.cons (Wk.refl _) .nil))) ⟨tk2, k3, k4, rfl, rfl⟩
 ·rw [cloT, if_neg (by omega)]
  exact PRet.gen (y := .tup [.agg (Trm.mk 19 A.length [] rs).cells, .int .i64 A.length]) (Γ' := mkrG b r tk2 A2 bo.fm) (Wk.tup (.cons TrmOf.wk (.cons (Wk.refl _) .nil))) ⟨tk2, k3, k4, rfl, rfl⟩
end Go.Cb
namespace Go.Cb
open Go.Proofs
set_option maxRecDepth 100000
set_option maxHeartbeats 4000000
theorem filt_lt {α : Type} {p q : α → Bool} (h : ∀ x, q x = true → p x = true) : ∀ l : List α, (∃ x ∈ l, p x = true ∧ q x = false) → (l.filter q).length < (l.filter p).length
 | [], ⟨x, hx, _⟩ => by cases hx
 | y :: l, ⟨x, hx, h1, h2⟩ => by
  have hle : ∀ l : List α, (l.filter q).length ≤ (l.filter p).length := by
   intro l
   induction l with
   | nil => simp
   | cons z l ih =>
    by_cases hq : q z = true
    ·rw [List.filter_cons_of_pos hq, List.filter_cons_of_pos (h z hq)]; simp; exact ih
    ·rw [List.filter_cons_of_neg hq]
     by_cases hp : p z = true
     ·rw [List.filter_cons_of_pos hp]; simp; omega
     ·rw [List.filter_cons_of_neg hp]; exact ih
  rcases List.mem_cons.1 hx with rfl | hx
  ·rw [List.filter_cons_of_neg (by simp [h2]), List.filter_cons_of_pos h1]
   have := hle l
   simp; omega
  ·have ih := filt_lt h l ⟨x, hx, h1, h2⟩
   by_cases hq : q y = true
   ·rw [List.filter_cons_of_pos hq, List.filter_cons_of_pos (h y hq)]; simp; exact ih
   ·rw [List.filter_cons_of_neg hq]
    by_cases hp : p y = true
    ·rw [List.filter_cons_of_pos hp]; simp; omega
    ·rw [List.filter_cons_of_neg hp]; exact ih
def orF (lm fm : Fm) : Fm := fun k => match lm k with
 | some f => some f
 | none => fm k
theorem learnF_or : ∀ (l : List (Int × Kn)) (lm fm : Fm), learnF false l (orF lm fm) = orF (learnF false l lm) fm
 | [], _, _ => rfl
 | x :: l, lm, fm => by
  rw [learnF, learnF, ← learnF_or l]
  congr 1
  funext k
  by_cases h : k = x.1 <;> simp [setF, orF, h]
theorem learnF_eq (l : List (Int × Kn)) (fm : Fm) : learnF false l fm = orF (learnF false l (fun _ => none)) fm := by
 rw [← learnF_or]; rfl
theorem learnF_app (w : Bool) : ∀ (l : List (Int × Kn)) (x : Int × Kn) (fm : Fm), learnF w (l ++ [x]) fm = setF w (learnF w l fm) x.1 x.2
 | [], _, _ => rfl
 | y :: l, x, fm => by rw [List.cons_append, learnF, learnF, learnF_app w l]
theorem setF_upd (fm : Fm) (v : Int) (f : Kn) : setF false fm v f = upd fm v f := by
 funext k; simp [setF, upd]
def preL (V : List Int) (T : List Trm) (C : List Cod) (r : ClL) : ClL := ⟨V ++ r.v, T ++ r.t, r.last, [], C ++ r.c, r.fm⟩
theorem Trm.cloL_own (w : Bool) : ∀ (l : List Trm) vs ov n fm lrn, (Trm.cloL w l vs ov n fm lrn).own = []
 | [], vs, ov, n, fm, lrn => by rw [Trm.cloL]
 | y :: l, [], ov, n, fm, lrn => by rw [Trm.cloL]
 | y :: l, v :: vs, ov, n, fm, lrn => by rw [Trm.cloL]
theorem preL_nil {r : ClL} (h : r.own = []) : preL [] [] [] r = r := by
 obtain ⟨a, b, c, d, e, f⟩ := r
 simp only at h
 subst h
 rfl
theorem preL_skip (V : List Int) (T : List Trm) (C ac : List Cod) (b : ClL) : preL V T C ⟨b.v, b.t, b.last, [], ac ++ b.c, b.fm⟩ = preL V T (C ++ ac) b := by simp [preL]
theorem preL_add (V : List Int) (T : List Trm) (C ac : List Cod) (b : ClL) (v : Int) (x : Trm) : preL V T C ⟨v :: b.v, x :: b.t, b.last, [], ac ++ b.c, b.fm⟩ = preL (V ++ [v]) (T ++ [x]) (C ++ ac) b := by simp [preL]
theorem stF_upd (fm : Fm) (v : Int) (f : Kn) : stF (upd fm v f) v = f.st := by simp [stF, upd]
theorem take_not {l : List Int} {i : Nat} (h : i < l.length) {v : Int} (hv : v ∉ l.take (i + 1)) : v ∉ l.take i ∧ v ≠ l[i] := by
 rw [List.take_succ_eq_append_getElem h, List.mem_append, not_or] at hv
 exact ⟨hv.1, fun e => hv.2 (by simp [e])⟩
theorem mapK_nil : (fun _ => none : Value → Option PV) = mapM Kn.pa (fun _ => none) := by
 funext v
 unfold mapM
 split <;> rfl
abbrev letG (b b4 b6 b7 r r2 : Nat) (t : Trm) (V : List Int) (tv : Tok) (T : List Trm) (tt' : Tok) (A1 : List Cod) (f1 lm : Fm) (tk1 : Tok) : List Ent := [.tok tv, .tok tt', .box b7 [.int .i64 8, .int .i64 0, .sl 1 (V.map (PV.int .i64)) (some tv), .sl 4 (T.map Trm.pv) (some tt')], .mp r2 (.int .i64) (mapM Kn.pa lm) [], .box b [.ms tk1, .mp r], .row tk1 (A1.map Cod.pv), .mp r (.int .i64) (mapM Kn.pa f1) [],
 .box b6 [.int .i64 0, .int .i64 0, .nil, .nil], .box b4 [.int .i64 t.op, .int .i64 t.n, .sl 1 (t.v.map (PV.int .i64)) none, .sl 4 (t.t.map Trm.pv) none]]
theorem let_c13 (b r : Nat) (tk : Tok) (A : List Cod) (fm : Fm) (t : Trm) (ht : t.t.length = t.v.length + 1) (hnd : t.v.Nodup) (hx : ∀ y ∈ t.t, ClOk b r y) (hlam : ∀ y ∈ t.t, y.op = 4 → ∃ z zs, y.t = z :: zs ∧ ClOk b r z) (ov : List Int) (h8 : t.op = 8) (h1 : tk.e = 88) (h2 : tk.s = 6) (hb : A.length + t.bulk ≤ 1000000000) (hov : ov.length ≤ 1000000000) :
  ACall Tryz.prog 86 [.ptr b 0, .agg t.cells, slI ov] (mkrG b r tk A fm)
   (fun y Γ' => ∃ tk', tk'.e = 88 ∧ tk'.s = 6 ∧ y = .agg (t.clo false ov A.length fm).t.cells ∧ Γ' = mkrG b r tk' (A ++ (t.clo false ov A.length fm).c) (t.clo false ov A.length fm).fm) := by
 have hbe := t.bulk_eq
 rw [Trm.clo_eq, if_neg (by omega), if_neg (by omega), if_pos h8]
 refine ACall.of_body tt_ok Tryz.func86 rfl rfl (n := 105) rfl rfl ?_
 conv => whnf
 repeat ((first|((first|(apply zY;intro hg)|apply zZ);first|exact stA|exact stB|exact stC)|(refine zW ?_ ?_;exact gA)|refine zH rfl ?_|refine zA ?_|refine zI bA ?_|refine zI rfl ?_|refine sB ?_|(refine zO ?_ ?_ ?_;omega;omega)|(refine zP ?_ ?_ ?_;omega;omega)|refine zM rfl ?_|(refine zQ ?_ ?_ ?_;omega;omega)|(refine zR ?_ ?_;omega)|(refine zI ?_ ?_;exact nA)|refine sS ?_|refine sF ?_|refine n0 ?_|refine sD ?_|refine PDraw.sT (some 57) rfl [4,9] [11,12,13] tt_ok mixed ?_|refine PDraw.sP (some 77) rfl [] [6] tt_ok mixed ?_|intro _);conv=>whnf)
 rename_i b4 b6 b7 r2 hq0
 rw [mapK_nil]
 refine PLoop.ghost (Ghost.trans (Ghost.nil 1 3 _) (Ghost.trans (Ghost.nil 4 26 _) (Ghost.box (b := b7) (cs := [.int .i64 8, .int .i64 0, .nil, .nil]) (cs' := [.int .i64 8, .int .i64 0, .sl 1 (([] : List Int).map (PV.int .i64)) (some (nilTok 1 3)), .sl 4 (([] : List Trm).map Trm.pv) (some (nilTok 4 26))]) wA))) ?_
 refine PLoop.over [9, 10, 11, 12, 21, 22, 23, 24, 25, 26, 27, 28, 29, 30, 31, 32, 33, 34, 35, 36, 37, 38, 39, 40, 41, 42, 43, 44, 45, 46, 47, 48, 49, 50, 51, 52, 53, 54, 55, 56, 57, 58, 59, 60, 61, 62, 63, 64, 65, 66, 67, 68, 69] (fun x : Nat × (List Int × Tok) × (List Trm × Tok) × List Cod × Fm × Fm × Tok => [(21, .int .i64 x.1)])
  (fun x => letG b b4 b6 b7 r r2 t x.2.1.1 x.2.1.2 x.2.2.1.1 x.2.2.1.2 x.2.2.2.1 x.2.2.2.2.1 x.2.2.2.2.2.1 x.2.2.2.2.2.2)
  (fun x => x.1 ≤ t.v.length ∧ x.2.1.2.e = 3 ∧ x.2.2.1.2.e = 26 ∧ x.2.2.2.2.2.2.e = 88 ∧ x.2.2.2.2.2.2.s = 6 ∧ x.2.1.1.length ≤ x.1 ∧ x.2.2.1.1.length = x.2.1.1.length ∧ ∃ C lrn, x.2.2.2.1 = A ++ C ∧ x.2.2.2.2.2.1 = learnF false lrn (fun _ => none) ∧ C.length + Trm.bulks (t.t.drop x.1) ≤ Trm.bulks t.t ∧ (∀ v, v ∉ t.v.take x.1 → x.2.2.2.2.2.1 v = none) ∧
   Trm.cloL false t.t t.v ov A.length fm [] = preL x.2.1.1 x.2.2.1.1 C (Trm.cloL false (t.t.drop x.1) (t.v.drop x.1) ov x.2.2.2.1.length x.2.2.2.2.1 lrn)) (fun x => t.v.length - x.1)
  (0, ([], nilTok 1 3), ([], nilTok 4 26), A, fm, (fun _ => none), tk) ⟨Nat.zero_le _, rfl, rfl, h1, h2, by simp, rfl, [], [], by simp, rfl, by simp, by simp, (preL_nil (Trm.cloL_own _ _ _ _ _ _ _)).symm⟩ wA ?_
 rintro ⟨i, ⟨V, tv⟩, ⟨T, tt'⟩, A1, f1, lm, tk1⟩ ⟨hi, htv, htt, k1, k2, hvl, htl, C, lrn, hA1, hlm, hcl, hlr, he⟩
 dsimp only at hi htv htt k1 k2 hvl htl hA1 hlm hcl hlr he ⊢
 conv => whnf
 repeat' (first|((first|((first|(apply zY;intro hg)|apply zZ);first|exact stA|exact stB|exact stC)|(refine zW ?_ ?_;exact gA)|refine zH rfl ?_|refine zA ?_|refine zI bA ?_|refine zI rfl ?_|refine sB ?_|(refine zO ?_ ?_ ?_;omega;omega)|(refine zP ?_ ?_ ?_;omega;omega)|refine zM rfl ?_|(refine zQ ?_ ?_ ?_;omega;omega)|(refine zR ?_ ?_;omega)|(refine zI ?_ ?_;exact nA)|refine sS ?_|refine sF ?_|refine n0 ?_|refine sD ?_|refine PDraw.sT (some 57) rfl [4,9] [11,12,13] tt_ok mixed ?_|refine PDraw.sP (some 77) rfl [] [6] tt_ok mixed ?_|intro _|refine zG ?_);conv=>whnf)|(refine zX (fun hc => ?_) (fun hc => ?_)<;>(try simp only [SY] at hc)<;>first|omega|(conv=>whnf)))
 ·have hit : i < t.t.length := by omega
  have hiv : i < t.v.length := by omega
  obtain ⟨z, zs, hz, hzo⟩ := hlam _ (List.getElem_mem hit) hc
  rw [drop_at hit, Trm.bulks] at hcl
  refine PCall.go (lam_c13 b r tk1 A1 f1 t.t[i] z zs hz hzo ov hc k1 k2 (by rw [hA1, List.length_append]; omega) hov) (WkT.refl _) ?_
  rintro _ _ ⟨tk2, e1, e2, rfl, rfl⟩
  have hal : (t.t[i].clo false ov A1.length f1).c.length ≤ t.t[i].bulk := (t.t[i].clo_lens false).1 ov A1.length f1
  rw [drop_at hit, drop_at hiv, Trm.cloL] at he
  generalize t.t[i].clo false ov A1.length f1 = a at *
  obtain ⟨at', ac, af⟩ := a
  dsimp only at hal he ⊢
  conv => whnf
  repeat' (first|((first|((first|(apply zY;intro hg)|apply zZ);first|exact stA|exact stB|exact stC)|(refine zW ?_ ?_;exact gA)|refine zH rfl ?_|refine zA ?_|refine zI bA ?_|refine zI rfl ?_|refine sB ?_|(refine zO ?_ ?_ ?_;omega;omega)|(refine zP ?_ ?_ ?_;omega;omega)|refine zM rfl ?_|(refine zQ ?_ ?_ ?_;omega;omega)|(refine zR ?_ ?_;omega)|(refine zI ?_ ?_;exact nA)|refine sS ?_|refine sF ?_|refine n0 ?_|refine sD ?_|refine PDraw.sT (some 57) rfl [4,9] [11,12,13] tt_ok mixed ?_|refine PDraw.sP (some 77) rfl [] [6] tt_ok mixed ?_|intro _|refine zG ?_);conv=>whnf)|(refine zX (fun hc => ?_) (fun hc => ?_)<;>(try simp only [SY] at hc)<;>first|omega|(conv=>whnf)))
  refine PMapPut.num ⟨A1.length, at'.op == 21⟩ rfl ?_
  conv => whnf
  repeat' (first|((first|((first|(apply zY;intro hg)|apply zZ);first|exact stA|exact stB|exact stC)|(refine zW ?_ ?_;exact gA)|refine zH rfl ?_|refine zA ?_|refine zI bA ?_|refine zI rfl ?_|refine sB ?_|(refine zO ?_ ?_ ?_;omega;omega)|(refine zP ?_ ?_ ?_;omega;omega)|refine zM rfl ?_|(refine zQ ?_ ?_ ?_;omega;omega)|(refine zR ?_ ?_;omega)|(refine zI ?_ ?_;exact nA)|refine sS ?_|refine sF ?_|refine n0 ?_|refine sD ?_|refine PDraw.sT (some 57) rfl [4,9] [11,12,13] tt_ok mixed ?_|refine PDraw.sP (some 77) rfl [] [6] tt_ok mixed ?_|intro _|refine zG ?_);conv=>whnf)|(refine zX (fun hc => ?_) (fun hc => ?_)<;>(try simp only [SY] at hc)<;>first|omega|(conv=>whnf)))
  refine PLook.kn ?_
  rw [stF_upd]
  have hlm2 : upd lm t.v[i] ⟨A1.length, at'.op == 21⟩ = learnF false (lrn ++ [(t.v[i], ⟨A1.length, at'.op == 21⟩)]) (fun _ => none) := by rw [learnF_app, ← hlm, setF_upd]
  have hlr2 : ∀ v, v ∉ t.v.take (i + 1) → upd lm t.v[i] ⟨A1.length, at'.op == 21⟩ v = none := fun v hv => by
   obtain ⟨q1, q2⟩ := take_not hiv hv
   rw [upd, if_neg q2]
   exact hlr v q1
  rw [if_pos hc] at he
  have hA2 : (A1 ++ ac).length = A1.length + ac.length := List.length_append ..
  rw [← hA2] at he
  generalize upd lm t.v[i] ⟨A1.length, at'.op == 21⟩ = lm2 at *
  conv => whnf
  repeat' (first|((first|((first|(apply zY;intro hg)|apply zZ);first|exact stA|exact stB|exact stC)|(refine zW ?_ ?_;exact gA)|refine zH rfl ?_|refine zA ?_|refine zI bA ?_|refine zI rfl ?_|refine sB ?_|(refine zO ?_ ?_ ?_;omega;omega)|(refine zP ?_ ?_ ?_;omega;omega)|refine zM rfl ?_|(refine zQ ?_ ?_ ?_;omega;omega)|(refine zR ?_ ?_;omega)|(refine zI ?_ ?_;exact nA)|refine sS ?_|refine sF ?_|refine n0 ?_|refine sD ?_|refine PDraw.sT (some 57) rfl [4,9] [11,12,13] tt_ok mixed ?_|refine PDraw.sP (some 77) rfl [] [6] tt_ok mixed ?_|intro _|refine zG ?_);conv=>whnf)|(refine zX (fun hc => ?_) (fun hc => ?_)<;>(try simp only [SY] at hc)<;>first|omega|(conv=>whnf)))
  ·have h21 : ¬at'.op = 21 := by simpa using hc
   rw [if_neg (fun h => h21 h.2), if_neg (fun h => h21 h.2), preL_add] at he
   rename_i t5 ht5 t6 ht6
   exact loopTo (i + 1, (V ++ [t.v[i]], t5), (T ++ [at'], t6), A1 ++ ac, af, lm2, tk2) ⟨by show i + 1 ≤ _; omega, ht5, ht6, e1, e2, by simp; omega, by simp; omega, C ++ ac, _, by rw [hA1, List.append_assoc], hlm2, by show (C ++ ac).length + Trm.bulks (t.t.drop (i + 1)) ≤ _; rw [List.length_append]; omega, hlr2, he⟩ (by show t.v.length - (i + 1) < t.v.length - i; omega) wA
  ·have h21 : at'.op = 21 := by simpa using hc
   rw [if_pos ⟨‹_›, h21⟩, if_pos ⟨‹_›, h21⟩, preL_skip] at he
   exact loopTo (i + 1, (V, tv), (T, tt'), A1 ++ ac, af, lm2, tk2) ⟨by show i + 1 ≤ _; omega, htv, htt, e1, e2, by show V.length ≤ i + 1; omega, htl, C ++ ac, _, by rw [hA1, List.append_assoc], hlm2, by show (C ++ ac).length + Trm.bulks (t.t.drop (i + 1)) ≤ _; rw [List.length_append]; omega, hlr2, he⟩ (by show t.v.length - (i + 1) < t.v.length - i; omega) wA
 ·have hit : i < t.t.length := by omega
  have hiv : i < t.v.length := by omega
  have hvn : t.v[i] ∉ t.v.take i := fun h => by
   obtain ⟨j, hj, e⟩ := List.getElem_of_mem h
   rw [List.getElem_take] at e
   rw [List.length_take] at hj
   exact (List.pairwise_iff_getElem.1 hnd j i (by omega) hiv (by omega)) e
  have hst : stF lm t.v[i] = false := by rw [stF, hlr _ hvn]
  rw [drop_at hit, Trm.bulks] at hcl
  refine PCall.go (hx _ (List.getElem_mem hit) tk1 A1 f1 ov k1 k2 (by rw [hA1, List.length_append]; omega) hov) (WkT.refl _) ?_
  rintro _ _ ⟨tk2, e1, e2, rfl, rfl⟩
  have hal : (t.t[i].clo false ov A1.length f1).c.length ≤ t.t[i].bulk := (t.t[i].clo_lens false).1 ov A1.length f1
  rw [drop_at hit, drop_at hiv, Trm.cloL] at he
  generalize t.t[i].clo false ov A1.length f1 = a at *
  obtain ⟨at', ac, af⟩ := a
  dsimp only at hal he ⊢
  have hlr2 : ∀ v, v ∉ t.v.take (i + 1) → lm v = none := fun v hv => hlr v (take_not hiv hv).1
  rw [if_neg hc, if_neg (fun h => hc h.1), if_neg (fun h => hc h.1)] at he
  have hA2 : (A1 ++ ac).length = A1.length + ac.length := List.length_append ..
  rw [← hA2, preL_add] at he
  conv => whnf
  repeat' (first|((first|((first|(apply zY;intro hg)|apply zZ);first|exact stA|exact stB|exact stC)|(refine zW ?_ ?_;exact gA)|refine zH rfl ?_|refine zA ?_|refine zI bA ?_|refine zI rfl ?_|refine sB ?_|(refine zO ?_ ?_ ?_;omega;omega)|(refine zP ?_ ?_ ?_;omega;omega)|refine zM rfl ?_|(refine zQ ?_ ?_ ?_;omega;omega)|(refine zR ?_ ?_;omega)|(refine zI ?_ ?_;exact nA)|refine sS ?_|refine sF ?_|refine n0 ?_|refine sD ?_|refine PDraw.sT (some 57) rfl [4,9] [11,12,13] tt_ok mixed ?_|refine PDraw.sP (some 77) rfl [] [6] tt_ok mixed ?_|intro _|refine zG ?_);conv=>whnf)|(refine zX (fun hc => ?_) (fun hc => ?_)<;>(try simp only [SY] at hc)<;>first|omega|(conv=>whnf)))
  refine PLook.kn ?_
  rw [hst]
  conv => whnf
  repeat' (first|((first|((first|(apply zY;intro hg)|apply zZ);first|exact stA|exact stB|exact stC)|(refine zW ?_ ?_;exact gA)|refine zH rfl ?_|refine zA ?_|refine zI bA ?_|refine zI rfl ?_|refine sB ?_|(refine zO ?_ ?_ ?_;omega;omega)|(refine zP ?_ ?_ ?_;omega;omega)|refine zM rfl ?_|(refine zQ ?_ ?_ ?_;omega;omega)|(refine zR ?_ ?_;omega)|(refine zI ?_ ?_;exact nA)|refine sS ?_|refine sF ?_|refine n0 ?_|refine sD ?_|refine PDraw.sT (some 57) rfl [4,9] [11,12,13] tt_ok mixed ?_|refine PDraw.sP (some 77) rfl [] [6] tt_ok mixed ?_|intro _|refine zG ?_);conv=>whnf)|(refine zX (fun hc => ?_) (fun hc => ?_)<;>(try simp only [SY] at hc)<;>first|omega|(conv=>whnf)))
  rename_i t5 ht5 t6 ht6
  exact loopTo (i + 1, (V ++ [t.v[i]], t5), (T ++ [at'], t6), A1 ++ ac, af, lm, tk2) ⟨by show i + 1 ≤ _; omega, ht5, ht6, e1, e2, by simp; omega, by simp; omega, C ++ ac, _, by rw [hA1, List.append_assoc], hlm, by show (C ++ ac).length + Trm.bulks (t.t.drop (i + 1)) ≤ _; rw [List.length_append]; omega, hlr2, he⟩ (by show t.v.length - (i + 1) < t.v.length - i; omega) wA
 ·obtain rfl : i = t.v.length := by omega
  have hlt : t.v.length < t.t.length := by omega
  rw [drop_at hlt, Trm.bulks] at hcl
  rw [drop_at hlt, List.drop_of_length_le (Nat.le_refl t.v.length), Trm.cloL, learnF_eq, ← hlm] at he
  refine PRangeM.num fun bI all cl hAll hcl2 => ?_
  conv => whnf
  repeat' (first|((first|((first|(apply zY;intro hg)|apply zZ);first|exact stA|exact stB|exact stC)|(refine zW ?_ ?_;exact gA)|refine zH rfl ?_|refine zA ?_|refine zI bA ?_|refine zI rfl ?_|refine sB ?_|(refine zO ?_ ?_ ?_;omega;omega)|(refine zP ?_ ?_ ?_;omega;omega)|refine zM rfl ?_|(refine zQ ?_ ?_ ?_;omega;omega)|(refine zR ?_ ?_;omega)|(refine zI ?_ ?_;exact nA)|refine sS ?_|refine sF ?_|refine n0 ?_|refine sD ?_|refine PDraw.sT (some 57) rfl [4,9] [11,12,13] tt_ok mixed ?_|refine PDraw.sP (some 77) rfl [] [6] tt_ok mixed ?_|intro _|refine zG ?_);conv=>whnf)|(refine zX (fun hc => ?_) (fun hc => ?_)<;>(try simp only [SY] at hc)<;>first|omega|(conv=>whnf)))
  refine PLoop.over [13, 14, 72, 73, 74, 75, 76, 77, 78, 79, 80, 81, 82] (fun x : Array Nat × Fm => [])
   (fun x : Array Nat × Fm => .ob bI (itO r2 cl x.1) [] [] :: .mp r2 (.int .i64) (mapM Kn.pa lm) (pdI cl all) :: .tok tv :: .tok tt' :: .box b7 [.int .i64 8, .int .i64 0, .sl 1 (V.map (PV.int .i64)) (some tv), .sl 4 (T.map Trm.pv) (some tt')] :: .box b4 [.int .i64 t.op, .int .i64 t.n, .sl 1 (t.v.map (PV.int .i64)) none, .sl 4 (t.t.map Trm.pv) none] :: .box b6 [.int .i64 0, .int .i64 0, .nil, .nil] :: mkrG b r tk1 A1 x.2)
   (fun x => (∀ k, (∃ n, n ∈ x.1.toList ∧ (n, k) ∈ all) → x.2 k = lm k) ∧ (∀ k, (¬∃ n, n ∈ x.1.toList ∧ (n, k) ∈ all) → x.2 k = f1 k)) (fun x => (all.filter fun q => decide (q.1 ∉ x.1.toList)).length) (#[], f1) ⟨fun k h => by simp at h, fun k _ => rfl⟩ wA ?_
  rintro ⟨seen, f2⟩ ⟨hs1, hs2⟩
  dsimp only at hs1 hs2 ⊢
  conv => whnf
  repeat' (first|((first|((first|(apply zY;intro hg)|apply zZ);first|exact stA|exact stB|exact stC)|(refine zW ?_ ?_;exact gA)|refine zH rfl ?_|refine zA ?_|refine zI bA ?_|refine zI rfl ?_|refine sB ?_|(refine zO ?_ ?_ ?_;omega;omega)|(refine zP ?_ ?_ ?_;omega;omega)|refine zM rfl ?_|(refine zQ ?_ ?_ ?_;omega;omega)|(refine zR ?_ ?_;omega)|(refine zI ?_ ?_;exact nA)|refine sS ?_|refine sF ?_|refine n0 ?_|refine sD ?_|refine PDraw.sT (some 57) rfl [4,9] [11,12,13] tt_ok mixed ?_|refine PDraw.sP (some 77) rfl [] [6] tt_ok mixed ?_|intro _|refine zG ?_);conv=>whnf)|(refine zX (fun hc => ?_) (fun hc => ?_)<;>(try simp only [SY] at hc)<;>first|omega|(conv=>whnf)))
  refine PNextM.num hAll hcl2 (fun n z y hn hz hs => ?_) (fun hs => ?_)
  ·conv => whnf
   repeat' (first|((first|((first|(apply zY;intro hg)|apply zZ);first|exact stA|exact stB|exact stC)|(refine zW ?_ ?_;exact gA)|refine zH rfl ?_|refine zA ?_|refine zI bA ?_|refine zI rfl ?_|refine sB ?_|(refine zO ?_ ?_ ?_;omega;omega)|(refine zP ?_ ?_ ?_;omega;omega)|refine zM rfl ?_|(refine zQ ?_ ?_ ?_;omega;omega)|(refine zR ?_ ?_;omega)|(refine zI ?_ ?_;exact nA)|refine sS ?_|refine sF ?_|refine n0 ?_|refine sD ?_|refine PDraw.sT (some 57) rfl [4,9] [11,12,13] tt_ok mixed ?_|refine PDraw.sP (some 77) rfl [] [6] tt_ok mixed ?_|intro _|refine zG ?_);conv=>whnf)|(refine zX (fun hc => ?_) (fun hc => ?_)<;>(try simp only [SY] at hc)<;>first|omega|(conv=>whnf)))
   refine PEntryM.num z y hn hz ?_
   conv => whnf
   repeat' (first|((first|((first|(apply zY;intro hg)|apply zZ);first|exact stA|exact stB|exact stC)|(refine zW ?_ ?_;exact gA)|refine zH rfl ?_|refine zA ?_|refine zI bA ?_|refine zI rfl ?_|refine sB ?_|(refine zO ?_ ?_ ?_;omega;omega)|(refine zP ?_ ?_ ?_;omega;omega)|refine zM rfl ?_|(refine zQ ?_ ?_ ?_;omega;omega)|(refine zR ?_ ?_;omega)|(refine zI ?_ ?_;exact nA)|refine sS ?_|refine sF ?_|refine n0 ?_|refine sD ?_|refine PDraw.sT (some 57) rfl [4,9] [11,12,13] tt_ok mixed ?_|refine PDraw.sP (some 77) rfl [] [6] tt_ok mixed ?_|intro _|refine zG ?_);conv=>whnf)|(refine zX (fun hc => ?_) (fun hc => ?_)<;>(try simp only [SY] at hc)<;>first|omega|(conv=>whnf)))
   refine PMapPut.num y rfl ?_
   conv => whnf
   repeat' (first|((first|((first|(apply zY;intro hg)|apply zZ);first|exact stA|exact stB|exact stC)|(refine zW ?_ ?_;exact gA)|refine zH rfl ?_|refine zA ?_|refine zI bA ?_|refine zI rfl ?_|refine sB ?_|(refine zO ?_ ?_ ?_;omega;omega)|(refine zP ?_ ?_ ?_;omega;omega)|refine zM rfl ?_|(refine zQ ?_ ?_ ?_;omega;omega)|(refine zR ?_ ?_;omega)|(refine zI ?_ ?_;exact nA)|refine sS ?_|refine sF ?_|refine n0 ?_|refine sD ?_|refine PDraw.sT (some 57) rfl [4,9] [11,12,13] tt_ok mixed ?_|refine PDraw.sP (some 77) rfl [] [6] tt_ok mixed ?_|intro _|refine zG ?_);conv=>whnf)|(refine zX (fun hc => ?_) (fun hc => ?_)<;>(try simp only [SY] at hc)<;>first|omega|(conv=>whnf)))
   refine loopTo (seen.push n, upd f2 z y) ⟨fun k hk => ?_, fun k hk => ?_⟩ ?_ wA
   ·obtain ⟨n2, q1, q2⟩ := hk
    show upd f2 z y k = lm k
    by_cases e : k = z
    ·rw [upd, if_pos e, e, hz]
    ·rw [upd, if_neg e]
     refine hs1 k ⟨n2, ?_, q2⟩
     simp only [Array.toList_push, List.mem_append, List.mem_singleton] at q1
     rcases q1 with q1 | q1
     ·exact q1
     ·exfalso
      have := nodup_inj hAll.nb hn q2 q1.symm
      exact e (congrArg Prod.snd this).symm
   ·show upd f2 z y k = f1 k
    have e : k ≠ z := fun e => hk ⟨n, by simp, by rw [e]; exact hn⟩
    rw [upd, if_neg e]
    exact hs2 k fun ⟨n2, q1, q2⟩ => hk ⟨n2, by simp only [Array.toList_push, List.mem_append]; exact .inl q1, q2⟩
   ·refine filt_lt (fun q hq => ?_) all ⟨(n, z), hn, by simpa using hs, by simp⟩
    simp only [Array.toList_push, List.mem_append, List.mem_singleton, not_or, decide_eq_true_eq] at hq ⊢
    exact hq.1
  ·have hf2 : f2 = orF lm f1 := by
    funext k
    rw [orF]
    cases hk : lm k with
    | none =>
     exact hs2 k fun ⟨n2, q1, q2⟩ => (hAll.dom k).2 ⟨n2, q2⟩ hk
    | some y =>
     obtain ⟨n2, q2⟩ := (hAll.dom k).1 (by rw [hk]; simp)
     rw [hs1 k ⟨n2, hs _ q2, q2⟩, hk]
   rw [← hf2] at he
   have hal : (t.t[t.v.length].clo false ov A1.length f2).c.length ≤ t.t[t.v.length].bulk := (t.t[t.v.length].clo_lens false).1 ov A1.length f2
   conv => whnf
   repeat' (first|((first|((first|(apply zY;intro hg)|apply zZ);first|exact stA|exact stB|exact stC)|(refine zW ?_ ?_;exact gA)|refine zH rfl ?_|refine zA ?_|refine zI bA ?_|refine zI rfl ?_|refine sB ?_|(refine zO ?_ ?_ ?_;omega;omega)|(refine zP ?_ ?_ ?_;omega;omega)|refine zM rfl ?_|(refine zQ ?_ ?_ ?_;omega;omega)|(refine zR ?_ ?_;omega)|(refine zI ?_ ?_;exact nA)|refine sS ?_|refine sF ?_|refine n0 ?_|refine sD ?_|refine PDraw.sT (some 57) rfl [4,9] [11,12,13] tt_ok mixed ?_|refine PDraw.sP (some 77) rfl [] [6] tt_ok mixed ?_|intro _|refine zG ?_);conv=>whnf)|(refine zX (fun hc => ?_) (fun hc => ?_)<;>(try simp only [SY] at hc)<;>first|omega|(conv=>whnf)))
   refine PCall.go (hx _ (List.getElem_mem hlt) tk1 A1 f2 ov k1 k2 (by rw [hA1, List.length_append]; omega) hov) (WkT.refl _) ?_
   rintro _ _ ⟨tk2, e1, e2, rfl, rfl⟩
   generalize t.t[t.v.length].clo false ov A1.length f2 = a at *
   obtain ⟨at', ac, af⟩ := a
   dsimp only at hal he ⊢
   simp only [preL, List.append_nil] at he
   rw [he]
   dsimp only
   have hA2 : A ++ (C ++ ac) = A1 ++ ac := by rw [hA1, List.append_assoc]
   rw [hA2]
   conv => whnf
   repeat' (first|((first|((first|(apply zY;intro hg)|apply zZ);first|exact stA|exact stB|exact stC)|(refine zW ?_ ?_;exact gA)|refine zH rfl ?_|refine zA ?_|refine zI bA ?_|refine zI rfl ?_|refine sB ?_|(refine zO ?_ ?_ ?_;omega;omega)|(refine zP ?_ ?_ ?_;omega;omega)|refine zM rfl ?_|(refine zQ ?_ ?_ ?_;omega;omega)|(refine zR ?_ ?_;omega)|(refine zI ?_ ?_;exact nA)|refine sS ?_|refine sF ?_|refine n0 ?_|refine sD ?_|refine PDraw.sT (some 57) rfl [4,9] [11,12,13] tt_ok mixed ?_|refine PDraw.sP (some 77) rfl [] [6] tt_ok mixed ?_|intro _|refine zG ?_);conv=>whnf)|(refine zX (fun hc => ?_) (fun hc => ?_)<;>(try simp only [SY] at hc)<;>first|omega|(conv=>whnf)))
   ·rw [if_pos (by omega)]
    exact PRet.gen (y := .agg at'.cells) (Γ' := mkrG b r tk2 (A1 ++ ac) af) TrmOf.wk ⟨tk2, e1, e2, rfl, rfl⟩
   ·rw [if_neg (by omega)]
    exact PRet.gen (y := .agg (Trm.mk 8 0 V (T ++ [at'])).cells) (Γ' := mkrG b r tk2 (A1 ++ ac) af) TrmOf.wk ⟨tk2, e1, e2, rfl, rfl⟩
end Go.Cb
namespace Go.Cb
open Go.RowKit (Below)
set_option maxRecDepth 100000
set_option maxHeartbeats 4000000
section
variable {P : Program} {tt : Nat → TI}
theorem SSeq_imp {full : List Oper} {Γ : List Ent} {k k' : List PV → Prop} (hk : ∀ T, k T → k' T) : ∀ (l : List Oper) (T : List PV), SSeq P tt full l T Γ k → SSeq P tt full l T Γ k'
 | [], T, h => hk T h
 | x :: l, T, h => by
  obtain ⟨v, h1, h2⟩ := SSeq_cons.1 h
  exact SSeq_cons.2 ⟨v, h1, SSeq_imp hk l _ h2⟩
theorem gameP (hk : TT.ok P tt) (rd : Option Nat) (nn : Nat) {ops : Array Oper} {tab R2 : List Nat} (hc : tabChk ops tab = true) {w0 : World} {M Γ2 : List Ent} {F0 : Fz} {ds : List Deferred} {Q' : Exit → Act → World → Prop}
    {Tl : List PV → List Ent → Prop} (hTl : ∀ (fuel : Nat) (listed : Array Bool) (T : List PV) (Γ : List Ent) (F : Fz) (a : Act) (w : World), R2.length ≤ fuel → Down ops listed → Pend ops listed R2 → F0.le F → Sim w0 F (Γ ++ M) w → RepT F T a.tmps.toList → a.defers = ds →
      Tl T Γ → wpAnyIn (Fen rd) nn P .any ops Q' fuel listed a w) {p q : Nat} {R : List Nat} :
    ∀ (n : Nat) (A : List Nat) (fuel : Nat) (listed : Array Bool) (T : List PV) (Γ1 : List Ent) (F : Fz) (a : Act) (w : World), A.length = n → n + (2 + R.length) + R2.length ≤ fuel →
      Down ops listed → Pend ops listed (A ++ (p :: q :: (R ++ R2))) → Split0 ops tab A (p :: R) R2 → Split0 ops tab A (q :: R) R2 → F0.le F → Sim w0 F (Γ1 ++ (Γ2 ++ M)) w → RepT F T a.tmps.toList → a.defers = ds →
      (SSeq P tt ops.toList (A.filterMap (ops[·]?)) T Γ2 fun T' => (WOps P tt ops.toList ((p :: q :: R).filterMap (ops[·]?)) T' Γ1 [] fun T2 Γ1' _ => Tl T2 (Γ1' ++ Γ2)) ∧ (WOps P tt ops.toList ((q :: p :: R).filterMap (ops[·]?)) T' Γ1 [] fun T2 Γ1' _ => Tl T2 (Γ1' ++ Γ2))) →
      wpAnyIn (Fen rd) nn P .any ops Q' fuel listed a w := by
  intro n
  induction n with
  | zero | succ n ih =>
    intro A fuel listed T Γ1 F a w hn hf hd hp hsp hsq hle hS hT hds h
    cases fuel with
    | zero => omega
    | succ fuel =>
    refine ⟨fun hnil => ?_, fun i hi => ?_⟩
    · exfalso
      cases hAR : A ++ (p :: q :: (R ++ R2)) with
      | nil => simp at hAR
      | cons x xs =>
        rw [hAR] at hp
        obtain ⟨k, hk'⟩ := ready_exists hc hp
        rw [hnil] at hk'
        cases hk'
    · obtain ⟨o, ho⟩ := hp.2.2 i (hp.ready hi)
      have un : ∀ {j : Nat}, j ∈ A ++ (p :: q :: (R ++ R2)) → anc tab i j = true → False := fun {j} hj ha => blocked hc hd i ho ha ((hp.2.1 j).2 hj) hi
      have free : ∀ {j : Nat} {x : Oper}, j ∈ A ++ (p :: q :: (R ++ R2)) → ops[j]? = some x → (anc tab i j = true ∨ apartAt ops j i = true) → x.apart ops o = true := by
        intro j x hj hx h
        rcases h with h | h
        · exact (un hj h).elim
        · simpa [apartAt, hx, ho] using h
      have hmem := hp.ready hi
      rw [List.mem_append, List.mem_cons, List.mem_cons, List.mem_append] at hmem
      rcases hmem with hm | hm | hm | hm | hm
      · first
        | (exfalso; rw [List.eq_nil_of_length_eq_zero hn] at hm; cases hm)
        | (obtain ⟨A1, A2, rfl⟩ := List.append_of_mem hm
           rw [filterMap_split ho] at h
           have hap : ∀ x ∈ A1.filterMap (ops[·]?), x.apart ops o = true := by
             intro x hx
             obtain ⟨j, hj, hx⟩ := List.mem_filterMap.1 hx
             exact free (by simp [hj]) hx ((List.pairwise_append.1 hsp.pa).2.2 j hj i (by simp))
           obtain ⟨v, h1, h2⟩ := SSeq_move _ T hap h
           have hS2 : Sim w0 F (Γ2 ++ (Γ1 ++ M)) w := hS.perm (by
             rw [← List.append_assoc, ← List.append_assoc]
             exact List.perm_append_comm.append_right M)
           unfold wpOpIn
           simp only [ho]
           have key := SVal_sound hk (rd := rd) (nn := nn) (Q := Q') (next := fun a w => wpAnyIn (Fen rd) nn P .any ops Q' fuel (listed.setIfInBounds i true) a w) hS2 hT h1 (by
             intro F' u w' hle' hS' hx
             refine ih (A1 ++ A2) fuel _ (putT T o.dst v) Γ1 F' _ w' (by simp at hn ⊢; omega) (by omega) (hd.set hi) ?_ hsp.dropA hsq.dropA (Fz.le_trans hle hle') ?_ (put_rep (RepT.mono hle' _ _ hT) hx o.dst)
               ((put_defers a o.dst u).trans hds) ?_
             · have := Pend.set (l1 := A1) (l2 := A2 ++ (p :: q :: (R ++ R2))) (i := i) (by simpa using hp)
               rwa [List.append_assoc]
             · exact hS'.perm (by
                 rw [← List.append_assoc, ← List.append_assoc]
                 exact List.perm_append_comm.append_right M)
             · rw [List.filterMap_append]; exact h2)
           split at key <;> rename_i hw
           · rw [if_pos hw]; exact key
           · rw [if_neg hw]; exact ⟨fun _ _ => trivial, key⟩)
      · subst hm
        have hg : o.guard = none := hsp.ug i (by simp) o ho
        have e1 : (i :: q :: R).filterMap (ops[·]?) = o :: (q :: R).filterMap (ops[·]?) := by rw [List.filterMap_cons, ho]
        have h := SSeq_imp (fun _ h => h.1) _ _ h
        rw [e1] at h
        have hap : ∀ x ∈ A.filterMap (ops[·]?), x.apart ops o = true := by
          intro x hx
          obtain ⟨j, hj, hx⟩ := List.mem_filterMap.1 hx
          exact free (by simp [hj]) hx (hsp.par j hj i (by simp))
        have h2 := SSeq_eff (kk := fun T' Γ1' => WOps P tt ops.toList ((q :: R).filterMap (ops[·]?)) T' Γ1' [] fun T2 Γ1' _ => Tl T2 (Γ1' ++ Γ2)) _ T hap (by
          have hnd := hsp.nd i (by simp) o ho
          simpa only [WOps, hg, WOpD_noDef hnd, putK_T] using h)
        unfold wpOpIn
        simp only [ho]
        rw [if_pos (by simp [Region.wanted, hg])]
        refine WOp_sound hk (M := Γ2 ++ M) hS hT h2 ?_
        rintro F' x Γ' v' w' hle' hS' hx hK
        refine game0 hk rd nn hc hTl _ A (q :: R) fuel _ (putT T o.dst x) Γ' F' _ w' rfl (by simp only [List.length_cons]; omega) (hd.set hi) ?_ hsq (Fz.le_trans hle hle') hS' (put_rep (RepT.mono hle' _ _ hT) hx o.dst)
          ((put_defers a o.dst v').trans hds) hK
        have := Pend.set (l1 := A) (l2 := q :: (R ++ R2)) (i := i) (by simpa using hp)
        simpa using this
      · subst hm
        have hg : o.guard = none := hsq.ug i (by simp) o ho
        have e1 : (i :: p :: R).filterMap (ops[·]?) = o :: (p :: R).filterMap (ops[·]?) := by rw [List.filterMap_cons, ho]
        have h := SSeq_imp (fun _ h => h.2) _ _ h
        rw [e1] at h
        have hap : ∀ x ∈ A.filterMap (ops[·]?), x.apart ops o = true := by
          intro x hx
          obtain ⟨j, hj, hx⟩ := List.mem_filterMap.1 hx
          exact free (by simp [hj]) hx (hsq.par j hj i (by simp))
        have h2 := SSeq_eff (kk := fun T' Γ1' => WOps P tt ops.toList ((p :: R).filterMap (ops[·]?)) T' Γ1' [] fun T2 Γ1' _ => Tl T2 (Γ1' ++ Γ2)) _ T hap (by
          have hnd := hsq.nd i (by simp) o ho
          simpa only [WOps, hg, WOpD_noDef hnd, putK_T] using h)
        unfold wpOpIn
        simp only [ho]
        rw [if_pos (by simp [Region.wanted, hg])]
        refine WOp_sound hk (M := Γ2 ++ M) hS hT h2 ?_
        rintro F' x Γ' v' w' hle' hS' hx hK
        refine game0 hk rd nn hc hTl _ A (p :: R) fuel _ (putT T o.dst x) Γ' F' _ w' rfl (by simp only [List.length_cons]; omega) (hd.set hi) ?_ hsp (Fz.le_trans hle hle') hS' (put_rep (RepT.mono hle' _ _ hT) hx o.dst)
          ((put_defers a o.dst v').trans hds) hK
        have := Pend.set (l1 := A ++ [p]) (l2 := R ++ R2) (i := i) (by simpa using hp)
        simpa using this
      · exact (un (j := p) (by simp) ((List.pairwise_cons.1 hsp.r1).1 i hm)).elim
      · exact (un (j := p) (by simp) (hsp.tl p (by simp) i hm)).elim
def split0B (ops : Array Oper) (tab A R1 R2 : List Nat) : Bool :=
 pairB (fun j i => anc tab i j || apartAt ops j i) A && A.all (fun j => R1.all fun i => anc tab i j || apartAt ops j i) &&
 pairB (fun j i => anc tab i j) R1 && (A ++ R1).all (fun j => R2.all fun i => anc tab i j) &&
 R1.all (fun i => match ops[i]? with | some o => o.guard.isNone | none => false) && R1.all (fun i => match ops[i]? with | some o => noDef o.op | none => false)
theorem Split0.ofB {ops : Array Oper} {tab A R1 R2 : List Nat} (h : split0B ops tab A R1 R2 = true) : Split0 ops tab A R1 R2 := by
 simp only [split0B, Bool.and_eq_true] at h
 obtain ⟨⟨⟨⟨⟨h1, h2⟩, h3⟩, h5⟩, h6⟩, h6'⟩ := h
 refine ⟨(pairB_iff h1).imp fun h => by simpa using h, fun j hj i hi => ?_, pairB_iff h3, fun j hj i hi => ?_, fun i hi o ho => ?_, fun i hi o ho => ?_⟩
 ·have := List.all_eq_true.1 (List.all_eq_true.1 h2 j hj) i hi
  simpa using this
 ·exact List.all_eq_true.1 (List.all_eq_true.1 h5 j hj) i hi
 ·have := List.all_eq_true.1 h6 i hi
  rw [ho] at this
  simpa using this
 ·have := List.all_eq_true.1 h6' i hi
  rw [ho] at this
  exact this
end
end Go.Cb
namespace Go.Cb
open Go.RowKit (Below)
set_option maxRecDepth 100000
set_option maxHeartbeats 4000000
section
variable {P : Program} {tt : Nat → TI}
theorem gameX (hk : TT.ok P tt) (rd : Option Nat) (nn : Nat) {ops : Array Oper} {tab R2 : List Nat} (hc : tabChk ops tab = true) {w0 : World} {M Γ2 : List Ent} {F0 : Fz} {ds : List Deferred} {Q' : Exit → Act → World → Prop}
    {Tl : List PV → List Ent → Prop} (hTl : ∀ (fuel : Nat) (listed : Array Bool) (T : List PV) (Γ : List Ent) (F : Fz) (a : Act) (w : World), R2.length ≤ fuel → Down ops listed → Pend ops listed R2 → F0.le F → Sim w0 F (Γ ++ M) w → RepT F T a.tmps.toList → a.defers = ds →
      Tl T Γ → wpAnyIn (Fen rd) nn P .any ops Q' fuel listed a w) {p q m : Nat} {R : List Nat} :
    ∀ (n : Nat) (A : List Nat) (fuel : Nat) (listed : Array Bool) (T : List PV) (Γ1 : List Ent) (F : Fz) (a : Act) (w : World), A.length = n → n + (3 + R.length) + R2.length ≤ fuel →
      Down ops listed → Pend ops listed (A ++ (p :: q :: m :: (R ++ R2))) → Split0 ops tab A (p :: R) R2 → Split0 ops tab A (q :: m :: R) R2 → Split0 ops tab A (m :: R) R2 → F0.le F → Sim w0 F (Γ1 ++ (Γ2 ++ M)) w → RepT F T a.tmps.toList → a.defers = ds →
      (SSeq P tt ops.toList (A.filterMap (ops[·]?)) T Γ2 fun T' => (WOps P tt ops.toList ((p :: q :: m :: R).filterMap (ops[·]?)) T' Γ1 [] fun T2 Γ1' _ => Tl T2 (Γ1' ++ Γ2)) ∧ (WOps P tt ops.toList ([q].filterMap (ops[·]?)) T' Γ1 [] fun T2 Γ1' _ => (WOps P tt ops.toList ((p :: m :: R).filterMap (ops[·]?)) T2 Γ1' [] fun T2 Γ1' _ => Tl T2 (Γ1' ++ Γ2)) ∧ (WOps P tt ops.toList ((m :: p :: R).filterMap (ops[·]?)) T2 Γ1' [] fun T2 Γ1' _ => Tl T2 (Γ1' ++ Γ2)))) →
      wpAnyIn (Fen rd) nn P .any ops Q' fuel listed a w := by
  intro n
  induction n with
  | zero | succ n ih =>
    intro A fuel listed T Γ1 F a w hn hf hd hp hsp hsq hsm hle hS hT hds h
    cases fuel with
    | zero => omega
    | succ fuel =>
    refine ⟨fun hnil => ?_, fun i hi => ?_⟩
    · exfalso
      cases hAR : A ++ (p :: q :: m :: (R ++ R2)) with
      | nil => simp at hAR
      | cons x xs =>
        rw [hAR] at hp
        obtain ⟨k, hk'⟩ := ready_exists hc hp
        rw [hnil] at hk'
        cases hk'
    · obtain ⟨o, ho⟩ := hp.2.2 i (hp.ready hi)
      have un : ∀ {j : Nat}, j ∈ A ++ (p :: q :: m :: (R ++ R2)) → anc tab i j = true → False := fun {j} hj ha => blocked hc hd i ho ha ((hp.2.1 j).2 hj) hi
      have free : ∀ {j : Nat} {x : Oper}, j ∈ A ++ (p :: q :: m :: (R ++ R2)) → ops[j]? = some x → (anc tab i j = true ∨ apartAt ops j i = true) → x.apart ops o = true := by
        intro j x hj hx h
        rcases h with h | h
        · exact (un hj h).elim
        · simpa [apartAt, hx, ho] using h
      have hmem := hp.ready hi
      rw [List.mem_append, List.mem_cons, List.mem_cons, List.mem_cons, List.mem_append] at hmem
      rcases hmem with hm | hm | hm | hm | hm | hm
      · first
        | (exfalso; rw [List.eq_nil_of_length_eq_zero hn] at hm; cases hm)
        | (obtain ⟨A1, A2, rfl⟩ := List.append_of_mem hm
           rw [filterMap_split ho] at h
           have hap : ∀ x ∈ A1.filterMap (ops[·]?), x.apart ops o = true := by
             intro x hx
             obtain ⟨j, hj, hx⟩ := List.mem_filterMap.1 hx
             exact free (by simp [hj]) hx ((List.pairwise_append.1 hsp.pa).2.2 j hj i (by simp))
           obtain ⟨v, h1, h2⟩ := SSeq_move _ T hap h
           have hS2 : Sim w0 F (Γ2 ++ (Γ1 ++ M)) w := hS.perm (by
             rw [← List.append_assoc, ← List.append_assoc]
             exact List.perm_append_comm.append_right M)
           unfold wpOpIn
           simp only [ho]
           have key := SVal_sound hk (rd := rd) (nn := nn) (Q := Q') (next := fun a w => wpAnyIn (Fen rd) nn P .any ops Q' fuel (listed.setIfInBounds i true) a w) hS2 hT h1 (by
             intro F' u w' hle' hS' hx
             refine ih (A1 ++ A2) fuel _ (putT T o.dst v) Γ1 F' _ w' (by simp at hn ⊢; omega) (by omega) (hd.set hi) ?_ hsp.dropA hsq.dropA hsm.dropA (Fz.le_trans hle hle') ?_ (put_rep (RepT.mono hle' _ _ hT) hx o.dst)
               ((put_defers a o.dst u).trans hds) ?_
             · have := Pend.set (l1 := A1) (l2 := A2 ++ (p :: q :: m :: (R ++ R2))) (i := i) (by simpa using hp)
               rwa [List.append_assoc]
             · exact hS'.perm (by
                 rw [← List.append_assoc, ← List.append_assoc]
                 exact List.perm_append_comm.append_right M)
             · rw [List.filterMap_append]; exact h2)
           split at key <;> rename_i hw
           · rw [if_pos hw]; exact key
           · rw [if_neg hw]; exact ⟨fun _ _ => trivial, key⟩)
      · subst hm
        have hg : o.guard = none := hsp.ug i (by simp) o ho
        have e1 : (i :: q :: m :: R).filterMap (ops[·]?) = o :: (q :: m :: R).filterMap (ops[·]?) := by rw [List.filterMap_cons, ho]
        have h := SSeq_imp (fun _ h => h.1) _ _ h
        rw [e1] at h
        have hap : ∀ x ∈ A.filterMap (ops[·]?), x.apart ops o = true := by
          intro x hx
          obtain ⟨j, hj, hx⟩ := List.mem_filterMap.1 hx
          exact free (by simp [hj]) hx (hsp.par j hj i (by simp))
        have h2 := SSeq_eff (kk := fun T' Γ1' => WOps P tt ops.toList ((q :: m :: R).filterMap (ops[·]?)) T' Γ1' [] fun T2 Γ1' _ => Tl T2 (Γ1' ++ Γ2)) _ T hap (by
          have hnd := hsp.nd i (by simp) o ho
          simpa only [WOps, hg, WOpD_noDef hnd, putK_T] using h)
        unfold wpOpIn
        simp only [ho]
        rw [if_pos (by simp [Region.wanted, hg])]
        refine WOp_sound hk (M := Γ2 ++ M) hS hT h2 ?_
        rintro F' x Γ' v' w' hle' hS' hx hK
        refine game0 hk rd nn hc hTl _ A (q :: m :: R) fuel _ (putT T o.dst x) Γ' F' _ w' rfl (by simp only [List.length_cons]; omega) (hd.set hi) ?_ hsq (Fz.le_trans hle hle') hS' (put_rep (RepT.mono hle' _ _ hT) hx o.dst)
          ((put_defers a o.dst v').trans hds) hK
        have := Pend.set (l1 := A) (l2 := q :: m :: (R ++ R2)) (i := i) (by simpa using hp)
        simpa using this
      · subst hm
        have hg : o.guard = none := hsq.ug i (by simp) o ho
        have e1 : [i].filterMap (ops[·]?) = [o] := by rw [List.filterMap_cons, ho]; rfl
        have h := SSeq_imp (fun _ h => h.2) _ _ h
        rw [e1] at h
        have hap : ∀ x ∈ A.filterMap (ops[·]?), x.apart ops o = true := by
          intro x hx
          obtain ⟨j, hj, hx⟩ := List.mem_filterMap.1 hx
          exact free (by simp [hj]) hx (hsq.par j hj i (by simp))
        have h2 := SSeq_eff (kk := fun T' Γ1' => (WOps P tt ops.toList ((p :: m :: R).filterMap (ops[·]?)) T' Γ1' [] fun T2 Γ1' _ => Tl T2 (Γ1' ++ Γ2)) ∧ (WOps P tt ops.toList ((m :: p :: R).filterMap (ops[·]?)) T' Γ1' [] fun T2 Γ1' _ => Tl T2 (Γ1' ++ Γ2))) _ T hap (by
          have hnd := hsq.nd i (by simp) o ho
          simpa only [WOps, hg, WOpD_noDef hnd, putK_T] using h)
        unfold wpOpIn
        simp only [ho]
        rw [if_pos (by simp [Region.wanted, hg])]
        refine WOp_sound hk (M := Γ2 ++ M) hS hT h2 ?_
        rintro F' x Γ' v' w' hle' hS' hx hK
        refine gameP hk rd nn hc hTl _ A fuel _ (putT T o.dst x) Γ' F' _ w' rfl (by omega) (hd.set hi) ?_ hsp hsm (Fz.le_trans hle hle') hS' (put_rep (RepT.mono hle' _ _ hT) hx o.dst)
          ((put_defers a o.dst v').trans hds) hK
        have := Pend.set (l1 := A ++ [p]) (l2 := m :: (R ++ R2)) (i := i) (by simpa using hp)
        simpa using this
      · subst hm
        exact (un (j := q) (by simp) ((List.pairwise_cons.1 hsq.r1).1 i (by simp))).elim
      · exact (un (j := p) (by simp) ((List.pairwise_cons.1 hsp.r1).1 i hm)).elim
      · exact (un (j := p) (by simp) (hsp.tl p (by simp) i hm)).elim
def splitXB (ops : Array Oper) (tab A : List Nat) (p q m : Nat) (R B R2 : List Nat) : Bool :=
 tabChk ops tab && split0B ops tab A (p :: R) (B ++ R2) && split0B ops tab A (q :: m :: R) (B ++ R2) && split0B ops tab A (m :: R) (B ++ R2) &&
 pairB (fun j i => anc tab i j || apartAt ops j i) B && pairB (fun j i => anc tab i j) R2 && B.all (fun j => R2.all fun i => anc tab i j) && R2.all (fun i => match ops[i]? with | some o => noDef o.op | none => false) &&
 pairB (fun j i => !(Nat.beq j i)) (A ++ (p :: q :: m :: (R ++ (B ++ R2)))) && (List.range ops.size).all (fun i => (A ++ (p :: q :: m :: (R ++ (B ++ R2)))).contains i) && (A ++ (p :: q :: m :: (R ++ (B ++ R2)))).all (fun i => Nat.blt i ops.size)
theorem PDraw.splitX (hk : TT.ok P tt) (hm : P.follows .mixedOrders = true) {ops : Array Oper} {T : List PV} {Γ Γ2 : List Ent} {K : List PV → List Ent → Prop} (tab A : List Nat) (p q m : Nat) (R B R2 : List Nat) (Γ1 : List Ent)
  (hchk : splitXB ops tab A p q m R B R2 = true) [hp : PickL Γ Γ1 Γ2]
  (h : SSeq P tt ops.toList (pickO ops.toList A) T Γ2 fun T' =>
   (WOps P tt ops.toList (pickO ops.toList (p :: q :: m :: R)) T' Γ1 [] fun T2 Γ1' _ => appE Γ1' Γ2 fun Γ' => SSeq P tt ops.toList (pickO ops.toList B) T2 Γ' fun T3 => WOps P tt ops.toList (pickO ops.toList R2) T3 Γ' [] fun T' Γ' _ => K T' Γ') ∧
   (WOps P tt ops.toList (pickO ops.toList [q]) T' Γ1 [] fun T2 Γ1' _ => (WOps P tt ops.toList (pickO ops.toList (p :: m :: R)) T2 Γ1' [] fun T2 Γ1' _ => appE Γ1' Γ2 fun Γ' => SSeq P tt ops.toList (pickO ops.toList B) T2 Γ' fun T3 => WOps P tt ops.toList (pickO ops.toList R2) T3 Γ' [] fun T' Γ' _ => K T' Γ') ∧ (WOps P tt ops.toList (pickO ops.toList (m :: p :: R)) T2 Γ1' [] fun T2 Γ1' _ => appE Γ1' Γ2 fun Γ' => SSeq P tt ops.toList (pickO ops.toList B) T2 Γ' fun T3 => WOps P tt ops.toList (pickO ops.toList R2) T3 Γ' [] fun T' Γ' _ => K T' Γ'))) : PDraw P ops T Γ K := by
 refine ⟨fun rd nn id w0 F M w a Q' hS hT hQ => wpIn_region_any hm ?_⟩
 simp only [splitXB, Bool.and_eq_true] at hchk
 obtain ⟨⟨⟨⟨⟨⟨⟨⟨⟨⟨hc, s1⟩, s2⟩, s3⟩, b1⟩, b2⟩, b3⟩, b4⟩, h7⟩, h8⟩, h9⟩ := hchk
 have hlt : ∀ i ∈ A ++ (p :: q :: m :: (R ++ (B ++ R2))), i < ops.size := fun i hi => by
  have := List.all_eq_true.1 h9 i hi
  simpa [Nat.blt, Nat.succ_le_iff] using this
 have hpend : Pend ops (Array.replicate ops.size false) (A ++ (p :: q :: m :: (R ++ (B ++ R2)))) := by
  refine ⟨(pairB_iff h7).imp fun h => by
   intro e
   subst e
   simp at h, ?_, fun i hi => ⟨_, Array.getElem?_eq_getElem (hlt i hi)⟩⟩
  intro i
  constructor
  ·intro hi
   rcases Nat.lt_or_ge i ops.size with h' | h'
   ·have := List.all_eq_true.1 h8 i (List.mem_range.2 h')
    simpa only [List.contains_iff_mem] using this
   ·simp [Array.getElem?_eq_none, h'] at hi
  ·intro hi
   simp [hlt i hi]
 have hsp2 : Split ops tab B [] R2 := by
  refine ⟨(pairB_iff b1).imp fun h => by simpa using h, fun _ _ _ h => (by cases h), List.Pairwise.nil, pairB_iff b2, fun j hj i hi => ?_, fun _ h => (by cases h), fun i hi o ho => ?_⟩
  ·exact List.all_eq_true.1 (List.all_eq_true.1 b3 j (by simpa using hj)) i hi
  ·have := List.all_eq_true.1 b4 i (by simpa using hi)
   rw [ho] at this
   exact this
 have hlen : A.length + (3 + R.length) + (B ++ R2).length ≤ ops.size := by
  have hsub : (A ++ (p :: q :: m :: (R ++ (B ++ R2)))) ⊆ List.range ops.size := fun i hi => List.mem_range.2 (hlt i hi)
  have := hpend.1.length_le_of_subset hsub
  simp only [List.length_append, List.length_cons, List.length_range] at this ⊢
  omega
 have hS' : Sim w0 F (Γ1 ++ (Γ2 ++ M)) { w with drawn := w.drawn + 1 } := by
  have := (hS.perm (hp.p.append_right M)).of_heap (w' := { w with drawn := w.drawn + 1 }) rfl rfl rfl rfl
  simpa using this
 refine gameX hk rd nn hc (R2 := B ++ R2) (F0 := F) (ds := a.defers) (Tl := fun T2 Γ' => SSeq P tt ops.toList (pickO ops.toList B) T2 Γ' fun T3 => WOps P tt ops.toList (pickO ops.toList R2) T3 Γ' [] fun T' Γ' _ => K T' Γ') ?_ _ A ops.size _ T Γ1 F a _ rfl hlen ?_ hpend (Split0.ofB s1) (Split0.ofB s2) (Split0.ofB s3) (Fz.le_refl F) hS' hT rfl ?_
 ·intro fuel listed T2 Γ' F' a' w' hf hd hpd hle hS2 hT2 hds ht
  refine game hk rd nn hc (R2 := R2) (F0 := F) (ds := a.defers) hQ _ B [] fuel listed T2 [] F' a' w' rfl (by simpa using hf) hd (by simpa using hpd) hsp2 hle (Γ2 := Γ') (by simpa using hS2) hT2 hds ?_
  simpa only [pickO_eq, Array.getElem?_toList, List.filterMap_nil, WOps, List.nil_append] using ht
 ·intro k o hk'
  rcases Nat.lt_or_ge k ops.size with h' | h'
  ·simp [h'] at hk'
  ·intro ho
   have := (Array.getElem?_eq_some_iff.1 ho).1
   omega
 ·simpa only [pickO_eq, Array.getElem?_toList, appE_eq] using h
theorem PDraw.sX {ops : Array Oper} (Γ1 : List Ent) (p q m : Nat) (R B R2 : List Nat) (hk : TT.ok P tt) (hm : P.follows .mixedOrders = true) {T : List PV} {Γ Γ2 : List Ent} {K : List PV → List Ent → Prop} [hp : PickL Γ Γ1 Γ2]
  (h : SSeq P tt ops.toList (pickO ops.toList (restL ops.toList 0 (p :: q :: m :: (R ++ (B ++ R2))))) T Γ2 fun T' =>
   (WOps P tt ops.toList (pickO ops.toList (p :: q :: m :: R)) T' Γ1 [] fun T2 Γ1' _ => appE Γ1' Γ2 fun Γ' => SSeq P tt ops.toList (pickO ops.toList B) T2 Γ' fun T3 => WOps P tt ops.toList (pickO ops.toList R2) T3 Γ' [] fun T' Γ' _ => K T' Γ') ∧
   (WOps P tt ops.toList (pickO ops.toList [q]) T' Γ1 [] fun T2 Γ1' _ => (WOps P tt ops.toList (pickO ops.toList (p :: m :: R)) T2 Γ1' [] fun T2 Γ1' _ => appE Γ1' Γ2 fun Γ' => SSeq P tt ops.toList (pickO ops.toList B) T2 Γ' fun T3 => WOps P tt ops.toList (pickO ops.toList R2) T3 Γ' [] fun T' Γ' _ => K T' Γ') ∧ (WOps P tt ops.toList (pickO ops.toList (m :: p :: R)) T2 Γ1' [] fun T2 Γ1' _ => appE Γ1' Γ2 fun Γ' => SSeq P tt ops.toList (pickO ops.toList B) T2 Γ' fun T3 => WOps P tt ops.toList (pickO ops.toList R2) T3 Γ' [] fun T' Γ' _ => K T' Γ')))
  (hchk : splitXB ops (tabOf ops.toList []) (restL ops.toList 0 (p :: q :: m :: (R ++ (B ++ R2)))) p q m R B R2 = true := by kernel_rfl) : PDraw P ops T Γ K :=
 PDraw.splitX hk hm _ _ p q m R B R2 Γ1 hchk h
end
end Go.Cb
namespace Go.Cb
open Go.Proofs
set_option maxRecDepth 100000
set_option maxHeartbeats 4000000
abbrev fxG (b b3 b4 b8 r : Nat) (t : Trm) (tk : Tok) (A : List Cod) (fm : Fm) : List Ent := .box b3 [.ptr b 0] :: .box b8 [.fn (.func 152) [.ptr b4 0]] :: .box b4 [.int .i64 t.op, .int .i64 t.n, .sl 1 (t.v.map (PV.int .i64)) none, .sl 4 (t.t.map Trm.pv) none] :: mkrG b r tk A fm
theorem fix1_c (b b3 b4 b8 r : Nat) (t : Trm) (tk : Tok) (A : List Cod) (fm : Fm) (v : Int) :
  ACall Tryz.prog 152 [.int .i64 v, .ptr b4 0] (fxG b b3 b4 b8 r t tk A fm) (fun y Γ' => y = .bool (t.v.contains v) ∧ Γ' = fxG b b3 b4 b8 r t tk A fm) := by
 refine ACall.of_body tt_ok Tryz.func152 rfl rfl (n := 8) rfl rfl ?_
 conv => whnf
 repeat' (first|((first|((first|(apply zY;intro hg)|apply zZ);first|exact stA|exact stB|((conv=>whnf);(repeat ((first|(refine zW ?_ ?_;exact gA)|refine pC (containsInt_c t.v v) wR ?_|refine zA ?_|refine zH rfl ?_|refine zB ?_|refine sG ?_|intro _);conv=>whnf));first|exact pS|exact pL|exact pE))|(refine zW ?_ ?_;exact gA)|refine zH rfl ?_|refine zA ?_|refine zI bA ?_|refine zI rfl ?_|refine sB ?_|(refine zO ?_ ?_ ?_;omega;omega)|(refine zP ?_ ?_ ?_;omega;omega)|refine zM rfl ?_|(refine zQ ?_ ?_ ?_;omega;omega)|(refine zR ?_ ?_;omega)|(refine zI ?_ ?_;exact nA)|refine sS ?_|refine pC (containsInt_c t.v v) wR ?_|refine sF ?_|refine n0 ?_|refine sD ?_|intro _|refine zG ?_);conv=>whnf)|(refine zX (fun hc => ?_) (fun hc => ?_)<;>(try simp only [SY] at hc)<;>first|omega|(conv=>whnf)))
 exact PRet.gen (y := .bool (t.v.contains v)) (Γ' := fxG b b3 b4 b8 r t tk A fm) (Wk.refl _) ⟨rfl, rfl⟩
theorem fix21_c (b b3 b4 b8 r : Nat) (t : Trm) (tk : Tok) (A : List Cod) (fm : Fm) (v : Int) :
  ACall Tryz.prog 156 [.int .i64 v, .ptr b8 0] (fxG b b3 b4 b8 r t tk A fm) (fun y Γ' => y = .bool (!t.v.contains v) ∧ Γ' = fxG b b3 b4 b8 r t tk A fm) := by
 refine ACall.of_body tt_ok Tryz.func156 rfl rfl (n := 8) rfl rfl ?_
 conv => whnf
 repeat' (first|((first|((first|(apply zY;intro hg)|apply zZ);first|exact stA|exact stB|((conv=>whnf);(repeat ((first|(refine zW ?_ ?_;exact gA)|refine pC (containsInt_c t.v v) wR ?_|refine zA ?_|refine zH rfl ?_|refine zB ?_|refine sG ?_|intro _);conv=>whnf));first|exact pS|exact pL|exact pE))|(refine zW ?_ ?_;exact gA)|refine zH rfl ?_|refine zA ?_|refine zI bA ?_|refine zI rfl ?_|refine sB ?_|(refine zO ?_ ?_ ?_;omega;omega)|(refine zP ?_ ?_ ?_;omega;omega)|refine zM rfl ?_|(refine zQ ?_ ?_ ?_;omega;omega)|(refine zR ?_ ?_;omega)|(refine zI ?_ ?_;exact nA)|refine sS ?_|refine pC (containsInt_c t.v v) wR ?_|refine sF ?_|refine n0 ?_|refine sD ?_|intro _|refine zG ?_);conv=>whnf)|(refine zX (fun hc => ?_) (fun hc => ?_)<;>(try simp only [SY] at hc)<;>first|omega|(conv=>whnf)))
 refine PCall.same (fix1_c b b3 b4 b8 r t tk A fm v) (WkT.refl _) ?_
 rintro _ _ ⟨rfl, rfl⟩
 conv => whnf
 repeat' (first|((first|((first|(apply zY;intro hg)|apply zZ);first|exact stA|exact stB|((conv=>whnf);(repeat ((first|(refine zW ?_ ?_;exact gA)|refine pC (containsInt_c t.v v) wR ?_|refine zA ?_|refine zH rfl ?_|refine zB ?_|refine sG ?_|intro _);conv=>whnf));first|exact pS|exact pL|exact pE))|(refine zW ?_ ?_;exact gA)|refine zH rfl ?_|refine zA ?_|refine zI bA ?_|refine zI rfl ?_|refine sB ?_|(refine zO ?_ ?_ ?_;omega;omega)|(refine zP ?_ ?_ ?_;omega;omega)|refine zM rfl ?_|(refine zQ ?_ ?_ ?_;omega;omega)|(refine zR ?_ ?_;omega)|(refine zI ?_ ?_;exact nA)|refine sS ?_|refine pC (containsInt_c t.v v) wR ?_|refine sF ?_|refine n0 ?_|refine sD ?_|intro _|refine zG ?_);conv=>whnf)|(refine zX (fun hc => ?_) (fun hc => ?_)<;>(try simp only [SY] at hc)<;>first|omega|(conv=>whnf)))
 exact PRet.gen (y := .bool (!t.v.contains v)) (Γ' := fxG b b3 b4 b8 r t tk A fm) (Wk.refl _) ⟨rfl, rfl⟩
theorem fix2_c (b b3 b4 b8 r : Nat) (t : Trm) (tk : Tok) (A : List Cod) (fm : Fm) (x : Trm) (hb : x.bulk ≤ 1000000000) :
  ACall Tryz.prog 154 [.agg x.cells, .ptr b3 0, .ptr b8 0] (fxG b b3 b4 b8 r t tk A fm) (fun y Γ' => y = .bool ((overF fm x).any fun u => !t.v.contains u) ∧ Γ' = fxG b b3 b4 b8 r t tk A fm) := by
 refine ACall.of_body tt_ok Tryz.func154 rfl rfl (n := 10) rfl rfl ?_
 conv => whnf
 repeat ((first|((first|(apply zY;intro hg)|apply zZ);first|exact stA|exact stB|((conv=>whnf);(repeat ((first|(refine zW ?_ ?_;exact gA)|refine pC (containsInt_c t.v v) wR ?_|refine zA ?_|refine zH rfl ?_|refine zB ?_|refine sG ?_|intro _);conv=>whnf));first|exact pS|exact pL|exact pE))|(refine zW ?_ ?_;exact gA)|refine zH rfl ?_|refine zA ?_|refine zI bA ?_|refine zI rfl ?_|refine sB ?_|(refine zO ?_ ?_ ?_;omega;omega)|(refine zP ?_ ?_ ?_;omega;omega)|refine zM rfl ?_|(refine zQ ?_ ?_ ?_;omega;omega)|(refine zR ?_ ?_;omega)|(refine zI ?_ ?_;exact nA)|refine sS ?_|refine pC (containsInt_c t.v v) wR ?_|refine sF ?_|refine n0 ?_|refine sD ?_|intro _);conv=>whnf)
 rename_i b5
 conv => whnf
 repeat' (first|((first|((first|(apply zY;intro hg)|apply zZ);first|exact stA|exact stB|((conv=>whnf);(repeat ((first|(refine zW ?_ ?_;exact gA)|refine pC (containsInt_c t.v v) wR ?_|refine zA ?_|refine zH rfl ?_|refine zB ?_|refine sG ?_|intro _);conv=>whnf));first|exact pS|exact pL|exact pE))|(refine zW ?_ ?_;exact gA)|refine zH rfl ?_|refine zA ?_|refine zI bA ?_|refine zI rfl ?_|refine sB ?_|(refine zO ?_ ?_ ?_;omega;omega)|(refine zP ?_ ?_ ?_;omega;omega)|refine zM rfl ?_|(refine zQ ?_ ?_ ?_;omega;omega)|(refine zR ?_ ?_;omega)|(refine zI ?_ ?_;exact nA)|refine sS ?_|refine pC (containsInt_c t.v v) wR ?_|refine sF ?_|refine n0 ?_|refine sD ?_|intro _|refine zG ?_);conv=>whnf)|(refine zX (fun hc => ?_) (fun hc => ?_)<;>(try simp only [SY] at hc)<;>first|omega|(conv=>whnf)))
 refine PCall.go (over13_c b r tk A fm x hb) (WkT.refl _) ?_
 rintro _ _ ⟨rfl, rfl⟩
 conv => whnf
 repeat' (first|((first|((first|(apply zY;intro hg)|apply zZ);first|exact stA|exact stB|((conv=>whnf);(repeat ((first|(refine zW ?_ ?_;exact gA)|refine pC (containsInt_c t.v v) wR ?_|refine zA ?_|refine zH rfl ?_|refine zB ?_|refine sG ?_|intro _);conv=>whnf));first|exact pS|exact pL|exact pE))|(refine zW ?_ ?_;exact gA)|refine zH rfl ?_|refine zA ?_|refine zI bA ?_|refine zI rfl ?_|refine sB ?_|(refine zO ?_ ?_ ?_;omega;omega)|(refine zP ?_ ?_ ?_;omega;omega)|refine zM rfl ?_|(refine zQ ?_ ?_ ?_;omega;omega)|(refine zR ?_ ?_;omega)|(refine zI ?_ ?_;exact nA)|refine sS ?_|refine pC (containsInt_c t.v v) wR ?_|refine sF ?_|refine n0 ?_|refine sD ?_|intro _|refine zG ?_);conv=>whnf)|(refine zX (fun hc => ?_) (fun hc => ?_)<;>(try simp only [SY] at hc)<;>first|omega|(conv=>whnf)))
 refine PCall.go (containsFuncInt_c 156 [.ptr b8 0] (fxG b b3 b4 b8 r t tk A fm) (fun u => !t.v.contains u) (overF fm x) (fun u _ => fix21_c b b3 b4 b8 r t tk A fm u)) (WkT.refl _) ?_
 rintro _ _ ⟨rfl, rfl⟩
 conv => whnf
 repeat' (first|((first|((first|(apply zY;intro hg)|apply zZ);first|exact stA|exact stB|((conv=>whnf);(repeat ((first|(refine zW ?_ ?_;exact gA)|refine pC (containsInt_c t.v v) wR ?_|refine zA ?_|refine zH rfl ?_|refine zB ?_|refine sG ?_|intro _);conv=>whnf));first|exact pS|exact pL|exact pE))|(refine zW ?_ ?_;exact gA)|refine zH rfl ?_|refine zA ?_|refine zI bA ?_|refine zI rfl ?_|refine sB ?_|(refine zO ?_ ?_ ?_;omega;omega)|(refine zP ?_ ?_ ?_;omega;omega)|refine zM rfl ?_|(refine zQ ?_ ?_ ?_;omega;omega)|(refine zR ?_ ?_;omega)|(refine zI ?_ ?_;exact nA)|refine sS ?_|refine pC (containsInt_c t.v v) wR ?_|refine sF ?_|refine n0 ?_|refine sD ?_|intro _|refine zG ?_);conv=>whnf)|(refine zX (fun hc => ?_) (fun hc => ?_)<;>(try simp only [SY] at hc)<;>first|omega|(conv=>whnf)))
 exact PRet.gen (y := .bool ((overF fm x).any fun u => !t.v.contains u)) (Γ' := fxG b b3 b4 b8 r t tk A fm) (Wk.refl _) ⟨rfl, rfl⟩
theorem fixS_eq (fm : Fm) (vs : List Int) (t : List Trm) : fixS fm vs t = !((t.take vs.length).any fun x => (overF fm x).any fun u => !vs.contains u) := by
 unfold fixS
 rw [List.all_eq_not_any_not]
 congr 2
 funext x
 rw [List.all_eq_not_any_not, Bool.not_not]
abbrev fixG (b b3 b4 b6 b8 r : Nat) (t : Trm) (A1 : List Cod) (f1 : Fm) (tk1 : Tok) : List Ent := [.box b [.ms tk1, .mp r], .row tk1 (A1.map Cod.pv), .mp r (.int .i64) (mapM Kn.pa f1) [], .box b8 [.fn (.func 152) [.ptr b4 0]], .box b6 [.int .i64 0, .int .i64 0, .nil, .nil], .box b4 [.int .i64 t.op, .int .i64 t.n, .sl 1 (t.v.map (PV.int .i64)) none, .sl 4 (t.t.map Trm.pv) none], .box b3 [.ptr b 0]]
abbrev fix2G (b b3 b4 b6 b8 b13 r : Nat) (t : Trm) (T : List Trm) (tt' : Tok) (A1 : List Cod) (f1 : Fm) (tk1 : Tok) : List Ent := .tok tt' :: .box b13 [.int .i64 9, .int .i64 0, slI t.v, .sl 4 (T.map Trm.pv) (some tt')] :: fixG b b3 b4 b6 b8 r t A1 f1 tk1
def preF (T : List Trm) (own C : List Cod) (r : ClL) : ClL := ⟨[], T ++ r.t, r.last, own ++ r.own, C ++ r.c, r.fm⟩
theorem Trm.cloF_v (w : Bool) : ∀ (l : List Trm) vs ov c n fm, (Trm.cloF w l vs ov c n fm).v = []
 | [], vs, ov, c, n, fm => by rw [Trm.cloF]
 | y :: l, [], ov, c, n, fm => by rw [Trm.cloF]
 | y :: l, v :: vs, ov, c, n, fm => by rw [Trm.cloF]
theorem preF_nil {r : ClL} (h : r.v = []) : preF [] [] [] r = r := by
 obtain ⟨a, b, c, d, e, f⟩ := r
 simp only at h
 subst h
 rfl
theorem preF_add (T : List Trm) (own C ac : List Cod) (b : ClL) (x : Trm) (c : Cod) : preF T own C ⟨[], x :: b.t, b.last, c :: b.own, ac ++ b.c, b.fm⟩ = preF (T ++ [x]) (own ++ [c]) (C ++ ac) b := by simp [preF]
abbrev blankC (x : Trm) : Cod := ⟨x.v, x.n == 1, noT⟩
theorem fix_c13 (b r : Nat) (tk : Tok) (A : List Cod) (fm : Fm) (t : Trm) (ht : t.t.length = t.v.length + 1) (hx : ∀ y ∈ t.t, ClOk b r y) (hlam : ∀ y ∈ t.t.take t.v.length, ∃ z zs, y.t = z :: zs ∧ ClOk b r z) (ov : List Int) (h9 : t.op = 9) (h1 : tk.e = 88) (h2 : tk.s = 6) (hb : A.length + t.bulk ≤ 1000000000) (hov : ov.length ≤ 1000000000) :
  ACall Tryz.prog 87 [.ptr b 0, .agg t.cells, slI ov] (mkrG b r tk A fm)
   (fun y Γ' => ∃ tk', tk'.e = 88 ∧ tk'.s = 6 ∧ y = .agg (t.clo false ov A.length fm).t.cells ∧ Γ' = mkrG b r tk' (A ++ (t.clo false ov A.length fm).c) (t.clo false ov A.length fm).fm) := by
 have hbe := t.bulk_eq
 rw [Trm.clo_eq, if_neg (by omega), if_neg (by omega), if_neg (by omega), if_pos h9]
 refine ACall.of_body tt_ok Tryz.func87 rfl rfl (n := 103) rfl rfl ?_
 conv => whnf
 repeat ((first|((first|(apply zY;intro hg)|apply zZ);first|exact stA|exact stB|((conv=>whnf);(repeat ((first|(refine zW ?_ ?_;exact gA)|refine pC (cloneInt_c t.v (by omega)) wR ?_|refine zA ?_|refine zH rfl ?_|refine zB ?_|refine sG ?_|intro _);conv=>whnf));first|exact pS|exact pL|exact pE))|(refine zW ?_ ?_;exact gA)|refine zH rfl ?_|refine zA ?_|refine zI bA ?_|refine zI rfl ?_|refine sB ?_|(refine zO ?_ ?_ ?_;omega;omega)|(refine zP ?_ ?_ ?_;omega;omega)|refine zM rfl ?_|(refine zQ ?_ ?_ ?_;omega;omega)|(refine zR ?_ ?_;omega)|(refine zI ?_ ?_;exact nA)|refine sS ?_|refine pC (cloneInt_c t.v (by omega)) wR ?_|refine sF ?_|refine n0 ?_|refine sD ?_|intro _);conv=>whnf)
 rename_i b3 b4 b6 hq0 b8
 conv => whnf
 repeat' (first|((first|((first|(apply zY;intro hg)|apply zZ);first|exact stA|exact stB|((conv=>whnf);(repeat ((first|(refine zW ?_ ?_;exact gA)|refine pC (cloneInt_c t.v (by omega)) wR ?_|refine zA ?_|refine zH rfl ?_|refine zB ?_|refine sG ?_|intro _);conv=>whnf));first|exact pS|exact pL|exact pE))|(refine zW ?_ ?_;exact gA)|refine zH rfl ?_|refine zA ?_|refine zI bA ?_|refine zI rfl ?_|refine sB ?_|(refine zO ?_ ?_ ?_;omega;omega)|(refine zP ?_ ?_ ?_;omega;omega)|refine zM rfl ?_|(refine zQ ?_ ?_ ?_;omega;omega)|(refine zR ?_ ?_;omega)|(refine zI ?_ ?_;exact nA)|refine sS ?_|refine pC (cloneInt_c t.v (by omega)) wR ?_|refine sF ?_|refine n0 ?_|refine sD ?_|intro _|refine zG ?_);conv=>whnf)|(refine zX (fun hc => ?_) (fun hc => ?_)<;>(try simp only [SY] at hc)<;>first|omega|(conv=>whnf)))
 refine PCall.go (containsFuncTrm_c 154 [.ptr b3 0, .ptr b8 0] (fxG b b3 b4 b8 r t tk A fm) (fun x => (overF fm x).any fun u => !t.v.contains u) (t.t.take t.v.length) (fun x hxm => fix2_c b b3 b4 b8 r t tk A fm x (by have := Trm.bulks_mem (List.mem_of_mem_take hxm); omega))) (WkT.refl _) ?_
 rintro _ _ ⟨rfl, rfl⟩
 have hfs := fixS_eq fm t.v t.t
 conv => whnf
 repeat' (first|((first|((first|(apply zY;intro hg)|apply zZ);first|exact stA|exact stB|((conv=>whnf);(repeat ((first|(refine zW ?_ ?_;exact gA)|refine pC (cloneInt_c t.v (by omega)) wR ?_|refine zA ?_|refine zH rfl ?_|refine zB ?_|refine sG ?_|intro _);conv=>whnf));first|exact pS|exact pL|exact pE))|(refine zW ?_ ?_;exact gA)|refine zH rfl ?_|refine zA ?_|refine zI bA ?_|refine zI rfl ?_|refine sB ?_|(refine zO ?_ ?_ ?_;omega;omega)|(refine zP ?_ ?_ ?_;omega;omega)|refine zM rfl ?_|(refine zQ ?_ ?_ ?_;omega;omega)|(refine zR ?_ ?_;omega)|(refine zI ?_ ?_;exact nA)|refine sS ?_|refine pC (cloneInt_c t.v (by omega)) wR ?_|refine sF ?_|refine n0 ?_|refine sD ?_|intro _|refine zG ?_);conv=>whnf)|(refine zX (fun hc => ?_) (fun hc => ?_)<;>(try simp only [SY] at hc)<;>first|omega|(conv=>whnf)))
 rw [← hfs]
 generalize fixS fm t.v t.t = st
 refine PLenM.map fun _ => ?_
 conv => whnf
 repeat' (first|((first|((first|(apply zY;intro hg)|apply zZ);first|exact stA|exact stB|((conv=>whnf);(repeat ((first|(refine zW ?_ ?_;exact gA)|refine pC (cloneInt_c t.v (by omega)) wR ?_|refine zA ?_|refine zH rfl ?_|refine zB ?_|refine sG ?_|intro _);conv=>whnf));first|exact pS|exact pL|exact pE))|(refine zW ?_ ?_;exact gA)|refine zH rfl ?_|refine zA ?_|refine zI bA ?_|refine zI rfl ?_|refine sB ?_|(refine zO ?_ ?_ ?_;omega;omega)|(refine zP ?_ ?_ ?_;omega;omega)|refine zM rfl ?_|(refine zQ ?_ ?_ ?_;omega;omega)|(refine zR ?_ ?_;omega)|(refine zI ?_ ?_;exact nA)|refine sS ?_|refine pC (cloneInt_c t.v (by omega)) wR ?_|refine sF ?_|refine n0 ?_|refine sD ?_|intro _|refine zG ?_);conv=>whnf)|(refine zX (fun hc => ?_) (fun hc => ?_)<;>(try simp only [SY] at hc)<;>first|omega|(conv=>whnf)))
 refine PLoop.over [11, 12, 35, 36, 37, 38, 39, 40, 41, 42, 43, 44, 45, 46, 47, 48, 49, 50, 51, 52, 53, 54] (fun x : Nat × List Cod × Fm × Tok => [(35, .int .i64 x.1)]) (fun x => fixG b b3 b4 b6 b8 r t x.2.1 x.2.2.1 x.2.2.2)
  (fun x => x.1 ≤ t.v.length ∧ x.2.2.2.e = 88 ∧ x.2.2.2.s = 6 ∧ x.2.1 = A ++ (t.t.take x.1).map blankC ∧ fixF false t.v A.length st fm = fixF false (t.v.drop x.1) ((A.length : Int) + x.1) st x.2.2.1) (fun x => t.v.length - x.1) (0, A, fm, tk) ⟨Nat.zero_le _, h1, h2, by simp, by simp⟩ wA ?_
 rintro ⟨i, A1, f1, tk1⟩ ⟨hi, k1, k2, hA1, hf1⟩
 dsimp only at hi k1 k2 hA1 hf1 ⊢
 conv => whnf
 repeat' (first|((first|((first|(apply zY;intro hg)|apply zZ);first|exact stA|exact stB|((conv=>whnf);(repeat ((first|(refine zW ?_ ?_;exact gA)|refine pC (cloneInt_c t.v (by omega)) wR ?_|refine zA ?_|refine zH rfl ?_|refine zB ?_|refine sG ?_|intro _);conv=>whnf));first|exact pS|exact pL|exact pE))|(refine zW ?_ ?_;exact gA)|refine zH rfl ?_|refine zA ?_|refine zI bA ?_|refine zI rfl ?_|refine sB ?_|(refine zO ?_ ?_ ?_;omega;omega)|(refine zP ?_ ?_ ?_;omega;omega)|refine zM rfl ?_|(refine zQ ?_ ?_ ?_;omega;omega)|(refine zR ?_ ?_;omega)|(refine zI ?_ ?_;exact nA)|refine sS ?_|refine pC (cloneInt_c t.v (by omega)) wR ?_|refine sF ?_|refine n0 ?_|refine sD ?_|intro _|refine zG ?_);conv=>whnf)|(refine zX (fun hc => ?_) (fun hc => ?_)<;>(try simp only [SY] at hc)<;>first|omega|(conv=>whnf)))
 ·have hit : i < t.t.length := by omega
  have hiv : i < t.v.length := by omega
  rw [drop_at hiv, fixF] at hf1
  have hbm := Trm.bulks_length t.t
  have hA1l : A1.length = A.length + i := by rw [hA1, List.length_append, List.length_map, List.length_take]; omega
  have hA3 : A1 ++ [blankC t.t[i]] = A ++ (t.t.take (i + 1)).map blankC := by rw [List.take_succ_eq_append_getElem hit, List.map_append, hA1]; simp
  have hf3 : fixF false t.v A.length st fm = fixF false (t.v.drop (i + 1)) ((A.length : Int) + ((i + 1 : Nat) : Int)) st (upd f1 t.v[i] ⟨A1.length, st⟩) := by
   rw [hf1, setF_upd, hA1l, show (A.length : Int) + (i : Int) + 1 = (A.length : Int) + ((i + 1 : Nat) : Int) by omega]
   rfl
  refine PDraw.sX [.box b [.ms tk1, .mp r], .row tk1 (A1.map Cod.pv), .mp r (.int .i64) (mapM Kn.pa f1) []] 3 11 13 [] [] [14] tt_ok mixed ?_
  conv => whnf
  repeat ((first|((first|(apply zY;intro hg)|apply zZ);first|exact stA|exact stB|((conv=>whnf);(repeat ((first|(refine zW ?_ ?_;exact gA)|refine pC (cloneInt_c t.v (by omega)) wR ?_|refine zA ?_|refine zH rfl ?_|refine zB ?_|refine sG ?_|intro _);conv=>whnf));first|exact pS|exact pL|exact pE))|(refine zW ?_ ?_;exact gA)|refine zH rfl ?_|refine zA ?_|refine zI bA ?_|refine zI rfl ?_|refine sB ?_|(refine zO ?_ ?_ ?_;omega;omega)|(refine zP ?_ ?_ ?_;omega;omega)|refine zM rfl ?_|(refine zQ ?_ ?_ ?_;omega;omega)|(refine zR ?_ ?_;omega)|(refine zI ?_ ?_;exact nA)|refine sS ?_|refine pC (cloneInt_c t.v (by omega)) wR ?_|refine sF ?_|refine n0 ?_|refine sD ?_|intro _);conv=>whnf)
  refine And.intro ?_ ?_
  ·conv => whnf
   repeat' (first|((first|((first|(apply zY;intro hg)|apply zZ);first|exact stA|exact stB|((conv=>whnf);(repeat ((first|(refine zW ?_ ?_;exact gA)|refine pC (cloneInt_c t.v (by omega)) wR ?_|refine zA ?_|refine zH rfl ?_|refine zB ?_|refine sG ?_|intro _);conv=>whnf));first|exact pS|exact pL|exact pE))|(refine zW ?_ ?_;exact gA)|refine zH rfl ?_|refine zA ?_|refine zI bA ?_|refine zI rfl ?_|refine sB ?_|(refine zO ?_ ?_ ?_;omega;omega)|(refine zP ?_ ?_ ?_;omega;omega)|refine zM rfl ?_|(refine zQ ?_ ?_ ?_;omega;omega)|(refine zR ?_ ?_;omega)|(refine zI ?_ ?_;exact nA)|refine sS ?_|refine pC (cloneInt_c t.v (by omega)) wR ?_|refine sF ?_|refine n0 ?_|refine sD ?_|intro _|refine zG ?_);conv=>whnf)|(refine zX (fun hc => ?_) (fun hc => ?_)<;>(try simp only [SY] at hc)<;>first|omega|(conv=>whnf)))
   refine PCall.go (number13_c b r tk1 A1 f1 t.t[i] (by have := Trm.bulks_mem (List.getElem_mem hit); omega) k1 k2 (by rw [hA1l]; omega)) (WkT.refl _) ?_
   rintro _ _ ⟨tk2, e1, e2, rfl, rfl⟩
   conv => whnf
   repeat' (first|((first|((first|(apply zY;intro hg)|apply zZ);first|exact stA|exact stB|((conv=>whnf);(repeat ((first|(refine zW ?_ ?_;exact gA)|refine pC (cloneInt_c t.v (by omega)) wR ?_|refine zA ?_|refine zH rfl ?_|refine zB ?_|refine sG ?_|intro _);conv=>whnf));first|exact pS|exact pL|exact pE))|(refine zW ?_ ?_;exact gA)|refine zH rfl ?_|refine zA ?_|refine zI bA ?_|refine zI rfl ?_|refine sB ?_|(refine zO ?_ ?_ ?_;omega;omega)|(refine zP ?_ ?_ ?_;omega;omega)|refine zM rfl ?_|(refine zQ ?_ ?_ ?_;omega;omega)|(refine zR ?_ ?_;omega)|(refine zI ?_ ?_;exact nA)|refine sS ?_|refine pC (cloneInt_c t.v (by omega)) wR ?_|refine sF ?_|refine n0 ?_|refine sD ?_|intro _|refine zG ?_);conv=>whnf)|(refine zX (fun hc => ?_) (fun hc => ?_)<;>(try simp only [SY] at hc)<;>first|omega|(conv=>whnf)))
   refine PMapPut.num ⟨A1.length, st⟩ rfl ?_
   conv => whnf
   repeat' (first|((first|((first|(apply zY;intro hg)|apply zZ);first|exact stA|exact stB|((conv=>whnf);(repeat ((first|(refine zW ?_ ?_;exact gA)|refine pC (cloneInt_c t.v (by omega)) wR ?_|refine zA ?_|refine zH rfl ?_|refine zB ?_|refine sG ?_|intro _);conv=>whnf));first|exact pS|exact pL|exact pE))|(refine zW ?_ ?_;exact gA)|refine zH rfl ?_|refine zA ?_|refine zI bA ?_|refine zI rfl ?_|refine sB ?_|(refine zO ?_ ?_ ?_;omega;omega)|(refine zP ?_ ?_ ?_;omega;omega)|refine zM rfl ?_|(refine zQ ?_ ?_ ?_;omega;omega)|(refine zR ?_ ?_;omega)|(refine zI ?_ ?_;exact nA)|refine sS ?_|refine pC (cloneInt_c t.v (by omega)) wR ?_|refine sF ?_|refine n0 ?_|refine sD ?_|intro _|refine zG ?_);conv=>whnf)|(refine zX (fun hc => ?_) (fun hc => ?_)<;>(try simp only [SY] at hc)<;>first|omega|(conv=>whnf)))
   exact loopTo (i + 1, A1 ++ [blankC t.t[i]], upd f1 t.v[i] ⟨A1.length, st⟩, tk2) ⟨by show i + 1 ≤ _; omega, e1, e2, hA3, hf3⟩ (by show t.v.length - (i + 1) < t.v.length - i; omega) wA
  ·conv => whnf
   repeat' (first|((first|((first|(apply zY;intro hg)|apply zZ);first|exact stA|exact stB|((conv=>whnf);(repeat ((first|(refine zW ?_ ?_;exact gA)|refine pC (cloneInt_c t.v (by omega)) wR ?_|refine zA ?_|refine zH rfl ?_|refine zB ?_|refine sG ?_|intro _);conv=>whnf));first|exact pS|exact pL|exact pE))|(refine zW ?_ ?_;exact gA)|refine zH rfl ?_|refine zA ?_|refine zI bA ?_|refine zI rfl ?_|refine sB ?_|(refine zO ?_ ?_ ?_;omega;omega)|(refine zP ?_ ?_ ?_;omega;omega)|refine zM rfl ?_|(refine zQ ?_ ?_ ?_;omega;omega)|(refine zR ?_ ?_;omega)|(refine zI ?_ ?_;exact nA)|refine sS ?_|refine pC (cloneInt_c t.v (by omega)) wR ?_|refine sF ?_|refine n0 ?_|refine sD ?_|intro _|refine zG ?_);conv=>whnf)|(refine zX (fun hc => ?_) (fun hc => ?_)<;>(try simp only [SY] at hc)<;>first|omega|(conv=>whnf)))
   refine PCall.go (number13_c b r tk1 A1 f1 t.t[i] (by have := Trm.bulks_mem (List.getElem_mem hit); omega) k1 k2 (by rw [hA1l]; omega)) (WkT.refl _) ?_
   rintro _ _ ⟨tk2, e1, e2, rfl, rfl⟩
   conv => whnf
   repeat' (first|((first|((first|(apply zY;intro hg)|apply zZ);first|exact stA|exact stB|((conv=>whnf);(repeat ((first|(refine zW ?_ ?_;exact gA)|refine pC (cloneInt_c t.v (by omega)) wR ?_|refine zA ?_|refine zH rfl ?_|refine zB ?_|refine sG ?_|intro _);conv=>whnf));first|exact pS|exact pL|exact pE))|(refine zW ?_ ?_;exact gA)|refine zH rfl ?_|refine zA ?_|refine zI bA ?_|refine zI rfl ?_|refine sB ?_|(refine zO ?_ ?_ ?_;omega;omega)|(refine zP ?_ ?_ ?_;omega;omega)|refine zM rfl ?_|(refine zQ ?_ ?_ ?_;omega;omega)|(refine zR ?_ ?_;omega)|(refine zI ?_ ?_;exact nA)|refine sS ?_|refine pC (cloneInt_c t.v (by omega)) wR ?_|refine sF ?_|refine n0 ?_|refine sD ?_|intro _|refine zG ?_);conv=>whnf)|(refine zX (fun hc => ?_) (fun hc => ?_)<;>(try simp only [SY] at hc)<;>first|omega|(conv=>whnf)))
   refine And.intro ?_ ?_
   ·conv => whnf
    repeat' (first|((first|((first|(apply zY;intro hg)|apply zZ);first|exact stA|exact stB|((conv=>whnf);(repeat ((first|(refine zW ?_ ?_;exact gA)|refine pC (cloneInt_c t.v (by omega)) wR ?_|refine zA ?_|refine zH rfl ?_|refine zB ?_|refine sG ?_|intro _);conv=>whnf));first|exact pS|exact pL|exact pE))|(refine zW ?_ ?_;exact gA)|refine zH rfl ?_|refine zA ?_|refine zI bA ?_|refine zI rfl ?_|refine sB ?_|(refine zO ?_ ?_ ?_;omega;omega)|(refine zP ?_ ?_ ?_;omega;omega)|refine zM rfl ?_|(refine zQ ?_ ?_ ?_;omega;omega)|(refine zR ?_ ?_;omega)|(refine zI ?_ ?_;exact nA)|refine sS ?_|refine pC (cloneInt_c t.v (by omega)) wR ?_|refine sF ?_|refine n0 ?_|refine sD ?_|intro _|refine zG ?_);conv=>whnf)|(refine zX (fun hc => ?_) (fun hc => ?_)<;>(try simp only [SY] at hc)<;>first|omega|(conv=>whnf)))
    refine PMapPut.num ⟨A1.length, st⟩ rfl ?_
    conv => whnf
    repeat' (first|((first|((first|(apply zY;intro hg)|apply zZ);first|exact stA|exact stB|((conv=>whnf);(repeat ((first|(refine zW ?_ ?_;exact gA)|refine pC (cloneInt_c t.v (by omega)) wR ?_|refine zA ?_|refine zH rfl ?_|refine zB ?_|refine sG ?_|intro _);conv=>whnf));first|exact pS|exact pL|exact pE))|(refine zW ?_ ?_;exact gA)|refine zH rfl ?_|refine zA ?_|refine zI bA ?_|refine zI rfl ?_|refine sB ?_|(refine zO ?_ ?_ ?_;omega;omega)|(refine zP ?_ ?_ ?_;omega;omega)|refine zM rfl ?_|(refine zQ ?_ ?_ ?_;omega;omega)|(refine zR ?_ ?_;omega)|(refine zI ?_ ?_;exact nA)|refine sS ?_|refine pC (cloneInt_c t.v (by omega)) wR ?_|refine sF ?_|refine n0 ?_|refine sD ?_|intro _|refine zG ?_);conv=>whnf)|(refine zX (fun hc => ?_) (fun hc => ?_)<;>(try simp only [SY] at hc)<;>first|omega|(conv=>whnf)))
    exact loopTo (i + 1, A1 ++ [blankC t.t[i]], upd f1 t.v[i] ⟨A1.length, st⟩, tk2) ⟨by show i + 1 ≤ _; omega, e1, e2, hA3, hf3⟩ (by show t.v.length - (i + 1) < t.v.length - i; omega) wA
   ·conv => whnf
    repeat' (first|((first|((first|(apply zY;intro hg)|apply zZ);first|exact stA|exact stB|((conv=>whnf);(repeat ((first|(refine zW ?_ ?_;exact gA)|refine pC (cloneInt_c t.v (by omega)) wR ?_|refine zA ?_|refine zH rfl ?_|refine zB ?_|refine sG ?_|intro _);conv=>whnf));first|exact pS|exact pL|exact pE))|(refine zW ?_ ?_;exact gA)|refine zH rfl ?_|refine zA ?_|refine zI bA ?_|refine zI rfl ?_|refine sB ?_|(refine zO ?_ ?_ ?_;omega;omega)|(refine zP ?_ ?_ ?_;omega;omega)|refine zM rfl ?_|(refine zQ ?_ ?_ ?_;omega;omega)|(refine zR ?_ ?_;omega)|(refine zI ?_ ?_;exact nA)|refine sS ?_|refine pC (cloneInt_c t.v (by omega)) wR ?_|refine sF ?_|refine n0 ?_|refine sD ?_|intro _|refine zG ?_);conv=>whnf)|(refine zX (fun hc => ?_) (fun hc => ?_)<;>(try simp only [SY] at hc)<;>first|omega|(conv=>whnf)))
    refine PMapPut.num ⟨A1.length, st⟩ rfl ?_
    conv => whnf
    repeat' (first|((first|((first|(apply zY;intro hg)|apply zZ);first|exact stA|exact stB|((conv=>whnf);(repeat ((first|(refine zW ?_ ?_;exact gA)|refine pC (cloneInt_c t.v (by omega)) wR ?_|refine zA ?_|refine zH rfl ?_|refine zB ?_|refine sG ?_|intro _);conv=>whnf));first|exact pS|exact pL|exact pE))|(refine zW ?_ ?_;exact gA)|refine zH rfl ?_|refine zA ?_|refine zI bA ?_|refine zI rfl ?_|refine sB ?_|(refine zO ?_ ?_ ?_;omega;omega)|(refine zP ?_ ?_ ?_;omega;omega)|refine zM rfl ?_|(refine zQ ?_ ?_ ?_;omega;omega)|(refine zR ?_ ?_;omega)|(refine zI ?_ ?_;exact nA)|refine sS ?_|refine pC (cloneInt_c t.v (by omega)) wR ?_|refine sF ?_|refine n0 ?_|refine sD ?_|intro _|refine zG ?_);conv=>whnf)|(refine zX (fun hc => ?_) (fun hc => ?_)<;>(try simp only [SY] at hc)<;>first|omega|(conv=>whnf)))
    exact loopTo (i + 1, A1 ++ [blankC t.t[i]], upd f1 t.v[i] ⟨A1.length, st⟩, tk2) ⟨by show i + 1 ≤ _; omega, e1, e2, hA3, hf3⟩ (by show t.v.length - (i + 1) < t.v.length - i; omega) wA
 ·obtain rfl : i = t.v.length := by omega
  rw [List.drop_of_length_le (Nat.le_refl _), fixF] at hf1
  rw [hf1]
  have htk : (t.t.take t.v.length).length = t.v.length := by rw [List.length_take]; omega
  have hA1l : A1.length = A.length + t.v.length := by rw [hA1, List.length_append, List.length_map, htk]
  rename_i b13 hq13
  refine PLoop.ghost (Ghost.trans (Ghost.nil 4 26 _) (Ghost.box (b := b13) (cs := [.int .i64 9, .int .i64 0, slI t.v, .nil]) (cs' := [.int .i64 9, .int .i64 0, slI t.v, .sl 4 (([] : List Trm).map Trm.pv) (some (nilTok 4 26))]) wA)) ?_
  refine PLoop.over [14, 62, 63, 64, 65, 66, 67, 68, 69, 70, 71, 72, 73, 74, 75, 76, 77, 78, 79, 80, 81, 82, 83, 84, 85] (fun x : Nat × (List Trm × Tok) × List Cod × Fm × Tok => [(62, .int .i64 x.1)]) (fun x => fix2G b b3 b4 b6 b8 b13 r t x.2.1.1 x.2.1.2 x.2.2.1 x.2.2.2.1 x.2.2.2.2)
   (fun x => x.1 ≤ t.v.length ∧ x.2.1.2.e = 26 ∧ x.2.2.2.2.e = 88 ∧ x.2.2.2.2.s = 6 ∧ x.2.1.1.length = x.1 ∧ ∃ own C, x.2.2.1 = A ++ (own ++ (((t.t.take t.v.length).drop x.1).map blankC ++ C)) ∧ own.length = x.1 ∧ C.length + Trm.bulks (t.t.drop x.1) ≤ Trm.bulks t.t ∧
    Trm.cloF false t.t t.v ov A.length (A.length + t.v.length) f1 = preF x.2.1.1 own C (Trm.cloF false (t.t.drop x.1) (t.v.drop x.1) ov ((A.length : Int) + x.1) x.2.2.1.length x.2.2.2.1)) (fun x => t.v.length - x.1)
   (0, ([], nilTok 4 26), A1, f1, tk1) ⟨Nat.zero_le _, rfl, k1, k2, rfl, [], [], by simp [hA1], rfl, by simp, by rw [hA1l]; simp only [List.drop_zero, Int.natCast_zero, Int.add_zero]; exact (preF_nil (Trm.cloF_v _ _ _ _ _ _ _)).symm⟩ wA ?_
  rintro ⟨i, ⟨T, tt'⟩, A2, f2, tk2⟩ ⟨hi, htt, k3, k4, hTl, own, C, hA2, hol, hcl, he⟩
  dsimp only at hi htt k3 k4 hTl hA2 hol hcl he ⊢
  conv => whnf
  repeat' (first|((first|((first|(apply zY;intro hg)|apply zZ);first|exact stA|exact stB|((conv=>whnf);(repeat ((first|(refine zW ?_ ?_;exact gA)|refine pC (cloneInt_c t.v (by omega)) wR ?_|refine zA ?_|refine zH rfl ?_|refine zB ?_|refine sG ?_|intro _);conv=>whnf));first|exact pS|exact pL|exact pE))|(refine zW ?_ ?_;exact gA)|refine zH rfl ?_|refine zA ?_|refine zI bA ?_|refine zI rfl ?_|refine sB ?_|(refine zO ?_ ?_ ?_;omega;omega)|(refine zP ?_ ?_ ?_;omega;omega)|refine zM rfl ?_|(refine zQ ?_ ?_ ?_;omega;omega)|(refine zR ?_ ?_;omega)|(refine zI ?_ ?_;exact nA)|refine sS ?_|refine pC (cloneInt_c t.v (by omega)) wR ?_|refine sF ?_|refine n0 ?_|refine sD ?_|intro _|refine zG ?_);conv=>whnf)|(refine zX (fun hc => ?_) (fun hc => ?_)<;>(try simp only [SY] at hc)<;>first|omega|(conv=>whnf)))
  ·have hit : i < t.t.length := by omega
   have hiv : i < t.v.length := by omega
   have hitk : i < (t.t.take t.v.length).length := by omega
   have hgt : (t.t.take t.v.length)[i] = t.t[i] := List.getElem_take
   obtain ⟨z, zs, hz, hzo⟩ := hlam t.t[i] (by rw [← hgt]; exact List.getElem_mem hitk)
   have hzb : z.bulk ≤ Trm.bulks t.t[i].t := by rw [hz, Trm.bulks]; omega
   have hbi := t.t[i].bulk_eq
   have hbm := Trm.bulks_mem (List.getElem_mem hit)
   rw [drop_at hitk, hgt, List.map_cons, List.cons_append] at hA2
   rw [drop_at hit, Trm.bulks] at hcl
   rw [drop_at hit, drop_at hiv, Trm.cloF] at he
   have h00 : A.length + i - A.length - own.length = 0 := by omega
   have hget : A2[A.length + i]? = some ⟨t.t[i].v, t.t[i].n == 1, noT⟩ := by
    rw [hA2, List.getElem?_append_right (by omega), List.getElem?_append_right (by omega), h00]
    rfl
   have hA2l : A2.length = A.length + t.v.length + C.length := by
    rw [hA2]
    simp only [List.length_append, List.length_cons, List.length_map, List.length_drop, htk]
    omega
   have hfill := fill13_c b r tk2 A2 f2 (A.length + i) t.t[i] z hget zs hz hzo ov k3 k4 (by omega) (by omega) hov
   rw [Int.natCast_add] at hfill
   have hlb : (t.t[i].cloB false (overF f2 t.t[i]) A2.length f2).c.length + 1 ≤ t.t[i].bulk := (t.t[i].clo_lens false).2 _ _ _
   rw [if_neg (by simp), preF_add] at he
   generalize t.t[i].cloB false (overF f2 t.t[i]) A2.length f2 = bo at *
   have hset : A2.set (A.length + i) ⟨t.t[i].v, t.t[i].n == 1, bo.t⟩ ++ bo.c = A ++ ((own ++ [⟨t.t[i].v, t.t[i].n == 1, bo.t⟩]) ++ (((t.t.take t.v.length).drop (i + 1)).map blankC ++ (C ++ bo.c))) := by
    rw [hA2, List.set_append_right _ _ (by omega), List.set_append_right _ _ (by omega), h00]
    simp
   have hl3 : A2.length + bo.c.length = (A2.set (A.length + i) ⟨t.t[i].v, t.t[i].n == 1, bo.t⟩ ++ bo.c).length := by simp
   rw [hl3, show (A.length : Int) + (i : Int) + 1 = (A.length : Int) + ((i + 1 : Nat) : Int) by omega] at he
   generalize A2.set (A.length + i) ⟨t.t[i].v, t.t[i].n == 1, bo.t⟩ ++ bo.c = A3 at *
   refine PDraw.sE [.tok tt', .box b [.ms tk2, .mp r], .row tk2 (A2.map Cod.pv), .mp r (.int .i64) (mapM Kn.pa f2) []] [15,16,17] [18,19,20] tt_ok mixed ?_
   conv=>whnf
   repeat ((first|((first|(apply zY;intro hg)|apply zZ);first|exact stA|exact stB|((conv=>whnf);(repeat ((first|(refine zW ?_ ?_;exact gA)|refine pC (cloneInt_c t.v (by omega)) wR ?_|refine zA ?_|refine zH rfl ?_|refine zB ?_|refine sG ?_|intro _);conv=>whnf));first|exact pS|exact pL|exact pE))|(refine zW ?_ ?_;exact gA)|refine zH rfl ?_|refine zA ?_|refine zI bA ?_|refine zI rfl ?_|refine sB ?_|(refine zO ?_ ?_ ?_;omega;omega)|(refine zP ?_ ?_ ?_;omega;omega)|refine zM rfl ?_|(refine zQ ?_ ?_ ?_;omega;omega)|(refine zR ?_ ?_;omega)|(refine zI ?_ ?_;exact nA)|refine sS ?_|refine pC (cloneInt_c t.v (by omega)) wR ?_|refine sF ?_|refine n0 ?_|refine sD ?_|intro _);conv=>whnf)
   refine PCall.go hfill (WkT.refl _) ?_
   rintro _ _ ⟨tk3, tk4, e1, e2, rfl, rfl⟩
   conv => whnf
   repeat' (first|((first|((first|(apply zY;intro hg)|apply zZ);first|exact stA|exact stB|((conv=>whnf);(repeat ((first|(refine zW ?_ ?_;exact gA)|refine pC (cloneInt_c t.v (by omega)) wR ?_|refine zA ?_|refine zH rfl ?_|refine zB ?_|refine sG ?_|intro _);conv=>whnf));first|exact pS|exact pL|exact pE))|(refine zW ?_ ?_;exact gA)|refine zH rfl ?_|refine zA ?_|refine zI bA ?_|refine zI rfl ?_|refine sB ?_|(refine zO ?_ ?_ ?_;omega;omega)|(refine zP ?_ ?_ ?_;omega;omega)|refine zM rfl ?_|(refine zQ ?_ ?_ ?_;omega;omega)|(refine zR ?_ ?_;omega)|(refine zI ?_ ?_;exact nA)|refine sS ?_|refine pC (cloneInt_c t.v (by omega)) wR ?_|refine sF ?_|refine n0 ?_|refine sD ?_|intro _|refine zG ?_);conv=>whnf)|(refine zX (fun hc => ?_) (fun hc => ?_)<;>(try simp only [SY] at hc)<;>first|omega|(conv=>whnf)))
   rename_i t5 ht5
   exact loopTo (i + 1, (T ++ [Trm.mk 19 ((A.length : Int) + i) [] ((overF f2 t.t[i]).map (refF bo.fm ov))], t5), A3, bo.fm, tk3) ⟨by show i + 1 ≤ _; omega, ht5, e1, e2, by simp; omega, own ++ [⟨t.t[i].v, t.t[i].n == 1, bo.t⟩], C ++ bo.c, hset, by simp; omega, by show (C ++ bo.c).length + Trm.bulks (t.t.drop (i + 1)) ≤ _; rw [List.length_append]; omega, he⟩ (by show t.v.length - (i + 1) < t.v.length - i; omega) wA
  ·obtain rfl : i = t.v.length := by omega
   have hlt : t.v.length < t.t.length := by omega
   rw [drop_at hlt, Trm.bulks] at hcl
   rw [drop_at hlt, List.drop_of_length_le (Nat.le_refl t.v.length), Trm.cloF] at he
   rw [List.drop_of_length_le (by omega), List.map_nil, List.nil_append] at hA2
   have hA2l : A2.length = A.length + t.v.length + C.length := by
    rw [hA2]
    simp only [List.length_append]
    omega
   have hal : (t.t[t.v.length].clo false ov A2.length f2).c.length ≤ t.t[t.v.length].bulk := (t.t[t.v.length].clo_lens false).1 _ _ _
   refine PDraw.sF (some 86) rfl [.box b [.ms tk2, .mp r], .row tk2 (A2.map Cod.pv), .mp r (.int .i64) (mapM Kn.pa f2) []] [7] [] [8] [9] tt_ok mixed ?_
   conv=>whnf
   repeat ((first|((first|(apply zY;intro hg)|apply zZ);first|exact stA|exact stB|((conv=>whnf);(repeat ((first|(refine zW ?_ ?_;exact gA)|refine pC (cloneInt_c t.v (by omega)) wR ?_|refine zA ?_|refine zH rfl ?_|refine zB ?_|refine sG ?_|intro _);conv=>whnf));first|exact pS|exact pL|exact pE))|(refine zW ?_ ?_;exact gA)|refine zH rfl ?_|refine zA ?_|refine zI bA ?_|refine zI rfl ?_|refine sB ?_|(refine zO ?_ ?_ ?_;omega;omega)|(refine zP ?_ ?_ ?_;omega;omega)|refine zM rfl ?_|(refine zQ ?_ ?_ ?_;omega;omega)|(refine zR ?_ ?_;omega)|(refine zI ?_ ?_;exact nA)|refine sS ?_|refine pC (cloneInt_c t.v (by omega)) wR ?_|refine sF ?_|refine n0 ?_|refine sD ?_|intro _);conv=>whnf)
   refine PCall.go (hx _ (List.getElem_mem hlt) tk2 A2 f2 ov k3 k4 (by omega) hov) (WkT.refl _) ?_
   rintro _ _ ⟨tk3, e1, e2, rfl, rfl⟩
   generalize t.t[t.v.length].clo false ov A2.length f2 = a at *
   obtain ⟨at', ac, af⟩ := a
   dsimp only at hal he ⊢
   simp only [preF, List.append_nil] at he
   rw [he]
   dsimp only
   have hA3 : A ++ (own ++ (C ++ ac)) = A2 ++ ac := by rw [hA2]; simp
   rw [hA3]
   conv => whnf
   repeat' (first|((first|((first|(apply zY;intro hg)|apply zZ);first|exact stA|exact stB|((conv=>whnf);(repeat ((first|(refine zW ?_ ?_;exact gA)|refine pC (cloneInt_c t.v (by omega)) wR ?_|refine zA ?_|refine zH rfl ?_|refine zB ?_|refine sG ?_|intro _);conv=>whnf));first|exact pS|exact pL|exact pE))|(refine zW ?_ ?_;exact gA)|refine zH rfl ?_|refine zA ?_|refine zI bA ?_|refine zI rfl ?_|refine sB ?_|(refine zO ?_ ?_ ?_;omega;omega)|(refine zP ?_ ?_ ?_;omega;omega)|refine zM rfl ?_|(refine zQ ?_ ?_ ?_;omega;omega)|(refine zR ?_ ?_;omega)|(refine zI ?_ ?_;exact nA)|refine sS ?_|refine pC (cloneInt_c t.v (by omega)) wR ?_|refine sF ?_|refine n0 ?_|refine sD ?_|intro _|refine zG ?_);conv=>whnf)|(refine zX (fun hc => ?_) (fun hc => ?_)<;>(try simp only [SY] at hc)<;>first|omega|(conv=>whnf)))
   ·rw [if_pos hc]
    exact PRet.gen (y := .agg at'.cells) (Γ' := mkrG b r tk3 (A2 ++ ac) af) TrmOf.wk ⟨tk3, e1, e2, rfl, rfl⟩
   ·rw [if_neg (by simp [hc])]
    exact PRet.gen (y := .agg (Trm.mk 9 0 t.v (T ++ [at'])).cells) (Γ' := mkrG b r tk3 (A2 ++ ac) af) TrmOf.wk ⟨tk3, e1, e2, rfl, rfl⟩
end Go.Cb
