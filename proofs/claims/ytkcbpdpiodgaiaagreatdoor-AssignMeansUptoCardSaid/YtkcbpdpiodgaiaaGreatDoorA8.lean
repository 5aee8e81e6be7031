/- Readings. -/
import Derived.Carry
import Derived.ChangeArms
import Derived.ChangeSame
import Derived.Deep.DeepHandedRow
import Derived.Deep.DeepWitnessRowRef
import Derived.KernelRfl
import Derived.Lib.LaidIn
import Derived.OpenShut
import Derived.OpenVars
import Derived.RowKit
import Derived.Test.YtkcbpdpiodgaiaaGreatDoorRows
import Derived.WideShapes
import Derived.Test.YtkcbpdpiodgaiaaGreatDoorA7
set_option linter.unusedVariables false
namespace Go.Cb
open Go.RowKit (Below)
open Go.ChangeShapes
def Fz.of (w : World) : Fz := fun b o => w.cell? ⟨b, o, none⟩
theorem Sim.start (w : World) : Sim w (Fz.of w) [] w := ⟨Below.refl _ w, fun _ _ _ h => h, by simp, .nil⟩
theorem choose_list {α : Type} {p : Nat → α → Prop} : ∀ {n : Nat}, (∀ i, i < n → ∃ a, p i a) → ∃ l : List α, l.length = n ∧ ∀ i a, l[i]? = some a → p i a
 | 0, _ => ⟨[], rfl, by simp⟩
 | n + 1, h => by
  obtain ⟨l, h1, h2⟩ := choose_list (n := n) fun i hi => h i (by omega)
  obtain ⟨a, ha⟩ := h n (by omega)
  refine ⟨l ++ [a], by simp [h1], fun i b hb => ?_⟩
  by_cases hi : i < l.length
  ·rw [List.getElem?_append_left hi] at hb; exact h2 i b hb
  ·rw [List.getElem?_append_right (by omega)] at hb
   have h0 : i - l.length = 0 := by
    rcases Nat.eq_zero_or_pos (i - l.length) with h | h
    ·exact h
    ·rw [List.getElem?_eq_none (by simp; omega)] at hb; cases hb
   rw [h0] at hb
   simp at hb
   obtain rfl : i = n := by omega
   rwa [← hb]
section
variable {H : Type} {enc : TypeId × Value → H} {P : Program} {w : World} {UB : DataW H → Nat} {UBs : List (DataW H) → Nat}
structure Bulk (UB : DataW H → Nat) (UBs : List (DataW H) → Nat) : Prop where
 nil : UBs [] = 0
 cons : ∀ x l, UBs (x :: l) = UB x + UBs l
 agg : ∀ l, 1 + UBs l ≤ UB (.agg l)
 slice : ∀ l m, 1 + UBs l ≤ UB (.slice l m)
 str : ∀ s, s.length + 1 ≤ UB (.lit (.string s))
 pos : ∀ d, 1 ≤ UB d
def Rd {α : Type} (enc : TypeId × Value → H) (P : Program) (w : World) (UB : DataW H → Nat) (n : Nat) (t : TypeId) (cells : α → List PV) (bk : α → Nat) : Prop :=
 ∀ cs x, DataW.trod enc P w 0 (fun _ => true) true n t cs = some x → ∃ a : α, RepL (Fz.of w) (cells a) cs ∧ bk a ≤ UB x.1
theorem rd_int (hB : Bulk UB UBs) {t : TypeId} {k : IntKind} (ht : P.underlying t = some (.int k)) (n : Nat) : Rd enc P w UB n t (fun n : Int => [.int k n]) fun _ => 1 := by
 intro cs x h
 obtain ⟨m, rfl, rfl, _⟩ := DataW.trod_int ht h
 exact ⟨m, by simp only [RepL, Rep, and_true]; exact rfl, hB.pos _⟩
theorem rd_str (hB : Bulk UB UBs) {t : TypeId} (ht : P.underlying t = some .string) (n : Nat) : Rd enc P w UB n t (fun s : List UInt8 => [.str s]) fun s => s.length := by
 intro cs x h
 obtain ⟨s, rfl, rfl, hs⟩ := DataW.trod_string ht h
 refine ⟨s.data.toList, ?_, by have := hB.str s.data.toList; show s.data.toList.length ≤ UB (.lit (.string s.data.toList)); omega⟩
 have : s.data.toList.length ≤ 9223372036854775807 := by
  have h1 : s.data.toList.length = s.size := Array.length_toList
  have h2 : maxLen ≤ 9223372036854775807 := by simp only [maxLen]; omega
  omega
 exact RepL_cons.2 ⟨⟨rfl, by unfold Rep; exact ⟨rfl, this⟩⟩, RepL_nil _⟩
theorem rep_row {α : Type} {pv : α → PV} {cells : α → List PV} [c : CellsOf pv cells] {s b o : Nat} (hs : ∀ a, (cells a).length = s) : ∀ (l : List α) (i : Nat),
  (∀ j a, l[j]? = some a → ∃ cs, w.cells? 0 ((⟨b, o, none⟩ : Addr).add ((i + j) * s)) s = some cs ∧ RepL (Fz.of w) (cells a) cs) → RepRow (Fz.of w) s b (o + i * s) (l.map pv)
 | [], _, _ => by simp [RepRow]
 | a :: l, i, h => by
  rw [List.map_cons, RepRow_cons]
  obtain ⟨cs, h1, h2⟩ := h 0 a rfl
  obtain ⟨_, h3, h4⟩ := World.cells?_some h1
  refine ⟨⟨by rw [c.eq]; exact hs a, ?_⟩, ?_⟩
  ·rw [c.eq, RepCells_iff]
   refine ⟨cs, h2, fun j u hu => ?_⟩
   have hj : j < cs.length := by
    rcases Nat.lt_or_ge j cs.length with h | h
    ·exact h
    ·rw [List.getElem?_eq_none h] at hu; cases hu
   have := h4 j (by omega)
   rw [hu, Addr.add_lit, Addr.add_lit] at this
   simpa [Fz.of] using this
  ·have := rep_row (pv := pv) hs l (i + 1) fun j a ha => by
    have := h (j + 1) a (by simpa using ha)
    rwa [show i + (j + 1) = i + 1 + j by omega] at this
   rwa [show o + (i + 1) * s = o + i * s + s by rw [Nat.succ_mul]; omega] at this
def sumBk {α : Type} (bk : α → Nat) : List α → Nat
 | [] => 0
 | a :: l => bk a + sumBk bk l
theorem sumBk_le (hB : Bulk UB UBs) {α : Type} {bk : α → Nat} : ∀ (l : List α) (ds : List (DataW H)), l.length ≤ ds.length → (∀ (i : Nat) (a : α) (d : DataW H), l[i]? = some a → ds[i]? = some d → bk a ≤ UB d) → sumBk bk l ≤ UBs ds
 | [], _, _, _ => by simp [sumBk]
 | a :: l, [], h, _ => by simp at h
 | a :: l, d :: ds, h, k => by
  rw [sumBk, hB.cons]
  have h1 := k 0 a d rfl rfl
  have h2 := sumBk_le hB l ds (by simpa using h) fun i a d ha hd => k (i + 1) a d (by simpa using ha) (by simpa using hd)
  omega
theorem rd_slice (hB : Bulk UB UBs) {n : Nat} {t e : TypeId} (ht : P.underlying t = some (.slice e)) {s : Nat} (hs : P.cellsOf e = s) (hp : 0 < s) {α : Type} {pv : α → PV} {cells : α → List PV} [c : CellsOf pv cells] {bk : α → Nat}
  (hc : ∀ a, (cells a).length = s) (he : ∀ m, m < n → Rd enc P w UB m e cells bk) : Rd enc P w UB n t (fun l : List α => [.sl s (l.map pv) none]) fun l => 1 + sumBk bk l := by
 intro cs x h
 rcases DataW.trod_slice ht h with ⟨rfl, rfl⟩ | ⟨a, len, cap, elems, rest, m, rfl, rfl, rfl, _, hlc, hcm, hel, hx, hr, _⟩
 ·refine ⟨[], ?_, by have := hB.pos (DataW.nil : DataW H); simpa [sumBk] using this⟩
  exact RepL_cons.2 ⟨⟨rfl, by unfold Rep; exact ⟨by simp, .inl ⟨rfl, rfl⟩⟩⟩, RepL_nil _⟩
 ·have hx' : ∀ i, i < len → ∃ a' : α, ∃ cs d, elems[i]? = some d ∧ w.cells? 0 (a.add (i * s)) s = some cs ∧ RepL (Fz.of w) (cells a') cs ∧ bk a' ≤ UB d.1 := by
   intro i hi
   have h1 := hx i hi
   have h2 : elems[i]? = some elems[i] := List.getElem?_eq_getElem (by omega)
   rw [h2, hs] at h1
   obtain ⟨cs, h3, h4⟩ := Option.bind_eq_some_iff.1 h1
   obtain ⟨a', h5, h6⟩ := he m (by omega) cs _ h4
   exact ⟨a', cs, _, h2, h3, h5, h6⟩
  obtain ⟨l, hl, hl2⟩ := choose_list hx'
  have hcount : 1 + sumBk bk l ≤ UB (.slice (elems.map (·.1)) (rest.map (·.1))) := by
   have := sumBk_le hB (bk := bk) l (elems.map (·.1)) (by simp; omega) (by
    intro i a' d ha hd
    obtain ⟨_, d', h2, _, _, h5⟩ := hl2 i a' ha
    rw [List.getElem?_map, h2] at hd
    simp at hd
    rw [← hd]; exact h5)
   have := hB.slice (elems.map (·.1)) (rest.map (·.1))
   omega
  refine ⟨l, ?_, hcount⟩
  refine RepL_cons.2 ⟨⟨rfl, ?_⟩, RepL_nil _⟩
  unfold Rep
  refine ⟨fun t ht => (by cases ht), ?_⟩
  by_cases h0 : cap = 0
  ·subst h0
   obtain rfl : len = 0 := by omega
   have : l = [] := List.eq_nil_of_length_eq_zero hl
   subst this
   exact .inr (.inr ⟨rfl, a, rfl⟩)
  ·
   have hsp : a.spot = none := by
    have h1 : ∃ cs, w.cells? 0 a s = some cs := by
     by_cases h2 : 0 < len
     ·obtain ⟨_, cs, _, _, h3, _⟩ := hx' 0 h2
      exact ⟨cs, by simpa [Addr.add] using h3⟩
     ·obtain ⟨h3, h4⟩ := hr rfl
      have h5 := h4 0 (by omega)
      have h6 : rest[0]? = some (rest[0]'(by omega)) := List.getElem?_eq_getElem (by omega)
      rw [h6, hs] at h5
      obtain ⟨cs, h7, _⟩ := Option.bind_eq_some_iff.1 h5
      have : len = 0 := by omega
      subst this
      exact ⟨cs, by simpa [Addr.add] using h7⟩
    obtain ⟨cs, h1⟩ := h1
    obtain ⟨_, h3, h4⟩ := World.cells?_some h1
    have h5 := h4 0 hp
    have h6 : cs[0]? = some (cs[0]'(by omega)) := List.getElem?_eq_getElem (by omega)
    rw [h6] at h5
    simp only [Addr.add, if_true, World.cell?] at h5
    split at h5
    ·split at h5
     ·cases h5
     ·rename_i hn; simpa using hn
    ·cases h5
   obtain ⟨b, o, sp⟩ := a
   simp only at hsp
   subst hsp
   refine .inr (.inl ⟨b, o, cap, by simp [hl], by simp; omega, hcm, by simp, ?_⟩)
   have := rep_row (pv := pv) (w := w) (b := b) (o := o) hc l 0 fun j a' ha => by
    obtain ⟨cs, _, _, h3, h4, _⟩ := hl2 j a' ha
    exact ⟨cs, by simpa using h3, h4⟩
   simpa using this
end
section
variable {H : Type} {enc : TypeId × Value → H} {P : Program} {w : World} {UB : DataW H → Nat} {UBs : List (DataW H) → Nat}
theorem repL_cat {F : Fz} {ps bs : List PV} {cs : List Value} {o s : Nat} (h1 : RepL F ps ((cs.drop o).take s)) (h2 : RepL F bs (cs.drop (o + s))) : RepL F (ps ++ bs) (cs.drop o) := by
 have := RepL_append h1 h2
 rwa [← List.drop_drop, List.take_append_drop] at this
theorem rd_field {α : Type} {n o s : Nat} {t : TypeId} {cells : α → List PV} {bk : α → Nat} (hR : Rd enc P w UB n t cells bk) {fs : Array Field} {cs : List Value} {xs : List (DataW H × List MemPlace)} (hlen : xs.length = fs.size)
  (hf : ∀ (i : Nat) (f : Field), fs[i]? = some f → DataW.trod enc P w 0 (fun _ => true) true n f.type ((cs.drop f.offset).take (P.cellsOf f.type)) = xs[i]?) (i : Nat) (h : (fs.toList.map fun f => (f.type, f.offset))[i]? = some (t, o)) (hs : P.cellsOf t = s) :
  ∃ a y, xs[i]? = some y ∧ RepL (Fz.of w) (cells a) ((cs.drop o).take s) ∧ bk a ≤ UB y.1 := by
 rw [List.getElem?_map] at h
 obtain ⟨f, hfi, hft⟩ := Option.map_eq_some_iff.1 h
 rw [Array.getElem?_toList] at hfi
 simp only [Prod.mk.injEq] at hft
 obtain ⟨rfl, rfl⟩ := hft
 have h1 := hf i f hfi
 have hi : i < xs.length := by rw [hlen]; exact (Array.getElem?_eq_some_iff.1 hfi).1
 have h2 : xs[i]? = some xs[i] := List.getElem?_eq_getElem hi
 rw [h2] at h1
 obtain ⟨a, h3, h4⟩ := hR _ _ h1
 exact ⟨a, _, h2, by rw [← hs]; exact h3, h4⟩
theorem arg_struct {α : Type} {t : TypeId} {cells : α → List PV} {bk : α → Nat} {fs : Array Field} (hs : P.underlying t = some (.struct fs)) (hR : ∀ n, Rd enc P w UB n t cells bk) {r : Reach} {b0 : Nat} {v : Value} {d : DataW H} {p : List MemPlace}
  (hv : Value.okWide P w r b0 t v) (h : DataW.Trod enc P w 0 (fun _ => true) true t v d p) : ∃ a, Rep (Fz.of w) (.agg (cells a)) v ∧ bk a ≤ UB d := by
 obtain ⟨cs, rfl, _⟩ := Go.WideShapes.okWide_struct hs hv
 obtain ⟨fuel, hf⟩ := h
 obtain ⟨a, h1, h2⟩ := hR fuel _ _ hf
 refine ⟨a, ?_, h2⟩
 simp only [Rep]
 exact ⟨cs.toList, by simp, by simpa [Value.cells] using h1⟩
theorem arg_int {t : TypeId} {k : IntKind} (ht : P.underlying t = some (.int k)) {r : Reach} {b0 : Nat} {v : Value} {d : DataW H} {p : List MemPlace} (hv : Value.okWide P w r b0 t v) (h : DataW.Trod enc P w 0 (fun _ => true) true t v d p) :
  ∃ n : Int, Rep (Fz.of w) (.int k n) v ∧ (Lit.int k n).wf = true := by
 obtain ⟨n, rfl, _, _, h4⟩ := open_int ht hv h
 exact ⟨n, by simp only [Rep], h4⟩
theorem trodAll_below (hl : laidOutB P = true) {W W' : World} (hb : Below W.heap.size W W') : ∀ {ts : List TypeId} {vs : List Value} {ds : List (DataW H)} {ps : List MemPlace}, (∀ t ∈ ts, P.readableRec t = true ∧ t < P.types.size) →
  DataW.TrodAll enc P W 0 (fun _ => true) true ts vs ds ps → (∀ x ∈ ps, x.block < W.heap.size) → DataW.TrodAll enc P W' 0 (fun b => decide (b < W.heap.size)) true ts vs ds ps
 | [], _, _, _, _, h, _ => by
  obtain ⟨rfl, rfl, rfl⟩ := trodAll_nil h
  exact trodAll_mk0
 | t :: ts, _, _, _, hr, h, hlt => by
  obtain ⟨v, vs, d, ds, p, q, rfl, rfl, rfl, h1, h2⟩ := trodAll_cons h
  exact trodAll_cons_mk (Go.RowKit.Below.trod hl (hr t (by simp)).1 (hr t (by simp)).2 h1 hb fun x hx => hlt x (by simp [hx])) (trodAll_below hl hb (fun t ht => hr t (by simp [ht])) h2 fun x hx => hlt x (by simp [hx]))
theorem trodAll_len {spare : Nat → Bool} {base : Nat} {held : Bool} : ∀ {ts : List TypeId} {vs : List Value} {ds : List (DataW H)} {ps : List MemPlace}, DataW.TrodAll enc P w base spare held ts vs ds ps → ds.length = ts.length
 | [], _, _, _, h => by obtain ⟨rfl, rfl, rfl⟩ := trodAll_nil h; rfl
 | t :: ts, _, _, _, h => by
  obtain ⟨v, vs, d, ds, p, q, rfl, rfl, rfl, h1, h2⟩ := trodAll_cons h
  simp [trodAll_len h2]
theorem law_post {f : Func} {s : ChangeSpec} {tb : TypeId} {W W' : World} {args : Array Value} {ds gs : List (DataW H)} {before : List MemPlace} (hl : laidOutB P = true) (hr : ∀ t ∈ f.params.toList, P.readableRec t = true ∧ t < P.types.size)
  (hres : f.resultTypes = #[tb]) (hb : P.underlying tb = some .bool) (hv : s.vars = []) (hfn : ∀ ds : List (DataW H), ds.length = f.params.size → s.fn H ds = { results := [.lit (.bool true)], args := ds })
  (hW : DataW.Whole enc P f.params.toList s.vars false W args.toList ds gs before) (hbel : Below W.heap.size W W') : s.post enc P f false true false false W args (.bool true) W' := by
 have hW' := hW
 obtain ⟨p, q, hA, hV, rfl, _, _⟩ := hW
 have hV0 : DataW.TrodVars enc P W (fun _ => true) [] gs q := by rw [← hv]; exact hV
 obtain ⟨rfl, rfl⟩ := trodVars_none hV0
 have hfn' := hfn (ds ++ []) (by rw [List.append_nil, trodAll_len hA]; simp)
 refine ⟨ds, [], p ++ [], [], p, [], hW', ?_, ?_, ?_, hbel.frame _, fun h => by cases h⟩
 ·rw [hfn', hres]
  exact trodAll_mk1 (Go.RowKit.shut_bool hb _)
 ·rw [hfn', List.append_nil]
  exact trodAll_below hl hbel hr hA fun x hx => hW'.lt x (by simp [hx])
 ·rw [hfn', hv]; rfl
end
theorem sumBk_datum : ∀ l : List Datum, sumBk Datum.bulk l = Datum.bulks l
 | [] => rfl
 | x :: l => by rw [sumBk, Datum.bulks, sumBk_datum l]
theorem sumBk_trm : ∀ l : List Trm, sumBk Trm.bulk l = Trm.bulks l
 | [] => rfl
 | x :: l => by rw [sumBk, Trm.bulks, sumBk_trm l]
theorem sumBk_one {α : Type} : ∀ l : List α, sumBk (fun _ => 1) l = l.length
 | [] => rfl
 | x :: l => by rw [sumBk, sumBk_one l, List.length_cons]; omega
section
variable {H : Type} {enc : TypeId × Value → H} {P : Program} {w : World} {UB : DataW H → Nat} {UBs : List (DataW H) → Nat}
theorem repL_end {F : Fz} {cs : List Value} {n : Nat} (h : cs.length = n) : RepL F [] (cs.drop n) := by
 rw [List.drop_of_length_le (by omega)]; exact RepL_nil F
theorem rd_datum (hB : Bulk UB UBs) {tI tS tL tD : TypeId} (hI : P.underlying tI = some (.int .i64)) (hS : P.underlying tS = some .string) (hL : P.underlying tL = some (.slice tD)) {fs : Array Field} (hD : P.underlying tD = some (.struct fs))
  (hfs : (fs.toList.map fun f => (f.type, f.offset)) = [(tI, 0), (tI, 1), (tI, 2), (tS, 3), (tL, 4)]) (cI : P.cellsOf tI = 1) (cS : P.cellsOf tS = 1) (cL : P.cellsOf tL = 1) (cD : P.cellsOf tD = 5) : ∀ n, Rd enc P w UB n tD Datum.cells Datum.bulk := by
 intro n
 induction n using Nat.strongRecOn with
 | ind n ih =>
  intro cs x h
  obtain ⟨xs, m, rfl, rfl, hl, hlen, hf⟩ := DataW.trod_struct hD h
  obtain ⟨a0, y0, e0, r0, _⟩ := rd_field (rd_int (w := w) (enc := enc) hB hI m) hlen hf 0 (by rw [hfs]; rfl) cI
  obtain ⟨a1, y1, e1, r1, _⟩ := rd_field (rd_int (w := w) (enc := enc) hB hI m) hlen hf 1 (by rw [hfs]; rfl) cI
  obtain ⟨a2, y2, e2, r2, _⟩ := rd_field (rd_int (w := w) (enc := enc) hB hI m) hlen hf 2 (by rw [hfs]; rfl) cI
  obtain ⟨a3, y3, e3, r3, b3⟩ := rd_field (rd_str (w := w) (enc := enc) hB hS m) hlen hf 3 (by rw [hfs]; rfl) cS
  obtain ⟨a4, y4, e4, r4, b4⟩ := rd_field (rd_slice (pv := Datum.pv) hB hL cD (by omega) (fun a => rfl) (fun k hk => ih k (by omega))) hlen hf 4 (by rw [hfs]; rfl) cL
  refine ⟨.mk a0 a1 a2 a3 a4, ?_, ?_⟩
  ·exact repL_cat r0 (repL_cat r1 (repL_cat r2 (repL_cat r3 (repL_cat r4 (repL_end (hl.trans cD))))))
  ·have h5 : xs.length = 5 := by
    have := congrArg List.length hfs
    simp at this; omega
   match xs, h5 with
   | [z0, z1, z2, z3, z4], _ =>
    simp at e3 e4
    subst e3 e4
    have := hB.agg ([z0, z1, z2, z3, z4].map (·.1))
    simp only [List.map_cons, List.map_nil, hB.cons, hB.nil] at this
    rw [sumBk_datum] at b4
    rw [Datum.bulk_eq]
    show 1 + a3.length + Datum.bulks a4 ≤ _
    simp only [List.map_cons, List.map_nil]
    omega
theorem rd_ints (hB : Bulk UB UBs) {tI tV : TypeId} (hI : P.underlying tI = some (.int .i64)) (hV : P.underlying tV = some (.slice tI)) (cI : P.cellsOf tI = 1) (n : Nat) : Rd enc P w UB n tV (fun l : List Int => [.sl 1 (l.map (PV.int .i64)) none]) fun l => 1 + l.length := by
 intro cs x h
 obtain ⟨a, h1, h2⟩ := rd_slice (pv := PV.int .i64) hB hV cI (by omega) (fun a => rfl) (fun k hk => rd_int (w := w) (enc := enc) hB hI k) cs x h
 exact ⟨a, h1, by have := sumBk_one a; show 1 + a.length ≤ _; have h3 : 1 + sumBk (fun _ => 1) a ≤ UB x.1 := h2; omega⟩
theorem rd_trm (hB : Bulk UB UBs) {tI tV tL tT : TypeId} (hI : P.underlying tI = some (.int .i64)) (hV : P.underlying tV = some (.slice tI)) (hL : P.underlying tL = some (.slice tT)) {fs : Array Field} (hT : P.underlying tT = some (.struct fs))
  (hfs : (fs.toList.map fun f => (f.type, f.offset)) = [(tI, 0), (tI, 1), (tV, 2), (tL, 3)]) (cI : P.cellsOf tI = 1) (cV : P.cellsOf tV = 1) (cL : P.cellsOf tL = 1) (cT : P.cellsOf tT = 4) : ∀ n, Rd enc P w UB n tT Trm.cells Trm.bulk := by
 intro n
 induction n using Nat.strongRecOn with
 | ind n ih =>
  intro cs x h
  obtain ⟨xs, m, rfl, rfl, hl, hlen, hf⟩ := DataW.trod_struct hT h
  obtain ⟨a0, y0, e0, r0, _⟩ := rd_field (rd_int (w := w) (enc := enc) hB hI m) hlen hf 0 (by rw [hfs]; rfl) cI
  obtain ⟨a1, y1, e1, r1, _⟩ := rd_field (rd_int (w := w) (enc := enc) hB hI m) hlen hf 1 (by rw [hfs]; rfl) cI
  obtain ⟨a2, y2, e2, r2, b2⟩ := rd_field (rd_ints (w := w) (enc := enc) hB hI hV cI m) hlen hf 2 (by rw [hfs]; rfl) cV
  obtain ⟨a3, y3, e3, r3, b3⟩ := rd_field (rd_slice (pv := Trm.pv) hB hL cT (by omega) (fun a => rfl) (fun k hk => ih k (by omega))) hlen hf 3 (by rw [hfs]; rfl) cL
  refine ⟨.mk a0 a1 a2 a3, ?_, ?_⟩
  ·exact repL_cat r0 (repL_cat r1 (repL_cat r2 (repL_cat r3 (repL_end (hl.trans cT)))))
  ·have h5 : xs.length = 4 := by
    have := congrArg List.length hfs
    simp at this; omega
   match xs, h5 with
   | [z0, z1, z2, z3], _ =>
    simp at e2 e3
    subst e2 e3
    have := hB.agg ([z0, z1, z2, z3].map (·.1))
    simp only [List.map_cons, List.map_nil, hB.cons, hB.nil] at this
    rw [sumBk_trm] at b3
    rw [Trm.bulk_eq]
    show 1 + a2.length + Trm.bulks a3 ≤ _
    simp only [List.map_cons, List.map_nil]
    omega
end
end Go.Cb
namespace Go.Cb
open Go.Proofs Go.Proofs.YtkcbpdpiodgaiaaGreatDoor
open Go.RowKit (Below)
theorem uptoOne {H : Type} (d : DataW H) : 1 ≤ Rows.uptoBulk d := by
 cases d with
 | lit l => cases l <;> simp [Rows.uptoBulk]
 | nil => simp [Rows.uptoBulk]
 | ptr d => simp [Rows.uptoBulk]
 | slice elems spare => simp [Rows.uptoBulk]
 | agg parts => simp [Rows.uptoBulk]
 | iface t d => simp [Rows.uptoBulk]
 | map entries => simp [Rows.uptoBulk]
 | held h => simp [Rows.uptoBulk]
theorem bulkR {H : Type} : Bulk (H := H) Rows.uptoBulk Rows.uptoBulkAll where
 nil := by simp [Rows.uptoBulkAll]
 cons x l := by simp [Rows.uptoBulkAll]
 agg l := by simp [Rows.uptoBulk]; omega
 slice l m := by simp [Rows.uptoBulk]; omega
 str s := by simp [Rows.uptoBulk]
 pos d := uptoOne d
section
variable {H : Type} {enc : TypeId × Value → H} {w : World}
theorem cInt : Tryz.prog.cellsOf 3 = 1 := by kernel_rfl
theorem cStr : Tryz.prog.cellsOf 9 = 1 := by kernel_rfl
theorem cInts : Tryz.prog.cellsOf 23 = 1 := by kernel_rfl
theorem cDs : Tryz.prog.cellsOf 22 = 1 := by kernel_rfl
theorem cTs : Tryz.prog.cellsOf 24 = 1 := by kernel_rfl
theorem cD : Tryz.prog.cellsOf 54 = 5 := by kernel_rfl
theorem cT : Tryz.prog.cellsOf 26 = 4 := by kernel_rfl
theorem cP : Tryz.prog.cellsOf 28 = 5 := by kernel_rfl
theorem rdD (n : Nat) : Rd enc Tryz.prog w Rows.uptoBulk n 54 Datum.cells Datum.bulk :=
 rd_datum bulkR Tryz.underlying3 Tryz.underlying9 Tryz.underlying22 Tryz.underlying54 rfl cInt cStr cDs cD n
theorem rdT (n : Nat) : Rd enc Tryz.prog w Rows.uptoBulk n 26 Trm.cells Trm.bulk :=
 rd_trm bulkR Tryz.underlying3 Tryz.underlying23 Tryz.underlying24 Tryz.underlying26 rfl cInt cInts cTs cT n
theorem rdDs (n : Nat) : Rd enc Tryz.prog w Rows.uptoBulk n 22 (fun l : List Datum => [.sl 5 (l.map Datum.pv) none]) fun l => 1 + Datum.bulks l := by
 intro cs x h
 obtain ⟨a, h1, h2⟩ := rd_slice (pv := Datum.pv) bulkR Tryz.underlying22 cD (by omega) (fun a => rfl) (fun k hk => rdD (w := w) (enc := enc) k) cs x h
 have h3 : 1 + sumBk Datum.bulk a ≤ Rows.uptoBulk x.1 := h2
 rw [sumBk_datum] at h3
 exact ⟨a, h1, h3⟩
def Prog.bulk (p : Prog) : Nat := Datum.bulks p.consts + p.body.bulk
theorem rdP (n : Nat) : Rd enc Tryz.prog w Rows.uptoBulk n 28 Prog.cells Prog.bulk := by
 intro cs x h
 obtain ⟨xs, m, rfl, rfl, hl, hlen, hf⟩ := DataW.trod_struct Tryz.underlying28 h
 obtain ⟨a0, y0, e0, r0, b0⟩ := rd_field (rdDs (w := w) (enc := enc) m) hlen hf 0 rfl cDs
 obtain ⟨a1, y1, e1, r1, b1⟩ := rd_field (rdT (w := w) (enc := enc) m) hlen hf 1 rfl cT
 refine ⟨⟨a0, a1⟩, ?_, ?_⟩
 ·have := repL_cat r0 (repL_cat r1 (repL_end (hl.trans cP)))
  rwa [List.append_nil] at this
 ·match xs, hlen with
  | [z0, z1], _ =>
   simp at e0 e1
   subst e0 e1
   have := (bulkR (H := H)).agg ([z0, z1].map (·.1))
   simp only [List.map_cons, List.map_nil, (bulkR (H := H)).cons, (bulkR (H := H)).nil] at this
   show Datum.bulks a0 + a1.bulk ≤ _
   simp only [List.map_cons, List.map_nil]
   omega
theorem okI : Tryz.prog.readableRec 3 = true ∧ 3 < Tryz.prog.types.size := ⟨by kernel_rfl, of_decide_eq_true (by kernel_rfl)⟩
theorem okP : Tryz.prog.readableRec 28 = true ∧ 28 < Tryz.prog.types.size := ⟨by kernel_rfl, of_decide_eq_true (by kernel_rfl)⟩
theorem okT : Tryz.prog.readableRec 26 = true ∧ 26 < Tryz.prog.types.size := ⟨by kernel_rfl, of_decide_eq_true (by kernel_rfl)⟩
theorem calls_true {f : FuncId} {args : List PV} {vs : List Value} {W : World} (h : ACallP Tryz.prog f args (.bool true)) (hr : RepT (Fz.of W) args vs) : Calls Tryz.prog f vs.toArray W fun e W' => e = .returned (.bool true) ∧ Below W.heap.size W W' := by
 refine (h.2 W (Fz.of W) [] W vs (Sim.start W) hr).mono ?_
 rintro e W' ⟨v, F', y, Γ', rfl, _, hS, hR, rfl⟩
 exact ⟨by rw [show v = .bool true by simpa only [Rep] using hR], hS.below⟩
end
end Go.Cb
namespace Go.Cb
open Go.Proofs Go.Proofs.YtkcbpdpiodgaiaaGreatDoor
mutual
def cellsD : DataW Unit → List Value
 | .lit (.int k n) => [.int k n]
 | .lit (.bool b) => [.bool b]
 | .lit (.string s) => [.string ⟨s.toArray⟩]
 | .agg l => cellsDs l
 | _ => []
def cellsDs : List (DataW Unit) → List Value
 | [] => []
 | d :: l => cellsD d ++ cellsDs l
end
def newBlocks (e : TypeId) : List (String × DataW Unit) → List Obj
 | [] => []
 | (_, .iface _ (.ptr d)) :: l => .cells (cellsD d).toArray e :: newBlocks e l
 | _ :: l => newBlocks e l
def putCs (h : Array Obj) (g : Option Nat) (cs : Array Value) : Array Obj := match g with
 | some g => h.modify g fun
  | .cells _ t frozen => .cells cs t frozen
  | o => o
 | none => h
def layAll (P : Program) (p : TypeId) : List (String × DataW Unit) → Nat → Array Obj → Array Obj
 | [], _, h => h
 | (n, .iface _ _) :: l, k, h => layAll P p l (k + 1) (putCs h (P.globalNamed n) #[.iface p (.pointer (some ⟨k, 0, none⟩))])
 | (n, d) :: l, k, h => layAll P p l k (putCs h (P.globalNamed n) (cellsD d).toArray)
noncomputable def laidWorld (os : Os) : World :=
 let w0 := World.holding Tryz.prog os ⟨(newBlocks 293 Rows.inlineMeansRow.laid).toArray, #[], []⟩
 { w0 with heap := layAll Tryz.prog 291 Rows.inlineMeansRow.laid (World.settled Tryz.prog os).heap.size w0.heap }
theorem laid_met (os : Os) (args : Array Value) : laidMet Tryz.prog Rows.inlineMeansRow.laid ((laidWorld os).forCall (fun _ _ => 0) ⟨#[], args, []⟩).memory :=
 (LaidIn.of_run (l := Rows.inlineMeansRow.laid) (List.range 1000) 16 (by kernel_rfl) (by kernel_rfl) (by kernel_rfl) (by kernel_rfl)).met
theorem own_none : ownKnob Tryz.prog.godebug = none := by kernel_rfl
theorem laidOut : laidOutB Tryz.prog = true := by kernel_rfl
end Go.Cb

