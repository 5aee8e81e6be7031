/-
  Plain laws: numbers in order, each once.
  Plain laws: a term and its parts.
  Layings of the library's contracts at this seat (written by the kit's tools).
  Contracts: numbers sorted by the library, equal neighbours struck.
  Contracts: what a term names and does not bind, what it binds, how often a variable is named and assigned.
  Plain laws: all variables greater by the same.
  Plain laws: assigned variables become boxes.
  Plain laws: chapter 10, what is right; the document's counts; programs.
  Plain laws: chapter 10, sizes of what is converted.
  Contracts: variables that are assigned become boxes, the program.
  Contracts: the document's comparisons, counts, bindings.
  Contracts: the document's bindings; all variables greater.
  Contracts: all variables greater by the same, of any term.
-/
import Derived.Lib.SlicesCompact
import Derived.Shelf.Slices.CompactI
import Derived.Shelf.Slices.In.SortNone
import Derived.Shelf.Sort.Plain
import Derived.Sort.OwnSortedInts
import Derived.Test.YtpkgembbjlebcaaGreatDoorProg
import Derived.Test.YtpkgembbjlebcaaGreatDoorW5
set_option linter.unusedSimpArgs false
set_option linter.unusedVariables false
namespace Go.Cb
open Go.Lib
def riseL (l : List Int) : List Int := compact (l.mergeSort fun x y => decide (x ≤ y))
theorem arr_get! {α : Type} [Inhabited α] {l : List α} {j : Nat} (h : j < l.length) : l.toArray[j]! = l[j] := by
  rw [getElem!_pos _ j (by simpa using h)]; simp
theorem mem_compact (l : List Int) (x : Int) : x ∈ compact l ↔ x ∈ l := by
  unfold compact compactUpTo
  simp only [List.mem_map, List.mem_filter, List.mem_range]
  constructor
  · rintro ⟨j, ⟨hj, _⟩, rfl⟩
    rw [arr_get! hj]
    exact List.getElem_mem hj
  · intro hx
    have key : ∀ n (j : Nat) (hj : j < l.length), j ≤ n → l[j] = x → ∃ i, (i < l.length ∧ keeps l.toArray i = true) ∧ l.toArray[i]! = x := by
      intro n
      induction n with
      | zero =>
        intro j hj hn e
        obtain rfl : j = 0 := by omega
        exact ⟨0, ⟨hj, keeps_lt_one _ 0 (by omega)⟩, by rw [arr_get! hj, e]⟩
      | succ n ih =>
        intro j hj hn e
        by_cases h0 : j = 0
        · subst h0
          exact ⟨0, ⟨hj, keeps_lt_one _ 0 (by omega)⟩, by rw [arr_get! hj, e]⟩
        by_cases hp : l[j - 1] = x
        · exact ih (j - 1) (by omega) (by omega) hp
        · refine ⟨j, ⟨hj, keeps_pos ?_⟩, by rw [arr_get! hj, e]⟩
          rw [arr_get! hj, arr_get! (show j - 1 < l.length by omega), e]
          exact fun h => hp h.symm
    obtain ⟨j, hj, e⟩ := List.getElem_of_mem hx
    exact key j j hj (Nat.le_refl _) e
theorem keeps_ne {l : List Int} {j : Nat} (h0 : 0 < j) (hj : j < l.length) (h : keeps l.toArray j = true) : l[j] ≠ l[j - 1] := by
  intro e
  have := keeps_neg (d := l.toArray) h0 (by rw [arr_get! hj, arr_get! (show j - 1 < l.length by omega)]; exact e)
  rw [this] at h; cases h
theorem compact_lt {l : List Int} (h : l.Pairwise (· ≤ ·)) : (compact l).Pairwise (· < ·) := by
  unfold compact compactUpTo
  rw [List.pairwise_map]
  refine List.Pairwise.imp_of_mem ?_ (List.Pairwise.filter _ List.pairwise_lt_range)
  intro i j hi hj hij
  simp only [List.mem_filter, List.mem_range] at hi hj
  rw [arr_get! hi.1, arr_get! hj.1]
  have h1 := keeps_ne (by omega) hj.1 hj.2
  have hp := List.pairwise_iff_getElem.1 h
  have h2 : l[j - 1] ≤ l[j] := hp (j - 1) j (by omega) hj.1 (by omega)
  have h3 : l[i] ≤ l[j - 1] := by
    by_cases e : i = j - 1
    · subst e; omega
    · exact hp i (j - 1) hi.1 (by omega) (by omega)
  omega
theorem mem_rise (l : List Int) (x : Int) : x ∈ riseL l ↔ x ∈ l := by
  unfold riseL
  rw [mem_compact, List.mem_mergeSort]
theorem sorted_le (l : List Int) : (l.mergeSort fun x y => decide (x ≤ y)).Pairwise (· ≤ ·) := by
  have := List.pairwise_mergeSort (le := fun x y : Int => decide (x ≤ y)) (by intro a b c; simp; omega) (by intro a b; simp; omega) l
  simpa using this
theorem rise_lt (l : List Int) : (riseL l).Pairwise (· < ·) := compact_lt (sorted_le l)
theorem lt_ext : ∀ {l m : List Int}, l.Pairwise (· < ·) → m.Pairwise (· < ·) → (∀ x, x ∈ l ↔ x ∈ m) → l = m
  | [], [], _, _, _ => rfl
  | [], y :: m, _, _, h => by have := (h y).2 (by simp); cases this
  | x :: l, [], _, _, h => by have := (h x).1 (by simp); cases this
  | x :: l, y :: m, hl, hm, h => by
    rw [List.pairwise_cons] at hl hm
    have hxy : x = y := by
      have h1 := (h x).1 (by simp)
      have h2 := (h y).2 (by simp)
      rw [List.mem_cons] at h1 h2
      rcases h1 with h1 | h1
      · exact h1
      · rcases h2 with h2 | h2
        · exact h2.symm
        · have := hl.1 _ h2; have := hm.1 _ h1; omega
    subst hxy
    rw [lt_ext hl.2 hm.2 fun z => ?_]
    have := h z
    simp only [List.mem_cons] at this
    constructor
    · intro hz
      have hlt := hl.1 z hz
      exact (this.1 (.inr hz)).resolve_left (by omega)
    · intro hz
      have hlt := hm.1 z hz
      exact (this.2 (.inr hz)).resolve_left (by omega)
theorem rise_len {l : List Int} (h : l.Nodup) : (riseL l).length = l.length := by
  have h1 : (riseL l).Nodup := (rise_lt l).imp fun h => by omega
  have : (riseL l).Perm l := (List.perm_ext_iff_of_nodup h1 h).2 (mem_rise l)
  exact this.length_eq
end Go.Cb
namespace Go.Cb
open Go.Proofs
set_option maxRecDepth 100000
set_option maxHeartbeats 4000000
end Go.Cb
namespace Go.Proofs
open Go.Shelf
def Tryz.lays189_ren : Go.Shelf.Ren := ⟨fun | 189 => 86 | 125 => 132 | 257 => 131 | 128 => 165 | 129 => 166 | 294 => 156 | 295 => 157 | 296 => 158 | 297 => 159 | 298 => 160 | 299 => 161 | 216 => 162 | 300 => 163 | 301 => 164 | 328 => 178 | 329 => 179 | 330 => 180 | 331 => 181 | 332 => 182 | 215 => 183 | 343 => 199 | n => n, fun | 28 => 23 | 3 => 3 | 46 => 158 | 0 => 0 | 51 => 183 | 53 => 185 | 4 => 4 | 183 => 177 | 182 => 176 | 131 => 169 | 5 => 5 | 9 => 9 | 218 => 194 | 222 => 198 | 228 => 216 | 229 => 165 | n => n, fun | n => n⟩
theorem Tryz.lays189 : Go.Proofs.Lays.n189 Tryz.prog Tryz.lays189_ren := {
  mixed := by kernel_rfl
  f125 := Tryz.func132.trans (congrArg some (by kernel_rfl))
  f128 := Tryz.func165.trans (congrArg some (by kernel_rfl))
  f129 := Tryz.func166.trans (congrArg some (by kernel_rfl))
  f189 := Tryz.func86.trans (congrArg some (by kernel_rfl))
  f215 := Tryz.func183.trans (congrArg some (by kernel_rfl))
  f216 := Tryz.func162.trans (congrArg some (by kernel_rfl))
  f257 := Tryz.func131.trans (congrArg some (by kernel_rfl))
  f294 := Tryz.func156.trans (congrArg some (by kernel_rfl))
  f295 := Tryz.func157.trans (congrArg some (by kernel_rfl))
  f296 := Tryz.func158.trans (congrArg some (by kernel_rfl))
  f297 := Tryz.func159.trans (congrArg some (by kernel_rfl))
  f298 := Tryz.func160.trans (congrArg some (by kernel_rfl))
  f299 := Tryz.func161.trans (congrArg some (by kernel_rfl))
  f300 := Tryz.func163.trans (congrArg some (by kernel_rfl))
  f301 := Tryz.func164.trans (congrArg some (by kernel_rfl))
  f328 := Tryz.func178.trans (congrArg some (by kernel_rfl))
  f329 := Tryz.func179.trans (congrArg some (by kernel_rfl))
  f330 := Tryz.func180.trans (congrArg some (by kernel_rfl))
  f331 := Tryz.func181.trans (congrArg some (by kernel_rfl))
  f332 := Tryz.func182.trans (congrArg some (by kernel_rfl))
  f343 := Tryz.func199.trans (congrArg some (by kernel_rfl))
  t0 := Tryz.underlying0
  a0 := Tryz.isAgg0
  z0 := Tryz.sizeOf0
  v0 := Tryz.zeroValue0
  t3 := Tryz.underlying3
  a3 := Tryz.isAgg3
  z3 := Tryz.sizeOf3
  v3 := Tryz.zeroValue3
  t4 := Tryz.underlying4
  a4 := Tryz.isAgg4
  z4 := Tryz.sizeOf4
  v4 := Tryz.zeroValue4
  t5 := Tryz.underlying5
  a5 := Tryz.isAgg5
  z5 := Tryz.sizeOf5
  v5 := Tryz.zeroValue5
  t9 := Tryz.underlying9
  a9 := Tryz.isAgg9
  z9 := Tryz.sizeOf9
  v9 := Tryz.zeroValue9
  t28 := Tryz.underlying23
  a28 := Tryz.isAgg23
  z28 := Tryz.sizeOf23
  v28 := Tryz.zeroValue23
  t46 := Tryz.underlying158
  a46 := Tryz.isAgg158
  z46 := Tryz.sizeOf158
  v46 := Tryz.zeroValue158
  t51 := Tryz.underlying183
  a51 := Tryz.isAgg183
  z51 := Tryz.sizeOf183
  v51 := Tryz.zeroValue183
  t53 := Tryz.underlying185
  a53 := Tryz.isAgg185
  z53 := Tryz.sizeOf185
  v53 := Tryz.zeroValue185
  t131 := Tryz.underlying169
  a131 := Tryz.isAgg169
  z131 := Tryz.sizeOf169
  v131 := Tryz.zeroValue169
  t182 := Tryz.underlying176
  a182 := Tryz.isAgg176
  z182 := Tryz.sizeOf176
  v182 := Tryz.zeroValue176
  t183 := Tryz.underlying177
  a183 := Tryz.isAgg177
  z183 := Tryz.sizeOf177
  v183 := Tryz.zeroValue177
  t218 := Tryz.underlying194
  a218 := Tryz.isAgg194
  z218 := Tryz.sizeOf194
  v218 := Tryz.zeroValue194
  t222 := Tryz.underlying198
  a222 := Tryz.isAgg198
  z222 := Tryz.sizeOf198
  v222 := Tryz.zeroValue198
  t228 := Tryz.underlying216
  a228 := Tryz.isAgg216
  z228 := Tryz.sizeOf216
  v228 := Tryz.zeroValue216
  t229 := Tryz.underlying165
  a229 := Tryz.isAgg165
  z229 := Tryz.sizeOf165
  v229 := Tryz.zeroValue165 }
def Tryz.laysNm220_ren : Go.Shelf.Ren := ⟨fun | 20 => 87 | n => n, fun | 22 => 23 | 3 => 3 | 4 => 4 | 0 => 0 | n => n, fun | n => n⟩
theorem Tryz.laysNm220 : Go.Proofs.Lays2.n20 Tryz.prog Tryz.laysNm220_ren := {
  mixed := by kernel_rfl
  f20 := Tryz.func87.trans (congrArg some (by kernel_rfl))
  t0 := Tryz.underlying0
  a0 := Tryz.isAgg0
  z0 := Tryz.sizeOf0
  v0 := Tryz.zeroValue0
  t3 := Tryz.underlying3
  a3 := Tryz.isAgg3
  z3 := Tryz.sizeOf3
  v3 := Tryz.zeroValue3
  t4 := Tryz.underlying4
  a4 := Tryz.isAgg4
  z4 := Tryz.sizeOf4
  v4 := Tryz.zeroValue4
  t22 := Tryz.underlying23
  a22 := Tryz.isAgg23
  z22 := Tryz.sizeOf23
  v22 := Tryz.zeroValue23
  i3 := by kernel_rfl }
end Go.Proofs
namespace Go.Cb
open Go.Proofs Go.Sort
open Go.RowKit (Below)
set_option maxRecDepth 100000
set_option maxHeartbeats 4000000
theorem flat_ints : ∀ l : List Int, flat (l.map (PV.int .i64)) = l.map (PV.int .i64)
  | [] => rfl
  | x :: l => by
    have := flat_ints l
    simp only [flat, List.map_cons, List.flatMap_cons, PV.cellsOf] at this ⊢
    rw [this]; rfl
theorem repL_ints (F : Fz) : ∀ l : List Int, RepL F (l.map (PV.int .i64)) (l.map (Value.int .i64))
  | [] => RepL_nil F
  | x :: l => RepL_cons.2 ⟨⟨rfl, by simp only [Rep]⟩, repL_ints F l⟩
theorem repL_ints_eq {F : Fz} : ∀ {l : List Int} {xs : List Value}, RepL F (l.map (PV.int .i64)) xs → xs = l.map (Value.int .i64)
  | [], [], _ => rfl
  | [], _ :: _, h => by simp only [List.map_nil, RepL] at h
  | _ :: _, [], h => by simp only [List.map_cons, RepL] at h
  | x :: l, v :: xs, h => by
    have h := RepL_cons.1 h
    have h1 : v = .int .i64 x := by simpa only [Rep] using h.1.2
    rw [h1, repL_ints_eq h.2]; rfl
theorem Sim.putInts {w0 : World} {F : Fz} {M : List Ent} {w : World} {t : Tok} {l ts : List Int} (h : Sim w0 F (.row t (l.map (PV.int .i64)) :: M) w) (hs : t.s = 1) (hlen : ts.length = l.length) {g : Nat} (hg : t.b = some g) (q : Nat) (os : Array Obj) :
    Sim w0 F (.row t (ts.map (PV.int .i64)) :: M) (grow (putRow (Value.int .i64) (Sort.ahead w q) g 0 ts.toArray) os) := by
  obtain ⟨⟨xs, hown, hr⟩, hes, e2, hfree⟩ := h.ent _ (List.mem_cons_self ..)
  rcases hown.2 with ⟨h1, _⟩ | ⟨g', cap, cur, hb, hv, hB, hh, hnc, hcm, hsz, htake⟩
  · rw [h1] at hg; cases hg
  obtain rfl : g' = g := by rw [hb] at hg; simpa using hg
  have hsep := List.pairwise_cons.1 h.sep
  have hgr : w.grownBy (grow (putRow (Value.int .i64) (Sort.ahead w q) g' 0 ts.toArray) os) (some g') := grownBy_sortedI ts.toArray
  have hn : l.length = t.n := by simpa using e2
  have hfl : flat (ts.map (PV.int .i64)) = ts.map (PV.int .i64) := flat_ints ts
  refine Sim.rowE (t := t) (ys := ts.map (PV.int .i64)) (xs := ts.map (Value.int .i64)) h.tail ((Below.refl _ w).grown hgr h.below.size fun k hk => by simp at hk; omega) ?_ (by simp [hs, PV.cellsOf]) (by simp; omega) (by rw [hfl]; exact repL_ints F ts) ?_ ?_ hfree
  · refine ⟨by simp [hs]; omega, .inr ⟨g', cap, _, hb, hv, hB, heap_sortedI ts.toArray hh, hnc, hcm, by simp [putCells, hsz], ?_⟩⟩
    have : t.n * t.s = ts.length := by rw [hs]; omega
    rw [this]
    exact take_putCellsI cur ts (by rw [hsz, hs]; omega)
  · intro b o u x
    have hne : b ≠ g' := fun e => by rw [e, hfree g' hb o] at x; cases x
    have hlt := World.block_lt_of_cell? w _ (h.fz b o u x)
    rw [World.cell?_of_block (w := w) (hgr.block b hlt (by simp; omega))]
    exact h.fz b o u x
  · intro e he k hk
    have hne : t.b ≠ some k := by
      rcases hsep.1 e he with hh | hh
      · simp only [Ent.blk] at hh; rw [hh]; simp
      · intro hx; exact hh (by rw [hk]; exact hx)
    have hlt := (Ent.blk_lt (h.ent e (List.mem_cons_of_mem _ he)) hk).2
    exact ⟨hgr.block k hlt (by rw [hb] at hne; exact fun e => hne e.symm), hne⟩
theorem compact_len (l : List Int) : (Lib.compact l).length ≤ l.length := by
  unfold Lib.compact Lib.compactUpTo
  rw [List.length_map]
  exact Nat.le_trans (List.length_filter_le _ _) (by simp)
theorem row_ints {w0 : World} {F : Fz} {M : List Ent} {w : World} {t : Tok} {l : List Int} (h : Sim w0 F (.row t (l.map (PV.int .i64)) :: M) w) (hs : t.s = 1) :
    (l = [] ∧ ∃ p, t.v = .slice p 0 0) ∨ ∃ g cap, t.b = some g ∧ t.v = .slice (some ⟨g, 0, none⟩) l.length cap ∧ Holds (Value.int .i64) w g 0 l.toArray ∧ g < w.heap.size ∧ l.length ≤ cap ∧ t.n = l.length := by
  obtain ⟨⟨xs, hown, hr⟩, hes, e2, hfree⟩ := h.ent _ (List.mem_cons_self ..)
  have hn : l.length = t.n := by simpa using e2
  rcases hown.2 with ⟨h1, h2, h3⟩ | ⟨g, cap, cur, hb, hv, hB, hh, hnc, hcm, hsz, htake⟩
  · refine .inl ⟨List.eq_nil_of_length_eq_zero (by omega), ?_⟩
    rcases h3 with h3 | ⟨a, h3⟩
    · exact ⟨none, h3⟩
    · exact ⟨some a, h3⟩
  · rw [flat_ints] at hr
    have hx := repL_ints_eq hr
    refine .inr ⟨g, cap, hb, by rw [hn]; exact hv, holds_of_blockI (e := t.e) (cur := cur) hh (by rw [← hx, ← htake, hs, hn, Nat.mul_one]), (Array.getElem?_eq_some_iff.1 hh).1, by omega, hn.symm⟩
theorem sort_c (t : Tok) (l : List Int) (hs : t.s = 1) (hl : l.length ≤ 1000000000) :
    ACall Tryz.prog 86 [.ms t] [.row t (l.map (PV.int .i64))] (fun y Γ' => y = .tup [] ∧ Γ' = [.row t ((l.mergeSort fun x y => decide (x ≤ y)).map (PV.int .i64))]) := by
  refine ⟨⟨_, Tryz.func86, rfl, rfl⟩, fun w0 F M w vs hS hT => ?_⟩
  obtain rfl : vs = [t.v] := by
    match vs, hT with
    | [v], hT => simp only [RepT, Rep, and_true] at hT; rw [hT.1]
  rcases row_ints hS hs with ⟨rfl, p, hv⟩ | ⟨g, cap, hb, hv, hH, hg, hc, hn⟩
  · rw [hv]
    refine (Any.slices_Sort_int_none Tryz.lays189 p 0 w).mono ?_
    rintro e w' ⟨rfl, rfl⟩
    exact ⟨_, F, .tup [], _, rfl, Fz.le_refl F, hS, by simp only [Rep]; exact ⟨[], rfl, by simp [RepT]⟩, rfl, by simp⟩
  · rw [hv]
    refine (Any.slices_Sort_int Tryz.lays189 g 0 cap l w hH hg (by omega)).mono ?_
    rintro e w' ⟨rfl, q, os, rfl⟩
    exact ⟨_, F, .tup [], _, rfl, Fz.le_refl F, hS.putInts hs (by simp) hb q os, by simp only [Rep]; exact ⟨[], rfl, by simp [RepT]⟩, rfl, rfl⟩
theorem compact_c (t : Tok) (l : List Int) (hs : t.s = 1) (hl : l.length ≤ 1000000000) :
    ACall Tryz.prog 87 [.ms t] [.row t (l.map (PV.int .i64))] (fun y Γ' => ∃ t' : Tok, t'.e = t.e ∧ t'.s = 1 ∧ y = .ms t' ∧ Γ' = [.row t' ((Lib.compact l).map (PV.int .i64))]) := by
  refine ⟨⟨_, Tryz.func87, rfl, rfl⟩, fun w0 F M w vs hS hT => ?_⟩
  obtain ⟨rfl, h1⟩ : vs = [t.v] ∧ t.v.oneCell' = true := by
    match vs, hT with
    | [v], hT => simp only [RepT, Rep, and_true] at hT; rw [hT.1]; exact ⟨rfl, hT.2⟩
  rcases row_ints hS hs with ⟨rfl, p, hv⟩ | ⟨g, cap, hb, hv, hH, hg, hc, hn⟩
  · rw [hv]
    refine (Any.slices_Compact_int_empty Tryz.laysNm220 p 0 w).mono ?_
    rintro e w' ⟨rfl, rfl⟩
    exact ⟨_, F, .ms t, _, rfl, Fz.le_refl F, hS, by simp only [Rep]; exact ⟨hv.symm, h1⟩, t, rfl, hs, rfl, by simp [Lib.compact, Lib.compactUpTo]⟩
  · rw [hv]
    refine (Any.slices_Compact_int Tryz.laysNm220 g 0 cap l w hH (by omega) hc).mono ?_
    rintro e w' ⟨rfl, q, rfl⟩
    have hle := compact_len l
    have h2 := hS.putInts (ts := Lib.compact l ++ List.replicate (l.length - (Lib.compact l).length) 0) hs (by simp; omega) hb q #[]
    rw [grow_empty] at h2
    have h3 := Sim.take_row (M1 := []) h2 hb (by rw [hn]; exact hv) (Lib.compact l).length (by simp)
    have fin : ∀ T : Tok, T = ⟨.slice (some ⟨g, 0, none⟩) (Lib.compact l).length cap, (Lib.compact l).length, t.s, t.e, some g⟩ → ∃ v F' y Γ', (Ending.returned (.slice (some ⟨g, 0, none⟩) (Lib.compact l).length cap)) = .returned v ∧ F.le F' ∧ Sim w0 F' (Γ' ++ M) (putRow (Value.int .i64) (Sort.ahead w q) g 0 (Lib.compact l ++ List.replicate (l.length - (Lib.compact l).length) 0).toArray) ∧ Rep F' y v ∧ ∃ t' : Tok, t'.e = t.e ∧ t'.s = 1 ∧ y = .ms t' ∧ Γ' = [.row t' ((Lib.compact l).map (PV.int .i64))] := by
      intro T hT
      subst hT
      refine ⟨_, F, .ms ⟨.slice (some ⟨g, 0, none⟩) (Lib.compact l).length cap, (Lib.compact l).length, t.s, t.e, some g⟩, [.row ⟨.slice (some ⟨g, 0, none⟩) (Lib.compact l).length cap, (Lib.compact l).length, t.s, t.e, some g⟩ ((Lib.compact l).map (PV.int .i64))], rfl, Fz.le_refl F, ?_, by unfold Rep; exact ⟨rfl, rfl⟩, ⟨.slice (some ⟨g, 0, none⟩) (Lib.compact l).length cap, (Lib.compact l).length, t.s, t.e, some g⟩, rfl, hs, rfl, rfl⟩
      simpa using h3
    exact fin _ rfl
end Go.Cb
namespace Go.Cb
open Go.Proofs
set_option maxRecDepth 100000
set_option maxHeartbeats 4000000
theorem rising_c (t : Tok) (l : List Int) (hs : t.s = 1) (hl : l.length ≤ 1000000000) :
    ACall Tryz.prog 51 [.ms t] [.row t (l.map (PV.int .i64))] (fun y Γ' => ∃ t' : Tok, t'.e = t.e ∧ t'.s = 1 ∧ y = .ms t' ∧ Γ' = [.row t' ((riseL l).map (PV.int .i64))]) := by
  refine ACall.of_body tt_ok Tryz.func51 rfl rfl (n := 7) rfl rfl ?_
  conv => whnf
  repeat ((first | ((first | (apply zY;intro hg) | apply zZ);exact stA) | (refine zW ?_ ?_;exact gA) | refine zH rfl ?_ | refine zA ?_ | refine zI bA ?_ | refine zI rfl ?_ | refine zJ rfl rfl ?_ | refine zB ?_ | refine zK rfl ?_ | refine zL rfl ?_ | refine zC ?_ | (refine zO ?_ ?_ ?_;omega;omega) | (refine zP ?_ ?_ ?_;omega;omega) | refine zM rfl ?_ | (refine zQ ?_ ?_ ?_;omega;omega) | (refine zR ?_ ?_;omega) | (refine zI ?_ ?_;exact nA) | (refine zS ?_ ?_ ?_;omega;omega) | (refine zT ?_ ?_ ?_;omega;omega) | (refine zU ?_ ?_ ?_;omega;omega) | (refine zV ?_ ?_ ?_;omega;omega) | refine zN rfl rfl rfl ?_ | refine zD ?_ | refine zE ?_ | refine zF ?_ | intro _);conv=>whnf)
  conv => whnf
  repeat' (first | ((first | ((first | (apply zY;intro hg) | apply zZ);exact stA) | (refine zW ?_ ?_;exact gA) | refine zH rfl ?_ | refine zA ?_ | refine zI bA ?_ | refine zI rfl ?_ | refine zJ rfl rfl ?_ | refine zB ?_ | refine zK rfl ?_ | refine zL rfl ?_ | refine zC ?_ | (refine zO ?_ ?_ ?_;omega;omega) | (refine zP ?_ ?_ ?_;omega;omega) | refine zM rfl ?_ | (refine zQ ?_ ?_ ?_;omega;omega) | (refine zR ?_ ?_;omega) | (refine zI ?_ ?_;exact nA) | (refine zS ?_ ?_ ?_;omega;omega) | (refine zT ?_ ?_ ?_;omega;omega) | (refine zU ?_ ?_ ?_;omega;omega) | (refine zV ?_ ?_ ?_;omega;omega) | refine zN rfl rfl rfl ?_ | refine zD ?_ | refine zE ?_ | refine zF ?_ | intro _ | refine zG ?_);conv=>whnf) | (refine zX (fun hc => ?_) (fun hc => ?_)<;>(try simp only [SY] at hc)<;>first | omega | (conv=>whnf)))
  refine PCall.go (sort_c t l hs hl) (WkT.refl _) ?_
  rintro _ _ ⟨rfl, rfl⟩
  conv => whnf
  repeat' (first | ((first | ((first | (apply zY;intro hg) | apply zZ);exact stA) | (refine zW ?_ ?_;exact gA) | refine zH rfl ?_ | refine zA ?_ | refine zI bA ?_ | refine zI rfl ?_ | refine zJ rfl rfl ?_ | refine zB ?_ | refine zK rfl ?_ | refine zL rfl ?_ | refine zC ?_ | (refine zO ?_ ?_ ?_;omega;omega) | (refine zP ?_ ?_ ?_;omega;omega) | refine zM rfl ?_ | (refine zQ ?_ ?_ ?_;omega;omega) | (refine zR ?_ ?_;omega) | (refine zI ?_ ?_;exact nA) | (refine zS ?_ ?_ ?_;omega;omega) | (refine zT ?_ ?_ ?_;omega;omega) | (refine zU ?_ ?_ ?_;omega;omega) | (refine zV ?_ ?_ ?_;omega;omega) | refine zN rfl rfl rfl ?_ | refine zD ?_ | refine zE ?_ | refine zF ?_ | intro _ | refine zG ?_);conv=>whnf) | (refine zX (fun hc => ?_) (fun hc => ?_)<;>(try simp only [SY] at hc)<;>first | omega | (conv=>whnf)))
  refine PCall.go (compact_c t (l.mergeSort fun x y => decide (x ≤ y)) hs (by simp; omega)) (WkT.refl _) ?_
  rintro _ _ ⟨t2, e2, s2, rfl, rfl⟩
  conv => whnf
  repeat' (first | ((first | ((first | (apply zY;intro hg) | apply zZ);exact stA) | (refine zW ?_ ?_;exact gA) | refine zH rfl ?_ | refine zA ?_ | refine zI bA ?_ | refine zI rfl ?_ | refine zJ rfl rfl ?_ | refine zB ?_ | refine zK rfl ?_ | refine zL rfl ?_ | refine zC ?_ | (refine zO ?_ ?_ ?_;omega;omega) | (refine zP ?_ ?_ ?_;omega;omega) | refine zM rfl ?_ | (refine zQ ?_ ?_ ?_;omega;omega) | (refine zR ?_ ?_;omega) | (refine zI ?_ ?_;exact nA) | (refine zS ?_ ?_ ?_;omega;omega) | (refine zT ?_ ?_ ?_;omega;omega) | (refine zU ?_ ?_ ?_;omega;omega) | (refine zV ?_ ?_ ?_;omega;omega) | refine zN rfl rfl rfl ?_ | refine zD ?_ | refine zE ?_ | refine zF ?_ | intro _ | refine zG ?_);conv=>whnf) | (refine zX (fun hc => ?_) (fun hc => ?_)<;>(try simp only [SY] at hc)<;>first | omega | (conv=>whnf)))
  have e : Lib.compact (l.mergeSort fun x y => decide (x ≤ y)) = riseL l := rfl
  rw [e]
  exact PRet.gen (Wk.refl _) ⟨t2, e2, s2, rfl, rfl⟩
def bindsOf (l : List (Trm × List Int)) : List Int := l.flatMap fun m => m.1.v
theorem bindsOf_take (l : List (Trm × List Int)) (k : Nat) : (bindsOf (l.take k)).length ≤ (bindsOf l).length := by
  have := congrArg List.length (congrArg bindsOf (List.take_append_drop k l))
  unfold bindsOf at this ⊢
  rw [List.flatMap_append, List.length_append] at this
  omega
theorem Trm.met_vlen (t : Trm) : ∀ (sc : List Int) (deep : Int), (bindsOf (t.met sc deep)).length ≤ t.bulk := by
  induction t using Trm.ind with
  | h t ih =>
    intro sc deep
    rw [Trm.met_eq, t.bulk_eq]
    have key : ∀ (l : List Trm), (∀ y ∈ l, ∀ (sc : List Int) (deep : Int), (bindsOf (y.met sc deep)).length ≤ y.bulk) → ∀ sc inner deep, (bindsOf (Trm.mets t.op sc inner l deep)).length ≤ Trm.bulks l := by
      intro l
      induction l with
      | nil => intro _ _ _ _; simp [Trm.mets, bindsOf]
      | cons x l ihl =>
        intro hy sc inner deep
        have h1 := hy x (by simp) (if groupB t.op = true ∨ l = [] then inner else sc) deep
        have h2 := ihl (fun y h => hy y (by simp [h])) sc inner deep
        unfold bindsOf at h1 h2 ⊢
        rw [Trm.mets, Trm.bulks, List.flatMap_append, List.length_append]
        omega
    have := key t.t ih sc (sc ++ t.v) (deep + 1)
    unfold bindsOf at this ⊢
    rw [List.flatMap_cons, List.length_append]
    split
    · simp; omega
    · show t.v.length + _ ≤ _
      omega
theorem binds_c0 (t : Trm) (hb : t.bulk ≤ 1000000000) : ACall Tryz.prog 20 [.agg t.cells] [] (fun y Γ' => ∃ tk : Tok, tk.e = 3 ∧ tk.s = 1 ∧ y = .ms tk ∧ Γ' = [.row tk ((riseL (bindsOf t.all)).map (PV.int .i64))]) := by
  have hlen : (bindsOf t.all).length ≤ t.bulk := t.met_vlen [] 0
  refine ACall.of_body tt_ok Tryz.func20 rfl rfl (n := 15) rfl rfl ?_
  conv => whnf
  repeat ((first | ((first | (apply zY;intro hg) | apply zZ);focus ((conv=>whnf);(repeat ((first | (refine zW ?_ ?_;exact gA) | refine zH rfl ?_ | refine zA ?_ | refine zI bA ?_ | refine zI rfl ?_ | refine zJ rfl rfl ?_ | refine zB ?_ | refine zK rfl ?_ | refine zL rfl ?_ | refine zC ?_ | (refine zO ?_ ?_ ?_;exact OA;exact OA) | (refine zP ?_ ?_ ?_;exact OA;exact OA) | refine zM rfl ?_ | (refine zQ ?_ ?_ ?_;exact OA;exact OA) | (refine zR ?_ ?_;exact OA) | (refine zI ?_ ?_;exact NA) | (refine zS ?_ ?_ ?_;exact OA;exact OA) | (refine zT ?_ ?_ ?_;exact OA;exact OA) | (refine zU ?_ ?_ ?_;exact OA;exact OA) | (refine zV ?_ ?_ ?_;exact OA;exact OA) | refine PCall.pure (names_c m.1) (WkT.refl _) ?_ | refine PCall.pure (names_c m.1) cA ?_ | refine PCall.pure (containsInt_c m.2 m.1.n) (WkT.refl _) ?_ | refine PCall.pure (containsInt_c m.2 m.1.n) cA ?_ | intro _);conv=>whnf));first | exact PShift.same | exact PShift.lit | exact PShift.ep)) | (refine zW ?_ ?_;exact gA) | refine zH rfl ?_ | refine zA ?_ | refine zI bA ?_ | refine zI rfl ?_ | refine zJ rfl rfl ?_ | refine zB ?_ | refine zK rfl ?_ | refine zL rfl ?_ | refine zC ?_ | (refine zO ?_ ?_ ?_;omega;omega) | (refine zP ?_ ?_ ?_;omega;omega) | refine zM rfl ?_ | (refine zQ ?_ ?_ ?_;omega;omega) | (refine zR ?_ ?_;omega) | (refine zI ?_ ?_;exact nA) | (refine zS ?_ ?_ ?_;omega;omega) | (refine zT ?_ ?_ ?_;omega;omega) | (refine zU ?_ ?_ ?_;omega;omega) | (refine zV ?_ ?_ ?_;omega;omega) | refine PCall.pure (names_c m.1) (WkT.refl _) ?_ | refine PCall.pure (names_c m.1) cA ?_ | refine PCall.pure (containsInt_c m.2 m.1.n) (WkT.refl _) ?_ | refine PCall.pure (containsInt_c m.2 m.1.n) cA ?_ | refine zN rfl rfl rfl ?_ | refine zD ?_ | refine zE ?_ | refine zF ?_ | intro _);conv=>whnf)
  conv => whnf
  repeat' (first | ((first | ((first | (apply zY;intro hg) | apply zZ);focus ((conv=>whnf);(repeat ((first | (refine zW ?_ ?_;exact gA) | refine zH rfl ?_ | refine zA ?_ | refine zI bA ?_ | refine zI rfl ?_ | refine zJ rfl rfl ?_ | refine zB ?_ | refine zK rfl ?_ | refine zL rfl ?_ | refine zC ?_ | (refine zO ?_ ?_ ?_;exact OA;exact OA) | (refine zP ?_ ?_ ?_;exact OA;exact OA) | refine zM rfl ?_ | (refine zQ ?_ ?_ ?_;exact OA;exact OA) | (refine zR ?_ ?_;exact OA) | (refine zI ?_ ?_;exact NA) | (refine zS ?_ ?_ ?_;exact OA;exact OA) | (refine zT ?_ ?_ ?_;exact OA;exact OA) | (refine zU ?_ ?_ ?_;exact OA;exact OA) | (refine zV ?_ ?_ ?_;exact OA;exact OA) | refine PCall.pure (names_c m.1) (WkT.refl _) ?_ | refine PCall.pure (names_c m.1) cA ?_ | refine PCall.pure (containsInt_c m.2 m.1.n) (WkT.refl _) ?_ | refine PCall.pure (containsInt_c m.2 m.1.n) cA ?_ | intro _);conv=>whnf));first | exact PShift.same | exact PShift.lit | exact PShift.ep)) | (refine zW ?_ ?_;exact gA) | refine zH rfl ?_ | refine zA ?_ | refine zI bA ?_ | refine zI rfl ?_ | refine zJ rfl rfl ?_ | refine zB ?_ | refine zK rfl ?_ | refine zL rfl ?_ | refine zC ?_ | (refine zO ?_ ?_ ?_;omega;omega) | (refine zP ?_ ?_ ?_;omega;omega) | refine zM rfl ?_ | (refine zQ ?_ ?_ ?_;omega;omega) | (refine zR ?_ ?_;omega) | (refine zI ?_ ?_;exact nA) | (refine zS ?_ ?_ ?_;omega;omega) | (refine zT ?_ ?_ ?_;omega;omega) | (refine zU ?_ ?_ ?_;omega;omega) | (refine zV ?_ ?_ ?_;omega;omega) | refine PCall.pure (names_c m.1) (WkT.refl _) ?_ | refine PCall.pure (names_c m.1) cA ?_ | refine PCall.pure (containsInt_c m.2 m.1.n) (WkT.refl _) ?_ | refine PCall.pure (containsInt_c m.2 m.1.n) cA ?_ | refine zN rfl rfl rfl ?_ | refine zD ?_ | refine zE ?_ | refine zF ?_ | intro _ | refine zG ?_);conv=>whnf) | (refine zX (fun hc => ?_) (fun hc => ?_)<;>(try simp only [SY] at hc)<;>first | omega | (conv=>whnf)))
  rename_i bt bo
  refine PCall.goG (Ghost.trans (Ghost.nilRow 1 3 _) (Ghost.box (b := bo) (cs := [.nil]) (cs' := [.ms (nilTok 1 3)]) (.cons (Wk.nilRow 1 3) .nil))) (all_c t) (WkT.refl _) ?_
  rintro _ _ ⟨b, rfl, rfl⟩
  conv => whnf
  repeat ((first | ((first | (apply zY;intro hg) | apply zZ);focus ((conv=>whnf);(repeat ((first | (refine zW ?_ ?_;exact gA) | refine zH rfl ?_ | refine zA ?_ | refine zI bA ?_ | refine zI rfl ?_ | refine zJ rfl rfl ?_ | refine zB ?_ | refine zK rfl ?_ | refine zL rfl ?_ | refine zC ?_ | (refine zO ?_ ?_ ?_;exact OA;exact OA) | (refine zP ?_ ?_ ?_;exact OA;exact OA) | refine zM rfl ?_ | (refine zQ ?_ ?_ ?_;exact OA;exact OA) | (refine zR ?_ ?_;exact OA) | (refine zI ?_ ?_;exact NA) | (refine zS ?_ ?_ ?_;exact OA;exact OA) | (refine zT ?_ ?_ ?_;exact OA;exact OA) | (refine zU ?_ ?_ ?_;exact OA;exact OA) | (refine zV ?_ ?_ ?_;exact OA;exact OA) | refine PCall.pure (names_c m.1) (WkT.refl _) ?_ | refine PCall.pure (names_c m.1) cA ?_ | refine PCall.pure (containsInt_c m.2 m.1.n) (WkT.refl _) ?_ | refine PCall.pure (containsInt_c m.2 m.1.n) cA ?_ | intro _);conv=>whnf));first | exact PShift.same | exact PShift.lit | exact PShift.ep)) | (refine zW ?_ ?_;exact gA) | refine zH rfl ?_ | refine zA ?_ | refine zI bA ?_ | refine zI rfl ?_ | refine zJ rfl rfl ?_ | refine zB ?_ | refine zK rfl ?_ | refine zL rfl ?_ | refine zC ?_ | (refine zO ?_ ?_ ?_;omega;omega) | (refine zP ?_ ?_ ?_;omega;omega) | refine zM rfl ?_ | (refine zQ ?_ ?_ ?_;omega;omega) | (refine zR ?_ ?_;omega) | (refine zI ?_ ?_;exact nA) | (refine zS ?_ ?_ ?_;omega;omega) | (refine zT ?_ ?_ ?_;omega;omega) | (refine zU ?_ ?_ ?_;omega;omega) | (refine zV ?_ ?_ ?_;omega;omega) | refine PCall.pure (names_c m.1) (WkT.refl _) ?_ | refine PCall.pure (names_c m.1) cA ?_ | refine PCall.pure (containsInt_c m.2 m.1.n) (WkT.refl _) ?_ | refine PCall.pure (containsInt_c m.2 m.1.n) cA ?_ | refine zN rfl rfl rfl ?_ | refine zD ?_ | refine zE ?_ | refine zF ?_ | intro _);conv=>whnf)
  refine PRange.go (t.all.map fun m => [metP m]) (fun s : Tok × List Int => [.box bo [.ms s.1], .row s.1 (s.2.map (PV.int .i64))]) (fun k s => s.1.e = 3 ∧ s.1.s = 1 ∧ s.2 = bindsOf (t.all.take k)) (fun _ _ => False) (nilTok 1 3, []) (all1_c b t hb) ⟨rfl, rfl, rfl⟩
    (hp := (inferInstance : PickL _ [.box bo [.ms (nilTok 1 3)], .row (nilTok 1 3) [], .box b t.cells] _)) (by intro ys hy; obtain ⟨m, _, rfl⟩ := List.mem_map.1 hy; rfl) ?_ ?_ (fun _ _ _ h => h.elim)
  · rintro k ys ⟨tk, l⟩ hk ⟨k1, k2, k3⟩
    dsimp only at k1 k2 k3 ⊢
    obtain ⟨m, hm, rfl⟩ : ∃ m, t.all[k]? = some m ∧ ys = [metP m] := by
      rw [List.getElem?_map] at hk
      cases h : t.all[k]? with
      | none => rw [h] at hk; cases hk
      | some m => rw [h] at hk; cases hk; exact ⟨m, rfl, rfl⟩
    obtain ⟨hlt, hmg⟩ := List.getElem?_eq_some_iff.1 hm
    have hst : bindsOf (t.all.take (k + 1)) = bindsOf (t.all.take k) ++ m.1.v := by
      rw [List.take_succ_eq_append_getElem hlt, bindsOf, List.flatMap_append, hmg]
      simp [bindsOf]
    have hll : l.length + m.1.v.length ≤ 1000000000 := by
      have h1 : (bindsOf (t.all.take (k + 1))).length ≤ (bindsOf t.all).length := bindsOf_take _ _
      rw [hst, List.length_append, ← k3] at h1
      omega
    conv => whnf
    repeat' (first | ((first | ((first | (apply zY;intro hg) | apply zZ);focus ((conv=>whnf);(repeat ((first | (refine zW ?_ ?_;exact gA) | refine zH rfl ?_ | refine zA ?_ | refine zI bA ?_ | refine zI rfl ?_ | refine zJ rfl rfl ?_ | refine zB ?_ | refine zK rfl ?_ | refine zL rfl ?_ | refine zC ?_ | (refine zO ?_ ?_ ?_;exact OA;exact OA) | (refine zP ?_ ?_ ?_;exact OA;exact OA) | refine zM rfl ?_ | (refine zQ ?_ ?_ ?_;exact OA;exact OA) | (refine zR ?_ ?_;exact OA) | (refine zI ?_ ?_;exact NA) | (refine zS ?_ ?_ ?_;exact OA;exact OA) | (refine zT ?_ ?_ ?_;exact OA;exact OA) | (refine zU ?_ ?_ ?_;exact OA;exact OA) | (refine zV ?_ ?_ ?_;exact OA;exact OA) | refine PCall.pure (names_c m.1) (WkT.refl _) ?_ | refine PCall.pure (names_c m.1) cA ?_ | refine PCall.pure (containsInt_c m.2 m.1.n) (WkT.refl _) ?_ | refine PCall.pure (containsInt_c m.2 m.1.n) cA ?_ | intro _);conv=>whnf));first | exact PShift.same | exact PShift.lit | exact PShift.ep)) | (refine zW ?_ ?_;exact gA) | refine zH rfl ?_ | refine zA ?_ | refine zI bA ?_ | refine zI rfl ?_ | refine zJ rfl rfl ?_ | refine zB ?_ | refine zK rfl ?_ | refine zL rfl ?_ | refine zC ?_ | (refine zO ?_ ?_ ?_;omega;omega) | (refine zP ?_ ?_ ?_;omega;omega) | refine zM rfl ?_ | (refine zQ ?_ ?_ ?_;omega;omega) | (refine zR ?_ ?_;omega) | (refine zI ?_ ?_;exact nA) | (refine zS ?_ ?_ ?_;omega;omega) | (refine zT ?_ ?_ ?_;omega;omega) | (refine zU ?_ ?_ ?_;omega;omega) | (refine zV ?_ ?_ ?_;omega;omega) | refine PCall.pure (names_c m.1) (WkT.refl _) ?_ | refine PCall.pure (names_c m.1) cA ?_ | refine PCall.pure (containsInt_c m.2 m.1.n) (WkT.refl _) ?_ | refine PCall.pure (containsInt_c m.2 m.1.n) cA ?_ | refine zN rfl rfl rfl ?_ | refine zD ?_ | refine zE ?_ | refine zF ?_ | intro _ | refine zG ?_);conv=>whnf) | (refine zX (fun hc => ?_) (fun hc => ?_)<;>(try simp only [SY] at hc)<;>first | omega | (conv=>whnf)))
    refine ⟨rfl, ?_⟩
    conv => whnf
    repeat' (first | ((first | ((first | (apply zY;intro hg) | apply zZ);focus ((conv=>whnf);(repeat ((first | (refine zW ?_ ?_;exact gA) | refine zH rfl ?_ | refine zA ?_ | refine zI bA ?_ | refine zI rfl ?_ | refine zJ rfl rfl ?_ | refine zB ?_ | refine zK rfl ?_ | refine zL rfl ?_ | refine zC ?_ | (refine zO ?_ ?_ ?_;exact OA;exact OA) | (refine zP ?_ ?_ ?_;exact OA;exact OA) | refine zM rfl ?_ | (refine zQ ?_ ?_ ?_;exact OA;exact OA) | (refine zR ?_ ?_;exact OA) | (refine zI ?_ ?_;exact NA) | (refine zS ?_ ?_ ?_;exact OA;exact OA) | (refine zT ?_ ?_ ?_;exact OA;exact OA) | (refine zU ?_ ?_ ?_;exact OA;exact OA) | (refine zV ?_ ?_ ?_;exact OA;exact OA) | refine PCall.pure (names_c m.1) (WkT.refl _) ?_ | refine PCall.pure (names_c m.1) cA ?_ | refine PCall.pure (containsInt_c m.2 m.1.n) (WkT.refl _) ?_ | refine PCall.pure (containsInt_c m.2 m.1.n) cA ?_ | intro _);conv=>whnf));first | exact PShift.same | exact PShift.lit | exact PShift.ep)) | (refine zW ?_ ?_;exact gA) | refine zH rfl ?_ | refine zA ?_ | refine zI bA ?_ | refine zI rfl ?_ | refine zJ rfl rfl ?_ | refine zB ?_ | refine zK rfl ?_ | refine zL rfl ?_ | refine zC ?_ | (refine zO ?_ ?_ ?_;omega;omega) | (refine zP ?_ ?_ ?_;omega;omega) | refine zM rfl ?_ | (refine zQ ?_ ?_ ?_;omega;omega) | (refine zR ?_ ?_;omega) | (refine zI ?_ ?_;exact nA) | (refine zS ?_ ?_ ?_;omega;omega) | (refine zT ?_ ?_ ?_;omega;omega) | (refine zU ?_ ?_ ?_;omega;omega) | (refine zV ?_ ?_ ?_;omega;omega) | refine PCall.pure (names_c m.1) (WkT.refl _) ?_ | refine PCall.pure (names_c m.1) cA ?_ | refine PCall.pure (containsInt_c m.2 m.1.n) (WkT.refl _) ?_ | refine PCall.pure (containsInt_c m.2 m.1.n) cA ?_ | refine zN rfl rfl rfl ?_ | refine zD ?_ | refine zE ?_ | refine zF ?_ | intro _ | refine zG ?_);conv=>whnf) | (refine zX (fun hc => ?_) (fun hc => ?_)<;>(try simp only [SY] at hc)<;>first | omega | (conv=>whnf)))
    refine PAppend.rowList (f := PV.int .i64) (l := l) (m := m.1.v) k1 k2 (Wk.tok _ _ _) (by omega) (by show _ * 8 ≤ _; omega) (fun t3 e3 s3 => ?_)
    conv => whnf
    repeat ((first | ((first | (apply zY;intro hg) | apply zZ);focus ((conv=>whnf);(repeat ((first | (refine zW ?_ ?_;exact gA) | refine zH rfl ?_ | refine zA ?_ | refine zI bA ?_ | refine zI rfl ?_ | refine zJ rfl rfl ?_ | refine zB ?_ | refine zK rfl ?_ | refine zL rfl ?_ | refine zC ?_ | (refine zO ?_ ?_ ?_;exact OA;exact OA) | (refine zP ?_ ?_ ?_;exact OA;exact OA) | refine zM rfl ?_ | (refine zQ ?_ ?_ ?_;exact OA;exact OA) | (refine zR ?_ ?_;exact OA) | (refine zI ?_ ?_;exact NA) | (refine zS ?_ ?_ ?_;exact OA;exact OA) | (refine zT ?_ ?_ ?_;exact OA;exact OA) | (refine zU ?_ ?_ ?_;exact OA;exact OA) | (refine zV ?_ ?_ ?_;exact OA;exact OA) | refine PCall.pure (names_c m.1) (WkT.refl _) ?_ | refine PCall.pure (names_c m.1) cA ?_ | refine PCall.pure (containsInt_c m.2 m.1.n) (WkT.refl _) ?_ | refine PCall.pure (containsInt_c m.2 m.1.n) cA ?_ | intro _);conv=>whnf));first | exact PShift.same | exact PShift.lit | exact PShift.ep)) | (refine zW ?_ ?_;exact gA) | refine zH rfl ?_ | refine zA ?_ | refine zI bA ?_ | refine zI rfl ?_ | refine zJ rfl rfl ?_ | refine zB ?_ | refine zK rfl ?_ | refine zL rfl ?_ | refine zC ?_ | (refine zO ?_ ?_ ?_;omega;omega) | (refine zP ?_ ?_ ?_;omega;omega) | refine zM rfl ?_ | (refine zQ ?_ ?_ ?_;omega;omega) | (refine zR ?_ ?_;omega) | (refine zI ?_ ?_;exact nA) | (refine zS ?_ ?_ ?_;omega;omega) | (refine zT ?_ ?_ ?_;omega;omega) | (refine zU ?_ ?_ ?_;omega;omega) | (refine zV ?_ ?_ ?_;omega;omega) | refine PCall.pure (names_c m.1) (WkT.refl _) ?_ | refine PCall.pure (names_c m.1) cA ?_ | refine PCall.pure (containsInt_c m.2 m.1.n) (WkT.refl _) ?_ | refine PCall.pure (containsInt_c m.2 m.1.n) cA ?_ | refine zN rfl rfl rfl ?_ | refine zD ?_ | refine zE ?_ | refine zF ?_ | intro _);conv=>whnf)
    exact roundEnd (k := k) (G := fun s : Tok × List Int => [.box bo [.ms s.1], .row s.1 (s.2.map (PV.int .i64))]) (I := fun k s => s.1.e = 3 ∧ s.1.s = 1 ∧ s.2 = bindsOf (t.all.take k)) (X := fun _ _ => False) (t3, l ++ m.1.v) ⟨e3, s3, by show l ++ m.1.v = bindsOf (t.all.take (k + 1)); rw [hst, k3]⟩ (hp := (inferInstance : PickL _ [.box bo [.ms t3], .row t3 ((l ++ m.1.v).map (PV.int .i64))] _))
  · rintro bd ⟨tk, l⟩ ⟨k1, k2, k3⟩
    dsimp only at k1 k2 k3 ⊢
    rw [List.length_map, List.take_length] at k3
    subst k3
    have hfl : (bindsOf t.all).length ≤ 1000000000 := by omega
    conv => whnf
    repeat' (first | ((first | ((first | (apply zY;intro hg) | apply zZ);focus ((conv=>whnf);(repeat ((first | (refine zW ?_ ?_;exact gA) | refine zH rfl ?_ | refine zA ?_ | refine zI bA ?_ | refine zI rfl ?_ | refine zJ rfl rfl ?_ | refine zB ?_ | refine zK rfl ?_ | refine zL rfl ?_ | refine zC ?_ | (refine zO ?_ ?_ ?_;exact OA;exact OA) | (refine zP ?_ ?_ ?_;exact OA;exact OA) | refine zM rfl ?_ | (refine zQ ?_ ?_ ?_;exact OA;exact OA) | (refine zR ?_ ?_;exact OA) | (refine zI ?_ ?_;exact NA) | (refine zS ?_ ?_ ?_;exact OA;exact OA) | (refine zT ?_ ?_ ?_;exact OA;exact OA) | (refine zU ?_ ?_ ?_;exact OA;exact OA) | (refine zV ?_ ?_ ?_;exact OA;exact OA) | refine PCall.pure (names_c m.1) (WkT.refl _) ?_ | refine PCall.pure (names_c m.1) cA ?_ | refine PCall.pure (containsInt_c m.2 m.1.n) (WkT.refl _) ?_ | refine PCall.pure (containsInt_c m.2 m.1.n) cA ?_ | intro _);conv=>whnf));first | exact PShift.same | exact PShift.lit | exact PShift.ep)) | (refine zW ?_ ?_;exact gA) | refine zH rfl ?_ | refine zA ?_ | refine zI bA ?_ | refine zI rfl ?_ | refine zJ rfl rfl ?_ | refine zB ?_ | refine zK rfl ?_ | refine zL rfl ?_ | refine zC ?_ | (refine zO ?_ ?_ ?_;omega;omega) | (refine zP ?_ ?_ ?_;omega;omega) | refine zM rfl ?_ | (refine zQ ?_ ?_ ?_;omega;omega) | (refine zR ?_ ?_;omega) | (refine zI ?_ ?_;exact nA) | (refine zS ?_ ?_ ?_;omega;omega) | (refine zT ?_ ?_ ?_;omega;omega) | (refine zU ?_ ?_ ?_;omega;omega) | (refine zV ?_ ?_ ?_;omega;omega) | refine PCall.pure (names_c m.1) (WkT.refl _) ?_ | refine PCall.pure (names_c m.1) cA ?_ | refine PCall.pure (containsInt_c m.2 m.1.n) (WkT.refl _) ?_ | refine PCall.pure (containsInt_c m.2 m.1.n) cA ?_ | refine zN rfl rfl rfl ?_ | refine zD ?_ | refine zE ?_ | refine zF ?_ | intro _ | refine zG ?_);conv=>whnf) | (refine zX (fun hc => ?_) (fun hc => ?_)<;>(try simp only [SY] at hc)<;>first | omega | (conv=>whnf)))
    refine PCall.goR [.ob bd dfrO [] [], .box bo [.ms tk]] (rising_c tk (bindsOf t.all) k2 hfl) (WkT.refl _) (List.Perm.refl _) ?_
    rintro _ _ ⟨t4, e4, s4, rfl, rfl⟩
    conv => whnf
    repeat ((first | ((first | (apply zY;intro hg) | apply zZ);focus ((conv=>whnf);(repeat ((first | (refine zW ?_ ?_;exact gA) | refine zH rfl ?_ | refine zA ?_ | refine zI bA ?_ | refine zI rfl ?_ | refine zJ rfl rfl ?_ | refine zB ?_ | refine zK rfl ?_ | refine zL rfl ?_ | refine zC ?_ | (refine zO ?_ ?_ ?_;exact OA;exact OA) | (refine zP ?_ ?_ ?_;exact OA;exact OA) | refine zM rfl ?_ | (refine zQ ?_ ?_ ?_;exact OA;exact OA) | (refine zR ?_ ?_;exact OA) | (refine zI ?_ ?_;exact NA) | (refine zS ?_ ?_ ?_;exact OA;exact OA) | (refine zT ?_ ?_ ?_;exact OA;exact OA) | (refine zU ?_ ?_ ?_;exact OA;exact OA) | (refine zV ?_ ?_ ?_;exact OA;exact OA) | refine PCall.pure (names_c m.1) (WkT.refl _) ?_ | refine PCall.pure (names_c m.1) cA ?_ | refine PCall.pure (containsInt_c m.2 m.1.n) (WkT.refl _) ?_ | refine PCall.pure (containsInt_c m.2 m.1.n) cA ?_ | intro _);conv=>whnf));first | exact PShift.same | exact PShift.lit | exact PShift.ep)) | (refine zW ?_ ?_;exact gA) | refine zH rfl ?_ | refine zA ?_ | refine zI bA ?_ | refine zI rfl ?_ | refine zJ rfl rfl ?_ | refine zB ?_ | refine zK rfl ?_ | refine zL rfl ?_ | refine zC ?_ | (refine zO ?_ ?_ ?_;omega;omega) | (refine zP ?_ ?_ ?_;omega;omega) | refine zM rfl ?_ | (refine zQ ?_ ?_ ?_;omega;omega) | (refine zR ?_ ?_;omega) | (refine zI ?_ ?_;exact nA) | (refine zS ?_ ?_ ?_;omega;omega) | (refine zT ?_ ?_ ?_;omega;omega) | (refine zU ?_ ?_ ?_;omega;omega) | (refine zV ?_ ?_ ?_;omega;omega) | refine PCall.pure (names_c m.1) (WkT.refl _) ?_ | refine PCall.pure (names_c m.1) cA ?_ | refine PCall.pure (containsInt_c m.2 m.1.n) (WkT.refl _) ?_ | refine PCall.pure (containsInt_c m.2 m.1.n) cA ?_ | refine zN rfl rfl rfl ?_ | refine zD ?_ | refine zE ?_ | refine zF ?_ | intro _);conv=>whnf)
    refine PMark.at_ rfl ?_
    conv => whnf
    exact PRet.gen (y := .ms t4) (Wk.refl _) ⟨t4, e4.trans k1, s4, rfl, rfl⟩
theorem binds_c (t : Trm) (hb : t.bulk ≤ 1000000000) : ACallP Tryz.prog 20 [.agg t.cells] (slI (riseL (bindsOf t.all))) :=
  ACallP.of_any ((binds_c0 t hb).shift fun y Γ' hq => by
    obtain ⟨tk, h1, h2, rfl, rfl⟩ := hq
    exact ⟨_, _, Shift.freezeRow (es := (riseL (bindsOf t.all)).map (PV.int .i64)) (WkF.ms' h2), rfl⟩)
end Go.Cb
namespace Go.Cb
open Go.Proofs
set_option maxRecDepth 100000
set_option maxHeartbeats 4000000
mutual
def Trm.sh (k : Int) : Trm → Trm
  | .mk op n v t => .mk op (if namesB op = true then n + k else n) (v.map (· + k)) (Trm.shs k t)
def Trm.shs (k : Int) : List Trm → List Trm
  | [] => []
  | x :: xs => Trm.sh k x :: Trm.shs k xs
end
theorem Trm.shs_eq (k : Int) : ∀ l : List Trm, Trm.shs k l = l.map (Trm.sh k)
  | [] => rfl
  | x :: l => by rw [Trm.shs, List.map_cons, Trm.shs_eq k l]
theorem Trm.sh_op (k : Int) (t : Trm) : (t.sh k).op = t.op := by cases t; rw [Trm.sh]; rfl
theorem Trm.sh_n (k : Int) (t : Trm) : (t.sh k).n = if namesB t.op = true then t.n + k else t.n := by cases t; rw [Trm.sh]; rfl
theorem Trm.sh_v (k : Int) (t : Trm) : (t.sh k).v = t.v.map (· + k) := by cases t; rw [Trm.sh]; rfl
theorem Trm.sh_t (k : Int) (t : Trm) : (t.sh k).t = t.t.map (Trm.sh k) := by cases t; rw [Trm.sh, ← Trm.shs_eq]; rfl
theorem Trm.sh_cnt (k : Int) (t : Trm) : (t.sh k).cnt = t.cnt := by
  induction t using Trm.ind with
  | h t ih =>
    have : ∀ l : List Trm, (∀ x ∈ l, (x.sh k).cnt = x.cnt) → Trm.cnts (l.map (Trm.sh k)) = Trm.cnts l := by
      intro l
      induction l with
      | nil => intro _; rfl
      | cons y l ihl => intro h; rw [List.map_cons, Trm.cnts, Trm.cnts, h y (by simp), ihl fun x hx => h x (by simp [hx])]
    rw [Trm.cnt_eq, Trm.cnt_eq, Trm.sh_t, this t.t ih]
theorem Trm.sh_vars (k : Int) (t : Trm) : (t.sh k).vars = t.vars.map (· + k) := by
  induction t using Trm.ind with
  | h t ih =>
    have : ∀ l : List Trm, (∀ x ∈ l, (x.sh k).vars = x.vars.map (· + k)) → Trm.varss (l.map (Trm.sh k)) = (Trm.varss l).map (· + k) := by
      intro l
      induction l with
      | nil => intro _; rfl
      | cons y l ihl => intro h; rw [List.map_cons, Trm.varss, Trm.varss, h y (by simp), ihl fun x hx => h x (by simp [hx]), List.map_append]
    rw [Trm.vars_eq, Trm.vars_eq, Trm.sh_t, Trm.sh_v, this t.t ih, List.map_append]
theorem sh_number (k c codes : Int) (free : Bool) (t : Trm) (scope : List Int) (h : numberL c codes free t scope = true) : numberL c codes free (t.sh k) (scope.map (· + k)) = true := by
  unfold numberL at h ⊢
  rw [Trm.sh_op, Trm.sh_n, Trm.sh_v, List.length_map]
  by_cases hn : t.op = 1 ∨ t.op = 2 ∨ t.op = 14
  · rw [if_neg (by omega), if_pos hn] at h ⊢
    have : namesB t.op = true := by simp [namesB]; omega
    rw [if_pos this]
    simp at h ⊢
    exact h
  · have : ¬ namesB t.op = true := by simp [namesB]; omega
    rw [if_neg this, if_neg hn]
    rw [if_neg hn] at h
    exact h
theorem Trm.sh_ok {level c codes : Int} {free : Bool} (k : Int) (t : Trm) : ∀ {scope : List Int} {deep : Int}, t.okT level c codes free scope deep → (t.sh k).okT level c codes free (scope.map (· + k)) deep := by
  induction t using Trm.ind with
  | h t ih =>
    intro scope deep h
    rw [Trm.okT_eq] at h ⊢
    have key : ∀ (op : Int) (sc inner : List Int) (deep : Int) (l : List Trm), (∀ y ∈ l, ∀ {scope : List Int} {deep : Int}, y.okT level c codes free scope deep → (y.sh k).okT level c codes free (scope.map (· + k)) deep) →
        Trm.okTs level c codes free op sc inner l deep → Trm.okTs level c codes free op (sc.map (· + k)) (inner.map (· + k)) (l.map (Trm.sh k)) deep := by
      intro op sc inner deep l
      induction l with
      | nil => intro _ _; simp [Trm.okTs]
      | cons x l ihl =>
        intro hy hk
        rw [Trm.okTs] at hk
        rw [List.map_cons, Trm.okTs, Trm.sh_op]
        have e : l.map (Trm.sh k) = [] ↔ l = [] := by simp
        refine ⟨fun hh => hk.1 ⟨hh.1, fun h2 => hh.2.1 (e.2 h2), hh.2.2⟩, ?_, ihl (fun z hz => hy z (by simp [hz])) hk.2.2⟩
        have h2 := hy x (by simp) hk.2.1
        by_cases h3 : l = [] ∨ op = 7 ∨ op = 9
        · rw [if_pos h3] at h2
          rw [if_pos (h3.imp_left e.2)]
          exact h2
        · rw [if_neg h3] at h2
          rw [if_neg (fun h4 => h3 (h4.imp_left e.1))]
          exact h2
    rw [Trm.sh_op, Trm.sh_v, Trm.sh_t, ← List.map_append]
    refine ⟨⟨h.1.1, h.1.2.1, ?_, sh_number k _ _ _ _ _ h.1.2.2.2⟩, key _ _ _ _ _ ih h.2⟩
    have := h.1.2.2.1
    unfold countsL at this ⊢
    simp only [Trm.sh_op, Trm.sh_v, Trm.sh_t, List.length_map]
    exact this
theorem RightP.sh {p : Prog} {level : Int} (h : RightP p level) (k : Int) (h0 : 0 ≤ k) (hk : ∀ x ∈ p.body.vars, x + k ≤ 1000000) : RightP ⟨p.consts, p.body.sh k⟩ level := by
  obtain ⟨h1, h2, h3, h4, h5⟩ := h
  refine ⟨h1, h2, p.body.sh_ok k h3, by rw [show (⟨p.consts, p.body.sh k⟩ : Prog).body = p.body.sh k from rfl, Trm.sh_cnt]; exact h4, ?_⟩
  show Dist (p.body.sh k).vars []
  rw [Trm.sh_vars]
  refine ⟨fun x hx => ?_, ?_⟩
  · obtain ⟨y, hy, rfl⟩ := List.mem_map.1 hx
    have := h5.1 y hy
    have := hk y hy
    exact ⟨by omega, by omega, by simp⟩
  · exact List.Pairwise.map _ (fun a b hab => by omega) h5.2
end Go.Cb
namespace Go.Cb
open Go.Proofs
set_option maxRecDepth 100000
set_option maxHeartbeats 4000000
mutual
def Trm.asg : Trm → List Int
  | .mk op n _ t => (if op = 2 ∨ op = 14 then [n] else []) ++ Trm.asgs t
def Trm.asgs : List Trm → List Int
  | [] => []
  | x :: xs => Trm.asg x ++ Trm.asgs xs
end
theorem Trm.asg_eq (t : Trm) : t.asg = (if t.op = 2 ∨ t.op = 14 then [t.n] else []) ++ Trm.asgs t.t := by cases t; rw [Trm.asg]; rfl
theorem Trm.asgs_flat : ∀ l : List Trm, Trm.asgs l = l.flatMap Trm.asg
  | [] => by simp [Trm.asgs]
  | x :: l => by rw [Trm.asgs, Trm.asgs_flat l]; rfl
def refT (v : Int) : Trm := .mk 1 v [] []
def boxT (t : Trm) : Trm := .mk 15 0 [] [t]
def lamV (A : Int → Bool) : List Int → Int → List Int
  | [], _ => []
  | x :: xs, k => if A x = true then k :: lamV A xs (k + 1) else x :: lamV A xs k
def lamT (A : Int → Bool) : List Int → Int → List Trm
  | [], _ => []
  | x :: xs, k => if A x = true then boxT (refT k) :: lamT A xs (k + 1) else lamT A xs k
def lamN (A : Int → Bool) (l : List Int) : Int := ((l.filter A).length : Int)
def boxAll (A : Int → Bool) : List Int → List Trm → List Trm
  | v :: vs, x :: xs => (if A v = true then boxT x else x) :: boxAll A vs xs
  | _, l => l
def fixT (A : Int → Bool) : List Int → List Trm → List Trm
  | v :: vs, x :: xs => if A v = true then fixT A vs xs else x :: fixT A vs xs
  | _, _ => []
def fixO (A : Int → Bool) : List Int → List Trm → Trm → Trm
  | v :: vs, x :: xs, o => if A v = true then .mk 6 0 [] [.mk 17 0 [] [refT v, x], fixO A vs xs o] else fixO A vs xs o
  | _, _, o => o
def fixE (A : Int → Bool) (vs : List Int) (l : List Trm) : Trm :=
  let o := fixO A vs l (l.getD vs.length (refT 0))
  if vs.filter (fun v => !A v) = [] then o else .mk 9 0 (vs.filter fun v => !A v) (fixT A vs l ++ [o])
def fixR (A : Int → Bool) (vs : List Int) (l : List Trm) : Trm :=
  .mk 8 0 (vs.filter A) ((vs.filter A).map (fun _ => boxT (.mk 13 0 [] [])) ++ [fixE A vs l])
mutual
def Trm.fr (A : Int → Bool) : Trm → Int
  | .mk op _ v t => (if op = 4 then lamN A v else 0) + Trm.frs A t
def Trm.frs (A : Int → Bool) : List Trm → Int
  | [] => 0
  | x :: xs => Trm.fr A x + Trm.frs A xs
end
theorem Trm.fr_eq (A : Int → Bool) (t : Trm) : t.fr A = (if t.op = 4 then lamN A t.v else 0) + Trm.frs A t.t := by cases t; rw [Trm.fr]; rfl
mutual
def Trm.cv (A : Int → Bool) : Trm → Int → Trm
  | .mk op n v t, k =>
    if op = 1 ∧ A n = true then .mk 16 0 [] [.mk op n v t]
    else if op = 2 then .mk 17 0 [] (refT n :: Trm.cvs A t k)
    else if op = 14 then .mk 18 0 [] (refT n :: Trm.cvs A t k)
    else if op = 4 then .mk 4 n (lamV A v k) (if v.filter A = [] then Trm.cvs A t (k + lamN A v) else [.mk 8 0 (v.filter A) (lamT A v k ++ Trm.cvs A t (k + lamN A v))])
    else if op = 9 ∧ v.any A = true then fixR A v (Trm.cvs A t k)
    else .mk op n v (if op = 8 then boxAll A v (Trm.cvs A t k) else Trm.cvs A t k)
def Trm.cvs (A : Int → Bool) : List Trm → Int → List Trm
  | [], _ => []
  | x :: xs, k => Trm.cv A x k :: Trm.cvs A xs (k + Trm.fr A x)
end
theorem Trm.cv_eq (A : Int → Bool) (t : Trm) (k : Int) : t.cv A k =
    if t.op = 1 ∧ A t.n = true then .mk 16 0 [] [t]
    else if t.op = 2 then .mk 17 0 [] (refT t.n :: Trm.cvs A t.t k)
    else if t.op = 14 then .mk 18 0 [] (refT t.n :: Trm.cvs A t.t k)
    else if t.op = 4 then .mk 4 t.n (lamV A t.v k) (if t.v.filter A = [] then Trm.cvs A t.t (k + lamN A t.v) else [.mk 8 0 (t.v.filter A) (lamT A t.v k ++ Trm.cvs A t.t (k + lamN A t.v))])
    else if t.op = 9 ∧ t.v.any A = true then fixR A t.v (Trm.cvs A t.t k)
    else .mk t.op t.n t.v (if t.op = 8 then boxAll A t.v (Trm.cvs A t.t k) else Trm.cvs A t.t k) := by cases t; rw [Trm.cv]; rfl
theorem Trm.cvs_length (A : Int → Bool) : ∀ (l : List Trm) (k : Int), (Trm.cvs A l k).length = l.length
  | [], _ => by rw [Trm.cvs]
  | x :: l, k => by rw [Trm.cvs, List.length_cons, List.length_cons, Trm.cvs_length A l]
mutual
def Trm.shp : Trm → Prop
  | .mk op n v t => ((op = 1 → v = [] ∧ t = []) ∧ (op = 2 ∨ op = 14 ∨ op = 4 → t.length = 1) ∧ (op = 8 ∨ op = 9 → t.length = v.length + 1) ∧ (op = 9 → n = 0)) ∧ Trm.shps t
def Trm.shps : List Trm → Prop
  | [] => True
  | x :: xs => Trm.shp x ∧ Trm.shps xs
end
theorem Trm.shp_eq (t : Trm) : t.shp ↔ ((t.op = 1 → t.v = [] ∧ t.t = []) ∧ (t.op = 2 ∨ t.op = 14 ∨ t.op = 4 → t.t.length = 1) ∧ (t.op = 8 ∨ t.op = 9 → t.t.length = t.v.length + 1) ∧ (t.op = 9 → t.n = 0)) ∧ Trm.shps t.t := by
  cases t; rw [Trm.shp]; rfl
theorem Trm.shps_mem : ∀ {l : List Trm}, Trm.shps l → ∀ x ∈ l, x.shp
  | [], _, x, h => by cases h
  | y :: l, hs, x, h => by
    rw [Trm.shps] at hs
    rcases List.mem_cons.1 h with rfl | h
    · exact hs.1
    · exact Trm.shps_mem hs.2 x h
mutual
def Trm.nam : Trm → List Int
  | .mk op n v t => (if op = 1 then [n] else []) ++ v ++ Trm.nams t
def Trm.nams : List Trm → List Int
  | [] => []
  | x :: xs => Trm.nam x ++ Trm.nams xs
end
theorem Trm.nam_eq (t : Trm) : t.nam = (if t.op = 1 then [t.n] else []) ++ t.v ++ Trm.nams t.t := by cases t; rw [Trm.nam]; rfl
theorem lamV_congr {A B : Int → Bool} : ∀ (l : List Int) (k : Int), (∀ v ∈ l, A v = B v) → lamV A l k = lamV B l k
  | [], _, _ => rfl
  | v :: l, k, h => by
    rw [List.forall_mem_cons] at h
    rw [lamV, lamV, h.1, lamV_congr l _ h.2, lamV_congr l _ h.2]
theorem lamT_congr {A B : Int → Bool} : ∀ (l : List Int) (k : Int), (∀ v ∈ l, A v = B v) → lamT A l k = lamT B l k
  | [], _, _ => rfl
  | v :: l, k, h => by
    rw [List.forall_mem_cons] at h
    rw [lamT, lamT, h.1, lamT_congr l _ h.2, lamT_congr l _ h.2]
theorem boxAll_congr {A B : Int → Bool} : ∀ (vs : List Int) (l : List Trm), (∀ v ∈ vs, A v = B v) → boxAll A vs l = boxAll B vs l
  | [], l, _ => by simp [boxAll]
  | _ :: _, [], _ => by simp [boxAll]
  | v :: vs, x :: l, h => by
    rw [List.forall_mem_cons] at h
    rw [boxAll, boxAll, h.1, boxAll_congr vs l h.2]
theorem fixT_congr {A B : Int → Bool} : ∀ (vs : List Int) (l : List Trm), (∀ v ∈ vs, A v = B v) → fixT A vs l = fixT B vs l
  | [], l, _ => by simp [fixT]
  | _ :: _, [], _ => by simp [fixT]
  | v :: vs, x :: l, h => by
    rw [List.forall_mem_cons] at h
    rw [fixT, fixT, h.1, fixT_congr vs l h.2]
theorem fixO_congr {A B : Int → Bool} : ∀ (vs : List Int) (l : List Trm) (o : Trm), (∀ v ∈ vs, A v = B v) → fixO A vs l o = fixO B vs l o
  | [], l, o, _ => by simp [fixO]
  | _ :: _, [], o, _ => by simp [fixO]
  | v :: vs, x :: l, o, h => by
    rw [List.forall_mem_cons] at h
    rw [fixO, fixO, h.1, fixO_congr vs l o h.2]
theorem filter_congr' {A B : Int → Bool} {l : List Int} (h : ∀ v ∈ l, A v = B v) : l.filter A = l.filter B := List.filter_congr h
theorem any_congr' {A B : Int → Bool} : ∀ {l : List Int}, (∀ v ∈ l, A v = B v) → l.any A = l.any B
  | [], _ => rfl
  | v :: l, h => by
    rw [List.forall_mem_cons] at h
    rw [List.any_cons, List.any_cons, h.1, any_congr' h.2]
theorem fixR_congr {A B : Int → Bool} {vs : List Int} {l : List Trm} (h : ∀ v ∈ vs, A v = B v) : fixR A vs l = fixR B vs l := by
  have hn : vs.filter (fun v => !A v) = vs.filter (fun v => !B v) := List.filter_congr fun v hv => by rw [h v hv]
  unfold fixR fixE
  simp only [filter_congr' h, hn, fixO_congr vs l _ h, fixT_congr vs l h]
theorem Trm.fr_congr {A B : Int → Bool} (t : Trm) : (∀ v ∈ t.nam, A v = B v) → t.fr A = t.fr B := by
  induction t using Trm.ind with
  | h t ih =>
    intro h
    rw [Trm.nam_eq] at h
    have key : ∀ l : List Trm, (∀ y ∈ l, (∀ v ∈ y.nam, A v = B v) → y.fr A = y.fr B) → (∀ v ∈ Trm.nams l, A v = B v) → Trm.frs A l = Trm.frs B l := by
      intro l
      induction l with
      | nil => intro _ _; rw [Trm.frs, Trm.frs]
      | cons y l ihl =>
        intro h1 h2
        rw [Trm.nams] at h2
        rw [Trm.frs, Trm.frs, h1 y (by simp) (fun v hv => h2 v (by simp [hv])), ihl (fun z hz => h1 z (by simp [hz])) (fun v hv => h2 v (by simp [hv]))]
    rw [Trm.fr_eq, Trm.fr_eq, key t.t ih (fun v hv => h v (by simp [hv]))]
    unfold lamN
    rw [filter_congr' (fun v hv => h v (by simp [hv]))]
theorem Trm.cv_congr {A B : Int → Bool} (t : Trm) : ∀ k : Int, (∀ v ∈ t.nam, A v = B v) → t.cv A k = t.cv B k := by
  induction t using Trm.ind with
  | h t ih =>
    intro k h
    rw [Trm.nam_eq] at h
    have key : ∀ l : List Trm, (∀ y ∈ l, ∀ k : Int, (∀ v ∈ y.nam, A v = B v) → y.cv A k = y.cv B k) → (∀ v ∈ Trm.nams l, A v = B v) → ∀ k, Trm.cvs A l k = Trm.cvs B l k := by
      intro l
      induction l with
      | nil => intro _ _ k; rw [Trm.cvs, Trm.cvs]
      | cons y l ihl =>
        intro h1 h2 k
        rw [Trm.nams] at h2
        rw [Trm.cvs, Trm.cvs, h1 y (by simp) k (fun v hv => h2 v (by simp [hv])), y.fr_congr (fun v hv => h2 v (by simp [hv])), ihl (fun z hz => h1 z (by simp [hz])) (fun v hv => h2 v (by simp [hv]))]
    have hk := key t.t ih (fun v hv => h v (by simp [hv]))
    have hv : ∀ v ∈ t.v, A v = B v := fun v hv => h v (by simp [hv])
    have hn : t.op = 1 → A t.n = B t.n := fun e => h _ (by simp [e])
    have h1 : (t.op = 1 ∧ A t.n = true) ↔ (t.op = 1 ∧ B t.n = true) := ⟨fun ⟨a, b⟩ => ⟨a, by rw [← hn a]; exact b⟩, fun ⟨a, b⟩ => ⟨a, by rw [hn a]; exact b⟩⟩
    rw [Trm.cv_eq, Trm.cv_eq]
    simp only [hk, lamV_congr _ _ hv, lamT_congr _ _ hv, filter_congr' hv, any_congr' hv, boxAll_congr _ _ hv, fixR_congr hv, lamN, h1]
def Trm.sz (l : List Trm) : Int := Trm.cnts l
theorem Trm.cnts_append : ∀ l m : List Trm, Trm.cnts (l ++ m) = Trm.cnts l + Trm.cnts m
  | [], m => by simp [Trm.cnts]
  | x :: l, m => by rw [List.cons_append, Trm.cnts, Trm.cnts, Trm.cnts_append l m]; omega
theorem lamT_cnt (A : Int → Bool) : ∀ (l : List Int) (k : Int), Trm.cnts (lamT A l k) = 2 * lamN A l
  | [], _ => by simp [lamT, Trm.cnts, lamN]
  | v :: l, k => by
    rw [lamT]
    split
    · rename_i h
      rw [Trm.cnts, lamT_cnt A l]
      simp only [boxT, refT, Trm.cnt, Trm.cnts, lamN, List.filter_cons, h, if_true, List.length_cons]
      omega
    · rename_i h
      rw [lamT_cnt A l]
      simp only [lamN, List.filter_cons, h, Bool.false_eq_true, if_false]
theorem boxT_cnt (t : Trm) : (boxT t).cnt = 1 + t.cnt := by rw [boxT, Trm.cnt, Trm.cnts, Trm.cnts]; omega
def Szs : List Trm → List Trm → Prop
  | [], [] => True
  | x :: l, y :: m => x.cnt = y.cnt ∧ Szs l m
  | _, _ => False
theorem Szs.cnts : ∀ {l m : List Trm}, Szs l m → Trm.cnts l = Trm.cnts m
  | [], [], _ => rfl
  | x :: l, y :: m, h => by rw [Trm.cnts, Trm.cnts, h.1, h.2.cnts]
  | [], _ :: _, h => h.elim
  | _ :: _, [], h => h.elim
theorem Szs.getD : ∀ {l m : List Trm} (i : Nat) (d : Trm), Szs l m → (l.getD i d).cnt = (m.getD i d).cnt
  | [], [], _, _, _ => rfl
  | x :: l, y :: m, 0, d, h => by simpa using h.1
  | x :: l, y :: m, i + 1, d, h => by simpa using h.2.getD i d
  | [], _ :: _, _, _, h => h.elim
  | _ :: _, [], _, _, h => h.elim
theorem Szs.boxAll (A : Int → Bool) : ∀ (vs : List Int) {l m : List Trm}, Szs l m → Szs (boxAll A vs l) (boxAll A vs m)
  | [], l, m, h => by simpa [Go.Cb.boxAll] using h
  | _ :: _, [], [], h => by simp [Go.Cb.boxAll, Szs]
  | v :: vs, x :: l, y :: m, h => by
    rw [Go.Cb.boxAll, Go.Cb.boxAll]
    refine ⟨?_, h.2.boxAll A vs⟩
    split
    · rw [boxT_cnt, boxT_cnt, h.1]
    · exact h.1
  | _ :: _, [], _ :: _, h => h.elim
  | _ :: _, _ :: _, [], h => h.elim
theorem Szs.fixT (A : Int → Bool) : ∀ (vs : List Int) {l m : List Trm}, Szs l m → Szs (fixT A vs l) (fixT A vs m)
  | [], l, m, h => by simp [Go.Cb.fixT, Szs]
  | _ :: _, [], [], h => by simp [Go.Cb.fixT, Szs]
  | v :: vs, x :: l, y :: m, h => by
    rw [Go.Cb.fixT, Go.Cb.fixT]
    split
    · exact h.2.fixT A vs
    · exact ⟨h.1, h.2.fixT A vs⟩
  | _ :: _, [], _ :: _, h => h.elim
  | _ :: _, _ :: _, [], h => h.elim
theorem Szs.fixO (A : Int → Bool) : ∀ (vs : List Int) {l m : List Trm} {o u : Trm}, Szs l m → o.cnt = u.cnt → (fixO A vs l o).cnt = (fixO A vs m u).cnt
  | [], l, m, o, u, h, ho => by simpa [Go.Cb.fixO] using ho
  | _ :: _, [], [], o, u, h, ho => by simpa [Go.Cb.fixO] using ho
  | v :: vs, x :: l, y :: m, o, u, h, ho => by
    rw [Go.Cb.fixO, Go.Cb.fixO]
    have ih := h.2.fixO A vs ho
    split
    · simp only [Trm.cnt, Trm.cnts, h.1, ih]
    · exact ih
  | _ :: _, [], _ :: _, _, _, h, _ => h.elim
  | _ :: _, _ :: _, [], _, _, h, _ => h.elim
theorem Szs.fixR (A : Int → Bool) (vs : List Int) {l m : List Trm} (h : Szs l m) : (fixR A vs l).cnt = (fixR A vs m).cnt := by
  have ho := h.fixO A vs (h.getD vs.length (refT 0))
  have ht := (h.fixT A vs).cnts
  unfold Go.Cb.fixR fixE
  simp only
  split
  · simp only [Trm.cnt, Trm.cnts_append, Trm.cnts, ho]
  · simp only [Trm.cnt, Trm.cnts_append, Trm.cnts, ho, ht]
theorem Trm.cv_size (A : Int → Bool) (t : Trm) : ∀ k m : Int, (t.cv A k).cnt = (t.cv A m).cnt := by
  induction t using Trm.ind with
  | h t ih =>
    intro k m
    have key : ∀ l : List Trm, (∀ y ∈ l, ∀ k m : Int, (y.cv A k).cnt = (y.cv A m).cnt) → ∀ k m, Szs (Trm.cvs A l k) (Trm.cvs A l m) := by
      intro l
      induction l with
      | nil => intro _ k m; rw [Trm.cvs, Trm.cvs]; trivial
      | cons y l ihl =>
        intro h1 k m
        rw [Trm.cvs, Trm.cvs]
        exact ⟨h1 y (by simp) k m, ihl (fun z hz => h1 z (by simp [hz])) _ _⟩
    have hk := key t.t ih
    have hc := fun k m => (hk k m).cnts
    rw [Trm.cv_eq, Trm.cv_eq]
    split
    · rfl
    split
    · simp only [Trm.cnt, Trm.cnts, hc k m]
    split
    · simp only [Trm.cnt, Trm.cnts, hc k m]
    split
    · split
      · simp only [Trm.cnt, hc (k + lamN A t.v) (m + lamN A t.v)]
      · simp only [Trm.cnt, Trm.cnts, Trm.cnts_append, lamT_cnt, hc (k + lamN A t.v) (m + lamN A t.v)]
    split
    · exact (hk k m).fixR A t.v
    · split
      · simp only [Trm.cnt, ((hk k m).boxAll A t.v).cnts]
      · simp only [Trm.cnt, hc k m]
section
variable {A B : Int → Bool} {s : Int} (hAB : ∀ v, B (v + s) = A v)
include hAB
theorem lamV_sh : ∀ (l : List Int) (k : Int), lamV B (l.map (· + s)) (k + s) = (lamV A l k).map (· + s)
  | [], _ => rfl
  | v :: l, k => by
    rw [List.map_cons, lamV, lamV, hAB]
    have e : k + s + 1 = k + 1 + s := by omega
    split
    · rw [List.map_cons, e, lamV_sh l]
    · rw [List.map_cons, lamV_sh l]
omit hAB in
theorem refT_sh (v : Int) : (refT v).sh s = refT (v + s) := by simp [refT, Trm.sh, Trm.shs, namesB]
omit hAB in
theorem boxT_sh (t : Trm) : (boxT t).sh s = boxT (t.sh s) := by simp [boxT, Trm.sh, Trm.shs, namesB]
theorem lamT_sh : ∀ (l : List Int) (k : Int), lamT B (l.map (· + s)) (k + s) = (lamT A l k).map (Trm.sh s)
  | [], _ => rfl
  | v :: l, k => by
    rw [List.map_cons, lamT, lamT, hAB]
    have e : k + s + 1 = k + 1 + s := by omega
    split
    · rw [List.map_cons, e, lamT_sh l, boxT_sh, refT_sh]
    · rw [lamT_sh l]
theorem filter_sh (l : List Int) : (l.map (· + s)).filter B = (l.filter A).map (· + s) := by
  rw [List.filter_map]
  congr 2
  funext v
  exact hAB v
theorem filterN_sh (l : List Int) : (l.map (· + s)).filter (fun v => !B v) = (l.filter fun v => !A v).map (· + s) := by
  rw [List.filter_map]
  congr 2
  funext v
  show (!B (v + s)) = !A v
  rw [hAB v]
theorem any_sh (l : List Int) : (l.map (· + s)).any B = l.any A := by
  rw [List.any_map]
  congr 1
  funext v
  exact hAB v
theorem lamN_sh (l : List Int) : lamN B (l.map (· + s)) = lamN A l := by
  unfold lamN
  rw [filter_sh hAB, List.length_map]
theorem boxAll_sh : ∀ (vs : List Int) (l : List Trm), boxAll B (vs.map (· + s)) (l.map (Trm.sh s)) = (boxAll A vs l).map (Trm.sh s)
  | [], l => by simp [boxAll]
  | _ :: _, [] => by simp [boxAll]
  | v :: vs, x :: l => by
    rw [List.map_cons, List.map_cons, boxAll, boxAll, hAB, boxAll_sh vs l, List.map_cons]
    split
    · rw [boxT_sh]
    · rfl
theorem fixT_sh : ∀ (vs : List Int) (l : List Trm), fixT B (vs.map (· + s)) (l.map (Trm.sh s)) = (fixT A vs l).map (Trm.sh s)
  | [], l => by simp [fixT]
  | _ :: _, [] => by simp [fixT]
  | v :: vs, x :: l => by
    rw [List.map_cons, List.map_cons, fixT, fixT, hAB, fixT_sh vs l]
    split
    · rfl
    · rw [List.map_cons]
theorem fixO_sh : ∀ (vs : List Int) (l : List Trm) (o : Trm), fixO B (vs.map (· + s)) (l.map (Trm.sh s)) (o.sh s) = (fixO A vs l o).sh s
  | [], l, o => by simp [fixO]
  | _ :: _, [], o => by simp [fixO]
  | v :: vs, x :: l, o => by
    rw [List.map_cons, List.map_cons, fixO, fixO, hAB, fixO_sh vs l]
    split
    · simp [Trm.sh, Trm.shs, namesB, refT_sh]
    · rfl
theorem fixR_sh (vs : List Int) (l : List Trm) (hl : l.length = vs.length + 1) : fixR B (vs.map (· + s)) (l.map (Trm.sh s)) = (fixR A vs l).sh s := by
  have e : (l.map (Trm.sh s)).getD (vs.map (· + s)).length (refT 0) = (l.getD vs.length (refT 0)).sh s := by
    have : vs.length < l.length := by omega
    simp [List.getD, this]
  have hE : fixE B (vs.map (· + s)) (l.map (Trm.sh s)) = (fixE A vs l).sh s := by
    unfold fixE
    simp only
    rw [e, fixO_sh hAB, filterN_sh hAB]
    by_cases hx : vs.filter (fun v => !A v) = []
    · rw [if_pos (by rw [hx]; rfl), if_pos hx]
    · rw [if_neg (by simpa using hx), if_neg hx]
      rw [Trm.sh, if_neg (by simp [namesB]), Trm.shs_eq, List.map_append, fixT_sh hAB]; rfl
  unfold fixR
  rw [hE, filter_sh hAB, Trm.sh, if_neg (by simp [namesB]), Trm.shs_eq, List.map_append, List.map_map, List.map_map]
  congr 2
theorem Trm.fr_sh (t : Trm) : (t.sh s).fr B = t.fr A := by
  induction t using Trm.ind with
  | h t ih =>
    have key : ∀ l : List Trm, (∀ y ∈ l, (y.sh s).fr B = y.fr A) → Trm.frs B (l.map (Trm.sh s)) = Trm.frs A l := by
      intro l
      induction l with
      | nil => intro _; rfl
      | cons y l ihl => intro h; rw [List.map_cons, Trm.frs, Trm.frs, h y (by simp), ihl fun z hz => h z (by simp [hz])]
    rw [Trm.fr_eq, Trm.fr_eq, Trm.sh_op, Trm.sh_v, Trm.sh_t, key t.t ih, lamN_sh hAB]
theorem Trm.cv_sh (t : Trm) : ∀ k : Int, t.shp → (t.sh s).cv B (k + s) = (t.cv A k).sh s := by
  induction t using Trm.ind with
  | h t ih =>
    intro k hs
    rw [Trm.shp_eq] at hs
    have key : ∀ l : List Trm, (∀ y ∈ l, ∀ k : Int, y.shp → (y.sh s).cv B (k + s) = (y.cv A k).sh s) → Trm.shps l → ∀ k, Trm.cvs B (l.map (Trm.sh s)) (k + s) = (Trm.cvs A l k).map (Trm.sh s) := by
      intro l
      induction l with
      | nil => intro _ _ k; rw [Trm.cvs]; rfl
      | cons y l ihl =>
        intro h1 h2 k
        rw [Trm.shps] at h2
        have e : k + s + y.fr A = k + y.fr A + s := by omega
        rw [List.map_cons, Trm.cvs, Trm.cvs, List.map_cons, h1 y (by simp) k h2.1, Trm.fr_sh hAB, e, ihl (fun z hz => h1 z (by simp [hz])) h2.2]
    have hk := key t.t ih hs.2
    have hlen := fun k => Trm.cvs_length A t.t k
    have e2 : k + s + lamN A t.v = k + lamN A t.v + s := by omega
    rw [Trm.cv_eq, Trm.cv_eq, Trm.sh_op, Trm.sh_v, Trm.sh_t, Trm.sh_n, lamV_sh hAB, lamT_sh hAB, filter_sh hAB, any_sh hAB, lamN_sh hAB, hk, e2, hk, boxAll_sh hAB]
    by_cases h1 : t.op = 1
    · have hn : namesB t.op = true := by simp [namesB, h1]
      rw [if_pos hn, hAB]
      by_cases h2 : A t.n = true
      · rw [if_pos ⟨h1, h2⟩, if_pos ⟨h1, h2⟩]
        simp [Trm.sh, Trm.shs, namesB]
      · have q1 : ¬(t.op = 1 ∧ A t.n = true) := fun h => h2 h.2
        have q2 : ¬t.op = 2 := by omega
        have q3 : ¬t.op = 14 := by omega
        have q4 : ¬t.op = 4 := by omega
        have q5 : ¬(t.op = 9 ∧ t.v.any A = true) := by omega
        have q6 : ¬t.op = 8 := by omega
        simp only [if_neg q1, if_neg q2, if_neg q3, if_neg q4, if_neg q5, if_neg q6]
        rw [Trm.sh, if_pos hn, Trm.shs_eq]
    · have q1 : ¬(t.op = 1 ∧ A t.n = true) := fun h => h1 h.1
      have q2 : ¬(t.op = 1 ∧ B (if namesB t.op = true then t.n + s else t.n) = true) := fun h => h1 h.1
      rw [if_neg q1, if_neg q2]
      by_cases h2 : t.op = 2
      · have hn : namesB t.op = true := by simp [namesB, h2]
        rw [if_pos h2, if_pos h2, if_pos hn, Trm.sh, Trm.shs, refT_sh, Trm.shs_eq]
        simp [namesB]
      rw [if_neg h2, if_neg h2]
      by_cases h3 : t.op = 14
      · have hn : namesB t.op = true := by simp [namesB, h3]
        rw [if_pos h3, if_pos h3, if_pos hn, Trm.sh, Trm.shs, refT_sh, Trm.shs_eq]
        simp [namesB]
      have hn : ¬ namesB t.op = true := by simp [namesB, h1, h2, h3]
      rw [if_neg h3, if_neg h3, if_neg hn]
      by_cases h4 : t.op = 4
      · have q3 : ¬namesB 4 = true := by decide
        have q4 : ¬namesB 8 = true := by decide
        rw [if_pos h4, if_pos h4, Trm.sh, if_neg q3]
        congr 1
        by_cases h5 : t.v.filter A = []
        · have h6 : (t.v.filter A).map (· + s) = [] := by rw [h5]; rfl
          rw [if_pos h6, if_pos h5, Trm.shs_eq]
        · have h6 : ¬(t.v.filter A).map (· + s) = [] := fun e => h5 (List.map_eq_nil_iff.1 e)
          rw [if_neg h6, if_neg h5, Trm.shs, Trm.shs, Trm.sh, if_neg q4, Trm.shs_eq, List.map_append]
      rw [if_neg h4, if_neg h4]
      by_cases h6 : t.op = 9 ∧ t.v.any A = true
      · rw [if_pos h6, if_pos h6, fixR_sh hAB _ _ (by rw [hlen]; exact hs.1.2.2.1 (.inr h6.1))]
      · rw [if_neg h6, if_neg h6, Trm.sh, if_neg hn, Trm.shs_eq]
        congr 1
        split <;> rfl
end
end Go.Cb
namespace Go.Cb
open Go.Proofs
set_option maxRecDepth 100000
set_option maxHeartbeats 4000000
theorem Trm.okT_shp {level c codes : Int} {free : Bool} (t : Trm) : ∀ {scope : List Int} {deep : Int}, t.okT level c codes free scope deep → t.shp := by
  induction t using Trm.ind with
  | h t ih =>
    intro scope deep h
    rw [Trm.okT_eq] at h
    rw [Trm.shp_eq]
    have key : ∀ (op : Int) (sc inner : List Int) (deep : Int) (l : List Trm), (∀ y ∈ l, ∀ {scope : List Int} {deep : Int}, y.okT level c codes free scope deep → y.shp) → Trm.okTs level c codes free op sc inner l deep → Trm.shps l := by
      intro op sc inner deep l
      induction l with
      | nil => intro _ _; rw [Trm.shps]; trivial
      | cons x l ihl =>
        intro hy hk
        rw [Trm.okTs] at hk
        rw [Trm.shps]
        exact ⟨hy x (by simp) hk.2.1, ihl (fun z hz => hy z (by simp [hz])) hk.2.2⟩
    refine ⟨?_, key _ _ _ _ _ ih h.2⟩
    obtain ⟨⟨_, _, h3, h4⟩, _⟩ := h
    unfold countsL at h3
    refine ⟨fun e => ?_, fun e => ?_, fun e => ?_, fun e => ?_⟩
    · rw [e] at h3
      simp [bindsB] at h3
      exact h3
    · split at h3
      · cases h3
      · rw [if_neg (by omega), if_pos (by omega)] at h3
        have : (t.t.length : Int) = 1 := by simpa using h3
        omega
    · split at h3
      · cases h3
      · rw [if_neg (by omega), if_neg (by omega), if_neg (by omega), if_neg (by omega), if_neg (by omega), if_pos (by omega)] at h3
        have : (t.t.length : Int) = (t.v.length : Int) + 1 := by simpa using h3
        omega
    · unfold numberL at h4
      rw [if_neg (by omega), if_neg (by omega), if_neg (by omega), if_neg (by omega), if_neg (by omega), if_neg (by omega), if_neg (by omega)] at h4
      simpa using h4
theorem Trm.okT_nam {level c codes : Int} {free : Bool} (t : Trm) : ∀ {scope : List Int} {deep : Int}, t.okT level c codes free scope deep → ∀ v, v ∈ t.nam ∨ v ∈ t.asg → v ∈ scope ∨ v ∈ t.vars := by
  induction t using Trm.ind with
  | h t ih =>
    intro scope deep h v hv
    rw [Trm.okT_eq] at h
    rw [Trm.nam_eq, Trm.asg_eq] at hv
    rw [Trm.vars_eq]
    have key : ∀ (op : Int) (sc inner : List Int) (deep : Int) (l : List Trm), (∀ y ∈ l, ∀ {scope : List Int} {deep : Int}, y.okT level c codes free scope deep → ∀ v, v ∈ y.nam ∨ v ∈ y.asg → v ∈ scope ∨ v ∈ y.vars) →
        Trm.okTs level c codes free op sc inner l deep → ∀ v, v ∈ Trm.nams l ∨ v ∈ Trm.asgs l → v ∈ sc ∨ v ∈ inner ∨ v ∈ Trm.varss l := by
      intro op sc inner deep l
      induction l with
      | nil => intro _ _ v hv; simp [Trm.nams, Trm.asgs] at hv
      | cons x l ihl =>
        intro hy hk v hv
        rw [Trm.okTs] at hk
        rw [Trm.nams, Trm.asgs, List.mem_append, List.mem_append] at hv
        rw [Trm.varss, List.mem_append]
        have h1 : v ∈ x.nam ∨ v ∈ x.asg → v ∈ sc ∨ v ∈ inner ∨ v ∈ x.vars := fun h => by
          have := hy x (by simp) hk.2.1 v h
          split at this
          · rcases this with h | h
            · exact .inr (.inl h)
            · exact .inr (.inr h)
          · rcases this with h | h
            · exact .inl h
            · exact .inr (.inr h)
        have h2 : v ∈ Trm.nams l ∨ v ∈ Trm.asgs l → v ∈ sc ∨ v ∈ inner ∨ v ∈ Trm.varss l := ihl (fun z hz => hy z (by simp [hz])) hk.2.2 v
        rcases hv with (h | h) | (h | h)
        · rcases h1 (.inl h) with h | h | h
          · exact .inl h
          · exact .inr (.inl h)
          · exact .inr (.inr (.inl h))
        · rcases h2 (.inl h) with h | h | h
          · exact .inl h
          · exact .inr (.inl h)
          · exact .inr (.inr (.inr h))
        · rcases h1 (.inr h) with h | h | h
          · exact .inl h
          · exact .inr (.inl h)
          · exact .inr (.inr (.inl h))
        · rcases h2 (.inr h) with h | h | h
          · exact .inl h
          · exact .inr (.inl h)
          · exact .inr (.inr (.inr h))
    have hk := key _ _ _ _ _ ih h.2 v
    have hn : t.op = 1 ∨ t.op = 2 ∨ t.op = 14 → v = t.n → v ∈ scope := by
      intro ho e
      have h4 := h.1.2.2.2
      unfold numberL at h4
      rw [if_neg (by omega), if_pos (by omega)] at h4
      rw [e]; simpa using h4
    rw [List.mem_append, List.mem_append, List.mem_append] at hv
    rw [List.mem_append]
    rcases hv with ((h | h) | h) | (h | h)
    · split at h
      · rename_i ho; exact .inl (hn (.inl ho) (by simpa using h))
      · cases h
    · exact .inr (.inl h)
    · rcases hk (.inl h) with h | h | h
      · exact .inl h
      · rcases List.mem_append.1 h with h | h
        · exact .inl h
        · exact .inr (.inl h)
      · exact .inr (.inr h)
    · split at h
      · rename_i ho; exact .inl (hn (.inr ho) (by simpa using h))
      · cases h
    · rcases hk (.inr h) with h | h | h
      · exact .inl h
      · rcases List.mem_append.1 h with h | h
        · exact .inl h
        · exact .inr (.inl h)
      · exact .inr (.inr h)
mutual
def Trm.uC (P : Int → Int → Bool) : Trm → Int → Int
  | .mk op n _ t, deep => (if P op n = true then 1 else 0) + (if deep < 1000 then Trm.uCs P t (deep + 1) else 0)
def Trm.uCs (P : Int → Int → Bool) : List Trm → Int → Int
  | [], _ => 0
  | x :: xs, deep => Trm.uC P x deep + Trm.uCs P xs deep
end
theorem Trm.uC_eq (P : Int → Int → Bool) (t : Trm) (deep : Int) : t.uC P deep = (if P t.op t.n = true then 1 else 0) + (if deep < 1000 then Trm.uCs P t.t (deep + 1) else 0) := by cases t; rw [Trm.uC]; rfl
theorem Trm.uC_bd (P : Int → Int → Bool) (t : Trm) : ∀ deep : Int, 0 ≤ t.uC P deep ∧ t.uC P deep ≤ t.cnt := by
  induction t using Trm.ind with
  | h t ih =>
    intro deep
    have key : ∀ l : List Trm, (∀ y ∈ l, ∀ deep : Int, 0 ≤ y.uC P deep ∧ y.uC P deep ≤ y.cnt) → ∀ deep, 0 ≤ Trm.uCs P l deep ∧ Trm.uCs P l deep ≤ Trm.cnts l := by
      intro l
      induction l with
      | nil => intro _ _; rw [Trm.uCs, Trm.cnts]; omega
      | cons x l ihl => intro hy deep; rw [Trm.uCs, Trm.cnts]; have := hy x (by simp) deep; have := ihl (fun z hz => hy z (by simp [hz])) deep; omega
    have := key t.t ih (deep + 1)
    have := Trm.cnts_pos t.t
    rw [Trm.uC_eq, Trm.cnt_eq]
    split <;> split <;> omega
theorem Trm.uCs_bd (P : Int → Int → Bool) (l : List Trm) (deep : Int) : 0 ≤ Trm.uCs P l deep ∧ Trm.uCs P l deep ≤ Trm.cnts l := by
  induction l with
  | nil => rw [Trm.uCs, Trm.cnts]; omega
  | cons x l ih => rw [Trm.uCs, Trm.cnts]; have := x.uC_bd P deep; omega
def putI (l : List Int) (v : Int) : List Int := l.takeWhile (fun x => decide (x < v)) ++ (if (l.dropWhile fun x => decide (x < v)).head? = some v then l.dropWhile (fun x => decide (x < v)) else v :: l.dropWhile fun x => decide (x < v))
theorem putI_cons (x : Int) (l : List Int) (v : Int) : putI (x :: l) v = if x < v then x :: putI l v else if x = v then x :: l else v :: x :: l := by
  unfold putI
  by_cases h : x < v
  · simp [List.takeWhile_cons, List.dropWhile_cons, h]
  · simp [List.takeWhile_cons, List.dropWhile_cons, h]
theorem mem_putI (v x : Int) : ∀ l : List Int, x ∈ putI l v ↔ x = v ∨ x ∈ l
  | [] => by simp [putI]
  | y :: l => by
    rw [putI_cons]
    split
    · rw [List.mem_cons, mem_putI v x l, List.mem_cons]
      constructor
      · rintro (h | h | h)
        · exact .inr (.inl h)
        · exact .inl h
        · exact .inr (.inr h)
      · rintro (h | h | h)
        · exact .inr (.inl h)
        · exact .inl h
        · exact .inr (.inr h)
    · split
      · rename_i e; rw [List.mem_cons, e]
        constructor
        · rintro (h | h)
          · exact .inl h
          · exact .inr (.inr h)
        · rintro (h | h | h)
          · exact .inl h
          · exact .inl h
          · exact .inr h
      · rw [List.mem_cons]
theorem putI_lt (v : Int) : ∀ {l : List Int}, l.Pairwise (· < ·) → (putI l v).Pairwise (· < ·)
  | [], _ => by simp [putI]
  | y :: l, h => by
    rw [List.pairwise_cons] at h
    rw [putI_cons]
    split
    · rw [List.pairwise_cons]
      refine ⟨fun z hz => ?_, putI_lt v h.2⟩
      rcases (mem_putI v z l).1 hz with rfl | hz
      · assumption
      · exact h.1 z hz
    · split
      · exact List.pairwise_cons.2 h
      · rw [List.pairwise_cons]
        refine ⟨fun z hz => ?_, List.pairwise_cons.2 h⟩
        rcases List.mem_cons.1 hz with rfl | hz
        · omega
        · have := h.1 z hz; omega
theorem putI_len (v : Int) : ∀ l : List Int, (putI l v).length ≤ l.length + 1
  | [] => by simp [putI]
  | y :: l => by
    rw [putI_cons]
    have := putI_len v l
    split
    · simp; omega
    · split <;> simp
mutual
def Trm.bD : Trm → Int → List Int → List Int
  | .mk _ _ v t, deep, out => if deep < 1000 then Trm.bDs t (deep + 1) (v.foldl putI out) else v.foldl putI out
def Trm.bDs : List Trm → Int → List Int → List Int
  | [], _, out => out
  | x :: xs, deep, out => Trm.bDs xs deep (Trm.bD x deep out)
end
theorem Trm.bD_eq (t : Trm) (deep : Int) (out : List Int) : t.bD deep out = if deep < 1000 then Trm.bDs t.t (deep + 1) (t.v.foldl putI out) else t.v.foldl putI out := by cases t; rw [Trm.bD]; rfl
theorem foldl_putI_lt : ∀ (v out : List Int), out.Pairwise (· < ·) → (v.foldl putI out).Pairwise (· < ·)
  | [], _, h => h
  | x :: v, out, h => foldl_putI_lt v _ (putI_lt x h)
theorem mem_foldl_putI (x : Int) : ∀ (v out : List Int), x ∈ v.foldl putI out ↔ x ∈ out ∨ x ∈ v
  | [], _ => by simp
  | y :: v, out => by
    rw [List.foldl_cons, mem_foldl_putI x v, mem_putI, List.mem_cons]
    constructor
    · rintro ((h | h) | h)
      · exact .inr (.inl h)
      · exact .inl h
      · exact .inr (.inr h)
    · rintro (h | h | h)
      · exact .inl (.inr h)
      · exact .inl (.inl h)
      · exact .inr h
theorem foldl_putI_len : ∀ (v out : List Int), (v.foldl putI out).length ≤ out.length + v.length
  | [], _ => by simp
  | x :: v, out => by
    rw [List.foldl_cons, List.length_cons]
    have := foldl_putI_len v (putI out x)
    have := putI_len x out
    omega
theorem Trm.bD_spec (t : Trm) : ∀ (deep : Int) (out : List Int), out.Pairwise (· < ·) → (t.bD deep out).Pairwise (· < ·) ∧ (t.bD deep out).length ≤ out.length + t.bulk ∧ (deep + t.dep < 1000 → ∀ x, x ∈ t.bD deep out ↔ x ∈ out ∨ x ∈ t.vars) := by
  induction t using Trm.ind with
  | h t ih =>
    intro deep out ho
    have hge := Trm.deps_ge t.t 0
    have hbe := t.bulk_eq
    have key : ∀ l : List Trm, (∀ y ∈ l, ∀ (deep : Int) (out : List Int), out.Pairwise (· < ·) → (y.bD deep out).Pairwise (· < ·) ∧ (y.bD deep out).length ≤ out.length + y.bulk ∧ (deep + y.dep < 1000 → ∀ x, x ∈ y.bD deep out ↔ x ∈ out ∨ x ∈ y.vars)) →
        ∀ (deep : Int) (out : List Int), out.Pairwise (· < ·) → (Trm.bDs l deep out).Pairwise (· < ·) ∧ (Trm.bDs l deep out).length ≤ out.length + Trm.bulks l ∧ ((∀ x ∈ l, deep + x.dep < 1000) → ∀ x, x ∈ Trm.bDs l deep out ↔ x ∈ out ∨ x ∈ Trm.varss l) := by
      intro l
      induction l with
      | nil => intro _ deep out ho; rw [Trm.bDs, Trm.varss]; exact ⟨ho, by omega, by simp⟩
      | cons x l ihl =>
        intro hy deep out ho
        obtain ⟨a1, a2, a3⟩ := hy x (by simp) deep out ho
        obtain ⟨b1, b2, b3⟩ := ihl (fun z hz => hy z (by simp [hz])) deep (x.bD deep out) a1
        rw [Trm.bDs, Trm.varss, Trm.bulks]
        refine ⟨b1, by omega, fun hd z => ?_⟩
        rw [b3 (fun y hz => hd y (by simp [hz])), a3 (hd x (by simp)), List.mem_append, or_assoc]
    have hf := foldl_putI_lt t.v out ho
    have hl := foldl_putI_len t.v out
    obtain ⟨b1, b2, b3⟩ := key t.t ih (deep + 1) _ hf
    rw [Trm.bD_eq]
    split
    · refine ⟨b1, by omega, fun hd z => ?_⟩
      rw [Trm.dep_eq] at hd
      have hd2 := (Trm.deps_le (999 - deep) t.t 0).1 (by omega)
      rw [b3 fun x hx => by have := hd2.2 x hx; omega]
      rw [mem_foldl_putI, Trm.vars_eq, List.mem_append, or_assoc]
    · exact ⟨hf, by omega, fun hd => by rw [Trm.dep_eq] at hd; omega⟩
def bndL (t : Trm) : List Int := riseL t.vars
theorem Trm.bD_rise (t : Trm) (h : t.dep < 1000) : t.bD 0 [] = bndL t := by
  obtain ⟨h1, _, h3⟩ := t.bD_spec 0 [] List.Pairwise.nil
  exact lt_ext h1 (rise_lt _) fun x => by rw [h3 (by omega), bndL, mem_rise]; simp
theorem Trm.binds_rise (t : Trm) (h : t.dep < 1000) : riseL (bindsOf t.all) = bndL t := by
  have := (t.met_all [] 0 (by omega)).2
  unfold bndL bindsOf
  exact congrArg riseL this
def nextT (t : Trm) : Int := if bndL t = [] then 0 else (bndL t).getD ((bndL t).length - 1) 0 + 1
def noP : Prog := ⟨[], .mk 0 0 [] []⟩
def asgB (t : Trm) (v : Int) : Bool := t.asg.contains v
def cvP (p : Prog) : Prog := ⟨p.consts, p.body.cv (asgB p.body) (nextT p.body)⟩
def conv10 (p : Prog) : Prog × Int := if checkP p 1 = 0 then (if checkP (cvP p) 2 = 0 then (cvP p, 0) else (noP, 5)) else (noP, 5)
end Go.Cb
namespace Go.Cb
open Go.Proofs
set_option maxRecDepth 100000
set_option maxHeartbeats 4000000
theorem Trm.frs_append (A : Int → Bool) : ∀ l m : List Trm, Trm.frs A (l ++ m) = Trm.frs A l + Trm.frs A m
  | [], m => by simp [Trm.frs]
  | x :: l, m => by rw [List.cons_append, Trm.frs, Trm.frs, Trm.frs_append A l m]; omega
theorem Trm.frs_take (A : Int → Bool) {l : List Trm} {i : Nat} (h : i < l.length) : Trm.frs A (l.take (i + 1)) = Trm.frs A (l.take i) + (l[i]).fr A := by
  rw [List.take_succ_eq_append_getElem h, Trm.frs_append, Trm.frs, Trm.frs]; omega
theorem Trm.cvs_get (A : Int → Bool) : ∀ (l : List Trm) (k : Int) (i : Nat) (h : i < l.length), (Trm.cvs A l k)[i]'(by rw [Trm.cvs_length]; exact h) = (l[i]).cv A (k + Trm.frs A (l.take i))
  | x :: l, k, 0, _ => by simp [Trm.cvs, Trm.frs]
  | x :: l, k, i + 1, h => by
    have ih := Trm.cvs_get A l (k + x.fr A) i (by simpa using h)
    simp only [Trm.cvs, List.getElem_cons_succ, List.take_succ_cons, Trm.frs]
    rw [ih]
    congr 1; omega
theorem lamN_bd (A : Int → Bool) (l : List Int) : 0 ≤ lamN A l ∧ lamN A l ≤ l.length := by
  unfold lamN
  have := List.length_filter_le A l
  omega
theorem Trm.fr_bd (A : Int → Bool) (t : Trm) : 0 ≤ t.fr A ∧ t.fr A ≤ t.bulk := by
  induction t using Trm.ind with
  | h t ih =>
    have key : ∀ l : List Trm, (∀ x ∈ l, 0 ≤ x.fr A ∧ x.fr A ≤ x.bulk) → 0 ≤ Trm.frs A l ∧ Trm.frs A l ≤ Trm.bulks l := by
      intro l
      induction l with
      | nil => intro _; rw [Trm.frs, Trm.bulks]; omega
      | cons y l ihl => intro h; rw [Trm.frs, Trm.bulks]; have := h y (by simp); have := ihl fun z hz => h z (by simp [hz]); omega
    have := key t.t ih
    have := lamN_bd A t.v
    rw [Trm.fr_eq, Trm.bulk_eq]
    split <;> omega
theorem Trm.frs_bd (A : Int → Bool) : ∀ l : List Trm, 0 ≤ Trm.frs A l ∧ Trm.frs A l ≤ Trm.bulks l
  | [] => by rw [Trm.frs, Trm.bulks]; omega
  | y :: l => by rw [Trm.frs, Trm.bulks]; have := y.fr_bd A; have := Trm.frs_bd A l; omega
theorem Trm.bulks_append : ∀ l m : List Trm, Trm.bulks (l ++ m) = Trm.bulks l + Trm.bulks m
  | [], m => by simp [Trm.bulks]
  | x :: l, m => by rw [List.cons_append, Trm.bulks, Trm.bulks, Trm.bulks_append l m]; omega
theorem lamV_len (A : Int → Bool) : ∀ (l : List Int) (k : Int), (lamV A l k).length = l.length
  | [], _ => rfl
  | v :: l, k => by rw [lamV]; split <;> rw [List.length_cons, List.length_cons, lamV_len A l]
theorem lamT_bulk (A : Int → Bool) : ∀ (l : List Int) (k : Int), Trm.bulks (lamT A l k) ≤ 2 * l.length
  | [], _ => by simp [lamT, Trm.bulks]
  | v :: l, k => by
    have := lamT_bulk A l k
    have := lamT_bulk A l (k + 1)
    rw [lamT, List.length_cons]
    split
    · simp only [Trm.bulks, boxT, refT, Trm.bulk, List.length_nil]; omega
    · omega
theorem boxT_bulk (t : Trm) : (boxT t).bulk = 1 + t.bulk := by rw [boxT, Trm.bulk, Trm.bulks, Trm.bulks]; simp
theorem boxAll_bulk (A : Int → Bool) : ∀ (vs : List Int) (l : List Trm), Trm.bulks (boxAll A vs l) ≤ vs.length + Trm.bulks l
  | [], l => by simp [boxAll]
  | _ :: _, [] => by simp [boxAll, Trm.bulks]
  | v :: vs, x :: l => by
    have := boxAll_bulk A vs l
    rw [boxAll, Trm.bulks, Trm.bulks, List.length_cons]
    split
    · rw [boxT_bulk]; omega
    · omega
theorem fix_bulk (A : Int → Bool) : ∀ (vs : List Int) (l : List Trm) (o : Trm), Trm.bulks (fixT A vs l) + (fixO A vs l o).bulk ≤ 3 * vs.length + Trm.bulks (l.take vs.length) + o.bulk
  | [], l, o => by simp [fixT, fixO, Trm.bulks]
  | v :: vs, [], o => by simp only [fixT, fixO, Trm.bulks, List.take_nil]; omega
  | v :: vs, x :: l, o => by
    have := fix_bulk A vs l o
    rw [fixT, fixO, List.length_cons, List.take_succ_cons, Trm.bulks]
    split
    · simp only [Trm.bulk, Trm.bulks, refT, List.length_nil]; omega
    · rw [Trm.bulks]; omega
theorem getD_bulk : ∀ (l : List Trm) (i : Nat), Trm.bulks (l.take i) + (l.getD i (refT 0)).bulk ≤ 1 + Trm.bulks l
  | [], _ => by simp [refT, Trm.bulk, Trm.bulks]
  | x :: l, 0 => by simp [Trm.bulks]; omega
  | x :: l, i + 1 => by
    have := getD_bulk l i
    rw [List.take_succ_cons, Trm.bulks, Trm.bulks]
    simp only [List.getD_cons_succ]
    omega
theorem boxes_bulk (l : List Int) : Trm.bulks (l.map fun _ => boxT (.mk 13 0 [] [])) = 2 * l.length := by
  induction l with
  | nil => rfl
  | cons v l ih => rw [List.map_cons, Trm.bulks, ih, boxT_bulk, Trm.bulk, Trm.bulks, List.length_cons, List.length_nil]; omega
theorem fixR_bulk (A : Int → Bool) (vs : List Int) (l : List Trm) : (fixR A vs l).bulk ≤ 4 + 7 * vs.length + Trm.bulks l := by
  have h1 := fix_bulk A vs l (l.getD vs.length (refT 0))
  have h2 := getD_bulk l vs.length
  have h4 := List.length_filter_le A vs
  have h5 := List.length_filter_le (fun v => !A v) vs
  have hE : (fixE A vs l).bulk ≤ 2 + 4 * vs.length + Trm.bulks l := by
    unfold fixE
    simp only
    split
    · omega
    · rw [Trm.bulk, Trm.bulks_append, Trm.bulks, Trm.bulks]; omega
  unfold fixR
  rw [Trm.bulk, Trm.bulks_append, boxes_bulk, Trm.bulks, Trm.bulks]
  omega
theorem Trm.cv_bulk (A : Int → Bool) (t : Trm) : ∀ k : Int, (t.cv A k).bulk ≤ 8 * t.bulk := by
  induction t using Trm.ind with
  | h t ih =>
    intro k
    have hb := t.bulk_eq
    have key : ∀ l : List Trm, (∀ x ∈ l, ∀ k : Int, (x.cv A k).bulk ≤ 8 * x.bulk) → ∀ k, Trm.bulks (Trm.cvs A l k) ≤ 8 * Trm.bulks l := by
      intro l
      induction l with
      | nil => intro _ k; rw [Trm.cvs, Trm.bulks]; omega
      | cons y l ihl => intro h k; rw [Trm.cvs, Trm.bulks, Trm.bulks]; have := h y (by simp) k; have := ihl (fun z hz => h z (by simp [hz])) (k + y.fr A); omega
    have hk := key t.t ih
    have h4 := List.length_filter_le A t.v
    rw [Trm.cv_eq]
    split
    · simp only [Trm.bulk, Trm.bulks, List.length_nil]; omega
    split
    · have := hk k; simp only [Trm.bulk, Trm.bulks, refT, List.length_nil]; omega
    split
    · have := hk k; simp only [Trm.bulk, Trm.bulks, refT, List.length_nil]; omega
    split
    · have := hk (k + lamN A t.v)
      have := lamV_len A t.v k
      have := lamT_bulk A t.v k
      split
      · simp only [Trm.bulk]; omega
      · simp only [Trm.bulk, Trm.bulks, Trm.bulks_append]; omega
    split
    · have := hk k; have := fixR_bulk A t.v (Trm.cvs A t.t k); omega
    · have := hk k
      have := boxAll_bulk A t.v (Trm.cvs A t.t k)
      split
      · simp only [Trm.bulk]; omega
      · simp only [Trm.bulk]; omega
end Go.Cb
namespace Go.Cb
open Go.Proofs
set_option maxRecDepth 100000
set_option maxHeartbeats 4000000
theorem made_c {x : PV} {l : List Trm} [h : SlOf Trm.pv 4 x l] (op : Int) : ACallP Tryz.prog 89 [.int .i64 op, x] (.agg (Trm.mk op 0 [] l).cells) := by
  refine ACall.wk (args' := [.int .i64 op, .sl 4 (l.map Trm.pv) none]) ?_ (.cons (Wk.refl _) (.cons h.wk .nil))
  refine ACall.of_body tt_ok Tryz.func89 rfl rfl (n := 8) rfl rfl ?_
  conv => whnf
  repeat ((first | ((first | (apply zY;intro hg) | apply zZ);first | exact stA | exact stB) | (refine zW ?_ ?_;exact gA) | refine zH rfl ?_ | refine zA ?_ | refine zI bA ?_ | refine zI rfl ?_ | refine zJ rfl rfl ?_ | refine zB ?_ | refine zK rfl ?_ | refine zL rfl ?_ | refine zC ?_ | (refine zO ?_ ?_ ?_;omega;omega) | (refine zP ?_ ?_ ?_;omega;omega) | refine zM rfl ?_ | (refine zQ ?_ ?_ ?_;omega;omega) | (refine zR ?_ ?_;omega) | (refine zI ?_ ?_;exact nA) | (refine zS ?_ ?_ ?_;omega;omega) | (refine zT ?_ ?_ ?_;omega;omega) | (refine zU ?_ ?_ ?_;omega;omega) | (refine zV ?_ ?_ ?_;omega;omega) | (refine yA ?_ rfl ?_ ?_;assumption;exact lA) | (refine yB ?_ rfl ?_ ?_;assumption;exact lA) | (refine yC rfl ?_ ?_;exact lA) | refine n0 ?_ | refine zN rfl rfl rfl ?_ | refine zD ?_ | refine zE ?_ | refine zF ?_ | intro _);conv=>whnf)
  exact PRet.pure wA
theorem ref_c (v : Int) : ACallP Tryz.prog 90 [.int .i64 v] (.agg (refT v).cells) := by
  refine ACall.of_body tt_ok Tryz.func90 rfl rfl (n := 5) rfl rfl ?_
  conv => whnf
  repeat ((first | ((first | (apply zY;intro hg) | apply zZ);first | exact stA | exact stB) | (refine zW ?_ ?_;exact gA) | refine zH rfl ?_ | refine zA ?_ | refine zI bA ?_ | refine zI rfl ?_ | refine zJ rfl rfl ?_ | refine zB ?_ | refine zK rfl ?_ | refine zL rfl ?_ | refine zC ?_ | (refine zO ?_ ?_ ?_;omega;omega) | (refine zP ?_ ?_ ?_;omega;omega) | refine zM rfl ?_ | (refine zQ ?_ ?_ ?_;omega;omega) | (refine zR ?_ ?_;omega) | (refine zI ?_ ?_;exact nA) | (refine zS ?_ ?_ ?_;omega;omega) | (refine zT ?_ ?_ ?_;omega;omega) | (refine zU ?_ ?_ ?_;omega;omega) | (refine zV ?_ ?_ ?_;omega;omega) | (refine yA ?_ rfl ?_ ?_;assumption;exact lA) | (refine yB ?_ rfl ?_ ?_;assumption;exact lA) | (refine yC rfl ?_ ?_;exact lA) | refine n0 ?_ | refine zN rfl rfl rfl ?_ | refine zD ?_ | refine zE ?_ | refine zF ?_ | intro _);conv=>whnf)
  exact PRet.pure wA
abbrev cvG (b r : Nat) (L : List Int) (k : Int) : List Ent := [.box b [.mp r, .int .i64 k], .mp r (.int .i64) (setM L) []]
theorem note_c (b r : Nat) (k : Int) (t : Trm) : ∀ (L : List Int), t.bulk ≤ 1000000000 → ACall Tryz.prog 54 [.ptr b 0, .agg t.cells] (cvG b r L k) (fun y Γ' => y = .tup [] ∧ ∃ L', (∀ x, x ∈ L' ↔ x ∈ L ∨ x ∈ t.asg) ∧ Γ' = cvG b r L' k) := by
  induction t using Trm.ind with
  | h t ih =>
    intro L hb
    have hbe := t.bulk_eq
    have hbs := Trm.bulks_length t.t
    have he := t.asg_eq
    refine ACall.of_body tt_ok Tryz.func54 rfl rfl (n := 31) rfl rfl ?_
    conv => whnf
    repeat ((first | ((first | (apply zY;intro hg) | apply zZ);first | exact stA | exact stB) | (refine zW ?_ ?_;exact gA) | refine zH rfl ?_ | refine zA ?_ | refine zI bA ?_ | refine zI rfl ?_ | refine zJ rfl rfl ?_ | refine zB ?_ | refine zK rfl ?_ | refine zL rfl ?_ | refine zC ?_ | (refine zO ?_ ?_ ?_;omega;omega) | (refine zP ?_ ?_ ?_;omega;omega) | refine zM rfl ?_ | (refine zQ ?_ ?_ ?_;omega;omega) | (refine zR ?_ ?_;omega) | (refine zI ?_ ?_;exact nA) | (refine zS ?_ ?_ ?_;omega;omega) | (refine zT ?_ ?_ ?_;omega;omega) | (refine zU ?_ ?_ ?_;omega;omega) | (refine zV ?_ ?_ ?_;omega;omega) | (refine yA ?_ rfl ?_ ?_;assumption;exact lA) | (refine yB ?_ rfl ?_ ?_;assumption;exact lA) | (refine yC rfl ?_ ?_;exact lA) | refine n0 ?_ | refine zN rfl rfl rfl ?_ | refine zD ?_ | refine zE ?_ | refine zF ?_ | refine PDraw.sP (some 14) rfl [] [6] tt_ok mixed ?_ | intro _);conv=>whnf)
    rename_i b1
    refine PSeq.join (fun _ => []) (fun L' => .box b1 [.int .i64 t.op, .int .i64 t.n, .sl 1 (t.v.map (PV.int .i64)) none, .sl 4 (t.t.map Trm.pv) none] :: cvG b r L' k) (fun L' => ∀ x, x ∈ L' ↔ x ∈ L ∨ x ∈ (if t.op = 2 ∨ t.op = 14 then [t.n] else [])) ?_ ?_
    · conv => whnf
      repeat' (first | ((first | ((first | (apply zY;intro hg) | apply zZ);first | exact stA | exact stB) | (refine zW ?_ ?_;exact gA) | refine zH rfl ?_ | refine zA ?_ | refine zI bA ?_ | refine zI rfl ?_ | refine zJ rfl rfl ?_ | refine zB ?_ | refine zK rfl ?_ | refine zL rfl ?_ | refine zC ?_ | (refine zO ?_ ?_ ?_;omega;omega) | (refine zP ?_ ?_ ?_;omega;omega) | refine zM rfl ?_ | (refine zQ ?_ ?_ ?_;omega;omega) | (refine zR ?_ ?_;omega) | (refine zI ?_ ?_;exact nA) | (refine zS ?_ ?_ ?_;omega;omega) | (refine zT ?_ ?_ ?_;omega;omega) | (refine zU ?_ ?_ ?_;omega;omega) | (refine zV ?_ ?_ ?_;omega;omega) | (refine yA ?_ rfl ?_ ?_;assumption;exact lA) | (refine yB ?_ rfl ?_ ?_;assumption;exact lA) | (refine yC rfl ?_ ?_;exact lA) | refine n0 ?_ | refine zN rfl rfl rfl ?_ | refine zD ?_ | refine zE ?_ | refine zF ?_ | refine PDraw.sP (some 14) rfl [] [6] tt_ok mixed ?_ | intro _ | refine zG ?_);conv=>whnf) | (refine zX (fun hc => ?_) (fun hc => ?_)<;>(try simp only [SY] at hc)<;>first | omega | (conv=>whnf)))
      · exact joinEnd (t.n :: L) (by intro x; rw [if_pos hc]; simp [or_comm]) wA
      · exact joinEnd L (by intro x; rw [if_neg (by omega)]; simp) wA
    · intro L1 hL1
      conv => whnf
      repeat ((first | ((first | (apply zY;intro hg) | apply zZ);first | exact stA | exact stB) | (refine zW ?_ ?_;exact gA) | refine zH rfl ?_ | refine zA ?_ | refine zI bA ?_ | refine zI rfl ?_ | refine zJ rfl rfl ?_ | refine zB ?_ | refine zK rfl ?_ | refine zL rfl ?_ | refine zC ?_ | (refine zO ?_ ?_ ?_;omega;omega) | (refine zP ?_ ?_ ?_;omega;omega) | refine zM rfl ?_ | (refine zQ ?_ ?_ ?_;omega;omega) | (refine zR ?_ ?_;omega) | (refine zI ?_ ?_;exact nA) | (refine zS ?_ ?_ ?_;omega;omega) | (refine zT ?_ ?_ ?_;omega;omega) | (refine zU ?_ ?_ ?_;omega;omega) | (refine zV ?_ ?_ ?_;omega;omega) | (refine yA ?_ rfl ?_ ?_;assumption;exact lA) | (refine yB ?_ rfl ?_ ?_;assumption;exact lA) | (refine yC rfl ?_ ?_;exact lA) | refine n0 ?_ | refine zN rfl rfl rfl ?_ | refine zD ?_ | refine zE ?_ | refine zF ?_ | refine PDraw.sP (some 14) rfl [] [6] tt_ok mixed ?_ | intro _);conv=>whnf)
      refine PLoop.over [5, 23, 24, 25, 26, 27, 28, 29, 30] (fun x : Nat × List Int => [(23, .int .i64 x.1)]) (fun x : Nat × List Int => .box b1 [.int .i64 t.op, .int .i64 t.n, .sl 1 (t.v.map (PV.int .i64)) none, .sl 4 (t.t.map Trm.pv) none] :: cvG b r x.2 k)
        (fun x => x.1 ≤ t.t.length ∧ ∀ y, y ∈ x.2 ↔ y ∈ L1 ∨ y ∈ Trm.asgs (t.t.take x.1)) (fun x => t.t.length - x.1) (0, L1) ⟨Nat.zero_le _, by simp [Trm.asgs]⟩ wA ?_
      rintro ⟨i, L2⟩ ⟨hi, hL2⟩
      dsimp only at hi hL2 ⊢
      conv => whnf
      repeat' (first | ((first | ((first | (apply zY;intro hg) | apply zZ);first | exact stA | exact stB) | (refine zW ?_ ?_;exact gA) | refine zH rfl ?_ | refine zA ?_ | refine zI bA ?_ | refine zI rfl ?_ | refine zJ rfl rfl ?_ | refine zB ?_ | refine zK rfl ?_ | refine zL rfl ?_ | refine zC ?_ | (refine zO ?_ ?_ ?_;omega;omega) | (refine zP ?_ ?_ ?_;omega;omega) | refine zM rfl ?_ | (refine zQ ?_ ?_ ?_;omega;omega) | (refine zR ?_ ?_;omega) | (refine zI ?_ ?_;exact nA) | (refine zS ?_ ?_ ?_;omega;omega) | (refine zT ?_ ?_ ?_;omega;omega) | (refine zU ?_ ?_ ?_;omega;omega) | (refine zV ?_ ?_ ?_;omega;omega) | (refine yA ?_ rfl ?_ ?_;assumption;exact lA) | (refine yB ?_ rfl ?_ ?_;assumption;exact lA) | (refine yC rfl ?_ ?_;exact lA) | refine n0 ?_ | refine zN rfl rfl rfl ?_ | refine zD ?_ | refine zE ?_ | refine zF ?_ | refine PDraw.sP (some 14) rfl [] [6] tt_ok mixed ?_ | intro _ | refine zG ?_);conv=>whnf) | (refine zX (fun hc => ?_) (fun hc => ?_)<;>(try simp only [SY] at hc)<;>first | omega | (conv=>whnf)))
      · have hlt : i < t.t.length := by omega
        refine PCall.go (ih _ (List.getElem_mem hlt) L2 (by have := Trm.bulks_mem (List.getElem_mem hlt); omega)) (WkT.refl _) ?_
        rintro _ _ ⟨rfl, L3, hL3, rfl⟩
        conv => whnf
        repeat' (first | ((first | ((first | (apply zY;intro hg) | apply zZ);first | exact stA | exact stB) | (refine zW ?_ ?_;exact gA) | refine zH rfl ?_ | refine zA ?_ | refine zI bA ?_ | refine zI rfl ?_ | refine zJ rfl rfl ?_ | refine zB ?_ | refine zK rfl ?_ | refine zL rfl ?_ | refine zC ?_ | (refine zO ?_ ?_ ?_;omega;omega) | (refine zP ?_ ?_ ?_;omega;omega) | refine zM rfl ?_ | (refine zQ ?_ ?_ ?_;omega;omega) | (refine zR ?_ ?_;omega) | (refine zI ?_ ?_;exact nA) | (refine zS ?_ ?_ ?_;omega;omega) | (refine zT ?_ ?_ ?_;omega;omega) | (refine zU ?_ ?_ ?_;omega;omega) | (refine zV ?_ ?_ ?_;omega;omega) | (refine yA ?_ rfl ?_ ?_;assumption;exact lA) | (refine yB ?_ rfl ?_ ?_;assumption;exact lA) | (refine yC rfl ?_ ?_;exact lA) | refine n0 ?_ | refine zN rfl rfl rfl ?_ | refine zD ?_ | refine zE ?_ | refine zF ?_ | refine PDraw.sP (some 14) rfl [] [6] tt_ok mixed ?_ | intro _ | refine zG ?_);conv=>whnf) | (refine zX (fun hc => ?_) (fun hc => ?_)<;>(try simp only [SY] at hc)<;>first | omega | (conv=>whnf)))
        refine loopTo (i + 1, L3) ⟨by show i + 1 ≤ _; omega, fun y => ?_⟩ (by show t.t.length - (i + 1) < t.t.length - i; omega) wA
        rw [hL3, hL2, List.take_succ_eq_append_getElem hlt, Trm.asgs_flat, Trm.asgs_flat, List.flatMap_append, List.mem_append, or_assoc]
        simp
      · rw [List.take_of_length_le (by omega)] at hL2
        refine PRet.gen (Γ' := cvG b r L2 k) (Wk.refl _) ⟨rfl, L2, fun y => ?_, rfl⟩
        rw [hL2, hL1, he, List.mem_append, or_assoc]
def CvOk (b r : Nat) (L : List Int) (x : Trm) : Prop := ∀ k : Int, 0 ≤ k → k + x.bulk ≤ 1000000000000000 →
  ACall Tryz.prog 56 [.ptr b 0, .agg x.cells] (cvG b r L k) (fun y Γ' => y = .agg (x.cv L.contains k).cells ∧ Γ' = cvG b r L (k + x.fr L.contains))
theorem asgAll_c (b r : Nat) (L : List Int) (l : List Trm) (k : Int) (hf : ∀ x ∈ l, CvOk b r L x) (h0 : 0 ≤ k) (hk : k + Trm.bulks l ≤ 1000000000000000) (hl : l.length ≤ 1000000000) :
    ACall Tryz.prog 96 [.sl 4 (l.map Trm.pv) none, .fm 56 (.ptr b 0)] (cvG b r L k)
      (fun y Γ' => ∃ tk : Tok, tk.e = 26 ∧ tk.s = 4 ∧ y = .ms tk ∧ Γ' = .row tk ((Trm.cvs L.contains l k).map Trm.pv) :: cvG b r L (k + Trm.frs L.contains l)) := by
  refine ACall.of_body tt_ok Tryz.func96 rfl rfl (n := 22) rfl rfl ?_
  conv => whnf
  repeat ((first | ((first | (apply zY;intro hg) | apply zZ);first | exact stA | exact stB) | (refine zW ?_ ?_;exact gA) | refine zH rfl ?_ | refine zA ?_ | refine zI bA ?_ | refine zI rfl ?_ | refine zJ rfl rfl ?_ | refine zB ?_ | refine zK rfl ?_ | refine zL rfl ?_ | refine zC ?_ | (refine zO ?_ ?_ ?_;omega;omega) | (refine zP ?_ ?_ ?_;omega;omega) | refine zM rfl ?_ | (refine zQ ?_ ?_ ?_;omega;omega) | (refine zR ?_ ?_;omega) | (refine zI ?_ ?_;exact nA) | (refine zS ?_ ?_ ?_;omega;omega) | (refine zT ?_ ?_ ?_;omega;omega) | (refine zU ?_ ?_ ?_;omega;omega) | (refine zV ?_ ?_ ?_;omega;omega) | (refine yA ?_ rfl ?_ ?_;assumption;exact lA) | (refine yB ?_ rfl ?_ ?_;assumption;exact lA) | (refine yC rfl ?_ ?_;exact lA) | refine n0 ?_ | refine zN rfl rfl rfl ?_ | refine zD ?_ | refine zE ?_ | refine zF ?_ | intro _);conv=>whnf)
  refine PLoop.enter [5, 7, 10, 11, 12, 13, 14, 15, 16, 17, 18, 19, 20] (fun x : Nat × List Trm × Tok => [(5, .ms x.2.2), (10, .int .i64 x.1)]) (fun x : Nat × List Trm × Tok => .row x.2.2 (x.2.1.map Trm.pv) :: cvG b r L (k + Trm.frs L.contains (l.take x.1)))
    (fun x => x.1 ≤ l.length ∧ (x.2.2.e = 26 ∧ x.2.2.s = 4) ∧ x.2.1 = (Trm.cvs L.contains l k).take x.1) (fun x => l.length - x.1) (0, [], nilTok 4 26) ⟨Nat.zero_le _, ⟨rfl, rfl⟩, rfl⟩
    (by (repeat' (first | exact trivial | exact Wk.refl _ | (refine And.intro ?_ ?_) | exact Wk.nilRow _ _ | exact Wk.any _))) (by simpa [Trm.frs] using Ghost.nilRow 4 26 _) ?_
  rintro ⟨i, m, tk⟩ ⟨hi, ⟨hte, hts⟩, hm⟩
  dsimp only at hi hte hts hm ⊢
  have hlen := Trm.cvs_length L.contains l k
  have hfb := Trm.frs_bd L.contains (l.take i)
  have hml : m.length ≤ 1000000000 := by rw [hm, List.length_take]; omega
  conv => whnf
  repeat' (first | ((first | ((first | (apply zY;intro hg) | apply zZ);first | exact stA | exact stB) | (refine zW ?_ ?_;exact gA) | refine zH rfl ?_ | refine zA ?_ | refine zI bA ?_ | refine zI rfl ?_ | refine zJ rfl rfl ?_ | refine zB ?_ | refine zK rfl ?_ | refine zL rfl ?_ | refine zC ?_ | (refine zO ?_ ?_ ?_;omega;omega) | (refine zP ?_ ?_ ?_;omega;omega) | refine zM rfl ?_ | (refine zQ ?_ ?_ ?_;omega;omega) | (refine zR ?_ ?_;omega) | (refine zI ?_ ?_;exact nA) | (refine zS ?_ ?_ ?_;omega;omega) | (refine zT ?_ ?_ ?_;omega;omega) | (refine zU ?_ ?_ ?_;omega;omega) | (refine zV ?_ ?_ ?_;omega;omega) | (refine yA ?_ rfl ?_ ?_;assumption;exact lA) | (refine yB ?_ rfl ?_ ?_;assumption;exact lA) | (refine yC rfl ?_ ?_;exact lA) | refine n0 ?_ | refine zN rfl rfl rfl ?_ | refine zD ?_ | refine zE ?_ | refine zF ?_ | intro _ | refine zG ?_);conv=>whnf) | (refine zX (fun hc => ?_) (fun hc => ?_)<;>(try simp only [SY] at hc)<;>first | omega | (conv=>whnf)))
  · have hlt : i < l.length := by omega
    have hbt : Trm.bulks (l.take i) + (l[i]).bulk ≤ Trm.bulks l := by
      have h1 : l.take (i + 1) ++ l.drop (i + 1) = l := List.take_append_drop _ _
      have h2 := congrArg Trm.bulks h1
      rw [List.take_succ_eq_append_getElem hlt, Trm.bulks_append, Trm.bulks_append, Trm.bulks, Trm.bulks] at h2
      omega
    refine PCall.go (hf _ (List.getElem_mem hlt) (k + Trm.frs L.contains (l.take i)) (by omega) (by omega)) (WkT.refl _) ?_
    rintro _ _ ⟨rfl, rfl⟩
    conv => whnf
    repeat' (first | ((first | ((first | (apply zY;intro hg) | apply zZ);first | exact stA | exact stB) | (refine zW ?_ ?_;exact gA) | refine zH rfl ?_ | refine zA ?_ | refine zI bA ?_ | refine zI rfl ?_ | refine zJ rfl rfl ?_ | refine zB ?_ | refine zK rfl ?_ | refine zL rfl ?_ | refine zC ?_ | (refine zO ?_ ?_ ?_;omega;omega) | (refine zP ?_ ?_ ?_;omega;omega) | refine zM rfl ?_ | (refine zQ ?_ ?_ ?_;omega;omega) | (refine zR ?_ ?_;omega) | (refine zI ?_ ?_;exact nA) | (refine zS ?_ ?_ ?_;omega;omega) | (refine zT ?_ ?_ ?_;omega;omega) | (refine zU ?_ ?_ ?_;omega;omega) | (refine zV ?_ ?_ ?_;omega;omega) | (refine yA ?_ rfl ?_ ?_;assumption;exact lA) | (refine yB ?_ rfl ?_ ?_;assumption;exact lA) | (refine yC rfl ?_ ?_;exact lA) | refine n0 ?_ | refine zN rfl rfl rfl ?_ | refine zD ?_ | refine zE ?_ | refine zF ?_ | intro _ | refine zG ?_);conv=>whnf) | (refine zX (fun hc => ?_) (fun hc => ?_)<;>(try simp only [SY] at hc)<;>first | omega | (conv=>whnf)))
    refine yD hte hts rfl (by simp; omega) ?_
    intro t2 ht2 hs2
    conv => whnf
    repeat' (first | ((first | ((first | (apply zY;intro hg) | apply zZ);first | exact stA | exact stB) | (refine zW ?_ ?_;exact gA) | refine zH rfl ?_ | refine zA ?_ | refine zI bA ?_ | refine zI rfl ?_ | refine zJ rfl rfl ?_ | refine zB ?_ | refine zK rfl ?_ | refine zL rfl ?_ | refine zC ?_ | (refine zO ?_ ?_ ?_;omega;omega) | (refine zP ?_ ?_ ?_;omega;omega) | refine zM rfl ?_ | (refine zQ ?_ ?_ ?_;omega;omega) | (refine zR ?_ ?_;omega) | (refine zI ?_ ?_;exact nA) | (refine zS ?_ ?_ ?_;omega;omega) | (refine zT ?_ ?_ ?_;omega;omega) | (refine zU ?_ ?_ ?_;omega;omega) | (refine zV ?_ ?_ ?_;omega;omega) | (refine yA ?_ rfl ?_ ?_;assumption;exact lA) | (refine yB ?_ rfl ?_ ?_;assumption;exact lA) | (refine yC rfl ?_ ?_;exact lA) | refine n0 ?_ | refine zN rfl rfl rfl ?_ | refine zD ?_ | refine zE ?_ | refine zF ?_ | intro _ | refine zG ?_);conv=>whnf) | (refine zX (fun hc => ?_) (fun hc => ?_)<;>(try simp only [SY] at hc)<;>first | omega | (conv=>whnf)))
    have e : k + Trm.frs L.contains (l.take i) + (l[i]).fr L.contains = k + Trm.frs L.contains (l.take (i + 1)) := by rw [Trm.frs_take _ hlt]; omega
    rw [e]
    refine loopTo (i + 1, m ++ [(l[i]).cv L.contains (k + Trm.frs L.contains (l.take i))], t2) ⟨by show i + 1 ≤ _; omega, ⟨ht2, hs2⟩, ?_⟩ (by show l.length - (i + 1) < l.length - i; omega) wA
    show m ++ [_] = (Trm.cvs L.contains l k).take (i + 1)
    rw [List.take_succ_eq_append_getElem (by omega), ← hm, Trm.cvs_get _ _ _ _ hlt]
  · have e : m = Trm.cvs L.contains l k := by rw [hm, List.take_of_length_le (by omega)]
    subst e
    rw [List.take_of_length_le (by omega)]
    exact PRet.gen (Γ' := .row tk ((Trm.cvs L.contains l k).map Trm.pv) :: cvG b r L (k + Trm.frs L.contains l)) (Wk.refl _) ⟨tk, hte, hts, rfl, rfl⟩
theorem assignedF_c (b r b2 : Nat) (L : List Int) (k v : Int) : ACall Tryz.prog 93 [.int .i64 v, .ptr b2 0] (.box b2 [.ptr b 0] :: cvG b r L k) (fun y Γ' => y = .bool (L.contains v) ∧ Γ' = .box b2 [.ptr b 0] :: cvG b r L k) := by
  refine ACall.of_body tt_ok Tryz.func93 rfl rfl (n := 10) rfl rfl ?_
  conv => whnf
  repeat ((first | ((first | (apply zY;intro hg) | apply zZ);first | exact stA | exact stB) | (refine zW ?_ ?_;exact gA) | refine zH rfl ?_ | refine zA ?_ | refine zI bA ?_ | refine zI rfl ?_ | refine zJ rfl rfl ?_ | refine zB ?_ | refine zK rfl ?_ | refine zL rfl ?_ | refine zC ?_ | (refine zO ?_ ?_ ?_;omega;omega) | (refine zP ?_ ?_ ?_;omega;omega) | refine zM rfl ?_ | (refine zQ ?_ ?_ ?_;omega;omega) | (refine zR ?_ ?_;omega) | (refine zI ?_ ?_;exact nA) | (refine zS ?_ ?_ ?_;omega;omega) | (refine zT ?_ ?_ ?_;omega;omega) | (refine zU ?_ ?_ ?_;omega;omega) | (refine zV ?_ ?_ ?_;omega;omega) | (refine yA ?_ rfl ?_ ?_;assumption;exact lA) | (refine yB ?_ rfl ?_ ?_;assumption;exact lA) | (refine yC rfl ?_ ?_;exact lA) | refine n0 ?_ | refine zN rfl rfl rfl ?_ | refine zD ?_ | refine zE ?_ | refine zF ?_ | intro _);conv=>whnf)
  exact PRet.gen (Wk.refl _) ⟨rfl, rfl⟩
theorem asgAllF_c (b r : Nat) (L : List Int) (l : List Trm) (k : Int) (hf : ∀ x ∈ l, CvOk b r L x) (h0 : 0 ≤ k) (hk : k + Trm.bulks l ≤ 1000000000000000) (hl : l.length ≤ 1000000000) :
    ACall Tryz.prog 96 [.sl 4 (l.map Trm.pv) none, .fm 56 (.ptr b 0)] (cvG b r L k)
      (fun y Γ' => y = .sl 4 ((Trm.cvs L.contains l k).map Trm.pv) none ∧ Γ' = cvG b r L (k + Trm.frs L.contains l)) :=
  (asgAll_c b r L l k hf h0 hk hl).shift fun y Γ' h => by
    obtain ⟨tk, _, hs, rfl, rfl⟩ := h
    exact ⟨_, _, Shift.trans (Shift.freezeRow (hp := ⟨List.Perm.refl _⟩) (WkF.ms' hs)) (Shift.wk (Wk.refl _) (Γ1 := [.tok tk]) (List.perm_append_singleton _ _).symm), rfl, rfl⟩
end Go.Cb
namespace Go.Cb
open Go.Proofs
set_option maxRecDepth 100000
set_option maxHeartbeats 4000000
mutual
def Trm.alk : Trm → Trm → Bool
  | .mk op n v t, .mk op' n' v' t' => op == op' && n == n' && v == v' && Trm.alks t t'
def Trm.alks : List Trm → List Trm → Bool
  | [], [] => true
  | x :: xs, y :: ys => Trm.alk x y && Trm.alks xs ys
  | _, _ => false
end
theorem Trm.alk_eq (a b : Trm) : a.alk b = (a.op == b.op && a.n == b.n && a.v == b.v && Trm.alks a.t b.t) := by cases a; cases b; rw [Trm.alk]; rfl
theorem Trm.alks_len : ∀ {l m : List Trm}, Trm.alks l m = true → l.length = m.length
  | [], [], _ => rfl
  | x :: l, y :: m, h => by rw [Trm.alks, Bool.and_eq_true] at h; rw [List.length_cons, List.length_cons, Trm.alks_len h.2]
  | [], _ :: _, h => by simp [Trm.alks] at h
  | _ :: _, [], h => by simp [Trm.alks] at h
theorem take_snoc {l m : List Int} {i : Nat} (h : l.take i = m.take i) (hl : i < l.length) (hm : i < m.length) (e : l[i] = m[i]) : l.take (i + 1) = m.take (i + 1) := by
  rw [List.take_succ_eq_append_getElem hl, List.take_succ_eq_append_getElem hm, h, e]
theorem alike_c (a : Trm) : ∀ b : Trm, ACallP Tryz.prog 61 [.agg a.cells, .agg b.cells] (.bool (a.alk b)) := by
  induction a using Trm.ind with
  | h a ih =>
    intro b
    have he := a.alk_eq b
    refine ACall.of_body tt_ok Tryz.func61 rfl rfl (n := 74) rfl rfl ?_
    conv => whnf
    repeat ((first | ((first | (apply zY;intro hg) | apply zZ);first | exact stA | exact stB) | (refine zW ?_ ?_;exact gA) | refine zH rfl ?_ | refine zA ?_ | refine zI bA ?_ | refine zI rfl ?_ | refine zJ rfl rfl ?_ | refine zB ?_ | refine zK rfl ?_ | refine zL rfl ?_ | refine zC ?_ | (refine zO ?_ ?_ ?_;omega;omega) | (refine zP ?_ ?_ ?_;omega;omega) | refine zM rfl ?_ | (refine zQ ?_ ?_ ?_;omega;omega) | (refine zR ?_ ?_;omega) | (refine zI ?_ ?_;exact nA) | (refine zS ?_ ?_ ?_;omega;omega) | (refine zT ?_ ?_ ?_;omega;omega) | (refine zU ?_ ?_ ?_;omega;omega) | (refine zV ?_ ?_ ?_;omega;omega) | (refine yA ?_ rfl ?_ ?_;assumption;exact lA) | (refine yB ?_ rfl ?_ ?_;assumption;exact lA) | (refine yC rfl ?_ ?_;exact lA) | refine n0 ?_ | refine zN rfl rfl rfl ?_ | refine zD ?_ | refine zE ?_ | refine zF ?_ | refine PDraw.sP (some 44) rfl [] [] tt_ok mixed ?_ | refine PDraw.sP (some 62) rfl [] [] tt_ok mixed ?_ | intro _);conv=>whnf)
    conv => whnf
    repeat' (first | ((first | ((first | (apply zY;intro hg) | apply zZ);first | exact stA | exact stB) | (refine zW ?_ ?_;exact gA) | refine zH rfl ?_ | refine zA ?_ | refine zI bA ?_ | refine zI rfl ?_ | refine zJ rfl rfl ?_ | refine zB ?_ | refine zK rfl ?_ | refine zL rfl ?_ | refine zC ?_ | (refine zO ?_ ?_ ?_;omega;omega) | (refine zP ?_ ?_ ?_;omega;omega) | refine zM rfl ?_ | (refine zQ ?_ ?_ ?_;omega;omega) | (refine zR ?_ ?_;omega) | (refine zI ?_ ?_;exact nA) | (refine zS ?_ ?_ ?_;omega;omega) | (refine zT ?_ ?_ ?_;omega;omega) | (refine zU ?_ ?_ ?_;omega;omega) | (refine zV ?_ ?_ ?_;omega;omega) | (refine yA ?_ rfl ?_ ?_;assumption;exact lA) | (refine yB ?_ rfl ?_ ?_;assumption;exact lA) | (refine yC rfl ?_ ?_;exact lA) | refine n0 ?_ | refine zN rfl rfl rfl ?_ | refine zD ?_ | refine zE ?_ | refine zF ?_ | refine PDraw.sP (some 44) rfl [] [] tt_ok mixed ?_ | refine PDraw.sP (some 62) rfl [] [] tt_ok mixed ?_ | intro _ | refine zG ?_);conv=>whnf) | (refine zX (fun hc => ?_) (fun hc => ?_)<;>(try simp only [SY] at hc)<;>first | omega | (conv=>whnf)))
    · exact PRet.pure (Wk.ff (by
        rw [he, Bool.eq_false_iff]
        intro h
        simp only [Bool.and_eq_true, beq_iff_eq] at h
        obtain ⟨⟨⟨h1, h2⟩, h3⟩, h4⟩ := h
        have h5 := Trm.alks_len h4
        simp only [h1, h2, h3, h5, not_true_eq_false, or_self] at hc))
    have h0 := hc
    refine PLoop.keep [4, 5, 37, 38, 39, 40, 41, 42, 43, 44, 45, 46, 47, 48, 49, 50, 51, 52, 53, 54] (fun i : Nat => [(5, .int .i64 i)]) (fun i => i ≤ a.v.length ∧ a.v.take i = b.v.take i) (fun i => a.v.length - i) 0 ⟨Nat.zero_le _, by simp⟩ wA ?_
    rintro i ⟨hi, hm⟩
    conv => whnf
    repeat' (first | ((first | ((first | (apply zY;intro hg) | apply zZ);first | exact stA | exact stB) | (refine zW ?_ ?_;exact gA) | refine zH rfl ?_ | refine zA ?_ | refine zI bA ?_ | refine zI rfl ?_ | refine zJ rfl rfl ?_ | refine zB ?_ | refine zK rfl ?_ | refine zL rfl ?_ | refine zC ?_ | (refine zO ?_ ?_ ?_;omega;omega) | (refine zP ?_ ?_ ?_;omega;omega) | refine zM rfl ?_ | (refine zQ ?_ ?_ ?_;omega;omega) | (refine zR ?_ ?_;omega) | (refine zI ?_ ?_;exact nA) | (refine zS ?_ ?_ ?_;omega;omega) | (refine zT ?_ ?_ ?_;omega;omega) | (refine zU ?_ ?_ ?_;omega;omega) | (refine zV ?_ ?_ ?_;omega;omega) | (refine yA ?_ rfl ?_ ?_;assumption;exact lA) | (refine yB ?_ rfl ?_ ?_;assumption;exact lA) | (refine yC rfl ?_ ?_;exact lA) | refine n0 ?_ | refine zN rfl rfl rfl ?_ | refine zD ?_ | refine zE ?_ | refine zF ?_ | refine PDraw.sP (some 44) rfl [] [] tt_ok mixed ?_ | refine PDraw.sP (some 62) rfl [] [] tt_ok mixed ?_ | intro _ | refine zG ?_);conv=>whnf) | (refine zX (fun hc => ?_) (fun hc => ?_)<;>(try simp only [SY] at hc)<;>first | omega | (conv=>whnf)))
    · have ha : i < a.v.length := by omega
      have hb : i < b.v.length := by omega
      exact PRet.pure (Wk.ff (by
        rw [he, Bool.eq_false_iff]
        intro h
        simp only [Bool.and_eq_true, beq_iff_eq] at h
        apply hc
        simp only [h.1.2]))
    · exact loopTo (i + 1) ⟨by omega, take_snoc hm (by omega) (by omega) hc⟩ (by show a.v.length - (i + 1) < a.v.length - i; omega) wA
    have hv : a.v = b.v := by rw [List.take_of_length_le (by omega), List.take_of_length_le (by omega)] at hm; exact hm
    have he2 : a.alk b = Trm.alks a.t b.t := by rw [he, h0.1.1.1, h0.1.1.2, hv]; simp
    rw [he2]
    refine PLoop.keep [4, 6, 55, 56, 57, 58, 59, 60, 61, 62, 63, 64, 65, 66, 67, 68, 69, 70, 71, 72, 73] (fun i : Nat => [(6, .int .i64 i)]) (fun i => i ≤ a.t.length ∧ Trm.alks (a.t.drop i) (b.t.drop i) = Trm.alks a.t b.t) (fun i => a.t.length - i) 0 ⟨Nat.zero_le _, rfl⟩ wA ?_
    rintro j ⟨hj, hm⟩
    conv => whnf
    repeat' (first | ((first | ((first | (apply zY;intro hg) | apply zZ);focus ((conv=>whnf);(repeat ((first | (refine zW ?_ ?_;exact gA) | refine zH rfl ?_ | refine zA ?_ | refine zI bA ?_ | refine zI rfl ?_ | refine zJ rfl rfl ?_ | refine zB ?_ | refine zK rfl ?_ | refine zL rfl ?_ | refine zC ?_ | (refine zO ?_ ?_ ?_;exact OA;exact OA) | (refine zP ?_ ?_ ?_;exact OA;exact OA) | refine zM rfl ?_ | (refine zQ ?_ ?_ ?_;exact OA;exact OA) | (refine zR ?_ ?_;exact OA) | (refine zI ?_ ?_;exact NA) | (refine zS ?_ ?_ ?_;exact OA;exact OA) | (refine zT ?_ ?_ ?_;exact OA;exact OA) | (refine zU ?_ ?_ ?_;exact OA;exact OA) | (refine zV ?_ ?_ ?_;exact OA;exact OA) | refine PCall.pure (ih _ (List.getElem_mem _) _) (WkT.refl _) ?_ | refine PCall.pure (ih _ (List.getElem_mem _) _) cA ?_ | intro _);conv=>whnf));first | exact PShift.same | exact PShift.lit | exact PShift.ep)) | ((first | (apply zY;intro hg) | apply zZ);exact stB) | (refine zW ?_ ?_;exact gA) | refine zH rfl ?_ | refine zA ?_ | refine zI bA ?_ | refine zI rfl ?_ | refine zJ rfl rfl ?_ | refine zB ?_ | refine zK rfl ?_ | refine zL rfl ?_ | refine zC ?_ | (refine zO ?_ ?_ ?_;omega;omega) | (refine zP ?_ ?_ ?_;omega;omega) | refine zM rfl ?_ | (refine zQ ?_ ?_ ?_;omega;omega) | (refine zR ?_ ?_;omega) | (refine zI ?_ ?_;exact nA) | (refine zS ?_ ?_ ?_;omega;omega) | (refine zT ?_ ?_ ?_;omega;omega) | (refine zU ?_ ?_ ?_;omega;omega) | (refine zV ?_ ?_ ?_;omega;omega) | refine PCall.pure (ih _ (List.getElem_mem _) _) (WkT.refl _) ?_ | refine PCall.pure (ih _ (List.getElem_mem _) _) cA ?_ | (refine yA ?_ rfl ?_ ?_;assumption;exact lA) | (refine yB ?_ rfl ?_ ?_;assumption;exact lA) | (refine yC rfl ?_ ?_;exact lA) | refine n0 ?_ | refine zN rfl rfl rfl ?_ | refine zD ?_ | refine zE ?_ | refine zF ?_ | refine PDraw.sP (some 44) rfl [] [] tt_ok mixed ?_ | refine PDraw.sP (some 62) rfl [] [] tt_ok mixed ?_ | intro _ | refine zG ?_);conv=>whnf) | (refine zX (fun hc => ?_) (fun hc => ?_)<;>(try simp only [SY] at hc)<;>first | omega | (conv=>whnf)))
    · rw [drop_at (show j < a.t.length by omega), drop_at (show j < b.t.length by omega), Trm.alks, hc, Bool.false_and] at hm
      exact PRet.pure (Wk.ff hm.symm)
    · rw [drop_at (show j < a.t.length by omega), drop_at (show j < b.t.length by omega), Trm.alks, hc, Bool.true_and] at hm
      exact loopTo (j + 1) ⟨by omega, hm⟩ (by show a.t.length - (j + 1) < a.t.length - j; omega) wA
    · rw [List.drop_of_length_le (by omega), List.drop_of_length_le (by omega), Trm.alks] at hm
      exact PRet.pure (Wk.tt hm.symm)
mutual
def Datum.alk : Datum → Datum → Bool
  | .mk k n d s l, .mk k' n' d' s' l' => k == k' && n == n' && d == d' && s == s' && Datum.alks l l'
def Datum.alks : List Datum → List Datum → Bool
  | [], [] => true
  | x :: xs, y :: ys => Datum.alk x y && Datum.alks xs ys
  | _, _ => false
end
theorem Datum.alk_eq (a b : Datum) : a.alk b = (a.kind == b.kind && a.n == b.n && a.d == b.d && a.s == b.s && Datum.alks a.l b.l) := by cases a; cases b; rw [Datum.alk]; rfl
theorem Datum.alks_len : ∀ {l m : List Datum}, Datum.alks l m = true → l.length = m.length
  | [], [], _ => rfl
  | x :: l, y :: m, h => by rw [Datum.alks, Bool.and_eq_true] at h; rw [List.length_cons, List.length_cons, Datum.alks_len h.2]
  | [], _ :: _, h => by simp [Datum.alks] at h
  | _ :: _, [], h => by simp [Datum.alks] at h
theorem dalike_c (a : Datum) : ∀ b : Datum, ACallP Tryz.prog 105 [.agg a.cells, .agg b.cells] (.bool (a.alk b)) := by
  induction a using Datum.ind with
  | h a ih =>
    intro b
    have he := a.alk_eq b
    refine ACall.of_body tt_ok Tryz.func105 rfl rfl (n := 60) rfl rfl ?_
    conv => whnf
    repeat ((first | ((first | (apply zY;intro hg) | apply zZ);focus ((conv=>whnf);(repeat ((first | (refine zW ?_ ?_;exact gA) | refine zH rfl ?_ | refine zA ?_ | refine zI bA ?_ | refine zI rfl ?_ | refine zJ rfl rfl ?_ | refine zB ?_ | refine zK rfl ?_ | refine zL rfl ?_ | refine zC ?_ | (refine zO ?_ ?_ ?_;exact OA;exact OA) | (refine zP ?_ ?_ ?_;exact OA;exact OA) | refine zM rfl ?_ | (refine zQ ?_ ?_ ?_;exact OA;exact OA) | (refine zR ?_ ?_;exact OA) | (refine zI ?_ ?_;exact NA) | (refine zS ?_ ?_ ?_;exact OA;exact OA) | (refine zT ?_ ?_ ?_;exact OA;exact OA) | (refine zU ?_ ?_ ?_;exact OA;exact OA) | (refine zV ?_ ?_ ?_;exact OA;exact OA) | refine PCall.pure (ih _ (List.getElem_mem _) _) (WkT.refl _) ?_ | refine PCall.pure (ih _ (List.getElem_mem _) _) cA ?_ | intro _);conv=>whnf));first | exact PShift.same | exact PShift.lit | exact PShift.ep)) | ((first | (apply zY;intro hg) | apply zZ);exact stB) | (refine zW ?_ ?_;exact gA) | refine zH rfl ?_ | refine zA ?_ | refine zI bA ?_ | refine zI rfl ?_ | refine zJ rfl rfl ?_ | refine zB ?_ | refine zK rfl ?_ | refine zL rfl ?_ | refine zC ?_ | (refine zO ?_ ?_ ?_;omega;omega) | (refine zP ?_ ?_ ?_;omega;omega) | refine zM rfl ?_ | (refine zQ ?_ ?_ ?_;omega;omega) | (refine zR ?_ ?_;omega) | (refine zI ?_ ?_;exact nA) | (refine zS ?_ ?_ ?_;omega;omega) | (refine zT ?_ ?_ ?_;omega;omega) | (refine zU ?_ ?_ ?_;omega;omega) | (refine zV ?_ ?_ ?_;omega;omega) | refine PCall.pure (ih _ (List.getElem_mem _) _) (WkT.refl _) ?_ | refine PCall.pure (ih _ (List.getElem_mem _) _) cA ?_ | (refine yA ?_ rfl ?_ ?_;assumption;exact lA) | (refine yB ?_ rfl ?_ ?_;assumption;exact lA) | (refine yC rfl ?_ ?_;exact lA) | refine n0 ?_ | refine zN rfl rfl rfl ?_ | refine zD ?_ | refine zE ?_ | refine zF ?_ | refine PDraw.sP (some 48) rfl [] [] tt_ok mixed ?_ | intro _);conv=>whnf)
    conv => whnf
    repeat' (first | ((first | ((first | (apply zY;intro hg) | apply zZ);focus ((conv=>whnf);(repeat ((first | (refine zW ?_ ?_;exact gA) | refine zH rfl ?_ | refine zA ?_ | refine zI bA ?_ | refine zI rfl ?_ | refine zJ rfl rfl ?_ | refine zB ?_ | refine zK rfl ?_ | refine zL rfl ?_ | refine zC ?_ | (refine zO ?_ ?_ ?_;exact OA;exact OA) | (refine zP ?_ ?_ ?_;exact OA;exact OA) | refine zM rfl ?_ | (refine zQ ?_ ?_ ?_;exact OA;exact OA) | (refine zR ?_ ?_;exact OA) | (refine zI ?_ ?_;exact NA) | (refine zS ?_ ?_ ?_;exact OA;exact OA) | (refine zT ?_ ?_ ?_;exact OA;exact OA) | (refine zU ?_ ?_ ?_;exact OA;exact OA) | (refine zV ?_ ?_ ?_;exact OA;exact OA) | refine PCall.pure (ih _ (List.getElem_mem _) _) (WkT.refl _) ?_ | refine PCall.pure (ih _ (List.getElem_mem _) _) cA ?_ | intro _);conv=>whnf));first | exact PShift.same | exact PShift.lit | exact PShift.ep)) | ((first | (apply zY;intro hg) | apply zZ);exact stB) | (refine zW ?_ ?_;exact gA) | refine zH rfl ?_ | refine zA ?_ | refine zI bA ?_ | refine zI rfl ?_ | refine zJ rfl rfl ?_ | refine zB ?_ | refine zK rfl ?_ | refine zL rfl ?_ | refine zC ?_ | (refine zO ?_ ?_ ?_;omega;omega) | (refine zP ?_ ?_ ?_;omega;omega) | refine zM rfl ?_ | (refine zQ ?_ ?_ ?_;omega;omega) | (refine zR ?_ ?_;omega) | (refine zI ?_ ?_;exact nA) | (refine zS ?_ ?_ ?_;omega;omega) | (refine zT ?_ ?_ ?_;omega;omega) | (refine zU ?_ ?_ ?_;omega;omega) | (refine zV ?_ ?_ ?_;omega;omega) | refine PCall.pure (ih _ (List.getElem_mem _) _) (WkT.refl _) ?_ | refine PCall.pure (ih _ (List.getElem_mem _) _) cA ?_ | (refine yA ?_ rfl ?_ ?_;assumption;exact lA) | (refine yB ?_ rfl ?_ ?_;assumption;exact lA) | (refine yC rfl ?_ ?_;exact lA) | refine n0 ?_ | refine zN rfl rfl rfl ?_ | refine zD ?_ | refine zE ?_ | refine zF ?_ | refine PDraw.sP (some 48) rfl [] [] tt_ok mixed ?_ | intro _ | refine zG ?_);conv=>whnf) | (refine zX (fun hc => ?_) (fun hc => ?_)<;>(try simp only [SY] at hc)<;>first | omega | (conv=>whnf)))
    · exact PRet.pure (Wk.ff (by
        rw [he, Bool.eq_false_iff]
        intro h
        simp only [Bool.and_eq_true, beq_iff_eq] at h
        obtain ⟨⟨⟨⟨h1, h2⟩, h3⟩, h4⟩, h5⟩ := h
        have h6 := Datum.alks_len h5
        simp only [h1, h2, h3, h4, h6, not_true_eq_false, or_self] at hc))
    have h0 := hc
    have he2 : a.alk b = Datum.alks a.l b.l := by rw [he, h0.1.1.1.1, h0.1.1.1.2, h0.1.1.2, h0.1.2]; simp
    rw [he2]
    refine PLoop.keep [4, 5, 41, 42, 43, 44, 45, 46, 47, 48, 49, 50, 51, 52, 53, 54, 55, 56, 57, 58, 59] (fun i : Nat => [(5, .int .i64 i)]) (fun i => i ≤ a.l.length ∧ Datum.alks (a.l.drop i) (b.l.drop i) = Datum.alks a.l b.l) (fun i => a.l.length - i) 0 ⟨Nat.zero_le _, rfl⟩ wA ?_
    rintro j ⟨hj, hm⟩
    conv => whnf
    repeat' (first | ((first | ((first | (apply zY;intro hg) | apply zZ);focus ((conv=>whnf);(repeat ((first | (refine zW ?_ ?_;exact gA) | refine zH rfl ?_ | refine zA ?_ | refine zI bA ?_ | refine zI rfl ?_ | refine zJ rfl rfl ?_ | refine zB ?_ | refine zK rfl ?_ | refine zL rfl ?_ | refine zC ?_ | (refine zO ?_ ?_ ?_;exact OA;exact OA) | (refine zP ?_ ?_ ?_;exact OA;exact OA) | refine zM rfl ?_ | (refine zQ ?_ ?_ ?_;exact OA;exact OA) | (refine zR ?_ ?_;exact OA) | (refine zI ?_ ?_;exact NA) | (refine zS ?_ ?_ ?_;exact OA;exact OA) | (refine zT ?_ ?_ ?_;exact OA;exact OA) | (refine zU ?_ ?_ ?_;exact OA;exact OA) | (refine zV ?_ ?_ ?_;exact OA;exact OA) | refine PCall.pure (ih _ (List.getElem_mem _) _) (WkT.refl _) ?_ | refine PCall.pure (ih _ (List.getElem_mem _) _) cA ?_ | intro _);conv=>whnf));first | exact PShift.same | exact PShift.lit | exact PShift.ep)) | ((first | (apply zY;intro hg) | apply zZ);exact stB) | (refine zW ?_ ?_;exact gA) | refine zH rfl ?_ | refine zA ?_ | refine zI bA ?_ | refine zI rfl ?_ | refine zJ rfl rfl ?_ | refine zB ?_ | refine zK rfl ?_ | refine zL rfl ?_ | refine zC ?_ | (refine zO ?_ ?_ ?_;omega;omega) | (refine zP ?_ ?_ ?_;omega;omega) | refine zM rfl ?_ | (refine zQ ?_ ?_ ?_;omega;omega) | (refine zR ?_ ?_;omega) | (refine zI ?_ ?_;exact nA) | (refine zS ?_ ?_ ?_;omega;omega) | (refine zT ?_ ?_ ?_;omega;omega) | (refine zU ?_ ?_ ?_;omega;omega) | (refine zV ?_ ?_ ?_;omega;omega) | refine PCall.pure (ih _ (List.getElem_mem _) _) (WkT.refl _) ?_ | refine PCall.pure (ih _ (List.getElem_mem _) _) cA ?_ | (refine yA ?_ rfl ?_ ?_;assumption;exact lA) | (refine yB ?_ rfl ?_ ?_;assumption;exact lA) | (refine yC rfl ?_ ?_;exact lA) | refine n0 ?_ | refine zN rfl rfl rfl ?_ | refine zD ?_ | refine zE ?_ | refine zF ?_ | refine PDraw.sP (some 48) rfl [] [] tt_ok mixed ?_ | intro _ | refine zG ?_);conv=>whnf) | (refine zX (fun hc => ?_) (fun hc => ?_)<;>(try simp only [SY] at hc)<;>first | omega | (conv=>whnf)))
    · rw [drop_at (show j < a.l.length by omega), drop_at (show j < b.l.length by omega), Datum.alks, hc, Bool.false_and] at hm
      exact PRet.pure (Wk.ff hm.symm)
    · rw [drop_at (show j < a.l.length by omega), drop_at (show j < b.l.length by omega), Datum.alks, hc, Bool.true_and] at hm
      exact loopTo (j + 1) ⟨by omega, hm⟩ (by show a.l.length - (j + 1) < a.l.length - j; omega) wA
    · rw [List.drop_of_length_le (by omega), List.drop_of_length_le (by omega), Datum.alks] at hm
      exact PRet.pure (Wk.tt hm.symm)
theorem consts_c (a b : List Datum) : ACallP Tryz.prog 60 [.sl 5 (a.map Datum.pv) none, .sl 5 (b.map Datum.pv) none] (.bool (Datum.alks a b)) := by
  refine ACall.of_body tt_ok Tryz.func60 rfl rfl (n := 27) rfl rfl ?_
  conv => whnf
  repeat ((first | ((first | (apply zY;intro hg) | apply zZ);focus ((conv=>whnf);(repeat ((first | (refine zW ?_ ?_;exact gA) | refine zH rfl ?_ | refine zA ?_ | refine zI bA ?_ | refine zI rfl ?_ | refine zJ rfl rfl ?_ | refine zB ?_ | refine zK rfl ?_ | refine zL rfl ?_ | refine zC ?_ | (refine zO ?_ ?_ ?_;exact OA;exact OA) | (refine zP ?_ ?_ ?_;exact OA;exact OA) | refine zM rfl ?_ | (refine zQ ?_ ?_ ?_;exact OA;exact OA) | (refine zR ?_ ?_;exact OA) | (refine zI ?_ ?_;exact NA) | (refine zS ?_ ?_ ?_;exact OA;exact OA) | (refine zT ?_ ?_ ?_;exact OA;exact OA) | (refine zU ?_ ?_ ?_;exact OA;exact OA) | (refine zV ?_ ?_ ?_;exact OA;exact OA) | refine PCall.pure (ih _ (List.getElem_mem _) _) (WkT.refl _) ?_ | refine PCall.pure (ih _ (List.getElem_mem _) _) cA ?_ | intro _);conv=>whnf));first | exact PShift.same | exact PShift.lit | exact PShift.ep)) | ((first | (apply zY;intro hg) | apply zZ);exact stB) | (refine zW ?_ ?_;exact gA) | refine zH rfl ?_ | refine zA ?_ | refine zI bA ?_ | refine zI rfl ?_ | refine zJ rfl rfl ?_ | refine zB ?_ | refine zK rfl ?_ | refine zL rfl ?_ | refine zC ?_ | (refine zO ?_ ?_ ?_;omega;omega) | (refine zP ?_ ?_ ?_;omega;omega) | refine zM rfl ?_ | (refine zQ ?_ ?_ ?_;omega;omega) | (refine zR ?_ ?_;omega) | (refine zI ?_ ?_;exact nA) | (refine zS ?_ ?_ ?_;omega;omega) | (refine zT ?_ ?_ ?_;omega;omega) | (refine zU ?_ ?_ ?_;omega;omega) | (refine zV ?_ ?_ ?_;omega;omega) | refine PCall.pure (ih _ (List.getElem_mem _) _) (WkT.refl _) ?_ | refine PCall.pure (ih _ (List.getElem_mem _) _) cA ?_ | (refine yA ?_ rfl ?_ ?_;assumption;exact lA) | (refine yB ?_ rfl ?_ ?_;assumption;exact lA) | (refine yC rfl ?_ ?_;exact lA) | refine n0 ?_ | refine zN rfl rfl rfl ?_ | refine zD ?_ | refine zE ?_ | refine zF ?_ | refine PDraw.sP (some 17) rfl [] [] tt_ok mixed ?_ | intro _);conv=>whnf)
  conv => whnf
  repeat' (first | ((first | ((first | (apply zY;intro hg) | apply zZ);focus ((conv=>whnf);(repeat ((first | (refine zW ?_ ?_;exact gA) | refine zH rfl ?_ | refine zA ?_ | refine zI bA ?_ | refine zI rfl ?_ | refine zJ rfl rfl ?_ | refine zB ?_ | refine zK rfl ?_ | refine zL rfl ?_ | refine zC ?_ | (refine zO ?_ ?_ ?_;exact OA;exact OA) | (refine zP ?_ ?_ ?_;exact OA;exact OA) | refine zM rfl ?_ | (refine zQ ?_ ?_ ?_;exact OA;exact OA) | (refine zR ?_ ?_;exact OA) | (refine zI ?_ ?_;exact NA) | (refine zS ?_ ?_ ?_;exact OA;exact OA) | (refine zT ?_ ?_ ?_;exact OA;exact OA) | (refine zU ?_ ?_ ?_;exact OA;exact OA) | (refine zV ?_ ?_ ?_;exact OA;exact OA) | refine PCall.pure (ih _ (List.getElem_mem _) _) (WkT.refl _) ?_ | refine PCall.pure (ih _ (List.getElem_mem _) _) cA ?_ | intro _);conv=>whnf));first | exact PShift.same | exact PShift.lit | exact PShift.ep)) | ((first | (apply zY;intro hg) | apply zZ);exact stB) | (refine zW ?_ ?_;exact gA) | refine zH rfl ?_ | refine zA ?_ | refine zI bA ?_ | refine zI rfl ?_ | refine zJ rfl rfl ?_ | refine zB ?_ | refine zK rfl ?_ | refine zL rfl ?_ | refine zC ?_ | (refine zO ?_ ?_ ?_;omega;omega) | (refine zP ?_ ?_ ?_;omega;omega) | refine zM rfl ?_ | (refine zQ ?_ ?_ ?_;omega;omega) | (refine zR ?_ ?_;omega) | (refine zI ?_ ?_;exact nA) | (refine zS ?_ ?_ ?_;omega;omega) | (refine zT ?_ ?_ ?_;omega;omega) | (refine zU ?_ ?_ ?_;omega;omega) | (refine zV ?_ ?_ ?_;omega;omega) | refine PCall.pure (ih _ (List.getElem_mem _) _) (WkT.refl _) ?_ | refine PCall.pure (ih _ (List.getElem_mem _) _) cA ?_ | (refine yA ?_ rfl ?_ ?_;assumption;exact lA) | (refine yB ?_ rfl ?_ ?_;assumption;exact lA) | (refine yC rfl ?_ ?_;exact lA) | refine n0 ?_ | refine zN rfl rfl rfl ?_ | refine zD ?_ | refine zE ?_ | refine zF ?_ | refine PDraw.sP (some 17) rfl [] [] tt_ok mixed ?_ | intro _ | refine zG ?_);conv=>whnf) | (refine zX (fun hc => ?_) (fun hc => ?_)<;>(try simp only [SY] at hc)<;>first | omega | (conv=>whnf)))
  · exact PRet.pure (Wk.ff (by
      rw [Bool.eq_false_iff]
      intro h
      have := Datum.alks_len h
      omega))
  refine PLoop.keep [4, 5, 11, 12, 13, 14, 15, 16, 17, 18, 19, 20, 21, 22, 23, 24, 25, 26] (fun i : Nat => [(5, .int .i64 i)]) (fun i => i ≤ a.length ∧ Datum.alks (a.drop i) (b.drop i) = Datum.alks a b) (fun i => a.length - i) 0 ⟨Nat.zero_le _, rfl⟩ wA ?_
  rintro j ⟨hj, hm⟩
  conv => whnf
  repeat' (first | ((first | ((first | (apply zY;intro hg) | apply zZ);focus ((conv=>whnf);(repeat ((first | (refine zW ?_ ?_;exact gA) | refine zH rfl ?_ | refine zA ?_ | refine zI bA ?_ | refine zI rfl ?_ | refine zJ rfl rfl ?_ | refine zB ?_ | refine zK rfl ?_ | refine zL rfl ?_ | refine zC ?_ | (refine zO ?_ ?_ ?_;exact OA;exact OA) | (refine zP ?_ ?_ ?_;exact OA;exact OA) | refine zM rfl ?_ | (refine zQ ?_ ?_ ?_;exact OA;exact OA) | (refine zR ?_ ?_;exact OA) | (refine zI ?_ ?_;exact NA) | (refine zS ?_ ?_ ?_;exact OA;exact OA) | (refine zT ?_ ?_ ?_;exact OA;exact OA) | (refine zU ?_ ?_ ?_;exact OA;exact OA) | (refine zV ?_ ?_ ?_;exact OA;exact OA) | refine PCall.pure (dalike_c _ _) (WkT.refl _) ?_ | refine PCall.pure (dalike_c _ _) cA ?_ | intro _);conv=>whnf));first | exact PShift.same | exact PShift.lit | exact PShift.ep)) | ((first | (apply zY;intro hg) | apply zZ);exact stB) | (refine zW ?_ ?_;exact gA) | refine zH rfl ?_ | refine zA ?_ | refine zI bA ?_ | refine zI rfl ?_ | refine zJ rfl rfl ?_ | refine zB ?_ | refine zK rfl ?_ | refine zL rfl ?_ | refine zC ?_ | (refine zO ?_ ?_ ?_;omega;omega) | (refine zP ?_ ?_ ?_;omega;omega) | refine zM rfl ?_ | (refine zQ ?_ ?_ ?_;omega;omega) | (refine zR ?_ ?_;omega) | (refine zI ?_ ?_;exact nA) | (refine zS ?_ ?_ ?_;omega;omega) | (refine zT ?_ ?_ ?_;omega;omega) | (refine zU ?_ ?_ ?_;omega;omega) | (refine zV ?_ ?_ ?_;omega;omega) | refine PCall.pure (dalike_c _ _) (WkT.refl _) ?_ | refine PCall.pure (dalike_c _ _) cA ?_ | (refine yA ?_ rfl ?_ ?_;assumption;exact lA) | (refine yB ?_ rfl ?_ ?_;assumption;exact lA) | (refine yC rfl ?_ ?_;exact lA) | refine n0 ?_ | refine zN rfl rfl rfl ?_ | refine zD ?_ | refine zE ?_ | refine zF ?_ | refine PDraw.sP (some 17) rfl [] [] tt_ok mixed ?_ | intro _ | refine zG ?_);conv=>whnf) | (refine zX (fun hc => ?_) (fun hc => ?_)<;>(try simp only [SY] at hc)<;>first | omega | (conv=>whnf)))
  · rw [drop_at (show j < a.length by omega), drop_at (show j < b.length by omega), Datum.alks, hc, Bool.false_and] at hm
    exact PRet.pure (Wk.ff hm.symm)
  · rw [drop_at (show j < a.length by omega), drop_at (show j < b.length by omega), Datum.alks, hc, Bool.true_and] at hm
    exact loopTo (j + 1) ⟨by omega, hm⟩ (by show a.length - (j + 1) < a.length - j; omega) wA
  · rw [List.drop_of_length_le (by omega), List.drop_of_length_le (by omega), Datum.alks] at hm
    exact PRet.pure (Wk.tt hm.symm)
def Prog.same (p q : Prog) : Bool := Datum.alks p.consts q.consts && p.body.alk q.body
theorem size_d (t : Trm) : ∀ deep : Int, 0 ≤ deep → deep ≤ 1000 → t.bulk ≤ 1000000000 → ACallP Tryz.prog 64 [.agg t.cells, .int .i64 deep] (.int .i64 (t.uC (fun _ _ => true) deep)) := by
  induction t using Trm.ind with
  | h t ih =>
    intro deep h0 h1 hb
    have hbe := t.bulk_eq
    have he := t.uC_eq (fun _ _ => true) deep
    have hbd := t.uC_bd (fun _ _ => true) deep
    have hcb := t.cnt_bulk
    have ih' : ∀ x ∈ t.t, ∀ deep : Int, 0 ≤ deep → deep ≤ 1000 → ACallP Tryz.prog 64 [.agg x.cells, .int .i64 deep] (.int .i64 (x.uC (fun _ _ => true) deep)) := fun x hx d a b => ih x hx d a b (by have := Trm.bulks_mem hx; omega)
    refine ACall.of_body tt_ok Tryz.func64 rfl rfl (n := 29) rfl rfl ?_
    conv => whnf
    repeat ((first | ((first | (apply zY;intro hg) | apply zZ);focus ((conv=>whnf);(repeat ((first | (refine zW ?_ ?_;exact gA) | refine zH rfl ?_ | refine zA ?_ | refine zI bA ?_ | refine zI rfl ?_ | refine zJ rfl rfl ?_ | refine zB ?_ | refine zK rfl ?_ | refine zL rfl ?_ | refine zC ?_ | (refine zO ?_ ?_ ?_;exact OA;exact OA) | (refine zP ?_ ?_ ?_;exact OA;exact OA) | refine zM rfl ?_ | (refine zQ ?_ ?_ ?_;exact OA;exact OA) | (refine zR ?_ ?_;exact OA) | (refine zI ?_ ?_;exact NA) | (refine zS ?_ ?_ ?_;exact OA;exact OA) | (refine zT ?_ ?_ ?_;exact OA;exact OA) | (refine zU ?_ ?_ ?_;exact OA;exact OA) | (refine zV ?_ ?_ ?_;exact OA;exact OA) | refine PCall.pure (consts_c p.consts q.consts) (WkT.refl _) ?_ | refine PCall.pure (alike_c p.body q.body) (WkT.refl _) ?_ | intro _);conv=>whnf));first | exact PShift.same | exact PShift.lit | exact PShift.ep)) | ((first | (apply zY;intro hg) | apply zZ);exact stB) | (refine zW ?_ ?_;exact gA) | refine zH rfl ?_ | refine zA ?_ | refine zI bA ?_ | refine zI rfl ?_ | refine zJ rfl rfl ?_ | refine zB ?_ | refine zK rfl ?_ | refine zL rfl ?_ | refine zC ?_ | (refine zO ?_ ?_ ?_;omega;omega) | (refine zP ?_ ?_ ?_;omega;omega) | refine zM rfl ?_ | (refine zQ ?_ ?_ ?_;omega;omega) | (refine zR ?_ ?_;omega) | (refine zI ?_ ?_;exact nA) | (refine zS ?_ ?_ ?_;omega;omega) | (refine zT ?_ ?_ ?_;omega;omega) | (refine zU ?_ ?_ ?_;omega;omega) | (refine zV ?_ ?_ ?_;omega;omega) | refine PCall.pure (consts_c p.consts q.consts) (WkT.refl _) ?_ | refine PCall.pure (alike_c p.body q.body) (WkT.refl _) ?_ | (refine yA ?_ rfl ?_ ?_;assumption;exact lA) | (refine yB ?_ rfl ?_ ?_;assumption;exact lA) | (refine yC rfl ?_ ?_;exact lA) | refine n0 ?_ | refine zN rfl rfl rfl ?_ | refine zD ?_ | refine zE ?_ | refine zF ?_ | intro _);conv=>whnf)
    refine PLoop.keep [5, 6, 7, 8, 9, 10, 11, 12, 13, 14, 15, 16, 17, 18, 19, 20, 21, 22, 23, 24, 25, 26, 27] (fun x : Nat × Int => [(5, .int .i64 x.2), (6, .int .i64 x.1)]) (fun x => x.1 ≤ t.t.length ∧ (x.1 = 0 ∨ deep < 1000) ∧ 1 ≤ x.2 ∧ x.2 + (if deep < 1000 then Trm.uCs (fun _ _ => true) (t.t.drop x.1) (deep + 1) else 0) = t.uC (fun _ _ => true) deep) (fun x => t.t.length - x.1) (0, 1) ⟨Nat.zero_le _, .inl rfl, by simp, by rw [he]; simp⟩ wA ?_
    rintro ⟨i, n⟩ ⟨hi, hd, hn, hm⟩
    dsimp only at hi hd hn hm ⊢
    conv => whnf
    repeat' (first | ((first | ((first | (apply zY;intro hg) | apply zZ);focus ((conv=>whnf);(repeat ((first | (refine zW ?_ ?_;exact gA) | refine zH rfl ?_ | refine zA ?_ | refine zI bA ?_ | refine zI rfl ?_ | refine zJ rfl rfl ?_ | refine zB ?_ | refine zK rfl ?_ | refine zL rfl ?_ | refine zC ?_ | (refine zO ?_ ?_ ?_;exact OA;exact OA) | (refine zP ?_ ?_ ?_;exact OA;exact OA) | refine zM rfl ?_ | (refine zQ ?_ ?_ ?_;exact OA;exact OA) | (refine zR ?_ ?_;exact OA) | (refine zI ?_ ?_;exact NA) | (refine zS ?_ ?_ ?_;exact OA;exact OA) | (refine zT ?_ ?_ ?_;exact OA;exact OA) | (refine zU ?_ ?_ ?_;exact OA;exact OA) | (refine zV ?_ ?_ ?_;exact OA;exact OA) | refine PCall.pure (ih' _ (List.getElem_mem _) _ (by omega) (by omega)) (WkT.refl _) ?_ | refine PCall.pure (ih' _ (List.getElem_mem _) _ (by omega) (by omega)) cA ?_ | intro _);conv=>whnf));first | exact PShift.same | exact PShift.lit | exact PShift.ep)) | ((first | (apply zY;intro hg) | apply zZ);exact stB) | (refine zW ?_ ?_;exact gA) | refine zH rfl ?_ | refine zA ?_ | refine zI bA ?_ | refine zI rfl ?_ | refine zJ rfl rfl ?_ | refine zB ?_ | refine zK rfl ?_ | refine zL rfl ?_ | refine zC ?_ | (refine zO ?_ ?_ ?_;omega;omega) | (refine zP ?_ ?_ ?_;omega;omega) | refine zM rfl ?_ | (refine zQ ?_ ?_ ?_;omega;omega) | (refine zR ?_ ?_;omega) | (refine zI ?_ ?_;exact nA) | (refine zS ?_ ?_ ?_;omega;omega) | (refine zT ?_ ?_ ?_;omega;omega) | (refine zU ?_ ?_ ?_;omega;omega) | (refine zV ?_ ?_ ?_;omega;omega) | refine PCall.pure (ih' _ (List.getElem_mem _) _ (by omega) (by omega)) (WkT.refl _) ?_ | refine PCall.pure (ih' _ (List.getElem_mem _) _ (by omega) (by omega)) cA ?_ | (refine yA ?_ rfl ?_ ?_;assumption;exact lA) | (refine yB ?_ rfl ?_ ?_;assumption;exact lA) | (refine yC rfl ?_ ?_;exact lA) | refine n0 ?_ | refine zN rfl rfl rfl ?_ | refine zD ?_ | refine zE ?_ | refine zF ?_ | intro _ | refine zG ?_);conv=>whnf) | (refine zX (fun hc => ?_) (fun hc => ?_)<;>(try simp only [SY] at hc)<;>first | omega | (conv=>whnf)))
    · rw [if_pos (by omega), drop_at (show i < t.t.length by omega), Trm.uCs] at hm
      have hx := (t.t[i]).uC_bd (fun _ _ => true) (deep + 1)
      have hr := Trm.uCs_bd (fun _ _ => true) (t.t.drop (i + 1)) (deep + 1)
      refine PInt.ok (by omega) (by omega) ?_
      conv => whnf
      repeat' (first | ((first | ((first | (apply zY;intro hg) | apply zZ);focus ((conv=>whnf);(repeat ((first | (refine zW ?_ ?_;exact gA) | refine zH rfl ?_ | refine zA ?_ | refine zI bA ?_ | refine zI rfl ?_ | refine zJ rfl rfl ?_ | refine zB ?_ | refine zK rfl ?_ | refine zL rfl ?_ | refine zC ?_ | (refine zO ?_ ?_ ?_;exact OA;exact OA) | (refine zP ?_ ?_ ?_;exact OA;exact OA) | refine zM rfl ?_ | (refine zQ ?_ ?_ ?_;exact OA;exact OA) | (refine zR ?_ ?_;exact OA) | (refine zI ?_ ?_;exact NA) | (refine zS ?_ ?_ ?_;exact OA;exact OA) | (refine zT ?_ ?_ ?_;exact OA;exact OA) | (refine zU ?_ ?_ ?_;exact OA;exact OA) | (refine zV ?_ ?_ ?_;exact OA;exact OA) | refine PCall.pure (ih' _ (List.getElem_mem _) _ (by omega) (by omega)) (WkT.refl _) ?_ | refine PCall.pure (ih' _ (List.getElem_mem _) _ (by omega) (by omega)) cA ?_ | intro _);conv=>whnf));first | exact PShift.same | exact PShift.lit | exact PShift.ep)) | ((first | (apply zY;intro hg) | apply zZ);exact stB) | (refine zW ?_ ?_;exact gA) | refine zH rfl ?_ | refine zA ?_ | refine zI bA ?_ | refine zI rfl ?_ | refine zJ rfl rfl ?_ | refine zB ?_ | refine zK rfl ?_ | refine zL rfl ?_ | refine zC ?_ | (refine zO ?_ ?_ ?_;omega;omega) | (refine zP ?_ ?_ ?_;omega;omega) | refine zM rfl ?_ | (refine zQ ?_ ?_ ?_;omega;omega) | (refine zR ?_ ?_;omega) | (refine zI ?_ ?_;exact nA) | (refine zS ?_ ?_ ?_;omega;omega) | (refine zT ?_ ?_ ?_;omega;omega) | (refine zU ?_ ?_ ?_;omega;omega) | (refine zV ?_ ?_ ?_;omega;omega) | refine PCall.pure (ih' _ (List.getElem_mem _) _ (by omega) (by omega)) (WkT.refl _) ?_ | refine PCall.pure (ih' _ (List.getElem_mem _) _ (by omega) (by omega)) cA ?_ | (refine yA ?_ rfl ?_ ?_;assumption;exact lA) | (refine yB ?_ rfl ?_ ?_;assumption;exact lA) | (refine yC rfl ?_ ?_;exact lA) | refine n0 ?_ | refine zN rfl rfl rfl ?_ | refine zD ?_ | refine zE ?_ | refine zF ?_ | intro _ | refine zG ?_);conv=>whnf) | (refine zX (fun hc => ?_) (fun hc => ?_)<;>(try simp only [SY] at hc)<;>first | omega | (conv=>whnf)))
      exact loopTo (i + 1, n + t.t[i].uC (fun _ _ => true) (deep + 1)) ⟨by show i + 1 ≤ _; omega, .inr (by omega), by show 1 ≤ n + (t.t[i]).uC _ (deep + 1); omega, by dsimp only; rw [if_pos (by omega)]; omega⟩ (by show t.t.length - (i + 1) < t.t.length - i; omega) wA
    · refine PRet.pure (Wk.int ?_)
      rw [← hm]
      split
      · rw [List.drop_of_length_le (by omega), Trm.uCs]; omega
      · omega
theorem Trm.uC_all (t : Trm) : ∀ deep : Int, deep + t.dep < 1000 → t.uC (fun _ _ => true) deep = t.cnt := by
  induction t using Trm.ind with
  | h t ih =>
    intro deep h
    have hge := Trm.deps_ge t.t 0
    rw [Trm.dep_eq] at h
    have hd := (Trm.deps_le (999 - deep) t.t 0).1 (by omega)
    have key : ∀ l : List Trm, (∀ y ∈ l, ∀ deep : Int, deep + y.dep < 1000 → y.uC (fun _ _ => true) deep = y.cnt) → ∀ deep, (∀ x ∈ l, deep + x.dep < 1000) → Trm.uCs (fun _ _ => true) l deep = Trm.cnts l := by
      intro l
      induction l with
      | nil => intro _ _ _; rw [Trm.uCs, Trm.cnts]
      | cons x l ihl => intro hy deep hx; rw [Trm.uCs, Trm.cnts, hy x (by simp) deep (hx x (by simp)), ihl (fun z hz => hy z (by simp [hz])) deep fun z hz => hx z (by simp [hz])]
    have hlt : deep < 1000 := by omega
    rw [Trm.uC_eq, if_pos rfl, if_pos hlt, Trm.cnt_eq, key t.t ih (deep + 1) fun x hx => by have := hd.2 x hx; omega]
theorem Size_d (t : Trm) (hb : t.bulk ≤ 1000000000) : ACallP Tryz.prog 33 [.agg t.cells] (.int .i64 (t.uC (fun _ _ => true) 0)) := by
  refine ACall.of_body tt_ok Tryz.func33 rfl rfl (n := 5) rfl rfl ?_
  conv => whnf
  repeat ((first | ((first | (apply zY;intro hg) | apply zZ);focus ((conv=>whnf);(repeat ((first | (refine zW ?_ ?_;exact gA) | refine zH rfl ?_ | refine zA ?_ | refine zI bA ?_ | refine zI rfl ?_ | refine zJ rfl rfl ?_ | refine zB ?_ | refine zK rfl ?_ | refine zL rfl ?_ | refine zC ?_ | (refine zO ?_ ?_ ?_;exact OA;exact OA) | (refine zP ?_ ?_ ?_;exact OA;exact OA) | refine zM rfl ?_ | (refine zQ ?_ ?_ ?_;exact OA;exact OA) | (refine zR ?_ ?_;exact OA) | (refine zI ?_ ?_;exact NA) | (refine zS ?_ ?_ ?_;exact OA;exact OA) | (refine zT ?_ ?_ ?_;exact OA;exact OA) | (refine zU ?_ ?_ ?_;exact OA;exact OA) | (refine zV ?_ ?_ ?_;exact OA;exact OA) | refine PCall.pure (size_d t 0 (by omega) (by omega) hb) (WkT.refl _) ?_ | intro _);conv=>whnf));first | exact PShift.same | exact PShift.lit | exact PShift.ep)) | ((first | (apply zY;intro hg) | apply zZ);exact stB) | (refine zW ?_ ?_;exact gA) | refine zH rfl ?_ | refine zA ?_ | refine zI bA ?_ | refine zI rfl ?_ | refine zJ rfl rfl ?_ | refine zB ?_ | refine zK rfl ?_ | refine zL rfl ?_ | refine zC ?_ | (refine zO ?_ ?_ ?_;omega;omega) | (refine zP ?_ ?_ ?_;omega;omega) | refine zM rfl ?_ | (refine zQ ?_ ?_ ?_;omega;omega) | (refine zR ?_ ?_;omega) | (refine zI ?_ ?_;exact nA) | (refine zS ?_ ?_ ?_;omega;omega) | (refine zT ?_ ?_ ?_;omega;omega) | (refine zU ?_ ?_ ?_;omega;omega) | (refine zV ?_ ?_ ?_;omega;omega) | refine PCall.pure (size_d t 0 (by omega) (by omega) hb) (WkT.refl _) ?_ | (refine yA ?_ rfl ?_ ?_;assumption;exact lA) | (refine yB ?_ rfl ?_ ?_;assumption;exact lA) | (refine yC rfl ?_ ?_;exact lA) | refine n0 ?_ | refine zN rfl rfl rfl ?_ | refine zD ?_ | refine zE ?_ | refine zF ?_ | intro _);conv=>whnf)
  exact PRet.pure (Wk.refl _)
end Go.Cb
namespace Go.Cb
open Go.Proofs
set_option maxRecDepth 100000
set_option maxHeartbeats 4000000
theorem takeWhile_at {p : Int → Bool} : ∀ {l : List Int} {k : Nat}, k ≤ l.length → (∀ j (h : j < l.length), j < k → p l[j] = true) → (∀ h : k < l.length, p (l[k]) = false) → l.takeWhile p = l.take k ∧ l.dropWhile p = l.drop k
  | [], k, _, _, _ => by simp
  | x :: l, 0, _, _, h => by
    have := h (by simp)
    simp at this
    simp [List.takeWhile_cons, List.dropWhile_cons, this]
  | x :: l, k + 1, hk, h1, h2 => by
    have h0 := h1 0 (by simp) (by omega)
    simp at h0
    have ih := takeWhile_at (p := p) (l := l) (k := k) (by simpa using hk) (fun j hj hjk => h1 (j + 1) (by simpa using hj) (by omega)) (fun h => h2 (by simpa using h))
    simp [List.takeWhile_cons, List.dropWhile_cons, h0, ih]
theorem put_c (l : List Int) (v : Int) (hl : l.length ≤ 1000000000) : ACallP Tryz.prog 106 [slI l, .int .i64 v] (slI (putI l v)) := by
  refine ACall.of_body tt_ok Tryz.func106 rfl rfl (n := 45) rfl rfl ?_
  conv => whnf
  repeat ((first | ((first | (apply zY;intro hg) | apply zZ);first | exact stA | exact stB) | (refine zW ?_ ?_;exact gA) | refine zH rfl ?_ | refine zA ?_ | refine zI bA ?_ | refine zI rfl ?_ | refine zJ rfl rfl ?_ | refine zB ?_ | refine zK rfl ?_ | refine zL rfl ?_ | refine zC ?_ | (refine zO ?_ ?_ ?_;omega;omega) | (refine zP ?_ ?_ ?_;omega;omega) | refine zM rfl ?_ | (refine zQ ?_ ?_ ?_;omega;omega) | (refine zR ?_ ?_;omega) | (refine zI ?_ ?_;exact nA) | (refine zS ?_ ?_ ?_;omega;omega) | (refine zT ?_ ?_ ?_;omega;omega) | (refine zU ?_ ?_ ?_;omega;omega) | (refine zV ?_ ?_ ?_;omega;omega) | (refine yA ?_ rfl ?_ ?_;assumption;exact lA) | (refine yB ?_ rfl ?_ ?_;assumption;exact lA) | (refine yC rfl ?_ ?_;exact lA) | refine n0 ?_ | refine zN rfl rfl rfl ?_ | refine zD ?_ | refine zE ?_ | refine zF ?_ | refine PDraw.sT (some 33) rfl [0,4,7] [11,12] tt_ok mixed ?_ | intro _);conv=>whnf)
  refine PLoop.keep [5, 6, 7, 8, 9, 10, 11, 12, 13, 14, 15, 16, 17, 18, 19] (fun k : Nat => [(5, .int .i64 k)]) (fun k => k ≤ l.length ∧ ∀ j (h : j < l.length), j < k → l[j] < v) (fun k => l.length - k) 0 ⟨Nat.zero_le _, fun _ _ h => by omega⟩ wA ?_
  rintro k ⟨hk, hm⟩
  have hgd : ∀ h : k < l.length, l.getD k Dfl.d = l[k] := fun h => by simp [List.getD, h]
  conv => whnf
  repeat' (first | ((first | ((first | (apply zY;intro hg) | apply zZ);first | exact stA | exact stB) | (refine zW ?_ ?_;exact gA) | refine zH rfl ?_ | refine zA ?_ | refine zI bA ?_ | refine zI rfl ?_ | refine zJ rfl rfl ?_ | refine zB ?_ | refine zK rfl ?_ | refine zL rfl ?_ | refine zC ?_ | (refine zO ?_ ?_ ?_;omega;omega) | (refine zP ?_ ?_ ?_;omega;omega) | refine zM rfl ?_ | (refine zQ ?_ ?_ ?_;omega;omega) | (refine zR ?_ ?_;omega) | (refine zI ?_ ?_;exact nA) | (refine zS ?_ ?_ ?_;omega;omega) | (refine zT ?_ ?_ ?_;omega;omega) | (refine zU ?_ ?_ ?_;omega;omega) | (refine zV ?_ ?_ ?_;omega;omega) | (refine yA ?_ rfl ?_ ?_;assumption;exact lA) | (refine yB ?_ rfl ?_ ?_;assumption;exact lA) | (refine yC rfl ?_ ?_;exact lA) | refine n0 ?_ | refine zN rfl rfl rfl ?_ | refine zD ?_ | refine zE ?_ | refine zF ?_ | refine PDraw.sT (some 33) rfl [0,4,7] [11,12] tt_ok mixed ?_ | intro _ | refine zG ?_);conv=>whnf) | (refine zX (fun hc => ?_) (fun hc => ?_)<;>(try simp only [SY] at hc)<;>first | omega | (conv=>whnf)))
  · have hlt : k < l.length := by omega
    rw [hgd hlt] at hc
    refine loopTo (k + 1) ⟨by omega, fun j hj hjk => ?_⟩ (by show l.length - (k + 1) < l.length - k; omega) wA
    by_cases e : j = k
    · subst e; exact hc.2
    · exact hm j hj (by omega)
  · have hlt : k < l.length := by omega
    rw [hgd hlt] at hc
    obtain ⟨h1, h2⟩ := takeWhile_at (p := fun x => decide (x < v)) hk (fun j hj hjk => by simpa using hm j hj hjk) (fun h => by simp; omega)
    refine PRet.pure (Wk.sl ?_)
    congr 1
    unfold putI
    rw [h1, h2, drop_at hlt, hc.2]
    simp only [List.head?_cons, if_true]
    rw [← hc.2, ← drop_at hlt, List.take_append_drop]
  · have h0 : (l.length : Int) ≤ (k : Int) ∨ v ≤ l.getD k Dfl.d := by assumption
    obtain ⟨h1, h2⟩ := takeWhile_at (p := fun x => decide (x < v)) hk (fun j hj hjk => by simpa using hm j hj hjk) (fun h => by
      have := hgd h
      rw [this] at h0
      simp; omega)
    have e : putI l v = l.take k ++ [v] ++ l.drop k := by
      unfold putI
      rw [h1, h2, if_neg, List.append_assoc]
      · rfl
      · intro h
        rcases Nat.lt_or_ge k l.length with hlt | hge
        · rw [drop_at hlt] at h
          simp only [List.head?_cons, Option.some.injEq] at h
          rw [hgd hlt] at hc
          rcases hc with hc | hc
          · omega
          · exact hc h
        · rw [List.drop_of_length_le hge] at h; cases h
    rw [e]
    exact PRet.pure wA
theorem slI_nil : Wk .nil (slI []) := Wk.nil' rfl
theorem binds_d (t : Trm) : ∀ (deep : Int) (out : List Int), 0 ≤ deep → deep ≤ 1000 → out.Pairwise (· < ·) → out.length + t.bulk ≤ 1000000000 → ACallP Tryz.prog 63 [.agg t.cells, .int .i64 deep, slI out] (slI (t.bD deep out)) := by
  induction t using Trm.ind with
  | h t ih =>
    intro deep out h0 h1 ho hb
    have hbe := t.bulk_eq
    have he := t.bD_eq deep out
    have ih' : ∀ x ∈ t.t, ∀ (deep : Int) (out : List Int), 0 ≤ deep → deep ≤ 1000 → out.Pairwise (· < ·) → out.length + x.bulk ≤ 1000000000 → ACallP Tryz.prog 63 [.agg x.cells, .int .i64 deep, slI out] (slI (x.bD deep out)) := ih
    have hbs := Trm.bulks_length t.t
    refine ACall.of_body tt_ok Tryz.func63 rfl rfl (n := 44) rfl rfl ?_
    conv => whnf
    repeat ((first | ((first | (apply zY;intro hg) | apply zZ);first | exact stA | exact stB) | (refine zW ?_ ?_;exact gA) | refine zH rfl ?_ | refine zA ?_ | refine zI bA ?_ | refine zI rfl ?_ | refine zJ rfl rfl ?_ | refine zB ?_ | refine zK rfl ?_ | refine zL rfl ?_ | refine zC ?_ | (refine zO ?_ ?_ ?_;omega;omega) | (refine zP ?_ ?_ ?_;omega;omega) | refine zM rfl ?_ | (refine zQ ?_ ?_ ?_;omega;omega) | (refine zR ?_ ?_;omega) | (refine zI ?_ ?_;exact nA) | (refine zS ?_ ?_ ?_;omega;omega) | (refine zT ?_ ?_ ?_;omega;omega) | (refine zU ?_ ?_ ?_;omega;omega) | (refine zV ?_ ?_ ?_;omega;omega) | (refine yA ?_ rfl ?_ ?_;assumption;exact lA) | (refine yB ?_ rfl ?_ ?_;assumption;exact lA) | (refine yC rfl ?_ ?_;exact lA) | refine n0 ?_ | refine zN rfl rfl rfl ?_ | refine zD ?_ | refine zE ?_ | refine zF ?_ | intro _);conv=>whnf)
    refine PLoop.keep [2, 7, 9, 10, 11, 12, 13, 14, 15, 16, 17, 18, 19, 20, 21, 22] (fun x : Nat × List Int => [(2, slI x.2), (7, .int .i64 x.1)]) (fun x => x.1 ≤ t.v.length ∧ x.2.Pairwise (· < ·) ∧ x.2.length ≤ out.length + x.1 ∧ (t.v.drop x.1).foldl putI x.2 = t.v.foldl putI out) (fun x => t.v.length - x.1) (0, out) ⟨Nat.zero_le _, ho, by simp, rfl⟩ wA ?_
    rintro ⟨i, o⟩ ⟨hi, hp, hl, hm⟩
    dsimp only at hi hp hl hm ⊢
    conv => whnf
    repeat' (first | ((first | ((first | (apply zY;intro hg) | apply zZ);focus ((conv=>whnf);(repeat ((first | (refine zW ?_ ?_;exact gA) | refine zH rfl ?_ | refine zA ?_ | refine zI bA ?_ | refine zI rfl ?_ | refine zJ rfl rfl ?_ | refine zB ?_ | refine zK rfl ?_ | refine zL rfl ?_ | refine zC ?_ | (refine zO ?_ ?_ ?_;exact OA;exact OA) | (refine zP ?_ ?_ ?_;exact OA;exact OA) | refine zM rfl ?_ | (refine zQ ?_ ?_ ?_;exact OA;exact OA) | (refine zR ?_ ?_;exact OA) | (refine zI ?_ ?_;exact NA) | (refine zS ?_ ?_ ?_;exact OA;exact OA) | (refine zT ?_ ?_ ?_;exact OA;exact OA) | (refine zU ?_ ?_ ?_;exact OA;exact OA) | (refine zV ?_ ?_ ?_;exact OA;exact OA) | refine PCall.pure (put_c o _ (by omega)) (WkT.refl _) ?_ | refine PCall.pure (put_c o _ (by omega)) cA ?_ | intro _);conv=>whnf));first | exact PShift.same | exact PShift.lit | exact PShift.ep)) | ((first | (apply zY;intro hg) | apply zZ);exact stB) | (refine zW ?_ ?_;exact gA) | refine zH rfl ?_ | refine zA ?_ | refine zI bA ?_ | refine zI rfl ?_ | refine zJ rfl rfl ?_ | refine zB ?_ | refine zK rfl ?_ | refine zL rfl ?_ | refine zC ?_ | (refine zO ?_ ?_ ?_;omega;omega) | (refine zP ?_ ?_ ?_;omega;omega) | refine zM rfl ?_ | (refine zQ ?_ ?_ ?_;omega;omega) | (refine zR ?_ ?_;omega) | (refine zI ?_ ?_;exact nA) | (refine zS ?_ ?_ ?_;omega;omega) | (refine zT ?_ ?_ ?_;omega;omega) | (refine zU ?_ ?_ ?_;omega;omega) | (refine zV ?_ ?_ ?_;omega;omega) | refine PCall.pure (put_c o _ (by omega)) (WkT.refl _) ?_ | refine PCall.pure (put_c o _ (by omega)) cA ?_ | (refine yA ?_ rfl ?_ ?_;assumption;exact lA) | (refine yB ?_ rfl ?_ ?_;assumption;exact lA) | (refine yC rfl ?_ ?_;exact lA) | refine n0 ?_ | refine zN rfl rfl rfl ?_ | refine zD ?_ | refine zE ?_ | refine zF ?_ | intro _ | refine zG ?_);conv=>whnf) | (refine zX (fun hc => ?_) (fun hc => ?_)<;>(try simp only [SY] at hc)<;>first | omega | (conv=>whnf)))
    · have hlt : i < t.v.length := by omega
      rw [drop_at hlt, List.foldl_cons] at hm
      have := putI_len t.v[i] o
      exact loopTo (i + 1, putI o t.v[i]) ⟨by show i + 1 ≤ _; omega, putI_lt _ hp, by show (putI o t.v[i]).length ≤ out.length + (i + 1); omega, hm⟩ (by show t.v.length - (i + 1) < t.v.length - i; omega) wA
    rw [List.drop_of_length_le (by omega), List.foldl_nil] at hm
    subst hm
    refine PLoop.keep [2, 8, 23, 24, 25, 26, 27, 28, 29, 30, 31, 32, 33, 34, 35, 36, 37, 38, 39, 40, 41, 42] (fun x : Nat × List Int => [(2, slI x.2), (8, .int .i64 x.1)]) (fun x => x.1 ≤ t.t.length ∧ x.2.Pairwise (· < ·) ∧ (x.1 = 0 ∨ deep < 1000) ∧ x.2.length + Trm.bulks (t.t.drop x.1) ≤ 1000000000 ∧ (if deep < 1000 then Trm.bDs (t.t.drop x.1) (deep + 1) x.2 else x.2) = t.bD deep out) (fun x => t.t.length - x.1) (0, t.v.foldl putI out) ⟨Nat.zero_le _, hp, .inl rfl, by simp only [List.drop_zero]; omega, by rw [he]; rfl⟩ wA ?_
    rintro ⟨j, o⟩ ⟨hj, hp, hd, hl, hm⟩
    dsimp only at hj hp hd hl hm ⊢
    conv => whnf
    repeat' (first | ((first | ((first | (apply zY;intro hg) | apply zZ);focus ((conv=>whnf);(repeat ((first | (refine zW ?_ ?_;exact gA) | refine zH rfl ?_ | refine zA ?_ | refine zI bA ?_ | refine zI rfl ?_ | refine zJ rfl rfl ?_ | refine zB ?_ | refine zK rfl ?_ | refine zL rfl ?_ | refine zC ?_ | (refine zO ?_ ?_ ?_;exact OA;exact OA) | (refine zP ?_ ?_ ?_;exact OA;exact OA) | refine zM rfl ?_ | (refine zQ ?_ ?_ ?_;exact OA;exact OA) | (refine zR ?_ ?_;exact OA) | (refine zI ?_ ?_;exact NA) | (refine zS ?_ ?_ ?_;exact OA;exact OA) | (refine zT ?_ ?_ ?_;exact OA;exact OA) | (refine zU ?_ ?_ ?_;exact OA;exact OA) | (refine zV ?_ ?_ ?_;exact OA;exact OA) | refine PCall.pure (ih' _ (List.getElem_mem _) _ o (by omega) (by omega) hp (by rw [drop_at (by omega), Trm.bulks] at hl; omega)) (WkT.refl _) ?_ | refine PCall.pure (ih' _ (List.getElem_mem _) _ o (by omega) (by omega) hp (by rw [drop_at (by omega), Trm.bulks] at hl; omega)) cA ?_ | intro _);conv=>whnf));first | exact PShift.same | exact PShift.lit | exact PShift.ep)) | ((first | (apply zY;intro hg) | apply zZ);exact stB) | (refine zW ?_ ?_;exact gA) | refine zH rfl ?_ | refine zA ?_ | refine zI bA ?_ | refine zI rfl ?_ | refine zJ rfl rfl ?_ | refine zB ?_ | refine zK rfl ?_ | refine zL rfl ?_ | refine zC ?_ | (refine zO ?_ ?_ ?_;omega;omega) | (refine zP ?_ ?_ ?_;omega;omega) | refine zM rfl ?_ | (refine zQ ?_ ?_ ?_;omega;omega) | (refine zR ?_ ?_;omega) | (refine zI ?_ ?_;exact nA) | (refine zS ?_ ?_ ?_;omega;omega) | (refine zT ?_ ?_ ?_;omega;omega) | (refine zU ?_ ?_ ?_;omega;omega) | (refine zV ?_ ?_ ?_;omega;omega) | refine PCall.pure (ih' _ (List.getElem_mem _) _ o (by omega) (by omega) hp (by rw [drop_at (by omega), Trm.bulks] at hl; omega)) (WkT.refl _) ?_ | refine PCall.pure (ih' _ (List.getElem_mem _) _ o (by omega) (by omega) hp (by rw [drop_at (by omega), Trm.bulks] at hl; omega)) cA ?_ | (refine yA ?_ rfl ?_ ?_;assumption;exact lA) | (refine yB ?_ rfl ?_ ?_;assumption;exact lA) | (refine yC rfl ?_ ?_;exact lA) | refine n0 ?_ | refine zN rfl rfl rfl ?_ | refine zD ?_ | refine zE ?_ | refine zF ?_ | intro _ | refine zG ?_);conv=>whnf) | (refine zX (fun hc => ?_) (fun hc => ?_)<;>(try simp only [SY] at hc)<;>first | omega | (conv=>whnf)))
    · have hlt : j < t.t.length := by omega
      rw [if_pos (by omega), drop_at hlt, Trm.bDs] at hm
      rw [drop_at hlt, Trm.bulks] at hl
      obtain ⟨b1, b2, _⟩ := (t.t[j]).bD_spec (deep + 1) o hp
      exact loopTo (j + 1, t.t[j].bD (deep + 1) o) ⟨by show j + 1 ≤ _; omega, b1, .inr (by omega), by dsimp only; omega, by dsimp only; rw [if_pos (by omega)]; exact hm⟩ (by show t.t.length - (j + 1) < t.t.length - j; omega) wA
    · rw [← hm]
      have e : (if deep < 1000 then Trm.bDs (t.t.drop j) (deep + 1) o else o) = o := by
        split
        · rw [List.drop_of_length_le (by omega), Trm.bDs]
        · rfl
      rw [e]
      exact PRet.pure (Wk.refl _)
end Go.Cb
namespace Go.Cb
open Go.Proofs
set_option maxRecDepth 100000
set_option maxHeartbeats 4000000
section
variable {P : Program} {tt : Nat → TI}
theorem PLoop.ghost {B : List PV → List Ent → Ds → QT → Prop} {T : List PV} {Γ Γ' : List Ent} {D : Ds} {Q : QT} (hg : Ghost Γ Γ') (h : PLoop B T Γ' D Q) : PLoop B T Γ D Q := by
  obtain ⟨I, J, ⟨n, T0, Γ0, h1, h2⟩, h3, h4⟩ := h.h
  refine ⟨I, J, ⟨n, T0, Γ0, fun w0 F M w vs hS hT => ?_, h2⟩, h3, h4⟩
  obtain ⟨F1, e1, hS1⟩ := hg w0 F M w hS
  obtain ⟨F2, e2, hS2, hT2⟩ := h1 w0 F1 M w vs hS1 (RepT.mono e1 _ _ hT)
  exact ⟨F2, Fz.le_trans e1 e2, hS2, hT2⟩
theorem PInt.w {k : IntKind} {v : Int} {K : Int → Prop} (h : K (k.wrap v)) : PInt k v K := ⟨h⟩
end
mutual
def Trm.shw (k : Int) : Trm → Trm
  | .mk op n v t => .mk op (if namesB op = true then IntKind.i64.wrap (n + k) else n) (v.map fun x => IntKind.i64.wrap (x + k)) (Trm.shws k t)
def Trm.shws (k : Int) : List Trm → List Trm
  | [] => []
  | x :: xs => Trm.shw k x :: Trm.shws k xs
end
theorem Trm.shws_eq (k : Int) : ∀ l : List Trm, Trm.shws k l = l.map (Trm.shw k)
  | [] => rfl
  | x :: l => by rw [Trm.shws, List.map_cons, Trm.shws_eq k l]
theorem Trm.shw_op (k : Int) (t : Trm) : (t.shw k).op = t.op := by cases t; rw [Trm.shw]; rfl
theorem Trm.shw_n (k : Int) (t : Trm) : (t.shw k).n = if namesB t.op = true then IntKind.i64.wrap (t.n + k) else t.n := by cases t; rw [Trm.shw]; rfl
theorem Trm.shw_v (k : Int) (t : Trm) : (t.shw k).v = t.v.map fun x => IntKind.i64.wrap (x + k) := by cases t; rw [Trm.shw]; rfl
theorem Trm.shw_t (k : Int) (t : Trm) : (t.shw k).t = t.t.map (Trm.shw k) := by cases t; rw [Trm.shw, ← Trm.shws_eq]; rfl
theorem Trm.shw_bulk (k : Int) (t : Trm) : (t.shw k).bulk = t.bulk := by
  induction t using Trm.ind with
  | h t ih =>
    have : ∀ l : List Trm, (∀ x ∈ l, (x.shw k).bulk = x.bulk) → Trm.bulks (l.map (Trm.shw k)) = Trm.bulks l := by
      intro l
      induction l with
      | nil => intro _; rfl
      | cons y l ihl => intro h; rw [List.map_cons, Trm.bulks, Trm.bulks, h y (by simp), ihl fun x hx => h x (by simp [hx])]
    rw [Trm.bulk_eq, Trm.bulk_eq, Trm.shw_t, Trm.shw_v, this t.t ih, List.length_map]
theorem shiftw_c (k : Int) (t : Trm) : t.bulk ≤ 1000000000 → ACallP Tryz.prog 32 [.agg t.cells, .int .i64 k] (.agg (t.shw k).cells) := by
  induction t using Trm.ind with
  | h t ih =>
    intro hb
    have hbe := t.bulk_eq
    have hlv := Trm.bulks_length t.t
    have ih' : ∀ x ∈ t.t, ACallP Tryz.prog 32 [.agg x.cells, .int .i64 k] (.agg (x.shw k).cells) := fun x hx => ih x hx (by have := Trm.bulks_mem hx; omega)
    refine ACall.of_body tt_ok Tryz.func32 rfl rfl (n := 70) rfl rfl ?_
    conv => whnf
    repeat ((first | ((first | (apply zY;intro hg) | apply zZ);first | exact stA | exact stB) | (refine zW ?_ ?_;exact gA) | refine zH rfl ?_ | refine zA ?_ | refine zI bA ?_ | refine zI rfl ?_ | refine zJ rfl rfl ?_ | refine zB ?_ | refine zK rfl ?_ | refine zL rfl ?_ | refine zC ?_ | (refine zO ?_ ?_ ?_;omega;omega) | (refine zP ?_ ?_ ?_;omega;omega) | refine zM rfl ?_ | (refine zQ ?_ ?_ ?_;omega;omega) | (refine zR ?_ ?_;omega) | (refine zI ?_ ?_;exact nA) | (refine zS ?_ ?_ ?_;omega;omega) | (refine zT ?_ ?_ ?_;omega;omega) | (refine zU ?_ ?_ ?_;omega;omega) | (refine zV ?_ ?_ ?_;omega;omega) | (refine yA ?_ rfl ?_ ?_;assumption;exact lA) | (refine yB ?_ rfl ?_ ?_;assumption;exact lA) | (refine yC rfl ?_ ?_;exact lA) | refine n0 ?_ | refine zN rfl rfl rfl ?_ | refine zD ?_ | refine zE ?_ | refine zF ?_ | refine PDraw.sP (some 38) rfl [] [10,11,12] tt_ok mixed ?_ | refine PDraw.sP (some 57) rfl [] [10,11,12] tt_ok mixed ?_ | intro _);conv=>whnf)
    rename_i b1 b2 b3
    refine PSeq.join (τ := Unit) (fun _ => []) (fun _ => [.box b3 [.int .i64 t.op, .int .i64 (t.shw k).n, .nil, .nil], .box b2 [.int .i64 0, .int .i64 0, .nil, .nil], .box b1 [.int .i64 t.op, .int .i64 t.n, .sl 1 (t.v.map (PV.int .i64)) none, .sl 4 (t.t.map Trm.pv) none]]) (fun _ => True) ?_ ?_
    · conv => whnf
      repeat' (first | ((first | ((first | (apply zY;intro hg) | apply zZ);first | exact stA | exact stB) | (refine zW ?_ ?_;exact gA) | refine zH rfl ?_ | refine zA ?_ | refine zI bA ?_ | refine zI rfl ?_ | refine zJ rfl rfl ?_ | refine zB ?_ | refine zK rfl ?_ | refine zL rfl ?_ | refine zC ?_ | (refine zO ?_ ?_ ?_;omega;omega) | (refine zP ?_ ?_ ?_;omega;omega) | refine zM rfl ?_ | (refine zQ ?_ ?_ ?_;omega;omega) | (refine zR ?_ ?_;omega) | (refine zI ?_ ?_;exact nA) | (refine zS ?_ ?_ ?_;omega;omega) | (refine zT ?_ ?_ ?_;omega;omega) | (refine zU ?_ ?_ ?_;omega;omega) | (refine zV ?_ ?_ ?_;omega;omega) | (refine yA ?_ rfl ?_ ?_;assumption;exact lA) | (refine yB ?_ rfl ?_ ?_;assumption;exact lA) | (refine yC rfl ?_ ?_;exact lA) | refine n0 ?_ | refine zN rfl rfl rfl ?_ | refine zD ?_ | refine zE ?_ | refine zF ?_ | refine PDraw.sP (some 38) rfl [] [10,11,12] tt_ok mixed ?_ | refine PDraw.sP (some 57) rfl [] [10,11,12] tt_ok mixed ?_ | intro _ | refine zG ?_);conv=>whnf) | (refine zX (fun hc => ?_) (fun hc => ?_)<;>(try simp only [SY] at hc)<;>first | omega | (conv=>whnf)))
      · have hn : namesB t.op = true := by simp [namesB]; omega
        have e : (t.shw k).n = IntKind.i64.wrap (t.n + k) := by rw [Trm.shw_n, if_pos hn]
        refine PInt.w ?_
        conv => whnf
        repeat' (first | ((first | ((first | (apply zY;intro hg) | apply zZ);first | exact stA | exact stB) | (refine zW ?_ ?_;exact gA) | refine zH rfl ?_ | refine zA ?_ | refine zI bA ?_ | refine zI rfl ?_ | refine zJ rfl rfl ?_ | refine zB ?_ | refine zK rfl ?_ | refine zL rfl ?_ | refine zC ?_ | (refine zO ?_ ?_ ?_;omega;omega) | (refine zP ?_ ?_ ?_;omega;omega) | refine zM rfl ?_ | (refine zQ ?_ ?_ ?_;omega;omega) | (refine zR ?_ ?_;omega) | (refine zI ?_ ?_;exact nA) | (refine zS ?_ ?_ ?_;omega;omega) | (refine zT ?_ ?_ ?_;omega;omega) | (refine zU ?_ ?_ ?_;omega;omega) | (refine zV ?_ ?_ ?_;omega;omega) | (refine yA ?_ rfl ?_ ?_;assumption;exact lA) | (refine yB ?_ rfl ?_ ?_;assumption;exact lA) | (refine yC rfl ?_ ?_;exact lA) | refine n0 ?_ | refine zN rfl rfl rfl ?_ | refine zD ?_ | refine zE ?_ | refine zF ?_ | refine PDraw.sP (some 38) rfl [] [10,11,12] tt_ok mixed ?_ | refine PDraw.sP (some 57) rfl [] [10,11,12] tt_ok mixed ?_ | intro _ | refine zG ?_);conv=>whnf) | (refine zX (fun hc => ?_) (fun hc => ?_)<;>(try simp only [SY] at hc)<;>first | omega | (conv=>whnf)))
        rw [e]
        exact joinEnd () trivial wA
      · have hn : ¬ namesB t.op = true := by simp [namesB]; omega
        have e : (t.shw k).n = t.n := by rw [Trm.shw_n, if_neg hn]
        rw [e]
        exact joinEnd () trivial wA
    · intro _ _
      conv => whnf
      repeat' (first | ((first | ((first | (apply zY;intro hg) | apply zZ);first | exact stA | exact stB) | (refine zW ?_ ?_;exact gA) | refine zH rfl ?_ | refine zA ?_ | refine zI bA ?_ | refine zI rfl ?_ | refine zJ rfl rfl ?_ | refine zB ?_ | refine zK rfl ?_ | refine zL rfl ?_ | refine zC ?_ | (refine zO ?_ ?_ ?_;omega;omega) | (refine zP ?_ ?_ ?_;omega;omega) | refine zM rfl ?_ | (refine zQ ?_ ?_ ?_;omega;omega) | (refine zR ?_ ?_;omega) | (refine zI ?_ ?_;exact nA) | (refine zS ?_ ?_ ?_;omega;omega) | (refine zT ?_ ?_ ?_;omega;omega) | (refine zU ?_ ?_ ?_;omega;omega) | (refine zV ?_ ?_ ?_;omega;omega) | (refine yA ?_ rfl ?_ ?_;assumption;exact lA) | (refine yB ?_ rfl ?_ ?_;assumption;exact lA) | (refine yC rfl ?_ ?_;exact lA) | refine n0 ?_ | refine zN rfl rfl rfl ?_ | refine zD ?_ | refine zE ?_ | refine zF ?_ | refine PDraw.sP (some 38) rfl [] [10,11,12] tt_ok mixed ?_ | refine PDraw.sP (some 57) rfl [] [10,11,12] tt_ok mixed ?_ | intro _ | refine zG ?_);conv=>whnf) | (refine zX (fun hc => ?_) (fun hc => ?_)<;>(try simp only [SY] at hc)<;>first | omega | (conv=>whnf)))
      generalize hN : (t.shw k).n = N
      refine PLoop.ghost (Ghost.trans (Ghost.nil 1 3 _) (Ghost.trans (Ghost.nil 4 26 _) (Ghost.box (b := b3) (cs := [.int .i64 t.op, .int .i64 N, .nil, .nil]) (cs' := [.int .i64 t.op, .int .i64 N, .sl 1 (([] : List Int).map (PV.int .i64)) (some (nilTok 1 3)), .sl 4 (([] : List Trm).map Trm.pv) (some (nilTok 4 26))]) wA))) ?_
      refine PLoop.over [6, 31, 32, 33, 34, 35, 36, 37, 38, 39, 40, 41, 42, 43, 44, 45, 46, 47, 48, 49] (fun (x : Nat × List Int × Tok) => [(6, .int .i64 x.1)])
        (fun (x : Nat × List Int × Tok) => [.box b3 [.int .i64 t.op, .int .i64 N, .sl 1 (x.2.1.map (PV.int .i64)) (some x.2.2), .sl 4 (([] : List Trm).map Trm.pv) (some (nilTok 4 26))], .tok x.2.2, .tok (nilTok 4 26), .box b2 [.int .i64 0, .int .i64 0, .nil, .nil], .box b1 [.int .i64 t.op, .int .i64 t.n, .sl 1 (t.v.map (PV.int .i64)) none, .sl 4 (t.t.map Trm.pv) none]])
        (fun x => x.1 ≤ t.v.length ∧ x.2.2.e = 3 ∧ x.2.1 = (t.v.map fun x => IntKind.i64.wrap (x + k)).take x.1) (fun x => t.v.length - x.1) (0, [], nilTok 1 3) ⟨Nat.zero_le _, rfl, rfl⟩ wA ?_
      rintro ⟨i, l, tk⟩ ⟨hi, htk, hl⟩
      dsimp only at hi htk hl ⊢
      have hll : l.length ≤ 1000000000 := by rw [hl, List.length_take]; simp; omega
      conv => whnf
      repeat' (first | ((first | ((first | (apply zY;intro hg) | apply zZ);first | exact stA | exact stB) | (refine zW ?_ ?_;exact gA) | refine zH rfl ?_ | refine zA ?_ | refine zI bA ?_ | refine zI rfl ?_ | refine zJ rfl rfl ?_ | refine zB ?_ | refine zK rfl ?_ | refine zL rfl ?_ | refine zC ?_ | (refine zO ?_ ?_ ?_;omega;omega) | (refine zP ?_ ?_ ?_;omega;omega) | refine zM rfl ?_ | (refine zQ ?_ ?_ ?_;omega;omega) | (refine zR ?_ ?_;omega) | (refine zI ?_ ?_;exact nA) | (refine zS ?_ ?_ ?_;omega;omega) | (refine zT ?_ ?_ ?_;omega;omega) | (refine zU ?_ ?_ ?_;omega;omega) | (refine zV ?_ ?_ ?_;omega;omega) | (refine yA ?_ rfl ?_ ?_;assumption;exact lA) | (refine yB ?_ rfl ?_ ?_;assumption;exact lA) | (refine yC rfl ?_ ?_;exact lA) | refine n0 ?_ | refine zN rfl rfl rfl ?_ | refine zD ?_ | refine zE ?_ | refine zF ?_ | refine PDraw.sP (some 38) rfl [] [10,11,12] tt_ok mixed ?_ | refine PDraw.sP (some 57) rfl [] [10,11,12] tt_ok mixed ?_ | intro _ | refine zG ?_);conv=>whnf) | (refine zX (fun hc => ?_) (fun hc => ?_)<;>(try simp only [SY] at hc)<;>first | omega | (conv=>whnf)))
      · have hlt : i < t.v.length := by omega
        refine PStb.of (.int .i64 (IntKind.i64.wrap (t.v[i] + k))) ?_ ?_
        · conv => whnf
          refine PInt.w ?_
          exact PShift.same
        conv => whnf
        repeat' (first | ((first | ((first | (apply zY;intro hg) | apply zZ);first | exact stA | exact stB) | (refine zW ?_ ?_;exact gA) | refine zH rfl ?_ | refine zA ?_ | refine zI bA ?_ | refine zI rfl ?_ | refine zJ rfl rfl ?_ | refine zB ?_ | refine zK rfl ?_ | refine zL rfl ?_ | refine zC ?_ | (refine zO ?_ ?_ ?_;omega;omega) | (refine zP ?_ ?_ ?_;omega;omega) | refine zM rfl ?_ | (refine zQ ?_ ?_ ?_;omega;omega) | (refine zR ?_ ?_;omega) | (refine zI ?_ ?_;exact nA) | (refine zS ?_ ?_ ?_;omega;omega) | (refine zT ?_ ?_ ?_;omega;omega) | (refine zU ?_ ?_ ?_;omega;omega) | (refine zV ?_ ?_ ?_;omega;omega) | (refine yA ?_ rfl ?_ ?_;assumption;exact lA) | (refine yB ?_ rfl ?_ ?_;assumption;exact lA) | (refine yC rfl ?_ ?_;exact lA) | refine n0 ?_ | refine zN rfl rfl rfl ?_ | refine zD ?_ | refine zE ?_ | refine zF ?_ | refine PDraw.sP (some 38) rfl [] [10,11,12] tt_ok mixed ?_ | refine PDraw.sP (some 57) rfl [] [10,11,12] tt_ok mixed ?_ | intro _ | refine zG ?_);conv=>whnf) | (refine zX (fun hc => ?_) (fun hc => ?_)<;>(try simp only [SY] at hc)<;>first | omega | (conv=>whnf)))
        exact loopTo (i + 1, l ++ [IntKind.i64.wrap (t.v[i] + k)], _) ⟨by show i + 1 ≤ _; omega, by assumption, by show l ++ [_] = (t.v.map fun x => IntKind.i64.wrap (x + k)).take (i + 1); rw [List.take_succ_eq_append_getElem (by simp; omega), ← hl]; simp⟩ (by show t.v.length - (i + 1) < t.v.length - i; omega) wA
      · obtain rfl : l = t.v.map fun x => IntKind.i64.wrap (x + k) := by rw [hl, List.take_of_length_le (by simp; omega)]
        refine PLoop.over [7, 50, 51, 52, 53, 54, 55, 56, 57, 58, 59, 60, 61, 62, 63, 64, 65, 66, 67, 68] (fun (x : Nat × List Trm × Tok) => [(7, .int .i64 x.1)])
          (fun (x : Nat × List Trm × Tok) => [.box b3 [.int .i64 t.op, .int .i64 N, .sl 1 ((t.v.map fun x => IntKind.i64.wrap (x + k)).map (PV.int .i64)) (some tk), .sl 4 (x.2.1.map Trm.pv) (some x.2.2)], .tok x.2.2, .tok tk, .box b2 [.int .i64 0, .int .i64 0, .nil, .nil], .box b1 [.int .i64 t.op, .int .i64 t.n, .sl 1 (t.v.map (PV.int .i64)) none, .sl 4 (t.t.map Trm.pv) none]])
          (fun x => x.1 ≤ t.t.length ∧ x.2.2.e = 26 ∧ x.2.1 = (t.t.map (Trm.shw k)).take x.1) (fun x => t.t.length - x.1) (0, [], nilTok 4 26) ⟨Nat.zero_le _, rfl, rfl⟩ wA ?_
        rintro ⟨j, m, tm⟩ ⟨hj, htm, hm⟩
        dsimp only at hj htm hm ⊢
        have hml : m.length ≤ 1000000000 := by rw [hm, List.length_take]; simp; omega
        conv => whnf
        repeat' (first | ((first | ((first | (apply zY;intro hg) | apply zZ);focus ((conv=>whnf);(repeat ((first | (refine zW ?_ ?_;exact gA) | refine zH rfl ?_ | refine zA ?_ | refine zI bA ?_ | refine zI rfl ?_ | refine zJ rfl rfl ?_ | refine zB ?_ | refine zK rfl ?_ | refine zL rfl ?_ | refine zC ?_ | (refine zO ?_ ?_ ?_;exact OA;exact OA) | (refine zP ?_ ?_ ?_;exact OA;exact OA) | refine zM rfl ?_ | (refine zQ ?_ ?_ ?_;exact OA;exact OA) | (refine zR ?_ ?_;exact OA) | (refine zI ?_ ?_;exact NA) | (refine zS ?_ ?_ ?_;exact OA;exact OA) | (refine zT ?_ ?_ ?_;exact OA;exact OA) | (refine zU ?_ ?_ ?_;exact OA;exact OA) | (refine zV ?_ ?_ ?_;exact OA;exact OA) | refine PCall.pure (ih' _ (List.getElem_mem _)) (WkT.refl _) ?_ | refine PCall.pure (ih' _ (List.getElem_mem _)) cA ?_ | intro _);conv=>whnf));first | exact PShift.same | exact PShift.lit | exact PShift.ep)) | ((first | (apply zY;intro hg) | apply zZ);exact stB) | (refine zW ?_ ?_;exact gA) | refine zH rfl ?_ | refine zA ?_ | refine zI bA ?_ | refine zI rfl ?_ | refine zJ rfl rfl ?_ | refine zB ?_ | refine zK rfl ?_ | refine zL rfl ?_ | refine zC ?_ | (refine zO ?_ ?_ ?_;omega;omega) | (refine zP ?_ ?_ ?_;omega;omega) | refine zM rfl ?_ | (refine zQ ?_ ?_ ?_;omega;omega) | (refine zR ?_ ?_;omega) | (refine zI ?_ ?_;exact nA) | (refine zS ?_ ?_ ?_;omega;omega) | (refine zT ?_ ?_ ?_;omega;omega) | (refine zU ?_ ?_ ?_;omega;omega) | (refine zV ?_ ?_ ?_;omega;omega) | refine PCall.pure (ih' _ (List.getElem_mem _)) (WkT.refl _) ?_ | refine PCall.pure (ih' _ (List.getElem_mem _)) cA ?_ | (refine yA ?_ rfl ?_ ?_;assumption;exact lA) | (refine yB ?_ rfl ?_ ?_;assumption;exact lA) | (refine yC rfl ?_ ?_;exact lA) | refine n0 ?_ | refine zN rfl rfl rfl ?_ | refine zD ?_ | refine zE ?_ | refine zF ?_ | refine PDraw.sP (some 38) rfl [] [10,11,12] tt_ok mixed ?_ | refine PDraw.sP (some 57) rfl [] [10,11,12] tt_ok mixed ?_ | intro _ | refine zG ?_);conv=>whnf) | (refine zX (fun hc => ?_) (fun hc => ?_)<;>(try simp only [SY] at hc)<;>first | omega | (conv=>whnf)))
        · have hlt : j < t.t.length := by omega
          exact loopTo (j + 1, m ++ [t.t[j].shw k], _) ⟨by show j + 1 ≤ _; omega, by assumption, by show m ++ [t.t[j].shw k] = (t.t.map (Trm.shw k)).take (j + 1); rw [List.take_succ_eq_append_getElem (by simp; omega), ← hm]; simp⟩ (by show t.t.length - (j + 1) < t.t.length - j; omega) wA
        · obtain rfl : m = t.t.map (Trm.shw k) := by rw [hm, List.take_of_length_le (by simp; omega)]
          have e : (t.shw k).cells = [.int .i64 t.op, .int .i64 N, .sl 1 ((t.v.map fun x => IntKind.i64.wrap (x + k)).map (PV.int .i64)) none, .sl 4 ((t.t.map (Trm.shw k)).map Trm.pv) none] := by
            unfold Trm.cells
            rw [Trm.shw_op, Trm.shw_v, Trm.shw_t, hN]
          rw [e]
          exact PRet.pure wA
end Go.Cb

