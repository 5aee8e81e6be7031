/-
  Layings of the library's contracts at this seat (written by the kit's tools).
  Contracts: numbers sorted by the library, equal neighbours struck.
  Plain laws: numbers in order, each once.
  Contracts: what a term names and does not bind, what it binds, how often a variable is named and assigned.
  Plain law: what a check says of a program, and how it leans on the number of constants.
  Plain laws: what a term names, binds; how deep it lies.
  Contracts: what is right names what it binds.
  Contracts: what is right names what it binds.
-/
import Derived.Lib.SlicesCompact
import Derived.Shelf.Slices.CompactI
import Derived.Shelf.Slices.In.SortNone
import Derived.Shelf.Sort.Plain
import Derived.Sort.OwnSortedInts
import Derived.Test.YtpkgembbjlebcaaGreatDoorProg
import Derived.Test.YtpkgembbjlebcaaGreatDoorC5
set_option linter.unusedSimpArgs false
set_option linter.unusedVariables false
namespace Go.Proofs
open Go.Shelf
def Tryz.lays189_ren : Go.Shelf.Ren := ⟨fun | 189 => 86 | 125 => 132 | 257 => 131 | 128 => 165 | 129 => 166 | 294 => 156 | 295 => 157 | 296 => 158 | 297 => 159 | 298 => 160 | 299 => 161 | 216 => 162 | 300 => 163 | 301 => 164 | 328 => 178 | 329 => 179 | 330 => 180 | 331 => 181 | 332 => 182 | 215 => 183 | 343 => 199 | n => n, fun | 28 => 23 | 3 => 3 | 46 => 158 | 0 => 0 | 51 => 183 | 53 => 185 | 4 => 4 | 183 => 177 | 182 => 176 | 131 => 169 | 5 => 5 | 9 => 9 | 218 => 194 | 222 => 198 | 228 => 216 | 229 => 165 | n => n, fun | n => n⟩
theorem Tryz.lays189 : Go.Proofs.Lays.n189 Tryz.prog Tryz.lays189_ren := {
  mixed := by kernel_rfl
  f125 := Tryz.func132.trans (congrArg some (by kernel_rfl))
  f128 := Tryz.func165.trans (congrArg some (by kernel_rfl))
  f129 := Tryz.func166.trans (congrArg some (by kernel_rfl))
  f189 := Tryz.func86.trans (congrArg some (by kernel_rfl))
  f215 := Tryz.func183.trans (congrArg some (by kernel_rfl))
  f216 := Tryz.func162.trans (congrArg some (by kernel_rfl))
  f257 := Tryz.func131.trans (congrArg some (by kernel_rfl))
  f294 := Tryz.func156.trans (congrArg some (by kernel_rfl))
  f295 := Tryz.func157.trans (congrArg some (by kernel_rfl))
  f296 := Tryz.func158.trans (congrArg some (by kernel_rfl))
  f297 := Tryz.func159.trans (congrArg some (by kernel_rfl))
  f298 := Tryz.func160.trans (congrArg some (by kernel_rfl))
  f299 := Tryz.func161.trans (congrArg some (by kernel_rfl))
  f300 := Tryz.func163.trans (congrArg some (by kernel_rfl))
  f301 := Tryz.func164.trans (congrArg some (by kernel_rfl))
  f328 := Tryz.func178.trans (congrArg some (by kernel_rfl))
  f329 := Tryz.func179.trans (congrArg some (by kernel_rfl))
  f330 := Tryz.func180.trans (congrArg some (by kernel_rfl))
  f331 := Tryz.func181.trans (congrArg some (by kernel_rfl))
  f332 := Tryz.func182.trans (congrArg some (by kernel_rfl))
  f343 := Tryz.func199.trans (congrArg some (by kernel_rfl))
  t0 := Tryz.underlying0
  a0 := Tryz.isAgg0
  z0 := Tryz.sizeOf0
  v0 := Tryz.zeroValue0
  t3 := Tryz.underlying3
  a3 := Tryz.isAgg3
  z3 := Tryz.sizeOf3
  v3 := Tryz.zeroValue3
  t4 := Tryz.underlying4
  a4 := Tryz.isAgg4
  z4 := Tryz.sizeOf4
  v4 := Tryz.zeroValue4
  t5 := Tryz.underlying5
  a5 := Tryz.isAgg5
  z5 := Tryz.sizeOf5
  v5 := Tryz.zeroValue5
  t9 := Tryz.underlying9
  a9 := Tryz.isAgg9
  z9 := Tryz.sizeOf9
  v9 := Tryz.zeroValue9
  t28 := Tryz.underlying23
  a28 := Tryz.isAgg23
  z28 := Tryz.sizeOf23
  v28 := Tryz.zeroValue23
  t46 := Tryz.underlying158
  a46 := Tryz.isAgg158
  z46 := Tryz.sizeOf158
  v46 := Tryz.zeroValue158
  t51 := Tryz.underlying183
  a51 := Tryz.isAgg183
  z51 := Tryz.sizeOf183
  v51 := Tryz.zeroValue183
  t53 := Tryz.underlying185
  a53 := Tryz.isAgg185
  z53 := Tryz.sizeOf185
  v53 := Tryz.zeroValue185
  t131 := Tryz.underlying169
  a131 := Tryz.isAgg169
  z131 := Tryz.sizeOf169
  v131 := Tryz.zeroValue169
  t182 := Tryz.underlying176
  a182 := Tryz.isAgg176
  z182 := Tryz.sizeOf176
  v182 := Tryz.zeroValue176
  t183 := Tryz.underlying177
  a183 := Tryz.isAgg177
  z183 := Tryz.sizeOf177
  v183 := Tryz.zeroValue177
  t218 := Tryz.underlying194
  a218 := Tryz.isAgg194
  z218 := Tryz.sizeOf194
  v218 := Tryz.zeroValue194
  t222 := Tryz.underlying198
  a222 := Tryz.isAgg198
  z222 := Tryz.sizeOf198
  v222 := Tryz.zeroValue198
  t228 := Tryz.underlying216
  a228 := Tryz.isAgg216
  z228 := Tryz.sizeOf216
  v228 := Tryz.zeroValue216
  t229 := Tryz.underlying165
  a229 := Tryz.isAgg165
  z229 := Tryz.sizeOf165
  v229 := Tryz.zeroValue165 }
def Tryz.laysNm220_ren : Go.Shelf.Ren := ⟨fun | 20 => 87 | n => n, fun | 22 => 23 | 3 => 3 | 4 => 4 | 0 => 0 | n => n, fun | n => n⟩
theorem Tryz.laysNm220 : Go.Proofs.Lays2.n20 Tryz.prog Tryz.laysNm220_ren := {
  mixed := by kernel_rfl
  f20 := Tryz.func87.trans (congrArg some (by kernel_rfl))
  t0 := Tryz.underlying0
  a0 := Tryz.isAgg0
  z0 := Tryz.sizeOf0
  v0 := Tryz.zeroValue0
  t3 := Tryz.underlying3
  a3 := Tryz.isAgg3
  z3 := Tryz.sizeOf3
  v3 := Tryz.zeroValue3
  t4 := Tryz.underlying4
  a4 := Tryz.isAgg4
  z4 := Tryz.sizeOf4
  v4 := Tryz.zeroValue4
  t22 := Tryz.underlying23
  a22 := Tryz.isAgg23
  z22 := Tryz.sizeOf23
  v22 := Tryz.zeroValue23
  i3 := by kernel_rfl }
end Go.Proofs
namespace Go.Cb
open Go.Proofs Go.Sort
open Go.RowKit (Below)
set_option maxRecDepth 100000
set_option maxHeartbeats 4000000
theorem flat_ints : ∀ l : List Int, flat (l.map (PV.int .i64)) = l.map (PV.int .i64)
  | [] => rfl
  | x :: l => by
    have := flat_ints l
    simp only [flat, List.map_cons, List.flatMap_cons, PV.cellsOf] at this ⊢
    rw [this]; rfl
theorem repL_ints (F : Fz) : ∀ l : List Int, RepL F (l.map (PV.int .i64)) (l.map (Value.int .i64))
  | [] => RepL_nil F
  | x :: l => RepL_cons.2 ⟨⟨rfl, by simp only [Rep]⟩, repL_ints F l⟩
theorem repL_ints_eq {F : Fz} : ∀ {l : List Int} {xs : List Value}, RepL F (l.map (PV.int .i64)) xs → xs = l.map (Value.int .i64)
  | [], [], _ => rfl
  | [], _ :: _, h => by simp only [List.map_nil, RepL] at h
  | _ :: _, [], h => by simp only [List.map_cons, RepL] at h
  | x :: l, v :: xs, h => by
    have h := RepL_cons.1 h
    have h1 : v = .int .i64 x := by simpa only [Rep] using h.1.2
    rw [h1, repL_ints_eq h.2]; rfl
theorem Sim.putInts {w0 : World} {F : Fz} {M : List Ent} {w : World} {t : Tok} {l ts : List Int} (h : Sim w0 F (.row t (l.map (PV.int .i64)) :: M) w) (hs : t.s = 1) (hlen : ts.length = l.length) {g : Nat} (hg : t.b = some g) (q : Nat) (os : Array Obj) :
    Sim w0 F (.row t (ts.map (PV.int .i64)) :: M) (grow (putRow (Value.int .i64) (Sort.ahead w q) g 0 ts.toArray) os) := by
  obtain ⟨⟨xs, hown, hr⟩, hes, e2, hfree⟩ := h.ent _ (List.mem_cons_self ..)
  rcases hown.2 with ⟨h1, _⟩ | ⟨g', cap, cur, hb, hv, hB, hh, hnc, hcm, hsz, htake⟩
  · rw [h1] at hg; cases hg
  obtain rfl : g' = g := by rw [hb] at hg; simpa using hg
  have hsep := List.pairwise_cons.1 h.sep
  have hgr : w.grownBy (grow (putRow (Value.int .i64) (Sort.ahead w q) g' 0 ts.toArray) os) (some g') := grownBy_sortedI ts.toArray
  have hn : l.length = t.n := by simpa using e2
  have hfl : flat (ts.map (PV.int .i64)) = ts.map (PV.int .i64) := flat_ints ts
  refine Sim.rowE (t := t) (ys := ts.map (PV.int .i64)) (xs := ts.map (Value.int .i64)) h.tail ((Below.refl _ w).grown hgr h.below.size fun k hk => by simp at hk; omega) ?_ (by simp [hs, PV.cellsOf]) (by simp; omega) (by rw [hfl]; exact repL_ints F ts) ?_ ?_ hfree
  · refine ⟨by simp [hs]; omega, .inr ⟨g', cap, _, hb, hv, hB, heap_sortedI ts.toArray hh, hnc, hcm, by simp [putCells, hsz], ?_⟩⟩
    have : t.n * t.s = ts.length := by rw [hs]; omega
    rw [this]
    exact take_putCellsI cur ts (by rw [hsz, hs]; omega)
  · intro b o u x
    have hne : b ≠ g' := fun e => by rw [e, hfree g' hb o] at x; cases x
    have hlt := World.block_lt_of_cell? w _ (h.fz b o u x)
    rw [World.cell?_of_block (w := w) (hgr.block b hlt (by simp; omega))]
    exact h.fz b o u x
  · intro e he k hk
    have hne : t.b ≠ some k := by
      rcases hsep.1 e he with hh | hh
      · simp only [Ent.blk] at hh; rw [hh]; simp
      · intro hx; exact hh (by rw [hk]; exact hx)
    have hlt := (Ent.blk_lt (h.ent e (List.mem_cons_of_mem _ he)) hk).2
    exact ⟨hgr.block k hlt (by rw [hb] at hne; exact fun e => hne e.symm), hne⟩
theorem compact_len (l : List Int) : (Lib.compact l).length ≤ l.length := by
  unfold Lib.compact Lib.compactUpTo
  rw [List.length_map]
  exact Nat.le_trans (List.length_filter_le _ _) (by simp)
theorem row_ints {w0 : World} {F : Fz} {M : List Ent} {w : World} {t : Tok} {l : List Int} (h : Sim w0 F (.row t (l.map (PV.int .i64)) :: M) w) (hs : t.s = 1) :
    (l = [] ∧ ∃ p, t.v = .slice p 0 0) ∨ ∃ g cap, t.b = some g ∧ t.v = .slice (some ⟨g, 0, none⟩) l.length cap ∧ Holds (Value.int .i64) w g 0 l.toArray ∧ g < w.heap.size ∧ l.length ≤ cap ∧ t.n = l.length := by
  obtain ⟨⟨xs, hown, hr⟩, hes, e2, hfree⟩ := h.ent _ (List.mem_cons_self ..)
  have hn : l.length = t.n := by simpa using e2
  rcases hown.2 with ⟨h1, h2, h3⟩ | ⟨g, cap, cur, hb, hv, hB, hh, hnc, hcm, hsz, htake⟩
  · refine .inl ⟨List.eq_nil_of_length_eq_zero (by omega), ?_⟩
    rcases h3 with h3 | ⟨a, h3⟩
    · exact ⟨none, h3⟩
    · exact ⟨some a, h3⟩
  · rw [flat_ints] at hr
    have hx := repL_ints_eq hr
    refine .inr ⟨g, cap, hb, by rw [hn]; exact hv, holds_of_blockI (e := t.e) (cur := cur) hh (by rw [← hx, ← htake, hs, hn, Nat.mul_one]), (Array.getElem?_eq_some_iff.1 hh).1, by omega, hn.symm⟩
theorem sort_c (t : Tok) (l : List Int) (hs : t.s = 1) (hl : l.length ≤ 1000000000) :
    ACall Tryz.prog 86 [.ms t] [.row t (l.map (PV.int .i64))] (fun y Γ' => y = .tup [] ∧ Γ' = [.row t ((l.mergeSort fun x y => decide (x ≤ y)).map (PV.int .i64))]) := by
  refine ⟨⟨_, Tryz.func86, rfl, rfl⟩, fun w0 F M w vs hS hT => ?_⟩
  obtain rfl : vs = [t.v] := by
    match vs, hT with
    | [v], hT => simp only [RepT, Rep, and_true] at hT; rw [hT.1]
  rcases row_ints hS hs with ⟨rfl, p, hv⟩ | ⟨g, cap, hb, hv, hH, hg, hc, hn⟩
  · rw [hv]
    refine (Any.slices_Sort_int_none Tryz.lays189 p 0 w).mono ?_
    rintro e w' ⟨rfl, rfl⟩
    exact ⟨_, F, .tup [], _, rfl, Fz.le_refl F, hS, by simp only [Rep]; exact ⟨[], rfl, by simp [RepT]⟩, rfl, by simp⟩
  · rw [hv]
    refine (Any.slices_Sort_int Tryz.lays189 g 0 cap l w hH hg (by omega)).mono ?_
    rintro e w' ⟨rfl, q, os, rfl⟩
    exact ⟨_, F, .tup [], _, rfl, Fz.le_refl F, hS.putInts hs (by simp) hb q os, by simp only [Rep]; exact ⟨[], rfl, by simp [RepT]⟩, rfl, rfl⟩
theorem compact_c (t : Tok) (l : List Int) (hs : t.s = 1) (hl : l.length ≤ 1000000000) :
    ACall Tryz.prog 87 [.ms t] [.row t (l.map (PV.int .i64))] (fun y Γ' => ∃ t' : Tok, t'.e = t.e ∧ t'.s = 1 ∧ y = .ms t' ∧ Γ' = [.row t' ((Lib.compact l).map (PV.int .i64))]) := by
  refine ⟨⟨_, Tryz.func87, rfl, rfl⟩, fun w0 F M w vs hS hT => ?_⟩
  obtain ⟨rfl, h1⟩ : vs = [t.v] ∧ t.v.oneCell' = true := by
    match vs, hT with
    | [v], hT => simp only [RepT, Rep, and_true] at hT; rw [hT.1]; exact ⟨rfl, hT.2⟩
  rcases row_ints hS hs with ⟨rfl, p, hv⟩ | ⟨g, cap, hb, hv, hH, hg, hc, hn⟩
  · rw [hv]
    refine (Any.slices_Compact_int_empty Tryz.laysNm220 p 0 w).mono ?_
    rintro e w' ⟨rfl, rfl⟩
    exact ⟨_, F, .ms t, _, rfl, Fz.le_refl F, hS, by simp only [Rep]; exact ⟨hv.symm, h1⟩, t, rfl, hs, rfl, by simp [Lib.compact, Lib.compactUpTo]⟩
  · rw [hv]
    refine (Any.slices_Compact_int Tryz.laysNm220 g 0 cap l w hH (by omega) hc).mono ?_
    rintro e w' ⟨rfl, q, rfl⟩
    have hle := compact_len l
    have h2 := hS.putInts (ts := Lib.compact l ++ List.replicate (l.length - (Lib.compact l).length) 0) hs (by simp; omega) hb q #[]
    rw [grow_empty] at h2
    have h3 := Sim.take_row (M1 := []) h2 hb (by rw [hn]; exact hv) (Lib.compact l).length (by simp)
    have fin : ∀ T : Tok, T = ⟨.slice (some ⟨g, 0, none⟩) (Lib.compact l).length cap, (Lib.compact l).length, t.s, t.e, some g⟩ → ∃ v F' y Γ', (Ending.returned (.slice (some ⟨g, 0, none⟩) (Lib.compact l).length cap)) = .returned v ∧ F.le F' ∧ Sim w0 F' (Γ' ++ M) (putRow (Value.int .i64) (Sort.ahead w q) g 0 (Lib.compact l ++ List.replicate (l.length - (Lib.compact l).length) 0).toArray) ∧ Rep F' y v ∧ ∃ t' : Tok, t'.e = t.e ∧ t'.s = 1 ∧ y = .ms t' ∧ Γ' = [.row t' ((Lib.compact l).map (PV.int .i64))] := by
      intro T hT
      subst hT
      refine ⟨_, F, .ms ⟨.slice (some ⟨g, 0, none⟩) (Lib.compact l).length cap, (Lib.compact l).length, t.s, t.e, some g⟩, [.row ⟨.slice (some ⟨g, 0, none⟩) (Lib.compact l).length cap, (Lib.compact l).length, t.s, t.e, some g⟩ ((Lib.compact l).map (PV.int .i64))], rfl, Fz.le_refl F, ?_, by unfold Rep; exact ⟨rfl, rfl⟩, ⟨.slice (some ⟨g, 0, none⟩) (Lib.compact l).length cap, (Lib.compact l).length, t.s, t.e, some g⟩, rfl, hs, rfl, rfl⟩
      simpa using h3
    exact fin _ rfl
end Go.Cb
namespace Go.Cb
open Go.Lib
def riseL (l : List Int) : List Int := compact (l.mergeSort fun x y => decide (x ≤ y))
theorem arr_get! {α : Type} [Inhabited α] {l : List α} {j : Nat} (h : j < l.length) : l.toArray[j]! = l[j] := by
  rw [getElem!_pos _ j (by simpa using h)]; simp
theorem mem_compact (l : List Int) (x : Int) : x ∈ compact l ↔ x ∈ l := by
  unfold compact compactUpTo
  simp only [List.mem_map, List.mem_filter, List.mem_range]
  constructor
  · rintro ⟨j, ⟨hj, _⟩, rfl⟩
    rw [arr_get! hj]
    exact List.getElem_mem hj
  · intro hx
    have key : ∀ n (j : Nat) (hj : j < l.length), j ≤ n → l[j] = x → ∃ i, (i < l.length ∧ keeps l.toArray i = true) ∧ l.toArray[i]! = x := by
      intro n
      induction n with
      | zero =>
        intro j hj hn e
        obtain rfl : j = 0 := by omega
        exact ⟨0, ⟨hj, keeps_lt_one _ 0 (by omega)⟩, by rw [arr_get! hj, e]⟩
      | succ n ih =>
        intro j hj hn e
        by_cases h0 : j = 0
        · subst h0
          exact ⟨0, ⟨hj, keeps_lt_one _ 0 (by omega)⟩, by rw [arr_get! hj, e]⟩
        by_cases hp : l[j - 1] = x
        · exact ih (j - 1) (by omega) (by omega) hp
        · refine ⟨j, ⟨hj, keeps_pos ?_⟩, by rw [arr_get! hj, e]⟩
          rw [arr_get! hj, arr_get! (show j - 1 < l.length by omega), e]
          exact fun h => hp h.symm
    obtain ⟨j, hj, e⟩ := List.getElem_of_mem hx
    exact key j j hj (Nat.le_refl _) e
theorem keeps_ne {l : List Int} {j : Nat} (h0 : 0 < j) (hj : j < l.length) (h : keeps l.toArray j = true) : l[j] ≠ l[j - 1] := by
  intro e
  have := keeps_neg (d := l.toArray) h0 (by rw [arr_get! hj, arr_get! (show j - 1 < l.length by omega)]; exact e)
  rw [this] at h; cases h
theorem compact_lt {l : List Int} (h : l.Pairwise (· ≤ ·)) : (compact l).Pairwise (· < ·) := by
  unfold compact compactUpTo
  rw [List.pairwise_map]
  refine List.Pairwise.imp_of_mem ?_ (List.Pairwise.filter _ List.pairwise_lt_range)
  intro i j hi hj hij
  simp only [List.mem_filter, List.mem_range] at hi hj
  rw [arr_get! hi.1, arr_get! hj.1]
  have h1 := keeps_ne (by omega) hj.1 hj.2
  have hp := List.pairwise_iff_getElem.1 h
  have h2 : l[j - 1] ≤ l[j] := hp (j - 1) j (by omega) hj.1 (by omega)
  have h3 : l[i] ≤ l[j - 1] := by
    by_cases e : i = j - 1
    · subst e; omega
    · exact hp i (j - 1) hi.1 (by omega) (by omega)
  omega
theorem mem_rise (l : List Int) (x : Int) : x ∈ riseL l ↔ x ∈ l := by
  unfold riseL
  rw [mem_compact, List.mem_mergeSort]
theorem sorted_le (l : List Int) : (l.mergeSort fun x y => decide (x ≤ y)).Pairwise (· ≤ ·) := by
  have := List.pairwise_mergeSort (le := fun x y : Int => decide (x ≤ y)) (by intro a b c; simp; omega) (by intro a b; simp; omega) l
  simpa using this
theorem rise_lt (l : List Int) : (riseL l).Pairwise (· < ·) := compact_lt (sorted_le l)
theorem lt_ext : ∀ {l m : List Int}, l.Pairwise (· < ·) → m.Pairwise (· < ·) → (∀ x, x ∈ l ↔ x ∈ m) → l = m
  | [], [], _, _, _ => rfl
  | [], y :: m, _, _, h => by have := (h y).2 (by simp); cases this
  | x :: l, [], _, _, h => by have := (h x).1 (by simp); cases this
  | x :: l, y :: m, hl, hm, h => by
    rw [List.pairwise_cons] at hl hm
    have hxy : x = y := by
      have h1 := (h x).1 (by simp)
      have h2 := (h y).2 (by simp)
      rw [List.mem_cons] at h1 h2
      rcases h1 with h1 | h1
      · exact h1
      · rcases h2 with h2 | h2
        · exact h2.symm
        · have := hl.1 _ h2; have := hm.1 _ h1; omega
    subst hxy
    rw [lt_ext hl.2 hm.2 fun z => ?_]
    have := h z
    simp only [List.mem_cons] at this
    constructor
    · intro hz
      have hlt := hl.1 z hz
      exact (this.1 (.inr hz)).resolve_left (by omega)
    · intro hz
      have hlt := hm.1 z hz
      exact (this.2 (.inr hz)).resolve_left (by omega)
theorem rise_len {l : List Int} (h : l.Nodup) : (riseL l).length = l.length := by
  have h1 : (riseL l).Nodup := (rise_lt l).imp fun h => by omega
  have : (riseL l).Perm l := (List.perm_ext_iff_of_nodup h1 h).2 (mem_rise l)
  exact this.length_eq
theorem rise_map (l : List Int) (k : Int) : riseL (l.map (· + k)) = (riseL l).map (· + k) := by
  refine lt_ext (rise_lt _) ?_ fun x => ?_
  · rw [List.pairwise_map]
    exact (rise_lt l).imp fun h => by omega
  · rw [mem_rise, List.mem_map, List.mem_map]
    simp only [mem_rise]
theorem rise_one (x : Int) : riseL [x] = [x] := lt_ext (rise_lt _) (by simp) fun y => mem_rise [x] y
theorem rise_nil : riseL [] = [] := by
  have := mem_rise []
  cases h : riseL [] with
  | nil => rfl
  | cons x l => have := (this x).1 (by rw [h]; simp); cases this
end Go.Cb
namespace Go.Cb
open Go.Proofs
set_option maxRecDepth 100000
set_option maxHeartbeats 4000000
theorem rising_c (t : Tok) (l : List Int) (hs : t.s = 1) (hl : l.length ≤ 1000000000) :
    ACall Tryz.prog 51 [.ms t] [.row t (l.map (PV.int .i64))] (fun y Γ' => ∃ t' : Tok, t'.e = t.e ∧ t'.s = 1 ∧ y = .ms t' ∧ Γ' = [.row t' ((riseL l).map (PV.int .i64))]) := by
  refine ACall.of_body tt_ok Tryz.func51 rfl rfl (n := 7) rfl rfl ?_
  conv => whnf
  repeat ((first | ((first | (apply zY;intro hg) | apply zZ);exact stA) | (refine zW ?_ ?_;exact gA) | refine zH rfl ?_ | refine zA ?_ | refine zI bA ?_ | refine zI rfl ?_ | refine zJ rfl rfl ?_ | refine zB ?_ | refine zK rfl ?_ | refine zL rfl ?_ | refine zC ?_ | (refine zO ?_ ?_ ?_;omega;omega) | (refine zP ?_ ?_ ?_;omega;omega) | refine zM rfl ?_ | (refine zQ ?_ ?_ ?_;omega;omega) | (refine zR ?_ ?_;omega) | (refine zI ?_ ?_;exact nA) | (refine zS ?_ ?_ ?_;omega;omega) | (refine zT ?_ ?_ ?_;omega;omega) | (refine zU ?_ ?_ ?_;omega;omega) | (refine zV ?_ ?_ ?_;omega;omega) | refine zN rfl rfl rfl ?_ | refine zD ?_ | refine zE ?_ | refine zF ?_ | intro _);conv=>whnf)
  conv => whnf
  repeat' (first | ((first | ((first | (apply zY;intro hg) | apply zZ);exact stA) | (refine zW ?_ ?_;exact gA) | refine zH rfl ?_ | refine zA ?_ | refine zI bA ?_ | refine zI rfl ?_ | refine zJ rfl rfl ?_ | refine zB ?_ | refine zK rfl ?_ | refine zL rfl ?_ | refine zC ?_ | (refine zO ?_ ?_ ?_;omega;omega) | (refine zP ?_ ?_ ?_;omega;omega) | refine zM rfl ?_ | (refine zQ ?_ ?_ ?_;omega;omega) | (refine zR ?_ ?_;omega) | (refine zI ?_ ?_;exact nA) | (refine zS ?_ ?_ ?_;omega;omega) | (refine zT ?_ ?_ ?_;omega;omega) | (refine zU ?_ ?_ ?_;omega;omega) | (refine zV ?_ ?_ ?_;omega;omega) | refine zN rfl rfl rfl ?_ | refine zD ?_ | refine zE ?_ | refine zF ?_ | intro _ | refine zG ?_);conv=>whnf) | (refine zX (fun hc => ?_) (fun hc => ?_)<;>(try simp only [SY] at hc)<;>first | omega | (conv=>whnf)))
  refine PCall.go (sort_c t l hs hl) (WkT.refl _) ?_
  rintro _ _ ⟨rfl, rfl⟩
  conv => whnf
  repeat' (first | ((first | ((first | (apply zY;intro hg) | apply zZ);exact stA) | (refine zW ?_ ?_;exact gA) | refine zH rfl ?_ | refine zA ?_ | refine zI bA ?_ | refine zI rfl ?_ | refine zJ rfl rfl ?_ | refine zB ?_ | refine zK rfl ?_ | refine zL rfl ?_ | refine zC ?_ | (refine zO ?_ ?_ ?_;omega;omega) | (refine zP ?_ ?_ ?_;omega;omega) | refine zM rfl ?_ | (refine zQ ?_ ?_ ?_;omega;omega) | (refine zR ?_ ?_;omega) | (refine zI ?_ ?_;exact nA) | (refine zS ?_ ?_ ?_;omega;omega) | (refine zT ?_ ?_ ?_;omega;omega) | (refine zU ?_ ?_ ?_;omega;omega) | (refine zV ?_ ?_ ?_;omega;omega) | refine zN rfl rfl rfl ?_ | refine zD ?_ | refine zE ?_ | refine zF ?_ | intro _ | refine zG ?_);conv=>whnf) | (refine zX (fun hc => ?_) (fun hc => ?_)<;>(try simp only [SY] at hc)<;>first | omega | (conv=>whnf)))
  refine PCall.go (compact_c t (l.mergeSort fun x y => decide (x ≤ y)) hs (by simp; omega)) (WkT.refl _) ?_
  rintro _ _ ⟨t2, e2, s2, rfl, rfl⟩
  conv => whnf
  repeat' (first | ((first | ((first | (apply zY;intro hg) | apply zZ);exact stA) | (refine zW ?_ ?_;exact gA) | refine zH rfl ?_ | refine zA ?_ | refine zI bA ?_ | refine zI rfl ?_ | refine zJ rfl rfl ?_ | refine zB ?_ | refine zK rfl ?_ | refine zL rfl ?_ | refine zC ?_ | (refine zO ?_ ?_ ?_;omega;omega) | (refine zP ?_ ?_ ?_;omega;omega) | refine zM rfl ?_ | (refine zQ ?_ ?_ ?_;omega;omega) | (refine zR ?_ ?_;omega) | (refine zI ?_ ?_;exact nA) | (refine zS ?_ ?_ ?_;omega;omega) | (refine zT ?_ ?_ ?_;omega;omega) | (refine zU ?_ ?_ ?_;omega;omega) | (refine zV ?_ ?_ ?_;omega;omega) | refine zN rfl rfl rfl ?_ | refine zD ?_ | refine zE ?_ | refine zF ?_ | intro _ | refine zG ?_);conv=>whnf) | (refine zX (fun hc => ?_) (fun hc => ?_)<;>(try simp only [SY] at hc)<;>first | omega | (conv=>whnf)))
  have e : Lib.compact (l.mergeSort fun x y => decide (x ≤ y)) = riseL l := rfl
  rw [e]
  exact PRet.gen (Wk.refl _) ⟨t2, e2, s2, rfl, rfl⟩
def bindsOf (l : List (Trm × List Int)) : List Int := l.flatMap fun m => m.1.v
theorem bindsOf_take (l : List (Trm × List Int)) (k : Nat) : (bindsOf (l.take k)).length ≤ (bindsOf l).length := by
  have := congrArg List.length (congrArg bindsOf (List.take_append_drop k l))
  unfold bindsOf at this ⊢
  rw [List.flatMap_append, List.length_append] at this
  omega
theorem Trm.met_vlen (t : Trm) : ∀ (sc : List Int) (deep : Int), (bindsOf (t.met sc deep)).length ≤ t.bulk := by
  induction t using Trm.ind with
  | h t ih =>
    intro sc deep
    rw [Trm.met_eq, t.bulk_eq]
    have key : ∀ (l : List Trm), (∀ y ∈ l, ∀ (sc : List Int) (deep : Int), (bindsOf (y.met sc deep)).length ≤ y.bulk) → ∀ sc inner deep, (bindsOf (Trm.mets t.op sc inner l deep)).length ≤ Trm.bulks l := by
      intro l
      induction l with
      | nil => intro _ _ _ _; simp [Trm.mets, bindsOf]
      | cons x l ihl =>
        intro hy sc inner deep
        have h1 := hy x (by simp) (if groupB t.op = true ∨ l = [] then inner else sc) deep
        have h2 := ihl (fun y h => hy y (by simp [h])) sc inner deep
        unfold bindsOf at h1 h2 ⊢
        rw [Trm.mets, Trm.bulks, List.flatMap_append, List.length_append]
        omega
    have := key t.t ih sc (sc ++ t.v) (deep + 1)
    unfold bindsOf at this ⊢
    rw [List.flatMap_cons, List.length_append]
    split
    · simp; omega
    · show t.v.length + _ ≤ _
      omega
theorem free_c0 (t : Trm) (hb : t.bulk ≤ 1000000000) : ACall Tryz.prog 21 [.agg t.cells] [] (fun y Γ' => ∃ tk : Tok, tk.e = 3 ∧ tk.s = 1 ∧ y = .ms tk ∧ Γ' = [.row tk ((riseL (freeOf t.all)).map (PV.int .i64))]) := by
  have hlen : t.all.length ≤ t.bulk := t.met_len [] 0
  refine ACall.of_body tt_ok Tryz.func21 rfl rfl (n := 28) rfl rfl ?_
  conv => whnf
  repeat ((first | ((first | (apply zY;intro hg) | apply zZ);exact stA) | (refine zW ?_ ?_;exact gA) | refine zH rfl ?_ | refine zA ?_ | refine zI bA ?_ | refine zI rfl ?_ | refine zJ rfl rfl ?_ | refine zB ?_ | refine zK rfl ?_ | refine zL rfl ?_ | refine zC ?_ | (refine zO ?_ ?_ ?_;omega;omega) | (refine zP ?_ ?_ ?_;omega;omega) | refine zM rfl ?_ | (refine zQ ?_ ?_ ?_;omega;omega) | (refine zR ?_ ?_;omega) | (refine zI ?_ ?_;exact nA) | (refine zS ?_ ?_ ?_;omega;omega) | (refine zT ?_ ?_ ?_;omega;omega) | (refine zU ?_ ?_ ?_;omega;omega) | (refine zV ?_ ?_ ?_;omega;omega) | refine zN rfl rfl rfl ?_ | refine zD ?_ | refine zE ?_ | refine zF ?_ | intro _);conv=>whnf)
  conv => whnf
  repeat' (first | ((first | ((first | (apply zY;intro hg) | apply zZ);exact stA) | (refine zW ?_ ?_;exact gA) | refine zH rfl ?_ | refine zA ?_ | refine zI bA ?_ | refine zI rfl ?_ | refine zJ rfl rfl ?_ | refine zB ?_ | refine zK rfl ?_ | refine zL rfl ?_ | refine zC ?_ | (refine zO ?_ ?_ ?_;omega;omega) | (refine zP ?_ ?_ ?_;omega;omega) | refine zM rfl ?_ | (refine zQ ?_ ?_ ?_;omega;omega) | (refine zR ?_ ?_;omega) | (refine zI ?_ ?_;exact nA) | (refine zS ?_ ?_ ?_;omega;omega) | (refine zT ?_ ?_ ?_;omega;omega) | (refine zU ?_ ?_ ?_;omega;omega) | (refine zV ?_ ?_ ?_;omega;omega) | refine zN rfl rfl rfl ?_ | refine zD ?_ | refine zE ?_ | refine zF ?_ | intro _ | refine zG ?_);conv=>whnf) | (refine zX (fun hc => ?_) (fun hc => ?_)<;>(try simp only [SY] at hc)<;>first | omega | (conv=>whnf)))
  rename_i bt bo
  refine PCall.goG (Ghost.trans (Ghost.nilRow 1 3 _) (Ghost.box (b := bo) (cs := [.nil]) (cs' := [.ms (nilTok 1 3)]) (.cons (Wk.nilRow 1 3) .nil))) (all_c t) (WkT.refl _) ?_
  rintro _ _ ⟨b, rfl, rfl⟩
  conv => whnf
  repeat ((first | ((first | (apply zY;intro hg) | apply zZ);exact stA) | (refine zW ?_ ?_;exact gA) | refine zH rfl ?_ | refine zA ?_ | refine zI bA ?_ | refine zI rfl ?_ | refine zJ rfl rfl ?_ | refine zB ?_ | refine zK rfl ?_ | refine zL rfl ?_ | refine zC ?_ | (refine zO ?_ ?_ ?_;omega;omega) | (refine zP ?_ ?_ ?_;omega;omega) | refine zM rfl ?_ | (refine zQ ?_ ?_ ?_;omega;omega) | (refine zR ?_ ?_;omega) | (refine zI ?_ ?_;exact nA) | (refine zS ?_ ?_ ?_;omega;omega) | (refine zT ?_ ?_ ?_;omega;omega) | (refine zU ?_ ?_ ?_;omega;omega) | (refine zV ?_ ?_ ?_;omega;omega) | refine zN rfl rfl rfl ?_ | refine zD ?_ | refine zE ?_ | refine zF ?_ | intro _);conv=>whnf)
  refine PRange.go (t.all.map fun m => [metP m]) (fun s : Tok × List Int => [.box bo [.ms s.1], .row s.1 (s.2.map (PV.int .i64))]) (fun k s => s.1.e = 3 ∧ s.1.s = 1 ∧ s.2 = freeOf (t.all.take k)) (fun _ _ => False) (nilTok 1 3, []) (all1_c b t hb) ⟨rfl, rfl, rfl⟩
    (hp := (inferInstance : PickL _ [.box bo [.ms (nilTok 1 3)], .row (nilTok 1 3) [], .box b t.cells] _)) (by intro ys hy; obtain ⟨m, _, rfl⟩ := List.mem_map.1 hy; rfl) ?_ ?_ (fun _ _ _ h => h.elim)
  · rintro k ys ⟨tk, l⟩ hk ⟨k1, k2, k3⟩
    dsimp only at k1 k2 k3 ⊢
    obtain ⟨m, hm, rfl⟩ : ∃ m, t.all[k]? = some m ∧ ys = [metP m] := by
      rw [List.getElem?_map] at hk
      cases h : t.all[k]? with
      | none => rw [h] at hk; cases hk
      | some m => rw [h] at hk; cases hk; exact ⟨m, rfl, rfl⟩
    obtain ⟨hlt, hmg⟩ := List.getElem?_eq_some_iff.1 hm
    have hst : freeOf (t.all.take (k + 1)) = freeOf (t.all.take k) ++ (if (namesB m.1.op && !m.2.contains m.1.n) = true then [m.1.n] else []) := by
      rw [List.take_succ_eq_append_getElem hlt, freeOf, List.filter_append, List.map_append, hmg]
      congr 1
      by_cases h : (namesB m.1.op && !m.2.contains m.1.n) = true
      · rw [if_pos h]; simp only [List.filter, h]; rfl
      · rw [if_neg h]; rw [Bool.not_eq_true] at h; simp only [List.filter, h]; rfl
    have hll : l.length ≤ k := by
      rw [k3, freeOf, List.length_map]
      exact Nat.le_trans (List.length_filter_le _ _) (by rw [List.length_take]; omega)
    conv => whnf
    repeat' (first | ((first | ((first | (apply zY;intro hg) | apply zZ);focus ((conv=>whnf);(repeat ((first | (refine zW ?_ ?_;exact gA) | refine zH rfl ?_ | refine zA ?_ | refine zI bA ?_ | refine zI rfl ?_ | refine zJ rfl rfl ?_ | refine zB ?_ | refine zK rfl ?_ | refine zL rfl ?_ | refine zC ?_ | (refine zO ?_ ?_ ?_;exact OA;exact OA) | (refine zP ?_ ?_ ?_;exact OA;exact OA) | refine zM rfl ?_ | (refine zQ ?_ ?_ ?_;exact OA;exact OA) | (refine zR ?_ ?_;exact OA) | (refine zI ?_ ?_;exact NA) | (refine zS ?_ ?_ ?_;exact OA;exact OA) | (refine zT ?_ ?_ ?_;exact OA;exact OA) | (refine zU ?_ ?_ ?_;exact OA;exact OA) | (refine zV ?_ ?_ ?_;exact OA;exact OA) | refine PCall.pure (names_c m.1) (WkT.refl _) ?_ | refine PCall.pure (names_c m.1) cA ?_ | refine PCall.pure (containsInt_c m.2 m.1.n) (WkT.refl _) ?_ | refine PCall.pure (containsInt_c m.2 m.1.n) cA ?_ | intro _);conv=>whnf));first | exact PShift.same | exact PShift.lit | exact PShift.ep)) | (refine zW ?_ ?_;exact gA) | refine zH rfl ?_ | refine zA ?_ | refine zI bA ?_ | refine zI rfl ?_ | refine zJ rfl rfl ?_ | refine zB ?_ | refine zK rfl ?_ | refine zL rfl ?_ | refine zC ?_ | (refine zO ?_ ?_ ?_;omega;omega) | (refine zP ?_ ?_ ?_;omega;omega) | refine zM rfl ?_ | (refine zQ ?_ ?_ ?_;omega;omega) | (refine zR ?_ ?_;omega) | (refine zI ?_ ?_;exact nA) | (refine zS ?_ ?_ ?_;omega;omega) | (refine zT ?_ ?_ ?_;omega;omega) | (refine zU ?_ ?_ ?_;omega;omega) | (refine zV ?_ ?_ ?_;omega;omega) | refine PCall.pure (names_c m.1) (WkT.refl _) ?_ | refine PCall.pure (names_c m.1) cA ?_ | refine PCall.pure (containsInt_c m.2 m.1.n) (WkT.refl _) ?_ | refine PCall.pure (containsInt_c m.2 m.1.n) cA ?_ | refine zN rfl rfl rfl ?_ | refine zD ?_ | refine zE ?_ | refine zF ?_ | intro _ | refine zG ?_);conv=>whnf) | (refine zX (fun hc => ?_) (fun hc => ?_)<;>(try simp only [SY] at hc)<;>first | omega | (conv=>whnf)))
    refine ⟨rfl, ?_⟩
    conv => whnf
    repeat' (first | ((first | ((first | (apply zY;intro hg) | apply zZ);focus ((conv=>whnf);(repeat ((first | (refine zW ?_ ?_;exact gA) | refine zH rfl ?_ | refine zA ?_ | refine zI bA ?_ | refine zI rfl ?_ | refine zJ rfl rfl ?_ | refine zB ?_ | refine zK rfl ?_ | refine zL rfl ?_ | refine zC ?_ | (refine zO ?_ ?_ ?_;exact OA;exact OA) | (refine zP ?_ ?_ ?_;exact OA;exact OA) | refine zM rfl ?_ | (refine zQ ?_ ?_ ?_;exact OA;exact OA) | (refine zR ?_ ?_;exact OA) | (refine zI ?_ ?_;exact NA) | (refine zS ?_ ?_ ?_;exact OA;exact OA) | (refine zT ?_ ?_ ?_;exact OA;exact OA) | (refine zU ?_ ?_ ?_;exact OA;exact OA) | (refine zV ?_ ?_ ?_;exact OA;exact OA) | refine PCall.pure (names_c m.1) (WkT.refl _) ?_ | refine PCall.pure (names_c m.1) cA ?_ | refine PCall.pure (containsInt_c m.2 m.1.n) (WkT.refl _) ?_ | refine PCall.pure (containsInt_c m.2 m.1.n) cA ?_ | intro _);conv=>whnf));first | exact PShift.same | exact PShift.lit | exact PShift.ep)) | (refine zW ?_ ?_;exact gA) | refine zH rfl ?_ | refine zA ?_ | refine zI bA ?_ | refine zI rfl ?_ | refine zJ rfl rfl ?_ | refine zB ?_ | refine zK rfl ?_ | refine zL rfl ?_ | refine zC ?_ | (refine zO ?_ ?_ ?_;omega;omega) | (refine zP ?_ ?_ ?_;omega;omega) | refine zM rfl ?_ | (refine zQ ?_ ?_ ?_;omega;omega) | (refine zR ?_ ?_;omega) | (refine zI ?_ ?_;exact nA) | (refine zS ?_ ?_ ?_;omega;omega) | (refine zT ?_ ?_ ?_;omega;omega) | (refine zU ?_ ?_ ?_;omega;omega) | (refine zV ?_ ?_ ?_;omega;omega) | refine PCall.pure (names_c m.1) (WkT.refl _) ?_ | refine PCall.pure (names_c m.1) cA ?_ | refine PCall.pure (containsInt_c m.2 m.1.n) (WkT.refl _) ?_ | refine PCall.pure (containsInt_c m.2 m.1.n) cA ?_ | refine zN rfl rfl rfl ?_ | refine zD ?_ | refine zE ?_ | refine zF ?_ | intro _ | refine zG ?_);conv=>whnf) | (refine zX (fun hc => ?_) (fun hc => ?_)<;>(try simp only [SY] at hc)<;>first | omega | (conv=>whnf)))
    · refine PAppend.rowOne (f := PV.int .i64) (l := l) m.1.n k1 k2 (Wk.tok _ _ _) (by omega) (by show _ * 8 ≤ _; omega) (fun t3 e3 s3 => ?_)
      conv => whnf
      repeat ((first | ((first | (apply zY;intro hg) | apply zZ);focus ((conv=>whnf);(repeat ((first | (refine zW ?_ ?_;exact gA) | refine zH rfl ?_ | refine zA ?_ | refine zI bA ?_ | refine zI rfl ?_ | refine zJ rfl rfl ?_ | refine zB ?_ | refine zK rfl ?_ | refine zL rfl ?_ | refine zC ?_ | (refine zO ?_ ?_ ?_;exact OA;exact OA) | (refine zP ?_ ?_ ?_;exact OA;exact OA) | refine zM rfl ?_ | (refine zQ ?_ ?_ ?_;exact OA;exact OA) | (refine zR ?_ ?_;exact OA) | (refine zI ?_ ?_;exact NA) | (refine zS ?_ ?_ ?_;exact OA;exact OA) | (refine zT ?_ ?_ ?_;exact OA;exact OA) | (refine zU ?_ ?_ ?_;exact OA;exact OA) | (refine zV ?_ ?_ ?_;exact OA;exact OA) | refine PCall.pure (names_c m.1) (WkT.refl _) ?_ | refine PCall.pure (names_c m.1) cA ?_ | refine PCall.pure (containsInt_c m.2 m.1.n) (WkT.refl _) ?_ | refine PCall.pure (containsInt_c m.2 m.1.n) cA ?_ | intro _);conv=>whnf));first | exact PShift.same | exact PShift.lit | exact PShift.ep)) | (refine zW ?_ ?_;exact gA) | refine zH rfl ?_ | refine zA ?_ | refine zI bA ?_ | refine zI rfl ?_ | refine zJ rfl rfl ?_ | refine zB ?_ | refine zK rfl ?_ | refine zL rfl ?_ | refine zC ?_ | (refine zO ?_ ?_ ?_;omega;omega) | (refine zP ?_ ?_ ?_;omega;omega) | refine zM rfl ?_ | (refine zQ ?_ ?_ ?_;omega;omega) | (refine zR ?_ ?_;omega) | (refine zI ?_ ?_;exact nA) | (refine zS ?_ ?_ ?_;omega;omega) | (refine zT ?_ ?_ ?_;omega;omega) | (refine zU ?_ ?_ ?_;omega;omega) | (refine zV ?_ ?_ ?_;omega;omega) | refine PCall.pure (names_c m.1) (WkT.refl _) ?_ | refine PCall.pure (names_c m.1) cA ?_ | refine PCall.pure (containsInt_c m.2 m.1.n) (WkT.refl _) ?_ | refine PCall.pure (containsInt_c m.2 m.1.n) cA ?_ | refine zN rfl rfl rfl ?_ | refine zD ?_ | refine zE ?_ | refine zF ?_ | intro _);conv=>whnf)
      exact roundEnd (k := k) (G := fun s : Tok × List Int => [.box bo [.ms s.1], .row s.1 (s.2.map (PV.int .i64))]) (I := fun k s => s.1.e = 3 ∧ s.1.s = 1 ∧ s.2 = freeOf (t.all.take k)) (X := fun _ _ => False) (t3, l ++ [m.1.n]) ⟨e3, s3, by show l ++ [m.1.n] = freeOf (t.all.take (k + 1)); rw [hst, if_pos (by rw [Bool.and_eq_true, hc.1, hc.2]; exact ⟨rfl, rfl⟩), k3]⟩ (hp := (inferInstance : PickL _ [.box bo [.ms t3], .row t3 ((l ++ [m.1.n]).map (PV.int .i64))] _))
    · exact roundEnd (k := k) (G := fun s : Tok × List Int => [.box bo [.ms s.1], .row s.1 (s.2.map (PV.int .i64))]) (I := fun k s => s.1.e = 3 ∧ s.1.s = 1 ∧ s.2 = freeOf (t.all.take k)) (X := fun _ _ => False) (tk, l) ⟨k1, k2, by show l = freeOf (t.all.take (k + 1)); rw [hst, if_neg (by rw [Bool.and_eq_true, Bool.not_eq_true']; rintro ⟨a, b⟩; rcases hc with h | h; rw [a] at h; cases h; rw [b] at h; cases h), List.append_nil, k3]⟩ (hp := (inferInstance : PickL _ [.box bo [.ms tk], .row tk (l.map (PV.int .i64))] _))
  · rintro bd ⟨tk, l⟩ ⟨k1, k2, k3⟩
    dsimp only at k1 k2 k3 ⊢
    rw [List.length_map, List.take_length] at k3
    subst k3
    have hfl : (freeOf t.all).length ≤ 1000000000 := by
      rw [freeOf, List.length_map]
      exact Nat.le_trans (List.length_filter_le _ _) (by omega)
    conv => whnf
    repeat' (first | ((first | ((first | (apply zY;intro hg) | apply zZ);focus ((conv=>whnf);(repeat ((first | (refine zW ?_ ?_;exact gA) | refine zH rfl ?_ | refine zA ?_ | refine zI bA ?_ | refine zI rfl ?_ | refine zJ rfl rfl ?_ | refine zB ?_ | refine zK rfl ?_ | refine zL rfl ?_ | refine zC ?_ | (refine zO ?_ ?_ ?_;exact OA;exact OA) | (refine zP ?_ ?_ ?_;exact OA;exact OA) | refine zM rfl ?_ | (refine zQ ?_ ?_ ?_;exact OA;exact OA) | (refine zR ?_ ?_;exact OA) | (refine zI ?_ ?_;exact NA) | (refine zS ?_ ?_ ?_;exact OA;exact OA) | (refine zT ?_ ?_ ?_;exact OA;exact OA) | (refine zU ?_ ?_ ?_;exact OA;exact OA) | (refine zV ?_ ?_ ?_;exact OA;exact OA) | refine PCall.pure (names_c m.1) (WkT.refl _) ?_ | refine PCall.pure (names_c m.1) cA ?_ | refine PCall.pure (containsInt_c m.2 m.1.n) (WkT.refl _) ?_ | refine PCall.pure (containsInt_c m.2 m.1.n) cA ?_ | intro _);conv=>whnf));first | exact PShift.same | exact PShift.lit | exact PShift.ep)) | (refine zW ?_ ?_;exact gA) | refine zH rfl ?_ | refine zA ?_ | refine zI bA ?_ | refine zI rfl ?_ | refine zJ rfl rfl ?_ | refine zB ?_ | refine zK rfl ?_ | refine zL rfl ?_ | refine zC ?_ | (refine zO ?_ ?_ ?_;omega;omega) | (refine zP ?_ ?_ ?_;omega;omega) | refine zM rfl ?_ | (refine zQ ?_ ?_ ?_;omega;omega) | (refine zR ?_ ?_;omega) | (refine zI ?_ ?_;exact nA) | (refine zS ?_ ?_ ?_;omega;omega) | (refine zT ?_ ?_ ?_;omega;omega) | (refine zU ?_ ?_ ?_;omega;omega) | (refine zV ?_ ?_ ?_;omega;omega) | refine PCall.pure (names_c m.1) (WkT.refl _) ?_ | refine PCall.pure (names_c m.1) cA ?_ | refine PCall.pure (containsInt_c m.2 m.1.n) (WkT.refl _) ?_ | refine PCall.pure (containsInt_c m.2 m.1.n) cA ?_ | refine zN rfl rfl rfl ?_ | refine zD ?_ | refine zE ?_ | refine zF ?_ | intro _ | refine zG ?_);conv=>whnf) | (refine zX (fun hc => ?_) (fun hc => ?_)<;>(try simp only [SY] at hc)<;>first | omega | (conv=>whnf)))
    refine PCall.goR [.ob bd dfrO [] [], .box bo [.ms tk]] (rising_c tk (freeOf t.all) k2 hfl) (WkT.refl _) (List.Perm.refl _) ?_
    rintro _ _ ⟨t4, e4, s4, rfl, rfl⟩
    conv => whnf
    repeat ((first | ((first | (apply zY;intro hg) | apply zZ);focus ((conv=>whnf);(repeat ((first | (refine zW ?_ ?_;exact gA) | refine zH rfl ?_ | refine zA ?_ | refine zI bA ?_ | refine zI rfl ?_ | refine zJ rfl rfl ?_ | refine zB ?_ | refine zK rfl ?_ | refine zL rfl ?_ | refine zC ?_ | (refine zO ?_ ?_ ?_;exact OA;exact OA) | (refine zP ?_ ?_ ?_;exact OA;exact OA) | refine zM rfl ?_ | (refine zQ ?_ ?_ ?_;exact OA;exact OA) | (refine zR ?_ ?_;exact OA) | (refine zI ?_ ?_;exact NA) | (refine zS ?_ ?_ ?_;exact OA;exact OA) | (refine zT ?_ ?_ ?_;exact OA;exact OA) | (refine zU ?_ ?_ ?_;exact OA;exact OA) | (refine zV ?_ ?_ ?_;exact OA;exact OA) | refine PCall.pure (names_c m.1) (WkT.refl _) ?_ | refine PCall.pure (names_c m.1) cA ?_ | refine PCall.pure (containsInt_c m.2 m.1.n) (WkT.refl _) ?_ | refine PCall.pure (containsInt_c m.2 m.1.n) cA ?_ | intro _);conv=>whnf));first | exact PShift.same | exact PShift.lit | exact PShift.ep)) | (refine zW ?_ ?_;exact gA) | refine zH rfl ?_ | refine zA ?_ | refine zI bA ?_ | refine zI rfl ?_ | refine zJ rfl rfl ?_ | refine zB ?_ | refine zK rfl ?_ | refine zL rfl ?_ | refine zC ?_ | (refine zO ?_ ?_ ?_;omega;omega) | (refine zP ?_ ?_ ?_;omega;omega) | refine zM rfl ?_ | (refine zQ ?_ ?_ ?_;omega;omega) | (refine zR ?_ ?_;omega) | (refine zI ?_ ?_;exact nA) | (refine zS ?_ ?_ ?_;omega;omega) | (refine zT ?_ ?_ ?_;omega;omega) | (refine zU ?_ ?_ ?_;omega;omega) | (refine zV ?_ ?_ ?_;omega;omega) | refine PCall.pure (names_c m.1) (WkT.refl _) ?_ | refine PCall.pure (names_c m.1) cA ?_ | refine PCall.pure (containsInt_c m.2 m.1.n) (WkT.refl _) ?_ | refine PCall.pure (containsInt_c m.2 m.1.n) cA ?_ | refine zN rfl rfl rfl ?_ | refine zD ?_ | refine zE ?_ | refine zF ?_ | intro _);conv=>whnf)
    refine PMark.at_ rfl ?_
    conv => whnf
    exact PRet.gen (y := .ms t4) (Wk.refl _) ⟨t4, e4.trans k1, s4, rfl, rfl⟩
theorem free_c (t : Trm) (hb : t.bulk ≤ 1000000000) : ACallP Tryz.prog 21 [.agg t.cells] (slI (riseL (freeOf t.all))) :=
  ACallP.of_any ((free_c0 t hb).shift fun y Γ' hq => by
    obtain ⟨tk, h1, h2, rfl, rfl⟩ := hq
    exact ⟨_, _, Shift.freezeRow (es := (riseL (freeOf t.all)).map (PV.int .i64)) (WkF.ms' h2), rfl⟩)
theorem binds_c0 (t : Trm) (hb : t.bulk ≤ 1000000000) : ACall Tryz.prog 20 [.agg t.cells] [] (fun y Γ' => ∃ tk : Tok, tk.e = 3 ∧ tk.s = 1 ∧ y = .ms tk ∧ Γ' = [.row tk ((riseL (bindsOf t.all)).map (PV.int .i64))]) := by
  have hlen : (bindsOf t.all).length ≤ t.bulk := t.met_vlen [] 0
  refine ACall.of_body tt_ok Tryz.func20 rfl rfl (n := 15) rfl rfl ?_
  conv => whnf
  repeat ((first | ((first | (apply zY;intro hg) | apply zZ);focus ((conv=>whnf);(repeat ((first | (refine zW ?_ ?_;exact gA) | refine zH rfl ?_ | refine zA ?_ | refine zI bA ?_ | refine zI rfl ?_ | refine zJ rfl rfl ?_ | refine zB ?_ | refine zK rfl ?_ | refine zL rfl ?_ | refine zC ?_ | (refine zO ?_ ?_ ?_;exact OA;exact OA) | (refine zP ?_ ?_ ?_;exact OA;exact OA) | refine zM rfl ?_ | (refine zQ ?_ ?_ ?_;exact OA;exact OA) | (refine zR ?_ ?_;exact OA) | (refine zI ?_ ?_;exact NA) | (refine zS ?_ ?_ ?_;exact OA;exact OA) | (refine zT ?_ ?_ ?_;exact OA;exact OA) | (refine zU ?_ ?_ ?_;exact OA;exact OA) | (refine zV ?_ ?_ ?_;exact OA;exact OA) | refine PCall.pure (names_c m.1) (WkT.refl _) ?_ | refine PCall.pure (names_c m.1) cA ?_ | refine PCall.pure (containsInt_c m.2 m.1.n) (WkT.refl _) ?_ | refine PCall.pure (containsInt_c m.2 m.1.n) cA ?_ | intro _);conv=>whnf));first | exact PShift.same | exact PShift.lit | exact PShift.ep)) | (refine zW ?_ ?_;exact gA) | refine zH rfl ?_ | refine zA ?_ | refine zI bA ?_ | refine zI rfl ?_ | refine zJ rfl rfl ?_ | refine zB ?_ | refine zK rfl ?_ | refine zL rfl ?_ | refine zC ?_ | (refine zO ?_ ?_ ?_;omega;omega) | (refine zP ?_ ?_ ?_;omega;omega) | refine zM rfl ?_ | (refine zQ ?_ ?_ ?_;omega;omega) | (refine zR ?_ ?_;omega) | (refine zI ?_ ?_;exact nA) | (refine zS ?_ ?_ ?_;omega;omega) | (refine zT ?_ ?_ ?_;omega;omega) | (refine zU ?_ ?_ ?_;omega;omega) | (refine zV ?_ ?_ ?_;omega;omega) | refine PCall.pure (names_c m.1) (WkT.refl _) ?_ | refine PCall.pure (names_c m.1) cA ?_ | refine PCall.pure (containsInt_c m.2 m.1.n) (WkT.refl _) ?_ | refine PCall.pure (containsInt_c m.2 m.1.n) cA ?_ | refine zN rfl rfl rfl ?_ | refine zD ?_ | refine zE ?_ | refine zF ?_ | intro _);conv=>whnf)
  conv => whnf
  repeat' (first | ((first | ((first | (apply zY;intro hg) | apply zZ);focus ((conv=>whnf);(repeat ((first | (refine zW ?_ ?_;exact gA) | refine zH rfl ?_ | refine zA ?_ | refine zI bA ?_ | refine zI rfl ?_ | refine zJ rfl rfl ?_ | refine zB ?_ | refine zK rfl ?_ | refine zL rfl ?_ | refine zC ?_ | (refine zO ?_ ?_ ?_;exact OA;exact OA) | (refine zP ?_ ?_ ?_;exact OA;exact OA) | refine zM rfl ?_ | (refine zQ ?_ ?_ ?_;exact OA;exact OA) | (refine zR ?_ ?_;exact OA) | (refine zI ?_ ?_;exact NA) | (refine zS ?_ ?_ ?_;exact OA;exact OA) | (refine zT ?_ ?_ ?_;exact OA;exact OA) | (refine zU ?_ ?_ ?_;exact OA;exact OA) | (refine zV ?_ ?_ ?_;exact OA;exact OA) | refine PCall.pure (names_c m.1) (WkT.refl _) ?_ | refine PCall.pure (names_c m.1) cA ?_ | refine PCall.pure (containsInt_c m.2 m.1.n) (WkT.refl _) ?_ | refine PCall.pure (containsInt_c m.2 m.1.n) cA ?_ | intro _);conv=>whnf));first | exact PShift.same | exact PShift.lit | exact PShift.ep)) | (refine zW ?_ ?_;exact gA) | refine zH rfl ?_ | refine zA ?_ | refine zI bA ?_ | refine zI rfl ?_ | refine zJ rfl rfl ?_ | refine zB ?_ | refine zK rfl ?_ | refine zL rfl ?_ | refine zC ?_ | (refine zO ?_ ?_ ?_;omega;omega) | (refine zP ?_ ?_ ?_;omega;omega) | refine zM rfl ?_ | (refine zQ ?_ ?_ ?_;omega;omega) | (refine zR ?_ ?_;omega) | (refine zI ?_ ?_;exact nA) | (refine zS ?_ ?_ ?_;omega;omega) | (refine zT ?_ ?_ ?_;omega;omega) | (refine zU ?_ ?_ ?_;omega;omega) | (refine zV ?_ ?_ ?_;omega;omega) | refine PCall.pure (names_c m.1) (WkT.refl _) ?_ | refine PCall.pure (names_c m.1) cA ?_ | refine PCall.pure (containsInt_c m.2 m.1.n) (WkT.refl _) ?_ | refine PCall.pure (containsInt_c m.2 m.1.n) cA ?_ | refine zN rfl rfl rfl ?_ | refine zD ?_ | refine zE ?_ | refine zF ?_ | intro _ | refine zG ?_);conv=>whnf) | (refine zX (fun hc => ?_) (fun hc => ?_)<;>(try simp only [SY] at hc)<;>first | omega | (conv=>whnf)))
  rename_i bt bo
  refine PCall.goG (Ghost.trans (Ghost.nilRow 1 3 _) (Ghost.box (b := bo) (cs := [.nil]) (cs' := [.ms (nilTok 1 3)]) (.cons (Wk.nilRow 1 3) .nil))) (all_c t) (WkT.refl _) ?_
  rintro _ _ ⟨b, rfl, rfl⟩
  conv => whnf
  repeat ((first | ((first | (apply zY;intro hg) | apply zZ);focus ((conv=>whnf);(repeat ((first | (refine zW ?_ ?_;exact gA) | refine zH rfl ?_ | refine zA ?_ | refine zI bA ?_ | refine zI rfl ?_ | refine zJ rfl rfl ?_ | refine zB ?_ | refine zK rfl ?_ | refine zL rfl ?_ | refine zC ?_ | (refine zO ?_ ?_ ?_;exact OA;exact OA) | (refine zP ?_ ?_ ?_;exact OA;exact OA) | refine zM rfl ?_ | (refine zQ ?_ ?_ ?_;exact OA;exact OA) | (refine zR ?_ ?_;exact OA) | (refine zI ?_ ?_;exact NA) | (refine zS ?_ ?_ ?_;exact OA;exact OA) | (refine zT ?_ ?_ ?_;exact OA;exact OA) | (refine zU ?_ ?_ ?_;exact OA;exact OA) | (refine zV ?_ ?_ ?_;exact OA;exact OA) | refine PCall.pure (names_c m.1) (WkT.refl _) ?_ | refine PCall.pure (names_c m.1) cA ?_ | refine PCall.pure (containsInt_c m.2 m.1.n) (WkT.refl _) ?_ | refine PCall.pure (containsInt_c m.2 m.1.n) cA ?_ | intro _);conv=>whnf));first | exact PShift.same | exact PShift.lit | exact PShift.ep)) | (refine zW ?_ ?_;exact gA) | refine zH rfl ?_ | refine zA ?_ | refine zI bA ?_ | refine zI rfl ?_ | refine zJ rfl rfl ?_ | refine zB ?_ | refine zK rfl ?_ | refine zL rfl ?_ | refine zC ?_ | (refine zO ?_ ?_ ?_;omega;omega) | (refine zP ?_ ?_ ?_;omega;omega) | refine zM rfl ?_ | (refine zQ ?_ ?_ ?_;omega;omega) | (refine zR ?_ ?_;omega) | (refine zI ?_ ?_;exact nA) | (refine zS ?_ ?_ ?_;omega;omega) | (refine zT ?_ ?_ ?_;omega;omega) | (refine zU ?_ ?_ ?_;omega;omega) | (refine zV ?_ ?_ ?_;omega;omega) | refine PCall.pure (names_c m.1) (WkT.refl _) ?_ | refine PCall.pure (names_c m.1) cA ?_ | refine PCall.pure (containsInt_c m.2 m.1.n) (WkT.refl _) ?_ | refine PCall.pure (containsInt_c m.2 m.1.n) cA ?_ | refine zN rfl rfl rfl ?_ | refine zD ?_ | refine zE ?_ | refine zF ?_ | intro _);conv=>whnf)
  refine PRange.go (t.all.map fun m => [metP m]) (fun s : Tok × List Int => [.box bo [.ms s.1], .row s.1 (s.2.map (PV.int .i64))]) (fun k s => s.1.e = 3 ∧ s.1.s = 1 ∧ s.2 = bindsOf (t.all.take k)) (fun _ _ => False) (nilTok 1 3, []) (all1_c b t hb) ⟨rfl, rfl, rfl⟩
    (hp := (inferInstance : PickL _ [.box bo [.ms (nilTok 1 3)], .row (nilTok 1 3) [], .box b t.cells] _)) (by intro ys hy; obtain ⟨m, _, rfl⟩ := List.mem_map.1 hy; rfl) ?_ ?_ (fun _ _ _ h => h.elim)
  · rintro k ys ⟨tk, l⟩ hk ⟨k1, k2, k3⟩
    dsimp only at k1 k2 k3 ⊢
    obtain ⟨m, hm, rfl⟩ : ∃ m, t.all[k]? = some m ∧ ys = [metP m] := by
      rw [List.getElem?_map] at hk
      cases h : t.all[k]? with
      | none => rw [h] at hk; cases hk
      | some m => rw [h] at hk; cases hk; exact ⟨m, rfl, rfl⟩
    obtain ⟨hlt, hmg⟩ := List.getElem?_eq_some_iff.1 hm
    have hst : bindsOf (t.all.take (k + 1)) = bindsOf (t.all.take k) ++ m.1.v := by
      rw [List.take_succ_eq_append_getElem hlt, bindsOf, List.flatMap_append, hmg]
      simp [bindsOf]
    have hll : l.length + m.1.v.length ≤ 1000000000 := by
      have h1 : (bindsOf (t.all.take (k + 1))).length ≤ (bindsOf t.all).length := bindsOf_take _ _
      rw [hst, List.length_append, ← k3] at h1
      omega
    conv => whnf
    repeat' (first | ((first | ((first | (apply zY;intro hg) | apply zZ);focus ((conv=>whnf);(repeat ((first | (refine zW ?_ ?_;exact gA) | refine zH rfl ?_ | refine zA ?_ | refine zI bA ?_ | refine zI rfl ?_ | refine zJ rfl rfl ?_ | refine zB ?_ | refine zK rfl ?_ | refine zL rfl ?_ | refine zC ?_ | (refine zO ?_ ?_ ?_;exact OA;exact OA) | (refine zP ?_ ?_ ?_;exact OA;exact OA) | refine zM rfl ?_ | (refine zQ ?_ ?_ ?_;exact OA;exact OA) | (refine zR ?_ ?_;exact OA) | (refine zI ?_ ?_;exact NA) | (refine zS ?_ ?_ ?_;exact OA;exact OA) | (refine zT ?_ ?_ ?_;exact OA;exact OA) | (refine zU ?_ ?_ ?_;exact OA;exact OA) | (refine zV ?_ ?_ ?_;exact OA;exact OA) | refine PCall.pure (names_c m.1) (WkT.refl _) ?_ | refine PCall.pure (names_c m.1) cA ?_ | refine PCall.pure (containsInt_c m.2 m.1.n) (WkT.refl _) ?_ | refine PCall.pure (containsInt_c m.2 m.1.n) cA ?_ | intro _);conv=>whnf));first | exact PShift.same | exact PShift.lit | exact PShift.ep)) | (refine zW ?_ ?_;exact gA) | refine zH rfl ?_ | refine zA ?_ | refine zI bA ?_ | refine zI rfl ?_ | refine zJ rfl rfl ?_ | refine zB ?_ | refine zK rfl ?_ | refine zL rfl ?_ | refine zC ?_ | (refine zO ?_ ?_ ?_;omega;omega) | (refine zP ?_ ?_ ?_;omega;omega) | refine zM rfl ?_ | (refine zQ ?_ ?_ ?_;omega;omega) | (refine zR ?_ ?_;omega) | (refine zI ?_ ?_;exact nA) | (refine zS ?_ ?_ ?_;omega;omega) | (refine zT ?_ ?_ ?_;omega;omega) | (refine zU ?_ ?_ ?_;omega;omega) | (refine zV ?_ ?_ ?_;omega;omega) | refine PCall.pure (names_c m.1) (WkT.refl _) ?_ | refine PCall.pure (names_c m.1) cA ?_ | refine PCall.pure (containsInt_c m.2 m.1.n) (WkT.refl _) ?_ | refine PCall.pure (containsInt_c m.2 m.1.n) cA ?_ | refine zN rfl rfl rfl ?_ | refine zD ?_ | refine zE ?_ | refine zF ?_ | intro _ | refine zG ?_);conv=>whnf) | (refine zX (fun hc => ?_) (fun hc => ?_)<;>(try simp only [SY] at hc)<;>first | omega | (conv=>whnf)))
    refine ⟨rfl, ?_⟩
    conv => whnf
    repeat' (first | ((first | ((first | (apply zY;intro hg) | apply zZ);focus ((conv=>whnf);(repeat ((first | (refine zW ?_ ?_;exact gA) | refine zH rfl ?_ | refine zA ?_ | refine zI bA ?_ | refine zI rfl ?_ | refine zJ rfl rfl ?_ | refine zB ?_ | refine zK rfl ?_ | refine zL rfl ?_ | refine zC ?_ | (refine zO ?_ ?_ ?_;exact OA;exact OA) | (refine zP ?_ ?_ ?_;exact OA;exact OA) | refine zM rfl ?_ | (refine zQ ?_ ?_ ?_;exact OA;exact OA) | (refine zR ?_ ?_;exact OA) | (refine zI ?_ ?_;exact NA) | (refine zS ?_ ?_ ?_;exact OA;exact OA) | (refine zT ?_ ?_ ?_;exact OA;exact OA) | (refine zU ?_ ?_ ?_;exact OA;exact OA) | (refine zV ?_ ?_ ?_;exact OA;exact OA) | refine PCall.pure (names_c m.1) (WkT.refl _) ?_ | refine PCall.pure (names_c m.1) cA ?_ | refine PCall.pure (containsInt_c m.2 m.1.n) (WkT.refl _) ?_ | refine PCall.pure (containsInt_c m.2 m.1.n) cA ?_ | intro _);conv=>whnf));first | exact PShift.same | exact PShift.lit | exact PShift.ep)) | (refine zW ?_ ?_;exact gA) | refine zH rfl ?_ | refine zA ?_ | refine zI bA ?_ | refine zI rfl ?_ | refine zJ rfl rfl ?_ | refine zB ?_ | refine zK rfl ?_ | refine zL rfl ?_ | refine zC ?_ | (refine zO ?_ ?_ ?_;omega;omega) | (refine zP ?_ ?_ ?_;omega;omega) | refine zM rfl ?_ | (refine zQ ?_ ?_ ?_;omega;omega) | (refine zR ?_ ?_;omega) | (refine zI ?_ ?_;exact nA) | (refine zS ?_ ?_ ?_;omega;omega) | (refine zT ?_ ?_ ?_;omega;omega) | (refine zU ?_ ?_ ?_;omega;omega) | (refine zV ?_ ?_ ?_;omega;omega) | refine PCall.pure (names_c m.1) (WkT.refl _) ?_ | refine PCall.pure (names_c m.1) cA ?_ | refine PCall.pure (containsInt_c m.2 m.1.n) (WkT.refl _) ?_ | refine PCall.pure (containsInt_c m.2 m.1.n) cA ?_ | refine zN rfl rfl rfl ?_ | refine zD ?_ | refine zE ?_ | refine zF ?_ | intro _ | refine zG ?_);conv=>whnf) | (refine zX (fun hc => ?_) (fun hc => ?_)<;>(try simp only [SY] at hc)<;>first | omega | (conv=>whnf)))
    refine PAppend.rowList (f := PV.int .i64) (l := l) (m := m.1.v) k1 k2 (Wk.tok _ _ _) (by omega) (by show _ * 8 ≤ _; omega) (fun t3 e3 s3 => ?_)
    conv => whnf
    repeat ((first | ((first | (apply zY;intro hg) | apply zZ);focus ((conv=>whnf);(repeat ((first | (refine zW ?_ ?_;exact gA) | refine zH rfl ?_ | refine zA ?_ | refine zI bA ?_ | refine zI rfl ?_ | refine zJ rfl rfl ?_ | refine zB ?_ | refine zK rfl ?_ | refine zL rfl ?_ | refine zC ?_ | (refine zO ?_ ?_ ?_;exact OA;exact OA) | (refine zP ?_ ?_ ?_;exact OA;exact OA) | refine zM rfl ?_ | (refine zQ ?_ ?_ ?_;exact OA;exact OA) | (refine zR ?_ ?_;exact OA) | (refine zI ?_ ?_;exact NA) | (refine zS ?_ ?_ ?_;exact OA;exact OA) | (refine zT ?_ ?_ ?_;exact OA;exact OA) | (refine zU ?_ ?_ ?_;exact OA;exact OA) | (refine zV ?_ ?_ ?_;exact OA;exact OA) | refine PCall.pure (names_c m.1) (WkT.refl _) ?_ | refine PCall.pure (names_c m.1) cA ?_ | refine PCall.pure (containsInt_c m.2 m.1.n) (WkT.refl _) ?_ | refine PCall.pure (containsInt_c m.2 m.1.n) cA ?_ | intro _);conv=>whnf));first | exact PShift.same | exact PShift.lit | exact PShift.ep)) | (refine zW ?_ ?_;exact gA) | refine zH rfl ?_ | refine zA ?_ | refine zI bA ?_ | refine zI rfl ?_ | refine zJ rfl rfl ?_ | refine zB ?_ | refine zK rfl ?_ | refine zL rfl ?_ | refine zC ?_ | (refine zO ?_ ?_ ?_;omega;omega) | (refine zP ?_ ?_ ?_;omega;omega) | refine zM rfl ?_ | (refine zQ ?_ ?_ ?_;omega;omega) | (refine zR ?_ ?_;omega) | (refine zI ?_ ?_;exact nA) | (refine zS ?_ ?_ ?_;omega;omega) | (refine zT ?_ ?_ ?_;omega;omega) | (refine zU ?_ ?_ ?_;omega;omega) | (refine zV ?_ ?_ ?_;omega;omega) | refine PCall.pure (names_c m.1) (WkT.refl _) ?_ | refine PCall.pure (names_c m.1) cA ?_ | refine PCall.pure (containsInt_c m.2 m.1.n) (WkT.refl _) ?_ | refine PCall.pure (containsInt_c m.2 m.1.n) cA ?_ | refine zN rfl rfl rfl ?_ | refine zD ?_ | refine zE ?_ | refine zF ?_ | intro _);conv=>whnf)
    exact roundEnd (k := k) (G := fun s : Tok × List Int => [.box bo [.ms s.1], .row s.1 (s.2.map (PV.int .i64))]) (I := fun k s => s.1.e = 3 ∧ s.1.s = 1 ∧ s.2 = bindsOf (t.all.take k)) (X := fun _ _ => False) (t3, l ++ m.1.v) ⟨e3, s3, by show l ++ m.1.v = bindsOf (t.all.take (k + 1)); rw [hst, k3]⟩ (hp := (inferInstance : PickL _ [.box bo [.ms t3], .row t3 ((l ++ m.1.v).map (PV.int .i64))] _))
  · rintro bd ⟨tk, l⟩ ⟨k1, k2, k3⟩
    dsimp only at k1 k2 k3 ⊢
    rw [List.length_map, List.take_length] at k3
    subst k3
    have hfl : (bindsOf t.all).length ≤ 1000000000 := by omega
    conv => whnf
    repeat' (first | ((first | ((first | (apply zY;intro hg) | apply zZ);focus ((conv=>whnf);(repeat ((first | (refine zW ?_ ?_;exact gA) | refine zH rfl ?_ | refine zA ?_ | refine zI bA ?_ | refine zI rfl ?_ | refine zJ rfl rfl ?_ | refine zB ?_ | refine zK rfl ?_ | refine zL rfl ?_ | refine zC ?_ | (refine zO ?_ ?_ ?_;exact OA;exact OA) | (refine zP ?_ ?_ ?_;exact OA;exact OA) | refine zM rfl ?_ | (refine zQ ?_ ?_ ?_;exact OA;exact OA) | (refine zR ?_ ?_;exact OA) | (refine zI ?_ ?_;exact NA) | (refine zS ?_ ?_ ?_;exact OA;exact OA) | (refine zT ?_ ?_ ?_;exact OA;exact OA) | (refine zU ?_ ?_ ?_;exact OA;exact OA) | (refine zV ?_ ?_ ?_;exact OA;exact OA) | refine PCall.pure (names_c m.1) (WkT.refl _) ?_ | refine PCall.pure (names_c m.1) cA ?_ | refine PCall.pure (containsInt_c m.2 m.1.n) (WkT.refl _) ?_ | refine PCall.pure (containsInt_c m.2 m.1.n) cA ?_ | intro _);conv=>whnf));first | exact PShift.same | exact PShift.lit | exact PShift.ep)) | (refine zW ?_ ?_;exact gA) | refine zH rfl ?_ | refine zA ?_ | refine zI bA ?_ | refine zI rfl ?_ | refine zJ rfl rfl ?_ | refine zB ?_ | refine zK rfl ?_ | refine zL rfl ?_ | refine zC ?_ | (refine zO ?_ ?_ ?_;omega;omega) | (refine zP ?_ ?_ ?_;omega;omega) | refine zM rfl ?_ | (refine zQ ?_ ?_ ?_;omega;omega) | (refine zR ?_ ?_;omega) | (refine zI ?_ ?_;exact nA) | (refine zS ?_ ?_ ?_;omega;omega) | (refine zT ?_ ?_ ?_;omega;omega) | (refine zU ?_ ?_ ?_;omega;omega) | (refine zV ?_ ?_ ?_;omega;omega) | refine PCall.pure (names_c m.1) (WkT.refl _) ?_ | refine PCall.pure (names_c m.1) cA ?_ | refine PCall.pure (containsInt_c m.2 m.1.n) (WkT.refl _) ?_ | refine PCall.pure (containsInt_c m.2 m.1.n) cA ?_ | refine zN rfl rfl rfl ?_ | refine zD ?_ | refine zE ?_ | refine zF ?_ | intro _ | refine zG ?_);conv=>whnf) | (refine zX (fun hc => ?_) (fun hc => ?_)<;>(try simp only [SY] at hc)<;>first | omega | (conv=>whnf)))
    refine PCall.goR [.ob bd dfrO [] [], .box bo [.ms tk]] (rising_c tk (bindsOf t.all) k2 hfl) (WkT.refl _) (List.Perm.refl _) ?_
    rintro _ _ ⟨t4, e4, s4, rfl, rfl⟩
    conv => whnf
    repeat ((first | ((first | (apply zY;intro hg) | apply zZ);focus ((conv=>whnf);(repeat ((first | (refine zW ?_ ?_;exact gA) | refine zH rfl ?_ | refine zA ?_ | refine zI bA ?_ | refine zI rfl ?_ | refine zJ rfl rfl ?_ | refine zB ?_ | refine zK rfl ?_ | refine zL rfl ?_ | refine zC ?_ | (refine zO ?_ ?_ ?_;exact OA;exact OA) | (refine zP ?_ ?_ ?_;exact OA;exact OA) | refine zM rfl ?_ | (refine zQ ?_ ?_ ?_;exact OA;exact OA) | (refine zR ?_ ?_;exact OA) | (refine zI ?_ ?_;exact NA) | (refine zS ?_ ?_ ?_;exact OA;exact OA) | (refine zT ?_ ?_ ?_;exact OA;exact OA) | (refine zU ?_ ?_ ?_;exact OA;exact OA) | (refine zV ?_ ?_ ?_;exact OA;exact OA) | refine PCall.pure (names_c m.1) (WkT.refl _) ?_ | refine PCall.pure (names_c m.1) cA ?_ | refine PCall.pure (containsInt_c m.2 m.1.n) (WkT.refl _) ?_ | refine PCall.pure (containsInt_c m.2 m.1.n) cA ?_ | intro _);conv=>whnf));first | exact PShift.same | exact PShift.lit | exact PShift.ep)) | (refine zW ?_ ?_;exact gA) | refine zH rfl ?_ | refine zA ?_ | refine zI bA ?_ | refine zI rfl ?_ | refine zJ rfl rfl ?_ | refine zB ?_ | refine zK rfl ?_ | refine zL rfl ?_ | refine zC ?_ | (refine zO ?_ ?_ ?_;omega;omega) | (refine zP ?_ ?_ ?_;omega;omega) | refine zM rfl ?_ | (refine zQ ?_ ?_ ?_;omega;omega) | (refine zR ?_ ?_;omega) | (refine zI ?_ ?_;exact nA) | (refine zS ?_ ?_ ?_;omega;omega) | (refine zT ?_ ?_ ?_;omega;omega) | (refine zU ?_ ?_ ?_;omega;omega) | (refine zV ?_ ?_ ?_;omega;omega) | refine PCall.pure (names_c m.1) (WkT.refl _) ?_ | refine PCall.pure (names_c m.1) cA ?_ | refine PCall.pure (containsInt_c m.2 m.1.n) (WkT.refl _) ?_ | refine PCall.pure (containsInt_c m.2 m.1.n) cA ?_ | refine zN rfl rfl rfl ?_ | refine zD ?_ | refine zE ?_ | refine zF ?_ | intro _);conv=>whnf)
    refine PMark.at_ rfl ?_
    conv => whnf
    exact PRet.gen (y := .ms t4) (Wk.refl _) ⟨t4, e4.trans k1, s4, rfl, rfl⟩
theorem binds_c (t : Trm) (hb : t.bulk ≤ 1000000000) : ACallP Tryz.prog 20 [.agg t.cells] (slI (riseL (bindsOf t.all))) :=
  ACallP.of_any ((binds_c0 t hb).shift fun y Γ' hq => by
    obtain ⟨tk, h1, h2, rfl, rfl⟩ := hq
    exact ⟨_, _, Shift.freezeRow (es := (riseL (bindsOf t.all)).map (PV.int .i64)) (WkF.ms' h2), rfl⟩)
end Go.Cb
namespace Go.Cb
open Go.Proofs
set_option maxRecDepth 100000
set_option maxHeartbeats 4000000
def RightP (p : Prog) (level : Int) : Prop :=
  (0 ≤ level ∧ level ≤ 2) ∧ (∀ d ∈ p.consts, d.rightD 0 = true) ∧ p.body.okT level p.consts.length 0 false [] 0 ∧ p.body.cnt ≤ 20000 ∧ Dist p.body.vars []
theorem checkD_right (p : Prog) (level : Int) : checkD p level = 0 ↔ RightP p level := by
  unfold checkD RightP
  have h := (p.body.ckD_sp level p.consts.length 0 false [] 0 0 []).some_iff
  by_cases hl : (decide (level < 0) || decide (level > 2)) = true
  · rw [if_pos hl]
    simp at hl
    constructor
    · intro h; cases h
    · rintro ⟨h, _⟩; omega
  · rw [if_neg hl]
    simp at hl
    split
    · rename_i hr
      simp only [Bool.and_eq_true, List.all_eq_true, h] at hr
      exact ⟨fun _ => ⟨by omega, hr.1, hr.2.1, by omega, hr.2.2.2⟩, fun _ => rfl⟩
    · rename_i hr
      simp only [Bool.and_eq_true, List.all_eq_true, h] at hr
      exact ⟨fun h => (by cases h), fun ⟨_, h1, h2, h3, h4⟩ => absurd ⟨h1, h2, by omega, h4⟩ hr⟩
theorem checkD_ill (p : Prog) (level : Int) (h0 : 0 ≤ level) (h2 : level ≤ 2) : checkD p level = if checkD p level = 0 then 0 else 5 := by
  unfold checkD
  rw [if_neg (by simp; omega)]
  split <;> rfl
mutual
def Trm.gre : Trm → Int
  | .mk op n _ t => Trm.gres t (if op = 0 then n else -1)
def Trm.gres : List Trm → Int → Int
  | [], m => m
  | x :: xs, m => Trm.gres xs (max m (Trm.gre x))
end
theorem Trm.gre_eq (t : Trm) : t.gre = Trm.gres t.t (if t.op = 0 then t.n else -1) := by cases t; rw [Trm.gre]; rfl
theorem Trm.gres_lt (c : Int) : ∀ (l : List Trm) (m : Int), Trm.gres l m < c ↔ m < c ∧ ∀ x ∈ l, x.gre < c
  | [], m => by simp [Trm.gres]
  | x :: l, m => by
    rw [Trm.gres, Trm.gres_lt c l]
    simp only [List.forall_mem_cons]
    constructor
    · rintro ⟨h1, h2⟩; exact ⟨by omega, by omega, h2⟩
    · rintro ⟨h1, h2, h3⟩; exact ⟨by omega, h3⟩
theorem numberL_other (c1 c2 codes : Int) (free : Bool) (t : Trm) (scope : List Int) (h : t.op ≠ 0) : numberL c1 codes free t scope = numberL c2 codes free t scope := by
  unfold numberL
  rw [if_neg h, if_neg h]
theorem Trm.okT_consts (level codes : Int) (free : Bool) (c1 c2 : Int) (h2 : 0 ≤ c2) (t : Trm) : ∀ (scope : List Int) (deep : Int), t.okT level c1 codes free scope deep → (t.okT level c2 codes free scope deep ↔ t.gre < c2) := by
  induction t using Trm.ind with
  | h t ih =>
    intro scope deep h
    have key : ∀ (op : Int) (sc inner : List Int) (deep : Int) (l : List Trm), (∀ y ∈ l, ∀ (scope : List Int) (deep : Int), y.okT level c1 codes free scope deep → (y.okT level c2 codes free scope deep ↔ y.gre < c2)) →
        Trm.okTs level c1 codes free op sc inner l deep → (Trm.okTs level c2 codes free op sc inner l deep ↔ ∀ x ∈ l, x.gre < c2) := by
      intro op sc inner deep l
      induction l with
      | nil => intro _ _; simp [Trm.okTs]
      | cons x l ihl =>
        intro hy hk
        rw [Trm.okTs] at hk
        rw [Trm.okTs, List.forall_mem_cons, hy x (by simp) _ _ hk.2.1, ihl (fun y hh => hy y (by simp [hh])) hk.2.2]
        simp only [hk.1, not_false_eq_true, true_and]
    rw [Trm.okT_eq] at h
    rw [Trm.okT_eq, Trm.gre_eq, Trm.gres_lt, key _ _ _ _ _ ih h.2]
    obtain ⟨⟨g1, g2, g3, g4⟩, _⟩ := h
    have hn : numberL c2 codes free t scope = true ↔ (if t.op = 0 then t.n else -1) < c2 := by
      by_cases h0 : t.op = 0
      · rw [if_pos h0]
        unfold numberL at g4 ⊢
        rw [if_pos h0] at g4 ⊢
        simp at g4 ⊢
        omega
      · rw [if_neg h0, numberL_other c2 c1 codes free t scope h0]
        simp only [g4, true_iff]
        omega
    rw [hn]
    simp only [g1, g2, g3, true_and]
theorem RightP.consts {p : Prog} {level : Int} (h : RightP p level) (cs : List Datum) (hc : ∀ d ∈ cs, d.rightD 0 = true) : RightP ⟨cs, p.body⟩ level ↔ p.body.gre < cs.length := by
  obtain ⟨h1, h2, h3, h4, h5⟩ := h
  unfold RightP
  simp only [h1, true_and, h4, h5, and_true]
  rw [Trm.okT_consts level 0 false p.consts.length cs.length (by omega) p.body [] 0 h3]
  simp [h1.1, h1.2]
  exact fun _ => hc
theorem RightP.gre {p : Prog} {level : Int} (h : RightP p level) : p.body.gre < p.consts.length := (h.consts p.consts h.2.1).1 h
theorem Trm.gre_ge (t : Trm) : ∀ {level c codes : Int} {free : Bool} {scope : List Int} {deep : Int}, t.okT level c codes free scope deep → -1 ≤ t.gre := by
  intro level c codes free scope deep h
  rw [Trm.okT_eq] at h
  rw [Trm.gre_eq]
  have : ∀ (l : List Trm) (m : Int), -1 ≤ m → -1 ≤ Trm.gres l m := by
    intro l
    induction l with
    | nil => intro m h; rwa [Trm.gres]
    | cons x l ih => intro m h; rw [Trm.gres]; exact ih _ (by omega)
  apply this
  split
  · rename_i h0
    have := h.1.2.2.2
    unfold numberL at this
    rw [if_pos h0] at this
    simp at this
    omega
  · omega
end Go.Cb
namespace Go.Cb
open Go.Proofs
set_option maxRecDepth 100000
set_option maxHeartbeats 4000000
theorem Trm.met_scope (t : Trm) : ∀ (pre sc : List Int) (deep : Int), t.met (pre ++ sc) deep = (t.met sc deep).map fun m => (m.1, pre ++ m.2) := by
  induction t using Trm.ind with
  | h t ih =>
    intro pre sc deep
    have key : ∀ (op : Int) (l : List Trm), (∀ y ∈ l, ∀ (pre sc : List Int) (deep : Int), y.met (pre ++ sc) deep = (y.met sc deep).map fun m => (m.1, pre ++ m.2)) →
        ∀ (sc inner : List Int) (deep : Int), Trm.mets op (pre ++ sc) (pre ++ inner) l deep = (Trm.mets op sc inner l deep).map fun m => (m.1, pre ++ m.2) := by
      intro op l
      induction l with
      | nil => intro _ _ _ _; simp [Trm.mets]
      | cons x l ihl =>
        intro hy sc inner deep
        rw [Trm.mets, Trm.mets, List.map_append, ihl (fun y hh => hy y (by simp [hh]))]
        congr 1
        split
        · exact hy x (by simp) _ _ _
        · exact hy x (by simp) _ _ _
    rw [Trm.met_eq, Trm.met_eq, List.map_cons, List.append_assoc]
    congr 1
    split
    · rfl
    · exact key _ _ ih _ _ _
mutual
def Trm.dep : Trm → Int
  | .mk _ _ _ t => Trm.deps t 0
def Trm.deps : List Trm → Int → Int
  | [], d => d
  | x :: xs, d => Trm.deps xs (max d (1 + Trm.dep x))
end
theorem Trm.dep_eq (t : Trm) : t.dep = Trm.deps t.t 0 := by cases t; rfl
theorem Trm.deps_le (c : Int) : ∀ (l : List Trm) (d : Int), Trm.deps l d ≤ c ↔ d ≤ c ∧ ∀ x ∈ l, 1 + x.dep ≤ c
  | [], d => by simp [Trm.deps]
  | x :: l, d => by
    rw [Trm.deps, Trm.deps_le c l]
    simp only [List.forall_mem_cons]
    constructor
    · rintro ⟨h1, h2⟩; exact ⟨by omega, by omega, h2⟩
    · rintro ⟨h1, h2, h3⟩; exact ⟨by omega, h3⟩
theorem Trm.deps_ge : ∀ (l : List Trm) (d : Int), d ≤ Trm.deps l d
  | [], d => by simp [Trm.deps]
  | x :: l, d => by rw [Trm.deps]; have := Trm.deps_ge l (max d (1 + x.dep)); omega
theorem Trm.dep_pos (t : Trm) : 0 ≤ t.dep := by rw [Trm.dep_eq]; exact Trm.deps_ge _ _
theorem Trm.dep_lt (t : Trm) : t.dep < t.cnt := by
  induction t using Trm.ind with
  | h t ih =>
    have : ∀ (l : List Trm), (∀ x ∈ l, x.dep < x.cnt) → ∀ x ∈ l, 1 + x.dep ≤ Trm.cnts l := by
      intro l
      induction l with
      | nil => intro _; simp
      | cons y l ihl =>
        intro h x hx
        rw [Trm.cnts]
        rcases List.mem_cons.1 hx with rfl | hx
        · have := h x (by simp); have := Trm.cnts_pos l; omega
        · have := ihl (fun z hz => h z (by simp [hz])) x hx; have := y.cnt_pos; omega
    have h1 := this t.t ih
    have h2 := (Trm.deps_le (Trm.cnts t.t) t.t 0).2 ⟨Trm.cnts_pos _, h1⟩
    rw [Trm.dep_eq, Trm.cnt_eq]; omega
theorem Trm.few_cnt (t : Trm) : ∀ n : Int, 0 ≤ t.few n → t.few n = n - t.cnt := by
  induction t using Trm.ind with
  | h t ih =>
    intro n h
    have : ∀ (l : List Trm), (∀ x ∈ l, ∀ n : Int, 0 ≤ x.few n → x.few n = n - x.cnt) → ∀ n : Int, 0 ≤ Trm.fews l n → Trm.fews l n = n - Trm.cnts l := by
      intro l
      induction l with
      | nil => intro _ n _; simp [Trm.fews, Trm.cnts]
      | cons y l ihl =>
        intro hy n hn
        rw [Trm.fews] at hn ⊢
        rw [Trm.cnts]
        split at hn
        · rename_i h0
          rw [if_pos h0]
          have h1 := ihl (fun z hz => hy z (by simp [hz])) _ hn
          have h2 : 0 ≤ y.few n := by have := Trm.cnts_pos l; omega
          rw [h1, hy y (by simp) n h2]; omega
        · omega
    rw [Trm.few_eq] at h ⊢
    rw [this t.t ih _ h, Trm.cnt_eq]; omega
theorem Trm.few_le (t : Trm) (n : Int) (h : 0 ≤ t.few n) : t.cnt ≤ n := by have := t.few_cnt n h; omega
theorem Trm.met_all (t : Trm) : ∀ (sc : List Int) (deep : Int), deep + t.dep < 1000 → (t.met sc deep).length = t.cnt ∧ (t.met sc deep).flatMap (fun m => m.1.v) = t.vars := by
  induction t using Trm.ind with
  | h t ih =>
    intro sc deep h
    rw [Trm.dep_eq] at h
    have hd := (Trm.deps_le (999 - deep) t.t 0).1 (by omega)
    have key : ∀ (op : Int) (l : List Trm), (∀ y ∈ l, ∀ (sc : List Int) (deep : Int), deep + y.dep < 1000 → (y.met sc deep).length = y.cnt ∧ (y.met sc deep).flatMap (fun m => m.1.v) = y.vars) →
        ∀ (sc inner : List Int) (deep : Int), (∀ x ∈ l, deep + x.dep < 1000) → (Trm.mets op sc inner l deep).length = Trm.cnts l ∧ (Trm.mets op sc inner l deep).flatMap (fun m => m.1.v) = Trm.varss l := by
      intro op l
      induction l with
      | nil => intro _ _ _ _ _; simp [Trm.mets, Trm.cnts, Trm.varss]
      | cons x l ihl =>
        intro hy sc inner deep hx
        have h1 := hy x (by simp) (if groupB op = true ∨ l = [] then inner else sc) deep (hx x (by simp))
        have h2 := ihl (fun y hh => hy y (by simp [hh])) sc inner deep fun y hh => hx y (by simp [hh])
        rw [Trm.mets, Trm.cnts, Trm.varss, List.flatMap_append, h1.2, h2.2, List.length_append]
        exact ⟨by have := h1.1; have := h2.1; omega, rfl⟩
    have h1 := key t.op t.t ih sc (sc ++ t.v) (deep + 1) fun x hx => by have := hd.2 x hx; omega
    have hlt : ¬ deep ≥ 1000 := by have := Trm.deps_ge t.t 0; omega
    rw [Trm.met_eq, if_neg hlt, Trm.cnt_eq, Trm.vars_eq, List.flatMap_cons, List.length_cons, h1.2]
    exact ⟨by have := h1.1; omega, rfl⟩
theorem Trm.all_cnt (t : Trm) (h : t.dep < 1000) : (t.all.length : Int) = t.cnt := (t.met_all [] 0 (by omega)).1
theorem Trm.okT_deep {level c codes : Int} {free : Bool} (t : Trm) : ∀ {scope : List Int} {deep : Int}, t.okT level c codes free scope deep → deep + t.dep ≤ 400 := by
  induction t using Trm.ind with
  | h t ih =>
    intro scope deep h
    rw [Trm.okT_eq] at h
    have key : ∀ (op : Int) (sc inner : List Int) (deep : Int) (l : List Trm), (∀ y ∈ l, ∀ {scope : List Int} {deep : Int}, y.okT level c codes free scope deep → deep + y.dep ≤ 400) → Trm.okTs level c codes free op sc inner l deep → ∀ x ∈ l, deep + x.dep ≤ 400 := by
      intro op sc inner deep l
      induction l with
      | nil => intro _ _; simp
      | cons x l ihl =>
        intro hy hk y hm
        rw [Trm.okTs] at hk
        rcases List.mem_cons.1 hm with rfl | hm
        · exact hy y (by simp) hk.2.1
        · exact ihl (fun z hz => hy z (by simp [hz])) hk.2.2 y hm
    have h1 := key _ _ _ _ _ ih h.2
    have := (Trm.deps_le (400 - deep) t.t 0).2 ⟨by have := h.1.1; omega, fun x hx => by have := h1 x hx; omega⟩
    rw [Trm.dep_eq]; omega
theorem Trm.okT_move {level c codes : Int} {free : Bool} (t : Trm) : ∀ {scope : List Int} {deep deep2 : Int}, t.okT level c codes free scope deep → deep2 + t.dep ≤ 400 → t.okT level c codes free scope deep2 := by
  induction t using Trm.ind with
  | h t ih =>
    intro scope deep deep2 h hd
    rw [Trm.okT_eq] at h ⊢
    rw [Trm.dep_eq] at hd
    have hd2 := (Trm.deps_le (400 - deep2) t.t 0).1 (by omega)
    have key : ∀ (op : Int) (sc inner : List Int) (deep deep2 : Int) (l : List Trm), (∀ y ∈ l, ∀ {scope : List Int} {deep deep2 : Int}, y.okT level c codes free scope deep → deep2 + y.dep ≤ 400 → y.okT level c codes free scope deep2) → (∀ x ∈ l, deep2 + x.dep ≤ 400) →
        Trm.okTs level c codes free op sc inner l deep → Trm.okTs level c codes free op sc inner l deep2 := by
      intro op sc inner deep deep2 l
      induction l with
      | nil => intro _ _ _; simp [Trm.okTs]
      | cons x l ihl =>
        intro hy hx hk
        rw [Trm.okTs] at hk ⊢
        exact ⟨hk.1, hy x (by simp) hk.2.1 (hx x (by simp)), ihl (fun z hz => hy z (by simp [hz])) (fun z hz => hx z (by simp [hz])) hk.2.2⟩
    exact ⟨⟨by have := Trm.deps_ge t.t 0; omega, h.1.2⟩, key _ _ _ _ _ _ ih (fun x hx => by have := hd2.2 x hx; omega) h.2⟩
theorem Trm.okT_names {level c codes : Int} {free : Bool} (t : Trm) : ∀ {scope : List Int} {deep : Int} (deep2 : Int), t.okT level c codes free scope deep → ∀ m ∈ t.met scope deep2, namesB m.1.op = true → m.2.contains m.1.n = true := by
  induction t using Trm.ind with
  | h t ih =>
    intro scope deep deep2 h
    rw [Trm.okT_eq] at h
    have key : ∀ (op : Int) (sc inner : List Int) (deep deep2 : Int) (l : List Trm), (∀ y ∈ l, ∀ {scope : List Int} {deep : Int} (deep2 : Int), y.okT level c codes free scope deep → ∀ m ∈ y.met scope deep2, namesB m.1.op = true → m.2.contains m.1.n = true) →
        Trm.okTs level c codes free op sc inner l deep → ∀ m ∈ Trm.mets op sc inner l deep2, namesB m.1.op = true → m.2.contains m.1.n = true := by
      intro op sc inner deep deep2 l
      induction l with
      | nil => intro _ _; simp [Trm.mets]
      | cons x l ihl =>
        intro hy hk m hm
        rw [Trm.okTs] at hk
        rw [Trm.mets, List.mem_append] at hm
        rcases hm with hm | hm
        · have e : (if groupB op = true ∨ l = [] then inner else sc) = (if l = [] ∨ op = 7 ∨ op = 9 then inner else sc) := by
            by_cases h1 : l = [] <;> by_cases h2 : op = 7 <;> by_cases h3 : op = 9 <;> simp [groupB, h1, h2, h3]
          rw [e] at hm
          exact hy x (by simp) deep2 hk.2.1 m hm
        · exact ihl (fun z hz => hy z (by simp [hz])) hk.2.2 m hm
    intro m hm
    rw [Trm.met_eq] at hm
    rcases List.mem_cons.1 hm with rfl | hm
    · intro hn
      have h4 := h.1.2.2.2
      have ho : t.op = 1 ∨ t.op = 2 ∨ t.op = 14 := by simp [namesB] at hn; omega
      unfold numberL at h4
      rw [if_neg (by omega), if_pos ho] at h4
      exact h4
    · split at hm
      · cases hm
      · exact key _ _ _ _ _ _ ih h.2 m hm
theorem RightP.free {p : Prog} {level : Int} (h : RightP p level) : freeOf p.body.all = [] := by
  unfold freeOf
  rw [List.map_eq_nil_iff, List.filter_eq_nil_iff]
  intro m hm
  have := p.body.okT_names 0 h.2.2.1 m hm
  simp
  simpa using this
theorem RightP.seq {p : Prog} {level : Int} (h : RightP p level) (hd : p.body.dep < 400) (hc : p.body.cnt ≤ 300) : RightP ⟨p.consts, .mk 6 0 [] [p.body]⟩ level := by
  obtain ⟨h1, h2, h3, h4, h5⟩ := h
  refine ⟨h1, h2, ?_, ?_, ?_⟩
  · rw [Trm.okT, Trm.okTs, Trm.okTs]
    refine ⟨⟨by omega, ?_, ?_, ?_⟩, ⟨by simp, ?_, trivial⟩⟩
    · simp [sortsL]
    · simp [countsL, Trm.op, Trm.t, Trm.v]
    · simp [numberL, Trm.op, Trm.n]
    · rw [if_pos (.inl rfl)]
      exact Trm.okT_move _ h3 (by omega)
  · show Trm.cnt (.mk 6 0 [] [p.body]) ≤ 20000
    rw [Trm.cnt_eq]
    show 1 + Trm.cnts [p.body] ≤ 20000
    rw [Trm.cnts, Trm.cnts]; omega
  · show Dist (Trm.vars (.mk 6 0 [] [p.body])) []
    rw [Trm.vars_eq]
    show Dist ([] ++ Trm.varss [p.body]) []
    rw [Trm.varss, Trm.varss]
    simpa using h5
end Go.Cb
namespace Go.Cb
open Go.Proofs
set_option maxRecDepth 100000
set_option maxHeartbeats 4000000
theorem Trm.cnt_bulk (t : Trm) : t.cnt ≤ t.bulk := by
  induction t using Trm.ind with
  | h t ih =>
    have : ∀ l : List Trm, (∀ x ∈ l, x.cnt ≤ x.bulk) → Trm.cnts l ≤ Trm.bulks l := by
      intro l
      induction l with
      | nil => intro _; simp [Trm.cnts, Trm.bulks]
      | cons y l ihl => intro h; rw [Trm.cnts, Trm.bulks]; have := h y (by simp); have := ihl fun x hx => h x (by simp [hx]); omega
    have := this t.t ih
    rw [Trm.cnt_eq, Trm.bulk_eq]; omega
theorem Trm.vars_bulk (t : Trm) : t.vars.length ≤ t.bulk := by
  induction t using Trm.ind with
  | h t ih =>
    have : ∀ l : List Trm, (∀ x ∈ l, x.vars.length ≤ x.bulk) → (Trm.varss l).length ≤ Trm.bulks l := by
      intro l
      induction l with
      | nil => intro _; simp [Trm.varss, Trm.bulks]
      | cons y l ihl => intro h; rw [Trm.varss, Trm.bulks, List.length_append]; have := h y (by simp); have := ihl fun x hx => h x (by simp [hx]); omega
    have := this t.t ih
    rw [Trm.vars_eq, Trm.bulk_eq, List.length_append]; omega
theorem deep_c (t : Trm) : t.bulk ≤ 1000000000 → ACallP Tryz.prog 23 [.agg t.cells] (.int .i64 t.dep) := by
  induction t using Trm.ind with
  | h t ih =>
    intro hb
    have hbe := t.bulk_eq
    have ih' : ∀ x ∈ t.t, ACallP Tryz.prog 23 [.agg x.cells] (.int .i64 x.dep) := fun x hx => ih x hx (by have := Trm.bulks_mem hx; omega)
    have hd : ∀ x ∈ t.t, 0 ≤ x.dep ∧ x.dep ≤ 1000000000 := fun x hx => ⟨x.dep_pos, by have := x.dep_lt; have := x.cnt_bulk; have := Trm.bulks_mem hx; omega⟩
    refine ACall.of_body tt_ok Tryz.func23 rfl rfl (n := 22) rfl rfl ?_
    conv => whnf
    repeat ((first | ((first | (apply zY;intro hg) | apply zZ);exact stA) | (refine zW ?_ ?_;exact gA) | refine zH rfl ?_ | refine zA ?_ | refine zI bA ?_ | refine zI rfl ?_ | refine zJ rfl rfl ?_ | refine zB ?_ | refine zK rfl ?_ | refine zL rfl ?_ | refine zC ?_ | (refine zO ?_ ?_ ?_;omega;omega) | (refine zP ?_ ?_ ?_;omega;omega) | refine zM rfl ?_ | (refine zQ ?_ ?_ ?_;omega;omega) | (refine zR ?_ ?_;omega) | (refine zI ?_ ?_;exact nA) | (refine zS ?_ ?_ ?_;omega;omega) | (refine zT ?_ ?_ ?_;omega;omega) | (refine zU ?_ ?_ ?_;omega;omega) | (refine zV ?_ ?_ ?_;omega;omega) | refine zN rfl rfl rfl ?_ | refine zD ?_ | refine zE ?_ | refine zF ?_ | intro _);conv=>whnf)
    refine PLoop.keep [3, 4, 5, 6, 7, 8, 9, 10, 11, 12, 13, 14, 15, 16, 17, 18, 19, 20] (fun (x : Nat × Int) => [(3, .int .i64 x.2), (4, .int .i64 x.1)]) (fun x => x.1 ≤ t.t.length ∧ Trm.deps (t.t.drop x.1) x.2 = t.dep) (fun x => t.t.length - x.1) (0, 0) ⟨by simp, by rw [Trm.dep_eq]; rfl⟩ wA ?_
    rintro ⟨i, m⟩ ⟨hi, hm⟩
    dsimp only at hi hm ⊢
    conv => whnf
    repeat' (first | ((first | ((first | (apply zY;intro hg) | apply zZ);focus ((conv=>whnf);(repeat ((first | (refine zW ?_ ?_;exact gA) | refine zH rfl ?_ | refine zA ?_ | refine zI bA ?_ | refine zI rfl ?_ | refine zJ rfl rfl ?_ | refine zB ?_ | refine zK rfl ?_ | refine zL rfl ?_ | refine zC ?_ | (refine zO ?_ ?_ ?_;exact OA;exact OA) | (refine zP ?_ ?_ ?_;exact OA;exact OA) | refine zM rfl ?_ | (refine zQ ?_ ?_ ?_;exact OA;exact OA) | (refine zR ?_ ?_;exact OA) | (refine zI ?_ ?_;exact NA) | (refine zS ?_ ?_ ?_;exact OA;exact OA) | (refine zT ?_ ?_ ?_;exact OA;exact OA) | (refine zU ?_ ?_ ?_;exact OA;exact OA) | (refine zV ?_ ?_ ?_;exact OA;exact OA) | refine PCall.pure (ih' _ (List.getElem_mem _)) (WkT.refl _) ?_ | refine PCall.pure (ih' _ (List.getElem_mem _)) cA ?_ | intro _);conv=>whnf));first | exact PShift.same | exact PShift.lit | exact PShift.ep)) | (refine zW ?_ ?_;exact gA) | refine zH rfl ?_ | refine zA ?_ | refine zI bA ?_ | refine zI rfl ?_ | refine zJ rfl rfl ?_ | refine zB ?_ | refine zK rfl ?_ | refine zL rfl ?_ | refine zC ?_ | (refine zO ?_ ?_ ?_;omega;omega) | (refine zP ?_ ?_ ?_;omega;omega) | refine zM rfl ?_ | (refine zQ ?_ ?_ ?_;omega;omega) | (refine zR ?_ ?_;omega) | (refine zI ?_ ?_;exact nA) | (refine zS ?_ ?_ ?_;omega;omega) | (refine zT ?_ ?_ ?_;omega;omega) | (refine zU ?_ ?_ ?_;omega;omega) | (refine zV ?_ ?_ ?_;omega;omega) | refine PCall.pure (ih' _ (List.getElem_mem _)) (WkT.refl _) ?_ | refine PCall.pure (ih' _ (List.getElem_mem _)) cA ?_ | refine zN rfl rfl rfl ?_ | refine zD ?_ | refine zE ?_ | refine zF ?_ | intro _ | refine zG ?_);conv=>whnf) | (refine zX (fun hc => ?_) (fun hc => ?_)<;>(try simp only [SY] at hc)<;>first | omega | (conv=>whnf)))
    · have hx := hd t.t[i] (List.getElem_mem _)
      refine PInt.ok (by omega) (by omega) ?_
      conv => whnf
      repeat' (first | ((first | ((first | (apply zY;intro hg) | apply zZ);focus ((conv=>whnf);(repeat ((first | (refine zW ?_ ?_;exact gA) | refine zH rfl ?_ | refine zA ?_ | refine zI bA ?_ | refine zI rfl ?_ | refine zJ rfl rfl ?_ | refine zB ?_ | refine zK rfl ?_ | refine zL rfl ?_ | refine zC ?_ | (refine zO ?_ ?_ ?_;exact OA;exact OA) | (refine zP ?_ ?_ ?_;exact OA;exact OA) | refine zM rfl ?_ | (refine zQ ?_ ?_ ?_;exact OA;exact OA) | (refine zR ?_ ?_;exact OA) | (refine zI ?_ ?_;exact NA) | (refine zS ?_ ?_ ?_;exact OA;exact OA) | (refine zT ?_ ?_ ?_;exact OA;exact OA) | (refine zU ?_ ?_ ?_;exact OA;exact OA) | (refine zV ?_ ?_ ?_;exact OA;exact OA) | refine PCall.pure (ih' _ (List.getElem_mem _)) (WkT.refl _) ?_ | refine PCall.pure (ih' _ (List.getElem_mem _)) cA ?_ | intro _);conv=>whnf));first | exact PShift.same | exact PShift.lit | exact PShift.ep)) | (refine zW ?_ ?_;exact gA) | refine zH rfl ?_ | refine zA ?_ | refine zI bA ?_ | refine zI rfl ?_ | refine zJ rfl rfl ?_ | refine zB ?_ | refine zK rfl ?_ | refine zL rfl ?_ | refine zC ?_ | (refine zO ?_ ?_ ?_;omega;omega) | (refine zP ?_ ?_ ?_;omega;omega) | refine zM rfl ?_ | (refine zQ ?_ ?_ ?_;omega;omega) | (refine zR ?_ ?_;omega) | (refine zI ?_ ?_;exact nA) | (refine zS ?_ ?_ ?_;omega;omega) | (refine zT ?_ ?_ ?_;omega;omega) | (refine zU ?_ ?_ ?_;omega;omega) | (refine zV ?_ ?_ ?_;omega;omega) | refine PCall.pure (ih' _ (List.getElem_mem _)) (WkT.refl _) ?_ | refine PCall.pure (ih' _ (List.getElem_mem _)) cA ?_ | refine zN rfl rfl rfl ?_ | refine zD ?_ | refine zE ?_ | refine zF ?_ | intro _ | refine zG ?_);conv=>whnf) | (refine zX (fun hc => ?_) (fun hc => ?_)<;>(try simp only [SY] at hc)<;>first | omega | (conv=>whnf)))
      rw [drop_at (show i < t.t.length by omega), Trm.deps] at hm
      exact loopTo (i + 1, max m (1 + t.t[i].dep)) ⟨by show i + 1 ≤ _; omega, hm⟩ (by show t.t.length - (i + 1) < t.t.length - i; omega) wA
    · rw [List.drop_of_length_le (by omega), Trm.deps] at hm
      exact PRet.pure (Wk.int hm)
theorem binders_c (t : Trm) : t.bulk ≤ 1000000000 → ACallP Tryz.prog 22 [.agg t.cells] (.int .i64 t.vars.length) := by
  induction t using Trm.ind with
  | h t ih =>
    intro hb
    have hbe := t.bulk_eq
    have hvb := t.vars_bulk
    have hve := congrArg List.length t.vars_eq
    rw [List.length_append] at hve
    have ih' : ∀ x ∈ t.t, ACallP Tryz.prog 22 [.agg x.cells] (.int .i64 x.vars.length) := fun x hx => ih x hx (by have := Trm.bulks_mem hx; omega)
    refine ACall.of_body tt_ok Tryz.func22 rfl rfl (n := 24) rfl rfl ?_
    conv => whnf
    repeat ((first | ((first | (apply zY;intro hg) | apply zZ);focus ((conv=>whnf);(repeat ((first | (refine zW ?_ ?_;exact gA) | refine zH rfl ?_ | refine zA ?_ | refine zI bA ?_ | refine zI rfl ?_ | refine zJ rfl rfl ?_ | refine zB ?_ | refine zK rfl ?_ | refine zL rfl ?_ | refine zC ?_ | (refine zO ?_ ?_ ?_;exact OA;exact OA) | (refine zP ?_ ?_ ?_;exact OA;exact OA) | refine zM rfl ?_ | (refine zQ ?_ ?_ ?_;exact OA;exact OA) | (refine zR ?_ ?_;exact OA) | (refine zI ?_ ?_;exact NA) | (refine zS ?_ ?_ ?_;exact OA;exact OA) | (refine zT ?_ ?_ ?_;exact OA;exact OA) | (refine zU ?_ ?_ ?_;exact OA;exact OA) | (refine zV ?_ ?_ ?_;exact OA;exact OA) | refine PCall.pure (ih' _ (List.getElem_mem _)) (WkT.refl _) ?_ | refine PCall.pure (ih' _ (List.getElem_mem _)) cA ?_ | intro _);conv=>whnf));first | exact PShift.same | exact PShift.lit | exact PShift.ep)) | (refine zW ?_ ?_;exact gA) | refine zH rfl ?_ | refine zA ?_ | refine zI bA ?_ | refine zI rfl ?_ | refine zJ rfl rfl ?_ | refine zB ?_ | refine zK rfl ?_ | refine zL rfl ?_ | refine zC ?_ | (refine zO ?_ ?_ ?_;omega;omega) | (refine zP ?_ ?_ ?_;omega;omega) | refine zM rfl ?_ | (refine zQ ?_ ?_ ?_;omega;omega) | (refine zR ?_ ?_;omega) | (refine zI ?_ ?_;exact nA) | (refine zS ?_ ?_ ?_;omega;omega) | (refine zT ?_ ?_ ?_;omega;omega) | (refine zU ?_ ?_ ?_;omega;omega) | (refine zV ?_ ?_ ?_;omega;omega) | refine PCall.pure (ih' _ (List.getElem_mem _)) (WkT.refl _) ?_ | refine PCall.pure (ih' _ (List.getElem_mem _)) cA ?_ | refine zN rfl rfl rfl ?_ | refine zD ?_ | refine zE ?_ | refine zF ?_ | intro _);conv=>whnf)
    refine PLoop.keep [3, 4, 8, 9, 10, 11, 12, 13, 14, 15, 16, 17, 18, 19, 20, 21, 22] (fun (x : Nat × Nat) => [(3, .int .i64 x.2), (4, .int .i64 x.1)]) (fun x => x.1 ≤ t.t.length ∧ x.2 + (Trm.varss (t.t.drop x.1)).length = t.vars.length) (fun x => t.t.length - x.1) (0, t.v.length) ⟨by simp, by simp only [List.drop_zero]; omega⟩ wA ?_
    rintro ⟨i, m⟩ ⟨hi, hm⟩
    dsimp only at hi hm ⊢
    conv => whnf
    repeat' (first | ((first | ((first | (apply zY;intro hg) | apply zZ);focus ((conv=>whnf);(repeat ((first | (refine zW ?_ ?_;exact gA) | refine zH rfl ?_ | refine zA ?_ | refine zI bA ?_ | refine zI rfl ?_ | refine zJ rfl rfl ?_ | refine zB ?_ | refine zK rfl ?_ | refine zL rfl ?_ | refine zC ?_ | (refine zO ?_ ?_ ?_;exact OA;exact OA) | (refine zP ?_ ?_ ?_;exact OA;exact OA) | refine zM rfl ?_ | (refine zQ ?_ ?_ ?_;exact OA;exact OA) | (refine zR ?_ ?_;exact OA) | (refine zI ?_ ?_;exact NA) | (refine zS ?_ ?_ ?_;exact OA;exact OA) | (refine zT ?_ ?_ ?_;exact OA;exact OA) | (refine zU ?_ ?_ ?_;exact OA;exact OA) | (refine zV ?_ ?_ ?_;exact OA;exact OA) | refine PCall.pure (ih' _ (List.getElem_mem _)) (WkT.refl _) ?_ | refine PCall.pure (ih' _ (List.getElem_mem _)) cA ?_ | intro _);conv=>whnf));first | exact PShift.same | exact PShift.lit | exact PShift.ep)) | (refine zW ?_ ?_;exact gA) | refine zH rfl ?_ | refine zA ?_ | refine zI bA ?_ | refine zI rfl ?_ | refine zJ rfl rfl ?_ | refine zB ?_ | refine zK rfl ?_ | refine zL rfl ?_ | refine zC ?_ | (refine zO ?_ ?_ ?_;omega;omega) | (refine zP ?_ ?_ ?_;omega;omega) | refine zM rfl ?_ | (refine zQ ?_ ?_ ?_;omega;omega) | (refine zR ?_ ?_;omega) | (refine zI ?_ ?_;exact nA) | (refine zS ?_ ?_ ?_;omega;omega) | (refine zT ?_ ?_ ?_;omega;omega) | (refine zU ?_ ?_ ?_;omega;omega) | (refine zV ?_ ?_ ?_;omega;omega) | refine PCall.pure (ih' _ (List.getElem_mem _)) (WkT.refl _) ?_ | refine PCall.pure (ih' _ (List.getElem_mem _)) cA ?_ | refine zN rfl rfl rfl ?_ | refine zD ?_ | refine zE ?_ | refine zF ?_ | intro _ | refine zG ?_);conv=>whnf) | (refine zX (fun hc => ?_) (fun hc => ?_)<;>(try simp only [SY] at hc)<;>first | omega | (conv=>whnf)))
    · rw [drop_at (show i < t.t.length by omega), Trm.varss, List.length_append] at hm
      refine PInt.ok (by omega) (by omega) ?_
      conv => whnf
      repeat' (first | ((first | ((first | (apply zY;intro hg) | apply zZ);focus ((conv=>whnf);(repeat ((first | (refine zW ?_ ?_;exact gA) | refine zH rfl ?_ | refine zA ?_ | refine zI bA ?_ | refine zI rfl ?_ | refine zJ rfl rfl ?_ | refine zB ?_ | refine zK rfl ?_ | refine zL rfl ?_ | refine zC ?_ | (refine zO ?_ ?_ ?_;exact OA;exact OA) | (refine zP ?_ ?_ ?_;exact OA;exact OA) | refine zM rfl ?_ | (refine zQ ?_ ?_ ?_;exact OA;exact OA) | (refine zR ?_ ?_;exact OA) | (refine zI ?_ ?_;exact NA) | (refine zS ?_ ?_ ?_;exact OA;exact OA) | (refine zT ?_ ?_ ?_;exact OA;exact OA) | (refine zU ?_ ?_ ?_;exact OA;exact OA) | (refine zV ?_ ?_ ?_;exact OA;exact OA) | refine PCall.pure (ih' _ (List.getElem_mem _)) (WkT.refl _) ?_ | refine PCall.pure (ih' _ (List.getElem_mem _)) cA ?_ | intro _);conv=>whnf));first | exact PShift.same | exact PShift.lit | exact PShift.ep)) | (refine zW ?_ ?_;exact gA) | refine zH rfl ?_ | refine zA ?_ | refine zI bA ?_ | refine zI rfl ?_ | refine zJ rfl rfl ?_ | refine zB ?_ | refine zK rfl ?_ | refine zL rfl ?_ | refine zC ?_ | (refine zO ?_ ?_ ?_;omega;omega) | (refine zP ?_ ?_ ?_;omega;omega) | refine zM rfl ?_ | (refine zQ ?_ ?_ ?_;omega;omega) | (refine zR ?_ ?_;omega) | (refine zI ?_ ?_;exact nA) | (refine zS ?_ ?_ ?_;omega;omega) | (refine zT ?_ ?_ ?_;omega;omega) | (refine zU ?_ ?_ ?_;omega;omega) | (refine zV ?_ ?_ ?_;omega;omega) | refine PCall.pure (ih' _ (List.getElem_mem _)) (WkT.refl _) ?_ | refine PCall.pure (ih' _ (List.getElem_mem _)) cA ?_ | refine zN rfl rfl rfl ?_ | refine zD ?_ | refine zE ?_ | refine zF ?_ | intro _ | refine zG ?_);conv=>whnf) | (refine zX (fun hc => ?_) (fun hc => ?_)<;>(try simp only [SY] at hc)<;>first | omega | (conv=>whnf)))
      exact loopTo (i + 1, m + t.t[i].vars.length) ⟨by show i + 1 ≤ _; omega, by show m + t.t[i].vars.length + (Trm.varss (t.t.drop (i + 1))).length = _; omega⟩ (by show t.t.length - (i + 1) < t.t.length - i; omega) wA
    · rw [List.drop_of_length_le (by omega), Trm.varss] at hm
      exact PRet.pure (Wk.int (by simp at hm; omega))
def seqP (p : Prog) : Prog := ⟨p.consts, .mk 6 0 [] [p.body]⟩
theorem seqP_check (p : Prog) (level : Int) (tk : Tok) (hb : p.body.bulk ≤ 900000000) (hl : p.consts.length ≤ 1000000000) :
    ACallP Tryz.prog 18 [.agg [.sl 5 (p.consts.map Datum.pv) none, .int .i64 6, .int .i64 0, .nil, .sl 4 [.agg p.body.cells] (some tk)], .int .i64 level] (.int .i64 (checkP (seqP p) level)) := by
  have h := checkp_c (seqP p) level (by show Trm.bulk (.mk 6 0 [] [p.body]) ≤ _; rw [Trm.bulk_eq]; show 1 + 0 + Trm.bulks [p.body] ≤ _; rw [Trm.bulks, Trm.bulks]; omega) hl
  refine ACall.wk h (.cons (Wk.agg (.cons (Wk.refl _) (.cons (Wk.refl _) (.cons (Wk.refl _) (.cons (Wk.nil' rfl) (.cons ?_ .nil)))))) (WkT.refl _))
  have e : [PV.agg p.body.cells] = [p.body].map Trm.pv := by rw [List.map_cons, Trm.pv_eq]; rfl
  rw [e]
  exact Wk.tok _ _ _
theorem RightP.binds {p : Prog} {level : Int} (h : RightP p level) : (riseL (bindsOf p.body.all)).length = p.body.vars.length := by
  have h1 := p.body.met_all [] 0 (by have := p.body.okT_deep h.2.2.1; omega)
  have h2 : bindsOf p.body.all = p.body.vars := h1.2
  rw [h2]
  exact rise_len h.2.2.2.2.2
end Go.Cb
namespace Go.Cb
open Go.Proofs
set_option maxRecDepth 100000
set_option maxHeartbeats 4000000
theorem seqP_at (p : Prog) (level : Int) (hb : p.body.bulk ≤ 900000000) (hl : p.consts.length ≤ 1000000000) :
    ACallP Tryz.prog 18 [.agg (.sl 5 (p.consts.map Datum.pv) none :: [.int .i64 6, .int .i64 0, .nil, .sl 4 [.agg p.body.cells] none]), .int .i64 level] (.int .i64 (checkP (seqP p) level)) := by
  have h := checkp_c (seqP p) level (by show Trm.bulk (.mk 6 0 [] [p.body]) ≤ _; rw [Trm.bulk_eq]; show 1 + 0 + Trm.bulks [p.body] ≤ _; rw [Trm.bulks, Trm.bulks]; omega) hl
  refine ACall.wk h (.cons (Wk.agg (.cons (Wk.refl _) (.cons (Wk.refl _) (.cons (Wk.refl _) (.cons (Wk.nil' rfl) (.cons ?_ .nil)))))) (WkT.refl _))
  have e : [PV.agg p.body.cells] = [p.body].map Trm.pv := by rw [List.map_cons, Trm.pv_eq]; rfl
  rw [e]
  exact Wk.refl _
theorem termClosed_c (p : Prog) (level : Int) (hbb : Datum.bulks p.consts + p.body.bulk ≤ 1048576) : ACallP Tryz.prog 4 [.agg p.cells, .int .i64 level] (.bool true) := by
  have hlen := Datum.bulks_length p.consts
  have he := check_eq p level
  refine ACall.of_body tt_ok Tryz.func4 rfl rfl (n := 62) rfl rfl ?_
  conv => whnf
  repeat ((first | ((first | (apply zY;intro hg) | apply zZ);focus ((conv=>whnf);(repeat ((first | (refine zW ?_ ?_;exact gA) | refine zH rfl ?_ | refine zA ?_ | refine zI bA ?_ | refine zI rfl ?_ | refine zJ rfl rfl ?_ | refine zB ?_ | refine zK rfl ?_ | refine zL rfl ?_ | refine zC ?_ | (refine zO ?_ ?_ ?_;exact OA;exact OA) | (refine zP ?_ ?_ ?_;exact OA;exact OA) | refine zM rfl ?_ | (refine zQ ?_ ?_ ?_;exact OA;exact OA) | (refine zR ?_ ?_;exact OA) | (refine zI ?_ ?_;exact NA) | (refine zS ?_ ?_ ?_;exact OA;exact OA) | (refine zT ?_ ?_ ?_;exact OA;exact OA) | (refine zU ?_ ?_ ?_;exact OA;exact OA) | (refine zV ?_ ?_ ?_;exact OA;exact OA) | refine PCall.pure (awake_c) (WkT.refl _) ?_ | refine PCall.pure (few_c p.body 300 (by omega) (by omega)) (WkT.refl _) ?_ | refine PCall.pure (FewAll_c p.consts 2000 (by omega) (by omega)) (WkT.refl _) ?_ | refine PCall.pure (checkp_c p level (by omega) (by omega)) (WkT.refl _) ?_ | refine PCall.pure (binds_c p.body (by omega)) (WkT.refl _) ?_ | refine PCall.pure (free_c p.body (by omega)) (WkT.refl _) ?_ | refine PCall.pure (binders_c p.body (by omega)) (WkT.refl _) ?_ | refine PCall.pure (deep_c p.body (by omega)) (WkT.refl _) ?_ | refine PCall.pure (seqP_at p level (by omega) (by omega)) (WkT.refl _) ?_ | intro _);conv=>whnf));first | exact PShift.same | exact PShift.lit | exact PShift.ep)) | (refine zW ?_ ?_;exact gA) | refine zH rfl ?_ | refine zA ?_ | refine zI bA ?_ | refine zI rfl ?_ | refine zJ rfl rfl ?_ | refine zB ?_ | refine zK rfl ?_ | refine zL rfl ?_ | refine zC ?_ | (refine zO ?_ ?_ ?_;omega;omega) | (refine zP ?_ ?_ ?_;omega;omega) | refine zM rfl ?_ | (refine zQ ?_ ?_ ?_;omega;omega) | (refine zR ?_ ?_;omega) | (refine zI ?_ ?_;exact nA) | (refine zS ?_ ?_ ?_;omega;omega) | (refine zT ?_ ?_ ?_;omega;omega) | (refine zU ?_ ?_ ?_;omega;omega) | (refine zV ?_ ?_ ?_;omega;omega) | refine PCall.pure (awake_c) (WkT.refl _) ?_ | refine PCall.pure (few_c p.body 300 (by omega) (by omega)) (WkT.refl _) ?_ | refine PCall.pure (FewAll_c p.consts 2000 (by omega) (by omega)) (WkT.refl _) ?_ | refine PCall.pure (checkp_c p level (by omega) (by omega)) (WkT.refl _) ?_ | refine PCall.pure (binds_c p.body (by omega)) (WkT.refl _) ?_ | refine PCall.pure (free_c p.body (by omega)) (WkT.refl _) ?_ | refine PCall.pure (binders_c p.body (by omega)) (WkT.refl _) ?_ | refine PCall.pure (deep_c p.body (by omega)) (WkT.refl _) ?_ | refine PCall.pure (seqP_at p level (by omega) (by omega)) (WkT.refl _) ?_ | refine zN rfl rfl rfl ?_ | refine zD ?_ | refine zE ?_ | refine zF ?_ | intro _);conv=>whnf)
  conv => whnf
  repeat' (first | ((first | ((first | (apply zY;intro hg) | apply zZ);focus ((conv=>whnf);(repeat ((first | (refine zW ?_ ?_;exact gA) | refine zH rfl ?_ | refine zA ?_ | refine zI bA ?_ | refine zI rfl ?_ | refine zJ rfl rfl ?_ | refine zB ?_ | refine zK rfl ?_ | refine zL rfl ?_ | refine zC ?_ | (refine zO ?_ ?_ ?_;exact OA;exact OA) | (refine zP ?_ ?_ ?_;exact OA;exact OA) | refine zM rfl ?_ | (refine zQ ?_ ?_ ?_;exact OA;exact OA) | (refine zR ?_ ?_;exact OA) | (refine zI ?_ ?_;exact NA) | (refine zS ?_ ?_ ?_;exact OA;exact OA) | (refine zT ?_ ?_ ?_;exact OA;exact OA) | (refine zU ?_ ?_ ?_;exact OA;exact OA) | (refine zV ?_ ?_ ?_;exact OA;exact OA) | refine PCall.pure (awake_c) (WkT.refl _) ?_ | refine PCall.pure (few_c p.body 300 (by omega) (by omega)) (WkT.refl _) ?_ | refine PCall.pure (FewAll_c p.consts 2000 (by omega) (by omega)) (WkT.refl _) ?_ | refine PCall.pure (checkp_c p level (by omega) (by omega)) (WkT.refl _) ?_ | refine PCall.pure (binds_c p.body (by omega)) (WkT.refl _) ?_ | refine PCall.pure (free_c p.body (by omega)) (WkT.refl _) ?_ | refine PCall.pure (binders_c p.body (by omega)) (WkT.refl _) ?_ | refine PCall.pure (deep_c p.body (by omega)) (WkT.refl _) ?_ | refine PCall.pure (seqP_at p level (by omega) (by omega)) (WkT.refl _) ?_ | intro _);conv=>whnf));first | exact PShift.same | exact PShift.lit | exact PShift.ep)) | (refine zW ?_ ?_;exact gA) | refine zH rfl ?_ | refine zA ?_ | refine zI bA ?_ | refine zI rfl ?_ | refine zJ rfl rfl ?_ | refine zB ?_ | refine zK rfl ?_ | refine zL rfl ?_ | refine zC ?_ | (refine zO ?_ ?_ ?_;omega;omega) | (refine zP ?_ ?_ ?_;omega;omega) | refine zM rfl ?_ | (refine zQ ?_ ?_ ?_;omega;omega) | (refine zR ?_ ?_;omega) | (refine zI ?_ ?_;exact nA) | (refine zS ?_ ?_ ?_;omega;omega) | (refine zT ?_ ?_ ?_;omega;omega) | (refine zU ?_ ?_ ?_;omega;omega) | (refine zV ?_ ?_ ?_;omega;omega) | refine PCall.pure (awake_c) (WkT.refl _) ?_ | refine PCall.pure (few_c p.body 300 (by omega) (by omega)) (WkT.refl _) ?_ | refine PCall.pure (FewAll_c p.consts 2000 (by omega) (by omega)) (WkT.refl _) ?_ | refine PCall.pure (checkp_c p level (by omega) (by omega)) (WkT.refl _) ?_ | refine PCall.pure (binds_c p.body (by omega)) (WkT.refl _) ?_ | refine PCall.pure (free_c p.body (by omega)) (WkT.refl _) ?_ | refine PCall.pure (binders_c p.body (by omega)) (WkT.refl _) ?_ | refine PCall.pure (deep_c p.body (by omega)) (WkT.refl _) ?_ | refine PCall.pure (seqP_at p level (by omega) (by omega)) (WkT.refl _) ?_ | refine zN rfl rfl rfl ?_ | refine zD ?_ | refine zE ?_ | refine zF ?_ | intro _ | refine zG ?_);conv=>whnf) | (refine zX (fun hc => ?_) (fun hc => ?_)<;>(try simp only [SY] at hc)<;>first | omega | (conv=>whnf)))
  · exact PRet.pure (Wk.refl _)
  have hR : RightP p level := (checkD_right p level).1 (by rw [← he]; exact hc.2)
  have hcnt := p.body.few_le 300 hc.1.1
  have hfr : riseL (freeOf p.body.all) = [] := by rw [hR.free]; exact rise_nil
  have hs : p.body.dep < 400 → checkP (seqP p) level = 0 := fun h => by rw [check_eq]; exact (checkD_right _ _).2 (hR.seq h hcnt)
  refine PRet.pure (Wk.bool ?_)
  rw [hfr, hR.binds]
  by_cases h : p.body.dep ≥ 400
  · simp [h]
  · simp [hs (by omega)]
end Go.Cb
