/-
 Contracts: what is sorted already: one number.
 Contracts: what is named and not bound: one variable.
 Plain laws: what a term names, binds; how deep it lies.
 Plain laws: numbers in order, each once.
 Plain laws: a term and its parts.
 Layings of the library's contracts at this seat (written by the kit's tools).
 Contracts: numbers sorted by the library, equal neighbours struck.
 Contracts: what a term names and does not bind, what it binds, how often a variable is named and assigned.
 Plain laws: all variables greater by the same.
 Plain laws: assigned variables become boxes.
 Plain laws: chapter 10, what is right; the document's counts; programs.
 Plain law: procedures' bodies in the place of their calls, as a function.
 Plain law: names say nothing to the inliner.
 Plain laws: chapter 10, sizes of what is converted.
 Plain law: the inliner keeps within its bounds.
 Plain law: procedures stand apart, as a function.
 Drawn regions with allocations that may come at any time.
 Indices within bounds by a condition.
 More for the walk: elements within bounds on a condition; what values are as data; appends.
-/
import Derived.Lib.SlicesCompact
import Derived.Shelf.Slices.CompactI
import Derived.Shelf.Slices.In.SortNone
import Derived.Shelf.Sort.Plain
import Derived.Sort.OwnSortedInts
import Derived.Test.YtklpioocdgfbmaaGreatDoorProg
import Derived.Test.YtklpioocdgfbmaaGreatDoorC4
set_option linter.unusedSimpArgs false
set_option linter.unusedVariables false
namespace Go.Cb
open Go.Proofs
set_option maxRecDepth 100000
set_option maxHeartbeats 4000000
theorem PLenM.one {x : PV} {Γ : List Ent} {t : Tok} {put : Tok → List PV → List Ent} [hp : PickRow Γ t [x] put] {K : Nat → Prop} (k : K 1) : PLenM t Γ K := PLenM.at_ (hp := hp) (fun _ => k)
end Go.Cb
namespace Go.Cb
open Go.Proofs
set_option maxRecDepth 100000
set_option maxHeartbeats 4000000
def namesB (op : Int) : Bool := op == 1 || op == 2 || op == 14
theorem names_c (t : Trm) : ACallP Tryz.prog 205 [.agg t.cells] (.bool (namesB t.op)) := by
 refine ACall.of_body tt_ok Tryz.func205 rfl rfl (n := 16) rfl rfl ?_
 conv => whnf
 repeat' (first|((first|((first|(apply zY;intro hg)|apply zZ);first|exact stA)|(refine zW ?_ ?_;exact gA)|refine zH rfl ?_|refine zA ?_|refine zI bA ?_|refine zI rfl ?_|refine sB ?_|(refine zO ?_ ?_ ?_;omega;omega)|(refine zP ?_ ?_ ?_;omega;omega)|refine zM rfl ?_|(refine zQ ?_ ?_ ?_;omega;omega)|(refine zR ?_ ?_;omega)|(refine zI ?_ ?_;exact nA)|refine sS ?_|refine sD ?_|intro _|refine zG ?_);conv=>whnf)|(refine zX (fun hc => ?_) (fun hc => ?_)<;>(try simp only [SY] at hc)<;>first|omega|(conv=>whnf)))
 exact PRet.pure (Wk.refl _)
def freeOf (l : List (Trm × List Int)) : List Int := (l.filter fun m => namesB m.1.op && !m.2.contains m.1.n).map fun m => m.1.n
end Go.Cb
namespace Go.Cb
open Go.Proofs
set_option maxRecDepth 100000
set_option maxHeartbeats 4000000
mutual
def Trm.dep : Trm → Int
 | .mk _ _ _ t => Trm.deps t 0
def Trm.deps : List Trm → Int → Int
 | [], d => d
 | x :: xs, d => Trm.deps xs (max d (1 + Trm.dep x))
end
theorem Trm.dep_eq (t : Trm) : t.dep = Trm.deps t.t 0 := by cases t; rfl
theorem Trm.deps_le (c : Int) : ∀ (l : List Trm) (d : Int), Trm.deps l d ≤ c ↔ d ≤ c ∧ ∀ x ∈ l, 1 + x.dep ≤ c
 | [], d => by simp [Trm.deps]
 | x :: l, d => by
  rw [Trm.deps, Trm.deps_le c l]
  simp only [List.forall_mem_cons]
  constructor
  ·rintro ⟨h1, h2⟩; exact ⟨by omega, by omega, h2⟩
  ·rintro ⟨h1, h2, h3⟩; exact ⟨by omega, h3⟩
theorem Trm.deps_ge : ∀ (l : List Trm) (d : Int), d ≤ Trm.deps l d
 | [], d => by simp [Trm.deps]
 | x :: l, d => by rw [Trm.deps]; have := Trm.deps_ge l (max d (1 + x.dep)); omega
theorem Trm.met_all (t : Trm) : ∀ (sc : List Int) (deep : Int), deep + t.dep < 1000 → (t.met sc deep).length = t.cnt ∧ (t.met sc deep).flatMap (fun m => m.1.v) = t.vars := by
 induction t using Trm.ind with
 | h t ih =>
  intro sc deep h
  rw [Trm.dep_eq] at h
  have hd := (Trm.deps_le (999 - deep) t.t 0).1 (by omega)
  have key : ∀ (op : Int) (l : List Trm), (∀ y ∈ l, ∀ (sc : List Int) (deep : Int), deep + y.dep < 1000 → (y.met sc deep).length = y.cnt ∧ (y.met sc deep).flatMap (fun m => m.1.v) = y.vars) →
    ∀ (sc inner : List Int) (deep : Int), (∀ x ∈ l, deep + x.dep < 1000) → (Trm.mets op sc inner l deep).length = Trm.cnts l ∧ (Trm.mets op sc inner l deep).flatMap (fun m => m.1.v) = Trm.varss l := by
   intro op l
   induction l with
   | nil => intro _ _ _ _ _; simp [Trm.mets, Trm.cnts, Trm.varss]
   | cons x l ihl =>
    intro hy sc inner deep hx
    have h1 := hy x (by simp) (if groupB op = true ∨ l = [] then inner else sc) deep (hx x (by simp))
    have h2 := ihl (fun y hh => hy y (by simp [hh])) sc inner deep fun y hh => hx y (by simp [hh])
    rw [Trm.mets, Trm.cnts, Trm.varss, List.flatMap_append, h1.2, h2.2, List.length_append]
    exact ⟨by have := h1.1; have := h2.1; omega, rfl⟩
  have h1 := key t.op t.t ih sc (sc ++ t.v) (deep + 1) fun x hx => by have := hd.2 x hx; omega
  have hlt : ¬ deep ≥ 1000 := by have := Trm.deps_ge t.t 0; omega
  rw [Trm.met_eq, if_neg hlt, Trm.cnt_eq, Trm.vars_eq, List.flatMap_cons, List.length_cons, h1.2]
  exact ⟨by have := h1.1; omega, rfl⟩
theorem Trm.okT_deep {level c codes : Int} {free : Bool} (t : Trm) : ∀ {scope : List Int} {deep : Int}, t.okT level c codes free scope deep → deep + t.dep ≤ 400 := by
 induction t using Trm.ind with
 | h t ih =>
  intro scope deep h
  rw [Trm.okT_eq] at h
  have key : ∀ (op : Int) (sc inner : List Int) (deep : Int) (l : List Trm), (∀ y ∈ l, ∀ {scope : List Int} {deep : Int}, y.okT level c codes free scope deep → deep + y.dep ≤ 400) → Trm.okTs level c codes free op sc inner l deep → ∀ x ∈ l, deep + x.dep ≤ 400 := by
   intro op sc inner deep l
   induction l with
   | nil => intro _ _; simp
   | cons x l ihl =>
    intro hy hk y hm
    rw [Trm.okTs] at hk
    rcases List.mem_cons.1 hm with rfl | hm
    ·exact hy y (by simp) hk.2.1
    ·exact ihl (fun z hz => hy z (by simp [hz])) hk.2.2 y hm
  have h1 := key _ _ _ _ _ ih h.2
  have := (Trm.deps_le (400 - deep) t.t 0).2 ⟨by have := h.1.1; omega, fun x hx => by have := h1 x hx; omega⟩
  rw [Trm.dep_eq]; omega
theorem Trm.okT_move {level c codes : Int} {free : Bool} (t : Trm) : ∀ {scope : List Int} {deep deep2 : Int}, t.okT level c codes free scope deep → deep2 + t.dep ≤ 400 → t.okT level c codes free scope deep2 := by
 induction t using Trm.ind with
 | h t ih =>
  intro scope deep deep2 h hd
  rw [Trm.okT_eq] at h ⊢
  rw [Trm.dep_eq] at hd
  have hd2 := (Trm.deps_le (400 - deep2) t.t 0).1 (by omega)
  have key : ∀ (op : Int) (sc inner : List Int) (deep deep2 : Int) (l : List Trm), (∀ y ∈ l, ∀ {scope : List Int} {deep deep2 : Int}, y.okT level c codes free scope deep → deep2 + y.dep ≤ 400 → y.okT level c codes free scope deep2) → (∀ x ∈ l, deep2 + x.dep ≤ 400) →
    Trm.okTs level c codes free op sc inner l deep → Trm.okTs level c codes free op sc inner l deep2 := by
   intro op sc inner deep deep2 l
   induction l with
   | nil => intro _ _ _; simp [Trm.okTs]
   | cons x l ihl =>
    intro hy hx hk
    rw [Trm.okTs] at hk ⊢
    exact ⟨hk.1, hy x (by simp) hk.2.1 (hx x (by simp)), ihl (fun z hz => hy z (by simp [hz])) (fun z hz => hx z (by simp [hz])) hk.2.2⟩
  exact ⟨⟨by have := Trm.deps_ge t.t 0; omega, h.1.2⟩, key _ _ _ _ _ _ ih (fun x hx => by have := hd2.2 x hx; omega) h.2⟩
theorem Trm.okT_names {level c codes : Int} {free : Bool} (t : Trm) : ∀ {scope : List Int} {deep : Int} (deep2 : Int), t.okT level c codes free scope deep → ∀ m ∈ t.met scope deep2, namesB m.1.op = true → m.2.contains m.1.n = true := by
 induction t using Trm.ind with
 | h t ih =>
  intro scope deep deep2 h
  rw [Trm.okT_eq] at h
  have key : ∀ (op : Int) (sc inner : List Int) (deep deep2 : Int) (l : List Trm), (∀ y ∈ l, ∀ {scope : List Int} {deep : Int} (deep2 : Int), y.okT level c codes free scope deep → ∀ m ∈ y.met scope deep2, namesB m.1.op = true → m.2.contains m.1.n = true) →
    Trm.okTs level c codes free op sc inner l deep → ∀ m ∈ Trm.mets op sc inner l deep2, namesB m.1.op = true → m.2.contains m.1.n = true := by
   intro op sc inner deep deep2 l
   induction l with
   | nil => intro _ _; simp [Trm.mets]
   | cons x l ihl =>
    intro hy hk m hm
    rw [Trm.okTs] at hk
    rw [Trm.mets, List.mem_append] at hm
    rcases hm with hm | hm
    ·have e : (if groupB op = true ∨ l = [] then inner else sc) = (if l = [] ∨ op = 7 ∨ op = 9 then inner else sc) := by
      by_cases h1 : l = [] <;> by_cases h2 : op = 7 <;> by_cases h3 : op = 9 <;> simp [groupB, h1, h2, h3]
     rw [e] at hm
     exact hy x (by simp) deep2 hk.2.1 m hm
    ·exact ihl (fun z hz => hy z (by simp [hz])) hk.2.2 m hm
  intro m hm
  rw [Trm.met_eq] at hm
  rcases List.mem_cons.1 hm with rfl | hm
  ·intro hn
   have h4 := h.1.2.2.2
   have ho : t.op = 1 ∨ t.op = 2 ∨ t.op = 14 := by simp [namesB] at hn; omega
   unfold numberL at h4
   rw [if_neg (by omega), if_pos ho] at h4
   exact h4
  ·split at hm
   ·cases hm
   ·exact key _ _ _ _ _ _ ih h.2 m hm
theorem RightP.free {p : Prog} {level : Int} (h : RightP p level) : freeOf p.body.all = [] := by
 unfold freeOf
 rw [List.map_eq_nil_iff, List.filter_eq_nil_iff]
 intro m hm
 have := p.body.okT_names 0 h.2.2.1 m hm
 simp
 simpa using this
theorem RightP.seq {p : Prog} {level : Int} (h : RightP p level) (hd : p.body.dep < 400) (hc : p.body.cnt ≤ 300) : RightP ⟨p.consts, .mk 6 0 [] [p.body]⟩ level := by
 obtain ⟨h1, h2, h3, h4, h5⟩ := h
 refine ⟨h1, h2, ?_, ?_, ?_⟩
 ·rw [Trm.okT, Trm.okTs, Trm.okTs]
  refine ⟨⟨by omega, ?_, ?_, ?_⟩, ⟨by simp, ?_, trivial⟩⟩
  ·simp [sortsL]
  ·simp [countsL, Trm.op, Trm.t, Trm.v]
  ·simp [numberL, Trm.op, Trm.n]
  ·rw [if_pos (.inl rfl)]
   exact Trm.okT_move _ h3 (by omega)
 ·show Trm.cnt (.mk 6 0 [] [p.body]) ≤ 20000
  rw [Trm.cnt_eq]
  show 1 + Trm.cnts [p.body] ≤ 20000
  rw [Trm.cnts, Trm.cnts]; omega
 ·show Dist (Trm.vars (.mk 6 0 [] [p.body])) []
  rw [Trm.vars_eq]
  show Dist ([] ++ Trm.varss [p.body]) []
  rw [Trm.varss, Trm.varss]
  simpa using h5
end Go.Cb
namespace Go.Cb
open Go.Lib
def riseL (l : List Int) : List Int := compact (l.mergeSort fun x y => decide (x ≤ y))
theorem arr_get! {α : Type} [Inhabited α] {l : List α} {j : Nat} (h : j < l.length) : l.toArray[j]! = l[j] := by
 rw [getElem!_pos _ j (by simpa using h)]; simp
theorem mem_compact (l : List Int) (x : Int) : x ∈ compact l ↔ x ∈ l := by
 unfold compact compactUpTo
 simp only [List.mem_map, List.mem_filter, List.mem_range]
 constructor
 ·rintro ⟨j, ⟨hj, _⟩, rfl⟩
  rw [arr_get! hj]
  exact List.getElem_mem hj
 ·intro hx
  have key : ∀ n (j : Nat) (hj : j < l.length), j ≤ n → l[j] = x → ∃ i, (i < l.length ∧ keeps l.toArray i = true) ∧ l.toArray[i]! = x := by
   intro n
   induction n with
   | zero =>
    intro j hj hn e
    obtain rfl : j = 0 := by omega
    exact ⟨0, ⟨hj, keeps_lt_one _ 0 (by omega)⟩, by rw [arr_get! hj, e]⟩
   | succ n ih =>
    intro j hj hn e
    by_cases h0 : j = 0
    ·subst h0
     exact ⟨0, ⟨hj, keeps_lt_one _ 0 (by omega)⟩, by rw [arr_get! hj, e]⟩
    by_cases hp : l[j - 1] = x
    ·exact ih (j - 1) (by omega) (by omega) hp
    ·refine ⟨j, ⟨hj, keeps_pos ?_⟩, by rw [arr_get! hj, e]⟩
     rw [arr_get! hj, arr_get! (show j - 1 < l.length by omega), e]
     exact fun h => hp h.symm
  obtain ⟨j, hj, e⟩ := List.getElem_of_mem hx
  exact key j j hj (Nat.le_refl _) e
theorem keeps_ne {l : List Int} {j : Nat} (h0 : 0 < j) (hj : j < l.length) (h : keeps l.toArray j = true) : l[j] ≠ l[j - 1] := by
 intro e
 have := keeps_neg (d := l.toArray) h0 (by rw [arr_get! hj, arr_get! (show j - 1 < l.length by omega)]; exact e)
 rw [this] at h; cases h
theorem compact_lt {l : List Int} (h : l.Pairwise (· ≤ ·)) : (compact l).Pairwise (· < ·) := by
 unfold compact compactUpTo
 rw [List.pairwise_map]
 refine List.Pairwise.imp_of_mem ?_ (List.Pairwise.filter _ List.pairwise_lt_range)
 intro i j hi hj hij
 simp only [List.mem_filter, List.mem_range] at hi hj
 rw [arr_get! hi.1, arr_get! hj.1]
 have h1 := keeps_ne (by omega) hj.1 hj.2
 have hp := List.pairwise_iff_getElem.1 h
 have h2 : l[j - 1] ≤ l[j] := hp (j - 1) j (by omega) hj.1 (by omega)
 have h3 : l[i] ≤ l[j - 1] := by
  by_cases e : i = j - 1
  ·subst e; omega
  ·exact hp i (j - 1) hi.1 (by omega) (by omega)
 omega
theorem mem_rise (l : List Int) (x : Int) : x ∈ riseL l ↔ x ∈ l := by
 unfold riseL
 rw [mem_compact, List.mem_mergeSort]
theorem sorted_le (l : List Int) : (l.mergeSort fun x y => decide (x ≤ y)).Pairwise (· ≤ ·) := by
 have := List.pairwise_mergeSort (le := fun x y : Int => decide (x ≤ y)) (by intro a b c; simp; omega) (by intro a b; simp; omega) l
 simpa using this
theorem rise_lt (l : List Int) : (riseL l).Pairwise (· < ·) := compact_lt (sorted_le l)
theorem lt_ext : ∀ {l m : List Int}, l.Pairwise (· < ·) → m.Pairwise (· < ·) → (∀ x, x ∈ l ↔ x ∈ m) → l = m
 | [], [], _, _, _ => rfl
 | [], y :: m, _, _, h => by have := (h y).2 (by simp); cases this
 | x :: l, [], _, _, h => by have := (h x).1 (by simp); cases this
 | x :: l, y :: m, hl, hm, h => by
  rw [List.pairwise_cons] at hl hm
  have hxy : x = y := by
   have h1 := (h x).1 (by simp)
   have h2 := (h y).2 (by simp)
   rw [List.mem_cons] at h1 h2
   rcases h1 with h1 | h1
   ·exact h1
   ·rcases h2 with h2 | h2
    ·exact h2.symm
    ·have := hl.1 _ h2; have := hm.1 _ h1; omega
  subst hxy
  rw [lt_ext hl.2 hm.2 fun z => ?_]
  have := h z
  simp only [List.mem_cons] at this
  constructor
  ·intro hz
   have hlt := hl.1 z hz
   exact (this.1 (.inr hz)).resolve_left (by omega)
  ·intro hz
   have hlt := hm.1 z hz
   exact (this.2 (.inr hz)).resolve_left (by omega)
theorem rise_len {l : List Int} (h : l.Nodup) : (riseL l).length = l.length := by
 have h1 : (riseL l).Nodup := (rise_lt l).imp fun h => by omega
 have : (riseL l).Perm l := (List.perm_ext_iff_of_nodup h1 h).2 (mem_rise l)
 exact this.length_eq
theorem rise_one (x : Int) : riseL [x] = [x] := lt_ext (rise_lt _) (by simp) fun y => mem_rise [x] y
end Go.Cb
namespace Go.Cb
open Go.Proofs
set_option maxRecDepth 100000
set_option maxHeartbeats 4000000
end Go.Cb
namespace Go.Proofs
open Go.Shelf
def Tryz.lays189_ren : Go.Shelf.Ren := ⟨fun | 189 => 119 | 125 => 171 | 257 => 170 | 128 => 195 | 129 => 196 | 294 => 186 | 295 => 187 | 296 => 188 | 297 => 189 | 298 => 190 | 299 => 191 | 216 => 192 | 300 => 193 | 301 => 194 | 328 => 209 | 329 => 210 | 330 => 211 | 331 => 212 | 332 => 213 | 215 => 214 | 343 => 236 | n => n, fun | 28 => 23 | 3 => 3 | 46 => 224 | 0 => 0 | 51 => 244 | 53 => 229 | 4 => 4 | 183 => 238 | 182 => 237 | 131 => 157 | 5 => 5 | 9 => 9 | 218 => 262 | 222 => 156 | 228 => 287 | 229 => 288 | n => n, fun | n => n⟩
theorem Tryz.lays189 : Go.Proofs.Lays.n189 Tryz.prog Tryz.lays189_ren := {
 mixed := by kernel_rfl
 f125 := Tryz.func171.trans (congrArg some (by kernel_rfl))
 f128 := Tryz.func195.trans (congrArg some (by kernel_rfl))
 f129 := Tryz.func196.trans (congrArg some (by kernel_rfl))
 f189 := Tryz.func119.trans (congrArg some (by kernel_rfl))
 f215 := Tryz.func214.trans (congrArg some (by kernel_rfl))
 f216 := Tryz.func192.trans (congrArg some (by kernel_rfl))
 f257 := Tryz.func170.trans (congrArg some (by kernel_rfl))
 f294 := Tryz.func186.trans (congrArg some (by kernel_rfl))
 f295 := Tryz.func187.trans (congrArg some (by kernel_rfl))
 f296 := Tryz.func188.trans (congrArg some (by kernel_rfl))
 f297 := Tryz.func189.trans (congrArg some (by kernel_rfl))
 f298 := Tryz.func190.trans (congrArg some (by kernel_rfl))
 f299 := Tryz.func191.trans (congrArg some (by kernel_rfl))
 f300 := Tryz.func193.trans (congrArg some (by kernel_rfl))
 f301 := Tryz.func194.trans (congrArg some (by kernel_rfl))
 f328 := Tryz.func209.trans (congrArg some (by kernel_rfl))
 f329 := Tryz.func210.trans (congrArg some (by kernel_rfl))
 f330 := Tryz.func211.trans (congrArg some (by kernel_rfl))
 f331 := Tryz.func212.trans (congrArg some (by kernel_rfl))
 f332 := Tryz.func213.trans (congrArg some (by kernel_rfl))
 f343 := Tryz.func236.trans (congrArg some (by kernel_rfl))
 t0 := Tryz.underlying0
 a0 := Tryz.isAgg0
 z0 := Tryz.sizeOf0
 v0 := Tryz.zeroValue0
 t3 := Tryz.underlying3
 a3 := Tryz.isAgg3
 z3 := Tryz.sizeOf3
 v3 := Tryz.zeroValue3
 t4 := Tryz.underlying4
 a4 := Tryz.isAgg4
 z4 := Tryz.sizeOf4
 v4 := Tryz.zeroValue4
 t5 := Tryz.underlying5
 a5 := Tryz.isAgg5
 z5 := Tryz.sizeOf5
 v5 := Tryz.zeroValue5
 t9 := Tryz.underlying9
 a9 := Tryz.isAgg9
 z9 := Tryz.sizeOf9
 v9 := Tryz.zeroValue9
 t28 := Tryz.underlying23
 a28 := Tryz.isAgg23
 z28 := Tryz.sizeOf23
 v28 := Tryz.zeroValue23
 t46 := Tryz.underlying224
 a46 := Tryz.isAgg224
 z46 := Tryz.sizeOf224
 v46 := Tryz.zeroValue224
 t51 := Tryz.underlying244
 a51 := Tryz.isAgg244
 z51 := Tryz.sizeOf244
 v51 := Tryz.zeroValue244
 t53 := Tryz.underlying229
 a53 := Tryz.isAgg229
 z53 := Tryz.sizeOf229
 v53 := Tryz.zeroValue229
 t131 := Tryz.underlying157
 a131 := Tryz.isAgg157
 z131 := Tryz.sizeOf157
 v131 := Tryz.zeroValue157
 t182 := Tryz.underlying237
 a182 := Tryz.isAgg237
 z182 := Tryz.sizeOf237
 v182 := Tryz.zeroValue237
 t183 := Tryz.underlying238
 a183 := Tryz.isAgg238
 z183 := Tryz.sizeOf238
 v183 := Tryz.zeroValue238
 t218 := Tryz.underlying262
 a218 := Tryz.isAgg262
 z218 := Tryz.sizeOf262
 v218 := Tryz.zeroValue262
 t222 := Tryz.underlying156
 a222 := Tryz.isAgg156
 z222 := Tryz.sizeOf156
 v222 := Tryz.zeroValue156
 t228 := Tryz.underlying287
 a228 := Tryz.isAgg287
 z228 := Tryz.sizeOf287
 v228 := Tryz.zeroValue287
 t229 := Tryz.underlying288
 a229 := Tryz.isAgg288
 z229 := Tryz.sizeOf288
 v229 := Tryz.zeroValue288 }
def Tryz.laysNm220_ren : Go.Shelf.Ren := ⟨fun | 20 => 120 | n => n, fun | 22 => 23 | 3 => 3 | 4 => 4 | 0 => 0 | n => n, fun | n => n⟩
theorem Tryz.laysNm220 : Go.Proofs.Lays2.n20 Tryz.prog Tryz.laysNm220_ren := {
 mixed := by kernel_rfl
 f20 := Tryz.func120.trans (congrArg some (by kernel_rfl))
 t0 := Tryz.underlying0
 a0 := Tryz.isAgg0
 z0 := Tryz.sizeOf0
 v0 := Tryz.zeroValue0
 t3 := Tryz.underlying3
 a3 := Tryz.isAgg3
 z3 := Tryz.sizeOf3
 v3 := Tryz.zeroValue3
 t4 := Tryz.underlying4
 a4 := Tryz.isAgg4
 z4 := Tryz.sizeOf4
 v4 := Tryz.zeroValue4
 t22 := Tryz.underlying23
 a22 := Tryz.isAgg23
 z22 := Tryz.sizeOf23
 v22 := Tryz.zeroValue23
 i3 := by kernel_rfl }
end Go.Proofs
namespace Go.Cb
open Go.Proofs Go.Sort
open Go.RowKit (Below)
set_option maxRecDepth 100000
set_option maxHeartbeats 4000000
theorem flat_ints : ∀ l : List Int, flat (l.map (PV.int .i64)) = l.map (PV.int .i64)
 | [] => rfl
 | x :: l => by
  have := flat_ints l
  simp only [flat, List.map_cons, List.flatMap_cons, PV.cellsOf] at this ⊢
  rw [this]; rfl
theorem repL_ints (F : Fz) : ∀ l : List Int, RepL F (l.map (PV.int .i64)) (l.map (Value.int .i64))
 | [] => RepL_nil F
 | x :: l => RepL_cons.2 ⟨⟨rfl, by simp only [Rep]⟩, repL_ints F l⟩
theorem repL_ints_eq {F : Fz} : ∀ {l : List Int} {xs : List Value}, RepL F (l.map (PV.int .i64)) xs → xs = l.map (Value.int .i64)
 | [], [], _ => rfl
 | [], _ :: _, h => by simp only [List.map_nil, RepL] at h
 | _ :: _, [], h => by simp only [List.map_cons, RepL] at h
 | x :: l, v :: xs, h => by
  have h := RepL_cons.1 h
  have h1 : v = .int .i64 x := by simpa only [Rep] using h.1.2
  rw [h1, repL_ints_eq h.2]; rfl
theorem Sim.putInts {w0 : World} {F : Fz} {M : List Ent} {w : World} {t : Tok} {l ts : List Int} (h : Sim w0 F (.row t (l.map (PV.int .i64)) :: M) w) (hs : t.s = 1) (hlen : ts.length = l.length) {g : Nat} (hg : t.b = some g) (q : Nat) (os : Array Obj) :
  Sim w0 F (.row t (ts.map (PV.int .i64)) :: M) (grow (putRow (Value.int .i64) (Sort.ahead w q) g 0 ts.toArray) os) := by
 obtain ⟨⟨xs, hown, hr⟩, hes, e2, hfree⟩ := h.ent _ (List.mem_cons_self ..)
 rcases hown.2 with ⟨h1, _⟩ | ⟨g', cap, cur, hb, hv, hB, hh, hnc, hcm, hsz, htake⟩
 ·rw [h1] at hg; cases hg
 obtain rfl : g' = g := by rw [hb] at hg; simpa using hg
 have hsep := List.pairwise_cons.1 h.sep
 have hgr : w.grownBy (grow (putRow (Value.int .i64) (Sort.ahead w q) g' 0 ts.toArray) os) (some g') := grownBy_sortedI ts.toArray
 have hn : l.length = t.n := by simpa using e2
 have hfl : flat (ts.map (PV.int .i64)) = ts.map (PV.int .i64) := flat_ints ts
 refine Sim.rowE (t := t) (ys := ts.map (PV.int .i64)) (xs := ts.map (Value.int .i64)) h.tail ((Below.refl _ w).grown hgr h.below.size fun k hk => by simp at hk; omega) ?_ (by simp [hs, PV.cellsOf]) (by simp; omega) (by rw [hfl]; exact repL_ints F ts) ?_ ?_ hfree
 ·refine ⟨by simp [hs]; omega, .inr ⟨g', cap, _, hb, hv, hB, heap_sortedI ts.toArray hh, hnc, hcm, by simp [putCells, hsz], ?_⟩⟩
  have : t.n * t.s = ts.length := by rw [hs]; omega
  rw [this]
  exact take_putCellsI cur ts (by rw [hsz, hs]; omega)
 ·intro b o u x
  have hne : b ≠ g' := fun e => by rw [e, hfree g' hb o] at x; cases x
  have hlt := World.block_lt_of_cell? w _ (h.fz b o u x)
  rw [World.cell?_of_block (w := w) (hgr.block b hlt (by simp; omega))]
  exact h.fz b o u x
 ·intro e he k hk
  have hne : t.b ≠ some k := by
   rcases hsep.1 e he with hh | hh
   ·simp only [Ent.blk] at hh; rw [hh]; simp
   ·intro hx; exact hh (by rw [hk]; exact hx)
  have hlt := (Ent.blk_lt (h.ent e (List.mem_cons_of_mem _ he)) hk).2
  exact ⟨hgr.block k hlt (by rw [hb] at hne; exact fun e => hne e.symm), hne⟩
theorem compact_len (l : List Int) : (Lib.compact l).length ≤ l.length := by
 unfold Lib.compact Lib.compactUpTo
 rw [List.length_map]
 exact Nat.le_trans (List.length_filter_le _ _) (by simp)
theorem row_ints {w0 : World} {F : Fz} {M : List Ent} {w : World} {t : Tok} {l : List Int} (h : Sim w0 F (.row t (l.map (PV.int .i64)) :: M) w) (hs : t.s = 1) :
  (l = [] ∧ ∃ p, t.v = .slice p 0 0) ∨ ∃ g cap, t.b = some g ∧ t.v = .slice (some ⟨g, 0, none⟩) l.length cap ∧ Holds (Value.int .i64) w g 0 l.toArray ∧ g < w.heap.size ∧ l.length ≤ cap ∧ t.n = l.length := by
 obtain ⟨⟨xs, hown, hr⟩, hes, e2, hfree⟩ := h.ent _ (List.mem_cons_self ..)
 have hn : l.length = t.n := by simpa using e2
 rcases hown.2 with ⟨h1, h2, h3⟩ | ⟨g, cap, cur, hb, hv, hB, hh, hnc, hcm, hsz, htake⟩
 ·refine .inl ⟨List.eq_nil_of_length_eq_zero (by omega), ?_⟩
  rcases h3 with h3 | ⟨a, h3⟩
  ·exact ⟨none, h3⟩
  ·exact ⟨some a, h3⟩
 ·rw [flat_ints] at hr
  have hx := repL_ints_eq hr
  refine .inr ⟨g, cap, hb, by rw [hn]; exact hv, holds_of_blockI (e := t.e) (cur := cur) hh (by rw [← hx, ← htake, hs, hn, Nat.mul_one]), (Array.getElem?_eq_some_iff.1 hh).1, by omega, hn.symm⟩
theorem sort_c (t : Tok) (l : List Int) (hs : t.s = 1) (hl : l.length ≤ 1000000000) :
  ACall Tryz.prog 119 [.ms t] [.row t (l.map (PV.int .i64))] (fun y Γ' => y = .tup [] ∧ Γ' = [.row t ((l.mergeSort fun x y => decide (x ≤ y)).map (PV.int .i64))]) := by
 refine ⟨⟨_, Tryz.func119, rfl, rfl⟩, fun w0 F M w vs hS hT => ?_⟩
 obtain rfl : vs = [t.v] := by
  match vs, hT with
  | [v], hT => simp only [RepT, Rep, and_true] at hT; rw [hT.1]
 rcases row_ints hS hs with ⟨rfl, p, hv⟩ | ⟨g, cap, hb, hv, hH, hg, hc, hn⟩
 ·rw [hv]
  refine (Any.slices_Sort_int_none Tryz.lays189 p 0 w).mono ?_
  rintro e w' ⟨rfl, rfl⟩
  exact ⟨_, F, .tup [], _, rfl, Fz.le_refl F, hS, by simp only [Rep]; exact ⟨[], rfl, by simp [RepT]⟩, rfl, by simp⟩
 ·rw [hv]
  refine (Any.slices_Sort_int Tryz.lays189 g 0 cap l w hH hg (by omega)).mono ?_
  rintro e w' ⟨rfl, q, os, rfl⟩
  exact ⟨_, F, .tup [], _, rfl, Fz.le_refl F, hS.putInts hs (by simp) hb q os, by simp only [Rep]; exact ⟨[], rfl, by simp [RepT]⟩, rfl, rfl⟩
theorem compact_c (t : Tok) (l : List Int) (hs : t.s = 1) (hl : l.length ≤ 1000000000) :
  ACall Tryz.prog 120 [.ms t] [.row t (l.map (PV.int .i64))] (fun y Γ' => ∃ t' : Tok, t'.e = t.e ∧ t'.s = 1 ∧ y = .ms t' ∧ Γ' = [.row t' ((Lib.compact l).map (PV.int .i64))]) := by
 refine ⟨⟨_, Tryz.func120, rfl, rfl⟩, fun w0 F M w vs hS hT => ?_⟩
 obtain ⟨rfl, h1⟩ : vs = [t.v] ∧ t.v.oneCell' = true := by
  match vs, hT with
  | [v], hT => simp only [RepT, Rep, and_true] at hT; rw [hT.1]; exact ⟨rfl, hT.2⟩
 rcases row_ints hS hs with ⟨rfl, p, hv⟩ | ⟨g, cap, hb, hv, hH, hg, hc, hn⟩
 ·rw [hv]
  refine (Any.slices_Compact_int_empty Tryz.laysNm220 p 0 w).mono ?_
  rintro e w' ⟨rfl, rfl⟩
  exact ⟨_, F, .ms t, _, rfl, Fz.le_refl F, hS, by simp only [Rep]; exact ⟨hv.symm, h1⟩, t, rfl, hs, rfl, by simp [Lib.compact, Lib.compactUpTo]⟩
 ·rw [hv]
  refine (Any.slices_Compact_int Tryz.laysNm220 g 0 cap l w hH (by omega) hc).mono ?_
  rintro e w' ⟨rfl, q, rfl⟩
  have hle := compact_len l
  have h2 := hS.putInts (ts := Lib.compact l ++ List.replicate (l.length - (Lib.compact l).length) 0) hs (by simp; omega) hb q #[]
  rw [grow_empty] at h2
  have h3 := Sim.take_row (M1 := []) h2 hb (by rw [hn]; exact hv) (Lib.compact l).length (by simp)
  have fin : ∀ T : Tok, T = ⟨.slice (some ⟨g, 0, none⟩) (Lib.compact l).length cap, (Lib.compact l).length, t.s, t.e, some g⟩ → ∃ v F' y Γ', (Ending.returned (.slice (some ⟨g, 0, none⟩) (Lib.compact l).length cap)) = .returned v ∧ F.le F' ∧ Sim w0 F' (Γ' ++ M) (putRow (Value.int .i64) (Sort.ahead w q) g 0 (Lib.compact l ++ List.replicate (l.length - (Lib.compact l).length) 0).toArray) ∧ Rep F' y v ∧ ∃ t' : Tok, t'.e = t.e ∧ t'.s = 1 ∧ y = .ms t' ∧ Γ' = [.row t' ((Lib.compact l).map (PV.int .i64))] := by
   intro T hT
   subst hT
   refine ⟨_, F, .ms ⟨.slice (some ⟨g, 0, none⟩) (Lib.compact l).length cap, (Lib.compact l).length, t.s, t.e, some g⟩, [.row ⟨.slice (some ⟨g, 0, none⟩) (Lib.compact l).length cap, (Lib.compact l).length, t.s, t.e, some g⟩ ((Lib.compact l).map (PV.int .i64))], rfl, Fz.le_refl F, ?_, by unfold Rep; exact ⟨rfl, rfl⟩, ⟨.slice (some ⟨g, 0, none⟩) (Lib.compact l).length cap, (Lib.compact l).length, t.s, t.e, some g⟩, rfl, hs, rfl, rfl⟩
   simpa using h3
  exact fin _ rfl
end Go.Cb
namespace Go.Cb
open Go.Proofs
set_option maxRecDepth 100000
set_option maxHeartbeats 4000000
theorem rising_c (t : Tok) (l : List Int) (hs : t.s = 1) (hl : l.length ≤ 1000000000) :
  ACall Tryz.prog 206 [.ms t] [.row t (l.map (PV.int .i64))] (fun y Γ' => ∃ t' : Tok, t'.e = t.e ∧ t'.s = 1 ∧ y = .ms t' ∧ Γ' = [.row t' ((riseL l).map (PV.int .i64))]) := by
 refine ACall.of_body tt_ok Tryz.func206 rfl rfl (n := 7) rfl rfl ?_
 conv => whnf
 repeat' (first|((first|((first|(apply zY;intro hg)|apply zZ);first|exact stA)|(refine zW ?_ ?_;exact gA)|refine zH rfl ?_|refine zA ?_|refine zI bA ?_|refine zI rfl ?_|refine sB ?_|(refine zO ?_ ?_ ?_;omega;omega)|(refine zP ?_ ?_ ?_;omega;omega)|refine zM rfl ?_|(refine zQ ?_ ?_ ?_;omega;omega)|(refine zR ?_ ?_;omega)|(refine zI ?_ ?_;exact nA)|refine sS ?_|refine sD ?_|intro _|refine zG ?_);conv=>whnf)|(refine zX (fun hc => ?_) (fun hc => ?_)<;>(try simp only [SY] at hc)<;>first|omega|(conv=>whnf)))
 refine PCall.go (sort_c t l hs hl) (WkT.refl _) ?_
 rintro _ _ ⟨rfl, rfl⟩
 conv => whnf
 repeat' (first|((first|((first|(apply zY;intro hg)|apply zZ);first|exact stA)|(refine zW ?_ ?_;exact gA)|refine zH rfl ?_|refine zA ?_|refine zI bA ?_|refine zI rfl ?_|refine sB ?_|(refine zO ?_ ?_ ?_;omega;omega)|(refine zP ?_ ?_ ?_;omega;omega)|refine zM rfl ?_|(refine zQ ?_ ?_ ?_;omega;omega)|(refine zR ?_ ?_;omega)|(refine zI ?_ ?_;exact nA)|refine sS ?_|refine sD ?_|intro _|refine zG ?_);conv=>whnf)|(refine zX (fun hc => ?_) (fun hc => ?_)<;>(try simp only [SY] at hc)<;>first|omega|(conv=>whnf)))
 refine PCall.go (compact_c t (l.mergeSort fun x y => decide (x ≤ y)) hs (by simp; omega)) (WkT.refl _) ?_
 rintro _ _ ⟨t2, e2, s2, rfl, rfl⟩
 conv => whnf
 repeat' (first|((first|((first|(apply zY;intro hg)|apply zZ);first|exact stA)|(refine zW ?_ ?_;exact gA)|refine zH rfl ?_|refine zA ?_|refine zI bA ?_|refine zI rfl ?_|refine sB ?_|(refine zO ?_ ?_ ?_;omega;omega)|(refine zP ?_ ?_ ?_;omega;omega)|refine zM rfl ?_|(refine zQ ?_ ?_ ?_;omega;omega)|(refine zR ?_ ?_;omega)|(refine zI ?_ ?_;exact nA)|refine sS ?_|refine sD ?_|intro _|refine zG ?_);conv=>whnf)|(refine zX (fun hc => ?_) (fun hc => ?_)<;>(try simp only [SY] at hc)<;>first|omega|(conv=>whnf)))
 have e : Lib.compact (l.mergeSort fun x y => decide (x ≤ y)) = riseL l := rfl
 rw [e]
 exact PRet.gen (Wk.refl _) ⟨t2, e2, s2, rfl, rfl⟩
def bindsOf (l : List (Trm × List Int)) : List Int := l.flatMap fun m => m.1.v
theorem free_c0 (t : Trm) (hb : t.bulk ≤ 1000000000) : ACall Tryz.prog 182 [.agg t.cells] [] (fun y Γ' => ∃ tk : Tok, tk.e = 3 ∧ tk.s = 1 ∧ y = .ms tk ∧ Γ' = [.row tk ((riseL (freeOf t.all)).map (PV.int .i64))]) := by
 have hlen : t.all.length ≤ t.bulk := t.met_len [] 0
 refine ACall.of_body tt_ok Tryz.func182 rfl rfl (n := 28) rfl rfl ?_
 conv => whnf
 repeat' (first|((first|((first|(apply zY;intro hg)|apply zZ);first|exact stA)|(refine zW ?_ ?_;exact gA)|refine zH rfl ?_|refine zA ?_|refine zI bA ?_|refine zI rfl ?_|refine sB ?_|(refine zO ?_ ?_ ?_;omega;omega)|(refine zP ?_ ?_ ?_;omega;omega)|refine zM rfl ?_|(refine zQ ?_ ?_ ?_;omega;omega)|(refine zR ?_ ?_;omega)|(refine zI ?_ ?_;exact nA)|refine sS ?_|refine sD ?_|intro _|refine zG ?_);conv=>whnf)|(refine zX (fun hc => ?_) (fun hc => ?_)<;>(try simp only [SY] at hc)<;>first|omega|(conv=>whnf)))
 rename_i bt bo
 refine PCall.goG (Ghost.trans (Ghost.nilRow 1 3 _) (Ghost.box (b := bo) (cs := [.nil]) (cs' := [.ms (nilTok 1 3)]) (.cons (Wk.nilRow 1 3) .nil))) (all_c t) (WkT.refl _) ?_
 rintro _ _ ⟨b, rfl, rfl⟩
 conv => whnf
 repeat ((first|((first|(apply zY;intro hg)|apply zZ);first|exact stA)|(refine zW ?_ ?_;exact gA)|refine zH rfl ?_|refine zA ?_|refine zI bA ?_|refine zI rfl ?_|refine sB ?_|(refine zO ?_ ?_ ?_;omega;omega)|(refine zP ?_ ?_ ?_;omega;omega)|refine zM rfl ?_|(refine zQ ?_ ?_ ?_;omega;omega)|(refine zR ?_ ?_;omega)|(refine zI ?_ ?_;exact nA)|refine sS ?_|refine sD ?_|intro _);conv=>whnf)
 refine PRange.go (t.all.map fun m => [metP m]) (fun s : Tok × List Int => [.box bo [.ms s.1], .row s.1 (s.2.map (PV.int .i64))]) (fun k s => s.1.e = 3 ∧ s.1.s = 1 ∧ s.2 = freeOf (t.all.take k)) (fun _ _ => False) (nilTok 1 3, []) (all1_c b t hb) ⟨rfl, rfl, rfl⟩
  (hp := (inferInstance : PickL _ [.box bo [.ms (nilTok 1 3)], .row (nilTok 1 3) [], .box b t.cells] _)) (by intro ys hy; obtain ⟨m, _, rfl⟩ := List.mem_map.1 hy; rfl) ?_ ?_ (fun _ _ _ h => h.elim)
 ·rintro k ys ⟨tk, l⟩ hk ⟨k1, k2, k3⟩
  dsimp only at k1 k2 k3 ⊢
  obtain ⟨m, hm, rfl⟩ : ∃ m, t.all[k]? = some m ∧ ys = [metP m] := by
   rw [List.getElem?_map] at hk
   cases h : t.all[k]? with
   | none => rw [h] at hk; cases hk
   | some m => rw [h] at hk; cases hk; exact ⟨m, rfl, rfl⟩
  obtain ⟨hlt, hmg⟩ := List.getElem?_eq_some_iff.1 hm
  have hst : freeOf (t.all.take (k + 1)) = freeOf (t.all.take k) ++ (if (namesB m.1.op && !m.2.contains m.1.n) = true then [m.1.n] else []) := by
   rw [List.take_succ_eq_append_getElem hlt, freeOf, List.filter_append, List.map_append, hmg]
   congr 1
   by_cases h : (namesB m.1.op && !m.2.contains m.1.n) = true
   ·rw [if_pos h]; simp only [List.filter, h]; rfl
   ·rw [if_neg h]; rw [Bool.not_eq_true] at h; simp only [List.filter, h]; rfl
  have hll : l.length ≤ k := by
   rw [k3, freeOf, List.length_map]
   exact Nat.le_trans (List.length_filter_le _ _) (by rw [List.length_take]; omega)
  conv => whnf
  repeat' (first|((first|((first|(apply zY;intro hg)|apply zZ);first|exact stA|((conv=>whnf);(repeat ((first|(refine zW ?_ ?_;exact gA)|refine pC (names_c m.1) wR ?_|refine pC (names_c m.1) cA ?_|refine pC (containsInt_c m.2 m.1.n) wR ?_|refine pC (containsInt_c m.2 m.1.n) cA ?_|intro _);conv=>whnf));first|exact pS|exact pL|exact pE))|(refine zW ?_ ?_;exact gA)|refine zH rfl ?_|refine zA ?_|refine zI bA ?_|refine zI rfl ?_|refine sB ?_|(refine zO ?_ ?_ ?_;omega;omega)|(refine zP ?_ ?_ ?_;omega;omega)|refine zM rfl ?_|(refine zQ ?_ ?_ ?_;omega;omega)|(refine zR ?_ ?_;omega)|(refine zI ?_ ?_;exact nA)|refine sS ?_|refine pC (names_c m.1) wR ?_|refine pC (names_c m.1) cA ?_|refine pC (containsInt_c m.2 m.1.n) wR ?_|refine pC (containsInt_c m.2 m.1.n) cA ?_|refine sD ?_|intro _|refine zG ?_);conv=>whnf)|(refine zX (fun hc => ?_) (fun hc => ?_)<;>(try simp only [SY] at hc)<;>first|omega|(conv=>whnf)))
  refine ⟨rfl, ?_⟩
  conv => whnf
  repeat' (first|((first|((first|(apply zY;intro hg)|apply zZ);first|exact stA|((conv=>whnf);(repeat ((first|(refine zW ?_ ?_;exact gA)|refine pC (names_c m.1) wR ?_|refine pC (names_c m.1) cA ?_|refine pC (containsInt_c m.2 m.1.n) wR ?_|refine pC (containsInt_c m.2 m.1.n) cA ?_|intro _);conv=>whnf));first|exact pS|exact pL|exact pE))|(refine zW ?_ ?_;exact gA)|refine zH rfl ?_|refine zA ?_|refine zI bA ?_|refine zI rfl ?_|refine sB ?_|(refine zO ?_ ?_ ?_;omega;omega)|(refine zP ?_ ?_ ?_;omega;omega)|refine zM rfl ?_|(refine zQ ?_ ?_ ?_;omega;omega)|(refine zR ?_ ?_;omega)|(refine zI ?_ ?_;exact nA)|refine sS ?_|refine pC (names_c m.1) wR ?_|refine pC (names_c m.1) cA ?_|refine pC (containsInt_c m.2 m.1.n) wR ?_|refine pC (containsInt_c m.2 m.1.n) cA ?_|refine sD ?_|intro _|refine zG ?_);conv=>whnf)|(refine zX (fun hc => ?_) (fun hc => ?_)<;>(try simp only [SY] at hc)<;>first|omega|(conv=>whnf)))
  ·refine PAppend.rowOne (f := PV.int .i64) (l := l) m.1.n k1 k2 (Wk.tok _ _ _) (by omega) (by show _ * 8 ≤ _; omega) (fun t3 e3 s3 => ?_)
   conv => whnf
   repeat ((first|((first|(apply zY;intro hg)|apply zZ);first|exact stA|((conv=>whnf);(repeat ((first|(refine zW ?_ ?_;exact gA)|refine pC (names_c m.1) wR ?_|refine pC (names_c m.1) cA ?_|refine pC (containsInt_c m.2 m.1.n) wR ?_|refine pC (containsInt_c m.2 m.1.n) cA ?_|intro _);conv=>whnf));first|exact pS|exact pL|exact pE))|(refine zW ?_ ?_;exact gA)|refine zH rfl ?_|refine zA ?_|refine zI bA ?_|refine zI rfl ?_|refine sB ?_|(refine zO ?_ ?_ ?_;omega;omega)|(refine zP ?_ ?_ ?_;omega;omega)|refine zM rfl ?_|(refine zQ ?_ ?_ ?_;omega;omega)|(refine zR ?_ ?_;omega)|(refine zI ?_ ?_;exact nA)|refine sS ?_|refine pC (names_c m.1) wR ?_|refine pC (names_c m.1) cA ?_|refine pC (containsInt_c m.2 m.1.n) wR ?_|refine pC (containsInt_c m.2 m.1.n) cA ?_|refine sD ?_|intro _);conv=>whnf)
   exact roundEnd (k := k) (G := fun s : Tok × List Int => [.box bo [.ms s.1], .row s.1 (s.2.map (PV.int .i64))]) (I := fun k s => s.1.e = 3 ∧ s.1.s = 1 ∧ s.2 = freeOf (t.all.take k)) (X := fun _ _ => False) (t3, l ++ [m.1.n]) ⟨e3, s3, by show l ++ [m.1.n] = freeOf (t.all.take (k + 1)); rw [hst, if_pos (by rw [Bool.and_eq_true, hc.1, hc.2]; exact ⟨rfl, rfl⟩), k3]⟩ (hp := (inferInstance : PickL _ [.box bo [.ms t3], .row t3 ((l ++ [m.1.n]).map (PV.int .i64))] _))
  ·exact roundEnd (k := k) (G := fun s : Tok × List Int => [.box bo [.ms s.1], .row s.1 (s.2.map (PV.int .i64))]) (I := fun k s => s.1.e = 3 ∧ s.1.s = 1 ∧ s.2 = freeOf (t.all.take k)) (X := fun _ _ => False) (tk, l) ⟨k1, k2, by show l = freeOf (t.all.take (k + 1)); rw [hst, if_neg (by rw [Bool.and_eq_true, Bool.not_eq_true']; rintro ⟨a, b⟩; rcases hc with h | h; rw [a] at h; cases h; rw [b] at h; cases h), List.append_nil, k3]⟩ (hp := (inferInstance : PickL _ [.box bo [.ms tk], .row tk (l.map (PV.int .i64))] _))
 ·rintro bd ⟨tk, l⟩ ⟨k1, k2, k3⟩
  dsimp only at k1 k2 k3 ⊢
  rw [List.length_map, List.take_length] at k3
  subst k3
  have hfl : (freeOf t.all).length ≤ 1000000000 := by
   rw [freeOf, List.length_map]
   exact Nat.le_trans (List.length_filter_le _ _) (by omega)
  conv => whnf
  repeat' (first|((first|((first|(apply zY;intro hg)|apply zZ);first|exact stA|((conv=>whnf);(repeat ((first|(refine zW ?_ ?_;exact gA)|refine pC (names_c m.1) wR ?_|refine pC (names_c m.1) cA ?_|refine pC (containsInt_c m.2 m.1.n) wR ?_|refine pC (containsInt_c m.2 m.1.n) cA ?_|intro _);conv=>whnf));first|exact pS|exact pL|exact pE))|(refine zW ?_ ?_;exact gA)|refine zH rfl ?_|refine zA ?_|refine zI bA ?_|refine zI rfl ?_|refine sB ?_|(refine zO ?_ ?_ ?_;omega;omega)|(refine zP ?_ ?_ ?_;omega;omega)|refine zM rfl ?_|(refine zQ ?_ ?_ ?_;omega;omega)|(refine zR ?_ ?_;omega)|(refine zI ?_ ?_;exact nA)|refine sS ?_|refine pC (names_c m.1) wR ?_|refine pC (names_c m.1) cA ?_|refine pC (containsInt_c m.2 m.1.n) wR ?_|refine pC (containsInt_c m.2 m.1.n) cA ?_|refine sD ?_|intro _|refine zG ?_);conv=>whnf)|(refine zX (fun hc => ?_) (fun hc => ?_)<;>(try simp only [SY] at hc)<;>first|omega|(conv=>whnf)))
  refine PCall.goR [.ob bd dfrO [] [], .box bo [.ms tk]] (rising_c tk (freeOf t.all) k2 hfl) (WkT.refl _) (List.Perm.refl _) ?_
  rintro _ _ ⟨t4, e4, s4, rfl, rfl⟩
  conv => whnf
  repeat ((first|((first|(apply zY;intro hg)|apply zZ);first|exact stA|((conv=>whnf);(repeat ((first|(refine zW ?_ ?_;exact gA)|refine pC (names_c m.1) wR ?_|refine pC (names_c m.1) cA ?_|refine pC (containsInt_c m.2 m.1.n) wR ?_|refine pC (containsInt_c m.2 m.1.n) cA ?_|intro _);conv=>whnf));first|exact pS|exact pL|exact pE))|(refine zW ?_ ?_;exact gA)|refine zH rfl ?_|refine zA ?_|refine zI bA ?_|refine zI rfl ?_|refine sB ?_|(refine zO ?_ ?_ ?_;omega;omega)|(refine zP ?_ ?_ ?_;omega;omega)|refine zM rfl ?_|(refine zQ ?_ ?_ ?_;omega;omega)|(refine zR ?_ ?_;omega)|(refine zI ?_ ?_;exact nA)|refine sS ?_|refine pC (names_c m.1) wR ?_|refine pC (names_c m.1) cA ?_|refine pC (containsInt_c m.2 m.1.n) wR ?_|refine pC (containsInt_c m.2 m.1.n) cA ?_|refine sD ?_|intro _);conv=>whnf)
  refine PMark.at_ rfl ?_
  conv => whnf
  exact PRet.gen (y := .ms t4) (Wk.refl _) ⟨t4, e4.trans k1, s4, rfl, rfl⟩
end Go.Cb
namespace Go.Cb
open Go.Proofs
set_option maxRecDepth 100000
set_option maxHeartbeats 4000000
mutual
def Trm.sh (k : Int) : Trm → Trm
 | .mk op n v t => .mk op (if namesB op = true then n + k else n) (v.map (· + k)) (Trm.shs k t)
def Trm.shs (k : Int) : List Trm → List Trm
 | [] => []
 | x :: xs => Trm.sh k x :: Trm.shs k xs
end
theorem Trm.shs_eq (k : Int) : ∀ l : List Trm, Trm.shs k l = l.map (Trm.sh k)
 | [] => rfl
 | x :: l => by rw [Trm.shs, List.map_cons, Trm.shs_eq k l]
theorem Trm.sh_op (k : Int) (t : Trm) : (t.sh k).op = t.op := by cases t; rw [Trm.sh]; rfl
theorem Trm.sh_n (k : Int) (t : Trm) : (t.sh k).n = if namesB t.op = true then t.n + k else t.n := by cases t; rw [Trm.sh]; rfl
theorem Trm.sh_v (k : Int) (t : Trm) : (t.sh k).v = t.v.map (· + k) := by cases t; rw [Trm.sh]; rfl
theorem Trm.sh_t (k : Int) (t : Trm) : (t.sh k).t = t.t.map (Trm.sh k) := by cases t; rw [Trm.sh, ← Trm.shs_eq]; rfl
theorem Trm.sh_cnt (k : Int) (t : Trm) : (t.sh k).cnt = t.cnt := by
 induction t using Trm.ind with
 | h t ih =>
  have : ∀ l : List Trm, (∀ x ∈ l, (x.sh k).cnt = x.cnt) → Trm.cnts (l.map (Trm.sh k)) = Trm.cnts l := by
   intro l
   induction l with
   | nil => intro _; rfl
   | cons y l ihl => intro h; rw [List.map_cons, Trm.cnts, Trm.cnts, h y (by simp), ihl fun x hx => h x (by simp [hx])]
  rw [Trm.cnt_eq, Trm.cnt_eq, Trm.sh_t, this t.t ih]
theorem Trm.sh_vars (k : Int) (t : Trm) : (t.sh k).vars = t.vars.map (· + k) := by
 induction t using Trm.ind with
 | h t ih =>
  have : ∀ l : List Trm, (∀ x ∈ l, (x.sh k).vars = x.vars.map (· + k)) → Trm.varss (l.map (Trm.sh k)) = (Trm.varss l).map (· + k) := by
   intro l
   induction l with
   | nil => intro _; rfl
   | cons y l ihl => intro h; rw [List.map_cons, Trm.varss, Trm.varss, h y (by simp), ihl fun x hx => h x (by simp [hx]), List.map_append]
  rw [Trm.vars_eq, Trm.vars_eq, Trm.sh_t, Trm.sh_v, this t.t ih, List.map_append]
theorem sh_number (k c codes : Int) (free : Bool) (t : Trm) (scope : List Int) (h : numberL c codes free t scope = true) : numberL c codes free (t.sh k) (scope.map (· + k)) = true := by
 unfold numberL at h ⊢
 rw [Trm.sh_op, Trm.sh_n, Trm.sh_v, List.length_map]
 by_cases hn : t.op = 1 ∨ t.op = 2 ∨ t.op = 14
 ·rw [if_neg (by omega), if_pos hn] at h ⊢
  have : namesB t.op = true := by simp [namesB]; omega
  rw [if_pos this]
  simp at h ⊢
  exact h
 ·have : ¬ namesB t.op = true := by simp [namesB]; omega
  rw [if_neg this, if_neg hn]
  rw [if_neg hn] at h
  exact h
theorem Trm.sh_ok {level c codes : Int} {free : Bool} (k : Int) (t : Trm) : ∀ {scope : List Int} {deep : Int}, t.okT level c codes free scope deep → (t.sh k).okT level c codes free (scope.map (· + k)) deep := by
 induction t using Trm.ind with
 | h t ih =>
  intro scope deep h
  rw [Trm.okT_eq] at h ⊢
  have key : ∀ (op : Int) (sc inner : List Int) (deep : Int) (l : List Trm), (∀ y ∈ l, ∀ {scope : List Int} {deep : Int}, y.okT level c codes free scope deep → (y.sh k).okT level c codes free (scope.map (· + k)) deep) →
    Trm.okTs level c codes free op sc inner l deep → Trm.okTs level c codes free op (sc.map (· + k)) (inner.map (· + k)) (l.map (Trm.sh k)) deep := by
   intro op sc inner deep l
   induction l with
   | nil => intro _ _; simp [Trm.okTs]
   | cons x l ihl =>
    intro hy hk
    rw [Trm.okTs] at hk
    rw [List.map_cons, Trm.okTs, Trm.sh_op]
    have e : l.map (Trm.sh k) = [] ↔ l = [] := by simp
    refine ⟨fun hh => hk.1 ⟨hh.1, fun h2 => hh.2.1 (e.2 h2), hh.2.2⟩, ?_, ihl (fun z hz => hy z (by simp [hz])) hk.2.2⟩
    have h2 := hy x (by simp) hk.2.1
    by_cases h3 : l = [] ∨ op = 7 ∨ op = 9
    ·rw [if_pos h3] at h2
     rw [if_pos (h3.imp_left e.2)]
     exact h2
    ·rw [if_neg h3] at h2
     rw [if_neg (fun h4 => h3 (h4.imp_left e.1))]
     exact h2
  rw [Trm.sh_op, Trm.sh_v, Trm.sh_t, ← List.map_append]
  refine ⟨⟨h.1.1, h.1.2.1, ?_, sh_number k _ _ _ _ _ h.1.2.2.2⟩, key _ _ _ _ _ ih h.2⟩
  have := h.1.2.2.1
  unfold countsL at this ⊢
  simp only [Trm.sh_op, Trm.sh_v, Trm.sh_t, List.length_map]
  exact this
theorem RightP.sh {p : Prog} {level : Int} (h : RightP p level) (k : Int) (h0 : 0 ≤ k) (hk : ∀ x ∈ p.body.vars, x + k ≤ 1000000) : RightP ⟨p.consts, p.body.sh k⟩ level := by
 obtain ⟨h1, h2, h3, h4, h5⟩ := h
 refine ⟨h1, h2, p.body.sh_ok k h3, by rw [show (⟨p.consts, p.body.sh k⟩ : Prog).body = p.body.sh k from rfl, Trm.sh_cnt]; exact h4, ?_⟩
 show Dist (p.body.sh k).vars []
 rw [Trm.sh_vars]
 refine ⟨fun x hx => ?_, ?_⟩
 ·obtain ⟨y, hy, rfl⟩ := List.mem_map.1 hx
  have := h5.1 y hy
  have := hk y hy
  exact ⟨by omega, by omega, by simp⟩
 ·exact List.Pairwise.map _ (fun a b hab => by omega) h5.2
end Go.Cb
namespace Go.Cb
open Go.Proofs
set_option maxRecDepth 100000
set_option maxHeartbeats 4000000
mutual
def Trm.asg : Trm → List Int
 | .mk op n _ t => (if op = 2 ∨ op = 14 then [n] else []) ++ Trm.asgs t
def Trm.asgs : List Trm → List Int
 | [] => []
 | x :: xs => Trm.asg x ++ Trm.asgs xs
end
def refT (v : Int) : Trm := .mk 1 v [] []
def boxT (t : Trm) : Trm := .mk 15 0 [] [t]
def lamV (A : Int → Bool) : List Int → Int → List Int
 | [], _ => []
 | x :: xs, k => if A x = true then k :: lamV A xs (k + 1) else x :: lamV A xs k
def lamT (A : Int → Bool) : List Int → Int → List Trm
 | [], _ => []
 | x :: xs, k => if A x = true then boxT (refT k) :: lamT A xs (k + 1) else lamT A xs k
def lamN (A : Int → Bool) (l : List Int) : Int := ((l.filter A).length : Int)
def boxAll (A : Int → Bool) : List Int → List Trm → List Trm
 | v :: vs, x :: xs => (if A v = true then boxT x else x) :: boxAll A vs xs
 | _, l => l
def fixT (A : Int → Bool) : List Int → List Trm → List Trm
 | v :: vs, x :: xs => if A v = true then fixT A vs xs else x :: fixT A vs xs
 | _, _ => []
def fixO (A : Int → Bool) : List Int → List Trm → Trm → Trm
 | v :: vs, x :: xs, o => if A v = true then .mk 6 0 [] [.mk 17 0 [] [refT v, x], fixO A vs xs o] else fixO A vs xs o
 | _, _, o => o
def fixE (A : Int → Bool) (vs : List Int) (l : List Trm) : Trm :=
 let o := fixO A vs l (l.getD vs.length (refT 0))
 if vs.filter (fun v => !A v) = [] then o else .mk 9 0 (vs.filter fun v => !A v) (fixT A vs l ++ [o])
def fixR (A : Int → Bool) (vs : List Int) (l : List Trm) : Trm :=
 .mk 8 0 (vs.filter A) ((vs.filter A).map (fun _ => boxT (.mk 13 0 [] [])) ++ [fixE A vs l])
mutual
def Trm.fr (A : Int → Bool) : Trm → Int
 | .mk op _ v t => (if op = 4 then lamN A v else 0) + Trm.frs A t
def Trm.frs (A : Int → Bool) : List Trm → Int
 | [] => 0
 | x :: xs => Trm.fr A x + Trm.frs A xs
end
mutual
def Trm.cv (A : Int → Bool) : Trm → Int → Trm
 | .mk op n v t, k =>
  if op = 1 ∧ A n = true then .mk 16 0 [] [.mk op n v t]
  else if op = 2 then .mk 17 0 [] (refT n :: Trm.cvs A t k)
  else if op = 14 then .mk 18 0 [] (refT n :: Trm.cvs A t k)
  else if op = 4 then .mk 4 n (lamV A v k) (if v.filter A = [] then Trm.cvs A t (k + lamN A v) else [.mk 8 0 (v.filter A) (lamT A v k ++ Trm.cvs A t (k + lamN A v))])
  else if op = 9 ∧ v.any A = true then fixR A v (Trm.cvs A t k)
  else .mk op n v (if op = 8 then boxAll A v (Trm.cvs A t k) else Trm.cvs A t k)
def Trm.cvs (A : Int → Bool) : List Trm → Int → List Trm
 | [], _ => []
 | x :: xs, k => Trm.cv A x k :: Trm.cvs A xs (k + Trm.fr A x)
end
mutual
def Trm.shp : Trm → Prop
 | .mk op n v t => ((op = 1 → v = [] ∧ t = []) ∧ (op = 2 ∨ op = 14 ∨ op = 4 → t.length = 1) ∧ (op = 8 ∨ op = 9 → t.length = v.length + 1) ∧ (op = 9 → n = 0)) ∧ Trm.shps t
def Trm.shps : List Trm → Prop
 | [] => True
 | x :: xs => Trm.shp x ∧ Trm.shps xs
end
mutual
def Trm.nam : Trm → List Int
 | .mk op n v t => (if op = 1 then [n] else []) ++ v ++ Trm.nams t
def Trm.nams : List Trm → List Int
 | [] => []
 | x :: xs => Trm.nam x ++ Trm.nams xs
end
def Trm.sz (l : List Trm) : Int := Trm.cnts l
theorem Trm.cnts_append : ∀ l m : List Trm, Trm.cnts (l ++ m) = Trm.cnts l + Trm.cnts m
 | [], m => by simp [Trm.cnts]
 | x :: l, m => by rw [List.cons_append, Trm.cnts, Trm.cnts, Trm.cnts_append l m]; omega
theorem boxT_cnt (t : Trm) : (boxT t).cnt = 1 + t.cnt := by rw [boxT, Trm.cnt, Trm.cnts, Trm.cnts]; omega
def Szs : List Trm → List Trm → Prop
 | [], [] => True
 | x :: l, y :: m => x.cnt = y.cnt ∧ Szs l m
 | _, _ => False
theorem Szs.cnts : ∀ {l m : List Trm}, Szs l m → Trm.cnts l = Trm.cnts m
 | [], [], _ => rfl
 | x :: l, y :: m, h => by rw [Trm.cnts, Trm.cnts, h.1, h.2.cnts]
 | [], _ :: _, h => h.elim
 | _ :: _, [], h => h.elim
theorem Szs.getD : ∀ {l m : List Trm} (i : Nat) (d : Trm), Szs l m → (l.getD i d).cnt = (m.getD i d).cnt
 | [], [], _, _, _ => rfl
 | x :: l, y :: m, 0, d, h => by simpa using h.1
 | x :: l, y :: m, i + 1, d, h => by simpa using h.2.getD i d
 | [], _ :: _, _, _, h => h.elim
 | _ :: _, [], _, _, h => h.elim
theorem Szs.boxAll (A : Int → Bool) : ∀ (vs : List Int) {l m : List Trm}, Szs l m → Szs (boxAll A vs l) (boxAll A vs m)
 | [], l, m, h => by simpa [Go.Cb.boxAll] using h
 | _ :: _, [], [], h => by simp [Go.Cb.boxAll, Szs]
 | v :: vs, x :: l, y :: m, h => by
  rw [Go.Cb.boxAll, Go.Cb.boxAll]
  refine ⟨?_, h.2.boxAll A vs⟩
  split
  ·rw [boxT_cnt, boxT_cnt, h.1]
  ·exact h.1
 | _ :: _, [], _ :: _, h => h.elim
 | _ :: _, _ :: _, [], h => h.elim
theorem Szs.fixT (A : Int → Bool) : ∀ (vs : List Int) {l m : List Trm}, Szs l m → Szs (fixT A vs l) (fixT A vs m)
 | [], l, m, h => by simp [Go.Cb.fixT, Szs]
 | _ :: _, [], [], h => by simp [Go.Cb.fixT, Szs]
 | v :: vs, x :: l, y :: m, h => by
  rw [Go.Cb.fixT, Go.Cb.fixT]
  split
  ·exact h.2.fixT A vs
  ·exact ⟨h.1, h.2.fixT A vs⟩
 | _ :: _, [], _ :: _, h => h.elim
 | _ :: _, _ :: _, [], h => h.elim
theorem Szs.fixO (A : Int → Bool) : ∀ (vs : List Int) {l m : List Trm} {o u : Trm}, Szs l m → o.cnt = u.cnt → (fixO A vs l o).cnt = (fixO A vs m u).cnt
 | [], l, m, o, u, h, ho => by simpa [Go.Cb.fixO] using ho
 | _ :: _, [], [], o, u, h, ho => by simpa [Go.Cb.fixO] using ho
 | v :: vs, x :: l, y :: m, o, u, h, ho => by
  rw [Go.Cb.fixO, Go.Cb.fixO]
  have ih := h.2.fixO A vs ho
  split
  ·simp only [Trm.cnt, Trm.cnts, h.1, ih]
  ·exact ih
 | _ :: _, [], _ :: _, _, _, h, _ => h.elim
 | _ :: _, _ :: _, [], _, _, h, _ => h.elim
theorem Szs.fixR (A : Int → Bool) (vs : List Int) {l m : List Trm} (h : Szs l m) : (fixR A vs l).cnt = (fixR A vs m).cnt := by
 have ho := h.fixO A vs (h.getD vs.length (refT 0))
 have ht := (h.fixT A vs).cnts
 unfold Go.Cb.fixR fixE
 simp only
 split
 ·simp only [Trm.cnt, Trm.cnts_append, Trm.cnts, ho]
 ·simp only [Trm.cnt, Trm.cnts_append, Trm.cnts, ho, ht]
section
variable {A B : Int → Bool} {s : Int} (hAB : ∀ v, B (v + s) = A v)
include hAB
end
end Go.Cb
namespace Go.Cb
open Go.Proofs
set_option maxRecDepth 100000
set_option maxHeartbeats 4000000
mutual
def Trm.uC (P : Int → Int → Bool) : Trm → Int → Int
 | .mk op n _ t, deep => (if P op n = true then 1 else 0) + (if deep < 1000 then Trm.uCs P t (deep + 1) else 0)
def Trm.uCs (P : Int → Int → Bool) : List Trm → Int → Int
 | [], _ => 0
 | x :: xs, deep => Trm.uC P x deep + Trm.uCs P xs deep
end
def putI (l : List Int) (v : Int) : List Int := l.takeWhile (fun x => decide (x < v)) ++ (if (l.dropWhile fun x => decide (x < v)).head? = some v then l.dropWhile (fun x => decide (x < v)) else v :: l.dropWhile fun x => decide (x < v))
theorem putI_cons (x : Int) (l : List Int) (v : Int) : putI (x :: l) v = if x < v then x :: putI l v else if x = v then x :: l else v :: x :: l := by
 unfold putI
 by_cases h : x < v
 ·simp [List.takeWhile_cons, List.dropWhile_cons, h]
 ·simp [List.takeWhile_cons, List.dropWhile_cons, h]
theorem mem_putI (v x : Int) : ∀ l : List Int, x ∈ putI l v ↔ x = v ∨ x ∈ l
 | [] => by simp [putI]
 | y :: l => by
  rw [putI_cons]
  split
  ·rw [List.mem_cons, mem_putI v x l, List.mem_cons]
   constructor
   ·rintro (h | h | h)
    ·exact .inr (.inl h)
    ·exact .inl h
    ·exact .inr (.inr h)
   ·rintro (h | h | h)
    ·exact .inr (.inl h)
    ·exact .inl h
    ·exact .inr (.inr h)
  ·split
   ·rename_i e; rw [List.mem_cons, e]
    constructor
    ·rintro (h | h)
     ·exact .inl h
     ·exact .inr (.inr h)
    ·rintro (h | h | h)
     ·exact .inl h
     ·exact .inl h
     ·exact .inr h
   ·rw [List.mem_cons]
theorem putI_lt (v : Int) : ∀ {l : List Int}, l.Pairwise (· < ·) → (putI l v).Pairwise (· < ·)
 | [], _ => by simp [putI]
 | y :: l, h => by
  rw [List.pairwise_cons] at h
  rw [putI_cons]
  split
  ·rw [List.pairwise_cons]
   refine ⟨fun z hz => ?_, putI_lt v h.2⟩
   rcases (mem_putI v z l).1 hz with rfl | hz
   ·assumption
   ·exact h.1 z hz
  ·split
   ·exact List.pairwise_cons.2 h
   ·rw [List.pairwise_cons]
    refine ⟨fun z hz => ?_, List.pairwise_cons.2 h⟩
    rcases List.mem_cons.1 hz with rfl | hz
    ·omega
    ·have := h.1 z hz; omega
theorem putI_len (v : Int) : ∀ l : List Int, (putI l v).length ≤ l.length + 1
 | [] => by simp [putI]
 | y :: l => by
  rw [putI_cons]
  have := putI_len v l
  split
  ·simp; omega
  ·split <;> simp
mutual
def Trm.bD : Trm → Int → List Int → List Int
 | .mk _ _ v t, deep, out => if deep < 1000 then Trm.bDs t (deep + 1) (v.foldl putI out) else v.foldl putI out
def Trm.bDs : List Trm → Int → List Int → List Int
 | [], _, out => out
 | x :: xs, deep, out => Trm.bDs xs deep (Trm.bD x deep out)
end
theorem foldl_putI_lt : ∀ (v out : List Int), out.Pairwise (· < ·) → (v.foldl putI out).Pairwise (· < ·)
 | [], _, h => h
 | x :: v, out, h => foldl_putI_lt v _ (putI_lt x h)
theorem mem_foldl_putI (x : Int) : ∀ (v out : List Int), x ∈ v.foldl putI out ↔ x ∈ out ∨ x ∈ v
 | [], _ => by simp
 | y :: v, out => by
  rw [List.foldl_cons, mem_foldl_putI x v, mem_putI, List.mem_cons]
  constructor
  ·rintro ((h | h) | h)
   ·exact .inr (.inl h)
   ·exact .inl h
   ·exact .inr (.inr h)
  ·rintro (h | h | h)
   ·exact .inl (.inr h)
   ·exact .inl (.inl h)
   ·exact .inr h
end Go.Cb
namespace Go.Cb
open Go.Proofs
set_option maxRecDepth 100000
set_option maxHeartbeats 4000000
structure Nm where
 map : Int → Option Int
 next : Int
def renewN : List Int → Nm → List Int × Nm
 | [], s => ([], s)
 | v :: vs, s =>
  let r := renewN vs ⟨fun k => if k = v then some s.next else s.map k, s.next + 1⟩
  (s.next :: r.1, r.2)
mutual
def Trm.cpy : Trm → Nm → Trm × Nm
 | .mk op n v t, s =>
  let a := renewN v s
  let b := Trm.cpys t a.2
  (.mk op (if op = 1 then (a.2.map n).getD n else n) a.1 b.1, b.2)
def Trm.cpys : List Trm → Nm → List Trm × Nm
 | [], s => ([], s)
 | x :: xs, s =>
  let a := Trm.cpy x s
  let b := Trm.cpys xs a.2
  (a.1 :: b.1, b.2)
end
structure InS where
 next : Int
 budget : Int
 effort : Int
 known : Int → Option Trm
def szI (t : Trm) : Int := (t.all.length : Int)
def firstT (t : Trm) : Trm := t.t.headD (.mk 0 0 [] [])
def calledI (small : Int) (t : Trm) (s : InS) : Option Trm :=
 if t.op = 5 ∧ (firstT t).op = 1 then
  match s.known (firstT t).n with
  | some lam => if lam.op = 4 ∧ lam.n = 0 ∧ lam.v.length + 1 = t.t.length ∧ szI (firstT lam) ≤ small ∧ szI (firstT lam) ≤ s.budget then some lam else none
  | none => none
 else none
def learnI : Int → List Int → List Trm → InS → InS
 | op, v :: vs, x :: xs, s => learnI op vs xs (if op = 9 ∨ op = 8 ∧ x.op = 4 then { s with known := fun k => if k = v then some x else s.known k } else s)
 | _, _, _, s => s
mutual
def Trm.thr (small : Int) : Trm → InS → Trm × InS
 | .mk op n v t, s =>
  if s.effort = 0 then (.mk op n v t, s) else
  match calledI small (.mk op n v t) { s with effort := s.effort - 1 } with
  | some lam =>
   match t with
   | [] => (.mk op n v t, s)
   | _ :: xs =>
    let a := Trm.thrs small xs { s with effort := s.effort - 1, budget := s.budget - szI (firstT lam) }
    let b := renewN lam.v ⟨fun _ => none, a.2.next⟩
    let c := (firstT lam).cpy b.2
    (.mk 8 0 b.1 (a.1 ++ [c.1]), { a.2 with next := c.2.next })
  | none =>
   if op = 9 then
    let a := Trm.thrs small t (learnI op v t { s with effort := s.effort - 1 })
    (.mk op n v a.1, a.2)
   else
    let a := Trm.thrL small (learnI op v t) t { s with effort := s.effort - 1 }
    (.mk op n v a.1, a.2)
def Trm.thrs (small : Int) : List Trm → InS → List Trm × InS
 | [], s => ([], s)
 | x :: xs, s =>
  let a := Trm.thr small x s
  let b := Trm.thrs small xs a.2
  (a.1 :: b.1, b.2)
def Trm.thrL (small : Int) (lrn : InS → InS) : List Trm → InS → List Trm × InS
 | [], s => ([], lrn s)
 | x :: xs, s =>
  if xs = [] then
   let a := Trm.thr small x (lrn s)
   ([a.1], a.2)
  else
   let a := Trm.thr small x s
   let b := Trm.thrL small lrn xs a.2
   (a.1 :: b.1, b.2)
end
end Go.Cb
namespace Go.Cb
open Go.Proofs
set_option maxRecDepth 100000
set_option maxHeartbeats 4000000
def Nm.sh (k : Int) (s : Nm) : Nm := ⟨fun w => (s.map (w - k)).map (· + k), s.next + k⟩
def InS.sh (k : Int) (s : InS) : InS := ⟨s.next + k, s.budget, s.effort, fun w => (s.known (w - k)).map (Trm.sh k)⟩
end Go.Cb
namespace Go.Cb
open Go.Proofs
set_option maxRecDepth 100000
set_option maxHeartbeats 4000000
theorem Trm.bulks_append : ∀ l m : List Trm, Trm.bulks (l ++ m) = Trm.bulks l + Trm.bulks m
 | [], m => by simp [Trm.bulks]
 | x :: l, m => by rw [List.cons_append, Trm.bulks, Trm.bulks, Trm.bulks_append l m]; omega
end Go.Cb
namespace Go.Cb
open Go.Proofs
set_option maxRecDepth 100000
set_option maxHeartbeats 4000000
mutual
def Trm.shI : Trm → Prop
 | .mk op _ v t => ((op = 5 → t ≠ []) ∧ (op = 4 → t.length = 1) ∧ (op = 8 ∨ op = 9 → t.length = v.length + 1) ∧ (op = 9 → ∀ x ∈ t.dropLast, x.op = 4)) ∧ Trm.shIs t
def Trm.shIs : List Trm → Prop
 | [] => True
 | x :: xs => Trm.shI x ∧ Trm.shIs xs
end
theorem Trm.shI_eq (t : Trm) : t.shI ↔ ((t.op = 5 → t.t ≠ []) ∧ (t.op = 4 → t.t.length = 1) ∧ (t.op = 8 ∨ t.op = 9 → t.t.length = t.v.length + 1) ∧ (t.op = 9 → ∀ x ∈ t.t.dropLast, x.op = 4)) ∧ Trm.shIs t.t := by cases t; rw [Trm.shI]; rfl
theorem Trm.shIs_mem : ∀ {l : List Trm}, Trm.shIs l → ∀ x ∈ l, x.shI
 | [], _, x, hx => by cases hx
 | y :: l, h, x, hx => by
  rw [Trm.shIs] at h
  rcases List.mem_cons.1 hx with rfl | hx
  ·exact h.1
  ·exact Trm.shIs_mem h.2 x hx
theorem Trm.okT_shI {level c codes : Int} {free : Bool} (hl : level ≠ 3) (t : Trm) : ∀ {scope : List Int} {deep : Int}, t.okT level c codes free scope deep → t.shI := by
 induction t using Trm.ind with
 | h t ih =>
  intro scope deep h
  rw [Trm.okT_eq] at h
  rw [Trm.shI_eq]
  have key : ∀ (op : Int) (sc inner : List Int) (deep : Int) (l : List Trm), (∀ y ∈ l, ∀ {scope : List Int} {deep : Int}, y.okT level c codes free scope deep → y.shI) → Trm.okTs level c codes free op sc inner l deep → Trm.shIs l ∧ (op = 9 → ∀ x ∈ l.dropLast, x.op = 4) := by
   intro op sc inner deep l
   induction l with
   | nil => intro _ _; rw [Trm.shIs]; exact ⟨trivial, fun _ x hx => by cases hx⟩
   | cons x l ihl =>
    intro hy hk
    rw [Trm.okTs] at hk
    rw [Trm.shIs]
    obtain ⟨a1, a2⟩ := ihl (fun z hz => hy z (by simp [hz])) hk.2.2
    refine ⟨⟨hy x (by simp) hk.2.1, a1⟩, fun h9 y hy => ?_⟩
    cases l with
    | nil => simp at hy
    | cons z l =>
     rw [List.dropLast_cons_cons] at hy
     rcases List.mem_cons.1 hy with rfl | hy
     ·have h1 := hk.1
      unfold wantOp at h1
      rw [if_neg hl] at h1
      exact Classical.byContradiction fun h4 => h1 ⟨h9, by simp, h4⟩
     ·exact a2 h9 y hy
  obtain ⟨k1, k2⟩ := key _ _ _ _ _ ih h.2
  refine ⟨?_, k1⟩
  obtain ⟨⟨_, _, h3, h4⟩, _⟩ := h
  unfold countsL at h3
  refine ⟨fun e => ?_, fun e => ?_, fun e => ?_, k2⟩
  ·intro h0
   rw [h0, e] at h3
   simp [bindsB] at h3
  ·split at h3
   ·cases h3
   ·rw [if_neg (by omega), if_pos (by omega)] at h3
    have : (t.t.length : Int) = 1 := by simpa using h3
    omega
  ·split at h3
   ·cases h3
   ·rw [if_neg (by omega), if_neg (by omega), if_neg (by omega), if_neg (by omega), if_neg (by omega), if_pos (by omega)] at h3
    have : (t.t.length : Int) = (t.v.length : Int) + 1 := by simpa using h3
    omega
structure GoodI (B : Nat) (s : InS) : Prop where
 ok : ∀ v x, s.known v = some x → x.op = 4 ∧ x.t.length = 1 ∧ x.bulk ≤ B
 n0 : 0 ≤ s.next
 nb : s.next + s.budget * B ≤ 900000000000
 b0 : 0 ≤ s.budget
 b1 : s.budget ≤ 1000
 e0 : 0 ≤ s.effort
 e1 : s.effort ≤ 9223372036854775807
theorem GoodI.next {B : Nat} {s : InS} (h : GoodI B s) : s.next ≤ 900000000000 := by
 have := h.nb
 have : 0 ≤ s.budget * B := Int.mul_nonneg h.b0 (by omega)
 omega
end Go.Cb
namespace Go.Cb
open Go.Proofs
set_option maxRecDepth 100000
set_option maxHeartbeats 4000000
structure Kn where
 code : Int
 st : Bool
abbrev Fm := Int → Option Kn
def stF (fm : Fm) (v : Int) : Bool := match fm v with
 | some f => f.st
 | none => false
def codeF (fm : Fm) (v : Int) : Int := match fm v with
 | some f => f.code
 | none => 0
def overF (fm : Fm) (t : Trm) : List Int := (riseL (freeOf t.all)).filter fun v => !stF fm v
def refF (fm : Fm) (ov : List Int) (v : Int) : Trm := if stF fm v = true then .mk 21 (codeF fm v) [] [] else if idxL ov v 0 ≥ 0 then .mk 20 (idxL ov v 0) [] [] else .mk 1 v [] []
def setF (w : Bool) (fm : Fm) (v : Int) (f : Kn) : Fm := fun k => if w = true ∧ (fm k).isSome = true then fm k else if k = v then some f else fm k
def learnF (w : Bool) : List (Int × Kn) → Fm → Fm
 | [], fm => fm
 | x :: l, fm => learnF w l (setF w fm x.1 x.2)
def fixF (w : Bool) : List Int → Int → Bool → Fm → Fm
 | [], _, _, fm => fm
 | v :: vs, n, st, fm => fixF w vs (n + 1) st (setF w fm v ⟨n, st⟩)
def fixS (fm : Fm) (vs : List Int) (t : List Trm) : Bool := (t.take vs.length).all fun x => (overF fm x).all fun u => vs.contains u
def callF (fm : Fm) (op k : Int) (t : List Trm) : Int × Int := if op = 5 ∧ (t.headD (.mk 0 0 [] [])).op = 1 then match fm (t.headD (.mk 0 0 [] [])).n with
 | some f => (22, f.code)
 | none => (op, k)
 else (op, k)
def cloT (n : Int) (l : List Trm) : Trm := if l.length = 0 then .mk 21 n [] [] else .mk 19 n [] l
structure ClR where
 t : Trm
 c : List Cod
 fm : Fm
structure ClL where
 v : List Int
 t : List Trm
 last : Trm
 own : List Cod
 c : List Cod
 fm : Fm
abbrev noT : Trm := .mk 0 0 [] []
mutual
def Trm.clo (w : Bool) : Trm → List Int → Nat → Fm → ClR
 | .mk op k v t, ov, n, fm =>
  if op = 1 then ⟨refF fm ov k, [], fm⟩
  else if op = 4 then
   let b := Trm.cloH w t (overF fm (.mk op k v t)) (n + 1) fm
   ⟨cloT n ((if w = true then overF b.fm (.mk op k v t) else overF fm (.mk op k v t)).map (refF b.fm ov)), ⟨v, k == 1, b.t⟩ :: b.c, b.fm⟩
  else if op = 8 then
   let r := Trm.cloL w t v ov n fm []
   ⟨if r.v.length = 0 then r.last else .mk 8 0 r.v (r.t ++ [r.last]), r.c, r.fm⟩
  else if op = 9 then
   let r := Trm.cloF w t v ov n (n + v.length) (fixF w v n (fixS fm v t) fm)
   ⟨if fixS fm v t = true then r.last else .mk 9 0 v (r.t ++ [r.last]), r.own ++ r.c, r.fm⟩
  else
   let r := Trm.clos w t ov n fm
   ⟨.mk (callF fm op k t).1 (callF fm op k t).2 v r.t, r.c, r.fm⟩
def Trm.cloH (w : Bool) : List Trm → List Int → Nat → Fm → ClR
 | [], _, _, fm => ⟨noT, [], fm⟩
 | x :: _, ov, n, fm => Trm.clo w x ov n fm
def Trm.cloB (w : Bool) : Trm → List Int → Nat → Fm → ClR
 | .mk _ _ _ t, ov, n, fm => Trm.cloH w t ov n fm
def Trm.clos (w : Bool) : List Trm → List Int → Nat → Fm → ClL
 | [], _, _, fm => ⟨[], [], noT, [], [], fm⟩
 | x :: xs, ov, n, fm =>
  let a := Trm.clo w x ov n fm
  let b := Trm.clos w xs ov (n + a.c.length) a.fm
  ⟨[], a.t :: b.t, noT, [], a.c ++ b.c, b.fm⟩
def Trm.cloL (w : Bool) : List Trm → List Int → List Int → Nat → Fm → List (Int × Kn) → ClL
 | [], _, _, _, fm, lrn => ⟨[], [], noT, [], [], learnF w lrn fm⟩
 | x :: _, [], ov, n, fm, lrn =>
  let a := Trm.clo w x ov n (learnF w lrn fm)
  ⟨[], [], a.t, [], a.c, a.fm⟩
 | x :: xs, v :: vs, ov, n, fm, lrn =>
  let a := Trm.clo w x ov n fm
  let b := Trm.cloL w xs vs ov (n + a.c.length) a.fm (if x.op = 4 then lrn ++ [(v, ⟨n, a.t.op == 21⟩)] else lrn)
  ⟨if x.op = 4 ∧ a.t.op = 21 then b.v else v :: b.v, if x.op = 4 ∧ a.t.op = 21 then b.t else a.t :: b.t, b.last, [], a.c ++ b.c, b.fm⟩
def Trm.cloF (w : Bool) : List Trm → List Int → List Int → Int → Nat → Fm → ClL
 | [], _, _, _, _, fm => ⟨[], [], noT, [], [], fm⟩
 | x :: _, [], ov, _, n, fm =>
  let a := Trm.clo w x ov n fm
  ⟨[], [], a.t, [], a.c, a.fm⟩
 | x :: xs, _ :: vs, ov, c, n, fm =>
  let a := Trm.cloB w x (overF fm x) n fm
  let b := Trm.cloF w xs vs ov (c + 1) (n + a.c.length) a.fm
  ⟨[], .mk 19 c [] ((if w = true then overF a.fm x else overF fm x).map (refF a.fm ov)) :: b.t, b.last, ⟨x.v, x.n == 1, a.t⟩ :: b.own, a.c ++ b.c, b.fm⟩
end
def conM (p : Prog) : Mdl := let r := p.body.clo false [] 0 (fun _ => none); ⟨p.consts, r.c, r.t⟩
def noM : Mdl := ⟨[], [], noT⟩
def conv13 (p : Prog) : Mdl × Int := if checkP p 2 = 0 then (if mckP (conM p) = 0 then (conM p, 0) else (noM, 5)) else (noM, 5)
end Go.Cb
namespace Go.Cb
open Go.RowKit (Below)
set_option maxRecDepth 100000
set_option maxHeartbeats 4000000
section
variable {P : Program} {tt : Nat → TI}
def fltOf (tt : Nat → TI) : Op → Option (Nat → PV × Ent)
 | .alloc t => match (tt t).und with
  | .other => none
  | _ => some fun b => (.ptr b 0, .box b ((tt t).zero.map ZK.pv))
 | .makeMap t none => match (tt t).und with
  | .mp kt _ => match keyD (tt kt).und with
   | some d => some fun r => (.mp r, .mp r d (fun _ => none) [])
   | none => none
  | _ => none
 | _ => none
theorem fltOf_iff {op : Op} {f : Nat → PV × Ent} (h : fltOf tt op = some f) {T : List PV} {Γ : List Ent} {K : PV → List Ent → Prop} : WOp P tt op T Γ K ↔ ∀ b, K (f b).1 ((f b).2 :: Γ) := by
 unfold fltOf at h
 split at h
 ·split at h
  ·cases h
  ·rename_i hne
   cases h
   simp only [WOp, zerosK_eq]
 ·split at h
  ·rename_i hu
   split at h
   ·rename_i hd
    cases h
    simp only [WOp, hu, hd]
   ·cases h
  ·cases h
 ·cases h
theorem fltOf_noDef {op : Op} {f : Nat → PV × Ent} (h : fltOf tt op = some f) : noDef op = true := by
 cases op <;> first | rfl | cases h
def fDst (ops : Array Oper) (i : Nat) : Option Tmp := (ops[i]?).bind (·.dst)
abbrev FE := Nat → Option (PV × Ent)
def putE (ops : Array Oper) (e : FE) : List Nat → List PV → List PV
 | [], T => T
 | i :: l, T => putE ops e l (match e i with
  | some x => putT T (fDst ops i) x.1
  | none => T)
theorem fm_congr {β : Type} {f g : Nat → Option β} : ∀ {l : List Nat}, (∀ x ∈ l, f x = g x) → l.filterMap f = l.filterMap g
 | [], _ => rfl
 | x :: l, h => by
  rw [List.forall_mem_cons] at h
  rw [List.filterMap_cons, List.filterMap_cons, h.1, fm_congr h.2]
theorem beq_ne {i j : Nat} (h : j ≠ i) : Nat.beq j i = false := by
 cases hb : Nat.beq j i
 ·rfl
 ·exact (h (Nat.eq_of_beq_eq_true hb)).elim
def entE (e : FE) (l : List Nat) : List Ent := l.filterMap fun i => (e i).map (·.2)
def updE (e : FE) (i : Nat) (x : PV × Ent) : FE := fun j => if j = i then some x else e j
def pendE (e : FE) (l : List Nat) : List Nat := l.filter fun i => (e i).isNone
theorem entE_none {e : FE} {l : List Nat} (h : ∀ i ∈ l, e i = none) : entE e l = [] := by
 unfold entE
 rw [List.filterMap_eq_nil_iff]
 intro i hi
 rw [h i hi]; rfl
theorem putE_none {ops : Array Oper} {e : FE} : ∀ {l : List Nat} {T : List PV}, (∀ i ∈ l, e i = none) → putE ops e l T = T
 | [], _, _ => rfl
 | i :: l, T, h => by
  rw [List.forall_mem_cons] at h
  rw [putE, h.1]
  exact putE_none h.2
theorem updE_ne {e : FE} {i j : Nat} {x : PV × Ent} (h : j ≠ i) : updE e i x j = e j := by simp [updE, h]
theorem updE_self {e : FE} {i : Nat} {x : PV × Ent} : updE e i x i = some x := by simp [updE]
theorem entE_upd {e : FE} {i : Nat} {x : PV × Ent} (he : e i = none) : ∀ {l : List Nat}, i ∈ l → l.Nodup → (entE (updE e i x) l).Perm (x.2 :: entE e l)
 | [], h, _ => by cases h
 | j :: l, h, hn => by
  rw [List.nodup_cons] at hn
  rcases List.mem_cons.1 h with rfl | h
  ·have h1 : entE (updE e i x) l = entE e l := by
    unfold entE
    refine fm_congr fun j hj => ?_
    rw [updE_ne (j := j) (i := i) fun e => hn.1 (e ▸ hj)]
   unfold entE at h1 ⊢
   rw [List.filterMap_cons, List.filterMap_cons, updE_self, he, h1]
   exact List.Perm.refl _
  ·have hne : j ≠ i := fun e => hn.1 (e ▸ h)
   have ih := entE_upd (x := x) he h hn.2
   unfold entE at ih ⊢
   rw [List.filterMap_cons, List.filterMap_cons, updE_ne hne]
   cases hj : e j with
   | none => simpa using ih
   | some y =>
    simp only [Option.map_some]
    exact (ih.cons _).trans (List.Perm.swap _ _ _)
theorem putE_put {ops : Array Oper} {e : FE} {d : Option Tmp} {v : PV} : ∀ {l : List Nat} {T : List PV}, (∀ i ∈ l, ∀ k, d = some k → fDst ops i ≠ some k) → putE ops e l (putT T d v) = putT (putE ops e l T) d v
 | [], _, _ => rfl
 | i :: l, T, h => by
  rw [List.forall_mem_cons] at h
  rw [putE, putE]
  cases he : e i with
  | none => exact putE_put h.2
  | some x =>
   simp only
   rw [putT_comm T h.1]
   exact putE_put h.2
theorem putE_congr {ops : Array Oper} {e e' : FE} : ∀ {l : List Nat} {T : List PV}, (∀ i ∈ l, e i = e' i) → putE ops e l T = putE ops e' l T
 | [], _, _ => rfl
 | i :: l, T, h => by
  rw [List.forall_mem_cons] at h
  rw [putE, putE, h.1]
  exact putE_congr h.2
theorem putE_upd {ops : Array Oper} {e : FE} {i : Nat} {x : PV × Ent} (he : e i = none) : ∀ {l : List Nat} {T : List PV}, i ∈ l → l.Nodup → (∀ j ∈ l, j ≠ i → ∀ k, fDst ops i = some k → fDst ops j ≠ some k) →
  putE ops (updE e i x) l T = putT (putE ops e l T) (fDst ops i) x.1
 | [], _, h, _, _ => by cases h
 | j :: l, T, h, hn, hd => by
  rw [List.nodup_cons] at hn
  rw [List.forall_mem_cons] at hd
  rcases List.mem_cons.1 h with rfl | h
  ·rw [putE, putE, updE_self, he]
   simp only
   rw [putE_congr (e := updE e i x) (e' := e) fun j hj => updE_ne fun e => hn.1 (e ▸ hj)]
   exact putE_put fun j hj => hd.2 j hj fun e => hn.1 (e ▸ hj)
  ·have hne : j ≠ i := fun e => hn.1 (e ▸ h)
   rw [putE, putE, updE_ne hne]
   exact putE_upd he h hn.2 hd.2
theorem pendE_upd {e : FE} {i : Nat} {x : PV × Ent} {l l1 l2 : List Nat} (hn : l.Nodup) (h : pendE e l = l1 ++ i :: l2) : pendE (updE e i x) l = l1 ++ l2 := by
 have h1 : pendE (updE e i x) l = (pendE e l).filter fun j => !(Nat.beq j i) := by
  unfold pendE
  rw [List.filter_filter]
  refine List.filter_congr fun j _ => ?_
  by_cases hj : j = i
  ·subst hj; rw [updE_self]; simp
  ·rw [updE_ne hj]
   simp [beq_ne hj]
 have hn2 : (l1 ++ i :: l2).Nodup := h ▸ hn.sublist List.filter_sublist
 rw [h1, h, List.filter_append, List.filter_cons]
 have hni := (List.perm_middle (a := i) (l₁ := l1) (l₂ := l2)).nodup_iff.1 hn2
 rw [List.nodup_cons, List.mem_append, not_or] at hni
 have hf : ∀ m : List Nat, i ∉ m → m.filter (fun j => !(Nat.beq j i)) = m := fun m hm => List.filter_eq_self.2 fun j hj => by
  rw [beq_ne (j := j) (i := i) fun e => hm (e ▸ hj)]; rfl
 rw [hf l1 hni.1.1, hf l2 hni.1.2]
 simp
theorem mem_pendE {e : FE} {l : List Nat} {i : Nat} : i ∈ pendE e l ↔ i ∈ l ∧ e i = none := by
 unfold pendE
 rw [List.mem_filter, Option.isNone_iff_eq_none]
theorem ev_putE {ops : Array Oper} {e : FE} {o : Oper} : ∀ {l : List Nat} {T : List PV}, (∀ i ∈ l, ∀ k, fDst ops i = some k → k ∉ o.looksAt ops) → ∀ y ∈ o.op.operands.toList, ev (putE ops e l T) y = ev T y
 | [], _, _ => fun _ _ => rfl
 | i :: l, T, h => fun y hy => by
  rw [List.forall_mem_cons] at h
  rw [putE, ev_putE h.2 y hy]
  cases e i with
  | none => rfl
  | some x => exact looks_operands h.1 y hy
theorem SVal_putE {ops : Array Oper} {e : FE} {o : Oper} {Γ : List Ent} {v : PV} : ∀ {l : List Nat} {T : List PV}, (∀ i ∈ l, ∀ k, fDst ops i = some k → k ∉ o.looksAt ops) → (SVal P tt ops.toList o (putE ops e l T) Γ v ↔ SVal P tt ops.toList o T Γ v)
 | [], _, _ => Iff.rfl
 | i :: l, T, h => by
  rw [List.forall_mem_cons] at h
  rw [putE, SVal_putE h.2]
  cases e i with
  | none => exact Iff.rfl
  | some x => exact SVal_put h.1
def EOk (tt : Nat → TI) (ops : Array Oper) (e : FE) (l : List Nat) : Prop := ∀ i ∈ l, e i = none ∨ ∃ o f b, ops[i]? = some o ∧ fltOf tt o.op = some f ∧ e i = some (f b)
structure Flts (tt : Nat → TI) (ops : Array Oper) (l : List Nat) : Prop where
 fl : ∀ i ∈ l, ∃ o f, ops[i]? = some o ∧ o.guard = none ∧ fltOf tt o.op = some f
 ff : l.Pairwise fun j i => apartAt ops j i = true
 nd : l.Nodup
theorem apart_dst {ops : Array Oper} {j i : Nat} (h : apartAt ops j i = true) : ∀ k, fDst ops i = some k → fDst ops j ≠ some k := by
 intro k hk hj
 unfold apartAt at h
 unfold fDst at hk hj
 cases hx : ops[j]? with
 | none => rw [hx] at hj; cases hj
 | some x =>
  cases hy : ops[i]? with
  | none => rw [hy] at hk; cases hk
  | some y =>
   rw [hx, hy] at h
   rw [hx] at hj
   rw [hy] at hk
   obtain ⟨a1, a2, a3⟩ := Oper.apart_spec h
   simp only [Option.bind_some] at hk hj
   exact a2 k hj hk
theorem Flts.dst {ops : Array Oper} {l : List Nat} (h : Flts tt ops l) : ∀ i ∈ l, ∀ j ∈ l, j ≠ i → ∀ k, fDst ops i = some k → fDst ops j ≠ some k := by
 intro i hi j hj hne k hk hjk
 have key : ∀ {l : List Nat}, l.Pairwise (fun j i => apartAt ops j i = true) → i ∈ l → j ∈ l → apartAt ops i j = true ∨ apartAt ops j i = true := by
  intro l hp hi hj
  induction l with
  | nil => cases hi
  | cons x l ih =>
   rw [List.pairwise_cons] at hp
   rcases List.mem_cons.1 hi with e1 | h1
   ·rcases List.mem_cons.1 hj with e2 | h2
    ·exact (hne (e2.trans e1.symm)).elim
    ·subst e1; exact .inl (hp.1 j h2)
   ·rcases List.mem_cons.1 hj with e2 | h2
    ·subst e2; exact .inr (hp.1 i h1)
    ·exact ih hp.2 h1 h2
 rcases key h.ff hi hj with h | h
 ·exact apart_dst h k hjk hk
 ·exact apart_dst h k hk hjk
theorem flt_step (hk : TT.ok P tt) {rd : Option Nat} {nn : Nat} {ops : Array Oper} {l : List Nat} (hF : Flts tt ops l) {e : FE} {i : Nat} {o : Oper} (hi : i ∈ l) (he : e i = none) (ho : ops[i]? = some o) (hE : EOk tt ops e l)
  {w0 : World} {F : Fz} {Γ M : List Ent} {w : World} {T : List PV} {a : Act} {next : Act → World → Prop} {Q : Exit → Act → World → Prop} (hS : Sim w0 F (Γ ++ (entE e l ++ M)) w) (hT : RepT F (putE ops e l T) a.tmps.toList)
  (hn : ∀ e' F' u w', EOk tt ops e' l → e' = updE e i ((e' i).getD (.any, .tok (nilTok 0 0))) → F.le F' → Sim w0 F' (Γ ++ (entE e' l ++ M)) w' → RepT F' (putE ops e' l T) (a.put o.dst u).tmps.toList → next (a.put o.dst u) w') :
  wpOpIn (Fen rd) nn P ops Q i next a w := by
 obtain ⟨o', f, ho', hg, hf⟩ := hF.fl i hi
 rw [ho] at ho'
 cases ho'
 unfold wpOpIn
 simp only [ho]
 rw [if_pos (by simp [Region.wanted, hg])]
 have hW : WOp P tt o.op (putE ops e l T) [] fun x Γ' => ∃ b, x = (f b).1 ∧ Γ' = [(f b).2] := (fltOf_iff hf).2 fun b => ⟨b, rfl, rfl⟩
 refine WOp_sound hk (Γ := []) (M := Γ ++ (entE e l ++ M)) hS hT hW ?_
 rintro F' x Γ' u w' hle hS' hx ⟨b, rfl, rfl⟩
 have hp := entE_upd (x := f b) he hi hF.nd
 have hd : fDst ops i = o.dst := by simp [fDst, ho]
 refine hn (updE e i (f b)) F' u w' ?_ (by rw [updE_self]; rfl) hle ?_ ?_
 ·intro j hj
  by_cases hji : j = i
  ·subst hji; rw [updE_self]; exact .inr ⟨o, f, b, ho, hf, rfl⟩
  ·rw [updE_ne hji]; exact hE j hj
 ·refine hS'.perm ?_
  have h1 : ((f b).2 :: (Γ ++ (entE e l ++ M))).Perm (Γ ++ ((f b).2 :: (entE e l ++ M))) := List.perm_middle.symm
  refine h1.trans ?_
  have h2 : ((f b).2 :: (entE e l ++ M)).Perm (entE (updE e i (f b)) l ++ M) := (hp.symm.append_right M)
  exact h2.append_left Γ
 ·rw [putE_upd he hi hF.nd (hF.dst i hi), hd]
  exact put_rep (RepT.mono hle _ _ hT) hx o.dst
theorem flts_done {ops : Array Oper} {e : FE} {K : List PV → List Ent → Ds → Prop} : ∀ (l : List Nat) (T : List PV) (Γ : List Ent), (∀ i ∈ l, ∃ o f b, ops[i]? = some o ∧ o.guard = none ∧ fltOf tt o.op = some f ∧ e i = some (f b)) →
  WOps P tt ops.toList (l.filterMap (ops[·]?)) T Γ [] K → ∃ Γ4, K (putE ops e l T) Γ4 [] ∧ Γ4.Perm (entE e l ++ Γ)
 | [], T, Γ, _, h => ⟨Γ, h, List.Perm.refl _⟩
 | i :: l, T, Γ, hl, h => by
  rw [List.forall_mem_cons] at hl
  obtain ⟨o, f, b, ho, hg, hf, he⟩ := hl.1
  rw [List.filterMap_cons, ho] at h
  simp only [WOps, hg, WOpD_noDef (fltOf_noDef hf), putK_T] at h
  have h2 := (fltOf_iff hf).1 h b
  obtain ⟨Γ4, h3, h4⟩ := flts_done l _ _ hl.2 h2
  refine ⟨Γ4, ?_, h4.trans ?_⟩
  ·rw [putE, he]
   have hd : fDst ops i = o.dst := by simp [fDst, ho]
   rw [hd]; exact h3
  ·unfold entE
   rw [List.filterMap_cons, he]
   exact List.perm_middle
theorem gameF (hk : TT.ok P tt) (rd : Option Nat) (nn : Nat) {ops : Array Oper} {tab Fl R2 : List Nat} (hF : Flts tt ops Fl) (hc : tabChk ops tab = true) {w0 : World} {M Γ2 : List Ent} {F0 : Fz} {ds : List Deferred} {Q' : Exit → Act → World → Prop}
  {Tl : List PV → List Ent → Prop} (hTl : ∀ (fuel : Nat) (listed : Array Bool) (T : List PV) (Γ : List Ent) (e : FE) (F : Fz) (a : Act) (w : World), (pendE e Fl).length + R2.length ≤ fuel → Down ops listed → Pend ops listed (pendE e Fl ++ R2) → EOk tt ops e Fl → F0.le F →
   Sim w0 F (Γ ++ (entE e Fl ++ M)) w → RepT F (putE ops e Fl T) a.tmps.toList → a.defers = ds → Tl T Γ → wpAnyIn (Fen rd) nn P .any ops Q' fuel listed a w) :
  ∀ (n : Nat) (A R1 : List Nat) (e : FE) (fuel : Nat) (listed : Array Bool) (T : List PV) (Γ1 : List Ent) (F : Fz) (a : Act) (w : World), A.length + R1.length + (pendE e Fl).length = n → n + R2.length ≤ fuel →
   Down ops listed → Pend ops listed (A ++ (R1 ++ (pendE e Fl ++ R2))) → Split0 ops tab A R1 R2 → (∀ j ∈ A ++ R1, ∀ i ∈ Fl, apartAt ops j i = true) → EOk tt ops e Fl → F0.le F → Sim w0 F (Γ1 ++ (Γ2 ++ (entE e Fl ++ M))) w → RepT F (putE ops e Fl T) a.tmps.toList → a.defers = ds →
   (SSeq P tt ops.toList (A.filterMap (ops[·]?)) T Γ2 fun T' => WOps P tt ops.toList (R1.filterMap (ops[·]?)) T' Γ1 [] fun T2 Γ1' _ => Tl T2 (Γ1' ++ Γ2)) →
   wpAnyIn (Fen rd) nn P .any ops Q' fuel listed a w := by
 intro n
 induction n with
 | zero =>
  intro A R1 e fuel listed T Γ1 F a w hn hf hd hp hsp hfx hE hle hS hT hds h
  obtain rfl : A = [] := List.eq_nil_of_length_eq_zero (by omega)
  obtain rfl : R1 = [] := List.eq_nil_of_length_eq_zero (by omega)
  exact hTl fuel listed T (Γ1 ++ Γ2) e F a w (by simp at hn; rw [hn]; simpa using hf) hd (by simpa using hp) hE hle (by simpa using hS) hT hds h
 | succ n ih =>
  intro A R1 e fuel listed T Γ1 F a w hn hf hd hp hsp hfx hE hle hS hT hds h
  by_cases hAR0 : A = [] ∧ R1 = []
  ·obtain ⟨rfl, rfl⟩ := hAR0
   exact hTl fuel listed T (Γ1 ++ Γ2) e F a w (by simp at hn; omega) hd (by simpa using hp) hE hle (by simpa using hS) hT hds h
  cases fuel with
  | zero => omega
  | succ fuel =>
  refine ⟨fun hnil => ?_, fun i hi => ?_⟩
  ·exfalso
   cases hAR : A ++ (R1 ++ (pendE e Fl ++ R2)) with
   | nil => simp at hAR; exact hAR0 ⟨hAR.1, hAR.2.1⟩
   | cons x xs =>
    rw [hAR] at hp
    obtain ⟨k, hk'⟩ := ready_exists hc hp
    rw [hnil] at hk'
    cases hk'
  ·obtain ⟨o, ho⟩ := hp.2.2 i (hp.ready hi)
   have un : ∀ {j : Nat}, j ∈ A ++ (R1 ++ (pendE e Fl ++ R2)) → anc tab i j = true → False := fun {j} hj ha => blocked hc hd i ho ha ((hp.2.1 j).2 hj) hi
   have free : ∀ {j : Nat} {x : Oper}, j ∈ A ++ (R1 ++ (pendE e Fl ++ R2)) → ops[j]? = some x → (anc tab i j = true ∨ apartAt ops j i = true) → x.apart ops o = true := by
    intro j x hj hx h
    rcases h with h | h
    ·exact (un hj h).elim
    ·simpa [apartAt, hx, ho] using h
   have looks : i ∈ A ++ R1 → ∀ f ∈ Fl, ∀ k, fDst ops f = some k → k ∉ o.looksAt ops := by
    intro hiA f hf k hk
    have := hfx i hiA f hf
    obtain ⟨of, _, hof, _, _⟩ := hF.fl f hf
    simp only [apartAt, ho, hof] at this
    obtain ⟨a1, a2, a3⟩ := Oper.apart_spec this
    exact a3 k (by simpa [fDst, hof] using hk)
   have dsts : i ∈ A ++ R1 → ∀ f ∈ Fl, ∀ k, o.dst = some k → fDst ops f ≠ some k := by
    intro hiA f hf k hk hfk
    exact apart_dst (hfx i hiA f hf) k hfk (by simp [fDst, ho, hk])
   have hmem := hp.ready hi
   rw [List.mem_append, List.mem_append, List.mem_append] at hmem
   rcases hmem with hm | hm | hm | hm
   ·
    obtain ⟨A1, A2, rfl⟩ := List.append_of_mem hm
    rw [filterMap_split ho] at h
    have hap : ∀ x ∈ A1.filterMap (ops[·]?), x.apart ops o = true := by
     intro x hx
     obtain ⟨j, hj, hx⟩ := List.mem_filterMap.1 hx
     exact free (by simp [hj]) hx ((List.pairwise_append.1 hsp.pa).2.2 j hj i (by simp))
    obtain ⟨v, h1, h2⟩ := SSeq_move _ T hap h
    have h1' := (SVal_putE (e := e) (looks (by simp))).2 h1
    have hS2 : Sim w0 F (Γ2 ++ (Γ1 ++ (entE e Fl ++ M))) w := hS.perm (by
     rw [← List.append_assoc, ← List.append_assoc Γ2]
     exact List.perm_append_comm.append_right _)
    unfold wpOpIn
    simp only [ho]
    have key := SVal_sound hk (rd := rd) (nn := nn) (Q := Q') (next := fun a w => wpAnyIn (Fen rd) nn P .any ops Q' fuel (listed.setIfInBounds i true) a w) hS2 hT h1' ?_
    ·split at key <;> rename_i hw
     ·rw [if_pos hw]; exact key
     ·rw [if_neg hw]; exact ⟨fun _ _ => trivial, key⟩
    intro F' u w' hle' hS' hx
    refine ih (A1 ++ A2) R1 e fuel _ (putT T o.dst v) Γ1 F' _ w' (by simp at hn ⊢; omega) (by omega) (hd.set hi) ?_ hsp.dropA (fun j hj => hfx j ?_) hE (Fz.le_trans hle hle') ?_ ?_
     ((put_defers a o.dst u).trans hds) ?_
    ·have := Pend.set (l1 := A1) (l2 := A2 ++ (R1 ++ (pendE e Fl ++ R2))) (i := i) (by simpa using hp)
     rwa [List.append_assoc]
    ·simp only [List.mem_append, List.mem_cons] at hj ⊢
     rcases hj with (h | h) | h
     ·exact .inl (.inl h)
     ·exact .inl (.inr (.inr h))
     ·exact .inr h
    ·exact hS'.perm (by
      rw [← List.append_assoc, ← List.append_assoc Γ1]
      exact List.perm_append_comm.append_right _)
    ·rw [putE_put (dsts (by simp))]
     exact put_rep (RepT.mono hle' _ _ hT) hx o.dst
    ·rw [List.filterMap_append]; exact h2
   ·
    cases R1 with
    | nil => cases hm
    | cons r R1 =>
     rcases List.mem_cons.1 hm with hir | hir
     ·subst hir
      have hg : o.guard = none := hsp.ug i (by simp) o ho
      have e1 : (i :: R1).filterMap (ops[·]?) = o :: R1.filterMap (ops[·]?) := by rw [List.filterMap_cons, ho]
      rw [e1] at h
      have hap : ∀ x ∈ A.filterMap (ops[·]?), x.apart ops o = true := by
       intro x hx
       obtain ⟨j, hj, hx⟩ := List.mem_filterMap.1 hx
       exact free (by simp [hj]) hx (hsp.par j hj i (by simp))
      have h2 := SSeq_eff (kk := fun T' Γ1' => WOps P tt ops.toList (R1.filterMap (ops[·]?)) T' Γ1' [] fun T2 Γ1' _ => Tl T2 (Γ1' ++ Γ2)) _ T hap (by
       have hnd := hsp.nd i (by simp) o ho
       simpa only [WOps, hg, WOpD_noDef hnd, putK_T] using h)
      have h3 := WOp_congr (T' := putE ops e Fl T) (fun y hy => (ev_putE (looks (by simp)) y hy).symm) h2
      unfold wpOpIn
      simp only [ho]
      rw [if_pos (by simp [Region.wanted, hg])]
      refine WOp_sound hk (M := Γ2 ++ (entE e Fl ++ M)) hS hT h3 ?_
      rintro F' x Γ' v' w' hle' hS' hx hK
      refine ih A R1 e fuel _ (putT T o.dst x) Γ' F' _ w' (by simp at hn ⊢; omega) (by omega) (hd.set hi) ?_ hsp.dropR (fun j hj => hfx j ?_) hE (Fz.le_trans hle hle') hS' ?_
       ((put_defers a o.dst v').trans hds) hK
      ·have := Pend.set (l1 := A) (l2 := R1 ++ (pendE e Fl ++ R2)) (i := i) (by simpa using hp)
       simpa using this
      ·simp only [List.mem_append, List.mem_cons] at hj ⊢
       rcases hj with h | h
       ·exact .inl h
       ·exact .inr (.inr h)
      ·rw [putE_put (dsts (by simp))]
       exact put_rep (RepT.mono hle' _ _ hT) hx o.dst
     ·exact (un (j := r) (by simp) ((List.pairwise_cons.1 hsp.r1).1 i hir)).elim
   ·
    obtain ⟨hiF, hie⟩ := mem_pendE.1 hm
    obtain ⟨l1, l2, hl⟩ := List.append_of_mem hm
    have hS2 : Sim w0 F ((Γ1 ++ Γ2) ++ (entE e Fl ++ M)) w := by simpa using hS
    refine flt_step hk hF hiF hie ho hE hS2 hT ?_
    intro e' F' u w' hE' he' hle' hS' hT'
    have hpe : pendE e' Fl = l1 ++ l2 := by rw [he']; exact pendE_upd hF.nd hl
    have hlen : (pendE e Fl).length = l1.length + l2.length + 1 := by rw [hl]; simp; omega
    refine ih A R1 e' fuel _ T Γ1 F' _ w' (by rw [hpe]; simp; omega) (by omega) (hd.set hi) ?_ hsp hfx hE' (Fz.le_trans hle hle') (by simpa using hS') hT' ((put_defers a o.dst u).trans hds) h
    rw [hpe]
    have := Pend.set (l1 := A ++ (R1 ++ l1)) (l2 := l2 ++ R2) (i := i) (by rw [hl] at hp; simpa using hp)
    simpa using this
   ·
    exfalso
    cases A with
    | cons j A => exact un (j := j) (by simp) (hsp.tl j (by simp) i hm)
    | nil =>
     cases R1 with
     | cons j R1 => exact un (j := j) (by simp) (hsp.tl j (by simp) i hm)
     | nil => exact hAR0 ⟨rfl, rfl⟩
theorem gameF2 (hk : TT.ok P tt) (rd : Option Nat) (nn : Nat) {ops : Array Oper} {tab Fl R2 : List Nat} (hF : Flts tt ops Fl) (hc : tabChk ops tab = true) (hr2 : R2.Pairwise fun j i => anc tab i j = true) (hfr : ∀ j ∈ Fl, ∀ i ∈ R2, anc tab i j = true)
  (hnd : ∀ i ∈ R2, ∀ o, ops[i]? = some o → noDef o.op = true) {w0 : World} {M : List Ent} {F0 : Fz} {ds : List Deferred} {Q' : Exit → Act → World → Prop}
  {K : List PV → List Ent → Prop} (hQ : ∀ F' T' Γ' a' w', F0.le F' → Sim w0 F' (Γ' ++ M) w' → RepT F' T' a'.tmps.toList → a'.defers = ds → K T' Γ' → Q' .normal a' w') :
  ∀ (n : Nat) (e : FE) (fuel : Nat) (listed : Array Bool) (T : List PV) (Γ : List Ent) (F : Fz) (a : Act) (w : World), (pendE e Fl).length = n → n + R2.length ≤ fuel →
   Down ops listed → Pend ops listed (pendE e Fl ++ R2) → EOk tt ops e Fl → F0.le F → Sim w0 F (Γ ++ (entE e Fl ++ M)) w → RepT F (putE ops e Fl T) a.tmps.toList → a.defers = ds →
   (WOps P tt ops.toList (Fl.filterMap (ops[·]?)) T Γ [] fun T4 Γ4 _ => WOps P tt ops.toList (R2.filterMap (ops[·]?)) T4 Γ4 [] fun T' Γ' _ => K T' Γ') →
   wpAnyIn (Fen rd) nn P .any ops Q' fuel listed a w := by
 intro n
 induction n with
 | zero =>
  intro e fuel listed T Γ F a w hn hf hd hp hE hle hS hT hds h
  have hnil : pendE e Fl = [] := List.eq_nil_of_length_eq_zero hn
  obtain ⟨Γ4, h4, hpm⟩ := flts_done (e := e) Fl T Γ (fun i hi => by
   rcases hE i hi with h0 | ⟨o, f, b, ho, hf, he⟩
   ·have : i ∈ pendE e Fl := mem_pendE.2 ⟨hi, h0⟩
    rw [hnil] at this; cases this
   ·obtain ⟨o', f', ho', hg, _⟩ := hF.fl i hi
    rw [ho] at ho'; cases ho'
    exact ⟨o, f, b, ho, hg, hf, he⟩) h
  have hS4 : Sim w0 F (Γ4 ++ M) w := hS.perm (by
   rw [← List.append_assoc]
   exact (List.perm_append_comm.trans hpm.symm).append_right M)
  refine wpAny_chain hc R2 fuel listed a w (by omega) hd (by simpa [hnil] using hp) hr2 (wpOps_filter (fun _ => trivial) ops _ _ a w ?_)
  refine WOps_sound hk rd nn ops (ds := ds) (K := fun T' Γ' D' => D' = [] ∧ K T' Γ') ?_ _ (.inr (quiet_of fun o ho => by
   obtain ⟨j, hj, ho⟩ := List.mem_filterMap.1 ho
   exact hnd j hj o ho)) _ Γ4 [] F a w hle hS4 hT (by rw [hds]; exact DRel.nil F ds) (WOps_keep _ _ _ _ _ ?_ h4)
  ·rintro F' T' Γ' D' a' w' k1 k2 k3 ⟨new, k4, k5⟩ ⟨rfl, k6⟩
   have : new = [] := by cases new with
    | nil => rfl
    | cons d l => exact k5.elim
   subst this
   exact hQ F' T' Γ' a' w' k1 k2 k3 k4 k6
  ·intro o ho
   obtain ⟨j, hj, ho⟩ := List.mem_filterMap.1 ho
   exact hnd j hj o ho
 | succ n ih =>
  intro e fuel listed T Γ F a w hn hf hd hp hE hle hS hT hds h
  cases fuel with
  | zero => omega
  | succ fuel =>
  have hpos : ∃ j, j ∈ pendE e Fl := by
   cases hpe : pendE e Fl with
   | nil => rw [hpe] at hn; cases hn
   | cons j l => exact ⟨j, by simp⟩
  obtain ⟨j0, hj0⟩ := hpos
  refine ⟨fun hnil => ?_, fun i hi => ?_⟩
  ·exfalso
   cases hAR : pendE e Fl ++ R2 with
   | nil => simp at hAR; rw [hAR.1] at hn; cases hn
   | cons x xs =>
    rw [hAR] at hp
    obtain ⟨k, hk'⟩ := ready_exists hc hp
    rw [hnil] at hk'
    cases hk'
  ·obtain ⟨o, ho⟩ := hp.2.2 i (hp.ready hi)
   rcases List.mem_append.1 (hp.ready hi) with hm | hm
   ·obtain ⟨hiF, hie⟩ := mem_pendE.1 hm
    obtain ⟨l1, l2, hl⟩ := List.append_of_mem hm
    refine flt_step hk hF hiF hie ho hE hS hT ?_
    intro e' F' u w' hE' he' hle' hS' hT'
    have hpe : pendE e' Fl = l1 ++ l2 := by rw [he']; exact pendE_upd hF.nd hl
    have hlen : (pendE e Fl).length = l1.length + l2.length + 1 := by rw [hl]; simp; omega
    refine ih e' fuel _ T Γ F' _ w' (by rw [hpe]; simp; omega) (by omega) (hd.set hi) ?_ hE' (Fz.le_trans hle hle') hS' hT' ((put_defers a o.dst u).trans hds) h
    rw [hpe]
    have := Pend.set (l1 := l1) (l2 := l2 ++ R2) (i := i) (by rw [hl] at hp; simpa using hp)
    simpa using this
   ·exact (blocked hc hd i ho (hfr j0 (mem_pendE.1 hj0).1 i hm) ((hp.2.1 j0).2 (by simp [hj0])) hi).elim
def splitFB (tt : Nat → TI) (ops : Array Oper) (tab A R1 B Fl R2 : List Nat) : Bool :=
 tabChk ops tab &&
 pairB (fun j i => anc tab i j || apartAt ops j i) A && A.all (fun j => R1.all fun i => anc tab i j || apartAt ops j i) &&
 pairB (fun j i => anc tab i j) R1 && (A ++ R1).all (fun j => (B ++ R2).all fun i => anc tab i j) &&
 R1.all (fun i => match ops[i]? with | some o => o.guard.isNone | none => false) && (R1 ++ R2).all (fun i => match ops[i]? with | some o => noDef o.op | none => false) &&
 pairB (fun j i => anc tab i j || apartAt ops j i) B && pairB (fun j i => anc tab i j) R2 && B.all (fun j => R2.all fun i => anc tab i j) &&
 Fl.all (fun i => match ops[i]? with | some o => o.guard.isNone && (fltOf tt o.op).isSome | none => false) && pairB (fun j i => apartAt ops j i) Fl && (A ++ (R1 ++ B)).all (fun j => Fl.all fun i => apartAt ops j i) && Fl.all (fun j => R2.all fun i => anc tab i j) &&
 pairB (fun j i => !(Nat.beq j i)) (A ++ (R1 ++ (B ++ (Fl ++ R2)))) && (List.range ops.size).all (fun i => (A ++ (R1 ++ (B ++ (Fl ++ R2)))).contains i) && (A ++ (R1 ++ (B ++ (Fl ++ R2)))).all (fun i => Nat.blt i ops.size)
theorem PDraw.splitF (hk : TT.ok P tt) (hm : P.follows .mixedOrders = true) {ops : Array Oper} {T : List PV} {Γ Γ2 : List Ent} {K : List PV → List Ent → Prop} (tab A R1 B Fl R2 : List Nat) (Γ1 : List Ent)
  (hchk : splitFB tt ops tab A R1 B Fl R2 = true) [hp : PickL Γ Γ1 Γ2]
  (h : SSeq P tt ops.toList (pickO ops.toList A) T Γ2 fun T' => WOps P tt ops.toList (pickO ops.toList R1) T' Γ1 [] fun T2 Γ1' _ => appE Γ1' Γ2 fun Γ' =>
   SSeq P tt ops.toList (pickO ops.toList B) T2 Γ' fun T3 => WOps P tt ops.toList (pickO ops.toList Fl) T3 Γ' [] fun T4 Γ4 _ => WOps P tt ops.toList (pickO ops.toList R2) T4 Γ4 [] fun T' Γ' _ => K T' Γ') : PDraw P ops T Γ K := by
 refine ⟨fun rd nn id w0 F M w a Q' hS hT hQ => wpIn_region_any hm ?_⟩
 simp only [splitFB, Bool.and_eq_true] at hchk
 obtain ⟨⟨⟨⟨⟨⟨⟨⟨⟨⟨⟨⟨⟨⟨⟨⟨h0, h1⟩, h2⟩, h3⟩, h5⟩, h6⟩, h6'⟩, b1⟩, b2⟩, b3⟩, f1⟩, f2⟩, f3⟩, f4⟩, h7⟩, h8⟩, h9⟩ := hchk
 have hlt : ∀ i ∈ A ++ (R1 ++ (B ++ (Fl ++ R2))), i < ops.size := fun i hi => by
  have := List.all_eq_true.1 h9 i hi
  simpa [Nat.blt, Nat.succ_le_iff] using this
 have hnd : ∀ i ∈ R1 ++ R2, ∀ o, ops[i]? = some o → noDef o.op = true := by
  intro i hi o ho
  have := List.all_eq_true.1 h6' i hi
  rw [ho] at this
  exact this
 have hnodup : (A ++ (R1 ++ (B ++ (Fl ++ R2)))).Nodup := (pairB_iff h7).imp fun h => by
  intro e
  subst e
  simp at h
 have hpend : Pend ops (Array.replicate ops.size false) (A ++ (R1 ++ (B ++ (Fl ++ R2)))) := by
  refine ⟨hnodup, ?_, fun i hi => ⟨_, Array.getElem?_eq_getElem (hlt i hi)⟩⟩
  intro i
  constructor
  ·intro hi
   rcases Nat.lt_or_ge i ops.size with h' | h'
   ·have := List.all_eq_true.1 h8 i (List.mem_range.2 h')
    simpa only [List.contains_iff_mem] using this
   ·simp [Array.getElem?_eq_none, h'] at hi
  ·intro hi
   simp [hlt i hi]
 have hF : Flts tt ops Fl := by
  refine ⟨fun i hi => ?_, pairB_iff f2, ?_⟩
  ·have := List.all_eq_true.1 f1 i hi
   cases ho : ops[i]? with
   | none => rw [ho] at this; cases this
   | some o =>
    rw [ho] at this
    simp only [Bool.and_eq_true, Option.isNone_iff_eq_none, Option.isSome_iff_exists] at this
    obtain ⟨g, f, hf⟩ := this
    exact ⟨o, f, rfl, g, hf⟩
  ·exact hnodup.sublist (((List.sublist_append_left Fl R2).trans (List.sublist_append_right B _)).trans ((List.sublist_append_right R1 _).trans (List.sublist_append_right A _)))
 have hs1 : Split0 ops tab A R1 (B ++ R2) := by
  refine ⟨(pairB_iff h1).imp fun h => by simpa using h, fun j hj i hi => ?_, pairB_iff h3, fun j hj i hi => ?_, fun i hi o ho => ?_, fun i hi => hnd i (by simp [hi])⟩
  ·have := List.all_eq_true.1 (List.all_eq_true.1 h2 j hj) i hi
   simpa using this
  ·exact List.all_eq_true.1 (List.all_eq_true.1 h5 j hj) i hi
  ·have := List.all_eq_true.1 h6 i hi
   rw [ho] at this
   simpa using this
 have hs2 : Split0 ops tab B [] R2 := by
  refine ⟨(pairB_iff b1).imp fun h => by simpa using h, fun _ _ _ h => (by cases h), List.Pairwise.nil, fun j hj i hi => ?_, fun _ h => (by cases h), fun _ h => (by cases h)⟩
  exact List.all_eq_true.1 (List.all_eq_true.1 b3 j (by simpa using hj)) i hi
 have hfx : ∀ j ∈ A ++ (R1 ++ B), ∀ i ∈ Fl, apartAt ops j i = true := fun j hj i hi => List.all_eq_true.1 (List.all_eq_true.1 f3 j hj) i hi
 have hfr : ∀ j ∈ Fl, ∀ i ∈ R2, anc tab i j = true := fun j hj i hi => List.all_eq_true.1 (List.all_eq_true.1 f4 j hj) i hi
 have hlen : A.length + R1.length + (B.length + (Fl.length + R2.length)) ≤ ops.size := by
  have hsub : (A ++ (R1 ++ (B ++ (Fl ++ R2)))) ⊆ List.range ops.size := fun i hi => List.mem_range.2 (hlt i hi)
  have := hpend.1.length_le_of_subset hsub
  simpa [Nat.add_assoc] using this
 have hS' : Sim w0 F (Γ1 ++ (Γ2 ++ M)) { w with drawn := w.drawn + 1 } := by
  have := (hS.perm (hp.p.append_right M)).of_heap (w' := { w with drawn := w.drawn + 1 }) rfl rfl rfl rfl
  simpa using this
 have e0 : ∀ i ∈ Fl, (fun _ => none : FE) i = none := fun _ _ => rfl
 have p0 : pendE (fun _ => none) Fl = Fl := List.filter_eq_self.2 fun _ _ => rfl
 refine gameF hk rd nn hF h0 (w0 := w0) (tab := tab) (R2 := B ++ R2) (Γ2 := Γ2) (M := M) (F0 := F) (ds := a.defers) (Tl := fun T2 Γ' => SSeq P tt ops.toList (pickO ops.toList B) T2 Γ' fun T3 => WOps P tt ops.toList (pickO ops.toList Fl) T3 Γ' [] fun T4 Γ4 _ => WOps P tt ops.toList (pickO ops.toList R2) T4 Γ4 [] fun T' Γ' _ => K T' Γ') ?_
  _ A R1 (fun _ => none) ops.size _ T Γ1 F a _ rfl ?_ ?_ ?_ hs1 (fun j hj i hi => hfx j (by simp only [List.mem_append] at hj ⊢; rcases hj with h | h; exact .inl h; exact .inr (.inl h)) i hi) (fun i hi => .inl rfl) (Fz.le_refl F) ?_ ?_ rfl ?_
 ·intro fuel listed T2 Γ' e F' a' w' hf hd hpd hE hle hS2 hT2 hds ht
  refine gameF hk rd nn hF h0 (w0 := w0) (tab := tab) (R2 := R2) (Γ2 := Γ') (M := M) (F0 := F) (ds := a.defers) (Tl := fun T3 Γ' => WOps P tt ops.toList (pickO ops.toList Fl) T3 Γ' [] fun T4 Γ4 _ => WOps P tt ops.toList (pickO ops.toList R2) T4 Γ4 [] fun T' Γ' _ => K T' Γ') ?_
   _ B [] e fuel listed T2 [] F' a' w' rfl (by simp at hf ⊢; omega) hd ?_ hs2 (fun j hj i hi => hfx j (by simp at hj ⊢; exact .inr (.inr hj)) i hi) hE hle (by simpa using hS2) hT2 hds ?_
  ·intro fuel3 listed3 T3 Γ3 e3 F3 a3 w3 hf3 hd3 hpd3 hE3 hle3 hS3 hT3 hds3 ht3
   refine gameF2 hk rd nn hF h0 (pairB_iff b2) hfr (fun i hi => hnd i (by simp [hi])) (F0 := F) (ds := a.defers) hQ _ e3 fuel3 listed3 T3 Γ3 F3 a3 w3 rfl hf3 hd3 hpd3 hE3 hle3 hS3 hT3 hds3 ?_
   simpa only [pickO_eq, Array.getElem?_toList] using ht3
  ·simp only [List.nil_append]
   refine ⟨?_, fun i => ?_, fun i hi => hpd.2.2 i ?_⟩
   ·have hperm : (pendE e Fl ++ (B ++ R2)).Perm (B ++ (pendE e Fl ++ R2)) := by
     rw [← List.append_assoc, ← List.append_assoc]
     exact List.perm_append_comm.append_right R2
    exact hperm.nodup_iff.1 hpd.1
   ·rw [hpd.2.1 i]
    simp only [List.mem_append]
    constructor
    ·rintro (h | h | h)
     ·exact .inr (.inl h)
     ·exact .inl h
     ·exact .inr (.inr h)
    ·rintro (h | h | h)
     ·exact .inr (.inl h)
     ·exact .inl h
     ·exact .inr (.inr h)
   ·simp only [List.mem_append] at hi ⊢
    rcases hi with h | h | h
    ·exact .inr (.inl h)
    ·exact .inl h
    ·exact .inr (.inr h)
  ·simpa only [pickO_eq, Array.getElem?_toList, List.filterMap_nil, WOps, List.nil_append] using ht
 ·rw [p0]; simp; omega
 ·intro k o hk'
  rcases Nat.lt_or_ge k ops.size with h' | h'
  ·simp [h'] at hk'
  ·intro ho
   have := (Array.getElem?_eq_some_iff.1 ho).1
   omega
 ·rw [p0]
  refine ⟨?_, fun i => ?_, fun i hi => hpend.2.2 i ?_⟩
  ·have hperm : (A ++ (R1 ++ (B ++ (Fl ++ R2)))).Perm (A ++ (R1 ++ (Fl ++ (B ++ R2)))) := by
    refine List.Perm.append_left A (List.Perm.append_left R1 ?_)
    rw [← List.append_assoc, ← List.append_assoc]
    exact List.perm_append_comm.append_right R2
   exact hperm.nodup_iff.1 hpend.1
  ·rw [hpend.2.1 i]
   simp only [List.mem_append]
   constructor
   ·rintro (h | h | h | h | h)
    ·exact .inl h
    ·exact .inr (.inl h)
    ·exact .inr (.inr (.inr (.inl h)))
    ·exact .inr (.inr (.inl h))
    ·exact .inr (.inr (.inr (.inr h)))
   ·rintro (h | h | h | h | h)
    ·exact .inl h
    ·exact .inr (.inl h)
    ·exact .inr (.inr (.inr (.inl h)))
    ·exact .inr (.inr (.inl h))
    ·exact .inr (.inr (.inr (.inr h)))
  ·simp only [List.mem_append] at hi ⊢
   rcases hi with h | h | h | h | h
   ·exact .inl h
   ·exact .inr (.inl h)
   ·exact .inr (.inr (.inr (.inl h)))
   ·exact .inr (.inr (.inl h))
   ·exact .inr (.inr (.inr (.inr h)))
 ·rw [entE_none e0]; simpa using hS'
 ·rw [putE_none e0]; exact hT
 ·simpa only [pickO_eq, Array.getElem?_toList, appE_eq] using h
def entR (e : FE) : List Nat → List Ent → List Ent
 | [], Γ => Γ
 | i :: l, Γ => entR e l (match e i with
  | some x => x.2 :: Γ
  | none => Γ)
theorem entR_perm (e : FE) : ∀ (l : List Nat) (Γ : List Ent), (entR e l Γ).Perm (entE e l ++ Γ)
 | [], _ => List.Perm.refl _
 | i :: l, Γ => by
  rw [entR]
  refine (entR_perm e l _).trans ?_
  unfold entE
  rw [List.filterMap_cons]
  cases e i with
  | none => exact List.Perm.refl _
  | some x => exact List.perm_middle
theorem flts_run {ops : Array Oper} {e : FE} {K : List PV → List Ent → Ds → Prop} : ∀ (l : List Nat) (T : List PV) (Γ : List Ent), (∀ i ∈ l, ∃ o f b, ops[i]? = some o ∧ o.guard = none ∧ fltOf tt o.op = some f ∧ e i = some (f b)) →
  WOps P tt ops.toList (l.filterMap (ops[·]?)) T Γ [] K → K (putE ops e l T) (entR e l Γ) []
 | [], T, Γ, _, h => h
 | i :: l, T, Γ, hl, h => by
  rw [List.forall_mem_cons] at hl
  obtain ⟨o, f, b, ho, hg, hf, he⟩ := hl.1
  rw [List.filterMap_cons, ho] at h
  simp only [WOps, hg, WOpD_noDef (fltOf_noDef hf), putK_T] at h
  have h3 := flts_run l _ _ hl.2 ((fltOf_iff hf).1 h b)
  have hd : fDst ops i = o.dst := by simp [fDst, ho]
  rw [putE, entR, he, hd]
  exact h3
theorem SSeq_putE {ops : Array Oper} {e : FE} {Fl : List Nat} {Γ : List Ent} {k : List PV → Prop} : ∀ (l : List Nat) (T : List PV), (∀ j ∈ l, ∀ i ∈ Fl, apartAt ops j i = true) → Flts tt ops Fl →
  SSeq P tt ops.toList (l.filterMap (ops[·]?)) T Γ (fun T' => k (putE ops e Fl T')) → SSeq P tt ops.toList (l.filterMap (ops[·]?)) (putE ops e Fl T) Γ k
 | [], T, _, _, h => h
 | j :: l, T, ha, hF, h => by
  rw [List.forall_mem_cons] at ha
  cases ho : ops[j]? with
  | none => rw [List.filterMap_cons, ho] at h ⊢; exact SSeq_putE l T ha.2 hF h
  | some o =>
   rw [List.filterMap_cons, ho] at h ⊢
   obtain ⟨v, h1, h2⟩ := SSeq_cons.1 h
   have looks : ∀ f ∈ Fl, ∀ k, fDst ops f = some k → k ∉ o.looksAt ops := by
    intro f hf k hk
    have := ha.1 f hf
    obtain ⟨of, _, hof, _, _⟩ := hF.fl f hf
    simp only [apartAt, ho, hof] at this
    exact (Oper.apart_spec this).2.2 k (by simpa [fDst, hof] using hk)
   refine SSeq_cons.2 ⟨v, (SVal_putE looks).2 h1, ?_⟩
   have := SSeq_putE l _ ha.2 hF h2
   rwa [putE_put (fun f hf k hk hfk => apart_dst (ha.1 f hf) k hfk (by simp [fDst, ho, hk]))] at this
theorem gameG (hk : TT.ok P tt) (rd : Option Nat) (nn : Nat) {ops : Array Oper} {tab Fl R1 R2 : List Nat} (hF : Flts tt ops Fl) (hc : tabChk ops tab = true) (hfr : ∀ j ∈ Fl, ∀ i ∈ R1 ++ R2, anc tab i j = true) {w0 : World} {M Γ1 Γ2 : List Ent} {F0 : Fz} {ds : List Deferred} {Q' : Exit → Act → World → Prop}
  {K : List PV → List Ent → Prop} (hQ : ∀ F' T' Γ' a' w', F0.le F' → Sim w0 F' (Γ' ++ M) w' → RepT F' T' a'.tmps.toList → a'.defers = ds → K T' Γ' → Q' .normal a' w') :
  ∀ (n : Nat) (A : List Nat) (e : FE) (fuel : Nat) (listed : Array Bool) (T : List PV) (F : Fz) (a : Act) (w : World), A.length + (pendE e Fl).length = n → n + (R1.length + R2.length) ≤ fuel →
   Down ops listed → Pend ops listed (A ++ (pendE e Fl ++ (R1 ++ R2))) → Split ops tab A R1 R2 → (∀ j ∈ A, ∀ i ∈ Fl, apartAt ops j i = true) → EOk tt ops e Fl → F0.le F → Sim w0 F ((Γ1 ++ Γ2) ++ (entE e Fl ++ M)) w → RepT F (putE ops e Fl T) a.tmps.toList → a.defers = ds →
   (SSeq P tt ops.toList (A.filterMap (ops[·]?)) T Γ2 fun T' => WOps P tt ops.toList (Fl.filterMap (ops[·]?)) T' Γ1 [] fun T1 Γ1' _ => WOps P tt ops.toList (R1.filterMap (ops[·]?)) T1 Γ1' [] fun T2 Γ1' _ => WOps P tt ops.toList (R2.filterMap (ops[·]?)) T2 (Γ1' ++ Γ2) [] fun T' Γ' _ => K T' Γ') →
   wpAnyIn (Fen rd) nn P .any ops Q' fuel listed a w := by
 have done : ∀ (A : List Nat) (e : FE) (fuel : Nat) (listed : Array Bool) (T : List PV) (F : Fz) (a : Act) (w : World), pendE e Fl = [] → A.length + (R1.length + R2.length) ≤ fuel →
   Down ops listed → Pend ops listed (A ++ (pendE e Fl ++ (R1 ++ R2))) → Split ops tab A R1 R2 → (∀ j ∈ A, ∀ i ∈ Fl, apartAt ops j i = true) → EOk tt ops e Fl → F0.le F → Sim w0 F ((Γ1 ++ Γ2) ++ (entE e Fl ++ M)) w → RepT F (putE ops e Fl T) a.tmps.toList → a.defers = ds →
   (SSeq P tt ops.toList (A.filterMap (ops[·]?)) T Γ2 fun T' => WOps P tt ops.toList (Fl.filterMap (ops[·]?)) T' Γ1 [] fun T1 Γ1' _ => WOps P tt ops.toList (R1.filterMap (ops[·]?)) T1 Γ1' [] fun T2 Γ1' _ => WOps P tt ops.toList (R2.filterMap (ops[·]?)) T2 (Γ1' ++ Γ2) [] fun T' Γ' _ => K T' Γ') →
   wpAnyIn (Fen rd) nn P .any ops Q' fuel listed a w := by
  intro A e fuel listed T F a w hnil hf hd hp hsp hfx hE hle hS hT hds h
  have hall : ∀ i ∈ Fl, ∃ o f b, ops[i]? = some o ∧ o.guard = none ∧ fltOf tt o.op = some f ∧ e i = some (f b) := fun i hi => by
   rcases hE i hi with h0 | ⟨o, f, b, ho, hf, he⟩
   ·have : i ∈ pendE e Fl := mem_pendE.2 ⟨hi, h0⟩
    rw [hnil] at this; cases this
   ·obtain ⟨o', f', ho', hg, _⟩ := hF.fl i hi
    rw [ho] at ho'; cases ho'
    exact ⟨o, f, b, ho, hg, hf, he⟩
  have h2 := SSeq_putE (e := e) (k := fun T1 => WOps P tt ops.toList (R1.filterMap (ops[·]?)) T1 (entR e Fl Γ1) [] fun T2 Γ1' _ => WOps P tt ops.toList (R2.filterMap (ops[·]?)) T2 (Γ1' ++ Γ2) [] fun T' Γ' _ => K T' Γ') A T hfx hF (by
   have mono : ∀ (l : List Oper) (T : List PV) (k k' : List PV → Prop), (∀ T, k T → k' T) → SSeq P tt ops.toList l T Γ2 k → SSeq P tt ops.toList l T Γ2 k' := by
    intro l
    induction l with
    | nil => intro T k k' hk h; exact hk T h
    | cons o l ih => intro T k k' hk h; obtain ⟨v, h1, h2⟩ := SSeq_cons.1 h; exact SSeq_cons.2 ⟨v, h1, ih _ _ _ hk h2⟩
   exact mono _ _ _ _ (fun T' h => flts_run Fl T' Γ1 hall h) h)
  refine game hk rd nn hc (R2 := R2) (Γ2 := Γ2) (F0 := F0) (ds := ds) hQ _ A R1 fuel listed _ (entR e Fl Γ1) F a w rfl (by omega) hd (by simpa [hnil] using hp) hsp hle (hS.perm ?_) hT hds h2
  have h3 := (entR_perm e Fl Γ1).symm.append_right (Γ2 ++ M)
  refine List.Perm.trans ?_ h3
  have h4 : (Γ1 ++ Γ2 ++ (entE e Fl ++ M)).Perm (entE e Fl ++ (Γ1 ++ Γ2 ++ M)) := by
   rw [← List.append_assoc (Γ1 ++ Γ2), ← List.append_assoc (entE e Fl)]
   exact List.perm_append_comm.append_right M
  simpa using h4
 intro n
 induction n with
 | zero =>
  intro A e fuel listed T F a w hn hf hd hp hsp hfx hE hle hS hT hds h
  exact done A e fuel listed T F a w (List.eq_nil_of_length_eq_zero (by omega)) (by omega) hd hp hsp hfx hE hle hS hT hds h
 | succ n ih =>
  intro A e fuel listed T F a w hn hf hd hp hsp hfx hE hle hS hT hds h
  by_cases hnil : pendE e Fl = []
  ·exact done A e fuel listed T F a w hnil (by rw [hnil] at hn; simp at hn; omega) hd hp hsp hfx hE hle hS hT hds h
  obtain ⟨j0, hj0⟩ : ∃ j, j ∈ pendE e Fl := List.exists_mem_of_ne_nil _ hnil
  cases fuel with
  | zero => omega
  | succ fuel =>
  refine ⟨fun hnil => ?_, fun i hi => ?_⟩
  ·exfalso
   cases hAR : A ++ (pendE e Fl ++ (R1 ++ R2)) with
   | nil => simp at hAR; rw [hAR.2.1] at hj0; cases hj0
   | cons x xs =>
    rw [hAR] at hp
    obtain ⟨k, hk'⟩ := ready_exists hc hp
    rw [hnil] at hk'
    cases hk'
  ·obtain ⟨o, ho⟩ := hp.2.2 i (hp.ready hi)
   have un : ∀ {j : Nat}, j ∈ A ++ (pendE e Fl ++ (R1 ++ R2)) → anc tab i j = true → False := fun {j} hj ha => blocked hc hd i ho ha ((hp.2.1 j).2 hj) hi
   have free : ∀ {j : Nat} {x : Oper}, j ∈ A ++ (pendE e Fl ++ (R1 ++ R2)) → ops[j]? = some x → (anc tab i j = true ∨ apartAt ops j i = true) → x.apart ops o = true := by
    intro j x hj hx h
    rcases h with h | h
    ·exact (un hj h).elim
    ·simpa [apartAt, hx, ho] using h
   have hmem := hp.ready hi
   rw [List.mem_append, List.mem_append] at hmem
   rcases hmem with hm | hm | hm
   ·
    have looks : ∀ f ∈ Fl, ∀ k, fDst ops f = some k → k ∉ o.looksAt ops := by
     intro f hf k hk
     have := hfx i hm f hf
     obtain ⟨of, _, hof, _, _⟩ := hF.fl f hf
     simp only [apartAt, ho, hof] at this
     exact (Oper.apart_spec this).2.2 k (by simpa [fDst, hof] using hk)
    have dsts : ∀ f ∈ Fl, ∀ k, o.dst = some k → fDst ops f ≠ some k := fun f hf k hk hfk => apart_dst (hfx i hm f hf) k hfk (by simp [fDst, ho, hk])
    obtain ⟨A1, A2, rfl⟩ := List.append_of_mem hm
    rw [filterMap_split ho] at h
    have hap : ∀ x ∈ A1.filterMap (ops[·]?), x.apart ops o = true := by
     intro x hx
     obtain ⟨j, hj, hx⟩ := List.mem_filterMap.1 hx
     exact free (by simp [hj]) hx ((List.pairwise_append.1 hsp.pa).2.2 j hj i (by simp))
    obtain ⟨v, h1, h2⟩ := SSeq_move _ T hap h
    have h1' := (SVal_putE (e := e) looks).2 h1
    have hS2 : Sim w0 F (Γ2 ++ (Γ1 ++ (entE e Fl ++ M))) w := hS.perm (by
     rw [← List.append_assoc Γ2]
     exact List.perm_append_comm.append_right _)
    unfold wpOpIn
    simp only [ho]
    have key := SVal_sound hk (rd := rd) (nn := nn) (Q := Q') (next := fun a w => wpAnyIn (Fen rd) nn P .any ops Q' fuel (listed.setIfInBounds i true) a w) hS2 hT h1' ?_
    ·split at key <;> rename_i hw
     ·rw [if_pos hw]; exact key
     ·rw [if_neg hw]; exact ⟨fun _ _ => trivial, key⟩
    intro F' u w' hle' hS' hx
    refine ih (A1 ++ A2) e fuel _ (putT T o.dst v) F' _ w' (by simp at hn ⊢; omega) (by omega) (hd.set hi) ?_ hsp.dropA (fun j hj => hfx j ?_) hE (Fz.le_trans hle hle') ?_ ?_
     ((put_defers a o.dst u).trans hds) ?_
    ·have := Pend.set (l1 := A1) (l2 := A2 ++ (pendE e Fl ++ (R1 ++ R2))) (i := i) (by simpa using hp)
     rwa [List.append_assoc]
    ·simp only [List.mem_append, List.mem_cons] at hj ⊢
     rcases hj with h | h
     ·exact .inl h
     ·exact .inr (.inr h)
    ·exact hS'.perm (by
      rw [← List.append_assoc Γ2]
      exact List.perm_append_comm.append_right _)
    ·rw [putE_put dsts]
     exact put_rep (RepT.mono hle' _ _ hT) hx o.dst
    ·rw [List.filterMap_append]; exact h2
   ·
    obtain ⟨hiF, hie⟩ := mem_pendE.1 hm
    obtain ⟨l1, l2, hl⟩ := List.append_of_mem hm
    refine flt_step hk hF hiF hie ho hE hS hT ?_
    intro e' F' u w' hE' he' hle' hS' hT'
    have hpe : pendE e' Fl = l1 ++ l2 := by rw [he']; exact pendE_upd hF.nd hl
    have hlen : (pendE e Fl).length = l1.length + l2.length + 1 := by rw [hl]; simp; omega
    refine ih A e' fuel _ T F' _ w' (by rw [hpe]; simp; omega) (by omega) (hd.set hi) ?_ hsp hfx hE' (Fz.le_trans hle hle') hS' hT' ((put_defers a o.dst u).trans hds) h
    rw [hpe]
    have := Pend.set (l1 := A ++ l1) (l2 := l2 ++ (R1 ++ R2)) (i := i) (by rw [hl] at hp; simpa using hp)
    simpa using this
   ·exact (un (j := j0) (by simp [hj0]) (hfr j0 (mem_pendE.1 hj0).1 i (by simpa using hm))).elim
def splitGB (tt : Nat → TI) (ops : Array Oper) (tab A Fl R1 R2 : List Nat) : Bool :=
 tabChk ops tab &&
 pairB (fun j i => anc tab i j || apartAt ops j i) A && A.all (fun j => R1.all fun i => anc tab i j || apartAt ops j i) &&
 pairB (fun j i => anc tab i j) R1 && pairB (fun j i => anc tab i j) R2 &&
 (A ++ R1).all (fun j => R2.all fun i => anc tab i j) &&
 R1.all (fun i => match ops[i]? with | some o => o.guard.isNone | none => false) && (R1 ++ R2).all (fun i => match ops[i]? with | some o => noDef o.op | none => false) &&
 Fl.all (fun i => match ops[i]? with | some o => o.guard.isNone && (fltOf tt o.op).isSome | none => false) && pairB (fun j i => apartAt ops j i) Fl && A.all (fun j => Fl.all fun i => apartAt ops j i) && Fl.all (fun j => (R1 ++ R2).all fun i => anc tab i j) &&
 pairB (fun j i => !(Nat.beq j i)) (A ++ (Fl ++ (R1 ++ R2))) && (List.range ops.size).all (fun i => (A ++ (Fl ++ (R1 ++ R2))).contains i) && (A ++ (Fl ++ (R1 ++ R2))).all (fun i => Nat.blt i ops.size)
theorem PDraw.splitG (hk : TT.ok P tt) (hm : P.follows .mixedOrders = true) {ops : Array Oper} {T : List PV} {Γ Γ2 : List Ent} {K : List PV → List Ent → Prop} (tab A Fl R1 R2 : List Nat) (Γ1 : List Ent)
  (hchk : splitGB tt ops tab A Fl R1 R2 = true) [hp : PickL Γ Γ1 Γ2]
  (h : SSeq P tt ops.toList (pickO ops.toList A) T Γ2 fun T' => WOps P tt ops.toList (pickO ops.toList Fl) T' Γ1 [] fun T1 Γ1' _ => WOps P tt ops.toList (pickO ops.toList R1) T1 Γ1' [] fun T2 Γ1' _ => appE Γ1' Γ2 fun Γ' => WOps P tt ops.toList (pickO ops.toList R2) T2 Γ' [] fun T' Γ' _ => K T' Γ') : PDraw P ops T Γ K := by
 refine ⟨fun rd nn id w0 F M w a Q' hS hT hQ => wpIn_region_any hm ?_⟩
 simp only [splitGB, Bool.and_eq_true] at hchk
 obtain ⟨⟨⟨⟨⟨⟨⟨⟨⟨⟨⟨⟨⟨⟨h0, h1⟩, h2⟩, h3⟩, h4⟩, h5⟩, h6⟩, h6'⟩, f1⟩, f2⟩, f3⟩, f4⟩, h7⟩, h8⟩, h9⟩ := hchk
 have hlt : ∀ i ∈ A ++ (Fl ++ (R1 ++ R2)), i < ops.size := fun i hi => by
  have := List.all_eq_true.1 h9 i hi
  simpa [Nat.blt, Nat.succ_le_iff] using this
 have hnodup : (A ++ (Fl ++ (R1 ++ R2))).Nodup := (pairB_iff h7).imp fun h => by
  intro e
  subst e
  simp at h
 have hpend : Pend ops (Array.replicate ops.size false) (A ++ (Fl ++ (R1 ++ R2))) := by
  refine ⟨hnodup, ?_, fun i hi => ⟨_, Array.getElem?_eq_getElem (hlt i hi)⟩⟩
  intro i
  constructor
  ·intro hi
   rcases Nat.lt_or_ge i ops.size with h' | h'
   ·have := List.all_eq_true.1 h8 i (List.mem_range.2 h')
    simpa only [List.contains_iff_mem] using this
   ·simp [Array.getElem?_eq_none, h'] at hi
  ·intro hi
   simp [hlt i hi]
 have hF : Flts tt ops Fl := by
  refine ⟨fun i hi => ?_, pairB_iff f2, ?_⟩
  ·have := List.all_eq_true.1 f1 i hi
   cases ho : ops[i]? with
   | none => rw [ho] at this; cases this
   | some o =>
    rw [ho] at this
    simp only [Bool.and_eq_true, Option.isNone_iff_eq_none, Option.isSome_iff_exists] at this
    obtain ⟨g, f, hf⟩ := this
    exact ⟨o, f, rfl, g, hf⟩
  ·exact hnodup.sublist ((List.sublist_append_left Fl _).trans (List.sublist_append_right A _))
 have hs1 : Split ops tab A R1 R2 := by
  refine ⟨(pairB_iff h1).imp fun h => by simpa using h, fun j hj i hi => ?_, pairB_iff h3, pairB_iff h4, fun j hj i hi => List.all_eq_true.1 (List.all_eq_true.1 h5 j hj) i hi, fun i hi o ho => ?_, fun i hi o ho => ?_⟩
  ·have := List.all_eq_true.1 (List.all_eq_true.1 h2 j hj) i hi
   simpa using this
  ·have := List.all_eq_true.1 h6 i hi
   rw [ho] at this
   simpa using this
  ·have := List.all_eq_true.1 h6' i hi
   rw [ho] at this
   exact this
 have hlen : A.length + (Fl.length + (R1.length + R2.length)) ≤ ops.size := by
  have hsub : (A ++ (Fl ++ (R1 ++ R2))) ⊆ List.range ops.size := fun i hi => List.mem_range.2 (hlt i hi)
  have := hpend.1.length_le_of_subset hsub
  simpa [Nat.add_assoc] using this
 have hS' : Sim w0 F (Γ1 ++ (Γ2 ++ M)) { w with drawn := w.drawn + 1 } := by
  have := (hS.perm (hp.p.append_right M)).of_heap (w' := { w with drawn := w.drawn + 1 }) rfl rfl rfl rfl
  simpa using this
 have e0 : ∀ i ∈ Fl, (fun _ => none : FE) i = none := fun _ _ => rfl
 have p0 : pendE (fun _ => none) Fl = Fl := List.filter_eq_self.2 fun _ _ => rfl
 refine gameG hk rd nn hF h0 (w0 := w0) (tab := tab) (R1 := R1) (R2 := R2) (Γ1 := Γ1) (Γ2 := Γ2) (M := M) (F0 := F) (ds := a.defers) (fun j hj i hi => List.all_eq_true.1 (List.all_eq_true.1 f4 j hj) i hi) hQ
  _ A (fun _ => none) ops.size _ T F a _ rfl ?_ ?_ (by rw [p0]; exact hpend) hs1 (fun j hj i hi => List.all_eq_true.1 (List.all_eq_true.1 f3 j hj) i hi) (fun i hi => .inl rfl) (Fz.le_refl F) ?_ ?_ rfl ?_
 ·rw [p0]; omega
 ·intro k o hk'
  rcases Nat.lt_or_ge k ops.size with h' | h'
  ·simp [h'] at hk'
  ·intro ho
   have := (Array.getElem?_eq_some_iff.1 ho).1
   omega
 ·rw [entE_none e0]; simpa using hS'
 ·rw [putE_none e0]; exact hT
 ·simpa only [pickO_eq, Array.getElem?_toList, appE_eq] using h
theorem PDraw.sF (d : Option Nat) {ops : Array Oper} (hd : fstDst ops = d) (Γ1 : List Ent) (R1 B Fl R2 : List Nat) (hk : TT.ok P tt) (hm : P.follows .mixedOrders = true) {T : List PV} {Γ Γ2 : List Ent} {K : List PV → List Ent → Prop} [hp : PickL Γ Γ1 Γ2]
  (h : SSeq P tt ops.toList (pickO ops.toList (restL ops.toList 0 (R1 ++ (B ++ (Fl ++ R2))))) T Γ2 fun T' => WOps P tt ops.toList (pickO ops.toList R1) T' Γ1 [] fun T2 Γ1' _ => appE Γ1' Γ2 fun Γ' =>
   SSeq P tt ops.toList (pickO ops.toList B) T2 Γ' fun T3 => WOps P tt ops.toList (pickO ops.toList Fl) T3 Γ' [] fun T4 Γ4 _ => WOps P tt ops.toList (pickO ops.toList R2) T4 Γ4 [] fun T' Γ' _ => K T' Γ')
  (hchk : splitFB tt ops (tabOf ops.toList []) (restL ops.toList 0 (R1 ++ (B ++ (Fl ++ R2)))) R1 B Fl R2 = true := by kernel_rfl) : PDraw P ops T Γ K :=
 PDraw.splitF hk hm _ _ R1 B Fl R2 Γ1 hchk h
theorem PDraw.sG (d : Option Nat) {ops : Array Oper} (hd : fstDst ops = d) (Γ1 : List Ent) (Fl R1 R2 : List Nat) (hk : TT.ok P tt) (hm : P.follows .mixedOrders = true) {T : List PV} {Γ Γ2 : List Ent} {K : List PV → List Ent → Prop} [hp : PickL Γ Γ1 Γ2]
  (h : SSeq P tt ops.toList (pickO ops.toList (restL ops.toList 0 (Fl ++ (R1 ++ R2)))) T Γ2 fun T' => WOps P tt ops.toList (pickO ops.toList Fl) T' Γ1 [] fun T1 Γ1' _ => WOps P tt ops.toList (pickO ops.toList R1) T1 Γ1' [] fun T2 Γ1' _ => appE Γ1' Γ2 fun Γ' => WOps P tt ops.toList (pickO ops.toList R2) T2 Γ' [] fun T' Γ' _ => K T' Γ')
  (hchk : splitGB tt ops (tabOf ops.toList []) (restL ops.toList 0 (Fl ++ (R1 ++ R2))) Fl R1 R2 = true := by kernel_rfl) : PDraw P ops T Γ K :=
 PDraw.splitG hk hm _ _ Fl R1 R2 Γ1 hchk h
end
end Go.Cb
namespace Go.Cb
theorem PIndexA.ixE {α : Type} {f : α → PV} {g : α → List PV} [c : CellsOf f g] {sz : Nat} {l : List α} {tk : Option Tok} {k : IntKind} {n : Int} {i : Nat} [x : IdxOf n i] {K : PV → Prop} (d : α) (h0 : 0 ≤ n) (h : n < l.length)
  (hk : K (.ep (g (l.getD i d)))) : PIndexA sz (.sl sz (l.map f) tk) (.int k n) K := by
 have hi := IdxOf.lt h0 h
 refine PIndexA.ix h0 h ?_
 have e : l.getD i d = l[i] := by simp [List.getD, hi]
 rwa [e] at hk
end Go.Cb
namespace Go.Cb
open Go.Proofs
set_option maxRecDepth 100000
class Dfl (α : Type) where
 d : α
instance : Dfl Int := ⟨0⟩
instance : Dfl UInt8 := ⟨0⟩
instance : Dfl Trm := ⟨.mk 0 0 [] []⟩
instance : Dfl Datum := ⟨.mk 0 0 0 [] []⟩
theorem zPG {α : Type} {f : α → PV} {g : α → List PV} [c : CellsOf f g] {sz : Nat} {l : List α} {tk : Option Tok} {k : IntKind} {n : Int} {i : Nat} [x : IdxOf n i] {K : PV → Prop} [q : Dfl α] (h0 : 0 ≤ n) (h : n < l.length)
  (hk : K (.ep (g (l.getD i q.d)))) : PIndexA sz (.sl sz (l.map f) tk) (.int k n) K := PIndexA.ixE q.d h0 h hk
theorem stB {p : Prop} (h : p := by
 conv => whnf
 repeat ((first|(refine zW ?_ ?_; exact gA)|refine zH rfl ?_|refine zA ?_|refine zI bA ?_|refine zI rfl ?_|refine zJ rfl rfl ?_|refine zB ?_|refine zK rfl ?_|refine zL rfl ?_|refine zC ?_|(refine zO ?_ ?_ ?_; exact OA; exact OA)|(refine zPG ?_ ?_ ?_; exact OA; exact OA)|refine zM rfl ?_|(refine zQ ?_ ?_ ?_; exact OA; exact OA)|(refine zR ?_ ?_; exact OA)|(refine zI ?_ ?_; exact NA)|(refine zS ?_ ?_ ?_; exact OA; exact OA)|(refine zT ?_ ?_ ?_; exact OA; exact OA)|(refine zU ?_ ?_ ?_; exact OA; exact OA)|(refine zV ?_ ?_ ?_; exact OA; exact OA)|intro _); conv=>whnf)
 first | exact PShift.same | exact PShift.lit | exact PShift.ep) : p := h
class ElOf {α : Type} (f : α → PV) (x : PV) (v : outParam α) : Prop where
 wk : Wk x (f v)
 wl : WkL x.cellsOf (f v).cellsOf
class RowOf {α : Type} (f : α → PV) (es : List PV) (l : outParam (List α)) : Prop where
 h : WkR es (l.map f)
class SlOf {α : Type} (f : α → PV) (s : Nat) (x : PV) (l : outParam (List α)) : Prop where
 wk : Wk x (.sl s (l.map f) none)
instance (priority := high) RowOf.map {α : Type} (f : α → PV) (l : List α) : RowOf f (l.map f) l := ⟨WkR.refl _⟩
instance RowOf.nil {α : Type} (f : α → PV) : RowOf f [] [] := ⟨.nil⟩
instance RowOf.cons {α : Type} (f : α → PV) (x : PV) (es : List PV) (v : α) (l : List α) [h : ElOf f x v] [k : RowOf f es l] : RowOf f (x :: es) (v :: l) := ⟨.cons h.wl k.h⟩
instance SlOf.nil {α : Type} (f : α → PV) (s : Nat) : SlOf f s .nil [] := ⟨Wk.nil' rfl⟩
instance SlOf.sl {α : Type} (f : α → PV) (s : Nat) (es : List PV) (l : List α) (tk : Option Tok) [h : RowOf f es l] : SlOf f s (.sl s es tk) l := ⟨Wk.trans (Wk.tok _ _ _) (Wk.row h.h)⟩
theorem WkL.one {x y : PV} (h : Wk x y) : WkL [x] [y] := .cons h .nil
instance (k : IntKind) (n : Int) : ElOf (PV.int k) (.int k n) n := ⟨Wk.refl _, WkL.refl _⟩
instance (b : Bool) : ElOf PV.bool (.bool b) b := ⟨Wk.refl _, WkL.refl _⟩
instance (s : List UInt8) : ElOf PV.str (.str s) s := ⟨Wk.refl _, WkL.refl _⟩
instance (priority := high) ElOf.same (t : Trm) : ElOf Trm.pv (Trm.pv t) t := ⟨Wk.refl _, WkL.refl _⟩
instance (priority := high) ElOf.cells (t : Trm) : ElOf Trm.pv (.agg t.cells) t := ⟨by rw [Trm.pv_eq]; exact Wk.refl _, by rw [Trm.pv_eq]; exact WkL.refl _⟩
theorem ElOf.ofL {x : List PV} {t : Trm} (h : WkL x t.cells) : ElOf Trm.pv (.agg x) t := ⟨by rw [Trm.pv_eq]; exact Wk.agg h, by rw [Trm.pv_eq]; exact h⟩
instance (priority := high) ElOf.parts (t : Trm) (tk1 tk2 : Option Tok) : ElOf Trm.pv (.agg [.int .i64 (Trm.op t), .int .i64 (Trm.n t), .sl 1 ((Trm.v t).map (PV.int .i64)) tk1, .sl 4 ((Trm.t t).map Trm.pv) tk2]) t :=
 ElOf.ofL (.cons (Wk.refl _) (.cons (Wk.refl _) (.cons (Wk.tok _ _ _) (.cons (Wk.tok _ _ _) .nil))))
instance ElOf.mk' (a b : Int) (x y : PV) (v : List Int) (t : List Trm) [h : SlOf (PV.int .i64) 1 x v] [k : SlOf Trm.pv 4 y t] : ElOf Trm.pv (.agg [.int .i64 a, .int .i64 b, x, y]) (.mk a b v t) :=
 ElOf.ofL (.cons (Wk.refl _) (.cons (Wk.refl _) (.cons h.wk (.cons k.wk .nil))))
theorem TrmOf.wk {x : PV} {t : Trm} [h : ElOf Trm.pv x t] : Wk x (.agg t.cells) := by rw [← Trm.pv_eq]; exact h.wk
instance (priority := high) ElOf.dsame (t : Datum) : ElOf Datum.pv (Datum.pv t) t := ⟨Wk.refl _, WkL.refl _⟩
instance (priority := high) ElOf.dcells (t : Datum) : ElOf Datum.pv (.agg t.cells) t := ⟨by rw [Datum.pv_eq]; exact Wk.refl _, by rw [Datum.pv_eq]; exact WkL.refl _⟩
theorem ElOf.ofD {x : List PV} {t : Datum} (h : WkL x t.cells) : ElOf Datum.pv (.agg x) t := ⟨by rw [Datum.pv_eq]; exact Wk.agg h, by rw [Datum.pv_eq]; exact h⟩
instance (priority := high) ElOf.dparts (t : Datum) (tk : Option Tok) : ElOf Datum.pv (.agg [.int .i64 (Datum.kind t), .int .i64 (Datum.n t), .int .i64 (Datum.d t), .str (Datum.s t), .sl 5 ((Datum.l t).map Datum.pv) tk]) t :=
 ElOf.ofD (.cons (Wk.refl _) (.cons (Wk.refl _) (.cons (Wk.refl _) (.cons (Wk.refl _) (.cons (Wk.tok _ _ _) .nil)))))
instance ElOf.dmk (a b c : Int) (s : List UInt8) (x : PV) (l : List Datum) [h : SlOf Datum.pv 5 x l] : ElOf Datum.pv (.agg [.int .i64 a, .int .i64 b, .int .i64 c, .str s, x]) (.mk a b c s l) :=
 ElOf.ofD (.cons (Wk.refl _) (.cons (Wk.refl _) (.cons (Wk.refl _) (.cons (Wk.refl _) (.cons h.wk .nil)))))
section
theorem bytes_ok {n by_ : Nat} (hb : Nat.ble by_ 4096 = true) (h : n ≤ 34359738368) : n * by_ ≤ 140737488355328 :=
 Nat.le_trans (Nat.mul_le_mul h (Nat.le_of_ble_eq_true hb)) (by decide)
theorem PAppend.more {α : Type} {f : α → PV} {l m : List α} {es : List PV} {s by_ : Nat} {e : TypeId} {tk : Option Tok} {t : Tok} {Γ : List Ent} {put : Tok → List Ent} [hp : PickTok Γ t put] [hm : RowOf f es m] {K : PV → List Ent → Prop} (he : t.e = e)
  (hb : Nat.ble by_ 4096 = true) (h1 : l.length + m.length ≤ 34359738368)
  (k : ∀ t' : Tok, t'.e = e → K (.sl s ((l ++ m).map f) (some t')) (put t')) : PAppend s by_ e (.sl s (l.map f) (some t)) (.sl s es tk) Γ K := by
 obtain ⟨Γ1, Γ2, e1, e2⟩ := hp.at_
 refine ⟨l.map f, m.map f, .inl ⟨tk, Wk.row hm.h⟩, by simp; omega, by simpa using bytes_ok hb h1, .inr (.inl ⟨t, Γ1, Γ2, rfl, e1, he, fun t' ht => ?_⟩)⟩
 have := k t' ht
 rw [List.map_append, e2] at this
 exact this
theorem PAppend.empty {ys : List PV} {s by_ : Nat} {e : TypeId} {tk : Option Tok} {t : Tok} {Γ : List Ent} {put : Tok → List Ent} [hp : PickTok Γ t put] {K : PV → List Ent → Prop} (he : t.e = e)
  (hb : Nat.ble by_ 4096 = true) (h1 : ys.length ≤ 34359738368)
  (k : ∀ t' : Tok, t'.e = e → K (.sl s ys (some t')) (put t')) : PAppend s by_ e (.sl s [] (some t)) (.sl s ys tk) Γ K := by
 obtain ⟨Γ1, Γ2, e1, e2⟩ := hp.at_
 refine ⟨[], ys, .inl ⟨tk, Wk.refl _⟩, by simp; omega, by simpa using bytes_ok hb h1, .inr (.inl ⟨t, Γ1, Γ2, rfl, e1, he, fun t' ht => ?_⟩)⟩
 have := k t' ht
 rw [e2] at this
 exact this
theorem PAppend.ofNil {ys : List PV} {s by_ : Nat} {e : TypeId} {tk : Option Tok} {Γ : List Ent} {K : PV → List Ent → Prop}
  (hb : Nat.ble by_ 4096 = true) (h1 : ys.length ≤ 34359738368)
  (k : ∀ t : Tok, t.e = e → K (.sl s ys (some t)) (.tok t :: Γ)) : PAppend s by_ e .nil (.sl s ys tk) Γ K :=
 ⟨[], ys, .inl ⟨tk, Wk.refl _⟩, by simp; omega, by simpa using bytes_ok hb h1, .inl ⟨rfl, rfl, .inl k⟩⟩
theorem PAppend.nothing {α : Type} {f : α → PV} {l : List α} {s by_ : Nat} {e : TypeId} {t : Tok} {Γ : List Ent} {put : Tok → List Ent} [hp : PickTok Γ t put] {K : PV → List Ent → Prop} (he : t.e = e)
  (hb : Nat.ble by_ 4096 = true) (h1 : l.length ≤ 34359738368)
  (k : ∀ t' : Tok, t'.e = e → K (.sl s (l.map f) (some t')) (put t')) : PAppend s by_ e (.sl s (l.map f) (some t)) .nil Γ K := by
 obtain ⟨Γ1, Γ2, e1, e2⟩ := hp.at_
 refine ⟨l.map f, [], .inl ⟨none, Wk.nil s⟩, by simp; omega, by simpa using bytes_ok hb h1, .inr (.inl ⟨t, Γ1, Γ2, rfl, e1, he, fun t' ht => ?_⟩)⟩
 have := k t' ht
 rw [e2] at this
 simpa using this
end
class TokL (Γ : List Ent) (Γ1 Γ2 : outParam (List Ent)) : Prop where
 p : Γ.Perm (Γ1 ++ Γ2)
instance TokL.nil : TokL [] [] [] := ⟨List.Perm.refl _⟩
instance (priority := high) TokL.tok (t : Tok) (Γ Γ1 Γ2 : List Ent) [h : TokL Γ Γ1 Γ2] : TokL (.tok t :: Γ) (.tok t :: Γ1) Γ2 := ⟨h.p.cons _⟩
instance TokL.other (e : Ent) (Γ Γ1 Γ2 : List Ent) [h : TokL Γ Γ1 Γ2] : TokL (e :: Γ) Γ1 (e :: Γ2) := ⟨(h.p.cons e).trans List.perm_middle.symm⟩
section
variable {P : Program} {tt : Nat → TI}
theorem PDraw.sT (d : Option Nat) {ops : Array Oper} (hd : fstDst ops = d) (R1 R2 : List Nat) {T : List PV} {Γ Γ1 Γ2 : List Ent} {K : List PV → List Ent → Prop} (hk : TT.ok P tt) (hm : P.follows .mixedOrders = true) [hp : TokL Γ Γ1 Γ2]
  (h : SSeq P tt ops.toList (pickO ops.toList (restL ops.toList 0 (R1 ++ R2))) T Γ2 fun T' => WOps P tt ops.toList (pickO ops.toList R1) T' Γ1 [] fun T2 Γ1' _ => appE Γ1' Γ2 fun Γ' => WOps P tt ops.toList (pickO ops.toList R2) T2 Γ' [] fun T' Γ' _ => K T' Γ')
  (hchk : splitB ops (tabOf ops.toList []) (restL ops.toList 0 (R1 ++ R2)) R1 R2 = true := by kernel_rfl) : PDraw P ops T Γ K :=
 PDraw.split hk hm _ _ R1 R2 Γ1 (hp := ⟨hp.p⟩) hchk h
end
theorem yA : type_of% @PAppend.more := @PAppend.more
theorem yB : type_of% @PAppend.empty := @PAppend.empty
theorem yC : type_of% @PAppend.ofNil := @PAppend.ofNil
theorem lA {p : Prop} (h : p := by first | omega | (simp only [List.length_cons, List.length_nil, List.length_map, List.length_append, List.length_take, List.length_drop]; omega)) : p := h
theorem sE {p q : Prop} (k : q) (h : q → p := by intro hq; first | exact yA (by clear hq; assumption) rfl lA hq | exact yB (by clear hq; assumption) rfl lA hq | exact yC rfl lA hq) : p := h k
end Go.Cb
