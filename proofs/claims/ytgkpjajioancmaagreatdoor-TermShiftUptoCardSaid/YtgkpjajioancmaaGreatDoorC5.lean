/-
  Contracts: what is sorted already: one number.
  Contracts: what is named and not bound: one variable.
  Contracts: the program's check of terms: variables are bound.
  Contracts: package slices with functions that change what they hold.
  Contracts: the program's check of terms: what is done at the end.
  Contracts: the program's check of terms: whether a term is right.
  Contracts: the document's check of terms, the rest of it.
  Contracts: the document's check of terms, within a scope.
  Contracts: the document's check of programs.
  Plain law: the program's check of a term and the document's answer alike.
  Plain law: the program's data and the document's are right alike.
-/
import Derived.Test.YtgkpjajioancmaaGreatDoorC4
set_option linter.unusedSimpArgs false
set_option linter.unusedVariables false
namespace Go.Cb
open Go.Proofs
set_option maxRecDepth 100000
set_option maxHeartbeats 4000000
theorem PLenM.one {x : PV} {Γ : List Ent} {t : Tok} {put : Tok → List PV → List Ent} [hp : PickRow Γ t [x] put] {K : Nat → Prop} (k : K 1) : PLenM t Γ K := PLenM.at_ (hp := hp) (fun _ => k)
theorem len64_c : ACall Tryz.prog 185 [.int .u64 1] [] (fun y Γ' => ∃ k, y = .int .i64 k ∧ Γ' = []) := by
  refine ACall.of_body tt_ok Tryz.func185 rfl rfl (n := 25) rfl rfl ?_
  conv => whnf
  repeat ((first | ((first | (apply PGuard.lazy; intro hg) | apply PStb.of); (focus ((conv => whnf); (repeat ((first | refine PNeed.of gA ?_ | refine PLoad.box rfl ?_ | refine PLook.set ?_ | refine PSide.of bA ?_ | refine PSide.of rfl ?_ | refine PRow.one rfl rfl ?_ | refine PRow.none ?_ | refine PLoad.ep rfl ?_ | refine PLen.map ?_ | refine PIndexS.ix OA OA ?_ | refine PIndexA.ix OA OA ?_ | refine PIndexA.lit rfl ?_ | refine PInt.ok OA OA ?_ | refine PDiv.of OA ?_ | refine PSide.of NA ?_ | refine PSliceS.lo OA OA ?_ | refine PSliceL.lo OA OA ?_ | refine PSliceS.hi OA OA ?_ | refine PSliceL.hi OA OA ?_ | intro _); conv => whnf)); exact And.intro rfl rfl))) | refine PLoad.box rfl ?_ | refine PLook.set ?_ | refine PSide.of bA ?_ | refine PSide.of rfl ?_ | refine PRow.one rfl rfl ?_ | refine PRow.none ?_ | refine PLoad.ep rfl ?_ | refine PLen.map ?_ | refine PIndexS.ix oA oA ?_ | refine PIndexA.ix oA oA ?_ | refine PIndexA.lit rfl ?_ | refine PInt.ok oA oA ?_ | refine PDiv.of oA ?_ | refine PSide.of nA ?_ | refine PSliceS.lo oA oA ?_ | refine PSliceL.lo oA oA ?_ | refine PSliceS.hi oA oA ?_ | refine PSliceL.hi oA oA ?_ | refine PStore.box rfl rfl rfl ?_ | refine PBytes.mk ?_ | refine PMapPut.set ?_ | refine PMapDel.set ?_ | intro _); conv => whnf)
  conv => whnf
  repeat' (first | ((first | ((first | (apply PGuard.lazy; intro hg) | apply PStb.of); (focus ((conv => whnf); (repeat ((first | refine PNeed.of gA ?_ | refine PLoad.box rfl ?_ | refine PLook.set ?_ | refine PSide.of bA ?_ | refine PSide.of rfl ?_ | refine PRow.one rfl rfl ?_ | refine PRow.none ?_ | refine PLoad.ep rfl ?_ | refine PLen.map ?_ | refine PIndexS.ix OA OA ?_ | refine PIndexA.ix OA OA ?_ | refine PIndexA.lit rfl ?_ | refine PInt.ok OA OA ?_ | refine PDiv.of OA ?_ | refine PSide.of NA ?_ | refine PSliceS.lo OA OA ?_ | refine PSliceL.lo OA OA ?_ | refine PSliceS.hi OA OA ?_ | refine PSliceL.hi OA OA ?_ | intro _); conv => whnf)); exact And.intro rfl rfl))) | refine PLoad.box rfl ?_ | refine PLook.set ?_ | refine PSide.of bA ?_ | refine PSide.of rfl ?_ | refine PRow.one rfl rfl ?_ | refine PRow.none ?_ | refine PLoad.ep rfl ?_ | refine PLen.map ?_ | refine PIndexS.ix oA oA ?_ | refine PIndexA.ix oA oA ?_ | refine PIndexA.lit rfl ?_ | refine PInt.ok oA oA ?_ | refine PDiv.of oA ?_ | refine PSide.of nA ?_ | refine PSliceS.lo oA oA ?_ | refine PSliceL.lo oA oA ?_ | refine PSliceS.hi oA oA ?_ | refine PSliceL.hi oA oA ?_ | refine PStore.box rfl rfl rfl ?_ | refine PBytes.mk ?_ | refine PMapPut.set ?_ | refine PMapDel.set ?_ | intro _ | refine PSeq.go ?_); conv => whnf) | (refine PCond.ways (fun hc => ?_) (fun hc => ?_) <;> (try simp only [SS, not_true_eq_false, not_false_eq_true, false_and, and_false, true_and, and_true, true_or, or_true, false_or, or_false] at hc) <;> first | (exfalso; omega) | (conv => whnf)))
  refine PInt.ok (by decide) (by decide) ?_
  conv => whnf
  repeat' (first | ((first | ((first | (apply PGuard.lazy; intro hg) | apply PStb.of); (focus ((conv => whnf); (repeat ((first | refine PNeed.of gA ?_ | refine PLoad.box rfl ?_ | refine PLook.set ?_ | refine PSide.of bA ?_ | refine PSide.of rfl ?_ | refine PRow.one rfl rfl ?_ | refine PRow.none ?_ | refine PLoad.ep rfl ?_ | refine PLen.map ?_ | refine PIndexS.ix OA OA ?_ | refine PIndexA.ix OA OA ?_ | refine PIndexA.lit rfl ?_ | refine PInt.ok OA OA ?_ | refine PDiv.of OA ?_ | refine PSide.of NA ?_ | refine PSliceS.lo OA OA ?_ | refine PSliceL.lo OA OA ?_ | refine PSliceS.hi OA OA ?_ | refine PSliceL.hi OA OA ?_ | intro _); conv => whnf)); exact And.intro rfl rfl))) | refine PLoad.box rfl ?_ | refine PLook.set ?_ | refine PSide.of bA ?_ | refine PSide.of rfl ?_ | refine PRow.one rfl rfl ?_ | refine PRow.none ?_ | refine PLoad.ep rfl ?_ | refine PLen.map ?_ | refine PIndexS.ix oA oA ?_ | refine PIndexA.ix oA oA ?_ | refine PIndexA.lit rfl ?_ | refine PInt.ok oA oA ?_ | refine PDiv.of oA ?_ | refine PSide.of nA ?_ | refine PSliceS.lo oA oA ?_ | refine PSliceL.lo oA oA ?_ | refine PSliceS.hi oA oA ?_ | refine PSliceL.hi oA oA ?_ | refine PStore.box rfl rfl rfl ?_ | refine PBytes.mk ?_ | refine PMapPut.set ?_ | refine PMapDel.set ?_ | intro _ | refine PSeq.go ?_); conv => whnf) | (refine PCond.ways (fun hc => ?_) (fun hc => ?_) <;> (try simp only [SS, not_true_eq_false, not_false_eq_true, false_and, and_false, true_and, and_true, true_or, or_true, false_or, or_false] at hc) <;> first | (exfalso; omega) | (conv => whnf)))
  refine PInt.ok (by decide) (by decide) ?_
  conv => whnf
  repeat' (first | ((first | ((first | (apply PGuard.lazy; intro hg) | apply PStb.of); (focus ((conv => whnf); (repeat ((first | refine PNeed.of gA ?_ | refine PLoad.box rfl ?_ | refine PLook.set ?_ | refine PSide.of bA ?_ | refine PSide.of rfl ?_ | refine PRow.one rfl rfl ?_ | refine PRow.none ?_ | refine PLoad.ep rfl ?_ | refine PLen.map ?_ | refine PIndexS.ix OA OA ?_ | refine PIndexA.ix OA OA ?_ | refine PIndexA.lit rfl ?_ | refine PInt.ok OA OA ?_ | refine PDiv.of OA ?_ | refine PSide.of NA ?_ | refine PSliceS.lo OA OA ?_ | refine PSliceL.lo OA OA ?_ | refine PSliceS.hi OA OA ?_ | refine PSliceL.hi OA OA ?_ | intro _); conv => whnf)); exact And.intro rfl rfl))) | refine PLoad.box rfl ?_ | refine PLook.set ?_ | refine PSide.of bA ?_ | refine PSide.of rfl ?_ | refine PRow.one rfl rfl ?_ | refine PRow.none ?_ | refine PLoad.ep rfl ?_ | refine PLen.map ?_ | refine PIndexS.ix oA oA ?_ | refine PIndexA.ix oA oA ?_ | refine PIndexA.lit rfl ?_ | refine PInt.ok oA oA ?_ | refine PDiv.of oA ?_ | refine PSide.of nA ?_ | refine PSliceS.lo oA oA ?_ | refine PSliceL.lo oA oA ?_ | refine PSliceS.hi oA oA ?_ | refine PSliceL.hi oA oA ?_ | refine PStore.box rfl rfl rfl ?_ | refine PBytes.mk ?_ | refine PMapPut.set ?_ | refine PMapDel.set ?_ | intro _ | refine PSeq.go ?_); conv => whnf) | (refine PCond.ways (fun hc => ?_) (fun hc => ?_) <;> (try simp only [SS, not_true_eq_false, not_false_eq_true, false_and, and_false, true_and, and_true, true_or, or_true, false_or, or_false] at hc) <;> first | (exfalso; omega) | (conv => whnf)))
  exact PRet.gen (Wk.refl _) ⟨_, rfl, rfl⟩
theorem len_c : ACall Tryz.prog 159 [.int .u64 1] [] (fun y Γ' => ∃ k, y = .int .i64 k ∧ Γ' = []) := by
  refine ACall.of_body tt_ok Tryz.func159 rfl rfl (n := 8) rfl rfl ?_
  conv => whnf
  repeat ((first | ((first | (apply PGuard.lazy; intro hg) | apply PStb.of); (focus ((conv => whnf); (repeat ((first | refine PNeed.of gA ?_ | refine PLoad.box rfl ?_ | refine PLook.set ?_ | refine PSide.of bA ?_ | refine PSide.of rfl ?_ | refine PRow.one rfl rfl ?_ | refine PRow.none ?_ | refine PLoad.ep rfl ?_ | refine PLen.map ?_ | refine PIndexS.ix OA OA ?_ | refine PIndexA.ix OA OA ?_ | refine PIndexA.lit rfl ?_ | refine PInt.ok OA OA ?_ | refine PDiv.of OA ?_ | refine PSide.of NA ?_ | refine PSliceS.lo OA OA ?_ | refine PSliceL.lo OA OA ?_ | refine PSliceS.hi OA OA ?_ | refine PSliceL.hi OA OA ?_ | intro _); conv => whnf)); exact And.intro rfl rfl))) | refine PLoad.box rfl ?_ | refine PLook.set ?_ | refine PSide.of bA ?_ | refine PSide.of rfl ?_ | refine PRow.one rfl rfl ?_ | refine PRow.none ?_ | refine PLoad.ep rfl ?_ | refine PLen.map ?_ | refine PIndexS.ix oA oA ?_ | refine PIndexA.ix oA oA ?_ | refine PIndexA.lit rfl ?_ | refine PInt.ok oA oA ?_ | refine PDiv.of oA ?_ | refine PSide.of nA ?_ | refine PSliceS.lo oA oA ?_ | refine PSliceL.lo oA oA ?_ | refine PSliceS.hi oA oA ?_ | refine PSliceL.hi oA oA ?_ | refine PStore.box rfl rfl rfl ?_ | refine PBytes.mk ?_ | refine PMapPut.set ?_ | refine PMapDel.set ?_ | intro _); conv => whnf)
  conv => whnf
  repeat' (first | ((first | ((first | (apply PGuard.lazy; intro hg) | apply PStb.of); (focus ((conv => whnf); (repeat ((first | refine PNeed.of gA ?_ | refine PLoad.box rfl ?_ | refine PLook.set ?_ | refine PSide.of bA ?_ | refine PSide.of rfl ?_ | refine PRow.one rfl rfl ?_ | refine PRow.none ?_ | refine PLoad.ep rfl ?_ | refine PLen.map ?_ | refine PIndexS.ix OA OA ?_ | refine PIndexA.ix OA OA ?_ | refine PIndexA.lit rfl ?_ | refine PInt.ok OA OA ?_ | refine PDiv.of OA ?_ | refine PSide.of NA ?_ | refine PSliceS.lo OA OA ?_ | refine PSliceL.lo OA OA ?_ | refine PSliceS.hi OA OA ?_ | refine PSliceL.hi OA OA ?_ | intro _); conv => whnf)); exact And.intro rfl rfl))) | refine PLoad.box rfl ?_ | refine PLook.set ?_ | refine PSide.of bA ?_ | refine PSide.of rfl ?_ | refine PRow.one rfl rfl ?_ | refine PRow.none ?_ | refine PLoad.ep rfl ?_ | refine PLen.map ?_ | refine PIndexS.ix oA oA ?_ | refine PIndexA.ix oA oA ?_ | refine PIndexA.lit rfl ?_ | refine PInt.ok oA oA ?_ | refine PDiv.of oA ?_ | refine PSide.of nA ?_ | refine PSliceS.lo oA oA ?_ | refine PSliceL.lo oA oA ?_ | refine PSliceS.hi oA oA ?_ | refine PSliceL.hi oA oA ?_ | refine PStore.box rfl rfl rfl ?_ | refine PBytes.mk ?_ | refine PMapPut.set ?_ | refine PMapDel.set ?_ | intro _ | refine PSeq.go ?_); conv => whnf) | (refine PCond.ways (fun hc => ?_) (fun hc => ?_) <;> (try simp only [SS, not_true_eq_false, not_false_eq_true, false_and, and_false, true_and, and_true, true_or, or_true, false_or, or_false] at hc) <;> first | (exfalso; omega) | (conv => whnf)))
  refine PCall.go len64_c (WkT.refl _) ?_
  rintro _ _ ⟨k, rfl, rfl⟩
  conv => whnf
  repeat' (first | ((first | ((first | (apply PGuard.lazy; intro hg) | apply PStb.of); (focus ((conv => whnf); (repeat ((first | refine PNeed.of gA ?_ | refine PLoad.box rfl ?_ | refine PLook.set ?_ | refine PSide.of bA ?_ | refine PSide.of rfl ?_ | refine PRow.one rfl rfl ?_ | refine PRow.none ?_ | refine PLoad.ep rfl ?_ | refine PLen.map ?_ | refine PIndexS.ix OA OA ?_ | refine PIndexA.ix OA OA ?_ | refine PIndexA.lit rfl ?_ | refine PInt.ok OA OA ?_ | refine PDiv.of OA ?_ | refine PSide.of NA ?_ | refine PSliceS.lo OA OA ?_ | refine PSliceL.lo OA OA ?_ | refine PSliceS.hi OA OA ?_ | refine PSliceL.hi OA OA ?_ | intro _); conv => whnf)); exact And.intro rfl rfl))) | refine PLoad.box rfl ?_ | refine PLook.set ?_ | refine PSide.of bA ?_ | refine PSide.of rfl ?_ | refine PRow.one rfl rfl ?_ | refine PRow.none ?_ | refine PLoad.ep rfl ?_ | refine PLen.map ?_ | refine PIndexS.ix oA oA ?_ | refine PIndexA.ix oA oA ?_ | refine PIndexA.lit rfl ?_ | refine PInt.ok oA oA ?_ | refine PDiv.of oA ?_ | refine PSide.of nA ?_ | refine PSliceS.lo oA oA ?_ | refine PSliceL.lo oA oA ?_ | refine PSliceS.hi oA oA ?_ | refine PSliceL.hi oA oA ?_ | refine PStore.box rfl rfl rfl ?_ | refine PBytes.mk ?_ | refine PMapPut.set ?_ | refine PMapDel.set ?_ | intro _ | refine PSeq.go ?_); conv => whnf) | (refine PCond.ways (fun hc => ?_) (fun hc => ?_) <;> (try simp only [SS, not_true_eq_false, not_false_eq_true, false_and, and_false, true_and, and_true, true_or, or_true, false_or, or_false] at hc) <;> first | (exfalso; omega) | (conv => whnf)))
  exact PRet.gen (Wk.refl _) ⟨k, rfl, rfl⟩
theorem insertion1_c (t : Tok) (x : Int) (ht : t.e = 3) (hs : t.s = 1) : ACall Tryz.prog 175 [.ms t, .int .i64 0, .int .i64 1] [.row t [.int .i64 x]] (fun _ Γ' => Γ' = [.row t [.int .i64 x]]) := by
  refine ACall.of_body tt_ok Tryz.func175 rfl rfl (n := 49) rfl rfl ?_
  conv => whnf
  repeat ((first | ((first | (apply PGuard.lazy; intro hg) | apply PStb.of); (focus ((conv => whnf); (repeat ((first | refine PNeed.of gA ?_ | refine PLoad.box rfl ?_ | refine PLook.set ?_ | refine PSide.of bA ?_ | refine PSide.of rfl ?_ | refine PRow.one rfl rfl ?_ | refine PRow.none ?_ | refine PLoad.ep rfl ?_ | refine PLen.map ?_ | refine PIndexS.ix OA OA ?_ | refine PIndexA.ix OA OA ?_ | refine PIndexA.lit rfl ?_ | refine PInt.ok OA OA ?_ | refine PDiv.of OA ?_ | refine PSide.of NA ?_ | refine PSliceS.lo OA OA ?_ | refine PSliceL.lo OA OA ?_ | refine PSliceS.hi OA OA ?_ | refine PSliceL.hi OA OA ?_ | intro _); conv => whnf)); exact And.intro rfl rfl))) | refine PLoad.box rfl ?_ | refine PLook.set ?_ | refine PSide.of bA ?_ | refine PSide.of rfl ?_ | refine PRow.one rfl rfl ?_ | refine PRow.none ?_ | refine PLoad.ep rfl ?_ | refine PLen.map ?_ | refine PIndexS.ix oA oA ?_ | refine PIndexA.ix oA oA ?_ | refine PIndexA.lit rfl ?_ | refine PInt.ok oA oA ?_ | refine PDiv.of oA ?_ | refine PSide.of nA ?_ | refine PSliceS.lo oA oA ?_ | refine PSliceL.lo oA oA ?_ | refine PSliceS.hi oA oA ?_ | refine PSliceL.hi oA oA ?_ | refine PStore.box rfl rfl rfl ?_ | refine PBytes.mk ?_ | refine PMapPut.set ?_ | refine PMapDel.set ?_ | refine PDraw.at_ (some 16) rfl tt_ok mixed [0, 0, 3, 7, 15, 15, 63, 127, 15, 15, 527, 1807, 3855, 8191, 16383] [0, 1, 2, 3, 4, 5, 6, 7, 8, 9, 10, 11, 12, 13, 14] [] [] [] (by kernel_rfl) ?_ | refine PDraw.fst (some 33) rfl tt_ok mixed [0, 0, 0, 0, 8, 0, 0, 64, 224, 480, 0, 0, 3072, 7168, 16355, 32739, 65535, 131071] [0, 1, 2, 3, 4, 5, 6, 7, 8, 9, 10, 11, 12, 13, 14] [15] [16, 17] (by kernel_rfl) ?_ | intro _); conv => whnf)
  refine PLoop.keep [6, 7, 10, 11, 12, 13, 14, 15, 16, 17, 18, 19, 20, 21, 22, 23, 24, 25, 26, 27, 28, 29, 30, 31, 32, 33, 34, 35, 36, 37, 38, 39, 40, 41, 42, 43, 44, 45, 46, 47, 48] (fun _ : Unit => [(6, .int .i64 1)]) (fun _ => True) (fun _ => 0) () trivial wA ?_
  rintro _ _
  conv => whnf
  repeat' (first | ((first | ((first | (apply PGuard.lazy; intro hg) | apply PStb.of); (focus ((conv => whnf); (repeat ((first | refine PNeed.of gA ?_ | refine PLoad.box rfl ?_ | refine PLook.set ?_ | refine PSide.of bA ?_ | refine PSide.of rfl ?_ | refine PRow.one rfl rfl ?_ | refine PRow.none ?_ | refine PLoad.ep rfl ?_ | refine PLen.map ?_ | refine PIndexS.ix OA OA ?_ | refine PIndexA.ix OA OA ?_ | refine PIndexA.lit rfl ?_ | refine PInt.ok OA OA ?_ | refine PDiv.of OA ?_ | refine PSide.of NA ?_ | refine PSliceS.lo OA OA ?_ | refine PSliceL.lo OA OA ?_ | refine PSliceS.hi OA OA ?_ | refine PSliceL.hi OA OA ?_ | intro _); conv => whnf)); exact And.intro rfl rfl))) | refine PLoad.box rfl ?_ | refine PLook.set ?_ | refine PSide.of bA ?_ | refine PSide.of rfl ?_ | refine PRow.one rfl rfl ?_ | refine PRow.none ?_ | refine PLoad.ep rfl ?_ | refine PLen.map ?_ | refine PIndexS.ix oA oA ?_ | refine PIndexA.ix oA oA ?_ | refine PIndexA.lit rfl ?_ | refine PInt.ok oA oA ?_ | refine PDiv.of oA ?_ | refine PSide.of nA ?_ | refine PSliceS.lo oA oA ?_ | refine PSliceL.lo oA oA ?_ | refine PSliceS.hi oA oA ?_ | refine PSliceL.hi oA oA ?_ | refine PStore.box rfl rfl rfl ?_ | refine PBytes.mk ?_ | refine PMapPut.set ?_ | refine PMapDel.set ?_ | refine PDraw.at_ (some 16) rfl tt_ok mixed [0, 0, 3, 7, 15, 15, 63, 127, 15, 15, 527, 1807, 3855, 8191, 16383] [0, 1, 2, 3, 4, 5, 6, 7, 8, 9, 10, 11, 12, 13, 14] [] [] [] (by kernel_rfl) ?_ | refine PDraw.fst (some 33) rfl tt_ok mixed [0, 0, 0, 0, 8, 0, 0, 64, 224, 480, 0, 0, 3072, 7168, 16355, 32739, 65535, 131071] [0, 1, 2, 3, 4, 5, 6, 7, 8, 9, 10, 11, 12, 13, 14] [15] [16, 17] (by kernel_rfl) ?_ | intro _ | refine PSeq.go ?_); conv => whnf) | (refine PCond.ways (fun hc => ?_) (fun hc => ?_) <;> (try simp only [SS, not_true_eq_false, not_false_eq_true, false_and, and_false, true_and, and_true, true_or, or_true, false_or, or_false] at hc) <;> first | (exfalso; omega) | (conv => whnf)))
  exact PRet.gen (Wk.refl _) rfl
theorem pdq1_c (t : Tok) (x k : Int) (ht : t.e = 3) (hs : t.s = 1) : ACall Tryz.prog 158 [.ms t, .int .i64 0, .int .i64 1, .int .i64 k] [.row t [.int .i64 x]] (fun _ Γ' => Γ' = [.row t [.int .i64 x]]) := by
  refine ACall.of_body tt_ok Tryz.func158 rfl rfl (n := 134) rfl rfl ?_
  conv => whnf
  repeat ((first | ((first | (apply PGuard.lazy; intro hg) | apply PStb.of); (focus ((conv => whnf); (repeat ((first | refine PNeed.of gA ?_ | refine PLoad.box rfl ?_ | refine PLook.set ?_ | refine PSide.of bA ?_ | refine PSide.of rfl ?_ | refine PRow.one rfl rfl ?_ | refine PRow.none ?_ | refine PLoad.ep rfl ?_ | refine PLen.map ?_ | refine PIndexS.ix OA OA ?_ | refine PIndexA.ix OA OA ?_ | refine PIndexA.lit rfl ?_ | refine PInt.ok OA OA ?_ | refine PDiv.of OA ?_ | refine PSide.of NA ?_ | refine PSliceS.lo OA OA ?_ | refine PSliceL.lo OA OA ?_ | refine PSliceS.hi OA OA ?_ | refine PSliceL.hi OA OA ?_ | intro _); conv => whnf)); exact And.intro rfl rfl))) | refine PLoad.box rfl ?_ | refine PLook.set ?_ | refine PSide.of bA ?_ | refine PSide.of rfl ?_ | refine PRow.one rfl rfl ?_ | refine PRow.none ?_ | refine PLoad.ep rfl ?_ | refine PLen.map ?_ | refine PIndexS.ix oA oA ?_ | refine PIndexA.ix oA oA ?_ | refine PIndexA.lit rfl ?_ | refine PInt.ok oA oA ?_ | refine PDiv.of oA ?_ | refine PSide.of nA ?_ | refine PSliceS.lo oA oA ?_ | refine PSliceL.lo oA oA ?_ | refine PSliceS.hi oA oA ?_ | refine PSliceL.hi oA oA ?_ | refine PStore.box rfl rfl rfl ?_ | refine PBytes.mk ?_ | refine PMapPut.set ?_ | refine PMapDel.set ?_ | refine PDraw.at_ (some 73) rfl tt_ok mixed [0, 1, 3, 7, 7, 23, 63, 127, 7, 7, 775, 1799, 4095, 8191, 16383] [0, 1, 2, 3, 4, 5, 6, 7, 8, 9, 10, 11, 12, 13, 14] [] [] [] (by kernel_rfl) ?_ | intro _); conv => whnf)
  refine PLoop.keep [1, 2, 3, 8, 9, 10, 11, 12, 13, 14, 15, 16, 17, 18, 19, 20, 21, 22, 23, 24, 25, 26, 27, 28, 29, 30, 31, 32, 33, 34, 35, 36, 37, 38, 39, 40, 41, 42, 43, 44, 45, 46, 47, 48, 49, 50, 51, 52, 53, 54, 55, 56, 57, 58, 59, 60, 61, 62, 63, 64, 65, 66, 67, 68, 69, 70, 71, 72, 73, 74, 75, 76, 77, 78, 79, 80, 81, 82, 83, 84, 85, 86, 87, 88, 89, 90, 91, 92, 93, 94, 95, 96, 97, 98, 99, 100, 101, 102, 103, 104, 105, 106, 107, 108, 109, 110, 111, 112, 113, 114, 115, 116, 117, 118, 119, 120, 121, 122, 123, 124, 125, 126, 127, 128, 129, 130, 131, 132, 133] (fun _ : Unit => [(1, .int .i64 0), (2, .int .i64 1)]) (fun _ => True) (fun _ => 0) () trivial wA ?_
  rintro _ _
  conv => whnf
  repeat' (first | ((first | ((first | (apply PGuard.lazy; intro hg) | apply PStb.of); (focus ((conv => whnf); (repeat ((first | refine PNeed.of gA ?_ | refine PLoad.box rfl ?_ | refine PLook.set ?_ | refine PSide.of bA ?_ | refine PSide.of rfl ?_ | refine PRow.one rfl rfl ?_ | refine PRow.none ?_ | refine PLoad.ep rfl ?_ | refine PLen.map ?_ | refine PIndexS.ix OA OA ?_ | refine PIndexA.ix OA OA ?_ | refine PIndexA.lit rfl ?_ | refine PInt.ok OA OA ?_ | refine PDiv.of OA ?_ | refine PSide.of NA ?_ | refine PSliceS.lo OA OA ?_ | refine PSliceL.lo OA OA ?_ | refine PSliceS.hi OA OA ?_ | refine PSliceL.hi OA OA ?_ | intro _); conv => whnf)); exact And.intro rfl rfl))) | refine PLoad.box rfl ?_ | refine PLook.set ?_ | refine PSide.of bA ?_ | refine PSide.of rfl ?_ | refine PRow.one rfl rfl ?_ | refine PRow.none ?_ | refine PLoad.ep rfl ?_ | refine PLen.map ?_ | refine PIndexS.ix oA oA ?_ | refine PIndexA.ix oA oA ?_ | refine PIndexA.lit rfl ?_ | refine PInt.ok oA oA ?_ | refine PDiv.of oA ?_ | refine PSide.of nA ?_ | refine PSliceS.lo oA oA ?_ | refine PSliceL.lo oA oA ?_ | refine PSliceS.hi oA oA ?_ | refine PSliceL.hi oA oA ?_ | refine PStore.box rfl rfl rfl ?_ | refine PBytes.mk ?_ | refine PMapPut.set ?_ | refine PMapDel.set ?_ | refine PDraw.at_ (some 73) rfl tt_ok mixed [0, 1, 3, 7, 7, 23, 63, 127, 7, 7, 775, 1799, 4095, 8191, 16383] [0, 1, 2, 3, 4, 5, 6, 7, 8, 9, 10, 11, 12, 13, 14] [] [] [] (by kernel_rfl) ?_ | intro _ | refine PSeq.go ?_); conv => whnf) | (refine PCond.ways (fun hc => ?_) (fun hc => ?_) <;> (try simp only [SS, not_true_eq_false, not_false_eq_true, false_and, and_false, true_and, and_true, true_or, or_true, false_or, or_false] at hc) <;> first | (exfalso; omega) | (conv => whnf)))
  refine PCall.go (insertion1_c t x ht hs) (WkT.refl _) ?_
  rintro _ _ rfl
  conv => whnf
  repeat' (first | ((first | ((first | (apply PGuard.lazy; intro hg) | apply PStb.of); (focus ((conv => whnf); (repeat ((first | refine PNeed.of gA ?_ | refine PLoad.box rfl ?_ | refine PLook.set ?_ | refine PSide.of bA ?_ | refine PSide.of rfl ?_ | refine PRow.one rfl rfl ?_ | refine PRow.none ?_ | refine PLoad.ep rfl ?_ | refine PLen.map ?_ | refine PIndexS.ix OA OA ?_ | refine PIndexA.ix OA OA ?_ | refine PIndexA.lit rfl ?_ | refine PInt.ok OA OA ?_ | refine PDiv.of OA ?_ | refine PSide.of NA ?_ | refine PSliceS.lo OA OA ?_ | refine PSliceL.lo OA OA ?_ | refine PSliceS.hi OA OA ?_ | refine PSliceL.hi OA OA ?_ | intro _); conv => whnf)); exact And.intro rfl rfl))) | refine PLoad.box rfl ?_ | refine PLook.set ?_ | refine PSide.of bA ?_ | refine PSide.of rfl ?_ | refine PRow.one rfl rfl ?_ | refine PRow.none ?_ | refine PLoad.ep rfl ?_ | refine PLen.map ?_ | refine PIndexS.ix oA oA ?_ | refine PIndexA.ix oA oA ?_ | refine PIndexA.lit rfl ?_ | refine PInt.ok oA oA ?_ | refine PDiv.of oA ?_ | refine PSide.of nA ?_ | refine PSliceS.lo oA oA ?_ | refine PSliceL.lo oA oA ?_ | refine PSliceS.hi oA oA ?_ | refine PSliceL.hi oA oA ?_ | refine PStore.box rfl rfl rfl ?_ | refine PBytes.mk ?_ | refine PMapPut.set ?_ | refine PMapDel.set ?_ | refine PDraw.at_ (some 73) rfl tt_ok mixed [0, 1, 3, 7, 7, 23, 63, 127, 7, 7, 775, 1799, 4095, 8191, 16383] [0, 1, 2, 3, 4, 5, 6, 7, 8, 9, 10, 11, 12, 13, 14] [] [] [] (by kernel_rfl) ?_ | intro _ | refine PSeq.go ?_); conv => whnf) | (refine PCond.ways (fun hc => ?_) (fun hc => ?_) <;> (try simp only [SS, not_true_eq_false, not_false_eq_true, false_and, and_false, true_and, and_true, true_or, or_true, false_or, or_false] at hc) <;> first | (exfalso; omega) | (conv => whnf)))
  exact PRet.gen (Wk.refl _) rfl
theorem compact1_c (t : Tok) (x : Int) (ht : t.e = 3) (hs : t.s = 1) : ACall Tryz.prog 112 [.ms t] [.row t [.int .i64 x]] (fun y Γ' => y = .ms t ∧ Γ' = [.row t [.int .i64 x]]) := by
  refine ACall.of_body tt_ok Tryz.func112 rfl rfl (n := 61) rfl rfl ?_
  conv => whnf
  repeat ((first | ((first | (apply PGuard.lazy; intro hg) | apply PStb.of); (focus ((conv => whnf); (repeat ((first | refine PNeed.of gA ?_ | refine PLoad.box rfl ?_ | refine PLook.set ?_ | refine PSide.of bA ?_ | refine PSide.of rfl ?_ | refine PRow.one rfl rfl ?_ | refine PRow.none ?_ | refine PLoad.ep rfl ?_ | refine PLen.map ?_ | refine PIndexS.ix OA OA ?_ | refine PIndexA.ix OA OA ?_ | refine PIndexA.lit rfl ?_ | refine PInt.ok OA OA ?_ | refine PDiv.of OA ?_ | refine PSide.of NA ?_ | refine PSliceS.lo OA OA ?_ | refine PSliceL.lo OA OA ?_ | refine PSliceS.hi OA OA ?_ | refine PSliceL.hi OA OA ?_ | intro _); conv => whnf)); exact And.intro rfl rfl))) | refine PLoad.box rfl ?_ | refine PLook.set ?_ | refine PSide.of bA ?_ | refine PSide.of rfl ?_ | refine PRow.one rfl rfl ?_ | refine PRow.none ?_ | refine PLoad.ep rfl ?_ | refine PLen.map ?_ | refine PIndexS.ix oA oA ?_ | refine PIndexA.ix oA oA ?_ | refine PIndexA.lit rfl ?_ | refine PInt.ok oA oA ?_ | refine PDiv.of oA ?_ | refine PSide.of nA ?_ | refine PSliceS.lo oA oA ?_ | refine PSliceL.lo oA oA ?_ | refine PSliceS.hi oA oA ?_ | refine PSliceL.hi oA oA ?_ | refine PStore.box rfl rfl rfl ?_ | refine PBytes.mk ?_ | refine PMapPut.set ?_ | refine PMapDel.set ?_ | refine PDraw.at_ (some 16) rfl tt_ok mixed [0, 0, 3, 7, 0, 0, 32, 112, 240, 511] [0, 1, 2, 3, 4, 5, 6, 7, 8, 9] [] [] [] (by kernel_rfl) ?_ | refine PDraw.at_ (some 35) rfl tt_ok mixed [0, 0, 3, 7, 0, 0, 32, 112, 240, 511] [0, 1, 2, 3, 4, 5, 6, 7, 8, 9] [] [] [] (by kernel_rfl) ?_ | intro _); conv => whnf)
  conv => whnf
  repeat' (first | ((first | ((first | (apply PGuard.lazy; intro hg) | apply PStb.of); (focus ((conv => whnf); (repeat ((first | refine PNeed.of gA ?_ | refine PLoad.box rfl ?_ | refine PLook.set ?_ | refine PSide.of bA ?_ | refine PSide.of rfl ?_ | refine PRow.one rfl rfl ?_ | refine PRow.none ?_ | refine PLoad.ep rfl ?_ | refine PLen.map ?_ | refine PIndexS.ix OA OA ?_ | refine PIndexA.ix OA OA ?_ | refine PIndexA.lit rfl ?_ | refine PInt.ok OA OA ?_ | refine PDiv.of OA ?_ | refine PSide.of NA ?_ | refine PSliceS.lo OA OA ?_ | refine PSliceL.lo OA OA ?_ | refine PSliceS.hi OA OA ?_ | refine PSliceL.hi OA OA ?_ | intro _); conv => whnf)); exact And.intro rfl rfl))) | refine PLoad.box rfl ?_ | refine PLook.set ?_ | refine PSide.of bA ?_ | refine PSide.of rfl ?_ | refine PRow.one rfl rfl ?_ | refine PRow.none ?_ | refine PLoad.ep rfl ?_ | refine PLen.map ?_ | refine PIndexS.ix oA oA ?_ | refine PIndexA.ix oA oA ?_ | refine PIndexA.lit rfl ?_ | refine PInt.ok oA oA ?_ | refine PDiv.of oA ?_ | refine PSide.of nA ?_ | refine PSliceS.lo oA oA ?_ | refine PSliceL.lo oA oA ?_ | refine PSliceS.hi oA oA ?_ | refine PSliceL.hi oA oA ?_ | refine PStore.box rfl rfl rfl ?_ | refine PBytes.mk ?_ | refine PMapPut.set ?_ | refine PMapDel.set ?_ | refine PDraw.at_ (some 16) rfl tt_ok mixed [0, 0, 3, 7, 0, 0, 32, 112, 240, 511] [0, 1, 2, 3, 4, 5, 6, 7, 8, 9] [] [] [] (by kernel_rfl) ?_ | refine PDraw.at_ (some 35) rfl tt_ok mixed [0, 0, 3, 7, 0, 0, 32, 112, 240, 511] [0, 1, 2, 3, 4, 5, 6, 7, 8, 9] [] [] [] (by kernel_rfl) ?_ | intro _ | refine PSeq.go ?_); conv => whnf) | (refine PCond.ways (fun hc => ?_) (fun hc => ?_) <;> (try simp only [SS, not_true_eq_false, not_false_eq_true, false_and, and_false, true_and, and_true, true_or, or_true, false_or, or_false] at hc) <;> first | (exfalso; omega) | (conv => whnf)))
  refine PLenM.one ?_
  conv => whnf
  repeat' (first | ((first | ((first | (apply PGuard.lazy; intro hg) | apply PStb.of); (focus ((conv => whnf); (repeat ((first | refine PNeed.of gA ?_ | refine PLoad.box rfl ?_ | refine PLook.set ?_ | refine PSide.of bA ?_ | refine PSide.of rfl ?_ | refine PRow.one rfl rfl ?_ | refine PRow.none ?_ | refine PLoad.ep rfl ?_ | refine PLen.map ?_ | refine PIndexS.ix OA OA ?_ | refine PIndexA.ix OA OA ?_ | refine PIndexA.lit rfl ?_ | refine PInt.ok OA OA ?_ | refine PDiv.of OA ?_ | refine PSide.of NA ?_ | refine PSliceS.lo OA OA ?_ | refine PSliceL.lo OA OA ?_ | refine PSliceS.hi OA OA ?_ | refine PSliceL.hi OA OA ?_ | intro _); conv => whnf)); exact And.intro rfl rfl))) | refine PLoad.box rfl ?_ | refine PLook.set ?_ | refine PSide.of bA ?_ | refine PSide.of rfl ?_ | refine PRow.one rfl rfl ?_ | refine PRow.none ?_ | refine PLoad.ep rfl ?_ | refine PLen.map ?_ | refine PIndexS.ix oA oA ?_ | refine PIndexA.ix oA oA ?_ | refine PIndexA.lit rfl ?_ | refine PInt.ok oA oA ?_ | refine PDiv.of oA ?_ | refine PSide.of nA ?_ | refine PSliceS.lo oA oA ?_ | refine PSliceL.lo oA oA ?_ | refine PSliceS.hi oA oA ?_ | refine PSliceL.hi oA oA ?_ | refine PStore.box rfl rfl rfl ?_ | refine PBytes.mk ?_ | refine PMapPut.set ?_ | refine PMapDel.set ?_ | refine PDraw.at_ (some 16) rfl tt_ok mixed [0, 0, 3, 7, 0, 0, 32, 112, 240, 511] [0, 1, 2, 3, 4, 5, 6, 7, 8, 9] [] [] [] (by kernel_rfl) ?_ | refine PDraw.at_ (some 35) rfl tt_ok mixed [0, 0, 3, 7, 0, 0, 32, 112, 240, 511] [0, 1, 2, 3, 4, 5, 6, 7, 8, 9] [] [] [] (by kernel_rfl) ?_ | intro _ | refine PSeq.go ?_); conv => whnf) | (refine PCond.ways (fun hc => ?_) (fun hc => ?_) <;> (try simp only [SS, not_true_eq_false, not_false_eq_true, false_and, and_false, true_and, and_true, true_or, or_true, false_or, or_false] at hc) <;> first | (exfalso; omega) | (conv => whnf)))
  exact PRet.gen (Wk.refl _) ⟨rfl, rfl⟩
theorem sort1_c (t : Tok) (x : Int) (ht : t.e = 3) (hs : t.s = 1) : ACall Tryz.prog 111 [.ms t] [.row t [.int .i64 x]] (fun _ Γ' => Γ' = [.row t [.int .i64 x]]) := by
  refine ACall.of_body tt_ok Tryz.func111 rfl rfl (n := 11) rfl rfl ?_
  conv => whnf
  repeat ((first | ((first | (apply PGuard.lazy; intro hg) | apply PStb.of); (focus ((conv => whnf); (repeat ((first | refine PNeed.of gA ?_ | refine PLoad.box rfl ?_ | refine PLook.set ?_ | refine PSide.of bA ?_ | refine PSide.of rfl ?_ | refine PRow.one rfl rfl ?_ | refine PRow.none ?_ | refine PLoad.ep rfl ?_ | refine PLen.map ?_ | refine PIndexS.ix OA OA ?_ | refine PIndexA.ix OA OA ?_ | refine PIndexA.lit rfl ?_ | refine PInt.ok OA OA ?_ | refine PDiv.of OA ?_ | refine PSide.of NA ?_ | refine PSliceS.lo OA OA ?_ | refine PSliceL.lo OA OA ?_ | refine PSliceS.hi OA OA ?_ | refine PSliceL.hi OA OA ?_ | intro _); conv => whnf)); exact And.intro rfl rfl))) | refine PLoad.box rfl ?_ | refine PLook.set ?_ | refine PSide.of bA ?_ | refine PSide.of rfl ?_ | refine PRow.one rfl rfl ?_ | refine PRow.none ?_ | refine PLoad.ep rfl ?_ | refine PLen.map ?_ | refine PIndexS.ix oA oA ?_ | refine PIndexA.ix oA oA ?_ | refine PIndexA.lit rfl ?_ | refine PInt.ok oA oA ?_ | refine PDiv.of oA ?_ | refine PSide.of nA ?_ | refine PSliceS.lo oA oA ?_ | refine PSliceL.lo oA oA ?_ | refine PSliceS.hi oA oA ?_ | refine PSliceL.hi oA oA ?_ | refine PStore.box rfl rfl rfl ?_ | refine PBytes.mk ?_ | refine PMapPut.set ?_ | refine PMapDel.set ?_ | intro _); conv => whnf)
  conv => whnf
  repeat' (first | ((first | ((first | (apply PGuard.lazy; intro hg) | apply PStb.of); (focus ((conv => whnf); (repeat ((first | refine PNeed.of gA ?_ | refine PLoad.box rfl ?_ | refine PLook.set ?_ | refine PSide.of bA ?_ | refine PSide.of rfl ?_ | refine PRow.one rfl rfl ?_ | refine PRow.none ?_ | refine PLoad.ep rfl ?_ | refine PLen.map ?_ | refine PIndexS.ix OA OA ?_ | refine PIndexA.ix OA OA ?_ | refine PIndexA.lit rfl ?_ | refine PInt.ok OA OA ?_ | refine PDiv.of OA ?_ | refine PSide.of NA ?_ | refine PSliceS.lo OA OA ?_ | refine PSliceL.lo OA OA ?_ | refine PSliceS.hi OA OA ?_ | refine PSliceL.hi OA OA ?_ | intro _); conv => whnf)); exact And.intro rfl rfl))) | refine PLoad.box rfl ?_ | refine PLook.set ?_ | refine PSide.of bA ?_ | refine PSide.of rfl ?_ | refine PRow.one rfl rfl ?_ | refine PRow.none ?_ | refine PLoad.ep rfl ?_ | refine PLen.map ?_ | refine PIndexS.ix oA oA ?_ | refine PIndexA.ix oA oA ?_ | refine PIndexA.lit rfl ?_ | refine PInt.ok oA oA ?_ | refine PDiv.of oA ?_ | refine PSide.of nA ?_ | refine PSliceS.lo oA oA ?_ | refine PSliceL.lo oA oA ?_ | refine PSliceS.hi oA oA ?_ | refine PSliceL.hi oA oA ?_ | refine PStore.box rfl rfl rfl ?_ | refine PBytes.mk ?_ | refine PMapPut.set ?_ | refine PMapDel.set ?_ | intro _ | refine PSeq.go ?_); conv => whnf) | (refine PCond.ways (fun hc => ?_) (fun hc => ?_) <;> (try simp only [SS, not_true_eq_false, not_false_eq_true, false_and, and_false, true_and, and_true, true_or, or_true, false_or, or_false] at hc) <;> first | (exfalso; omega) | (conv => whnf)))
  refine PLenM.one ?_
  conv => whnf
  repeat' (first | ((first | ((first | (apply PGuard.lazy; intro hg) | apply PStb.of); (focus ((conv => whnf); (repeat ((first | refine PNeed.of gA ?_ | refine PLoad.box rfl ?_ | refine PLook.set ?_ | refine PSide.of bA ?_ | refine PSide.of rfl ?_ | refine PRow.one rfl rfl ?_ | refine PRow.none ?_ | refine PLoad.ep rfl ?_ | refine PLen.map ?_ | refine PIndexS.ix OA OA ?_ | refine PIndexA.ix OA OA ?_ | refine PIndexA.lit rfl ?_ | refine PInt.ok OA OA ?_ | refine PDiv.of OA ?_ | refine PSide.of NA ?_ | refine PSliceS.lo OA OA ?_ | refine PSliceL.lo OA OA ?_ | refine PSliceS.hi OA OA ?_ | refine PSliceL.hi OA OA ?_ | intro _); conv => whnf)); exact And.intro rfl rfl))) | refine PLoad.box rfl ?_ | refine PLook.set ?_ | refine PSide.of bA ?_ | refine PSide.of rfl ?_ | refine PRow.one rfl rfl ?_ | refine PRow.none ?_ | refine PLoad.ep rfl ?_ | refine PLen.map ?_ | refine PIndexS.ix oA oA ?_ | refine PIndexA.ix oA oA ?_ | refine PIndexA.lit rfl ?_ | refine PInt.ok oA oA ?_ | refine PDiv.of oA ?_ | refine PSide.of nA ?_ | refine PSliceS.lo oA oA ?_ | refine PSliceL.lo oA oA ?_ | refine PSliceS.hi oA oA ?_ | refine PSliceL.hi oA oA ?_ | refine PStore.box rfl rfl rfl ?_ | refine PBytes.mk ?_ | refine PMapPut.set ?_ | refine PMapDel.set ?_ | intro _ | refine PSeq.go ?_); conv => whnf) | (refine PCond.ways (fun hc => ?_) (fun hc => ?_) <;> (try simp only [SS, not_true_eq_false, not_false_eq_true, false_and, and_false, true_and, and_true, true_or, or_true, false_or, or_false] at hc) <;> first | (exfalso; omega) | (conv => whnf)))
  refine PCall.go len_c (WkT.refl _) ?_
  rintro _ _ ⟨k, rfl, rfl⟩
  conv => whnf
  repeat' (first | ((first | ((first | (apply PGuard.lazy; intro hg) | apply PStb.of); (focus ((conv => whnf); (repeat ((first | refine PNeed.of gA ?_ | refine PLoad.box rfl ?_ | refine PLook.set ?_ | refine PSide.of bA ?_ | refine PSide.of rfl ?_ | refine PRow.one rfl rfl ?_ | refine PRow.none ?_ | refine PLoad.ep rfl ?_ | refine PLen.map ?_ | refine PIndexS.ix OA OA ?_ | refine PIndexA.ix OA OA ?_ | refine PIndexA.lit rfl ?_ | refine PInt.ok OA OA ?_ | refine PDiv.of OA ?_ | refine PSide.of NA ?_ | refine PSliceS.lo OA OA ?_ | refine PSliceL.lo OA OA ?_ | refine PSliceS.hi OA OA ?_ | refine PSliceL.hi OA OA ?_ | intro _); conv => whnf)); exact And.intro rfl rfl))) | refine PLoad.box rfl ?_ | refine PLook.set ?_ | refine PSide.of bA ?_ | refine PSide.of rfl ?_ | refine PRow.one rfl rfl ?_ | refine PRow.none ?_ | refine PLoad.ep rfl ?_ | refine PLen.map ?_ | refine PIndexS.ix oA oA ?_ | refine PIndexA.ix oA oA ?_ | refine PIndexA.lit rfl ?_ | refine PInt.ok oA oA ?_ | refine PDiv.of oA ?_ | refine PSide.of nA ?_ | refine PSliceS.lo oA oA ?_ | refine PSliceL.lo oA oA ?_ | refine PSliceS.hi oA oA ?_ | refine PSliceL.hi oA oA ?_ | refine PStore.box rfl rfl rfl ?_ | refine PBytes.mk ?_ | refine PMapPut.set ?_ | refine PMapDel.set ?_ | intro _ | refine PSeq.go ?_); conv => whnf) | (refine PCond.ways (fun hc => ?_) (fun hc => ?_) <;> (try simp only [SS, not_true_eq_false, not_false_eq_true, false_and, and_false, true_and, and_true, true_or, or_true, false_or, or_false] at hc) <;> first | (exfalso; omega) | (conv => whnf)))
  refine PCall.go (pdq1_c t x k ht hs) (WkT.refl _) ?_
  rintro _ _ rfl
  conv => whnf
  repeat' (first | ((first | ((first | (apply PGuard.lazy; intro hg) | apply PStb.of); (focus ((conv => whnf); (repeat ((first | refine PNeed.of gA ?_ | refine PLoad.box rfl ?_ | refine PLook.set ?_ | refine PSide.of bA ?_ | refine PSide.of rfl ?_ | refine PRow.one rfl rfl ?_ | refine PRow.none ?_ | refine PLoad.ep rfl ?_ | refine PLen.map ?_ | refine PIndexS.ix OA OA ?_ | refine PIndexA.ix OA OA ?_ | refine PIndexA.lit rfl ?_ | refine PInt.ok OA OA ?_ | refine PDiv.of OA ?_ | refine PSide.of NA ?_ | refine PSliceS.lo OA OA ?_ | refine PSliceL.lo OA OA ?_ | refine PSliceS.hi OA OA ?_ | refine PSliceL.hi OA OA ?_ | intro _); conv => whnf)); exact And.intro rfl rfl))) | refine PLoad.box rfl ?_ | refine PLook.set ?_ | refine PSide.of bA ?_ | refine PSide.of rfl ?_ | refine PRow.one rfl rfl ?_ | refine PRow.none ?_ | refine PLoad.ep rfl ?_ | refine PLen.map ?_ | refine PIndexS.ix oA oA ?_ | refine PIndexA.ix oA oA ?_ | refine PIndexA.lit rfl ?_ | refine PInt.ok oA oA ?_ | refine PDiv.of oA ?_ | refine PSide.of nA ?_ | refine PSliceS.lo oA oA ?_ | refine PSliceL.lo oA oA ?_ | refine PSliceS.hi oA oA ?_ | refine PSliceL.hi oA oA ?_ | refine PStore.box rfl rfl rfl ?_ | refine PBytes.mk ?_ | refine PMapPut.set ?_ | refine PMapDel.set ?_ | intro _ | refine PSeq.go ?_); conv => whnf) | (refine PCond.ways (fun hc => ?_) (fun hc => ?_) <;> (try simp only [SS, not_true_eq_false, not_false_eq_true, false_and, and_false, true_and, and_true, true_or, or_true, false_or, or_false] at hc) <;> first | (exfalso; omega) | (conv => whnf)))
  exact PRet.gen (Wk.refl _) rfl
end Go.Cb
namespace Go.Cb
open Go.Proofs
set_option maxRecDepth 100000
set_option maxHeartbeats 4000000
def namesB (op : Int) : Bool := op == 1 || op == 2 || op == 14
theorem names_c (t : Trm) : ACallP Tryz.prog 63 [.agg t.cells] (.bool (namesB t.op)) := by
  refine ACall.of_body tt_ok Tryz.func63 rfl rfl (n := 16) rfl rfl ?_
  conv => whnf
  repeat ((first | ((first | (apply PGuard.lazy; intro hg) | apply PStb.of); (focus ((conv => whnf); (repeat ((first | refine PNeed.of gA ?_ | refine PLoad.box rfl ?_ | refine PLook.set ?_ | refine PSide.of bA ?_ | refine PSide.of rfl ?_ | refine PRow.one rfl rfl ?_ | refine PRow.none ?_ | refine PLoad.ep rfl ?_ | refine PLen.map ?_ | refine PIndexS.ix OA OA ?_ | refine PIndexA.ix OA OA ?_ | refine PIndexA.lit rfl ?_ | refine PInt.ok OA OA ?_ | refine PDiv.of OA ?_ | refine PSide.of NA ?_ | refine PSliceS.lo OA OA ?_ | refine PSliceL.lo OA OA ?_ | refine PSliceS.hi OA OA ?_ | refine PSliceL.hi OA OA ?_ | intro _); conv => whnf)); exact And.intro rfl rfl))) | refine PLoad.box rfl ?_ | refine PLook.set ?_ | refine PSide.of bA ?_ | refine PSide.of rfl ?_ | refine PRow.one rfl rfl ?_ | refine PRow.none ?_ | refine PLoad.ep rfl ?_ | refine PLen.map ?_ | refine PIndexS.ix oA oA ?_ | refine PIndexA.ix oA oA ?_ | refine PIndexA.lit rfl ?_ | refine PInt.ok oA oA ?_ | refine PDiv.of oA ?_ | refine PSide.of nA ?_ | refine PSliceS.lo oA oA ?_ | refine PSliceL.lo oA oA ?_ | refine PSliceS.hi oA oA ?_ | refine PSliceL.hi oA oA ?_ | refine PStore.box rfl rfl rfl ?_ | refine PBytes.mk ?_ | refine PMapPut.set ?_ | refine PMapDel.set ?_ | intro _); conv => whnf)
  conv => whnf
  repeat' (first | ((first | ((first | (apply PGuard.lazy; intro hg) | apply PStb.of); (focus ((conv => whnf); (repeat ((first | refine PNeed.of gA ?_ | refine PLoad.box rfl ?_ | refine PLook.set ?_ | refine PSide.of bA ?_ | refine PSide.of rfl ?_ | refine PRow.one rfl rfl ?_ | refine PRow.none ?_ | refine PLoad.ep rfl ?_ | refine PLen.map ?_ | refine PIndexS.ix OA OA ?_ | refine PIndexA.ix OA OA ?_ | refine PIndexA.lit rfl ?_ | refine PInt.ok OA OA ?_ | refine PDiv.of OA ?_ | refine PSide.of NA ?_ | refine PSliceS.lo OA OA ?_ | refine PSliceL.lo OA OA ?_ | refine PSliceS.hi OA OA ?_ | refine PSliceL.hi OA OA ?_ | intro _); conv => whnf)); exact And.intro rfl rfl))) | refine PLoad.box rfl ?_ | refine PLook.set ?_ | refine PSide.of bA ?_ | refine PSide.of rfl ?_ | refine PRow.one rfl rfl ?_ | refine PRow.none ?_ | refine PLoad.ep rfl ?_ | refine PLen.map ?_ | refine PIndexS.ix oA oA ?_ | refine PIndexA.ix oA oA ?_ | refine PIndexA.lit rfl ?_ | refine PInt.ok oA oA ?_ | refine PDiv.of oA ?_ | refine PSide.of nA ?_ | refine PSliceS.lo oA oA ?_ | refine PSliceL.lo oA oA ?_ | refine PSliceS.hi oA oA ?_ | refine PSliceL.hi oA oA ?_ | refine PStore.box rfl rfl rfl ?_ | refine PBytes.mk ?_ | refine PMapPut.set ?_ | refine PMapDel.set ?_ | intro _ | refine PSeq.go ?_); conv => whnf) | (refine PCond.ways (fun hc => ?_) (fun hc => ?_) <;> (try simp only [SS, not_true_eq_false, not_false_eq_true, false_and, and_false, true_and, and_true, true_or, or_true, false_or, or_false] at hc) <;> first | (exfalso; omega) | (conv => whnf)))
  exact PRet.pure (Wk.refl _)
def freeOf (l : List (Trm × List Int)) : List Int := (l.filter fun m => namesB m.1.op && !m.2.contains m.1.n).map fun m => m.1.n
theorem rising1_c (t : Tok) (x : Int) (ht : t.e = 3) (hs : t.s = 1) : ACall Tryz.prog 62 [.ms t] [.row t [.int .i64 x]] (fun y Γ' => y = .ms t ∧ Γ' = [.row t [.int .i64 x]]) := by
  refine ACall.of_body tt_ok Tryz.func62 rfl rfl (n := 7) rfl rfl ?_
  conv => whnf
  repeat ((first | ((first | (apply PGuard.lazy; intro hg) | apply PStb.of); (focus ((conv => whnf); (repeat ((first | refine PNeed.of gA ?_ | refine PLoad.box rfl ?_ | refine PLook.set ?_ | refine PSide.of bA ?_ | refine PSide.of rfl ?_ | refine PRow.one rfl rfl ?_ | refine PRow.none ?_ | refine PLoad.ep rfl ?_ | refine PLen.map ?_ | refine PIndexS.ix OA OA ?_ | refine PIndexA.ix OA OA ?_ | refine PIndexA.lit rfl ?_ | refine PInt.ok OA OA ?_ | refine PDiv.of OA ?_ | refine PSide.of NA ?_ | refine PSliceS.lo OA OA ?_ | refine PSliceL.lo OA OA ?_ | refine PSliceS.hi OA OA ?_ | refine PSliceL.hi OA OA ?_ | intro _); conv => whnf)); exact And.intro rfl rfl))) | refine PLoad.box rfl ?_ | refine PLook.set ?_ | refine PSide.of bA ?_ | refine PSide.of rfl ?_ | refine PRow.one rfl rfl ?_ | refine PRow.none ?_ | refine PLoad.ep rfl ?_ | refine PLen.map ?_ | refine PIndexS.ix oA oA ?_ | refine PIndexA.ix oA oA ?_ | refine PIndexA.lit rfl ?_ | refine PInt.ok oA oA ?_ | refine PDiv.of oA ?_ | refine PSide.of nA ?_ | refine PSliceS.lo oA oA ?_ | refine PSliceL.lo oA oA ?_ | refine PSliceS.hi oA oA ?_ | refine PSliceL.hi oA oA ?_ | refine PStore.box rfl rfl rfl ?_ | refine PBytes.mk ?_ | refine PMapPut.set ?_ | refine PMapDel.set ?_ | intro _); conv => whnf)
  conv => whnf
  repeat' (first | ((first | ((first | (apply PGuard.lazy; intro hg) | apply PStb.of); (focus ((conv => whnf); (repeat ((first | refine PNeed.of gA ?_ | refine PLoad.box rfl ?_ | refine PLook.set ?_ | refine PSide.of bA ?_ | refine PSide.of rfl ?_ | refine PRow.one rfl rfl ?_ | refine PRow.none ?_ | refine PLoad.ep rfl ?_ | refine PLen.map ?_ | refine PIndexS.ix OA OA ?_ | refine PIndexA.ix OA OA ?_ | refine PIndexA.lit rfl ?_ | refine PInt.ok OA OA ?_ | refine PDiv.of OA ?_ | refine PSide.of NA ?_ | refine PSliceS.lo OA OA ?_ | refine PSliceL.lo OA OA ?_ | refine PSliceS.hi OA OA ?_ | refine PSliceL.hi OA OA ?_ | intro _); conv => whnf)); exact And.intro rfl rfl))) | refine PLoad.box rfl ?_ | refine PLook.set ?_ | refine PSide.of bA ?_ | refine PSide.of rfl ?_ | refine PRow.one rfl rfl ?_ | refine PRow.none ?_ | refine PLoad.ep rfl ?_ | refine PLen.map ?_ | refine PIndexS.ix oA oA ?_ | refine PIndexA.ix oA oA ?_ | refine PIndexA.lit rfl ?_ | refine PInt.ok oA oA ?_ | refine PDiv.of oA ?_ | refine PSide.of nA ?_ | refine PSliceS.lo oA oA ?_ | refine PSliceL.lo oA oA ?_ | refine PSliceS.hi oA oA ?_ | refine PSliceL.hi oA oA ?_ | refine PStore.box rfl rfl rfl ?_ | refine PBytes.mk ?_ | refine PMapPut.set ?_ | refine PMapDel.set ?_ | intro _ | refine PSeq.go ?_); conv => whnf) | (refine PCond.ways (fun hc => ?_) (fun hc => ?_) <;> (try simp only [SS, not_true_eq_false, not_false_eq_true, false_and, and_false, true_and, and_true, true_or, or_true, false_or, or_false] at hc) <;> first | (exfalso; omega) | (conv => whnf)))
  refine PCall.go (sort1_c t x ht hs) (WkT.refl _) ?_
  rintro _ _ rfl
  conv => whnf
  repeat' (first | ((first | ((first | (apply PGuard.lazy; intro hg) | apply PStb.of); (focus ((conv => whnf); (repeat ((first | refine PNeed.of gA ?_ | refine PLoad.box rfl ?_ | refine PLook.set ?_ | refine PSide.of bA ?_ | refine PSide.of rfl ?_ | refine PRow.one rfl rfl ?_ | refine PRow.none ?_ | refine PLoad.ep rfl ?_ | refine PLen.map ?_ | refine PIndexS.ix OA OA ?_ | refine PIndexA.ix OA OA ?_ | refine PIndexA.lit rfl ?_ | refine PInt.ok OA OA ?_ | refine PDiv.of OA ?_ | refine PSide.of NA ?_ | refine PSliceS.lo OA OA ?_ | refine PSliceL.lo OA OA ?_ | refine PSliceS.hi OA OA ?_ | refine PSliceL.hi OA OA ?_ | intro _); conv => whnf)); exact And.intro rfl rfl))) | refine PLoad.box rfl ?_ | refine PLook.set ?_ | refine PSide.of bA ?_ | refine PSide.of rfl ?_ | refine PRow.one rfl rfl ?_ | refine PRow.none ?_ | refine PLoad.ep rfl ?_ | refine PLen.map ?_ | refine PIndexS.ix oA oA ?_ | refine PIndexA.ix oA oA ?_ | refine PIndexA.lit rfl ?_ | refine PInt.ok oA oA ?_ | refine PDiv.of oA ?_ | refine PSide.of nA ?_ | refine PSliceS.lo oA oA ?_ | refine PSliceL.lo oA oA ?_ | refine PSliceS.hi oA oA ?_ | refine PSliceL.hi oA oA ?_ | refine PStore.box rfl rfl rfl ?_ | refine PBytes.mk ?_ | refine PMapPut.set ?_ | refine PMapDel.set ?_ | intro _ | refine PSeq.go ?_); conv => whnf) | (refine PCond.ways (fun hc => ?_) (fun hc => ?_) <;> (try simp only [SS, not_true_eq_false, not_false_eq_true, false_and, and_false, true_and, and_true, true_or, or_true, false_or, or_false] at hc) <;> first | (exfalso; omega) | (conv => whnf)))
  refine PCall.go (compact1_c t x ht hs) (WkT.refl _) ?_
  rintro _ _ ⟨rfl, rfl⟩
  conv => whnf
  repeat' (first | ((first | ((first | (apply PGuard.lazy; intro hg) | apply PStb.of); (focus ((conv => whnf); (repeat ((first | refine PNeed.of gA ?_ | refine PLoad.box rfl ?_ | refine PLook.set ?_ | refine PSide.of bA ?_ | refine PSide.of rfl ?_ | refine PRow.one rfl rfl ?_ | refine PRow.none ?_ | refine PLoad.ep rfl ?_ | refine PLen.map ?_ | refine PIndexS.ix OA OA ?_ | refine PIndexA.ix OA OA ?_ | refine PIndexA.lit rfl ?_ | refine PInt.ok OA OA ?_ | refine PDiv.of OA ?_ | refine PSide.of NA ?_ | refine PSliceS.lo OA OA ?_ | refine PSliceL.lo OA OA ?_ | refine PSliceS.hi OA OA ?_ | refine PSliceL.hi OA OA ?_ | intro _); conv => whnf)); exact And.intro rfl rfl))) | refine PLoad.box rfl ?_ | refine PLook.set ?_ | refine PSide.of bA ?_ | refine PSide.of rfl ?_ | refine PRow.one rfl rfl ?_ | refine PRow.none ?_ | refine PLoad.ep rfl ?_ | refine PLen.map ?_ | refine PIndexS.ix oA oA ?_ | refine PIndexA.ix oA oA ?_ | refine PIndexA.lit rfl ?_ | refine PInt.ok oA oA ?_ | refine PDiv.of oA ?_ | refine PSide.of nA ?_ | refine PSliceS.lo oA oA ?_ | refine PSliceL.lo oA oA ?_ | refine PSliceS.hi oA oA ?_ | refine PSliceL.hi oA oA ?_ | refine PStore.box rfl rfl rfl ?_ | refine PBytes.mk ?_ | refine PMapPut.set ?_ | refine PMapDel.set ?_ | intro _ | refine PSeq.go ?_); conv => whnf) | (refine PCond.ways (fun hc => ?_) (fun hc => ?_) <;> (try simp only [SS, not_true_eq_false, not_false_eq_true, false_and, and_false, true_and, and_true, true_or, or_true, false_or, or_false] at hc) <;> first | (exfalso; omega) | (conv => whnf)))
  exact PRet.gen (Wk.refl _) ⟨rfl, rfl⟩
theorem free1_c0 (t : Trm) (x : Int) (hb : t.bulk ≤ 1000000000) (hx : freeOf t.all = [x]) : ACall Tryz.prog 35 [.agg t.cells] [] (fun y Γ' => ∃ t : Tok, t.e = 3 ∧ t.s = 1 ∧ y = .ms t ∧ Γ' = [.row t [.int .i64 x]]) := by
  have hlen : t.all.length ≤ t.bulk := t.met_len [] 0
  refine ACall.of_body tt_ok Tryz.func35 rfl rfl (n := 28) rfl rfl ?_
  conv => whnf
  repeat ((first | ((first | (apply PGuard.lazy; intro hg) | apply PStb.of); (focus ((conv => whnf); (repeat ((first | refine PNeed.of gA ?_ | refine PLoad.box rfl ?_ | refine PLook.set ?_ | refine PSide.of bA ?_ | refine PSide.of rfl ?_ | refine PRow.one rfl rfl ?_ | refine PRow.none ?_ | refine PLoad.ep rfl ?_ | refine PLen.map ?_ | refine PIndexS.ix OA OA ?_ | refine PIndexA.ix OA OA ?_ | refine PIndexA.lit rfl ?_ | refine PInt.ok OA OA ?_ | refine PDiv.of OA ?_ | refine PSide.of NA ?_ | refine PSliceS.lo OA OA ?_ | refine PSliceL.lo OA OA ?_ | refine PSliceS.hi OA OA ?_ | refine PSliceL.hi OA OA ?_ | intro _); conv => whnf)); exact And.intro rfl rfl))) | refine PLoad.box rfl ?_ | refine PLook.set ?_ | refine PSide.of bA ?_ | refine PSide.of rfl ?_ | refine PRow.one rfl rfl ?_ | refine PRow.none ?_ | refine PLoad.ep rfl ?_ | refine PLen.map ?_ | refine PIndexS.ix oA oA ?_ | refine PIndexA.ix oA oA ?_ | refine PIndexA.lit rfl ?_ | refine PInt.ok oA oA ?_ | refine PDiv.of oA ?_ | refine PSide.of nA ?_ | refine PSliceS.lo oA oA ?_ | refine PSliceL.lo oA oA ?_ | refine PSliceS.hi oA oA ?_ | refine PSliceL.hi oA oA ?_ | refine PStore.box rfl rfl rfl ?_ | refine PBytes.mk ?_ | refine PMapPut.set ?_ | refine PMapDel.set ?_ | intro _); conv => whnf)
  conv => whnf
  repeat' (first | ((first | ((first | (apply PGuard.lazy; intro hg) | apply PStb.of); (focus ((conv => whnf); (repeat ((first | refine PNeed.of gA ?_ | refine PLoad.box rfl ?_ | refine PLook.set ?_ | refine PSide.of bA ?_ | refine PSide.of rfl ?_ | refine PRow.one rfl rfl ?_ | refine PRow.none ?_ | refine PLoad.ep rfl ?_ | refine PLen.map ?_ | refine PIndexS.ix OA OA ?_ | refine PIndexA.ix OA OA ?_ | refine PIndexA.lit rfl ?_ | refine PInt.ok OA OA ?_ | refine PDiv.of OA ?_ | refine PSide.of NA ?_ | refine PSliceS.lo OA OA ?_ | refine PSliceL.lo OA OA ?_ | refine PSliceS.hi OA OA ?_ | refine PSliceL.hi OA OA ?_ | intro _); conv => whnf)); exact And.intro rfl rfl))) | refine PLoad.box rfl ?_ | refine PLook.set ?_ | refine PSide.of bA ?_ | refine PSide.of rfl ?_ | refine PRow.one rfl rfl ?_ | refine PRow.none ?_ | refine PLoad.ep rfl ?_ | refine PLen.map ?_ | refine PIndexS.ix oA oA ?_ | refine PIndexA.ix oA oA ?_ | refine PIndexA.lit rfl ?_ | refine PInt.ok oA oA ?_ | refine PDiv.of oA ?_ | refine PSide.of nA ?_ | refine PSliceS.lo oA oA ?_ | refine PSliceL.lo oA oA ?_ | refine PSliceS.hi oA oA ?_ | refine PSliceL.hi oA oA ?_ | refine PStore.box rfl rfl rfl ?_ | refine PBytes.mk ?_ | refine PMapPut.set ?_ | refine PMapDel.set ?_ | intro _ | refine PSeq.go ?_); conv => whnf) | (refine PCond.ways (fun hc => ?_) (fun hc => ?_) <;> (try simp only [SS, not_true_eq_false, not_false_eq_true, false_and, and_false, true_and, and_true, true_or, or_true, false_or, or_false] at hc) <;> first | (exfalso; omega) | (conv => whnf)))
  rename_i bt bo
  refine PCall.goG (Ghost.trans (Ghost.nilRow 1 3 _) (Ghost.box (b := bo) (cs := [.nil]) (cs' := [.ms (nilTok 1 3)]) (.cons (Wk.nilRow 1 3) .nil))) (all_c t) (WkT.refl _) ?_
  rintro _ _ ⟨b, rfl, rfl⟩
  conv => whnf
  repeat ((first | ((first | (apply PGuard.lazy; intro hg) | apply PStb.of); (focus ((conv => whnf); (repeat ((first | refine PNeed.of gA ?_ | refine PLoad.box rfl ?_ | refine PLook.set ?_ | refine PSide.of bA ?_ | refine PSide.of rfl ?_ | refine PRow.one rfl rfl ?_ | refine PRow.none ?_ | refine PLoad.ep rfl ?_ | refine PLen.map ?_ | refine PIndexS.ix OA OA ?_ | refine PIndexA.ix OA OA ?_ | refine PIndexA.lit rfl ?_ | refine PInt.ok OA OA ?_ | refine PDiv.of OA ?_ | refine PSide.of NA ?_ | refine PSliceS.lo OA OA ?_ | refine PSliceL.lo OA OA ?_ | refine PSliceS.hi OA OA ?_ | refine PSliceL.hi OA OA ?_ | intro _); conv => whnf)); exact And.intro rfl rfl))) | refine PLoad.box rfl ?_ | refine PLook.set ?_ | refine PSide.of bA ?_ | refine PSide.of rfl ?_ | refine PRow.one rfl rfl ?_ | refine PRow.none ?_ | refine PLoad.ep rfl ?_ | refine PLen.map ?_ | refine PIndexS.ix oA oA ?_ | refine PIndexA.ix oA oA ?_ | refine PIndexA.lit rfl ?_ | refine PInt.ok oA oA ?_ | refine PDiv.of oA ?_ | refine PSide.of nA ?_ | refine PSliceS.lo oA oA ?_ | refine PSliceL.lo oA oA ?_ | refine PSliceS.hi oA oA ?_ | refine PSliceL.hi oA oA ?_ | refine PStore.box rfl rfl rfl ?_ | refine PBytes.mk ?_ | refine PMapPut.set ?_ | refine PMapDel.set ?_ | intro _); conv => whnf)
  refine PRange.go (t.all.map fun m => [metP m]) (fun s : Tok × List Int => [.box bo [.ms s.1], .row s.1 (s.2.map (PV.int .i64))]) (fun k s => s.1.e = 3 ∧ s.1.s = 1 ∧ s.2 = freeOf (t.all.take k)) (fun _ _ => False) (nilTok 1 3, []) (all1_c b t hb) ⟨rfl, rfl, rfl⟩
    (hp := (inferInstance : PickL _ [.box bo [.ms (nilTok 1 3)], .row (nilTok 1 3) [], .box b t.cells] _)) (by intro ys hy; obtain ⟨m, _, rfl⟩ := List.mem_map.1 hy; rfl) ?_ ?_ (fun _ _ _ h => h.elim)
  · rintro k ys ⟨tk, l⟩ hk ⟨k1, k2, k3⟩
    dsimp only at k1 k2 k3 ⊢
    obtain ⟨m, hm, rfl⟩ : ∃ m, t.all[k]? = some m ∧ ys = [metP m] := by
      rw [List.getElem?_map] at hk
      cases h : t.all[k]? with
      | none => rw [h] at hk; cases hk
      | some m => rw [h] at hk; cases hk; exact ⟨m, rfl, rfl⟩
    obtain ⟨hlt, hmg⟩ := List.getElem?_eq_some_iff.1 hm
    have hst : freeOf (t.all.take (k + 1)) = freeOf (t.all.take k) ++ (if (namesB m.1.op && !m.2.contains m.1.n) = true then [m.1.n] else []) := by
      rw [List.take_succ_eq_append_getElem hlt, freeOf, List.filter_append, List.map_append, hmg]
      congr 1
      by_cases h : (namesB m.1.op && !m.2.contains m.1.n) = true
      · rw [if_pos h]; simp only [List.filter, h]; rfl
      · rw [if_neg h]; rw [Bool.not_eq_true] at h; simp only [List.filter, h]; rfl
    have hll : l.length ≤ k := by
      rw [k3, freeOf, List.length_map]
      exact Nat.le_trans (List.length_filter_le _ _) (by rw [List.length_take]; omega)
    conv => whnf
    repeat' (first | ((first | ((first | (apply PGuard.lazy; intro hg) | apply PStb.of); (focus ((conv => whnf); (repeat ((first | refine PNeed.of gA ?_ | refine PLoad.box rfl ?_ | refine PLook.set ?_ | refine PSide.of bA ?_ | refine PSide.of rfl ?_ | refine PRow.one rfl rfl ?_ | refine PRow.none ?_ | refine PLoad.ep rfl ?_ | refine PLen.map ?_ | refine PIndexS.ix OA OA ?_ | refine PIndexA.ix OA OA ?_ | refine PIndexA.lit rfl ?_ | refine PInt.ok OA OA ?_ | refine PDiv.of OA ?_ | refine PSide.of NA ?_ | refine PSliceS.lo OA OA ?_ | refine PSliceL.lo OA OA ?_ | refine PSliceS.hi OA OA ?_ | refine PSliceL.hi OA OA ?_ | refine PCall.pure (names_c m.1) (WkT.refl _) ?_ | refine PCall.pure (names_c m.1) cA ?_ | refine PCall.pure (containsInt_c m.2 m.1.n) (WkT.refl _) ?_ | refine PCall.pure (containsInt_c m.2 m.1.n) cA ?_ | intro _); conv => whnf)); exact And.intro rfl rfl))) | refine PLoad.box rfl ?_ | refine PLook.set ?_ | refine PSide.of bA ?_ | refine PSide.of rfl ?_ | refine PRow.one rfl rfl ?_ | refine PRow.none ?_ | refine PLoad.ep rfl ?_ | refine PLen.map ?_ | refine PIndexS.ix oA oA ?_ | refine PIndexA.ix oA oA ?_ | refine PIndexA.lit rfl ?_ | refine PInt.ok oA oA ?_ | refine PDiv.of oA ?_ | refine PSide.of nA ?_ | refine PSliceS.lo oA oA ?_ | refine PSliceL.lo oA oA ?_ | refine PSliceS.hi oA oA ?_ | refine PSliceL.hi oA oA ?_ | refine PCall.pure (names_c m.1) (WkT.refl _) ?_ | refine PCall.pure (names_c m.1) cA ?_ | refine PCall.pure (containsInt_c m.2 m.1.n) (WkT.refl _) ?_ | refine PCall.pure (containsInt_c m.2 m.1.n) cA ?_ | refine PStore.box rfl rfl rfl ?_ | refine PBytes.mk ?_ | refine PMapPut.set ?_ | refine PMapDel.set ?_ | intro _ | refine PSeq.go ?_); conv => whnf) | (refine PCond.ways (fun hc => ?_) (fun hc => ?_) <;> (try simp only [SS, not_true_eq_false, not_false_eq_true, false_and, and_false, true_and, and_true, true_or, or_true, false_or, or_false] at hc) <;> first | (exfalso; omega) | (conv => whnf)))
    refine ⟨rfl, ?_⟩
    conv => whnf
    repeat' (first | ((first | ((first | (apply PGuard.lazy; intro hg) | apply PStb.of); (focus ((conv => whnf); (repeat ((first | refine PNeed.of gA ?_ | refine PLoad.box rfl ?_ | refine PLook.set ?_ | refine PSide.of bA ?_ | refine PSide.of rfl ?_ | refine PRow.one rfl rfl ?_ | refine PRow.none ?_ | refine PLoad.ep rfl ?_ | refine PLen.map ?_ | refine PIndexS.ix OA OA ?_ | refine PIndexA.ix OA OA ?_ | refine PIndexA.lit rfl ?_ | refine PInt.ok OA OA ?_ | refine PDiv.of OA ?_ | refine PSide.of NA ?_ | refine PSliceS.lo OA OA ?_ | refine PSliceL.lo OA OA ?_ | refine PSliceS.hi OA OA ?_ | refine PSliceL.hi OA OA ?_ | refine PCall.pure (names_c m.1) (WkT.refl _) ?_ | refine PCall.pure (names_c m.1) cA ?_ | refine PCall.pure (containsInt_c m.2 m.1.n) (WkT.refl _) ?_ | refine PCall.pure (containsInt_c m.2 m.1.n) cA ?_ | intro _); conv => whnf)); exact And.intro rfl rfl))) | refine PLoad.box rfl ?_ | refine PLook.set ?_ | refine PSide.of bA ?_ | refine PSide.of rfl ?_ | refine PRow.one rfl rfl ?_ | refine PRow.none ?_ | refine PLoad.ep rfl ?_ | refine PLen.map ?_ | refine PIndexS.ix oA oA ?_ | refine PIndexA.ix oA oA ?_ | refine PIndexA.lit rfl ?_ | refine PInt.ok oA oA ?_ | refine PDiv.of oA ?_ | refine PSide.of nA ?_ | refine PSliceS.lo oA oA ?_ | refine PSliceL.lo oA oA ?_ | refine PSliceS.hi oA oA ?_ | refine PSliceL.hi oA oA ?_ | refine PCall.pure (names_c m.1) (WkT.refl _) ?_ | refine PCall.pure (names_c m.1) cA ?_ | refine PCall.pure (containsInt_c m.2 m.1.n) (WkT.refl _) ?_ | refine PCall.pure (containsInt_c m.2 m.1.n) cA ?_ | refine PStore.box rfl rfl rfl ?_ | refine PBytes.mk ?_ | refine PMapPut.set ?_ | refine PMapDel.set ?_ | intro _ | refine PSeq.go ?_); conv => whnf) | (refine PCond.ways (fun hc => ?_) (fun hc => ?_) <;> (try simp only [SS, not_true_eq_false, not_false_eq_true, false_and, and_false, true_and, and_true, true_or, or_true, false_or, or_false] at hc) <;> first | (exfalso; omega) | (conv => whnf)))
    · refine PAppend.rowOne (f := PV.int .i64) (l := l) m.1.n k1 k2 (Wk.tok _ _ _) (by omega) (by show _ * 8 ≤ _; omega) (fun t3 e3 s3 => ?_)
      conv => whnf
      repeat ((first | ((first | (apply PGuard.lazy; intro hg) | apply PStb.of); (focus ((conv => whnf); (repeat ((first | refine PNeed.of gA ?_ | refine PLoad.box rfl ?_ | refine PLook.set ?_ | refine PSide.of bA ?_ | refine PSide.of rfl ?_ | refine PRow.one rfl rfl ?_ | refine PRow.none ?_ | refine PLoad.ep rfl ?_ | refine PLen.map ?_ | refine PIndexS.ix OA OA ?_ | refine PIndexA.ix OA OA ?_ | refine PIndexA.lit rfl ?_ | refine PInt.ok OA OA ?_ | refine PDiv.of OA ?_ | refine PSide.of NA ?_ | refine PSliceS.lo OA OA ?_ | refine PSliceL.lo OA OA ?_ | refine PSliceS.hi OA OA ?_ | refine PSliceL.hi OA OA ?_ | refine PCall.pure (names_c m.1) (WkT.refl _) ?_ | refine PCall.pure (names_c m.1) cA ?_ | refine PCall.pure (containsInt_c m.2 m.1.n) (WkT.refl _) ?_ | refine PCall.pure (containsInt_c m.2 m.1.n) cA ?_ | intro _); conv => whnf)); exact And.intro rfl rfl))) | refine PLoad.box rfl ?_ | refine PLook.set ?_ | refine PSide.of bA ?_ | refine PSide.of rfl ?_ | refine PRow.one rfl rfl ?_ | refine PRow.none ?_ | refine PLoad.ep rfl ?_ | refine PLen.map ?_ | refine PIndexS.ix oA oA ?_ | refine PIndexA.ix oA oA ?_ | refine PIndexA.lit rfl ?_ | refine PInt.ok oA oA ?_ | refine PDiv.of oA ?_ | refine PSide.of nA ?_ | refine PSliceS.lo oA oA ?_ | refine PSliceL.lo oA oA ?_ | refine PSliceS.hi oA oA ?_ | refine PSliceL.hi oA oA ?_ | refine PCall.pure (names_c m.1) (WkT.refl _) ?_ | refine PCall.pure (names_c m.1) cA ?_ | refine PCall.pure (containsInt_c m.2 m.1.n) (WkT.refl _) ?_ | refine PCall.pure (containsInt_c m.2 m.1.n) cA ?_ | refine PStore.box rfl rfl rfl ?_ | refine PBytes.mk ?_ | refine PMapPut.set ?_ | refine PMapDel.set ?_ | intro _); conv => whnf)
      exact roundEnd (k := k) (G := fun s : Tok × List Int => [.box bo [.ms s.1], .row s.1 (s.2.map (PV.int .i64))]) (I := fun k s => s.1.e = 3 ∧ s.1.s = 1 ∧ s.2 = freeOf (t.all.take k)) (X := fun _ _ => False) (t3, l ++ [m.1.n]) ⟨e3, s3, by show l ++ [m.1.n] = freeOf (t.all.take (k + 1)); rw [hst, if_pos (by rw [Bool.and_eq_true, hc.1, hc.2]; exact ⟨rfl, rfl⟩), k3]⟩ (hp := (inferInstance : PickL _ [.box bo [.ms t3], .row t3 ((l ++ [m.1.n]).map (PV.int .i64))] _))
    · exact roundEnd (k := k) (G := fun s : Tok × List Int => [.box bo [.ms s.1], .row s.1 (s.2.map (PV.int .i64))]) (I := fun k s => s.1.e = 3 ∧ s.1.s = 1 ∧ s.2 = freeOf (t.all.take k)) (X := fun _ _ => False) (tk, l) ⟨k1, k2, by show l = freeOf (t.all.take (k + 1)); rw [hst, if_neg (by rw [Bool.and_eq_true, Bool.not_eq_true']; rintro ⟨a, b⟩; rcases hc with h | h; rw [a] at h; cases h; rw [b] at h; cases h), List.append_nil, k3]⟩ (hp := (inferInstance : PickL _ [.box bo [.ms tk], .row tk (l.map (PV.int .i64))] _))
  · rintro bd ⟨tk, l⟩ ⟨k1, k2, k3⟩
    dsimp only at k1 k2 k3 ⊢
    rw [List.length_map, List.take_length, hx] at k3
    subst k3
    conv => whnf
    repeat' (first | ((first | ((first | (apply PGuard.lazy; intro hg) | apply PStb.of); (focus ((conv => whnf); (repeat ((first | refine PNeed.of gA ?_ | refine PLoad.box rfl ?_ | refine PLook.set ?_ | refine PSide.of bA ?_ | refine PSide.of rfl ?_ | refine PRow.one rfl rfl ?_ | refine PRow.none ?_ | refine PLoad.ep rfl ?_ | refine PLen.map ?_ | refine PIndexS.ix OA OA ?_ | refine PIndexA.ix OA OA ?_ | refine PIndexA.lit rfl ?_ | refine PInt.ok OA OA ?_ | refine PDiv.of OA ?_ | refine PSide.of NA ?_ | refine PSliceS.lo OA OA ?_ | refine PSliceL.lo OA OA ?_ | refine PSliceS.hi OA OA ?_ | refine PSliceL.hi OA OA ?_ | refine PCall.pure (names_c m.1) (WkT.refl _) ?_ | refine PCall.pure (names_c m.1) cA ?_ | refine PCall.pure (containsInt_c m.2 m.1.n) (WkT.refl _) ?_ | refine PCall.pure (containsInt_c m.2 m.1.n) cA ?_ | intro _); conv => whnf)); exact And.intro rfl rfl))) | refine PLoad.box rfl ?_ | refine PLook.set ?_ | refine PSide.of bA ?_ | refine PSide.of rfl ?_ | refine PRow.one rfl rfl ?_ | refine PRow.none ?_ | refine PLoad.ep rfl ?_ | refine PLen.map ?_ | refine PIndexS.ix oA oA ?_ | refine PIndexA.ix oA oA ?_ | refine PIndexA.lit rfl ?_ | refine PInt.ok oA oA ?_ | refine PDiv.of oA ?_ | refine PSide.of nA ?_ | refine PSliceS.lo oA oA ?_ | refine PSliceL.lo oA oA ?_ | refine PSliceS.hi oA oA ?_ | refine PSliceL.hi oA oA ?_ | refine PCall.pure (names_c m.1) (WkT.refl _) ?_ | refine PCall.pure (names_c m.1) cA ?_ | refine PCall.pure (containsInt_c m.2 m.1.n) (WkT.refl _) ?_ | refine PCall.pure (containsInt_c m.2 m.1.n) cA ?_ | refine PStore.box rfl rfl rfl ?_ | refine PBytes.mk ?_ | refine PMapPut.set ?_ | refine PMapDel.set ?_ | intro _ | refine PSeq.go ?_); conv => whnf) | (refine PCond.ways (fun hc => ?_) (fun hc => ?_) <;> (try simp only [SS, not_true_eq_false, not_false_eq_true, false_and, and_false, true_and, and_true, true_or, or_true, false_or, or_false] at hc) <;> first | (exfalso; omega) | (conv => whnf)))
    refine PCall.goR [.ob bd dfrO [] [], .box bo [.ms tk]] (rising1_c tk x k1 k2) (WkT.refl _) (List.Perm.refl _) ?_
    rintro _ _ ⟨rfl, rfl⟩
    conv => whnf
    repeat ((first | ((first | (apply PGuard.lazy; intro hg) | apply PStb.of); (focus ((conv => whnf); (repeat ((first | refine PNeed.of gA ?_ | refine PLoad.box rfl ?_ | refine PLook.set ?_ | refine PSide.of bA ?_ | refine PSide.of rfl ?_ | refine PRow.one rfl rfl ?_ | refine PRow.none ?_ | refine PLoad.ep rfl ?_ | refine PLen.map ?_ | refine PIndexS.ix OA OA ?_ | refine PIndexA.ix OA OA ?_ | refine PIndexA.lit rfl ?_ | refine PInt.ok OA OA ?_ | refine PDiv.of OA ?_ | refine PSide.of NA ?_ | refine PSliceS.lo OA OA ?_ | refine PSliceL.lo OA OA ?_ | refine PSliceS.hi OA OA ?_ | refine PSliceL.hi OA OA ?_ | refine PCall.pure (names_c m.1) (WkT.refl _) ?_ | refine PCall.pure (names_c m.1) cA ?_ | refine PCall.pure (containsInt_c m.2 m.1.n) (WkT.refl _) ?_ | refine PCall.pure (containsInt_c m.2 m.1.n) cA ?_ | intro _); conv => whnf)); exact And.intro rfl rfl))) | refine PLoad.box rfl ?_ | refine PLook.set ?_ | refine PSide.of bA ?_ | refine PSide.of rfl ?_ | refine PRow.one rfl rfl ?_ | refine PRow.none ?_ | refine PLoad.ep rfl ?_ | refine PLen.map ?_ | refine PIndexS.ix oA oA ?_ | refine PIndexA.ix oA oA ?_ | refine PIndexA.lit rfl ?_ | refine PInt.ok oA oA ?_ | refine PDiv.of oA ?_ | refine PSide.of nA ?_ | refine PSliceS.lo oA oA ?_ | refine PSliceL.lo oA oA ?_ | refine PSliceS.hi oA oA ?_ | refine PSliceL.hi oA oA ?_ | refine PCall.pure (names_c m.1) (WkT.refl _) ?_ | refine PCall.pure (names_c m.1) cA ?_ | refine PCall.pure (containsInt_c m.2 m.1.n) (WkT.refl _) ?_ | refine PCall.pure (containsInt_c m.2 m.1.n) cA ?_ | refine PStore.box rfl rfl rfl ?_ | refine PBytes.mk ?_ | refine PMapPut.set ?_ | refine PMapDel.set ?_ | intro _); conv => whnf)
    refine PMark.at_ rfl ?_
    conv => whnf
    exact PRet.gen (y := .ms tk) (Wk.refl _) ⟨tk, k1, k2, rfl, rfl⟩
theorem free1_c (t : Trm) (x : Int) (hb : t.bulk ≤ 1000000000) (hx : freeOf t.all = [x]) : ACallP Tryz.prog 35 [.agg t.cells] (slI [x]) :=
  ACallP.of_any ((free1_c0 t x hb hx).shift fun y Γ' hq => by
    obtain ⟨t, h1, h2, rfl, rfl⟩ := hq
    exact ⟨slI [x], _, Shift.freezeRow (es := [.int .i64 x]) (WkF.ms' h2), rfl⟩)
end Go.Cb
namespace Go.Cb
open Go.Proofs
set_option maxRecDepth 100000
set_option maxHeartbeats 4000000
def numberP (consts codes : Int) (free : Bool) (t : Trm) (scope : List Int) : Bool :=
  if t.op = 0 then decide (t.n ≥ 0) && decide (t.n < consts) else
  if t.op = 1 ∨ t.op = 2 ∨ t.op = 14 then scope.contains t.n else
  if t.op = 11 ∨ t.op = 10 then decide (0 ≤ t.n ∧ t.n < 31) else
  if t.op = 4 then t.n == 0 || (t.n == 1 && decide ((t.v.length : Int) > 0)) else
  if t.op = 7 then t.n == 0 || t.n == 1 else
  if t.op = 19 ∨ t.op = 21 ∨ t.op = 22 then decide (t.n ≥ 0) && decide (t.n < codes) else
  if t.op = 20 then decide (t.n ≥ 0) && free else t.n == 0
theorem bindR_congr : ∀ (l b1 b2 : List Int), (∀ x, x ∈ b1 ↔ x ∈ b2) → (bindR l b1).1 = (bindR l b2).1
  | [], _, _, _ => rfl
  | v :: l, b1, b2, h => by
    have hv : vOk b1 v = vOk b2 v := by
      have : b1.contains v = b2.contains v := by rw [Bool.eq_iff_iff]; simp [h]
      unfold vOk; rw [this]
    rw [bindR, bindR, hv]
    split
    · exact bindR_congr l _ _ (by intro x; simp [h])
    · rfl
theorem bind2p_c (c rb rs : Nat) (level consts codes size : Int) (frees : Bool) (l bound scope : List Int) (pb ps : List (Int × Value)) :
    ACall Tryz.prog 65 [.ptr c 0, .sl 1 (l.map (PV.int .i64)) none, .mp rs] [.box c (cpC level consts codes size frees rb), .mp rb (.int .i64) (setM bound) pb, .mp rs (.int .i64) (setM scope) ps]
    (fun y Γ' => y = .bool (bindR l bound).1 ∧ ∃ pb' mb ms, Γ' = [.box c (cpC level consts codes size frees rb), .mp rb (.int .i64) mb pb', .mp rs (.int .i64) ms ps] ∧ ((bindR l bound).1 = true → mb = setM (bound ++ l) ∧ ms = setM (scope ++ l))) := by
  refine ACall.of_body tt_ok Tryz.func65 rfl rfl (n := 39) rfl rfl ?_
  conv => whnf
  repeat ((first | ((first | (apply PGuard.lazy; intro hg) | apply PStb.of); (focus ((conv => whnf); (repeat ((first | refine PNeed.of gA ?_ | refine PLoad.box rfl ?_ | refine PLook.set ?_ | refine PSide.of bA ?_ | refine PSide.of rfl ?_ | refine PRow.one rfl rfl ?_ | refine PRow.none ?_ | refine PLoad.ep rfl ?_ | refine PLen.map ?_ | refine PIndexS.ix OA OA ?_ | refine PIndexA.ix OA OA ?_ | refine PIndexA.lit rfl ?_ | refine PInt.ok OA OA ?_ | refine PDiv.of OA ?_ | refine PSide.of NA ?_ | refine PSliceS.lo OA OA ?_ | refine PSliceL.lo OA OA ?_ | refine PSliceS.hi OA OA ?_ | refine PSliceL.hi OA OA ?_ | intro _); conv => whnf)); exact And.intro rfl rfl))) | refine PLoad.box rfl ?_ | refine PLook.set ?_ | refine PSide.of bA ?_ | refine PSide.of rfl ?_ | refine PRow.one rfl rfl ?_ | refine PRow.none ?_ | refine PLoad.ep rfl ?_ | refine PLen.map ?_ | refine PIndexS.ix oA oA ?_ | refine PIndexA.ix oA oA ?_ | refine PIndexA.lit rfl ?_ | refine PInt.ok oA oA ?_ | refine PDiv.of oA ?_ | refine PSide.of nA ?_ | refine PSliceS.lo oA oA ?_ | refine PSliceL.lo oA oA ?_ | refine PSliceS.hi oA oA ?_ | refine PSliceL.hi oA oA ?_ | refine PStore.box rfl rfl rfl ?_ | refine PBytes.mk ?_ | refine PMapPut.set ?_ | refine PMapDel.set ?_ | intro _); conv => whnf)
  refine PLoop.over [6, 8, 11, 12, 13, 14, 15, 16, 17, 18, 19, 20, 21, 22, 23, 24, 25, 26, 27, 28, 29, 30, 31, 32, 33, 34, 35, 36, 37, 38] (fun | ((i, bd, sc, pb) : Nat × List Int × List Int × List (Int × Value)) => [(11, .int .i64 i)])
    (fun x => [.box c (cpC level consts codes size frees rb), .mp rb (.int .i64) (setM x.2.1) x.2.2.2, .mp rs (.int .i64) (setM x.2.2.1) ps])
    (fun | (i, bd, sc, pb) => i ≤ l.length ∧ (∀ x, x ∈ bd ↔ x ∈ bound ∨ x ∈ l.take i) ∧ (∀ x, x ∈ sc ↔ x ∈ scope ∨ x ∈ l.take i) ∧ (bindR (l.drop i) bd).1 = (bindR l bound).1) (fun | (i, _) => l.length - i) (0, bound, scope, pb)
    ⟨by omega, by simp, by simp, rfl⟩ wA ?_
  rintro ⟨i, bd, sc, pb'⟩ ⟨hi, hbd, hsc, hr⟩
  conv => whnf
  repeat' (first | ((first | ((first | (apply PGuard.lazy; intro hg) | apply PStb.of); (focus ((conv => whnf); (repeat ((first | refine PNeed.of gA ?_ | refine PLoad.box rfl ?_ | refine PLook.set ?_ | refine PSide.of bA ?_ | refine PSide.of rfl ?_ | refine PRow.one rfl rfl ?_ | refine PRow.none ?_ | refine PLoad.ep rfl ?_ | refine PLen.map ?_ | refine PIndexS.ix OA OA ?_ | refine PIndexA.ix OA OA ?_ | refine PIndexA.lit rfl ?_ | refine PInt.ok OA OA ?_ | refine PDiv.of OA ?_ | refine PSide.of NA ?_ | refine PSliceS.lo OA OA ?_ | refine PSliceL.lo OA OA ?_ | refine PSliceS.hi OA OA ?_ | refine PSliceL.hi OA OA ?_ | intro _); conv => whnf)); exact And.intro rfl rfl))) | refine PLoad.box rfl ?_ | refine PLook.set ?_ | refine PSide.of bA ?_ | refine PSide.of rfl ?_ | refine PRow.one rfl rfl ?_ | refine PRow.none ?_ | refine PLoad.ep rfl ?_ | refine PLen.map ?_ | refine PIndexS.ix oA oA ?_ | refine PIndexA.ix oA oA ?_ | refine PIndexA.lit rfl ?_ | refine PInt.ok oA oA ?_ | refine PDiv.of oA ?_ | refine PSide.of nA ?_ | refine PSliceS.lo oA oA ?_ | refine PSliceL.lo oA oA ?_ | refine PSliceS.hi oA oA ?_ | refine PSliceL.hi oA oA ?_ | refine PStore.box rfl rfl rfl ?_ | refine PBytes.mk ?_ | refine PMapPut.set ?_ | refine PMapDel.set ?_ | intro _ | refine PSeq.go ?_); conv => whnf) | (refine PCond.ways (fun hc => ?_) (fun hc => ?_) <;> (try simp only [SS, not_true_eq_false, not_false_eq_true, false_and, and_false, true_and, and_true, true_or, or_true, false_or, or_false] at hc) <;> first | (exfalso; omega) | (conv => whnf)))
  · have hlt : i < l.length := by omega
    have hb : (bindR l bound).1 = false := by
      rw [← hr, drop_at hlt, bindR, if_neg (by simp only [vOk, SS]; rintro ⟨h, h'⟩; rw [h'] at hc; simp at hc; omega)]
    exact PRet.gen (Wk.ff hb) ⟨rfl, pb', setM bd, setM sc, rfl, fun h => by rw [hb] at h; cases h⟩
  · have hlt : i < l.length := by omega
    refine PMapEntry.set hc.2 ?_
    intro j
    conv => whnf
    refine PEntryStore.set ?_
    conv => whnf
    repeat ((first | ((first | (apply PGuard.lazy; intro hg) | apply PStb.of); (focus ((conv => whnf); (repeat ((first | refine PNeed.of gA ?_ | refine PLoad.box rfl ?_ | refine PLook.set ?_ | refine PSide.of bA ?_ | refine PSide.of rfl ?_ | refine PRow.one rfl rfl ?_ | refine PRow.none ?_ | refine PLoad.ep rfl ?_ | refine PLen.map ?_ | refine PIndexS.ix OA OA ?_ | refine PIndexA.ix OA OA ?_ | refine PIndexA.lit rfl ?_ | refine PInt.ok OA OA ?_ | refine PDiv.of OA ?_ | refine PSide.of NA ?_ | refine PSliceS.lo OA OA ?_ | refine PSliceL.lo OA OA ?_ | refine PSliceS.hi OA OA ?_ | refine PSliceL.hi OA OA ?_ | intro _); conv => whnf)); exact And.intro rfl rfl))) | refine PLoad.box rfl ?_ | refine PLook.set ?_ | refine PSide.of bA ?_ | refine PSide.of rfl ?_ | refine PRow.one rfl rfl ?_ | refine PRow.none ?_ | refine PLoad.ep rfl ?_ | refine PLen.map ?_ | refine PIndexS.ix oA oA ?_ | refine PIndexA.ix oA oA ?_ | refine PIndexA.lit rfl ?_ | refine PInt.ok oA oA ?_ | refine PDiv.of oA ?_ | refine PSide.of nA ?_ | refine PSliceS.lo oA oA ?_ | refine PSliceL.lo oA oA ?_ | refine PSliceS.hi oA oA ?_ | refine PSliceL.hi oA oA ?_ | refine PStore.box rfl rfl rfl ?_ | refine PBytes.mk ?_ | refine PMapPut.set ?_ | refine PMapDel.set ?_ | intro _); conv => whnf)
    have htk : ∀ x, x ∈ l.take (i + 1) ↔ x = l[i] ∨ x ∈ l.take i := by
      intro x
      rw [List.take_succ_eq_append_getElem hlt, List.mem_append, List.mem_singleton, or_comm]
    refine loopTo (i + 1, l[i] :: bd, l[i] :: sc, (j, .int .i64 l[i]) :: pb') ⟨by omega, fun x => ?_, fun x => ?_, ?_⟩ (by show l.length - (i + 1) < l.length - i; omega) wA
    · rw [htk, List.mem_cons, hbd]
      constructor
      · rintro (h | h | h)
        · exact .inr (.inl h)
        · exact .inl h
        · exact .inr (.inr h)
      · rintro (h | h | h)
        · exact .inr (.inl h)
        · exact .inl h
        · exact .inr (.inr h)
    · rw [htk, List.mem_cons, hsc]
      constructor
      · rintro (h | h | h)
        · exact .inr (.inl h)
        · exact .inl h
        · exact .inr (.inr h)
      · rintro (h | h | h)
        · exact .inr (.inl h)
        · exact .inl h
        · exact .inr (.inr h)
    · rw [← hr, drop_at hlt, bindR, if_pos (by simp only [vOk, SS]; exact hc)]
      exact bindR_congr _ _ _ (by intro x; simp [or_comm])
  · have hb : (bindR l bound).1 = true := by rw [← hr, List.drop_of_length_le (by omega), bindR]
    have ht : l.take i = l := List.take_of_length_le (by omega)
    rw [ht] at hbd hsc
    exact PRet.gen (Wk.tt hb) ⟨rfl, pb', setM bd, setM sc, rfl, fun _ => ⟨setM_congr (by simpa using hbd), setM_congr (by simpa using hsc)⟩⟩
theorem number2p_c (c rb rs : Nat) (level consts codes size : Int) (frees : Bool) (t : Trm) (scope : List Int) (ps : List (Int × Value)) :
    ACall Tryz.prog 102 [.ptr c 0, .agg t.cells, .mp rs] [.box c (cpC level consts codes size frees rb), .mp rs (.int .i64) (setM scope) ps]
    (fun y Γ' => y = .bool (numberP consts codes frees t scope) ∧ Γ' = [.box c (cpC level consts codes size frees rb), .mp rs (.int .i64) (setM scope) ps]) := by
  have hs : numberP consts codes frees t scope = numberP consts codes frees t scope := rfl
  conv at hs => rhs; unfold numberP
  refine ACall.of_body tt_ok Tryz.func102 rfl rfl (n := 99) rfl rfl ?_
  conv => whnf
  repeat ((first | ((first | (apply PGuard.lazy; intro hg) | apply PStb.of); (focus ((conv => whnf); (repeat ((first | refine PNeed.of gA ?_ | refine PLoad.box rfl ?_ | refine PLook.set ?_ | refine PSide.of bA ?_ | refine PSide.of rfl ?_ | refine PRow.one rfl rfl ?_ | refine PRow.none ?_ | refine PLoad.ep rfl ?_ | refine PLen.map ?_ | refine PIndexS.ix OA OA ?_ | refine PIndexA.ix OA OA ?_ | refine PIndexA.lit rfl ?_ | refine PInt.ok OA OA ?_ | refine PDiv.of OA ?_ | refine PSide.of NA ?_ | refine PSliceS.lo OA OA ?_ | refine PSliceL.lo OA OA ?_ | refine PSliceS.hi OA OA ?_ | refine PSliceL.hi OA OA ?_ | refine PCall.pure (Facts_c _) (WkT.refl _) ?_ | refine PCall.pure (Facts_c _) cA ?_ | intro _); conv => whnf)); exact And.intro rfl rfl))) | refine PLoad.box rfl ?_ | refine PLook.set ?_ | refine PSide.of bA ?_ | refine PSide.of rfl ?_ | refine PRow.one rfl rfl ?_ | refine PRow.none ?_ | refine PLoad.ep rfl ?_ | refine PLen.map ?_ | refine PIndexS.ix oA oA ?_ | refine PIndexA.ix oA oA ?_ | refine PIndexA.lit rfl ?_ | refine PInt.ok oA oA ?_ | refine PDiv.of oA ?_ | refine PSide.of nA ?_ | refine PSliceS.lo oA oA ?_ | refine PSliceL.lo oA oA ?_ | refine PSliceS.hi oA oA ?_ | refine PSliceL.hi oA oA ?_ | refine PCall.pure (Facts_c _) (WkT.refl _) ?_ | refine PCall.pure (Facts_c _) cA ?_ | refine PStore.box rfl rfl rfl ?_ | refine PBytes.mk ?_ | refine PMapPut.set ?_ | refine PMapDel.set ?_ | refine PDraw.at_ (some 13) rfl tt_ok mixed [0, 1, 3, 7, 15, 31, 15, 79, 207, 463, 1023, 2047, 4095] [0, 1, 2, 3, 4, 5, 6, 7, 8, 9, 10, 11, 12] [] [] [] (by kernel_rfl) ?_ | refine PDraw.at_ (some 73) rfl tt_ok mixed [0, 1, 3, 7, 15, 31, 15, 79, 207, 463, 1023, 2047, 4095] [0, 1, 2, 3, 4, 5, 6, 7, 8, 9, 10, 11, 12] [] [] [] (by kernel_rfl) ?_ | intro _); conv => whnf)
  conv => whnf
  repeat' (first | ((first | ((first | (apply PGuard.lazy; intro hg) | apply PStb.of); (focus ((conv => whnf); (repeat ((first | refine PNeed.of gA ?_ | refine PLoad.box rfl ?_ | refine PLook.set ?_ | refine PSide.of bA ?_ | refine PSide.of rfl ?_ | refine PRow.one rfl rfl ?_ | refine PRow.none ?_ | refine PLoad.ep rfl ?_ | refine PLen.map ?_ | refine PIndexS.ix OA OA ?_ | refine PIndexA.ix OA OA ?_ | refine PIndexA.lit rfl ?_ | refine PInt.ok OA OA ?_ | refine PDiv.of OA ?_ | refine PSide.of NA ?_ | refine PSliceS.lo OA OA ?_ | refine PSliceL.lo OA OA ?_ | refine PSliceS.hi OA OA ?_ | refine PSliceL.hi OA OA ?_ | refine PCall.pure (Facts_c _) (WkT.refl _) ?_ | refine PCall.pure (Facts_c _) cA ?_ | intro _); conv => whnf)); exact And.intro rfl rfl))) | refine PLoad.box rfl ?_ | refine PLook.set ?_ | refine PSide.of bA ?_ | refine PSide.of rfl ?_ | refine PRow.one rfl rfl ?_ | refine PRow.none ?_ | refine PLoad.ep rfl ?_ | refine PLen.map ?_ | refine PIndexS.ix oA oA ?_ | refine PIndexA.ix oA oA ?_ | refine PIndexA.lit rfl ?_ | refine PInt.ok oA oA ?_ | refine PDiv.of oA ?_ | refine PSide.of nA ?_ | refine PSliceS.lo oA oA ?_ | refine PSliceL.lo oA oA ?_ | refine PSliceS.hi oA oA ?_ | refine PSliceL.hi oA oA ?_ | refine PCall.pure (Facts_c _) (WkT.refl _) ?_ | refine PCall.pure (Facts_c _) cA ?_ | refine PStore.box rfl rfl rfl ?_ | refine PBytes.mk ?_ | refine PMapPut.set ?_ | refine PMapDel.set ?_ | refine PDraw.at_ (some 13) rfl tt_ok mixed [0, 1, 3, 7, 15, 31, 15, 79, 207, 463, 1023, 2047, 4095] [0, 1, 2, 3, 4, 5, 6, 7, 8, 9, 10, 11, 12] [] [] [] (by kernel_rfl) ?_ | refine PDraw.at_ (some 73) rfl tt_ok mixed [0, 1, 3, 7, 15, 31, 15, 79, 207, 463, 1023, 2047, 4095] [0, 1, 2, 3, 4, 5, 6, 7, 8, 9, 10, 11, 12] [] [] [] (by kernel_rfl) ?_ | intro _ | refine PSeq.go ?_); conv => whnf) | (refine PCond.ways (fun hc => ?_) (fun hc => ?_) <;> (try simp only [SS, not_true_eq_false, not_false_eq_true, false_and, and_false, true_and, and_true, true_or, or_true, false_or, or_false] at hc) <;> first | (exfalso; omega) | (conv => whnf)))
  all_goals repeat (first | rw [if_neg (by omega)] at hs | rw [if_pos (by omega)] at hs)
  all_goals rw [hs]
  all_goals exact PRet.gen (Wk.refl _) ⟨rfl, rfl⟩
end Go.Cb
namespace Go.Cb
open Go.Proofs
set_option maxRecDepth 100000
set_option maxHeartbeats 4000000
theorem indexFuncTrmS_c (k : Nat) (cap : List PV) (l : List Trm) (J : Nat → List Ent → Prop) (X : Nat → List Ent → Prop)
    (hf : ∀ i x Γ, l[i]? = some x → J i Γ → ACall Tryz.prog k (.agg (Trm.cells x) :: cap) Γ (fun y Γ' => (y = .bool false ∧ J (i + 1) Γ') ∨ (y = .bool true ∧ X i Γ'))) (Γ0 : List Ent) (h0 : J 0 Γ0) :
    ACall Tryz.prog 155 [.sl 4 (l.map Trm.pv) none, .fn (.func k) cap] Γ0 (fun y Γ' => (y = .int .i64 (-1) ∧ J l.length Γ') ∨ ∃ i : Nat, y = .int .i64 i ∧ i < l.length ∧ X i Γ') := by
  refine ACall.of_body tt_ok Tryz.func155 rfl rfl (n := 19) rfl rfl ?_
  conv => whnf
  repeat ((first | ((first | (apply PGuard.lazy; intro hg) | apply PStb.of); (focus ((conv => whnf); (repeat ((first | refine PNeed.of gA ?_ | refine PLoad.box rfl ?_ | refine PLook.set ?_ | refine PSide.of bA ?_ | refine PSide.of rfl ?_ | refine PRow.one rfl rfl ?_ | refine PRow.none ?_ | refine PLoad.ep rfl ?_ | refine PLen.map ?_ | refine PIndexS.ix OA OA ?_ | refine PIndexA.ix OA OA ?_ | refine PIndexA.lit rfl ?_ | refine PInt.ok OA OA ?_ | refine PDiv.of OA ?_ | refine PSide.of NA ?_ | refine PSliceS.lo OA OA ?_ | refine PSliceL.lo OA OA ?_ | refine PSliceS.hi OA OA ?_ | refine PSliceL.hi OA OA ?_ | intro _); conv => whnf)); exact And.intro rfl rfl))) | refine PLoad.box rfl ?_ | refine PLook.set ?_ | refine PSide.of bA ?_ | refine PSide.of rfl ?_ | refine PRow.one rfl rfl ?_ | refine PRow.none ?_ | refine PLoad.ep rfl ?_ | refine PLen.map ?_ | refine PIndexS.ix oA oA ?_ | refine PIndexA.ix oA oA ?_ | refine PIndexA.lit rfl ?_ | refine PInt.ok oA oA ?_ | refine PDiv.of oA ?_ | refine PSide.of nA ?_ | refine PSliceS.lo oA oA ?_ | refine PSliceL.lo oA oA ?_ | refine PSliceS.hi oA oA ?_ | refine PSliceL.hi oA oA ?_ | refine PStore.box rfl rfl rfl ?_ | refine PBytes.mk ?_ | refine PMapPut.set ?_ | refine PMapDel.set ?_ | intro _); conv => whnf)
  refine PLoop.over [4, 5, 8, 9, 10, 11, 12, 13, 14, 15, 16, 17, 18] (fun s : Nat × List Ent => [(8, .int .i64 s.1)]) (fun s => s.2) (fun s => s.1 ≤ l.length ∧ J s.1 s.2) (fun s => l.length - s.1) (0, Γ0) ⟨by omega, h0⟩ wA ?_
  rintro ⟨i, Γ⟩ ⟨h1, h2⟩
  conv => whnf
  repeat' (first | ((first | ((first | (apply PGuard.lazy; intro hg) | apply PStb.of); (focus ((conv => whnf); (repeat ((first | refine PNeed.of gA ?_ | refine PLoad.box rfl ?_ | refine PLook.set ?_ | refine PSide.of bA ?_ | refine PSide.of rfl ?_ | refine PRow.one rfl rfl ?_ | refine PRow.none ?_ | refine PLoad.ep rfl ?_ | refine PLen.map ?_ | refine PIndexS.ix OA OA ?_ | refine PIndexA.ix OA OA ?_ | refine PIndexA.lit rfl ?_ | refine PInt.ok OA OA ?_ | refine PDiv.of OA ?_ | refine PSide.of NA ?_ | refine PSliceS.lo OA OA ?_ | refine PSliceL.lo OA OA ?_ | refine PSliceS.hi OA OA ?_ | refine PSliceL.hi OA OA ?_ | intro _); conv => whnf)); exact And.intro rfl rfl))) | refine PLoad.box rfl ?_ | refine PLook.set ?_ | refine PSide.of bA ?_ | refine PSide.of rfl ?_ | refine PRow.one rfl rfl ?_ | refine PRow.none ?_ | refine PLoad.ep rfl ?_ | refine PLen.map ?_ | refine PIndexS.ix oA oA ?_ | refine PIndexA.ix oA oA ?_ | refine PIndexA.lit rfl ?_ | refine PInt.ok oA oA ?_ | refine PDiv.of oA ?_ | refine PSide.of nA ?_ | refine PSliceS.lo oA oA ?_ | refine PSliceL.lo oA oA ?_ | refine PSliceS.hi oA oA ?_ | refine PSliceL.hi oA oA ?_ | refine PStore.box rfl rfl rfl ?_ | refine PBytes.mk ?_ | refine PMapPut.set ?_ | refine PMapDel.set ?_ | intro _ | refine PSeq.go ?_); conv => whnf) | (refine PCond.ways (fun hc => ?_) (fun hc => ?_) <;> (try simp only [SS, not_true_eq_false, not_false_eq_true, false_and, and_false, true_and, and_true, true_or, or_true, false_or, or_false] at hc) <;> first | (exfalso; omega) | (conv => whnf)))
  · have hlt : i < l.length := by omega
    refine PCall.same (hf i _ Γ (List.getElem?_eq_getElem hlt) h2) (WkT.refl _) ?_
    rintro _ Γ' (⟨rfl, h⟩ | ⟨rfl, h⟩)
    · conv => whnf
      repeat' (first | ((first | ((first | (apply PGuard.lazy; intro hg) | apply PStb.of); (focus ((conv => whnf); (repeat ((first | refine PNeed.of gA ?_ | refine PLoad.box rfl ?_ | refine PLook.set ?_ | refine PSide.of bA ?_ | refine PSide.of rfl ?_ | refine PRow.one rfl rfl ?_ | refine PRow.none ?_ | refine PLoad.ep rfl ?_ | refine PLen.map ?_ | refine PIndexS.ix OA OA ?_ | refine PIndexA.ix OA OA ?_ | refine PIndexA.lit rfl ?_ | refine PInt.ok OA OA ?_ | refine PDiv.of OA ?_ | refine PSide.of NA ?_ | refine PSliceS.lo OA OA ?_ | refine PSliceL.lo OA OA ?_ | refine PSliceS.hi OA OA ?_ | refine PSliceL.hi OA OA ?_ | intro _); conv => whnf)); exact And.intro rfl rfl))) | refine PLoad.box rfl ?_ | refine PLook.set ?_ | refine PSide.of bA ?_ | refine PSide.of rfl ?_ | refine PRow.one rfl rfl ?_ | refine PRow.none ?_ | refine PLoad.ep rfl ?_ | refine PLen.map ?_ | refine PIndexS.ix oA oA ?_ | refine PIndexA.ix oA oA ?_ | refine PIndexA.lit rfl ?_ | refine PInt.ok oA oA ?_ | refine PDiv.of oA ?_ | refine PSide.of nA ?_ | refine PSliceS.lo oA oA ?_ | refine PSliceL.lo oA oA ?_ | refine PSliceS.hi oA oA ?_ | refine PSliceL.hi oA oA ?_ | refine PStore.box rfl rfl rfl ?_ | refine PBytes.mk ?_ | refine PMapPut.set ?_ | refine PMapDel.set ?_ | intro _ | refine PSeq.go ?_); conv => whnf) | (refine PCond.ways (fun hc => ?_) (fun hc => ?_) <;> (try simp only [SS, not_true_eq_false, not_false_eq_true, false_and, and_false, true_and, and_true, true_or, or_true, false_or, or_false] at hc) <;> first | (exfalso; omega) | (conv => whnf)))
      · exact loopTo (i + 1, Γ') ⟨by omega, h⟩ (by show l.length - (i + 1) < l.length - i; omega) wA
    · conv => whnf
      repeat' (first | ((first | ((first | (apply PGuard.lazy; intro hg) | apply PStb.of); (focus ((conv => whnf); (repeat ((first | refine PNeed.of gA ?_ | refine PLoad.box rfl ?_ | refine PLook.set ?_ | refine PSide.of bA ?_ | refine PSide.of rfl ?_ | refine PRow.one rfl rfl ?_ | refine PRow.none ?_ | refine PLoad.ep rfl ?_ | refine PLen.map ?_ | refine PIndexS.ix OA OA ?_ | refine PIndexA.ix OA OA ?_ | refine PIndexA.lit rfl ?_ | refine PInt.ok OA OA ?_ | refine PDiv.of OA ?_ | refine PSide.of NA ?_ | refine PSliceS.lo OA OA ?_ | refine PSliceL.lo OA OA ?_ | refine PSliceS.hi OA OA ?_ | refine PSliceL.hi OA OA ?_ | intro _); conv => whnf)); exact And.intro rfl rfl))) | refine PLoad.box rfl ?_ | refine PLook.set ?_ | refine PSide.of bA ?_ | refine PSide.of rfl ?_ | refine PRow.one rfl rfl ?_ | refine PRow.none ?_ | refine PLoad.ep rfl ?_ | refine PLen.map ?_ | refine PIndexS.ix oA oA ?_ | refine PIndexA.ix oA oA ?_ | refine PIndexA.lit rfl ?_ | refine PInt.ok oA oA ?_ | refine PDiv.of oA ?_ | refine PSide.of nA ?_ | refine PSliceS.lo oA oA ?_ | refine PSliceL.lo oA oA ?_ | refine PSliceS.hi oA oA ?_ | refine PSliceL.hi oA oA ?_ | refine PStore.box rfl rfl rfl ?_ | refine PBytes.mk ?_ | refine PMapPut.set ?_ | refine PMapDel.set ?_ | intro _ | refine PSeq.go ?_); conv => whnf) | (refine PCond.ways (fun hc => ?_) (fun hc => ?_) <;> (try simp only [SS, not_true_eq_false, not_false_eq_true, false_and, and_false, true_and, and_true, true_or, or_true, false_or, or_false] at hc) <;> first | (exfalso; omega) | (conv => whnf)))
      · exact PRet.gen (Wk.refl _) (.inr ⟨i, rfl, hlt, h⟩)
  · obtain rfl : i = l.length := by omega
    exact PRet.gen (Wk.refl _) (.inl ⟨rfl, h2⟩)
theorem containsFuncTrmS_c (k : Nat) (cap : List PV) (l : List Trm) (J : Nat → List Ent → Prop) (X : Nat → List Ent → Prop)
    (hf : ∀ i x Γ, l[i]? = some x → J i Γ → ACall Tryz.prog k (.agg (Trm.cells x) :: cap) Γ (fun y Γ' => (y = .bool false ∧ J (i + 1) Γ') ∨ (y = .bool true ∧ X i Γ'))) (Γ0 : List Ent) (h0 : J 0 Γ0) :
    ACall Tryz.prog 105 [.sl 4 (l.map Trm.pv) none, .fn (.func k) cap] Γ0 (fun y Γ' => (y = .bool false ∧ J l.length Γ') ∨ ∃ i : Nat, y = .bool true ∧ i < l.length ∧ X i Γ') := by
  refine ACall.of_body tt_ok Tryz.func105 rfl rfl (n := 9) rfl rfl ?_
  conv => whnf
  repeat ((first | ((first | (apply PGuard.lazy; intro hg) | apply PStb.of); (focus ((conv => whnf); (repeat ((first | refine PNeed.of gA ?_ | refine PLoad.box rfl ?_ | refine PLook.set ?_ | refine PSide.of bA ?_ | refine PSide.of rfl ?_ | refine PRow.one rfl rfl ?_ | refine PRow.none ?_ | refine PLoad.ep rfl ?_ | refine PLen.map ?_ | refine PIndexS.ix OA OA ?_ | refine PIndexA.ix OA OA ?_ | refine PIndexA.lit rfl ?_ | refine PInt.ok OA OA ?_ | refine PDiv.of OA ?_ | refine PSide.of NA ?_ | refine PSliceS.lo OA OA ?_ | refine PSliceL.lo OA OA ?_ | refine PSliceS.hi OA OA ?_ | refine PSliceL.hi OA OA ?_ | intro _); conv => whnf)); exact And.intro rfl rfl))) | refine PLoad.box rfl ?_ | refine PLook.set ?_ | refine PSide.of bA ?_ | refine PSide.of rfl ?_ | refine PRow.one rfl rfl ?_ | refine PRow.none ?_ | refine PLoad.ep rfl ?_ | refine PLen.map ?_ | refine PIndexS.ix oA oA ?_ | refine PIndexA.ix oA oA ?_ | refine PIndexA.lit rfl ?_ | refine PInt.ok oA oA ?_ | refine PDiv.of oA ?_ | refine PSide.of nA ?_ | refine PSliceS.lo oA oA ?_ | refine PSliceL.lo oA oA ?_ | refine PSliceS.hi oA oA ?_ | refine PSliceL.hi oA oA ?_ | refine PStore.box rfl rfl rfl ?_ | refine PBytes.mk ?_ | refine PMapPut.set ?_ | refine PMapDel.set ?_ | intro _); conv => whnf)
  refine PCall.same (indexFuncTrmS_c k cap l J X hf Γ0 h0) (WkT.refl _) ?_
  rintro _ Γ' (⟨rfl, h⟩ | ⟨i, rfl, hi, h⟩)
  · conv => whnf
    repeat ((first | ((first | (apply PGuard.lazy; intro hg) | apply PStb.of); (focus ((conv => whnf); (repeat ((first | refine PNeed.of gA ?_ | refine PLoad.box rfl ?_ | refine PLook.set ?_ | refine PSide.of bA ?_ | refine PSide.of rfl ?_ | refine PRow.one rfl rfl ?_ | refine PRow.none ?_ | refine PLoad.ep rfl ?_ | refine PLen.map ?_ | refine PIndexS.ix OA OA ?_ | refine PIndexA.ix OA OA ?_ | refine PIndexA.lit rfl ?_ | refine PInt.ok OA OA ?_ | refine PDiv.of OA ?_ | refine PSide.of NA ?_ | refine PSliceS.lo OA OA ?_ | refine PSliceL.lo OA OA ?_ | refine PSliceS.hi OA OA ?_ | refine PSliceL.hi OA OA ?_ | intro _); conv => whnf)); exact And.intro rfl rfl))) | refine PLoad.box rfl ?_ | refine PLook.set ?_ | refine PSide.of bA ?_ | refine PSide.of rfl ?_ | refine PRow.one rfl rfl ?_ | refine PRow.none ?_ | refine PLoad.ep rfl ?_ | refine PLen.map ?_ | refine PIndexS.ix oA oA ?_ | refine PIndexA.ix oA oA ?_ | refine PIndexA.lit rfl ?_ | refine PInt.ok oA oA ?_ | refine PDiv.of oA ?_ | refine PSide.of nA ?_ | refine PSliceS.lo oA oA ?_ | refine PSliceL.lo oA oA ?_ | refine PSliceS.hi oA oA ?_ | refine PSliceL.hi oA oA ?_ | refine PStore.box rfl rfl rfl ?_ | refine PBytes.mk ?_ | refine PMapPut.set ?_ | refine PMapDel.set ?_ | intro _); conv => whnf)
    exact PRet.gen (Wk.bool rfl) (.inl ⟨rfl, h⟩)
  · conv => whnf
    repeat ((first | ((first | (apply PGuard.lazy; intro hg) | apply PStb.of); (focus ((conv => whnf); (repeat ((first | refine PNeed.of gA ?_ | refine PLoad.box rfl ?_ | refine PLook.set ?_ | refine PSide.of bA ?_ | refine PSide.of rfl ?_ | refine PRow.one rfl rfl ?_ | refine PRow.none ?_ | refine PLoad.ep rfl ?_ | refine PLen.map ?_ | refine PIndexS.ix OA OA ?_ | refine PIndexA.ix OA OA ?_ | refine PIndexA.lit rfl ?_ | refine PInt.ok OA OA ?_ | refine PDiv.of OA ?_ | refine PSide.of NA ?_ | refine PSliceS.lo OA OA ?_ | refine PSliceL.lo OA OA ?_ | refine PSliceS.hi OA OA ?_ | refine PSliceL.hi OA OA ?_ | intro _); conv => whnf)); exact And.intro rfl rfl))) | refine PLoad.box rfl ?_ | refine PLook.set ?_ | refine PSide.of bA ?_ | refine PSide.of rfl ?_ | refine PRow.one rfl rfl ?_ | refine PRow.none ?_ | refine PLoad.ep rfl ?_ | refine PLen.map ?_ | refine PIndexS.ix oA oA ?_ | refine PIndexA.ix oA oA ?_ | refine PIndexA.lit rfl ?_ | refine PInt.ok oA oA ?_ | refine PDiv.of oA ?_ | refine PSide.of nA ?_ | refine PSliceS.lo oA oA ?_ | refine PSliceL.lo oA oA ?_ | refine PSliceS.hi oA oA ?_ | refine PSliceL.hi oA oA ?_ | refine PStore.box rfl rfl rfl ?_ | refine PBytes.mk ?_ | refine PMapPut.set ?_ | refine PMapDel.set ?_ | intro _); conv => whnf)
    exact PRet.gen (Wk.bool (by simp)) (.inr ⟨i, rfl, hi, h⟩)
end Go.Cb
namespace Go.Cb
open Go.Proofs
set_option maxRecDepth 100000
set_option maxHeartbeats 4000000
def delS (s : List Int) (m : Value → Option PV) (v : Value) : Option PV := match v with
  | .int .i64 k => if s.contains k then none else m v
  | v => m v
theorem delS_nil (m : Value → Option PV) : delS [] m = m := by
  funext v; unfold delS; split <;> simp
theorem PMapDel.dels {r : Nat} {s : List Int} {n : Int} {m : Value → Option PV} {Γ : List Ent} {pend : List (Int × Value)} {put : (Value → Option PV) → List (Int × Value) → List Ent} [hp : PickMp Γ r (.int .i64) (delS s m) pend put] {K : List Ent → Prop} (h : K (put (delS (s ++ [n]) m) [])) :
    PMapDel r (.int .i64) (some (.int .i64 n)) Γ K :=
  PMapDel.at_ (hp := hp) (delS (s ++ [n]) m) (by simp [MapKept.IsKey]) (by simp [delS]) (fun k hk => by
    unfold delS
    split
    · rename_i m
      have hm : m ≠ n := fun e => hk (by rw [e])
      have : (s ++ [n]).contains m = s.contains m := by rw [Bool.eq_iff_iff]; simp [hm]
      rw [this]
    · rfl) h
theorem delS_setM (v scope : List Int) (h : ∀ x ∈ scope, x ∉ v) : delS v (setM (scope ++ v)) = setM scope := by
  funext k
  unfold delS setM
  split
  · rename_i n
    by_cases h1 : n ∈ v
    · have : n ∉ scope := fun h2 => h n h2 h1
      simp [h1, this]
    · simp [h1]
  · rename_i hne
    split
    · rename_i n; exact absurd rfl (hne n)
    · rfl
theorem defer_c (b5 b6 rs : Nat) (op n : Int) (v : List Int) (ts : List PV) (m : Value → Option PV) (ps : List (Int × Value)) :
    ACallD Tryz.prog 104 [.ptr b5 0, .ptr b6 0] [.box b5 [.int .i64 op, .int .i64 n, .sl 1 (v.map (PV.int .i64)) none, .sl 4 ts none], .box b6 [.mp rs], .mp rs (.int .i64) m ps]
    (fun _ Γ' => ∃ ps', Γ' = [.box b5 [.int .i64 op, .int .i64 n, .sl 1 (v.map (PV.int .i64)) none, .sl 4 ts none], .box b6 [.mp rs], .mp rs (.int .i64) (delS v m) ps']) := by
  have key : ACallD Tryz.prog 104 [.ptr b5 0, .ptr b6 0] [.box b5 [.int .i64 op, .int .i64 n, .sl 1 (v.map (PV.int .i64)) none, .sl 4 ts none], .box b6 [.mp rs], .mp rs (.int .i64) (delS (v.take 0) m) ps]
      (fun _ Γ' => ∃ ps', Γ' = [.box b5 [.int .i64 op, .int .i64 n, .sl 1 (v.map (PV.int .i64)) none, .sl 4 ts none], .box b6 [.mp rs], .mp rs (.int .i64) (delS v m) ps']) := by
    refine ACallD.of_body tt_ok Tryz.func104 rfl rfl (n := 14) rfl rfl ?_
    conv => whnf
    repeat ((first | ((first | (apply PGuard.lazy; intro hg) | apply PStb.of); (focus ((conv => whnf); (repeat ((first | refine PNeed.of gA ?_ | refine PLoad.box rfl ?_ | refine PLook.set ?_ | refine PSide.of bA ?_ | refine PSide.of rfl ?_ | refine PRow.one rfl rfl ?_ | refine PRow.none ?_ | refine PLoad.ep rfl ?_ | refine PLen.map ?_ | refine PIndexS.ix OA OA ?_ | refine PIndexA.ix OA OA ?_ | refine PIndexA.lit rfl ?_ | refine PInt.ok OA OA ?_ | refine PDiv.of OA ?_ | refine PSide.of NA ?_ | refine PSliceS.lo OA OA ?_ | refine PSliceL.lo OA OA ?_ | refine PSliceS.hi OA OA ?_ | refine PSliceL.hi OA OA ?_ | intro _); conv => whnf)); exact And.intro rfl rfl))) | refine PLoad.box rfl ?_ | refine PLook.set ?_ | refine PSide.of bA ?_ | refine PSide.of rfl ?_ | refine PRow.one rfl rfl ?_ | refine PRow.none ?_ | refine PLoad.ep rfl ?_ | refine PLen.map ?_ | refine PIndexS.ix oA oA ?_ | refine PIndexA.ix oA oA ?_ | refine PIndexA.lit rfl ?_ | refine PInt.ok oA oA ?_ | refine PDiv.of oA ?_ | refine PSide.of nA ?_ | refine PSliceS.lo oA oA ?_ | refine PSliceL.lo oA oA ?_ | refine PSliceS.hi oA oA ?_ | refine PSliceL.hi oA oA ?_ | refine PStore.box rfl rfl rfl ?_ | refine PBytes.mk ?_ | refine PMapPut.set ?_ | refine PMapDel.set ?_ | intro _); conv => whnf)
    refine PLoop.over [3, 7, 8, 9, 10, 11, 12, 13] (fun (x : Nat × List (Int × Value)) => [(7, .int .i64 x.1)])
      (fun (x : Nat × List (Int × Value)) => [.box b5 [.int .i64 op, .int .i64 n, .sl 1 (v.map (PV.int .i64)) none, .sl 4 ts none], .box b6 [.mp rs], .mp rs (.int .i64) (delS (v.take x.1) m) x.2]) (fun x => x.1 ≤ v.length) (fun x => v.length - x.1) (0, ps) (by simp) wA ?_
    rintro ⟨i, ps'⟩ hi
    conv => whnf
    repeat' (first | ((first | ((first | (apply PGuard.lazy; intro hg) | apply PStb.of); (focus ((conv => whnf); (repeat ((first | refine PNeed.of gA ?_ | refine PLoad.box rfl ?_ | refine PLook.set ?_ | refine PSide.of bA ?_ | refine PSide.of rfl ?_ | refine PRow.one rfl rfl ?_ | refine PRow.none ?_ | refine PLoad.ep rfl ?_ | refine PLen.map ?_ | refine PIndexS.ix OA OA ?_ | refine PIndexA.ix OA OA ?_ | refine PIndexA.lit rfl ?_ | refine PInt.ok OA OA ?_ | refine PDiv.of OA ?_ | refine PSide.of NA ?_ | refine PSliceS.lo OA OA ?_ | refine PSliceL.lo OA OA ?_ | refine PSliceS.hi OA OA ?_ | refine PSliceL.hi OA OA ?_ | intro _); conv => whnf)); exact And.intro rfl rfl))) | refine PLoad.box rfl ?_ | refine PLook.set ?_ | refine PSide.of bA ?_ | refine PSide.of rfl ?_ | refine PRow.one rfl rfl ?_ | refine PRow.none ?_ | refine PLoad.ep rfl ?_ | refine PLen.map ?_ | refine PIndexS.ix oA oA ?_ | refine PIndexA.ix oA oA ?_ | refine PIndexA.lit rfl ?_ | refine PInt.ok oA oA ?_ | refine PDiv.of oA ?_ | refine PSide.of nA ?_ | refine PSliceS.lo oA oA ?_ | refine PSliceL.lo oA oA ?_ | refine PSliceS.hi oA oA ?_ | refine PSliceL.hi oA oA ?_ | refine PStore.box rfl rfl rfl ?_ | refine PBytes.mk ?_ | refine PMapPut.set ?_ | refine PMapDel.set ?_ | intro _ | refine PSeq.go ?_); conv => whnf) | (refine PCond.ways (fun hc => ?_) (fun hc => ?_) <;> (try simp only [SS, not_true_eq_false, not_false_eq_true, false_and, and_false, true_and, and_true, true_or, or_true, false_or, or_false] at hc) <;> first | (exfalso; omega) | (conv => whnf)))
    · have hlt : i < v.length := by omega
      refine PMapDel.dels ?_
      conv => whnf
      repeat ((first | ((first | (apply PGuard.lazy; intro hg) | apply PStb.of); (focus ((conv => whnf); (repeat ((first | refine PNeed.of gA ?_ | refine PLoad.box rfl ?_ | refine PLook.set ?_ | refine PSide.of bA ?_ | refine PSide.of rfl ?_ | refine PRow.one rfl rfl ?_ | refine PRow.none ?_ | refine PLoad.ep rfl ?_ | refine PLen.map ?_ | refine PIndexS.ix OA OA ?_ | refine PIndexA.ix OA OA ?_ | refine PIndexA.lit rfl ?_ | refine PInt.ok OA OA ?_ | refine PDiv.of OA ?_ | refine PSide.of NA ?_ | refine PSliceS.lo OA OA ?_ | refine PSliceL.lo OA OA ?_ | refine PSliceS.hi OA OA ?_ | refine PSliceL.hi OA OA ?_ | intro _); conv => whnf)); exact And.intro rfl rfl))) | refine PLoad.box rfl ?_ | refine PLook.set ?_ | refine PSide.of bA ?_ | refine PSide.of rfl ?_ | refine PRow.one rfl rfl ?_ | refine PRow.none ?_ | refine PLoad.ep rfl ?_ | refine PLen.map ?_ | refine PIndexS.ix oA oA ?_ | refine PIndexA.ix oA oA ?_ | refine PIndexA.lit rfl ?_ | refine PInt.ok oA oA ?_ | refine PDiv.of oA ?_ | refine PSide.of nA ?_ | refine PSliceS.lo oA oA ?_ | refine PSliceL.lo oA oA ?_ | refine PSliceS.hi oA oA ?_ | refine PSliceL.hi oA oA ?_ | refine PStore.box rfl rfl rfl ?_ | refine PBytes.mk ?_ | refine PMapPut.set ?_ | refine PMapDel.set ?_ | intro _); conv => whnf)
      show LoopTo _ _ _ _ _ _ _ _ _ [_, _, .mp rs (.int .i64) (delS (v.take i ++ [v[i]]) m) []] _
      rw [← List.take_succ_eq_append_getElem hlt]
      exact loopTo (i + 1, []) (by show i + 1 ≤ v.length; omega) (by show v.length - (i + 1) < v.length - i; omega) wA
    · refine ⟨rfl, ?_⟩
      have ht : v.take i = v := List.take_of_length_le (by omega)
      show retK _ _ _ [_, _, .mp rs (.int .i64) (delS (v.take i) m) ps'] _
      rw [ht]
      conv => whnf
      exact PRet.gen (Wk.refl _) ⟨ps', rfl⟩
  rw [List.take_zero, delS_nil] at key
  exact key
end Go.Cb
namespace Go.Cb
open Go.Proofs
set_option maxRecDepth 100000
set_option maxHeartbeats 4000000
def badP (level consts codes : Int) (free : Bool) (t : Trm) (scope : List Int) (deep size : Int) : Bool :=
  !(shapeL t.op).2 || decide (deep > 400) || decide (size > 20000) || decide (level < (shapeL t.op).1.fm) || decide (level > (shapeL t.op).1.to) || !fitsL (shapeL t.op).1 t || !numberP consts codes free t scope
mutual
def Trm.ckP (level consts codes : Int) (free : Bool) : Trm → List Int → Int → Int → List Int → Option (Int × List Int)
  | .mk op n v t, scope, deep, size, bound =>
    if badP level consts codes free (.mk op n v t) scope deep (size + 1) = true then none else
    if groupB op = true then
      if (op == 9 && !procsL level t.dropLast) = true then none else if (bindR v bound).1 = true then Trm.cksG level consts codes free (scope ++ v) t (deep + 1) (size + 1) (bound ++ v) else none
    else Trm.cksI level consts codes free scope v t (deep + 1) (size + 1) bound
def Trm.cksG (level consts codes : Int) (free : Bool) (scope : List Int) : List Trm → Int → Int → List Int → Option (Int × List Int)
  | [], _, size, bound => some (size, bound)
  | x :: xs, deep, size, bound =>
    match Trm.ckP level consts codes free x scope deep size bound with
    | none => none
    | some (s, b) => Trm.cksG level consts codes free scope xs deep s b
def Trm.cksI (level consts codes : Int) (free : Bool) (scope v : List Int) : List Trm → Int → Int → List Int → Option (Int × List Int)
  | [], _, size, bound => if (bindR v bound).1 = true then some (size, bound ++ v) else none
  | x :: xs, deep, size, bound =>
    if xs.isEmpty = true then (if (bindR v bound).1 = true then Trm.ckP level consts codes free x (scope ++ v) deep size (bound ++ v) else none) else
    match Trm.ckP level consts codes free x scope deep size bound with
    | none => none
    | some (s, b) => Trm.cksI level consts codes free scope v xs deep s b
end
theorem Trm.ckP_eq (level consts codes : Int) (free : Bool) (t : Trm) (scope : List Int) (deep size : Int) (bound : List Int) : t.ckP level consts codes free scope deep size bound =
    if badP level consts codes free t scope deep (size + 1) = true then none else
    if groupB t.op = true then
      if (t.op == 9 && !procsL level t.t.dropLast) = true then none else if (bindR t.v bound).1 = true then Trm.cksG level consts codes free (scope ++ t.v) t.t (deep + 1) (size + 1) (bound ++ t.v) else none
    else Trm.cksI level consts codes free scope t.v t.t (deep + 1) (size + 1) bound := by
  cases t; rw [Trm.ckP]; rfl
theorem Trm.ckP_bd (level consts codes : Int) (free : Bool) (x : Trm) : ∀ (scope : List Int) (deep size : Int) (bound : List Int) (s : Int) (b : List Int), x.ckP level consts codes free scope deep size bound = some (s, b) →
    size < s ∧ s ≤ 20000 ∧ ∀ v ∈ bound, v ∈ b := by
  induction x using Trm.ind with
  | h x ih =>
    intro scope deep size bound s b h
    rw [Trm.ckP_eq] at h
    split at h
    · cases h
    rename_i hc
    have hsz : size + 1 ≤ 20000 := by simp [badP] at hc; omega
    split at h
    · split at h
      · cases h
      split at h
      · have key : ∀ (l : List Trm), (∀ y ∈ l, ∀ (scope : List Int) (deep size : Int) (bound : List Int) (s : Int) (b : List Int), y.ckP level consts codes free scope deep size bound = some (s, b) → size < s ∧ s ≤ 20000 ∧ ∀ v ∈ bound, v ∈ b) →
            ∀ (sc : List Int) (deep size : Int) (bound : List Int) (s : Int) (b : List Int), size ≤ 20000 → Trm.cksG level consts codes free sc l deep size bound = some (s, b) → size ≤ s ∧ s ≤ 20000 ∧ ∀ v ∈ bound, v ∈ b := by
          intro l
          induction l with
          | nil => intro _ sc deep size bound s b h0 h; rw [Trm.cksG] at h; cases h; exact ⟨by omega, by omega, fun _ h => h⟩
          | cons y l ihl =>
            intro hy sc deep size bound s b h0 h
            rw [Trm.cksG] at h
            split at h
            · cases h
            · rename_i s1 b1 h1
              have e1 := hy y (by simp) _ _ _ _ _ _ h1
              have e2 := ihl (fun z hz => hy z (by simp [hz])) _ _ _ _ _ _ (by omega) h
              exact ⟨by omega, e2.2.1, fun v hv => e2.2.2 v (e1.2.2 v hv)⟩
        have := key x.t ih _ _ _ _ _ _ hsz h
        exact ⟨by omega, this.2.1, fun v hv => this.2.2 v (by simp [hv])⟩
      · cases h
    · have key : ∀ (l : List Trm), (∀ y ∈ l, ∀ (scope : List Int) (deep size : Int) (bound : List Int) (s : Int) (b : List Int), y.ckP level consts codes free scope deep size bound = some (s, b) → size < s ∧ s ≤ 20000 ∧ ∀ v ∈ bound, v ∈ b) →
          ∀ (sc : List Int) (deep size : Int) (bound : List Int) (s : Int) (b : List Int), size ≤ 20000 → Trm.cksI level consts codes free sc x.v l deep size bound = some (s, b) → size ≤ s ∧ s ≤ 20000 ∧ ∀ v ∈ bound, v ∈ b := by
        intro l
        induction l with
        | nil =>
          intro _ sc deep size bound s b h0 h
          rw [Trm.cksI] at h
          split at h
          · cases h; exact ⟨by omega, by omega, fun _ h => by simp [h]⟩
          · cases h
        | cons y l ihl =>
          intro hy sc deep size bound s b h0 h
          rw [Trm.cksI] at h
          split at h
          · split at h
            · have e1 := hy y (by simp) _ _ _ _ _ _ h
              exact ⟨by omega, e1.2.1, fun v hv => e1.2.2 v (by simp [hv])⟩
            · cases h
          split at h
          · cases h
          · rename_i s1 b1 h1
            have e1 := hy y (by simp) _ _ _ _ _ _ h1
            have e2 := ihl (fun z hz => hy z (by simp [hz])) _ _ _ _ _ _ (by omega) h
            exact ⟨by omega, e2.2.1, fun v hv => e2.2.2 v (e1.2.2 v hv)⟩
      have := key x.t ih _ _ _ _ _ _ hsz h
      exact ⟨by omega, this.2⟩
def rPost (c rb rs : Nat) (level consts codes : Int) (free : Bool) (scope : List Int) (r : Option (Int × List Int)) (y : PV) (Γ' : List Ent) : Prop :=
  y = .bool r.isSome ∧ ∃ size' mb ms pb' ps', Γ' = [.box c (cpC level consts codes size' free rb), .mp rb (.int .i64) mb pb', .mp rs (.int .i64) ms ps'] ∧ ∀ s b, r = some (s, b) → size' = s ∧ mb = setM b ∧ ms = setM scope
theorem right2p_c (c rb rs b4 b6 b7 : Nat) (level consts codes : Int) (free : Bool) (x : Trm) (scope : List Int) (deep size : Int) (bound : List Int) (pb ps : List (Int × Value)) (hd0 : 0 ≤ deep) (hd1 : deep ≤ 400)
    (hx : ACall Tryz.prog 60 [.ptr c 0, .agg x.cells, .mp rs, .int .i64 (deep + 1)] [.box c (cpC level consts codes size free rb), .mp rb (.int .i64) (setM bound) pb, .mp rs (.int .i64) (setM scope) ps]
      (rPost c rb rs level consts codes free scope (x.ckP level consts codes free scope (deep + 1) size bound))) :
    ACall Tryz.prog 106 [.agg x.cells, .ptr b4 0, .ptr b6 0, .ptr b7 0] [.box c (cpC level consts codes size free rb), .mp rb (.int .i64) (setM bound) pb, .mp rs (.int .i64) (setM scope) ps, .box b4 [.ptr c 0], .box b6 [.mp rs], .box b7 [.int .i64 deep]]
      (fun y Γ' => ∃ size' mb ms pb' ps', y = .bool (!(x.ckP level consts codes free scope (deep + 1) size bound).isSome) ∧ Γ' = [.box c (cpC level consts codes size' free rb), .mp rb (.int .i64) mb pb', .mp rs (.int .i64) ms ps', .box b4 [.ptr c 0], .box b6 [.mp rs], .box b7 [.int .i64 deep]] ∧
        ∀ s b, x.ckP level consts codes free scope (deep + 1) size bound = some (s, b) → size' = s ∧ mb = setM b ∧ ms = setM scope) := by
  refine ACall.of_body tt_ok Tryz.func106 rfl rfl (n := 13) rfl rfl ?_
  conv => whnf
  repeat ((first | ((first | (apply PGuard.lazy; intro hg) | apply PStb.of); (focus ((conv => whnf); (repeat ((first | refine PNeed.of gA ?_ | refine PLoad.box rfl ?_ | refine PLook.set ?_ | refine PSide.of bA ?_ | refine PSide.of rfl ?_ | refine PRow.one rfl rfl ?_ | refine PRow.none ?_ | refine PLoad.ep rfl ?_ | refine PLen.map ?_ | refine PIndexS.ix OA OA ?_ | refine PIndexA.ix OA OA ?_ | refine PIndexA.lit rfl ?_ | refine PInt.ok OA OA ?_ | refine PDiv.of OA ?_ | refine PSide.of NA ?_ | refine PSliceS.lo OA OA ?_ | refine PSliceL.lo OA OA ?_ | refine PSliceS.hi OA OA ?_ | refine PSliceL.hi OA OA ?_ | intro _); conv => whnf)); exact And.intro rfl rfl))) | refine PLoad.box rfl ?_ | refine PLook.set ?_ | refine PSide.of bA ?_ | refine PSide.of rfl ?_ | refine PRow.one rfl rfl ?_ | refine PRow.none ?_ | refine PLoad.ep rfl ?_ | refine PLen.map ?_ | refine PIndexS.ix oA oA ?_ | refine PIndexA.ix oA oA ?_ | refine PIndexA.lit rfl ?_ | refine PInt.ok oA oA ?_ | refine PDiv.of oA ?_ | refine PSide.of nA ?_ | refine PSliceS.lo oA oA ?_ | refine PSliceL.lo oA oA ?_ | refine PSliceS.hi oA oA ?_ | refine PSliceL.hi oA oA ?_ | refine PStore.box rfl rfl rfl ?_ | refine PBytes.mk ?_ | refine PMapPut.set ?_ | refine PMapDel.set ?_ | intro _); conv => whnf)
  conv => whnf
  repeat' (first | ((first | ((first | (apply PGuard.lazy; intro hg) | apply PStb.of); (focus ((conv => whnf); (repeat ((first | refine PNeed.of gA ?_ | refine PLoad.box rfl ?_ | refine PLook.set ?_ | refine PSide.of bA ?_ | refine PSide.of rfl ?_ | refine PRow.one rfl rfl ?_ | refine PRow.none ?_ | refine PLoad.ep rfl ?_ | refine PLen.map ?_ | refine PIndexS.ix OA OA ?_ | refine PIndexA.ix OA OA ?_ | refine PIndexA.lit rfl ?_ | refine PInt.ok OA OA ?_ | refine PDiv.of OA ?_ | refine PSide.of NA ?_ | refine PSliceS.lo OA OA ?_ | refine PSliceL.lo OA OA ?_ | refine PSliceS.hi OA OA ?_ | refine PSliceL.hi OA OA ?_ | intro _); conv => whnf)); exact And.intro rfl rfl))) | refine PLoad.box rfl ?_ | refine PLook.set ?_ | refine PSide.of bA ?_ | refine PSide.of rfl ?_ | refine PRow.one rfl rfl ?_ | refine PRow.none ?_ | refine PLoad.ep rfl ?_ | refine PLen.map ?_ | refine PIndexS.ix oA oA ?_ | refine PIndexA.ix oA oA ?_ | refine PIndexA.lit rfl ?_ | refine PInt.ok oA oA ?_ | refine PDiv.of oA ?_ | refine PSide.of nA ?_ | refine PSliceS.lo oA oA ?_ | refine PSliceL.lo oA oA ?_ | refine PSliceS.hi oA oA ?_ | refine PSliceL.hi oA oA ?_ | refine PStore.box rfl rfl rfl ?_ | refine PBytes.mk ?_ | refine PMapPut.set ?_ | refine PMapDel.set ?_ | intro _ | refine PSeq.go ?_); conv => whnf) | (refine PCond.ways (fun hc => ?_) (fun hc => ?_) <;> (try simp only [SS, not_true_eq_false, not_false_eq_true, false_and, and_false, true_and, and_true, true_or, or_true, false_or, or_false] at hc) <;> first | (exfalso; omega) | (conv => whnf)))
  refine PCall.go hx (WkT.refl _) ?_
  rintro _ _ ⟨rfl, sz2, mb, ms, pb2, ps2, rfl, hs⟩
  conv => whnf
  repeat' (first | ((first | ((first | (apply PGuard.lazy; intro hg) | apply PStb.of); (focus ((conv => whnf); (repeat ((first | refine PNeed.of gA ?_ | refine PLoad.box rfl ?_ | refine PLook.set ?_ | refine PSide.of bA ?_ | refine PSide.of rfl ?_ | refine PRow.one rfl rfl ?_ | refine PRow.none ?_ | refine PLoad.ep rfl ?_ | refine PLen.map ?_ | refine PIndexS.ix OA OA ?_ | refine PIndexA.ix OA OA ?_ | refine PIndexA.lit rfl ?_ | refine PInt.ok OA OA ?_ | refine PDiv.of OA ?_ | refine PSide.of NA ?_ | refine PSliceS.lo OA OA ?_ | refine PSliceL.lo OA OA ?_ | refine PSliceS.hi OA OA ?_ | refine PSliceL.hi OA OA ?_ | intro _); conv => whnf)); exact And.intro rfl rfl))) | refine PLoad.box rfl ?_ | refine PLook.set ?_ | refine PSide.of bA ?_ | refine PSide.of rfl ?_ | refine PRow.one rfl rfl ?_ | refine PRow.none ?_ | refine PLoad.ep rfl ?_ | refine PLen.map ?_ | refine PIndexS.ix oA oA ?_ | refine PIndexA.ix oA oA ?_ | refine PIndexA.lit rfl ?_ | refine PInt.ok oA oA ?_ | refine PDiv.of oA ?_ | refine PSide.of nA ?_ | refine PSliceS.lo oA oA ?_ | refine PSliceL.lo oA oA ?_ | refine PSliceS.hi oA oA ?_ | refine PSliceL.hi oA oA ?_ | refine PStore.box rfl rfl rfl ?_ | refine PBytes.mk ?_ | refine PMapPut.set ?_ | refine PMapDel.set ?_ | intro _ | refine PSeq.go ?_); conv => whnf) | (refine PCond.ways (fun hc => ?_) (fun hc => ?_) <;> (try simp only [SS, not_true_eq_false, not_false_eq_true, false_and, and_false, true_and, and_true, true_or, or_true, false_or, or_false] at hc) <;> first | (exfalso; omega) | (conv => whnf)))
  exact PRet.gen (Wk.refl _) ⟨sz2, mb, ms, pb2, ps2, rfl, rfl, hs⟩
theorem all2p_c (c rb rs b4 b6 b7 : Nat) (level consts codes : Int) (free : Bool) (l : List Trm) (scope : List Int) (deep : Int) (hd0 : 0 ≤ deep) (hd1 : deep ≤ 400)
    (ih : ∀ x ∈ l, ∀ (size : Int) (bound : List Int) (pb ps : List (Int × Value)), 0 ≤ size → size ≤ 20000 → (∀ x ∈ scope, x ∈ bound) → ACall Tryz.prog 60 [.ptr c 0, .agg x.cells, .mp rs, .int .i64 (deep + 1)] [.box c (cpC level consts codes size free rb), .mp rb (.int .i64) (setM bound) pb, .mp rs (.int .i64) (setM scope) ps]
      (rPost c rb rs level consts codes free scope (x.ckP level consts codes free scope (deep + 1) size bound)))
    (size : Int) (bound : List Int) (pb ps : List (Int × Value)) (hs0 : 0 ≤ size) (hs1 : size ≤ 20000) (hsub : ∀ x ∈ scope, x ∈ bound) :
    ACall Tryz.prog 105 [.sl 4 (l.map Trm.pv) none, .fn (.func 106) [.ptr b4 0, .ptr b6 0, .ptr b7 0]] [.box c (cpC level consts codes size free rb), .mp rb (.int .i64) (setM bound) pb, .mp rs (.int .i64) (setM scope) ps, .box b4 [.ptr c 0], .box b6 [.mp rs], .box b7 [.int .i64 deep]]
      (fun y Γ' => ∃ size' mb ms pb' ps', y = .bool (!(Trm.cksG level consts codes free scope l (deep + 1) size bound).isSome) ∧ Γ' = [.box c (cpC level consts codes size' free rb), .mp rb (.int .i64) mb pb', .mp rs (.int .i64) ms ps', .box b4 [.ptr c 0], .box b6 [.mp rs], .box b7 [.int .i64 deep]] ∧
        ∀ s b, Trm.cksG level consts codes free scope l (deep + 1) size bound = some (s, b) → size' = s ∧ mb = setM b ∧ ms = setM scope) := by
  refine (containsFuncTrmS_c 106 [.ptr b4 0, .ptr b6 0, .ptr b7 0] l
    (fun i Γ => ∃ sz bd pb ps, Γ = [.box c (cpC level consts codes sz free rb), .mp rb (.int .i64) (setM bd) pb, .mp rs (.int .i64) (setM scope) ps, .box b4 [.ptr c 0], .box b6 [.mp rs], .box b7 [.int .i64 deep]] ∧ 0 ≤ sz ∧ sz ≤ 20000 ∧ (∀ x ∈ scope, x ∈ bd) ∧ Trm.cksG level consts codes free scope l (deep + 1) size bound = Trm.cksG level consts codes free scope (l.drop i) (deep + 1) sz bd)
    (fun _ Γ => ∃ sz mb ms pb ps, Γ = [.box c (cpC level consts codes sz free rb), .mp rb (.int .i64) mb pb, .mp rs (.int .i64) ms ps, .box b4 [.ptr c 0], .box b6 [.mp rs], .box b7 [.int .i64 deep]] ∧ Trm.cksG level consts codes free scope l (deep + 1) size bound = none)
    ?_ _ ⟨size, bound, pb, ps, rfl, hs0, hs1, hsub, rfl⟩).mono ?_
  · rintro i x _ hx ⟨sz, bd, pb, ps, rfl, h0, h1, h2, h3⟩
    obtain ⟨hi, rfl⟩ := List.getElem?_eq_some_iff.1 hx
    refine (right2p_c c rb rs b4 b6 b7 level consts codes free l[i] scope deep sz bd pb ps hd0 hd1 (ih _ (List.getElem_mem _) sz bd pb ps h0 h1 h2)).mono ?_
    rintro _ _ ⟨sz2, mb, ms, pb2, ps2, rfl, rfl, hs⟩
    rw [drop_at hi, Trm.cksG] at h3
    cases e : Trm.ckP level consts codes free l[i] scope (deep + 1) sz bd with
    | none => rw [e] at h3; exact .inr ⟨by simp [PV.bool], sz2, mb, ms, pb2, ps2, rfl, h3⟩
    | some q =>
      obtain ⟨s1, b1⟩ := q
      obtain ⟨rfl, rfl, rfl⟩ := hs s1 b1 e
      have hbd := Trm.ckP_bd _ _ _ _ _ _ _ _ _ _ _ e
      rw [e] at h3
      exact .inl ⟨by simp [PV.bool], sz2, b1, pb2, ps2, rfl, by omega, hbd.2.1, fun x h => hbd.2.2 x (h2 x h), h3⟩
  · rintro _ _ (⟨rfl, sz, bd, pb, ps, rfl, h0, h1, h2, h3⟩ | ⟨i, rfl, hi, sz, mb, ms, pb, ps, rfl, h3⟩)
    · rw [List.drop_length, Trm.cksG] at h3
      rw [h3]
      exact ⟨sz, setM bd, setM scope, pb, ps, rfl, rfl, fun s b h => by cases h; exact ⟨rfl, rfl, rfl⟩⟩
    · rw [h3]
      exact ⟨sz, mb, ms, pb, ps, rfl, rfl, fun s b h => by cases h⟩
theorem cksI_end {level consts codes : Int} {free : Bool} {scope v : List Int} {l : List Trm} {deep size : Int} {bound : List Int} (h : l.length ≤ 1) :
    Trm.cksI level consts codes free scope v l deep size bound = if (bindR v bound).1 = true then Trm.cksG level consts codes free (scope ++ v) l deep size (bound ++ v) else none := by
  match l, h with
  | [], _ => rw [Trm.cksI, Trm.cksG]
  | [x], _ =>
    rw [Trm.cksI, if_pos (show ([] : List Trm).isEmpty = true from rfl), Trm.cksG]
    split
    · cases hx : Trm.ckP level consts codes free x (scope ++ v) deep size (bound ++ v) with
      | none => rfl
      | some q => obtain ⟨s, b⟩ := q; simp only [Trm.cksG]
    · rfl
  | _ :: _ :: _, h => simp at h
theorem bindR_apart : ∀ {l bound : List Int}, (bindR l bound).1 = true → ∀ x, x ∈ l → x ∈ bound → False
  | [], _, _, _, h, _ => by cases h
  | v :: l, bound, h, x, hx, hb => by
    rw [bindR] at h
    split at h
    · rename_i hv
      rcases List.mem_cons.1 hx with rfl | hx
      · simp [vOk, hb] at hv
      · exact bindR_apart h x hx (by simp [hb])
    · cases h
theorem right_end {r ck : Option (Int × List Int)} {a : Int} {b : Bool} (hck : ck = if (a == 9 && !b) = true then none else r) : (!!r.isSome && (a != 9 || b)) = ck.isSome := by
  subst hck
  cases h : a == 9 <;> cases b <;> cases r <;> simp_all [bne]
theorem fits9 {t : Trm} (h : fitsL (shapeL t.op).1 t = true) (h9 : t.op = 9) : 1 ≤ t.t.length := by
  have e : shapeL 9 = (⟨1, 3, 0, false, true⟩, true) := rfl
  rw [h9, e] at h
  simp [fitsL, h9] at h
  omega
theorem rightp_c (c rb rs : Nat) (level consts codes : Int) (free : Bool) (t : Trm) : ∀ (scope : List Int) (deep size : Int) (bound : List Int) (pb ps : List (Int × Value)), 0 ≤ deep → deep ≤ 401 → 0 ≤ size → size ≤ 20000 → (∀ x ∈ scope, x ∈ bound) → t.bulk ≤ 1000000000 →
    ACall Tryz.prog 60 [.ptr c 0, .agg t.cells, .mp rs, .int .i64 deep] [.box c (cpC level consts codes size free rb), .mp rb (.int .i64) (setM bound) pb, .mp rs (.int .i64) (setM scope) ps]
    (rPost c rb rs level consts codes free scope (t.ckP level consts codes free scope deep size bound)) := by
  induction t using Trm.ind with
  | h t ih =>
    intro scope deep size bound pb ps hd0 hd1 hs0 hs1 hsub hbk
    have hbe := t.bulk_eq
    have hlv := Trm.bulks_length t.t
    have hr := t.ckP_eq level consts codes free scope deep size bound
    refine ACall.of_body tt_ok Tryz.func60 rfl rfl (n := 126) rfl rfl ?_
    conv => whnf
    repeat ((first | ((first | (apply PGuard.lazy; intro hg) | apply PStb.of); (focus ((conv => whnf); (repeat ((first | refine PNeed.of gA ?_ | refine PLoad.box rfl ?_ | refine PLook.set ?_ | refine PSide.of bA ?_ | refine PSide.of rfl ?_ | refine PRow.one rfl rfl ?_ | refine PRow.none ?_ | refine PLoad.ep rfl ?_ | refine PLen.map ?_ | refine PIndexS.ix OA OA ?_ | refine PIndexA.ix OA OA ?_ | refine PIndexA.lit rfl ?_ | refine PInt.ok OA OA ?_ | refine PDiv.of OA ?_ | refine PSide.of NA ?_ | refine PSliceS.lo OA OA ?_ | refine PSliceL.lo OA OA ?_ | refine PSliceS.hi OA OA ?_ | refine PSliceL.hi OA OA ?_ | refine PCall.pure (shapeOf_c _) (WkT.refl _) ?_ | refine PCall.pure (shapeOf_c _) cA ?_ | refine PCall.pure (fits_c (shapeL t.op).1 t OA) (WkT.refl _) ?_ | refine PCall.pure (fits_c (shapeL t.op).1 t OA) cA ?_ | refine PCall.read (number2p_c c rb rs level consts codes (size + 1) free t scope ps) (WkT.refl _) ?_ | refine PCall.pure (group_c t) (WkT.refl _) ?_ | refine PCall.pure (group_c t) cA ?_ | intro _); conv => whnf)); exact And.intro rfl rfl))) | refine PLoad.box rfl ?_ | refine PLook.set ?_ | refine PSide.of bA ?_ | refine PSide.of rfl ?_ | refine PRow.one rfl rfl ?_ | refine PRow.none ?_ | refine PLoad.ep rfl ?_ | refine PLen.map ?_ | refine PIndexS.ix oA oA ?_ | refine PIndexA.ix oA oA ?_ | refine PIndexA.lit rfl ?_ | refine PInt.ok oA oA ?_ | refine PDiv.of oA ?_ | refine PSide.of nA ?_ | refine PSliceS.lo oA oA ?_ | refine PSliceL.lo oA oA ?_ | refine PSliceS.hi oA oA ?_ | refine PSliceL.hi oA oA ?_ | refine PCall.pure (shapeOf_c _) (WkT.refl _) ?_ | refine PCall.pure (shapeOf_c _) cA ?_ | refine PCall.pure (fits_c (shapeL t.op).1 t OA) (WkT.refl _) ?_ | refine PCall.pure (fits_c (shapeL t.op).1 t OA) cA ?_ | refine PCall.read (number2p_c c rb rs level consts codes (size + 1) free t scope ps) (WkT.refl _) ?_ | refine PCall.pure (group_c t) (WkT.refl _) ?_ | refine PCall.pure (group_c t) cA ?_ | refine PStore.box rfl rfl rfl ?_ | refine PBytes.mk ?_ | refine PMapPut.set ?_ | refine PMapDel.set ?_ | refine PDraw.at_ (some 27) rfl tt_ok mixed [0, 1, 3, 7, 15, 31, 63, 127, 255, 511, 1023, 2047, 4095, 8191, 16383, 32767, 65535, 131071, 16383, 278527, 1048575, 2097151, 4194303, 8388607, 16777215, 33554431, 67108863, 8388607, 142606335, 536870911, 1073741823, 2147483647, 4294967295, 4294967295, 17179869183, 34359738367, 68719476735, 137438953471, 274877906943, 274877906943, 274877906943, 2199023255551, 4398046511103, 8796093022207] [0, 1, 2, 3, 4, 5, 6, 7, 8, 9, 10, 11, 12, 13, 14, 15, 16, 17, 18, 19, 20, 21, 22, 23, 24, 25, 26, 27, 28, 29, 30, 31, 32, 33, 34, 35, 36, 37, 38, 39, 40] [] [41, 42, 43] [] (by kernel_rfl) ?_ | refine PDraw.at_ (some 83) rfl tt_ok mixed [0, 0, 2, 0, 14, 30, 0, 0, 128, 511, 1023] [0, 1, 2, 3, 4, 5, 6, 7, 8] [] [9, 10] [] (by kernel_rfl) ?_ | refine PDraw.at_ (some 106) rfl tt_ok mixed [0, 1, 0, 7, 0, 31, 63, 127, 255, 511, 1023, 2047, 4095, 4095, 12287, 4095, 61439, 131071, 262143, 524287, 1048575] [0, 1, 2, 3, 4, 5, 6, 7, 8, 9, 10, 11, 12, 13, 14, 15, 16] [] [17, 18, 19, 20] [] (by kernel_rfl) ?_ | intro _); conv => whnf)
    conv => whnf
    repeat' (first | ((first | ((first | (apply PGuard.lazy; intro hg) | apply PStb.of); (focus ((conv => whnf); (repeat ((first | refine PNeed.of gA ?_ | refine PLoad.box rfl ?_ | refine PLook.set ?_ | refine PSide.of bA ?_ | refine PSide.of rfl ?_ | refine PRow.one rfl rfl ?_ | refine PRow.none ?_ | refine PLoad.ep rfl ?_ | refine PLen.map ?_ | refine PIndexS.ix OA OA ?_ | refine PIndexA.ix OA OA ?_ | refine PIndexA.lit rfl ?_ | refine PInt.ok OA OA ?_ | refine PDiv.of OA ?_ | refine PSide.of NA ?_ | refine PSliceS.lo OA OA ?_ | refine PSliceL.lo OA OA ?_ | refine PSliceS.hi OA OA ?_ | refine PSliceL.hi OA OA ?_ | refine PCall.pure (shapeOf_c _) (WkT.refl _) ?_ | refine PCall.pure (shapeOf_c _) cA ?_ | refine PCall.pure (fits_c (shapeL t.op).1 t OA) (WkT.refl _) ?_ | refine PCall.pure (fits_c (shapeL t.op).1 t OA) cA ?_ | refine PCall.read (number2p_c c rb rs level consts codes (size + 1) free t scope ps) (WkT.refl _) ?_ | refine PCall.pure (group_c t) (WkT.refl _) ?_ | refine PCall.pure (group_c t) cA ?_ | intro _); conv => whnf)); exact And.intro rfl rfl))) | refine PLoad.box rfl ?_ | refine PLook.set ?_ | refine PSide.of bA ?_ | refine PSide.of rfl ?_ | refine PRow.one rfl rfl ?_ | refine PRow.none ?_ | refine PLoad.ep rfl ?_ | refine PLen.map ?_ | refine PIndexS.ix oA oA ?_ | refine PIndexA.ix oA oA ?_ | refine PIndexA.lit rfl ?_ | refine PInt.ok oA oA ?_ | refine PDiv.of oA ?_ | refine PSide.of nA ?_ | refine PSliceS.lo oA oA ?_ | refine PSliceL.lo oA oA ?_ | refine PSliceS.hi oA oA ?_ | refine PSliceL.hi oA oA ?_ | refine PCall.pure (shapeOf_c _) (WkT.refl _) ?_ | refine PCall.pure (shapeOf_c _) cA ?_ | refine PCall.pure (fits_c (shapeL t.op).1 t OA) (WkT.refl _) ?_ | refine PCall.pure (fits_c (shapeL t.op).1 t OA) cA ?_ | refine PCall.read (number2p_c c rb rs level consts codes (size + 1) free t scope ps) (WkT.refl _) ?_ | refine PCall.pure (group_c t) (WkT.refl _) ?_ | refine PCall.pure (group_c t) cA ?_ | refine PStore.box rfl rfl rfl ?_ | refine PBytes.mk ?_ | refine PMapPut.set ?_ | refine PMapDel.set ?_ | refine PDraw.at_ (some 27) rfl tt_ok mixed [0, 1, 3, 7, 15, 31, 63, 127, 255, 511, 1023, 2047, 4095, 8191, 16383, 32767, 65535, 131071, 16383, 278527, 1048575, 2097151, 4194303, 8388607, 16777215, 33554431, 67108863, 8388607, 142606335, 536870911, 1073741823, 2147483647, 4294967295, 4294967295, 17179869183, 34359738367, 68719476735, 137438953471, 274877906943, 274877906943, 274877906943, 2199023255551, 4398046511103, 8796093022207] [0, 1, 2, 3, 4, 5, 6, 7, 8, 9, 10, 11, 12, 13, 14, 15, 16, 17, 18, 19, 20, 21, 22, 23, 24, 25, 26, 27, 28, 29, 30, 31, 32, 33, 34, 35, 36, 37, 38, 39, 40] [] [41, 42, 43] [] (by kernel_rfl) ?_ | refine PDraw.at_ (some 83) rfl tt_ok mixed [0, 0, 2, 0, 14, 30, 0, 0, 128, 511, 1023] [0, 1, 2, 3, 4, 5, 6, 7, 8] [] [9, 10] [] (by kernel_rfl) ?_ | refine PDraw.at_ (some 106) rfl tt_ok mixed [0, 1, 0, 7, 0, 31, 63, 127, 255, 511, 1023, 2047, 4095, 4095, 12287, 4095, 61439, 131071, 262143, 524287, 1048575] [0, 1, 2, 3, 4, 5, 6, 7, 8, 9, 10, 11, 12, 13, 14, 15, 16] [] [17, 18, 19, 20] [] (by kernel_rfl) ?_ | intro _ | refine PSeq.go ?_); conv => whnf) | (refine PCond.ways (fun hc => ?_) (fun hc => ?_) <;> (try simp only [SS, not_true_eq_false, not_false_eq_true, false_and, and_false, true_and, and_true, true_or, or_true, false_or, or_false] at hc) <;> first | (exfalso; omega) | (conv => whnf)))
    · rw [hr, if_pos (by simp only [badP, SS]; exact hc)]
      exact PRet.gen (y := .bool false) (Wk.ff rfl) ⟨rfl, size + 1, setM bound, setM scope, pb, ps, rfl, fun _ _ h => by cases h⟩
    all_goals
      rename_i b4 b5 b6 b7 b9 hgood hlen
      have hfx : t.op = 9 → 1 ≤ t.t.length := fits9 hgood.1.2
      rw [if_neg (by simp only [badP, SS]; intro h; obtain ⟨⟨⟨⟨⟨⟨g1, g2⟩, g3⟩, g4⟩, g5⟩, g6⟩, g7⟩ := hgood; simp only [g1, g6, g7, Bool.true_eq_false, or_false, false_or] at h; omega)] at hr
    · have hgr := hc
      rw [if_neg (by rw [hc]; simp)] at hr
      refine PLoop.over [8, 12, 78, 79, 80, 81, 82, 83, 84, 85, 86, 87, 88, 89, 90, 91, 92, 93] (fun (x : Nat × Int × List Int × List (Int × Value) × List (Int × Value)) => [(12, .int .i64 x.1)])
        (fun (x : Nat × Int × List Int × List (Int × Value) × List (Int × Value)) => [.box b9 (shapeL t.op).1.cells, .box b7 [.int .i64 deep], .box b6 [.mp rs], .box b5 [.int .i64 t.op, .int .i64 t.n, .sl 1 (t.v.map (PV.int .i64)) none, .sl 4 (t.t.map Trm.pv) none], .box b4 [.ptr c 0],
          .box c (cpC level consts codes x.2.1 free rb), .mp rb (.int .i64) (setM x.2.2.1) x.2.2.2.1, .mp rs (.int .i64) (setM scope) x.2.2.2.2])
        (fun | (k, sz, bd, pb, ps) => (k = 0 ∨ k < t.t.length) ∧ 0 ≤ sz ∧ sz ≤ 20000 ∧ (∀ x ∈ bound, x ∈ bd) ∧ t.ckP level consts codes free scope deep size bound = Trm.cksI level consts codes free scope t.v (t.t.drop k) (deep + 1) sz bd) (fun | (k, _) => t.t.length - k) (0, size + 1, bound, pb, ps)
        ⟨.inl rfl, by omega, by omega, fun _ h => h, by rw [hr]; rfl⟩ wA ?_
      rintro ⟨k, sz, bd, pb', ps'⟩ ⟨hk, hz0, hz1, hsb, hck⟩
      dsimp only
      conv => whnf
      repeat' (first | ((first | ((first | (apply PGuard.lazy; intro hg) | apply PStb.of); (focus ((conv => whnf); (repeat ((first | refine PNeed.of gA ?_ | refine PLoad.box rfl ?_ | refine PLook.set ?_ | refine PSide.of bA ?_ | refine PSide.of rfl ?_ | refine PRow.one rfl rfl ?_ | refine PRow.none ?_ | refine PLoad.ep rfl ?_ | refine PLen.map ?_ | refine PIndexS.ix OA OA ?_ | refine PIndexA.ix OA OA ?_ | refine PIndexA.lit rfl ?_ | refine PInt.ok OA OA ?_ | refine PDiv.of OA ?_ | refine PSide.of NA ?_ | refine PSliceS.lo OA OA ?_ | refine PSliceL.lo OA OA ?_ | refine PSliceS.hi OA OA ?_ | refine PSliceL.hi OA OA ?_ | refine PCall.pure (shapeOf_c _) (WkT.refl _) ?_ | refine PCall.pure (shapeOf_c _) cA ?_ | refine PCall.pure (fits_c (shapeL t.op).1 t OA) (WkT.refl _) ?_ | refine PCall.pure (fits_c (shapeL t.op).1 t OA) cA ?_ | refine PCall.read (number2p_c c rb rs level consts codes (size + 1) free t scope ps) (WkT.refl _) ?_ | refine PCall.pure (group_c t) (WkT.refl _) ?_ | refine PCall.pure (group_c t) cA ?_ | intro _); conv => whnf)); exact And.intro rfl rfl))) | refine PLoad.box rfl ?_ | refine PLook.set ?_ | refine PSide.of bA ?_ | refine PSide.of rfl ?_ | refine PRow.one rfl rfl ?_ | refine PRow.none ?_ | refine PLoad.ep rfl ?_ | refine PLen.map ?_ | refine PIndexS.ix oA oA ?_ | refine PIndexA.ix oA oA ?_ | refine PIndexA.lit rfl ?_ | refine PInt.ok oA oA ?_ | refine PDiv.of oA ?_ | refine PSide.of nA ?_ | refine PSliceS.lo oA oA ?_ | refine PSliceL.lo oA oA ?_ | refine PSliceS.hi oA oA ?_ | refine PSliceL.hi oA oA ?_ | refine PCall.pure (shapeOf_c _) (WkT.refl _) ?_ | refine PCall.pure (shapeOf_c _) cA ?_ | refine PCall.pure (fits_c (shapeL t.op).1 t OA) (WkT.refl _) ?_ | refine PCall.pure (fits_c (shapeL t.op).1 t OA) cA ?_ | refine PCall.read (number2p_c c rb rs level consts codes (size + 1) free t scope ps) (WkT.refl _) ?_ | refine PCall.pure (group_c t) (WkT.refl _) ?_ | refine PCall.pure (group_c t) cA ?_ | refine PStore.box rfl rfl rfl ?_ | refine PBytes.mk ?_ | refine PMapPut.set ?_ | refine PMapDel.set ?_ | refine PDraw.at_ (some 27) rfl tt_ok mixed [0, 1, 3, 7, 15, 31, 63, 127, 255, 511, 1023, 2047, 4095, 8191, 16383, 32767, 65535, 131071, 16383, 278527, 1048575, 2097151, 4194303, 8388607, 16777215, 33554431, 67108863, 8388607, 142606335, 536870911, 1073741823, 2147483647, 4294967295, 4294967295, 17179869183, 34359738367, 68719476735, 137438953471, 274877906943, 274877906943, 274877906943, 2199023255551, 4398046511103, 8796093022207] [0, 1, 2, 3, 4, 5, 6, 7, 8, 9, 10, 11, 12, 13, 14, 15, 16, 17, 18, 19, 20, 21, 22, 23, 24, 25, 26, 27, 28, 29, 30, 31, 32, 33, 34, 35, 36, 37, 38, 39, 40] [] [41, 42, 43] [] (by kernel_rfl) ?_ | refine PDraw.at_ (some 83) rfl tt_ok mixed [0, 0, 2, 0, 14, 30, 0, 0, 128, 511, 1023] [0, 1, 2, 3, 4, 5, 6, 7, 8] [] [9, 10] [] (by kernel_rfl) ?_ | refine PDraw.at_ (some 106) rfl tt_ok mixed [0, 1, 0, 7, 0, 31, 63, 127, 255, 511, 1023, 2047, 4095, 4095, 12287, 4095, 61439, 131071, 262143, 524287, 1048575] [0, 1, 2, 3, 4, 5, 6, 7, 8, 9, 10, 11, 12, 13, 14, 15, 16] [] [17, 18, 19, 20] [] (by kernel_rfl) ?_ | intro _ | refine PSeq.go ?_); conv => whnf) | (refine PCond.ways (fun hc => ?_) (fun hc => ?_) <;> (try simp only [SS, not_true_eq_false, not_false_eq_true, false_and, and_false, true_and, and_true, true_or, or_true, false_or, or_false] at hc) <;> first | (exfalso; omega) | (conv => whnf)))
      · have hlt : k < t.t.length := by omega
        have hbm := Trm.bulks_mem (List.getElem_mem hlt)
        rw [drop_at hlt, Trm.cksI, if_neg (by rw [List.isEmpty_iff, List.drop_eq_nil_iff]; omega)] at hck
        refine PCall.go (ih t.t[k] (List.getElem_mem _) scope (deep + 1) sz bd pb' ps' (by omega) (by omega) hz0 hz1 (fun x h => hsb x (hsub x h)) (by omega)) (WkT.refl _) ?_
        rintro _ _ ⟨rfl, sz2, mb, ms, pb2, ps2, rfl, hs⟩
        conv => whnf
        repeat' (first | ((first | ((first | (apply PGuard.lazy; intro hg) | apply PStb.of); (focus ((conv => whnf); (repeat ((first | refine PNeed.of gA ?_ | refine PLoad.box rfl ?_ | refine PLook.set ?_ | refine PSide.of bA ?_ | refine PSide.of rfl ?_ | refine PRow.one rfl rfl ?_ | refine PRow.none ?_ | refine PLoad.ep rfl ?_ | refine PLen.map ?_ | refine PIndexS.ix OA OA ?_ | refine PIndexA.ix OA OA ?_ | refine PIndexA.lit rfl ?_ | refine PInt.ok OA OA ?_ | refine PDiv.of OA ?_ | refine PSide.of NA ?_ | refine PSliceS.lo OA OA ?_ | refine PSliceL.lo OA OA ?_ | refine PSliceS.hi OA OA ?_ | refine PSliceL.hi OA OA ?_ | refine PCall.pure (shapeOf_c _) (WkT.refl _) ?_ | refine PCall.pure (shapeOf_c _) cA ?_ | refine PCall.pure (fits_c (shapeL t.op).1 t OA) (WkT.refl _) ?_ | refine PCall.pure (fits_c (shapeL t.op).1 t OA) cA ?_ | refine PCall.read (number2p_c c rb rs level consts codes (size + 1) free t scope ps) (WkT.refl _) ?_ | refine PCall.pure (group_c t) (WkT.refl _) ?_ | refine PCall.pure (group_c t) cA ?_ | intro _); conv => whnf)); exact And.intro rfl rfl))) | refine PLoad.box rfl ?_ | refine PLook.set ?_ | refine PSide.of bA ?_ | refine PSide.of rfl ?_ | refine PRow.one rfl rfl ?_ | refine PRow.none ?_ | refine PLoad.ep rfl ?_ | refine PLen.map ?_ | refine PIndexS.ix oA oA ?_ | refine PIndexA.ix oA oA ?_ | refine PIndexA.lit rfl ?_ | refine PInt.ok oA oA ?_ | refine PDiv.of oA ?_ | refine PSide.of nA ?_ | refine PSliceS.lo oA oA ?_ | refine PSliceL.lo oA oA ?_ | refine PSliceS.hi oA oA ?_ | refine PSliceL.hi oA oA ?_ | refine PCall.pure (shapeOf_c _) (WkT.refl _) ?_ | refine PCall.pure (shapeOf_c _) cA ?_ | refine PCall.pure (fits_c (shapeL t.op).1 t OA) (WkT.refl _) ?_ | refine PCall.pure (fits_c (shapeL t.op).1 t OA) cA ?_ | refine PCall.read (number2p_c c rb rs level consts codes (size + 1) free t scope ps) (WkT.refl _) ?_ | refine PCall.pure (group_c t) (WkT.refl _) ?_ | refine PCall.pure (group_c t) cA ?_ | refine PStore.box rfl rfl rfl ?_ | refine PBytes.mk ?_ | refine PMapPut.set ?_ | refine PMapDel.set ?_ | refine PDraw.at_ (some 27) rfl tt_ok mixed [0, 1, 3, 7, 15, 31, 63, 127, 255, 511, 1023, 2047, 4095, 8191, 16383, 32767, 65535, 131071, 16383, 278527, 1048575, 2097151, 4194303, 8388607, 16777215, 33554431, 67108863, 8388607, 142606335, 536870911, 1073741823, 2147483647, 4294967295, 4294967295, 17179869183, 34359738367, 68719476735, 137438953471, 274877906943, 274877906943, 274877906943, 2199023255551, 4398046511103, 8796093022207] [0, 1, 2, 3, 4, 5, 6, 7, 8, 9, 10, 11, 12, 13, 14, 15, 16, 17, 18, 19, 20, 21, 22, 23, 24, 25, 26, 27, 28, 29, 30, 31, 32, 33, 34, 35, 36, 37, 38, 39, 40] [] [41, 42, 43] [] (by kernel_rfl) ?_ | refine PDraw.at_ (some 83) rfl tt_ok mixed [0, 0, 2, 0, 14, 30, 0, 0, 128, 511, 1023] [0, 1, 2, 3, 4, 5, 6, 7, 8] [] [9, 10] [] (by kernel_rfl) ?_ | refine PDraw.at_ (some 106) rfl tt_ok mixed [0, 1, 0, 7, 0, 31, 63, 127, 255, 511, 1023, 2047, 4095, 4095, 12287, 4095, 61439, 131071, 262143, 524287, 1048575] [0, 1, 2, 3, 4, 5, 6, 7, 8, 9, 10, 11, 12, 13, 14, 15, 16] [] [17, 18, 19, 20] [] (by kernel_rfl) ?_ | intro _ | refine PSeq.go ?_); conv => whnf) | (refine PCond.ways (fun hc => ?_) (fun hc => ?_) <;> (try simp only [SS, not_true_eq_false, not_false_eq_true, false_and, and_false, true_and, and_true, true_or, or_true, false_or, or_false] at hc) <;> first | (exfalso; omega) | (conv => whnf)))
        · have hn := hc
          rw [Option.isSome_eq_false_iff, Option.isNone_iff_eq_none] at hn
          rw [hn] at hck
          exact PRet.gen (y := .bool false) (Wk.ff rfl) ⟨by rw [hck]; rfl, sz2, mb, ms, pb2, ps2, rfl, fun _ _ h => by rw [hck] at h; cases h⟩
        · obtain ⟨⟨s1, b1⟩, e⟩ := Option.isSome_iff_exists.mp hc
          obtain ⟨rfl, rfl, rfl⟩ := hs s1 b1 e
          have hbd := Trm.ckP_bd _ _ _ _ _ _ _ _ _ _ _ e
          rw [e] at hck
          exact loopTo (k + 1, sz2, b1, pb2, ps2) ⟨.inr (by omega), by show (0 : Int) ≤ sz2; omega, hbd.2.1, fun x h => hbd.2.2 x (hsb x h), hck⟩ (by show t.t.length - (k + 1) < t.t.length - k; omega) wA
      · rw [cksI_end (by rw [List.length_drop]; omega)] at hck
        have hop : t.op ≠ 9 := fun h => by simp [groupB, h] at hgr
        have hdk : (if (t.t.length : Int) - 1 < 0 then 0 else (t.t.length : Int) - 1).toNat = k := by split <;> omega
        have hck : t.ckP level consts codes free scope deep size bound = if (t.op == 9 && !procsL level t.t.dropLast) = true then none else if (bindR t.v bd).1 = true then Trm.cksG level consts codes free (scope ++ t.v) (t.t.drop (if (t.t.length : Int) - 1 < 0 then 0 else (t.t.length : Int) - 1).toNat) (deep + 1) sz (bd ++ t.v) else none := by
          rw [if_neg (by simp [hop]), hdk]; exact hck
        have hgc : ACallP Tryz.prog 103 [.agg t.cells] (.bool false) := by
          have := group_c t
          rw [hgr] at this
          exact this
        refine PCall.go (bind2p_c c rb rs level consts codes sz free t.v bd scope pb' ps') (WkT.refl _) ?_
        rintro _ _ ⟨rfl, pb3, mb, ms, rfl, hb⟩
        conv => whnf
        repeat' (first | ((first | ((first | (apply PGuard.lazy; intro hg) | apply PStb.of); (focus ((conv => whnf); (repeat ((first | refine PNeed.of gA ?_ | refine PLoad.box rfl ?_ | refine PLook.set ?_ | refine PSide.of bA ?_ | refine PSide.of rfl ?_ | refine PRow.one rfl rfl ?_ | refine PRow.none ?_ | refine PLoad.ep rfl ?_ | refine PLen.map ?_ | refine PIndexS.ix OA OA ?_ | refine PIndexA.ix OA OA ?_ | refine PIndexA.lit rfl ?_ | refine PInt.ok OA OA ?_ | refine PDiv.of OA ?_ | refine PSide.of NA ?_ | refine PSliceS.lo OA OA ?_ | refine PSliceL.lo OA OA ?_ | refine PSliceS.hi OA OA ?_ | refine PSliceL.hi OA OA ?_ | refine PCall.pure (hgc) (WkT.refl _) ?_ | refine PCall.pure (hgc) cA ?_ | intro _); conv => whnf)); exact And.intro rfl rfl))) | refine PLoad.box rfl ?_ | refine PLook.set ?_ | refine PSide.of bA ?_ | refine PSide.of rfl ?_ | refine PRow.one rfl rfl ?_ | refine PRow.none ?_ | refine PLoad.ep rfl ?_ | refine PLen.map ?_ | refine PIndexS.ix oA oA ?_ | refine PIndexA.ix oA oA ?_ | refine PIndexA.lit rfl ?_ | refine PInt.ok oA oA ?_ | refine PDiv.of oA ?_ | refine PSide.of nA ?_ | refine PSliceS.lo oA oA ?_ | refine PSliceL.lo oA oA ?_ | refine PSliceS.hi oA oA ?_ | refine PSliceL.hi oA oA ?_ | refine PCall.pure (hgc) (WkT.refl _) ?_ | refine PCall.pure (hgc) cA ?_ | refine PStore.box rfl rfl rfl ?_ | refine PBytes.mk ?_ | refine PMapPut.set ?_ | refine PMapDel.set ?_ | refine PDraw.at_ (some 27) rfl tt_ok mixed [0, 1, 3, 7, 15, 31, 63, 127, 255, 511, 1023, 2047, 4095, 8191, 16383, 32767, 65535, 131071, 16383, 278527, 1048575, 2097151, 4194303, 8388607, 16777215, 33554431, 67108863, 8388607, 142606335, 536870911, 1073741823, 2147483647, 4294967295, 4294967295, 17179869183, 34359738367, 68719476735, 137438953471, 274877906943, 274877906943, 274877906943, 2199023255551, 4398046511103, 8796093022207] [0, 1, 2, 3, 4, 5, 6, 7, 8, 9, 10, 11, 12, 13, 14, 15, 16, 17, 18, 19, 20, 21, 22, 23, 24, 25, 26, 27, 28, 29, 30, 31, 32, 33, 34, 35, 36, 37, 38, 39, 40] [] [41, 42, 43] [] (by kernel_rfl) ?_ | refine PDraw.at_ (some 83) rfl tt_ok mixed [0, 0, 2, 0, 14, 30, 0, 0, 128, 511, 1023] [0, 1, 2, 3, 4, 5, 6, 7, 8] [] [9, 10] [] (by kernel_rfl) ?_ | intro _ | refine PSeq.go ?_); conv => whnf) | (refine PCond.ways (fun hc => ?_) (fun hc => ?_) <;> (try simp only [SS, not_true_eq_false, not_false_eq_true, false_and, and_false, true_and, and_true, true_or, or_true, false_or, or_false] at hc) <;> first | (exfalso; omega) | (conv => whnf)))
        · refine PCallD.go (defer_c b5 b6 rs t.op t.n t.v (t.t.map Trm.pv) ms ps') (WkT.refl _) ?_
          rintro _ _ ⟨ps4, rfl⟩
          conv => whnf
          have hno : t.ckP level consts codes free scope deep size bound = none := by rw [hck]; split; rfl; exact if_neg (by rw [hc]; simp)
          exact PRet.gen (y := .bool false) (Wk.ff rfl) ⟨by rw [hno]; rfl, sz, mb, delS t.v ms, pb3, ps4, rfl, fun _ _ h => by rw [hno] at h; cases h⟩
        · have hbt := ‹(bindR t.v bd).1 = true›
          obtain ⟨rfl, rfl⟩ := hb hbt
          rw [if_pos hbt] at hck
          refine PDraw.split2 tt_ok mixed [0, 1, 0, 7, 0, 31, 63, 127, 255, 511, 1023, 2047, 4095, 4095, 12287, 4095, 61439, 131071, 262143, 524287, 1048575] [0, 1, 2, 3, 4] [5] [6, 7, 8, 9, 10, 11, 12, 13, 14, 15, 16, 17, 18, 19, 20] [] [.box c (cpC level consts codes sz free rb), .mp rb (.int .i64) (setM (bd ++ t.v)) pb3, .mp rs (.int .i64) (setM (scope ++ t.v)) ps', .box b4 [.ptr c 0], .box b6 [.mp rs], .box b7 [.int .i64 deep]] (by kernel_rfl) ?_
          conv => whnf
          repeat ((first | ((first | (apply PGuard.lazy; intro hg) | apply PStb.of); (focus ((conv => whnf); (repeat ((first | refine PNeed.of gA ?_ | refine PLoad.box rfl ?_ | refine PLook.set ?_ | refine PSide.of bA ?_ | refine PSide.of rfl ?_ | refine PRow.one rfl rfl ?_ | refine PRow.none ?_ | refine PLoad.ep rfl ?_ | refine PLen.map ?_ | refine PIndexS.ix OA OA ?_ | refine PIndexA.ix OA OA ?_ | refine PIndexA.lit rfl ?_ | refine PInt.ok OA OA ?_ | refine PDiv.of OA ?_ | refine PSide.of NA ?_ | refine PSliceS.lo OA OA ?_ | refine PSliceL.lo OA OA ?_ | refine PSliceS.hi OA OA ?_ | refine PSliceL.hi OA OA ?_ | refine PCall.pure (hgc) (WkT.refl _) ?_ | refine PCall.pure (hgc) cA ?_ | intro _); conv => whnf)); exact And.intro rfl rfl))) | refine PLoad.box rfl ?_ | refine PLook.set ?_ | refine PSide.of bA ?_ | refine PSide.of rfl ?_ | refine PRow.one rfl rfl ?_ | refine PRow.none ?_ | refine PLoad.ep rfl ?_ | refine PLen.map ?_ | refine PIndexS.ix oA oA ?_ | refine PIndexA.ix oA oA ?_ | refine PIndexA.lit rfl ?_ | refine PInt.ok oA oA ?_ | refine PDiv.of oA ?_ | refine PSide.of nA ?_ | refine PSliceS.lo oA oA ?_ | refine PSliceL.lo oA oA ?_ | refine PSliceS.hi oA oA ?_ | refine PSliceL.hi oA oA ?_ | refine PCall.pure (hgc) (WkT.refl _) ?_ | refine PCall.pure (hgc) cA ?_ | refine PStore.box rfl rfl rfl ?_ | refine PBytes.mk ?_ | refine PMapPut.set ?_ | refine PMapDel.set ?_ | refine PDraw.at_ (some 27) rfl tt_ok mixed [0, 1, 3, 7, 15, 31, 63, 127, 255, 511, 1023, 2047, 4095, 8191, 16383, 32767, 65535, 131071, 16383, 278527, 1048575, 2097151, 4194303, 8388607, 16777215, 33554431, 67108863, 8388607, 142606335, 536870911, 1073741823, 2147483647, 4294967295, 4294967295, 17179869183, 34359738367, 68719476735, 137438953471, 274877906943, 274877906943, 274877906943, 2199023255551, 4398046511103, 8796093022207] [0, 1, 2, 3, 4, 5, 6, 7, 8, 9, 10, 11, 12, 13, 14, 15, 16, 17, 18, 19, 20, 21, 22, 23, 24, 25, 26, 27, 28, 29, 30, 31, 32, 33, 34, 35, 36, 37, 38, 39, 40] [] [41, 42, 43] [] (by kernel_rfl) ?_ | refine PDraw.at_ (some 83) rfl tt_ok mixed [0, 0, 2, 0, 14, 30, 0, 0, 128, 511, 1023] [0, 1, 2, 3, 4, 5, 6, 7, 8] [] [9, 10] [] (by kernel_rfl) ?_ | intro _); conv => whnf)
          have hdj : ∀ x ∈ scope, x ∉ t.v := fun x h h' => bindR_apart hbt x h' (hsb x (hsub x h))
          refine PCall.go (all2p_c c rb rs b4 b6 b7 level consts codes free (t.t.drop (if (t.t.length : Int) - 1 < 0 then 0 else (t.t.length : Int) - 1).toNat) (scope ++ t.v) deep hd0 (by omega) (fun x hx sz bd pb ps h0 h1 h2 => ih x (List.mem_of_mem_drop hx) (scope ++ t.v) (deep + 1) sz bd pb ps (by omega) (by omega) h0 h1 h2 (by have := Trm.bulks_mem (List.mem_of_mem_drop hx); omega)) sz (bd ++ t.v) pb3 ps' (by omega) (by omega) (by intro x h; rw [List.mem_append] at h ⊢; exact h.imp (fun h => hsb x (hsub x h)) id)) (WkT.refl _) ?_
          rintro _ _ ⟨sz5, mb5, ms5, pb5, ps5, rfl, rfl, hs5⟩
          conv => whnf
          repeat ((first | ((first | (apply PGuard.lazy; intro hg) | apply PStb.of); (focus ((conv => whnf); (repeat ((first | refine PNeed.of gA ?_ | refine PLoad.box rfl ?_ | refine PLook.set ?_ | refine PSide.of bA ?_ | refine PSide.of rfl ?_ | refine PRow.one rfl rfl ?_ | refine PRow.none ?_ | refine PLoad.ep rfl ?_ | refine PLen.map ?_ | refine PIndexS.ix OA OA ?_ | refine PIndexA.ix OA OA ?_ | refine PIndexA.lit rfl ?_ | refine PInt.ok OA OA ?_ | refine PDiv.of OA ?_ | refine PSide.of NA ?_ | refine PSliceS.lo OA OA ?_ | refine PSliceL.lo OA OA ?_ | refine PSliceS.hi OA OA ?_ | refine PSliceL.hi OA OA ?_ | refine PCall.read (procs_c c rb level consts codes sz5 free (t.t.take (t.t.length - 1))) (WkT.refl _) ?_ | intro _); conv => whnf)); exact And.intro rfl rfl))) | refine PLoad.box rfl ?_ | refine PLook.set ?_ | refine PSide.of bA ?_ | refine PSide.of rfl ?_ | refine PRow.one rfl rfl ?_ | refine PRow.none ?_ | refine PLoad.ep rfl ?_ | refine PLen.map ?_ | refine PIndexS.ix oA oA ?_ | refine PIndexA.ix oA oA ?_ | refine PIndexA.lit rfl ?_ | refine PInt.ok oA oA ?_ | refine PDiv.of oA ?_ | refine PSide.of nA ?_ | refine PSliceS.lo oA oA ?_ | refine PSliceL.lo oA oA ?_ | refine PSliceS.hi oA oA ?_ | refine PSliceL.hi oA oA ?_ | refine PCall.read (procs_c c rb level consts codes sz5 free (t.t.take (t.t.length - 1))) (WkT.refl _) ?_ | refine PStore.box rfl rfl rfl ?_ | refine PBytes.mk ?_ | refine PMapPut.set ?_ | refine PMapDel.set ?_ | refine PDraw.at_ (some 27) rfl tt_ok mixed [0, 1, 3, 7, 15, 31, 63, 127, 255, 511, 1023, 2047, 4095, 8191, 16383, 32767, 65535, 131071, 16383, 278527, 1048575, 2097151, 4194303, 8388607, 16777215, 33554431, 67108863, 8388607, 142606335, 536870911, 1073741823, 2147483647, 4294967295, 4294967295, 17179869183, 34359738367, 68719476735, 137438953471, 274877906943, 274877906943, 274877906943, 2199023255551, 4398046511103, 8796093022207] [0, 1, 2, 3, 4, 5, 6, 7, 8, 9, 10, 11, 12, 13, 14, 15, 16, 17, 18, 19, 20, 21, 22, 23, 24, 25, 26, 27, 28, 29, 30, 31, 32, 33, 34, 35, 36, 37, 38, 39, 40] [] [41, 42, 43] [] (by kernel_rfl) ?_ | refine PDraw.at_ (some 83) rfl tt_ok mixed [0, 0, 2, 0, 14, 30, 0, 0, 128, 511, 1023] [0, 1, 2, 3, 4, 5, 6, 7, 8] [] [9, 10] [] (by kernel_rfl) ?_ | intro _); conv => whnf)
          refine PCallD.go (defer_c b5 b6 rs t.op t.n t.v (t.t.map Trm.pv) ms5 ps5) (WkT.refl _) ?_
          rintro _ _ ⟨ps4, rfl⟩
          conv => whnf
          refine PRet.gen (y := .bool (t.ckP level consts codes free scope deep size bound).isSome) (Wk.bool ?_) ⟨rfl, sz5, mb5, delS t.v ms5, pb5, ps4, rfl, fun s b h => ?_⟩
          · exact right_end (by rw [← List.dropLast_eq_take]; exact hck)
          · rw [hck] at h
            split at h
            · cases h
            · obtain ⟨h1, h2, h3⟩ := hs5 s b h
              exact ⟨h1, h2, by rw [h3, delS_setM _ _ hdj]⟩
    · have hgr := hc
      rw [if_pos hc] at hr
      have hck := hr
      have hgc : ACallP Tryz.prog 103 [.agg t.cells] (.bool true) := by
        have := group_c t
        rw [hgr] at this
        exact this
      refine PCall.go (bind2p_c c rb rs level consts codes (size + 1) free t.v bound scope pb ps) (WkT.refl _) ?_
      rintro _ _ ⟨rfl, pb3, mb, ms, rfl, hb⟩
      conv => whnf
      repeat' (first | ((first | ((first | (apply PGuard.lazy; intro hg) | apply PStb.of); (focus ((conv => whnf); (repeat ((first | refine PNeed.of gA ?_ | refine PLoad.box rfl ?_ | refine PLook.set ?_ | refine PSide.of bA ?_ | refine PSide.of rfl ?_ | refine PRow.one rfl rfl ?_ | refine PRow.none ?_ | refine PLoad.ep rfl ?_ | refine PLen.map ?_ | refine PIndexS.ix OA OA ?_ | refine PIndexA.ix OA OA ?_ | refine PIndexA.lit rfl ?_ | refine PInt.ok OA OA ?_ | refine PDiv.of OA ?_ | refine PSide.of NA ?_ | refine PSliceS.lo OA OA ?_ | refine PSliceL.lo OA OA ?_ | refine PSliceS.hi OA OA ?_ | refine PSliceL.hi OA OA ?_ | refine PCall.pure (hgc) (WkT.refl _) ?_ | refine PCall.pure (hgc) cA ?_ | intro _); conv => whnf)); exact And.intro rfl rfl))) | refine PLoad.box rfl ?_ | refine PLook.set ?_ | refine PSide.of bA ?_ | refine PSide.of rfl ?_ | refine PRow.one rfl rfl ?_ | refine PRow.none ?_ | refine PLoad.ep rfl ?_ | refine PLen.map ?_ | refine PIndexS.ix oA oA ?_ | refine PIndexA.ix oA oA ?_ | refine PIndexA.lit rfl ?_ | refine PInt.ok oA oA ?_ | refine PDiv.of oA ?_ | refine PSide.of nA ?_ | refine PSliceS.lo oA oA ?_ | refine PSliceL.lo oA oA ?_ | refine PSliceS.hi oA oA ?_ | refine PSliceL.hi oA oA ?_ | refine PCall.pure (hgc) (WkT.refl _) ?_ | refine PCall.pure (hgc) cA ?_ | refine PStore.box rfl rfl rfl ?_ | refine PBytes.mk ?_ | refine PMapPut.set ?_ | refine PMapDel.set ?_ | refine PDraw.at_ (some 27) rfl tt_ok mixed [0, 1, 3, 7, 15, 31, 63, 127, 255, 511, 1023, 2047, 4095, 8191, 16383, 32767, 65535, 131071, 16383, 278527, 1048575, 2097151, 4194303, 8388607, 16777215, 33554431, 67108863, 8388607, 142606335, 536870911, 1073741823, 2147483647, 4294967295, 4294967295, 17179869183, 34359738367, 68719476735, 137438953471, 274877906943, 274877906943, 274877906943, 2199023255551, 4398046511103, 8796093022207] [0, 1, 2, 3, 4, 5, 6, 7, 8, 9, 10, 11, 12, 13, 14, 15, 16, 17, 18, 19, 20, 21, 22, 23, 24, 25, 26, 27, 28, 29, 30, 31, 32, 33, 34, 35, 36, 37, 38, 39, 40] [] [41, 42, 43] [] (by kernel_rfl) ?_ | refine PDraw.at_ (some 83) rfl tt_ok mixed [0, 0, 2, 0, 14, 30, 0, 0, 128, 511, 1023] [0, 1, 2, 3, 4, 5, 6, 7, 8] [] [9, 10] [] (by kernel_rfl) ?_ | intro _ | refine PSeq.go ?_); conv => whnf) | (refine PCond.ways (fun hc => ?_) (fun hc => ?_) <;> (try simp only [SS, not_true_eq_false, not_false_eq_true, false_and, and_false, true_and, and_true, true_or, or_true, false_or, or_false] at hc) <;> first | (exfalso; omega) | (conv => whnf)))
      · refine PCallD.go (defer_c b5 b6 rs t.op t.n t.v (t.t.map Trm.pv) ms ps) (WkT.refl _) ?_
        rintro _ _ ⟨ps4, rfl⟩
        conv => whnf
        have hno : t.ckP level consts codes free scope deep size bound = none := by rw [hck]; split; rfl; exact if_neg (by rw [hc]; simp)
        exact PRet.gen (y := .bool false) (Wk.ff rfl) ⟨by rw [hno]; rfl, (size + 1), mb, delS t.v ms, pb3, ps4, rfl, fun _ _ h => by rw [hno] at h; cases h⟩
      · have hbt := ‹(bindR t.v bound).1 = true›
        obtain ⟨rfl, rfl⟩ := hb hbt
        rw [if_pos hbt] at hck
        refine PDraw.split2 tt_ok mixed [0, 1, 0, 7, 0, 31, 63, 127, 255, 511, 1023, 2047, 4095, 4095, 12287, 4095, 61439, 131071, 262143, 524287, 1048575] [0, 1, 2, 3, 4] [5] [6, 7, 8, 9, 10, 11, 12, 13, 14, 15, 16, 17, 18, 19, 20] [] [.box c (cpC level consts codes (size + 1) free rb), .mp rb (.int .i64) (setM (bound ++ t.v)) pb3, .mp rs (.int .i64) (setM (scope ++ t.v)) ps, .box b4 [.ptr c 0], .box b6 [.mp rs], .box b7 [.int .i64 deep]] (by kernel_rfl) ?_
        conv => whnf
        repeat ((first | ((first | (apply PGuard.lazy; intro hg) | apply PStb.of); (focus ((conv => whnf); (repeat ((first | refine PNeed.of gA ?_ | refine PLoad.box rfl ?_ | refine PLook.set ?_ | refine PSide.of bA ?_ | refine PSide.of rfl ?_ | refine PRow.one rfl rfl ?_ | refine PRow.none ?_ | refine PLoad.ep rfl ?_ | refine PLen.map ?_ | refine PIndexS.ix OA OA ?_ | refine PIndexA.ix OA OA ?_ | refine PIndexA.lit rfl ?_ | refine PInt.ok OA OA ?_ | refine PDiv.of OA ?_ | refine PSide.of NA ?_ | refine PSliceS.lo OA OA ?_ | refine PSliceL.lo OA OA ?_ | refine PSliceS.hi OA OA ?_ | refine PSliceL.hi OA OA ?_ | refine PCall.pure (hgc) (WkT.refl _) ?_ | refine PCall.pure (hgc) cA ?_ | intro _); conv => whnf)); exact And.intro rfl rfl))) | refine PLoad.box rfl ?_ | refine PLook.set ?_ | refine PSide.of bA ?_ | refine PSide.of rfl ?_ | refine PRow.one rfl rfl ?_ | refine PRow.none ?_ | refine PLoad.ep rfl ?_ | refine PLen.map ?_ | refine PIndexS.ix oA oA ?_ | refine PIndexA.ix oA oA ?_ | refine PIndexA.lit rfl ?_ | refine PInt.ok oA oA ?_ | refine PDiv.of oA ?_ | refine PSide.of nA ?_ | refine PSliceS.lo oA oA ?_ | refine PSliceL.lo oA oA ?_ | refine PSliceS.hi oA oA ?_ | refine PSliceL.hi oA oA ?_ | refine PCall.pure (hgc) (WkT.refl _) ?_ | refine PCall.pure (hgc) cA ?_ | refine PStore.box rfl rfl rfl ?_ | refine PBytes.mk ?_ | refine PMapPut.set ?_ | refine PMapDel.set ?_ | refine PDraw.at_ (some 27) rfl tt_ok mixed [0, 1, 3, 7, 15, 31, 63, 127, 255, 511, 1023, 2047, 4095, 8191, 16383, 32767, 65535, 131071, 16383, 278527, 1048575, 2097151, 4194303, 8388607, 16777215, 33554431, 67108863, 8388607, 142606335, 536870911, 1073741823, 2147483647, 4294967295, 4294967295, 17179869183, 34359738367, 68719476735, 137438953471, 274877906943, 274877906943, 274877906943, 2199023255551, 4398046511103, 8796093022207] [0, 1, 2, 3, 4, 5, 6, 7, 8, 9, 10, 11, 12, 13, 14, 15, 16, 17, 18, 19, 20, 21, 22, 23, 24, 25, 26, 27, 28, 29, 30, 31, 32, 33, 34, 35, 36, 37, 38, 39, 40] [] [41, 42, 43] [] (by kernel_rfl) ?_ | refine PDraw.at_ (some 83) rfl tt_ok mixed [0, 0, 2, 0, 14, 30, 0, 0, 128, 511, 1023] [0, 1, 2, 3, 4, 5, 6, 7, 8] [] [9, 10] [] (by kernel_rfl) ?_ | intro _); conv => whnf)
        have hdj : ∀ x ∈ scope, x ∉ t.v := fun x h h' => bindR_apart hbt x h' (hsub x h)
        refine PCall.go (all2p_c c rb rs b4 b6 b7 level consts codes free (t.t.drop 0) (scope ++ t.v) deep hd0 (by omega) (fun x hx sz bd pb ps h0 h1 h2 => ih x (List.mem_of_mem_drop hx) (scope ++ t.v) (deep + 1) sz bd pb ps (by omega) (by omega) h0 h1 h2 (by have := Trm.bulks_mem (List.mem_of_mem_drop hx); omega)) (size + 1) (bound ++ t.v) pb3 ps (by omega) (by omega) (by intro x h; rw [List.mem_append] at h ⊢; exact h.imp (fun h => hsub x h) id)) (WkT.refl _) ?_
        rintro _ _ ⟨sz5, mb5, ms5, pb5, ps5, rfl, rfl, hs5⟩
        conv => whnf
        repeat ((first | ((first | (apply PGuard.lazy; intro hg) | apply PStb.of); (focus ((conv => whnf); (repeat ((first | refine PNeed.of gA ?_ | refine PLoad.box rfl ?_ | refine PLook.set ?_ | refine PSide.of bA ?_ | refine PSide.of rfl ?_ | refine PRow.one rfl rfl ?_ | refine PRow.none ?_ | refine PLoad.ep rfl ?_ | refine PLen.map ?_ | refine PIndexS.ix OA OA ?_ | refine PIndexA.ix OA OA ?_ | refine PIndexA.lit rfl ?_ | refine PInt.ok OA OA ?_ | refine PDiv.of OA ?_ | refine PSide.of NA ?_ | refine PSliceS.lo OA OA ?_ | refine PSliceL.lo OA OA ?_ | refine PSliceS.hi OA OA ?_ | refine PSliceL.hi OA OA ?_ | refine PCall.read (procs_c c rb level consts codes sz5 free (t.t.take (t.t.length - 1))) (WkT.refl _) ?_ | intro _); conv => whnf)); exact And.intro rfl rfl))) | refine PLoad.box rfl ?_ | refine PLook.set ?_ | refine PSide.of bA ?_ | refine PSide.of rfl ?_ | refine PRow.one rfl rfl ?_ | refine PRow.none ?_ | refine PLoad.ep rfl ?_ | refine PLen.map ?_ | refine PIndexS.ix oA oA ?_ | refine PIndexA.ix oA oA ?_ | refine PIndexA.lit rfl ?_ | refine PInt.ok oA oA ?_ | refine PDiv.of oA ?_ | refine PSide.of nA ?_ | refine PSliceS.lo oA oA ?_ | refine PSliceL.lo oA oA ?_ | refine PSliceS.hi oA oA ?_ | refine PSliceL.hi oA oA ?_ | refine PCall.read (procs_c c rb level consts codes sz5 free (t.t.take (t.t.length - 1))) (WkT.refl _) ?_ | refine PStore.box rfl rfl rfl ?_ | refine PBytes.mk ?_ | refine PMapPut.set ?_ | refine PMapDel.set ?_ | refine PDraw.at_ (some 27) rfl tt_ok mixed [0, 1, 3, 7, 15, 31, 63, 127, 255, 511, 1023, 2047, 4095, 8191, 16383, 32767, 65535, 131071, 16383, 278527, 1048575, 2097151, 4194303, 8388607, 16777215, 33554431, 67108863, 8388607, 142606335, 536870911, 1073741823, 2147483647, 4294967295, 4294967295, 17179869183, 34359738367, 68719476735, 137438953471, 274877906943, 274877906943, 274877906943, 2199023255551, 4398046511103, 8796093022207] [0, 1, 2, 3, 4, 5, 6, 7, 8, 9, 10, 11, 12, 13, 14, 15, 16, 17, 18, 19, 20, 21, 22, 23, 24, 25, 26, 27, 28, 29, 30, 31, 32, 33, 34, 35, 36, 37, 38, 39, 40] [] [41, 42, 43] [] (by kernel_rfl) ?_ | refine PDraw.at_ (some 83) rfl tt_ok mixed [0, 0, 2, 0, 14, 30, 0, 0, 128, 511, 1023] [0, 1, 2, 3, 4, 5, 6, 7, 8] [] [9, 10] [] (by kernel_rfl) ?_ | intro _); conv => whnf)
        refine PCallD.go (defer_c b5 b6 rs t.op t.n t.v (t.t.map Trm.pv) ms5 ps5) (WkT.refl _) ?_
        rintro _ _ ⟨ps4, rfl⟩
        conv => whnf
        refine PRet.gen (y := .bool (t.ckP level consts codes free scope deep size bound).isSome) (Wk.bool ?_) ⟨rfl, sz5, mb5, delS t.v ms5, pb5, ps4, rfl, fun s b h => ?_⟩
        · exact right_end (by rw [← List.dropLast_eq_take]; exact hck)
        · rw [hck] at h
          split at h
          · cases h
          · obtain ⟨h1, h2, h3⟩ := hs5 s b h
            exact ⟨h1, h2, by rw [h3, delS_setM _ _ hdj]⟩
end Go.Cb
namespace Go.Cb
open Go.Proofs
set_option maxRecDepth 100000
set_option maxHeartbeats 4000000
abbrev ckC (level consts codes size : Int) (free : Bool) (bound : List Int) (t : Tok) (ok : Bool) : List PV :=
  [.int .i64 level, .int .i64 consts, .int .i64 codes, .bool free, .int .i64 size, .sl 1 (bound.map (PV.int .i64)) (some t), .bool ok]
def numberL (consts codes : Int) (free : Bool) (t : Trm) (scope : List Int) : Bool :=
  if t.op = 0 then decide (t.n ≥ 0) && decide (t.n < consts) else
  if t.op = 1 ∨ t.op = 2 ∨ t.op = 14 then scope.contains t.n else
  if t.op = 11 ∨ t.op = 10 then decide (t.n ≥ 0) && decide (t.n ≤ 30) else
  if t.op = 4 then t.n == 0 || (t.n == 1 && decide ((t.v.length : Int) > 0)) else
  if t.op = 7 then t.n == 0 || t.n == 1 else
  if t.op = 19 ∨ t.op = 21 ∨ t.op = 22 then decide (t.n ≥ 0) && decide (t.n < codes) else
  if t.op = 20 then decide (t.n ≥ 0) && free else t.n == 0
theorem number2_c (b : Nat) (level consts codes size : Int) (free ok : Bool) (bound : List Int) (tk : Tok) (t : Trm) (scope : List Int) :
    ACall Tryz.prog 94 [.ptr b 0, .agg t.cells, .sl 1 (scope.map (PV.int .i64)) none] [.box b (ckC level consts codes size free bound tk ok)]
    (fun y Γ' => y = .bool (numberL consts codes free t scope) ∧ Γ' = [.box b (ckC level consts codes size free bound tk ok)]) := by
  have hs : numberL consts codes free t scope = numberL consts codes free t scope := rfl
  conv at hs => rhs; unfold numberL
  refine ACall.of_body tt_ok Tryz.func94 rfl rfl (n := 98) rfl rfl ?_
  conv => whnf
  repeat ((first | ((first | (apply PGuard.lazy; intro hg) | apply PStb.of); (focus ((conv => whnf); (repeat ((first | refine PNeed.of gA ?_ | refine PLoad.box rfl ?_ | refine PLook.set ?_ | refine PSide.of bA ?_ | refine PSide.of rfl ?_ | refine PRow.one rfl rfl ?_ | refine PRow.none ?_ | refine PLoad.ep rfl ?_ | refine PLen.map ?_ | refine PIndexS.ix OA OA ?_ | refine PIndexA.ix OA OA ?_ | refine PIndexA.lit rfl ?_ | refine PInt.ok OA OA ?_ | refine PDiv.of OA ?_ | refine PSide.of NA ?_ | refine PSliceS.lo OA OA ?_ | refine PSliceL.lo OA OA ?_ | refine PSliceS.hi OA OA ?_ | refine PSliceL.hi OA OA ?_ | refine PCall.pure (has_c _ _) (WkT.refl _) ?_ | refine PCall.pure (has_c _ _) cA ?_ | intro _); conv => whnf)); exact And.intro rfl rfl))) | refine PLoad.box rfl ?_ | refine PLook.set ?_ | refine PSide.of bA ?_ | refine PSide.of rfl ?_ | refine PRow.one rfl rfl ?_ | refine PRow.none ?_ | refine PLoad.ep rfl ?_ | refine PLen.map ?_ | refine PIndexS.ix oA oA ?_ | refine PIndexA.ix oA oA ?_ | refine PIndexA.lit rfl ?_ | refine PInt.ok oA oA ?_ | refine PDiv.of oA ?_ | refine PSide.of nA ?_ | refine PSliceS.lo oA oA ?_ | refine PSliceL.lo oA oA ?_ | refine PSliceS.hi oA oA ?_ | refine PSliceL.hi oA oA ?_ | refine PCall.pure (has_c _ _) (WkT.refl _) ?_ | refine PCall.pure (has_c _ _) cA ?_ | refine PStore.box rfl rfl rfl ?_ | refine PBytes.mk ?_ | refine PMapPut.set ?_ | refine PMapDel.set ?_ | refine PDraw.at_ (some 11) rfl tt_ok mixed [0, 1, 3, 7, 15, 31, 15, 79, 207, 463, 1023, 2047, 4095] [0, 1, 2, 3, 4, 5, 6, 7, 8, 9, 10, 11, 12] [] [] [] (by kernel_rfl) ?_ | refine PDraw.at_ (some 72) rfl tt_ok mixed [0, 1, 3, 7, 15, 31, 15, 79, 207, 463, 1023, 2047, 4095] [0, 1, 2, 3, 4, 5, 6, 7, 8, 9, 10, 11, 12] [] [] [] (by kernel_rfl) ?_ | intro _); conv => whnf)
  conv => whnf
  repeat' (first | ((first | ((first | (apply PGuard.lazy; intro hg) | apply PStb.of); (focus ((conv => whnf); (repeat ((first | refine PNeed.of gA ?_ | refine PLoad.box rfl ?_ | refine PLook.set ?_ | refine PSide.of bA ?_ | refine PSide.of rfl ?_ | refine PRow.one rfl rfl ?_ | refine PRow.none ?_ | refine PLoad.ep rfl ?_ | refine PLen.map ?_ | refine PIndexS.ix OA OA ?_ | refine PIndexA.ix OA OA ?_ | refine PIndexA.lit rfl ?_ | refine PInt.ok OA OA ?_ | refine PDiv.of OA ?_ | refine PSide.of NA ?_ | refine PSliceS.lo OA OA ?_ | refine PSliceL.lo OA OA ?_ | refine PSliceS.hi OA OA ?_ | refine PSliceL.hi OA OA ?_ | refine PCall.pure (has_c _ _) (WkT.refl _) ?_ | refine PCall.pure (has_c _ _) cA ?_ | intro _); conv => whnf)); exact And.intro rfl rfl))) | refine PLoad.box rfl ?_ | refine PLook.set ?_ | refine PSide.of bA ?_ | refine PSide.of rfl ?_ | refine PRow.one rfl rfl ?_ | refine PRow.none ?_ | refine PLoad.ep rfl ?_ | refine PLen.map ?_ | refine PIndexS.ix oA oA ?_ | refine PIndexA.ix oA oA ?_ | refine PIndexA.lit rfl ?_ | refine PInt.ok oA oA ?_ | refine PDiv.of oA ?_ | refine PSide.of nA ?_ | refine PSliceS.lo oA oA ?_ | refine PSliceL.lo oA oA ?_ | refine PSliceS.hi oA oA ?_ | refine PSliceL.hi oA oA ?_ | refine PCall.pure (has_c _ _) (WkT.refl _) ?_ | refine PCall.pure (has_c _ _) cA ?_ | refine PStore.box rfl rfl rfl ?_ | refine PBytes.mk ?_ | refine PMapPut.set ?_ | refine PMapDel.set ?_ | refine PDraw.at_ (some 11) rfl tt_ok mixed [0, 1, 3, 7, 15, 31, 15, 79, 207, 463, 1023, 2047, 4095] [0, 1, 2, 3, 4, 5, 6, 7, 8, 9, 10, 11, 12] [] [] [] (by kernel_rfl) ?_ | refine PDraw.at_ (some 72) rfl tt_ok mixed [0, 1, 3, 7, 15, 31, 15, 79, 207, 463, 1023, 2047, 4095] [0, 1, 2, 3, 4, 5, 6, 7, 8, 9, 10, 11, 12] [] [] [] (by kernel_rfl) ?_ | intro _ | refine PSeq.go ?_); conv => whnf) | (refine PCond.ways (fun hc => ?_) (fun hc => ?_) <;> (try simp only [SS, not_true_eq_false, not_false_eq_true, false_and, and_false, true_and, and_true, true_or, or_true, false_or, or_false] at hc) <;> first | (exfalso; omega) | (conv => whnf)))
  all_goals repeat (first | rw [if_neg (by omega)] at hs | rw [if_pos (by omega)] at hs)
  all_goals rw [hs]
  all_goals exact PRet.gen (Wk.refl _) ⟨rfl, rfl⟩
end Go.Cb
namespace Go.Cb
open Go.Proofs
set_option maxRecDepth 100000
set_option maxHeartbeats 4000000
def wantOp (level : Int) : Int := if level = 3 then 19 else 4
mutual
def Trm.ckD (level consts codes : Int) (free : Bool) : Trm → List Int → Int → Int → List Int → Option (Int × List Int)
  | .mk op n v t, scope, deep, size, bound =>
    if (decide (deep > 400) || decide (size + 1 > 20000) || !sortsL op level || !countsL (.mk op n v t) || !numberL consts codes free (.mk op n v t) scope) = true then none else
    if (bindR v bound).1 = true then Trm.cksD level consts codes free op scope (scope ++ v) t (deep + 1) (size + 1) (bindR v bound).2 else none
def Trm.cksD (level consts codes : Int) (free : Bool) (op : Int) (scope inner : List Int) : List Trm → Int → Int → List Int → Option (Int × List Int)
  | [], _, size, bound => some (size, bound)
  | x :: xs, deep, size, bound =>
    if op = 9 ∧ xs ≠ [] ∧ x.op ≠ wantOp level then none else
    match Trm.ckD level consts codes free x (if xs = [] ∨ op = 7 ∨ op = 9 then inner else scope) deep size bound with
    | none => none
    | some (s, b) => Trm.cksD level consts codes free op scope inner xs deep s b
end
theorem Trm.ckD_eq (level consts codes : Int) (free : Bool) (x : Trm) (scope : List Int) (deep size : Int) (bound : List Int) : x.ckD level consts codes free scope deep size bound =
    if (decide (deep > 400) || decide (size + 1 > 20000) || !sortsL x.op level || !countsL x || !numberL consts codes free x scope) = true then none else
    if (bindR x.v bound).1 = true then Trm.cksD level consts codes free x.op scope (scope ++ x.v) x.t (deep + 1) (size + 1) (bindR x.v bound).2 else none := by
  cases x; rw [Trm.ckD]; rfl
theorem bindR_len : ∀ (l bound : List Int), (bindR l bound).2.length ≤ bound.length + l.length
  | [], bound => by simp [bindR]
  | v :: l, bound => by
    rw [bindR]
    split
    · have := bindR_len l (bound ++ [v]); simp at this ⊢; omega
    · simp
theorem Trm.ckD_bd (level consts codes : Int) (free : Bool) (x : Trm) : ∀ (scope : List Int) (deep size : Int) (bound : List Int) (s : Int) (b : List Int), x.ckD level consts codes free scope deep size bound = some (s, b) →
    size < s ∧ s ≤ 20000 ∧ b.length ≤ bound.length + x.bulk := by
  induction x using Trm.ind with
  | h x ih =>
    intro scope deep size bound s b h
    rw [Trm.ckD_eq] at h
    split at h
    · cases h
    rename_i hc
    split at h
    · have key : ∀ (l : List Trm), (∀ y ∈ l, ∀ (scope : List Int) (deep size : Int) (bound : List Int) (s : Int) (b : List Int), y.ckD level consts codes free scope deep size bound = some (s, b) → size < s ∧ s ≤ 20000 ∧ b.length ≤ bound.length + y.bulk) →
          ∀ (deep size : Int) (bound : List Int) (s : Int) (b : List Int), size ≤ 20000 → Trm.cksD level consts codes free x.op scope (scope ++ x.v) l deep size bound = some (s, b) → size ≤ s ∧ s ≤ 20000 ∧ b.length ≤ bound.length + Trm.bulks l := by
        intro l
        induction l with
        | nil => intro _ deep size bound s b h0 h; rw [Trm.cksD] at h; cases h; rw [Trm.bulks]; omega
        | cons y l ihl =>
          intro hy deep size bound s b h0 h
          rw [Trm.cksD] at h
          split at h
          · cases h
          split at h
          · cases h
          · rename_i s1 b1 h1
            have e1 := hy y (by simp) _ _ _ _ _ _ h1
            have e2 := ihl (fun z hz => hy z (by simp [hz])) _ _ _ _ _ (by omega) h
            rw [Trm.bulks]; omega
      have hb := bindR_len x.v bound
      have h2 : size + 1 ≤ 20000 := by simp at hc; omega
      have := key x.t ih _ _ _ _ _ h2 h
      rw [Trm.bulk_eq]; omega
    · cases h
theorem Trm.cksD_nil (level consts codes : Int) (free : Bool) (op : Int) (scope inner : List Int) (deep size : Int) (bound : List Int) : Trm.cksD level consts codes free op scope inner [] deep size bound = some (size, bound) := by rw [Trm.cksD]
def ckPost (b : Nat) (level consts codes : Int) (free : Bool) (r : Option (Int × List Int)) (y : PV) (Γ' : List Ent) : Prop :=
  y = .tup [] ∧ ∃ size' bound' tk' ok', tk'.e = 3 ∧ Γ' = [.box b (ckC level consts codes size' free bound' tk' ok'), .tok tk'] ∧ (ok' = true → r = some (size', bound')) ∧ (ok' = false → r = none)
theorem cks_step {level consts codes : Int} {free : Bool} {op : Int} {scope inner : List Int} {l : List Trm} {i : Nat} (hlt : i < l.length) {deep sz : Int} {bd : List Int} {total : Option (Int × List Int)}
    (h : total = Trm.cksD level consts codes free op scope inner (l.drop i) deep sz bd) (okv : Bool) (sc : List Int) (h1 : okv = true ↔ (op = 9 ∧ i + 1 ≠ l.length → l[i].op = wantOp level)) (h2 : sc = if i + 1 = l.length ∨ op = 7 ∨ op = 9 then inner else scope) :
    (∀ s b, (if okv = true then l[i].ckD level consts codes free sc deep sz bd else none) = some (s, b) → total = Trm.cksD level consts codes free op scope inner (l.drop (i + 1)) deep s b) ∧
    ((if okv = true then l[i].ckD level consts codes free sc deep sz bd else none) = none → total = none) := by
  have e : l.drop (i + 1) = [] ↔ i + 1 = l.length := by rw [List.drop_eq_nil_iff]; omega
  rw [drop_at hlt, Trm.cksD] at h
  simp only [ne_eq, e] at h
  rw [← h2] at h
  by_cases ho : okv = true
  · rw [if_pos ho]
    have := h1.1 ho
    rw [if_neg (fun hh => hh.2.2 (this ⟨hh.1, hh.2.1⟩))] at h
    refine ⟨fun s b hr => ?_, fun hr => ?_⟩
    · rw [hr] at h; exact h
    · rw [hr] at h; exact h
  · rw [if_neg ho]
    refine ⟨fun s b hr => (by cases hr), fun _ => ?_⟩
    rw [if_pos] at h
    · exact h
    · refine ⟨?_, ?_, ?_⟩
      · apply Classical.byContradiction; intro hh; exact ho (h1.2 fun x => absurd x.1 hh)
      · intro hh; exact ho (h1.2 fun x => absurd hh x.2)
      · intro hh; exact ho (h1.2 fun _ => hh)
theorem ck_next {level consts codes : Int} {free : Bool} {x : Trm} {sc : List Int} {deep sz : Int} {bd : List Int} {R : Int → List Int → Prop} {n : Nat} (okv : Bool) {s : Int} {b : List Int}
    (h : (if okv = true then x.ckD level consts codes free sc deep sz bd else none) = some (s, b)) (k : ∀ s b, (if okv = true then x.ckD level consts codes free sc deep sz bd else none) = some (s, b) → R s b) (h0 : 0 ≤ sz) (hn : bd.length + (x.bulk + n) ≤ 1000000000) :
    0 ≤ s ∧ s ≤ 20000 ∧ b.length + n ≤ 1000000000 ∧ R s b := by
  have hk := k s b h
  split at h
  · have := x.ckD_bd level consts codes free sc deep sz bd s b h
    exact ⟨by omega, by omega, by omega, hk⟩
  · cases h
theorem term2_c (b : Nat) (level consts codes : Int) (free : Bool) (t : Trm) : ∀ (size deep : Int) (bound scope : List Int) (ok0 : Bool) (tk : Tok), tk.e = 3 → 0 ≤ size → size ≤ 20000 → 0 ≤ deep → deep ≤ 401 → bound.length + t.bulk ≤ 1000000000 → scope.length + t.bulk ≤ 1000000000 →
    ACall Tryz.prog 55 [.ptr b 0, .agg t.cells, .sl 1 (scope.map (PV.int .i64)) none, .int .i64 deep] [.box b (ckC level consts codes size free bound tk ok0), .tok tk]
    (ckPost b level consts codes free (if ok0 = true then t.ckD level consts codes free scope deep size bound else none)) := by
  induction t using Trm.ind with
  | h t ih =>
    intro size deep bound scope ok0 tk htk hs0 hs1 hd0 hd1 hb1 hb2
    have hbk := t.bulk_eq
    have hr := t.ckD_eq level consts codes free scope deep size bound
    refine ACall.of_body tt_ok Tryz.func55 rfl rfl (n := 141) rfl rfl ?_
    conv => whnf
    repeat ((first | ((first | (apply PGuard.lazy; intro hg) | apply PStb.of); (focus ((conv => whnf); (repeat ((first | refine PNeed.of gA ?_ | refine PLoad.box rfl ?_ | refine PLook.set ?_ | refine PSide.of bA ?_ | refine PSide.of rfl ?_ | refine PRow.one rfl rfl ?_ | refine PRow.none ?_ | refine PLoad.ep rfl ?_ | refine PLen.map ?_ | refine PIndexS.ix OA OA ?_ | refine PIndexA.ix OA OA ?_ | refine PIndexA.lit rfl ?_ | refine PInt.ok OA OA ?_ | refine PDiv.of OA ?_ | refine PSide.of NA ?_ | refine PSliceS.lo OA OA ?_ | refine PSliceL.lo OA OA ?_ | refine PSliceS.hi OA OA ?_ | refine PSliceL.hi OA OA ?_ | refine PCall.pure (sorts_c _ _) (WkT.refl _) ?_ | refine PCall.pure (sorts_c _ _) cA ?_ | refine PCall.pure (counts_c t OA) (WkT.refl _) ?_ | refine PCall.pure (counts_c t OA) cA ?_ | refine PCall.read (number2_c b level consts codes (size + 1) free ok0 bound tk t scope) (WkT.refl _) ?_ | intro _); conv => whnf)); exact And.intro rfl rfl))) | refine PLoad.box rfl ?_ | refine PLook.set ?_ | refine PSide.of bA ?_ | refine PSide.of rfl ?_ | refine PRow.one rfl rfl ?_ | refine PRow.none ?_ | refine PLoad.ep rfl ?_ | refine PLen.map ?_ | refine PIndexS.ix oA oA ?_ | refine PIndexA.ix oA oA ?_ | refine PIndexA.lit rfl ?_ | refine PInt.ok oA oA ?_ | refine PDiv.of oA ?_ | refine PSide.of nA ?_ | refine PSliceS.lo oA oA ?_ | refine PSliceL.lo oA oA ?_ | refine PSliceS.hi oA oA ?_ | refine PSliceL.hi oA oA ?_ | refine PCall.pure (sorts_c _ _) (WkT.refl _) ?_ | refine PCall.pure (sorts_c _ _) cA ?_ | refine PCall.pure (counts_c t OA) (WkT.refl _) ?_ | refine PCall.pure (counts_c t OA) cA ?_ | refine PCall.read (number2_c b level consts codes (size + 1) free ok0 bound tk t scope) (WkT.refl _) ?_ | refine PStore.box rfl rfl rfl ?_ | refine PBytes.mk ?_ | refine PMapPut.set ?_ | refine PMapDel.set ?_ | refine PDraw.at_ (some 19) rfl tt_ok mixed [0, 1, 3, 7, 15, 31, 63, 127, 255, 511, 1023, 2047, 1023, 5119, 13311, 29695, 65535, 131071, 262143, 524287, 1048575, 2097151, 4194303, 8388607, 16777215, 33554431, 33554431, 33554431, 268435455, 536870911, 1073741823] [0, 1, 2, 3, 4, 5, 6, 7, 8, 9, 10, 11, 12, 13, 14, 15, 16, 17, 18, 19, 20, 21, 22, 23, 24, 25, 26, 27] [] [28, 29, 30] [] (by kernel_rfl) ?_ | intro _); conv => whnf)
    conv => whnf
    repeat' (first | ((first | ((first | (apply PGuard.lazy; intro hg) | apply PStb.of); (focus ((conv => whnf); (repeat ((first | refine PNeed.of gA ?_ | refine PLoad.box rfl ?_ | refine PLook.set ?_ | refine PSide.of bA ?_ | refine PSide.of rfl ?_ | refine PRow.one rfl rfl ?_ | refine PRow.none ?_ | refine PLoad.ep rfl ?_ | refine PLen.map ?_ | refine PIndexS.ix OA OA ?_ | refine PIndexA.ix OA OA ?_ | refine PIndexA.lit rfl ?_ | refine PInt.ok OA OA ?_ | refine PDiv.of OA ?_ | refine PSide.of NA ?_ | refine PSliceS.lo OA OA ?_ | refine PSliceL.lo OA OA ?_ | refine PSliceS.hi OA OA ?_ | refine PSliceL.hi OA OA ?_ | refine PCall.pure (sorts_c _ _) (WkT.refl _) ?_ | refine PCall.pure (sorts_c _ _) cA ?_ | refine PCall.pure (counts_c t OA) (WkT.refl _) ?_ | refine PCall.pure (counts_c t OA) cA ?_ | refine PCall.read (number2_c b level consts codes (size + 1) free ok0 bound tk t scope) (WkT.refl _) ?_ | intro _); conv => whnf)); exact And.intro rfl rfl))) | refine PLoad.box rfl ?_ | refine PLook.set ?_ | refine PSide.of bA ?_ | refine PSide.of rfl ?_ | refine PRow.one rfl rfl ?_ | refine PRow.none ?_ | refine PLoad.ep rfl ?_ | refine PLen.map ?_ | refine PIndexS.ix oA oA ?_ | refine PIndexA.ix oA oA ?_ | refine PIndexA.lit rfl ?_ | refine PInt.ok oA oA ?_ | refine PDiv.of oA ?_ | refine PSide.of nA ?_ | refine PSliceS.lo oA oA ?_ | refine PSliceL.lo oA oA ?_ | refine PSliceS.hi oA oA ?_ | refine PSliceL.hi oA oA ?_ | refine PCall.pure (sorts_c _ _) (WkT.refl _) ?_ | refine PCall.pure (sorts_c _ _) cA ?_ | refine PCall.pure (counts_c t OA) (WkT.refl _) ?_ | refine PCall.pure (counts_c t OA) cA ?_ | refine PCall.read (number2_c b level consts codes (size + 1) free ok0 bound tk t scope) (WkT.refl _) ?_ | refine PStore.box rfl rfl rfl ?_ | refine PBytes.mk ?_ | refine PMapPut.set ?_ | refine PMapDel.set ?_ | refine PDraw.at_ (some 19) rfl tt_ok mixed [0, 1, 3, 7, 15, 31, 63, 127, 255, 511, 1023, 2047, 1023, 5119, 13311, 29695, 65535, 131071, 262143, 524287, 1048575, 2097151, 4194303, 8388607, 16777215, 33554431, 33554431, 33554431, 268435455, 536870911, 1073741823] [0, 1, 2, 3, 4, 5, 6, 7, 8, 9, 10, 11, 12, 13, 14, 15, 16, 17, 18, 19, 20, 21, 22, 23, 24, 25, 26, 27] [] [28, 29, 30] [] (by kernel_rfl) ?_ | intro _ | refine PSeq.go ?_); conv => whnf) | (refine PCond.ways (fun hc => ?_) (fun hc => ?_) <;> (try simp only [SS, not_true_eq_false, not_false_eq_true, false_and, and_false, true_and, and_true, true_or, or_true, false_or, or_false] at hc) <;> first | (exfalso; omega) | (conv => whnf)))
    · exact PRet.gen (Wk.refl _) ⟨rfl, size + 1, bound, tk, false, htk, rfl, fun h => (by cases h), fun _ => (by split; rw [hr, if_pos (by simp only [SS]; exact ‹_ ∨ _›)]; rfl)⟩
    · exact PRet.gen (Wk.refl _) ⟨rfl, size + 1, bound, tk, ok0, htk, rfl, fun h => (by rw [h] at hc; simp at hc), fun h => by rw [if_neg (by simp [h])]⟩
    rename_i b2 hgood
    obtain ⟨⟨⟨⟨g1, g2⟩, g3⟩, g4⟩, g5⟩ := hgood
    obtain rfl : ok0 = true := by simpa using hc
    rw [if_pos rfl]
    rw [if_neg (by simp [g3, g4, g5]; omega)] at hr
    refine PCall.go (bind2_c b level consts codes (size + 1) free t.v bound tk htk (by omega)) (WkT.refl _) ?_
    rintro _ _ ⟨rfl, tk2, htk2, rfl⟩
    conv => whnf
    repeat ((first | ((first | (apply PGuard.lazy; intro hg) | apply PStb.of); (focus ((conv => whnf); (repeat ((first | refine PNeed.of gA ?_ | refine PLoad.box rfl ?_ | refine PLook.set ?_ | refine PSide.of bA ?_ | refine PSide.of rfl ?_ | refine PRow.one rfl rfl ?_ | refine PRow.none ?_ | refine PLoad.ep rfl ?_ | refine PLen.map ?_ | refine PIndexS.ix OA OA ?_ | refine PIndexA.ix OA OA ?_ | refine PIndexA.lit rfl ?_ | refine PInt.ok OA OA ?_ | refine PDiv.of OA ?_ | refine PSide.of NA ?_ | refine PSliceS.lo OA OA ?_ | refine PSliceL.lo OA OA ?_ | refine PSliceS.hi OA OA ?_ | refine PSliceL.hi OA OA ?_ | refine PCall.pure (sorts_c _ _) (WkT.refl _) ?_ | refine PCall.pure (sorts_c _ _) cA ?_ | refine PCall.pure (counts_c t OA) (WkT.refl _) ?_ | refine PCall.pure (counts_c t OA) cA ?_ | refine PCall.read (number2_c b level consts codes (size + 1) free ok0 bound tk t scope) (WkT.refl _) ?_ | intro _); conv => whnf)); exact And.intro rfl rfl))) | refine PLoad.box rfl ?_ | refine PLook.set ?_ | refine PSide.of bA ?_ | refine PSide.of rfl ?_ | refine PRow.one rfl rfl ?_ | refine PRow.none ?_ | refine PLoad.ep rfl ?_ | refine PLen.map ?_ | refine PIndexS.ix oA oA ?_ | refine PIndexA.ix oA oA ?_ | refine PIndexA.lit rfl ?_ | refine PInt.ok oA oA ?_ | refine PDiv.of oA ?_ | refine PSide.of nA ?_ | refine PSliceS.lo oA oA ?_ | refine PSliceL.lo oA oA ?_ | refine PSliceS.hi oA oA ?_ | refine PSliceL.hi oA oA ?_ | refine PCall.pure (sorts_c _ _) (WkT.refl _) ?_ | refine PCall.pure (sorts_c _ _) cA ?_ | refine PCall.pure (counts_c t OA) (WkT.refl _) ?_ | refine PCall.pure (counts_c t OA) cA ?_ | refine PCall.read (number2_c b level consts codes (size + 1) free ok0 bound tk t scope) (WkT.refl _) ?_ | refine PStore.box rfl rfl rfl ?_ | refine PBytes.mk ?_ | refine PMapPut.set ?_ | refine PMapDel.set ?_ | refine PDraw.at_ (some 19) rfl tt_ok mixed [0, 1, 3, 7, 15, 31, 63, 127, 255, 511, 1023, 2047, 1023, 5119, 13311, 29695, 65535, 131071, 262143, 524287, 1048575, 2097151, 4194303, 8388607, 16777215, 33554431, 33554431, 33554431, 268435455, 536870911, 1073741823] [0, 1, 2, 3, 4, 5, 6, 7, 8, 9, 10, 11, 12, 13, 14, 15, 16, 17, 18, 19, 20, 21, 22, 23, 24, 25, 26, 27] [] [28, 29, 30] [] (by kernel_rfl) ?_ | intro _); conv => whnf)
    refine PDraw.split tt_ok mixed [0, 0, 3, 0, 8, 31, 63] [1, 3, 4] [0, 2] [5, 6] [] (by kernel_rfl) ?_
    conv => whnf
    repeat ((first | ((first | (apply PGuard.lazy; intro hg) | apply PStb.of); (focus ((conv => whnf); (repeat ((first | refine PNeed.of gA ?_ | refine PLoad.box rfl ?_ | refine PLook.set ?_ | refine PSide.of bA ?_ | refine PSide.of rfl ?_ | refine PRow.one rfl rfl ?_ | refine PRow.none ?_ | refine PLoad.ep rfl ?_ | refine PLen.map ?_ | refine PIndexS.ix OA OA ?_ | refine PIndexA.ix OA OA ?_ | refine PIndexA.lit rfl ?_ | refine PInt.ok OA OA ?_ | refine PDiv.of OA ?_ | refine PSide.of NA ?_ | refine PSliceS.lo OA OA ?_ | refine PSliceL.lo OA OA ?_ | refine PSliceS.hi OA OA ?_ | refine PSliceL.hi OA OA ?_ | refine PCall.pure (sorts_c _ _) (WkT.refl _) ?_ | refine PCall.pure (sorts_c _ _) cA ?_ | refine PCall.pure (counts_c t OA) (WkT.refl _) ?_ | refine PCall.pure (counts_c t OA) cA ?_ | refine PCall.read (number2_c b level consts codes (size + 1) free ok0 bound tk t scope) (WkT.refl _) ?_ | intro _); conv => whnf)); exact And.intro rfl rfl))) | refine PLoad.box rfl ?_ | refine PLook.set ?_ | refine PSide.of bA ?_ | refine PSide.of rfl ?_ | refine PRow.one rfl rfl ?_ | refine PRow.none ?_ | refine PLoad.ep rfl ?_ | refine PLen.map ?_ | refine PIndexS.ix oA oA ?_ | refine PIndexA.ix oA oA ?_ | refine PIndexA.lit rfl ?_ | refine PInt.ok oA oA ?_ | refine PDiv.of oA ?_ | refine PSide.of nA ?_ | refine PSliceS.lo oA oA ?_ | refine PSliceL.lo oA oA ?_ | refine PSliceS.hi oA oA ?_ | refine PSliceL.hi oA oA ?_ | refine PCall.pure (sorts_c _ _) (WkT.refl _) ?_ | refine PCall.pure (sorts_c _ _) cA ?_ | refine PCall.pure (counts_c t OA) (WkT.refl _) ?_ | refine PCall.pure (counts_c t OA) cA ?_ | refine PCall.read (number2_c b level consts codes (size + 1) free ok0 bound tk t scope) (WkT.refl _) ?_ | refine PStore.box rfl rfl rfl ?_ | refine PBytes.mk ?_ | refine PMapPut.set ?_ | refine PMapDel.set ?_ | refine PDraw.at_ (some 19) rfl tt_ok mixed [0, 1, 3, 7, 15, 31, 63, 127, 255, 511, 1023, 2047, 1023, 5119, 13311, 29695, 65535, 131071, 262143, 524287, 1048575, 2097151, 4194303, 8388607, 16777215, 33554431, 33554431, 33554431, 268435455, 536870911, 1073741823] [0, 1, 2, 3, 4, 5, 6, 7, 8, 9, 10, 11, 12, 13, 14, 15, 16, 17, 18, 19, 20, 21, 22, 23, 24, 25, 26, 27] [] [28, 29, 30] [] (by kernel_rfl) ?_ | intro _); conv => whnf)
    rename_i t3 ht3
    refine PAppend.list (l := ([] : List Int)) (f := PV.int .i64) ht3 (by simp; omega) (by show _ * 8 ≤ _; simp; omega) ?_
    intro t4 ht4
    conv => whnf
    repeat ((first | ((first | (apply PGuard.lazy; intro hg) | apply PStb.of); (focus ((conv => whnf); (repeat ((first | refine PNeed.of gA ?_ | refine PLoad.box rfl ?_ | refine PLook.set ?_ | refine PSide.of bA ?_ | refine PSide.of rfl ?_ | refine PRow.one rfl rfl ?_ | refine PRow.none ?_ | refine PLoad.ep rfl ?_ | refine PLen.map ?_ | refine PIndexS.ix OA OA ?_ | refine PIndexA.ix OA OA ?_ | refine PIndexA.lit rfl ?_ | refine PInt.ok OA OA ?_ | refine PDiv.of OA ?_ | refine PSide.of NA ?_ | refine PSliceS.lo OA OA ?_ | refine PSliceL.lo OA OA ?_ | refine PSliceS.hi OA OA ?_ | refine PSliceL.hi OA OA ?_ | refine PCall.pure (sorts_c _ _) (WkT.refl _) ?_ | refine PCall.pure (sorts_c _ _) cA ?_ | refine PCall.pure (counts_c t OA) (WkT.refl _) ?_ | refine PCall.pure (counts_c t OA) cA ?_ | refine PCall.read (number2_c b level consts codes (size + 1) free ok0 bound tk t scope) (WkT.refl _) ?_ | intro _); conv => whnf)); exact And.intro rfl rfl))) | refine PLoad.box rfl ?_ | refine PLook.set ?_ | refine PSide.of bA ?_ | refine PSide.of rfl ?_ | refine PRow.one rfl rfl ?_ | refine PRow.none ?_ | refine PLoad.ep rfl ?_ | refine PLen.map ?_ | refine PIndexS.ix oA oA ?_ | refine PIndexA.ix oA oA ?_ | refine PIndexA.lit rfl ?_ | refine PInt.ok oA oA ?_ | refine PDiv.of oA ?_ | refine PSide.of nA ?_ | refine PSliceS.lo oA oA ?_ | refine PSliceL.lo oA oA ?_ | refine PSliceS.hi oA oA ?_ | refine PSliceL.hi oA oA ?_ | refine PCall.pure (sorts_c _ _) (WkT.refl _) ?_ | refine PCall.pure (sorts_c _ _) cA ?_ | refine PCall.pure (counts_c t OA) (WkT.refl _) ?_ | refine PCall.pure (counts_c t OA) cA ?_ | refine PCall.read (number2_c b level consts codes (size + 1) free ok0 bound tk t scope) (WkT.refl _) ?_ | refine PStore.box rfl rfl rfl ?_ | refine PBytes.mk ?_ | refine PMapPut.set ?_ | refine PMapDel.set ?_ | refine PDraw.at_ (some 19) rfl tt_ok mixed [0, 1, 3, 7, 15, 31, 63, 127, 255, 511, 1023, 2047, 1023, 5119, 13311, 29695, 65535, 131071, 262143, 524287, 1048575, 2097151, 4194303, 8388607, 16777215, 33554431, 33554431, 33554431, 268435455, 536870911, 1073741823] [0, 1, 2, 3, 4, 5, 6, 7, 8, 9, 10, 11, 12, 13, 14, 15, 16, 17, 18, 19, 20, 21, 22, 23, 24, 25, 26, 27] [] [28, 29, 30] [] (by kernel_rfl) ?_ | intro _); conv => whnf)
    refine PAppend.list (l := [] ++ scope) (f := PV.int .i64) ht4 (by simp; omega) (by show _ * 8 ≤ _; simp; omega) ?_
    intro t5 ht5
    conv => whnf
    repeat ((first | ((first | (apply PGuard.lazy; intro hg) | apply PStb.of); (focus ((conv => whnf); (repeat ((first | refine PNeed.of gA ?_ | refine PLoad.box rfl ?_ | refine PLook.set ?_ | refine PSide.of bA ?_ | refine PSide.of rfl ?_ | refine PRow.one rfl rfl ?_ | refine PRow.none ?_ | refine PLoad.ep rfl ?_ | refine PLen.map ?_ | refine PIndexS.ix OA OA ?_ | refine PIndexA.ix OA OA ?_ | refine PIndexA.lit rfl ?_ | refine PInt.ok OA OA ?_ | refine PDiv.of OA ?_ | refine PSide.of NA ?_ | refine PSliceS.lo OA OA ?_ | refine PSliceL.lo OA OA ?_ | refine PSliceS.hi OA OA ?_ | refine PSliceL.hi OA OA ?_ | refine PCall.pure (sorts_c _ _) (WkT.refl _) ?_ | refine PCall.pure (sorts_c _ _) cA ?_ | refine PCall.pure (counts_c t OA) (WkT.refl _) ?_ | refine PCall.pure (counts_c t OA) cA ?_ | refine PCall.read (number2_c b level consts codes (size + 1) free ok0 bound tk t scope) (WkT.refl _) ?_ | intro _); conv => whnf)); exact And.intro rfl rfl))) | refine PLoad.box rfl ?_ | refine PLook.set ?_ | refine PSide.of bA ?_ | refine PSide.of rfl ?_ | refine PRow.one rfl rfl ?_ | refine PRow.none ?_ | refine PLoad.ep rfl ?_ | refine PLen.map ?_ | refine PIndexS.ix oA oA ?_ | refine PIndexA.ix oA oA ?_ | refine PIndexA.lit rfl ?_ | refine PInt.ok oA oA ?_ | refine PDiv.of oA ?_ | refine PSide.of nA ?_ | refine PSliceS.lo oA oA ?_ | refine PSliceL.lo oA oA ?_ | refine PSliceS.hi oA oA ?_ | refine PSliceL.hi oA oA ?_ | refine PCall.pure (sorts_c _ _) (WkT.refl _) ?_ | refine PCall.pure (sorts_c _ _) cA ?_ | refine PCall.pure (counts_c t OA) (WkT.refl _) ?_ | refine PCall.pure (counts_c t OA) cA ?_ | refine PCall.read (number2_c b level consts codes (size + 1) free ok0 bound tk t scope) (WkT.refl _) ?_ | refine PStore.box rfl rfl rfl ?_ | refine PBytes.mk ?_ | refine PMapPut.set ?_ | refine PMapDel.set ?_ | refine PDraw.at_ (some 19) rfl tt_ok mixed [0, 1, 3, 7, 15, 31, 63, 127, 255, 511, 1023, 2047, 1023, 5119, 13311, 29695, 65535, 131071, 262143, 524287, 1048575, 2097151, 4194303, 8388607, 16777215, 33554431, 33554431, 33554431, 268435455, 536870911, 1073741823] [0, 1, 2, 3, 4, 5, 6, 7, 8, 9, 10, 11, 12, 13, 14, 15, 16, 17, 18, 19, 20, 21, 22, 23, 24, 25, 26, 27] [] [28, 29, 30] [] (by kernel_rfl) ?_ | intro _); conv => whnf)
    rw [List.nil_append]
    have hbl := bindR_len t.v bound
    refine PLoop.over [9, 10, 11, 68, 69, 70, 71, 72, 73, 74, 75, 76, 77, 78, 79, 80, 81, 82, 83, 84, 85, 86, 87, 88, 89, 90, 91, 92, 93, 94, 95, 96, 97, 98, 99, 100, 101, 102, 103, 104, 105, 106, 107, 108, 109, 110, 111, 112, 113, 114, 115, 116, 117, 118, 119, 120, 121, 122, 123, 124, 125, 126, 127, 128, 129, 130, 131, 132, 133, 134, 135, 136, 137, 138, 139, 140] (fun | ((i, sz, bd, ok, tk') : Nat × Int × List Int × Bool × Tok) => [(9, .int .i64 i)])
      (fun x => [.box b (ckC level consts codes x.2.1 free x.2.2.1 x.2.2.2.2 x.2.2.2.1), .tok x.2.2.2.2, .box b2 [.int .i64 t.op, .int .i64 t.n, .sl 1 (t.v.map (PV.int .i64)) none, .sl 4 (t.t.map Trm.pv) none]])
      (fun | (i, sz, bd, ok, tk') => i ≤ t.t.length ∧ tk'.e = 3 ∧ (ok = true → 0 ≤ sz ∧ sz ≤ 20000 ∧ bd.length + Trm.bulks (t.t.drop i) ≤ 1000000000 ∧ t.ckD level consts codes free scope deep size bound = Trm.cksD level consts codes free t.op scope (scope ++ t.v) (t.t.drop i) (deep + 1) sz bd) ∧
        (ok = false → t.ckD level consts codes free scope deep size bound = none)) (fun | (i, _) => t.t.length - i) (0, size + 1, (bindR t.v bound).2, (bindR t.v bound).1, tk2)
      ⟨by simp, htk2, fun h => ⟨by omega, by omega, by rw [List.drop_zero]; omega, by rw [hr, if_pos h]; rfl⟩, fun h => by rw [hr, if_neg (by simp [h])]⟩ wA ?_
    rintro ⟨i, sz, bd, ok, tk'⟩ ⟨hi, htk', hok, hno⟩
    conv => whnf
    repeat' (first | ((first | ((first | (apply PGuard.lazy; intro hg) | apply PStb.of); (focus ((conv => whnf); (repeat ((first | refine PNeed.of gA ?_ | refine PLoad.box rfl ?_ | refine PLook.set ?_ | refine PSide.of bA ?_ | refine PSide.of rfl ?_ | refine PRow.one rfl rfl ?_ | refine PRow.none ?_ | refine PLoad.ep rfl ?_ | refine PLen.map ?_ | refine PIndexS.ix OA OA ?_ | refine PIndexA.ix OA OA ?_ | refine PIndexA.lit rfl ?_ | refine PInt.ok OA OA ?_ | refine PDiv.of OA ?_ | refine PSide.of NA ?_ | refine PSliceS.lo OA OA ?_ | refine PSliceL.lo OA OA ?_ | refine PSliceS.hi OA OA ?_ | refine PSliceL.hi OA OA ?_ | refine PCall.pure (sorts_c _ _) (WkT.refl _) ?_ | refine PCall.pure (sorts_c _ _) cA ?_ | refine PCall.pure (counts_c t OA) (WkT.refl _) ?_ | refine PCall.pure (counts_c t OA) cA ?_ | refine PCall.read (number2_c b level consts codes (size + 1) free ok0 bound tk t scope) (WkT.refl _) ?_ | intro _); conv => whnf)); exact And.intro rfl rfl))) | refine PLoad.box rfl ?_ | refine PLook.set ?_ | refine PSide.of bA ?_ | refine PSide.of rfl ?_ | refine PRow.one rfl rfl ?_ | refine PRow.none ?_ | refine PLoad.ep rfl ?_ | refine PLen.map ?_ | refine PIndexS.ix oA oA ?_ | refine PIndexA.ix oA oA ?_ | refine PIndexA.lit rfl ?_ | refine PInt.ok oA oA ?_ | refine PDiv.of oA ?_ | refine PSide.of nA ?_ | refine PSliceS.lo oA oA ?_ | refine PSliceL.lo oA oA ?_ | refine PSliceS.hi oA oA ?_ | refine PSliceL.hi oA oA ?_ | refine PCall.pure (sorts_c _ _) (WkT.refl _) ?_ | refine PCall.pure (sorts_c _ _) cA ?_ | refine PCall.pure (counts_c t OA) (WkT.refl _) ?_ | refine PCall.pure (counts_c t OA) cA ?_ | refine PCall.read (number2_c b level consts codes (size + 1) free ok0 bound tk t scope) (WkT.refl _) ?_ | refine PStore.box rfl rfl rfl ?_ | refine PBytes.mk ?_ | refine PMapPut.set ?_ | refine PMapDel.set ?_ | refine PDraw.at_ (some 19) rfl tt_ok mixed [0, 1, 3, 7, 15, 31, 63, 127, 255, 511, 1023, 2047, 1023, 5119, 13311, 29695, 65535, 131071, 262143, 524287, 1048575, 2097151, 4194303, 8388607, 16777215, 33554431, 33554431, 33554431, 268435455, 536870911, 1073741823] [0, 1, 2, 3, 4, 5, 6, 7, 8, 9, 10, 11, 12, 13, 14, 15, 16, 17, 18, 19, 20, 21, 22, 23, 24, 25, 26, 27] [] [28, 29, 30] [] (by kernel_rfl) ?_ | intro _ | refine PSeq.go ?_); conv => whnf) | (refine PCond.ways (fun hc => ?_) (fun hc => ?_) <;> (try simp only [SS, not_true_eq_false, not_false_eq_true, false_and, and_false, true_and, and_true, true_or, or_true, false_or, or_false] at hc) <;> first | (exfalso; omega) | (conv => whnf)))
    rotate_right
    · refine PRet.gen (Wk.refl _) ⟨rfl, sz, bd, tk', ok, htk', rfl, fun h => ?_, hno⟩
      obtain ⟨_, _, _, h3⟩ := hok h
      rw [h3, List.drop_of_length_le (by rcases hc with hc | hc; omega; rw [h] at hc; cases hc), Trm.cksD]
    all_goals
      have hlt : i < t.t.length := by omega
      obtain rfl : ok = true := (‹_ ∧ ok = true›).2
      obtain ⟨hz, q1, q2, q3⟩ := hok rfl
      have hbm := Trm.bulks_mem (List.getElem_mem hlt)
      rw [drop_at hlt, Trm.bulks] at q2
    · obtain ⟨k1, k2⟩ := cks_step hlt q3 (t.t[i].op == 19) (scope ++ t.v) (by simp [wantOp, *]; omega) (by rw [if_pos (by omega)])
      refine PCall.go (ih t.t[i] (List.getElem_mem _) sz (deep + 1) bd (scope ++ t.v) (t.t[i].op == 19) tk' htk' hz q1 (by omega) (by omega) (by omega) (by first | omega | (simp; omega))) wA ?_
      rintro _ _ ⟨rfl, s', b', tk2', ok2, h1, rfl, h3, h4⟩
      conv => whnf
      repeat ((first | ((first | (apply PGuard.lazy; intro hg) | apply PStb.of); (focus ((conv => whnf); (repeat ((first | refine PNeed.of gA ?_ | refine PLoad.box rfl ?_ | refine PLook.set ?_ | refine PSide.of bA ?_ | refine PSide.of rfl ?_ | refine PRow.one rfl rfl ?_ | refine PRow.none ?_ | refine PLoad.ep rfl ?_ | refine PLen.map ?_ | refine PIndexS.ix OA OA ?_ | refine PIndexA.ix OA OA ?_ | refine PIndexA.lit rfl ?_ | refine PInt.ok OA OA ?_ | refine PDiv.of OA ?_ | refine PSide.of NA ?_ | refine PSliceS.lo OA OA ?_ | refine PSliceL.lo OA OA ?_ | refine PSliceS.hi OA OA ?_ | refine PSliceL.hi OA OA ?_ | refine PCall.pure (sorts_c _ _) (WkT.refl _) ?_ | refine PCall.pure (sorts_c _ _) cA ?_ | refine PCall.pure (counts_c t OA) (WkT.refl _) ?_ | refine PCall.pure (counts_c t OA) cA ?_ | refine PCall.read (number2_c b level consts codes (size + 1) free ok0 bound tk t scope) (WkT.refl _) ?_ | intro _); conv => whnf)); exact And.intro rfl rfl))) | refine PLoad.box rfl ?_ | refine PLook.set ?_ | refine PSide.of bA ?_ | refine PSide.of rfl ?_ | refine PRow.one rfl rfl ?_ | refine PRow.none ?_ | refine PLoad.ep rfl ?_ | refine PLen.map ?_ | refine PIndexS.ix oA oA ?_ | refine PIndexA.ix oA oA ?_ | refine PIndexA.lit rfl ?_ | refine PInt.ok oA oA ?_ | refine PDiv.of oA ?_ | refine PSide.of nA ?_ | refine PSliceS.lo oA oA ?_ | refine PSliceL.lo oA oA ?_ | refine PSliceS.hi oA oA ?_ | refine PSliceL.hi oA oA ?_ | refine PCall.pure (sorts_c _ _) (WkT.refl _) ?_ | refine PCall.pure (sorts_c _ _) cA ?_ | refine PCall.pure (counts_c t OA) (WkT.refl _) ?_ | refine PCall.pure (counts_c t OA) cA ?_ | refine PCall.read (number2_c b level consts codes (size + 1) free ok0 bound tk t scope) (WkT.refl _) ?_ | refine PStore.box rfl rfl rfl ?_ | refine PBytes.mk ?_ | refine PMapPut.set ?_ | refine PMapDel.set ?_ | refine PDraw.at_ (some 19) rfl tt_ok mixed [0, 1, 3, 7, 15, 31, 63, 127, 255, 511, 1023, 2047, 1023, 5119, 13311, 29695, 65535, 131071, 262143, 524287, 1048575, 2097151, 4194303, 8388607, 16777215, 33554431, 33554431, 33554431, 268435455, 536870911, 1073741823] [0, 1, 2, 3, 4, 5, 6, 7, 8, 9, 10, 11, 12, 13, 14, 15, 16, 17, 18, 19, 20, 21, 22, 23, 24, 25, 26, 27] [] [28, 29, 30] [] (by kernel_rfl) ?_ | intro _); conv => whnf)
      exact loopTo (i + 1, s', b', ok2, tk2') ⟨by omega, h1, fun h => ck_next _ (h3 h) k1 hz (by omega), fun h => k2 (h4 h)⟩ (by show t.t.length - (i + 1) < t.t.length - i; omega) wA
    · obtain ⟨k1, k2⟩ := cks_step hlt q3 (t.t[i].op == 4) (scope ++ t.v) (by simp [wantOp, *]; omega) (by rw [if_pos (by omega)])
      refine PCall.go (ih t.t[i] (List.getElem_mem _) sz (deep + 1) bd (scope ++ t.v) (t.t[i].op == 4) tk' htk' hz q1 (by omega) (by omega) (by omega) (by first | omega | (simp; omega))) wA ?_
      rintro _ _ ⟨rfl, s', b', tk2', ok2, h1, rfl, h3, h4⟩
      conv => whnf
      repeat ((first | ((first | (apply PGuard.lazy; intro hg) | apply PStb.of); (focus ((conv => whnf); (repeat ((first | refine PNeed.of gA ?_ | refine PLoad.box rfl ?_ | refine PLook.set ?_ | refine PSide.of bA ?_ | refine PSide.of rfl ?_ | refine PRow.one rfl rfl ?_ | refine PRow.none ?_ | refine PLoad.ep rfl ?_ | refine PLen.map ?_ | refine PIndexS.ix OA OA ?_ | refine PIndexA.ix OA OA ?_ | refine PIndexA.lit rfl ?_ | refine PInt.ok OA OA ?_ | refine PDiv.of OA ?_ | refine PSide.of NA ?_ | refine PSliceS.lo OA OA ?_ | refine PSliceL.lo OA OA ?_ | refine PSliceS.hi OA OA ?_ | refine PSliceL.hi OA OA ?_ | refine PCall.pure (sorts_c _ _) (WkT.refl _) ?_ | refine PCall.pure (sorts_c _ _) cA ?_ | refine PCall.pure (counts_c t OA) (WkT.refl _) ?_ | refine PCall.pure (counts_c t OA) cA ?_ | refine PCall.read (number2_c b level consts codes (size + 1) free ok0 bound tk t scope) (WkT.refl _) ?_ | intro _); conv => whnf)); exact And.intro rfl rfl))) | refine PLoad.box rfl ?_ | refine PLook.set ?_ | refine PSide.of bA ?_ | refine PSide.of rfl ?_ | refine PRow.one rfl rfl ?_ | refine PRow.none ?_ | refine PLoad.ep rfl ?_ | refine PLen.map ?_ | refine PIndexS.ix oA oA ?_ | refine PIndexA.ix oA oA ?_ | refine PIndexA.lit rfl ?_ | refine PInt.ok oA oA ?_ | refine PDiv.of oA ?_ | refine PSide.of nA ?_ | refine PSliceS.lo oA oA ?_ | refine PSliceL.lo oA oA ?_ | refine PSliceS.hi oA oA ?_ | refine PSliceL.hi oA oA ?_ | refine PCall.pure (sorts_c _ _) (WkT.refl _) ?_ | refine PCall.pure (sorts_c _ _) cA ?_ | refine PCall.pure (counts_c t OA) (WkT.refl _) ?_ | refine PCall.pure (counts_c t OA) cA ?_ | refine PCall.read (number2_c b level consts codes (size + 1) free ok0 bound tk t scope) (WkT.refl _) ?_ | refine PStore.box rfl rfl rfl ?_ | refine PBytes.mk ?_ | refine PMapPut.set ?_ | refine PMapDel.set ?_ | refine PDraw.at_ (some 19) rfl tt_ok mixed [0, 1, 3, 7, 15, 31, 63, 127, 255, 511, 1023, 2047, 1023, 5119, 13311, 29695, 65535, 131071, 262143, 524287, 1048575, 2097151, 4194303, 8388607, 16777215, 33554431, 33554431, 33554431, 268435455, 536870911, 1073741823] [0, 1, 2, 3, 4, 5, 6, 7, 8, 9, 10, 11, 12, 13, 14, 15, 16, 17, 18, 19, 20, 21, 22, 23, 24, 25, 26, 27] [] [28, 29, 30] [] (by kernel_rfl) ?_ | intro _); conv => whnf)
      exact loopTo (i + 1, s', b', ok2, tk2') ⟨by omega, h1, fun h => ck_next _ (h3 h) k1 hz (by omega), fun h => k2 (h4 h)⟩ (by show t.t.length - (i + 1) < t.t.length - i; omega) wA
    · obtain ⟨k1, k2⟩ := cks_step hlt q3 true (scope ++ t.v) ⟨fun _ hh => (by omega), fun _ => rfl⟩ (by rw [if_pos (by omega)])
      refine PCall.go (ih t.t[i] (List.getElem_mem _) sz (deep + 1) bd (scope ++ t.v) (true) tk' htk' hz q1 (by omega) (by omega) (by omega) (by first | omega | (simp; omega))) wA ?_
      rintro _ _ ⟨rfl, s', b', tk2', ok2, h1, rfl, h3, h4⟩
      conv => whnf
      repeat ((first | ((first | (apply PGuard.lazy; intro hg) | apply PStb.of); (focus ((conv => whnf); (repeat ((first | refine PNeed.of gA ?_ | refine PLoad.box rfl ?_ | refine PLook.set ?_ | refine PSide.of bA ?_ | refine PSide.of rfl ?_ | refine PRow.one rfl rfl ?_ | refine PRow.none ?_ | refine PLoad.ep rfl ?_ | refine PLen.map ?_ | refine PIndexS.ix OA OA ?_ | refine PIndexA.ix OA OA ?_ | refine PIndexA.lit rfl ?_ | refine PInt.ok OA OA ?_ | refine PDiv.of OA ?_ | refine PSide.of NA ?_ | refine PSliceS.lo OA OA ?_ | refine PSliceL.lo OA OA ?_ | refine PSliceS.hi OA OA ?_ | refine PSliceL.hi OA OA ?_ | refine PCall.pure (sorts_c _ _) (WkT.refl _) ?_ | refine PCall.pure (sorts_c _ _) cA ?_ | refine PCall.pure (counts_c t OA) (WkT.refl _) ?_ | refine PCall.pure (counts_c t OA) cA ?_ | refine PCall.read (number2_c b level consts codes (size + 1) free ok0 bound tk t scope) (WkT.refl _) ?_ | intro _); conv => whnf)); exact And.intro rfl rfl))) | refine PLoad.box rfl ?_ | refine PLook.set ?_ | refine PSide.of bA ?_ | refine PSide.of rfl ?_ | refine PRow.one rfl rfl ?_ | refine PRow.none ?_ | refine PLoad.ep rfl ?_ | refine PLen.map ?_ | refine PIndexS.ix oA oA ?_ | refine PIndexA.ix oA oA ?_ | refine PIndexA.lit rfl ?_ | refine PInt.ok oA oA ?_ | refine PDiv.of oA ?_ | refine PSide.of nA ?_ | refine PSliceS.lo oA oA ?_ | refine PSliceL.lo oA oA ?_ | refine PSliceS.hi oA oA ?_ | refine PSliceL.hi oA oA ?_ | refine PCall.pure (sorts_c _ _) (WkT.refl _) ?_ | refine PCall.pure (sorts_c _ _) cA ?_ | refine PCall.pure (counts_c t OA) (WkT.refl _) ?_ | refine PCall.pure (counts_c t OA) cA ?_ | refine PCall.read (number2_c b level consts codes (size + 1) free ok0 bound tk t scope) (WkT.refl _) ?_ | refine PStore.box rfl rfl rfl ?_ | refine PBytes.mk ?_ | refine PMapPut.set ?_ | refine PMapDel.set ?_ | refine PDraw.at_ (some 19) rfl tt_ok mixed [0, 1, 3, 7, 15, 31, 63, 127, 255, 511, 1023, 2047, 1023, 5119, 13311, 29695, 65535, 131071, 262143, 524287, 1048575, 2097151, 4194303, 8388607, 16777215, 33554431, 33554431, 33554431, 268435455, 536870911, 1073741823] [0, 1, 2, 3, 4, 5, 6, 7, 8, 9, 10, 11, 12, 13, 14, 15, 16, 17, 18, 19, 20, 21, 22, 23, 24, 25, 26, 27] [] [28, 29, 30] [] (by kernel_rfl) ?_ | intro _); conv => whnf)
      exact loopTo (i + 1, s', b', ok2, tk2') ⟨by omega, h1, fun h => ck_next _ (h3 h) k1 hz (by omega), fun h => k2 (h4 h)⟩ (by show t.t.length - (i + 1) < t.t.length - i; omega) wA
    · obtain ⟨k1, k2⟩ := cks_step hlt q3 true scope ⟨fun _ hh => (by omega), fun _ => rfl⟩ (by rw [if_neg (by omega)])
      refine PCall.go (ih t.t[i] (List.getElem_mem _) sz (deep + 1) bd (scope) (true) tk' htk' hz q1 (by omega) (by omega) (by omega) (by first | omega | (simp; omega))) wA ?_
      rintro _ _ ⟨rfl, s', b', tk2', ok2, h1, rfl, h3, h4⟩
      conv => whnf
      repeat ((first | ((first | (apply PGuard.lazy; intro hg) | apply PStb.of); (focus ((conv => whnf); (repeat ((first | refine PNeed.of gA ?_ | refine PLoad.box rfl ?_ | refine PLook.set ?_ | refine PSide.of bA ?_ | refine PSide.of rfl ?_ | refine PRow.one rfl rfl ?_ | refine PRow.none ?_ | refine PLoad.ep rfl ?_ | refine PLen.map ?_ | refine PIndexS.ix OA OA ?_ | refine PIndexA.ix OA OA ?_ | refine PIndexA.lit rfl ?_ | refine PInt.ok OA OA ?_ | refine PDiv.of OA ?_ | refine PSide.of NA ?_ | refine PSliceS.lo OA OA ?_ | refine PSliceL.lo OA OA ?_ | refine PSliceS.hi OA OA ?_ | refine PSliceL.hi OA OA ?_ | refine PCall.pure (sorts_c _ _) (WkT.refl _) ?_ | refine PCall.pure (sorts_c _ _) cA ?_ | refine PCall.pure (counts_c t OA) (WkT.refl _) ?_ | refine PCall.pure (counts_c t OA) cA ?_ | refine PCall.read (number2_c b level consts codes (size + 1) free ok0 bound tk t scope) (WkT.refl _) ?_ | intro _); conv => whnf)); exact And.intro rfl rfl))) | refine PLoad.box rfl ?_ | refine PLook.set ?_ | refine PSide.of bA ?_ | refine PSide.of rfl ?_ | refine PRow.one rfl rfl ?_ | refine PRow.none ?_ | refine PLoad.ep rfl ?_ | refine PLen.map ?_ | refine PIndexS.ix oA oA ?_ | refine PIndexA.ix oA oA ?_ | refine PIndexA.lit rfl ?_ | refine PInt.ok oA oA ?_ | refine PDiv.of oA ?_ | refine PSide.of nA ?_ | refine PSliceS.lo oA oA ?_ | refine PSliceL.lo oA oA ?_ | refine PSliceS.hi oA oA ?_ | refine PSliceL.hi oA oA ?_ | refine PCall.pure (sorts_c _ _) (WkT.refl _) ?_ | refine PCall.pure (sorts_c _ _) cA ?_ | refine PCall.pure (counts_c t OA) (WkT.refl _) ?_ | refine PCall.pure (counts_c t OA) cA ?_ | refine PCall.read (number2_c b level consts codes (size + 1) free ok0 bound tk t scope) (WkT.refl _) ?_ | refine PStore.box rfl rfl rfl ?_ | refine PBytes.mk ?_ | refine PMapPut.set ?_ | refine PMapDel.set ?_ | refine PDraw.at_ (some 19) rfl tt_ok mixed [0, 1, 3, 7, 15, 31, 63, 127, 255, 511, 1023, 2047, 1023, 5119, 13311, 29695, 65535, 131071, 262143, 524287, 1048575, 2097151, 4194303, 8388607, 16777215, 33554431, 33554431, 33554431, 268435455, 536870911, 1073741823] [0, 1, 2, 3, 4, 5, 6, 7, 8, 9, 10, 11, 12, 13, 14, 15, 16, 17, 18, 19, 20, 21, 22, 23, 24, 25, 26, 27] [] [28, 29, 30] [] (by kernel_rfl) ?_ | intro _); conv => whnf)
      exact loopTo (i + 1, s', b', ok2, tk2') ⟨by omega, h1, fun h => ck_next _ (h3 h) k1 hz (by omega), fun h => k2 (h4 h)⟩ (by show t.t.length - (i + 1) < t.t.length - i; omega) wA
end Go.Cb
namespace Go.Cb
open Go.Proofs
set_option maxRecDepth 100000
set_option maxHeartbeats 4000000
structure Prog where
  consts : List Datum
  body : Trm
def Prog.cells (p : Prog) : List PV := .sl 5 (p.consts.map Datum.pv) none :: p.body.cells
def checkD (p : Prog) (level : Int) : Int :=
  if (decide (level < 0) || decide (level > 2)) = true then 1 else
  if (p.consts.all (fun d => d.rightD 0) && (p.body.ckD level p.consts.length 0 false [] 0 0 []).isSome) = true then 0 else 5
theorem check2_c (p : Prog) (level : Int) (hb : p.body.bulk ≤ 1000000000) (hl : p.consts.length ≤ 1000000000) : ACallP Tryz.prog 25 [.agg p.cells, .int .i64 level] (.int .i64 (checkD p level)) := by
  have hs : checkD p level = checkD p level := rfl
  conv at hs => rhs; unfold checkD
  refine ACall.of_body tt_ok Tryz.func25 rfl rfl (n := 34) rfl rfl ?_
  conv => whnf
  repeat ((first | ((first | (apply PGuard.lazy; intro hg) | apply PStb.of); (focus ((conv => whnf); (repeat ((first | refine PNeed.of gA ?_ | refine PLoad.box rfl ?_ | refine PLook.set ?_ | refine PSide.of bA ?_ | refine PSide.of rfl ?_ | refine PRow.one rfl rfl ?_ | refine PRow.none ?_ | refine PLoad.ep rfl ?_ | refine PLen.map ?_ | refine PIndexS.ix OA OA ?_ | refine PIndexA.ix OA OA ?_ | refine PIndexA.lit rfl ?_ | refine PInt.ok OA OA ?_ | refine PDiv.of OA ?_ | refine PSide.of NA ?_ | refine PSliceS.lo OA OA ?_ | refine PSliceL.lo OA OA ?_ | refine PSliceS.hi OA OA ?_ | refine PSliceL.hi OA OA ?_ | refine PCall.pure (constants2_c _) (WkT.refl _) ?_ | refine PCall.pure (constants2_c _) cA ?_ | intro _); conv => whnf)); exact And.intro rfl rfl))) | refine PLoad.box rfl ?_ | refine PLook.set ?_ | refine PSide.of bA ?_ | refine PSide.of rfl ?_ | refine PRow.one rfl rfl ?_ | refine PRow.none ?_ | refine PLoad.ep rfl ?_ | refine PLen.map ?_ | refine PIndexS.ix oA oA ?_ | refine PIndexA.ix oA oA ?_ | refine PIndexA.lit rfl ?_ | refine PInt.ok oA oA ?_ | refine PDiv.of oA ?_ | refine PSide.of nA ?_ | refine PSliceS.lo oA oA ?_ | refine PSliceL.lo oA oA ?_ | refine PSliceS.hi oA oA ?_ | refine PSliceL.hi oA oA ?_ | refine PCall.pure (constants2_c _) (WkT.refl _) ?_ | refine PCall.pure (constants2_c _) cA ?_ | refine PStore.box rfl rfl rfl ?_ | refine PBytes.mk ?_ | refine PMapPut.set ?_ | refine PMapDel.set ?_ | refine PDraw.at_ (some 12) rfl tt_ok mixed [0, 0, 2, 6, 0, 16, 48, 127, 255, 511] [0, 1, 2, 3, 4, 5, 6, 7] [] [8, 9] [] (by kernel_rfl) ?_ | intro _); conv => whnf)
  conv => whnf
  repeat' (first | ((first | ((first | (apply PGuard.lazy; intro hg) | apply PStb.of); (focus ((conv => whnf); (repeat ((first | refine PNeed.of gA ?_ | refine PLoad.box rfl ?_ | refine PLook.set ?_ | refine PSide.of bA ?_ | refine PSide.of rfl ?_ | refine PRow.one rfl rfl ?_ | refine PRow.none ?_ | refine PLoad.ep rfl ?_ | refine PLen.map ?_ | refine PIndexS.ix OA OA ?_ | refine PIndexA.ix OA OA ?_ | refine PIndexA.lit rfl ?_ | refine PInt.ok OA OA ?_ | refine PDiv.of OA ?_ | refine PSide.of NA ?_ | refine PSliceS.lo OA OA ?_ | refine PSliceL.lo OA OA ?_ | refine PSliceS.hi OA OA ?_ | refine PSliceL.hi OA OA ?_ | refine PCall.pure (constants2_c _) (WkT.refl _) ?_ | refine PCall.pure (constants2_c _) cA ?_ | intro _); conv => whnf)); exact And.intro rfl rfl))) | refine PLoad.box rfl ?_ | refine PLook.set ?_ | refine PSide.of bA ?_ | refine PSide.of rfl ?_ | refine PRow.one rfl rfl ?_ | refine PRow.none ?_ | refine PLoad.ep rfl ?_ | refine PLen.map ?_ | refine PIndexS.ix oA oA ?_ | refine PIndexA.ix oA oA ?_ | refine PIndexA.lit rfl ?_ | refine PInt.ok oA oA ?_ | refine PDiv.of oA ?_ | refine PSide.of nA ?_ | refine PSliceS.lo oA oA ?_ | refine PSliceL.lo oA oA ?_ | refine PSliceS.hi oA oA ?_ | refine PSliceL.hi oA oA ?_ | refine PCall.pure (constants2_c _) (WkT.refl _) ?_ | refine PCall.pure (constants2_c _) cA ?_ | refine PStore.box rfl rfl rfl ?_ | refine PBytes.mk ?_ | refine PMapPut.set ?_ | refine PMapDel.set ?_ | refine PDraw.at_ (some 12) rfl tt_ok mixed [0, 0, 2, 6, 0, 16, 48, 127, 255, 511] [0, 1, 2, 3, 4, 5, 6, 7] [] [8, 9] [] (by kernel_rfl) ?_ | intro _ | refine PSeq.go ?_); conv => whnf) | (refine PCond.ways (fun hc => ?_) (fun hc => ?_) <;> (try simp only [SS, not_true_eq_false, not_false_eq_true, false_and, and_false, true_and, and_true, true_or, or_true, false_or, or_false] at hc) <;> first | (exfalso; omega) | (conv => whnf)))
  · rw [hs, if_pos (by simp only [SS]; exact hc)]
    exact PRet.pure (Wk.refl _)
  · rename_i b1 b2
    refine PCall.goG (Ghost.trans (Ghost.nil 1 3 _) (Ghost.box (b := b2) (cs := [.int .i64 level, .int .i64 p.consts.length, .int .i64 0, .bfalse, .int .i64 0, .nil, .bool (p.consts.all fun d => d.rightD 0)]) (cs' := ckC level p.consts.length 0 0 false [] (nilTok 1 3) (p.consts.all fun d => d.rightD 0)) wA))
      (term2_c b2 level p.consts.length 0 false p.body 0 0 [] [] (p.consts.all fun d => d.rightD 0) (nilTok 1 3) rfl (by omega) (by omega) (by omega) (by omega) (by simp; omega) (by simp; omega)) wA ?_
    rintro _ _ ⟨rfl, s', b', tk, ok, h1, rfl, h3, h4⟩
    rw [hc] at h3 h4
    simp only [if_true] at h3 h4
    conv => whnf
    repeat' (first | ((first | ((first | (apply PGuard.lazy; intro hg) | apply PStb.of); (focus ((conv => whnf); (repeat ((first | refine PNeed.of gA ?_ | refine PLoad.box rfl ?_ | refine PLook.set ?_ | refine PSide.of bA ?_ | refine PSide.of rfl ?_ | refine PRow.one rfl rfl ?_ | refine PRow.none ?_ | refine PLoad.ep rfl ?_ | refine PLen.map ?_ | refine PIndexS.ix OA OA ?_ | refine PIndexA.ix OA OA ?_ | refine PIndexA.lit rfl ?_ | refine PInt.ok OA OA ?_ | refine PDiv.of OA ?_ | refine PSide.of NA ?_ | refine PSliceS.lo OA OA ?_ | refine PSliceL.lo OA OA ?_ | refine PSliceS.hi OA OA ?_ | refine PSliceL.hi OA OA ?_ | refine PCall.pure (constants2_c _) (WkT.refl _) ?_ | refine PCall.pure (constants2_c _) cA ?_ | intro _); conv => whnf)); exact And.intro rfl rfl))) | refine PLoad.box rfl ?_ | refine PLook.set ?_ | refine PSide.of bA ?_ | refine PSide.of rfl ?_ | refine PRow.one rfl rfl ?_ | refine PRow.none ?_ | refine PLoad.ep rfl ?_ | refine PLen.map ?_ | refine PIndexS.ix oA oA ?_ | refine PIndexA.ix oA oA ?_ | refine PIndexA.lit rfl ?_ | refine PInt.ok oA oA ?_ | refine PDiv.of oA ?_ | refine PSide.of nA ?_ | refine PSliceS.lo oA oA ?_ | refine PSliceL.lo oA oA ?_ | refine PSliceS.hi oA oA ?_ | refine PSliceL.hi oA oA ?_ | refine PCall.pure (constants2_c _) (WkT.refl _) ?_ | refine PCall.pure (constants2_c _) cA ?_ | refine PStore.box rfl rfl rfl ?_ | refine PBytes.mk ?_ | refine PMapPut.set ?_ | refine PMapDel.set ?_ | refine PDraw.at_ (some 12) rfl tt_ok mixed [0, 0, 2, 6, 0, 16, 48, 127, 255, 511] [0, 1, 2, 3, 4, 5, 6, 7] [] [8, 9] [] (by kernel_rfl) ?_ | intro _ | refine PSeq.go ?_); conv => whnf) | (refine PCond.ways (fun hc => ?_) (fun hc => ?_) <;> (try simp only [SS, not_true_eq_false, not_false_eq_true, false_and, and_false, true_and, and_true, true_or, or_true, false_or, or_false] at hc) <;> first | (exfalso; omega) | (conv => whnf)))
    · rw [hs, if_neg (by simp only [SS]; omega), if_neg (by rw [h4 hc]; simp)]
      exact PRet.pure (Wk.refl _)
    · rw [hs, if_neg (by simp only [SS]; omega), if_pos (by rw [h3 hc]; simp [*])]
      exact PRet.pure (Wk.refl _)
  · rw [hs, if_neg (by simp only [SS]; omega), if_neg (by simp [*])]
    exact PRet.pure (Wk.refl _)
  · rename_i hx; rw [hc] at hx; cases hx
end Go.Cb
namespace Go.Cb
open Go.Proofs
set_option maxRecDepth 100000
set_option maxHeartbeats 4000000
def Dist (l bound : List Int) : Prop := (∀ x ∈ l, 0 ≤ x ∧ x ≤ 1000000 ∧ x ∉ bound) ∧ l.Nodup
theorem Dist.congr {l b c : List Int} (h : ∀ x, x ∈ b ↔ x ∈ c) : Dist l b ↔ Dist l c := by
  unfold Dist
  simp only [h]
theorem Dist.perm {l m b : List Int} (h : l.Perm m) : Dist l b ↔ Dist m b := by
  unfold Dist
  rw [h.nodup_iff]
  simp only [h.mem_iff]
theorem Dist.append {l m b c : List Int} (h : ∀ x, x ∈ c ↔ x ∈ b ∨ x ∈ l) : Dist (l ++ m) b ↔ Dist l b ∧ Dist m c := by
  unfold Dist
  simp only [List.mem_append, List.nodup_append, h]
  constructor
  · rintro ⟨h1, h2, h3, h4⟩
    exact ⟨⟨fun x hx => h1 x (.inl hx), h2⟩, fun x hx => ⟨(h1 x (.inr hx)).1, (h1 x (.inr hx)).2.1, by rintro (h | h); exact (h1 x (.inr hx)).2.2 h; exact h4 x h x hx rfl⟩, h3⟩
  · rintro ⟨⟨h1, h2⟩, h3, h4⟩
    refine ⟨?_, h2, h4, ?_⟩
    · rintro x (hx | hx)
      · exact h1 x hx
      · exact ⟨(h3 x hx).1, (h3 x hx).2.1, fun h => (h3 x hx).2.2 (.inl h)⟩
    · rintro x hx y hy rfl
      exact (h3 x hy).2.2 (.inr hx)
def Sp (r : Option (Int × List Int)) (c : Prop) (n : Int) (V : List Int) (size : Int) (bound : List Int) : Prop :=
  (r = none ∧ ¬(c ∧ size + n ≤ 20000 ∧ Dist V bound)) ∨ (∃ b, r = some (size + n, b) ∧ (c ∧ size + n ≤ 20000 ∧ Dist V bound) ∧ ∀ x, x ∈ b ↔ x ∈ bound ∨ x ∈ V)
theorem Sp.some_iff {r c n V size bound} (h : Sp r c n V size bound) : r.isSome = true ↔ (c ∧ size + n ≤ 20000 ∧ Dist V bound) := by
  rcases h with ⟨rfl, h⟩ | ⟨b, rfl, h, _⟩
  · simpa using h
  · simpa using h
theorem Sp.iff {r c c' n V size bound} (h : Sp r c n V size bound) (hc : c ↔ c') : Sp r c' n V size bound := by
  unfold Sp at h ⊢; rwa [hc] at h
theorem Sp.perm {r c n V W size bound} (h : Sp r c n V size bound) (hp : V.Perm W) : Sp r c n W size bound := by
  unfold Sp at h ⊢; simpa only [Dist.perm hp, hp.mem_iff] using h
theorem Sp.nil {size : Int} {bound : List Int} (h : size ≤ 20000) : Sp (some (size, bound)) True 0 [] size bound :=
  .inr ⟨bound, by simp, ⟨trivial, by omega, by simp [Dist]⟩, by simp⟩
theorem Sp.test {r c n V size bound} {p : Prop} [Decidable p] (h : ¬p → Sp r c n V size bound) : Sp (if p then none else r) (¬p ∧ c) n V size bound := by
  by_cases hp : p
  · rw [if_pos hp]; exact .inl ⟨rfl, fun h => h.1.1 hp⟩
  · rw [if_neg hp]; exact (h hp).iff (by simp [hp])
theorem Sp.seq {r1 : Option (Int × List Int)} {f : Int → List Int → Option (Int × List Int)} {c1 c2 : Prop} {n1 n2 : Int} {V1 V2 : List Int} {size : Int} {bound : List Int} (h1 : Sp r1 c1 n1 V1 size bound) (hn : 0 ≤ n2)
    (h2 : ∀ b, size + n1 ≤ 20000 → Sp (f (size + n1) b) c2 n2 V2 (size + n1) b) : Sp (match (generalizing := false) r1 with | none => none | some (s, b) => f s b) (c1 ∧ c2) (n1 + n2) (V1 ++ V2) size bound := by
  rcases h1 with ⟨rfl, h⟩ | ⟨b, rfl, ⟨k1, k2, k3⟩, hb⟩
  · exact .inl ⟨rfl, fun ⟨⟨g1, g2⟩, g3, g4⟩ => h ⟨g1, by omega, ((Dist.append (c := bound ++ V1) (by simp)).1 g4).1⟩⟩
  · rcases h2 b k2 with ⟨e, h⟩ | ⟨b', e, ⟨g1, g2, g3⟩, hb'⟩
    · exact .inl ⟨e, fun ⟨⟨g1, g2⟩, g3, g4⟩ => h ⟨g2, by omega, ((Dist.append hb).1 g4).2⟩⟩
    · exact .inr ⟨b', by rw [← Int.add_assoc]; exact e, ⟨⟨k1, g1⟩, by omega, (Dist.append hb).2 ⟨k3, g3⟩⟩, fun x => by rw [hb', hb, List.mem_append, or_assoc]⟩
theorem bindR_dist : ∀ (l bound : List Int), (bindR l bound).1 = true ↔ Dist l bound
  | [], bound => by simp [bindR, Dist]
  | v :: l, bound => by
    rw [bindR]
    split
    · rename_i hv
      rw [bindR_dist l, show v :: l = [v] ++ l from rfl, Dist.append (l := [v]) (c := bound ++ [v]) (by simp)]
      simp [vOk] at hv
      simp [Dist]
      intro _ _
      exact ⟨by omega, by omega, hv.2⟩
    · rename_i hv
      simp only [Bool.false_eq_true, false_iff]
      rintro ⟨h, _⟩
      have := h v (by simp)
      apply hv
      simp [vOk]
      exact ⟨by omega, this.2.2⟩
theorem bindR_snd : ∀ (l bound : List Int), (bindR l bound).1 = true → (bindR l bound).2 = bound ++ l
  | [], bound, _ => by simp [bindR]
  | v :: l, bound, h => by
    rw [bindR] at h ⊢
    split at h
    · rename_i hv
      rw [if_pos hv, bindR_snd l _ h]; simp
    · cases h
theorem Sp.bind {v bound : List Int} {size : Int} {r : Option (Int × List Int)} {c : Prop} {n : Int} {V : List Int} (h : (bindR v bound).1 = true → Sp r c n V size (bound ++ v)) : Sp (if (bindR v bound).1 = true then r else none) c n (v ++ V) size bound := by
  have ha : Dist (v ++ V) bound ↔ Dist v bound ∧ Dist V (bound ++ v) := Dist.append (by simp)
  by_cases hb : (bindR v bound).1 = true
  · have hd := (bindR_dist _ _).1 hb
    rw [if_pos hb]
    rcases h hb with ⟨rfl, hh⟩ | ⟨b, rfl, ⟨k1, k2, k3⟩, hm⟩
    · exact .inl ⟨rfl, fun ⟨g1, g2, g3⟩ => hh ⟨g1, g2, (ha.1 g3).2⟩⟩
    · exact .inr ⟨b, rfl, ⟨k1, k2, ha.2 ⟨hd, k3⟩⟩, fun x => by rw [hm, List.mem_append, List.mem_append, or_assoc]⟩
  · rw [if_neg hb]
    exact .inl ⟨rfl, fun ⟨_, _, g3⟩ => hb ((bindR_dist _ _).2 (ha.1 g3).1)⟩
theorem Sp.tick {r c n V size bound} (hn : 0 ≤ n) (h : size + 1 ≤ 20000 → Sp r c n V (size + 1) bound) : Sp (if size + 1 > 20000 then none else r) c (1 + n) V size bound := by
  split
  · exact .inl ⟨rfl, fun ⟨_, h, _⟩ => by omega⟩
  · rcases h (by omega) with ⟨rfl, hh⟩ | ⟨b, rfl, k, hm⟩
    · exact .inl ⟨rfl, fun ⟨g1, g2, g3⟩ => hh ⟨g1, by omega, g3⟩⟩
    · exact .inr ⟨b, by rw [← Int.add_assoc], ⟨k.1, by omega, k.2.2⟩, hm⟩
mutual
def Trm.cnt : Trm → Int
  | .mk _ _ _ t => 1 + Trm.cnts t
def Trm.cnts : List Trm → Int
  | [] => 0
  | x :: xs => Trm.cnt x + Trm.cnts xs
end
mutual
def Trm.vars : Trm → List Int
  | .mk _ _ v t => v ++ Trm.varss t
def Trm.varss : List Trm → List Int
  | [] => []
  | x :: xs => Trm.vars x ++ Trm.varss xs
end
theorem Trm.cnt_eq (t : Trm) : t.cnt = 1 + Trm.cnts t.t := by cases t; rfl
theorem Trm.vars_eq (t : Trm) : t.vars = t.v ++ Trm.varss t.t := by cases t; rfl
theorem Trm.cnt_pos (t : Trm) : 1 ≤ t.cnt := by
  induction t using Trm.ind with
  | h t ih =>
    rw [Trm.cnt_eq]
    have : ∀ l : List Trm, (∀ x ∈ l, 1 ≤ x.cnt) → 0 ≤ Trm.cnts l := by
      intro l
      induction l with
      | nil => intro _; rw [Trm.cnts]; omega
      | cons y l ih => intro h; rw [Trm.cnts]; have := h y (by simp); have := ih fun x hx => h x (by simp [hx]); omega
    have := this t.t ih
    omega
theorem Trm.cnts_pos : ∀ l : List Trm, 0 ≤ Trm.cnts l
  | [] => by rw [Trm.cnts]; omega
  | x :: l => by rw [Trm.cnts]; have := x.cnt_pos; have := Trm.cnts_pos l; omega
mutual
def Trm.okT (level consts codes : Int) (free : Bool) : Trm → List Int → Int → Prop
  | .mk op n v t, scope, deep => (deep ≤ 400 ∧ sortsL op level = true ∧ countsL (.mk op n v t) = true ∧ numberL consts codes free (.mk op n v t) scope = true) ∧ Trm.okTs level consts codes free op scope (scope ++ v) t (deep + 1)
def Trm.okTs (level consts codes : Int) (free : Bool) (op : Int) (scope inner : List Int) : List Trm → Int → Prop
  | [], _ => True
  | x :: xs, deep => (¬(op = 9 ∧ xs ≠ [] ∧ x.op ≠ wantOp level)) ∧ Trm.okT level consts codes free x (if xs = [] ∨ op = 7 ∨ op = 9 then inner else scope) deep ∧ Trm.okTs level consts codes free op scope inner xs deep
end
theorem Trm.okT_eq (level consts codes : Int) (free : Bool) (t : Trm) (scope : List Int) (deep : Int) : t.okT level consts codes free scope deep ↔
    (deep ≤ 400 ∧ sortsL t.op level = true ∧ countsL t = true ∧ numberL consts codes free t scope = true) ∧ Trm.okTs level consts codes free t.op scope (scope ++ t.v) t.t (deep + 1) := by cases t; rw [Trm.okT]; rfl
theorem Trm.ckD_sp (level consts codes : Int) (free : Bool) (t : Trm) : ∀ (scope : List Int) (deep size : Int) (bound : List Int), Sp (t.ckD level consts codes free scope deep size bound) (t.okT level consts codes free scope deep) t.cnt t.vars size bound := by
  induction t using Trm.ind with
  | h t ih =>
    intro scope deep size bound
    have key : ∀ l : List Trm, (∀ y ∈ l, ∀ (scope : List Int) (deep size : Int) (bound : List Int), Sp (y.ckD level consts codes free scope deep size bound) (y.okT level consts codes free scope deep) y.cnt y.vars size bound) →
        ∀ (deep size : Int) (bound : List Int), size ≤ 20000 → Sp (Trm.cksD level consts codes free t.op scope (scope ++ t.v) l deep size bound) (Trm.okTs level consts codes free t.op scope (scope ++ t.v) l deep) (Trm.cnts l) (Trm.varss l) size bound := by
      intro l
      induction l with
      | nil => intro _ deep size bound h; rw [Trm.cksD, Trm.okTs, Trm.cnts, Trm.varss]; exact Sp.nil h
      | cons x l ihl =>
        intro hy deep size bound h
        rw [Trm.cksD, Trm.okTs, Trm.cnts, Trm.varss]
        exact Sp.test fun _ => Sp.seq (hy x (by simp) _ _ _ _) (Trm.cnts_pos l) fun b hb => ihl (fun y hh => hy y (by simp [hh])) _ _ _ hb
    rw [Trm.ckD_eq, Trm.cnt_eq, Trm.vars_eq, Trm.okT_eq]
    have h1 : (if (decide (deep > 400) || decide (size + 1 > 20000) || !sortsL t.op level || !countsL t || !numberL consts codes free t scope) = true then none else
        if (bindR t.v bound).1 = true then Trm.cksD level consts codes free t.op scope (scope ++ t.v) t.t (deep + 1) (size + 1) (bindR t.v bound).2 else none) =
        (if ¬(deep ≤ 400 ∧ sortsL t.op level = true ∧ countsL t = true ∧ numberL consts codes free t scope = true) then none else if size + 1 > 20000 then none else
        if (bindR t.v bound).1 = true then Trm.cksD level consts codes free t.op scope (scope ++ t.v) t.t (deep + 1) (size + 1) (bound ++ t.v) else none) := by
      by_cases a : deep ≤ 400 ∧ sortsL t.op level = true ∧ countsL t = true ∧ numberL consts codes free t scope = true
      · rw [if_neg (c := ¬ _) (by simpa using a)]
        by_cases b : size + 1 > 20000
        · rw [if_pos b, if_pos (by simp [b])]
        · rw [if_neg b, if_neg (by simp [a]; omega)]
          split
          · rename_i hb; rw [bindR_snd _ _ hb]
          · rfl
      · rw [if_pos (c := ¬ _) a, if_pos]
        simp only [Bool.or_eq_true, decide_eq_true_eq, Bool.not_eq_true']
        apply Classical.byContradiction
        intro h
        apply a
        simp only [not_or, Bool.not_eq_false] at h
        exact ⟨by omega, h.1.1.2, h.1.2, h.2⟩
    rw [h1]
    refine (Sp.test fun _ => Sp.tick (Trm.cnts_pos _) fun hs => Sp.bind fun _ => key t.t ih _ _ _ hs).iff ?_
    rw [Classical.not_not]
theorem numberP_eq (consts codes : Int) (free : Bool) (t : Trm) (scope : List Int) : numberP consts codes free t scope = numberL consts codes free t scope := by
  unfold numberP numberL
  split; rfl
  split; rfl
  split
  · rw [Bool.eq_iff_iff]; simp; omega
  · rfl
theorem shape_eq (level : Int) (h0 : 0 ≤ level) (h3 : level ≤ 3) (t : Trm) :
    ((shapeL t.op).2 = true ∧ (shapeL t.op).1.fm ≤ level ∧ level ≤ (shapeL t.op).1.to ∧ fitsL (shapeL t.op).1 t = true) ↔ (sortsL t.op level = true ∧ countsL t = true) := by
  have hc : t.op < 0 ∨ t.op > 22 ∨ t.op = 0 ∨ t.op = 1 ∨ t.op = 2 ∨ t.op = 3 ∨ t.op = 4 ∨ t.op = 5 ∨ t.op = 6 ∨ t.op = 7 ∨ t.op = 8 ∨ t.op = 9 ∨ t.op = 10 ∨ t.op = 11 ∨ t.op = 12 ∨ t.op = 13 ∨ t.op = 14 ∨ t.op = 15 ∨ t.op = 16 ∨ t.op = 17 ∨ t.op = 18 ∨ t.op = 19 ∨ t.op = 20 ∨ t.op = 21 ∨ t.op = 22 := by omega
  rcases hc with h | h | h | h | h | h | h | h | h | h | h | h | h | h | h | h | h | h | h | h | h | h | h | h | h
  · have e : shapeL t.op = (⟨0, 0, 0, false, false⟩, false) := by unfold shapeL; repeat rw [if_neg (by omega)]
    have e2 : sortsL t.op level = false := by unfold sortsL; repeat rw [if_neg (by omega)]
    simp [e, e2]
  · have e : shapeL t.op = (⟨0, 0, 0, false, false⟩, false) := by unfold shapeL; repeat rw [if_neg (by omega)]
    have e2 : sortsL t.op level = false := by unfold sortsL; repeat rw [if_neg (by omega)]
    simp [e, e2]
  all_goals
    simp [shapeL, sortsL, countsL, fitsL, bindsB, h]
    try (first | omega | (simp only [← List.length_eq_zero_iff]; omega))
def Trm.okG (level consts codes : Int) (free : Bool) (inner : List Int) : List Trm → Int → Prop
  | [], _ => True
  | x :: xs, deep => Trm.okT level consts codes free x inner deep ∧ Trm.okG level consts codes free inner xs deep
theorem Trm.okTs_G {level consts codes : Int} {free : Bool} {op : Int} (hop : op = 7 ∨ op = 9) (scope inner : List Int) (deep : Int) : ∀ l : List Trm, Trm.okTs level consts codes free op scope inner l deep ↔ (¬((op == 9 && !procsL level l.dropLast) = true) ∧ Trm.okG level consts codes free inner l deep)
  | [] => by simp [Trm.okTs, Trm.okG, procsL]
  | [x] => by
    rw [Trm.okTs, Trm.okG, if_pos (.inl rfl)]
    simp [Trm.okTs, Trm.okG, procsL]
  | x :: y :: l => by
    rw [Trm.okTs, Trm.okG, if_pos (.inr hop), Trm.okTs_G hop scope inner deep (y :: l)]
    have e : (op == 9 && !procsL level (x :: y :: l).dropLast) = true ↔ (op = 9 ∧ x.op ≠ wantOp level) ∨ (op == 9 && !procsL level (y :: l).dropLast) = true := by
      rw [show (x :: y :: l).dropLast = x :: (y :: l).dropLast from rfl]
      simp only [procsL, wantOp, Bool.and_eq_true, beq_iff_eq, List.any_cons, Bool.not_not, Bool.or_eq_true, bne_iff_ne]
      constructor
      · rintro ⟨h1, h2 | h2⟩
        · exact .inl ⟨h1, h2⟩
        · exact .inr ⟨h1, h2⟩
      · rintro (⟨h1, h2⟩ | ⟨h1, h2⟩)
        · exact ⟨h1, .inl h2⟩
        · exact ⟨h1, .inr h2⟩
    rw [e]
    constructor
    · rintro ⟨h1, h2, h3, h4⟩
      exact ⟨fun h => h.elim (fun h => h1 ⟨h.1, by simp, h.2⟩) h3, h2, h4⟩
    · rintro ⟨h1, h2, h4⟩
      exact ⟨fun h => h1 (.inl ⟨h.1, h.2.2⟩), h2, fun h => h1 (.inr h), h4⟩
theorem Trm.ckP_sp (level consts codes : Int) (free : Bool) (h0 : 0 ≤ level) (h3 : level ≤ 3) (t : Trm) : ∀ (scope : List Int) (deep size : Int) (bound : List Int), Sp (t.ckP level consts codes free scope deep size bound) (t.okT level consts codes free scope deep) t.cnt t.vars size bound := by
  induction t using Trm.ind with
  | h t ih =>
    intro scope deep size bound
    have keyG : ∀ l : List Trm, (∀ y ∈ l, ∀ (scope : List Int) (deep size : Int) (bound : List Int), Sp (y.ckP level consts codes free scope deep size bound) (y.okT level consts codes free scope deep) y.cnt y.vars size bound) →
        ∀ (inner : List Int) (deep size : Int) (bound : List Int), size ≤ 20000 → Sp (Trm.cksG level consts codes free inner l deep size bound) (Trm.okG level consts codes free inner l deep) (Trm.cnts l) (Trm.varss l) size bound := by
      intro l
      induction l with
      | nil => intro _ inner deep size bound h; rw [Trm.cksG, Trm.okG, Trm.cnts, Trm.varss]; exact Sp.nil h
      | cons x l ihl =>
        intro hy inner deep size bound h
        rw [Trm.cksG, Trm.okG, Trm.cnts, Trm.varss]
        exact Sp.seq (hy x (by simp) _ _ _ _) (Trm.cnts_pos l) fun b hb => ihl (fun y hh => hy y (by simp [hh])) _ _ _ _ hb
    have keyI : t.op ≠ 7 → t.op ≠ 9 → ∀ l : List Trm, (∀ y ∈ l, ∀ (scope : List Int) (deep size : Int) (bound : List Int), Sp (y.ckP level consts codes free scope deep size bound) (y.okT level consts codes free scope deep) y.cnt y.vars size bound) →
        ∀ (deep size : Int) (bound : List Int), size ≤ 20000 → Sp (Trm.cksI level consts codes free scope t.v l deep size bound) (Trm.okTs level consts codes free t.op scope (scope ++ t.v) l deep) (Trm.cnts l) (t.v ++ Trm.varss l) size bound := by
      intro h7 h9 l
      induction l with
      | nil => intro _ deep size bound h; rw [Trm.cksI, Trm.okTs, Trm.cnts, Trm.varss]; exact Sp.bind fun _ => Sp.nil h
      | cons x l ihl =>
        intro hy deep size bound h
        rw [Trm.cksI, Trm.okTs, Trm.cnts, Trm.varss]
        cases l with
        | nil =>
          rw [if_pos (show ([] : List Trm).isEmpty = true from rfl), if_pos (show ([] : List Trm) = [] ∨ t.op = 7 ∨ t.op = 9 from .inl rfl), Trm.cnts, Trm.varss, List.append_nil, Int.add_zero]
          exact (Sp.bind fun _ => hy x (by simp) _ _ _ _).iff (by simp [h9, Trm.okTs])
        | cons y l =>
          rw [if_neg (show ¬((y :: l).isEmpty = true) by simp), if_neg (show ¬((y :: l) = [] ∨ t.op = 7 ∨ t.op = 9) by simp [h7, h9])]
          refine ((Sp.seq (hy x (by simp) _ _ _ _) (Trm.cnts_pos (y :: l)) fun b hb => ihl (fun y hh => hy y (by simp [hh])) _ _ _ hb).iff (by simp [h9])).perm ?_
          rw [← List.append_assoc, ← List.append_assoc]
          exact List.perm_append_comm.append_right _
    rw [Trm.ckP_eq, Trm.cnt_eq, Trm.vars_eq, Trm.okT_eq]
    have hsh := shape_eq level h0 h3 t
    have hloc : (deep ≤ 400 ∧ sortsL t.op level = true ∧ countsL t = true ∧ numberL consts codes free t scope = true) ↔ (deep ≤ 400 ∧ ((shapeL t.op).2 = true ∧ (shapeL t.op).1.fm ≤ level ∧ level ≤ (shapeL t.op).1.to ∧ fitsL (shapeL t.op).1 t = true) ∧ numberP consts codes free t scope = true) := by
      rw [hsh, numberP_eq, and_assoc]
    have hb : ∀ r : Option (Int × List Int), (if badP level consts codes free t scope deep (size + 1) = true then none else r) =
        (if ¬(deep ≤ 400 ∧ sortsL t.op level = true ∧ countsL t = true ∧ numberL consts codes free t scope = true) then none else if size + 1 > 20000 then none else r) := by
      intro r
      by_cases a : deep ≤ 400 ∧ sortsL t.op level = true ∧ countsL t = true ∧ numberL consts codes free t scope = true
      · rw [if_neg (c := ¬ _) (by simpa using a)]
        have a' := hloc.1 a
        by_cases b : size + 1 > 20000
        · rw [if_pos b, if_pos (by simp [badP, b])]
        · rw [if_neg b, if_neg (by simp [badP, a']; omega)]
      · rw [if_pos (c := ¬ _) a, if_pos]
        simp only [badP, Bool.or_eq_true, decide_eq_true_eq, Bool.not_eq_true']
        apply Classical.byContradiction
        intro h
        apply a
        rw [hloc]
        simp only [not_or, Bool.not_eq_false] at h
        exact ⟨by omega, ⟨h.1.1.1.1.1.1, by omega, by omega, h.1.2⟩, h.2⟩
    rw [hb]
    by_cases hg : groupB t.op = true
    · have hop : t.op = 7 ∨ t.op = 9 := by simpa [groupB] using hg
      rw [if_pos hg]
      refine (Sp.test fun _ => Sp.tick (Trm.cnts_pos _) fun hs => Sp.test fun _ => Sp.bind fun _ => keyG t.t ih _ _ _ _ hs).iff ?_
      rw [Classical.not_not, Trm.okTs_G hop]
    · have hop : t.op ≠ 7 ∧ t.op ≠ 9 := by simpa [groupB] using hg
      rw [if_neg hg]
      refine (Sp.test fun _ => Sp.tick (Trm.cnts_pos _) fun hs => keyI hop.1 hop.2 t.t ih _ _ _ hs).iff ?_
      rw [Classical.not_not]
theorem ck_eq (level consts codes : Int) (free : Bool) (h0 : 0 ≤ level) (h3 : level ≤ 3) (t : Trm) (scope : List Int) (deep size : Int) (bound : List Int) :
    (t.ckP level consts codes free scope deep size bound).isSome = (t.ckD level consts codes free scope deep size bound).isSome := by
  rw [Bool.eq_iff_iff, (t.ckP_sp level consts codes free h0 h3 scope deep size bound).some_iff, (t.ckD_sp level consts codes free scope deep size bound).some_iff]
end Go.Cb
namespace Go.Cb
open Go.Proofs
set_option maxRecDepth 100000
set_option maxHeartbeats 4000000
theorem digN_all {a : List UInt8} (r : List UInt8) (h : a.all isDig = true) : digN (a ++ r) = a.length + digN r := by
  induction a with
  | nil => simp
  | cons c a ih =>
    simp only [List.all_cons, Bool.and_eq_true] at h
    rw [List.cons_append, digN, if_pos h.1, ih h.2, List.length_cons]; omega
theorem digN_not {a : List UInt8} (r : List UInt8) (h : a.all isDig = false) : ∃ c, a[digN (a ++ r)]? = some c ∧ isDig c = false ∧ digN (a ++ r) < a.length := by
  induction a with
  | nil => simp at h
  | cons c a ih =>
    rw [List.cons_append, digN]
    by_cases hc : isDig c = true
    · rw [List.all_cons, hc, Bool.true_and] at h
      obtain ⟨x, h1, h2, h3⟩ := ih h
      rw [if_pos hc]
      exact ⟨x, by simpa using h1, h2, by simp; exact h3⟩
    · rw [if_neg hc]
      exact ⟨c, by simp, by simpa using hc, by simp⟩
theorem natB_part (a : List UInt8) : natB a = true ↔ ((partN a).2 ≠ 0 ∧ (partN a).2 = a.length) := by
  unfold natB partN
  cases h : a.all isDig
  · obtain ⟨c, h1, h2, h3⟩ := digN_not [] h
    rw [List.append_nil] at h3
    simp only [Bool.and_false, Bool.false_eq_true, false_iff]
    split
    · simp
    · rintro ⟨_, h⟩; simp only at h; omega
  · have hd := digN_all [] h
    rw [List.append_nil] at hd
    simp only [digN] at hd
    simp only [Bool.and_true, Bool.and_eq_true, decide_eq_true_eq]
    split
    · simp; omega
    · simp; omega
theorem natV_part {a : List UInt8} (h : natB a = true) : natV a = (partN a).1 := by
  have h2 := (natB_part a).1 h
  unfold natV
  rw [if_pos h]
  unfold partN at h2 ⊢
  split at h2
  · simp at h2
  · rename_i hd
    rw [if_neg hd]
    simp only at h2
    rw [h2.2, List.take_length]
theorem cut_cases (u : List UInt8) : (Go.Lib.indexByte u 47 < 0 ∧ cutA u 47 = u ∧ (47 : UInt8) ∉ u) ∨ (∃ a b, u = a ++ 47 :: b ∧ 0 ≤ Go.Lib.indexByte u 47 ∧ cutA u 47 = a ∧ cutB u 47 = b ∧ (47 : UInt8) ∉ a) := by
  induction u with
  | nil => left; simp [Go.Lib.indexByte, cutA]
  | cons c u ih =>
    by_cases h : c = 47
    · subst h
      right
      have e : Go.Lib.indexByte (47 :: u) 47 = 0 := by simp [Go.Lib.indexByte]
      exact ⟨[], u, rfl, by omega, by simp [cutA, e], by simp [cutB, e], by simp⟩
    · have h1 : (c == 47) = false := by simp [h]
      rcases ih with ⟨h2, h3, h4⟩ | ⟨a, b, rfl, h2, h3, h4, h5⟩
      · have e : Go.Lib.indexByte (c :: u) 47 = -1 := by have := Go.Lib.indexByte_ge u 47; rw [Go.Lib.indexByte, h1]; simp; omega
        exact .inl ⟨by omega, by simp [cutA, e], by simp; exact ⟨fun e => h e.symm, h4⟩⟩
      · have e : Go.Lib.indexByte (c :: (a ++ 47 :: b)) 47 = Go.Lib.indexByte (a ++ 47 :: b) 47 + 1 := by rw [Go.Lib.indexByte, h1]; simp; omega
        refine .inr ⟨c :: a, b, rfl, by omega, ?_, ?_, by simp; exact ⟨fun e => h e.symm, h5⟩⟩
        · unfold cutA at h3 ⊢
          rw [if_pos h2] at h3
          rw [if_pos (by omega), e, show (Go.Lib.indexByte (a ++ 47 :: b) 47 + 1).toNat = (Go.Lib.indexByte (a ++ 47 :: b) 47).toNat + 1 by omega, List.take_succ_cons, h3]
        · unfold cutB at h4 ⊢
          rw [if_pos h2] at h4
          rw [if_pos (by omega), e, show (Go.Lib.indexByte (a ++ 47 :: b) 47 + 1).toNat = (Go.Lib.indexByte (a ++ 47 :: b) 47).toNat + 1 by omega, List.drop_succ_cons, h4]
theorem isDig47 : isDig 47 = false := by decide
theorem parse_eq (s : List UInt8) : parseP s = parseN s := by
  have hu : (if negB s = true then s.drop 1 else s) = unneg s := rfl
  unfold parseP
  simp only [hu]
  rw [parseN_eq]
  generalize unneg s = u
  rcases cut_cases u with ⟨hi, ha, hn⟩ | ⟨a, b, rfl, hi, ha, hb, hn⟩
  · rw [ha, if_neg (show ¬(0 ≤ Go.Lib.indexByte u 47) by omega)]
    have h49 : natB [49] = true := by decide
    have h49v : natV [49] = 1 := by decide
    rw [h49, h49v, Bool.and_true]
    cases hall : u.all isDig
    · obtain ⟨c, h1, h2, h3⟩ := digN_not [] hall
      rw [List.append_nil] at h1 h3
      have hnb : natB u = false := by unfold natB; rw [hall]; simp
      rw [hnb]
      simp only [Bool.false_eq_true, if_false]
      unfold partN
      split
      · rfl
      · rename_i h10
        simp only
        split
        · rfl
        · have : lowerN u (digN u) = none := by
            unfold lowerN
            rw [if_pos h3, if_neg]
            rintro ⟨h, _⟩
            rw [h1] at h
            cases h
            exact hn (List.mem_of_getElem? h1)
          rw [this]
    · have hd := digN_all [] hall
      rw [List.append_nil] at hd
      simp only [digN, Nat.add_zero] at hd
      by_cases hnb : natB u = true
      · have hp := (natB_part u).1 hnb
        rw [hnb, if_pos rfl, if_neg hp.1, natV_part hnb]
        have : lowerN u (partN u).2 = some 1 := by unfold lowerN; rw [if_neg (by omega)]
        rw [this]
      · have : (partN u).2 = 0 := by
          have := mt (natB_part u).2 hnb
          unfold partN at this ⊢
          split at this
          · rename_i h; rw [if_pos h]
          · rename_i h; rw [if_neg h]; simp only at this ⊢; omega
        rw [if_neg hnb, if_pos this]
  · rw [ha, hb, if_pos hi]
    have h47 : digN (47 :: b) = 0 := by rw [digN, isDig47]; rfl
    cases hall : a.all isDig
    · obtain ⟨c, h1, h2, h3⟩ := digN_not (47 :: b) hall
      have hnb : natB a = false := by unfold natB; rw [hall]; simp
      rw [hnb]
      simp only [Bool.false_and, Bool.false_eq_true, if_false]
      unfold partN
      split
      · rfl
      · simp only
        split
        · rfl
        · have : lowerN (a ++ 47 :: b) (digN (a ++ 47 :: b)) = none := by
            unfold lowerN
            rw [if_pos (by simp; omega), if_neg]
            rintro ⟨h, _⟩
            rw [List.getElem?_append_left h3, h1] at h
            cases h
            exact hn (List.mem_of_getElem? h1)
          rw [this]
    · have hd := digN_all (47 :: b) hall
      rw [h47, Nat.add_zero] at hd
      by_cases hnb : natB a = true
      · have hp := (natB_part a).1 hnb
        have hl : 1 ≤ a.length ∧ a.length ≤ 10 := by
          unfold natB at hnb; simp only [Bool.and_eq_true, decide_eq_true_eq] at hnb; exact ⟨hnb.1, hnb.2.1⟩
        have hpu : partN (a ++ 47 :: b) = (natV a, a.length) := by
          unfold partN natV
          rw [hd, if_neg (by omega), if_pos hnb, List.take_left]
        rw [hpu]
        simp only
        rw [if_neg (show ¬(a.length = 0) by omega), hnb, Bool.true_and]
        have hlo : lowerN (a ++ 47 :: b) a.length = if natB b = true then some (natV b) else none := by
          unfold lowerN
          rw [if_pos (by simp)]
          have e1 : (a ++ 47 :: b)[a.length]? = some 47 := by simp
          have e2 : (a ++ 47 :: b).drop (a.length + 1) = b := by rw [List.drop_append]; simp
          rw [e1, e2]
          by_cases hb' : natB b = true
          · have := (natB_part b).1 hb'
            rw [if_pos hb', natV_part hb', if_pos ⟨rfl, this.1, by simp; omega⟩]
          · rw [if_neg hb', if_neg]
            rintro ⟨_, g1, g2⟩
            exact hb' ((natB_part b).2 ⟨g1, by simp at g2; omega⟩)
        rw [hlo]
        by_cases hb' : natB b = true
        · rw [if_pos hb', if_pos hb']
        · rw [if_neg hb', if_neg hb']
      · have : (partN (a ++ 47 :: b)).2 = 0 := by
          unfold partN
          rw [hd]
          split
          · rfl
          · simp only
            unfold natB at hnb
            rw [hall] at hnb
            simp only [Bool.and_true, Bool.and_eq_true, decide_eq_true_eq] at hnb
            omega
        rw [if_pos this, show natB a = false by simpa using hnb]
        rfl
theorem marks_eq : marksPL.contains = markB := by
  funext c
  simp only [markB, baseB, marksL, marksPL, List.contains_cons, List.contains_nil, Bool.or_false]
  rw [Bool.eq_iff_iff]
  simp only [Bool.or_eq_true, beq_iff_eq, Bool.and_eq_true, decide_eq_true_eq, ← UInt8.toNat_inj]
  simp
  omega
theorem name_eq (s : List UInt8) : namePB s = nameB s := by
  unfold namePB nameB
  rw [parse_eq, marks_eq]
  have ht : ((trimR markB s).dropWhile markB == []) = s.all markB := by
    rw [Bool.eq_iff_iff, beq_iff_eq, trim_nil]
  rw [ht]
  by_cases hs : s = []
  · subst hs; simp
  · have hl := List.length_pos_iff.2 hs
    cases s.all markB <;> cases (parseN s).2.2 <;> rw [Bool.eq_iff_iff] <;> simp [hs] <;> omega
theorem name_str {s : List UInt8} (h : nameB s = true) : s.any strB = false := by
  simp only [nameB, Bool.and_eq_true] at h
  rw [List.any_eq_false]
  intro c hc
  have hm := List.all_eq_true.1 h.2.2.1 c hc
  rw [← marks_eq] at hm
  simp only [marksPL, List.contains_cons, List.contains_nil, Bool.or_false, Bool.or_eq_true, beq_iff_eq, ← UInt8.toNat_inj] at hm
  simp only [strB, Bool.or_eq_true, decide_eq_true_eq]
  simp at hm ⊢
  omega
theorem bare_eq (d : Datum) (deep : Int) : bareBadP d deep = bareBad d deep := by
  obtain ⟨k, n, e, s, l⟩ := d
  have hn := name_eq s
  have hs := @name_str s
  have hz : s = [] → s.any strB = false := fun h => by rw [h]; rfl
  unfold bareBadP bareBad
  simp only [Datum.kind, Datum.n, Datum.d, Datum.s, Datum.l, bareL]
  generalize s.any strB = B at *
  have hc : k < 0 ∨ k > 7 ∨ k = 0 ∨ k = 1 ∨ k = 2 ∨ k = 3 ∨ k = 4 ∨ k = 5 ∨ k = 6 ∨ k = 7 := by omega
  rcases hc with h | h | h | h | h | h | h | h | h | h
  · simp [h, show ¬k = 0 by omega, show ¬k = 1 by omega, show ¬k = 2 by omega, show ¬k = 3 by omega, show ¬k = 4 by omega, show ¬k = 5 by omega, show ¬k = 6 by omega, show ¬k = 7 by omega]
  · simp [h, show ¬k = 0 by omega, show ¬k = 1 by omega, show ¬k = 2 by omega, show ¬k = 3 by omega, show ¬k = 4 by omega, show ¬k = 5 by omega, show ¬k = 6 by omega, show ¬k = 7 by omega]
  all_goals
    subst h
    rw [Bool.eq_iff_iff]
    simp
    grind
theorem right_eq (d : Datum) : ∀ deep : Int, d.rightP deep = d.rightD deep := by
  induction d using Datum.ind with
  | h d ih =>
    intro deep
    rw [Datum.rightP_eq, Datum.rightD_eq, bare_eq]
    congr 1
    have : ∀ l : List Datum, (∀ y ∈ l, ∀ deep : Int, y.rightP deep = y.rightD deep) → ∀ deep, Datum.rightPs l deep = Datum.rightDs l deep := by
      intro l
      induction l with
      | nil => intro _ deep; rw [Datum.rightPs, Datum.rightDs]
      | cons x l ihl => intro hy deep; rw [Datum.rightPs, Datum.rightDs, hy x (by simp), ihl fun y h => hy y (by simp [h])]
    exact this d.l ih _
end Go.Cb
