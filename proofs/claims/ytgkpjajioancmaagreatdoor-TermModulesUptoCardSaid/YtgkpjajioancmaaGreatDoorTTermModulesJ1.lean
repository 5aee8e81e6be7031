/-
  Modules: the check of their codes, and that both answers are alike.
  Contracts: the document's check of modules.
  Contracts: the program's check of modules.
  Contracts: the document's words for modules.
  A module, read.
  TermModules returns true for every input where what it reads is of bulk at most 1048576; the arguments read behind the call as before. Conditions: those of the given card.
-/
import Derived.SevenTiedAt
import Derived.Test.YtgkpjajioancmaaGreatDoorCards
import Derived.Test.YtgkpjajioancmaaGreatDoorTie
import Derived.Test.YtgkpjajioancmaaGreatDoorC6
set_option linter.unusedSimpArgs false
set_option linter.unusedVariables false
namespace Go.Cb
open Go.Proofs
set_option maxRecDepth 100000
set_option maxHeartbeats 4000000
structure Cod where
  v : List Int
  rest : Bool
  body : Trm
def Cod.cells (c : Cod) : List PV := .sl 1 (c.v.map (PV.int .i64)) none :: .bool c.rest :: c.body.cells
def Cod.pv (c : Cod) : PV := .agg c.cells
instance : CellsOf Cod.pv Cod.cells := ⟨fun _ => rfl⟩
structure Mdl where
  consts : List Datum
  codes : List Cod
  body : Trm
def Mdl.cells (m : Mdl) : List PV := .sl 5 (m.consts.map Datum.pv) none :: .sl 6 (m.codes.map Cod.pv) none :: m.body.cells
def Cod.bulk (c : Cod) : Nat := c.v.length + c.body.bulk
def codsBulk : List Cod → Nat
  | [] => 0
  | x :: l => x.bulk + codsBulk l
theorem codsBulk_mem {x : Cod} : ∀ {l : List Cod}, x ∈ l → x.bulk ≤ codsBulk l
  | [], h => by cases h
  | y :: l, h => by
    rw [codsBulk]
    rcases List.mem_cons.1 h with rfl | h
    · omega
    · have := codsBulk_mem h; omega
def modD (consts codes : Int) : List Cod → Int → List Int → Option (Int × List Int)
  | [], size, bound => some (size, bound)
  | x :: xs, size, bound => if (bindR x.v bound).1 = true then if x.rest = true ∧ x.v = [] then none else match x.body.ckD 3 consts codes true x.v 0 size (bindR x.v bound).2 with
    | none => none
    | some (s, b) => modD consts codes xs s b
    else none
def modP (consts codes : Int) : List Cod → Int → List Int → Option (Int × List Int)
  | [], size, bound => some (size, bound)
  | x :: xs, size, bound => if x.rest = true ∧ x.v = [] then none else if (bindR x.v bound).1 = true then match x.body.ckP 3 consts codes true x.v 0 size (bound ++ x.v) with
    | none => none
    | some (s, b) => modP consts codes xs s b
    else none
def modOk (consts codes : Int) : List Cod → Prop
  | [] => True
  | x :: xs => ¬(x.rest = true ∧ x.v = []) ∧ x.body.okT 3 consts codes true x.v 0 ∧ modOk consts codes xs
def modCnt : List Cod → Int
  | [] => 0
  | x :: xs => x.body.cnt + modCnt xs
def modVars : List Cod → List Int
  | [] => []
  | x :: xs => x.v ++ (x.body.vars ++ modVars xs)
theorem modCnt_pos : ∀ l : List Cod, 0 ≤ modCnt l
  | [] => by simp [modCnt]
  | x :: l => by rw [modCnt]; have := x.body.cnt_pos; have := modCnt_pos l; omega
theorem modP_sp (consts codes : Int) : ∀ (l : List Cod) (size : Int) (bound : List Int), size ≤ 20000 → Sp (modP consts codes l size bound) (modOk consts codes l) (modCnt l) (modVars l) size bound
  | [], size, bound, h => by rw [modP, modOk, modCnt, modVars]; exact Sp.nil h
  | x :: l, size, bound, h => by
    rw [modP, modOk, modCnt, modVars]
    exact Sp.test fun _ => Sp.bind fun _ => Sp.seq (x.body.ckP_sp 3 consts codes true (by omega) (by omega) _ _ _ _) (modCnt_pos l) fun b hb => modP_sp consts codes l _ _ hb
theorem modD_sp (consts codes : Int) : ∀ (l : List Cod) (size : Int) (bound : List Int), size ≤ 20000 → Sp (modD consts codes l size bound) (modOk consts codes l) (modCnt l) (modVars l) size bound
  | [], size, bound, h => by rw [modD, modOk, modCnt, modVars]; exact Sp.nil h
  | x :: l, size, bound, h => by
    rw [modD, modOk, modCnt, modVars]
    refine Sp.bind fun hb => ?_
    rw [bindR_snd _ _ hb]
    exact Sp.test fun _ => Sp.seq (x.body.ckD_sp 3 consts codes true _ _ _ _) (modCnt_pos l) fun b hb => modD_sp consts codes l _ _ hb
def okO (r : Option (Int × List Int)) (f : Int → List Int → Option (Int × List Int)) : Option (Int × List Int) := match (generalizing := false) r with
  | none => none
  | some (s, b) => f s b
def mckD (m : Mdl) : Int := if (m.consts.all (fun d => d.rightD 0) && (okO (m.body.ckD 3 m.consts.length m.codes.length false [] 0 0 []) (modD m.consts.length m.codes.length m.codes)).isSome) = true then 0 else 5
def mckP (m : Mdl) : Int := if (m.consts.all (fun d => d.rightP 0) && (okO (m.body.ckP 3 m.consts.length m.codes.length false [] 0 0 []) (modP m.consts.length m.codes.length m.codes)).isSome) = true then 0 else 5
theorem mck_eq (m : Mdl) : mckP m = mckD m := by
  unfold mckP mckD
  have hr : (fun d : Datum => d.rightP 0) = fun d => d.rightD 0 := by funext d; exact right_eq d 0
  have h1 := (Sp.seq (m.body.ckP_sp 3 m.consts.length m.codes.length false (by omega) (by omega) [] 0 0 []) (modCnt_pos m.codes) fun b hb => modP_sp m.consts.length m.codes.length m.codes _ b hb).some_iff
  have h2 := (Sp.seq (m.body.ckD_sp 3 m.consts.length m.codes.length false [] 0 0 []) (modCnt_pos m.codes) fun b hb => modD_sp m.consts.length m.codes.length m.codes _ b hb).some_iff
  have : (okO (m.body.ckP 3 m.consts.length m.codes.length false [] 0 0 []) (modP m.consts.length m.codes.length m.codes)).isSome = (okO (m.body.ckD 3 m.consts.length m.codes.length false [] 0 0 []) (modD m.consts.length m.codes.length m.codes)).isSome := by
    rw [Bool.eq_iff_iff]
    exact Iff.trans h1 h2.symm
  rw [hr, this]
end Go.Cb
namespace Go.Cb
open Go.Proofs
set_option maxRecDepth 100000
set_option maxHeartbeats 4000000
abbrev mC (m : Mdl) : List PV := [.sl 5 (m.consts.map Datum.pv) none, .sl 6 (m.codes.map Cod.pv) none, .int .i64 m.body.op, .int .i64 m.body.n, .sl 1 (m.body.v.map (PV.int .i64)) none, .sl 4 (m.body.t.map Trm.pv) none]
def mtot (m : Mdl) : Option (Int × List Int) := if (m.consts.all fun d => d.rightD 0) = true then okO (m.body.ckD 3 m.consts.length m.codes.length false [] 0 0 []) (modD m.consts.length m.codes.length m.codes) else none
theorem mckD_tot (m : Mdl) : mckD m = if (mtot m).isSome = true then 0 else 5 := by
  unfold mckD mtot
  cases h : m.consts.all fun d => d.rightD 0 <;> simp
theorem checkModule2_c (m : Mdl) (hb : m.body.bulk + codsBulk m.codes ≤ 1000000000) (hl : m.consts.length ≤ 1000000000) (hk : m.codes.length ≤ 1000000000) : ACallP Tryz.prog 42 [.agg m.cells] (.int .i64 (mckD m)) := by
  rw [mckD_tot]
  refine ACall.of_body tt_ok Tryz.func42 rfl rfl (n := 97) rfl rfl ?_
  conv => whnf
  repeat ((first | ((first | (apply PGuard.lazy; intro hg) | apply PStb.of); (focus ((conv => whnf); (repeat ((first | refine PNeed.of gA ?_ | refine PLoad.box rfl ?_ | refine PLook.set ?_ | refine PSide.of bA ?_ | refine PSide.of rfl ?_ | refine PRow.one rfl rfl ?_ | refine PRow.none ?_ | refine PLoad.ep rfl ?_ | refine PLen.map ?_ | refine PIndexS.ix OA OA ?_ | refine PIndexA.ix OA OA ?_ | refine PIndexA.lit rfl ?_ | refine PInt.ok OA OA ?_ | refine PDiv.of OA ?_ | refine PSide.of NA ?_ | refine PSliceS.lo OA OA ?_ | refine PSliceL.lo OA OA ?_ | refine PSliceS.hi OA OA ?_ | refine PSliceL.hi OA OA ?_ | refine PCall.pure (constants2_c _) (WkT.refl _) ?_ | refine PCall.pure (constants2_c _) cA ?_ | intro _); conv => whnf)); exact And.intro rfl rfl))) | refine PLoad.box rfl ?_ | refine PLook.set ?_ | refine PSide.of bA ?_ | refine PSide.of rfl ?_ | refine PRow.one rfl rfl ?_ | refine PRow.none ?_ | refine PLoad.ep rfl ?_ | refine PLen.map ?_ | refine PIndexS.ix oA oA ?_ | refine PIndexA.ix oA oA ?_ | refine PIndexA.lit rfl ?_ | refine PInt.ok oA oA ?_ | refine PDiv.of oA ?_ | refine PSide.of nA ?_ | refine PSliceS.lo oA oA ?_ | refine PSliceL.lo oA oA ?_ | refine PSliceS.hi oA oA ?_ | refine PSliceL.hi oA oA ?_ | refine PCall.pure (constants2_c _) (WkT.refl _) ?_ | refine PCall.pure (constants2_c _) cA ?_ | refine PStore.box rfl rfl rfl ?_ | refine PBytes.mk ?_ | refine PMapPut.set ?_ | refine PMapDel.set ?_ | refine PDraw.at_ (some 5) rfl tt_ok mixed [0, 1, 3, 0, 8, 24, 0, 64, 192, 511, 1023, 2047] [0, 1, 2, 3, 4, 5, 6, 7, 8, 9] [] [10, 11] [] (by kernel_rfl) ?_ | refine PDraw.at_ (some 78) rfl tt_ok mixed [0, 0, 2, 0, 14, 30, 62, 0, 128, 0, 896, 1920, 3968, 8191] [0, 1, 2, 3, 4, 5, 6, 7, 8, 9, 10, 11, 12] [] [13] [] (by kernel_rfl) ?_ | intro _); conv => whnf)
  conv => whnf
  repeat' (first | ((first | ((first | (apply PGuard.lazy; intro hg) | apply PStb.of); (focus ((conv => whnf); (repeat ((first | refine PNeed.of gA ?_ | refine PLoad.box rfl ?_ | refine PLook.set ?_ | refine PSide.of bA ?_ | refine PSide.of rfl ?_ | refine PRow.one rfl rfl ?_ | refine PRow.none ?_ | refine PLoad.ep rfl ?_ | refine PLen.map ?_ | refine PIndexS.ix OA OA ?_ | refine PIndexA.ix OA OA ?_ | refine PIndexA.lit rfl ?_ | refine PInt.ok OA OA ?_ | refine PDiv.of OA ?_ | refine PSide.of NA ?_ | refine PSliceS.lo OA OA ?_ | refine PSliceL.lo OA OA ?_ | refine PSliceS.hi OA OA ?_ | refine PSliceL.hi OA OA ?_ | refine PCall.pure (constants2_c _) (WkT.refl _) ?_ | refine PCall.pure (constants2_c _) cA ?_ | intro _); conv => whnf)); exact And.intro rfl rfl))) | refine PLoad.box rfl ?_ | refine PLook.set ?_ | refine PSide.of bA ?_ | refine PSide.of rfl ?_ | refine PRow.one rfl rfl ?_ | refine PRow.none ?_ | refine PLoad.ep rfl ?_ | refine PLen.map ?_ | refine PIndexS.ix oA oA ?_ | refine PIndexA.ix oA oA ?_ | refine PIndexA.lit rfl ?_ | refine PInt.ok oA oA ?_ | refine PDiv.of oA ?_ | refine PSide.of nA ?_ | refine PSliceS.lo oA oA ?_ | refine PSliceL.lo oA oA ?_ | refine PSliceS.hi oA oA ?_ | refine PSliceL.hi oA oA ?_ | refine PCall.pure (constants2_c _) (WkT.refl _) ?_ | refine PCall.pure (constants2_c _) cA ?_ | refine PStore.box rfl rfl rfl ?_ | refine PBytes.mk ?_ | refine PMapPut.set ?_ | refine PMapDel.set ?_ | refine PDraw.at_ (some 5) rfl tt_ok mixed [0, 1, 3, 0, 8, 24, 0, 64, 192, 511, 1023, 2047] [0, 1, 2, 3, 4, 5, 6, 7, 8, 9] [] [10, 11] [] (by kernel_rfl) ?_ | refine PDraw.at_ (some 78) rfl tt_ok mixed [0, 0, 2, 0, 14, 30, 62, 0, 128, 0, 896, 1920, 3968, 8191] [0, 1, 2, 3, 4, 5, 6, 7, 8, 9, 10, 11, 12] [] [13] [] (by kernel_rfl) ?_ | intro _ | refine PSeq.go ?_); conv => whnf) | (refine PCond.ways (fun hc => ?_) (fun hc => ?_) <;> (try simp only [SS, not_true_eq_false, not_false_eq_true, false_and, and_false, true_and, and_true, true_or, or_true, false_or, or_false] at hc) <;> first | (exfalso; omega) | (conv => whnf)))
  · rename_i b1 b2
    refine PCall.goG (Ghost.trans (Ghost.nil 1 3 _) (Ghost.box (b := b2) (cs := [.int .i64 3, .int .i64 m.consts.length, .int .i64 m.codes.length, .bfalse, .int .i64 0, .nil, .bool (m.consts.all fun d => d.rightD 0)]) (cs' := ckC 3 m.consts.length m.codes.length 0 false [] (nilTok 1 3) (m.consts.all fun d => d.rightD 0)) wA))
      (term2_c b2 3 m.consts.length m.codes.length false m.body 0 0 [] [] (m.consts.all fun d => d.rightD 0) (nilTok 1 3) rfl (by omega) (by omega) (by omega) (by omega) (by simp; omega) (by simp; omega)) wA ?_
    rintro _ _ ⟨rfl, s', b', tk, ok, h1, rfl, h3, h4⟩
    rw [hc] at h3 h4
    simp only [if_true] at h3 h4
    have hm : mtot m = okO (m.body.ckD 3 m.consts.length m.codes.length false [] 0 0 []) (modD m.consts.length m.codes.length m.codes) := by unfold mtot; rw [if_pos hc]
    conv => whnf
    repeat ((first | ((first | (apply PGuard.lazy; intro hg) | apply PStb.of); (focus ((conv => whnf); (repeat ((first | refine PNeed.of gA ?_ | refine PLoad.box rfl ?_ | refine PLook.set ?_ | refine PSide.of bA ?_ | refine PSide.of rfl ?_ | refine PRow.one rfl rfl ?_ | refine PRow.none ?_ | refine PLoad.ep rfl ?_ | refine PLen.map ?_ | refine PIndexS.ix OA OA ?_ | refine PIndexA.ix OA OA ?_ | refine PIndexA.lit rfl ?_ | refine PInt.ok OA OA ?_ | refine PDiv.of OA ?_ | refine PSide.of NA ?_ | refine PSliceS.lo OA OA ?_ | refine PSliceL.lo OA OA ?_ | refine PSliceS.hi OA OA ?_ | refine PSliceL.hi OA OA ?_ | refine PCall.pure (constants2_c _) (WkT.refl _) ?_ | refine PCall.pure (constants2_c _) cA ?_ | intro _); conv => whnf)); exact And.intro rfl rfl))) | refine PLoad.box rfl ?_ | refine PLook.set ?_ | refine PSide.of bA ?_ | refine PSide.of rfl ?_ | refine PRow.one rfl rfl ?_ | refine PRow.none ?_ | refine PLoad.ep rfl ?_ | refine PLen.map ?_ | refine PIndexS.ix oA oA ?_ | refine PIndexA.ix oA oA ?_ | refine PIndexA.lit rfl ?_ | refine PInt.ok oA oA ?_ | refine PDiv.of oA ?_ | refine PSide.of nA ?_ | refine PSliceS.lo oA oA ?_ | refine PSliceL.lo oA oA ?_ | refine PSliceS.hi oA oA ?_ | refine PSliceL.hi oA oA ?_ | refine PCall.pure (constants2_c _) (WkT.refl _) ?_ | refine PCall.pure (constants2_c _) cA ?_ | refine PStore.box rfl rfl rfl ?_ | refine PBytes.mk ?_ | refine PMapPut.set ?_ | refine PMapDel.set ?_ | refine PDraw.at_ (some 5) rfl tt_ok mixed [0, 1, 3, 0, 8, 24, 0, 64, 192, 511, 1023, 2047] [0, 1, 2, 3, 4, 5, 6, 7, 8, 9] [] [10, 11] [] (by kernel_rfl) ?_ | refine PDraw.at_ (some 78) rfl tt_ok mixed [0, 0, 2, 0, 14, 30, 62, 0, 128, 0, 896, 1920, 3968, 8191] [0, 1, 2, 3, 4, 5, 6, 7, 8, 9, 10, 11, 12] [] [13] [] (by kernel_rfl) ?_ | intro _); conv => whnf)
    refine PLoop.over [4, 27, 28, 29, 30, 31, 32, 33, 34, 35, 36, 37, 38, 39, 40, 41, 42, 43, 44, 45, 46, 47, 48, 49, 50, 51, 52, 53, 54, 55, 56, 57, 58, 59, 60, 61, 62, 63, 64, 65, 66, 67, 68, 69, 70, 71, 72, 73, 74, 75, 76, 77, 78, 79, 80, 81, 82, 83, 84, 85, 86, 87, 88, 89, 90, 91] (fun | ((i, sz, bd, ok, tk') : Nat × Int × List Int × Bool × Tok) => [(4, .int .i64 i)])
      (fun x => [.box b2 (ckC 3 m.consts.length m.codes.length x.2.1 true x.2.2.1 x.2.2.2.2 x.2.2.2.1), .tok x.2.2.2.2, .box b1 (mC m)])
      (fun | (i, sz, bd, ok, tk') => i ≤ m.codes.length ∧ tk'.e = 3 ∧ (ok = true → 0 ≤ sz ∧ sz ≤ 20000 ∧ bd.length + codsBulk (m.codes.drop i) ≤ 1000000000 ∧ mtot m = modD m.consts.length m.codes.length (m.codes.drop i) sz bd) ∧
        (ok = false → mtot m = none)) (fun | (i, _) => m.codes.length - i) (0, s', b', ok, tk)
      ⟨by simp, h1, fun h => (by
        have hb := m.body.ckD_bd _ _ _ _ _ _ _ _ _ _ (h3 h)
        refine ⟨by omega, hb.2.1, by simp at hb ⊢; omega, by rw [hm, h3 h]; rfl⟩), fun h => by rw [hm, h4 h]; rfl⟩ wA ?_
    rintro ⟨i, sz, bd, ok, tk'⟩ ⟨hi, htk', hok, hno⟩
    dsimp only at hi htk' hok hno ⊢
    conv => whnf
    repeat' (first | ((first | ((first | (apply PGuard.lazy; intro hg) | apply PStb.of); (focus ((conv => whnf); (repeat ((first | refine PNeed.of gA ?_ | refine PLoad.box rfl ?_ | refine PLook.set ?_ | refine PSide.of bA ?_ | refine PSide.of rfl ?_ | refine PRow.one rfl rfl ?_ | refine PRow.none ?_ | refine PLoad.ep rfl ?_ | refine PLen.map ?_ | refine PIndexS.ix OA OA ?_ | refine PIndexA.ix OA OA ?_ | refine PIndexA.lit rfl ?_ | refine PInt.ok OA OA ?_ | refine PDiv.of OA ?_ | refine PSide.of NA ?_ | refine PSliceS.lo OA OA ?_ | refine PSliceL.lo OA OA ?_ | refine PSliceS.hi OA OA ?_ | refine PSliceL.hi OA OA ?_ | refine PCall.pure (constants2_c _) (WkT.refl _) ?_ | refine PCall.pure (constants2_c _) cA ?_ | intro _); conv => whnf)); exact And.intro rfl rfl))) | refine PLoad.box rfl ?_ | refine PLook.set ?_ | refine PSide.of bA ?_ | refine PSide.of rfl ?_ | refine PRow.one rfl rfl ?_ | refine PRow.none ?_ | refine PLoad.ep rfl ?_ | refine PLen.map ?_ | refine PIndexS.ix oA oA ?_ | refine PIndexA.ix oA oA ?_ | refine PIndexA.lit rfl ?_ | refine PInt.ok oA oA ?_ | refine PDiv.of oA ?_ | refine PSide.of nA ?_ | refine PSliceS.lo oA oA ?_ | refine PSliceL.lo oA oA ?_ | refine PSliceS.hi oA oA ?_ | refine PSliceL.hi oA oA ?_ | refine PCall.pure (constants2_c _) (WkT.refl _) ?_ | refine PCall.pure (constants2_c _) cA ?_ | refine PStore.box rfl rfl rfl ?_ | refine PBytes.mk ?_ | refine PMapPut.set ?_ | refine PMapDel.set ?_ | refine PDraw.at_ (some 5) rfl tt_ok mixed [0, 1, 3, 0, 8, 24, 0, 64, 192, 511, 1023, 2047] [0, 1, 2, 3, 4, 5, 6, 7, 8, 9] [] [10, 11] [] (by kernel_rfl) ?_ | refine PDraw.at_ (some 78) rfl tt_ok mixed [0, 0, 2, 0, 14, 30, 62, 0, 128, 0, 896, 1920, 3968, 8191] [0, 1, 2, 3, 4, 5, 6, 7, 8, 9, 10, 11, 12] [] [13] [] (by kernel_rfl) ?_ | intro _ | refine PSeq.go ?_); conv => whnf) | (refine PCond.ways (fun hc => ?_) (fun hc => ?_) <;> (try simp only [SS, not_true_eq_false, not_false_eq_true, false_and, and_false, true_and, and_true, true_or, or_true, false_or, or_false] at hc) <;> first | (exfalso; omega) | (conv => whnf)))
    · have hlt : i < m.codes.length := by omega
      obtain rfl : ok = true := hc.2
      obtain ⟨hz, q1, q2, q3⟩ := hok rfl
      rw [drop_at hlt, codsBulk] at q2
      rw [drop_at hlt, modD] at q3
      have hbk : m.codes[i].bulk = m.codes[i].v.length + m.codes[i].body.bulk := rfl
      have hbl := bindR_len m.codes[i].v bd
      refine PCall.go (bind2_c b2 3 m.consts.length m.codes.length sz true m.codes[i].v bd tk' htk' (by omega)) (WkT.refl _) ?_
      rintro _ _ ⟨rfl, tk2, htk2, rfl⟩
      conv => whnf
      repeat' (first | ((first | ((first | (apply PGuard.lazy; intro hg) | apply PStb.of); (focus ((conv => whnf); (repeat ((first | refine PNeed.of gA ?_ | refine PLoad.box rfl ?_ | refine PLook.set ?_ | refine PSide.of bA ?_ | refine PSide.of rfl ?_ | refine PRow.one rfl rfl ?_ | refine PRow.none ?_ | refine PLoad.ep rfl ?_ | refine PLen.map ?_ | refine PIndexS.ix OA OA ?_ | refine PIndexA.ix OA OA ?_ | refine PIndexA.lit rfl ?_ | refine PInt.ok OA OA ?_ | refine PDiv.of OA ?_ | refine PSide.of NA ?_ | refine PSliceS.lo OA OA ?_ | refine PSliceL.lo OA OA ?_ | refine PSliceS.hi OA OA ?_ | refine PSliceL.hi OA OA ?_ | refine PCall.pure (constants2_c _) (WkT.refl _) ?_ | refine PCall.pure (constants2_c _) cA ?_ | intro _); conv => whnf)); exact And.intro rfl rfl))) | refine PLoad.box rfl ?_ | refine PLook.set ?_ | refine PSide.of bA ?_ | refine PSide.of rfl ?_ | refine PRow.one rfl rfl ?_ | refine PRow.none ?_ | refine PLoad.ep rfl ?_ | refine PLen.map ?_ | refine PIndexS.ix oA oA ?_ | refine PIndexA.ix oA oA ?_ | refine PIndexA.lit rfl ?_ | refine PInt.ok oA oA ?_ | refine PDiv.of oA ?_ | refine PSide.of nA ?_ | refine PSliceS.lo oA oA ?_ | refine PSliceL.lo oA oA ?_ | refine PSliceS.hi oA oA ?_ | refine PSliceL.hi oA oA ?_ | refine PCall.pure (constants2_c _) (WkT.refl _) ?_ | refine PCall.pure (constants2_c _) cA ?_ | refine PStore.box rfl rfl rfl ?_ | refine PBytes.mk ?_ | refine PMapPut.set ?_ | refine PMapDel.set ?_ | refine PDraw.at_ (some 5) rfl tt_ok mixed [0, 1, 3, 0, 8, 24, 0, 64, 192, 511, 1023, 2047] [0, 1, 2, 3, 4, 5, 6, 7, 8, 9] [] [10, 11] [] (by kernel_rfl) ?_ | refine PDraw.at_ (some 78) rfl tt_ok mixed [0, 0, 2, 0, 14, 30, 62, 0, 128, 0, 896, 1920, 3968, 8191] [0, 1, 2, 3, 4, 5, 6, 7, 8, 9, 10, 11, 12] [] [13] [] (by kernel_rfl) ?_ | intro _ | refine PSeq.go ?_); conv => whnf) | (refine PCond.ways (fun hc => ?_) (fun hc => ?_) <;> (try simp only [SS, not_true_eq_false, not_false_eq_true, false_and, and_false, true_and, and_true, true_or, or_true, false_or, or_false] at hc) <;> first | (exfalso; omega) | (conv => whnf)))
      · have hb1 : (bindR m.codes[i].v bd).1 = true := hc.1
        have hr1 : ¬(m.codes[i].rest = true ∧ m.codes[i].v = []) := by
          rintro ⟨e1, e2⟩
          rcases hc.2 with h | h
          · rw [e1] at h; cases h
          · rw [e2] at h; simp at h
        rw [if_pos hb1, if_neg hr1] at q3
        have hok2 : ((bindR m.codes[i].v bd).1 && (!m.codes[i].rest || decide ((m.codes[i].v.length : Int) > 0))) = true := by
          rw [hb1, Bool.true_and]
          rcases hc.2 with h | h
          · simp [h]
          · simp; exact .inr (by omega)
        rw [hok2]
        refine PCall.go (term2_c b2 3 m.consts.length m.codes.length true m.codes[i].body sz 0 (bindR m.codes[i].v bd).2 m.codes[i].v true tk2 htk2 hz q1 (by omega) (by omega) (by omega) (by omega)) wA ?_
        rintro _ _ ⟨rfl, s2, b3, tk3, ok2, g1, rfl, g3, g4⟩
        simp only [if_true] at g3 g4
        conv => whnf
        repeat' (first | ((first | ((first | (apply PGuard.lazy; intro hg) | apply PStb.of); (focus ((conv => whnf); (repeat ((first | refine PNeed.of gA ?_ | refine PLoad.box rfl ?_ | refine PLook.set ?_ | refine PSide.of bA ?_ | refine PSide.of rfl ?_ | refine PRow.one rfl rfl ?_ | refine PRow.none ?_ | refine PLoad.ep rfl ?_ | refine PLen.map ?_ | refine PIndexS.ix OA OA ?_ | refine PIndexA.ix OA OA ?_ | refine PIndexA.lit rfl ?_ | refine PInt.ok OA OA ?_ | refine PDiv.of OA ?_ | refine PSide.of NA ?_ | refine PSliceS.lo OA OA ?_ | refine PSliceL.lo OA OA ?_ | refine PSliceS.hi OA OA ?_ | refine PSliceL.hi OA OA ?_ | refine PCall.pure (constants2_c _) (WkT.refl _) ?_ | refine PCall.pure (constants2_c _) cA ?_ | intro _); conv => whnf)); exact And.intro rfl rfl))) | refine PLoad.box rfl ?_ | refine PLook.set ?_ | refine PSide.of bA ?_ | refine PSide.of rfl ?_ | refine PRow.one rfl rfl ?_ | refine PRow.none ?_ | refine PLoad.ep rfl ?_ | refine PLen.map ?_ | refine PIndexS.ix oA oA ?_ | refine PIndexA.ix oA oA ?_ | refine PIndexA.lit rfl ?_ | refine PInt.ok oA oA ?_ | refine PDiv.of oA ?_ | refine PSide.of nA ?_ | refine PSliceS.lo oA oA ?_ | refine PSliceL.lo oA oA ?_ | refine PSliceS.hi oA oA ?_ | refine PSliceL.hi oA oA ?_ | refine PCall.pure (constants2_c _) (WkT.refl _) ?_ | refine PCall.pure (constants2_c _) cA ?_ | refine PStore.box rfl rfl rfl ?_ | refine PBytes.mk ?_ | refine PMapPut.set ?_ | refine PMapDel.set ?_ | refine PDraw.at_ (some 5) rfl tt_ok mixed [0, 1, 3, 0, 8, 24, 0, 64, 192, 511, 1023, 2047] [0, 1, 2, 3, 4, 5, 6, 7, 8, 9] [] [10, 11] [] (by kernel_rfl) ?_ | refine PDraw.at_ (some 78) rfl tt_ok mixed [0, 0, 2, 0, 14, 30, 62, 0, 128, 0, 896, 1920, 3968, 8191] [0, 1, 2, 3, 4, 5, 6, 7, 8, 9, 10, 11, 12] [] [13] [] (by kernel_rfl) ?_ | intro _ | refine PSeq.go ?_); conv => whnf) | (refine PCond.ways (fun hc => ?_) (fun hc => ?_) <;> (try simp only [SS, not_true_eq_false, not_false_eq_true, false_and, and_false, true_and, and_true, true_or, or_true, false_or, or_false] at hc) <;> first | (exfalso; omega) | (conv => whnf)))
        refine loopTo (i + 1, s2, b3, ok2, tk3) ⟨by show i + 1 ≤ _; omega, g1, fun h => ?_, fun h => ?_⟩ (by show m.codes.length - (i + 1) < m.codes.length - i; omega) wA
        · have hbd := m.codes[i].body.ckD_bd _ _ _ _ _ _ _ _ _ _ (g3 h)
          rw [g3 h] at q3
          exact ⟨by show (0 : Int) ≤ s2; omega, hbd.2.1, by show b3.length + codsBulk (m.codes.drop (i + 1)) ≤ _; omega, q3⟩
        · rw [g4 h] at q3
          exact q3
      · have hmn : mtot m = none := by
          rw [q3]
          split
          · rename_i hb1
            rw [if_pos]
            rcases hc with h | h
            · rw [hb1] at h; cases h
            · exact ⟨h.1, List.eq_nil_of_length_eq_zero (by have := h.2; omega)⟩
          · rfl
        have hf : ((bindR m.codes[i].v bd).1 && (!m.codes[i].rest || decide ((m.codes[i].v.length : Int) > 0))) = false := by
          rcases hc with h | h
          · rw [h]; rfl
          · have hl0 : m.codes[i].v = [] := List.eq_nil_of_length_eq_zero (by have := h.2; omega)
            simp [h.1, hl0]
        rw [hf]
        exact loopTo (i + 1, sz, (bindR m.codes[i].v bd).2, false, tk2) ⟨by show i + 1 ≤ _; omega, htk2, fun h => (by cases h), fun _ => hmn⟩ (by show m.codes.length - (i + 1) < m.codes.length - i; omega) wA
    · rename_i hx
      have hmn : mtot m = none := hno hc
      exact PRet.pure (Wk.int (by rw [hmn]; rfl))
    · obtain ⟨hz, q1, q2, q3⟩ := hok hc
      have : m.codes.drop i = [] := List.drop_of_length_le (by rcases ‹_ ∨ ok = false› with h | h; omega; rw [hc] at h; cases h)
      rw [this, modD] at q3
      exact PRet.pure (Wk.int (by rw [q3]; rfl))
  · rename_i b1 b2
    refine PLoop.keep [4, 27, 28, 29, 30, 31, 32, 33, 34, 35, 36, 37, 38, 39, 40, 41, 42, 43, 44, 45, 46, 47, 48, 49, 50, 51, 52, 53, 54, 55, 56, 57, 58, 59, 60, 61, 62, 63, 64, 65, 66, 67, 68, 69, 70, 71, 72, 73, 74, 75, 76, 77, 78, 79, 80, 81, 82, 83, 84, 85, 86, 87, 88, 89, 90, 91] (fun _ : Unit => [(4, .int .i64 0)]) (fun _ => True) (fun _ => 0) () trivial wA ?_
    rintro _ _
    have hmn : mtot m = none := by unfold mtot; rw [if_neg (by rw [hc]; simp)]
    have hcf := hc
    conv => whnf
    repeat' (first | ((first | ((first | (apply PGuard.lazy; intro hg) | apply PStb.of); (focus ((conv => whnf); (repeat ((first | refine PNeed.of gA ?_ | refine PLoad.box rfl ?_ | refine PLook.set ?_ | refine PSide.of bA ?_ | refine PSide.of rfl ?_ | refine PRow.one rfl rfl ?_ | refine PRow.none ?_ | refine PLoad.ep rfl ?_ | refine PLen.map ?_ | refine PIndexS.ix OA OA ?_ | refine PIndexA.ix OA OA ?_ | refine PIndexA.lit rfl ?_ | refine PInt.ok OA OA ?_ | refine PDiv.of OA ?_ | refine PSide.of NA ?_ | refine PSliceS.lo OA OA ?_ | refine PSliceL.lo OA OA ?_ | refine PSliceS.hi OA OA ?_ | refine PSliceL.hi OA OA ?_ | refine PCall.pure (constants2_c _) (WkT.refl _) ?_ | refine PCall.pure (constants2_c _) cA ?_ | intro _); conv => whnf)); exact And.intro rfl rfl))) | refine PLoad.box rfl ?_ | refine PLook.set ?_ | refine PSide.of bA ?_ | refine PSide.of rfl ?_ | refine PRow.one rfl rfl ?_ | refine PRow.none ?_ | refine PLoad.ep rfl ?_ | refine PLen.map ?_ | refine PIndexS.ix oA oA ?_ | refine PIndexA.ix oA oA ?_ | refine PIndexA.lit rfl ?_ | refine PInt.ok oA oA ?_ | refine PDiv.of oA ?_ | refine PSide.of nA ?_ | refine PSliceS.lo oA oA ?_ | refine PSliceL.lo oA oA ?_ | refine PSliceS.hi oA oA ?_ | refine PSliceL.hi oA oA ?_ | refine PCall.pure (constants2_c _) (WkT.refl _) ?_ | refine PCall.pure (constants2_c _) cA ?_ | refine PStore.box rfl rfl rfl ?_ | refine PBytes.mk ?_ | refine PMapPut.set ?_ | refine PMapDel.set ?_ | refine PDraw.at_ (some 5) rfl tt_ok mixed [0, 1, 3, 0, 8, 24, 0, 64, 192, 511, 1023, 2047] [0, 1, 2, 3, 4, 5, 6, 7, 8, 9] [] [10, 11] [] (by kernel_rfl) ?_ | refine PDraw.at_ (some 78) rfl tt_ok mixed [0, 0, 2, 0, 14, 30, 62, 0, 128, 0, 896, 1920, 3968, 8191] [0, 1, 2, 3, 4, 5, 6, 7, 8, 9, 10, 11, 12] [] [13] [] (by kernel_rfl) ?_ | intro _ | refine PSeq.go ?_); conv => whnf) | (refine PCond.ways (fun hc => ?_) (fun hc => ?_) <;> (try simp only [SS, not_true_eq_false, not_false_eq_true, false_and, and_false, true_and, and_true, true_or, or_true, false_or, or_false] at hc) <;> first | (exfalso; omega) | (conv => whnf)))
    · have h5 := hc.2
      rw [hcf] at h5
      cases h5
    · exact PRet.pure (Wk.int (by rw [hmn]; rfl))
    · rw [hcf] at hc
      cases hc
end Go.Cb
namespace Go.Cb
open Go.Proofs
set_option maxRecDepth 100000
set_option maxHeartbeats 4000000
abbrev mC2 (m : Mdl) : List PV := [.sl 5 (m.consts.map Datum.pv) none, .sl 6 (m.codes.map Cod.pv) none, .int .i64 m.body.op, .int .i64 m.body.n, .sl 1 (m.body.v.map (PV.int .i64)) none, .sl 4 (m.body.t.map Trm.pv) none]
def mtotP (m : Mdl) : Option (Int × List Int) := if (m.consts.all fun d => d.rightP 0) = true then okO (m.body.ckP 3 m.consts.length m.codes.length false [] 0 0 []) (modP m.consts.length m.codes.length m.codes) else none
theorem mckP_tot (m : Mdl) : mckP m = if (mtotP m).isSome = true then 0 else 5 := by
  unfold mckP mtotP
  cases h : m.consts.all fun d => d.rightP 0 <;> simp
theorem checkModuleP_c (m : Mdl) (hb : m.body.bulk + codsBulk m.codes ≤ 1000000000) (hl : m.consts.length ≤ 1000000000) (hk : m.codes.length ≤ 1000000000) : ACallP Tryz.prog 41 [.agg m.cells] (.int .i64 (mckP m)) := by
  rw [mckP_tot]
  refine ACall.of_body tt_ok Tryz.func41 rfl rfl (n := 64) rfl rfl ?_
  conv => whnf
  repeat ((first | ((first | (apply PGuard.lazy; intro hg) | apply PStb.of); (focus ((conv => whnf); (repeat ((first | refine PNeed.of gA ?_ | refine PLoad.box rfl ?_ | refine PLook.set ?_ | refine PSide.of bA ?_ | refine PSide.of rfl ?_ | refine PRow.one rfl rfl ?_ | refine PRow.none ?_ | refine PLoad.ep rfl ?_ | refine PLen.map ?_ | refine PIndexS.ix OA OA ?_ | refine PIndexA.ix OA OA ?_ | refine PIndexA.lit rfl ?_ | refine PInt.ok OA OA ?_ | refine PDiv.of OA ?_ | refine PSide.of NA ?_ | refine PSliceS.lo OA OA ?_ | refine PSliceL.lo OA OA ?_ | refine PSliceS.hi OA OA ?_ | refine PSliceL.hi OA OA ?_ | refine PCall.pure (constantsp_c _) (WkT.refl _) ?_ | refine PCall.pure (constantsp_c _) cA ?_ | intro _); conv => whnf)); exact And.intro rfl rfl))) | refine PLoad.box rfl ?_ | refine PLook.set ?_ | refine PSide.of bA ?_ | refine PSide.of rfl ?_ | refine PRow.one rfl rfl ?_ | refine PRow.none ?_ | refine PLoad.ep rfl ?_ | refine PLen.map ?_ | refine PIndexS.ix oA oA ?_ | refine PIndexA.ix oA oA ?_ | refine PIndexA.lit rfl ?_ | refine PInt.ok oA oA ?_ | refine PDiv.of oA ?_ | refine PSide.of nA ?_ | refine PSliceS.lo oA oA ?_ | refine PSliceL.lo oA oA ?_ | refine PSliceS.hi oA oA ?_ | refine PSliceL.hi oA oA ?_ | refine PCall.pure (constantsp_c _) (WkT.refl _) ?_ | refine PCall.pure (constantsp_c _) cA ?_ | refine PStore.box rfl rfl rfl ?_ | refine PBytes.mk ?_ | refine PMapPut.set ?_ | refine PMapDel.set ?_ | intro _); conv => whnf)
  conv => whnf
  repeat' (first | ((first | ((first | (apply PGuard.lazy; intro hg) | apply PStb.of); (focus ((conv => whnf); (repeat ((first | refine PNeed.of gA ?_ | refine PLoad.box rfl ?_ | refine PLook.set ?_ | refine PSide.of bA ?_ | refine PSide.of rfl ?_ | refine PRow.one rfl rfl ?_ | refine PRow.none ?_ | refine PLoad.ep rfl ?_ | refine PLen.map ?_ | refine PIndexS.ix OA OA ?_ | refine PIndexA.ix OA OA ?_ | refine PIndexA.lit rfl ?_ | refine PInt.ok OA OA ?_ | refine PDiv.of OA ?_ | refine PSide.of NA ?_ | refine PSliceS.lo OA OA ?_ | refine PSliceL.lo OA OA ?_ | refine PSliceS.hi OA OA ?_ | refine PSliceL.hi OA OA ?_ | refine PCall.pure (constantsp_c _) (WkT.refl _) ?_ | refine PCall.pure (constantsp_c _) cA ?_ | intro _); conv => whnf)); exact And.intro rfl rfl))) | refine PLoad.box rfl ?_ | refine PLook.set ?_ | refine PSide.of bA ?_ | refine PSide.of rfl ?_ | refine PRow.one rfl rfl ?_ | refine PRow.none ?_ | refine PLoad.ep rfl ?_ | refine PLen.map ?_ | refine PIndexS.ix oA oA ?_ | refine PIndexA.ix oA oA ?_ | refine PIndexA.lit rfl ?_ | refine PInt.ok oA oA ?_ | refine PDiv.of oA ?_ | refine PSide.of nA ?_ | refine PSliceS.lo oA oA ?_ | refine PSliceL.lo oA oA ?_ | refine PSliceS.hi oA oA ?_ | refine PSliceL.hi oA oA ?_ | refine PCall.pure (constantsp_c _) (WkT.refl _) ?_ | refine PCall.pure (constantsp_c _) cA ?_ | refine PStore.box rfl rfl rfl ?_ | refine PBytes.mk ?_ | refine PMapPut.set ?_ | refine PMapDel.set ?_ | intro _ | refine PSeq.go ?_); conv => whnf) | (refine PCond.ways (fun hc => ?_) (fun hc => ?_) <;> (try simp only [SS, not_true_eq_false, not_false_eq_true, false_and, and_false, true_and, and_true, true_or, or_true, false_or, or_false] at hc) <;> first | (exfalso; omega) | (conv => whnf)))
  refine PGuard.ways (fun hg => ?_) (fun hg => ?_)
  rotate_left
  · have hmn : mtotP m = none := by unfold mtotP; rw [if_neg (by simp only [Bool.not_not] at hg; rw [hg]; simp)]
    conv => whnf
    repeat' (first | ((first | ((first | (apply PGuard.lazy; intro hg) | apply PStb.of); (focus ((conv => whnf); (repeat ((first | refine PNeed.of gA ?_ | refine PLoad.box rfl ?_ | refine PLook.set ?_ | refine PSide.of bA ?_ | refine PSide.of rfl ?_ | refine PRow.one rfl rfl ?_ | refine PRow.none ?_ | refine PLoad.ep rfl ?_ | refine PLen.map ?_ | refine PIndexS.ix OA OA ?_ | refine PIndexA.ix OA OA ?_ | refine PIndexA.lit rfl ?_ | refine PInt.ok OA OA ?_ | refine PDiv.of OA ?_ | refine PSide.of NA ?_ | refine PSliceS.lo OA OA ?_ | refine PSliceL.lo OA OA ?_ | refine PSliceS.hi OA OA ?_ | refine PSliceL.hi OA OA ?_ | refine PCall.pure (constantsp_c _) (WkT.refl _) ?_ | refine PCall.pure (constantsp_c _) cA ?_ | intro _); conv => whnf)); exact And.intro rfl rfl))) | refine PLoad.box rfl ?_ | refine PLook.set ?_ | refine PSide.of bA ?_ | refine PSide.of rfl ?_ | refine PRow.one rfl rfl ?_ | refine PRow.none ?_ | refine PLoad.ep rfl ?_ | refine PLen.map ?_ | refine PIndexS.ix oA oA ?_ | refine PIndexA.ix oA oA ?_ | refine PIndexA.lit rfl ?_ | refine PInt.ok oA oA ?_ | refine PDiv.of oA ?_ | refine PSide.of nA ?_ | refine PSliceS.lo oA oA ?_ | refine PSliceL.lo oA oA ?_ | refine PSliceS.hi oA oA ?_ | refine PSliceL.hi oA oA ?_ | refine PCall.pure (constantsp_c _) (WkT.refl _) ?_ | refine PCall.pure (constantsp_c _) cA ?_ | refine PStore.box rfl rfl rfl ?_ | refine PBytes.mk ?_ | refine PMapPut.set ?_ | refine PMapDel.set ?_ | intro _ | refine PSeq.go ?_); conv => whnf) | (refine PCond.ways (fun hc => ?_) (fun hc => ?_) <;> (try simp only [SS, not_true_eq_false, not_false_eq_true, false_and, and_false, true_and, and_true, true_or, or_true, false_or, or_false] at hc) <;> first | (exfalso; omega) | (conv => whnf)))
    exact PRet.pure (Wk.int (by rw [hmn]; rfl))
  · conv => whnf
    conv => whnf
    repeat ((first | ((first | (apply PGuard.lazy; intro hg) | apply PStb.of); (focus ((conv => whnf); (repeat ((first | refine PNeed.of gA ?_ | refine PLoad.box rfl ?_ | refine PLook.set ?_ | refine PSide.of bA ?_ | refine PSide.of rfl ?_ | refine PRow.one rfl rfl ?_ | refine PRow.none ?_ | refine PLoad.ep rfl ?_ | refine PLen.map ?_ | refine PIndexS.ix OA OA ?_ | refine PIndexA.ix OA OA ?_ | refine PIndexA.lit rfl ?_ | refine PInt.ok OA OA ?_ | refine PDiv.of OA ?_ | refine PSide.of NA ?_ | refine PSliceS.lo OA OA ?_ | refine PSliceL.lo OA OA ?_ | refine PSliceS.hi OA OA ?_ | refine PSliceL.hi OA OA ?_ | refine PCall.pure (constantsp_c _) (WkT.refl _) ?_ | refine PCall.pure (constantsp_c _) cA ?_ | intro _); conv => whnf)); exact And.intro rfl rfl))) | refine PLoad.box rfl ?_ | refine PLook.set ?_ | refine PSide.of bA ?_ | refine PSide.of rfl ?_ | refine PRow.one rfl rfl ?_ | refine PRow.none ?_ | refine PLoad.ep rfl ?_ | refine PLen.map ?_ | refine PIndexS.ix oA oA ?_ | refine PIndexA.ix oA oA ?_ | refine PIndexA.lit rfl ?_ | refine PInt.ok oA oA ?_ | refine PDiv.of oA ?_ | refine PSide.of nA ?_ | refine PSliceS.lo oA oA ?_ | refine PSliceL.lo oA oA ?_ | refine PSliceS.hi oA oA ?_ | refine PSliceL.hi oA oA ?_ | refine PCall.pure (constantsp_c _) (WkT.refl _) ?_ | refine PCall.pure (constantsp_c _) cA ?_ | refine PStore.box rfl rfl rfl ?_ | refine PBytes.mk ?_ | refine PMapPut.set ?_ | refine PMapDel.set ?_ | intro _); conv => whnf)
    rename_i b1 l1 l2 r1 b2 r2
    have hall : (m.consts.all fun d => d.rightP 0) = true := by simpa using hg
    have hm : mtotP m = okO (m.body.ckP 3 m.consts.length m.codes.length false [] 0 0 []) (modP m.consts.length m.codes.length m.codes) := by unfold mtotP; rw [if_pos hall]
    have hcall := rightp_c b2 r1 r2 3 m.consts.length m.codes.length false m.body [] 0 0 [] [] [] (by omega) (by omega) (by omega) (by omega) (by simp) (by omega)
    rw [← setM_nil] at hcall
    refine PCall.goG (Ghost.box (b := b2) (cs := [.int .i64 3, .int .i64 m.consts.length, .int .i64 m.codes.length, .bfalse, .int .i64 0, .mp r1]) (cs' := cpC 3 m.consts.length m.codes.length 0 false r1) wA) hcall (WkT.cons (Wk.opt hg _) (WkT.cons (Wk.opt hg _) (WkT.refl _))) ?_
    rintro _ _ ⟨rfl, sz, mb, ms, pb, ps, rfl, hs2⟩
    conv => whnf
    repeat' (first | ((first | ((first | (apply PGuard.lazy; intro hg) | apply PStb.of); (focus ((conv => whnf); (repeat ((first | refine PNeed.of gA ?_ | refine PLoad.box rfl ?_ | refine PLook.set ?_ | refine PSide.of bA ?_ | refine PSide.of rfl ?_ | refine PRow.one rfl rfl ?_ | refine PRow.none ?_ | refine PLoad.ep rfl ?_ | refine PLen.map ?_ | refine PIndexS.ix OA OA ?_ | refine PIndexA.ix OA OA ?_ | refine PIndexA.lit rfl ?_ | refine PInt.ok OA OA ?_ | refine PDiv.of OA ?_ | refine PSide.of NA ?_ | refine PSliceS.lo OA OA ?_ | refine PSliceL.lo OA OA ?_ | refine PSliceS.hi OA OA ?_ | refine PSliceL.hi OA OA ?_ | refine PCall.pure (constantsp_c _) (WkT.refl _) ?_ | refine PCall.pure (constantsp_c _) cA ?_ | intro _); conv => whnf)); exact And.intro rfl rfl))) | refine PLoad.box rfl ?_ | refine PLook.set ?_ | refine PSide.of bA ?_ | refine PSide.of rfl ?_ | refine PRow.one rfl rfl ?_ | refine PRow.none ?_ | refine PLoad.ep rfl ?_ | refine PLen.map ?_ | refine PIndexS.ix oA oA ?_ | refine PIndexA.ix oA oA ?_ | refine PIndexA.lit rfl ?_ | refine PInt.ok oA oA ?_ | refine PDiv.of oA ?_ | refine PSide.of nA ?_ | refine PSliceS.lo oA oA ?_ | refine PSliceL.lo oA oA ?_ | refine PSliceS.hi oA oA ?_ | refine PSliceL.hi oA oA ?_ | refine PCall.pure (constantsp_c _) (WkT.refl _) ?_ | refine PCall.pure (constantsp_c _) cA ?_ | refine PStore.box rfl rfl rfl ?_ | refine PBytes.mk ?_ | refine PMapPut.set ?_ | refine PMapDel.set ?_ | intro _ | refine PSeq.go ?_); conv => whnf) | (refine PCond.ways (fun hc => ?_) (fun hc => ?_) <;> (try simp only [SS, not_true_eq_false, not_false_eq_true, false_and, and_false, true_and, and_true, true_or, or_true, false_or, or_false] at hc) <;> first | (exfalso; omega) | (conv => whnf)))
    · rw [Option.isSome_eq_false_iff, Option.isNone_iff_eq_none] at hc
      exact PRet.pure (Wk.int (by rw [hm, hc]; rfl))
    · obtain ⟨⟨s1, bd1⟩, e⟩ := Option.isSome_iff_exists.mp hc
      obtain ⟨rfl, rfl, rfl⟩ := hs2 s1 bd1 e
      have hbd := Trm.ckP_bd _ _ _ _ _ _ _ _ _ _ _ e
      refine PLoop.over [2, 5, 6, 34, 35, 36, 37, 38, 39, 40, 41, 42, 43, 44, 45, 46, 47, 48, 49, 50, 51, 52, 53, 54, 55, 56, 57, 58, 59, 60, 61, 62, 63] (fun (x : Nat × Int × List Int × List (Int × Value)) => [(34, .int .i64 x.1)])
        (fun (x : Nat × Int × List Int × List (Int × Value)) => [.box b2 (cpC 3 m.consts.length m.codes.length x.2.1 true r1), .mp r1 (.int .i64) (setM x.2.2.1) x.2.2.2, .box b1 (mC2 m)])
        (fun | (i, sz, bd, pb) => i ≤ m.codes.length ∧ 0 ≤ sz ∧ sz ≤ 20000 ∧ mtotP m = modP m.consts.length m.codes.length (m.codes.drop i) sz bd) (fun | (i, _) => m.codes.length - i) (0, sz, bd1, pb)
        ⟨by simp, by omega, hbd.2.1, by rw [hm, e]; rfl⟩ wA ?_
      rintro ⟨i, sz, bd, pb⟩ ⟨hi, hz0, hz1, ht⟩
      dsimp only at hi hz0 hz1 ht ⊢
      conv => whnf
      repeat' (first | ((first | ((first | (apply PGuard.lazy; intro hg) | apply PStb.of); (focus ((conv => whnf); (repeat ((first | refine PNeed.of gA ?_ | refine PLoad.box rfl ?_ | refine PLook.set ?_ | refine PSide.of bA ?_ | refine PSide.of rfl ?_ | refine PRow.one rfl rfl ?_ | refine PRow.none ?_ | refine PLoad.ep rfl ?_ | refine PLen.map ?_ | refine PIndexS.ix OA OA ?_ | refine PIndexA.ix OA OA ?_ | refine PIndexA.lit rfl ?_ | refine PInt.ok OA OA ?_ | refine PDiv.of OA ?_ | refine PSide.of NA ?_ | refine PSliceS.lo OA OA ?_ | refine PSliceL.lo OA OA ?_ | refine PSliceS.hi OA OA ?_ | refine PSliceL.hi OA OA ?_ | refine PCall.pure (constantsp_c _) (WkT.refl _) ?_ | refine PCall.pure (constantsp_c _) cA ?_ | intro _); conv => whnf)); exact And.intro rfl rfl))) | refine PLoad.box rfl ?_ | refine PLook.set ?_ | refine PSide.of bA ?_ | refine PSide.of rfl ?_ | refine PRow.one rfl rfl ?_ | refine PRow.none ?_ | refine PLoad.ep rfl ?_ | refine PLen.map ?_ | refine PIndexS.ix oA oA ?_ | refine PIndexA.ix oA oA ?_ | refine PIndexA.lit rfl ?_ | refine PInt.ok oA oA ?_ | refine PDiv.of oA ?_ | refine PSide.of nA ?_ | refine PSliceS.lo oA oA ?_ | refine PSliceL.lo oA oA ?_ | refine PSliceS.hi oA oA ?_ | refine PSliceL.hi oA oA ?_ | refine PCall.pure (constantsp_c _) (WkT.refl _) ?_ | refine PCall.pure (constantsp_c _) cA ?_ | refine PStore.box rfl rfl rfl ?_ | refine PBytes.mk ?_ | refine PMapPut.set ?_ | refine PMapDel.set ?_ | intro _ | refine PSeq.go ?_); conv => whnf) | (refine PCond.ways (fun hc => ?_) (fun hc => ?_) <;> (try simp only [SS, not_true_eq_false, not_false_eq_true, false_and, and_false, true_and, and_true, true_or, or_true, false_or, or_false] at hc) <;> first | (exfalso; omega) | (conv => whnf)))
      · rename_i b4 r4
        have hlt : i < m.codes.length := by omega
        rw [drop_at hlt, modP] at ht
        have hbm : m.codes[i].bulk ≤ codsBulk m.codes := codsBulk_mem (List.getElem_mem hlt)
        have hbk : m.codes[i].bulk = m.codes[i].v.length + m.codes[i].body.bulk := rfl
        refine PGuard.ways (fun hg1 => ?_) (fun hg1 => ?_)
        · have hr1 : ¬(m.codes[i].rest = true ∧ m.codes[i].v = []) := by
            rintro ⟨e1, e2⟩
            rw [e1, e2] at hg1
            simp at hg1
          rw [if_neg hr1] at ht
          conv => whnf
          have hbc := bind2p_c b2 r1 r4 3 m.consts.length m.codes.length sz true m.codes[i].v bd [] pb []
          rw [← setM_nil] at hbc
          refine PCall.go hbc (WkT.cons (Wk.opt hg1 _) (WkT.cons (Wk.opt hg1 _) (WkT.cons (Wk.opt hg1 _) .nil))) ?_
          rintro _ _ ⟨rfl, pb3, mb, ms2, rfl, hb3⟩
          conv => whnf
          repeat' (first | ((first | ((first | (apply PGuard.lazy; intro hg) | apply PStb.of); (focus ((conv => whnf); (repeat ((first | refine PNeed.of gA ?_ | refine PLoad.box rfl ?_ | refine PLook.set ?_ | refine PSide.of bA ?_ | refine PSide.of rfl ?_ | refine PRow.one rfl rfl ?_ | refine PRow.none ?_ | refine PLoad.ep rfl ?_ | refine PLen.map ?_ | refine PIndexS.ix OA OA ?_ | refine PIndexA.ix OA OA ?_ | refine PIndexA.lit rfl ?_ | refine PInt.ok OA OA ?_ | refine PDiv.of OA ?_ | refine PSide.of NA ?_ | refine PSliceS.lo OA OA ?_ | refine PSliceL.lo OA OA ?_ | refine PSliceS.hi OA OA ?_ | refine PSliceL.hi OA OA ?_ | refine PCall.pure (constantsp_c _) (WkT.refl _) ?_ | refine PCall.pure (constantsp_c _) cA ?_ | intro _); conv => whnf)); exact And.intro rfl rfl))) | refine PLoad.box rfl ?_ | refine PLook.set ?_ | refine PSide.of bA ?_ | refine PSide.of rfl ?_ | refine PRow.one rfl rfl ?_ | refine PRow.none ?_ | refine PLoad.ep rfl ?_ | refine PLen.map ?_ | refine PIndexS.ix oA oA ?_ | refine PIndexA.ix oA oA ?_ | refine PIndexA.lit rfl ?_ | refine PInt.ok oA oA ?_ | refine PDiv.of oA ?_ | refine PSide.of nA ?_ | refine PSliceS.lo oA oA ?_ | refine PSliceL.lo oA oA ?_ | refine PSliceS.hi oA oA ?_ | refine PSliceL.hi oA oA ?_ | refine PCall.pure (constantsp_c _) (WkT.refl _) ?_ | refine PCall.pure (constantsp_c _) cA ?_ | refine PStore.box rfl rfl rfl ?_ | refine PBytes.mk ?_ | refine PMapPut.set ?_ | refine PMapDel.set ?_ | intro _ | refine PSeq.go ?_); conv => whnf) | (refine PCond.ways (fun hc => ?_) (fun hc => ?_) <;> (try simp only [SS, not_true_eq_false, not_false_eq_true, false_and, and_false, true_and, and_true, true_or, or_true, false_or, or_false] at hc) <;> first | (exfalso; omega) | (conv => whnf)))
          refine PGuard.ways (fun hg2 => ?_) (fun hg2 => ?_)
          · have hb1 : (bindR m.codes[i].v bd).1 = true := by simpa using hg2
            obtain ⟨rfl, rfl⟩ := hb3 hb1
            rw [if_pos hb1] at ht
            conv => whnf
            rw [List.nil_append]
            refine PCall.go (rightp_c b2 r1 r4 3 m.consts.length m.codes.length true m.codes[i].body m.codes[i].v 0 sz (bd ++ m.codes[i].v) pb3 [] (by omega) (by omega) (by omega) (by omega) (by intro x h; simp [h]) (by omega)) (WkT.cons (Wk.opt hg2 _) (WkT.cons (Wk.opt hg2 _) (WkT.cons (Wk.opt hg2 _) (WkT.refl _)))) ?_
            rintro _ _ ⟨rfl, sz5, mb5, ms5, pb5, ps5, rfl, hs5⟩
            conv => whnf
            repeat' (first | ((first | ((first | (apply PGuard.lazy; intro hg) | apply PStb.of); (focus ((conv => whnf); (repeat ((first | refine PNeed.of gA ?_ | refine PLoad.box rfl ?_ | refine PLook.set ?_ | refine PSide.of bA ?_ | refine PSide.of rfl ?_ | refine PRow.one rfl rfl ?_ | refine PRow.none ?_ | refine PLoad.ep rfl ?_ | refine PLen.map ?_ | refine PIndexS.ix OA OA ?_ | refine PIndexA.ix OA OA ?_ | refine PIndexA.lit rfl ?_ | refine PInt.ok OA OA ?_ | refine PDiv.of OA ?_ | refine PSide.of NA ?_ | refine PSliceS.lo OA OA ?_ | refine PSliceL.lo OA OA ?_ | refine PSliceS.hi OA OA ?_ | refine PSliceL.hi OA OA ?_ | refine PCall.pure (constantsp_c _) (WkT.refl _) ?_ | refine PCall.pure (constantsp_c _) cA ?_ | intro _); conv => whnf)); exact And.intro rfl rfl))) | refine PLoad.box rfl ?_ | refine PLook.set ?_ | refine PSide.of bA ?_ | refine PSide.of rfl ?_ | refine PRow.one rfl rfl ?_ | refine PRow.none ?_ | refine PLoad.ep rfl ?_ | refine PLen.map ?_ | refine PIndexS.ix oA oA ?_ | refine PIndexA.ix oA oA ?_ | refine PIndexA.lit rfl ?_ | refine PInt.ok oA oA ?_ | refine PDiv.of oA ?_ | refine PSide.of nA ?_ | refine PSliceS.lo oA oA ?_ | refine PSliceL.lo oA oA ?_ | refine PSliceS.hi oA oA ?_ | refine PSliceL.hi oA oA ?_ | refine PCall.pure (constantsp_c _) (WkT.refl _) ?_ | refine PCall.pure (constantsp_c _) cA ?_ | refine PStore.box rfl rfl rfl ?_ | refine PBytes.mk ?_ | refine PMapPut.set ?_ | refine PMapDel.set ?_ | intro _ | refine PSeq.go ?_); conv => whnf) | (refine PCond.ways (fun hc => ?_) (fun hc => ?_) <;> (try simp only [SS, not_true_eq_false, not_false_eq_true, false_and, and_false, true_and, and_true, true_or, or_true, false_or, or_false] at hc) <;> first | (exfalso; omega) | (conv => whnf)))
            · have hn := hc
              rw [Option.isSome_eq_false_iff, Option.isNone_iff_eq_none] at hn
              exact PRet.pure (Wk.int (by rw [ht, hn]; rfl))
            · obtain ⟨⟨s6, b6⟩, e6⟩ := Option.isSome_iff_exists.mp hc
              obtain ⟨rfl, rfl, rfl⟩ := hs5 s6 b6 e6
              have hbd6 := Trm.ckP_bd _ _ _ _ _ _ _ _ _ _ _ e6
              rw [e6] at ht
              exact loopTo (i + 1, sz5, b6, pb5) ⟨by show i + 1 ≤ _; omega, by show (0 : Int) ≤ sz5; omega, hbd6.2.1, ht⟩ (by show m.codes.length - (i + 1) < m.codes.length - i; omega) wA
          · have hb1 : (bindR m.codes[i].v bd).1 = false := by simpa using hg2
            rw [if_neg (by rw [hb1]; simp)] at ht
            conv => whnf
            repeat' (first | ((first | ((first | (apply PGuard.lazy; intro hg) | apply PStb.of); (focus ((conv => whnf); (repeat ((first | refine PNeed.of gA ?_ | refine PLoad.box rfl ?_ | refine PLook.set ?_ | refine PSide.of bA ?_ | refine PSide.of rfl ?_ | refine PRow.one rfl rfl ?_ | refine PRow.none ?_ | refine PLoad.ep rfl ?_ | refine PLen.map ?_ | refine PIndexS.ix OA OA ?_ | refine PIndexA.ix OA OA ?_ | refine PIndexA.lit rfl ?_ | refine PInt.ok OA OA ?_ | refine PDiv.of OA ?_ | refine PSide.of NA ?_ | refine PSliceS.lo OA OA ?_ | refine PSliceL.lo OA OA ?_ | refine PSliceS.hi OA OA ?_ | refine PSliceL.hi OA OA ?_ | refine PCall.pure (constantsp_c _) (WkT.refl _) ?_ | refine PCall.pure (constantsp_c _) cA ?_ | intro _); conv => whnf)); exact And.intro rfl rfl))) | refine PLoad.box rfl ?_ | refine PLook.set ?_ | refine PSide.of bA ?_ | refine PSide.of rfl ?_ | refine PRow.one rfl rfl ?_ | refine PRow.none ?_ | refine PLoad.ep rfl ?_ | refine PLen.map ?_ | refine PIndexS.ix oA oA ?_ | refine PIndexA.ix oA oA ?_ | refine PIndexA.lit rfl ?_ | refine PInt.ok oA oA ?_ | refine PDiv.of oA ?_ | refine PSide.of nA ?_ | refine PSliceS.lo oA oA ?_ | refine PSliceL.lo oA oA ?_ | refine PSliceS.hi oA oA ?_ | refine PSliceL.hi oA oA ?_ | refine PCall.pure (constantsp_c _) (WkT.refl _) ?_ | refine PCall.pure (constantsp_c _) cA ?_ | refine PStore.box rfl rfl rfl ?_ | refine PBytes.mk ?_ | refine PMapPut.set ?_ | refine PMapDel.set ?_ | intro _ | refine PSeq.go ?_); conv => whnf) | (refine PCond.ways (fun hc => ?_) (fun hc => ?_) <;> (try simp only [SS, not_true_eq_false, not_false_eq_true, false_and, and_false, true_and, and_true, true_or, or_true, false_or, or_false] at hc) <;> first | (exfalso; omega) | (conv => whnf)))
            exact PRet.pure (Wk.int (by rw [ht]; rfl))
        · have hr1 : m.codes[i].rest = true ∧ m.codes[i].v = [] := by
            simp at hg1
            exact ⟨hg1.1, hg1.2⟩
          rw [if_pos hr1] at ht
          conv => whnf
          repeat' (first | ((first | ((first | (apply PGuard.lazy; intro hg) | apply PStb.of); (focus ((conv => whnf); (repeat ((first | refine PNeed.of gA ?_ | refine PLoad.box rfl ?_ | refine PLook.set ?_ | refine PSide.of bA ?_ | refine PSide.of rfl ?_ | refine PRow.one rfl rfl ?_ | refine PRow.none ?_ | refine PLoad.ep rfl ?_ | refine PLen.map ?_ | refine PIndexS.ix OA OA ?_ | refine PIndexA.ix OA OA ?_ | refine PIndexA.lit rfl ?_ | refine PInt.ok OA OA ?_ | refine PDiv.of OA ?_ | refine PSide.of NA ?_ | refine PSliceS.lo OA OA ?_ | refine PSliceL.lo OA OA ?_ | refine PSliceS.hi OA OA ?_ | refine PSliceL.hi OA OA ?_ | refine PCall.pure (constantsp_c _) (WkT.refl _) ?_ | refine PCall.pure (constantsp_c _) cA ?_ | intro _); conv => whnf)); exact And.intro rfl rfl))) | refine PLoad.box rfl ?_ | refine PLook.set ?_ | refine PSide.of bA ?_ | refine PSide.of rfl ?_ | refine PRow.one rfl rfl ?_ | refine PRow.none ?_ | refine PLoad.ep rfl ?_ | refine PLen.map ?_ | refine PIndexS.ix oA oA ?_ | refine PIndexA.ix oA oA ?_ | refine PIndexA.lit rfl ?_ | refine PInt.ok oA oA ?_ | refine PDiv.of oA ?_ | refine PSide.of nA ?_ | refine PSliceS.lo oA oA ?_ | refine PSliceL.lo oA oA ?_ | refine PSliceS.hi oA oA ?_ | refine PSliceL.hi oA oA ?_ | refine PCall.pure (constantsp_c _) (WkT.refl _) ?_ | refine PCall.pure (constantsp_c _) cA ?_ | refine PStore.box rfl rfl rfl ?_ | refine PBytes.mk ?_ | refine PMapPut.set ?_ | refine PMapDel.set ?_ | intro _ | refine PSeq.go ?_); conv => whnf) | (refine PCond.ways (fun hc => ?_) (fun hc => ?_) <;> (try simp only [SS, not_true_eq_false, not_false_eq_true, false_and, and_false, true_and, and_true, true_or, or_true, false_or, or_false] at hc) <;> first | (exfalso; omega) | (conv => whnf)))
          exact PRet.pure (Wk.int (by rw [ht]; rfl))
      · rw [List.drop_of_length_le (by omega), modP] at ht
        exact PRet.pure (Wk.int (by rw [ht]; rfl))
end Go.Cb
namespace Go.Cb
open Go.Proofs
set_option maxRecDepth 100000
set_option maxHeartbeats 4000000
theorem codsBulk_length : ∀ l : List Cod, l.length ≤ codsBulk l
  | [] => by simp
  | x :: l => by have := codsBulk_length l; have := x.body.bulk_eq; have : x.bulk = x.v.length + x.body.bulk := rfl; rw [codsBulk, List.length_cons]; omega
theorem termModules_c (m : Mdl) (hb : Datum.bulks m.consts + (m.body.bulk + codsBulk m.codes) ≤ 1048576) : ACallP Tryz.prog 12 [.agg m.cells] (.bool true) := by
  have he := mck_eq m
  have h1 := Datum.bulks_length m.consts
  have h2 := codsBulk_length m.codes
  have hf' : ∀ x ∈ m.codes, ACallP Tryz.prog 30 [.agg x.body.cells, .int .i64 100] (.bool (decide (0 ≤ x.body.few 100))) := fun x _ => few_c x.body 100 (by omega) (by omega)
  refine ACall.of_body tt_ok Tryz.func12 rfl rfl (n := 47) rfl rfl ?_
  conv => whnf
  repeat ((first | ((first | (apply PGuard.lazy; intro hg) | apply PStb.of); (focus ((conv => whnf); (repeat ((first | refine PNeed.of gA ?_ | refine PLoad.box rfl ?_ | refine PLook.set ?_ | refine PSide.of bA ?_ | refine PSide.of rfl ?_ | refine PRow.one rfl rfl ?_ | refine PRow.none ?_ | refine PLoad.ep rfl ?_ | refine PLen.map ?_ | refine PIndexS.ix OA OA ?_ | refine PIndexA.ix OA OA ?_ | refine PIndexA.lit rfl ?_ | refine PInt.ok OA OA ?_ | refine PDiv.of OA ?_ | refine PSide.of NA ?_ | refine PSliceS.lo OA OA ?_ | refine PSliceL.lo OA OA ?_ | refine PSliceS.hi OA OA ?_ | refine PSliceL.hi OA OA ?_ | refine PCall.pure (awake_c) (WkT.refl _) ?_ | refine PCall.pure (few_c m.body 300 (by omega) (by omega)) (WkT.refl _) ?_ | refine PCall.pure (FewAll_c m.consts 2000 (by omega) (by omega)) (WkT.refl _) ?_ | intro _); conv => whnf)); exact And.intro rfl rfl))) | refine PLoad.box rfl ?_ | refine PLook.set ?_ | refine PSide.of bA ?_ | refine PSide.of rfl ?_ | refine PRow.one rfl rfl ?_ | refine PRow.none ?_ | refine PLoad.ep rfl ?_ | refine PLen.map ?_ | refine PIndexS.ix oA oA ?_ | refine PIndexA.ix oA oA ?_ | refine PIndexA.lit rfl ?_ | refine PInt.ok oA oA ?_ | refine PDiv.of oA ?_ | refine PSide.of nA ?_ | refine PSliceS.lo oA oA ?_ | refine PSliceL.lo oA oA ?_ | refine PSliceS.hi oA oA ?_ | refine PSliceL.hi oA oA ?_ | refine PCall.pure (awake_c) (WkT.refl _) ?_ | refine PCall.pure (few_c m.body 300 (by omega) (by omega)) (WkT.refl _) ?_ | refine PCall.pure (FewAll_c m.consts 2000 (by omega) (by omega)) (WkT.refl _) ?_ | refine PStore.box rfl rfl rfl ?_ | refine PBytes.mk ?_ | refine PMapPut.set ?_ | refine PMapDel.set ?_ | refine PDraw.at_ (some 39) rfl tt_ok mixed [0, 1, 3, 7, 3, 31, 63, 127, 255] [0, 1, 2, 3, 4, 5, 6, 7, 8] [] [] [] (by kernel_rfl) ?_ | intro _); conv => whnf)
  conv => whnf
  repeat' (first | ((first | ((first | (apply PGuard.lazy; intro hg) | apply PStb.of); (focus ((conv => whnf); (repeat ((first | refine PNeed.of gA ?_ | refine PLoad.box rfl ?_ | refine PLook.set ?_ | refine PSide.of bA ?_ | refine PSide.of rfl ?_ | refine PRow.one rfl rfl ?_ | refine PRow.none ?_ | refine PLoad.ep rfl ?_ | refine PLen.map ?_ | refine PIndexS.ix OA OA ?_ | refine PIndexA.ix OA OA ?_ | refine PIndexA.lit rfl ?_ | refine PInt.ok OA OA ?_ | refine PDiv.of OA ?_ | refine PSide.of NA ?_ | refine PSliceS.lo OA OA ?_ | refine PSliceL.lo OA OA ?_ | refine PSliceS.hi OA OA ?_ | refine PSliceL.hi OA OA ?_ | refine PCall.pure (awake_c) (WkT.refl _) ?_ | refine PCall.pure (few_c m.body 300 (by omega) (by omega)) (WkT.refl _) ?_ | refine PCall.pure (FewAll_c m.consts 2000 (by omega) (by omega)) (WkT.refl _) ?_ | intro _); conv => whnf)); exact And.intro rfl rfl))) | refine PLoad.box rfl ?_ | refine PLook.set ?_ | refine PSide.of bA ?_ | refine PSide.of rfl ?_ | refine PRow.one rfl rfl ?_ | refine PRow.none ?_ | refine PLoad.ep rfl ?_ | refine PLen.map ?_ | refine PIndexS.ix oA oA ?_ | refine PIndexA.ix oA oA ?_ | refine PIndexA.lit rfl ?_ | refine PInt.ok oA oA ?_ | refine PDiv.of oA ?_ | refine PSide.of nA ?_ | refine PSliceS.lo oA oA ?_ | refine PSliceL.lo oA oA ?_ | refine PSliceS.hi oA oA ?_ | refine PSliceL.hi oA oA ?_ | refine PCall.pure (awake_c) (WkT.refl _) ?_ | refine PCall.pure (few_c m.body 300 (by omega) (by omega)) (WkT.refl _) ?_ | refine PCall.pure (FewAll_c m.consts 2000 (by omega) (by omega)) (WkT.refl _) ?_ | refine PStore.box rfl rfl rfl ?_ | refine PBytes.mk ?_ | refine PMapPut.set ?_ | refine PMapDel.set ?_ | refine PDraw.at_ (some 39) rfl tt_ok mixed [0, 1, 3, 7, 3, 31, 63, 127, 255] [0, 1, 2, 3, 4, 5, 6, 7, 8] [] [] [] (by kernel_rfl) ?_ | intro _ | refine PSeq.go ?_); conv => whnf) | (refine PCond.ways (fun hc => ?_) (fun hc => ?_) <;> (try simp only [SS, not_true_eq_false, not_false_eq_true, false_and, and_false, true_and, and_true, true_or, or_true, false_or, or_false] at hc) <;> first | (exfalso; omega) | (conv => whnf)))
  · exact PRet.pure (Wk.refl _)
  · refine PLoop.keep [2, 4, 23, 24, 25, 26, 27, 28, 29, 30, 31, 32, 33, 34, 35, 36, 37, 38] (fun i : Nat => [(4, .int .i64 i)]) (fun i => i ≤ m.codes.length) (fun i => m.codes.length - i) 0 (Nat.zero_le _) wA ?_
    rintro i hi
    conv => whnf
    repeat' (first | ((first | ((first | (apply PGuard.lazy; intro hg) | apply PStb.of); (focus ((conv => whnf); (repeat ((first | refine PNeed.of gA ?_ | refine PLoad.box rfl ?_ | refine PLook.set ?_ | refine PSide.of bA ?_ | refine PSide.of rfl ?_ | refine PRow.one rfl rfl ?_ | refine PRow.none ?_ | refine PLoad.ep rfl ?_ | refine PLen.map ?_ | refine PIndexS.ix OA OA ?_ | refine PIndexA.ix OA OA ?_ | refine PIndexA.lit rfl ?_ | refine PInt.ok OA OA ?_ | refine PDiv.of OA ?_ | refine PSide.of NA ?_ | refine PSliceS.lo OA OA ?_ | refine PSliceL.lo OA OA ?_ | refine PSliceS.hi OA OA ?_ | refine PSliceL.hi OA OA ?_ | refine PCall.pure (hf' _ (List.getElem_mem _)) (WkT.refl _) ?_ | refine PCall.pure (checkModuleP_c m (by omega) (by omega) (by omega)) (WkT.refl _) ?_ | refine PCall.pure (checkModule2_c m (by omega) (by omega) (by omega)) (WkT.refl _) ?_ | intro _); conv => whnf)); exact And.intro rfl rfl))) | refine PLoad.box rfl ?_ | refine PLook.set ?_ | refine PSide.of bA ?_ | refine PSide.of rfl ?_ | refine PRow.one rfl rfl ?_ | refine PRow.none ?_ | refine PLoad.ep rfl ?_ | refine PLen.map ?_ | refine PIndexS.ix oA oA ?_ | refine PIndexA.ix oA oA ?_ | refine PIndexA.lit rfl ?_ | refine PInt.ok oA oA ?_ | refine PDiv.of oA ?_ | refine PSide.of nA ?_ | refine PSliceS.lo oA oA ?_ | refine PSliceL.lo oA oA ?_ | refine PSliceS.hi oA oA ?_ | refine PSliceL.hi oA oA ?_ | refine PCall.pure (hf' _ (List.getElem_mem _)) (WkT.refl _) ?_ | refine PCall.pure (checkModuleP_c m (by omega) (by omega) (by omega)) (WkT.refl _) ?_ | refine PCall.pure (checkModule2_c m (by omega) (by omega) (by omega)) (WkT.refl _) ?_ | refine PStore.box rfl rfl rfl ?_ | refine PBytes.mk ?_ | refine PMapPut.set ?_ | refine PMapDel.set ?_ | refine PDraw.at_ (some 39) rfl tt_ok mixed [0, 1, 3, 7, 3, 31, 63, 127, 255] [0, 1, 2, 3, 4, 5, 6, 7, 8] [] [] [] (by kernel_rfl) ?_ | intro _ | refine PSeq.go ?_); conv => whnf) | (refine PCond.ways (fun hc => ?_) (fun hc => ?_) <;> (try simp only [SS, not_true_eq_false, not_false_eq_true, false_and, and_false, true_and, and_true, true_or, or_true, false_or, or_false] at hc) <;> first | (exfalso; omega) | (conv => whnf)))
    · exact PRet.pure (Wk.refl _)
    · exact loopTo (i + 1) (by show i + 1 ≤ _; omega) (by show _ - (i + 1) < _ - i; omega) wA
    · exact PRet.pure (Wk.bool (by rw [he]; simp))
end Go.Cb
namespace Go.Cb
open Go.Proofs Go.Proofs.YtgkpjajioancmaaGreatDoor
section
variable {H : Type} {enc : TypeId × Value → H} {w : World}
theorem cM : Tryz.prog.cellsOf 66 = 6 := by kernel_rfl
theorem cC : Tryz.prog.cellsOf 68 = 6 := by kernel_rfl
theorem cCs : Tryz.prog.cellsOf 64 = 1 := by kernel_rfl
theorem rdC (n : Nat) : Rd enc Tryz.prog w Rows.uptoBulk n 68 Cod.cells Cod.bulk := by
  intro cs x h
  obtain ⟨xs, m, rfl, rfl, hl, hlen, hf⟩ := DataW.trod_struct Tryz.underlying68 h
  obtain ⟨a0, y0, e0, r0, b0⟩ := rd_field (rd_ints (w := w) (enc := enc) bulkR Tryz.underlying3 Tryz.underlying27 cInt m) hlen hf 0 rfl cInts
  obtain ⟨a1, y1, e1, r1, b1⟩ := rd_field (rd_bool (w := w) (enc := enc) bulkR Tryz.underlying4 m) hlen hf 1 rfl cBool
  obtain ⟨a2, y2, e2, r2, b2⟩ := rd_field (rdT (w := w) (enc := enc) m) hlen hf 2 rfl cT
  refine ⟨⟨a0, a1, a2⟩, ?_, ?_⟩
  · have := repL_cat r0 (repL_cat r1 (repL_cat r2 (repL_end (hl.trans cC))))
    rwa [List.append_nil] at this
  · match xs, hlen with
    | [z0, z1, z2], _ =>
      simp at e0 e2
      subst e0 e2
      have := (bulkR (H := H)).agg ([z0, z1, z2].map (·.1))
      simp only [List.map_cons, List.map_nil, (bulkR (H := H)).cons, (bulkR (H := H)).nil] at this
      show a0.length + a2.bulk ≤ _
      simp only [List.map_cons, List.map_nil]
      omega
theorem sumBk_cod : ∀ l : List Cod, sumBk Cod.bulk l = codsBulk l
  | [] => rfl
  | x :: l => by rw [sumBk, codsBulk, sumBk_cod l]
def Mdl.bulk (m : Mdl) : Nat := Datum.bulks m.consts + (m.body.bulk + codsBulk m.codes)
theorem rdM (n : Nat) : Rd enc Tryz.prog w Rows.uptoBulk n 66 Mdl.cells Mdl.bulk := by
  intro cs x h
  obtain ⟨xs, m, rfl, rfl, hl, hlen, hf⟩ := DataW.trod_struct Tryz.underlying66 h
  obtain ⟨a0, y0, e0, r0, b0⟩ := rd_field (rdDs (w := w) (enc := enc) m) hlen hf 0 rfl cDs
  obtain ⟨a1, y1, e1, r1, b1⟩ := rd_field (rd_slice (pv := Cod.pv) bulkR Tryz.underlying64 cC (by omega) (fun a => rfl) (fun k hk => rdC (w := w) (enc := enc) k)) hlen hf 1 rfl cCs
  obtain ⟨a2, y2, e2, r2, b2⟩ := rd_field (rdT (w := w) (enc := enc) m) hlen hf 2 rfl cT
  refine ⟨⟨a0, a1, a2⟩, ?_, ?_⟩
  · have := repL_cat r0 (repL_cat r1 (repL_cat r2 (repL_end (hl.trans cM))))
    rwa [List.append_nil] at this
  · match xs, hlen with
    | [z0, z1, z2], _ =>
      simp at e0 e1 e2
      subst e0 e1 e2
      have := (bulkR (H := H)).agg ([z0, z1, z2].map (·.1))
      simp only [List.map_cons, List.map_nil, (bulkR (H := H)).cons, (bulkR (H := H)).nil] at this
      rw [sumBk_cod] at b1
      show Datum.bulks a0 + (a2.bulk + codsBulk a1) ≤ _
      simp only [List.map_cons, List.map_nil]
      omega
theorem okM : Tryz.prog.readableRec 66 = true ∧ 66 < Tryz.prog.types.size := ⟨by kernel_rfl, of_decide_eq_true (by kernel_rfl)⟩
end
end Go.Cb
namespace Go.Proofs.YtgkpjajioancmaaGreatDoor
set_option maxRecDepth 100000
set_option maxHeartbeats 4000000
open Go Go.Cb Go.ChangeShapes Go.WideShapes Go.ChangeAt Go.RowKit
theorem termModules_contract (H : Type) (enc : TypeId × Value → H) (F : Stop.Interp) (W : World) (base : Nat) (args : Array Value) (ds gs : List (DataW H)) (before : List MemPlace)
    (hval : ∀ (j : Nat) t v, Tryz.f12.params[j]? = some t → args[j]? = some v → Value.okWide Tryz.prog W .any base t v)
    (hW : DataW.Whole enc Tryz.prog Tryz.f12.params.toList ((Rows.OpenSpec.upto Rows.termModulesSpec).at F).vars false W args.toList ds gs before)
    (hcond : Rows.uptoSmall H (ds ++ gs) = true) :
    Calls Tryz.prog 12 args W fun e W' => ∃ v, e = .returned v ∧ ((Rows.OpenSpec.upto Rows.termModulesSpec).at F).post enc Tryz.prog Tryz.f12 false true false false W args v W' := by
  have hW' := hW
  obtain ⟨p, q, hA0, hV, rfl, hfz, hnd⟩ := hW
  have hA : DataW.TrodAll enc Tryz.prog W 0 (fun _ => true) true Tryz.f12.params.toList args.toList ds p := hA0
  rw [Tryz.params12] at hA hval
  obtain ⟨v0, vs0, d0, ds0, p0, q0, hargs, rfl, rfl, h0, r0⟩ := trodAll_cons hA
  obtain ⟨rfl, rfl, rfl⟩ := trodAll_nil r0
  obtain rfl : args = #[v0] := by cases args; simp_all
  obtain ⟨a0, hp0, hb0⟩ := arg_struct Tryz.underlying66 rdM (hval 0 _ v0 rfl rfl) h0
  have hb := of_decide_eq_true hcond
  simp only [List.cons_append, Rows.uptoBulkAll] at hb
  have hl0 := Datum.bulks_length a0.consts
  have hk0 := codsBulk_length a0.codes
  have hq0 : Datum.bulks a0.consts + (a0.body.bulk + codsBulk a0.codes) ≤ Rows.uptoBulk d0 := hb0
  refine (calls_true (termModules_c a0 (by omega)) (vs := [v0]) (by simp only [RepT, and_true]; exact hp0)).mono ?_
  rintro e W' ⟨rfl, hbel⟩
  exact ⟨_, rfl, law_post laidOut (fun t ht => by
    rw [Tryz.params12] at ht
    simp only [List.mem_cons, List.mem_nil_iff, or_false] at ht
    subst ht
    exact okM) (by kernel_rfl) Tryz.underlying4 rfl (fun ds hd => by
    rw [Tryz.params12] at hd
    match ds, hd with
    | [a], _ => rfl) hW' hbel⟩
def termModules_args : Array Value := #[.agg #[.slice none 0 0, .slice none 0 0, .int .i64 0, .int .i64 0, .slice none 0 0, .slice none 0 0]]
theorem termModules_witness (os : Os) {H : Type} (enc : TypeId × Value → H) :
    (Rows.OpenSpec.upto Rows.termModulesSpec).preRow enc Tryz.prog Tryz.f12 Rows.termModulesUptoRow.domain false Rows.termModulesUptoRow.laid ((laidWorld os).forCall (fun _ _ => 0) ⟨#[], termModules_args, []⟩).memory termModules_args := by
  have hw : (DataW.whole enc Tryz.prog ((laidWorld os).forCall (fun _ _ => 0) ⟨#[], termModules_args, []⟩).memory Tryz.f12.params.toList (Rows.OpenSpec.upto Rows.termModulesSpec).vars false termModules_args.toList 8).map (fun x => (x.1, x.2.1)) =
      some ([.agg [.nil, .nil, .agg [.lit (.int .i64 0), .lit (.int .i64 0), .nil, .nil]]], []) := by kernel_rfl
  obtain ⟨⟨x1, x2, x3⟩, hx, hx1⟩ := Option.map_eq_some_iff.1 hw
  simp only [Prod.mk.injEq] at hx1
  obtain ⟨rfl, rfl⟩ := hx1
  exact OpenSpec.preRow_of_cond 8 hx (by kernel_rfl) (fun k hk => by cases hk; kernel_rfl) (by kernel_rfl) (laid_met os _)
theorem termModules_lifted (os : Os) (started : os.Started) (H : Type) (enc : TypeId × Value → H) (F : Stop.Interp) :
    ReturnsInHanded {} Tryz.checked os 12 .any ((Rows.OpenSpec.upto Rows.termModulesSpec).preRow enc Tryz.prog Tryz.f12 Rows.termModulesUptoRow.domain false Rows.termModulesUptoRow.laid) (((Rows.OpenSpec.upto Rows.termModulesSpec).at F).post enc Tryz.prog Tryz.f12 false true false false) := by
  refine returnsInHanded_of_row (C := Tryz.checked) (s := Rows.OpenSpec.upto Rows.termModulesSpec) own_none started (by kernel_rfl) Tryz.func12
    (witness_row_atRef (enc := enc) (C := Tryz.checked) false (laidWorld os) termModules_args rfl (by kernel_rfl) (by kernel_rfl) (by kernel_rfl) (termModules_witness os enc)) ?_
  intro W base args ds gs before hval hW _ hcond _ hL _ _
  exact termModules_contract H enc F W base args ds gs before hval hW (hcond _ rfl)
theorem termModules_name : Tryz.prog.funcNamed Rows.termModulesUptoRow.func = some 12 := by kernel_rfl
theorem termModules_inst : Tryz.f12.isInstance Tryz.prog Rows.termModulesUptoRow.origin Rows.termModulesUptoRow.targs := of_decide_eq_true (by kernel_rfl)
theorem termModules_wrap : Tryz.f12.isWrapper Tryz.prog Rows.termModulesUptoRow.wrapper Rows.termModulesUptoRow.mainSum := by
  unfold Func.isWrapper
  rw [if_neg (of_decide_eq_false (by kernel_rfl))]
  exact ⟨rfl, rfl⟩
theorem termModules_facts : joinedFacts Tryz.prog 12 Tryz.f12 (Rows.OpenSpec.upto Rows.termModulesSpec).bare Rows.termModulesUptoRow = true := by kernel_rfl
theorem termModules_said : Rows.TermModulesUptoSaid :=
  OpenClaim.holds_of_cond 12 Tryz.f12 rfl rfl rfl rfl rfl rfl rfl ⟨rfl, rfl, rfl, rfl, rfl⟩ rfl rfl rfl rfl rfl termModules_name Tryz.func12 termModules_facts termModules_inst termModules_wrap
    (fun os started H enc _ F => by rw [OpenClaim.pre_eq_preRow]; exact termModules_lifted os started H enc F)
theorem termModules_plain (f : FuncId) (fn : Func) (hf : Tryz.pinned.checked.prog.funcNamed Rows.termModulesUptoRow.func = some f) (hfn : Tryz.pinned.checked.prog.funcs[f]? = some fn) :
    true = Tryz.pinned.checked.prog.looks [] ∧ ∀ (j : Nat) t, fn.params[j]? = some t → Tryz.pinned.checked.prog.wantsStandIn t = false := by
  obtain rfl : f = 12 := Option.some.inj (termModules_name.symm.trans hf) |>.symm
  obtain rfl : fn = Tryz.f12 := (Option.some.inj (Tryz.func12.symm.trans hfn)).symm
  refine ⟨by kernel_rfl, fun j t ht => ?_⟩
  rw [Tryz.params12] at ht
  have hm := Array.mem_of_getElem? ht
  simp only [List.mem_toArray, List.mem_cons, List.mem_nil_iff, or_false] at hm
  subst hm
  exact (show Tryz.prog.wantsStandIn 66 = false by kernel_rfl)
theorem termModules_card : Rows.TermModulesUptoCardSaid :=
  Claim7.holds_tied_plain_at .later [] _ _ _ _ termModules_said (fun _ h => by cases h) (by kernel_rfl) (fun _ h => by cases h) termModulesUpto_row_tie rfl ⟨rfl, rfl⟩ (by kernel_rfl) rfl termModules_plain (by kernel_rfl)
end Go.Proofs.YtgkpjajioancmaaGreatDoor
