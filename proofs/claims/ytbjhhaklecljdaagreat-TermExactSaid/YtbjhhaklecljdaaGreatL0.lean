/-
  The library functions slices.IndexFunc and ContainsFunc, and the layings of the sorts.
-/
import Derived.Test.YtbjhhaklecljdaaGreatA2
import Derived.Test.YtbjhhaklecljdaaGreatProg
import Derived.Ground.SlsfProg
import Derived.Ground.NamesProg
import Derived.Shelf.SlSortCmp.NoneTotal
import Derived.Shelf.Lays
section
namespace Go.Aw
set_option linter.unusedVariables false
set_option linter.unusedSimpArgs false
set_option maxRecDepth 20000
attribute [local go_sem] X_skip X_ops X_dops X_seq X_cond X_block X_loop X_exit X_ret LR_nil LR_cons LR_guard LS_def LD_nil LD_cons LD_guard DO_def ite_imp W_pure W_fail W_guard W_get W_put W_new W_del callee aop rho mkE mkH putE remK AM.lwp aload astore aindex aslice Aw.intOf abuild abuildSlice aparts abuiltin abin abinT abits aeqs anil asrc aappend aappendTo partOf splice AV.cells ofValue ofScalar FreshL noRefE noRefH AV.has AV.hasL AV.hasLL AObj.has AV.leaf AV.leafL AV.leafLL lenAll_nil lenAll_cons lenAll_app someArr noneArr sub_toNat take_map drop_map take_drop_len aw_wrap1 one_add len_take set_snoc getD_snoc List.length_singleton take_ge Nat.add_sub_of_le List.take_length take_len_app Int.sub_zero List.length_drop Nat.sub_zero aclear aclearB isClear withMap alookup aupdate arange aentry adelete setEntry findK sameK keyOk keysOk sameL lnext footD opRefs wrOf wrRefs headRefs isW quietB items freshN Op.operands Call.operands AV.refs AV.refsL keepL keepH argE finP finE finO finC sealN0 sealNL0 sealNA sealNL1 sealN1 getD_map_lt nat_nonneg nat_neg cast_lt cast_le zero_lt_cast cast_le_zero cast_eq_zero zero_eq_cast Nat.succ_ne_zero Nat.add_one_ne_zero Int.toNat_natCast lresL retVal seal0 seal1 sealL0 sealA sealL1 List.map List.append List.cons_append List.nil_append List.flatMap_cons List.flatMap_nil List.getD_cons_zero List.getD_cons_succ List.length_cons List.length_nil List.take List.drop List.set List.mem_cons List.not_mem_nil List.toList_toArray List.map_cons List.map_nil Option.map_some Option.map_none if_true if_false ite_true ite_false true_and and_true not_false_eq_true not_true_eq_false implies_true forall_const Bool.false_eq_true decide_true decide_false eq_self and_self false_and and_false or_self or_true true_or or_false false_or ne_eq Nat.zero_add Nat.add_zero Bool.or_false Bool.false_or Option.isSome_some imp_self false_implies forall_const Int.cast_ofNat_Int decide_eq_true_eq decide_eq_false_iff_not Bool.not_true Bool.not_false Bool.true_eq_false Bool.false_eq_true Nat.sub_self AV.int.injEq AV.bool.injEq AV.str.injEq AV.tup.injEq AV.agg.injEq AV.isl.injEq cond_true cond_false pick_bool pick_int arr1_0 arr2_0 arr2_1 arr1_size arr2_size Nat.lt_add_one Nat.zero_lt_succ Nat.zero_lt_one Option.isSome_none Bool.and_true Bool.true_and Bool.false_and Bool.and_false remKs rep0 rep1 rep2 rep3 rep4 rep5 rep6 rep7 rep8 List.getLast?_concat renP_app hasP_app Array.toList_append hasLL_app renLL_app leafLL_app take_all forall_eq List.length_map List.length_append Nat.le_refl List.take_zero List.drop_zero Nat.lt_irrefl List.map_append
def idxC_L0 (tS tE tI : Nat) : ACode :=
  .seq (.ops 3000 [⟨some 9, (Op.binOp BinOp.lss tI (Operand.tmp 8) (Operand.tmp 7) tI), none⟩]) (.seq (.cond (Operand.tmp 9) (.skip) (.exit 0)) (.seq (.block 1 (.seq (.ops 4000 [⟨some 10, (Op.move (Operand.tmp 8)), none⟩,
  ⟨some 5, (Op.assign (Operand.tmp 10)), none⟩]) (.seq (.ops 5000 [⟨some 11, (Op.move (Operand.tmp 1)), none⟩,
  ⟨some 12, (Op.move (Operand.tmp 0)), none⟩,
  ⟨some 13, (Op.move (Operand.tmp 5)), none⟩,
  ⟨some 14, (Op.indexAddr tS (Operand.tmp 12) (Operand.tmp 13)), none⟩,
  ⟨some 15, (Op.load tE (Operand.tmp 14)), none⟩,
  ⟨some 16, (Op.call { callee := (Callee.value (Operand.tmp 11)), args := #[(Operand.tmp 15)], argTypes := #[tE] }), none⟩]) (.cond (Operand.tmp 16) (.seq (.ops 6000 [⟨some 17, (Op.move (Operand.tmp 5)), none⟩,
  ⟨some 4, (Op.assign (Operand.tmp 17)), none⟩]) (.ret)) (.skip))))) (.ops 7000 [⟨some 18, (Op.binOp BinOp.add tI (Operand.tmp 8) (Operand.const (Value.int IntKind.i64 1)) tI), none⟩,
  ⟨some 8, (Op.move (Operand.tmp 18)), none⟩])))
def idxC (tS tE tI : Nat) : ACode :=
  .seq (.ops 1000 [⟨some 4, (Op.assign (Operand.const (Value.int IntKind.i64 0))), none⟩]) (.seq (.seq (.ops 2000 [⟨some 6, (Op.move (Operand.tmp 0)), none⟩,
  ⟨some 7, (Op.call { callee := (Callee.builtin Builtin.len), args := #[(Operand.tmp 6)], argTypes := #[tS] }), none⟩,
  ⟨some 8, (Op.move (Operand.const (Value.int IntKind.i64 0))), none⟩]) (.block 0 (.loop (idxC_L0 tS tE tI)))) (.seq (.ops 8000 [⟨some 4, (Op.assign (Operand.const (Value.int IntKind.i64 (-1)))), none⟩]) (.ret)))

def conC (tS tF tI fI : Nat) : ACode :=
  .seq (.ops 1000 [⟨some 4, (Op.assign (Operand.const (Value.bool false))), none⟩]) (.seq (.ops 2000 [⟨some 5, (Op.move (Operand.tmp 0)), none⟩,
  ⟨some 6, (Op.move (Operand.tmp 1)), none⟩,
  ⟨some 7, (Op.call { callee := (Callee.value (Operand.func fI)), args := #[(Operand.tmp 5), (Operand.tmp 6)], argTypes := #[tS, tF] }), none⟩,
  ⟨some 8, (Op.binOp BinOp.geq tI (Operand.tmp 7) (Operand.const (Value.int IntKind.i64 0)) tI), none⟩,
  ⟨some 4, (Op.assign (Operand.tmp 8)), none⟩]) (.ret))

/-- Where the first one is that p holds of, or -1. -/
def idx {α : Type} (p : α → Bool) (xs : List α) : Int := match xs.findIdx? p with
  | some i => i
  | none => -1
theorem idx_at {α : Type} {p : α → Bool} {xs : List α} {i : Nat} (hi : i < xs.length) (h : p xs[i] = true) (hb : ∀ j (hj : j < xs.length), j < i → p xs[j] = false) : idx p xs = i := by
  have : xs.findIdx? p = some i := by
    rw [List.findIdx?_eq_some_iff_getElem]
    exact ⟨hi, h, fun j hj => by simpa using hb j (by omega) hj⟩
  simp [idx, this]
theorem idx_none {α : Type} {p : α → Bool} {xs : List α} (hb : ∀ j (hj : j < xs.length), p xs[j] = false) : idx p xs = -1 := by
  have : xs.findIdx? p = none := by
    rw [List.findIdx?_eq_none_iff]
    intro x hx
    obtain ⟨j, hj, rfl⟩ := List.getElem_of_mem hx
    exact hb j hj
  simp [idx, this]

variable {P : Program} {tS tE tI k : Nat} {gE : Bool} {G : FuncId} {fn : Func}
theorem IndexFunc_pure {α : Type} (hm : P.follows .mixedOrders = true) (hE : Enters P G) (hf : P.funcs[G]? = some fn) (hc : fn.body.bind (absCode fn.ntmps) = some (idxC tS tE tI)) (hr : fn.results.toList = [.tmp 4]) (hN : fn.ntmps = 19)
    (h1 : tElem P tS = some tE) (h2 : tSize P tE = some k) (h3 : tAgg P tE = some gE) (h0 : 0 < k) (hg : gE = false → k = 1)
    (enc : α → List AV) (hk : ∀ x, (enc x).length = k) (hl : ∀ x, AV.leafL (enc x) = true) (p : α → Bool) (f : FuncId) (caps : List AV) (hcap : AV.refsL caps = []) (xs : List α) (fl : Flag) (hlen : xs.length < 4611686018427387904)
    (hp : ∀ x ∈ xs, PureP P f (partOf gE k 0 (enc x) :: caps) (· = .bool (p x))) :
    PureP P G [.isl fl (xs.map enc), .func (.func f) [] caps] (· = .int .i64 (idx p xs)) := by
  refine PureE.run hm hE hf hc hr (by rw [hN]; rfl) rfl ?_
  have hhas : ∀ n, AV.hasL n caps = false := fun n => by
    cases h : AV.hasL n caps with
    | false => rfl
    | true => rw [hasL_refs, hcap] at h; simp at h
  simp (config := { implicitDefEqProofs := false, decide := true }) only [go_sem, Nat.reduceEqDiff, Nat.reduceAdd, Nat.reduceMul, Nat.reduceSub, Nat.reduceLT, Nat.reduceLeDiff, Nat.reduceBEq, reduceCtorEq, Int.reduceLT, Int.reduceLE, Int.reduceEq, Int.reduceToNat, Int.reduceAdd, Int.reduceSub, Int.reduceMul, Int.reduceNeg, Nat.reduceLT, ↓reduceIte, idxC, h1, h2, h3, hhas]
  refine LL.intro hm (ι := { i : Nat // i ≤ xs.length ∧ ∀ j (hj : j < xs.length), j < i → p xs[j] = false }) (fun i => [(8, .int .i64 i.1), (7, .int .i64 xs.length), (1, .func (.func f) [] caps), (0, .isl fl (xs.map enc))]) (fun _ => [])
    (fun i => xs.length - i.1) ⟨0, by omega, fun j _ h => by omega⟩ ⟨ap [], ?_⟩ ?_
  · have hren : ∀ f, AV.renL f caps = caps := fun f => renL_id caps hcap
    simp (config := { implicitDefEqProofs := false, decide := true }) only [go_sem, Nat.reduceEqDiff, Nat.reduceAdd, Nat.reduceMul, Nat.reduceSub, Nat.reduceLT, Nat.reduceLeDiff, Nat.reduceBEq, reduceCtorEq, Int.reduceLT, Int.reduceLE, Int.reduceEq, Int.reduceToNat, Int.reduceAdd, Int.reduceSub, Int.reduceMul, Int.reduceNeg, Nat.reduceLT, ↓reduceIte, AV.renP, LeL, leE, leH, apartH, injH, keptS, ap, AV.ren, AV.renL, AV.renLL, AObj.ren, hren, List.length_map]
  · rintro ⟨i, hi, hb⟩
    rcases Nat.lt_or_ge i xs.length with hlt | hge
    · have hget : (List.map enc xs).getD i [] = enc xs[i] := by simp [List.getD_eq_getElem?_getD, hlt]
      have hd : i < xs.length := by omega
      have hg1 : i < xs.length := by omega
      simp (config := { implicitDefEqProofs := false, decide := true }) only [go_sem, Nat.reduceEqDiff, Nat.reduceAdd, Nat.reduceMul, Nat.reduceSub, Nat.reduceLT, Nat.reduceLeDiff, Nat.reduceBEq, reduceCtorEq, Int.reduceLT, Int.reduceLE, Int.reduceEq, Int.reduceToNat, Int.reduceAdd, Int.reduceSub, Int.reduceMul, Int.reduceNeg, Nat.reduceLT, ↓reduceIte, idxC_L0, h1, h2, h3, hhas, hd, hget, Int.toNat_natCast, List.length_map, hg1, hk, hl, h0, hg, Nat.le_refl]
      refine ⟨hg, LC.val (by have := hp xs[i] (List.getElem_mem hlt); simpa only [partOf, List.drop_zero, List.take_of_length_le (Nat.le_of_eq (hk _))] using this) ?_⟩
      cases hpi : p xs[i] with
      | true =>
        simp (config := { implicitDefEqProofs := false, decide := true }) only [go_sem, Nat.reduceEqDiff, Nat.reduceAdd, Nat.reduceMul, Nat.reduceSub, Nat.reduceLT, Nat.reduceLeDiff, Nat.reduceBEq, reduceCtorEq, Int.reduceLT, Int.reduceLE, Int.reduceEq, Int.reduceToNat, Int.reduceAdd, Int.reduceSub, Int.reduceMul, Int.reduceNeg, Nat.reduceLT, ↓reduceIte, hpi, hhas]
        exact idx_at hlt hpi hb
      | false =>
        simp (config := { implicitDefEqProofs := false, decide := true }) only [go_sem, Nat.reduceEqDiff, Nat.reduceAdd, Nat.reduceMul, Nat.reduceSub, Nat.reduceLT, Nat.reduceLeDiff, Nat.reduceBEq, reduceCtorEq, Int.reduceLT, Int.reduceLE, Int.reduceEq, Int.reduceToNat, Int.reduceAdd, Int.reduceSub, Int.reduceMul, Int.reduceNeg, Nat.reduceLT, ↓reduceIte, hpi, hhas]
        refine ⟨⟨i + 1, by omega, fun j hj hji => ?_⟩, by simp; omega, ap [], ?_⟩
        · rcases Nat.lt_or_ge j i with h | h
          · exact hb j hj h
          · have : j = i := by omega
            subst this; exact hpi
        · have hren : ∀ f, AV.renL f caps = caps := fun f => renL_id caps hcap
          simp (config := { implicitDefEqProofs := false, decide := true }) only [go_sem, Nat.reduceEqDiff, Nat.reduceAdd, Nat.reduceMul, Nat.reduceSub, Nat.reduceLT, Nat.reduceLeDiff, Nat.reduceBEq, reduceCtorEq, Int.reduceLT, Int.reduceLE, Int.reduceEq, Int.reduceToNat, Int.reduceAdd, Int.reduceSub, Int.reduceMul, Int.reduceNeg, Nat.reduceLT, ↓reduceIte, AV.renP, LeL, leE, leH, apartH, injH, keptS, ap, AV.ren, AV.renL, AV.renLL, AObj.ren, hren, List.length_map]
          exact eq_wrap (by simp) (by omega) (by omega)
    · have hd : ¬ i < xs.length := by omega
      simp (config := { implicitDefEqProofs := false, decide := true }) only [go_sem, Nat.reduceEqDiff, Nat.reduceAdd, Nat.reduceMul, Nat.reduceSub, Nat.reduceLT, Nat.reduceLeDiff, Nat.reduceBEq, reduceCtorEq, Int.reduceLT, Int.reduceLE, Int.reduceEq, Int.reduceToNat, Int.reduceAdd, Int.reduceSub, Int.reduceMul, Int.reduceNeg, Nat.reduceLT, ↓reduceIte, idxC_L0, hd]
      exact idx_none fun j hj => hb j hj (by omega)

/-- .. and whether there is one. -/
theorem ContainsFunc_pure {α : Type} {tF fI : Nat} (hm : P.follows .mixedOrders = true) (hE : Enters P G) (hf : P.funcs[G]? = some fn) (hc : fn.body.bind (absCode fn.ntmps) = some (conC tS tF tI fI)) (hr : fn.results.toList = [.tmp 4]) (hN : fn.ntmps = 9)
    {args : List AV} (hargs : args.length = 2) (p : α → Bool) (xs : List α)
    (hi : PureP P fI args (· = .int .i64 (idx p xs))) : PureP P G args (· = .bool (xs.any p)) := by
  obtain ⟨x, y, rfl⟩ : ∃ x y, args = [x, y] := by
    match args, hargs with
    | [x, y], _ => exact ⟨x, y, rfl⟩
  refine PureE.run hm hE hf hc hr (by rw [hN]; rfl) rfl ?_
  simp (config := { implicitDefEqProofs := false, decide := true }) only [go_sem, Nat.reduceEqDiff, Nat.reduceAdd, Nat.reduceMul, Nat.reduceSub, Nat.reduceLT, Nat.reduceLeDiff, Nat.reduceBEq, reduceCtorEq, Int.reduceLT, Int.reduceLE, Int.reduceEq, Int.reduceToNat, Int.reduceAdd, Int.reduceSub, Int.reduceMul, Int.reduceNeg, Nat.reduceLT, ↓reduceIte, conC]
  refine LC.val hi ?_
  simp (config := { implicitDefEqProofs := false, decide := true }) only [go_sem, Nat.reduceEqDiff, Nat.reduceAdd, Nat.reduceMul, Nat.reduceSub, Nat.reduceLT, Nat.reduceLeDiff, Nat.reduceBEq, reduceCtorEq, Int.reduceLT, Int.reduceLE, Int.reduceEq, Int.reduceToNat, Int.reduceAdd, Int.reduceSub, Int.reduceMul, Int.reduceNeg, Nat.reduceLT, ↓reduceIte]
  rw [Bool.eq_iff_iff]
  simp only [decide_eq_true_eq, List.any_eq_true]
  cases h : xs.findIdx? p with
  | none =>
    simp only [idx, h]
    rw [List.findIdx?_eq_none_iff] at h
    constructor
    · rintro ⟨x, hx, hp⟩; rw [h x hx] at hp; cases hp
    · intro h'; omega
  | some i =>
    simp only [idx, h]
    obtain ⟨hi, hp, _⟩ := List.findIdx?_eq_some_iff_getElem.1 h
    exact ⟨fun _ => by omega, fun _ => ⟨_, List.getElem_mem hi, hp⟩⟩
end Go.Aw
end
namespace Go.Proofs
open Go.Shelf
def Tryz.pdqT_ren : Go.Shelf.Ren := ⟨fun | 14 => 84 | 20 => 93 | 21 => 94 | 22 => 95 | 23 => 96 | 24 => 97 | 25 => 98 | 26 => 99 | 27 => 100 | 46 => 106 | 47 => 107 | 48 => 108 | 49 => 109 | 50 => 110 | 15 => 85 | 57 => 128 | 28 => 101 | 29 => 102 | n => n, fun | 24 => 51 | 22 => 28 | 3 => 3 | 25 => 89 | 4 => 4 | 0 => 0 | 46 => 108 | 45 => 107 | 50 => 57 | 66 => 118 | 39 => 99 | 55 => 115 | 70 => 122 | 76 => 135 | 77 => 136 | 53 => 55 | 5 => 5 | 9 => 9 | n => n, fun | n => n⟩
theorem Tryz.pdqT : Go.Proofs.SlLaysF0.n14 Tryz.prog Tryz.pdqT_ren := {
  mixed := by kernel_rfl
  f14 := ⟨Tryz.f84.name, by decide, Tryz.func84.trans (congrArg some (by kernel_rfl))⟩
  f15 := Tryz.func85.trans (congrArg some (by kernel_rfl))
  f20 := ⟨Tryz.f93.name, by decide, Tryz.func93.trans (congrArg some (by kernel_rfl))⟩
  f21 := ⟨Tryz.f94.name, by decide, Tryz.func94.trans (congrArg some (by kernel_rfl))⟩
  f22 := ⟨Tryz.f95.name, by decide, Tryz.func95.trans (congrArg some (by kernel_rfl))⟩
  f23 := ⟨Tryz.f96.name, by decide, Tryz.func96.trans (congrArg some (by kernel_rfl))⟩
  f24 := ⟨Tryz.f97.name, by decide, Tryz.func97.trans (congrArg some (by kernel_rfl))⟩
  f25 := ⟨Tryz.f98.name, by decide, Tryz.func98.trans (congrArg some (by kernel_rfl))⟩
  f26 := ⟨Tryz.f99.name, by decide, Tryz.func99.trans (congrArg some (by kernel_rfl))⟩
  f27 := ⟨Tryz.f100.name, by decide, Tryz.func100.trans (congrArg some (by kernel_rfl))⟩
  f28 := Tryz.func101.trans (congrArg some (by kernel_rfl))
  f29 := Tryz.func102.trans (congrArg some (by kernel_rfl))
  f46 := ⟨Tryz.f106.name, by decide, Tryz.func106.trans (congrArg some (by kernel_rfl))⟩
  f47 := Tryz.func107.trans (congrArg some (by kernel_rfl))
  f48 := Tryz.func108.trans (congrArg some (by kernel_rfl))
  f49 := ⟨Tryz.f109.name, by decide, Tryz.func109.trans (congrArg some (by kernel_rfl))⟩
  f50 := ⟨Tryz.f110.name, by decide, Tryz.func110.trans (congrArg some (by kernel_rfl))⟩
  f57 := ⟨Tryz.f128.name, by decide, Tryz.func128.trans (congrArg some (by kernel_rfl))⟩
  t0 := Tryz.underlying0
  a0 := Tryz.isAgg0
  z0 := Tryz.sizeOf0
  v0 := Tryz.zeroValue0
  t3 := Tryz.underlying3
  a3 := Tryz.isAgg3
  z3 := Tryz.sizeOf3
  v3 := Tryz.zeroValue3
  t4 := Tryz.underlying4
  a4 := Tryz.isAgg4
  z4 := Tryz.sizeOf4
  v4 := Tryz.zeroValue4
  t5 := Tryz.underlying5
  a5 := Tryz.isAgg5
  z5 := Tryz.sizeOf5
  v5 := Tryz.zeroValue5
  t9 := Tryz.underlying9
  a9 := Tryz.isAgg9
  z9 := Tryz.sizeOf9
  v9 := Tryz.zeroValue9
  t22 := Tryz.underlying28
  a22 := Tryz.isAgg28
  z22 := Tryz.sizeOf28
  v22 := Tryz.zeroValue28
  t25 := Tryz.underlying89
  a25 := Tryz.isAgg89
  z25 := Tryz.sizeOf89
  v25 := Tryz.zeroValue89
  t39 := Tryz.underlying99
  a39 := Tryz.isAgg99
  z39 := Tryz.sizeOf99
  v39 := Tryz.zeroValue99
  t45 := Tryz.underlying107
  a45 := Tryz.isAgg107
  z45 := Tryz.sizeOf107
  v45 := Tryz.zeroValue107
  t46 := Tryz.underlying108
  a46 := Tryz.isAgg108
  z46 := Tryz.sizeOf108
  v46 := Tryz.zeroValue108
  t50 := Tryz.underlying57
  a50 := Tryz.isAgg57
  z50 := Tryz.sizeOf57
  v50 := Tryz.zeroValue57
  t53 := Tryz.underlying55
  a53 := Tryz.isAgg55
  z53 := Tryz.sizeOf55
  v53 := Tryz.zeroValue55
  t55 := Tryz.underlying115
  a55 := Tryz.isAgg115
  z55 := Tryz.sizeOf115
  v55 := Tryz.zeroValue115
  t66 := Tryz.underlying118
  a66 := Tryz.isAgg118
  z66 := Tryz.sizeOf118
  v66 := Tryz.zeroValue118
  t70 := Tryz.underlying122
  a70 := Tryz.isAgg122
  z70 := Tryz.sizeOf122
  v70 := Tryz.zeroValue122
  t76 := Tryz.underlying135
  a76 := Tryz.isAgg135
  z76 := Tryz.sizeOf135
  v76 := Tryz.zeroValue135
  t77 := Tryz.underlying136
  a77 := Tryz.isAgg136
  z77 := Tryz.sizeOf136
  v77 := Tryz.zeroValue136 }
def Tryz.pdqS_ren : Go.Shelf.Ren := ⟨fun | 14 => 105 | 20 => 120 | 21 => 121 | 22 => 122 | 23 => 123 | 24 => 124 | 25 => 125 | 26 => 126 | 27 => 127 | 46 => 133 | 47 => 107 | 48 => 108 | 49 => 134 | 50 => 135 | 15 => 85 | 57 => 137 | 28 => 101 | 29 => 102 | n => n, fun | 24 => 65 | 22 => 22 | 3 => 3 | 25 => 105 | 4 => 4 | 0 => 0 | 46 => 108 | 45 => 107 | 50 => 57 | 66 => 118 | 39 => 99 | 55 => 115 | 70 => 122 | 76 => 135 | 77 => 136 | 53 => 55 | 5 => 5 | 9 => 9 | n => n, fun | n => n⟩
theorem Tryz.pdqS : Go.Proofs.SlLaysF0.n14 Tryz.prog Tryz.pdqS_ren := {
  mixed := by kernel_rfl
  f14 := ⟨Tryz.f105.name, by decide, Tryz.func105.trans (congrArg some (by kernel_rfl))⟩
  f15 := Tryz.func85.trans (congrArg some (by kernel_rfl))
  f20 := ⟨Tryz.f120.name, by decide, Tryz.func120.trans (congrArg some (by kernel_rfl))⟩
  f21 := ⟨Tryz.f121.name, by decide, Tryz.func121.trans (congrArg some (by kernel_rfl))⟩
  f22 := ⟨Tryz.f122.name, by decide, Tryz.func122.trans (congrArg some (by kernel_rfl))⟩
  f23 := ⟨Tryz.f123.name, by decide, Tryz.func123.trans (congrArg some (by kernel_rfl))⟩
  f24 := ⟨Tryz.f124.name, by decide, Tryz.func124.trans (congrArg some (by kernel_rfl))⟩
  f25 := ⟨Tryz.f125.name, by decide, Tryz.func125.trans (congrArg some (by kernel_rfl))⟩
  f26 := ⟨Tryz.f126.name, by decide, Tryz.func126.trans (congrArg some (by kernel_rfl))⟩
  f27 := ⟨Tryz.f127.name, by decide, Tryz.func127.trans (congrArg some (by kernel_rfl))⟩
  f28 := Tryz.func101.trans (congrArg some (by kernel_rfl))
  f29 := Tryz.func102.trans (congrArg some (by kernel_rfl))
  f46 := ⟨Tryz.f133.name, by decide, Tryz.func133.trans (congrArg some (by kernel_rfl))⟩
  f47 := Tryz.func107.trans (congrArg some (by kernel_rfl))
  f48 := Tryz.func108.trans (congrArg some (by kernel_rfl))
  f49 := ⟨Tryz.f134.name, by decide, Tryz.func134.trans (congrArg some (by kernel_rfl))⟩
  f50 := ⟨Tryz.f135.name, by decide, Tryz.func135.trans (congrArg some (by kernel_rfl))⟩
  f57 := ⟨Tryz.f137.name, by decide, Tryz.func137.trans (congrArg some (by kernel_rfl))⟩
  t0 := Tryz.underlying0
  a0 := Tryz.isAgg0
  z0 := Tryz.sizeOf0
  v0 := Tryz.zeroValue0
  t3 := Tryz.underlying3
  a3 := Tryz.isAgg3
  z3 := Tryz.sizeOf3
  v3 := Tryz.zeroValue3
  t4 := Tryz.underlying4
  a4 := Tryz.isAgg4
  z4 := Tryz.sizeOf4
  v4 := Tryz.zeroValue4
  t5 := Tryz.underlying5
  a5 := Tryz.isAgg5
  z5 := Tryz.sizeOf5
  v5 := Tryz.zeroValue5
  t9 := Tryz.underlying9
  a9 := Tryz.isAgg9
  z9 := Tryz.sizeOf9
  v9 := Tryz.zeroValue9
  t22 := Tryz.underlying22
  a22 := Tryz.isAgg22
  z22 := Tryz.sizeOf22
  v22 := Tryz.zeroValue22
  t25 := Tryz.underlying105
  a25 := Tryz.isAgg105
  z25 := Tryz.sizeOf105
  v25 := Tryz.zeroValue105
  t39 := Tryz.underlying99
  a39 := Tryz.isAgg99
  z39 := Tryz.sizeOf99
  v39 := Tryz.zeroValue99
  t45 := Tryz.underlying107
  a45 := Tryz.isAgg107
  z45 := Tryz.sizeOf107
  v45 := Tryz.zeroValue107
  t46 := Tryz.underlying108
  a46 := Tryz.isAgg108
  z46 := Tryz.sizeOf108
  v46 := Tryz.zeroValue108
  t50 := Tryz.underlying57
  a50 := Tryz.isAgg57
  z50 := Tryz.sizeOf57
  v50 := Tryz.zeroValue57
  t53 := Tryz.underlying55
  a53 := Tryz.isAgg55
  z53 := Tryz.sizeOf55
  v53 := Tryz.zeroValue55
  t55 := Tryz.underlying115
  a55 := Tryz.isAgg115
  z55 := Tryz.sizeOf115
  v55 := Tryz.zeroValue115
  t66 := Tryz.underlying118
  a66 := Tryz.isAgg118
  z66 := Tryz.sizeOf118
  v66 := Tryz.zeroValue118
  t70 := Tryz.underlying122
  a70 := Tryz.isAgg122
  z70 := Tryz.sizeOf122
  v70 := Tryz.zeroValue122
  t76 := Tryz.underlying135
  a76 := Tryz.isAgg135
  z76 := Tryz.sizeOf135
  v76 := Tryz.zeroValue135
  t77 := Tryz.underlying136
  a77 := Tryz.isAgg136
  z77 := Tryz.sizeOf136
  v77 := Tryz.zeroValue136 }
def Tryz.sortI_ren : Go.Shelf.Ren := ⟨fun | 189 => 87 | 125 => 85 | 257 => 104 | 128 => 101 | 129 => 102 | 294 => 111 | 295 => 112 | 296 => 113 | 297 => 114 | 298 => 115 | 299 => 116 | 216 => 117 | 300 => 118 | 301 => 119 | 328 => 129 | 329 => 107 | 330 => 108 | 331 => 130 | 332 => 131 | 215 => 132 | 343 => 136 | n => n, fun | 28 => 101 | 3 => 3 | 46 => 99 | 0 => 0 | 51 => 55 | 53 => 115 | 4 => 4 | 183 => 108 | 182 => 107 | 131 => 57 | 5 => 5 | 9 => 9 | 218 => 118 | 222 => 122 | 228 => 135 | 229 => 136 | n => n, fun | n => n⟩
theorem Tryz.sortI : Go.Proofs.Lays.n189 Tryz.prog Tryz.sortI_ren := {
  mixed := by kernel_rfl
  f125 := Tryz.func85.trans (congrArg some (by kernel_rfl))
  f128 := Tryz.func101.trans (congrArg some (by kernel_rfl))
  f129 := Tryz.func102.trans (congrArg some (by kernel_rfl))
  f189 := Tryz.func87.trans (congrArg some (by kernel_rfl))
  f215 := Tryz.func132.trans (congrArg some (by kernel_rfl))
  f216 := Tryz.func117.trans (congrArg some (by kernel_rfl))
  f257 := Tryz.func104.trans (congrArg some (by kernel_rfl))
  f294 := Tryz.func111.trans (congrArg some (by kernel_rfl))
  f295 := Tryz.func112.trans (congrArg some (by kernel_rfl))
  f296 := Tryz.func113.trans (congrArg some (by kernel_rfl))
  f297 := Tryz.func114.trans (congrArg some (by kernel_rfl))
  f298 := Tryz.func115.trans (congrArg some (by kernel_rfl))
  f299 := Tryz.func116.trans (congrArg some (by kernel_rfl))
  f300 := Tryz.func118.trans (congrArg some (by kernel_rfl))
  f301 := Tryz.func119.trans (congrArg some (by kernel_rfl))
  f328 := Tryz.func129.trans (congrArg some (by kernel_rfl))
  f329 := Tryz.func107.trans (congrArg some (by kernel_rfl))
  f330 := Tryz.func108.trans (congrArg some (by kernel_rfl))
  f331 := Tryz.func130.trans (congrArg some (by kernel_rfl))
  f332 := Tryz.func131.trans (congrArg some (by kernel_rfl))
  f343 := Tryz.func136.trans (congrArg some (by kernel_rfl))
  t0 := Tryz.underlying0
  a0 := Tryz.isAgg0
  z0 := Tryz.sizeOf0
  v0 := Tryz.zeroValue0
  t3 := Tryz.underlying3
  a3 := Tryz.isAgg3
  z3 := Tryz.sizeOf3
  v3 := Tryz.zeroValue3
  t4 := Tryz.underlying4
  a4 := Tryz.isAgg4
  z4 := Tryz.sizeOf4
  v4 := Tryz.zeroValue4
  t5 := Tryz.underlying5
  a5 := Tryz.isAgg5
  z5 := Tryz.sizeOf5
  v5 := Tryz.zeroValue5
  t9 := Tryz.underlying9
  a9 := Tryz.isAgg9
  z9 := Tryz.sizeOf9
  v9 := Tryz.zeroValue9
  t28 := Tryz.underlying101
  a28 := Tryz.isAgg101
  z28 := Tryz.sizeOf101
  v28 := Tryz.zeroValue101
  t46 := Tryz.underlying99
  a46 := Tryz.isAgg99
  z46 := Tryz.sizeOf99
  v46 := Tryz.zeroValue99
  t51 := Tryz.underlying55
  a51 := Tryz.isAgg55
  z51 := Tryz.sizeOf55
  v51 := Tryz.zeroValue55
  t53 := Tryz.underlying115
  a53 := Tryz.isAgg115
  z53 := Tryz.sizeOf115
  v53 := Tryz.zeroValue115
  t131 := Tryz.underlying57
  a131 := Tryz.isAgg57
  z131 := Tryz.sizeOf57
  v131 := Tryz.zeroValue57
  t182 := Tryz.underlying107
  a182 := Tryz.isAgg107
  z182 := Tryz.sizeOf107
  v182 := Tryz.zeroValue107
  t183 := Tryz.underlying108
  a183 := Tryz.isAgg108
  z183 := Tryz.sizeOf108
  v183 := Tryz.zeroValue108
  t218 := Tryz.underlying118
  a218 := Tryz.isAgg118
  z218 := Tryz.sizeOf118
  v218 := Tryz.zeroValue118
  t222 := Tryz.underlying122
  a222 := Tryz.isAgg122
  z222 := Tryz.sizeOf122
  v222 := Tryz.zeroValue122
  t228 := Tryz.underlying135
  a228 := Tryz.isAgg135
  z228 := Tryz.sizeOf135
  v228 := Tryz.zeroValue135
  t229 := Tryz.underlying136
  a229 := Tryz.isAgg136
  z229 := Tryz.sizeOf136
  v229 := Tryz.zeroValue136 }
end Go.Proofs
