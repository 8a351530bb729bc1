/-
  Contracts of the functions of this seat.
-/
import Derived.Test.YtbjhhaklecljdaaGreatS2
import Derived.Test.YtbjhhaklecljdaaGreatA2
import Derived.Deep.Strs
import Derived.ChangeSame
import Derived.Test.YtbjhhaklecljdaaGreatRows
set_option linter.unusedVariables false
set_option linter.unusedSimpArgs false
set_option maxRecDepth 20000
namespace Go.Proofs.YtbjhhaklecljdaaGreat
open Go.Aw Go.RowKit Go.Sort Go.Shelf
attribute [local go_sem] X_skip X_ops X_dops X_seq X_cond X_block X_loop X_exit X_ret LR_nil LR_cons LR_guard LS_def LD_nil LD_cons LD_guard DO_def ite_imp W_pure W_fail W_guard W_get W_put W_new W_del callee aop rho mkE mkH putE remK AM.lwp aload astore aindex aslice Aw.intOf abuild abuildSlice aparts abuiltin abin abinT abits aeqs anil asrc aappend aappendTo partOf splice AV.cells ofValue ofScalar FreshL noRefE noRefH AV.has AV.hasL AV.hasLL AObj.has AV.leaf AV.leafL AV.leafLL lenAll_nil lenAll_cons lenAll_app someArr noneArr sub_toNat take_map drop_map take_drop_len aw_wrap1 one_add len_take set_snoc getD_snoc List.length_singleton take_ge Nat.add_sub_of_le List.take_length take_len_app Int.sub_zero List.length_drop Nat.sub_zero aclear aclearB isClear withMap alookup aupdate arange aentry adelete setEntry findK sameK keyOk keysOk sameL lnext footD opRefs wrOf wrRefs headRefs isW quietB items freshN Op.operands Call.operands AV.refs AV.refsL keepL keepH argE finP finE finO finC sealN0 sealNL0 sealNA sealNL1 sealN1 getD_map_lt nat_nonneg nat_neg cast_lt cast_le zero_lt_cast cast_le_zero cast_eq_zero zero_eq_cast Nat.succ_ne_zero Nat.add_one_ne_zero Int.toNat_natCast lresL retVal seal0 seal1 sealL0 sealA sealL1 List.map List.append List.cons_append List.nil_append List.flatMap_cons List.flatMap_nil List.getD_cons_zero List.getD_cons_succ List.length_cons List.length_nil List.take List.drop List.set List.mem_cons List.not_mem_nil List.toList_toArray List.map_cons List.map_nil Option.map_some Option.map_none if_true if_false ite_true ite_false true_and and_true not_false_eq_true not_true_eq_false implies_true forall_const Bool.false_eq_true decide_true decide_false eq_self and_self false_and and_false or_self or_true true_or or_false false_or ne_eq Nat.zero_add Nat.add_zero Bool.or_false Bool.false_or Option.isSome_some imp_self false_implies forall_const Int.cast_ofNat_Int decide_eq_true_eq decide_eq_false_iff_not Bool.not_true Bool.not_false Bool.true_eq_false Bool.false_eq_true Nat.sub_self AV.int.injEq AV.bool.injEq AV.str.injEq AV.tup.injEq AV.agg.injEq AV.isl.injEq cond_true cond_false pick_bool pick_int arr1_0 arr2_0 arr2_1 arr1_size arr2_size Nat.lt_add_one Nat.zero_lt_succ Nat.zero_lt_one Option.isSome_none Bool.and_true Bool.true_and Bool.false_and Bool.and_false remKs rep0 rep1 rep2 rep3 rep4 rep5 rep6 rep7 rep8 List.getLast?_concat renP_app hasP_app Array.toList_append hasLL_app renLL_app leafLL_app take_all forall_eq List.length_map List.length_append Nat.le_refl List.take_zero List.drop_zero Nat.lt_irrefl List.map_append
attribute [local go_sem] t_agg_23 t_agg_25 t_agg_3 t_agg_39 t_agg_4 t_agg_43 t_agg_45 t_agg_51 t_agg_65 t_agg_78 t_agg_9 t_agg_94 t_bytes_23 t_bytes_3 t_bytes_45 t_bytes_51 t_bytes_65 t_elem_100 t_elem_101 t_elem_23 t_elem_28 t_elem_29 t_elem_3 t_elem_39 t_elem_78 t_elem_9 t_eq_29 t_eq_3 t_eq_35 t_eq_4 t_eq_65 t_eq_9 t_field_25_0 t_field_25_1 t_field_43_0 t_field_43_1 t_field_43_2 t_field_45_0 t_field_45_1 t_field_51_0 t_field_51_1 t_field_51_2 t_field_65_0 t_field_65_1 t_fok_25 t_fok_43 t_fok_45 t_fok_51 t_fok_65 t_kind_100 t_kind_101 t_kind_23 t_kind_25 t_kind_28 t_kind_29 t_kind_3 t_kind_39 t_kind_43 t_kind_45 t_kind_51 t_kind_55 t_kind_65 t_kind_78 t_kind_9 t_kind_94 t_kind_99 t_map_100 t_map_101 t_map_23 t_map_28 t_map_29 t_map_3 t_map_39 t_map_56 t_map_78 t_map_85 t_map_9 t_nil_29 t_nil_3 t_nil_35 t_nil_4 t_nil_65 t_nil_9 t_size_23 t_size_25 t_size_3 t_size_39 t_size_4 t_size_43 t_size_45 t_size_51 t_size_65 t_size_78 t_size_9 t_size_94 t_zeroV_3 t_zeroV_51 t_zero_23 t_zero_25 t_zero_3 t_zero_43 t_zero_45 t_zero_51 t_zero_65 t_zero_94
section
open Go.Aw Go.RowKit Go.Sort Go.Shelf
def yA : Sel := ⟨pA, 1, 0, 0⟩
theorem vio_A : violated [tA] [yA] = true := by decide
theorem ent_A : entailed [tA] [yA] = true := by decide
set_option maxHeartbeats 2000000 in
/-- modcertlaw35.awake -/
theorem f9_pure : PureP Tryz.prog 9 [] (· = .bool true) := by
  refine PureE.run mixed e9 Tryz.func9 c9_ok r9 (by rw [Tryz.ntmps9]; rfl) rfl ?_
  have hpa : ByteArray.mk #[97, 47, 118, 49] = pA := rfl
  have hpb : ByteArray.mk #[98, 47, 118, 49] = pB := rfl
  have hw : IntKind.i64.wrap (0 + 1) = 1 := by decide
  have h13 : PureP Tryz.prog 13 [.str pA, .int .i64 0, .agg (encRq ⟨pB, [(2000, 1000000)]⟩)] (· = .isl .unk ([tA, tB].map encTerm)) := by
    have h := f13_pure pA 0 ⟨pB, [(2000, 1000000)]⟩ (by simp)
    rw [out_B, hw, show canT [⟨pA, false, [(0, 1)]⟩, tB] = ([tA, tB], true) from can_AB] at h
    exact h
  have h15 : PureP Tryz.prog 15 [.str pB, .isl .unk ([(0, 1), (1000, 1001)].map encSpan)] (· = .isl .unk ([tG].map encTerm)) := by
    have h := f15_pure pB [(0, 1), (1000, 1001)] (by simp)
    rw [cm_two, show canT [⟨pB, false, [(1, 1000), (1001, 1000000)]⟩] = ([tG], true) from can_G] at h
    exact h
  have h18 : PureP Tryz.prog 18 [.isl .unk ([tA, tB].map encTerm), .isl .unk ([tG].map encTerm), .str pB] (· = .tup [.isl .unk ([tA].map encTerm), .int .i64 0]) := by
    have h := f18_pure [tA, tB] [tG] pB (by simp) (by simp) (by simp [Tm.ok, tA, tB]) (by simp [Tm.ok, tG])
    rw [res_AB] at h
    exact h
  have h11 : PureP Tryz.prog 11 [.agg (encRq ⟨pA, [(0, 1000000)]⟩)] (· = .isl .unk ([tN].map encTerm)) := by
    have h := f11_pure ⟨pA, [(0, 1000000)]⟩ (by simp)
    rw [out_A, can_N] at h
    exact h
  have h20 : PureP Tryz.prog 20 [.isl .unk ([tA].map encTerm), .isl .unk ([tA, tB].map encTerm)] (· = .bool true) := by
    have h := f20_pure [tA] [tA, tB] (by simp) (by simp) (by simp [Tm.ok, tA]) (by simp [Tm.ok, tA, tB])
    rw [subs_A] at h
    exact h
  have h22 : PureP Tryz.prog 22 [.isl .unk ([tA].map encTerm), .isl .unk ([yA].map encSel)] (· = .bool true) := by
    have h := f22_pure [tA] .unk [yA] .unk (by simp) (by simp) (by simp [tA])
    rw [vio_A] at h
    exact h
  have h36 : PureP Tryz.prog 36 [.isl .unk ([tA].map encTerm), .isl .unk ([yA].map encSel)] (· = .bool true) := by
    have h := f36_pure [tA] [yA] (by simp) (by simp) (by simp [tA])
    rw [ent_A] at h
    exact h
  have h10a : PureP Tryz.prog 10 [.isl .unk ([tA].map encTerm), .isl .unk ([tA].map encTerm)] (· = .bool true) := by
    have h := f10_pure [tA] [tA] .unk .unk (by simp [okT, tA]) (by simp [okT, tA])
    rw [decide_eq_true rfl] at h
    exact h
  have h10n : PureP Tryz.prog 10 [.isl .unk ([tN].map encTerm), .isl .unk ([tN].map encTerm)] (· = .bool true) := by
    have h := f10_pure [tN] [tN] .unk .unk (by simp [okT, tN]) (by simp [okT, tN])
    rw [decide_eq_true rfl] at h
    exact h
  simp (config := { implicitDefEqProofs := false, decide := true }) only [go_sem, Nat.reduceEqDiff, Nat.reduceAdd, Nat.reduceMul, Nat.reduceSub, Nat.reduceLT, Nat.reduceLeDiff, Nat.reduceBEq, reduceCtorEq, Int.reduceLT, Int.reduceLE, Int.reduceEq, Int.reduceToNat, Int.reduceAdd, Int.reduceSub, Int.reduceMul, Int.reduceNeg, Nat.reduceLT, ↓reduceIte, c9, hpa, hpb, norm_terms, norm_spans, norm_sels, len_terms, len_spans, len_sels, hasLL_terms, hasLL_spans, renLL_terms, renLL_spans, leaf_terms, leaf_spans, leaf_sels, norm_sets, len_sets, hasLL_sets, renLL_sets, leaf_sets]
  refine LC.frz [.str pA, .int .i64 0, .agg (encRq ⟨pB, [(2000, 1000000)]⟩)] (by simp only [viewL_nil, viewL_cons, viewL0_nil, viewL0_cons, view1_func, view1_agg, view1_sl, view1_ptr, view1_leaf, view0_leaf, view0_sl, view0_ptr, AV.refsL, AV.refs, List.append_nil, List.nil_append, List.cons_append, mkH, ↓reduceIte, List.drop_zero, take_map, drop_map, List.take_length, List.length_map, getD_map_lt, List.getD_cons_zero, List.drop, AV.leafLL, AV.leafL, AV.leaf, List.mem_cons, List.not_mem_nil, or_false, true_or, or_true, Nat.zero_add, Nat.le_refl, and_self, true_and, and_true, Bool.false_eq_true, Bool.and_true, Bool.and_self, if_true, if_false, List.length_cons, List.length_nil, List.take, Nat.reduceAdd, Nat.reduceLeDiff, Nat.reduceLT, Nat.lt_add_one, Nat.zero_le, Nat.reduceEqDiff, norm_terms, norm_spans, norm_sels, len_terms, len_spans, len_sels, hasLL_terms, hasLL_spans, renLL_terms, renLL_spans, leaf_terms, leaf_spans, leaf_sels, norm_sets, len_sets, hasLL_sets, renLL_sets, leaf_sets, encRq]; exact ⟨view1_self rfl, view1_self rfl, view0_self rfl, rfl⟩) ?_
  refine LC.val h13 ?_
  simp (config := { implicitDefEqProofs := false, decide := true }) only [go_sem, Nat.reduceEqDiff, Nat.reduceAdd, Nat.reduceMul, Nat.reduceSub, Nat.reduceLT, Nat.reduceLeDiff, Nat.reduceBEq, reduceCtorEq, Int.reduceLT, Int.reduceLE, Int.reduceEq, Int.reduceToNat, Int.reduceAdd, Int.reduceSub, Int.reduceMul, Int.reduceNeg, Nat.reduceLT, ↓reduceIte, hpa, hpb, norm_terms, norm_spans, norm_sels, len_terms, len_spans, len_sels, hasLL_terms, hasLL_spans, renLL_terms, renLL_spans, leaf_terms, leaf_spans, leaf_sels, norm_sets, len_sets, hasLL_sets, renLL_sets, leaf_sets]
  refine LC.frz [.str pB, .isl .unk ([(0, 1), (1000, 1001)].map encSpan)] (by simp only [viewL_nil, viewL_cons, viewL0_nil, viewL0_cons, view1_func, view1_agg, view1_sl, view1_ptr, view1_leaf, view0_leaf, view0_sl, view0_ptr, AV.refsL, AV.refs, List.append_nil, List.nil_append, List.cons_append, mkH, ↓reduceIte, List.drop_zero, take_map, drop_map, List.take_length, List.length_map, getD_map_lt, List.getD_cons_zero, List.drop, AV.leafLL, AV.leafL, AV.leaf, List.mem_cons, List.not_mem_nil, or_false, true_or, or_true, Nat.zero_add, Nat.le_refl, and_self, true_and, and_true, Bool.false_eq_true, Bool.and_true, Bool.and_self, if_true, if_false, List.length_cons, List.length_nil, List.take, Nat.reduceAdd, Nat.reduceLeDiff, Nat.reduceLT, Nat.lt_add_one, Nat.zero_le, Nat.reduceEqDiff, norm_terms, norm_spans, norm_sels, len_terms, len_spans, len_sels, hasLL_terms, hasLL_spans, renLL_terms, renLL_spans, leaf_terms, leaf_spans, leaf_sels, norm_sets, len_sets, hasLL_sets, renLL_sets, leaf_sets, encSpan]; exact ⟨view1_self rfl, rfl⟩) ?_
  refine LC.val h15 ?_
  simp (config := { implicitDefEqProofs := false, decide := true }) only [go_sem, Nat.reduceEqDiff, Nat.reduceAdd, Nat.reduceMul, Nat.reduceSub, Nat.reduceLT, Nat.reduceLeDiff, Nat.reduceBEq, reduceCtorEq, Int.reduceLT, Int.reduceLE, Int.reduceEq, Int.reduceToNat, Int.reduceAdd, Int.reduceSub, Int.reduceMul, Int.reduceNeg, Nat.reduceLT, ↓reduceIte, hpa, hpb, norm_terms, norm_spans, norm_sels, len_terms, len_spans, len_sels, hasLL_terms, hasLL_spans, renLL_terms, renLL_spans, leaf_terms, leaf_spans, leaf_sels, norm_sets, len_sets, hasLL_sets, renLL_sets, leaf_sets]
  refine LC.val h18 ?_
  simp (config := { implicitDefEqProofs := false, decide := true }) only [go_sem, Nat.reduceEqDiff, Nat.reduceAdd, Nat.reduceMul, Nat.reduceSub, Nat.reduceLT, Nat.reduceLeDiff, Nat.reduceBEq, reduceCtorEq, Int.reduceLT, Int.reduceLE, Int.reduceEq, Int.reduceToNat, Int.reduceAdd, Int.reduceSub, Int.reduceMul, Int.reduceNeg, Nat.reduceLT, ↓reduceIte, hpa, hpb, norm_terms, norm_spans, norm_sels, len_terms, len_spans, len_sels, hasLL_terms, hasLL_spans, renLL_terms, renLL_spans, leaf_terms, leaf_spans, leaf_sels, norm_sets, len_sets, hasLL_sets, renLL_sets, leaf_sets]
  refine LC.frz [.agg (encRq ⟨pA, [(0, 1000000)]⟩)] (by simp only [viewL_nil, viewL_cons, viewL0_nil, viewL0_cons, view1_func, view1_agg, view1_sl, view1_ptr, view1_leaf, view0_leaf, view0_sl, view0_ptr, AV.refsL, AV.refs, List.append_nil, List.nil_append, List.cons_append, mkH, ↓reduceIte, List.drop_zero, take_map, drop_map, List.take_length, List.length_map, getD_map_lt, List.getD_cons_zero, List.drop, AV.leafLL, AV.leafL, AV.leaf, List.mem_cons, List.not_mem_nil, or_false, true_or, or_true, Nat.zero_add, Nat.le_refl, and_self, true_and, and_true, Bool.false_eq_true, Bool.and_true, Bool.and_self, if_true, if_false, List.length_cons, List.length_nil, List.take, Nat.reduceAdd, Nat.reduceLeDiff, Nat.reduceLT, Nat.lt_add_one, Nat.zero_le, Nat.reduceEqDiff, norm_terms, norm_spans, norm_sels, len_terms, len_spans, len_sels, hasLL_terms, hasLL_spans, renLL_terms, renLL_spans, leaf_terms, leaf_spans, leaf_sels, norm_sets, len_sets, hasLL_sets, renLL_sets, leaf_sets, encRq]; exact ⟨view0_self rfl, rfl⟩) ?_
  refine LC.val h11 ?_
  simp (config := { implicitDefEqProofs := false, decide := true }) only [go_sem, Nat.reduceEqDiff, Nat.reduceAdd, Nat.reduceMul, Nat.reduceSub, Nat.reduceLT, Nat.reduceLeDiff, Nat.reduceBEq, reduceCtorEq, Int.reduceLT, Int.reduceLE, Int.reduceEq, Int.reduceToNat, Int.reduceAdd, Int.reduceSub, Int.reduceMul, Int.reduceNeg, Nat.reduceLT, ↓reduceIte, hpa, hpb, norm_terms, norm_spans, norm_sels, len_terms, len_spans, len_sels, hasLL_terms, hasLL_spans, renLL_terms, renLL_spans, leaf_terms, leaf_spans, leaf_sels, norm_sets, len_sets, hasLL_sets, renLL_sets, leaf_sets]
  refine LC.ice 6010 rfl rfl ?_
  simp (config := { decide := true }) only [iceH, AV.iceL, AV.ice, AObj.ice, AV.iceLL, AV.iceP, ↓reduceIte, List.drop_zero, List.take_length, List.length_map, Nat.zero_add, Nat.le_refl, List.length_cons, List.length_nil, Nat.reduceAdd, List.take_succ_cons, List.take_zero, norm_terms, norm_spans, norm_sels, len_terms, len_spans, len_sels, hasLL_terms, hasLL_spans, renLL_terms, renLL_spans, leaf_terms, leaf_spans, leaf_sels, norm_sets, len_sets, hasLL_sets, renLL_sets, leaf_sets]
  refine LC.frz [.isl .unk ([tA].map encTerm), .isl .unk ([tA].map encTerm)] (by simp only [viewL_nil, viewL_cons, viewL0_nil, viewL0_cons, view1_func, view1_agg, view1_sl, view1_ptr, view1_leaf, view0_leaf, view0_sl, view0_ptr, AV.refsL, AV.refs, List.append_nil, List.nil_append, List.cons_append, mkH, ↓reduceIte, List.drop_zero, take_map, drop_map, List.take_length, List.length_map, getD_map_lt, List.getD_cons_zero, List.drop, AV.leafLL, AV.leafL, AV.leaf, List.mem_cons, List.not_mem_nil, or_false, true_or, or_true, Nat.zero_add, Nat.le_refl, and_self, true_and, and_true, Bool.false_eq_true, Bool.and_true, Bool.and_self, if_true, if_false, List.length_cons, List.length_nil, List.take, Nat.reduceAdd, Nat.reduceLeDiff, Nat.reduceLT, Nat.lt_add_one, Nat.zero_le, Nat.reduceEqDiff, norm_terms, norm_spans, norm_sels, len_terms, len_spans, len_sels, hasLL_terms, hasLL_spans, renLL_terms, renLL_spans, leaf_terms, leaf_spans, leaf_sels, norm_sets, len_sets, hasLL_sets, renLL_sets, leaf_sets]; first | rfl | exact ⟨view1_self rfl, rfl⟩) ?_
  refine LC.val h10a ?_
  simp (config := { implicitDefEqProofs := false, decide := true }) only [go_sem, Nat.reduceEqDiff, Nat.reduceAdd, Nat.reduceMul, Nat.reduceSub, Nat.reduceLT, Nat.reduceLeDiff, Nat.reduceBEq, reduceCtorEq, Int.reduceLT, Int.reduceLE, Int.reduceEq, Int.reduceToNat, Int.reduceAdd, Int.reduceSub, Int.reduceMul, Int.reduceNeg, Nat.reduceLT, ↓reduceIte, hpa, hpb, norm_terms, norm_spans, norm_sels, len_terms, len_spans, len_sels, hasLL_terms, hasLL_spans, renLL_terms, renLL_spans, leaf_terms, leaf_spans, leaf_sels, norm_sets, len_sets, hasLL_sets, renLL_sets, leaf_sets]
  refine LC.frz [.isl .unk ([tN].map encTerm), .isl .unk [[.str pA, .bool true, .isl .nil []]]] (by simp only [viewL_nil, viewL_cons, viewL0_nil, viewL0_cons, view1_func, view1_agg, view1_sl, view1_ptr, view1_leaf, view0_leaf, view0_sl, view0_ptr, AV.refsL, AV.refs, List.append_nil, List.nil_append, List.cons_append, mkH, ↓reduceIte, List.drop_zero, take_map, drop_map, List.take_length, List.length_map, getD_map_lt, List.getD_cons_zero, List.drop, AV.leafLL, AV.leafL, AV.leaf, List.mem_cons, List.not_mem_nil, or_false, true_or, or_true, Nat.zero_add, Nat.le_refl, and_self, true_and, and_true, Bool.false_eq_true, Bool.and_true, Bool.and_self, if_true, if_false, List.length_cons, List.length_nil, List.take, Nat.reduceAdd, Nat.reduceLeDiff, Nat.reduceLT, Nat.lt_add_one, Nat.zero_le, Nat.reduceEqDiff, norm_terms, norm_spans, norm_sels, len_terms, len_spans, len_sels, hasLL_terms, hasLL_spans, renLL_terms, renLL_spans, leaf_terms, leaf_spans, leaf_sels, norm_sets, len_sets, hasLL_sets, renLL_sets, leaf_sets]; first | rfl | exact ⟨view1_self rfl, trivial⟩) ?_
  refine LC.norm (args' := [.isl .unk ([tN].map encTerm), .isl .unk ([tN].map encTerm)]) rfl ?_
  refine LC.val h10n ?_
  simp (config := { implicitDefEqProofs := false, decide := true }) only [go_sem, Nat.reduceEqDiff, Nat.reduceAdd, Nat.reduceMul, Nat.reduceSub, Nat.reduceLT, Nat.reduceLeDiff, Nat.reduceBEq, reduceCtorEq, Int.reduceLT, Int.reduceLE, Int.reduceEq, Int.reduceToNat, Int.reduceAdd, Int.reduceSub, Int.reduceMul, Int.reduceNeg, Nat.reduceLT, ↓reduceIte, hpa, hpb, norm_terms, norm_spans, norm_sels, len_terms, len_spans, len_sels, hasLL_terms, hasLL_spans, renLL_terms, renLL_spans, leaf_terms, leaf_spans, leaf_sels, norm_sets, len_sets, hasLL_sets, renLL_sets, leaf_sets]
  refine LC.frz [.isl .unk ([tA].map encTerm), .isl .unk ([yA].map encSel)] (by simp only [viewL_nil, viewL_cons, viewL0_nil, viewL0_cons, view1_func, view1_agg, view1_sl, view1_ptr, view1_leaf, view0_leaf, view0_sl, view0_ptr, AV.refsL, AV.refs, List.append_nil, List.nil_append, List.cons_append, mkH, ↓reduceIte, List.drop_zero, take_map, drop_map, List.take_length, List.length_map, getD_map_lt, List.getD_cons_zero, List.drop, AV.leafLL, AV.leafL, AV.leaf, List.mem_cons, List.not_mem_nil, or_false, true_or, or_true, Nat.zero_add, Nat.le_refl, and_self, true_and, and_true, Bool.false_eq_true, Bool.and_true, Bool.and_self, if_true, if_false, List.length_cons, List.length_nil, List.take, Nat.reduceAdd, Nat.reduceLeDiff, Nat.reduceLT, Nat.lt_add_one, Nat.zero_le, Nat.reduceEqDiff, norm_terms, norm_spans, norm_sels, len_terms, len_spans, len_sels, hasLL_terms, hasLL_spans, renLL_terms, renLL_spans, leaf_terms, leaf_spans, leaf_sels, norm_sets, len_sets, hasLL_sets, renLL_sets, leaf_sets]; first | rfl | exact ⟨view1_self rfl, rfl⟩) ?_
  refine LC.val h22 ?_
  simp (config := { implicitDefEqProofs := false, decide := true }) only [go_sem, Nat.reduceEqDiff, Nat.reduceAdd, Nat.reduceMul, Nat.reduceSub, Nat.reduceLT, Nat.reduceLeDiff, Nat.reduceBEq, reduceCtorEq, Int.reduceLT, Int.reduceLE, Int.reduceEq, Int.reduceToNat, Int.reduceAdd, Int.reduceSub, Int.reduceMul, Int.reduceNeg, Nat.reduceLT, ↓reduceIte, hpa, hpb, norm_terms, norm_spans, norm_sels, len_terms, len_spans, len_sels, hasLL_terms, hasLL_spans, renLL_terms, renLL_spans, leaf_terms, leaf_spans, leaf_sels, norm_sets, len_sets, hasLL_sets, renLL_sets, leaf_sets]
  refine LC.frz [.isl .unk ([tA].map encTerm), .isl .unk ([yA].map encSel)] (by simp only [viewL_nil, viewL_cons, viewL0_nil, viewL0_cons, view1_func, view1_agg, view1_sl, view1_ptr, view1_leaf, view0_leaf, view0_sl, view0_ptr, AV.refsL, AV.refs, List.append_nil, List.nil_append, List.cons_append, mkH, ↓reduceIte, List.drop_zero, take_map, drop_map, List.take_length, List.length_map, getD_map_lt, List.getD_cons_zero, List.drop, AV.leafLL, AV.leafL, AV.leaf, List.mem_cons, List.not_mem_nil, or_false, true_or, or_true, Nat.zero_add, Nat.le_refl, and_self, true_and, and_true, Bool.false_eq_true, Bool.and_true, Bool.and_self, if_true, if_false, List.length_cons, List.length_nil, List.take, Nat.reduceAdd, Nat.reduceLeDiff, Nat.reduceLT, Nat.lt_add_one, Nat.zero_le, Nat.reduceEqDiff, norm_terms, norm_spans, norm_sels, len_terms, len_spans, len_sels, hasLL_terms, hasLL_spans, renLL_terms, renLL_spans, leaf_terms, leaf_spans, leaf_sels, norm_sets, len_sets, hasLL_sets, renLL_sets, leaf_sets]; first | rfl | exact ⟨view1_self rfl, rfl⟩) ?_
  refine LC.val h36 ?_
  simp (config := { implicitDefEqProofs := false, decide := true }) only [go_sem, Nat.reduceEqDiff, Nat.reduceAdd, Nat.reduceMul, Nat.reduceSub, Nat.reduceLT, Nat.reduceLeDiff, Nat.reduceBEq, reduceCtorEq, Int.reduceLT, Int.reduceLE, Int.reduceEq, Int.reduceToNat, Int.reduceAdd, Int.reduceSub, Int.reduceMul, Int.reduceNeg, Nat.reduceLT, ↓reduceIte, hpa, hpb, norm_terms, norm_spans, norm_sels, len_terms, len_spans, len_sels, hasLL_terms, hasLL_spans, renLL_terms, renLL_spans, leaf_terms, leaf_spans, leaf_sels, norm_sets, len_sets, hasLL_sets, renLL_sets, leaf_sets]
  refine LC.val h20 ?_
  simp (config := { implicitDefEqProofs := false, decide := true }) only [go_sem, Nat.reduceEqDiff, Nat.reduceAdd, Nat.reduceMul, Nat.reduceSub, Nat.reduceLT, Nat.reduceLeDiff, Nat.reduceBEq, reduceCtorEq, Int.reduceLT, Int.reduceLE, Int.reduceEq, Int.reduceToNat, Int.reduceAdd, Int.reduceSub, Int.reduceMul, Int.reduceNeg, Nat.reduceLT, ↓reduceIte, hpa, hpb, norm_terms, norm_spans, norm_sels, len_terms, len_spans, len_sels, hasLL_terms, hasLL_spans, renLL_terms, renLL_spans, leaf_terms, leaf_spans, leaf_sels, norm_sets, len_sets, hasLL_sets, renLL_sets, leaf_sets]
end
section
open Go.Aw Go.RowKit Go.Sort Go.Shelf
/-! ### The laws -/
theorem same_can (l : List Tm) (hl : l.length ≤ 1000000) : PureP Tryz.prog 10 [.isl .unk ((canT l).1.map encTerm), .isl .unk ((canT l).1.map encTerm)] (· = .bool true) := by
  have hok : okT (canT l).1 := ⟨by have := canT_len l; omega, fun t ht => by have := canT_set ht; omega⟩
  have h := f10_pure (canT l).1 (canT l).1 .unk .unk hok hok
  rw [decide_eq_true rfl] at h
  exact h
set_option maxHeartbeats 2000000 in
/-- modcertlaw35.TermRequirements -/
theorem f3_pure (p : ByteArray) (v : Int) (hv : -9223372036854775808 ≤ v ∧ v ≤ 9223372036854775807) (r : Rq) (s : Sp) : PureP Tryz.prog 3 [.str p, .int .i64 v, .agg (encRq r), .isl .unk (s.map encSpan)] (· = .bool true) := by
  refine PureE.run mixed e3 Tryz.func3 c3_ok r3 (by rw [Tryz.ntmps3]; rfl) rfl ?_
  simp (config := { implicitDefEqProofs := false, decide := true }) only [go_sem, Nat.reduceEqDiff, Nat.reduceAdd, Nat.reduceMul, Nat.reduceSub, Nat.reduceLT, Nat.reduceLeDiff, Nat.reduceBEq, reduceCtorEq, Int.reduceLT, Int.reduceLE, Int.reduceEq, Int.reduceToNat, Int.reduceAdd, Int.reduceSub, Int.reduceMul, Int.reduceNeg, Nat.reduceLT, ↓reduceIte, c3, encRq, norm_terms, norm_spans, norm_sels, len_terms, len_spans, len_sels, hasLL_terms, hasLL_spans, renLL_terms, renLL_spans, leaf_terms, leaf_spans, leaf_sels, norm_sets, len_sets, hasLL_sets, renLL_sets, leaf_sets]
  refine LC.val f9_pure ?_
  by_cases h1 : (p.size : Int) > 100
  · simp (config := { implicitDefEqProofs := false, decide := true }) only [go_sem, Nat.reduceEqDiff, Nat.reduceAdd, Nat.reduceMul, Nat.reduceSub, Nat.reduceLT, Nat.reduceLeDiff, Nat.reduceBEq, reduceCtorEq, Int.reduceLT, Int.reduceLE, Int.reduceEq, Int.reduceToNat, Int.reduceAdd, Int.reduceSub, Int.reduceMul, Int.reduceNeg, Nat.reduceLT, ↓reduceIte, h1, norm_terms, norm_spans, norm_sels, len_terms, len_spans, len_sels, hasLL_terms, hasLL_spans, renLL_terms, renLL_spans, leaf_terms, leaf_spans, leaf_sels, norm_sets, len_sets, hasLL_sets, renLL_sets, leaf_sets]
  by_cases h2 : (r.path.size : Int) > 100
  · simp (config := { implicitDefEqProofs := false, decide := true }) only [go_sem, Nat.reduceEqDiff, Nat.reduceAdd, Nat.reduceMul, Nat.reduceSub, Nat.reduceLT, Nat.reduceLeDiff, Nat.reduceBEq, reduceCtorEq, Int.reduceLT, Int.reduceLE, Int.reduceEq, Int.reduceToNat, Int.reduceAdd, Int.reduceSub, Int.reduceMul, Int.reduceNeg, Nat.reduceLT, ↓reduceIte, h1, h2, norm_terms, norm_spans, norm_sels, len_terms, len_spans, len_sels, hasLL_terms, hasLL_spans, renLL_terms, renLL_spans, leaf_terms, leaf_spans, leaf_sels, norm_sets, len_sets, hasLL_sets, renLL_sets, leaf_sets]
  by_cases h3 : (r.set.length : Int) > 12
  · simp (config := { implicitDefEqProofs := false, decide := true }) only [go_sem, Nat.reduceEqDiff, Nat.reduceAdd, Nat.reduceMul, Nat.reduceSub, Nat.reduceLT, Nat.reduceLeDiff, Nat.reduceBEq, reduceCtorEq, Int.reduceLT, Int.reduceLE, Int.reduceEq, Int.reduceToNat, Int.reduceAdd, Int.reduceSub, Int.reduceMul, Int.reduceNeg, Nat.reduceLT, ↓reduceIte, h1, h2, h3, norm_terms, norm_spans, norm_sels, len_terms, len_spans, len_sels, hasLL_terms, hasLL_spans, renLL_terms, renLL_spans, leaf_terms, leaf_spans, leaf_sels, norm_sets, len_sets, hasLL_sets, renLL_sets, leaf_sets]
  by_cases h4 : (s.length : Int) > 12
  · simp (config := { implicitDefEqProofs := false, decide := true }) only [go_sem, Nat.reduceEqDiff, Nat.reduceAdd, Nat.reduceMul, Nat.reduceSub, Nat.reduceLT, Nat.reduceLeDiff, Nat.reduceBEq, reduceCtorEq, Int.reduceLT, Int.reduceLE, Int.reduceEq, Int.reduceToNat, Int.reduceAdd, Int.reduceSub, Int.reduceMul, Int.reduceNeg, Nat.reduceLT, ↓reduceIte, h1, h2, h3, h4, norm_terms, norm_spans, norm_sels, len_terms, len_spans, len_sels, hasLL_terms, hasLL_spans, renLL_terms, renLL_spans, leaf_terms, leaf_spans, leaf_sels, norm_sets, len_sets, hasLL_sets, renLL_sets, leaf_sets]
  have hr : r.set.length ≤ 1000000000 := by omega
  have hs : s.length ≤ 1000000000 := by omega
  simp (config := { implicitDefEqProofs := false, decide := true }) only [go_sem, Nat.reduceEqDiff, Nat.reduceAdd, Nat.reduceMul, Nat.reduceSub, Nat.reduceLT, Nat.reduceLeDiff, Nat.reduceBEq, reduceCtorEq, Int.reduceLT, Int.reduceLE, Int.reduceEq, Int.reduceToNat, Int.reduceAdd, Int.reduceSub, Int.reduceMul, Int.reduceNeg, Nat.reduceLT, ↓reduceIte, h1, h2, h3, h4, norm_terms, norm_spans, norm_sels, len_terms, len_spans, len_sels, hasLL_terms, hasLL_spans, renLL_terms, renLL_spans, leaf_terms, leaf_spans, leaf_sels, norm_sets, len_sets, hasLL_sets, renLL_sets, leaf_sets]
  refine DC.val (f11_pure r hr) rfl rfl ?_
  simp (config := { implicitDefEqProofs := false, decide := true }) only [go_sem, Nat.reduceEqDiff, Nat.reduceAdd, Nat.reduceMul, Nat.reduceSub, Nat.reduceLT, Nat.reduceLeDiff, Nat.reduceBEq, reduceCtorEq, Int.reduceLT, Int.reduceLE, Int.reduceEq, Int.reduceToNat, Int.reduceAdd, Int.reduceSub, Int.reduceMul, Int.reduceNeg, Nat.reduceLT, ↓reduceIte, norm_terms, norm_spans, norm_sels, len_terms, len_spans, len_sels, hasLL_terms, hasLL_spans, renLL_terms, renLL_spans, leaf_terms, leaf_spans, leaf_sels, norm_sets, len_sets, hasLL_sets, renLL_sets, leaf_sets]
  refine DC.val (f12_pure r hr) rfl rfl ?_
  simp (config := { implicitDefEqProofs := false, decide := true }) only [go_sem, Nat.reduceEqDiff, Nat.reduceAdd, Nat.reduceMul, Nat.reduceSub, Nat.reduceLT, Nat.reduceLeDiff, Nat.reduceBEq, reduceCtorEq, Int.reduceLT, Int.reduceLE, Int.reduceEq, Int.reduceToNat, Int.reduceAdd, Int.reduceSub, Int.reduceMul, Int.reduceNeg, Nat.reduceLT, ↓reduceIte, norm_terms, norm_spans, norm_sels, len_terms, len_spans, len_sels, hasLL_terms, hasLL_spans, renLL_terms, renLL_spans, leaf_terms, leaf_spans, leaf_sels, norm_sets, len_sets, hasLL_sets, renLL_sets, leaf_sets]
  refine DC.val (same_can [outside r] (by simp)) rfl rfl ?_
  simp (config := { implicitDefEqProofs := false, decide := true }) only [go_sem, Nat.reduceEqDiff, Nat.reduceAdd, Nat.reduceMul, Nat.reduceSub, Nat.reduceLT, Nat.reduceLeDiff, Nat.reduceBEq, reduceCtorEq, Int.reduceLT, Int.reduceLE, Int.reduceEq, Int.reduceToNat, Int.reduceAdd, Int.reduceSub, Int.reduceMul, Int.reduceNeg, Nat.reduceLT, ↓reduceIte, norm_terms, norm_spans, norm_sels, len_terms, len_spans, len_sels, hasLL_terms, hasLL_spans, renLL_terms, renLL_spans, leaf_terms, leaf_spans, leaf_sels, norm_sets, len_sets, hasLL_sets, renLL_sets, leaf_sets]
  refine DC.val (f13_pure p v r hr) rfl rfl ?_
  simp (config := { implicitDefEqProofs := false, decide := true }) only [go_sem, Nat.reduceEqDiff, Nat.reduceAdd, Nat.reduceMul, Nat.reduceSub, Nat.reduceLT, Nat.reduceLeDiff, Nat.reduceBEq, reduceCtorEq, Int.reduceLT, Int.reduceLE, Int.reduceEq, Int.reduceToNat, Int.reduceAdd, Int.reduceSub, Int.reduceMul, Int.reduceNeg, Nat.reduceLT, ↓reduceIte, norm_terms, norm_spans, norm_sels, len_terms, len_spans, len_sels, hasLL_terms, hasLL_spans, renLL_terms, renLL_spans, leaf_terms, leaf_spans, leaf_sels, norm_sets, len_sets, hasLL_sets, renLL_sets, leaf_sets]
  refine DC.val (f14_pure p v hv r hr) rfl rfl ?_
  simp (config := { implicitDefEqProofs := false, decide := true }) only [go_sem, Nat.reduceEqDiff, Nat.reduceAdd, Nat.reduceMul, Nat.reduceSub, Nat.reduceLT, Nat.reduceLeDiff, Nat.reduceBEq, reduceCtorEq, Int.reduceLT, Int.reduceLE, Int.reduceEq, Int.reduceToNat, Int.reduceAdd, Int.reduceSub, Int.reduceMul, Int.reduceNeg, Nat.reduceLT, ↓reduceIte, norm_terms, norm_spans, norm_sels, len_terms, len_spans, len_sels, hasLL_terms, hasLL_spans, renLL_terms, renLL_spans, leaf_terms, leaf_spans, leaf_sels, norm_sets, len_sets, hasLL_sets, renLL_sets, leaf_sets]
  refine DC.val (same_can _ (by simp)) rfl rfl ?_
  simp (config := { implicitDefEqProofs := false, decide := true }) only [go_sem, Nat.reduceEqDiff, Nat.reduceAdd, Nat.reduceMul, Nat.reduceSub, Nat.reduceLT, Nat.reduceLeDiff, Nat.reduceBEq, reduceCtorEq, Int.reduceLT, Int.reduceLE, Int.reduceEq, Int.reduceToNat, Int.reduceAdd, Int.reduceSub, Int.reduceMul, Int.reduceNeg, Nat.reduceLT, ↓reduceIte, norm_terms, norm_spans, norm_sels, len_terms, len_spans, len_sels, hasLL_terms, hasLL_spans, renLL_terms, renLL_spans, leaf_terms, leaf_spans, leaf_sels, norm_sets, len_sets, hasLL_sets, renLL_sets, leaf_sets]
  refine DC.val (f15_pure p s hs) rfl rfl ?_
  simp (config := { implicitDefEqProofs := false, decide := true }) only [go_sem, Nat.reduceEqDiff, Nat.reduceAdd, Nat.reduceMul, Nat.reduceSub, Nat.reduceLT, Nat.reduceLeDiff, Nat.reduceBEq, reduceCtorEq, Int.reduceLT, Int.reduceLE, Int.reduceEq, Int.reduceToNat, Int.reduceAdd, Int.reduceSub, Int.reduceMul, Int.reduceNeg, Nat.reduceLT, ↓reduceIte, norm_terms, norm_spans, norm_sels, len_terms, len_spans, len_sels, hasLL_terms, hasLL_spans, renLL_terms, renLL_spans, leaf_terms, leaf_spans, leaf_sels, norm_sets, len_sets, hasLL_sets, renLL_sets, leaf_sets]
  refine DC.val (f16_pure p s hs) rfl rfl ?_
  simp (config := { implicitDefEqProofs := false, decide := true }) only [go_sem, Nat.reduceEqDiff, Nat.reduceAdd, Nat.reduceMul, Nat.reduceSub, Nat.reduceLT, Nat.reduceLeDiff, Nat.reduceBEq, reduceCtorEq, Int.reduceLT, Int.reduceLE, Int.reduceEq, Int.reduceToNat, Int.reduceAdd, Int.reduceSub, Int.reduceMul, Int.reduceNeg, Nat.reduceLT, ↓reduceIte, norm_terms, norm_spans, norm_sels, len_terms, len_spans, len_sels, hasLL_terms, hasLL_spans, renLL_terms, renLL_spans, leaf_terms, leaf_spans, leaf_sels, norm_sets, len_sets, hasLL_sets, renLL_sets, leaf_sets]
  refine DC.val (same_can _ (by simp)) rfl rfl ?_
  simp (config := { implicitDefEqProofs := false, decide := true }) only [go_sem, Nat.reduceEqDiff, Nat.reduceAdd, Nat.reduceMul, Nat.reduceSub, Nat.reduceLT, Nat.reduceLeDiff, Nat.reduceBEq, reduceCtorEq, Int.reduceLT, Int.reduceLE, Int.reduceEq, Int.reduceToNat, Int.reduceAdd, Int.reduceSub, Int.reduceMul, Int.reduceNeg, Nat.reduceLT, ↓reduceIte, norm_terms, norm_spans, norm_sels, len_terms, len_spans, len_sels, hasLL_terms, hasLL_spans, renLL_terms, renLL_spans, leaf_terms, leaf_spans, leaf_sels, norm_sets, len_sets, hasLL_sets, renLL_sets, leaf_sets]
end
section
open Go.Aw Go.RowKit Go.Sort Go.Shelf
theorem resT_set {a b : List Tm} {q : ByteArray} {t : Tm} (h : t ∈ (resT a b q).1) : t.set.length ≤ 1000000 := by
  unfold resT at h
  split at h
  · split at h
    · exact canT_set h
    · simp at h
  · simp at h
theorem resT_len (a b : List Tm) (q : ByteArray) (ha : a.length ≤ 400000) (hb : b.length ≤ 400000) : (resT a b q).1.length ≤ 1000000 := by
  unfold resT
  split
  · split
    · refine Nat.le_trans (canT_len _) ?_
      have h1 := without_len (canT a).1 q
      have h2 := without_len (canT b).1 q
      have h3 := canT_len a
      have h4 := canT_len b
      unfold meetT
      simp
      omega
    · simp
  · simp
theorem same_res (a b : List Tm) (q : ByteArray) (ha : a.length ≤ 400000) (hb : b.length ≤ 400000) : PureP Tryz.prog 10 [.isl .unk ((resT a b q).1.map encTerm), .isl .unk ((resT a b q).1.map encTerm)] (· = .bool true) := by
  have hok : okT (resT a b q).1 := ⟨by have := resT_len a b q ha hb; omega, fun t ht => by have := resT_set ht; omega⟩
  have h := f10_pure (resT a b q).1 (resT a b q).1 .unk .unk hok hok
  rw [decide_eq_true rfl] at h
  exact h
theorem few_ok {l : List Tm} (h : few l = true) : l.length ≤ 12 ∧ ∀ t ∈ l, t.ok := by
  simp only [few, Bool.and_eq_true, List.all_eq_true, decide_eq_true_eq] at h
  refine ⟨h.2, fun t ht => ?_⟩
  have := h.1 t ht
  simp only [fewT, Bool.and_eq_true, decide_eq_true_eq] at this
  show t.set.length ≤ _
  omega
set_option maxHeartbeats 2000000 in
/-- modcertlaw35.TermResolves -/
theorem f4_pure (a b : List Tm) (q : ByteArray) (hla : a.length < 4611686018427387904) (hlb : b.length < 4611686018427387904) : PureP Tryz.prog 4 [.isl .unk (a.map encTerm), .isl .unk (b.map encTerm), .str q] (· = .bool true) := by
  refine PureE.run mixed e4 Tryz.func4 c4_ok r4 (by rw [Tryz.ntmps4]; rfl) rfl ?_
  simp (config := { implicitDefEqProofs := false, decide := true }) only [go_sem, Nat.reduceEqDiff, Nat.reduceAdd, Nat.reduceMul, Nat.reduceSub, Nat.reduceLT, Nat.reduceLeDiff, Nat.reduceBEq, reduceCtorEq, Int.reduceLT, Int.reduceLE, Int.reduceEq, Int.reduceToNat, Int.reduceAdd, Int.reduceSub, Int.reduceMul, Int.reduceNeg, Nat.reduceLT, ↓reduceIte, c4, norm_terms, norm_spans, norm_sels, len_terms, len_spans, len_sels, hasLL_terms, hasLL_spans, renLL_terms, renLL_spans, leaf_terms, leaf_spans, leaf_sels, norm_sets, len_sets, hasLL_sets, renLL_sets, leaf_sets]
  refine LC.val f9_pure ?_
  simp (config := { implicitDefEqProofs := false, decide := true }) only [go_sem, Nat.reduceEqDiff, Nat.reduceAdd, Nat.reduceMul, Nat.reduceSub, Nat.reduceLT, Nat.reduceLeDiff, Nat.reduceBEq, reduceCtorEq, Int.reduceLT, Int.reduceLE, Int.reduceEq, Int.reduceToNat, Int.reduceAdd, Int.reduceSub, Int.reduceMul, Int.reduceNeg, Nat.reduceLT, ↓reduceIte, norm_terms, norm_spans, norm_sels, len_terms, len_spans, len_sels, hasLL_terms, hasLL_spans, renLL_terms, renLL_spans, leaf_terms, leaf_spans, leaf_sels, norm_sets, len_sets, hasLL_sets, renLL_sets, leaf_sets]
  refine LC.val (f17_pure a .unk hla) ?_
  cases hfa : few a with
  | false => simp (config := { implicitDefEqProofs := false, decide := true }) only [go_sem, Nat.reduceEqDiff, Nat.reduceAdd, Nat.reduceMul, Nat.reduceSub, Nat.reduceLT, Nat.reduceLeDiff, Nat.reduceBEq, reduceCtorEq, Int.reduceLT, Int.reduceLE, Int.reduceEq, Int.reduceToNat, Int.reduceAdd, Int.reduceSub, Int.reduceMul, Int.reduceNeg, Nat.reduceLT, ↓reduceIte, hfa, norm_terms, norm_spans, norm_sels, len_terms, len_spans, len_sels, hasLL_terms, hasLL_spans, renLL_terms, renLL_spans, leaf_terms, leaf_spans, leaf_sels, norm_sets, len_sets, hasLL_sets, renLL_sets, leaf_sets]
  | true =>
    simp (config := { implicitDefEqProofs := false, decide := true }) only [go_sem, Nat.reduceEqDiff, Nat.reduceAdd, Nat.reduceMul, Nat.reduceSub, Nat.reduceLT, Nat.reduceLeDiff, Nat.reduceBEq, reduceCtorEq, Int.reduceLT, Int.reduceLE, Int.reduceEq, Int.reduceToNat, Int.reduceAdd, Int.reduceSub, Int.reduceMul, Int.reduceNeg, Nat.reduceLT, ↓reduceIte, hfa, norm_terms, norm_spans, norm_sels, len_terms, len_spans, len_sels, hasLL_terms, hasLL_spans, renLL_terms, renLL_spans, leaf_terms, leaf_spans, leaf_sels, norm_sets, len_sets, hasLL_sets, renLL_sets, leaf_sets]
    refine LC.val (f17_pure b .unk hlb) ?_
    cases hfb : few b with
    | false => simp (config := { implicitDefEqProofs := false, decide := true }) only [go_sem, Nat.reduceEqDiff, Nat.reduceAdd, Nat.reduceMul, Nat.reduceSub, Nat.reduceLT, Nat.reduceLeDiff, Nat.reduceBEq, reduceCtorEq, Int.reduceLT, Int.reduceLE, Int.reduceEq, Int.reduceToNat, Int.reduceAdd, Int.reduceSub, Int.reduceMul, Int.reduceNeg, Nat.reduceLT, ↓reduceIte, hfb, norm_terms, norm_spans, norm_sels, len_terms, len_spans, len_sels, hasLL_terms, hasLL_spans, renLL_terms, renLL_spans, leaf_terms, leaf_spans, leaf_sels, norm_sets, len_sets, hasLL_sets, renLL_sets, leaf_sets]
    | true =>
      by_cases hq : (q.size : Int) > 100
      · simp (config := { implicitDefEqProofs := false, decide := true }) only [go_sem, Nat.reduceEqDiff, Nat.reduceAdd, Nat.reduceMul, Nat.reduceSub, Nat.reduceLT, Nat.reduceLeDiff, Nat.reduceBEq, reduceCtorEq, Int.reduceLT, Int.reduceLE, Int.reduceEq, Int.reduceToNat, Int.reduceAdd, Int.reduceSub, Int.reduceMul, Int.reduceNeg, Nat.reduceLT, ↓reduceIte, hfb, hq, norm_terms, norm_spans, norm_sels, len_terms, len_spans, len_sels, hasLL_terms, hasLL_spans, renLL_terms, renLL_spans, leaf_terms, leaf_spans, leaf_sels, norm_sets, len_sets, hasLL_sets, renLL_sets, leaf_sets]
      · obtain ⟨ha, oka⟩ := few_ok hfa
        obtain ⟨hb, okb⟩ := few_ok hfb
        simp (config := { implicitDefEqProofs := false, decide := true }) only [go_sem, Nat.reduceEqDiff, Nat.reduceAdd, Nat.reduceMul, Nat.reduceSub, Nat.reduceLT, Nat.reduceLeDiff, Nat.reduceBEq, reduceCtorEq, Int.reduceLT, Int.reduceLE, Int.reduceEq, Int.reduceToNat, Int.reduceAdd, Int.reduceSub, Int.reduceMul, Int.reduceNeg, Nat.reduceLT, ↓reduceIte, hfb, hq, norm_terms, norm_spans, norm_sels, len_terms, len_spans, len_sels, hasLL_terms, hasLL_spans, renLL_terms, renLL_spans, leaf_terms, leaf_spans, leaf_sels, norm_sets, len_sets, hasLL_sets, renLL_sets, leaf_sets]
        refine LC.val (f18_pure a b q (by omega) (by omega) oka okb) ?_
        simp (config := { implicitDefEqProofs := false, decide := true }) only [go_sem, Nat.reduceEqDiff, Nat.reduceAdd, Nat.reduceMul, Nat.reduceSub, Nat.reduceLT, Nat.reduceLeDiff, Nat.reduceBEq, reduceCtorEq, Int.reduceLT, Int.reduceLE, Int.reduceEq, Int.reduceToNat, Int.reduceAdd, Int.reduceSub, Int.reduceMul, Int.reduceNeg, Nat.reduceLT, ↓reduceIte, norm_terms, norm_spans, norm_sels, len_terms, len_spans, len_sels, hasLL_terms, hasLL_spans, renLL_terms, renLL_spans, leaf_terms, leaf_spans, leaf_sels, norm_sets, len_sets, hasLL_sets, renLL_sets, leaf_sets]
        refine LC.val (f19_pure a b q (by omega) (by omega) oka okb) ?_
        simp (config := { implicitDefEqProofs := false, decide := true }) only [go_sem, Nat.reduceEqDiff, Nat.reduceAdd, Nat.reduceMul, Nat.reduceSub, Nat.reduceLT, Nat.reduceLeDiff, Nat.reduceBEq, reduceCtorEq, Int.reduceLT, Int.reduceLE, Int.reduceEq, Int.reduceToNat, Int.reduceAdd, Int.reduceSub, Int.reduceMul, Int.reduceNeg, Nat.reduceLT, ↓reduceIte, norm_terms, norm_spans, norm_sels, len_terms, len_spans, len_sels, hasLL_terms, hasLL_spans, renLL_terms, renLL_spans, leaf_terms, leaf_spans, leaf_sels, norm_sets, len_sets, hasLL_sets, renLL_sets, leaf_sets]
        refine LC.val (same_res a b q (by omega) (by omega)) ?_
        simp (config := { implicitDefEqProofs := false, decide := true }) only [go_sem, Nat.reduceEqDiff, Nat.reduceAdd, Nat.reduceMul, Nat.reduceSub, Nat.reduceLT, Nat.reduceLeDiff, Nat.reduceBEq, reduceCtorEq, Int.reduceLT, Int.reduceLE, Int.reduceEq, Int.reduceToNat, Int.reduceAdd, Int.reduceSub, Int.reduceMul, Int.reduceNeg, Nat.reduceLT, ↓reduceIte, norm_terms, norm_spans, norm_sels, len_terms, len_spans, len_sels, hasLL_terms, hasLL_spans, renLL_terms, renLL_spans, leaf_terms, leaf_spans, leaf_sels, norm_sets, len_sets, hasLL_sets, renLL_sets, leaf_sets]
        refine LC.val (f20_pure a b (by omega) (by omega) oka okb) ?_
        simp (config := { implicitDefEqProofs := false, decide := true }) only [go_sem, Nat.reduceEqDiff, Nat.reduceAdd, Nat.reduceMul, Nat.reduceSub, Nat.reduceLT, Nat.reduceLeDiff, Nat.reduceBEq, reduceCtorEq, Int.reduceLT, Int.reduceLE, Int.reduceEq, Int.reduceToNat, Int.reduceAdd, Int.reduceSub, Int.reduceMul, Int.reduceNeg, Nat.reduceLT, ↓reduceIte, norm_terms, norm_spans, norm_sels, len_terms, len_spans, len_sels, hasLL_terms, hasLL_spans, renLL_terms, renLL_spans, leaf_terms, leaf_spans, leaf_sels, norm_sets, len_sets, hasLL_sets, renLL_sets, leaf_sets]
        refine LC.val (f21_pure a b (by omega) (by omega) oka okb) ?_
        simp (config := { implicitDefEqProofs := false, decide := true }) only [go_sem, Nat.reduceEqDiff, Nat.reduceAdd, Nat.reduceMul, Nat.reduceSub, Nat.reduceLT, Nat.reduceLeDiff, Nat.reduceBEq, reduceCtorEq, Int.reduceLT, Int.reduceLE, Int.reduceEq, Int.reduceToNat, Int.reduceAdd, Int.reduceSub, Int.reduceMul, Int.reduceNeg, Nat.reduceLT, ↓reduceIte, beq_self_eq_true, norm_terms, norm_spans, norm_sels, len_terms, len_spans, len_sels, hasLL_terms, hasLL_spans, renLL_terms, renLL_spans, leaf_terms, leaf_spans, leaf_sels, norm_sets, len_sets, hasLL_sets, renLL_sets, leaf_sets]
end
section
open Go.Aw Go.RowKit Go.Sort Go.Shelf Go.Deep Go.ChangeShapes Go.WideShapes
/-! ### Reading the arguments -/
section
variable {H : Type} {enc : TypeId × Value → H} {w : World} {base : Nat} {spare : Nat → Bool} {held : Bool} {fuel : Nat} {cs : List Value} {x : DataW H × List MemPlace}
theorem RdL.join2 {xs ys : List AV} {cs : List Value} {a b : Nat} (hl : cs.length = a + b) (h1 : RdL w xs ((cs.drop 0).take a)) (h2 : RdL w ys ((cs.drop a).take b)) : RdL w (xs ++ ys) cs := by
  have h := h1.append h2
  have e : (cs.drop 0).take a ++ (cs.drop a).take b = cs := by
    rw [List.drop_zero, List.take_of_length_le (l := cs.drop a) (by simp; omega), List.take_append_drop]
  rw [e] at h
  exact h
theorem RdL.join3 {xs ys zs : List AV} {cs : List Value} {a b c : Nat} (hl : cs.length = a + b + c) (h1 : RdL w xs ((cs.drop 0).take a)) (h2 : RdL w ys ((cs.drop a).take b)) (h3 : RdL w zs ((cs.drop (a + b)).take c)) : RdL w (xs ++ (ys ++ zs)) cs := by
  have h := h1.append (h2.append h3)
  have e : (cs.drop 0).take a ++ ((cs.drop a).take b ++ (cs.drop (a + b)).take c) = cs := by
    rw [List.drop_zero, List.take_of_length_le (l := cs.drop (a + b)) (by simp; omega), ← List.drop_drop, List.take_append_drop, List.take_append_drop]
  rw [e] at h
  exact h
theorem n3 : Tryz.prog.cellsOf 3 = 1 := by kernel_rfl
theorem n4 : Tryz.prog.cellsOf 4 = 1 := by kernel_rfl
theorem n9 : Tryz.prog.cellsOf 9 = 1 := by kernel_rfl
theorem n23 : Tryz.prog.cellsOf 23 = 1 := by kernel_rfl
theorem n65 : Tryz.prog.cellsOf 65 = 2 := by kernel_rfl
theorem n51 : Tryz.prog.cellsOf 51 = 3 := by kernel_rfl
theorem n25 : Tryz.prog.cellsOf 25 = 2 := by kernel_rfl
theorem read_span (h : DataW.trod enc Tryz.prog w base spare held fuel 65 cs = some x) : ∃ a : Int × Int, RdL w (encSpan a) cs := by
  obtain ⟨y0, y1, n, _, hl, h0, h1⟩ := trod_struct2 Tryz.underlying65 h
  obtain ⟨a, ha, _⟩ := read_int Tryz.underlying3 h0
  obtain ⟨b, hb, _⟩ := read_int Tryz.underlying3 h1
  rw [n3] at ha hb
  exact ⟨(a, b), RdL.join2 (by rw [hl, n65]) ha hb⟩
theorem read_spans (hsp : ∀ b, spare b = true) (h : DataW.trod enc Tryz.prog w base spare held fuel 23 cs = some x) : ∃ l : Sp, RdL w [.isl .unk (l.map encSpan)] cs ∧ l.length ≤ maxLen ∧ ((x.1 = .nil ∧ l = []) ∨ ∃ elems sp, x.1 = .slice elems sp ∧ elems.length = l.length) :=
  read_slice (k := 2) (ea := encSpan) (fun _ => rfl) Tryz.underlying23 n65 (by omega) (fun n cs' y h => read_span h) hsp h
theorem read_term (hsp : ∀ b, spare b = true) (h : DataW.trod enc Tryz.prog w base spare held fuel 51 cs = some x) : ∃ t : Tm, RdL w (encTerm t) cs := by
  obtain ⟨y0, y1, y2, n, _, hl, h0, h1, h2⟩ := trod_struct3 Tryz.underlying51 h
  obtain ⟨p, hp, _⟩ := read_str Tryz.underlying9 h0
  obtain ⟨b, hb⟩ := read_bool Tryz.underlying4 h1
  obtain ⟨s, hs, _⟩ := read_spans hsp h2
  rw [n9] at hp
  rw [n4] at hb
  rw [n23] at hs
  exact ⟨⟨p, b, s⟩, RdL.join3 (by rw [hl, n51]) hp hb hs⟩
theorem read_terms (hsp : ∀ b, spare b = true) (h : DataW.trod enc Tryz.prog w base spare held fuel 29 cs = some x) : ∃ l : List Tm, RdL w [.isl .unk (l.map encTerm)] cs ∧ l.length ≤ maxLen ∧ ((x.1 = .nil ∧ l = []) ∨ ∃ elems sp, x.1 = .slice elems sp ∧ elems.length = l.length) :=
  read_slice (k := 3) (ea := encTerm) (fun _ => rfl) Tryz.underlying29 n51 (by omega) (fun n cs' y h => read_term hsp h) hsp h
theorem read_rq (hsp : ∀ b, spare b = true) (h : DataW.trod enc Tryz.prog w base spare held fuel 25 cs = some x) : ∃ r : Rq, RdL w (encRq r) cs := by
  obtain ⟨y0, y1, n, _, hl, h0, h1⟩ := trod_struct2 Tryz.underlying25 h
  obtain ⟨p, hp, _⟩ := read_str Tryz.underlying9 h0
  obtain ⟨s, hs, _⟩ := read_spans hsp h1
  rw [n9] at hp
  rw [n23] at hs
  exact ⟨⟨p, s⟩, RdL.join2 (by rw [hl, n25]) hp hs⟩
end
end
section
open Go.Aw Go.RowKit Go.Sort Go.Shelf
/-! ### What the canonical form means -/
/-- The terms of a path. -/
def ofP (l : List Tm) (q : ByteArray) : List Tm := l.filter fun t => decide (t.path = q)
theorem mem_ofP {l : List Tm} {q : ByteArray} {t : Tm} : t ∈ ofP l q ↔ t ∈ l ∧ t.path = q := by simp [ofP]
theorem ofP_ne {l : List Tm} {q : ByteArray} : ofP l q ≠ [] ↔ ∃ x ∈ l, x.path = q := by
  rw [ne_eq, List.eq_nil_iff_forall_not_mem]
  simp [mem_ofP]
noncomputable def valOf (l : List Tm) (q : ByteArray) : Tm := ⟨q, (ofP l q).all (·.absent), canonOf (inter ((ofP l q).map (·.set)))⟩
theorem ofP_snoc (l : List Tm) (x : Tm) (q : ByteArray) : ofP (l ++ [x]) q = ofP l q ++ (if x.path = q then [x] else []) := by
  unfold ofP
  rw [List.filter_append]
  congr 1
  by_cases h : x.path = q <;> simp [h]
theorem gget_merged (l : List Tm) (q : ByteArray) : ∀ i, i ≤ l.length → gget q (merged both (l.take i)).2 = if ofP (l.take i) q = [] then none else some (valOf (l.take i) q) := by
  intro i
  induction i with
  | zero => intro _; simp [merged, ofP, gget_nil]
  | succ i ih =>
    intro hi
    have hlt : i < l.length := by omega
    rw [merged_step l i hlt q, take_succ hlt, ofP_snoc]
    by_cases hq : q = l[i].path
    · rw [if_pos hq, if_pos hq.symm, if_neg (by simp), ← hq, ih (by omega)]
      by_cases he : ofP (l.take i) q = []
      · rw [if_pos he]
        simp only [Option.getD_none, both_self, Option.some.injEq]
        unfold valOf cano
        rw [ofP_snoc, if_pos hq.symm, he]
        simp only [List.nil_append, List.all_cons, List.all_nil, Bool.and_true, List.map_cons, List.map_nil, ← hq]
        congr 1
        exact canonOf_congr fun p => by
          unfold inter
          cases h : has l[i].set p with
          | false => simp [h]
          | true => have := has_range h; simp [h, this.1, this.2]
      · rw [if_neg he]
        simp only [Option.getD_some, Option.some.injEq]
        unfold both
        unfold valOf
        rw [ofP_snoc, if_pos hq.symm]
        simp only [List.all_append, List.all_cons, List.all_nil, Bool.and_true, List.map_append, List.map_cons, List.map_nil]
        congr 1
        exact canonOf_congr fun p => by
          simp only [inter, List.all_append, List.all_cons, List.all_nil, Bool.and_true, has_inter]
          cases decide (0 ≤ p) <;> cases decide (p < 1000000) <;> simp
    · have hq' : ¬ l[i].path = q := fun h => hq h.symm
      rw [if_neg hq, if_neg hq', List.append_nil, ih (by omega)]
      unfold valOf
      rw [ofP_snoc, if_neg hq', List.append_nil]
theorem gget_vals (l : List Tm) (q : ByteArray) : gget q (merged both l).2 = if ofP l q = [] then none else some (valOf l q) := by
  have := gget_merged l q l.length (Nat.le_refl _)
  rwa [List.take_length] at this
theorem mem_vals {l : List Tm} {t : Tm} : t ∈ vals l ↔ (∃ x ∈ l, x.path = t.path) ∧ t = valOf l t.path := by
  constructor
  · intro h
    obtain ⟨e, he, rfl⟩ := List.mem_map.1 h
    have h1 := gget_mem (merged_ok both l).keys he
    have h2 := merged_path l _ _ h1
    rw [gget_vals] at h1
    split at h1
    · cases h1
    · rename_i hne
      injection h1 with h1
      rw [h2]
      exact ⟨ofP_ne.1 hne, h1.symm⟩
  · rintro ⟨h1, h2⟩
    have h3 := gget_vals l t.path
    rw [if_neg (ofP_ne.2 h1)] at h3
    have h4 : t.path ∈ (merged both l).2.map (·.2.1) := gget_some.1 (by rw [h3]; rfl)
    obtain ⟨e, he, e1⟩ := List.mem_map.1 h4
    have h5 := gget_mem (merged_ok both l).keys he
    rw [e1, h3] at h5
    injection h5 with h5
    rw [h2, h5]
    exact List.mem_map.2 ⟨e, he, rfl⟩
theorem valOf_mem {l : List Tm} {x : Tm} (h : x ∈ l) : valOf l x.path ∈ vals l := mem_vals.2 ⟨⟨x, h, rfl⟩, rfl⟩
theorem vals_uniq {l : List Tm} {t u : Tm} (ht : t ∈ vals l) (hu : u ∈ vals l) (h : t.path = u.path) : t = u := by
  rw [(mem_vals.1 ht).2, (mem_vals.1 hu).2, h]
theorem canT_snd (l : List Tm) : (canT l).2 = !(vals l).any Tm.never := by
  unfold canT
  split <;> simp_all
theorem mem_canT {l : List Tm} (h : (canT l).2 = true) {t : Tm} : t ∈ (canT l).1 ↔ t ∈ vals l ∧ t.always = false := by
  unfold canT at *
  split at h
  · cases h
  · rename_i hn
    rw [if_neg hn]
    simp only [(sortT_perm _).mem_iff, List.mem_filter, Bool.not_eq_true']
theorem has_nil (p : Int) : has [] p = false := by simp [has]
theorem never_iff {t : Tm} : t.never = true ↔ t.absent = false ∧ ∀ p, has t.set p = false := by
  unfold Tm.never
  simp only [Bool.and_eq_true, Bool.not_eq_true', decide_eq_true_eq]
  refine and_congr_right fun _ => ⟨fun h p => ?_, fun h => ?_⟩
  · rw [← has_canonOf, List.eq_nil_of_length_eq_zero h, has_nil]
  · rw [canonOf_eq (c := []) c_nil fun p => by rw [has_nil, h p]]; rfl
theorem always_iff {t : Tm} : t.always = true ↔ t.absent = true ∧ ∀ p, 0 ≤ p → p < 1000000 → has t.set p = true := by
  unfold Tm.always
  simp only [Bool.and_eq_true, decide_eq_true_eq]
  refine and_congr_right fun _ => ⟨fun h p h1 h2 => ?_, fun h => ?_⟩
  · have := has_cmpl t.set p
    rw [List.eq_nil_of_length_eq_zero h, has_nil] at this
    simpa [cmpl, h1, h2] using this.symm
  · rw [canonOf_eq (c := []) c_nil fun p => by
      rw [has_nil]
      by_cases h1 : 0 ≤ p <;> by_cases h2 : p < 1000000 <;> simp [cmpl, h1, h2]
      exact h p h1 h2]
    rfl
theorem subs_iff {a b : Sp} : subs a b = true ↔ ∀ p, has a p = true → has b p = true := by
  unfold subs
  rw [decide_eq_true_eq]
  constructor
  · intro h p hp
    have := has_minus a b p
    rw [List.eq_nil_of_length_eq_zero h, has_nil] at this
    simpa [minus, hp] using this.symm
  · intro h
    rw [canonOf_eq (c := []) c_nil fun p => by
      rw [has_nil]
      cases hp : has a p with
      | false => simp [minus, hp]
      | true => simp [minus, hp, h p hp]]
    rfl
/-! ### The state of a path -/
def stOf (s : List Sel) (q : ByteArray) : Option (Option Int) := (s.find? fun y => decide (y.path = q)).map fun y => if okSel y then some (place y) else none
def holdsAt (t : Tm) : Option (Option Int) → Bool
  | none => t.absent
  | some none => false
  | some (some p) => has t.set p
theorem holds_at (t : Tm) (s : List Sel) : holds t s = holdsAt t (stOf s t.path) := by
  unfold holds stOf
  rw [List.find?_eq_bind_findIdx?_getElem?]
  cases h : s.findIdx? fun y => decide (y.path = t.path) with
  | none => rfl
  | some i =>
    obtain ⟨hlt, _, _⟩ := List.findIdx?_eq_some_iff_getElem.1 h
    simp only [Option.bind_some, List.getElem?_eq_getElem hlt, Option.map_some]
    cases okSel s[i] <;> simp [holdsAt]
theorem place_range {y : Sel} (h : okSel y = true) : 0 ≤ place y ∧ place y < 1000000 := by
  simp only [okSel, okV, Bool.and_eq_true, decide_eq_true_eq] at h
  unfold place
  omega
theorem stOf_range {s : List Sel} {q : ByteArray} {p : Int} (h : stOf s q = some (some p)) : 0 ≤ p ∧ p < 1000000 := by
  unfold stOf at h
  cases hf : s.find? fun y => decide (y.path = q) with
  | none => rw [hf] at h; cases h
  | some y =>
    rw [hf] at h
    simp only [Option.map_some, Option.some.injEq] at h
    cases ho : okSel y with
    | false => rw [ho] at h; cases h
    | true =>
      rw [ho, if_pos rfl] at h
      injection h with h
      exact h ▸ place_range ho
theorem stOf_valid {s : List Sel} (hs : ∀ y ∈ s, okSel y = true) (q : ByteArray) : stOf s q ≠ some none := by
  unfold stOf
  cases hf : s.find? fun y => decide (y.path = q) with
  | none => simp
  | some y => simp [hs y (List.mem_of_find?_eq_some hf)]
theorem valOf_holds {l : List Tm} {q : ByteArray} (hne : ofP l q ≠ []) (σ : Option (Option Int)) (hσ : ∀ p, σ = some (some p) → 0 ≤ p ∧ p < 1000000) : holdsAt (valOf l q) σ = (ofP l q).all fun t => holdsAt t σ := by
  cases σ with
  | none => rfl
  | some σ =>
    cases σ with
    | none =>
      cases hl : ofP l q with
      | nil => exact absurd hl hne
      | cons a r => simp [holdsAt]
    | some p =>
      obtain ⟨h1, h2⟩ := hσ p rfl
      show has (canonOf _) p = _
      rw [has_inter]
      simp only [inter, h1, h2, decide_true, Bool.true_and, List.all_map]
      rfl
theorem violated_iff {l : List Tm} {s : List Sel} : violated l s = true ↔ ∀ t ∈ l, holdsAt t (stOf s t.path) = true := by
  simp only [violated, List.all_eq_true, holds_at]
theorem vals_holds {l : List Tm} {s : List Sel} {t : Tm} (ht : t ∈ vals l) : holdsAt t (stOf s t.path) = true ↔ ∀ x ∈ l, x.path = t.path → holdsAt x (stOf s x.path) = true := by
  obtain ⟨h1, h2⟩ := mem_vals.1 ht
  have h3 := valOf_holds (ofP_ne.2 h1) (stOf s t.path) (fun p h => stOf_range h)
  rw [← h2] at h3
  rw [h3, List.all_eq_true]
  constructor
  · intro h x hx hp
    rw [hp]
    exact h x (mem_ofP.2 ⟨hx, hp⟩)
  · intro h x hx
    obtain ⟨hx, hp⟩ := mem_ofP.1 hx
    have := h x hx hp
    rwa [hp] at this
theorem violated_vals (l : List Tm) (s : List Sel) : violated (vals l) s = violated l s := by
  rw [Bool.eq_iff_iff, violated_iff, violated_iff]
  constructor
  · intro h x hx
    exact (vals_holds (valOf_mem hx)).1 (h _ (valOf_mem hx)) x hx rfl
  · intro h t ht
    exact (vals_holds ht).2 fun x hx _ => h x hx
theorem never_holds {t : Tm} (h : t.never = true) (σ : Option (Option Int)) : holdsAt t σ = false := by
  obtain ⟨h1, h2⟩ := never_iff.1 h
  match σ with
  | none => exact h1
  | some none => rfl
  | some (some p) => exact h2 p
theorem always_holds {t : Tm} (h : t.always = true) {σ : Option (Option Int)} (h1 : σ ≠ some none) (hσ : ∀ p, σ = some (some p) → 0 ≤ p ∧ p < 1000000) : holdsAt t σ = true := by
  obtain ⟨h2, h3⟩ := always_iff.1 h
  match σ, h1, hσ with
  | none, _, _ => exact h2
  | some none, h1, _ => exact absurd rfl h1
  | some (some p), _, hσ => exact h3 p (hσ p rfl).1 (hσ p rfl).2
theorem violated_idle {l : List Tm} (h : (canT l).2 = false) (s : List Sel) : violated l s = false := by
  rw [canT_snd, Bool.not_eq_false', List.any_eq_true] at h
  obtain ⟨t, ht, hn⟩ := h
  rw [← violated_vals, violated, List.all_eq_false]
  exact ⟨t, ht, by rw [holds_at, never_holds hn]; simp⟩
theorem canT_fst {l : List Tm} (h : (canT l).2 = false) : (canT l).1 = [] := by
  unfold canT at *
  split at h
  · rename_i hn; rw [if_pos hn]
  · cases h
theorem violated_can1 {l : List Tm} {s : List Sel} (h : violated l s = true) : violated (canT l).1 s = true := by
  rw [← violated_vals, violated_iff] at h
  exact violated_iff.2 fun t ht => h t (canT_mem ht)
theorem violated_can2 {l : List Tm} {s : List Sel} (hs : ∀ y ∈ s, okSel y = true) (h : (canT l).2 = true) (hv : violated (canT l).1 s = true) : violated l s = true := by
  rw [← violated_vals]
  rw [violated_iff] at *
  intro t ht
  cases ha : t.always with
  | false => exact hv t ((mem_canT h).2 ⟨ht, ha⟩)
  | true => exact always_holds ha (stOf_valid hs _) fun p h => stOf_range h
theorem violated_can {l : List Tm} {s : List Sel} (hs : ∀ y ∈ s, okSel y = true) (h : (canT l).2 = true) : violated (canT l).1 s = violated l s := by
  rw [Bool.eq_iff_iff]
  exact ⟨violated_can2 hs h, violated_can1⟩
/-! ### Resolve -/
theorem getT_mem {A : List Tm} {q : ByteArray} (hp : posT A q < A.length) : getT A q ∈ A := by
  have : getT A q = A[posT A q] := by simp [getT, List.getD_eq_getElem?_getD, hp]
  rw [this]
  exact List.getElem_mem _
theorem posT_of_mem {A : List Tm} {t : Tm} (h : t ∈ A) : posT A t.path < A.length := List.findIdx_lt_length_of_exists ⟨t, h, by simp⟩
theorem resT_zero {a b : List Tm} {q : ByteArray} (h : (resT a b q).2 = 0) : (canT a).2 = true ∧ (canT b).2 = true ∧ posT (canT a).1 q < (canT a).1.length ∧ posT (canT b).1 q < (canT b).1.length ∧
    (canT (meetT (canT a).1 (canT b).1 q)).2 = true ∧ (resT a b q).1 = (canT (meetT (canT a).1 (canT b).1 q)).1 := by
  unfold resT at *
  split at h
  · rename_i h1
    rw [if_pos h1]
    simp only [Bool.and_eq_true, decide_eq_true_eq] at h1
    split at h
    · rename_i h2
      rw [if_pos h2]
      exact ⟨h1.1.1.1, h1.1.1.2, h1.1.2, h1.2, h2, rfl⟩
    · cases h
  · cases h
theorem mem_without {A : List Tm} {q : ByteArray} {t : Tm} : t ∈ without A q ↔ t ∈ A ∧ t.path ≠ q := by simp [without]
theorem union_holds (q : ByteArray) (s t : Tm) (σ : Option (Option Int)) : holdsAt ⟨q, s.absent || t.absent, canonOf (uni [s.set, t.set])⟩ σ = (holdsAt s σ || holdsAt t σ) := by
  match σ with
  | none => rfl
  | some none => rfl
  | some (some p) =>
    show has (canonOf _) p = _
    rw [has_uni]
    simp [uni, holdsAt]
/-- modcertlaw35.TermImplied, first half -/
theorem implied1 {a b : List Tm} {q : ByteArray} {s : List Sel} (hs : ∀ y ∈ s, okSel y = true) (he : (resT a b q).2 = 0) (hv : violated (resT a b q).1 s = true) : violated a s = true ∨ violated b s = true := by
  obtain ⟨ha, hb, pa, pb, hm, hr⟩ := resT_zero he
  rw [hr] at hv
  have hv := violated_iff.1 (violated_can2 hs hm hv)
  have h1 := hv _ (List.mem_append.2 (.inr (List.mem_singleton.2 rfl)))
  rw [union_holds, Bool.or_eq_true] at h1
  have key : ∀ (a : List Tm), (canT a).2 = true → (posT (canT a).1 q < (canT a).1.length) → (∀ t ∈ without (canT a).1 q, holdsAt t (stOf s t.path) = true) → holdsAt (getT (canT a).1 q) (stOf s q) = true → violated a s = true := by
    intro a ha pa h2 h3
    refine violated_can2 hs ha (violated_iff.2 fun t ht => ?_)
    by_cases hq : t.path = q
    · have : t = getT (canT a).1 q := vals_uniq (canT_mem ht) (canT_mem (getT_mem pa)) (by rw [hq, getT_path pa])
      rw [hq, this]; exact h3
    · exact h2 t (mem_without.2 ⟨ht, hq⟩)
  rcases h1 with h1 | h1
  · exact .inl (key a ha pa (fun t ht => hv t (by simp [meetT, ht])) h1)
  · exact .inr (key b hb pb (fun t ht => hv t (by simp [meetT, ht])) h1)
/-- modcertlaw35.TermImplied, second half -/
theorem implied2 {a b : List Tm} {q : ByteArray} {s : List Sel} (he : (resT a b q).2 = 0) (oa : ∀ t ∈ a, t.path ≠ q → holds t s = true) (ob : ∀ t ∈ b, t.path ≠ q → holds t s = true) (hv : violated a s = true ∨ violated b s = true) : violated (resT a b q).1 s = true := by
  obtain ⟨ha, hb, pa, pb, hm, hr⟩ := resT_zero he
  rw [hr]
  refine violated_can1 (violated_iff.2 fun t ht => ?_)
  have key : ∀ (a : List Tm), (∀ t ∈ a, t.path ≠ q → holds t s = true) → ∀ t ∈ without (canT a).1 q, holdsAt t (stOf s t.path) = true := by
    intro a oa t ht
    obtain ⟨h1, h2⟩ := mem_without.1 ht
    exact (vals_holds (canT_mem h1)).2 fun x hx hp => by rw [← holds_at]; exact oa x hx (by rw [hp]; exact h2)
  have key2 : ∀ (a : List Tm), (posT (canT a).1 q < (canT a).1.length) → violated a s = true → holdsAt (getT (canT a).1 q) (stOf s q) = true := by
    intro a pa h
    have := violated_iff.1 (violated_can1 h) _ (getT_mem pa)
    rwa [getT_path pa] at this
  simp only [meetT, List.mem_append, List.mem_singleton] at ht
  rcases ht with (ht | ht) | rfl
  · exact key a oa t ht
  · exact key b ob t ht
  · show holdsAt _ (stOf s q) = true
    rw [union_holds, Bool.or_eq_true]
    exact hv.imp (key2 a pa) (key2 b pb)
/-! ### Subsumes -/
theorem subsumed1 {a b : List Tm} {s : List Sel} (hs : ∀ y ∈ s, okSel y = true) (h : subsT a b = true) (hb : violated b s = true) : violated a s = true := by
  unfold subsT at h
  split at h
  · rename_i hc
    rw [Bool.and_eq_true] at hc
    refine violated_can2 hs hc.1 (violated_iff.2 fun t ht => ?_)
    have h1 := List.all_eq_true.1 h t ht
    simp only [subs1, Bool.and_eq_true, decide_eq_true_eq, Bool.not_eq_true', Bool.and_eq_false_iff] at h1
    obtain ⟨h1, h2, h3⟩ := h1
    have h4 := violated_iff.1 (violated_can1 hb) _ (getT_mem h1)
    rw [getT_path h1] at h4
    have h3 := subs_iff.1 h3
    generalize stOf s t.path = σ at *
    match σ with
    | none =>
      rcases h2 with h2 | h2
      · exact absurd h4 (by rw [show holdsAt (getT (canT b).1 t.path) none = (getT (canT b).1 t.path).absent from rfl]; unfold getT; rw [h2]; simp)
      · exact (by simpa using h2 : t.absent = true)
    | some none => cases h4
    | some (some p) => exact h3 p h4
  · rw [Bool.not_eq_true'] at h
    rw [violated_idle h] at hb
    cases hb
theorem valOf_sub {c a : List Tm} (h : ∀ t ∈ c, t ∈ a) (q : ByteArray) : ((valOf a q).absent = true → (valOf c q).absent = true) ∧ ∀ p, has (valOf a q).set p = true → has (valOf c q).set p = true := by
  have h1 : ∀ t ∈ ofP c q, t ∈ ofP a q := fun t ht => by
    obtain ⟨h1, h2⟩ := mem_ofP.1 ht
    exact mem_ofP.2 ⟨h t h1, h2⟩
  constructor
  · intro h2
    have h2 := List.all_eq_true.1 h2
    exact List.all_eq_true.2 fun t ht => h2 t (h1 t ht)
  · intro p h2
    show has (canonOf _) p = true
    change has (canonOf _) p = true at h2
    rw [has_inter] at *
    simp only [inter, Bool.and_eq_true, decide_eq_true_eq, List.all_map, List.all_eq_true] at *
    exact ⟨h2.1, fun t ht => h2.2 t (h1 t ht)⟩
theorem subsumed2 {c a : List Tm} (h : ∀ t ∈ c, t ∈ a) (ha : (canT a).2 = true) : subsT c a = true := by
  have nv : ∀ t ∈ vals a, t.never = false := by
    intro t ht
    rw [canT_snd, Bool.not_eq_true', List.any_eq_false] at ha
    simpa using ha t ht
  have in_ : ∀ t ∈ vals c, valOf a t.path ∈ vals a := by
    intro t ht
    obtain ⟨⟨x, hx, hp⟩, _⟩ := mem_vals.1 ht
    rw [← hp]
    exact valOf_mem (h x hx)
  have hc : (canT c).2 = true := by
    rw [canT_snd, Bool.not_eq_true', List.any_eq_false]
    intro t ht hn
    obtain ⟨h1, h2⟩ := never_iff.1 hn
    have h3 := valOf_sub h t.path
    rw [← (mem_vals.1 ht).2] at h3
    have hx1 : (valOf a t.path).absent = false := by
      cases hx : (valOf a t.path).absent with
      | false => rfl
      | true => rw [h3.1 hx] at h1; cases h1
    have hx2 : ∀ p, has (valOf a t.path).set p = false := fun p => by
      cases hx : has (valOf a t.path).set p with
      | false => rfl
      | true => have := h3.2 p hx; rw [h2 p] at this; cases this
    have := nv _ (in_ t ht)
    rw [never_iff.2 ⟨hx1, hx2⟩] at this
    cases this
  unfold subsT
  rw [ha, hc]
  simp only [Bool.and_self, if_true, List.all_eq_true]
  intro t ht
  obtain ⟨h1, h2⟩ := (mem_canT hc).1 ht
  have h3 := valOf_sub h t.path
  rw [← (mem_vals.1 h1).2] at h3
  have h4 : valOf a t.path ∈ (canT a).1 := (mem_canT ha).2 ⟨in_ t h1, by
    cases hx : (valOf a t.path).always with
    | false => rfl
    | true =>
      obtain ⟨h5, h6⟩ := always_iff.1 hx
      rw [always_iff.2 ⟨h3.1 h5, fun p q1 q2 => h3.2 p (h6 p q1 q2)⟩] at h2
      cases h2⟩
  have h5 : posT (canT a).1 t.path < (canT a).1.length := posT_of_mem (t := valOf a t.path) h4
  have h6 : (canT a).1.getD (posT (canT a).1 t.path) zeroT = valOf a t.path := vals_uniq (canT_mem (getT_mem h5)) (in_ t h1) (getT_path h5)
  unfold subs1
  rw [h6, subs_iff.2 h3.2]
  simp only [h5, decide_true, Bool.true_and, Bool.and_true, Bool.not_eq_true', Bool.and_eq_false_iff]
  cases hx : (valOf a t.path).absent with
  | false => exact .inl rfl
  | true => exact .inr (by simp [h3.1 hx])
/-! ### The order -/
theorem canT_ext {l m : List Tm} (h : ∀ t, t ∈ vals l ↔ t ∈ vals m) : canT l = canT m := by
  have hn : (vals l).any Tm.never = (vals m).any Tm.never := by
    rw [Bool.eq_iff_iff, List.any_eq_true, List.any_eq_true]
    exact exists_congr fun t => and_congr_left fun _ => h t
  unfold canT
  rw [hn]
  split
  · rfl
  · congr 1
    refine byPath_uniq (sortT_by ((vals_paths l).sublist ((List.filter_sublist).map _))) (sortT_by ((vals_paths m).sublist ((List.filter_sublist).map _))) fun t => ?_
    rw [(sortT_perm _).mem_iff, (sortT_perm _).mem_iff, List.mem_filter, List.mem_filter, h t]
theorem vals_ext {l m : List Tm} (h1 : ∀ q, (∃ x ∈ l, x.path = q) ↔ ∃ x ∈ m, x.path = q) (h2 : ∀ q, (∃ x ∈ l, x.path = q) → valOf l q = valOf m q) (t : Tm) : t ∈ vals l ↔ t ∈ vals m := by
  rw [mem_vals, mem_vals, ← h1]
  exact and_congr_right fun h => by rw [h2 _ h]
theorem valOf_ext {l m : List Tm} {q : ByteArray} (h1 : (ofP l q).all (·.absent) = (ofP m q).all (·.absent)) (h2 : ∀ p, 0 ≤ p → p < 1000000 → ((ofP l q).all fun t => has t.set p) = (ofP m q).all fun t => has t.set p) : valOf l q = valOf m q := by
  unfold valOf
  rw [h1]
  congr 1
  refine canonOf_congr fun p => ?_
  unfold inter
  by_cases h3 : 0 ≤ p <;> by_cases h4 : p < 1000000 <;> simp only [h3, h4, decide_true, decide_false, Bool.true_and, Bool.false_and, Bool.and_false]
  rw [List.all_map, List.all_map]
  exact h2 p h3 h4
theorem all_mem {α : Type} {l m : List α} (h : ∀ t, t ∈ l ↔ t ∈ m) (f : α → Bool) : l.all f = m.all f := by
  rw [Bool.eq_iff_iff, List.all_eq_true, List.all_eq_true]
  exact forall_congr' fun t => by rw [h t]
theorem canT_mems {l m : List Tm} (h : ∀ t, t ∈ l ↔ t ∈ m) : canT l = canT m := by
  refine canT_ext (vals_ext (fun q => exists_congr fun t => by rw [h t]) fun q _ => ?_)
  have : ∀ t, t ∈ ofP l q ↔ t ∈ ofP m q := fun t => by rw [mem_ofP, mem_ofP, h t]
  exact valOf_ext (all_mem this _) fun p _ _ => all_mem this _
theorem meet_comm (A B : List Tm) (q : ByteArray) : canT (meetT A B q) = canT (meetT B A q) := by
  have h1 : canonOf (uni [(getT A q).set, (getT B q).set]) = canonOf (uni [(getT B q).set, (getT A q).set]) := canonOf_congr fun p => by simp [uni, Bool.or_comm]
  refine canT_mems fun t => ?_
  simp only [meetT, List.mem_append, h1, Bool.or_comm (getT A q).absent]
  rw [or_comm (a := t ∈ without A q)]
theorem resT_comm (a b : List Tm) (q : ByteArray) : resT a b q = resT b a q := by
  unfold resT
  rw [meet_comm]
  have : ((canT a).2 && (canT b).2 && decide (posT (canT a).1 q < (canT a).1.length) && decide (posT (canT b).1 q < (canT b).1.length)) = ((canT b).2 && (canT a).2 && decide (posT (canT b).1 q < (canT b).1.length) && decide (posT (canT a).1 q < (canT a).1.length)) := by
    cases (canT a).2 <;> cases (canT b).2 <;> cases decide (posT (canT a).1 q < (canT a).1.length) <;> cases decide (posT (canT b).1 q < (canT b).1.length) <;> rfl
  rw [this]
theorem vals_canon {l : List Tm} {t : Tm} (h : t ∈ vals l) : canonOf (has t.set) = t.set := by
  rw [(mem_vals.1 h).2]
  exact canon_id (canonOf_canon _)
theorem all_one {l : List Tm} {t : Tm} (h1 : t ∈ l) (h2 : ∀ u ∈ l, u = t) (f : Tm → Bool) : l.all f = f t := by
  rw [Bool.eq_iff_iff, List.all_eq_true]
  exact ⟨fun h => h t h1, fun h u hu => by rw [h2 u hu]; exact h⟩
theorem can_valOf {a : List Tm} {t : Tm} (h : t ∈ (canT a).1) : valOf (canT a).1 t.path = t := by
  have h1 : t ∈ ofP (canT a).1 t.path := mem_ofP.2 ⟨h, rfl⟩
  have h2 : ∀ u ∈ ofP (canT a).1 t.path, u = t := fun u hu => by
    obtain ⟨h3, h4⟩ := mem_ofP.1 hu
    exact vals_uniq (canT_mem h3) (canT_mem h) h4
  unfold valOf
  rw [all_one h1 h2]
  have h3 : canonOf (inter ((ofP (canT a).1 t.path).map (·.set))) = t.set := by
    refine Eq.trans (canonOf_congr fun p => ?_) (vals_canon (canT_mem h))
    unfold inter
    rw [List.all_map, all_one h1 h2]
    simp only [Function.comp]
    cases hx : has t.set p with
    | false => simp [hx]
    | true => have := has_range hx; simp [hx, this.1, this.2]
  rw [h3]
theorem canT_idem {a : List Tm} (h : (canT a).2 = true) : canT (canT a).1 = ((canT a).1, true) := by
  have hv : ∀ t, t ∈ vals (canT a).1 ↔ t ∈ (canT a).1 := by
    intro t
    rw [mem_vals]
    constructor
    · rintro ⟨⟨x, hx, hp⟩, e⟩
      rw [e, ← hp, can_valOf hx]; exact hx
    · exact fun ht => ⟨⟨t, ht, rfl⟩, (can_valOf ht).symm⟩
  have hn : (vals (canT a).1).any Tm.never = false := by
    rw [List.any_eq_false]
    intro t ht
    have h1 := canT_mem ((hv t).1 ht)
    rw [canT_snd, Bool.not_eq_true', List.any_eq_false] at h
    exact h t h1
  rw [show canT (canT a).1 = if (vals (canT a).1).any Tm.never then ([], false) else (sortT ((vals (canT a).1).filter fun t => !t.always), true) from rfl, hn, if_neg (by simp)]
  congr 1
  refine byPath_uniq (sortT_by ((vals_paths _).sublist ((List.filter_sublist).map _))) (canT_by a) fun t => ?_
  rw [(sortT_perm _).mem_iff, List.mem_filter, hv]
  exact ⟨fun h => h.1, fun ht => ⟨ht, by simp [((mem_canT h).1 ht).2]⟩⟩
theorem meet_self {a : List Tm} {q : ByteArray} (h : (canT a).2 = true) (hp : posT (canT a).1 q < (canT a).1.length) : canT (meetT (canT a).1 (canT a).1 q) = ((canT a).1, true) := by
  rw [← canT_idem h]
  generalize hA : (canT a).1 = A at *
  have hg : getT A q ∈ A := getT_mem hp
  have hgp : (getT A q).path = q := getT_path hp
  refine canT_ext (vals_ext (fun p => ?_) fun p hex => ?_)
  · constructor
    · rintro ⟨x, hx, e⟩
      simp only [meetT, List.mem_append, List.mem_singleton] at hx
      rcases hx with (hx | hx) | rfl
      · exact ⟨x, (mem_without.1 hx).1, e⟩
      · exact ⟨x, (mem_without.1 hx).1, e⟩
      · exact ⟨getT A q, hg, hgp.trans e⟩
    · rintro ⟨x, hx, e⟩
      by_cases hq : x.path = q
      · exact ⟨_, List.mem_append.2 (.inr (List.mem_singleton.2 rfl)), hq.symm.trans e⟩
      · exact ⟨x, by simp [meetT, mem_without, hx, hq], e⟩
  · by_cases hq : p = q
    · subst hq
      have e1 : ofP (meetT A A p) p = [⟨p, (getT A p).absent || (getT A p).absent, canonOf (uni [(getT A p).set, (getT A p).set])⟩] := by
        have e2 : ofP (without A p) p = [] := by
          rw [List.eq_nil_iff_forall_not_mem]
          intro t ht
          obtain ⟨h1, h2⟩ := mem_ofP.1 ht
          exact (mem_without.1 h1).2 h2
        unfold meetT
        rw [ofP_snoc, if_pos rfl]
        unfold ofP at *
        rw [List.filter_append, e2]; rfl
      have h1 : getT A p ∈ ofP A p := mem_ofP.2 ⟨hg, hgp⟩
      have h2 : ∀ u ∈ ofP A p, u = getT A p := fun u hu => by
        obtain ⟨h3, h4⟩ := mem_ofP.1 hu
        have hg' : getT A p ∈ (canT a).1 := by rw [hA]; exact hg
        rw [← hA] at h3
        exact vals_uniq (canT_mem h3) (canT_mem hg') (h4.trans hgp.symm)
      refine valOf_ext ?_ fun x _ _ => ?_
      · rw [e1, all_one h1 h2]; simp
      · rw [e1, all_one h1 h2]
        simp [has_uni, uni]
    · have hm : ∀ t, t ∈ ofP (meetT A A q) p ↔ t ∈ ofP A p := by
        intro t
        rw [mem_ofP, mem_ofP]
        constructor
        · rintro ⟨hx, e⟩
          simp only [meetT, List.mem_append, List.mem_singleton] at hx
          rcases hx with (hx | hx) | rfl
          · exact ⟨(mem_without.1 hx).1, e⟩
          · exact ⟨(mem_without.1 hx).1, e⟩
          · exact absurd e.symm hq
        · rintro ⟨hx, e⟩
          exact ⟨by simp [meetT, mem_without, hx, e, hq], e⟩
      exact valOf_ext (all_mem hm _) fun x _ _ => all_mem hm _
theorem resT_self (a : List Tm) (q : ByteArray) : resT a a q = if foundT (canT a) q then ((canT a).1, 0) else ([], 1) := by
  unfold resT foundT
  cases h1 : (canT a).2 with
  | false => simp
  | true =>
    by_cases h2 : posT (canT a).1 q < (canT a).1.length
    · rw [meet_self h1 h2]; simp [h2]
    · simp [h2]
/-! ### Exactness -/
def viol (l : List Tm) (s : List Sel) : Bool := decide (0 < l.length) && violated l s
theorem viol_can {l : List Tm} {s : List Sel} (hs : ∀ y ∈ s, okSel y = true) (hne : ∃ t ∈ vals l, t.always = false) : viol (canT l).1 s = violated l s := by
  unfold viol
  cases h : (canT l).2 with
  | false => rw [violated_idle h, canT_fst h]; rfl
  | true =>
    obtain ⟨t, ht, ha⟩ := hne
    have : 0 < (canT l).1.length := List.length_pos_of_mem ((mem_canT h).2 ⟨ht, ha⟩)
    rw [violated_can hs h]
    simp [this]
end
section
open Go.Aw Go.RowKit Go.Sort Go.Shelf Go.Deep Go.ChangeShapes Go.WideShapes Go.ChangeAt
theorem n43 : Tryz.prog.cellsOf 43 = 3 := by kernel_rfl
theorem n45 : Tryz.prog.cellsOf 45 = 4 := by kernel_rfl
section
variable {H : Type} {enc : TypeId × Value → H} {w : World} {base : Nat} {spare : Nat → Bool} {held : Bool} {fuel : Nat} {cs : List Value} {x : DataW H × List MemPlace}
theorem read_ver (h : DataW.trod enc Tryz.prog w base spare held fuel 43 cs = some x) : ∃ a b c : Int, RdL w [.int .i64 a, .int .i64 b, .int .i64 c] cs := by
  obtain ⟨y0, y1, y2, n, _, hl, h0, h1, h2⟩ := trod_struct3 Tryz.underlying43 h
  obtain ⟨a, ha, _⟩ := read_int Tryz.underlying3 h0
  obtain ⟨b, hb, _⟩ := read_int Tryz.underlying3 h1
  obtain ⟨c, hc, _⟩ := read_int Tryz.underlying3 h2
  rw [n3] at ha hb hc
  exact ⟨a, b, c, RdL.join3 (by rw [hl, n43]) ha hb hc⟩
theorem read_sel (h : DataW.trod enc Tryz.prog w base spare held fuel 45 cs = some x) : ∃ y : Sel, RdL w (encSel y) cs := by
  obtain ⟨y0, y1, n, _, hl, h0, h1⟩ := trod_struct2 Tryz.underlying45 h
  obtain ⟨p, hp, _⟩ := read_str Tryz.underlying9 h0
  obtain ⟨a, b, c, hs⟩ := read_ver h1
  rw [n9] at hp
  rw [n43] at hs
  exact ⟨⟨p, a, b, c⟩, RdL.join2 (by rw [hl, n45]) hp hs⟩
end
section
variable {H : Type} {enc : TypeId × Value → H} {W : World} {base : Nat} {v : Value} {d : DataW H} {p : List MemPlace} {ts : List TypeId} {ds : List (DataW H)} {j : Nat}
theorem arg_terms (hval : Value.okWide Tryz.prog W .any base 29 v) (h : DataW.Trod enc Tryz.prog W 0 (fun _ => true) true 29 v d p) (hsz : (DataW.weightsEach Tryz.prog ts ds).all (· ≤ reachBytes) = true) (hj : ts[j]? = some 29) (hd : ds[j]? = some d) :
    ∃ l : List Tm, IR W (fun _ => False) (.isl .unk (l.map encTerm)) v ∧ l.length < 4611686018427387904 :=
  arg_slice (k := 3) (fun _ => rfl) Tryz.underlying29 n51 (by omega) (of_decide_eq_true (by kernel_rfl)) (fun n cs' y h => read_term (fun _ => rfl) h) hval h hsz hj hd
theorem arg_spans (hval : Value.okWide Tryz.prog W .any base 23 v) (h : DataW.Trod enc Tryz.prog W 0 (fun _ => true) true 23 v d p) (hsz : (DataW.weightsEach Tryz.prog ts ds).all (· ≤ reachBytes) = true) (hj : ts[j]? = some 23) (hd : ds[j]? = some d) :
    ∃ l : Sp, IR W (fun _ => False) (.isl .unk (l.map encSpan)) v ∧ l.length < 4611686018427387904 :=
  arg_slice (k := 2) (fun _ => rfl) Tryz.underlying23 n65 (by omega) (of_decide_eq_true (by kernel_rfl)) (fun n cs' y h => read_span h) hval h hsz hj hd
theorem arg_sels (hval : Value.okWide Tryz.prog W .any base 39 v) (h : DataW.Trod enc Tryz.prog W 0 (fun _ => true) true 39 v d p) (hsz : (DataW.weightsEach Tryz.prog ts ds).all (· ≤ reachBytes) = true) (hj : ts[j]? = some 39) (hd : ds[j]? = some d) :
    ∃ l : List Sel, IR W (fun _ => False) (.isl .unk (l.map encSel)) v ∧ l.length < 4611686018427387904 :=
  arg_slice (k := 4) (fun _ => rfl) Tryz.underlying39 n45 (by omega) (of_decide_eq_true (by kernel_rfl)) (fun n cs' y h => read_sel h) hval h hsz hj hd
theorem arg_rq (h : DataW.Trod enc Tryz.prog W 0 (fun _ => true) true 25 v d p) : ∃ r : Rq, IR W (fun _ => False) (.agg (encRq r)) v := by
  obtain ⟨f, g⟩ := h
  obtain ⟨r, hr⟩ := read_rq (fun _ => rfl) g
  exact ⟨r, RdL.agg hr (by simp [encRq])⟩
end
theorem own : ownKnob Tryz.prog.godebug = none := by kernel_rfl
theorem laidOut : laidOutB Tryz.prog = true := by kernel_rfl
end
end Go.Proofs.YtbjhhaklecljdaaGreat
