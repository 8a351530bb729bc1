/-
  Contracts of the functions of this seat.
-/
import Derived.Test.YtbjhhaklecljdaaGreatS1
set_option linter.unusedVariables false
set_option linter.unusedSimpArgs false
set_option maxRecDepth 20000
namespace Go.Proofs.YtbjhhaklecljdaaGreat
open Go.Aw Go.RowKit Go.Sort Go.Shelf
attribute [local go_sem] X_skip X_ops X_dops X_seq X_cond X_block X_loop X_exit X_ret LR_nil LR_cons LR_guard LS_def LD_nil LD_cons LD_guard DO_def ite_imp W_pure W_fail W_guard W_get W_put W_new W_del callee aop rho mkE mkH putE remK AM.lwp aload astore aindex aslice Aw.intOf abuild abuildSlice aparts abuiltin abin abinT abits aeqs anil asrc aappend aappendTo partOf splice AV.cells ofValue ofScalar FreshL noRefE noRefH AV.has AV.hasL AV.hasLL AObj.has AV.leaf AV.leafL AV.leafLL lenAll_nil lenAll_cons lenAll_app someArr noneArr sub_toNat take_map drop_map take_drop_len aw_wrap1 one_add len_take set_snoc getD_snoc List.length_singleton take_ge Nat.add_sub_of_le List.take_length take_len_app Int.sub_zero List.length_drop Nat.sub_zero aclear aclearB isClear withMap alookup aupdate arange aentry adelete setEntry findK sameK keyOk keysOk sameL lnext footD opRefs wrOf wrRefs headRefs isW quietB items freshN Op.operands Call.operands AV.refs AV.refsL keepL keepH argE finP finE finO finC sealN0 sealNL0 sealNA sealNL1 sealN1 getD_map_lt nat_nonneg nat_neg cast_lt cast_le zero_lt_cast cast_le_zero cast_eq_zero zero_eq_cast Nat.succ_ne_zero Nat.add_one_ne_zero Int.toNat_natCast lresL retVal seal0 seal1 sealL0 sealA sealL1 List.map List.append List.cons_append List.nil_append List.flatMap_cons List.flatMap_nil List.getD_cons_zero List.getD_cons_succ List.length_cons List.length_nil List.take List.drop List.set List.mem_cons List.not_mem_nil List.toList_toArray List.map_cons List.map_nil Option.map_some Option.map_none if_true if_false ite_true ite_false true_and and_true not_false_eq_true not_true_eq_false implies_true forall_const Bool.false_eq_true decide_true decide_false eq_self and_self false_and and_false or_self or_true true_or or_false false_or ne_eq Nat.zero_add Nat.add_zero Bool.or_false Bool.false_or Option.isSome_some imp_self false_implies forall_const Int.cast_ofNat_Int decide_eq_true_eq decide_eq_false_iff_not Bool.not_true Bool.not_false Bool.true_eq_false Bool.false_eq_true Nat.sub_self AV.int.injEq AV.bool.injEq AV.str.injEq AV.tup.injEq AV.agg.injEq AV.isl.injEq cond_true cond_false pick_bool pick_int arr1_0 arr2_0 arr2_1 arr1_size arr2_size Nat.lt_add_one Nat.zero_lt_succ Nat.zero_lt_one Option.isSome_none Bool.and_true Bool.true_and Bool.false_and Bool.and_false remKs rep0 rep1 rep2 rep3 rep4 rep5 rep6 rep7 rep8 List.getLast?_concat renP_app hasP_app Array.toList_append hasLL_app renLL_app leafLL_app take_all forall_eq List.length_map List.length_append Nat.le_refl List.take_zero List.drop_zero Nat.lt_irrefl List.map_append
attribute [local go_sem] t_agg_23 t_agg_25 t_agg_3 t_agg_39 t_agg_4 t_agg_43 t_agg_45 t_agg_51 t_agg_65 t_agg_78 t_agg_9 t_agg_94 t_bytes_23 t_bytes_3 t_bytes_45 t_bytes_51 t_bytes_65 t_elem_100 t_elem_101 t_elem_23 t_elem_28 t_elem_29 t_elem_3 t_elem_39 t_elem_78 t_elem_9 t_eq_29 t_eq_3 t_eq_35 t_eq_4 t_eq_65 t_eq_9 t_field_25_0 t_field_25_1 t_field_43_0 t_field_43_1 t_field_43_2 t_field_45_0 t_field_45_1 t_field_51_0 t_field_51_1 t_field_51_2 t_field_65_0 t_field_65_1 t_fok_25 t_fok_43 t_fok_45 t_fok_51 t_fok_65 t_kind_100 t_kind_101 t_kind_23 t_kind_25 t_kind_28 t_kind_29 t_kind_3 t_kind_39 t_kind_43 t_kind_45 t_kind_51 t_kind_55 t_kind_65 t_kind_78 t_kind_9 t_kind_94 t_kind_99 t_map_100 t_map_101 t_map_23 t_map_28 t_map_29 t_map_3 t_map_39 t_map_56 t_map_78 t_map_85 t_map_9 t_nil_29 t_nil_3 t_nil_35 t_nil_4 t_nil_65 t_nil_9 t_size_23 t_size_25 t_size_3 t_size_39 t_size_4 t_size_43 t_size_45 t_size_51 t_size_65 t_size_78 t_size_9 t_size_94 t_zeroV_3 t_zeroV_51 t_zero_23 t_zero_25 t_zero_3 t_zero_43 t_zero_45 t_zero_51 t_zero_65 t_zero_94
section
open Go.Aw Go.RowKit Go.Sort Go.Shelf
theorem set_terms (T : List Tm) (j : Nat) (p : ByteArray) (b : Bool) (s : Sp) : (T.map encTerm).set j [.str p, .bool b, .isl .unk (s.map encSpan)] = (T.set j ⟨p, b, s⟩).map encTerm := by
  rw [List.map_set]; rfl
set_option maxHeartbeats 1000000 in
/-- modcertref35.Canonical -/
theorem f48_pure (l : List Tm) (hl : l.length ≤ 1000000) (hok : ∀ t ∈ l, t.ok) (fl : Flag) :
    PureP Tryz.prog 48 [.isl fl (l.map encTerm)] (· = .tup [.isl .unk ((canT l).1.map encTerm), .bool (canT l).2]) := by
  refine PureE.run mixed e48 Tryz.func48 c48_ok r48 (by rw [Tryz.ntmps48]; rfl) rfl ?_
  simp (config := { implicitDefEqProofs := false, decide := true }) only [go_sem, Nat.reduceEqDiff, Nat.reduceAdd, Nat.reduceMul, Nat.reduceSub, Nat.reduceLT, Nat.reduceLeDiff, Nat.reduceBEq, reduceCtorEq, Int.reduceLT, Int.reduceLE, Int.reduceEq, Int.reduceToNat, Int.reduceAdd, Int.reduceSub, Int.reduceMul, Int.reduceNeg, Nat.reduceLT, ↓reduceIte, c48]
  refine LL.upkS mixed [0] [] l.length ([] : List Tm) (fun i T => InsT l i T) (fun i T => [(5, .int .i64 i), (4, .sl 7 0 T.length false)]) (fun i T => [(7, .row 51 3 (T.map encTerm))]) ⟨List.Pairwise.nil, by simp [merged, gget_nil], by simp⟩ ⟨ap [(7, 2000)], ?_⟩ (fun i T hlt hI => ?_) (fun T hI => ?_)
  · simp (config := { implicitDefEqProofs := false, decide := true }) only [go_sem, Nat.reduceEqDiff, Nat.reduceAdd, Nat.reduceMul, Nat.reduceSub, Nat.reduceLT, Nat.reduceLeDiff, Nat.reduceBEq, reduceCtorEq, Int.reduceLT, Int.reduceLE, Int.reduceEq, Int.reduceToNat, Int.reduceAdd, Int.reduceSub, Int.reduceMul, Int.reduceNeg, Nat.reduceLT, ↓reduceIte, AV.renP, LeL, leE, leH, apartH, injH, keptS, ap, AV.ren, AV.renL, AV.renLL, AObj.ren]
  · have hi : i < 4611686018427387904 := by omega
    have hlen := hI.len
    have hok1 := hok l[i] (List.getElem_mem hlt)
    simp (config := { implicitDefEqProofs := false, decide := true }) only [go_sem, Nat.reduceEqDiff, Nat.reduceAdd, Nat.reduceMul, Nat.reduceSub, Nat.reduceLT, Nat.reduceLeDiff, Nat.reduceBEq, reduceCtorEq, Int.reduceLT, Int.reduceLE, Int.reduceEq, Int.reduceToNat, Int.reduceAdd, Int.reduceSub, Int.reduceMul, Int.reduceNeg, Nat.reduceLT, ↓reduceIte, c48_L1, hlt, encTerm, norm_terms, norm_spans, norm_sels, len_terms, len_spans, len_sels, hasLL_terms, hasLL_spans, renLL_terms, renLL_spans, leaf_terms, leaf_spans, leaf_sels, norm_sets, len_sets, hasLL_sets, renLL_sets, leaf_sets]
    refine DC.val (f32_pure l[i].set .unk hok1) rfl rfl ?_
    obtain ⟨j0, hj0, hlo, hge⟩ := placeT T l[i].path
    simp (config := { implicitDefEqProofs := false, decide := true }) only [go_sem, Nat.reduceEqDiff, Nat.reduceAdd, Nat.reduceMul, Nat.reduceSub, Nat.reduceLT, Nat.reduceLeDiff, Nat.reduceBEq, reduceCtorEq, Int.reduceLT, Int.reduceLE, Int.reduceEq, Int.reduceToNat, Int.reduceAdd, Int.reduceSub, Int.reduceMul, Int.reduceNeg, Nat.reduceLT, ↓reduceIte, encTerm, norm_terms, norm_spans, norm_sels, len_terms, len_spans, len_sels, hasLL_terms, hasLL_spans, renLL_terms, renLL_spans, leaf_terms, leaf_spans, leaf_sels, norm_sets, len_sets, hasLL_sets, renLL_sets, leaf_sets]
    refine LL.upS mixed [0, 4, 5, 6] [7, 6017] j0 (fun _ => True) (fun j => [(7, .int .i64 j)]) (fun _ => []) trivial ⟨ap [], ?_⟩ (fun j hj _ => ?_) (fun _ => ?_)
    · simp (config := { implicitDefEqProofs := false, decide := true }) only [go_sem, Nat.reduceEqDiff, Nat.reduceAdd, Nat.reduceMul, Nat.reduceSub, Nat.reduceLT, Nat.reduceLeDiff, Nat.reduceBEq, reduceCtorEq, Int.reduceLT, Int.reduceLE, Int.reduceEq, Int.reduceToNat, Int.reduceAdd, Int.reduceSub, Int.reduceMul, Int.reduceNeg, Nat.reduceLT, ↓reduceIte, AV.renP, LeL, leE, leH, apartH, injH, keptS, ap, AV.ren, AV.renL, AV.renLL, AObj.ren, encTerm, norm_terms, norm_spans, norm_sels, len_terms, len_spans, len_sels, hasLL_terms, hasLL_spans, renLL_terms, renLL_spans, leaf_terms, leaf_spans, leaf_sels, norm_sets, len_sets, hasLL_sets, renLL_sets, leaf_sets]
    · have hjl : j < T.length := by omega
      have hlj := hlo j hjl hj
      simp (config := { implicitDefEqProofs := false, decide := true }) only [go_sem, Nat.reduceEqDiff, Nat.reduceAdd, Nat.reduceMul, Nat.reduceSub, Nat.reduceLT, Nat.reduceLeDiff, Nat.reduceBEq, reduceCtorEq, Int.reduceLT, Int.reduceLE, Int.reduceEq, Int.reduceToNat, Int.reduceAdd, Int.reduceSub, Int.reduceMul, Int.reduceNeg, Nat.reduceLT, ↓reduceIte, c48_L0, hjl, encTerm, less_ltB, hlj, norm_terms, norm_spans, norm_sels, len_terms, len_spans, len_sels, hasLL_terms, hasLL_spans, renLL_terms, renLL_spans, leaf_terms, leaf_spans, leaf_sels, norm_sets, len_sets, hasLL_sets, renLL_sets, leaf_sets]
      exact ⟨ap [], by simp (config := { implicitDefEqProofs := false, decide := true }) only [go_sem, Nat.reduceEqDiff, Nat.reduceAdd, Nat.reduceMul, Nat.reduceSub, Nat.reduceLT, Nat.reduceLeDiff, Nat.reduceBEq, reduceCtorEq, Int.reduceLT, Int.reduceLE, Int.reduceEq, Int.reduceToNat, Int.reduceAdd, Int.reduceSub, Int.reduceMul, Int.reduceNeg, Nat.reduceLT, ↓reduceIte, AV.renP, LeL, leE, leH, apartH, injH, keptS, ap, AV.ren, AV.renL, AV.renLL, AObj.ren, encTerm, norm_terms, norm_spans, norm_sels, len_terms, len_spans, len_sels, hasLL_terms, hasLL_spans, renLL_terms, renLL_spans, leaf_terms, leaf_spans, leaf_sels, norm_sets, len_sets, hasLL_sets, renLL_sets, leaf_sets, wrap_nat (show j < 4611686018427387904 by omega)]⟩
    · rcases Nat.lt_or_ge j0 T.length with hjl | hjl
      · have hgj := hge hjl
        cases hhit : decide (T[j0].path = l[i].path) with
        | true =>
          have hTi := hI.hit hlt j0 hjl (of_decide_eq_true hhit)
          have hsm := hI.small T[j0] (List.getElem_mem hjl)
          have hcl := canonOf_len (has l[i].set)
          have hp := f70_pure [T[j0].set, canonOf (has l[i].set)] .unk (by simp) (by simp; exact ⟨hsm, hcl⟩)
          cases hab : T[j0].absent
          all_goals
            simp (config := { implicitDefEqProofs := false, decide := true }) only [go_sem, Nat.reduceEqDiff, Nat.reduceAdd, Nat.reduceMul, Nat.reduceSub, Nat.reduceLT, Nat.reduceLeDiff, Nat.reduceBEq, reduceCtorEq, Int.reduceLT, Int.reduceLE, Int.reduceEq, Int.reduceToNat, Int.reduceAdd, Int.reduceSub, Int.reduceMul, Int.reduceNeg, Nat.reduceLT, ↓reduceIte, c48_L0, hjl, encTerm, less_ltB, hgj, bytes_eq, hhit, hab, set_terms, List.length_set, List.getElem_set_self, List.set_set, norm_terms, norm_spans, norm_sels, len_terms, len_spans, len_sels, hasLL_terms, hasLL_spans, renLL_terms, renLL_spans, leaf_terms, leaf_spans, leaf_sels, norm_sets, len_sets, hasLL_sets, renLL_sets, leaf_sets]
            refine DC.frz [.isl .unk [encSet T[j0].set, encSet (canonOf (has l[i].set))]] (by simp only [viewL_nil, viewL_cons, viewL0_nil, viewL0_cons, view1_func, view1_agg, view1_sl, view1_ptr, view1_leaf, view0_leaf, view0_sl, view0_ptr, AV.refsL, AV.refs, List.append_nil, List.nil_append, List.cons_append, mkH, ↓reduceIte, List.drop_zero, take_map, drop_map, List.take_length, List.length_map, getD_map_lt, List.getD_cons_zero, List.drop, AV.leafLL, AV.leafL, AV.leaf, List.mem_cons, List.not_mem_nil, or_false, true_or, or_true, Nat.zero_add, Nat.le_refl, and_self, true_and, and_true, Bool.false_eq_true, Bool.and_true, Bool.and_self, if_true, if_false, List.length_cons, List.length_nil, List.take, Nat.reduceAdd, Nat.reduceLeDiff, Nat.reduceLT, Nat.lt_add_one, Nat.zero_le, Nat.reduceEqDiff, norm_terms, norm_spans, norm_sels, len_terms, len_spans, len_sels, hasLL_terms, hasLL_spans, renLL_terms, renLL_spans, leaf_terms, leaf_spans, leaf_sels, norm_sets, len_sets, hasLL_sets, renLL_sets, leaf_sets, encSet]) hp rfl rfl (by simp (config := { implicitDefEqProofs := false, decide := true }) only [go_sem, Nat.reduceEqDiff, Nat.reduceAdd, Nat.reduceMul, Nat.reduceSub, Nat.reduceLT, Nat.reduceLeDiff, Nat.reduceBEq, reduceCtorEq, Int.reduceLT, Int.reduceLE, Int.reduceEq, Int.reduceToNat, Int.reduceAdd, Int.reduceSub, Int.reduceMul, Int.reduceNeg, Nat.reduceLT, ↓reduceIte]) ?_
            simp (config := { implicitDefEqProofs := false, decide := true }) only [go_sem, Nat.reduceEqDiff, Nat.reduceAdd, Nat.reduceMul, Nat.reduceSub, Nat.reduceLT, Nat.reduceLeDiff, Nat.reduceBEq, reduceCtorEq, Int.reduceLT, Int.reduceLE, Int.reduceEq, Int.reduceToNat, Int.reduceAdd, Int.reduceSub, Int.reduceMul, Int.reduceNeg, Nat.reduceLT, ↓reduceIte, c48_L0, hjl, encTerm, set_terms, List.length_set, List.getElem_set_self, List.set_set, norm_terms, norm_spans, norm_sels, len_terms, len_spans, len_sels, hasLL_terms, hasLL_spans, renLL_terms, renLL_spans, leaf_terms, leaf_spans, leaf_sels, norm_sets, len_sets, hasLL_sets, renLL_sets, leaf_sets]
            refine ⟨_, hTi, ap [], ?_⟩
            simp (config := { implicitDefEqProofs := false, decide := true }) only [go_sem, Nat.reduceEqDiff, Nat.reduceAdd, Nat.reduceMul, Nat.reduceSub, Nat.reduceLT, Nat.reduceLeDiff, Nat.reduceBEq, reduceCtorEq, Int.reduceLT, Int.reduceLE, Int.reduceEq, Int.reduceToNat, Int.reduceAdd, Int.reduceSub, Int.reduceMul, Int.reduceNeg, Nat.reduceLT, ↓reduceIte, AV.renP, LeL, leE, leH, apartH, injH, keptS, ap, AV.ren, AV.renL, AV.renLL, AObj.ren, encTerm, norm_terms, norm_spans, norm_sels, len_terms, len_spans, len_sels, hasLL_terms, hasLL_spans, renLL_terms, renLL_spans, leaf_terms, leaf_spans, leaf_sels, norm_sets, len_sets, hasLL_sets, renLL_sets, leaf_sets, wrap_nat hi, List.length_set, both, hab, inter_canon, Bool.true_and, Bool.false_and]
        | false =>
          have hTi := hI.miss hlt j0 hj0 (fun k hk h => hlo k hk h) hge (fun hk => of_decide_eq_false hhit)
          simp (config := { implicitDefEqProofs := false, decide := true }) only [go_sem, Nat.reduceEqDiff, Nat.reduceAdd, Nat.reduceMul, Nat.reduceSub, Nat.reduceLT, Nat.reduceLeDiff, Nat.reduceBEq, reduceCtorEq, Int.reduceLT, Int.reduceLE, Int.reduceEq, Int.reduceToNat, Int.reduceAdd, Int.reduceSub, Int.reduceMul, Int.reduceNeg, Nat.reduceLT, ↓reduceIte, c48_L0, hjl, encTerm, less_ltB, hgj, bytes_eq, hhit, norm_terms, norm_spans, norm_sels, len_terms, len_spans, len_sels, hasLL_terms, hasLL_spans, renLL_terms, renLL_spans, leaf_terms, leaf_spans, leaf_sels, norm_sets, len_sets, hasLL_sets, renLL_sets, leaf_sets]
          refine ⟨by omega, by omega, by omega, by omega, by omega, by omega, _, hTi, ap [(7, 13010)], ?_⟩
          simp (config := { implicitDefEqProofs := false, decide := true }) only [go_sem, Nat.reduceEqDiff, Nat.reduceAdd, Nat.reduceMul, Nat.reduceSub, Nat.reduceLT, Nat.reduceLeDiff, Nat.reduceBEq, reduceCtorEq, Int.reduceLT, Int.reduceLE, Int.reduceEq, Int.reduceToNat, Int.reduceAdd, Int.reduceSub, Int.reduceMul, Int.reduceNeg, Nat.reduceLT, ↓reduceIte, AV.renP, LeL, leE, leH, apartH, injH, keptS, ap, AV.ren, AV.renL, AV.renLL, AObj.ren, encTerm, cano, norm_terms, norm_spans, norm_sels, len_terms, len_spans, len_sels, hasLL_terms, hasLL_spans, renLL_terms, renLL_spans, leaf_terms, leaf_spans, leaf_sels, norm_sets, len_sets, hasLL_sets, renLL_sets, leaf_sets, wrap_nat hi, List.length_append, List.length_cons, List.length_take, List.length_drop, List.map_append, List.map_cons, Nat.min_eq_left hj0]
      · have hTi := hI.miss hlt j0 hj0 (fun k hk h => hlo k hk h) hge (fun hk => by omega)
        have hjl2 : ¬ j0 < T.length := by omega
        simp (config := { implicitDefEqProofs := false, decide := true }) only [go_sem, Nat.reduceEqDiff, Nat.reduceAdd, Nat.reduceMul, Nat.reduceSub, Nat.reduceLT, Nat.reduceLeDiff, Nat.reduceBEq, reduceCtorEq, Int.reduceLT, Int.reduceLE, Int.reduceEq, Int.reduceToNat, Int.reduceAdd, Int.reduceSub, Int.reduceMul, Int.reduceNeg, Nat.reduceLT, ↓reduceIte, c48_L0, hjl2, encTerm, less_ltB, bytes_eq, norm_terms, norm_spans, norm_sels, len_terms, len_spans, len_sels, hasLL_terms, hasLL_spans, renLL_terms, renLL_spans, leaf_terms, leaf_spans, leaf_sels, norm_sets, len_sets, hasLL_sets, renLL_sets, leaf_sets]
        refine ⟨by omega, by omega, by omega, by omega, by omega, by omega, _, hTi, ap [(7, 13010)], ?_⟩
        simp (config := { implicitDefEqProofs := false, decide := true }) only [go_sem, Nat.reduceEqDiff, Nat.reduceAdd, Nat.reduceMul, Nat.reduceSub, Nat.reduceLT, Nat.reduceLeDiff, Nat.reduceBEq, reduceCtorEq, Int.reduceLT, Int.reduceLE, Int.reduceEq, Int.reduceToNat, Int.reduceAdd, Int.reduceSub, Int.reduceMul, Int.reduceNeg, Nat.reduceLT, ↓reduceIte, AV.renP, LeL, leE, leH, apartH, injH, keptS, ap, AV.ren, AV.renL, AV.renLL, AObj.ren, encTerm, cano, norm_terms, norm_spans, norm_sels, len_terms, len_spans, len_sels, hasLL_terms, hasLL_spans, renLL_terms, renLL_spans, leaf_terms, leaf_spans, leaf_sels, norm_sets, len_sets, hasLL_sets, renLL_sets, leaf_sets, wrap_nat hi, List.length_append, List.length_cons, List.length_take, List.length_drop, List.map_append, List.map_cons, Nat.min_eq_left hj0]
  · have hTl := hI.len
    have hvm : ∀ t, t ∈ T ↔ t ∈ vals l := by
      intro t
      rw [hI.mem t, List.take_length]
      constructor
      · intro h
        obtain ⟨e, he, h1⟩ := List.mem_map.1 (gget_some.1 (by rw [h]; rfl : (gget t.path (merged both l).2).isSome = true))
        have h2 := gget_mem (merged_ok both l).keys he
        rw [h1, h] at h2
        injection h2 with h2
        exact List.mem_map.2 ⟨e, he, h2.symm⟩
      · intro h
        obtain ⟨e, he, rfl⟩ := List.mem_map.1 h
        have h2 := gget_mem (merged_ok both l).keys he
        rw [merged_path l _ _ h2]
        exact h2
    have hcn : ∀ t ∈ T, canonOf (has t.set) = t.set := fun t ht =>
      cano_of (merged_inv (fun t => ∃ s, t.set = canonOf (has s)) (fun a b => ⟨canonOf (inter [a.set, b.set]), canonOf_congr fun p => (has_inter [a.set, b.set] p).symm⟩) _ _ _ ((hI.mem t).1 ht))
    have hby := hI.sorted
    have hsm := hI.small
    clear hI
    simp (config := { implicitDefEqProofs := false, decide := true }) only [go_sem, Nat.reduceEqDiff, Nat.reduceAdd, Nat.reduceMul, Nat.reduceSub, Nat.reduceLT, Nat.reduceLeDiff, Nat.reduceBEq, reduceCtorEq, Int.reduceLT, Int.reduceLE, Int.reduceEq, Int.reduceToNat, Int.reduceAdd, Int.reduceSub, Int.reduceMul, Int.reduceNeg, Nat.reduceLT, ↓reduceIte, c48_L1, norm_terms, norm_spans, norm_sels, len_terms, len_spans, len_sels, hasLL_terms, hasLL_spans, renLL_terms, renLL_spans, leaf_terms, leaf_spans, leaf_sels, norm_sets, len_sets, hasLL_sets, renLL_sets, leaf_sets]
    refine LL.upS mixed [4] [7] T.length (fun j => ∀ k (hk : k < T.length), k < j → never T[k] = false) (fun j => [(9, .int .i64 j), (8, .sl 8 0 ((T.take j).filter fun t => !always t).length false)]) (fun j => [(8, .row 51 3 (((T.take j).filter fun t => !always t).map encTerm))]) (fun k hk h => by omega) ⟨ap [(8, 14000)], ?_⟩ (fun j hlt hN => ?_) (fun hN => ?_)
    · simp (config := { implicitDefEqProofs := false, decide := true }) only [go_sem, Nat.reduceEqDiff, Nat.reduceAdd, Nat.reduceMul, Nat.reduceSub, Nat.reduceLT, Nat.reduceLeDiff, Nat.reduceBEq, reduceCtorEq, Int.reduceLT, Int.reduceLE, Int.reduceEq, Int.reduceToNat, Int.reduceAdd, Int.reduceSub, Int.reduceMul, Int.reduceNeg, Nat.reduceLT, ↓reduceIte, AV.renP, LeL, leE, leH, apartH, injH, keptS, ap, AV.ren, AV.renL, AV.renLL, AObj.ren, norm_terms, norm_spans, norm_sels, len_terms, len_spans, len_sels, hasLL_terms, hasLL_spans, renLL_terms, renLL_spans, leaf_terms, leaf_spans, leaf_sels, norm_sets, len_sets, hasLL_sets, renLL_sets, leaf_sets, List.filter_nil]
    · have hj : j < 4611686018427387904 := by omega
      have hjm : T[j] ∈ T := List.getElem_mem hlt
      have hfl := List.length_filter_le (fun t => !always t) (T.take j)
      rw [List.length_take] at hfl
      have hft : ((T.take (j + 1)).filter fun t => !always t) = ((T.take j).filter fun t => !always t) ++ if always T[j] then [] else [T[j]] := by
        rw [take_succ hlt, List.filter_append]
        congr 1
        cases h : always T[j] <;> simp [h]
      simp (config := { implicitDefEqProofs := false, decide := true }) only [go_sem, Nat.reduceEqDiff, Nat.reduceAdd, Nat.reduceMul, Nat.reduceSub, Nat.reduceLT, Nat.reduceLeDiff, Nat.reduceBEq, reduceCtorEq, Int.reduceLT, Int.reduceLE, Int.reduceEq, Int.reduceToNat, Int.reduceAdd, Int.reduceSub, Int.reduceMul, Int.reduceNeg, Nat.reduceLT, ↓reduceIte, c48_L2, hlt, encTerm, norm_terms, norm_spans, norm_sels, len_terms, len_spans, len_sels, hasLL_terms, hasLL_spans, renLL_terms, renLL_spans, leaf_terms, leaf_spans, leaf_sels, norm_sets, len_sets, hasLL_sets, renLL_sets, leaf_sets]
      refine LC.val (f77_pure T[j]) ?_
      cases hnv : never T[j] with
      | true =>
        have hc1 : canT l = ([], false) := by
          unfold canT
          rw [if_pos]
          exact List.any_eq_true.2 ⟨T[j], (hvm _).1 hjm, by rw [← never_cano (hcn _ hjm)]; exact hnv⟩
        simp (config := { implicitDefEqProofs := false, decide := true }) only [go_sem, Nat.reduceEqDiff, Nat.reduceAdd, Nat.reduceMul, Nat.reduceSub, Nat.reduceLT, Nat.reduceLeDiff, Nat.reduceBEq, reduceCtorEq, Int.reduceLT, Int.reduceLE, Int.reduceEq, Int.reduceToNat, Int.reduceAdd, Int.reduceSub, Int.reduceMul, Int.reduceNeg, Nat.reduceLT, ↓reduceIte, hnv, hc1, norm_terms, norm_spans, norm_sels, len_terms, len_spans, len_sels, hasLL_terms, hasLL_spans, renLL_terms, renLL_spans, leaf_terms, leaf_spans, leaf_sels, norm_sets, len_sets, hasLL_sets, renLL_sets, leaf_sets]
      | false =>
        have hN2 : ∀ k (hk : k < T.length), k < j + 1 → never T[k] = false := fun k hk h => by
          rcases Nat.lt_or_eq_of_le (Nat.lt_succ_iff.1 h) with h | h
          · exact hN k hk h
          · subst h; exact hnv
        simp (config := { implicitDefEqProofs := false, decide := true }) only [go_sem, Nat.reduceEqDiff, Nat.reduceAdd, Nat.reduceMul, Nat.reduceSub, Nat.reduceLT, Nat.reduceLeDiff, Nat.reduceBEq, reduceCtorEq, Int.reduceLT, Int.reduceLE, Int.reduceEq, Int.reduceToNat, Int.reduceAdd, Int.reduceSub, Int.reduceMul, Int.reduceNeg, Nat.reduceLT, ↓reduceIte, hnv, hlt, encTerm, norm_terms, norm_spans, norm_sels, len_terms, len_spans, len_sels, hasLL_terms, hasLL_spans, renLL_terms, renLL_spans, leaf_terms, leaf_spans, leaf_sels, norm_sets, len_sets, hasLL_sets, renLL_sets, leaf_sets]
        refine LC.val (f78_pure T[j] (by have := hsm _ hjm; omega)) ?_
        cases hal : always T[j] with
        | true =>
          rw [hal, if_pos rfl, List.append_nil] at hft
          simp (config := { implicitDefEqProofs := false, decide := true }) only [go_sem, Nat.reduceEqDiff, Nat.reduceAdd, Nat.reduceMul, Nat.reduceSub, Nat.reduceLT, Nat.reduceLeDiff, Nat.reduceBEq, reduceCtorEq, Int.reduceLT, Int.reduceLE, Int.reduceEq, Int.reduceToNat, Int.reduceAdd, Int.reduceSub, Int.reduceMul, Int.reduceNeg, Nat.reduceLT, ↓reduceIte, hal, norm_terms, norm_spans, norm_sels, len_terms, len_spans, len_sels, hasLL_terms, hasLL_spans, renLL_terms, renLL_spans, leaf_terms, leaf_spans, leaf_sels, norm_sets, len_sets, hasLL_sets, renLL_sets, leaf_sets]
          refine ⟨hN2, ap [], ?_⟩
          rw [hft]
          simp (config := { implicitDefEqProofs := false, decide := true }) only [go_sem, Nat.reduceEqDiff, Nat.reduceAdd, Nat.reduceMul, Nat.reduceSub, Nat.reduceLT, Nat.reduceLeDiff, Nat.reduceBEq, reduceCtorEq, Int.reduceLT, Int.reduceLE, Int.reduceEq, Int.reduceToNat, Int.reduceAdd, Int.reduceSub, Int.reduceMul, Int.reduceNeg, Nat.reduceLT, ↓reduceIte, AV.renP, LeL, leE, leH, apartH, injH, keptS, ap, AV.ren, AV.renL, AV.renLL, AObj.ren, encTerm, norm_terms, norm_spans, norm_sels, len_terms, len_spans, len_sels, hasLL_terms, hasLL_spans, renLL_terms, renLL_spans, leaf_terms, leaf_spans, leaf_sels, norm_sets, len_sets, hasLL_sets, renLL_sets, leaf_sets, wrap_nat hj]
        | false =>
          rw [hal, if_neg (by simp)] at hft
          simp (config := { implicitDefEqProofs := false, decide := true }) only [go_sem, Nat.reduceEqDiff, Nat.reduceAdd, Nat.reduceMul, Nat.reduceSub, Nat.reduceLT, Nat.reduceLeDiff, Nat.reduceBEq, reduceCtorEq, Int.reduceLT, Int.reduceLE, Int.reduceEq, Int.reduceToNat, Int.reduceAdd, Int.reduceSub, Int.reduceMul, Int.reduceNeg, Nat.reduceLT, ↓reduceIte, hal, hlt, encTerm, norm_terms, norm_spans, norm_sels, len_terms, len_spans, len_sels, hasLL_terms, hasLL_spans, renLL_terms, renLL_spans, leaf_terms, leaf_spans, leaf_sels, norm_sets, len_sets, hasLL_sets, renLL_sets, leaf_sets]
          refine ⟨by omega, hN2, ap [(8, 21006)], ?_⟩
          rw [hft]
          simp (config := { implicitDefEqProofs := false, decide := true }) only [go_sem, Nat.reduceEqDiff, Nat.reduceAdd, Nat.reduceMul, Nat.reduceSub, Nat.reduceLT, Nat.reduceLeDiff, Nat.reduceBEq, reduceCtorEq, Int.reduceLT, Int.reduceLE, Int.reduceEq, Int.reduceToNat, Int.reduceAdd, Int.reduceSub, Int.reduceMul, Int.reduceNeg, Nat.reduceLT, ↓reduceIte, AV.renP, LeL, leE, leH, apartH, injH, keptS, ap, AV.ren, AV.renL, AV.renLL, AObj.ren, encTerm, norm_terms, norm_spans, norm_sels, len_terms, len_spans, len_sels, hasLL_terms, hasLL_spans, renLL_terms, renLL_spans, leaf_terms, leaf_spans, leaf_sels, norm_sets, len_sets, hasLL_sets, renLL_sets, leaf_sets, wrap_nat hj, List.length_append, List.length_singleton, List.map_append, List.map_cons, List.map_nil]
    · have hcan : canT l = (T.filter (fun t => !always t), true) := by
        unfold canT
        have hnv : (vals l).any Tm.never = false := by
          rw [List.any_eq_false]
          intro t ht
          have htT := (hvm t).2 ht
          obtain ⟨k, hk, rfl⟩ := List.getElem_of_mem htT
          rw [← never_cano (hcn _ htT), hN k hk hk]; simp
        rw [hnv, if_neg (by simp)]
        congr 1
        refine byPath_uniq (sortT_by ((vals_paths l).sublist ((List.filter_sublist).map _))) (hby.sublist List.filter_sublist) fun t => ?_
        rw [(sortT_perm _).mem_iff, List.mem_filter, List.mem_filter, hvm]
        constructor
        · rintro ⟨h1, h2⟩
          exact ⟨h1, by rw [always_cano (hcn _ ((hvm t).2 h1))]; exact h2⟩
        · rintro ⟨h1, h2⟩
          exact ⟨h1, by rw [← always_cano (hcn _ ((hvm t).2 h1))]; exact h2⟩
      simp (config := { implicitDefEqProofs := false, decide := true }) only [go_sem, Nat.reduceEqDiff, Nat.reduceAdd, Nat.reduceMul, Nat.reduceSub, Nat.reduceLT, Nat.reduceLeDiff, Nat.reduceBEq, reduceCtorEq, Int.reduceLT, Int.reduceLE, Int.reduceEq, Int.reduceToNat, Int.reduceAdd, Int.reduceSub, Int.reduceMul, Int.reduceNeg, Nat.reduceLT, ↓reduceIte, c48_L2, hcan, List.take_length, norm_terms, norm_spans, norm_sels, len_terms, len_spans, len_sels, hasLL_terms, hasLL_spans, renLL_terms, renLL_spans, leaf_terms, leaf_spans, leaf_sels, norm_sets, len_sets, hasLL_sets, renLL_sets, leaf_sets]
end
section
open Go.Aw Go.RowKit Go.Sort Go.Shelf
/-! ### What Canonical answers hangs on what the sets hold -/
theorem inter_canon2 (s t : Sp) : canonOf (inter [canonOf (has s), t]) = canonOf (inter [s, t]) := canonOf_congr fun p => by
  simp [inter, has_canonOf]
theorem both_cano (a t : Tm) : both a (cano t) = both a t := by simp only [both, cano, inter_canon]
theorem both_cano2 (a t : Tm) : both (cano a) t = both a t := by simp only [both, cano, inter_canon2]
theorem merged_cano (l : List Tm) : merged both (l.map cano) = merged both l := by
  unfold merged
  rw [List.foldl_map]
  congr 1
  funext cM t
  show gput t.path (both ((gget t.path cM.2).getD (cano t)) (cano t)) cM = gput t.path (both ((gget t.path cM.2).getD t) t) cM
  rw [both_cano]
  cases gget t.path cM.2 with
  | none => simp only [Option.getD_none, both_cano2]
  | some v => rfl
theorem canT_cano (l : List Tm) : canT (l.map cano) = canT l := by
  unfold canT vals
  rw [merged_cano]
theorem canT_congr {l l' : List Tm} (h : l.map cano = l'.map cano) : canT l = canT l' := by rw [← canT_cano l, h, canT_cano]
/-! ### The reference's functions -/
theorem f40_pure (l : List Tm) (hl : l.length ≤ 1000000) (hok : ∀ t ∈ l, t.ok) : PureP Tryz.prog 40 [.isl .unk (l.map encTerm)] (· = .isl .unk ((canT l).1.map encTerm)) := by
  refine PureE.run mixed e40 Tryz.func40 c40_ok r40 (by rw [Tryz.ntmps40]; rfl) rfl ?_
  simp (config := { implicitDefEqProofs := false, decide := true }) only [go_sem, Nat.reduceEqDiff, Nat.reduceAdd, Nat.reduceMul, Nat.reduceSub, Nat.reduceLT, Nat.reduceLeDiff, Nat.reduceBEq, reduceCtorEq, Int.reduceLT, Int.reduceLE, Int.reduceEq, Int.reduceToNat, Int.reduceAdd, Int.reduceSub, Int.reduceMul, Int.reduceNeg, Nat.reduceLT, ↓reduceIte, c40]
  refine LC.val (f48_pure l hl hok .unk) ?_
  simp (config := { implicitDefEqProofs := false, decide := true }) only [go_sem, Nat.reduceEqDiff, Nat.reduceAdd, Nat.reduceMul, Nat.reduceSub, Nat.reduceLT, Nat.reduceLeDiff, Nat.reduceBEq, reduceCtorEq, Int.reduceLT, Int.reduceLE, Int.reduceEq, Int.reduceToNat, Int.reduceAdd, Int.reduceSub, Int.reduceMul, Int.reduceNeg, Nat.reduceLT, ↓reduceIte, norm_terms, norm_spans, norm_sels, len_terms, len_spans, len_sels, hasLL_terms, hasLL_spans, renLL_terms, renLL_spans, leaf_terms, leaf_spans, leaf_sels, norm_sets, len_sets, hasLL_sets, renLL_sets, leaf_sets]
theorem f41_pure (r : Rq) (hr : r.set.length ≤ 1000000000) : PureP Tryz.prog 41 [.agg (encRq r)] (· = .agg (encTerm (outside r))) := by
  refine PureE.run mixed e41 Tryz.func41 c41_ok r41 (by rw [Tryz.ntmps41]; rfl) rfl ?_
  simp (config := { implicitDefEqProofs := false, decide := true }) only [go_sem, Nat.reduceEqDiff, Nat.reduceAdd, Nat.reduceMul, Nat.reduceSub, Nat.reduceLT, Nat.reduceLeDiff, Nat.reduceBEq, reduceCtorEq, Int.reduceLT, Int.reduceLE, Int.reduceEq, Int.reduceToNat, Int.reduceAdd, Int.reduceSub, Int.reduceMul, Int.reduceNeg, Nat.reduceLT, ↓reduceIte, c41, encRq, norm_terms, norm_spans, norm_sels, len_terms, len_spans, len_sels, hasLL_terms, hasLL_spans, renLL_terms, renLL_spans, leaf_terms, leaf_spans, leaf_sels, norm_sets, len_sets, hasLL_sets, renLL_sets, leaf_sets]
  refine DC.val (f45_pure r.set .unk hr) rfl rfl ?_
  simp (config := { implicitDefEqProofs := false, decide := true }) only [go_sem, Nat.reduceEqDiff, Nat.reduceAdd, Nat.reduceMul, Nat.reduceSub, Nat.reduceLT, Nat.reduceLeDiff, Nat.reduceBEq, reduceCtorEq, Int.reduceLT, Int.reduceLE, Int.reduceEq, Int.reduceToNat, Int.reduceAdd, Int.reduceSub, Int.reduceMul, Int.reduceNeg, Nat.reduceLT, ↓reduceIte, outside, encTerm, norm_terms, norm_spans, norm_sels, len_terms, len_spans, len_sels, hasLL_terms, hasLL_spans, renLL_terms, renLL_spans, leaf_terms, leaf_spans, leaf_sels, norm_sets, len_sets, hasLL_sets, renLL_sets, leaf_sets]
/-- modcertref35.Root -/
theorem f12_pure (r : Rq) (hr : r.set.length ≤ 1000000000) : PureP Tryz.prog 12 [.agg (encRq r)] (· = .isl .unk ((canT [outside r]).1.map encTerm)) := by
  refine PureE.run mixed e12 Tryz.func12 c12_ok r12 (by rw [Tryz.ntmps12]; rfl) rfl ?_
  simp (config := { implicitDefEqProofs := false, decide := true }) only [go_sem, Nat.reduceEqDiff, Nat.reduceAdd, Nat.reduceMul, Nat.reduceSub, Nat.reduceLT, Nat.reduceLeDiff, Nat.reduceBEq, reduceCtorEq, Int.reduceLT, Int.reduceLE, Int.reduceEq, Int.reduceToNat, Int.reduceAdd, Int.reduceSub, Int.reduceMul, Int.reduceNeg, Nat.reduceLT, ↓reduceIte, c12, encRq, norm_terms, norm_spans, norm_sels, len_terms, len_spans, len_sels, hasLL_terms, hasLL_spans, renLL_terms, renLL_spans, leaf_terms, leaf_spans, leaf_sels, norm_sets, len_sets, hasLL_sets, renLL_sets, leaf_sets]
  refine LC.val (f41_pure r hr) ?_
  simp (config := { implicitDefEqProofs := false, decide := true }) only [go_sem, Nat.reduceEqDiff, Nat.reduceAdd, Nat.reduceMul, Nat.reduceSub, Nat.reduceLT, Nat.reduceLeDiff, Nat.reduceBEq, reduceCtorEq, Int.reduceLT, Int.reduceLE, Int.reduceEq, Int.reduceToNat, Int.reduceAdd, Int.reduceSub, Int.reduceMul, Int.reduceNeg, Nat.reduceLT, ↓reduceIte, encTerm, norm_terms, norm_spans, norm_sels, len_terms, len_spans, len_sels, hasLL_terms, hasLL_spans, renLL_terms, renLL_spans, leaf_terms, leaf_spans, leaf_sels, norm_sets, len_sets, hasLL_sets, renLL_sets, leaf_sets]
  refine LC.frz [.isl .unk ([outside r].map encTerm)] (by simp only [viewL_nil, viewL_cons, viewL0_nil, viewL0_cons, view1_func, view1_agg, view1_sl, view1_ptr, view1_leaf, view0_leaf, view0_sl, view0_ptr, AV.refsL, AV.refs, List.append_nil, List.nil_append, List.cons_append, mkH, ↓reduceIte, List.drop_zero, take_map, drop_map, List.take_length, List.length_map, getD_map_lt, List.getD_cons_zero, List.drop, AV.leafLL, AV.leafL, AV.leaf, List.mem_cons, List.not_mem_nil, or_false, true_or, or_true, Nat.zero_add, Nat.le_refl, and_self, true_and, and_true, Bool.false_eq_true, Bool.and_true, Bool.and_self, if_true, if_false, List.length_cons, List.length_nil, List.take, Nat.reduceAdd, Nat.reduceLeDiff, Nat.reduceLT, Nat.lt_add_one, Nat.zero_le, Nat.reduceEqDiff, norm_terms, norm_spans, norm_sels, len_terms, len_spans, len_sels, hasLL_terms, hasLL_spans, renLL_terms, renLL_spans, leaf_terms, leaf_spans, leaf_sels, norm_sets, len_sets, hasLL_sets, renLL_sets, leaf_sets, encTerm]; rfl) ?_
  refine LC.val (f40_pure [outside r] (by simp) (by simpa using outside_ok r)) ?_
  simp (config := { implicitDefEqProofs := false, decide := true }) only [go_sem, Nat.reduceEqDiff, Nat.reduceAdd, Nat.reduceMul, Nat.reduceSub, Nat.reduceLT, Nat.reduceLeDiff, Nat.reduceBEq, reduceCtorEq, Int.reduceLT, Int.reduceLE, Int.reduceEq, Int.reduceToNat, Int.reduceAdd, Int.reduceSub, Int.reduceMul, Int.reduceNeg, Nat.reduceLT, ↓reduceIte, norm_terms, norm_spans, norm_sels, len_terms, len_spans, len_sels, hasLL_terms, hasLL_spans, renLL_terms, renLL_spans, leaf_terms, leaf_spans, leaf_sels, norm_sets, len_sets, hasLL_sets, renLL_sets, leaf_sets]
theorem one_in (v : Int) : canonOf (has (canonOf (minus (canonOf (has [(v, 1000000)])) (canonOf (has [(v + 1, 1000000)]))))) = canonOf (has [(v, v + 1)]) := canonOf_congr fun p => by
  rw [has_minus]
  unfold minus
  rw [has_canonOf, has_canonOf]
  simp only [has, List.any_cons, List.any_nil, Bool.or_false, inSpan]
  rw [Bool.eq_iff_iff]
  simp only [Bool.and_eq_true, Bool.not_eq_true', decide_eq_true_eq, Bool.and_eq_false_iff, decide_eq_false_iff_not]
  omega
theorem one_out (v w : Int) (h : (v < 0 ∧ w ≤ 0) ∨ 1000000 ≤ v) : canonOf (has []) = canonOf (has [(v, w)]) := canonOf_congr fun p => by
  simp only [has, List.any_cons, List.any_nil, Bool.or_false, inSpan]
  rw [Bool.eq_iff_iff]
  simp only [Bool.and_eq_true, decide_eq_true_eq]
  constructor
  · rintro ⟨_, q⟩; cases q
  · rintro ⟨⟨_, _⟩, _, _⟩; omega
theorem req_can (p : ByteArray) (v w : Int) (r : Rq) (s : Sp) (h : canonOf (has s) = canonOf (has [(v, w)])) : canT [⟨p, false, s⟩, outside r] = canT [⟨p, false, [(v, w)]⟩, outside r] :=
  canT_congr (by simp only [List.map_cons, List.map_nil, cano, h])
/-- modcertref35.Requires -/
theorem f14_pure (p : ByteArray) (v : Int) (hv : -9223372036854775808 ≤ v ∧ v ≤ 9223372036854775807) (r : Rq) (hr : r.set.length ≤ 1000000000) :
    PureP Tryz.prog 14 [.str p, .int .i64 v, .agg (encRq r)] (· = .isl .unk ((canT [⟨p, false, [(v, IntKind.i64.wrap (v + 1))]⟩, outside r]).1.map encTerm)) := by
  refine PureE.run mixed e14 Tryz.func14 c14_ok r14 (by rw [Tryz.ntmps14]; rfl) rfl ?_
  have hneg : v < 0 → IntKind.i64.wrap (v + 1) ≤ 0 := fun h => by rw [wrap_i64 (by omega) (by omega)]; omega
  have hmid : ¬ v < 0 → ¬ v ≥ 1000000 → IntKind.i64.wrap (v + 1) = v + 1 := fun h1 h2 => wrap_i64 (by omega) (by omega)
  generalize hw : IntKind.i64.wrap (v + 1) = w at *
  simp (config := { implicitDefEqProofs := false, decide := true }) only [go_sem, Nat.reduceEqDiff, Nat.reduceAdd, Nat.reduceMul, Nat.reduceSub, Nat.reduceLT, Nat.reduceLeDiff, Nat.reduceBEq, reduceCtorEq, Int.reduceLT, Int.reduceLE, Int.reduceEq, Int.reduceToNat, Int.reduceAdd, Int.reduceSub, Int.reduceMul, Int.reduceNeg, Nat.reduceLT, ↓reduceIte, c14, encRq, hw, norm_terms, norm_spans, norm_sels, len_terms, len_spans, len_sels, hasLL_terms, hasLL_spans, renLL_terms, renLL_spans, leaf_terms, leaf_spans, leaf_sels, norm_sets, len_sets, hasLL_sets, renLL_sets, leaf_sets]
  refine LC.val (f43_pure v) ?_
  simp (config := { implicitDefEqProofs := false, decide := true }) only [go_sem, Nat.reduceEqDiff, Nat.reduceAdd, Nat.reduceMul, Nat.reduceSub, Nat.reduceLT, Nat.reduceLeDiff, Nat.reduceBEq, reduceCtorEq, Int.reduceLT, Int.reduceLE, Int.reduceEq, Int.reduceToNat, Int.reduceAdd, Int.reduceSub, Int.reduceMul, Int.reduceNeg, Nat.reduceLT, ↓reduceIte, hw, norm_terms, norm_spans, norm_sels, len_terms, len_spans, len_sels, hasLL_terms, hasLL_spans, renLL_terms, renLL_spans, leaf_terms, leaf_spans, leaf_sels, norm_sets, len_sets, hasLL_sets, renLL_sets, leaf_sets]
  refine LC.val (f43_pure w) ?_
  simp (config := { implicitDefEqProofs := false, decide := true }) only [go_sem, Nat.reduceEqDiff, Nat.reduceAdd, Nat.reduceMul, Nat.reduceSub, Nat.reduceLT, Nat.reduceLeDiff, Nat.reduceBEq, reduceCtorEq, Int.reduceLT, Int.reduceLE, Int.reduceEq, Int.reduceToNat, Int.reduceAdd, Int.reduceSub, Int.reduceMul, Int.reduceNeg, Nat.reduceLT, ↓reduceIte, norm_terms, norm_spans, norm_sels, len_terms, len_spans, len_sels, hasLL_terms, hasLL_spans, renLL_terms, renLL_spans, leaf_terms, leaf_spans, leaf_sels, norm_sets, len_sets, hasLL_sets, renLL_sets, leaf_sets]
  refine LC.val (f42_pure _ _ (canonOf_len _) (canonOf_len _)) ?_
  have hc := canonOf_len (minus (canonOf (has [(v, 1000000)])) (canonOf (has [(w, 1000000)])))
  have hin : ¬ v < 0 → ¬ v ≥ 1000000 → canT [⟨p, false, canonOf (minus (canonOf (has [(v, 1000000)])) (canonOf (has [(w, 1000000)])))⟩, outside r] = canT [⟨p, false, [(v, w)]⟩, outside r] := fun h1 h2 => by
    have := hmid h1 h2
    subst this
    exact req_can p v _ r _ (one_in v)
  generalize canonOf (minus (canonOf (has [(v, 1000000)])) (canonOf (has [(w, 1000000)]))) = s at *
  by_cases h1 : v < 0
  · have hout := req_can p v w r [] (one_out v w (.inl ⟨h1, hneg h1⟩))
    simp (config := { implicitDefEqProofs := false, decide := true }) only [go_sem, Nat.reduceEqDiff, Nat.reduceAdd, Nat.reduceMul, Nat.reduceSub, Nat.reduceLT, Nat.reduceLeDiff, Nat.reduceBEq, reduceCtorEq, Int.reduceLT, Int.reduceLE, Int.reduceEq, Int.reduceToNat, Int.reduceAdd, Int.reduceSub, Int.reduceMul, Int.reduceNeg, Nat.reduceLT, ↓reduceIte, h1, norm_terms, norm_spans, norm_sels, len_terms, len_spans, len_sels, hasLL_terms, hasLL_spans, renLL_terms, renLL_spans, leaf_terms, leaf_spans, leaf_sels, norm_sets, len_sets, hasLL_sets, renLL_sets, leaf_sets]
    refine LC.val (f41_pure r hr) ?_
    simp (config := { implicitDefEqProofs := false, decide := true }) only [go_sem, Nat.reduceEqDiff, Nat.reduceAdd, Nat.reduceMul, Nat.reduceSub, Nat.reduceLT, Nat.reduceLeDiff, Nat.reduceBEq, reduceCtorEq, Int.reduceLT, Int.reduceLE, Int.reduceEq, Int.reduceToNat, Int.reduceAdd, Int.reduceSub, Int.reduceMul, Int.reduceNeg, Nat.reduceLT, ↓reduceIte, encTerm, norm_terms, norm_spans, norm_sels, len_terms, len_spans, len_sels, hasLL_terms, hasLL_spans, renLL_terms, renLL_spans, leaf_terms, leaf_spans, leaf_sels, norm_sets, len_sets, hasLL_sets, renLL_sets, leaf_sets]
    refine LC.frz [.isl .unk [[.str p, .bool false, .isl .nil []], encTerm (outside r)]] (by simp only [viewL_nil, viewL_cons, viewL0_nil, viewL0_cons, view1_func, view1_agg, view1_sl, view1_ptr, view1_leaf, view0_leaf, view0_sl, view0_ptr, AV.refsL, AV.refs, List.append_nil, List.nil_append, List.cons_append, mkH, ↓reduceIte, List.drop_zero, take_map, drop_map, List.take_length, List.length_map, getD_map_lt, List.getD_cons_zero, List.drop, AV.leafLL, AV.leafL, AV.leaf, List.mem_cons, List.not_mem_nil, or_false, true_or, or_true, Nat.zero_add, Nat.le_refl, and_self, true_and, and_true, Bool.false_eq_true, Bool.and_true, Bool.and_self, if_true, if_false, List.length_cons, List.length_nil, List.take, Nat.reduceAdd, Nat.reduceLeDiff, Nat.reduceLT, Nat.lt_add_one, Nat.zero_le, Nat.reduceEqDiff, norm_terms, norm_spans, norm_sels, len_terms, len_spans, len_sels, hasLL_terms, hasLL_spans, renLL_terms, renLL_spans, leaf_terms, leaf_spans, leaf_sels, norm_sets, len_sets, hasLL_sets, renLL_sets, leaf_sets, encTerm]) ?_
    refine LC.norm (args' := [.isl .unk ([⟨p, false, []⟩, outside r].map encTerm)]) (by simp only [AV.norm, AV.normL, AV.normLL, norm_terms, norm_spans, norm_sels, len_terms, len_spans, len_sels, hasLL_terms, hasLL_spans, renLL_terms, renLL_spans, leaf_terms, leaf_spans, leaf_sels, norm_sets, len_sets, hasLL_sets, renLL_sets, leaf_sets, encTerm]; rfl) ?_
    refine LC.val (f40_pure [⟨p, false, []⟩, outside r] (by simp) (by simp; exact ⟨by show _ ≤ _; simp, outside_ok r⟩)) ?_
    simp (config := { implicitDefEqProofs := false, decide := true }) only [go_sem, Nat.reduceEqDiff, Nat.reduceAdd, Nat.reduceMul, Nat.reduceSub, Nat.reduceLT, Nat.reduceLeDiff, Nat.reduceBEq, reduceCtorEq, Int.reduceLT, Int.reduceLE, Int.reduceEq, Int.reduceToNat, Int.reduceAdd, Int.reduceSub, Int.reduceMul, Int.reduceNeg, Nat.reduceLT, ↓reduceIte, hout, norm_terms, norm_spans, norm_sels, len_terms, len_spans, len_sels, hasLL_terms, hasLL_spans, renLL_terms, renLL_spans, leaf_terms, leaf_spans, leaf_sels, norm_sets, len_sets, hasLL_sets, renLL_sets, leaf_sets]
  · by_cases h2 : v ≥ 1000000
    · have hout := req_can p v w r [] (one_out v w (.inr h2))
      simp (config := { implicitDefEqProofs := false, decide := true }) only [go_sem, Nat.reduceEqDiff, Nat.reduceAdd, Nat.reduceMul, Nat.reduceSub, Nat.reduceLT, Nat.reduceLeDiff, Nat.reduceBEq, reduceCtorEq, Int.reduceLT, Int.reduceLE, Int.reduceEq, Int.reduceToNat, Int.reduceAdd, Int.reduceSub, Int.reduceMul, Int.reduceNeg, Nat.reduceLT, ↓reduceIte, h1, h2, norm_terms, norm_spans, norm_sels, len_terms, len_spans, len_sels, hasLL_terms, hasLL_spans, renLL_terms, renLL_spans, leaf_terms, leaf_spans, leaf_sels, norm_sets, len_sets, hasLL_sets, renLL_sets, leaf_sets]
      refine LC.val (f41_pure r hr) ?_
      simp (config := { implicitDefEqProofs := false, decide := true }) only [go_sem, Nat.reduceEqDiff, Nat.reduceAdd, Nat.reduceMul, Nat.reduceSub, Nat.reduceLT, Nat.reduceLeDiff, Nat.reduceBEq, reduceCtorEq, Int.reduceLT, Int.reduceLE, Int.reduceEq, Int.reduceToNat, Int.reduceAdd, Int.reduceSub, Int.reduceMul, Int.reduceNeg, Nat.reduceLT, ↓reduceIte, encTerm, norm_terms, norm_spans, norm_sels, len_terms, len_spans, len_sels, hasLL_terms, hasLL_spans, renLL_terms, renLL_spans, leaf_terms, leaf_spans, leaf_sels, norm_sets, len_sets, hasLL_sets, renLL_sets, leaf_sets]
      refine LC.frz [.isl .unk [[.str p, .bool false, .isl .nil []], encTerm (outside r)]] (by simp only [viewL_nil, viewL_cons, viewL0_nil, viewL0_cons, view1_func, view1_agg, view1_sl, view1_ptr, view1_leaf, view0_leaf, view0_sl, view0_ptr, AV.refsL, AV.refs, List.append_nil, List.nil_append, List.cons_append, mkH, ↓reduceIte, List.drop_zero, take_map, drop_map, List.take_length, List.length_map, getD_map_lt, List.getD_cons_zero, List.drop, AV.leafLL, AV.leafL, AV.leaf, List.mem_cons, List.not_mem_nil, or_false, true_or, or_true, Nat.zero_add, Nat.le_refl, and_self, true_and, and_true, Bool.false_eq_true, Bool.and_true, Bool.and_self, if_true, if_false, List.length_cons, List.length_nil, List.take, Nat.reduceAdd, Nat.reduceLeDiff, Nat.reduceLT, Nat.lt_add_one, Nat.zero_le, Nat.reduceEqDiff, norm_terms, norm_spans, norm_sels, len_terms, len_spans, len_sels, hasLL_terms, hasLL_spans, renLL_terms, renLL_spans, leaf_terms, leaf_spans, leaf_sels, norm_sets, len_sets, hasLL_sets, renLL_sets, leaf_sets, encTerm]) ?_
      refine LC.norm (args' := [.isl .unk ([⟨p, false, []⟩, outside r].map encTerm)]) (by simp only [AV.norm, AV.normL, AV.normLL, norm_terms, norm_spans, norm_sels, len_terms, len_spans, len_sels, hasLL_terms, hasLL_spans, renLL_terms, renLL_spans, leaf_terms, leaf_spans, leaf_sels, norm_sets, len_sets, hasLL_sets, renLL_sets, leaf_sets, encTerm]; rfl) ?_
      refine LC.val (f40_pure [⟨p, false, []⟩, outside r] (by simp) (by simp; exact ⟨by show _ ≤ _; simp, outside_ok r⟩)) ?_
      simp (config := { implicitDefEqProofs := false, decide := true }) only [go_sem, Nat.reduceEqDiff, Nat.reduceAdd, Nat.reduceMul, Nat.reduceSub, Nat.reduceLT, Nat.reduceLeDiff, Nat.reduceBEq, reduceCtorEq, Int.reduceLT, Int.reduceLE, Int.reduceEq, Int.reduceToNat, Int.reduceAdd, Int.reduceSub, Int.reduceMul, Int.reduceNeg, Nat.reduceLT, ↓reduceIte, hout, norm_terms, norm_spans, norm_sels, len_terms, len_spans, len_sels, hasLL_terms, hasLL_spans, renLL_terms, renLL_spans, leaf_terms, leaf_spans, leaf_sels, norm_sets, len_sets, hasLL_sets, renLL_sets, leaf_sets]
    · simp (config := { implicitDefEqProofs := false, decide := true }) only [go_sem, Nat.reduceEqDiff, Nat.reduceAdd, Nat.reduceMul, Nat.reduceSub, Nat.reduceLT, Nat.reduceLeDiff, Nat.reduceBEq, reduceCtorEq, Int.reduceLT, Int.reduceLE, Int.reduceEq, Int.reduceToNat, Int.reduceAdd, Int.reduceSub, Int.reduceMul, Int.reduceNeg, Nat.reduceLT, ↓reduceIte, h1, h2, norm_terms, norm_spans, norm_sels, len_terms, len_spans, len_sels, hasLL_terms, hasLL_spans, renLL_terms, renLL_spans, leaf_terms, leaf_spans, leaf_sels, norm_sets, len_sets, hasLL_sets, renLL_sets, leaf_sets]
      refine LC.val (f41_pure r hr) ?_
      simp (config := { implicitDefEqProofs := false, decide := true }) only [go_sem, Nat.reduceEqDiff, Nat.reduceAdd, Nat.reduceMul, Nat.reduceSub, Nat.reduceLT, Nat.reduceLeDiff, Nat.reduceBEq, reduceCtorEq, Int.reduceLT, Int.reduceLE, Int.reduceEq, Int.reduceToNat, Int.reduceAdd, Int.reduceSub, Int.reduceMul, Int.reduceNeg, Nat.reduceLT, ↓reduceIte, encTerm, norm_terms, norm_spans, norm_sels, len_terms, len_spans, len_sels, hasLL_terms, hasLL_spans, renLL_terms, renLL_spans, leaf_terms, leaf_spans, leaf_sels, norm_sets, len_sets, hasLL_sets, renLL_sets, leaf_sets]
      refine LC.frz [.isl .unk ([⟨p, false, s⟩, outside r].map encTerm)] (by simp only [viewL_nil, viewL_cons, viewL0_nil, viewL0_cons, view1_func, view1_agg, view1_sl, view1_ptr, view1_leaf, view0_leaf, view0_sl, view0_ptr, AV.refsL, AV.refs, List.append_nil, List.nil_append, List.cons_append, mkH, ↓reduceIte, List.drop_zero, take_map, drop_map, List.take_length, List.length_map, getD_map_lt, List.getD_cons_zero, List.drop, AV.leafLL, AV.leafL, AV.leaf, List.mem_cons, List.not_mem_nil, or_false, true_or, or_true, Nat.zero_add, Nat.le_refl, and_self, true_and, and_true, Bool.false_eq_true, Bool.and_true, Bool.and_self, if_true, if_false, List.length_cons, List.length_nil, List.take, Nat.reduceAdd, Nat.reduceLeDiff, Nat.reduceLT, Nat.lt_add_one, Nat.zero_le, Nat.reduceEqDiff, norm_terms, norm_spans, norm_sels, len_terms, len_spans, len_sels, hasLL_terms, hasLL_spans, renLL_terms, renLL_spans, leaf_terms, leaf_spans, leaf_sels, norm_sets, len_sets, hasLL_sets, renLL_sets, leaf_sets, encTerm]; rfl) ?_
      refine LC.val (f40_pure [⟨p, false, s⟩, outside r] (by simp) (by simp; exact ⟨by show _ ≤ _; simp; omega, outside_ok r⟩)) ?_
      simp (config := { implicitDefEqProofs := false, decide := true }) only [go_sem, Nat.reduceEqDiff, Nat.reduceAdd, Nat.reduceMul, Nat.reduceSub, Nat.reduceLT, Nat.reduceLeDiff, Nat.reduceBEq, reduceCtorEq, Int.reduceLT, Int.reduceLE, Int.reduceEq, Int.reduceToNat, Int.reduceAdd, Int.reduceSub, Int.reduceMul, Int.reduceNeg, Nat.reduceLT, ↓reduceIte, hin h1 h2, norm_terms, norm_spans, norm_sels, len_terms, len_spans, len_sels, hasLL_terms, hasLL_spans, renLL_terms, renLL_spans, leaf_terms, leaf_spans, leaf_sels, norm_sets, len_sets, hasLL_sets, renLL_sets, leaf_sets]
/-- modcertref35.None -/
theorem f16_pure (p : ByteArray) (s : Sp) (hs : s.length ≤ 1000000000) : PureP Tryz.prog 16 [.str p, .isl .unk (s.map encSpan)] (· = .isl .unk ((canT [⟨p, false, canonOf (cmpl s)⟩]).1.map encTerm)) := by
  refine PureE.run mixed e16 Tryz.func16 c16_ok r16 (by rw [Tryz.ntmps16]; rfl) rfl ?_
  simp (config := { implicitDefEqProofs := false, decide := true }) only [go_sem, Nat.reduceEqDiff, Nat.reduceAdd, Nat.reduceMul, Nat.reduceSub, Nat.reduceLT, Nat.reduceLeDiff, Nat.reduceBEq, reduceCtorEq, Int.reduceLT, Int.reduceLE, Int.reduceEq, Int.reduceToNat, Int.reduceAdd, Int.reduceSub, Int.reduceMul, Int.reduceNeg, Nat.reduceLT, ↓reduceIte, c16, norm_terms, norm_spans, norm_sels, len_terms, len_spans, len_sels, hasLL_terms, hasLL_spans, renLL_terms, renLL_spans, leaf_terms, leaf_spans, leaf_sels, norm_sets, len_sets, hasLL_sets, renLL_sets, leaf_sets]
  refine LC.val (f45_pure s .unk hs) ?_
  simp (config := { implicitDefEqProofs := false, decide := true }) only [go_sem, Nat.reduceEqDiff, Nat.reduceAdd, Nat.reduceMul, Nat.reduceSub, Nat.reduceLT, Nat.reduceLeDiff, Nat.reduceBEq, reduceCtorEq, Int.reduceLT, Int.reduceLE, Int.reduceEq, Int.reduceToNat, Int.reduceAdd, Int.reduceSub, Int.reduceMul, Int.reduceNeg, Nat.reduceLT, ↓reduceIte, norm_terms, norm_spans, norm_sels, len_terms, len_spans, len_sels, hasLL_terms, hasLL_spans, renLL_terms, renLL_spans, leaf_terms, leaf_spans, leaf_sels, norm_sets, len_sets, hasLL_sets, renLL_sets, leaf_sets]
  refine LC.frz [.isl .unk ([⟨p, false, canonOf (cmpl s)⟩].map encTerm)] (by simp only [viewL_nil, viewL_cons, viewL0_nil, viewL0_cons, view1_func, view1_agg, view1_sl, view1_ptr, view1_leaf, view0_leaf, view0_sl, view0_ptr, AV.refsL, AV.refs, List.append_nil, List.nil_append, List.cons_append, mkH, ↓reduceIte, List.drop_zero, take_map, drop_map, List.take_length, List.length_map, getD_map_lt, List.getD_cons_zero, List.drop, AV.leafLL, AV.leafL, AV.leaf, List.mem_cons, List.not_mem_nil, or_false, true_or, or_true, Nat.zero_add, Nat.le_refl, and_self, true_and, and_true, Bool.false_eq_true, Bool.and_true, Bool.and_self, if_true, if_false, List.length_cons, List.length_nil, List.take, Nat.reduceAdd, Nat.reduceLeDiff, Nat.reduceLT, Nat.lt_add_one, Nat.zero_le, Nat.reduceEqDiff, norm_terms, norm_spans, norm_sels, len_terms, len_spans, len_sels, hasLL_terms, hasLL_spans, renLL_terms, renLL_spans, leaf_terms, leaf_spans, leaf_sels, norm_sets, len_sets, hasLL_sets, renLL_sets, leaf_sets, encTerm]; rfl) ?_
  have hc := canonOf_len (cmpl s)
  refine LC.val (f40_pure [⟨p, false, canonOf (cmpl s)⟩] (by simp) (by simp; show _ ≤ _; simp; omega)) ?_
  simp (config := { implicitDefEqProofs := false, decide := true }) only [go_sem, Nat.reduceEqDiff, Nat.reduceAdd, Nat.reduceMul, Nat.reduceSub, Nat.reduceLT, Nat.reduceLeDiff, Nat.reduceBEq, reduceCtorEq, Int.reduceLT, Int.reduceLE, Int.reduceEq, Int.reduceToNat, Int.reduceAdd, Int.reduceSub, Int.reduceMul, Int.reduceNeg, Nat.reduceLT, ↓reduceIte, norm_terms, norm_spans, norm_sels, len_terms, len_spans, len_sels, hasLL_terms, hasLL_spans, renLL_terms, renLL_spans, leaf_terms, leaf_spans, leaf_sels, norm_sets, len_sets, hasLL_sets, renLL_sets, leaf_sets]
end
section
open Go.Aw Go.RowKit Go.Sort Go.Shelf
/-! ### Finding a term -/
def zeroT : Tm := ⟨ByteArray.empty, false, []⟩
def posT (T : List Tm) (q : ByteArray) : Nat := T.findIdx fun t => decide (t.path = q)
theorem posT_lt {T : List Tm} {q : ByteArray} {k : Nat} (hk : k < T.length) (h : k < posT T q) : decide (T[k].path = q) = false := by
  have := List.not_of_lt_findIdx h
  simpa using this
theorem posT_at {T : List Tm} {q : ByteArray} (h : posT T q < T.length) : decide (T[posT T q].path = q) = true := List.findIdx_getElem (p := fun t : Tm => decide (t.path = q)) (w := h)
theorem posT_le (T : List Tm) (q : ByteArray) : posT T q ≤ T.length := List.findIdx_le_length
/-- modcertref35.Find -/
theorem f49_pure (T : List Tm) (q : ByteArray) (hl : T.length < 4611686018427387904) : PureP Tryz.prog 49 [.isl .unk (T.map encTerm), .str q]
    (· = .tup [.agg (encTerm (T.getD (posT T q) zeroT)), .bool (decide (posT T q < T.length))]) := by
  refine PureE.run mixed e49 Tryz.func49 c49_ok r49 (by rw [Tryz.ntmps49]; rfl) rfl ?_
  simp (config := { implicitDefEqProofs := false, decide := true }) only [go_sem, Nat.reduceEqDiff, Nat.reduceAdd, Nat.reduceMul, Nat.reduceSub, Nat.reduceLT, Nat.reduceLeDiff, Nat.reduceBEq, reduceCtorEq, Int.reduceLT, Int.reduceLE, Int.reduceEq, Int.reduceToNat, Int.reduceAdd, Int.reduceSub, Int.reduceMul, Int.reduceNeg, Nat.reduceLT, ↓reduceIte, c49, norm_terms, norm_spans, norm_sels, len_terms, len_spans, len_sels, hasLL_terms, hasLL_spans, renLL_terms, renLL_spans, leaf_terms, leaf_spans, leaf_sels, norm_sets, len_sets, hasLL_sets, renLL_sets, leaf_sets]
  have hle := posT_le T q
  refine LL.upS mixed [0, 1, 4] [1000] (posT T q) (fun _ => True) (fun j => [(6, .int .i64 j)]) (fun _ => []) trivial ⟨ap [], ?_⟩ (fun j hlt _ => ?_) (fun _ => ?_)
  · simp (config := { implicitDefEqProofs := false, decide := true }) only [go_sem, Nat.reduceEqDiff, Nat.reduceAdd, Nat.reduceMul, Nat.reduceSub, Nat.reduceLT, Nat.reduceLeDiff, Nat.reduceBEq, reduceCtorEq, Int.reduceLT, Int.reduceLE, Int.reduceEq, Int.reduceToNat, Int.reduceAdd, Int.reduceSub, Int.reduceMul, Int.reduceNeg, Nat.reduceLT, ↓reduceIte, AV.renP, LeL, leE, leH, apartH, injH, keptS, ap, AV.ren, AV.renL, AV.renLL, AObj.ren, norm_terms, norm_spans, norm_sels, len_terms, len_spans, len_sels, hasLL_terms, hasLL_spans, renLL_terms, renLL_spans, leaf_terms, leaf_spans, leaf_sels, norm_sets, len_sets, hasLL_sets, renLL_sets, leaf_sets]
  · have hj : j < 4611686018427387904 := by omega
    have hjl : j < T.length := by omega
    have hno := posT_lt hjl hlt
    simp (config := { implicitDefEqProofs := false, decide := true }) only [go_sem, Nat.reduceEqDiff, Nat.reduceAdd, Nat.reduceMul, Nat.reduceSub, Nat.reduceLT, Nat.reduceLeDiff, Nat.reduceBEq, reduceCtorEq, Int.reduceLT, Int.reduceLE, Int.reduceEq, Int.reduceToNat, Int.reduceAdd, Int.reduceSub, Int.reduceMul, Int.reduceNeg, Nat.reduceLT, ↓reduceIte, c49_L0, hjl, encTerm, bytes_eq, hno, norm_terms, norm_spans, norm_sels, len_terms, len_spans, len_sels, hasLL_terms, hasLL_spans, renLL_terms, renLL_spans, leaf_terms, leaf_spans, leaf_sels, norm_sets, len_sets, hasLL_sets, renLL_sets, leaf_sets]
    exact ⟨ap [], by simp (config := { implicitDefEqProofs := false, decide := true }) only [go_sem, Nat.reduceEqDiff, Nat.reduceAdd, Nat.reduceMul, Nat.reduceSub, Nat.reduceLT, Nat.reduceLeDiff, Nat.reduceBEq, reduceCtorEq, Int.reduceLT, Int.reduceLE, Int.reduceEq, Int.reduceToNat, Int.reduceAdd, Int.reduceSub, Int.reduceMul, Int.reduceNeg, Nat.reduceLT, ↓reduceIte, AV.renP, LeL, leE, leH, apartH, injH, keptS, ap, AV.ren, AV.renL, AV.renLL, AObj.ren, norm_terms, norm_spans, norm_sels, len_terms, len_spans, len_sels, hasLL_terms, hasLL_spans, renLL_terms, renLL_spans, leaf_terms, leaf_spans, leaf_sels, norm_sets, len_sets, hasLL_sets, renLL_sets, leaf_sets, wrap_nat hj]⟩
  · by_cases hj : posT T q < T.length
    · have hat := posT_at hj
      have hgd : T.getD (posT T q) zeroT = T[posT T q] := by simp [List.getD_eq_getElem?_getD, hj]
      simp (config := { implicitDefEqProofs := false, decide := true }) only [go_sem, Nat.reduceEqDiff, Nat.reduceAdd, Nat.reduceMul, Nat.reduceSub, Nat.reduceLT, Nat.reduceLeDiff, Nat.reduceBEq, reduceCtorEq, Int.reduceLT, Int.reduceLE, Int.reduceEq, Int.reduceToNat, Int.reduceAdd, Int.reduceSub, Int.reduceMul, Int.reduceNeg, Nat.reduceLT, ↓reduceIte, c49_L0, hj, encTerm, bytes_eq, hat, hgd, norm_terms, norm_spans, norm_sels, len_terms, len_spans, len_sels, hasLL_terms, hasLL_spans, renLL_terms, renLL_spans, leaf_terms, leaf_spans, leaf_sels, norm_sets, len_sets, hasLL_sets, renLL_sets, leaf_sets]
    · have hgd : T.getD (posT T q) zeroT = zeroT := by simp [List.getD_eq_getElem?_getD, hj]
      rw [hgd]
      simp (config := { implicitDefEqProofs := false, decide := true }) only [go_sem, Nat.reduceEqDiff, Nat.reduceAdd, Nat.reduceMul, Nat.reduceSub, Nat.reduceLT, Nat.reduceLeDiff, Nat.reduceBEq, reduceCtorEq, Int.reduceLT, Int.reduceLE, Int.reduceEq, Int.reduceToNat, Int.reduceAdd, Int.reduceSub, Int.reduceMul, Int.reduceNeg, Nat.reduceLT, ↓reduceIte, c49_L0, hj, encTerm, zeroT, norm_terms, norm_spans, norm_sels, len_terms, len_spans, len_sels, hasLL_terms, hasLL_spans, renLL_terms, renLL_spans, leaf_terms, leaf_spans, leaf_sels, norm_sets, len_sets, hasLL_sets, renLL_sets, leaf_sets]
/-- slices.IndexFunc at terms -/
theorem f52_pure (T : List Tm) (q : ByteArray) (hl : T.length < 4611686018427387904) (gk : FuncId) (caps : List AV) (hcap : AV.refsL caps = []) (hk : ∀ t, PureP Tryz.prog gk (.agg (encTerm t) :: caps) (· = .bool (decide (t.path = q)))) :
    PureP Tryz.prog 52 [.isl .unk (T.map encTerm), .func (.func gk) [] caps] (· = .int .i64 (if posT T q < T.length then (posT T q : Int) else -1)) := by
  refine PureE.run mixed e52 Tryz.func52 c52_ok r52 (by rw [Tryz.ntmps52]; rfl) rfl ?_
  have hle := posT_le T q
  have hhas : ∀ n, AV.hasL n caps = false := fun n => by
    cases h : AV.hasL n caps with
    | false => rfl
    | true => rw [hasL_refs, hcap] at h; simp at h
  have hren : ∀ f, AV.renL f caps = caps := fun f => renL_id caps hcap
  simp (config := { implicitDefEqProofs := false, decide := true }) only [go_sem, Nat.reduceEqDiff, Nat.reduceAdd, Nat.reduceMul, Nat.reduceSub, Nat.reduceLT, Nat.reduceLeDiff, Nat.reduceBEq, reduceCtorEq, Int.reduceLT, Int.reduceLE, Int.reduceEq, Int.reduceToNat, Int.reduceAdd, Int.reduceSub, Int.reduceMul, Int.reduceNeg, Nat.reduceLT, ↓reduceIte, c52, hhas, norm_terms, norm_spans, norm_sels, len_terms, len_spans, len_sels, hasLL_terms, hasLL_spans, renLL_terms, renLL_spans, leaf_terms, leaf_spans, leaf_sels, norm_sets, len_sets, hasLL_sets, renLL_sets, leaf_sets]
  refine LL.upS mixed [0, 1, 7] [] (posT T q) (fun _ => True) (fun j => [(8, .int .i64 j)]) (fun _ => []) trivial ⟨ap [], ?_⟩ (fun j hlt _ => ?_) (fun _ => ?_)
  · simp (config := { implicitDefEqProofs := false, decide := true }) only [go_sem, Nat.reduceEqDiff, Nat.reduceAdd, Nat.reduceMul, Nat.reduceSub, Nat.reduceLT, Nat.reduceLeDiff, Nat.reduceBEq, reduceCtorEq, Int.reduceLT, Int.reduceLE, Int.reduceEq, Int.reduceToNat, Int.reduceAdd, Int.reduceSub, Int.reduceMul, Int.reduceNeg, Nat.reduceLT, ↓reduceIte, AV.renP, LeL, leE, leH, apartH, injH, keptS, ap, AV.ren, AV.renL, AV.renLL, AObj.ren, hren, norm_terms, norm_spans, norm_sels, len_terms, len_spans, len_sels, hasLL_terms, hasLL_spans, renLL_terms, renLL_spans, leaf_terms, leaf_spans, leaf_sels, norm_sets, len_sets, hasLL_sets, renLL_sets, leaf_sets]
  · have hj : j < 4611686018427387904 := by omega
    have hjl : j < T.length := by omega
    have hno := posT_lt hjl hlt
    simp (config := { implicitDefEqProofs := false, decide := true }) only [go_sem, Nat.reduceEqDiff, Nat.reduceAdd, Nat.reduceMul, Nat.reduceSub, Nat.reduceLT, Nat.reduceLeDiff, Nat.reduceBEq, reduceCtorEq, Int.reduceLT, Int.reduceLE, Int.reduceEq, Int.reduceToNat, Int.reduceAdd, Int.reduceSub, Int.reduceMul, Int.reduceNeg, Nat.reduceLT, ↓reduceIte, c52_L0, hjl, encTerm, hhas, norm_terms, norm_spans, norm_sels, len_terms, len_spans, len_sels, hasLL_terms, hasLL_spans, renLL_terms, renLL_spans, leaf_terms, leaf_spans, leaf_sels, norm_sets, len_sets, hasLL_sets, renLL_sets, leaf_sets]
    refine LC.val (hk T[j]) ?_
    simp (config := { implicitDefEqProofs := false, decide := true }) only [go_sem, Nat.reduceEqDiff, Nat.reduceAdd, Nat.reduceMul, Nat.reduceSub, Nat.reduceLT, Nat.reduceLeDiff, Nat.reduceBEq, reduceCtorEq, Int.reduceLT, Int.reduceLE, Int.reduceEq, Int.reduceToNat, Int.reduceAdd, Int.reduceSub, Int.reduceMul, Int.reduceNeg, Nat.reduceLT, ↓reduceIte, hno, hhas, norm_terms, norm_spans, norm_sels, len_terms, len_spans, len_sels, hasLL_terms, hasLL_spans, renLL_terms, renLL_spans, leaf_terms, leaf_spans, leaf_sels, norm_sets, len_sets, hasLL_sets, renLL_sets, leaf_sets]
    exact ⟨ap [], by simp (config := { implicitDefEqProofs := false, decide := true }) only [go_sem, Nat.reduceEqDiff, Nat.reduceAdd, Nat.reduceMul, Nat.reduceSub, Nat.reduceLT, Nat.reduceLeDiff, Nat.reduceBEq, reduceCtorEq, Int.reduceLT, Int.reduceLE, Int.reduceEq, Int.reduceToNat, Int.reduceAdd, Int.reduceSub, Int.reduceMul, Int.reduceNeg, Nat.reduceLT, ↓reduceIte, AV.renP, LeL, leE, leH, apartH, injH, keptS, ap, AV.ren, AV.renL, AV.renLL, AObj.ren, hren, norm_terms, norm_spans, norm_sels, len_terms, len_spans, len_sels, hasLL_terms, hasLL_spans, renLL_terms, renLL_spans, leaf_terms, leaf_spans, leaf_sels, norm_sets, len_sets, hasLL_sets, renLL_sets, leaf_sets, wrap_nat hj]⟩
  · by_cases hj : posT T q < T.length
    · have hat := posT_at hj
      simp (config := { implicitDefEqProofs := false, decide := true }) only [go_sem, Nat.reduceEqDiff, Nat.reduceAdd, Nat.reduceMul, Nat.reduceSub, Nat.reduceLT, Nat.reduceLeDiff, Nat.reduceBEq, reduceCtorEq, Int.reduceLT, Int.reduceLE, Int.reduceEq, Int.reduceToNat, Int.reduceAdd, Int.reduceSub, Int.reduceMul, Int.reduceNeg, Nat.reduceLT, ↓reduceIte, c52_L0, hj, encTerm, hhas, norm_terms, norm_spans, norm_sels, len_terms, len_spans, len_sels, hasLL_terms, hasLL_spans, renLL_terms, renLL_spans, leaf_terms, leaf_spans, leaf_sels, norm_sets, len_sets, hasLL_sets, renLL_sets, leaf_sets]
      refine LC.val (hk T[posT T q]) ?_
      simp (config := { implicitDefEqProofs := false, decide := true }) only [go_sem, Nat.reduceEqDiff, Nat.reduceAdd, Nat.reduceMul, Nat.reduceSub, Nat.reduceLT, Nat.reduceLeDiff, Nat.reduceBEq, reduceCtorEq, Int.reduceLT, Int.reduceLE, Int.reduceEq, Int.reduceToNat, Int.reduceAdd, Int.reduceSub, Int.reduceMul, Int.reduceNeg, Nat.reduceLT, ↓reduceIte, hat, hj, hhas, norm_terms, norm_spans, norm_sels, len_terms, len_spans, len_sels, hasLL_terms, hasLL_spans, renLL_terms, renLL_spans, leaf_terms, leaf_spans, leaf_sels, norm_sets, len_sets, hasLL_sets, renLL_sets, leaf_sets]
    · simp (config := { implicitDefEqProofs := false, decide := true }) only [go_sem, Nat.reduceEqDiff, Nat.reduceAdd, Nat.reduceMul, Nat.reduceSub, Nat.reduceLT, Nat.reduceLeDiff, Nat.reduceBEq, reduceCtorEq, Int.reduceLT, Int.reduceLE, Int.reduceEq, Int.reduceToNat, Int.reduceAdd, Int.reduceSub, Int.reduceMul, Int.reduceNeg, Nat.reduceLT, ↓reduceIte, c52_L0, hj, hhas, norm_terms, norm_spans, norm_sels, len_terms, len_spans, len_sels, hasLL_terms, hasLL_spans, renLL_terms, renLL_spans, leaf_terms, leaf_spans, leaf_sels, norm_sets, len_sets, hasLL_sets, renLL_sets, leaf_sets]
theorem f73_pure (t : Tm) (q : ByteArray) : PureP Tryz.prog 73 [.agg (encTerm t), .iptr [.str q]] (· = .bool (decide (t.path = q))) := by
  refine PureE.run mixed e73 Tryz.func73 c73_ok r73 (by rw [Tryz.ntmps73]; rfl) rfl ?_
  simp (config := { implicitDefEqProofs := false, decide := true }) only [go_sem, Nat.reduceEqDiff, Nat.reduceAdd, Nat.reduceMul, Nat.reduceSub, Nat.reduceLT, Nat.reduceLeDiff, Nat.reduceBEq, reduceCtorEq, Int.reduceLT, Int.reduceLE, Int.reduceEq, Int.reduceToNat, Int.reduceAdd, Int.reduceSub, Int.reduceMul, Int.reduceNeg, Nat.reduceLT, ↓reduceIte, c73, encTerm, bytes_eq, norm_terms, norm_spans, norm_sels, len_terms, len_spans, len_sels, hasLL_terms, hasLL_spans, renLL_terms, renLL_spans, leaf_terms, leaf_spans, leaf_sels, norm_sets, len_sets, hasLL_sets, renLL_sets, leaf_sets]
theorem f53_pure (t a : Tm) : PureP Tryz.prog 53 [.agg (encTerm t), .iptr (encTerm a)] (· = .bool (decide (t.path = a.path))) := by
  refine PureE.run mixed e53 Tryz.func53 c53_ok r53 (by rw [Tryz.ntmps53]; rfl) rfl ?_
  simp (config := { implicitDefEqProofs := false, decide := true }) only [go_sem, Nat.reduceEqDiff, Nat.reduceAdd, Nat.reduceMul, Nat.reduceSub, Nat.reduceLT, Nat.reduceLeDiff, Nat.reduceBEq, reduceCtorEq, Int.reduceLT, Int.reduceLE, Int.reduceEq, Int.reduceToNat, Int.reduceAdd, Int.reduceSub, Int.reduceMul, Int.reduceNeg, Nat.reduceLT, ↓reduceIte, c53, encTerm, bytes_eq, norm_terms, norm_spans, norm_sels, len_terms, len_spans, len_sels, hasLL_terms, hasLL_spans, renLL_terms, renLL_spans, leaf_terms, leaf_spans, leaf_sels, norm_sets, len_sets, hasLL_sets, renLL_sets, leaf_sets]
end
section
open Go.Aw Go.RowKit Go.Sort Go.Shelf
/-! ### Subsumes -/
theorem canT_mem {l : List Tm} {t : Tm} (h : t ∈ (canT l).1) : t ∈ vals l := by
  unfold canT at h
  split at h
  · simp at h
  · exact (List.mem_filter.1 ((sortT_perm _).mem_iff.1 h)).1
theorem canT_len (l : List Tm) : (canT l).1.length ≤ l.length := by
  unfold canT
  split
  · simp
  · rw [(sortT_perm _).length_eq]
    refine Nat.le_trans (List.length_filter_le _ _) ?_
    have := merged_len both l l.length
    rw [List.take_length] at this
    simpa [vals] using this
theorem canT_set {l : List Tm} {t : Tm} (h : t ∈ (canT l).1) : t.set.length ≤ 1000000 := by
  obtain ⟨e, he, rfl⟩ := List.mem_map.1 (canT_mem h)
  exact merged_inv (fun t => t.set.length ≤ 1000000) (fun a b => canonOf_len _) _ _ _ (gget_mem (merged_ok both l).keys he)
noncomputable def subs1 (B : List Tm) (t : Tm) : Bool := decide (posT B t.path < B.length) && (!((B.getD (posT B t.path) zeroT).absent && !t.absent) && subs (B.getD (posT B t.path) zeroT).set t.set)
noncomputable def subsT (a b : List Tm) : Bool := if (canT a).2 && (canT b).2 then (canT a).1.all (subs1 (canT b).1) else !(canT b).2
set_option maxHeartbeats 1000000 in
/-- modcertref35.Subsumes -/
theorem f21_pure (a b : List Tm) (ha : a.length ≤ 1000000) (hb : b.length ≤ 1000000) (oka : ∀ t ∈ a, t.ok) (okb : ∀ t ∈ b, t.ok) : PureP Tryz.prog 21 [.isl .unk (a.map encTerm), .isl .unk (b.map encTerm)] (· = .bool (subsT a b)) := by
  refine PureE.run mixed e21 Tryz.func21 c21_ok r21 (by rw [Tryz.ntmps21]; rfl) rfl ?_
  simp (config := { implicitDefEqProofs := false, decide := true }) only [go_sem, Nat.reduceEqDiff, Nat.reduceAdd, Nat.reduceMul, Nat.reduceSub, Nat.reduceLT, Nat.reduceLeDiff, Nat.reduceBEq, reduceCtorEq, Int.reduceLT, Int.reduceLE, Int.reduceEq, Int.reduceToNat, Int.reduceAdd, Int.reduceSub, Int.reduceMul, Int.reduceNeg, Nat.reduceLT, ↓reduceIte, c21, norm_terms, norm_spans, norm_sels, len_terms, len_spans, len_sels, hasLL_terms, hasLL_spans, renLL_terms, renLL_spans, leaf_terms, leaf_spans, leaf_sels, norm_sets, len_sets, hasLL_sets, renLL_sets, leaf_sets]
  refine LC.val (f48_pure a ha oka .unk) ?_
  simp (config := { implicitDefEqProofs := false, decide := true }) only [go_sem, Nat.reduceEqDiff, Nat.reduceAdd, Nat.reduceMul, Nat.reduceSub, Nat.reduceLT, Nat.reduceLeDiff, Nat.reduceBEq, reduceCtorEq, Int.reduceLT, Int.reduceLE, Int.reduceEq, Int.reduceToNat, Int.reduceAdd, Int.reduceSub, Int.reduceMul, Int.reduceNeg, Nat.reduceLT, ↓reduceIte, norm_terms, norm_spans, norm_sels, len_terms, len_spans, len_sels, hasLL_terms, hasLL_spans, renLL_terms, renLL_spans, leaf_terms, leaf_spans, leaf_sels, norm_sets, len_sets, hasLL_sets, renLL_sets, leaf_sets]
  refine LC.val (f48_pure b hb okb .unk) ?_
  have hal := canT_len a
  have hbl := canT_len b
  have has := fun t => canT_set (l := a) (t := t)
  have hbs := fun t => canT_set (l := b) (t := t)
  have hdef : subsT a b = if (canT a).2 && (canT b).2 then (canT a).1.all (subs1 (canT b).1) else !(canT b).2 := rfl
  generalize canT a = A at *
  generalize canT b = B at *
  obtain ⟨A, oa⟩ := A
  obtain ⟨B, ob⟩ := B
  simp only at *
  cases ob with
  | false =>
    rw [Bool.and_false, if_neg (by simp)] at hdef
    simp (config := { implicitDefEqProofs := false, decide := true }) only [go_sem, Nat.reduceEqDiff, Nat.reduceAdd, Nat.reduceMul, Nat.reduceSub, Nat.reduceLT, Nat.reduceLeDiff, Nat.reduceBEq, reduceCtorEq, Int.reduceLT, Int.reduceLE, Int.reduceEq, Int.reduceToNat, Int.reduceAdd, Int.reduceSub, Int.reduceMul, Int.reduceNeg, Nat.reduceLT, ↓reduceIte, hdef, norm_terms, norm_spans, norm_sels, len_terms, len_spans, len_sels, hasLL_terms, hasLL_spans, renLL_terms, renLL_spans, leaf_terms, leaf_spans, leaf_sels, norm_sets, len_sets, hasLL_sets, renLL_sets, leaf_sets]
  | true =>
    cases oa with
    | false =>
      rw [Bool.false_and, if_neg (by simp)] at hdef
      simp (config := { implicitDefEqProofs := false, decide := true }) only [go_sem, Nat.reduceEqDiff, Nat.reduceAdd, Nat.reduceMul, Nat.reduceSub, Nat.reduceLT, Nat.reduceLeDiff, Nat.reduceBEq, reduceCtorEq, Int.reduceLT, Int.reduceLE, Int.reduceEq, Int.reduceToNat, Int.reduceAdd, Int.reduceSub, Int.reduceMul, Int.reduceNeg, Nat.reduceLT, ↓reduceIte, hdef, norm_terms, norm_spans, norm_sels, len_terms, len_spans, len_sels, hasLL_terms, hasLL_spans, renLL_terms, renLL_spans, leaf_terms, leaf_spans, leaf_sels, norm_sets, len_sets, hasLL_sets, renLL_sets, leaf_sets]
    | true =>
      rw [Bool.true_and, if_pos rfl] at hdef
      simp (config := { implicitDefEqProofs := false, decide := true }) only [go_sem, Nat.reduceEqDiff, Nat.reduceAdd, Nat.reduceMul, Nat.reduceSub, Nat.reduceLT, Nat.reduceLeDiff, Nat.reduceBEq, reduceCtorEq, Int.reduceLT, Int.reduceLE, Int.reduceEq, Int.reduceToNat, Int.reduceAdd, Int.reduceSub, Int.reduceMul, Int.reduceNeg, Nat.reduceLT, ↓reduceIte, norm_terms, norm_spans, norm_sels, len_terms, len_spans, len_sels, hasLL_terms, hasLL_spans, renLL_terms, renLL_spans, leaf_terms, leaf_spans, leaf_sels, norm_sets, len_sets, hasLL_sets, renLL_sets, leaf_sets]
      refine LL.upS mixed [5, 7] [] A.length (fun j => ∀ k (hk : k < A.length), k < j → subs1 B A[k] = true) (fun j => [(9, .int .i64 j)]) (fun _ => []) (fun k hk h => by omega) ⟨ap [], ?_⟩ (fun j hlt hJ => ?_) (fun hJ => ?_)
      · simp (config := { implicitDefEqProofs := false, decide := true }) only [go_sem, Nat.reduceEqDiff, Nat.reduceAdd, Nat.reduceMul, Nat.reduceSub, Nat.reduceLT, Nat.reduceLeDiff, Nat.reduceBEq, reduceCtorEq, Int.reduceLT, Int.reduceLE, Int.reduceEq, Int.reduceToNat, Int.reduceAdd, Int.reduceSub, Int.reduceMul, Int.reduceNeg, Nat.reduceLT, ↓reduceIte, AV.renP, LeL, leE, leH, apartH, injH, keptS, ap, AV.ren, AV.renL, AV.renLL, AObj.ren, norm_terms, norm_spans, norm_sels, len_terms, len_spans, len_sels, hasLL_terms, hasLL_spans, renLL_terms, renLL_spans, leaf_terms, leaf_spans, leaf_sels, norm_sets, len_sets, hasLL_sets, renLL_sets, leaf_sets]
      · have hj : j < 4611686018427387904 := by omega
        have hjm := has _ (List.getElem_mem hlt)
        have hle := posT_le B A[j].path
        have hno : subs1 B A[j] = false → subsT a b = false := fun h => by
          rw [hdef, List.all_eq_false]
          exact ⟨A[j], List.getElem_mem hlt, by simp [h]⟩
        have hyes : subs1 B A[j] = true → ∀ k (hk : k < A.length), k < j + 1 → subs1 B A[k] = true := fun h k hk hkj => by
          rcases Nat.lt_or_eq_of_le (Nat.lt_succ_iff.1 hkj) with h1 | h1
          · exact hJ k hk h1
          · subst h1; exact h
        simp (config := { implicitDefEqProofs := false, decide := true }) only [go_sem, Nat.reduceEqDiff, Nat.reduceAdd, Nat.reduceMul, Nat.reduceSub, Nat.reduceLT, Nat.reduceLeDiff, Nat.reduceBEq, reduceCtorEq, Int.reduceLT, Int.reduceLE, Int.reduceEq, Int.reduceToNat, Int.reduceAdd, Int.reduceSub, Int.reduceMul, Int.reduceNeg, Nat.reduceLT, ↓reduceIte, c21_L0, hlt, encTerm, norm_terms, norm_spans, norm_sels, len_terms, len_spans, len_sels, hasLL_terms, hasLL_spans, renLL_terms, renLL_spans, leaf_terms, leaf_spans, leaf_sels, norm_sets, len_sets, hasLL_sets, renLL_sets, leaf_sets]
        refine LC.val (f49_pure B A[j].path (by omega)) ?_
        by_cases hp : posT B A[j].path < B.length
        · have hgd : B.getD (posT B A[j].path) zeroT = B[posT B A[j].path] := by simp [List.getD_eq_getElem?_getD, hp]
          have hsl := hbs _ (List.getElem_mem hp)
          have hs1 : subs1 B A[j] = (!(B[posT B A[j].path].absent && !A[j].absent) && subs B[posT B A[j].path].set A[j].set) := by
            unfold subs1
            rw [hgd, decide_eq_true hp, Bool.true_and]
          rw [hgd]
          generalize B[posT B A[j].path] = s at *
          have hsub := f55_pure s.set A[j].set hsl hjm
          cases h1 : s.absent <;> cases h2 : A[j].absent
          all_goals rw [h1, h2] at hs1
          all_goals simp (config := { implicitDefEqProofs := false, decide := true }) only [go_sem, Nat.reduceEqDiff, Nat.reduceAdd, Nat.reduceMul, Nat.reduceSub, Nat.reduceLT, Nat.reduceLeDiff, Nat.reduceBEq, reduceCtorEq, Int.reduceLT, Int.reduceLE, Int.reduceEq, Int.reduceToNat, Int.reduceAdd, Int.reduceSub, Int.reduceMul, Int.reduceNeg, Nat.reduceLT, ↓reduceIte, hp, hlt, encTerm, h1, h2, norm_terms, norm_spans, norm_sels, len_terms, len_spans, len_sels, hasLL_terms, hasLL_spans, renLL_terms, renLL_spans, leaf_terms, leaf_spans, leaf_sels, norm_sets, len_sets, hasLL_sets, renLL_sets, leaf_sets]
          case true.false => exact hno (by rw [hs1]; rfl)
          all_goals
            refine DC.val hsub rfl rfl ?_
            cases hsb : subs s.set A[j].set with
            | true =>
              have hyy := hyes (by rw [hs1, hsb]; rfl)
              simp (config := { implicitDefEqProofs := false, decide := true }) only [go_sem, Nat.reduceEqDiff, Nat.reduceAdd, Nat.reduceMul, Nat.reduceSub, Nat.reduceLT, Nat.reduceLeDiff, Nat.reduceBEq, reduceCtorEq, Int.reduceLT, Int.reduceLE, Int.reduceEq, Int.reduceToNat, Int.reduceAdd, Int.reduceSub, Int.reduceMul, Int.reduceNeg, Nat.reduceLT, ↓reduceIte, hsb, norm_terms, norm_spans, norm_sels, len_terms, len_spans, len_sels, hasLL_terms, hasLL_spans, renLL_terms, renLL_spans, leaf_terms, leaf_spans, leaf_sels, norm_sets, len_sets, hasLL_sets, renLL_sets, leaf_sets]
              exact ⟨hyy, ap [], by simp (config := { implicitDefEqProofs := false, decide := true }) only [go_sem, Nat.reduceEqDiff, Nat.reduceAdd, Nat.reduceMul, Nat.reduceSub, Nat.reduceLT, Nat.reduceLeDiff, Nat.reduceBEq, reduceCtorEq, Int.reduceLT, Int.reduceLE, Int.reduceEq, Int.reduceToNat, Int.reduceAdd, Int.reduceSub, Int.reduceMul, Int.reduceNeg, Nat.reduceLT, ↓reduceIte, AV.renP, LeL, leE, leH, apartH, injH, keptS, ap, AV.ren, AV.renL, AV.renLL, AObj.ren, norm_terms, norm_spans, norm_sels, len_terms, len_spans, len_sels, hasLL_terms, hasLL_spans, renLL_terms, renLL_spans, leaf_terms, leaf_spans, leaf_sels, norm_sets, len_sets, hasLL_sets, renLL_sets, leaf_sets, wrap_nat hj]⟩
            | false =>
              have hf := hno (by rw [hs1, hsb]; rfl)
              simp (config := { implicitDefEqProofs := false, decide := true }) only [go_sem, Nat.reduceEqDiff, Nat.reduceAdd, Nat.reduceMul, Nat.reduceSub, Nat.reduceLT, Nat.reduceLeDiff, Nat.reduceBEq, reduceCtorEq, Int.reduceLT, Int.reduceLE, Int.reduceEq, Int.reduceToNat, Int.reduceAdd, Int.reduceSub, Int.reduceMul, Int.reduceNeg, Nat.reduceLT, ↓reduceIte, hsb, hf, norm_terms, norm_spans, norm_sels, len_terms, len_spans, len_sels, hasLL_terms, hasLL_spans, renLL_terms, renLL_spans, leaf_terms, leaf_spans, leaf_sels, norm_sets, len_sets, hasLL_sets, renLL_sets, leaf_sets]
        · have hs1 : subs1 B A[j] = false := by
            unfold subs1
            rw [decide_eq_false hp, Bool.false_and]
          have hf := hno hs1
          simp (config := { implicitDefEqProofs := false, decide := true }) only [go_sem, Nat.reduceEqDiff, Nat.reduceAdd, Nat.reduceMul, Nat.reduceSub, Nat.reduceLT, Nat.reduceLeDiff, Nat.reduceBEq, reduceCtorEq, Int.reduceLT, Int.reduceLE, Int.reduceEq, Int.reduceToNat, Int.reduceAdd, Int.reduceSub, Int.reduceMul, Int.reduceNeg, Nat.reduceLT, ↓reduceIte, hp, hlt, encTerm, hf, norm_terms, norm_spans, norm_sels, len_terms, len_spans, len_sels, hasLL_terms, hasLL_spans, renLL_terms, renLL_spans, leaf_terms, leaf_spans, leaf_sels, norm_sets, len_sets, hasLL_sets, renLL_sets, leaf_sets]
      · have ht : subsT a b = true := by
          rw [hdef, List.all_eq_true]
          intro t ht
          obtain ⟨k, hk, rfl⟩ := List.getElem_of_mem ht
          exact hJ k hk hk
        simp (config := { implicitDefEqProofs := false, decide := true }) only [go_sem, Nat.reduceEqDiff, Nat.reduceAdd, Nat.reduceMul, Nat.reduceSub, Nat.reduceLT, Nat.reduceLeDiff, Nat.reduceBEq, reduceCtorEq, Int.reduceLT, Int.reduceLE, Int.reduceEq, Int.reduceToNat, Int.reduceAdd, Int.reduceSub, Int.reduceMul, Int.reduceNeg, Nat.reduceLT, ↓reduceIte, c21_L0, ht, norm_terms, norm_spans, norm_sels, len_terms, len_spans, len_sels, hasLL_terms, hasLL_spans, renLL_terms, renLL_spans, leaf_terms, leaf_spans, leaf_sels, norm_sets, len_sets, hasLL_sets, renLL_sets, leaf_sets]
set_option maxHeartbeats 1000000 in
/-- term.Subsumes -/
theorem f20_pure (a b : List Tm) (ha : a.length ≤ 1000000) (hb : b.length ≤ 1000000) (oka : ∀ t ∈ a, t.ok) (okb : ∀ t ∈ b, t.ok) : PureP Tryz.prog 20 [.isl .unk (a.map encTerm), .isl .unk (b.map encTerm)] (· = .bool (subsT a b)) := by
  refine PureE.run mixed e20 Tryz.func20 c20_ok r20 (by rw [Tryz.ntmps20]; rfl) rfl ?_
  simp (config := { implicitDefEqProofs := false, decide := true }) only [go_sem, Nat.reduceEqDiff, Nat.reduceAdd, Nat.reduceMul, Nat.reduceSub, Nat.reduceLT, Nat.reduceLeDiff, Nat.reduceBEq, reduceCtorEq, Int.reduceLT, Int.reduceLE, Int.reduceEq, Int.reduceToNat, Int.reduceAdd, Int.reduceSub, Int.reduceMul, Int.reduceNeg, Nat.reduceLT, ↓reduceIte, c20, norm_terms, norm_spans, norm_sels, len_terms, len_spans, len_sels, hasLL_terms, hasLL_spans, renLL_terms, renLL_spans, leaf_terms, leaf_spans, leaf_sels, norm_sets, len_sets, hasLL_sets, renLL_sets, leaf_sets]
  refine LC.val (f34_pure a ha oka) ?_
  simp (config := { implicitDefEqProofs := false, decide := true }) only [go_sem, Nat.reduceEqDiff, Nat.reduceAdd, Nat.reduceMul, Nat.reduceSub, Nat.reduceLT, Nat.reduceLeDiff, Nat.reduceBEq, reduceCtorEq, Int.reduceLT, Int.reduceLE, Int.reduceEq, Int.reduceToNat, Int.reduceAdd, Int.reduceSub, Int.reduceMul, Int.reduceNeg, Nat.reduceLT, ↓reduceIte, norm_terms, norm_spans, norm_sels, len_terms, len_spans, len_sels, hasLL_terms, hasLL_spans, renLL_terms, renLL_spans, leaf_terms, leaf_spans, leaf_sels, norm_sets, len_sets, hasLL_sets, renLL_sets, leaf_sets]
  refine LC.val (f34_pure b hb okb) ?_
  have hal := canT_len a
  have hbl := canT_len b
  have has := fun t => canT_set (l := a) (t := t)
  have hbs := fun t => canT_set (l := b) (t := t)
  have hdef : subsT a b = if (canT a).2 && (canT b).2 then (canT a).1.all (subs1 (canT b).1) else !(canT b).2 := rfl
  generalize canT a = A at *
  generalize canT b = B at *
  obtain ⟨A, oa⟩ := A
  obtain ⟨B, ob⟩ := B
  simp only at *
  cases ob with
  | false =>
    rw [Bool.and_false, if_neg (by simp)] at hdef
    cases oa <;> simp (config := { implicitDefEqProofs := false, decide := true }) only [go_sem, Nat.reduceEqDiff, Nat.reduceAdd, Nat.reduceMul, Nat.reduceSub, Nat.reduceLT, Nat.reduceLeDiff, Nat.reduceBEq, reduceCtorEq, Int.reduceLT, Int.reduceLE, Int.reduceEq, Int.reduceToNat, Int.reduceAdd, Int.reduceSub, Int.reduceMul, Int.reduceNeg, Nat.reduceLT, ↓reduceIte, hdef, norm_terms, norm_spans, norm_sels, len_terms, len_spans, len_sels, hasLL_terms, hasLL_spans, renLL_terms, renLL_spans, leaf_terms, leaf_spans, leaf_sels, norm_sets, len_sets, hasLL_sets, renLL_sets, leaf_sets]
  | true =>
    cases oa with
    | false =>
      rw [Bool.false_and, if_neg (by simp)] at hdef
      simp (config := { implicitDefEqProofs := false, decide := true }) only [go_sem, Nat.reduceEqDiff, Nat.reduceAdd, Nat.reduceMul, Nat.reduceSub, Nat.reduceLT, Nat.reduceLeDiff, Nat.reduceBEq, reduceCtorEq, Int.reduceLT, Int.reduceLE, Int.reduceEq, Int.reduceToNat, Int.reduceAdd, Int.reduceSub, Int.reduceMul, Int.reduceNeg, Nat.reduceLT, ↓reduceIte, hdef, norm_terms, norm_spans, norm_sels, len_terms, len_spans, len_sels, hasLL_terms, hasLL_spans, renLL_terms, renLL_spans, leaf_terms, leaf_spans, leaf_sels, norm_sets, len_sets, hasLL_sets, renLL_sets, leaf_sets]
    | true =>
      rw [Bool.true_and, if_pos rfl] at hdef
      simp (config := { implicitDefEqProofs := false, decide := true }) only [go_sem, Nat.reduceEqDiff, Nat.reduceAdd, Nat.reduceMul, Nat.reduceSub, Nat.reduceLT, Nat.reduceLeDiff, Nat.reduceBEq, reduceCtorEq, Int.reduceLT, Int.reduceLE, Int.reduceEq, Int.reduceToNat, Int.reduceAdd, Int.reduceSub, Int.reduceMul, Int.reduceNeg, Nat.reduceLT, ↓reduceIte, norm_terms, norm_spans, norm_sels, len_terms, len_spans, len_sels, hasLL_terms, hasLL_spans, renLL_terms, renLL_spans, leaf_terms, leaf_spans, leaf_sels, norm_sets, len_sets, hasLL_sets, renLL_sets, leaf_sets]
      refine LL.upS mixed [7, 30, 31] [] A.length (fun j => ∀ k (hk : k < A.length), k < j → subs1 B A[k] = true) (fun j => [(32, .int .i64 j)]) (fun _ => []) (fun k hk h => by omega) ⟨ap [], ?_⟩ (fun j hlt hJ => ?_) (fun hJ => ?_)
      · simp (config := { implicitDefEqProofs := false, decide := true }) only [go_sem, Nat.reduceEqDiff, Nat.reduceAdd, Nat.reduceMul, Nat.reduceSub, Nat.reduceLT, Nat.reduceLeDiff, Nat.reduceBEq, reduceCtorEq, Int.reduceLT, Int.reduceLE, Int.reduceEq, Int.reduceToNat, Int.reduceAdd, Int.reduceSub, Int.reduceMul, Int.reduceNeg, Nat.reduceLT, ↓reduceIte, AV.renP, LeL, leE, leH, apartH, injH, keptS, ap, AV.ren, AV.renL, AV.renLL, AObj.ren, norm_terms, norm_spans, norm_sels, len_terms, len_spans, len_sels, hasLL_terms, hasLL_spans, renLL_terms, renLL_spans, leaf_terms, leaf_spans, leaf_sels, norm_sets, len_sets, hasLL_sets, renLL_sets, leaf_sets]
      · have hj : j < 4611686018427387904 := by omega
        have hjm := has _ (List.getElem_mem hlt)
        have hle := posT_le B A[j].path
        have hno : subs1 B A[j] = false → subsT a b = false := fun h => by
          rw [hdef, List.all_eq_false]
          exact ⟨A[j], List.getElem_mem hlt, by simp [h]⟩
        have hyes : subs1 B A[j] = true → ∀ k (hk : k < A.length), k < j + 1 → subs1 B A[k] = true := fun h k hk hkj => by
          rcases Nat.lt_or_eq_of_le (Nat.lt_succ_iff.1 hkj) with h1 | h1
          · exact hJ k hk h1
          · subst h1; exact h
        simp (config := { implicitDefEqProofs := false, decide := true }) only [go_sem, Nat.reduceEqDiff, Nat.reduceAdd, Nat.reduceMul, Nat.reduceSub, Nat.reduceLT, Nat.reduceLeDiff, Nat.reduceBEq, reduceCtorEq, Int.reduceLT, Int.reduceLE, Int.reduceEq, Int.reduceToNat, Int.reduceAdd, Int.reduceSub, Int.reduceMul, Int.reduceNeg, Nat.reduceLT, ↓reduceIte, c20_L0, hlt, encTerm, norm_terms, norm_spans, norm_sels, len_terms, len_spans, len_sels, hasLL_terms, hasLL_spans, renLL_terms, renLL_spans, leaf_terms, leaf_spans, leaf_sels, norm_sets, len_sets, hasLL_sets, renLL_sets, leaf_sets]
        refine LC.look [.isl .unk (B.map encTerm), .func (.func 53) [] [.iptr (encTerm A[j])]] (by simp only [viewL_nil, viewL_cons, viewL0_nil, viewL0_cons, view1_func, view1_agg, view1_sl, view1_ptr, view1_leaf, view0_leaf, view0_sl, view0_ptr, AV.refsL, AV.refs, List.append_nil, List.nil_append, List.cons_append, mkH, ↓reduceIte, List.drop_zero, take_map, drop_map, List.take_length, List.length_map, getD_map_lt, List.getD_cons_zero, List.drop, AV.leafLL, AV.leafL, AV.leaf, List.mem_cons, List.not_mem_nil, or_false, true_or, or_true, Nat.zero_add, Nat.le_refl, and_self, true_and, and_true, Bool.false_eq_true, Bool.and_true, Bool.and_self, if_true, if_false, List.length_cons, List.length_nil, List.take, Nat.reduceAdd, Nat.reduceLeDiff, Nat.reduceLT, Nat.lt_add_one, Nat.zero_le, Nat.reduceEqDiff, norm_terms, norm_spans, norm_sels, len_terms, len_spans, len_sels, hasLL_terms, hasLL_spans, renLL_terms, renLL_spans, leaf_terms, leaf_spans, leaf_sels, norm_sets, len_sets, hasLL_sets, renLL_sets, leaf_sets, encTerm]; exact view1_self rfl) (f52_pure B A[j].path (by omega) 53 [.iptr (encTerm A[j])] rfl (fun t => f53_pure t A[j])) rfl ?_
        by_cases hp : posT B A[j].path < B.length
        · have hgd : B.getD (posT B A[j].path) zeroT = B[posT B A[j].path] := by simp [List.getD_eq_getElem?_getD, hp]
          have hsl := hbs _ (List.getElem_mem hp)
          have hs1 : subs1 B A[j] = (!(B[posT B A[j].path].absent && !A[j].absent) && subs B[posT B A[j].path].set A[j].set) := by
            unfold subs1
            rw [hgd, decide_eq_true hp, Bool.true_and]
          have hsub := f54_pure B[posT B A[j].path].set A[j].set (by omega) (by omega)
          cases h1 : B[posT B A[j].path].absent <;> cases h2 : A[j].absent
          all_goals rw [h1, h2] at hs1
          all_goals simp (config := { implicitDefEqProofs := false, decide := true }) only [go_sem, Nat.reduceEqDiff, Nat.reduceAdd, Nat.reduceMul, Nat.reduceSub, Nat.reduceLT, Nat.reduceLeDiff, Nat.reduceBEq, reduceCtorEq, Int.reduceLT, Int.reduceLE, Int.reduceEq, Int.reduceToNat, Int.reduceAdd, Int.reduceSub, Int.reduceMul, Int.reduceNeg, Nat.reduceLT, ↓reduceIte, hp, hlt, encTerm, h1, h2, norm_terms, norm_spans, norm_sels, len_terms, len_spans, len_sels, hasLL_terms, hasLL_spans, renLL_terms, renLL_spans, leaf_terms, leaf_spans, leaf_sels, norm_sets, len_sets, hasLL_sets, renLL_sets, leaf_sets]
          case true.false => exact hno (by rw [hs1]; rfl)
          all_goals
            refine DC.val hsub rfl rfl ?_
            cases hsb : subs B[posT B A[j].path].set A[j].set with
            | true =>
              have hyy := hyes (by rw [hs1, hsb]; rfl)
              simp (config := { implicitDefEqProofs := false, decide := true }) only [go_sem, Nat.reduceEqDiff, Nat.reduceAdd, Nat.reduceMul, Nat.reduceSub, Nat.reduceLT, Nat.reduceLeDiff, Nat.reduceBEq, reduceCtorEq, Int.reduceLT, Int.reduceLE, Int.reduceEq, Int.reduceToNat, Int.reduceAdd, Int.reduceSub, Int.reduceMul, Int.reduceNeg, Nat.reduceLT, ↓reduceIte, hsb, norm_terms, norm_spans, norm_sels, len_terms, len_spans, len_sels, hasLL_terms, hasLL_spans, renLL_terms, renLL_spans, leaf_terms, leaf_spans, leaf_sels, norm_sets, len_sets, hasLL_sets, renLL_sets, leaf_sets]
              exact ⟨hyy, ap [], by simp (config := { implicitDefEqProofs := false, decide := true }) only [go_sem, Nat.reduceEqDiff, Nat.reduceAdd, Nat.reduceMul, Nat.reduceSub, Nat.reduceLT, Nat.reduceLeDiff, Nat.reduceBEq, reduceCtorEq, Int.reduceLT, Int.reduceLE, Int.reduceEq, Int.reduceToNat, Int.reduceAdd, Int.reduceSub, Int.reduceMul, Int.reduceNeg, Nat.reduceLT, ↓reduceIte, AV.renP, LeL, leE, leH, apartH, injH, keptS, ap, AV.ren, AV.renL, AV.renLL, AObj.ren, norm_terms, norm_spans, norm_sels, len_terms, len_spans, len_sels, hasLL_terms, hasLL_spans, renLL_terms, renLL_spans, leaf_terms, leaf_spans, leaf_sels, norm_sets, len_sets, hasLL_sets, renLL_sets, leaf_sets, wrap_nat hj]⟩
            | false =>
              have hf := hno (by rw [hs1, hsb]; rfl)
              simp (config := { implicitDefEqProofs := false, decide := true }) only [go_sem, Nat.reduceEqDiff, Nat.reduceAdd, Nat.reduceMul, Nat.reduceSub, Nat.reduceLT, Nat.reduceLeDiff, Nat.reduceBEq, reduceCtorEq, Int.reduceLT, Int.reduceLE, Int.reduceEq, Int.reduceToNat, Int.reduceAdd, Int.reduceSub, Int.reduceMul, Int.reduceNeg, Nat.reduceLT, ↓reduceIte, hsb, hf, norm_terms, norm_spans, norm_sels, len_terms, len_spans, len_sels, hasLL_terms, hasLL_spans, renLL_terms, renLL_spans, leaf_terms, leaf_spans, leaf_sels, norm_sets, len_sets, hasLL_sets, renLL_sets, leaf_sets]
        · have hs1 : subs1 B A[j] = false := by
            unfold subs1
            rw [decide_eq_false hp, Bool.false_and]
          have hf := hno hs1
          simp (config := { implicitDefEqProofs := false, decide := true }) only [go_sem, Nat.reduceEqDiff, Nat.reduceAdd, Nat.reduceMul, Nat.reduceSub, Nat.reduceLT, Nat.reduceLeDiff, Nat.reduceBEq, reduceCtorEq, Int.reduceLT, Int.reduceLE, Int.reduceEq, Int.reduceToNat, Int.reduceAdd, Int.reduceSub, Int.reduceMul, Int.reduceNeg, Nat.reduceLT, ↓reduceIte, hp, hlt, encTerm, hf, norm_terms, norm_spans, norm_sels, len_terms, len_spans, len_sels, hasLL_terms, hasLL_spans, renLL_terms, renLL_spans, leaf_terms, leaf_spans, leaf_sels, norm_sets, len_sets, hasLL_sets, renLL_sets, leaf_sets]
      · have ht : subsT a b = true := by
          rw [hdef, List.all_eq_true]
          intro t ht
          obtain ⟨k, hk, rfl⟩ := List.getElem_of_mem ht
          exact hJ k hk hk
        simp (config := { implicitDefEqProofs := false, decide := true }) only [go_sem, Nat.reduceEqDiff, Nat.reduceAdd, Nat.reduceMul, Nat.reduceSub, Nat.reduceLT, Nat.reduceLeDiff, Nat.reduceBEq, reduceCtorEq, Int.reduceLT, Int.reduceLE, Int.reduceEq, Int.reduceToNat, Int.reduceAdd, Int.reduceSub, Int.reduceMul, Int.reduceNeg, Nat.reduceLT, ↓reduceIte, c20_L0, ht, norm_terms, norm_spans, norm_sels, len_terms, len_spans, len_sels, hasLL_terms, hasLL_spans, renLL_terms, renLL_spans, leaf_terms, leaf_spans, leaf_sels, norm_sets, len_sets, hasLL_sets, renLL_sets, leaf_sets]
end
section
open Go.Aw Go.RowKit Go.Sort Go.Shelf
/-! ### Resolve -/
noncomputable def getT (A : List Tm) (q : ByteArray) : Tm := A.getD (posT A q) zeroT
noncomputable def meetT (A B : List Tm) (q : ByteArray) : List Tm := without A q ++ without B q ++ [⟨q, (getT A q).absent || (getT B q).absent, canonOf (uni [(getT A q).set, (getT B q).set])⟩]
noncomputable def resT (a b : List Tm) (q : ByteArray) : List Tm × Int :=
  if (canT a).2 && (canT b).2 && decide (posT (canT a).1 q < (canT a).1.length) && decide (posT (canT b).1 q < (canT b).1.length) then
    (if (canT (meetT (canT a).1 (canT b).1 q)).2 then ((canT (meetT (canT a).1 (canT b).1 q)).1, 0) else ([], 8))
  else ([], 1)
theorem without_len (A : List Tm) (q : ByteArray) : (without A q).length ≤ A.length := List.length_filter_le _ _
theorem meetT_ok {A B : List Tm} {q : ByteArray} (hA : ∀ t ∈ A, t.set.length ≤ 1000000) (hB : ∀ t ∈ B, t.set.length ≤ 1000000) : ∀ t ∈ meetT A B q, t.ok := by
  intro t ht
  show t.set.length ≤ 1000000000
  rcases List.mem_append.1 ht with ht | ht
  · rcases List.mem_append.1 ht with ht | ht
    · have := hA t (List.mem_filter.1 ht).1; omega
    · have := hB t (List.mem_filter.1 ht).1; omega
  · simp only [List.mem_singleton] at ht
    subst ht
    have := canonOf_len (uni [(getT A q).set, (getT B q).set])
    show (canonOf _).length ≤ _
    omega
theorem getT_set {A : List Tm} (q : ByteArray) (hA : ∀ t ∈ A, t.set.length ≤ 1000000) : (getT A q).set.length ≤ 1000000 := by
  unfold getT
  by_cases hp : posT A q < A.length
  · have : A.getD (posT A q) zeroT = A[posT A q] := by simp [List.getD_eq_getElem?_getD, hp]
    rw [this]
    exact hA _ (List.getElem_mem hp)
  · have : A.getD (posT A q) zeroT = zeroT := by simp [List.getD_eq_getElem?_getD, hp]
    rw [this]
    simp [zeroT]
theorem appL (X Y : List Tm) (p : ByteArray) (b : Bool) (s : Sp) : List.map encTerm X ++ List.map encTerm Y ++ [[AV.str p, AV.bool b, AV.isl .unk (s.map encSpan)]] = (X ++ Y ++ [(⟨p, b, s⟩ : Tm)]).map encTerm := by
  simp only [List.map_append, List.map_cons, List.map_nil]; rfl
theorem f49_get (T : List Tm) (q : ByteArray) (hl : T.length < 4611686018427387904) : PureP Tryz.prog 49 [.isl .unk (T.map encTerm), .str q] (· = .tup [.agg (encTerm (getT T q)), .bool (decide (posT T q < T.length))]) := f49_pure T q hl
set_option maxHeartbeats 1000000 in
/-- modcertref35.Resolve -/
theorem f19_pure (a b : List Tm) (q : ByteArray) (ha : a.length ≤ 400000) (hb : b.length ≤ 400000) (oka : ∀ t ∈ a, t.ok) (okb : ∀ t ∈ b, t.ok) :
    PureP Tryz.prog 19 [.isl .unk (a.map encTerm), .isl .unk (b.map encTerm), .str q] (· = .tup [.isl .unk ((resT a b q).1.map encTerm), .int .i64 (resT a b q).2]) := by
  refine PureE.run mixed e19 Tryz.func19 c19_ok r19 (by rw [Tryz.ntmps19]; rfl) rfl ?_
  simp (config := { implicitDefEqProofs := false, decide := true }) only [go_sem, Nat.reduceEqDiff, Nat.reduceAdd, Nat.reduceMul, Nat.reduceSub, Nat.reduceLT, Nat.reduceLeDiff, Nat.reduceBEq, reduceCtorEq, Int.reduceLT, Int.reduceLE, Int.reduceEq, Int.reduceToNat, Int.reduceAdd, Int.reduceSub, Int.reduceMul, Int.reduceNeg, Nat.reduceLT, ↓reduceIte, c19, norm_terms, norm_spans, norm_sels, len_terms, len_spans, len_sels, hasLL_terms, hasLL_spans, renLL_terms, renLL_spans, leaf_terms, leaf_spans, leaf_sels, norm_sets, len_sets, hasLL_sets, renLL_sets, leaf_sets]
  refine LC.val (f48_pure a (by omega) oka .unk) ?_
  simp (config := { implicitDefEqProofs := false, decide := true }) only [go_sem, Nat.reduceEqDiff, Nat.reduceAdd, Nat.reduceMul, Nat.reduceSub, Nat.reduceLT, Nat.reduceLeDiff, Nat.reduceBEq, reduceCtorEq, Int.reduceLT, Int.reduceLE, Int.reduceEq, Int.reduceToNat, Int.reduceAdd, Int.reduceSub, Int.reduceMul, Int.reduceNeg, Nat.reduceLT, ↓reduceIte, norm_terms, norm_spans, norm_sels, len_terms, len_spans, len_sels, hasLL_terms, hasLL_spans, renLL_terms, renLL_spans, leaf_terms, leaf_spans, leaf_sels, norm_sets, len_sets, hasLL_sets, renLL_sets, leaf_sets]
  refine LC.val (f48_pure b (by omega) okb .unk) ?_
  have hal := canT_len a
  have hbl := canT_len b
  have has := fun t => canT_set (l := a) (t := t)
  have hbs := fun t => canT_set (l := b) (t := t)
  have hdef : resT a b q = if (canT a).2 && (canT b).2 && decide (posT (canT a).1 q < (canT a).1.length) && decide (posT (canT b).1 q < (canT b).1.length) then
    (if (canT (meetT (canT a).1 (canT b).1 q)).2 then ((canT (meetT (canT a).1 (canT b).1 q)).1, 0) else ([], 8))
  else ([], 1) := rfl
  generalize canT a = A at *
  generalize canT b = B at *
  obtain ⟨A, oa⟩ := A
  obtain ⟨B, ob⟩ := B
  simp only at *
  have hga := f49_get A q (by omega)
  have hgb := f49_get B q (by omega)
  have hsa := getT_set q has
  have hsb := getT_set q hbs
  have hmo := meetT_ok (q := q) has hbs
  have hwa := without_len A q
  have hwb := without_len B q
  have hml : (meetT A B q).length ≤ 1000000 := by unfold meetT; simp; omega
  have hmd : meetT A B q = without A q ++ without B q ++ [⟨q, (getT A q).absent || (getT B q).absent, canonOf (uni [(getT A q).set, (getT B q).set])⟩] := rfl
  generalize getT A q = ta at *
  generalize getT B q = tb at *
  simp (config := { implicitDefEqProofs := false, decide := true }) only [go_sem, Nat.reduceEqDiff, Nat.reduceAdd, Nat.reduceMul, Nat.reduceSub, Nat.reduceLT, Nat.reduceLeDiff, Nat.reduceBEq, reduceCtorEq, Int.reduceLT, Int.reduceLE, Int.reduceEq, Int.reduceToNat, Int.reduceAdd, Int.reduceSub, Int.reduceMul, Int.reduceNeg, Nat.reduceLT, ↓reduceIte, norm_terms, norm_spans, norm_sels, len_terms, len_spans, len_sels, hasLL_terms, hasLL_spans, renLL_terms, renLL_spans, leaf_terms, leaf_spans, leaf_sels, norm_sets, len_sets, hasLL_sets, renLL_sets, leaf_sets]
  refine LC.val hga ?_
  simp (config := { implicitDefEqProofs := false, decide := true }) only [go_sem, Nat.reduceEqDiff, Nat.reduceAdd, Nat.reduceMul, Nat.reduceSub, Nat.reduceLT, Nat.reduceLeDiff, Nat.reduceBEq, reduceCtorEq, Int.reduceLT, Int.reduceLE, Int.reduceEq, Int.reduceToNat, Int.reduceAdd, Int.reduceSub, Int.reduceMul, Int.reduceNeg, Nat.reduceLT, ↓reduceIte, encTerm, norm_terms, norm_spans, norm_sels, len_terms, len_spans, len_sels, hasLL_terms, hasLL_spans, renLL_terms, renLL_spans, leaf_terms, leaf_spans, leaf_sels, norm_sets, len_sets, hasLL_sets, renLL_sets, leaf_sets]
  refine LC.val hgb ?_
  by_cases hc : (oa && ob && decide (posT A q < A.length) && decide (posT B q < B.length)) = true
  · rw [if_pos hc] at hdef
    simp only [Bool.and_eq_true, decide_eq_true_eq] at hc
    obtain ⟨⟨⟨rfl, rfl⟩, hpa⟩, hpb⟩ := hc
    have hu := f50_pure [ta.set, tb.set] .unk (by simp) (by simp; exact ⟨hsa, hsb⟩)
    have hcm := f48_pure (meetT A B q) hml hmo .unk
    cases h1 : ta.absent <;> cases h2 : tb.absent
    all_goals
      rw [h1, h2] at hmd
      simp only [Bool.or_self, Bool.or_true, Bool.or_false] at hmd
      simp (config := { implicitDefEqProofs := false, decide := true }) only [go_sem, Nat.reduceEqDiff, Nat.reduceAdd, Nat.reduceMul, Nat.reduceSub, Nat.reduceLT, Nat.reduceLeDiff, Nat.reduceBEq, reduceCtorEq, Int.reduceLT, Int.reduceLE, Int.reduceEq, Int.reduceToNat, Int.reduceAdd, Int.reduceSub, Int.reduceMul, Int.reduceNeg, Nat.reduceLT, ↓reduceIte, encTerm, hpa, hpb, h1, h2, norm_terms, norm_spans, norm_sels, len_terms, len_spans, len_sels, hasLL_terms, hasLL_spans, renLL_terms, renLL_spans, leaf_terms, leaf_spans, leaf_sels, norm_sets, len_sets, hasLL_sets, renLL_sets, leaf_sets]
      refine DC.frz [.isl .unk [encSet ta.set, encSet tb.set]] (by simp only [viewL_nil, viewL_cons, viewL0_nil, viewL0_cons, view1_func, view1_agg, view1_sl, view1_ptr, view1_leaf, view0_leaf, view0_sl, view0_ptr, AV.refsL, AV.refs, List.append_nil, List.nil_append, List.cons_append, mkH, ↓reduceIte, List.drop_zero, take_map, drop_map, List.take_length, List.length_map, getD_map_lt, List.getD_cons_zero, List.drop, AV.leafLL, AV.leafL, AV.leaf, List.mem_cons, List.not_mem_nil, or_false, true_or, or_true, Nat.zero_add, Nat.le_refl, and_self, true_and, and_true, Bool.false_eq_true, Bool.and_true, Bool.and_self, if_true, if_false, List.length_cons, List.length_nil, List.take, Nat.reduceAdd, Nat.reduceLeDiff, Nat.reduceLT, Nat.lt_add_one, Nat.zero_le, Nat.reduceEqDiff, norm_terms, norm_spans, norm_sels, len_terms, len_spans, len_sels, hasLL_terms, hasLL_spans, renLL_terms, renLL_spans, leaf_terms, leaf_spans, leaf_sels, norm_sets, len_sets, hasLL_sets, renLL_sets, leaf_sets, encSet]) hu rfl rfl (by simp (config := { implicitDefEqProofs := false, decide := true }) only [go_sem, Nat.reduceEqDiff, Nat.reduceAdd, Nat.reduceMul, Nat.reduceSub, Nat.reduceLT, Nat.reduceLeDiff, Nat.reduceBEq, reduceCtorEq, Int.reduceLT, Int.reduceLE, Int.reduceEq, Int.reduceToNat, Int.reduceAdd, Int.reduceSub, Int.reduceMul, Int.reduceNeg, Nat.reduceLT, ↓reduceIte]) ?_
      simp (config := { implicitDefEqProofs := false, decide := true }) only [go_sem, Nat.reduceEqDiff, Nat.reduceAdd, Nat.reduceMul, Nat.reduceSub, Nat.reduceLT, Nat.reduceLeDiff, Nat.reduceBEq, reduceCtorEq, Int.reduceLT, Int.reduceLE, Int.reduceEq, Int.reduceToNat, Int.reduceAdd, Int.reduceSub, Int.reduceMul, Int.reduceNeg, Nat.reduceLT, ↓reduceIte, norm_terms, norm_spans, norm_sels, len_terms, len_spans, len_sels, hasLL_terms, hasLL_spans, renLL_terms, renLL_spans, leaf_terms, leaf_spans, leaf_sels, norm_sets, len_sets, hasLL_sets, renLL_sets, leaf_sets]
      refine DC.row (f51_obj A .unk q (by omega)) rfl (by simp (config := { implicitDefEqProofs := false, decide := true }) only [go_sem, Nat.reduceEqDiff, Nat.reduceAdd, Nat.reduceMul, Nat.reduceSub, Nat.reduceLT, Nat.reduceLeDiff, Nat.reduceBEq, reduceCtorEq, Int.reduceLT, Int.reduceLE, Int.reduceEq, Int.reduceToNat, Int.reduceAdd, Int.reduceSub, Int.reduceMul, Int.reduceNeg, Nat.reduceLT, ↓reduceIte]) (leafLL_map encTerm leaf_term _) ?_
      simp (config := { implicitDefEqProofs := false, decide := true }) only [go_sem, Nat.reduceEqDiff, Nat.reduceAdd, Nat.reduceMul, Nat.reduceSub, Nat.reduceLT, Nat.reduceLeDiff, Nat.reduceBEq, reduceCtorEq, Int.reduceLT, Int.reduceLE, Int.reduceEq, Int.reduceToNat, Int.reduceAdd, Int.reduceSub, Int.reduceMul, Int.reduceNeg, Nat.reduceLT, ↓reduceIte, norm_terms, norm_spans, norm_sels, len_terms, len_spans, len_sels, hasLL_terms, hasLL_spans, renLL_terms, renLL_spans, leaf_terms, leaf_spans, leaf_sels, norm_sets, len_sets, hasLL_sets, renLL_sets, leaf_sets]
      refine DC.row (f51_obj B .unk q (by omega)) rfl (by simp (config := { implicitDefEqProofs := false, decide := true }) only [go_sem, Nat.reduceEqDiff, Nat.reduceAdd, Nat.reduceMul, Nat.reduceSub, Nat.reduceLT, Nat.reduceLeDiff, Nat.reduceBEq, reduceCtorEq, Int.reduceLT, Int.reduceLE, Int.reduceEq, Int.reduceToNat, Int.reduceAdd, Int.reduceSub, Int.reduceMul, Int.reduceNeg, Nat.reduceLT, ↓reduceIte]) (leafLL_map encTerm leaf_term _) ?_
      simp (config := { implicitDefEqProofs := false, decide := true }) only [go_sem, Nat.reduceEqDiff, Nat.reduceAdd, Nat.reduceMul, Nat.reduceSub, Nat.reduceLT, Nat.reduceLeDiff, Nat.reduceBEq, reduceCtorEq, Int.reduceLT, Int.reduceLE, Int.reduceEq, Int.reduceToNat, Int.reduceAdd, Int.reduceSub, Int.reduceMul, Int.reduceNeg, Nat.reduceLT, ↓reduceIte, norm_terms, norm_spans, norm_sels, len_terms, len_spans, len_sels, hasLL_terms, hasLL_spans, renLL_terms, renLL_spans, leaf_terms, leaf_spans, leaf_sels, norm_sets, len_sets, hasLL_sets, renLL_sets, leaf_sets]
      have hl2 : (without A q).length + (without B q).length + 1 = (meetT A B q).length := by rw [hmd]; simp; omega
      refine ⟨by omega, by omega, ?_⟩
      rw [appL, ← hmd, hl2]
      refine DC.frz [.isl .unk ((meetT A B q).map encTerm)] (by simp only [viewL_nil, viewL_cons, viewL0_nil, viewL0_cons, view1_func, view1_agg, view1_sl, view1_ptr, view1_leaf, view0_leaf, view0_sl, view0_ptr, AV.refsL, AV.refs, List.append_nil, List.nil_append, List.cons_append, mkH, ↓reduceIte, List.drop_zero, take_map, drop_map, List.take_length, List.length_map, getD_map_lt, List.getD_cons_zero, List.drop, AV.leafLL, AV.leafL, AV.leaf, List.mem_cons, List.not_mem_nil, or_false, true_or, or_true, Nat.zero_add, Nat.le_refl, and_self, true_and, and_true, Bool.false_eq_true, Bool.and_true, Bool.and_self, if_true, if_false, List.length_cons, List.length_nil, List.take, Nat.reduceAdd, Nat.reduceLeDiff, Nat.reduceLT, Nat.lt_add_one, Nat.zero_le, Nat.reduceEqDiff, norm_terms, norm_spans, norm_sels, len_terms, len_spans, len_sels, hasLL_terms, hasLL_spans, renLL_terms, renLL_spans, leaf_terms, leaf_spans, leaf_sels, norm_sets, len_sets, hasLL_sets, renLL_sets, leaf_sets]) hcm rfl rfl (by simp (config := { implicitDefEqProofs := false, decide := true }) only [go_sem, Nat.reduceEqDiff, Nat.reduceAdd, Nat.reduceMul, Nat.reduceSub, Nat.reduceLT, Nat.reduceLeDiff, Nat.reduceBEq, reduceCtorEq, Int.reduceLT, Int.reduceLE, Int.reduceEq, Int.reduceToNat, Int.reduceAdd, Int.reduceSub, Int.reduceMul, Int.reduceNeg, Nat.reduceLT, ↓reduceIte]) ?_
      generalize canT (meetT A B q) = R at *
      obtain ⟨R, ok⟩ := R
      cases ok <;> simp (config := { implicitDefEqProofs := false, decide := true }) only [go_sem, Nat.reduceEqDiff, Nat.reduceAdd, Nat.reduceMul, Nat.reduceSub, Nat.reduceLT, Nat.reduceLeDiff, Nat.reduceBEq, reduceCtorEq, Int.reduceLT, Int.reduceLE, Int.reduceEq, Int.reduceToNat, Int.reduceAdd, Int.reduceSub, Int.reduceMul, Int.reduceNeg, Nat.reduceLT, ↓reduceIte, hdef, norm_terms, norm_spans, norm_sels, len_terms, len_spans, len_sels, hasLL_terms, hasLL_spans, renLL_terms, renLL_spans, leaf_terms, leaf_spans, leaf_sels, norm_sets, len_sets, hasLL_sets, renLL_sets, leaf_sets]
  · rw [if_neg hc] at hdef
    generalize decide (posT A q < A.length) = fa at *
    generalize decide (posT B q < B.length) = fb at *
    cases oa <;> cases ob <;> cases fa <;> cases fb <;> first | exact absurd rfl hc | simp (config := { implicitDefEqProofs := false, decide := true }) only [go_sem, Nat.reduceEqDiff, Nat.reduceAdd, Nat.reduceMul, Nat.reduceSub, Nat.reduceLT, Nat.reduceLeDiff, Nat.reduceBEq, reduceCtorEq, Int.reduceLT, Int.reduceLE, Int.reduceEq, Int.reduceToNat, Int.reduceAdd, Int.reduceSub, Int.reduceMul, Int.reduceNeg, Nat.reduceLT, ↓reduceIte, encTerm, hdef, norm_terms, norm_spans, norm_sels, len_terms, len_spans, len_sels, hasLL_terms, hasLL_spans, renLL_terms, renLL_spans, leaf_terms, leaf_spans, leaf_sels, norm_sets, len_sets, hasLL_sets, renLL_sets, leaf_sets]
end
section
open Go.Aw Go.RowKit Go.Sort Go.Shelf
/-! ### Split -/
/-- slices.Clone at terms -/
theorem f75_obj (T : List Tm) (h0 : 0 < T.length) (hl : T.length ≤ 1000000) : ObjP Tryz.prog 75 [.isl .unk (T.map encTerm)] (fun n => .sl n 0 T.length false) (.row 51 3 (T.map encTerm)) := by
  refine RowP.run (xs := T) leaf_term mixed e75 Tryz.func75 c75_ok r75 (by rw [Tryz.ntmps75]; rfl) ?_
  obtain ⟨t, T, rfl⟩ := List.exists_cons_of_length_pos h0
  have hb : (List.length T + 1) * 48 ≤ 140737488355328 := by simp at hl; omega
  simp (config := { implicitDefEqProofs := false, decide := true }) only [go_sem, Nat.reduceEqDiff, Nat.reduceAdd, Nat.reduceMul, Nat.reduceSub, Nat.reduceLT, Nat.reduceLeDiff, Nat.reduceBEq, reduceCtorEq, Int.reduceLT, Int.reduceLE, Int.reduceEq, Int.reduceToNat, Int.reduceAdd, Int.reduceSub, Int.reduceMul, Int.reduceNeg, Nat.reduceLT, ↓reduceIte, c75, hb, norm_terms, norm_spans, norm_sels, len_terms, len_spans, len_sels, hasLL_terms, hasLL_spans, renLL_terms, renLL_spans, leaf_terms, leaf_spans, leaf_sels, norm_sets, len_sets, hasLL_sets, renLL_sets, leaf_sets]
  exact ⟨rfl, rfl, rfl, 4002, rfl, by rw [if_pos rfl]⟩
/-- slices.Delete at terms: one of them -/
theorem f74_at (T : List Tm) (i : Nat) (hi : i < T.length) (hl : T.length ≤ 1000000) :
    ACalls Tryz.prog 74 [.sl 990 0 T.length false, .int .i64 i, .int .i64 (i + 1 : Nat)] (updH (fun _ => none) 990 (some (.row 51 3 (T.map encTerm)))) [990]
      (fun z h' => z = .sl 990 0 (T.length - 1) false ∧ h' = updH (fun _ => none) 990 (some (.row 51 3 ((T.take i ++ T.drop (i + 1)).map encTerm)))) := by
  rw [← mkH_one, ← mkH_one]
  refine ACalls.run mixed Tryz.func74 c74_ok r74 (by rw [Tryz.ntmps74]; rfl) ?_
  have hne1 : ¬ ((i : Int) = ((i + 1 : Nat) : Int)) := by omega
  have hne3 : ¬ (i = T.length) := by omega
  have hne4 : ¬ ((i : Int) = (T.length : Int)) := by omega
  have htl : (T.take i).length = i := by simp; omega
  by_cases hlast : ((i + 1 : Nat) : Int) = (T.length : Int)
  · have h2 : T.drop (i + 1) = [] := List.drop_eq_nil_of_le (by omega)
    have h3 : i + 1 = T.length := by omega
    simp (config := { implicitDefEqProofs := false, decide := true }) only [go_sem, Nat.reduceEqDiff, Nat.reduceAdd, Nat.reduceMul, Nat.reduceSub, Nat.reduceLT, Nat.reduceLeDiff, Nat.reduceBEq, reduceCtorEq, Int.reduceLT, Int.reduceLE, Int.reduceEq, Int.reduceToNat, Int.reduceAdd, Int.reduceSub, Int.reduceMul, Int.reduceNeg, Nat.reduceLT, ↓reduceIte, c74, finA, hne1, hne3, hne4, hlast, norm_terms, norm_spans, norm_sels, len_terms, len_spans, len_sels, hasLL_terms, hasLL_spans, renLL_terms, renLL_spans, leaf_terms, leaf_spans, leaf_sels, norm_sets, len_sets, hasLL_sets, renLL_sets, leaf_sets]
    simp only [htl]
    refine ⟨by omega, by omega, by omega, by omega, by omega, trivial, congrArg (fun n => AV.sl 990 0 n false) (by omega), ?_⟩
    have e : List.take i (List.map encTerm (List.take i T) ++ [] ++ List.map encTerm (List.drop i T)) = List.map encTerm (List.take i T) ++ List.map encTerm (List.drop (i + 1) T) := by
      rw [List.append_nil, List.take_append_of_le_length (by rw [List.length_map, htl]; omega), List.take_of_length_le (by rw [List.length_map, htl]; omega), h2, List.map_nil, List.append_nil]
    rw [e]
  · simp (config := { implicitDefEqProofs := false, decide := true }) only [go_sem, Nat.reduceEqDiff, Nat.reduceAdd, Nat.reduceMul, Nat.reduceSub, Nat.reduceLT, Nat.reduceLeDiff, Nat.reduceBEq, reduceCtorEq, Int.reduceLT, Int.reduceLE, Int.reduceEq, Int.reduceToNat, Int.reduceAdd, Int.reduceSub, Int.reduceMul, Int.reduceNeg, Nat.reduceLT, ↓reduceIte, c74, finA, hne1, hne3, hne4, hlast, norm_terms, norm_spans, norm_sels, len_terms, len_spans, len_sels, hasLL_terms, hasLL_spans, renLL_terms, renLL_spans, leaf_terms, leaf_spans, leaf_sels, norm_sets, len_sets, hasLL_sets, renLL_sets, leaf_sets]
    simp only [htl]
    refine ⟨⟨by omega, by omega⟩, by omega, by omega, by omega, by omega, by omega, by omega, ⟨by omega, by omega⟩, trivial, congrArg (fun n => AV.sl 990 0 n false) (by omega), ?_⟩
    have hl2 : (List.map encTerm (List.take i T) ++ List.map encTerm (List.drop (i + 1) T)).length = i + (T.length - (i + 1)) := by simp; omega
    rw [List.take_append_of_le_length (by rw [hl2]; omega), List.take_of_length_le (by rw [hl2]; omega)]
theorem f74_calls (T : List Tm) (i : Nat) (hi : i < T.length) (hl : T.length ≤ 1000000) (o : Nat) :
    ACalls Tryz.prog 74 [.sl o 0 T.length false, .int .i64 i, .int .i64 (i + 1 : Nat)] (updH (fun _ => none) o (some (.row 51 3 (T.map encTerm)))) [o]
      (fun z h' => z = .sl o 0 (T.length - 1) false ∧ h' = updH (fun _ => none) o (some (.row 51 3 ((T.take i ++ T.drop (i + 1)).map encTerm)))) :=
  ACalls.ren1 rfl (row_ren leaf_term 51 3 _ _) rfl (row_ren leaf_term 51 3 _ _) (f74_at T i hi hl)
end
section
open Go.Aw Go.RowKit Go.Sort Go.Shelf
theorem canT_by (l : List Tm) : byPath (canT l).1 := by
  unfold canT
  split
  · exact .nil
  · exact sortT_by ((vals_paths l).sublist ((List.filter_sublist).map _))
theorem without_at {A : List Tm} (h : byPath A) {q : ByteArray} (hp : posT A q < A.length) : A.take (posT A q) ++ A.drop (posT A q + 1) = without A q := by
  have hat : A[posT A q].path = q := of_decide_eq_true (posT_at hp)
  have hs : A = A.take (posT A q) ++ A[posT A q] :: A.drop (posT A q + 1) := by rw [← List.drop_eq_getElem_cons hp, List.take_append_drop]
  have h1 : without (A.take (posT A q)) q = A.take (posT A q) := by
    unfold without
    rw [List.filter_eq_self]
    intro t ht
    obtain ⟨k, hk, rfl⟩ := List.getElem_of_mem ht
    rw [List.getElem_take]
    rw [List.length_take] at hk
    rw [posT_lt (by omega) (by omega)]; rfl
  have h2 : without (A.drop (posT A q + 1)) q = A.drop (posT A q + 1) := by
    unfold without
    rw [List.filter_eq_self]
    intro t ht
    obtain ⟨k, hk, rfl⟩ := List.getElem_of_mem ht
    rw [List.getElem_drop]
    rw [List.length_drop] at hk
    have := byPath_get h (a := posT A q) (b := posT A q + 1 + k) (by omega) (by omega)
    rw [hat] at this
    rw [decide_eq_false (fun e => by rw [e] at this; simp [ltB_irrefl] at this)]; rfl
  conv => rhs; rw [hs]
  unfold without at *
  rw [List.filter_append, List.filter_cons, h1, h2]
  simp [hat]
theorem getT_path {A : List Tm} {q : ByteArray} (hp : posT A q < A.length) : (getT A q).path = q := by
  have : getT A q = A[posT A q] := by simp [getT, List.getD_eq_getElem?_getD, hp]
  rw [this]
  exact of_decide_eq_true (posT_at hp)
def foundT (A : List Tm × Bool) (q : ByteArray) : Bool := A.2 && decide (posT A.1 q < A.1.length)
set_option maxHeartbeats 1000000 in
theorem f46_none (l : List Tm) (hl : l.length ≤ 400000) (hok : ∀ t ∈ l, t.ok) (q : ByteArray) (hf : foundT (canT l) q = false) :
    PureP Tryz.prog 46 [.isl .unk (l.map encTerm), .str q] (· = .tup [.agg (encTerm zeroT), .isl .unk [], .bool false]) := by
  refine PureE.run mixed e46 Tryz.func46 c46_ok r46 (by rw [Tryz.ntmps46]; rfl) rfl ?_
  simp (config := { implicitDefEqProofs := false, decide := true }) only [go_sem, Nat.reduceEqDiff, Nat.reduceAdd, Nat.reduceMul, Nat.reduceSub, Nat.reduceLT, Nat.reduceLeDiff, Nat.reduceBEq, reduceCtorEq, Int.reduceLT, Int.reduceLE, Int.reduceEq, Int.reduceToNat, Int.reduceAdd, Int.reduceSub, Int.reduceMul, Int.reduceNeg, Nat.reduceLT, ↓reduceIte, c46, norm_terms, norm_spans, norm_sels, len_terms, len_spans, len_sels, hasLL_terms, hasLL_spans, renLL_terms, renLL_spans, leaf_terms, leaf_spans, leaf_sels, norm_sets, len_sets, hasLL_sets, renLL_sets, leaf_sets]
  refine LC.val (f34_pure l (by omega) hok) ?_
  have hal := canT_len l
  generalize canT l = A at *
  obtain ⟨A, oa⟩ := A
  simp only [foundT] at *
  simp (config := { implicitDefEqProofs := false, decide := true }) only [go_sem, Nat.reduceEqDiff, Nat.reduceAdd, Nat.reduceMul, Nat.reduceSub, Nat.reduceLT, Nat.reduceLeDiff, Nat.reduceBEq, reduceCtorEq, Int.reduceLT, Int.reduceLE, Int.reduceEq, Int.reduceToNat, Int.reduceAdd, Int.reduceSub, Int.reduceMul, Int.reduceNeg, Nat.reduceLT, ↓reduceIte, norm_terms, norm_spans, norm_sels, len_terms, len_spans, len_sels, hasLL_terms, hasLL_spans, renLL_terms, renLL_spans, leaf_terms, leaf_spans, leaf_sels, norm_sets, len_sets, hasLL_sets, renLL_sets, leaf_sets]
  refine LC.frz [.isl .unk (A.map encTerm), .func (.func 73) [] [.iptr [.str q]]] (by simp only [viewL_nil, viewL_cons, viewL0_nil, viewL0_cons, view1_func, view1_agg, view1_sl, view1_ptr, view1_leaf, view0_leaf, view0_sl, view0_ptr, AV.refsL, AV.refs, List.append_nil, List.nil_append, List.cons_append, mkH, ↓reduceIte, List.drop_zero, take_map, drop_map, List.take_length, List.length_map, getD_map_lt, List.getD_cons_zero, List.drop, AV.leafLL, AV.leafL, AV.leaf, List.mem_cons, List.not_mem_nil, or_false, true_or, or_true, Nat.zero_add, Nat.le_refl, and_self, true_and, and_true, Bool.false_eq_true, Bool.and_true, Bool.and_self, if_true, if_false, List.length_cons, List.length_nil, List.take, Nat.reduceAdd, Nat.reduceLeDiff, Nat.reduceLT, Nat.lt_add_one, Nat.zero_le, Nat.reduceEqDiff, norm_terms, norm_spans, norm_sels, len_terms, len_spans, len_sels, hasLL_terms, hasLL_spans, renLL_terms, renLL_spans, leaf_terms, leaf_spans, leaf_sels, norm_sets, len_sets, hasLL_sets, renLL_sets, leaf_sets]; exact view1_self rfl) ?_
  refine LC.val (f52_pure A q (by omega) 73 [.iptr [.str q]] rfl (fun t => f73_pure t q)) ?_
  cases oa with
  | false => simp (config := { implicitDefEqProofs := false, decide := true }) only [go_sem, Nat.reduceEqDiff, Nat.reduceAdd, Nat.reduceMul, Nat.reduceSub, Nat.reduceLT, Nat.reduceLeDiff, Nat.reduceBEq, reduceCtorEq, Int.reduceLT, Int.reduceLE, Int.reduceEq, Int.reduceToNat, Int.reduceAdd, Int.reduceSub, Int.reduceMul, Int.reduceNeg, Nat.reduceLT, ↓reduceIte, zeroT, encTerm, norm_terms, norm_spans, norm_sels, len_terms, len_spans, len_sels, hasLL_terms, hasLL_spans, renLL_terms, renLL_spans, leaf_terms, leaf_spans, leaf_sels, norm_sets, len_sets, hasLL_sets, renLL_sets, leaf_sets]
  | true =>
    have hp : ¬ posT A q < A.length := by simpa using hf
    simp (config := { implicitDefEqProofs := false, decide := true }) only [go_sem, Nat.reduceEqDiff, Nat.reduceAdd, Nat.reduceMul, Nat.reduceSub, Nat.reduceLT, Nat.reduceLeDiff, Nat.reduceBEq, reduceCtorEq, Int.reduceLT, Int.reduceLE, Int.reduceEq, Int.reduceToNat, Int.reduceAdd, Int.reduceSub, Int.reduceMul, Int.reduceNeg, Nat.reduceLT, ↓reduceIte, hp, zeroT, encTerm, norm_terms, norm_spans, norm_sels, len_terms, len_spans, len_sels, hasLL_terms, hasLL_spans, renLL_terms, renLL_spans, leaf_terms, leaf_spans, leaf_sels, norm_sets, len_sets, hasLL_sets, renLL_sets, leaf_sets]
set_option maxHeartbeats 1000000 in
theorem f46_some (l : List Tm) (hl : l.length ≤ 400000) (hok : ∀ t ∈ l, t.ok) (q : ByteArray) (hf : foundT (canT l) q = true) :
    ObjP Tryz.prog 46 [.isl .unk (l.map encTerm), .str q] (fun n => .tup [.agg (encTerm (getT (canT l).1 q)), .sl n 0 (without (canT l).1 q).length false, .bool true]) (.row 51 3 ((without (canT l).1 q).map encTerm)) := by
  refine ObjP.run mixed e46 Tryz.func46 c46_ok r46 (by rw [Tryz.ntmps46]; rfl) (fun _ _ => rfl) (fun n o h => by simp only [AV.has, AV.hasL, encTerm, Bool.or_false, Bool.false_or, beq_iff_eq] at h; exact h.symm) (row_has leaf_term 51 3 _) (row_ren leaf_term 51 3 _) ?_
  simp (config := { implicitDefEqProofs := false, decide := true }) only [go_sem, Nat.reduceEqDiff, Nat.reduceAdd, Nat.reduceMul, Nat.reduceSub, Nat.reduceLT, Nat.reduceLeDiff, Nat.reduceBEq, reduceCtorEq, Int.reduceLT, Int.reduceLE, Int.reduceEq, Int.reduceToNat, Int.reduceAdd, Int.reduceSub, Int.reduceMul, Int.reduceNeg, Nat.reduceLT, ↓reduceIte, c46, norm_terms, norm_spans, norm_sels, len_terms, len_spans, len_sels, hasLL_terms, hasLL_spans, renLL_terms, renLL_spans, leaf_terms, leaf_spans, leaf_sels, norm_sets, len_sets, hasLL_sets, renLL_sets, leaf_sets]
  refine LC.val (f34_pure l (by omega) hok) ?_
  have hal := canT_len l
  have hby := canT_by l
  generalize canT l = A at *
  obtain ⟨A, oa⟩ := A
  simp only [foundT, Bool.and_eq_true, decide_eq_true_eq] at *
  obtain ⟨rfl, hp⟩ := hf
  simp (config := { implicitDefEqProofs := false, decide := true }) only [go_sem, Nat.reduceEqDiff, Nat.reduceAdd, Nat.reduceMul, Nat.reduceSub, Nat.reduceLT, Nat.reduceLeDiff, Nat.reduceBEq, reduceCtorEq, Int.reduceLT, Int.reduceLE, Int.reduceEq, Int.reduceToNat, Int.reduceAdd, Int.reduceSub, Int.reduceMul, Int.reduceNeg, Nat.reduceLT, ↓reduceIte, norm_terms, norm_spans, norm_sels, len_terms, len_spans, len_sels, hasLL_terms, hasLL_spans, renLL_terms, renLL_spans, leaf_terms, leaf_spans, leaf_sels, norm_sets, len_sets, hasLL_sets, renLL_sets, leaf_sets]
  refine LC.frz [.isl .unk (A.map encTerm), .func (.func 73) [] [.iptr [.str q]]] (by simp only [viewL_nil, viewL_cons, viewL0_nil, viewL0_cons, view1_func, view1_agg, view1_sl, view1_ptr, view1_leaf, view0_leaf, view0_sl, view0_ptr, AV.refsL, AV.refs, List.append_nil, List.nil_append, List.cons_append, mkH, ↓reduceIte, List.drop_zero, take_map, drop_map, List.take_length, List.length_map, getD_map_lt, List.getD_cons_zero, List.drop, AV.leafLL, AV.leafL, AV.leaf, List.mem_cons, List.not_mem_nil, or_false, true_or, or_true, Nat.zero_add, Nat.le_refl, and_self, true_and, and_true, Bool.false_eq_true, Bool.and_true, Bool.and_self, if_true, if_false, List.length_cons, List.length_nil, List.take, Nat.reduceAdd, Nat.reduceLeDiff, Nat.reduceLT, Nat.lt_add_one, Nat.zero_le, Nat.reduceEqDiff, norm_terms, norm_spans, norm_sels, len_terms, len_spans, len_sels, hasLL_terms, hasLL_spans, renLL_terms, renLL_spans, leaf_terms, leaf_spans, leaf_sels, norm_sets, len_sets, hasLL_sets, renLL_sets, leaf_sets]; exact view1_self rfl) ?_
  refine LC.val (f52_pure A q (by omega) 73 [.iptr [.str q]] rfl (fun t => f73_pure t q)) ?_
  have hw := wrap_nat (i := posT A q) (by omega)
  have hga : getT A q = A[posT A q] := by simp [getT, List.getD_eq_getElem?_getD, hp]
  have hd := f74_calls A (posT A q) hp (by omega) 6005
  rw [without_at hby hp] at hd
  have hwl : (without A q).length = A.length - 1 := by rw [← without_at hby hp]; simp; omega
  simp (config := { implicitDefEqProofs := false, decide := true }) only [go_sem, Nat.reduceEqDiff, Nat.reduceAdd, Nat.reduceMul, Nat.reduceSub, Nat.reduceLT, Nat.reduceLeDiff, Nat.reduceBEq, reduceCtorEq, Int.reduceLT, Int.reduceLE, Int.reduceEq, Int.reduceToNat, Int.reduceAdd, Int.reduceSub, Int.reduceMul, Int.reduceNeg, Nat.reduceLT, ↓reduceIte, hp, hw, encTerm, norm_terms, norm_spans, norm_sels, len_terms, len_spans, len_sels, hasLL_terms, hasLL_spans, renLL_terms, renLL_spans, leaf_terms, leaf_spans, leaf_sels, norm_sets, len_sets, hasLL_sets, renLL_sets, leaf_sets]
  refine DC.row (f75_obj A (by omega) (by omega)) rfl (by simp (config := { implicitDefEqProofs := false, decide := true }) only [go_sem, Nat.reduceEqDiff, Nat.reduceAdd, Nat.reduceMul, Nat.reduceSub, Nat.reduceLT, Nat.reduceLeDiff, Nat.reduceBEq, reduceCtorEq, Int.reduceLT, Int.reduceLE, Int.reduceEq, Int.reduceToNat, Int.reduceAdd, Int.reduceSub, Int.reduceMul, Int.reduceNeg, Nat.reduceLT, ↓reduceIte]) (leafLL_map encTerm leaf_term _) ?_
  simp (config := { implicitDefEqProofs := false, decide := true }) only [go_sem, Nat.reduceEqDiff, Nat.reduceAdd, Nat.reduceMul, Nat.reduceSub, Nat.reduceLT, Nat.reduceLeDiff, Nat.reduceBEq, reduceCtorEq, Int.reduceLT, Int.reduceLE, Int.reduceEq, Int.reduceToNat, Int.reduceAdd, Int.reduceSub, Int.reduceMul, Int.reduceNeg, Nat.reduceLT, ↓reduceIte, hw, norm_terms, norm_spans, norm_sels, len_terms, len_spans, len_sels, hasLL_terms, hasLL_spans, renLL_terms, renLL_spans, leaf_terms, leaf_spans, leaf_sels, norm_sets, len_sets, hasLL_sets, renLL_sets, leaf_sets]
  refine DC.put e74 rfl (by simp (config := { implicitDefEqProofs := false, decide := true }) only [go_sem, Nat.reduceEqDiff, Nat.reduceAdd, Nat.reduceMul, Nat.reduceSub, Nat.reduceLT, Nat.reduceLeDiff, Nat.reduceBEq, reduceCtorEq, Int.reduceLT, Int.reduceLE, Int.reduceEq, Int.reduceToNat, Int.reduceAdd, Int.reduceSub, Int.reduceMul, Int.reduceNeg, Nat.reduceLT, ↓reduceIte]) (by simp (config := { implicitDefEqProofs := false, decide := true }) only [go_sem, Nat.reduceEqDiff, Nat.reduceAdd, Nat.reduceMul, Nat.reduceSub, Nat.reduceLT, Nat.reduceLeDiff, Nat.reduceBEq, reduceCtorEq, Int.reduceLT, Int.reduceLE, Int.reduceEq, Int.reduceToNat, Int.reduceAdd, Int.reduceSub, Int.reduceMul, Int.reduceNeg, Nat.reduceLT, ↓reduceIte]) hd (by simp (config := { implicitDefEqProofs := false, decide := true }) only [go_sem, Nat.reduceEqDiff, Nat.reduceAdd, Nat.reduceMul, Nat.reduceSub, Nat.reduceLT, Nat.reduceLeDiff, Nat.reduceBEq, reduceCtorEq, Int.reduceLT, Int.reduceLE, Int.reduceEq, Int.reduceToNat, Int.reduceAdd, Int.reduceSub, Int.reduceMul, Int.reduceNeg, Nat.reduceLT, ↓reduceIte]) (leafLL_map encTerm leaf_term _) ?_
  simp (config := { implicitDefEqProofs := false, decide := true }) only [go_sem, Nat.reduceEqDiff, Nat.reduceAdd, Nat.reduceMul, Nat.reduceSub, Nat.reduceLT, Nat.reduceLeDiff, Nat.reduceBEq, reduceCtorEq, Int.reduceLT, Int.reduceLE, Int.reduceEq, Int.reduceToNat, Int.reduceAdd, Int.reduceSub, Int.reduceMul, Int.reduceNeg, Nat.reduceLT, ↓reduceIte, hga, hwl, encTerm, norm_terms, norm_spans, norm_sels, len_terms, len_spans, len_sels, hasLL_terms, hasLL_spans, renLL_terms, renLL_spans, leaf_terms, leaf_spans, leaf_sels, norm_sets, len_sets, hasLL_sets, renLL_sets, leaf_sets]
  exact ⟨6005, rfl, by rw [if_neg (by decide), if_pos rfl]⟩
set_option maxHeartbeats 1000000 in
/-- term.Resolve -/
theorem f18_pure (a b : List Tm) (q : ByteArray) (ha : a.length ≤ 400000) (hb : b.length ≤ 400000) (oka : ∀ t ∈ a, t.ok) (okb : ∀ t ∈ b, t.ok) :
    PureP Tryz.prog 18 [.isl .unk (a.map encTerm), .isl .unk (b.map encTerm), .str q] (· = .tup [.isl .unk ((resT a b q).1.map encTerm), .int .i64 (resT a b q).2]) := by
  refine PureE.run mixed e18 Tryz.func18 c18_ok r18 (by rw [Tryz.ntmps18]; rfl) rfl ?_
  simp (config := { implicitDefEqProofs := false, decide := true }) only [go_sem, Nat.reduceEqDiff, Nat.reduceAdd, Nat.reduceMul, Nat.reduceSub, Nat.reduceLT, Nat.reduceLeDiff, Nat.reduceBEq, reduceCtorEq, Int.reduceLT, Int.reduceLE, Int.reduceEq, Int.reduceToNat, Int.reduceAdd, Int.reduceSub, Int.reduceMul, Int.reduceNeg, Nat.reduceLT, ↓reduceIte, c18, norm_terms, norm_spans, norm_sels, len_terms, len_spans, len_sels, hasLL_terms, hasLL_spans, renLL_terms, renLL_spans, leaf_terms, leaf_spans, leaf_sels, norm_sets, len_sets, hasLL_sets, renLL_sets, leaf_sets]
  have hdef : resT a b q = if foundT (canT a) q && foundT (canT b) q then
    (if (canT (meetT (canT a).1 (canT b).1 q)).2 then ((canT (meetT (canT a).1 (canT b).1 q)).1, 0) else ([], 8))
  else ([], 1) := by
    unfold resT foundT
    congr 1
    cases (canT a).2 <;> cases (canT b).2 <;> simp
  cases hfa : foundT (canT a) q with
  | false =>
    rw [hfa, Bool.false_and, if_neg (by simp)] at hdef
    refine LC.val (f46_none a ha oka q hfa) ?_
    simp (config := { implicitDefEqProofs := false, decide := true }) only [go_sem, Nat.reduceEqDiff, Nat.reduceAdd, Nat.reduceMul, Nat.reduceSub, Nat.reduceLT, Nat.reduceLeDiff, Nat.reduceBEq, reduceCtorEq, Int.reduceLT, Int.reduceLE, Int.reduceEq, Int.reduceToNat, Int.reduceAdd, Int.reduceSub, Int.reduceMul, Int.reduceNeg, Nat.reduceLT, ↓reduceIte, encTerm, zeroT, norm_terms, norm_spans, norm_sels, len_terms, len_spans, len_sels, hasLL_terms, hasLL_spans, renLL_terms, renLL_spans, leaf_terms, leaf_spans, leaf_sels, norm_sets, len_sets, hasLL_sets, renLL_sets, leaf_sets]
    cases hfb : foundT (canT b) q with
    | false =>
      refine LC.val (f46_none b hb okb q hfb) ?_
      simp (config := { implicitDefEqProofs := false, decide := true }) only [go_sem, Nat.reduceEqDiff, Nat.reduceAdd, Nat.reduceMul, Nat.reduceSub, Nat.reduceLT, Nat.reduceLeDiff, Nat.reduceBEq, reduceCtorEq, Int.reduceLT, Int.reduceLE, Int.reduceEq, Int.reduceToNat, Int.reduceAdd, Int.reduceSub, Int.reduceMul, Int.reduceNeg, Nat.reduceLT, ↓reduceIte, encTerm, zeroT, hdef, norm_terms, norm_spans, norm_sels, len_terms, len_spans, len_sels, hasLL_terms, hasLL_spans, renLL_terms, renLL_spans, leaf_terms, leaf_spans, leaf_sels, norm_sets, len_sets, hasLL_sets, renLL_sets, leaf_sets]
    | true =>
      refine LC.obj 992 (f46_some b hb okb q hfb) (by simp (config := { implicitDefEqProofs := false, decide := true }) only [go_sem, Nat.reduceEqDiff, Nat.reduceAdd, Nat.reduceMul, Nat.reduceSub, Nat.reduceLT, Nat.reduceLeDiff, Nat.reduceBEq, reduceCtorEq, Int.reduceLT, Int.reduceLE, Int.reduceEq, Int.reduceToNat, Int.reduceAdd, Int.reduceSub, Int.reduceMul, Int.reduceNeg, Nat.reduceLT, ↓reduceIte, encTerm, zeroT, norm_terms, norm_spans, norm_sels, len_terms, len_spans, len_sels, hasLL_terms, hasLL_spans, renLL_terms, renLL_spans, leaf_terms, leaf_spans, leaf_sels, norm_sets, len_sets, hasLL_sets, renLL_sets, leaf_sets]) ?_
      simp (config := { implicitDefEqProofs := false, decide := true }) only [go_sem, Nat.reduceEqDiff, Nat.reduceAdd, Nat.reduceMul, Nat.reduceSub, Nat.reduceLT, Nat.reduceLeDiff, Nat.reduceBEq, reduceCtorEq, Int.reduceLT, Int.reduceLE, Int.reduceEq, Int.reduceToNat, Int.reduceAdd, Int.reduceSub, Int.reduceMul, Int.reduceNeg, Nat.reduceLT, ↓reduceIte, encTerm, zeroT, hdef, norm_terms, norm_spans, norm_sels, len_terms, len_spans, len_sels, hasLL_terms, hasLL_spans, renLL_terms, renLL_spans, leaf_terms, leaf_spans, leaf_sels, norm_sets, len_sets, hasLL_sets, renLL_sets, leaf_sets]
  | true =>
    refine LC.obj 991 (f46_some a ha oka q hfa) (by simp (config := { implicitDefEqProofs := false, decide := true }) only [go_sem, Nat.reduceEqDiff, Nat.reduceAdd, Nat.reduceMul, Nat.reduceSub, Nat.reduceLT, Nat.reduceLeDiff, Nat.reduceBEq, reduceCtorEq, Int.reduceLT, Int.reduceLE, Int.reduceEq, Int.reduceToNat, Int.reduceAdd, Int.reduceSub, Int.reduceMul, Int.reduceNeg, Nat.reduceLT, ↓reduceIte, encTerm, zeroT, norm_terms, norm_spans, norm_sels, len_terms, len_spans, len_sels, hasLL_terms, hasLL_spans, renLL_terms, renLL_spans, leaf_terms, leaf_spans, leaf_sels, norm_sets, len_sets, hasLL_sets, renLL_sets, leaf_sets]) ?_
    simp (config := { implicitDefEqProofs := false, decide := true }) only [go_sem, Nat.reduceEqDiff, Nat.reduceAdd, Nat.reduceMul, Nat.reduceSub, Nat.reduceLT, Nat.reduceLeDiff, Nat.reduceBEq, reduceCtorEq, Int.reduceLT, Int.reduceLE, Int.reduceEq, Int.reduceToNat, Int.reduceAdd, Int.reduceSub, Int.reduceMul, Int.reduceNeg, Nat.reduceLT, ↓reduceIte, encTerm, zeroT, hdef, norm_terms, norm_spans, norm_sels, len_terms, len_spans, len_sels, hasLL_terms, hasLL_spans, renLL_terms, renLL_spans, leaf_terms, leaf_spans, leaf_sels, norm_sets, len_sets, hasLL_sets, renLL_sets, leaf_sets]
    cases hfb : foundT (canT b) q with
    | false =>
      rw [hfa, hfb, Bool.and_false, if_neg (by simp)] at hdef
      refine LC.val (f46_none b hb okb q hfb) ?_
      simp (config := { implicitDefEqProofs := false, decide := true }) only [go_sem, Nat.reduceEqDiff, Nat.reduceAdd, Nat.reduceMul, Nat.reduceSub, Nat.reduceLT, Nat.reduceLeDiff, Nat.reduceBEq, reduceCtorEq, Int.reduceLT, Int.reduceLE, Int.reduceEq, Int.reduceToNat, Int.reduceAdd, Int.reduceSub, Int.reduceMul, Int.reduceNeg, Nat.reduceLT, ↓reduceIte, encTerm, zeroT, hdef, norm_terms, norm_spans, norm_sels, len_terms, len_spans, len_sels, hasLL_terms, hasLL_spans, renLL_terms, renLL_spans, leaf_terms, leaf_spans, leaf_sels, norm_sets, len_sets, hasLL_sets, renLL_sets, leaf_sets]
    | true =>
      rw [hfa, hfb, Bool.and_self, if_pos rfl] at hdef
      refine LC.obj 992 (f46_some b hb okb q hfb) (by simp (config := { implicitDefEqProofs := false, decide := true }) only [go_sem, Nat.reduceEqDiff, Nat.reduceAdd, Nat.reduceMul, Nat.reduceSub, Nat.reduceLT, Nat.reduceLeDiff, Nat.reduceBEq, reduceCtorEq, Int.reduceLT, Int.reduceLE, Int.reduceEq, Int.reduceToNat, Int.reduceAdd, Int.reduceSub, Int.reduceMul, Int.reduceNeg, Nat.reduceLT, ↓reduceIte, encTerm, zeroT, norm_terms, norm_spans, norm_sels, len_terms, len_spans, len_sels, hasLL_terms, hasLL_spans, renLL_terms, renLL_spans, leaf_terms, leaf_spans, leaf_sels, norm_sets, len_sets, hasLL_sets, renLL_sets, leaf_sets]) ?_
      have hal := canT_len a
      have hbl := canT_len b
      have has := fun t => canT_set (l := a) (t := t)
      have hbs := fun t => canT_set (l := b) (t := t)
      simp only [foundT, Bool.and_eq_true, decide_eq_true_eq] at hfa hfb
      have hpa := getT_path hfa.2
      have hsa := getT_set q has
      have hsb := getT_set q hbs
      have hmo := meetT_ok (q := q) has hbs
      have hwa := without_len (canT a).1 q
      have hwb := without_len (canT b).1 q
      have hml : (meetT (canT a).1 (canT b).1 q).length ≤ 1000000 := by unfold meetT; simp; omega
      have hmd : meetT (canT a).1 (canT b).1 q = without (canT a).1 q ++ without (canT b).1 q ++ [either (getT (canT a).1 q) (getT (canT b).1 q)] := by
        unfold meetT either
        rw [hpa]
      have hei := f47_pure (getT (canT a).1 q) (getT (canT b).1 q) (by show _ ≤ _; omega) (by show _ ≤ _; omega)
      have hcm := f34_pure (meetT (canT a).1 (canT b).1 q) hml hmo
      have hl2 : (without (canT a).1 q).length + (without (canT b).1 q).length + 1 = (meetT (canT a).1 (canT b).1 q).length := by rw [hmd]; simp; omega
      generalize meetT (canT a).1 (canT b).1 q = MT at *
      generalize either (getT (canT a).1 q) (getT (canT b).1 q) = ei at *
      generalize getT (canT a).1 q = ta at *
      generalize getT (canT b).1 q = tb at *
      generalize without (canT a).1 q = wa at *
      generalize without (canT b).1 q = wb at *
      simp (config := { implicitDefEqProofs := false, decide := true }) only [go_sem, Nat.reduceEqDiff, Nat.reduceAdd, Nat.reduceMul, Nat.reduceSub, Nat.reduceLT, Nat.reduceLeDiff, Nat.reduceBEq, reduceCtorEq, Int.reduceLT, Int.reduceLE, Int.reduceEq, Int.reduceToNat, Int.reduceAdd, Int.reduceSub, Int.reduceMul, Int.reduceNeg, Nat.reduceLT, ↓reduceIte, encTerm, norm_terms, norm_spans, norm_sels, len_terms, len_spans, len_sels, hasLL_terms, hasLL_spans, renLL_terms, renLL_spans, leaf_terms, leaf_spans, leaf_sels, norm_sets, len_sets, hasLL_sets, renLL_sets, leaf_sets]
      refine ⟨by omega, ?_⟩
      refine DC.val hei rfl rfl ?_
      simp (config := { implicitDefEqProofs := false, decide := true }) only [go_sem, Nat.reduceEqDiff, Nat.reduceAdd, Nat.reduceMul, Nat.reduceSub, Nat.reduceLT, Nat.reduceLeDiff, Nat.reduceBEq, reduceCtorEq, Int.reduceLT, Int.reduceLE, Int.reduceEq, Int.reduceToNat, Int.reduceAdd, Int.reduceSub, Int.reduceMul, Int.reduceNeg, Nat.reduceLT, ↓reduceIte, encTerm, norm_terms, norm_spans, norm_sels, len_terms, len_spans, len_sels, hasLL_terms, hasLL_spans, renLL_terms, renLL_spans, leaf_terms, leaf_spans, leaf_sels, norm_sets, len_sets, hasLL_sets, renLL_sets, leaf_sets]
      have eL : List.map encTerm wa ++ List.map encTerm wb ++ [[AV.str ei.path, AV.bool ei.absent, AV.isl Flag.unk (List.map encSpan ei.set)]] = MT.map encTerm := by
        rw [hmd]; simp only [List.map_append, List.map_cons, List.map_nil]; rfl
      refine ⟨by omega, ?_⟩
      rw [eL, hl2]
      refine DC.frz [.isl .unk (MT.map encTerm)] (by simp only [viewL_nil, viewL_cons, viewL0_nil, viewL0_cons, view1_func, view1_agg, view1_sl, view1_ptr, view1_leaf, view0_leaf, view0_sl, view0_ptr, AV.refsL, AV.refs, List.append_nil, List.nil_append, List.cons_append, mkH, ↓reduceIte, List.drop_zero, take_map, drop_map, List.take_length, List.length_map, getD_map_lt, List.getD_cons_zero, List.drop, AV.leafLL, AV.leafL, AV.leaf, List.mem_cons, List.not_mem_nil, or_false, true_or, or_true, Nat.zero_add, Nat.le_refl, and_self, true_and, and_true, Bool.false_eq_true, Bool.and_true, Bool.and_self, if_true, if_false, List.length_cons, List.length_nil, List.take, Nat.reduceAdd, Nat.reduceLeDiff, Nat.reduceLT, Nat.lt_add_one, Nat.zero_le, Nat.reduceEqDiff, norm_terms, norm_spans, norm_sels, len_terms, len_spans, len_sels, hasLL_terms, hasLL_spans, renLL_terms, renLL_spans, leaf_terms, leaf_spans, leaf_sels, norm_sets, len_sets, hasLL_sets, renLL_sets, leaf_sets]) hcm rfl rfl (by simp (config := { implicitDefEqProofs := false, decide := true }) only [go_sem, Nat.reduceEqDiff, Nat.reduceAdd, Nat.reduceMul, Nat.reduceSub, Nat.reduceLT, Nat.reduceLeDiff, Nat.reduceBEq, reduceCtorEq, Int.reduceLT, Int.reduceLE, Int.reduceEq, Int.reduceToNat, Int.reduceAdd, Int.reduceSub, Int.reduceMul, Int.reduceNeg, Nat.reduceLT, ↓reduceIte]) ?_
      generalize canT MT = R at *
      obtain ⟨R, ok⟩ := R
      cases ok <;> simp (config := { implicitDefEqProofs := false, decide := true }) only [go_sem, Nat.reduceEqDiff, Nat.reduceAdd, Nat.reduceMul, Nat.reduceSub, Nat.reduceLT, Nat.reduceLeDiff, Nat.reduceBEq, reduceCtorEq, Int.reduceLT, Int.reduceLE, Int.reduceEq, Int.reduceToNat, Int.reduceAdd, Int.reduceSub, Int.reduceMul, Int.reduceNeg, Nat.reduceLT, ↓reduceIte, hdef, norm_terms, norm_spans, norm_sels, len_terms, len_spans, len_sels, hasLL_terms, hasLL_spans, renLL_terms, renLL_spans, leaf_terms, leaf_spans, leaf_sels, norm_sets, len_sets, hasLL_sets, renLL_sets, leaf_sets]
end
section
open Go.Aw Go.RowKit Go.Sort Go.Shelf
/-! ### Entailed -/
theorem f52_all (p : Tm → Bool) (f : FuncId) (caps : List AV) (hcap : AV.refsL caps = []) (l : List Tm) (hlen : l.length < 4611686018427387904)
    (hp : ∀ x ∈ l, PureP Tryz.prog f (.agg (encTerm x) :: caps) (· = .bool (p x))) : PureP Tryz.prog 52 [.isl .unk (l.map encTerm), .func (.func f) [] caps] (· = .int .i64 (idx p l)) :=
  IndexFunc_pure (P := Tryz.prog) (tS := 29) (tE := 51) (tI := 3) (k := 3) (gE := true) mixed e52 Tryz.func52 (c52_ok.trans rfl) r52 Tryz.ntmps52 t_elem_29 t_size_51 t_agg_51 (by omega) (by simp) encTerm (fun _ => rfl) leaf_term p f caps hcap l .unk hlen hp
theorem f27_all (p : Tm → Bool) (f : FuncId) (caps : List AV) (hcap : AV.refsL caps = []) (l : List Tm) (hlen : l.length < 4611686018427387904)
    (hp : ∀ x ∈ l, PureP Tryz.prog f (.agg (encTerm x) :: caps) (· = .bool (p x))) : PureP Tryz.prog 27 [.isl .unk (l.map encTerm), .func (.func f) [] caps] (· = .bool (l.any p)) :=
  ContainsFunc_pure (P := Tryz.prog) (tS := 29) (tF := 53) (tI := 3) (fI := 52) mixed e27 Tryz.func27 (c27_ok.trans rfl) r27 Tryz.ntmps27 rfl p l (f52_all p f caps hcap l hlen hp)
theorem f23_all (p : Sel → Bool) (f : FuncId) (caps : List AV) (hcap : AV.refsL caps = []) (l : List Sel) (hlen : l.length < 4611686018427387904)
    (hp : ∀ x ∈ l, PureP Tryz.prog f (.agg (encSel x) :: caps) (· = .bool (p x))) : PureP Tryz.prog 23 [.isl .unk (l.map encSel), .func (.func f) [] caps] (· = .bool (l.any p)) :=
  ContainsFunc_pure (P := Tryz.prog) (tS := 39) (tF := 48) (tI := 3) (fI := 56) mixed e23 Tryz.func23 (c23_ok.trans rfl) r23 Tryz.ntmps23 rfl p l (f56_pure p f caps hcap l .unk hlen hp)
theorem f69_pure (y : Sel) (t : Tm) : PureP Tryz.prog 69 [.agg (encSel y), .iptr (encTerm t)] (· = .bool (decide (y.path = t.path))) := by
  refine PureE.run mixed e69 Tryz.func69 c69_ok r69 (by rw [Tryz.ntmps69]; rfl) rfl ?_
  simp (config := { implicitDefEqProofs := false, decide := true }) only [go_sem, Nat.reduceEqDiff, Nat.reduceAdd, Nat.reduceMul, Nat.reduceSub, Nat.reduceLT, Nat.reduceLeDiff, Nat.reduceBEq, reduceCtorEq, Int.reduceLT, Int.reduceLE, Int.reduceEq, Int.reduceToNat, Int.reduceAdd, Int.reduceSub, Int.reduceMul, Int.reduceNeg, Nat.reduceLT, ↓reduceIte, c69, encSel, encTerm, bytes_eq, norm_terms, norm_spans, norm_sels, len_terms, len_spans, len_sels, hasLL_terms, hasLL_spans, renLL_terms, renLL_spans, leaf_terms, leaf_spans, leaf_sels, norm_sets, len_sets, hasLL_sets, renLL_sets, leaf_sets]
def sels (s : List Sel) (t : Tm) : Bool := s.any fun y => decide (y.path = t.path)
theorem f68_pure (s : List Sel) (hs : s.length < 4611686018427387904) (t : Tm) : PureP Tryz.prog 68 [.agg (encTerm t), .iptr [.isl .unk (s.map encSel)]] (· = .bool (!sels s t)) := by
  refine PureE.run mixed e68 Tryz.func68 c68_ok r68 (by rw [Tryz.ntmps68]; rfl) rfl ?_
  simp (config := { implicitDefEqProofs := false, decide := true }) only [go_sem, Nat.reduceEqDiff, Nat.reduceAdd, Nat.reduceMul, Nat.reduceSub, Nat.reduceLT, Nat.reduceLeDiff, Nat.reduceBEq, reduceCtorEq, Int.reduceLT, Int.reduceLE, Int.reduceEq, Int.reduceToNat, Int.reduceAdd, Int.reduceSub, Int.reduceMul, Int.reduceNeg, Nat.reduceLT, ↓reduceIte, c68, encTerm, norm_terms, norm_spans, norm_sels, len_terms, len_spans, len_sels, hasLL_terms, hasLL_spans, renLL_terms, renLL_spans, leaf_terms, leaf_spans, leaf_sels, norm_sets, len_sets, hasLL_sets, renLL_sets, leaf_sets]
  refine LC.frz [.isl .unk (s.map encSel), .func (.func 69) [] [.iptr (encTerm t)]] (by simp only [viewL_nil, viewL_cons, viewL0_nil, viewL0_cons, view1_func, view1_agg, view1_sl, view1_ptr, view1_leaf, view0_leaf, view0_sl, view0_ptr, AV.refsL, AV.refs, List.append_nil, List.nil_append, List.cons_append, mkH, ↓reduceIte, List.drop_zero, take_map, drop_map, List.take_length, List.length_map, getD_map_lt, List.getD_cons_zero, List.drop, AV.leafLL, AV.leafL, AV.leaf, List.mem_cons, List.not_mem_nil, or_false, true_or, or_true, Nat.zero_add, Nat.le_refl, and_self, true_and, and_true, Bool.false_eq_true, Bool.and_true, Bool.and_self, if_true, if_false, List.length_cons, List.length_nil, List.take, Nat.reduceAdd, Nat.reduceLeDiff, Nat.reduceLT, Nat.lt_add_one, Nat.zero_le, Nat.reduceEqDiff, norm_terms, norm_spans, norm_sels, len_terms, len_spans, len_sels, hasLL_terms, hasLL_spans, renLL_terms, renLL_spans, leaf_terms, leaf_spans, leaf_sels, norm_sets, len_sets, hasLL_sets, renLL_sets, leaf_sets, encTerm]; exact view1_self rfl) ?_
  refine LC.val (f23_all (fun y => decide (y.path = t.path)) 69 [.iptr (encTerm t)] rfl s hs (fun y _ => f69_pure y t)) ?_
  simp (config := { implicitDefEqProofs := false, decide := true }) only [go_sem, Nat.reduceEqDiff, Nat.reduceAdd, Nat.reduceMul, Nat.reduceSub, Nat.reduceLT, Nat.reduceLeDiff, Nat.reduceBEq, reduceCtorEq, Int.reduceLT, Int.reduceLE, Int.reduceEq, Int.reduceToNat, Int.reduceAdd, Int.reduceSub, Int.reduceMul, Int.reduceNeg, Nat.reduceLT, ↓reduceIte, sels, norm_terms, norm_spans, norm_sels, len_terms, len_spans, len_sels, hasLL_terms, hasLL_spans, renLL_terms, renLL_spans, leaf_terms, leaf_spans, leaf_sels, norm_sets, len_sets, hasLL_sets, renLL_sets, leaf_sets]
def entailed (l : List Tm) (s : List Sel) : Bool := violated l s && l.all (sels s)
/-- term.Entailed -/
theorem f36_pure (l : List Tm) (s : List Sel) (hl : l.length < 4611686018427387904) (hs : s.length < 4611686018427387904) (hset : ∀ t ∈ l, t.set.length < 4611686018427387904) :
    PureP Tryz.prog 36 [.isl .unk (l.map encTerm), .isl .unk (s.map encSel)] (· = .bool (entailed l s)) := by
  refine PureE.run mixed e36 Tryz.func36 c36_ok r36 (by rw [Tryz.ntmps36]; rfl) rfl ?_
  simp (config := { implicitDefEqProofs := false, decide := true }) only [go_sem, Nat.reduceEqDiff, Nat.reduceAdd, Nat.reduceMul, Nat.reduceSub, Nat.reduceLT, Nat.reduceLeDiff, Nat.reduceBEq, reduceCtorEq, Int.reduceLT, Int.reduceLE, Int.reduceEq, Int.reduceToNat, Int.reduceAdd, Int.reduceSub, Int.reduceMul, Int.reduceNeg, Nat.reduceLT, ↓reduceIte, c36, norm_terms, norm_spans, norm_sels, len_terms, len_spans, len_sels, hasLL_terms, hasLL_spans, renLL_terms, renLL_spans, leaf_terms, leaf_spans, leaf_sels, norm_sets, len_sets, hasLL_sets, renLL_sets, leaf_sets]
  refine LC.val (f22_pure l .unk s .unk hl hs hset) ?_
  have hall : (l.any fun t => !sels s t) = !l.all (sels s) := by rw [List.all_eq_not_any_not, Bool.not_not]
  cases hv : violated l s with
  | false => simp (config := { implicitDefEqProofs := false, decide := true }) only [go_sem, Nat.reduceEqDiff, Nat.reduceAdd, Nat.reduceMul, Nat.reduceSub, Nat.reduceLT, Nat.reduceLeDiff, Nat.reduceBEq, reduceCtorEq, Int.reduceLT, Int.reduceLE, Int.reduceEq, Int.reduceToNat, Int.reduceAdd, Int.reduceSub, Int.reduceMul, Int.reduceNeg, Nat.reduceLT, ↓reduceIte, hv, entailed, norm_terms, norm_spans, norm_sels, len_terms, len_spans, len_sels, hasLL_terms, hasLL_spans, renLL_terms, renLL_spans, leaf_terms, leaf_spans, leaf_sels, norm_sets, len_sets, hasLL_sets, renLL_sets, leaf_sets]
  | true =>
    simp (config := { implicitDefEqProofs := false, decide := true }) only [go_sem, Nat.reduceEqDiff, Nat.reduceAdd, Nat.reduceMul, Nat.reduceSub, Nat.reduceLT, Nat.reduceLeDiff, Nat.reduceBEq, reduceCtorEq, Int.reduceLT, Int.reduceLE, Int.reduceEq, Int.reduceToNat, Int.reduceAdd, Int.reduceSub, Int.reduceMul, Int.reduceNeg, Nat.reduceLT, ↓reduceIte, hv, norm_terms, norm_spans, norm_sels, len_terms, len_spans, len_sels, hasLL_terms, hasLL_spans, renLL_terms, renLL_spans, leaf_terms, leaf_spans, leaf_sels, norm_sets, len_sets, hasLL_sets, renLL_sets, leaf_sets]
    refine LC.frz [.isl .unk (l.map encTerm), .func (.func 68) [] [.iptr [.isl .unk (s.map encSel)]]] (by simp only [viewL_nil, viewL_cons, viewL0_nil, viewL0_cons, view1_func, view1_agg, view1_sl, view1_ptr, view1_leaf, view0_leaf, view0_sl, view0_ptr, AV.refsL, AV.refs, List.append_nil, List.nil_append, List.cons_append, mkH, ↓reduceIte, List.drop_zero, take_map, drop_map, List.take_length, List.length_map, getD_map_lt, List.getD_cons_zero, List.drop, AV.leafLL, AV.leafL, AV.leaf, List.mem_cons, List.not_mem_nil, or_false, true_or, or_true, Nat.zero_add, Nat.le_refl, and_self, true_and, and_true, Bool.false_eq_true, Bool.and_true, Bool.and_self, if_true, if_false, List.length_cons, List.length_nil, List.take, Nat.reduceAdd, Nat.reduceLeDiff, Nat.reduceLT, Nat.lt_add_one, Nat.zero_le, Nat.reduceEqDiff, norm_terms, norm_spans, norm_sels, len_terms, len_spans, len_sels, hasLL_terms, hasLL_spans, renLL_terms, renLL_spans, leaf_terms, leaf_spans, leaf_sels, norm_sets, len_sets, hasLL_sets, renLL_sets, leaf_sets]; exact view1_self rfl) ?_
    refine LC.val (f27_all (fun t => !sels s t) 68 [.iptr [.isl .unk (s.map encSel)]] rfl l hl (fun t _ => f68_pure s hs t)) ?_
    simp (config := { implicitDefEqProofs := false, decide := true }) only [go_sem, Nat.reduceEqDiff, Nat.reduceAdd, Nat.reduceMul, Nat.reduceSub, Nat.reduceLT, Nat.reduceLeDiff, Nat.reduceBEq, reduceCtorEq, Int.reduceLT, Int.reduceLE, Int.reduceEq, Int.reduceToNat, Int.reduceAdd, Int.reduceSub, Int.reduceMul, Int.reduceNeg, Nat.reduceLT, ↓reduceIte, hv, entailed, hall, Bool.not_not, norm_terms, norm_spans, norm_sels, len_terms, len_spans, len_sels, hasLL_terms, hasLL_spans, renLL_terms, renLL_spans, leaf_terms, leaf_spans, leaf_sels, norm_sets, len_sets, hasLL_sets, renLL_sets, leaf_sets]
end
section
open Go.Aw Go.RowKit Go.Sort Go.Shelf
/-! ### Canonical at small lists -/
theorem vals_one (x : Tm) : vals [x] = [cano x] := by
  simp [vals, merged, mstepT, gput, gfind, gget, both_self]
theorem vals_two (x y : Tm) (h : ¬ y.path = x.path) : vals [x, y] = [cano x, cano y] := by
  simp [vals, merged, mstepT, gput, gfind, gget, both_self, h]
theorem byPath_nodup {r : List Tm} (h : byPath r) : (r.map (·.path)).Nodup := by
  refine List.pairwise_map.2 (h.imp fun {a b} q e => ?_)
  rw [e] at q
  simp [ltB_irrefl] at q
theorem sortT_id {r : List Tm} (h : byPath r) : sortT r = r := byPath_uniq (sortT_by (byPath_nodup h)) h fun t => (sortT_perm r).mem_iff
theorem canT_eq {l v r : List Tm} (hv : vals l = v) (hn : v.any Tm.never = false) (hr : v.filter (fun t => !t.always) = r) (hb : byPath r) : canT l = (r, true) := by
  unfold canT
  rw [hv, hn, if_neg (by simp), hr, sortT_id hb]
theorem canon_id {s : Sp} (h : Canon s) : canonOf (has s) = s := canonOf_eq h fun _ => rfl
def pA : ByteArray := ⟨#[97, 47, 118, 49]⟩
def pB : ByteArray := ⟨#[98, 47, 118, 49]⟩
theorem ab : ltB pA pB = true := by decide
theorem c_01 : Canon [(0, 1)] := ⟨by simp [okS], by simp⟩
theorem c_02000 : Canon [(0, 2000)] := ⟨by simp [okS], by simp⟩
theorem c_all : Canon [(0, 1000000)] := ⟨by simp [okS], by simp⟩
theorem c_nil : Canon [] := ⟨by simp, .nil⟩
theorem c_gap : Canon [(1, 1000), (1001, 1000000)] := ⟨by simp [okS], by simp⟩
theorem cm_2000 : canonOf (cmpl [(2000, 1000000)]) = [(0, 2000)] := canonOf_eq c_02000 fun p => by
  simp only [has, cmpl, List.any_cons, List.any_nil, Bool.or_false, inSpan]
  rw [Bool.eq_iff_iff]
  simp only [Bool.and_eq_true, Bool.not_eq_true', decide_eq_true_eq, Bool.and_eq_false_iff, decide_eq_false_iff_not]
  omega
theorem cm_all : canonOf (cmpl [(0, 1000000)]) = [] := canonOf_eq c_nil fun p => by
  simp only [has, cmpl, List.any_cons, List.any_nil, Bool.or_false, inSpan]
  rw [Bool.eq_iff_iff]
  simp only [Bool.and_eq_true, Bool.not_eq_true', decide_eq_true_eq, Bool.and_eq_false_iff, decide_eq_false_iff_not]
  constructor
  · rintro ⟨_, q⟩; cases q
  · rintro ⟨_, q⟩; omega
theorem cm_nil : canonOf (cmpl []) = [(0, 1000000)] := canonOf_eq c_all fun p => by
  simp only [has, cmpl, List.any_cons, List.any_nil, Bool.or_false, inSpan]
  rw [Bool.eq_iff_iff]
  simp
theorem cm_two : canonOf (cmpl [(0, 1), (1000, 1001)]) = [(1, 1000), (1001, 1000000)] := canonOf_eq c_gap fun p => by
  simp only [has, cmpl, List.any_cons, List.any_nil, Bool.or_false, inSpan]
  rw [Bool.eq_iff_iff]
  simp only [Bool.and_eq_true, Bool.or_eq_true, Bool.not_eq_true', decide_eq_true_eq, Bool.and_eq_false_iff, Bool.or_eq_false_iff, decide_eq_false_iff_not]
  omega
theorem un_all : canonOf (uni [[(0, 2000)], [(1, 1000), (1001, 1000000)]]) = [(0, 1000000)] := canonOf_eq c_all fun p => by
  simp only [has, uni, List.any_cons, List.any_nil, Bool.or_false, inSpan]
  rw [Bool.eq_iff_iff]
  simp only [Bool.and_eq_true, Bool.or_eq_true, decide_eq_true_eq]
  omega
def tA : Tm := ⟨pA, false, [(0, 1)]⟩
def tB : Tm := ⟨pB, true, [(0, 2000)]⟩
def tG : Tm := ⟨pB, false, [(1, 1000), (1001, 1000000)]⟩
theorem cano_A : cano tA = tA := by simp only [cano, tA, canon_id c_01]
theorem cano_B : cano tB = tB := by simp only [cano, tB, canon_id c_02000]
theorem cano_G : cano tG = tG := by simp only [cano, tG, canon_id c_gap]
theorem n_A : tA.never = false := by simp [Tm.never, tA, canon_id c_01]
theorem a_A : tA.always = false := by simp [Tm.always, tA]
theorem n_B : tB.never = false := by simp [Tm.never, tB]
theorem a_B : tB.always = false := by
  have h : canonOf (cmpl [(0, 2000)]) = [(2000, 1000000)] := canonOf_eq ⟨by simp [okS], by simp⟩ fun p => by
    simp only [has, cmpl, List.any_cons, List.any_nil, Bool.or_false, inSpan]
    rw [Bool.eq_iff_iff]
    simp only [Bool.and_eq_true, Bool.not_eq_true', decide_eq_true_eq, Bool.and_eq_false_iff, decide_eq_false_iff_not]
    omega
  simp [Tm.always, tB, h]
theorem n_G : tG.never = false := by simp [Tm.never, tG, canon_id c_gap]
theorem a_G : tG.always = false := by simp [Tm.always, tG]
theorem can_AB : canT [tA, tB] = ([tA, tB], true) :=
  canT_eq (vals_two tA tB (by decide)) (by simp [cano_A, cano_B, n_A, n_B]) (by simp [cano_A, cano_B, a_A, a_B]) (by simp [byPath]; exact ab)
theorem can_G : canT [tG] = ([tG], true) :=
  canT_eq (vals_one tG) (by simp [cano_G, n_G]) (by simp [cano_G, a_G]) (by simp [byPath])
theorem can_A : canT [tA] = ([tA], true) :=
  canT_eq (vals_one tA) (by simp [cano_A, n_A]) (by simp [cano_A, a_A]) (by simp [byPath])
def tAll : Tm := ⟨pB, true, [(0, 1000000)]⟩
theorem cano_All : cano tAll = tAll := by simp only [cano, tAll, canon_id c_all]
theorem n_All : tAll.never = false := by simp [Tm.never, tAll]
theorem a_All : tAll.always = true := by simp [Tm.always, tAll, cm_all]
theorem can_AAll : canT [tA, tAll] = ([tA], true) :=
  canT_eq (vals_two tA tAll (by decide)) (by simp [cano_A, cano_All, n_A, n_All]) (by simp [cano_A, cano_All, a_A, a_All]) (by simp [byPath])
def tN : Tm := ⟨pA, true, []⟩
theorem cano_N : cano tN = tN := by simp only [cano, tN, canon_id c_nil]
theorem n_N : tN.never = false := by simp [Tm.never, tN]
theorem a_N : tN.always = false := by simp [Tm.always, tN, cm_nil]
theorem can_N : canT [tN] = ([tN], true) :=
  canT_eq (vals_one tN) (by simp [cano_N, n_N]) (by simp [cano_N, a_N]) (by simp [byPath])
theorem pos_AB : posT [tA, tB] pB = 1 := by decide
theorem pos_G : posT [tG] pB = 0 := by decide
theorem wo_AB : without [tA, tB] pB = [tA] := by
  simp [without, tA, tB, show ¬ (pA = pB) by decide]
theorem wo_G : without [tG] pB = [] := by
  simp [without, tG]
theorem meet_AB : meetT [tA, tB] [tG] pB = [tA, tAll] := by
  have h1 : getT [tA, tB] pB = tB := by simp [getT, pos_AB]
  have h2 : getT [tG] pB = tG := by simp [getT, pos_G]
  unfold meetT
  rw [wo_AB, wo_G, h1, h2]
  show [tA] ++ [] ++ [⟨pB, true || false, canonOf (uni [[(0, 2000)], [(1, 1000), (1001, 1000000)]])⟩] = [tA, tAll]
  rw [un_all]; rfl
theorem res_AB : resT [tA, tB] [tG] pB = ([tA], 0) := by
  unfold resT
  rw [can_AB, can_G]
  simp only [pos_AB, pos_G, meet_AB, can_AAll]
  simp
theorem out_B : outside ⟨pB, [(2000, 1000000)]⟩ = tB := by simp only [outside, cm_2000, tB]
theorem out_A : outside ⟨pA, [(0, 1000000)]⟩ = tN := by simp only [outside, cm_all, tN]
theorem subs_A : subsT [tA] [tA, tB] = true := by
  unfold subsT
  rw [can_A, can_AB]
  have hp : posT [tA, tB] tA.path = 0 := by decide
  have hs : subs [(0, 1)] [(0, 1)] = true := by
    have : canonOf (minus [(0, 1)] [(0, 1)]) = [] := canonOf_eq c_nil fun p => by
      simp [minus, has]
    simp [subs, this]
  have h1 : subs1 [tA, tB] tA = true := by
    unfold subs1
    rw [hp]
    show (decide (0 < 2) && (!(tA.absent && !tA.absent) && subs [(0, 1)] [(0, 1)])) = true
    rw [hs]; rfl
  simp [h1]
end
end Go.Proofs.YtbjhhaklecljdaaGreat
