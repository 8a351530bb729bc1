/-
  The row.
-/
import Derived.Test.YtbjhhaklecljdaaGreatS3
import Derived.Test.YtbjhhaklecljdaaGreatTN
set_option linter.unusedVariables false
set_option linter.unusedSimpArgs false
set_option maxRecDepth 20000
namespace Go.Proofs.YtbjhhaklecljdaaGreat
open Go.Aw Go.RowKit Go.Sort Go.Shelf
attribute [local go_sem] X_skip X_ops X_dops X_seq X_cond X_block X_loop X_exit X_ret LR_nil LR_cons LR_guard LS_def LD_nil LD_cons LD_guard DO_def ite_imp W_pure W_fail W_guard W_get W_put W_new W_del callee aop rho mkE mkH putE remK AM.lwp aload astore aindex aslice Aw.intOf abuild abuildSlice aparts abuiltin abin abinT abits aeqs anil asrc aappend aappendTo partOf splice AV.cells ofValue ofScalar FreshL noRefE noRefH AV.has AV.hasL AV.hasLL AObj.has AV.leaf AV.leafL AV.leafLL lenAll_nil lenAll_cons lenAll_app someArr noneArr sub_toNat take_map drop_map take_drop_len aw_wrap1 one_add len_take set_snoc getD_snoc List.length_singleton take_ge Nat.add_sub_of_le List.take_length take_len_app Int.sub_zero List.length_drop Nat.sub_zero aclear aclearB isClear withMap alookup aupdate arange aentry adelete setEntry findK sameK keyOk keysOk sameL lnext footD opRefs wrOf wrRefs headRefs isW quietB items freshN Op.operands Call.operands AV.refs AV.refsL keepL keepH argE finP finE finO finC sealN0 sealNL0 sealNA sealNL1 sealN1 getD_map_lt nat_nonneg nat_neg cast_lt cast_le zero_lt_cast cast_le_zero cast_eq_zero zero_eq_cast Nat.succ_ne_zero Nat.add_one_ne_zero Int.toNat_natCast lresL retVal seal0 seal1 sealL0 sealA sealL1 List.map List.append List.cons_append List.nil_append List.flatMap_cons List.flatMap_nil List.getD_cons_zero List.getD_cons_succ List.length_cons List.length_nil List.take List.drop List.set List.mem_cons List.not_mem_nil List.toList_toArray List.map_cons List.map_nil Option.map_some Option.map_none if_true if_false ite_true ite_false true_and and_true not_false_eq_true not_true_eq_false implies_true forall_const Bool.false_eq_true decide_true decide_false eq_self and_self false_and and_false or_self or_true true_or or_false false_or ne_eq Nat.zero_add Nat.add_zero Bool.or_false Bool.false_or Option.isSome_some imp_self false_implies forall_const Int.cast_ofNat_Int decide_eq_true_eq decide_eq_false_iff_not Bool.not_true Bool.not_false Bool.true_eq_false Bool.false_eq_true Nat.sub_self AV.int.injEq AV.bool.injEq AV.str.injEq AV.tup.injEq AV.agg.injEq AV.isl.injEq cond_true cond_false pick_bool pick_int arr1_0 arr2_0 arr2_1 arr1_size arr2_size Nat.lt_add_one Nat.zero_lt_succ Nat.zero_lt_one Option.isSome_none Bool.and_true Bool.true_and Bool.false_and Bool.and_false remKs rep0 rep1 rep2 rep3 rep4 rep5 rep6 rep7 rep8 List.getLast?_concat renP_app hasP_app Array.toList_append hasLL_app renLL_app leafLL_app take_all forall_eq List.length_map List.length_append Nat.le_refl List.take_zero List.drop_zero Nat.lt_irrefl List.map_append
attribute [local go_sem] t_agg_23 t_agg_25 t_agg_3 t_agg_39 t_agg_4 t_agg_43 t_agg_45 t_agg_51 t_agg_65 t_agg_78 t_agg_9 t_agg_94 t_bytes_23 t_bytes_3 t_bytes_45 t_bytes_51 t_bytes_65 t_elem_100 t_elem_101 t_elem_23 t_elem_28 t_elem_29 t_elem_3 t_elem_39 t_elem_78 t_elem_9 t_eq_29 t_eq_3 t_eq_35 t_eq_4 t_eq_65 t_eq_9 t_field_25_0 t_field_25_1 t_field_43_0 t_field_43_1 t_field_43_2 t_field_45_0 t_field_45_1 t_field_51_0 t_field_51_1 t_field_51_2 t_field_65_0 t_field_65_1 t_fok_25 t_fok_43 t_fok_45 t_fok_51 t_fok_65 t_kind_100 t_kind_101 t_kind_23 t_kind_25 t_kind_28 t_kind_29 t_kind_3 t_kind_39 t_kind_43 t_kind_45 t_kind_51 t_kind_55 t_kind_65 t_kind_78 t_kind_9 t_kind_94 t_kind_99 t_map_100 t_map_101 t_map_23 t_map_28 t_map_29 t_map_3 t_map_39 t_map_56 t_map_78 t_map_85 t_map_9 t_nil_29 t_nil_3 t_nil_35 t_nil_4 t_nil_65 t_nil_9 t_size_23 t_size_25 t_size_3 t_size_39 t_size_4 t_size_43 t_size_45 t_size_51 t_size_65 t_size_78 t_size_9 t_size_94 t_zeroV_3 t_zeroV_51 t_zero_23 t_zero_25 t_zero_3 t_zero_43 t_zero_45 t_zero_51 t_zero_65 t_zero_94
section
open Go.Aw Go.RowKit Go.Sort Go.Shelf Go.Deep Go.ChangeShapes Go.WideShapes Go.ChangeAt
theorem lifted5 (os : Os) (started : os.Started) (H : Type) (enc : TypeId × Value → H) :
    ReturnsInHanded {} Tryz.checked os 5 .any (Rows.termImpliedSpec.pre6 enc Tryz.prog Tryz.f5 Rows.termImpliedRow.domain false) (Rows.termImpliedSpec.post enc Tryz.prog Tryz.f5 false true false false) := by
  refine lifted_true (C := Tryz.checked) (tb := 4) own started (by kernel_rfl) Tryz.func5 rfl (fun ds hds => ?_) laidOut (by kernel_rfl) (by kernel_rfl) Tryz.underlying4
    (ChangeSpec.witness6 (enc := enc) (C := Tryz.checked) false ⟨#[], #[.slice none 0 0, .slice none 0 0, .string ByteArray.empty, .slice none 0 0], []⟩ 8 (by kernel_rfl) (by kernel_rfl) (by kernel_rfl) (by kernel_rfl)) ?_
  · have hp : Tryz.f5.params.size = 4 := by rw [show Tryz.f5.params.size = Tryz.f5.params.toList.length from rfl, Tryz.params5]; rfl
    rw [hp] at hds
    match ds, hds with
    | [_, _, _, _], _ => exact ⟨rfl, rfl, rfl⟩
  intro W base args ds p hval0 hA0 hsz
  have hval : ∀ (j : Nat) t v, Tryz.f5.params[j]? = some t → args[j]? = some v → Value.okWide Tryz.prog W .any base t v := hval0
  have hA : DataW.TrodAll enc Tryz.prog W 0 (fun _ => true) true Tryz.f5.params.toList args.toList ds p := hA0
  change (DataW.weightsEach Tryz.prog Tryz.f5.params.toList ds).all (· ≤ reachBytes) = true at hsz
  rw [Tryz.params5] at hA hval hsz
  obtain ⟨v0, v1, v2, v3, d0, d1, d2, d3, p0, p1, p2, p3, rfl, rfl, rfl, h0, h1, h2, h3⟩ := trodAll_four hA
  obtain ⟨a0, r0, n0⟩ := arg_terms (j := 0) (hval 0 29 v0 rfl rfl) h0 hsz rfl rfl
  obtain ⟨a1, r1, n1⟩ := arg_terms (j := 1) (hval 1 29 v1 rfl rfl) h1 hsz rfl rfl
  obtain ⟨a2, r2, n2⟩ := arg_str Tryz.underlying9 (hval 2 9 v2 rfl rfl) h2
  obtain ⟨a3, r3, n3⟩ := arg_sels (j := 3) (hval 3 39 v3 rfl rfl) h3 hsz rfl rfl
  refine ⟨[.isl .unk (a0.map encTerm), .isl .unk (a1.map encTerm), .str a2, .isl .unk (a3.map encSel)], rfl, fun m q1 q2 => ?_, f5_pure a0 a1 a2 a3 n0 n1 n3⟩
  match m, q1 with
  | 0, _ => exact r0
  | 1, _ => exact r1
  | 2, _ => exact r2
  | 3, _ => exact r3
theorem proved5 : Rows.TermImpliedSaid :=
  OpenClaim.holds_of_wide 5 Tryz.f5 rfl rfl rfl rfl rfl rfl rfl ⟨rfl, rfl, rfl, rfl, rfl⟩ rfl rfl rfl rfl rfl (by kernel_rfl) Tryz.func5 (by kernel_rfl)
    (of_decide_eq_true (by kernel_rfl)) (by unfold Func.isWrapper; first | (rw [if_pos (by decide +kernel)]; kernel_rfl) | (rw [if_neg (by decide +kernel)]; exact ⟨rfl, rfl⟩))
    (fun os started H enc _ => lifted5 os started H enc)
end
end Go.Proofs.YtbjhhaklecljdaaGreat
