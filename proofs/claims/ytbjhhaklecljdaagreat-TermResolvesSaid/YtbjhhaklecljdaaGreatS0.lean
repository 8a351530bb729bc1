/-
  Contracts of the functions of this seat.
-/
import Derived.Test.YtbjhhaklecljdaaGreatC0
import Derived.Test.YtbjhhaklecljdaaGreatA2
import Derived.Test.YtbjhhaklecljdaaGreatL0
set_option linter.unusedVariables false
set_option linter.unusedSimpArgs false
set_option maxRecDepth 20000
namespace Go.Proofs.YtbjhhaklecljdaaGreat
open Go.Aw Go.RowKit Go.Sort Go.Shelf
attribute [local go_sem] X_skip X_ops X_dops X_seq X_cond X_block X_loop X_exit X_ret LR_nil LR_cons LR_guard LS_def LD_nil LD_cons LD_guard DO_def ite_imp W_pure W_fail W_guard W_get W_put W_new W_del callee aop rho mkE mkH putE remK AM.lwp aload astore aindex aslice Aw.intOf abuild abuildSlice aparts abuiltin abin abinT abits aeqs anil asrc aappend aappendTo partOf splice AV.cells ofValue ofScalar FreshL noRefE noRefH AV.has AV.hasL AV.hasLL AObj.has AV.leaf AV.leafL AV.leafLL lenAll_nil lenAll_cons lenAll_app someArr noneArr sub_toNat take_map drop_map take_drop_len aw_wrap1 one_add len_take set_snoc getD_snoc List.length_singleton take_ge Nat.add_sub_of_le List.take_length take_len_app Int.sub_zero List.length_drop Nat.sub_zero aclear aclearB isClear withMap alookup aupdate arange aentry adelete setEntry findK sameK keyOk keysOk sameL lnext footD opRefs wrOf wrRefs headRefs isW quietB items freshN Op.operands Call.operands AV.refs AV.refsL keepL keepH argE finP finE finO finC sealN0 sealNL0 sealNA sealNL1 sealN1 getD_map_lt nat_nonneg nat_neg cast_lt cast_le zero_lt_cast cast_le_zero cast_eq_zero zero_eq_cast Nat.succ_ne_zero Nat.add_one_ne_zero Int.toNat_natCast lresL retVal seal0 seal1 sealL0 sealA sealL1 List.map List.append List.cons_append List.nil_append List.flatMap_cons List.flatMap_nil List.getD_cons_zero List.getD_cons_succ List.length_cons List.length_nil List.take List.drop List.set List.mem_cons List.not_mem_nil List.toList_toArray List.map_cons List.map_nil Option.map_some Option.map_none if_true if_false ite_true ite_false true_and and_true not_false_eq_true not_true_eq_false implies_true forall_const Bool.false_eq_true decide_true decide_false eq_self and_self false_and and_false or_self or_true true_or or_false false_or ne_eq Nat.zero_add Nat.add_zero Bool.or_false Bool.false_or Option.isSome_some imp_self false_implies forall_const Int.cast_ofNat_Int decide_eq_true_eq decide_eq_false_iff_not Bool.not_true Bool.not_false Bool.true_eq_false Bool.false_eq_true Nat.sub_self AV.int.injEq AV.bool.injEq AV.str.injEq AV.tup.injEq AV.agg.injEq AV.isl.injEq cond_true cond_false pick_bool pick_int arr1_0 arr2_0 arr2_1 arr1_size arr2_size Nat.lt_add_one Nat.zero_lt_succ Nat.zero_lt_one Option.isSome_none Bool.and_true Bool.true_and Bool.false_and Bool.and_false remKs rep0 rep1 rep2 rep3 rep4 rep5 rep6 rep7 rep8 List.getLast?_concat renP_app hasP_app Array.toList_append hasLL_app renLL_app leafLL_app take_all forall_eq List.length_map List.length_append Nat.le_refl List.take_zero List.drop_zero Nat.lt_irrefl List.map_append
attribute [local go_sem] t_agg_23 t_agg_25 t_agg_3 t_agg_39 t_agg_4 t_agg_43 t_agg_45 t_agg_51 t_agg_65 t_agg_78 t_agg_9 t_agg_94 t_bytes_23 t_bytes_3 t_bytes_45 t_bytes_51 t_bytes_65 t_elem_100 t_elem_101 t_elem_23 t_elem_28 t_elem_29 t_elem_3 t_elem_39 t_elem_78 t_elem_9 t_eq_29 t_eq_3 t_eq_35 t_eq_4 t_eq_65 t_eq_9 t_field_25_0 t_field_25_1 t_field_43_0 t_field_43_1 t_field_43_2 t_field_45_0 t_field_45_1 t_field_51_0 t_field_51_1 t_field_51_2 t_field_65_0 t_field_65_1 t_fok_25 t_fok_43 t_fok_45 t_fok_51 t_fok_65 t_kind_100 t_kind_101 t_kind_23 t_kind_25 t_kind_28 t_kind_29 t_kind_3 t_kind_39 t_kind_43 t_kind_45 t_kind_51 t_kind_55 t_kind_65 t_kind_78 t_kind_9 t_kind_94 t_kind_99 t_map_100 t_map_101 t_map_23 t_map_28 t_map_29 t_map_3 t_map_39 t_map_56 t_map_78 t_map_85 t_map_9 t_nil_29 t_nil_3 t_nil_35 t_nil_4 t_nil_65 t_nil_9 t_size_23 t_size_25 t_size_3 t_size_39 t_size_4 t_size_43 t_size_45 t_size_51 t_size_65 t_size_78 t_size_9 t_size_94 t_zeroV_3 t_zeroV_51 t_zero_23 t_zero_25 t_zero_3 t_zero_43 t_zero_45 t_zero_51 t_zero_65 t_zero_94
section
open Go.Aw Go.RowKit
/-- version.parts -/
theorem f80_pure (a b c : Int) : PureP Tryz.prog 80 [.agg [.int .i64 a, .int .i64 b, .int .i64 c]] (· = .agg [.int .i64 a, .int .i64 b, .int .i64 c]) := by
  refine PureE.run mixed e80 Tryz.func80 c80_ok r80 (by rw [Tryz.ntmps80]; rfl) rfl ?_
  simp (config := { implicitDefEqProofs := false, decide := true }) only [go_sem, Nat.reduceEqDiff, Nat.reduceAdd, Nat.reduceMul, Nat.reduceSub, Nat.reduceLT, Nat.reduceLeDiff, Nat.reduceBEq, reduceCtorEq, Int.reduceLT, Int.reduceLE, Int.reduceEq, Int.reduceToNat, Int.reduceAdd, Int.reduceSub, Int.reduceMul, Int.reduceNeg, Nat.reduceLT, ↓reduceIte, c80]

theorem w1 : IntKind.i64.wrap 1 = 1 := by decide
theorem w2 : IntKind.i64.wrap 2 = 2 := by decide
theorem w3 : IntKind.i64.wrap 3 = 3 := by decide
def okV (a b c : Int) : Bool := decide (0 ≤ a) && decide (a ≤ 999) && (decide (0 ≤ b) && decide (b ≤ 999)) && (decide (0 ≤ c) && decide (c ≤ 999))
set_option maxRecDepth 20000 in
/-- version.Valid -/
theorem f57_pure (a b c : Int) : PureP Tryz.prog 57 [.agg [.int .i64 a, .int .i64 b, .int .i64 c]] (· = .bool (okV a b c)) := by
  refine PureE.run mixed e57 Tryz.func57 c57_ok r57 (by rw [Tryz.ntmps57]; rfl) rfl ?_
  simp (config := { implicitDefEqProofs := false, decide := true }) only [go_sem, Nat.reduceEqDiff, Nat.reduceAdd, Nat.reduceMul, Nat.reduceSub, Nat.reduceLT, Nat.reduceLeDiff, Nat.reduceBEq, reduceCtorEq, Int.reduceLT, Int.reduceLE, Int.reduceEq, Int.reduceToNat, Int.reduceAdd, Int.reduceSub, Int.reduceMul, Int.reduceNeg, Nat.reduceLT, ↓reduceIte, c57]
  refine LC.val (f80_pure a b c) ?_
  simp (config := { implicitDefEqProofs := false, decide := true }) only [go_sem, Nat.reduceEqDiff, Nat.reduceAdd, Nat.reduceMul, Nat.reduceSub, Nat.reduceLT, Nat.reduceLeDiff, Nat.reduceBEq, reduceCtorEq, Int.reduceLT, Int.reduceLE, Int.reduceEq, Int.reduceToNat, Int.reduceAdd, Int.reduceSub, Int.reduceMul, Int.reduceNeg, Nat.reduceLT, ↓reduceIte]
  refine LL.unroll 4 mixed ?_
  by_cases h1 : a < 0 <;> by_cases h2 : 999 < a <;> simp (config := { implicitDefEqProofs := false, decide := true }) only [go_sem, Nat.reduceEqDiff, Nat.reduceAdd, Nat.reduceMul, Nat.reduceSub, Nat.reduceLT, Nat.reduceLeDiff, Nat.reduceBEq, reduceCtorEq, Int.reduceLT, Int.reduceLE, Int.reduceEq, Int.reduceToNat, Int.reduceAdd, Int.reduceSub, Int.reduceMul, Int.reduceNeg, Nat.reduceLT, ↓reduceIte, LU.unroll (n := 3), c57_L0, w1, w2, w3, h1, h2]
  iterate 3 (simp [okV]; omega)
  by_cases h3 : b < 0 <;> by_cases h4 : 999 < b <;> simp (config := { implicitDefEqProofs := false, decide := true }) only [go_sem, Nat.reduceEqDiff, Nat.reduceAdd, Nat.reduceMul, Nat.reduceSub, Nat.reduceLT, Nat.reduceLeDiff, Nat.reduceBEq, reduceCtorEq, Int.reduceLT, Int.reduceLE, Int.reduceEq, Int.reduceToNat, Int.reduceAdd, Int.reduceSub, Int.reduceMul, Int.reduceNeg, Nat.reduceLT, ↓reduceIte, LU.unroll (n := 2), c57_L0, w1, w2, w3, h3, h4]
  iterate 3 (simp [okV]; omega)
  by_cases h5 : c < 0 <;> by_cases h6 : 999 < c <;> simp (config := { implicitDefEqProofs := false, decide := true }) only [go_sem, Nat.reduceEqDiff, Nat.reduceAdd, Nat.reduceMul, Nat.reduceSub, Nat.reduceLT, Nat.reduceLeDiff, Nat.reduceBEq, reduceCtorEq, Int.reduceLT, Int.reduceLE, Int.reduceEq, Int.reduceToNat, Int.reduceAdd, Int.reduceSub, Int.reduceMul, Int.reduceNeg, Nat.reduceLT, ↓reduceIte, LU.unroll (n := 1), c57_L0, w1, w2, w3, h5, h6]
  iterate 3 (simp [okV]; omega)
  simp (config := { implicitDefEqProofs := false, decide := true }) only [go_sem, Nat.reduceEqDiff, Nat.reduceAdd, Nat.reduceMul, Nat.reduceSub, Nat.reduceLT, Nat.reduceLeDiff, Nat.reduceBEq, reduceCtorEq, Int.reduceLT, Int.reduceLE, Int.reduceEq, Int.reduceToNat, Int.reduceAdd, Int.reduceSub, Int.reduceMul, Int.reduceNeg, Nat.reduceLT, ↓reduceIte, LU.unroll (n := 0), c57_L0]
  simp [okV]; omega

/-- constraint.Place -/
theorem f25_pure (a b c : Int) : PureP Tryz.prog 25 [.agg [.int .i64 a, .int .i64 b, .int .i64 c]] (· = if okV a b c then .tup [.int .i64 (1000 * b + c), .int .i64 0] else .tup [.int .i64 0, .int .i64 2]) := by
  refine PureE.run mixed e25 Tryz.func25 c25_ok r25 (by rw [Tryz.ntmps25]; rfl) (by split <;> rfl) ?_
  simp (config := { implicitDefEqProofs := false, decide := true }) only [go_sem, Nat.reduceEqDiff, Nat.reduceAdd, Nat.reduceMul, Nat.reduceSub, Nat.reduceLT, Nat.reduceLeDiff, Nat.reduceBEq, reduceCtorEq, Int.reduceLT, Int.reduceLE, Int.reduceEq, Int.reduceToNat, Int.reduceAdd, Int.reduceSub, Int.reduceMul, Int.reduceNeg, Nat.reduceLT, ↓reduceIte, c25]
  refine LC.val (f57_pure a b c) ?_
  have hk : IntKind.i64.wrap (1000 * b) = 1000 * b ∧ IntKind.i64.wrap (1000 * b + c) = 1000 * b + c ∨ okV a b c = false := by
    cases hv : okV a b c with
    | false => exact .inr rfl
    | true =>
      simp [okV] at hv
      exact .inl ⟨wrap_i64 (by omega) (by omega), wrap_i64 (by omega) (by omega)⟩
  cases hv : okV a b c with
  | false => simp (config := { implicitDefEqProofs := false, decide := true }) only [go_sem, Nat.reduceEqDiff, Nat.reduceAdd, Nat.reduceMul, Nat.reduceSub, Nat.reduceLT, Nat.reduceLeDiff, Nat.reduceBEq, reduceCtorEq, Int.reduceLT, Int.reduceLE, Int.reduceEq, Int.reduceToNat, Int.reduceAdd, Int.reduceSub, Int.reduceMul, Int.reduceNeg, Nat.reduceLT, ↓reduceIte, hv]
  | true =>
    simp only [hv, Bool.true_eq_false, or_false] at hk
    simp (config := { implicitDefEqProofs := false, decide := true }) only [go_sem, Nat.reduceEqDiff, Nat.reduceAdd, Nat.reduceMul, Nat.reduceSub, Nat.reduceLT, Nat.reduceLeDiff, Nat.reduceBEq, reduceCtorEq, Int.reduceLT, Int.reduceLE, Int.reduceEq, Int.reduceToNat, Int.reduceAdd, Int.reduceSub, Int.reduceMul, Int.reduceNeg, Nat.reduceLT, ↓reduceIte, hv, hk.1, hk.2]
/-! ### Sets -/
/-- A span: from, to. -/
def encSpan (x : Int × Int) : List AV := [.int .i64 x.1, .int .i64 x.2]
theorem leaf_span (x : Int × Int) : AV.leafL (encSpan x) = true := rfl
abbrev Sp := List (Int × Int)
def inSpan (p : Int) (x : Int × Int) : Bool := decide (x.1 ≤ p) && decide (p < x.2)
/-- constraint.Has's closure -/
theorem f60_pure (x : Int × Int) (p : Int) : PureP Tryz.prog 60 [.agg [.int .i64 x.1, .int .i64 x.2], .iptr [.int .i64 p]] (· = .bool (inSpan p x)) := by
  refine PureE.run mixed e60 Tryz.func60 c60_ok r60 (by rw [Tryz.ntmps60]; rfl) rfl ?_
  by_cases h : x.1 ≤ p <;> simp (config := { implicitDefEqProofs := false, decide := true }) only [go_sem, Nat.reduceEqDiff, Nat.reduceAdd, Nat.reduceMul, Nat.reduceSub, Nat.reduceLT, Nat.reduceLeDiff, Nat.reduceBEq, reduceCtorEq, Int.reduceLT, Int.reduceLE, Int.reduceEq, Int.reduceToNat, Int.reduceAdd, Int.reduceSub, Int.reduceMul, Int.reduceNeg, Nat.reduceLT, ↓reduceIte, c60, h] <;> simp [inSpan, h]

/-- slices.IndexFunc, ContainsFunc at spans -/
theorem f81_pure (q : Int × Int → Bool) (f : FuncId) (caps : List AV) (hcap : AV.refsL caps = []) (s : Sp) (fl : Flag) (hlen : s.length < 4611686018427387904)
    (hp : ∀ x ∈ s, PureP Tryz.prog f (.agg [.int .i64 x.1, .int .i64 x.2] :: caps) (· = .bool (q x))) : PureP Tryz.prog 81 [.isl fl (s.map encSpan), .func (.func f) [] caps] (· = .int .i64 (idx q s)) :=
  IndexFunc_pure (P := Tryz.prog) (tS := 23) (tE := 65) (tI := 3) (k := 2) (gE := true) mixed e81 Tryz.func81 (c81_ok.trans rfl) r81 Tryz.ntmps81 t_elem_23 t_size_65 t_agg_65 (by omega) (by simp) encSpan (fun _ => rfl) leaf_span q f caps hcap s fl hlen hp
theorem f59_pure (q : Int × Int → Bool) (f : FuncId) (caps : List AV) (hcap : AV.refsL caps = []) (s : Sp) (fl : Flag) (hlen : s.length < 4611686018427387904)
    (hp : ∀ x ∈ s, PureP Tryz.prog f (.agg [.int .i64 x.1, .int .i64 x.2] :: caps) (· = .bool (q x))) : PureP Tryz.prog 59 [.isl fl (s.map encSpan), .func (.func f) [] caps] (· = .bool (s.any q)) :=
  ContainsFunc_pure (P := Tryz.prog) (tS := 23) (tF := 84) (tI := 3) (fI := 81) mixed e59 Tryz.func59 (c59_ok.trans rfl) r59 Tryz.ntmps59 rfl q s (f81_pure q f caps hcap s fl hlen hp)

def has (s : Sp) (p : Int) : Bool := decide (0 ≤ p) && decide (p < 1000000) && s.any (inSpan p)
/-- constraint.Has -/
theorem f30_pure (s : Sp) (fl : Flag) (p : Int) (hlen : s.length < 4611686018427387904) : PureP Tryz.prog 30 [.isl fl (s.map encSpan), .int .i64 p] (· = .bool (has s p)) := by
  refine PureE.run mixed e30 Tryz.func30 c30_ok r30 (by rw [Tryz.ntmps30]; rfl) rfl ?_
  by_cases h1 : p ≥ 0 <;> by_cases h2 : p < 1000000 <;> simp (config := { implicitDefEqProofs := false, decide := true }) only [go_sem, Nat.reduceEqDiff, Nat.reduceAdd, Nat.reduceMul, Nat.reduceSub, Nat.reduceLT, Nat.reduceLeDiff, Nat.reduceBEq, reduceCtorEq, Int.reduceLT, Int.reduceLE, Int.reduceEq, Int.reduceToNat, Int.reduceAdd, Int.reduceSub, Int.reduceMul, Int.reduceNeg, Nat.reduceLT, ↓reduceIte, c30, h1, h2]
  · refine LC.peek [1000] (args' := [.isl fl (s.map encSpan), .func (.func 60) [] [.iptr [.int .i64 p]]]) ?_ (f59_pure (inSpan p) 60 [.iptr [.int .i64 p]] rfl s fl hlen fun x _ => f60_pure x p) rfl ?_
    · simp [viewL, view1, viewL0, view0, mkH, AV.leafLL, AV.leafL, AV.leaf]
    · simp (config := { implicitDefEqProofs := false, decide := true }) only [go_sem, Nat.reduceEqDiff, Nat.reduceAdd, Nat.reduceMul, Nat.reduceSub, Nat.reduceLT, Nat.reduceLeDiff, Nat.reduceBEq, reduceCtorEq, Int.reduceLT, Int.reduceLE, Int.reduceEq, Int.reduceToNat, Int.reduceAdd, Int.reduceSub, Int.reduceMul, Int.reduceNeg, Nat.reduceLT, ↓reduceIte]
      have h1' : (0 : Int) ≤ p := h1
      simp [has, h1', h2]
  all_goals (have h1' : ¬ ((0 : Int) ≤ p ∧ p < 1000000) := by omega)
  all_goals (simp only [has, Bool.and_eq_false_iff, decide_eq_false_iff_not]; omega)
end
section
open Go.Aw Go.RowKit
structure Tm where
  path : ByteArray
  absent : Bool
  set : Sp
structure Sel where
  path : ByteArray
  ma : Int
  mi : Int
  pa : Int
def encTerm (t : Tm) : List AV := [.str t.path, .bool t.absent, .isl .unk (t.set.map encSpan)]
def encSel (y : Sel) : List AV := [.str y.path, .int .i64 y.ma, .int .i64 y.mi, .int .i64 y.pa]
theorem leaf_term (t : Tm) : AV.leafL (encTerm t) = true := rfl
theorem leaf_sel (t : Sel) : AV.leafL (encSel t) = true := rfl
theorem norm_terms (l : List Tm) : AV.normLL (l.map encTerm) = l.map encTerm := normLL_leaf (fun x => by
  have := normLL_leaf (enc := encSpan) (fun _ => rfl) x.set
  simp only [encTerm, AV.normL, AV.norm, this]) l
theorem norm_spans (l : Sp) : AV.normLL (l.map encSpan) = l.map encSpan := normLL_leaf (fun _ => rfl) l
theorem norm_sels (l : List Sel) : AV.normLL (l.map encSel) = l.map encSel := normLL_leaf (fun _ => rfl) l
theorem len_terms (l : List Tm) : lenAll 3 (l.map encTerm) = True := lenAll_map (enc := encTerm) (fun _ => rfl) l
theorem len_sels (l : List Sel) : lenAll 4 (l.map encSel) = True := lenAll_map (enc := encSel) (fun _ => rfl) l
theorem len_spans (l : Sp) : lenAll 2 (l.map encSpan) = True := lenAll_map (enc := encSpan) (fun _ => rfl) l
theorem leaf_terms : ∀ l : List Tm, AV.leafLL (l.map encTerm) = true := leafLL_map encTerm leaf_term
theorem leaf_sels : ∀ l : List Sel, AV.leafLL (l.map encSel) = true := leafLL_map encSel leaf_sel
theorem leaf_spans : ∀ l : Sp, AV.leafLL (l.map encSpan) = true := leafLL_map encSpan leaf_span
theorem hasLL_terms (n : Nat) (l : List Tm) : AV.hasLL n (l.map encTerm) = false := hasLL_leaf leaf_term l
theorem hasLL_spans (n : Nat) (l : Sp) : AV.hasLL n (l.map encSpan) = false := hasLL_leaf leaf_span l
theorem renLL_terms (f : Nat → Nat) (l : List Tm) : AV.renLL f (l.map encTerm) = l.map encTerm := renLL_leaf leaf_term l
theorem renLL_spans (f : Nat → Nat) (l : Sp) : AV.renLL f (l.map encSpan) = l.map encSpan := renLL_leaf leaf_span l
theorem bytes_eq (a b : ByteArray) : (a.toList == b.toList) = decide (a = b) := by
  rw [← beq_toListBytes, Bool.eq_iff_iff, Go.MapKept.bytes_beq]
  simp

/-- term.Holds's closure -/
theorem f58_pure (y : Sel) (t : Tm) : PureP Tryz.prog 58 [.agg (encSel y), .iptr (encTerm t)] (· = .bool (decide (y.path = t.path))) := by
  refine PureE.run mixed e58 Tryz.func58 c58_ok r58 (by rw [Tryz.ntmps58]; rfl) rfl ?_
  simp (config := { implicitDefEqProofs := false, decide := true }) only [go_sem, Nat.reduceEqDiff, Nat.reduceAdd, Nat.reduceMul, Nat.reduceSub, Nat.reduceLT, Nat.reduceLeDiff, Nat.reduceBEq, reduceCtorEq, Int.reduceLT, Int.reduceLE, Int.reduceEq, Int.reduceToNat, Int.reduceAdd, Int.reduceSub, Int.reduceMul, Int.reduceNeg, Nat.reduceLT, ↓reduceIte, c58, encSel, encTerm, bytes_eq]
theorem f56_pure (q : Sel → Bool) (f : FuncId) (caps : List AV) (hcap : AV.refsL caps = []) (s : List Sel) (fl : Flag) (hlen : s.length < 4611686018427387904)
    (hp : ∀ x ∈ s, PureP Tryz.prog f (.agg (encSel x) :: caps) (· = .bool (q x))) : PureP Tryz.prog 56 [.isl fl (s.map encSel), .func (.func f) [] caps] (· = .int .i64 (idx q s)) :=
  IndexFunc_pure (P := Tryz.prog) (tS := 39) (tE := 45) (tI := 3) (k := 4) (gE := true) mixed e56 Tryz.func56 (c56_ok.trans rfl) r56 Tryz.ntmps56 t_elem_39 t_size_45 t_agg_45 (by omega) (by simp) encSel (fun _ => rfl) leaf_sel q f caps hcap s fl hlen hp

def okSel (y : Sel) : Bool := okV y.ma y.mi y.pa
def place (y : Sel) : Int := 1000 * y.mi + y.pa
def holds (t : Tm) (s : List Sel) : Bool :=
  match s.findIdx? fun y => decide (y.path = t.path) with
  | none => t.absent
  | some i => match s[i]? with
    | some y => okSel y && has t.set (place y)
    | none => false
set_option maxRecDepth 20000 in
/-- term.Holds -/
theorem f29_pure (t : Tm) (s : List Sel) (fl : Flag) (hlen : s.length < 4611686018427387904) (hset : t.set.length < 4611686018427387904) : PureP Tryz.prog 29 [.agg (encTerm t), .isl fl (s.map encSel)] (· = .bool (holds t s)) := by
  refine PureE.run mixed e29 Tryz.func29 c29_ok r29 (by rw [Tryz.ntmps29]; rfl) rfl ?_
  have hh : ∀ n, AV.hasL n (encTerm t) = false := fun n => rfl
  simp (config := { implicitDefEqProofs := false, decide := true }) only [go_sem, Nat.reduceEqDiff, Nat.reduceAdd, Nat.reduceMul, Nat.reduceSub, Nat.reduceLT, Nat.reduceLeDiff, Nat.reduceBEq, reduceCtorEq, Int.reduceLT, Int.reduceLE, Int.reduceEq, Int.reduceToNat, Int.reduceAdd, Int.reduceSub, Int.reduceMul, Int.reduceNeg, Nat.reduceLT, ↓reduceIte, c29, encTerm]
  refine LC.peek [1000] (args' := [.isl fl (s.map encSel), .func (.func 58) [] [.iptr (encTerm t)]]) ?_ (f56_pure (fun y => decide (y.path = t.path)) 58 [.iptr (encTerm t)] rfl s fl hlen fun x _ => f58_pure x t) rfl ?_
  · simp [viewL, view1, viewL0, view0, mkH, AV.leafLL, AV.leafL, AV.leaf, encTerm]
  cases h : s.findIdx? fun y => decide (y.path = t.path) with
  | none =>
    have hi : idx (fun y => decide (y.path = t.path)) s = -1 := by simp [idx, h]
    simp (config := { implicitDefEqProofs := false, decide := true }) only [go_sem, Nat.reduceEqDiff, Nat.reduceAdd, Nat.reduceMul, Nat.reduceSub, Nat.reduceLT, Nat.reduceLeDiff, Nat.reduceBEq, reduceCtorEq, Int.reduceLT, Int.reduceLE, Int.reduceEq, Int.reduceToNat, Int.reduceAdd, Int.reduceSub, Int.reduceMul, Int.reduceNeg, Nat.reduceLT, ↓reduceIte, hi]
    simp [holds, h]
  | some i =>
    obtain ⟨hlt, hp, _⟩ := List.findIdx?_eq_some_iff_getElem.1 h
    have hi : idx (fun y => decide (y.path = t.path)) s = i := by simp [idx, h]
    have hd : decide ((i : Int) < 0) = false := by simp
    have hget : (List.map encSel s).getD i [] = encSel s[i] := by simp [List.getD_eq_getElem?_getD, hlt]
    have hg1 : i < s.length := by omega
    simp (config := { implicitDefEqProofs := false, decide := true }) only [go_sem, Nat.reduceEqDiff, Nat.reduceAdd, Nat.reduceMul, Nat.reduceSub, Nat.reduceLT, Nat.reduceLeDiff, Nat.reduceBEq, reduceCtorEq, Int.reduceLT, Int.reduceLE, Int.reduceEq, Int.reduceToNat, Int.reduceAdd, Int.reduceSub, Int.reduceMul, Int.reduceNeg, Nat.reduceLT, ↓reduceIte, hi, hd, hget, hg1, Int.toNat_natCast, List.length_map, encSel]
    refine LC.val (f25_pure s[i].ma s[i].mi s[i].pa) ?_
    have hH : holds t s = (okSel s[i] && has t.set (place s[i])) := by simp [holds, h, hlt]
    cases hv : okV s[i].ma s[i].mi s[i].pa with
    | false =>
      simp (config := { implicitDefEqProofs := false, decide := true }) only [go_sem, Nat.reduceEqDiff, Nat.reduceAdd, Nat.reduceMul, Nat.reduceSub, Nat.reduceLT, Nat.reduceLeDiff, Nat.reduceBEq, reduceCtorEq, Int.reduceLT, Int.reduceLE, Int.reduceEq, Int.reduceToNat, Int.reduceAdd, Int.reduceSub, Int.reduceMul, Int.reduceNeg, Nat.reduceLT, ↓reduceIte, hv]
      simp [hH, okSel, hv]
    | true =>
      simp (config := { implicitDefEqProofs := false, decide := true }) only [go_sem, Nat.reduceEqDiff, Nat.reduceAdd, Nat.reduceMul, Nat.reduceSub, Nat.reduceLT, Nat.reduceLeDiff, Nat.reduceBEq, reduceCtorEq, Int.reduceLT, Int.reduceLE, Int.reduceEq, Int.reduceToNat, Int.reduceAdd, Int.reduceSub, Int.reduceMul, Int.reduceNeg, Nat.reduceLT, ↓reduceIte, hv]
      refine LC.val (f30_pure t.set .unk (1000 * s[i].mi + s[i].pa) hset) ?_
      simp (config := { implicitDefEqProofs := false, decide := true }) only [go_sem, Nat.reduceEqDiff, Nat.reduceAdd, Nat.reduceMul, Nat.reduceSub, Nat.reduceLT, Nat.reduceLeDiff, Nat.reduceBEq, reduceCtorEq, Int.reduceLT, Int.reduceLE, Int.reduceEq, Int.reduceToNat, Int.reduceAdd, Int.reduceSub, Int.reduceMul, Int.reduceNeg, Nat.reduceLT, ↓reduceIte, hv]
      simp [hH, okSel, hv, place]

def violated (l : List Tm) (s : List Sel) : Bool := l.all fun t => holds t s
/-- term.Violated -/
theorem f22_pure (l : List Tm) (fl' : Flag) (s : List Sel) (fl : Flag) (hl : l.length < 4611686018427387904) (hlen : s.length < 4611686018427387904) (hset : ∀ t ∈ l, t.set.length < 4611686018427387904) :
    PureP Tryz.prog 22 [.isl fl' (l.map encTerm), .isl fl (s.map encSel)] (· = .bool (violated l s)) := by
  refine PureE.run mixed e22 Tryz.func22 c22_ok r22 (by rw [Tryz.ntmps22]; rfl) rfl ?_
  simp (config := { implicitDefEqProofs := false, decide := true }) only [go_sem, Nat.reduceEqDiff, Nat.reduceAdd, Nat.reduceMul, Nat.reduceSub, Nat.reduceLT, Nat.reduceLeDiff, Nat.reduceBEq, reduceCtorEq, Int.reduceLT, Int.reduceLE, Int.reduceEq, Int.reduceToNat, Int.reduceAdd, Int.reduceSub, Int.reduceMul, Int.reduceNeg, Nat.reduceLT, ↓reduceIte, c22, List.length_map]
  refine LL.intro mixed (ι := { i : Nat // i ≤ l.length ∧ ∀ j (hj : j < l.length), j < i → holds l[j] s = true }) (fun i => [(8, .int .i64 i.1), (7, .int .i64 l.length), (1, .isl fl (s.map encSel)), (0, .isl fl' (l.map encTerm))]) (fun _ => [])
    (fun i => l.length - i.1) ⟨0, by omega, fun j _ h => by omega⟩ ⟨ap [], ?_⟩ ?_
  · simp (config := { implicitDefEqProofs := false, decide := true }) only [go_sem, Nat.reduceEqDiff, Nat.reduceAdd, Nat.reduceMul, Nat.reduceSub, Nat.reduceLT, Nat.reduceLeDiff, Nat.reduceBEq, reduceCtorEq, Int.reduceLT, Int.reduceLE, Int.reduceEq, Int.reduceToNat, Int.reduceAdd, Int.reduceSub, Int.reduceMul, Int.reduceNeg, Nat.reduceLT, ↓reduceIte, AV.renP, LeL, leE, leH, apartH, injH, keptS, ap, AV.ren, AV.renL, AV.renLL, AObj.ren]
  · rintro ⟨i, hi, hb⟩
    rcases Nat.lt_or_ge i l.length with hlt | hge
    · have hget : (List.map encTerm l).getD i [] = encTerm l[i] := by simp [List.getD_eq_getElem?_getD, hlt]
      have hd : i < l.length := by omega
      have hg1 : i < l.length := by omega
      simp (config := { implicitDefEqProofs := false, decide := true }) only [go_sem, Nat.reduceEqDiff, Nat.reduceAdd, Nat.reduceMul, Nat.reduceSub, Nat.reduceLT, Nat.reduceLeDiff, Nat.reduceBEq, reduceCtorEq, Int.reduceLT, Int.reduceLE, Int.reduceEq, Int.reduceToNat, Int.reduceAdd, Int.reduceSub, Int.reduceMul, Int.reduceNeg, Nat.reduceLT, ↓reduceIte, c22_L0, hd, hget, hg1, Int.toNat_natCast, List.length_map, encTerm]
      refine LC.val (f29_pure l[i] s fl hlen (hset _ (List.getElem_mem hlt))) ?_
      cases hv : holds l[i] s with
      | false =>
        simp (config := { implicitDefEqProofs := false, decide := true }) only [go_sem, Nat.reduceEqDiff, Nat.reduceAdd, Nat.reduceMul, Nat.reduceSub, Nat.reduceLT, Nat.reduceLeDiff, Nat.reduceBEq, reduceCtorEq, Int.reduceLT, Int.reduceLE, Int.reduceEq, Int.reduceToNat, Int.reduceAdd, Int.reduceSub, Int.reduceMul, Int.reduceNeg, Nat.reduceLT, ↓reduceIte, hv]
        simp only [violated, List.all_eq_false]
        exact ⟨_, List.getElem_mem hlt, by simp [hv]⟩
      | true =>
        simp (config := { implicitDefEqProofs := false, decide := true }) only [go_sem, Nat.reduceEqDiff, Nat.reduceAdd, Nat.reduceMul, Nat.reduceSub, Nat.reduceLT, Nat.reduceLeDiff, Nat.reduceBEq, reduceCtorEq, Int.reduceLT, Int.reduceLE, Int.reduceEq, Int.reduceToNat, Int.reduceAdd, Int.reduceSub, Int.reduceMul, Int.reduceNeg, Nat.reduceLT, ↓reduceIte, hv]
        refine ⟨⟨i + 1, by omega, fun j hj hji => ?_⟩, by simp; omega, ap [], ?_⟩
        · rcases Nat.lt_or_ge j i with h | h
          · exact hb j hj h
          · have : j = i := by omega
            subst this; exact hv
        · simp (config := { implicitDefEqProofs := false, decide := true }) only [go_sem, Nat.reduceEqDiff, Nat.reduceAdd, Nat.reduceMul, Nat.reduceSub, Nat.reduceLT, Nat.reduceLeDiff, Nat.reduceBEq, reduceCtorEq, Int.reduceLT, Int.reduceLE, Int.reduceEq, Int.reduceToNat, Int.reduceAdd, Int.reduceSub, Int.reduceMul, Int.reduceNeg, Nat.reduceLT, ↓reduceIte, AV.renP, LeL, leE, leH, apartH, injH, keptS, ap, AV.ren, AV.renL, AV.renLL, AObj.ren]
          exact eq_wrap (by simp) (by omega) (by omega)
    · have hd : ¬ i < l.length := by omega
      simp (config := { implicitDefEqProofs := false, decide := true }) only [go_sem, Nat.reduceEqDiff, Nat.reduceAdd, Nat.reduceMul, Nat.reduceSub, Nat.reduceLT, Nat.reduceLeDiff, Nat.reduceBEq, reduceCtorEq, Int.reduceLT, Int.reduceLE, Int.reduceEq, Int.reduceToNat, Int.reduceAdd, Int.reduceSub, Int.reduceMul, Int.reduceNeg, Nat.reduceLT, ↓reduceIte, c22_L0, hd]
      simp only [violated, List.all_eq_true]
      intro t ht
      obtain ⟨j, hj, rfl⟩ := List.getElem_of_mem ht
      exact hb j hj (by omega)
end
section
/-! ### Sets of places: canonical lists of spans -/
def okS (x : Int × Int) : Prop := 0 ≤ x.1 ∧ x.1 < x.2 ∧ x.2 ≤ 1000000
def Canon (c : Sp) : Prop := (∀ x ∈ c, okS x) ∧ c.Pairwise (fun x y => x.2 < y.1)
theorem inSpan_iff {p : Int} {x : Int × Int} : inSpan p x = true ↔ x.1 ≤ p ∧ p < x.2 := by simp [inSpan]
theorem any_range {c : Sp} (h : ∀ x ∈ c, okS x) (p : Int) : has c p = c.any (inSpan p) := by
  unfold has
  cases hc : c.any (inSpan p) with
  | false => simp
  | true =>
    rw [List.any_eq_true] at hc
    obtain ⟨x, hx, hp⟩ := hc
    rw [inSpan_iff] at hp
    have := h x hx
    unfold okS at this
    have h1 : 0 ≤ p := by omega
    have h2 : p < 1000000 := by omega
    simp [h1, h2]
theorem canon_tail {x : Int × Int} {c : Sp} (h : Canon (x :: c)) : Canon c := ⟨fun y hy => h.1 y (List.mem_cons_of_mem _ hy), (List.pairwise_cons.1 h.2).2⟩
theorem canon_head {x : Int × Int} {c : Sp} (h : Canon (x :: c)) : okS x ∧ ∀ y ∈ c, x.2 < y.1 := ⟨h.1 x (List.mem_cons_self ..), (List.pairwise_cons.1 h.2).1⟩
theorem any_iff {c : Sp} {p : Int} : c.any (inSpan p) = true ↔ ∃ x ∈ c, x.1 ≤ p ∧ p < x.2 := by
  rw [List.any_eq_true]
  exact ⟨fun ⟨x, h, hp⟩ => ⟨x, h, inSpan_iff.1 hp⟩, fun ⟨x, h, hp⟩ => ⟨x, h, inSpan_iff.2 hp⟩⟩
/-- A point behind the head's begin is in the head or in the tail; a point ahead of it is in none. -/
theorem canon_unique : ∀ {c d : Sp}, Canon c → Canon d → (∀ p, c.any (inSpan p) = d.any (inSpan p)) → c = d
  | [], [], _, _, _ => rfl
  | [], y :: d, _, hd, h => by
    have hy := (canon_head hd).1
    unfold okS at hy
    have := h y.1
    rw [List.any_nil] at this
    have h2 : (y :: d).any (inSpan y.1) = true := any_iff.2 ⟨y, List.mem_cons_self .., by omega, by omega⟩
    rw [h2] at this
    cases this
  | x :: c, [], hc, _, h => by
    have hx := (canon_head hc).1
    unfold okS at hx
    have := h x.1
    rw [List.any_nil] at this
    have h2 : (x :: c).any (inSpan x.1) = true := any_iff.2 ⟨x, List.mem_cons_self .., by omega, by omega⟩
    rw [h2] at this
    cases this
  | x :: c, y :: d, hc, hd, h => by
    obtain ⟨hx, hxc⟩ := canon_head hc
    obtain ⟨hy, hyd⟩ := canon_head hd
    have key : ∀ {x y : Int × Int} {c d : Sp}, okS x → okS y → (∀ z ∈ c, x.2 < z.1) → (∀ z ∈ d, y.2 < z.1) → (∀ p, (x :: c).any (inSpan p) = (y :: d).any (inSpan p)) → y.1 ≤ x.1 ∧ (x.1 = y.1 → x.2 ≤ y.2) := by
      intro x y c d hx hy hxc hyd h
      unfold okS at hx hy
      constructor
      · have h1 : (x :: c).any (inSpan x.1) = true := any_iff.2 ⟨x, List.mem_cons_self .., by omega, by omega⟩
        rw [h, any_iff] at h1
        obtain ⟨z, hz, h2, h3⟩ := h1
        rcases List.mem_cons.1 hz with rfl | hz
        · omega
        · have := hyd z hz; omega
      · intro e
        by_cases hlt : x.2 ≤ y.2
        · exact hlt
        · exfalso
          have h1 : (x :: c).any (inSpan y.2) = true := any_iff.2 ⟨x, List.mem_cons_self .., by omega, by omega⟩
          rw [h, any_iff] at h1
          obtain ⟨z, hz, h2, h3⟩ := h1
          rcases List.mem_cons.1 hz with rfl | hz
          · omega
          · have := hyd z hz; omega
    have k1 := key hx hy hxc hyd h
    have k2 := key hy hx hyd hxc (fun p => (h p).symm)
    have e1 : x.1 = y.1 := by omega
    have e2 : x.2 = y.2 := by have := k1.2 e1; have := k2.2 e1.symm; omega
    have exy : x = y := Prod.ext e1 e2
    subst exy
    congr 1
    refine canon_unique (canon_tail hc) (canon_tail hd) fun p => ?_
    have hp := h p
    simp only [List.any_cons] at hp
    by_cases hin : inSpan p x = true
    · have z1 : ∀ {l : Sp}, (∀ z ∈ l, x.2 < z.1) → l.any (inSpan p) = false := by
        intro l hl
        cases hl2 : l.any (inSpan p) with
        | false => rfl
        | true =>
          obtain ⟨z, hz, q1, q2⟩ := any_iff.1 hl2
          have := hl z hz
          rw [inSpan_iff] at hin
          omega
      rw [z1 hxc, z1 hyd]
    · have : inSpan p x = false := by simpa using hin
      simpa [this] using hp
theorem canon_len {c : Sp} (h : Canon c) : c.length ≤ 1000000 := by
  have key : ∀ (c : Sp) (lo : Int), Canon c → (∀ x ∈ c, lo ≤ x.1) → lo ≤ 1000000 → (c.length : Int) ≤ 1000000 - lo := by
    intro c
    induction c with
    | nil => intro lo _ _ h; simp; omega
    | cons x c ih =>
      intro lo hc hl hlo
      obtain ⟨hx, hxc⟩ := canon_head hc
      unfold okS at hx
      have h1 := hl x (List.mem_cons_self ..)
      have := ih (x.1 + 1) (canon_tail hc) (fun y hy => by have := hxc y hy; omega) (by omega)
      simp only [List.length_cons]
      omega
  have := key c 0 h (fun x hx => (h.1 x hx).1) (by omega)
  omega
open Classical in
/-- The canonical list of the places that m holds of. -/
noncomputable def canonOf (m : Int → Bool) : Sp := if h : ∃ c, Canon c ∧ ∀ p, has c p = m p then h.choose else []
theorem canonOf_eq {c : Sp} {m : Int → Bool} (hc : Canon c) (h : ∀ p, has c p = m p) : canonOf m = c := by
  have he : ∃ c, Canon c ∧ ∀ p, has c p = m p := ⟨c, hc, h⟩
  unfold canonOf
  rw [dif_pos he]
  obtain ⟨h1, h2⟩ := he.choose_spec
  refine canon_unique h1 hc fun p => ?_
  rw [← any_range h1.1, ← any_range hc.1, h2, h]
theorem canonOf_canon (m : Int → Bool) : Canon (canonOf m) := by
  unfold canonOf
  split
  · rename_i h; exact h.choose_spec.1
  · exact ⟨by simp, List.Pairwise.nil⟩
theorem canonOf_len (m : Int → Bool) : (canonOf m).length ≤ 1000000 := canon_len (canonOf_canon m)
theorem canonOf_congr {m m' : Int → Bool} (h : ∀ p, m p = m' p) : canonOf m = canonOf m' := by rw [funext h]

/-! ### Joining spans in order -/
def clip (x : Int × Int) : Int × Int := (max 0 x.1, min 1000000 x.2)
def okB (x : Int × Int) : Bool := decide (x.1 < x.2)
def clipped (s : Sp) : Sp := (s.map clip).filter okB
theorem clipped_ok (s : Sp) : ∀ x ∈ clipped s, okS x := by
  intro x hx
  simp only [clipped, List.mem_filter, List.mem_map, okB, decide_eq_true_eq] at hx
  obtain ⟨⟨y, _, rfl⟩, h2⟩ := hx
  unfold okS clip at *
  simp only at *
  omega
theorem clipped_any (s : Sp) (p : Int) : (clipped s).any (inSpan p) = has s p := by
  rw [Bool.eq_iff_iff, any_iff]
  unfold has
  simp only [Bool.and_eq_true, decide_eq_true_eq, any_iff]
  constructor
  · rintro ⟨x, hx, h1, h2⟩
    simp only [clipped, List.mem_filter, List.mem_map] at hx
    obtain ⟨⟨y, hy, rfl⟩, _⟩ := hx
    simp only [clip] at h1 h2
    exact ⟨by omega, y, hy, by omega, by omega⟩
  · rintro ⟨h0, y, hy, h1, h2⟩
    refine ⟨clip y, ?_, by simp only [clip]; omega, by simp only [clip]; omega⟩
    simp only [clipped, List.mem_filter, List.mem_map, okB, decide_eq_true_eq]
    exact ⟨⟨y, hy, rfl⟩, by simp only [clip]; omega⟩
def mstep (out : Sp) (x : Int × Int) : Sp :=
  if 0 < out.length ∧ x.1 ≤ (out.getD (out.length - 1) (0, 0)).2 then out.set (out.length - 1) ((out.getD (out.length - 1) (0, 0)).1, max (out.getD (out.length - 1) (0, 0)).2 x.2) else out ++ [x]
theorem mstep_nil (x : Int × Int) : mstep [] x = [x] := by simp [mstep]
theorem mstep_snoc (out : Sp) (y x : Int × Int) : mstep (out ++ [y]) x = if x.1 ≤ y.2 then out ++ [(y.1, max y.2 x.2)] else out ++ [y] ++ [x] := by
  unfold mstep
  have e : (out ++ [y]).length - 1 = out.length := by simp
  have e2 : (out ++ [y]).getD out.length (0, 0) = y := by simp [List.getD_eq_getElem?_getD]
  rw [e, e2]
  by_cases h : x.1 ≤ y.2
  · rw [if_pos ⟨by simp, h⟩, if_pos h]
    simp [List.set_append]
  · rw [if_neg (fun q => h q.2), if_neg h]
theorem mstep_ok {out : Sp} {x : Int × Int} (hc : Canon out) (hlo : ∀ y ∈ out, y.1 ≤ x.1) (hx : okS x) :
    Canon (mstep out x) ∧ (∀ y ∈ mstep out x, y.1 ≤ x.1) ∧ ∀ p, (mstep out x).any (inSpan p) = (out.any (inSpan p) || inSpan p x) := by
  rcases List.eq_nil_or_concat out with rfl | ⟨init, y, rfl⟩
  · rw [mstep_nil]
    exact ⟨⟨by simpa using hx, List.pairwise_singleton ..⟩, by simp, by simp⟩
  · rw [List.concat_eq_append] at *
    rw [mstep_snoc]
    have hy : okS y := hc.1 y (by simp)
    have hyx := hlo y (by simp)
    have hp := List.pairwise_append.1 hc.2
    by_cases h : x.1 ≤ y.2
    · rw [if_pos h]
      refine ⟨⟨fun z hz => ?_, List.pairwise_append.2 ⟨hp.1, List.pairwise_singleton .., fun a ha b hb => ?_⟩⟩, fun z hz => ?_, fun p => ?_⟩
      · rcases List.mem_append.1 hz with hz | hz
        · exact hc.1 z (List.mem_append_left _ hz)
        · simp only [List.mem_singleton] at hz
          subst hz
          unfold okS at *
          simp only
          omega
      · simp only [List.mem_singleton] at hb
        subst hb
        exact hp.2.2 a ha y (by simp)
      · rcases List.mem_append.1 hz with hz | hz
        · exact hlo z (List.mem_append_left _ hz)
        · simp only [List.mem_singleton] at hz
          subst hz
          exact hyx
      · simp only [List.any_append, List.any_cons, List.any_nil, Bool.or_false, Bool.or_assoc]
        congr 1
        rw [Bool.eq_iff_iff, Bool.or_eq_true, inSpan_iff, inSpan_iff, inSpan_iff]
        unfold okS at *
        simp only
        omega
    · rw [if_neg h]
      refine ⟨⟨fun z hz => ?_, List.pairwise_append.2 ⟨hc.2, List.pairwise_singleton .., fun a ha b hb => ?_⟩⟩, fun z hz => ?_, fun p => ?_⟩
      · rcases List.mem_append.1 hz with hz | hz
        · exact hc.1 z hz
        · simp only [List.mem_singleton] at hz; subst hz; exact hx
      · simp only [List.mem_singleton] at hb
        subst hb
        rcases List.mem_append.1 ha with ha | ha
        · have := hp.2.2 a ha y (by simp)
          unfold okS at *
          omega
        · simp only [List.mem_singleton] at ha; subst ha; omega
      · rcases List.mem_append.1 hz with hz | hz
        · exact hlo z hz
        · simp only [List.mem_singleton] at hz; subst hz; omega
      · simp only [List.any_append, List.any_cons, List.any_nil, Bool.or_false, Bool.or_assoc]
def joined (l : Sp) : Sp := l.foldl mstep []
theorem joined_ok (l : Sp) (hok : ∀ x ∈ l, okS x) (hs : l.Pairwise (fun x y => x.1 ≤ y.1)) : Canon (joined l) ∧ ∀ p, (joined l).any (inSpan p) = l.any (inSpan p) := by
  have key : ∀ (l out : Sp), Canon out → (∀ x ∈ l, okS x) → l.Pairwise (fun x y => x.1 ≤ y.1) → (∀ y ∈ out, ∀ x ∈ l, y.1 ≤ x.1) → Canon (l.foldl mstep out) ∧ ∀ p, (l.foldl mstep out).any (inSpan p) = (out.any (inSpan p) || l.any (inSpan p)) := by
    intro l
    induction l with
    | nil => intro out hc _ _ _; exact ⟨hc, by simp⟩
    | cons x l ih =>
      intro out hc hok hs hlo
      obtain ⟨k1, k2, k3⟩ := mstep_ok hc (fun y hy => hlo y hy x (List.mem_cons_self ..)) (hok x (List.mem_cons_self ..))
      rw [List.pairwise_cons] at hs
      obtain ⟨j1, j2⟩ := ih (mstep out x) k1 (fun z hz => hok z (List.mem_cons_of_mem _ hz)) hs.2 (fun y hy z hz => Int.le_trans (k2 y hy) (hs.1 z hz))
      refine ⟨j1, fun p => ?_⟩
      rw [List.foldl_cons, j2, k3, List.any_cons, Bool.or_assoc]
  have := key l [] ⟨by simp, List.Pairwise.nil⟩ hok hs (by simp)
  exact ⟨this.1, fun p => by rw [joined, this.2]; simp⟩
theorem joined_eq {l s : Sp} (hok : ∀ x ∈ l, okS x) (hs : l.Pairwise (fun x y => x.1 ≤ y.1)) (ha : ∀ p, l.any (inSpan p) = has s p) : joined l = canonOf (has s) := by
  obtain ⟨h1, h2⟩ := joined_ok l hok hs
  exact (canonOf_eq h1 fun p => by rw [any_range h1.1, h2, ha]).symm
theorem joined_snoc (l : Sp) (x : Int × Int) : joined (l ++ [x]) = mstep (joined l) x := by simp [joined]
theorem mstep_len (out : Sp) (x : Int × Int) : (mstep out x).length ≤ out.length + 1 := by
  unfold mstep
  split
  · simp
  · simp
theorem joined_len (l : Sp) : (joined l).length ≤ l.length := by
  have key : ∀ (l out : Sp), (l.foldl mstep out).length ≤ out.length + l.length := by
    intro l
    induction l with
    | nil => intro out; simp
    | cons x l ih =>
      intro out
      have h1 := ih (mstep out x)
      have h2 := mstep_len out x
      simp only [List.foldl_cons, List.length_cons]
      omega
  have := key l []
  simpa [joined] using this

/-! ### What is not in a set -/
def compl1 (at_ : Int) : Sp → Sp
  | [] => if at_ < 1000000 then [(at_, 1000000)] else []
  | x :: c => (if at_ < x.1 then [(at_, x.1)] else []) ++ compl1 x.2 c
theorem compl1_ok : ∀ (c : Sp) (a : Int), 0 ≤ a → a ≤ 1000000 → Canon c → (∀ x ∈ c, a ≤ x.1) → Canon (compl1 a c) ∧ (∀ x ∈ compl1 a c, a ≤ x.1) ∧ ∀ p, (compl1 a c).any (inSpan p) = (decide (a ≤ p) && decide (p < 1000000) && !c.any (inSpan p))
  | [], a, h0, h1, _, _ => by
    unfold compl1
    split
    · refine ⟨⟨by simp [okS]; omega, List.pairwise_singleton ..⟩, by simp, fun p => ?_⟩
      simp [inSpan]
    · refine ⟨⟨by simp, List.Pairwise.nil⟩, by simp, fun p => ?_⟩
      have : ¬ (a ≤ p ∧ p < 1000000) := by omega
      simp
      omega
  | x :: c, a, h0, h1, hc, hlo => by
    obtain ⟨hx, hxc⟩ := canon_head hc
    have hax := hlo x (List.mem_cons_self ..)
    unfold okS at hx
    obtain ⟨k1, k2, k3⟩ := compl1_ok c x.2 (by omega) (by omega) (canon_tail hc) (fun y hy => by have := hxc y hy; omega)
    -- behind a span there is a gap
    have kgap : ∀ z ∈ compl1 x.2 c, x.1 < z.1 := fun z hz => by have := k2 z hz; omega
    unfold compl1
    split
    · rename_i hlt
      refine ⟨⟨fun z hz => ?_, List.pairwise_append.2 ⟨List.pairwise_singleton .., k1.2, fun u hu v hv => ?_⟩⟩, fun z hz => ?_, fun p => ?_⟩
      · rcases List.mem_append.1 hz with hz | hz
        · simp only [List.mem_singleton] at hz; subst hz; unfold okS; simp only; omega
        · exact k1.1 z hz
      · simp only [List.mem_singleton] at hu; subst hu; exact kgap v hv
      · rcases List.mem_append.1 hz with hz | hz
        · simp only [List.mem_singleton] at hz; subst hz; simp
        · have := k2 z hz; omega
      · rw [List.any_append, k3, List.any_cons]
        have hcp : c.any (inSpan p) = true → x.2 < p := by
          intro h; obtain ⟨z, hz, q1, q2⟩ := any_iff.1 h; have := hxc z hz; omega
        rw [Bool.eq_iff_iff]
        cases hcc : c.any (inSpan p)
        · simp only [List.any_cons, List.any_nil, Bool.or_false, Bool.or_eq_true, Bool.and_eq_true, decide_eq_true_eq, Bool.not_false, and_true, Bool.not_eq_true', hcc, inSpan, Bool.and_eq_false_iff, decide_eq_false_iff_not]
          constructor
          · rintro (⟨q1, q2⟩ | ⟨q1, q2⟩) <;> exact ⟨⟨by omega, by omega⟩, by omega⟩
          · rintro ⟨⟨q1, q2⟩, q3⟩
            by_cases hp : p < x.1
            · exact .inl ⟨q1, hp⟩
            · exact .inr ⟨by omega, q2⟩
        · have := hcp hcc
          simp only [List.any_cons, List.any_nil, Bool.or_false, Bool.or_eq_true, Bool.and_eq_true, decide_eq_true_eq, Bool.not_true, hcc, and_false, Bool.or_true, or_false, Bool.false_eq_true, iff_false, inSpan]
          omega
    · rename_i hlt
      refine ⟨by simpa using k1, fun z hz => ?_, fun p => ?_⟩
      · simp only [List.nil_append] at hz; have := k2 z hz; omega
      · rw [List.nil_append, k3, List.any_cons]
        rw [Bool.eq_iff_iff]
        simp only [Bool.and_eq_true, decide_eq_true_eq, Bool.not_eq_true', Bool.or_eq_false_iff, inSpan, Bool.and_eq_false_iff, decide_eq_false_iff_not]
        constructor
        · rintro ⟨⟨q1, q2⟩, q3⟩
          exact ⟨⟨by omega, q2⟩, by omega, q3⟩
        · rintro ⟨⟨q1, q2⟩, q3, q4⟩
          exact ⟨⟨by omega, q2⟩, q4⟩
theorem compl1_eq (s : Sp) : compl1 0 (canonOf (has s)) = canonOf (fun p => decide (0 ≤ p) && decide (p < 1000000) && !has s p) := by
  have hc := canonOf_canon (has s)
  obtain ⟨k1, k2, k3⟩ := compl1_ok _ 0 (by omega) (by omega) hc (fun x hx => (hc.1 x hx).1)
  obtain ⟨j1, j2⟩ := joined_ok ((clipped s).mergeSort fun x y => decide (x.1 ≤ y.1)) (fun x hx => clipped_ok s x (List.mem_mergeSort.1 hx)) (by
    have := List.pairwise_mergeSort (le := fun x y : Int × Int => decide (x.1 ≤ y.1)) (fun a b c h1 h2 => by simp only [decide_eq_true_eq] at *; omega) (fun a b => by simp only [Bool.or_eq_true, decide_eq_true_eq]; omega) (clipped s)
    simpa using this)
  have hhas : ∀ p, has (canonOf (has s)) p = has s p := by
    have e := canonOf_eq (m := has s) j1 (fun p => by
      rw [any_range j1.1, j2, ← clipped_any]
      rw [Bool.eq_iff_iff, List.any_eq_true, List.any_eq_true]
      simp only [List.mem_mergeSort])
    intro p
    rw [e, any_range j1.1, j2, ← clipped_any, Bool.eq_iff_iff, List.any_eq_true, List.any_eq_true]
    simp only [List.mem_mergeSort]
  exact (canonOf_eq k1 fun p => by rw [any_range k1.1, k3, ← any_range hc.1, hhas]).symm
theorem has_canonOf (s : Sp) (p : Int) : has (canonOf (has s)) p = has s p := by
  obtain ⟨j1, j2⟩ := joined_ok ((clipped s).mergeSort fun x y => decide (x.1 ≤ y.1)) (fun x hx => clipped_ok s x (List.mem_mergeSort.1 hx)) (by
    have := List.pairwise_mergeSort (le := fun x y : Int × Int => decide (x.1 ≤ y.1)) (fun a b c h1 h2 => by simp only [decide_eq_true_eq] at *; omega) (fun a b => by simp only [Bool.or_eq_true, decide_eq_true_eq]; omega) (clipped s)
    simpa using this)
  have hj : ∀ p, has (joined ((clipped s).mergeSort fun x y => decide (x.1 ≤ y.1))) p = has s p := fun p => by
    rw [any_range j1.1, j2, ← clipped_any, Bool.eq_iff_iff, List.any_eq_true, List.any_eq_true]
    simp only [List.mem_mergeSort]
  rw [canonOf_eq j1 hj, hj]
end
section
open Go.Aw Go.RowKit
/-- modcertref31.Same -/
theorem f37_pure (a b : Sp) (fl fl' : Flag) (ha : a.length < 4611686018427387904) (hb' : b.length < 4611686018427387904) : PureP Tryz.prog 37 [.isl fl (a.map encSpan), .isl fl' (b.map encSpan)] (· = .bool (decide (a = b))) := by
  refine PureE.run mixed e37 Tryz.func37 c37_ok r37 (by rw [Tryz.ntmps37]; rfl) rfl ?_
  by_cases hl : a.length = b.length
  case neg =>
    have hn : ¬ ((a.length : Int) = b.length) := by omega
    have hne : a ≠ b := fun e => hl (by rw [e])
    simp (config := { implicitDefEqProofs := false, decide := true }) only [go_sem, Nat.reduceEqDiff, Nat.reduceAdd, Nat.reduceMul, Nat.reduceSub, Nat.reduceLT, Nat.reduceLeDiff, Nat.reduceBEq, reduceCtorEq, Int.reduceLT, Int.reduceLE, Int.reduceEq, Int.reduceToNat, Int.reduceAdd, Int.reduceSub, Int.reduceMul, Int.reduceNeg, Nat.reduceLT, ↓reduceIte, c37, List.length_map, hn, hne]
  simp (config := { implicitDefEqProofs := false, decide := true }) only [go_sem, Nat.reduceEqDiff, Nat.reduceAdd, Nat.reduceMul, Nat.reduceSub, Nat.reduceLT, Nat.reduceLeDiff, Nat.reduceBEq, reduceCtorEq, Int.reduceLT, Int.reduceLE, Int.reduceEq, Int.reduceToNat, Int.reduceAdd, Int.reduceSub, Int.reduceMul, Int.reduceNeg, Nat.reduceLT, ↓reduceIte, c37, List.length_map, hl]
  refine LL.upS mixed [0, 1] [] a.length (fun i => a.take i = b.take i) (fun i => [(5, .int .i64 i)]) (fun _ => []) rfl ⟨ap [], by simp (config := { implicitDefEqProofs := false, decide := true }) only [go_sem, Nat.reduceEqDiff, Nat.reduceAdd, Nat.reduceMul, Nat.reduceSub, Nat.reduceLT, Nat.reduceLeDiff, Nat.reduceBEq, reduceCtorEq, Int.reduceLT, Int.reduceLE, Int.reduceEq, Int.reduceToNat, Int.reduceAdd, Int.reduceSub, Int.reduceMul, Int.reduceNeg, Nat.reduceLT, ↓reduceIte, AV.renP, LeL, leE, leH, apartH, injH, keptS, ap, AV.ren, AV.renL, AV.renLL, AObj.ren]⟩ (fun i hlt hb => ?_) (fun hb => ?_)
  · have hlt' : i < b.length := by omega
    have hi : i < 4611686018427387904 := by omega
    have hT : a.take (i + 1) = a.take i ++ [a[i]] := take_succ hlt
    have hT' : b.take (i + 1) = b.take i ++ [b[i]] := take_succ hlt'
    have hq : (decide (a[i].1 = b[i].1) && decide (a[i].2 = b[i].2)) = decide (a[i] = b[i]) := by
      rw [Bool.eq_iff_iff]; simp [Prod.ext_iff]
    by_cases h : a[i] = b[i]
    · simp (config := { implicitDefEqProofs := false, decide := true }) only [go_sem, Nat.reduceEqDiff, Nat.reduceAdd, Nat.reduceMul, Nat.reduceSub, Nat.reduceLT, Nat.reduceLeDiff, Nat.reduceBEq, reduceCtorEq, Int.reduceLT, Int.reduceLE, Int.reduceEq, Int.reduceToNat, Int.reduceAdd, Int.reduceSub, Int.reduceMul, Int.reduceNeg, Nat.reduceLT, ↓reduceIte, c37_L0, hl, hlt, hlt', encSpan, hq, h]
      exact ⟨by rw [hT, hT', hb, h], ap [], by simp (config := { implicitDefEqProofs := false, decide := true }) only [go_sem, Nat.reduceEqDiff, Nat.reduceAdd, Nat.reduceMul, Nat.reduceSub, Nat.reduceLT, Nat.reduceLeDiff, Nat.reduceBEq, reduceCtorEq, Int.reduceLT, Int.reduceLE, Int.reduceEq, Int.reduceToNat, Int.reduceAdd, Int.reduceSub, Int.reduceMul, Int.reduceNeg, Nat.reduceLT, ↓reduceIte, AV.renP, LeL, leE, leH, apartH, injH, keptS, ap, AV.ren, AV.renL, AV.renLL, AObj.ren, wrap_nat hi]⟩
    · simp (config := { implicitDefEqProofs := false, decide := true }) only [go_sem, Nat.reduceEqDiff, Nat.reduceAdd, Nat.reduceMul, Nat.reduceSub, Nat.reduceLT, Nat.reduceLeDiff, Nat.reduceBEq, reduceCtorEq, Int.reduceLT, Int.reduceLE, Int.reduceEq, Int.reduceToNat, Int.reduceAdd, Int.reduceSub, Int.reduceMul, Int.reduceNeg, Nat.reduceLT, ↓reduceIte, c37_L0, hl, hlt, hlt', encSpan, hq, h]
      intro e; subst e; exact h rfl
  · simp (config := { implicitDefEqProofs := false, decide := true }) only [go_sem, Nat.reduceEqDiff, Nat.reduceAdd, Nat.reduceMul, Nat.reduceSub, Nat.reduceLT, Nat.reduceLeDiff, Nat.reduceBEq, reduceCtorEq, Int.reduceLT, Int.reduceLE, Int.reduceEq, Int.reduceToNat, Int.reduceAdd, Int.reduceSub, Int.reduceMul, Int.reduceNeg, Nat.reduceLT, ↓reduceIte, c37_L0, hl]
    rwa [List.take_of_length_le (Nat.le_refl _), List.take_of_length_le (by omega)] at hb
end
section
open Go.Aw Go.RowKit
/-- all spans' lists are short enough for the machine -/
def lim : Nat := 4611686018427387904
def okT (l : List Tm) : Prop := l.length < 4611686018427387904 ∧ ∀ t ∈ l, t.set.length < 4611686018427387904
instance : DecidableEq Tm := fun a b =>
  if h : a.path = b.path ∧ a.absent = b.absent ∧ a.set = b.set then isTrue (by cases a; cases b; simp_all) else isFalse (by intro e; subst e; simp at h)
set_option maxRecDepth 20000 in
set_option maxHeartbeats 800000 in
/-- modcertref35.Same -/
theorem f10_pure (a b : List Tm) (fl fl' : Flag) (ha : okT a) (hb' : okT b) : PureP Tryz.prog 10 [.isl fl (a.map encTerm), .isl fl' (b.map encTerm)] (· = .bool (decide (a = b))) := by
  obtain ⟨ha1, ha2⟩ := ha
  obtain ⟨hb1, hb2⟩ := hb'
  refine PureE.run mixed e10 Tryz.func10 c10_ok r10 (by rw [Tryz.ntmps10]; rfl) rfl ?_
  by_cases hl : a.length = b.length
  case neg =>
    have hn : ¬ ((a.length : Int) = b.length) := by omega
    have hne : a ≠ b := fun e => hl (by rw [e])
    simp (config := { implicitDefEqProofs := false, decide := true }) only [go_sem, Nat.reduceEqDiff, Nat.reduceAdd, Nat.reduceMul, Nat.reduceSub, Nat.reduceLT, Nat.reduceLeDiff, Nat.reduceBEq, reduceCtorEq, Int.reduceLT, Int.reduceLE, Int.reduceEq, Int.reduceToNat, Int.reduceAdd, Int.reduceSub, Int.reduceMul, Int.reduceNeg, Nat.reduceLT, ↓reduceIte, c10, List.length_map, hn, hne]
  simp (config := { implicitDefEqProofs := false, decide := true }) only [go_sem, Nat.reduceEqDiff, Nat.reduceAdd, Nat.reduceMul, Nat.reduceSub, Nat.reduceLT, Nat.reduceLeDiff, Nat.reduceBEq, reduceCtorEq, Int.reduceLT, Int.reduceLE, Int.reduceEq, Int.reduceToNat, Int.reduceAdd, Int.reduceSub, Int.reduceMul, Int.reduceNeg, Nat.reduceLT, ↓reduceIte, c10, List.length_map, hl]
  refine LL.up mixed a.length (fun i => a.take i = b.take i) (fun i => [(5, .int .i64 i), (1, .isl fl' (b.map encTerm)), (0, .isl fl (a.map encTerm))]) (fun _ => []) rfl ⟨ap [], by simp (config := { implicitDefEqProofs := false, decide := true }) only [go_sem, Nat.reduceEqDiff, Nat.reduceAdd, Nat.reduceMul, Nat.reduceSub, Nat.reduceLT, Nat.reduceLeDiff, Nat.reduceBEq, reduceCtorEq, Int.reduceLT, Int.reduceLE, Int.reduceEq, Int.reduceToNat, Int.reduceAdd, Int.reduceSub, Int.reduceMul, Int.reduceNeg, Nat.reduceLT, ↓reduceIte, AV.renP, LeL, leE, leH, apartH, injH, keptS, ap, AV.ren, AV.renL, AV.renLL, AObj.ren]⟩ (fun i hlt hb => ?_) (fun hb => ?_)
  · have hlt' : i < b.length := by omega
    have hi : i < 4611686018427387904 := by omega
    have hc := f37_pure a[i].set b[i].set .unk .unk (ha2 _ (List.getElem_mem hlt)) (hb2 _ (List.getElem_mem hlt'))
    have hT : a.take (i + 1) = a.take i ++ [a[i]] := take_succ hlt
    have hT' : b.take (i + 1) = b.take i ++ [b[i]] := take_succ hlt'
    have hne : a[i] ≠ b[i] → a ≠ b := fun h e => by subst e; exact h rfl
    cases h1 : decide (a[i].path = b[i].path) <;> cases h2 : a[i].absent == b[i].absent <;> simp (config := { implicitDefEqProofs := false, decide := true }) only [go_sem, Nat.reduceEqDiff, Nat.reduceAdd, Nat.reduceMul, Nat.reduceSub, Nat.reduceLT, Nat.reduceLeDiff, Nat.reduceBEq, reduceCtorEq, Int.reduceLT, Int.reduceLE, Int.reduceEq, Int.reduceToNat, Int.reduceAdd, Int.reduceSub, Int.reduceMul, Int.reduceNeg, Nat.reduceLT, ↓reduceIte, c10_L0, hlt, hlt', hl, encTerm, bytes_eq, h1, h2]
    · exact hne fun e => by rw [e] at h1; simp at h1
    · exact hne fun e => by rw [e] at h1; simp at h1
    · exact hne fun e => by rw [e] at h2; simp at h2
    · refine DC.val hc rfl rfl ?_
      cases h3 : decide (a[i].set = b[i].set) <;> simp (config := { implicitDefEqProofs := false, decide := true }) only [go_sem, Nat.reduceEqDiff, Nat.reduceAdd, Nat.reduceMul, Nat.reduceSub, Nat.reduceLT, Nat.reduceLeDiff, Nat.reduceBEq, reduceCtorEq, Int.reduceLT, Int.reduceLE, Int.reduceEq, Int.reduceToNat, Int.reduceAdd, Int.reduceSub, Int.reduceMul, Int.reduceNeg, Nat.reduceLT, ↓reduceIte, h3]
      · exact hne fun e => by rw [e] at h3; simp at h3
      · refine ⟨?_, ap [], ?_⟩
        · rw [hT, hT', hb]
          have e1 : a[i].path = b[i].path := of_decide_eq_true h1
          have e2 : a[i].absent = b[i].absent := by simpa using h2
          have e3 : a[i].set = b[i].set := of_decide_eq_true h3
          congr 2
          generalize a[i] = x at *
          generalize b[i] = y at *
          cases x; cases y; simp_all
        · simp (config := { implicitDefEqProofs := false, decide := true }) only [go_sem, Nat.reduceEqDiff, Nat.reduceAdd, Nat.reduceMul, Nat.reduceSub, Nat.reduceLT, Nat.reduceLeDiff, Nat.reduceBEq, reduceCtorEq, Int.reduceLT, Int.reduceLE, Int.reduceEq, Int.reduceToNat, Int.reduceAdd, Int.reduceSub, Int.reduceMul, Int.reduceNeg, Nat.reduceLT, ↓reduceIte, AV.renP, LeL, leE, leH, apartH, injH, keptS, ap, AV.ren, AV.renL, AV.renLL, AObj.ren, wrap_nat hi]
  · simp (config := { implicitDefEqProofs := false, decide := true }) only [go_sem, Nat.reduceEqDiff, Nat.reduceAdd, Nat.reduceMul, Nat.reduceSub, Nat.reduceLT, Nat.reduceLeDiff, Nat.reduceBEq, reduceCtorEq, Int.reduceLT, Int.reduceLE, Int.reduceEq, Int.reduceToNat, Int.reduceAdd, Int.reduceSub, Int.reduceMul, Int.reduceNeg, Nat.reduceLT, ↓reduceIte, c10_L0, hl]
    rwa [List.take_of_length_le (Nat.le_refl _), List.take_of_length_le (by omega)] at hb
end
section
open Go.Aw Go.RowKit
def fewT (t : Tm) : Bool := decide (t.path.size ≤ 100) && decide (t.set.length ≤ 12)
def few (l : List Tm) : Bool := l.all fewT && decide (l.length ≤ 12)
set_option maxRecDepth 20000 in
/-- modcertref35.Few -/
theorem f17_pure (l : List Tm) (fl : Flag) (hl : l.length < 4611686018427387904) : PureP Tryz.prog 17 [.isl fl (l.map encTerm)] (· = .bool (few l)) := by
  refine PureE.run mixed e17 Tryz.func17 c17_ok r17 (by rw [Tryz.ntmps17]; rfl) rfl ?_
  simp (config := { implicitDefEqProofs := false, decide := true }) only [go_sem, Nat.reduceEqDiff, Nat.reduceAdd, Nat.reduceMul, Nat.reduceSub, Nat.reduceLT, Nat.reduceLeDiff, Nat.reduceBEq, reduceCtorEq, Int.reduceLT, Int.reduceLE, Int.reduceEq, Int.reduceToNat, Int.reduceAdd, Int.reduceSub, Int.reduceMul, Int.reduceNeg, Nat.reduceLT, ↓reduceIte, c17]
  refine LL.intro mixed (ι := { i : Nat // i ≤ l.length ∧ ∀ j (hj : j < l.length), j < i → fewT l[j] = true }) (fun i => [(3, .int .i64 i.1), (0, .isl fl (l.map encTerm))]) (fun _ => [])
    (fun i => l.length - i.1) ⟨0, by omega, fun j _ h => by omega⟩ ⟨ap [], ?_⟩ ?_
  · simp (config := { implicitDefEqProofs := false, decide := true }) only [go_sem, Nat.reduceEqDiff, Nat.reduceAdd, Nat.reduceMul, Nat.reduceSub, Nat.reduceLT, Nat.reduceLeDiff, Nat.reduceBEq, reduceCtorEq, Int.reduceLT, Int.reduceLE, Int.reduceEq, Int.reduceToNat, Int.reduceAdd, Int.reduceSub, Int.reduceMul, Int.reduceNeg, Nat.reduceLT, ↓reduceIte, AV.renP, LeL, leE, leH, apartH, injH, keptS, ap, AV.ren, AV.renL, AV.renLL, AObj.ren]
  · rintro ⟨i, hi, hb⟩
    rcases Nat.lt_or_ge i l.length with hlt | hge
    · have hget : (List.map encTerm l).getD i [] = encTerm l[i] := by simp [List.getD_eq_getElem?_getD, hlt]
      have hd : i < l.length := by omega
      have hg1 : i < l.length := by omega
      have hstop : fewT l[i] = false → few l = false := by
        intro h
        simp only [few, Bool.and_eq_false_iff, List.all_eq_false]
        exact .inl ⟨_, List.getElem_mem hlt, by simp [h]⟩
      cases h1 : decide ((100 : Int) < l[i].path.size) <;> cases h2 : decide ((12 : Int) < l[i].set.length) <;> simp (config := { implicitDefEqProofs := false, decide := true }) only [go_sem, Nat.reduceEqDiff, Nat.reduceAdd, Nat.reduceMul, Nat.reduceSub, Nat.reduceLT, Nat.reduceLeDiff, Nat.reduceBEq, reduceCtorEq, Int.reduceLT, Int.reduceLE, Int.reduceEq, Int.reduceToNat, Int.reduceAdd, Int.reduceSub, Int.reduceMul, Int.reduceNeg, Nat.reduceLT, ↓reduceIte, c17_L0, hd, hget, hg1, h1, h2, Int.toNat_natCast, List.length_map, encTerm]
      · have h1' : ¬ ((100 : Int) < l[i].path.size) := of_decide_eq_false h1
        have h2' : ¬ ((12 : Int) < l[i].set.length) := of_decide_eq_false h2
        refine ⟨⟨i + 1, by omega, fun j hj hji => ?_⟩, by simp; omega, ap [], ?_⟩
        · rcases Nat.lt_or_ge j i with h | h
          · exact hb j hj h
          · have : j = i := by omega
            subst this
            simp only [fewT, Bool.and_eq_true, decide_eq_true_eq]
            omega
        · simp (config := { implicitDefEqProofs := false, decide := true }) only [go_sem, Nat.reduceEqDiff, Nat.reduceAdd, Nat.reduceMul, Nat.reduceSub, Nat.reduceLT, Nat.reduceLeDiff, Nat.reduceBEq, reduceCtorEq, Int.reduceLT, Int.reduceLE, Int.reduceEq, Int.reduceToNat, Int.reduceAdd, Int.reduceSub, Int.reduceMul, Int.reduceNeg, Nat.reduceLT, ↓reduceIte, AV.renP, LeL, leE, leH, apartH, injH, keptS, ap, AV.ren, AV.renL, AV.renLL, AObj.ren]
          exact eq_wrap (by simp) (by omega) (by omega)
      all_goals
        simp only [decide_eq_true_eq] at h1 h2
        exact hstop (by simp only [fewT, Bool.and_eq_false_iff, decide_eq_false_iff_not]; omega)
    · have hd : ¬ i < l.length := by omega
      simp (config := { implicitDefEqProofs := false, decide := true }) only [go_sem, Nat.reduceEqDiff, Nat.reduceAdd, Nat.reduceMul, Nat.reduceSub, Nat.reduceLT, Nat.reduceLeDiff, Nat.reduceBEq, reduceCtorEq, Int.reduceLT, Int.reduceLE, Int.reduceEq, Int.reduceToNat, Int.reduceAdd, Int.reduceSub, Int.reduceMul, Int.reduceNeg, Nat.reduceLT, ↓reduceIte, c17_L0, hd, List.length_map]
      have hall : l.all fewT = true := by
        rw [List.all_eq_true]
        intro t ht
        obtain ⟨j, hj, rfl⟩ := List.getElem_of_mem ht
        exact hb j hj (by omega)
      simp only [few, hall, Bool.true_and]
      rw [Bool.eq_iff_iff]
      simp only [decide_eq_true_eq]
      omega
end
section
open Go.Aw Go.RowKit
def without (l : List Tm) (path : ByteArray) : List Tm := l.filter fun t => !decide (t.path = path)
theorem without_take {l : List Tm} {i : Nat} (h : i < l.length) (path : ByteArray) : without (l.take (i + 1)) path = if l[i].path = path then without (l.take i) path else without (l.take i) path ++ [l[i]] := by
  rw [take_succ h]
  simp only [without, List.filter_append, List.filter_cons, List.filter_nil]
  by_cases hp : l[i].path = path <;> simp [hp]
set_option maxRecDepth 20000 in
/-- modcertref35.Without -/
theorem f51_obj (l : List Tm) (fl : Flag) (path : ByteArray) (hl : l.length ≤ 1000000) : ObjP Tryz.prog 51 [.isl fl (l.map encTerm), .str path] (fun n => .sl n 0 (without l path).length false) (.row 51 3 ((without l path).map encTerm)) := by
  refine RowP.run (xs := without l path) leaf_term mixed e51 Tryz.func51 c51_ok r51 (by rw [Tryz.ntmps51]; rfl) ?_
  simp (config := { implicitDefEqProofs := false, decide := true }) only [go_sem, Nat.reduceEqDiff, Nat.reduceAdd, Nat.reduceMul, Nat.reduceSub, Nat.reduceLT, Nat.reduceLeDiff, Nat.reduceBEq, reduceCtorEq, Int.reduceLT, Int.reduceLE, Int.reduceEq, Int.reduceToNat, Int.reduceAdd, Int.reduceSub, Int.reduceMul, Int.reduceNeg, Nat.reduceLT, ↓reduceIte, c51]
  refine LL.upS mixed [0, 1] [] l.length (fun _ => True) (fun i => [(6, .int .i64 i), (5, .sl 7 0 (without (l.take i) path).length false)]) (fun i => [(7, .row 51 3 ((without (l.take i) path).map encTerm))]) trivial ⟨ap [(7, 2000)], ?_⟩ (fun i hlt _ => ?_) (fun _ => ?_)
  · simp (config := { implicitDefEqProofs := false, decide := true }) only [go_sem, Nat.reduceEqDiff, Nat.reduceAdd, Nat.reduceMul, Nat.reduceSub, Nat.reduceLT, Nat.reduceLeDiff, Nat.reduceBEq, reduceCtorEq, Int.reduceLT, Int.reduceLE, Int.reduceEq, Int.reduceToNat, Int.reduceAdd, Int.reduceSub, Int.reduceMul, Int.reduceNeg, Nat.reduceLT, ↓reduceIte, AV.renP, LeL, leE, leH, apartH, injH, keptS, ap, AV.ren, AV.renL, AV.renLL, AObj.ren, without, List.filter_nil]
  · have hi : i < 4611686018427387904 := by omega
    have hle : (without (l.take i) path).length ≤ i := Nat.le_trans (List.length_filter_le _ _) (by simp; omega)
    have hsz : ((without (l.take i) path).length + 1) * 48 ≤ 140737488355328 := by omega
    have hw := without_take hlt path
    cases h1 : decide (l[i].path = path) <;> simp (config := { implicitDefEqProofs := false, decide := true }) only [go_sem, Nat.reduceEqDiff, Nat.reduceAdd, Nat.reduceMul, Nat.reduceSub, Nat.reduceLT, Nat.reduceLeDiff, Nat.reduceBEq, reduceCtorEq, Int.reduceLT, Int.reduceLE, Int.reduceEq, Int.reduceToNat, Int.reduceAdd, Int.reduceSub, Int.reduceMul, Int.reduceNeg, Nat.reduceLT, ↓reduceIte, c51_L0, hlt, h1, encTerm, bytes_eq, norm_terms, norm_spans, norm_sels, len_terms, len_spans, len_sels, hasLL_terms, hasLL_spans, renLL_terms, renLL_spans, leaf_terms, leaf_spans, leaf_sels, hsz]
    · rw [if_neg (of_decide_eq_false h1)] at hw
      exact ⟨ap [(7, 7006)], by simp (config := { implicitDefEqProofs := false, decide := true }) only [go_sem, Nat.reduceEqDiff, Nat.reduceAdd, Nat.reduceMul, Nat.reduceSub, Nat.reduceLT, Nat.reduceLeDiff, Nat.reduceBEq, reduceCtorEq, Int.reduceLT, Int.reduceLE, Int.reduceEq, Int.reduceToNat, Int.reduceAdd, Int.reduceSub, Int.reduceMul, Int.reduceNeg, Nat.reduceLT, ↓reduceIte, AV.renP, LeL, leE, leH, apartH, injH, keptS, ap, AV.ren, AV.renL, AV.renLL, AObj.ren, norm_terms, norm_spans, norm_sels, len_terms, len_spans, len_sels, hasLL_terms, hasLL_spans, renLL_terms, renLL_spans, leaf_terms, leaf_spans, leaf_sels, hw, encTerm, wrap_nat hi]⟩
    · rw [if_pos (of_decide_eq_true h1)] at hw
      exact ⟨ap [], by simp (config := { implicitDefEqProofs := false, decide := true }) only [go_sem, Nat.reduceEqDiff, Nat.reduceAdd, Nat.reduceMul, Nat.reduceSub, Nat.reduceLT, Nat.reduceLeDiff, Nat.reduceBEq, reduceCtorEq, Int.reduceLT, Int.reduceLE, Int.reduceEq, Int.reduceToNat, Int.reduceAdd, Int.reduceSub, Int.reduceMul, Int.reduceNeg, Nat.reduceLT, ↓reduceIte, AV.renP, LeL, leE, leH, apartH, injH, keptS, ap, AV.ren, AV.renL, AV.renLL, AObj.ren, norm_terms, norm_spans, norm_sels, len_terms, len_spans, len_sels, hasLL_terms, hasLL_spans, renLL_terms, renLL_spans, leaf_terms, leaf_spans, leaf_sels, hw, encTerm, wrap_nat hi]⟩
  · simp (config := { implicitDefEqProofs := false, decide := true }) only [go_sem, Nat.reduceEqDiff, Nat.reduceAdd, Nat.reduceMul, Nat.reduceSub, Nat.reduceLT, Nat.reduceLeDiff, Nat.reduceBEq, reduceCtorEq, Int.reduceLT, Int.reduceLE, Int.reduceEq, Int.reduceToNat, Int.reduceAdd, Int.reduceSub, Int.reduceMul, Int.reduceNeg, Nat.reduceLT, ↓reduceIte, c51_L0, norm_terms, norm_spans, norm_sels, len_terms, len_spans, len_sels, hasLL_terms, hasLL_spans, renLL_terms, renLL_spans, leaf_terms, leaf_spans, leaf_sels, List.take_length]
    exact ⟨7, by simp (config := { implicitDefEqProofs := false, decide := true }) only [go_sem, Nat.reduceEqDiff, Nat.reduceAdd, Nat.reduceMul, Nat.reduceSub, Nat.reduceLT, Nat.reduceLeDiff, Nat.reduceBEq, reduceCtorEq, Int.reduceLT, Int.reduceLE, Int.reduceEq, Int.reduceToNat, Int.reduceAdd, Int.reduceSub, Int.reduceMul, Int.reduceNeg, Nat.reduceLT, ↓reduceIte], by simp (config := { implicitDefEqProofs := false, decide := true }) only [go_sem, Nat.reduceEqDiff, Nat.reduceAdd, Nat.reduceMul, Nat.reduceSub, Nat.reduceLT, Nat.reduceLeDiff, Nat.reduceBEq, reduceCtorEq, Int.reduceLT, Int.reduceLE, Int.reduceEq, Int.reduceToNat, Int.reduceAdd, Int.reduceSub, Int.reduceMul, Int.reduceNeg, Nat.reduceLT, ↓reduceIte]⟩
end
section
open Go.Aw Go.RowKit
theorem ite_max (a b : Int) : (if a < b then b else a) = max a b := by omega
theorem ite_min (a b : Int) : (if a < b then a else b) = min a b := by omega
theorem clipped_take {s : Sp} {i : Nat} (h : i < s.length) : clipped (s.take (i + 1)) = if okB (clip s[i]) = true then clipped (s.take i) ++ [clip s[i]] else clipped (s.take i) := by
  rw [take_succ h]
  simp only [clipped, List.map_append, List.map_cons, List.map_nil, List.filter_append, List.filter_cons, List.filter_nil]
  by_cases hp : okB (clip s[i]) = true <;> simp [hp]
structure Ins (s : Sp) (i : Nat) (so : Sp) : Prop where
  ok : ∀ x ∈ so, okS x
  sorted : so.Pairwise (fun x y => x.1 ≤ y.1)
  any : ∀ p, so.any (inSpan p) = (clipped (s.take i)).any (inSpan p)
  len : so.length ≤ i
theorem Ins.put {s so : Sp} {i k : Nat} (h : Ins s i so) (hlt : i < s.length) (hok : okB (clip s[i]) = true) (hk : k ≤ so.length) (hup : ∀ j (hj : j < so.length), k ≤ j → (clip s[i]).1 < so[j].1) (hlo : ∀ (hj : k - 1 < so.length), 0 < k → so[k - 1].1 ≤ (clip s[i]).1) :
    Ins s (i + 1) (so.take k ++ clip s[i] :: so.drop k) := by
  have hx : okS (clip s[i]) := by
    refine clipped_ok s _ ?_
    simp only [clipped, List.mem_filter, List.mem_map]
    exact ⟨⟨s[i], List.getElem_mem hlt, rfl⟩, hok⟩
  have htd : so.take k ++ so.drop k = so := List.take_append_drop k so
  have hs := h.sorted
  rw [← htd, List.pairwise_append] at hs
  refine ⟨fun x hx' => ?_, List.pairwise_append.2 ⟨hs.1, List.pairwise_cons.2 ⟨fun y hy => ?_, hs.2.1⟩, fun a ha b hb => ?_⟩, fun p => ?_, ?_⟩
  · rcases List.mem_append.1 hx' with h1 | h1
    · exact h.ok x (List.mem_of_mem_take h1)
    · rcases List.mem_cons.1 h1 with rfl | h1
      · exact hx
      · exact h.ok x (List.mem_of_mem_drop h1)
  · obtain ⟨j, hj, rfl⟩ := List.getElem_of_mem hy
    rw [List.getElem_drop]
    simp only [List.length_drop] at hj
    exact Int.le_of_lt (hup (k + j) (by omega) (by omega))
  · rcases List.mem_cons.1 hb with rfl | hb
    · obtain ⟨j, hj, rfl⟩ := List.getElem_of_mem ha
      simp only [List.length_take] at hj
      rw [List.getElem_take]
      have h1 := hlo (by omega) (by omega)
      rcases Nat.lt_or_ge j (k - 1) with hjk | hjk
      · exact Int.le_trans (List.pairwise_iff_getElem.1 h.sorted j (k - 1) (by omega) (by omega) hjk) h1
      · have : j = k - 1 := by omega
        subst this
        exact h1
    · exact hs.2.2 a ha b hb
  · rw [clipped_take hlt, if_pos hok, List.any_append, List.any_append, ← h.any p]
    conv => rhs; rw [← htd, List.any_append]
    simp only [List.any_cons, List.any_nil, Bool.or_false]
    cases (so.take k).any (inSpan p) <;> cases (so.drop k).any (inSpan p) <;> cases inSpan p (clip s[i]) <;> rfl
  · have := h.len
    simp only [List.length_append, List.length_cons, List.length_take, List.length_drop]
    omega
theorem Ins.skip {s so : Sp} {i : Nat} (h : Ins s i so) (hlt : i < s.length) (hok : okB (clip s[i]) = false) : Ins s (i + 1) so :=
  ⟨h.ok, h.sorted, fun p => by rw [clipped_take hlt, if_neg (by simp [hok])]; exact h.any p, Nat.le_succ_of_le h.len⟩
set_option maxRecDepth 20000 in
set_option maxHeartbeats 1000000 in
/-- modcertref31.Canonical -/
theorem f32_pure (s : Sp) (fl : Flag) (hl : s.length ≤ 1000000000) : PureP Tryz.prog 32 [.isl fl (s.map encSpan)] (· = .isl .unk ((canonOf (has s)).map encSpan)) := by
  refine PureE.run mixed e32 Tryz.func32 c32_ok r32 (by rw [Tryz.ntmps32]; rfl) rfl ?_
  simp (config := { implicitDefEqProofs := false, decide := true }) only [go_sem, Nat.reduceEqDiff, Nat.reduceAdd, Nat.reduceMul, Nat.reduceSub, Nat.reduceLT, Nat.reduceLeDiff, Nat.reduceBEq, reduceCtorEq, Int.reduceLT, Int.reduceLE, Int.reduceEq, Int.reduceToNat, Int.reduceAdd, Int.reduceSub, Int.reduceMul, Int.reduceNeg, Nat.reduceLT, ↓reduceIte, c32]
  refine LL.upkS mixed [0] [] s.length ([] : Sp) (fun i so => Ins s i so) (fun i so => [(4, .int .i64 i), (3, .sl 7 0 so.length false)]) (fun i so => [(7, .row 65 2 (so.map encSpan))]) ⟨by simp, .nil, by simp [clipped], by simp⟩ ⟨ap [(7, 2000)], ?_⟩ (fun i so hlt hI => ?_) (fun so hI => ?_)
  · simp (config := { implicitDefEqProofs := false, decide := true }) only [go_sem, Nat.reduceEqDiff, Nat.reduceAdd, Nat.reduceMul, Nat.reduceSub, Nat.reduceLT, Nat.reduceLeDiff, Nat.reduceBEq, reduceCtorEq, Int.reduceLT, Int.reduceLE, Int.reduceEq, Int.reduceToNat, Int.reduceAdd, Int.reduceSub, Int.reduceMul, Int.reduceNeg, Nat.reduceLT, ↓reduceIte, AV.renP, LeL, leE, leH, apartH, injH, keptS, ap, AV.ren, AV.renL, AV.renLL, AObj.ren]
  · have hi : i < 4611686018427387904 := by omega
    have hlen := hI.len
    simp (config := { implicitDefEqProofs := false, decide := true }) only [go_sem, Nat.reduceEqDiff, Nat.reduceAdd, Nat.reduceMul, Nat.reduceSub, Nat.reduceLT, Nat.reduceLeDiff, Nat.reduceBEq, reduceCtorEq, Int.reduceLT, Int.reduceLE, Int.reduceEq, Int.reduceToNat, Int.reduceAdd, Int.reduceSub, Int.reduceMul, Int.reduceNeg, Nat.reduceLT, ↓reduceIte, c32_L1, hlt, encSpan, ite_max, ite_min, norm_terms, norm_spans, norm_sels, len_terms, len_spans, len_sels, hasLL_terms, hasLL_spans, renLL_terms, renLL_spans, leaf_terms, leaf_spans, leaf_sels]
    refine ⟨fun hge => ?_, fun hlt2 => ?_⟩
    · exact ⟨so, hI.skip hlt (by unfold okB clip; exact decide_eq_false (by simp only; omega)), ap [], by simp (config := { implicitDefEqProofs := false, decide := true }) only [go_sem, Nat.reduceEqDiff, Nat.reduceAdd, Nat.reduceMul, Nat.reduceSub, Nat.reduceLT, Nat.reduceLeDiff, Nat.reduceBEq, reduceCtorEq, Int.reduceLT, Int.reduceLE, Int.reduceEq, Int.reduceToNat, Int.reduceAdd, Int.reduceSub, Int.reduceMul, Int.reduceNeg, Nat.reduceLT, ↓reduceIte, AV.renP, LeL, leE, leH, apartH, injH, keptS, ap, AV.ren, AV.renL, AV.renLL, AObj.ren, norm_terms, norm_spans, norm_sels, len_terms, len_spans, len_sels, hasLL_terms, hasLL_spans, renLL_terms, renLL_spans, leaf_terms, leaf_spans, leaf_sels, wrap_nat hi]⟩
    · have hok : okB (clip s[i]) = true := by unfold okB clip; exact decide_eq_true (by simp only; omega)
      refine LL.introS mixed [0, 3, 4, 5] [7, 6013] (fun k => k) so.length (fun k => k ≤ so.length ∧ ∀ j (hj : j < so.length), k ≤ j → (clip s[i]).1 < so[j].1) (fun k => [(6, .int .i64 k)]) (fun _ => []) ⟨Nat.le_refl _, fun j hj h => by omega⟩ ⟨ap [], by simp (config := { implicitDefEqProofs := false, decide := true }) only [go_sem, Nat.reduceEqDiff, Nat.reduceAdd, Nat.reduceMul, Nat.reduceSub, Nat.reduceLT, Nat.reduceLeDiff, Nat.reduceBEq, reduceCtorEq, Int.reduceLT, Int.reduceLE, Int.reduceEq, Int.reduceToNat, Int.reduceAdd, Int.reduceSub, Int.reduceMul, Int.reduceNeg, Nat.reduceLT, ↓reduceIte, AV.renP, LeL, leE, leH, apartH, injH, keptS, ap, AV.ren, AV.renL, AV.renLL, AObj.ren, norm_terms, norm_spans, norm_sels, len_terms, len_spans, len_sels, hasLL_terms, hasLL_spans, renLL_terms, renLL_spans, leaf_terms, leaf_spans, leaf_sels]⟩ (fun k hk => ?_)
      obtain ⟨hk, hup⟩ := hk
      rcases k with _ | k
      · simp (config := { implicitDefEqProofs := false, decide := true }) only [go_sem, Nat.reduceEqDiff, Nat.reduceAdd, Nat.reduceMul, Nat.reduceSub, Nat.reduceLT, Nat.reduceLeDiff, Nat.reduceBEq, reduceCtorEq, Int.reduceLT, Int.reduceLE, Int.reduceEq, Int.reduceToNat, Int.reduceAdd, Int.reduceSub, Int.reduceMul, Int.reduceNeg, Nat.reduceLT, ↓reduceIte, c32_L0, wrap_nat hi, Nat.zero_le, norm_terms, norm_spans, norm_sels, len_terms, len_spans, len_sels, hasLL_terms, hasLL_spans, renLL_terms, renLL_spans, leaf_terms, leaf_spans, leaf_sels]
        exact ⟨by omega, by omega, _, hI.put hlt hok hk hup (fun _ h => absurd h (by omega)), ap [(7, 11010)], by simp (config := { implicitDefEqProofs := false, decide := true }) only [go_sem, Nat.reduceEqDiff, Nat.reduceAdd, Nat.reduceMul, Nat.reduceSub, Nat.reduceLT, Nat.reduceLeDiff, Nat.reduceBEq, reduceCtorEq, Int.reduceLT, Int.reduceLE, Int.reduceEq, Int.reduceToNat, Int.reduceAdd, Int.reduceSub, Int.reduceMul, Int.reduceNeg, Nat.reduceLT, ↓reduceIte, AV.renP, LeL, leE, leH, apartH, injH, keptS, ap, AV.ren, AV.renL, AV.renLL, AObj.ren, norm_terms, norm_spans, norm_sels, len_terms, len_spans, len_sels, hasLL_terms, hasLL_spans, renLL_terms, renLL_spans, leaf_terms, leaf_spans, leaf_sels, wrap_nat hi, encSpan, clip, Int.min_comm]⟩
      · have hwp : IntKind.i64.wrap (((k + 1 : Nat) : Int) - 1) = k := by rw [wrap_i64 (by omega) (by omega)]; omega
        have hk1 : k < so.length := by omega
        by_cases hc : max 0 s[i].1 < so[k].1
        · simp (config := { implicitDefEqProofs := false, decide := true }) only [go_sem, Nat.reduceEqDiff, Nat.reduceAdd, Nat.reduceMul, Nat.reduceSub, Nat.reduceLT, Nat.reduceLeDiff, Nat.reduceBEq, reduceCtorEq, Int.reduceLT, Int.reduceLE, Int.reduceEq, Int.reduceToNat, Int.reduceAdd, Int.reduceSub, Int.reduceMul, Int.reduceNeg, Nat.reduceLT, ↓reduceIte, c32_L0, wrap_nat hi, hwp, hk1, encSpan, hc, norm_terms, norm_spans, norm_sels, len_terms, len_spans, len_sels, hasLL_terms, hasLL_spans, renLL_terms, renLL_spans, leaf_terms, leaf_spans, leaf_sels]
          refine ⟨k, by omega, ⟨by omega, fun j hj hkj => ?_⟩, ap [], by simp (config := { implicitDefEqProofs := false, decide := true }) only [go_sem, Nat.reduceEqDiff, Nat.reduceAdd, Nat.reduceMul, Nat.reduceSub, Nat.reduceLT, Nat.reduceLeDiff, Nat.reduceBEq, reduceCtorEq, Int.reduceLT, Int.reduceLE, Int.reduceEq, Int.reduceToNat, Int.reduceAdd, Int.reduceSub, Int.reduceMul, Int.reduceNeg, Nat.reduceLT, ↓reduceIte, AV.renP, LeL, leE, leH, apartH, injH, keptS, ap, AV.ren, AV.renL, AV.renLL, AObj.ren, norm_terms, norm_spans, norm_sels, len_terms, len_spans, len_sels, hasLL_terms, hasLL_spans, renLL_terms, renLL_spans, leaf_terms, leaf_spans, leaf_sels]⟩
          rcases Nat.lt_or_ge k j with h | h
          · exact hup j hj (by omega)
          · have : j = k := by omega
            subst this; exact hc
        · simp (config := { implicitDefEqProofs := false, decide := true }) only [go_sem, Nat.reduceEqDiff, Nat.reduceAdd, Nat.reduceMul, Nat.reduceSub, Nat.reduceLT, Nat.reduceLeDiff, Nat.reduceBEq, reduceCtorEq, Int.reduceLT, Int.reduceLE, Int.reduceEq, Int.reduceToNat, Int.reduceAdd, Int.reduceSub, Int.reduceMul, Int.reduceNeg, Nat.reduceLT, ↓reduceIte, c32_L0, wrap_nat hi, hwp, hk, hk1, encSpan, hc, norm_terms, norm_spans, norm_sels, len_terms, len_spans, len_sels, hasLL_terms, hasLL_spans, renLL_terms, renLL_spans, leaf_terms, leaf_spans, leaf_sels]
          exact ⟨by omega, by omega, _, hI.put hlt hok hk hup (fun _ _ => Int.not_lt.1 hc), ap [(7, 11010)], by simp (config := { implicitDefEqProofs := false, decide := true }) only [go_sem, Nat.reduceEqDiff, Nat.reduceAdd, Nat.reduceMul, Nat.reduceSub, Nat.reduceLT, Nat.reduceLeDiff, Nat.reduceBEq, reduceCtorEq, Int.reduceLT, Int.reduceLE, Int.reduceEq, Int.reduceToNat, Int.reduceAdd, Int.reduceSub, Int.reduceMul, Int.reduceNeg, Nat.reduceLT, ↓reduceIte, AV.renP, LeL, leE, leH, apartH, injH, keptS, ap, AV.ren, AV.renL, AV.renLL, AObj.ren, norm_terms, norm_spans, norm_sels, len_terms, len_spans, len_sels, hasLL_terms, hasLL_spans, renLL_terms, renLL_spans, leaf_terms, leaf_spans, leaf_sels, wrap_nat hi, encSpan, clip, Int.min_comm, hk]⟩
  · simp (config := { implicitDefEqProofs := false, decide := true }) only [go_sem, Nat.reduceEqDiff, Nat.reduceAdd, Nat.reduceMul, Nat.reduceSub, Nat.reduceLT, Nat.reduceLeDiff, Nat.reduceBEq, reduceCtorEq, Int.reduceLT, Int.reduceLE, Int.reduceEq, Int.reduceToNat, Int.reduceAdd, Int.reduceSub, Int.reduceMul, Int.reduceNeg, Nat.reduceLT, ↓reduceIte, c32_L1, norm_terms, norm_spans, norm_sels, len_terms, len_spans, len_sels, hasLL_terms, hasLL_spans, renLL_terms, renLL_spans, leaf_terms, leaf_spans, leaf_sels]
    refine LL.upS mixed [3] [7] so.length (fun _ => True) (fun i => [(8, .int .i64 i), (7, .sl 8 0 (joined (so.take i)).length false)]) (fun i => [(8, .row 65 2 ((joined (so.take i)).map encSpan))]) trivial ⟨ap [(8, 12000)], ?_⟩ (fun i hlt _ => ?_) (fun _ => ?_)
    · simp (config := { implicitDefEqProofs := false, decide := true }) only [go_sem, Nat.reduceEqDiff, Nat.reduceAdd, Nat.reduceMul, Nat.reduceSub, Nat.reduceLT, Nat.reduceLeDiff, Nat.reduceBEq, reduceCtorEq, Int.reduceLT, Int.reduceLE, Int.reduceEq, Int.reduceToNat, Int.reduceAdd, Int.reduceSub, Int.reduceMul, Int.reduceNeg, Nat.reduceLT, ↓reduceIte, AV.renP, LeL, leE, leH, apartH, injH, keptS, ap, AV.ren, AV.renL, AV.renLL, AObj.ren, norm_terms, norm_spans, norm_sels, len_terms, len_spans, len_sels, hasLL_terms, hasLL_spans, renLL_terms, renLL_spans, leaf_terms, leaf_spans, leaf_sels, joined, List.foldl_nil]
    · have hi : i < 4611686018427387904 := by have := hI.len; omega
      have hjl : (joined (so.take i)).length ≤ i := Nat.le_trans (joined_len _) (by simp; omega)
      have hT : joined (so.take (i + 1)) = mstep (joined (so.take i)) so[i] := by rw [take_succ hlt, joined_snoc]
      generalize hJ : joined (so.take i) = J at *
      rcases List.eq_nil_or_concat J with rfl | ⟨init, y, rfl⟩
      · rw [mstep_nil] at hT
        simp (config := { implicitDefEqProofs := false, decide := true }) only [go_sem, Nat.reduceEqDiff, Nat.reduceAdd, Nat.reduceMul, Nat.reduceSub, Nat.reduceLT, Nat.reduceLeDiff, Nat.reduceBEq, reduceCtorEq, Int.reduceLT, Int.reduceLE, Int.reduceEq, Int.reduceToNat, Int.reduceAdd, Int.reduceSub, Int.reduceMul, Int.reduceNeg, Nat.reduceLT, ↓reduceIte, c32_L2, hlt, encSpan, norm_terms, norm_spans, norm_sels, len_terms, len_spans, len_sels, hasLL_terms, hasLL_spans, renLL_terms, renLL_spans, leaf_terms, leaf_spans, leaf_sels]
        exact ⟨ap [(8, 19006)], by simp (config := { implicitDefEqProofs := false, decide := true }) only [go_sem, Nat.reduceEqDiff, Nat.reduceAdd, Nat.reduceMul, Nat.reduceSub, Nat.reduceLT, Nat.reduceLeDiff, Nat.reduceBEq, reduceCtorEq, Int.reduceLT, Int.reduceLE, Int.reduceEq, Int.reduceToNat, Int.reduceAdd, Int.reduceSub, Int.reduceMul, Int.reduceNeg, Nat.reduceLT, ↓reduceIte, AV.renP, LeL, leE, leH, apartH, injH, keptS, ap, AV.ren, AV.renL, AV.renLL, AObj.ren, norm_terms, norm_spans, norm_sels, len_terms, len_spans, len_sels, hasLL_terms, hasLL_spans, renLL_terms, renLL_spans, leaf_terms, leaf_spans, leaf_sels, wrap_nat hi, hT, encSpan]⟩
      · rw [List.concat_eq_append] at *
        rw [mstep_snoc] at hT
        have hlen : init.length < 1000000000 := by have := hI.len; simp at hjl; omega
        have hwp := wrap_pred1 (n := init.length) (by omega)
        by_cases hc : so[i].1 ≤ y.2
        · rw [if_pos hc] at hT
          simp (config := { implicitDefEqProofs := false, decide := true }) only [go_sem, Nat.reduceEqDiff, Nat.reduceAdd, Nat.reduceMul, Nat.reduceSub, Nat.reduceLT, Nat.reduceLeDiff, Nat.reduceBEq, reduceCtorEq, Int.reduceLT, Int.reduceLE, Int.reduceEq, Int.reduceToNat, Int.reduceAdd, Int.reduceSub, Int.reduceMul, Int.reduceNeg, Nat.reduceLT, ↓reduceIte, c32_L2, hlt, encSpan, hwp, hc, ite_max, norm_terms, norm_spans, norm_sels, len_terms, len_spans, len_sels, hasLL_terms, hasLL_spans, renLL_terms, renLL_spans, leaf_terms, leaf_spans, leaf_sels]
          exact ⟨ap [], by simp (config := { implicitDefEqProofs := false, decide := true }) only [go_sem, Nat.reduceEqDiff, Nat.reduceAdd, Nat.reduceMul, Nat.reduceSub, Nat.reduceLT, Nat.reduceLeDiff, Nat.reduceBEq, reduceCtorEq, Int.reduceLT, Int.reduceLE, Int.reduceEq, Int.reduceToNat, Int.reduceAdd, Int.reduceSub, Int.reduceMul, Int.reduceNeg, Nat.reduceLT, ↓reduceIte, AV.renP, LeL, leE, leH, apartH, injH, keptS, ap, AV.ren, AV.renL, AV.renLL, AObj.ren, norm_terms, norm_spans, norm_sels, len_terms, len_spans, len_sels, hasLL_terms, hasLL_spans, renLL_terms, renLL_spans, leaf_terms, leaf_spans, leaf_sels, wrap_nat hi, hT, encSpan]⟩
        · rw [if_neg hc] at hT
          simp (config := { implicitDefEqProofs := false, decide := true }) only [go_sem, Nat.reduceEqDiff, Nat.reduceAdd, Nat.reduceMul, Nat.reduceSub, Nat.reduceLT, Nat.reduceLeDiff, Nat.reduceBEq, reduceCtorEq, Int.reduceLT, Int.reduceLE, Int.reduceEq, Int.reduceToNat, Int.reduceAdd, Int.reduceSub, Int.reduceMul, Int.reduceNeg, Nat.reduceLT, ↓reduceIte, c32_L2, hlt, encSpan, hwp, hc, norm_terms, norm_spans, norm_sels, len_terms, len_spans, len_sels, hasLL_terms, hasLL_spans, renLL_terms, renLL_spans, leaf_terms, leaf_spans, leaf_sels]
          exact ⟨by omega, ap [(8, 19006)], by simp (config := { implicitDefEqProofs := false, decide := true }) only [go_sem, Nat.reduceEqDiff, Nat.reduceAdd, Nat.reduceMul, Nat.reduceSub, Nat.reduceLT, Nat.reduceLeDiff, Nat.reduceBEq, reduceCtorEq, Int.reduceLT, Int.reduceLE, Int.reduceEq, Int.reduceToNat, Int.reduceAdd, Int.reduceSub, Int.reduceMul, Int.reduceNeg, Nat.reduceLT, ↓reduceIte, AV.renP, LeL, leE, leH, apartH, injH, keptS, ap, AV.ren, AV.renL, AV.renLL, AObj.ren, norm_terms, norm_spans, norm_sels, len_terms, len_spans, len_sels, hasLL_terms, hasLL_spans, renLL_terms, renLL_spans, leaf_terms, leaf_spans, leaf_sels, wrap_nat hi, hT, encSpan]⟩
    · have he : joined so = canonOf (has s) := joined_eq hI.ok hI.sorted fun p => by rw [hI.any, List.take_length, clipped_any]
      simp (config := { implicitDefEqProofs := false, decide := true }) only [go_sem, Nat.reduceEqDiff, Nat.reduceAdd, Nat.reduceMul, Nat.reduceSub, Nat.reduceLT, Nat.reduceLeDiff, Nat.reduceBEq, reduceCtorEq, Int.reduceLT, Int.reduceLE, Int.reduceEq, Int.reduceToNat, Int.reduceAdd, Int.reduceSub, Int.reduceMul, Int.reduceNeg, Nat.reduceLT, ↓reduceIte, c32_L2, norm_terms, norm_spans, norm_sels, len_terms, len_spans, len_sels, hasLL_terms, hasLL_spans, renLL_terms, renLL_spans, leaf_terms, leaf_spans, leaf_sels, List.take_length, he]
end
section
open Go.Aw Go.RowKit
/-! ### Operations on sets -/
def cmpl (s : Sp) (p : Int) : Bool := decide (0 ≤ p) && decide (p < 1000000) && !has s p
def uni (l : List Sp) (p : Int) : Bool := l.any fun s => has s p
def inter (l : List Sp) (p : Int) : Bool := decide (0 ≤ p) && decide (p < 1000000) && l.all fun s => has s p
def minus (a b : Sp) (p : Int) : Bool := has a p && !has b p
theorem has_range {s : Sp} {p : Int} (h : has s p = true) : 0 ≤ p ∧ p < 1000000 := by
  simp only [has, Bool.and_eq_true, decide_eq_true_eq] at h
  exact h.1
theorem compl_canon (s : Sp) : Canon (compl1 0 (canonOf (has s))) := by
  have hc := canonOf_canon (has s)
  exact (compl1_ok _ 0 (by omega) (by omega) hc (fun x hx => (hc.1 x hx).1)).1
theorem compl_eq (s : Sp) : compl1 0 (canonOf (has s)) = canonOf (cmpl s) := compl1_eq s
theorem has_cmpl (s : Sp) (p : Int) : has (canonOf (cmpl s)) p = cmpl s p := by
  have hc := canonOf_canon (has s)
  obtain ⟨k1, k2, k3⟩ := compl1_ok _ 0 (by omega) (by omega) hc (fun x hx => (hc.1 x hx).1)
  rw [← compl_eq, any_range k1.1, k3, ← any_range hc.1, has_canonOf]
  rfl
theorem has_flat (l : List Sp) (p : Int) : has l.flatten p = uni l p := by
  unfold uni
  induction l with
  | nil => simp [has]
  | cons s l ih =>
    rw [List.any_cons, ← ih]
    unfold has
    rw [List.flatten_cons, List.any_append]
    cases decide (0 ≤ p) <;> cases decide (p < 1000000) <;> simp
theorem cmpl_def (s : Sp) (p : Int) : cmpl s p = (decide (0 ≤ p) && decide (p < 1000000) && !has s p) := rfl
theorem inter_eq (l : List Sp) : canonOf (cmpl (canonOf (has (l.map fun s => canonOf (cmpl s)).flatten))) = canonOf (inter l) := by
  refine canonOf_congr fun p => ?_
  have h0 : uni (l.map fun s => canonOf (cmpl s)) p = l.any fun s => cmpl s p := by
    unfold uni
    rw [List.any_map]
    congr 1; funext s; exact has_cmpl s p
  rw [cmpl_def, has_canonOf, has_flat, h0]
  unfold inter
  cases h1 : decide (0 ≤ p) <;> cases h2 : decide (p < 1000000) <;> simp only [Bool.false_and, Bool.and_false, Bool.true_and]
  have : ∀ s, cmpl s p = !has s p := fun s => by rw [cmpl_def, h1, h2]; simp
  simp only [this, List.any_eq_not_all_not, Bool.not_not]
theorem minus_eq (a b : Sp) : canonOf (inter [a, canonOf (cmpl b)]) = canonOf (minus a b) := by
  refine canonOf_congr fun p => ?_
  unfold inter minus
  simp only [List.all_cons, List.all_nil, Bool.and_true, has_cmpl, cmpl]
  cases h : has a p with
  | false => simp
  | true =>
    have := has_range h
    simp [this.1, this.2]
theorem has_inter (l : List Sp) (p : Int) : has (canonOf (inter l)) p = inter l p := by
  have h1 := has_cmpl (canonOf (has (l.map fun s => canonOf (cmpl s)).flatten)) p
  rw [inter_eq] at h1
  rw [h1, cmpl_def, has_canonOf, has_flat]
  have h0 : uni (l.map fun s => canonOf (cmpl s)) p = l.any fun s => cmpl s p := by
    unfold uni
    rw [List.any_map]
    congr 1; funext s; exact has_cmpl s p
  rw [h0]
  unfold inter
  cases h1 : decide (0 ≤ p) <;> cases h2 : decide (p < 1000000) <;> simp only [Bool.false_and, Bool.and_false, Bool.true_and]
  have : ∀ s, cmpl s p = !has s p := fun s => by rw [cmpl_def, h1, h2]; simp
  simp only [this, List.any_eq_not_all_not, Bool.not_not]
theorem has_minus (a b : Sp) (p : Int) : has (canonOf (minus a b)) p = minus a b p := by
  rw [← minus_eq, has_inter]
  unfold inter minus
  simp only [List.all_cons, List.all_nil, Bool.and_true, has_cmpl, cmpl]
  cases h : has a p with
  | false => simp
  | true =>
    have := has_range h
    simp [this.1, this.2]
theorem has_uni (l : List Sp) (p : Int) : has (canonOf (uni l)) p = uni l p := by
  have : canonOf (uni l) = canonOf (has l.flatten) := canonOf_congr fun p => (has_flat l p).symm
  rw [this, has_canonOf, has_flat]
noncomputable def subs (a b : Sp) : Bool := decide ((canonOf (minus a b)).length = 0)
def encSet (s : Sp) : List AV := [.isl .unk (s.map encSpan)]
theorem leaf_set (s : Sp) : AV.leafL (encSet s) = true := rfl
theorem leaf_sets (l : List Sp) : AV.leafLL (l.map encSet) = true := leafLL_map encSet leaf_set l
theorem norm_sets (l : List Sp) : AV.normLL (l.map encSet) = l.map encSet := normLL_leaf (fun x => by
  simp only [encSet, AV.normL, AV.norm, norm_spans]) l
theorem len_sets (l : List Sp) : lenAll 1 (l.map encSet) = True := lenAll_map (enc := encSet) (fun _ => rfl) l
theorem hasLL_sets (n : Nat) (l : List Sp) : AV.hasLL n (l.map encSet) = false := hasLL_leaf leaf_set l
theorem renLL_sets (f : Nat → Nat) (l : List Sp) : AV.renLL f (l.map encSet) = l.map encSet := renLL_leaf leaf_set l
set_option maxHeartbeats 400000 in
/-- modcertref31.Complement -/
theorem f45_pure (s : Sp) (fl : Flag) (hl : s.length ≤ 1000000000) : PureP Tryz.prog 45 [.isl fl (s.map encSpan)] (· = .isl .unk ((canonOf (cmpl s)).map encSpan)) := by
  refine PureE.run mixed e45 Tryz.func45 c45_ok r45 (by rw [Tryz.ntmps45]; rfl) rfl ?_
  simp (config := { implicitDefEqProofs := false, decide := true }) only [go_sem, Nat.reduceEqDiff, Nat.reduceAdd, Nat.reduceMul, Nat.reduceSub, Nat.reduceLT, Nat.reduceLeDiff, Nat.reduceBEq, reduceCtorEq, Int.reduceLT, Int.reduceLE, Int.reduceEq, Int.reduceToNat, Int.reduceAdd, Int.reduceSub, Int.reduceMul, Int.reduceNeg, Nat.reduceLT, ↓reduceIte, c45]
  refine LC.val (f32_pure s fl hl) ?_
  have hcl := canon_len (compl_canon s)
  have he := compl_eq s
  have hc := canonOf_len (has s)
  generalize hC : canonOf (has s) = c at *
  simp (config := { implicitDefEqProofs := false, decide := true }) only [go_sem, Nat.reduceEqDiff, Nat.reduceAdd, Nat.reduceMul, Nat.reduceSub, Nat.reduceLT, Nat.reduceLeDiff, Nat.reduceBEq, reduceCtorEq, Int.reduceLT, Int.reduceLE, Int.reduceEq, Int.reduceToNat, Int.reduceAdd, Int.reduceSub, Int.reduceMul, Int.reduceNeg, Nat.reduceLT, ↓reduceIte]
  refine LL.upkS mixed [3] [] c.length (([], 0) : Sp × Int) (fun i k => k.1 ++ compl1 k.2 (c.drop i) = compl1 0 c) (fun i k => [(6, .int .i64 i), (5, .int .i64 k.2), (4, .sl 7 0 k.1.length false)]) (fun i k => [(7, .row 65 2 (k.1.map encSpan))]) (by simp) ⟨ap [(7, 3000)], by simp (config := { implicitDefEqProofs := false, decide := true }) only [go_sem, Nat.reduceEqDiff, Nat.reduceAdd, Nat.reduceMul, Nat.reduceSub, Nat.reduceLT, Nat.reduceLeDiff, Nat.reduceBEq, reduceCtorEq, Int.reduceLT, Int.reduceLE, Int.reduceEq, Int.reduceToNat, Int.reduceAdd, Int.reduceSub, Int.reduceMul, Int.reduceNeg, Nat.reduceLT, ↓reduceIte, AV.renP, LeL, leE, leH, apartH, injH, keptS, ap, AV.ren, AV.renL, AV.renLL, AObj.ren]⟩ (fun i k hlt hI => ?_) (fun k hI => ?_)
  · obtain ⟨out, a⟩ := k
    simp only at hI
    have hi : i < 4611686018427387904 := by omega
    have hlen : out.length ≤ 1000000 := by
      have := congrArg List.length hI
      simp only [List.length_append] at this
      omega
    rw [List.drop_eq_getElem_cons hlt] at hI
    simp only [compl1] at hI
    by_cases h : a < c[i].1
    · rw [if_pos h] at hI
      simp (config := { implicitDefEqProofs := false, decide := true }) only [go_sem, Nat.reduceEqDiff, Nat.reduceAdd, Nat.reduceMul, Nat.reduceSub, Nat.reduceLT, Nat.reduceLeDiff, Nat.reduceBEq, reduceCtorEq, Int.reduceLT, Int.reduceLE, Int.reduceEq, Int.reduceToNat, Int.reduceAdd, Int.reduceSub, Int.reduceMul, Int.reduceNeg, Nat.reduceLT, ↓reduceIte, c45_L0, hlt, encSpan, h, norm_terms, norm_spans, norm_sels, len_terms, len_spans, len_sels, hasLL_terms, hasLL_spans, renLL_terms, renLL_spans, leaf_terms, leaf_spans, leaf_sels, norm_sets, len_sets, hasLL_sets, renLL_sets, leaf_sets]
      exact ⟨by omega, (out ++ [(a, c[i].1)], c[i].2), by simpa using hI, ap [(7, 9009)], by simp (config := { implicitDefEqProofs := false, decide := true }) only [go_sem, Nat.reduceEqDiff, Nat.reduceAdd, Nat.reduceMul, Nat.reduceSub, Nat.reduceLT, Nat.reduceLeDiff, Nat.reduceBEq, reduceCtorEq, Int.reduceLT, Int.reduceLE, Int.reduceEq, Int.reduceToNat, Int.reduceAdd, Int.reduceSub, Int.reduceMul, Int.reduceNeg, Nat.reduceLT, ↓reduceIte, AV.renP, LeL, leE, leH, apartH, injH, keptS, ap, AV.ren, AV.renL, AV.renLL, AObj.ren, norm_terms, norm_spans, norm_sels, len_terms, len_spans, len_sels, hasLL_terms, hasLL_spans, renLL_terms, renLL_spans, leaf_terms, leaf_spans, leaf_sels, norm_sets, len_sets, hasLL_sets, renLL_sets, leaf_sets, wrap_nat hi, encSpan]⟩
    · rw [if_neg h] at hI
      simp (config := { implicitDefEqProofs := false, decide := true }) only [go_sem, Nat.reduceEqDiff, Nat.reduceAdd, Nat.reduceMul, Nat.reduceSub, Nat.reduceLT, Nat.reduceLeDiff, Nat.reduceBEq, reduceCtorEq, Int.reduceLT, Int.reduceLE, Int.reduceEq, Int.reduceToNat, Int.reduceAdd, Int.reduceSub, Int.reduceMul, Int.reduceNeg, Nat.reduceLT, ↓reduceIte, c45_L0, hlt, encSpan, h, norm_terms, norm_spans, norm_sels, len_terms, len_spans, len_sels, hasLL_terms, hasLL_spans, renLL_terms, renLL_spans, leaf_terms, leaf_spans, leaf_sels, norm_sets, len_sets, hasLL_sets, renLL_sets, leaf_sets]
      exact ⟨(out, c[i].2), by simpa using hI, ap [], by simp (config := { implicitDefEqProofs := false, decide := true }) only [go_sem, Nat.reduceEqDiff, Nat.reduceAdd, Nat.reduceMul, Nat.reduceSub, Nat.reduceLT, Nat.reduceLeDiff, Nat.reduceBEq, reduceCtorEq, Int.reduceLT, Int.reduceLE, Int.reduceEq, Int.reduceToNat, Int.reduceAdd, Int.reduceSub, Int.reduceMul, Int.reduceNeg, Nat.reduceLT, ↓reduceIte, AV.renP, LeL, leE, leH, apartH, injH, keptS, ap, AV.ren, AV.renL, AV.renLL, AObj.ren, norm_terms, norm_spans, norm_sels, len_terms, len_spans, len_sels, hasLL_terms, hasLL_spans, renLL_terms, renLL_spans, leaf_terms, leaf_spans, leaf_sels, norm_sets, len_sets, hasLL_sets, renLL_sets, leaf_sets, wrap_nat hi, encSpan]⟩
  · obtain ⟨out, a⟩ := k
    simp only [List.drop_length, compl1] at hI
    have hlen : out.length ≤ 1000000 := by
      have := congrArg List.length hI
      simp only [List.length_append] at this
      omega
    by_cases h : a < 1000000
    · rw [if_pos h] at hI
      simp (config := { implicitDefEqProofs := false, decide := true }) only [go_sem, Nat.reduceEqDiff, Nat.reduceAdd, Nat.reduceMul, Nat.reduceSub, Nat.reduceLT, Nat.reduceLeDiff, Nat.reduceBEq, reduceCtorEq, Int.reduceLT, Int.reduceLE, Int.reduceEq, Int.reduceToNat, Int.reduceAdd, Int.reduceSub, Int.reduceMul, Int.reduceNeg, Nat.reduceLT, ↓reduceIte, c45_L0, h, encSpan, norm_terms, norm_spans, norm_sels, len_terms, len_spans, len_sels, hasLL_terms, hasLL_spans, renLL_terms, renLL_spans, leaf_terms, leaf_spans, leaf_sels, norm_sets, len_sets, hasLL_sets, renLL_sets, leaf_sets]
      exact ⟨by omega, by rw [← he, ← hI, List.map_append]; rfl⟩
    · rw [if_neg h] at hI
      simp (config := { implicitDefEqProofs := false, decide := true }) only [go_sem, Nat.reduceEqDiff, Nat.reduceAdd, Nat.reduceMul, Nat.reduceSub, Nat.reduceLT, Nat.reduceLeDiff, Nat.reduceBEq, reduceCtorEq, Int.reduceLT, Int.reduceLE, Int.reduceEq, Int.reduceToNat, Int.reduceAdd, Int.reduceSub, Int.reduceMul, Int.reduceNeg, Nat.reduceLT, ↓reduceIte, c45_L0, h, norm_terms, norm_spans, norm_sels, len_terms, len_spans, len_sels, hasLL_terms, hasLL_spans, renLL_terms, renLL_spans, leaf_terms, leaf_spans, leaf_sels, norm_sets, len_sets, hasLL_sets, renLL_sets, leaf_sets]
      rw [← he, ← hI, List.append_nil]
def encSets (l : List Sp) : List (List AV) := l.map encSet
theorem flat_take {l : List Sp} {i : Nat} (h : i < l.length) : (l.take (i + 1)).flatten = (l.take i).flatten ++ l[i] := by rw [take_succ h, List.flatten_append, List.flatten_cons, List.flatten_nil, List.append_nil]
theorem flat_len (l : List Sp) (B : Nat) (hB : ∀ s ∈ l, s.length ≤ B) : l.flatten.length ≤ l.length * B := by
  induction l with
  | nil => simp
  | cons s l ih =>
    have h1 := hB s (List.mem_cons_self ..)
    have h2 := ih fun s hs => hB s (List.mem_cons_of_mem _ hs)
    simp only [List.flatten_cons, List.length_append, List.length_cons, Nat.add_mul]
    omega
set_option maxHeartbeats 400000 in
/-- modcertref31.Union -/
theorem f50_pure (l : List Sp) (fl : Flag) (hl : l.length ≤ 100) (hB : ∀ s ∈ l, s.length ≤ 1000000) : PureP Tryz.prog 50 [.isl fl (l.map encSet)] (· = .isl .unk ((canonOf (uni l)).map encSpan)) := by
  have hfl := flat_len l 1000000 hB
  have hfl2 : l.flatten.length ≤ 1000000000 := by
    have := Nat.mul_le_mul_right 1000000 hl
    omega
  refine PureE.run mixed e50 Tryz.func50 c50_ok r50 (by rw [Tryz.ntmps50]; rfl) rfl ?_
  simp (config := { implicitDefEqProofs := false, decide := true }) only [go_sem, Nat.reduceEqDiff, Nat.reduceAdd, Nat.reduceMul, Nat.reduceSub, Nat.reduceLT, Nat.reduceLeDiff, Nat.reduceBEq, reduceCtorEq, Int.reduceLT, Int.reduceLE, Int.reduceEq, Int.reduceToNat, Int.reduceAdd, Int.reduceSub, Int.reduceMul, Int.reduceNeg, Nat.reduceLT, ↓reduceIte, c50]
  refine LL.upS mixed [0] [] l.length (fun _ => True) (fun i => [(4, .int .i64 i), (3, .sl 7 0 (l.take i).flatten.length false)]) (fun i => [(7, .row 65 2 ((l.take i).flatten.map encSpan))]) trivial ⟨ap [(7, 2000)], by simp (config := { implicitDefEqProofs := false, decide := true }) only [go_sem, Nat.reduceEqDiff, Nat.reduceAdd, Nat.reduceMul, Nat.reduceSub, Nat.reduceLT, Nat.reduceLeDiff, Nat.reduceBEq, reduceCtorEq, Int.reduceLT, Int.reduceLE, Int.reduceEq, Int.reduceToNat, Int.reduceAdd, Int.reduceSub, Int.reduceMul, Int.reduceNeg, Nat.reduceLT, ↓reduceIte, AV.renP, LeL, leE, leH, apartH, injH, keptS, ap, AV.ren, AV.renL, AV.renLL, AObj.ren, List.flatten_nil]⟩ (fun i hlt _ => ?_) (fun _ => ?_)
  · have hi : i < 4611686018427387904 := by omega
    have h2 := flat_take hlt
    have h3 : (l.take (i + 1)).flatten.length ≤ 1000000000 := by
      have := flat_len (l.take (i + 1)) 1000000 fun s hs => hB s (List.mem_of_mem_take hs)
      have := Nat.mul_le_mul_right 1000000 (show (l.take (i + 1)).length ≤ 100 by simp; omega)
      omega
    rw [h2, List.length_append] at h3
    simp (config := { implicitDefEqProofs := false, decide := true }) only [go_sem, Nat.reduceEqDiff, Nat.reduceAdd, Nat.reduceMul, Nat.reduceSub, Nat.reduceLT, Nat.reduceLeDiff, Nat.reduceBEq, reduceCtorEq, Int.reduceLT, Int.reduceLE, Int.reduceEq, Int.reduceToNat, Int.reduceAdd, Int.reduceSub, Int.reduceMul, Int.reduceNeg, Nat.reduceLT, ↓reduceIte, c50_L0, hlt, encSet, norm_terms, norm_spans, norm_sels, len_terms, len_spans, len_sels, hasLL_terms, hasLL_spans, renLL_terms, renLL_spans, leaf_terms, leaf_spans, leaf_sels, norm_sets, len_sets, hasLL_sets, renLL_sets, leaf_sets]
    exact ⟨by omega, ap [(7, 6005)], by simp (config := { implicitDefEqProofs := false, decide := true }) only [go_sem, Nat.reduceEqDiff, Nat.reduceAdd, Nat.reduceMul, Nat.reduceSub, Nat.reduceLT, Nat.reduceLeDiff, Nat.reduceBEq, reduceCtorEq, Int.reduceLT, Int.reduceLE, Int.reduceEq, Int.reduceToNat, Int.reduceAdd, Int.reduceSub, Int.reduceMul, Int.reduceNeg, Nat.reduceLT, ↓reduceIte, AV.renP, LeL, leE, leH, apartH, injH, keptS, ap, AV.ren, AV.renL, AV.renLL, AObj.ren, norm_terms, norm_spans, norm_sels, len_terms, len_spans, len_sels, hasLL_terms, hasLL_spans, renLL_terms, renLL_spans, leaf_terms, leaf_spans, leaf_sels, norm_sets, len_sets, hasLL_sets, renLL_sets, leaf_sets, wrap_nat hi, h2]⟩
  · simp (config := { implicitDefEqProofs := false, decide := true }) only [go_sem, Nat.reduceEqDiff, Nat.reduceAdd, Nat.reduceMul, Nat.reduceSub, Nat.reduceLT, Nat.reduceLeDiff, Nat.reduceBEq, reduceCtorEq, Int.reduceLT, Int.reduceLE, Int.reduceEq, Int.reduceToNat, Int.reduceAdd, Int.reduceSub, Int.reduceMul, Int.reduceNeg, Nat.reduceLT, ↓reduceIte, c50_L0, List.take_length, norm_terms, norm_spans, norm_sels, len_terms, len_spans, len_sels, hasLL_terms, hasLL_spans, renLL_terms, renLL_spans, leaf_terms, leaf_spans, leaf_sels, norm_sets, len_sets, hasLL_sets, renLL_sets, leaf_sets]
    refine LC.frz [.isl .unk (l.flatten.map encSpan)] (by simp only [viewL_nil, viewL_cons, viewL0_nil, viewL0_cons, view1_func, view1_agg, view1_sl, view1_ptr, view1_leaf, view0_leaf, view0_sl, view0_ptr, AV.refsL, AV.refs, List.append_nil, List.nil_append, List.cons_append, mkH, ↓reduceIte, List.drop_zero, take_map, drop_map, List.take_length, List.length_map, getD_map_lt, List.getD_cons_zero, List.drop, AV.leafLL, AV.leafL, AV.leaf, List.mem_cons, List.not_mem_nil, or_false, true_or, or_true, Nat.zero_add, Nat.le_refl, and_self, true_and, and_true, Bool.false_eq_true, Bool.and_true, Bool.and_self, if_true, if_false, List.length_cons, List.length_nil, List.take, Nat.reduceAdd, Nat.reduceLeDiff, Nat.reduceLT, Nat.lt_add_one, Nat.zero_le, Nat.reduceEqDiff, norm_terms, norm_spans, norm_sels, len_terms, len_spans, len_sels, hasLL_terms, hasLL_spans, renLL_terms, renLL_spans, leaf_terms, leaf_spans, leaf_sels, norm_sets, len_sets, hasLL_sets, renLL_sets, leaf_sets]) ?_
    refine LC.val (f32_pure l.flatten .unk hfl2) ?_
    simp (config := { implicitDefEqProofs := false, decide := true }) only [go_sem, Nat.reduceEqDiff, Nat.reduceAdd, Nat.reduceMul, Nat.reduceSub, Nat.reduceLT, Nat.reduceLeDiff, Nat.reduceBEq, reduceCtorEq, Int.reduceLT, Int.reduceLE, Int.reduceEq, Int.reduceToNat, Int.reduceAdd, Int.reduceSub, Int.reduceMul, Int.reduceNeg, Nat.reduceLT, ↓reduceIte]
    rw [canonOf_congr (has_flat l)]
set_option maxHeartbeats 400000 in
/-- modcertref31.Intersect -/
theorem f70_pure (l : List Sp) (fl : Flag) (hl : l.length ≤ 100) (hB : ∀ s ∈ l, s.length ≤ 1000000) : PureP Tryz.prog 70 [.isl fl (l.map encSet)] (· = .isl .unk ((canonOf (inter l)).map encSpan)) := by
  refine PureE.run mixed e70 Tryz.func70 c70_ok r70 (by rw [Tryz.ntmps70]; rfl) rfl ?_
  simp (config := { implicitDefEqProofs := false, decide := true }) only [go_sem, Nat.reduceEqDiff, Nat.reduceAdd, Nat.reduceMul, Nat.reduceSub, Nat.reduceLT, Nat.reduceLeDiff, Nat.reduceBEq, reduceCtorEq, Int.reduceLT, Int.reduceLE, Int.reduceEq, Int.reduceToNat, Int.reduceAdd, Int.reduceSub, Int.reduceMul, Int.reduceNeg, Nat.reduceLT, ↓reduceIte, c70]
  refine LL.upS mixed [0] [] l.length (fun _ => True) (fun i => [(4, .int .i64 i), (3, .sl 7 0 ((l.take i).map fun s => canonOf (cmpl s)).length false)]) (fun i => [(7, .row 23 1 (((l.take i).map fun s => canonOf (cmpl s)).map encSet))]) trivial ⟨ap [(7, 2000)], by simp (config := { implicitDefEqProofs := false, decide := true }) only [go_sem, Nat.reduceEqDiff, Nat.reduceAdd, Nat.reduceMul, Nat.reduceSub, Nat.reduceLT, Nat.reduceLeDiff, Nat.reduceBEq, reduceCtorEq, Int.reduceLT, Int.reduceLE, Int.reduceEq, Int.reduceToNat, Int.reduceAdd, Int.reduceSub, Int.reduceMul, Int.reduceNeg, Nat.reduceLT, ↓reduceIte, AV.renP, LeL, leE, leH, apartH, injH, keptS, ap, AV.ren, AV.renL, AV.renLL, AObj.ren]⟩ (fun i hlt _ => ?_) (fun _ => ?_)
  · have hi : i < 4611686018427387904 := by omega
    have h2 := take_succ hlt
    have hle : (l.take i).length ≤ 100 := by simp; omega
    simp (config := { implicitDefEqProofs := false, decide := true }) only [go_sem, Nat.reduceEqDiff, Nat.reduceAdd, Nat.reduceMul, Nat.reduceSub, Nat.reduceLT, Nat.reduceLeDiff, Nat.reduceBEq, reduceCtorEq, Int.reduceLT, Int.reduceLE, Int.reduceEq, Int.reduceToNat, Int.reduceAdd, Int.reduceSub, Int.reduceMul, Int.reduceNeg, Nat.reduceLT, ↓reduceIte, c70_L0, hlt, encSet, norm_terms, norm_spans, norm_sels, len_terms, len_spans, len_sels, hasLL_terms, hasLL_spans, renLL_terms, renLL_spans, leaf_terms, leaf_spans, leaf_sels, norm_sets, len_sets, hasLL_sets, renLL_sets, leaf_sets]
    refine LC.val (f45_pure l[i] .unk (Nat.le_trans (hB _ (List.getElem_mem hlt)) (by omega))) ?_
    simp (config := { implicitDefEqProofs := false, decide := true }) only [go_sem, Nat.reduceEqDiff, Nat.reduceAdd, Nat.reduceMul, Nat.reduceSub, Nat.reduceLT, Nat.reduceLeDiff, Nat.reduceBEq, reduceCtorEq, Int.reduceLT, Int.reduceLE, Int.reduceEq, Int.reduceToNat, Int.reduceAdd, Int.reduceSub, Int.reduceMul, Int.reduceNeg, Nat.reduceLT, ↓reduceIte, c70_L0, hlt, encSet, norm_terms, norm_spans, norm_sels, len_terms, len_spans, len_sels, hasLL_terms, hasLL_spans, renLL_terms, renLL_spans, leaf_terms, leaf_spans, leaf_sels, norm_sets, len_sets, hasLL_sets, renLL_sets, leaf_sets]
    exact ⟨by omega, ap [(7, 6007)], by simp (config := { implicitDefEqProofs := false, decide := true }) only [go_sem, Nat.reduceEqDiff, Nat.reduceAdd, Nat.reduceMul, Nat.reduceSub, Nat.reduceLT, Nat.reduceLeDiff, Nat.reduceBEq, reduceCtorEq, Int.reduceLT, Int.reduceLE, Int.reduceEq, Int.reduceToNat, Int.reduceAdd, Int.reduceSub, Int.reduceMul, Int.reduceNeg, Nat.reduceLT, ↓reduceIte, AV.renP, LeL, leE, leH, apartH, injH, keptS, ap, AV.ren, AV.renL, AV.renLL, AObj.ren, norm_terms, norm_spans, norm_sels, len_terms, len_spans, len_sels, hasLL_terms, hasLL_spans, renLL_terms, renLL_spans, leaf_terms, leaf_spans, leaf_sels, norm_sets, len_sets, hasLL_sets, renLL_sets, leaf_sets, wrap_nat hi, h2, encSet]⟩
  · simp (config := { implicitDefEqProofs := false, decide := true }) only [go_sem, Nat.reduceEqDiff, Nat.reduceAdd, Nat.reduceMul, Nat.reduceSub, Nat.reduceLT, Nat.reduceLeDiff, Nat.reduceBEq, reduceCtorEq, Int.reduceLT, Int.reduceLE, Int.reduceEq, Int.reduceToNat, Int.reduceAdd, Int.reduceSub, Int.reduceMul, Int.reduceNeg, Nat.reduceLT, ↓reduceIte, c70_L0, List.take_length, norm_terms, norm_spans, norm_sels, len_terms, len_spans, len_sels, hasLL_terms, hasLL_spans, renLL_terms, renLL_spans, leaf_terms, leaf_spans, leaf_sels, norm_sets, len_sets, hasLL_sets, renLL_sets, leaf_sets]
    refine LC.frz [.isl .unk ((l.map fun s => canonOf (cmpl s)).map encSet)] (by simp only [viewL_nil, viewL_cons, viewL0_nil, viewL0_cons, view1_func, view1_agg, view1_sl, view1_ptr, view1_leaf, view0_leaf, view0_sl, view0_ptr, AV.refsL, AV.refs, List.append_nil, List.nil_append, List.cons_append, mkH, ↓reduceIte, List.drop_zero, take_map, drop_map, List.take_length, List.length_map, getD_map_lt, List.getD_cons_zero, List.drop, AV.leafLL, AV.leafL, AV.leaf, List.mem_cons, List.not_mem_nil, or_false, true_or, or_true, Nat.zero_add, Nat.le_refl, and_self, true_and, and_true, Bool.false_eq_true, Bool.and_true, Bool.and_self, if_true, if_false, List.length_cons, List.length_nil, List.take, Nat.reduceAdd, Nat.reduceLeDiff, Nat.reduceLT, Nat.lt_add_one, Nat.zero_le, Nat.reduceEqDiff, norm_terms, norm_spans, norm_sels, len_terms, len_spans, len_sels, hasLL_terms, hasLL_spans, renLL_terms, renLL_spans, leaf_terms, leaf_spans, leaf_sels, norm_sets, len_sets, hasLL_sets, renLL_sets, leaf_sets]) ?_
    refine LC.val (f50_pure (l.map fun s => canonOf (cmpl s)) .unk (by simpa using hl) (fun s hs => ?_)) ?_
    · obtain ⟨x, _, rfl⟩ := List.mem_map.1 hs
      exact canonOf_len _
    simp (config := { implicitDefEqProofs := false, decide := true }) only [go_sem, Nat.reduceEqDiff, Nat.reduceAdd, Nat.reduceMul, Nat.reduceSub, Nat.reduceLT, Nat.reduceLeDiff, Nat.reduceBEq, reduceCtorEq, Int.reduceLT, Int.reduceLE, Int.reduceEq, Int.reduceToNat, Int.reduceAdd, Int.reduceSub, Int.reduceMul, Int.reduceNeg, Nat.reduceLT, ↓reduceIte]
    refine LC.val (f45_pure _ .unk (Nat.le_trans (canonOf_len _) (by omega))) ?_
    simp (config := { implicitDefEqProofs := false, decide := true }) only [go_sem, Nat.reduceEqDiff, Nat.reduceAdd, Nat.reduceMul, Nat.reduceSub, Nat.reduceLT, Nat.reduceLeDiff, Nat.reduceBEq, reduceCtorEq, Int.reduceLT, Int.reduceLE, Int.reduceEq, Int.reduceToNat, Int.reduceAdd, Int.reduceSub, Int.reduceMul, Int.reduceNeg, Nat.reduceLT, ↓reduceIte]
    rw [← inter_eq, canonOf_congr (has_flat _)]
/-- modcertref31.Minus -/
theorem f42_pure (a b : Sp) (ha : a.length ≤ 1000000) (hb : b.length ≤ 1000000) : PureP Tryz.prog 42 [.isl .unk (a.map encSpan), .isl .unk (b.map encSpan)] (· = .isl .unk ((canonOf (minus a b)).map encSpan)) := by
  refine PureE.run mixed e42 Tryz.func42 c42_ok r42 (by rw [Tryz.ntmps42]; rfl) rfl ?_
  simp (config := { implicitDefEqProofs := false, decide := true }) only [go_sem, Nat.reduceEqDiff, Nat.reduceAdd, Nat.reduceMul, Nat.reduceSub, Nat.reduceLT, Nat.reduceLeDiff, Nat.reduceBEq, reduceCtorEq, Int.reduceLT, Int.reduceLE, Int.reduceEq, Int.reduceToNat, Int.reduceAdd, Int.reduceSub, Int.reduceMul, Int.reduceNeg, Nat.reduceLT, ↓reduceIte, c42]
  refine LC.val (f45_pure b .unk (by omega)) ?_
  simp (config := { implicitDefEqProofs := false, decide := true }) only [go_sem, Nat.reduceEqDiff, Nat.reduceAdd, Nat.reduceMul, Nat.reduceSub, Nat.reduceLT, Nat.reduceLeDiff, Nat.reduceBEq, reduceCtorEq, Int.reduceLT, Int.reduceLE, Int.reduceEq, Int.reduceToNat, Int.reduceAdd, Int.reduceSub, Int.reduceMul, Int.reduceNeg, Nat.reduceLT, ↓reduceIte, norm_terms, norm_spans, norm_sels, len_terms, len_spans, len_sels, hasLL_terms, hasLL_spans, renLL_terms, renLL_spans, leaf_terms, leaf_spans, leaf_sels, norm_sets, len_sets, hasLL_sets, renLL_sets, leaf_sets]
  refine LC.frz [.isl .unk ([a, canonOf (cmpl b)].map encSet)] (by simp only [viewL_nil, viewL_cons, viewL0_nil, viewL0_cons, view1_func, view1_agg, view1_sl, view1_ptr, view1_leaf, view0_leaf, view0_sl, view0_ptr, AV.refsL, AV.refs, List.append_nil, List.nil_append, List.cons_append, mkH, ↓reduceIte, List.drop_zero, take_map, drop_map, List.take_length, List.length_map, getD_map_lt, List.getD_cons_zero, List.drop, AV.leafLL, AV.leafL, AV.leaf, List.mem_cons, List.not_mem_nil, or_false, true_or, or_true, Nat.zero_add, Nat.le_refl, and_self, true_and, and_true, Bool.false_eq_true, Bool.and_true, Bool.and_self, if_true, if_false, List.length_cons, List.length_nil, List.take, Nat.reduceAdd, Nat.reduceLeDiff, Nat.reduceLT, Nat.lt_add_one, Nat.zero_le, Nat.reduceEqDiff, norm_terms, norm_spans, norm_sels, len_terms, len_spans, len_sels, hasLL_terms, hasLL_spans, renLL_terms, renLL_spans, leaf_terms, leaf_spans, leaf_sels, norm_sets, len_sets, hasLL_sets, renLL_sets, leaf_sets, encSet, List.map_cons, List.map_nil]) ?_
  refine LC.val (f70_pure [a, canonOf (cmpl b)] .unk (by simp) (fun s hs => ?_)) ?_
  · simp only [List.mem_cons, List.not_mem_nil, or_false] at hs
    rcases hs with rfl | rfl
    · exact ha
    · exact canonOf_len _
  simp (config := { implicitDefEqProofs := false, decide := true }) only [go_sem, Nat.reduceEqDiff, Nat.reduceAdd, Nat.reduceMul, Nat.reduceSub, Nat.reduceLT, Nat.reduceLeDiff, Nat.reduceBEq, reduceCtorEq, Int.reduceLT, Int.reduceLE, Int.reduceEq, Int.reduceToNat, Int.reduceAdd, Int.reduceSub, Int.reduceMul, Int.reduceNeg, Nat.reduceLT, ↓reduceIte, minus_eq]
/-- modcertref31.AtLeast -/
theorem f43_pure (n : Int) : PureP Tryz.prog 43 [.int .i64 n] (· = .isl .unk ((canonOf (has [(n, 1000000)])).map encSpan)) := by
  refine PureE.run mixed e43 Tryz.func43 c43_ok r43 (by rw [Tryz.ntmps43]; rfl) rfl ?_
  simp (config := { implicitDefEqProofs := false, decide := true }) only [go_sem, Nat.reduceEqDiff, Nat.reduceAdd, Nat.reduceMul, Nat.reduceSub, Nat.reduceLT, Nat.reduceLeDiff, Nat.reduceBEq, reduceCtorEq, Int.reduceLT, Int.reduceLE, Int.reduceEq, Int.reduceToNat, Int.reduceAdd, Int.reduceSub, Int.reduceMul, Int.reduceNeg, Nat.reduceLT, ↓reduceIte, c43]
  refine LC.frz [.isl .unk ([(n, 1000000)].map encSpan)] (by simp only [viewL_nil, viewL_cons, viewL0_nil, viewL0_cons, view1_func, view1_agg, view1_sl, view1_ptr, view1_leaf, view0_leaf, view0_sl, view0_ptr, AV.refsL, AV.refs, List.append_nil, List.nil_append, List.cons_append, mkH, ↓reduceIte, List.drop_zero, take_map, drop_map, List.take_length, List.length_map, getD_map_lt, List.getD_cons_zero, List.drop, AV.leafLL, AV.leafL, AV.leaf, List.mem_cons, List.not_mem_nil, or_false, true_or, or_true, Nat.zero_add, Nat.le_refl, and_self, true_and, and_true, Bool.false_eq_true, Bool.and_true, Bool.and_self, if_true, if_false, List.length_cons, List.length_nil, List.take, Nat.reduceAdd, Nat.reduceLeDiff, Nat.reduceLT, Nat.lt_add_one, Nat.zero_le, Nat.reduceEqDiff, norm_terms, norm_spans, norm_sels, len_terms, len_spans, len_sels, hasLL_terms, hasLL_spans, renLL_terms, renLL_spans, leaf_terms, leaf_spans, leaf_sels, norm_sets, len_sets, hasLL_sets, renLL_sets, leaf_sets, encSpan, List.map_cons, List.map_nil]) ?_
  refine LC.val (f32_pure [(n, 1000000)] .unk (by simp)) ?_
  simp (config := { implicitDefEqProofs := false, decide := true }) only [go_sem, Nat.reduceEqDiff, Nat.reduceAdd, Nat.reduceMul, Nat.reduceSub, Nat.reduceLT, Nat.reduceLeDiff, Nat.reduceBEq, reduceCtorEq, Int.reduceLT, Int.reduceLE, Int.reduceEq, Int.reduceToNat, Int.reduceAdd, Int.reduceSub, Int.reduceMul, Int.reduceNeg, Nat.reduceLT, ↓reduceIte]
/-- modcertref31.Subset -/
theorem f55_pure (a b : Sp) (ha : a.length ≤ 1000000) (hb : b.length ≤ 1000000) : PureP Tryz.prog 55 [.isl .unk (a.map encSpan), .isl .unk (b.map encSpan)] (· = .bool (subs a b)) := by
  refine PureE.run mixed e55 Tryz.func55 c55_ok r55 (by rw [Tryz.ntmps55]; rfl) rfl ?_
  simp (config := { implicitDefEqProofs := false, decide := true }) only [go_sem, Nat.reduceEqDiff, Nat.reduceAdd, Nat.reduceMul, Nat.reduceSub, Nat.reduceLT, Nat.reduceLeDiff, Nat.reduceBEq, reduceCtorEq, Int.reduceLT, Int.reduceLE, Int.reduceEq, Int.reduceToNat, Int.reduceAdd, Int.reduceSub, Int.reduceMul, Int.reduceNeg, Nat.reduceLT, ↓reduceIte, c55]
  refine LC.val (f42_pure a b ha hb) ?_
  simp (config := { implicitDefEqProofs := false, decide := true }) only [go_sem, Nat.reduceEqDiff, Nat.reduceAdd, Nat.reduceMul, Nat.reduceSub, Nat.reduceLT, Nat.reduceLeDiff, Nat.reduceBEq, reduceCtorEq, Int.reduceLT, Int.reduceLE, Int.reduceEq, Int.reduceToNat, Int.reduceAdd, Int.reduceSub, Int.reduceMul, Int.reduceNeg, Nat.reduceLT, ↓reduceIte, subs]
/-- modcertref35.never -/
def never (t : Tm) : Bool := !t.absent && decide (t.set.length = 0)
theorem f77_pure (t : Tm) : PureP Tryz.prog 77 [.agg (encTerm t)] (· = .bool (never t)) := by
  refine PureE.run mixed e77 Tryz.func77 c77_ok r77 (by rw [Tryz.ntmps77]; rfl) rfl ?_
  cases h : t.absent <;> simp (config := { implicitDefEqProofs := false, decide := true }) only [go_sem, Nat.reduceEqDiff, Nat.reduceAdd, Nat.reduceMul, Nat.reduceSub, Nat.reduceLT, Nat.reduceLeDiff, Nat.reduceBEq, reduceCtorEq, Int.reduceLT, Int.reduceLE, Int.reduceEq, Int.reduceToNat, Int.reduceAdd, Int.reduceSub, Int.reduceMul, Int.reduceNeg, Nat.reduceLT, ↓reduceIte, c77, encTerm, h, never]
/-- modcertref35.all -/
theorem f89_pure : PureP Tryz.prog 89 [] (· = .isl .unk (([(0, 1000000)] : Sp).map encSpan)) := by
  refine PureE.run mixed e89 Tryz.func89 c89_ok r89 (by rw [Tryz.ntmps89]; rfl) rfl ?_
  simp (config := { implicitDefEqProofs := false, decide := true }) only [go_sem, Nat.reduceEqDiff, Nat.reduceAdd, Nat.reduceMul, Nat.reduceSub, Nat.reduceLT, Nat.reduceLeDiff, Nat.reduceBEq, reduceCtorEq, Int.reduceLT, Int.reduceLE, Int.reduceEq, Int.reduceToNat, Int.reduceAdd, Int.reduceSub, Int.reduceMul, Int.reduceNeg, Nat.reduceLT, ↓reduceIte, c89, encSpan]
def always (t : Tm) : Bool := t.absent && decide (t.set = [(0, 1000000)])
theorem f78_pure (t : Tm) (ht : t.set.length < 4611686018427387904) : PureP Tryz.prog 78 [.agg (encTerm t)] (· = .bool (always t)) := by
  refine PureE.run mixed e78 Tryz.func78 c78_ok r78 (by rw [Tryz.ntmps78]; rfl) rfl ?_
  cases h : t.absent with
  | false => simp (config := { implicitDefEqProofs := false, decide := true }) only [go_sem, Nat.reduceEqDiff, Nat.reduceAdd, Nat.reduceMul, Nat.reduceSub, Nat.reduceLT, Nat.reduceLeDiff, Nat.reduceBEq, reduceCtorEq, Int.reduceLT, Int.reduceLE, Int.reduceEq, Int.reduceToNat, Int.reduceAdd, Int.reduceSub, Int.reduceMul, Int.reduceNeg, Nat.reduceLT, ↓reduceIte, c78, encTerm, h, always]
  | true =>
    simp (config := { implicitDefEqProofs := false, decide := true }) only [go_sem, Nat.reduceEqDiff, Nat.reduceAdd, Nat.reduceMul, Nat.reduceSub, Nat.reduceLT, Nat.reduceLeDiff, Nat.reduceBEq, reduceCtorEq, Int.reduceLT, Int.reduceLE, Int.reduceEq, Int.reduceToNat, Int.reduceAdd, Int.reduceSub, Int.reduceMul, Int.reduceNeg, Nat.reduceLT, ↓reduceIte, c78, encTerm, h]
    refine DC.val f89_pure rfl rfl ?_
    simp (config := { implicitDefEqProofs := false, decide := true }) only [go_sem, Nat.reduceEqDiff, Nat.reduceAdd, Nat.reduceMul, Nat.reduceSub, Nat.reduceLT, Nat.reduceLeDiff, Nat.reduceBEq, reduceCtorEq, Int.reduceLT, Int.reduceLE, Int.reduceEq, Int.reduceToNat, Int.reduceAdd, Int.reduceSub, Int.reduceMul, Int.reduceNeg, Nat.reduceLT, ↓reduceIte]
    refine DC.val (f37_pure t.set [(0, 1000000)] .unk .unk ht (by simp)) rfl rfl ?_
    simp (config := { implicitDefEqProofs := false, decide := true }) only [go_sem, Nat.reduceEqDiff, Nat.reduceAdd, Nat.reduceMul, Nat.reduceSub, Nat.reduceLT, Nat.reduceLeDiff, Nat.reduceBEq, reduceCtorEq, Int.reduceLT, Int.reduceLE, Int.reduceEq, Int.reduceToNat, Int.reduceAdd, Int.reduceSub, Int.reduceMul, Int.reduceNeg, Nat.reduceLT, ↓reduceIte, always, h]
end
section
open Go.Aw Go.RowKit Go.Sort
/-- constraint.Canonical's closure -/
theorem f92_pure (x y : Int × Int) (hx : okS x) (hy : okS y) : PureP Tryz.prog 92 [.agg (encSpan x), .agg (encSpan y)] (· = .int .i64 (x.1 - y.1)) := by
  refine PureE.run mixed e92 Tryz.func92 c92_ok r92 (by rw [Tryz.ntmps92]; rfl) rfl ?_
  unfold okS at hx hy
  have hw := wrap_i64 (x := x.1 - y.1) (by omega) (by omega)
  simp (config := { implicitDefEqProofs := false, decide := true }) only [go_sem, Nat.reduceEqDiff, Nat.reduceAdd, Nat.reduceMul, Nat.reduceSub, Nat.reduceLT, Nat.reduceLeDiff, Nat.reduceBEq, reduceCtorEq, Int.reduceLT, Int.reduceLE, Int.reduceEq, Int.reduceToNat, Int.reduceAdd, Int.reduceSub, Int.reduceMul, Int.reduceNeg, Nat.reduceLT, ↓reduceIte, c92, encSpan, hw]
theorem swo_span : SWO (ltOf fun x y : Int × Int => x.1 - y.1) :=
  { irrefl := fun x => by simp [ltOf]
    trans := fun x y z h1 h2 => by simp only [ltOf, decide_eq_true_eq] at *; omega
    ntrans := fun x y z h1 h2 => by simp only [ltOf, decide_eq_false_iff_not] at *; omega }
theorem joined_pos {l : Sp} (h : l ≠ []) : 0 < (joined l).length := by
  rcases List.eq_nil_or_concat l with rfl | ⟨init, y, rfl⟩
  · exact absurd rfl h
  · rw [List.concat_eq_append, joined_snoc]
    unfold mstep
    split
    · rename_i q; simpa using q.1
    · simp
set_option maxHeartbeats 1000000 in
/-- constraint.Canonical -/
theorem f83_obj (hS : SortsF Tryz.prog 91 2) (s : Sp) (hl : s.length ≤ 1000000000) : ObjP Tryz.prog 83 [.isl .unk (s.map encSpan)] (fun n => .sl n 0 (canonOf (has s)).length true) (.row 65 2 ((canonOf (has s)).map encSpan)) := by
  refine CutP.run (xs := canonOf (has s)) leaf_span mixed e83 Tryz.func83 c83_ok r83 (by rw [Tryz.ntmps83]; rfl) ?_
  simp (config := { implicitDefEqProofs := false, decide := true }) only [go_sem, Nat.reduceEqDiff, Nat.reduceAdd, Nat.reduceMul, Nat.reduceSub, Nat.reduceLT, Nat.reduceLeDiff, Nat.reduceBEq, reduceCtorEq, Int.reduceLT, Int.reduceLE, Int.reduceEq, Int.reduceToNat, Int.reduceAdd, Int.reduceSub, Int.reduceMul, Int.reduceNeg, Nat.reduceLT, ↓reduceIte, c83]
  refine LL.nilrow 3 6 65 2 (by simp (config := { implicitDefEqProofs := false, decide := true }) only [go_sem, Nat.reduceEqDiff, Nat.reduceAdd, Nat.reduceMul, Nat.reduceSub, Nat.reduceLT, Nat.reduceLeDiff, Nat.reduceBEq, reduceCtorEq, Int.reduceLT, Int.reduceLE, Int.reduceEq, Int.reduceToNat, Int.reduceAdd, Int.reduceSub, Int.reduceMul, Int.reduceNeg, Nat.reduceLT, ↓reduceIte]) (by simp (config := { implicitDefEqProofs := false, decide := true }) only [go_sem, Nat.reduceEqDiff, Nat.reduceAdd, Nat.reduceMul, Nat.reduceSub, Nat.reduceLT, Nat.reduceLeDiff, Nat.reduceBEq, reduceCtorEq, Int.reduceLT, Int.reduceLE, Int.reduceEq, Int.reduceToNat, Int.reduceAdd, Int.reduceSub, Int.reduceMul, Int.reduceNeg, Nat.reduceLT, ↓reduceIte]) ?_
  simp (config := { implicitDefEqProofs := false, decide := true }) only [go_sem, Nat.reduceEqDiff, Nat.reduceAdd, Nat.reduceMul, Nat.reduceSub, Nat.reduceLT, Nat.reduceLeDiff, Nat.reduceBEq, reduceCtorEq, Int.reduceLT, Int.reduceLE, Int.reduceEq, Int.reduceToNat, Int.reduceAdd, Int.reduceSub, Int.reduceMul, Int.reduceNeg, Nat.reduceLT, ↓reduceIte]
  have hclen : ∀ i, (clipped (s.take i)).length ≤ s.length := fun i => by
    have := List.length_filter_le okB ((s.take i).map clip)
    simp only [List.length_map, List.length_take] at this
    simp only [clipped]
    omega
  refine LL.upS mixed [9, 10] [] s.length (fun _ => True) (fun i => [(11, .int .i64 i), (3, .sl 7 0 (clipped (s.take i)).length false)]) (fun i => [(7, .row 65 2 ((clipped (s.take i)).map encSpan))]) trivial ⟨ap [(7, 6)], by simp (config := { implicitDefEqProofs := false, decide := true }) only [go_sem, Nat.reduceEqDiff, Nat.reduceAdd, Nat.reduceMul, Nat.reduceSub, Nat.reduceLT, Nat.reduceLeDiff, Nat.reduceBEq, reduceCtorEq, Int.reduceLT, Int.reduceLE, Int.reduceEq, Int.reduceToNat, Int.reduceAdd, Int.reduceSub, Int.reduceMul, Int.reduceNeg, Nat.reduceLT, ↓reduceIte, AV.renP, LeL, leE, leH, apartH, injH, keptS, ap, AV.ren, AV.renL, AV.renLL, AObj.ren, clipped, List.filter_nil]⟩ (fun i hlt _ => ?_) (fun _ => ?_)
  · have hi : i < 4611686018427387904 := by omega
    have hc := hclen i
    have hT := clipped_take hlt
    cases hok : okB (clip s[i]) with
    | true =>
      rw [if_pos hok] at hT
      have hok' : max s[i].1 0 < min 1000000 s[i].2 := by have := of_decide_eq_true hok; simp only [clip] at this; omega
      simp (config := { implicitDefEqProofs := false, decide := true }) only [go_sem, Nat.reduceEqDiff, Nat.reduceAdd, Nat.reduceMul, Nat.reduceSub, Nat.reduceLT, Nat.reduceLeDiff, Nat.reduceBEq, reduceCtorEq, Int.reduceLT, Int.reduceLE, Int.reduceEq, Int.reduceToNat, Int.reduceAdd, Int.reduceSub, Int.reduceMul, Int.reduceNeg, Nat.reduceLT, ↓reduceIte, c83_L0, hlt, encSpan, ite_max, ite_min, hok', norm_terms, norm_spans, norm_sels, len_terms, len_spans, len_sels, hasLL_terms, hasLL_spans, renLL_terms, renLL_spans, leaf_terms, leaf_spans, leaf_sels, norm_sets, len_sets, hasLL_sets, renLL_sets, leaf_sets]
      exact ⟨by omega, ap [(7, 8003)], by simp (config := { implicitDefEqProofs := false, decide := true }) only [go_sem, Nat.reduceEqDiff, Nat.reduceAdd, Nat.reduceMul, Nat.reduceSub, Nat.reduceLT, Nat.reduceLeDiff, Nat.reduceBEq, reduceCtorEq, Int.reduceLT, Int.reduceLE, Int.reduceEq, Int.reduceToNat, Int.reduceAdd, Int.reduceSub, Int.reduceMul, Int.reduceNeg, Nat.reduceLT, ↓reduceIte, AV.renP, LeL, leE, leH, apartH, injH, keptS, ap, AV.ren, AV.renL, AV.renLL, AObj.ren, norm_terms, norm_spans, norm_sels, len_terms, len_spans, len_sels, hasLL_terms, hasLL_spans, renLL_terms, renLL_spans, leaf_terms, leaf_spans, leaf_sels, norm_sets, len_sets, hasLL_sets, renLL_sets, leaf_sets, wrap_nat hi, hT, encSpan, clip, Int.max_comm]⟩
    | false =>
      rw [if_neg (by simp [hok])] at hT
      have hok' : ¬ max s[i].1 0 < min 1000000 s[i].2 := by have := of_decide_eq_false hok; simp only [clip] at this; omega
      simp (config := { implicitDefEqProofs := false, decide := true }) only [go_sem, Nat.reduceEqDiff, Nat.reduceAdd, Nat.reduceMul, Nat.reduceSub, Nat.reduceLT, Nat.reduceLeDiff, Nat.reduceBEq, reduceCtorEq, Int.reduceLT, Int.reduceLE, Int.reduceEq, Int.reduceToNat, Int.reduceAdd, Int.reduceSub, Int.reduceMul, Int.reduceNeg, Nat.reduceLT, ↓reduceIte, c83_L0, hlt, encSpan, ite_max, ite_min, hok', norm_terms, norm_spans, norm_sels, len_terms, len_spans, len_sels, hasLL_terms, hasLL_spans, renLL_terms, renLL_spans, leaf_terms, leaf_spans, leaf_sels, norm_sets, len_sets, hasLL_sets, renLL_sets, leaf_sets]
      exact ⟨ap [], by simp (config := { implicitDefEqProofs := false, decide := true }) only [go_sem, Nat.reduceEqDiff, Nat.reduceAdd, Nat.reduceMul, Nat.reduceSub, Nat.reduceLT, Nat.reduceLeDiff, Nat.reduceBEq, reduceCtorEq, Int.reduceLT, Int.reduceLE, Int.reduceEq, Int.reduceToNat, Int.reduceAdd, Int.reduceSub, Int.reduceMul, Int.reduceNeg, Nat.reduceLT, ↓reduceIte, AV.renP, LeL, leE, leH, apartH, injH, keptS, ap, AV.ren, AV.renL, AV.renLL, AObj.ren, norm_terms, norm_spans, norm_sels, len_terms, len_spans, len_sels, hasLL_terms, hasLL_spans, renLL_terms, renLL_spans, leaf_terms, leaf_spans, leaf_sels, norm_sets, len_sets, hasLL_sets, renLL_sets, leaf_sets, wrap_nat hi, hT]⟩
  · simp (config := { implicitDefEqProofs := false, decide := true }) only [go_sem, Nat.reduceEqDiff, Nat.reduceAdd, Nat.reduceMul, Nat.reduceSub, Nat.reduceLT, Nat.reduceLeDiff, Nat.reduceBEq, reduceCtorEq, Int.reduceLT, Int.reduceLE, Int.reduceEq, Int.reduceToNat, Int.reduceAdd, Int.reduceSub, Int.reduceMul, Int.reduceNeg, Nat.reduceLT, ↓reduceIte, c83_L0, List.take_length, norm_terms, norm_spans, norm_sels, len_terms, len_spans, len_sels, hasLL_terms, hasLL_spans, renLL_terms, renLL_spans, leaf_terms, leaf_spans, leaf_sels, norm_sets, len_sets, hasLL_sets, renLL_sets, leaf_sets]
    refine LC.sort (enc := encSpan) hS (fun _ => rfl) leaf_span (fun x y => x.1 - y.1) swo_span (clipped s) rfl rfl (by have := hclen s.length; rw [List.take_length] at this; omega) (fun x hx y hy => f92_pure x y (clipped_ok s x hx) (clipped_ok s y hy)) (fun ys hp hs => ?_)
    have hyl : (clipped s).length = ys.length := hp.length_eq.symm
    have hys : ys.length ≤ 1000000000 := by have := hclen s.length; rw [List.take_length] at this; omega
    have hyok : ∀ x ∈ ys, okS x := fun x hx => clipped_ok s x (hp.mem_iff.1 hx)
    have hysd : ys.Pairwise (fun x y => x.1 ≤ y.1) := hs.imp fun h => by simp only [ltOf, decide_eq_false_iff_not] at h; omega
    have hya : ∀ p, ys.any (inSpan p) = has s p := fun p => by
      rw [← clipped_any, Bool.eq_iff_iff, List.any_eq_true, List.any_eq_true]
      simp only [hp.mem_iff]
    simp (config := { implicitDefEqProofs := false, decide := true }) only [go_sem, Nat.reduceEqDiff, Nat.reduceAdd, Nat.reduceMul, Nat.reduceSub, Nat.reduceLT, Nat.reduceLeDiff, Nat.reduceBEq, reduceCtorEq, Int.reduceLT, Int.reduceLE, Int.reduceEq, Int.reduceToNat, Int.reduceAdd, Int.reduceSub, Int.reduceMul, Int.reduceNeg, Nat.reduceLT, ↓reduceIte, hyl]
    refine LL.upkS mixed [3, 34, 35] [] ys.length ([] : Sp) (fun i mid => (joined (ys.take i)).length + mid.length = i) (fun i mid => [(36, .int .i64 i), (6, .int .i64 (joined (ys.take i)).length)]) (fun i mid => [(7, .row 65 2 ((joined (ys.take i) ++ mid ++ ys.drop i).map encSpan))]) rfl ⟨ap [], ?_⟩ (fun i mid hlt hI => ?_) (fun mid hI => ?_)
    · have : joined ([] : Sp) = [] := rfl
      simp (config := { implicitDefEqProofs := false, decide := true }) only [go_sem, Nat.reduceEqDiff, Nat.reduceAdd, Nat.reduceMul, Nat.reduceSub, Nat.reduceLT, Nat.reduceLeDiff, Nat.reduceBEq, reduceCtorEq, Int.reduceLT, Int.reduceLE, Int.reduceEq, Int.reduceToNat, Int.reduceAdd, Int.reduceSub, Int.reduceMul, Int.reduceNeg, Nat.reduceLT, ↓reduceIte, AV.renP, LeL, leE, leH, apartH, injH, keptS, ap, AV.ren, AV.renL, AV.renLL, AObj.ren, norm_terms, norm_spans, norm_sels, len_terms, len_spans, len_sels, hasLL_terms, hasLL_spans, renLL_terms, renLL_spans, leaf_terms, leaf_spans, leaf_sels, norm_sets, len_sets, hasLL_sets, renLL_sets, leaf_sets, this]
    · have hi : i < 4611686018427387904 := by omega
      have hT : joined (ys.take (i + 1)) = mstep (joined (ys.take i)) ys[i] := by rw [take_succ hlt, joined_snoc]
      have hd : ys.drop i = ys[i] :: ys.drop (i + 1) := List.drop_eq_getElem_cons hlt
      generalize hJ : joined (ys.take i) = J at *
      have hL : (List.map encSpan J ++ List.map encSpan mid ++ List.map encSpan (ys.drop i)).getD i [] = encSpan ys[i] := by
        rw [hd, ← List.map_append, List.map_cons]
        simp only [List.getD_eq_getElem?_getD]
        rw [List.getElem?_append_right (by simp; omega)]
        simp [hI]
      rcases List.eq_nil_or_concat J with rfl | ⟨init, y, rfl⟩
      · rw [mstep_nil] at hT
        have hi0 : i = 0 := by
          rcases Nat.eq_zero_or_pos i with h | h
          · exact h
          · have := joined_pos (l := ys.take i) (fun e => by have := congrArg List.length e; simp only [List.length_take, List.length_nil] at this; omega)
            rw [hJ] at this; simp at this
        subst hi0
        have hm : mid = [] := List.length_eq_zero_iff.1 (by simpa using hI)
        subst hm
        rw [hd] at hL
        simp only [List.map_nil, List.nil_append, List.map_cons] at hL
        simp (config := { implicitDefEqProofs := false, decide := true }) only [go_sem, Nat.reduceEqDiff, Nat.reduceAdd, Nat.reduceMul, Nat.reduceSub, Nat.reduceLT, Nat.reduceLeDiff, Nat.reduceBEq, reduceCtorEq, Int.reduceLT, Int.reduceLE, Int.reduceEq, Int.reduceToNat, Int.reduceAdd, Int.reduceSub, Int.reduceMul, Int.reduceNeg, Nat.reduceLT, ↓reduceIte, c83_L1, hlt, encSpan, hd, hL, Int.reduceAdd, norm_terms, norm_spans, norm_sels, len_terms, len_spans, len_sels, hasLL_terms, hasLL_spans, renLL_terms, renLL_spans, leaf_terms, leaf_spans, leaf_sels, norm_sets, len_sets, hasLL_sets, renLL_sets, leaf_sets]
        refine ⟨[], by rw [hT]; rfl, ap [], ?_⟩
        simp (config := { implicitDefEqProofs := false, decide := true }) only [go_sem, Nat.reduceEqDiff, Nat.reduceAdd, Nat.reduceMul, Nat.reduceSub, Nat.reduceLT, Nat.reduceLeDiff, Nat.reduceBEq, reduceCtorEq, Int.reduceLT, Int.reduceLE, Int.reduceEq, Int.reduceToNat, Int.reduceAdd, Int.reduceSub, Int.reduceMul, Int.reduceNeg, Nat.reduceLT, ↓reduceIte, AV.renP, LeL, leE, leH, apartH, injH, keptS, ap, AV.ren, AV.renL, AV.renLL, AObj.ren, norm_terms, norm_spans, norm_sels, len_terms, len_spans, len_sels, hasLL_terms, hasLL_spans, renLL_terms, renLL_spans, leaf_terms, leaf_spans, leaf_sels, norm_sets, len_sets, hasLL_sets, renLL_sets, leaf_sets, hT, encSpan]
        rcases ys with _ | ⟨y0, ys⟩
        · simp at hlt
        · rfl
      · rw [List.concat_eq_append] at *
        rw [mstep_snoc] at hT
        have hlen : init.length < 1000000000 := by simp at hI; omega
        have hilt : init.length < ys.length := by simp at hI; omega
        have hipos : 0 < i := by simp at hI; omega
        have hwp := wrap_pred1 (n := init.length) (by omega)
        have hL2 : (List.map encSpan init ++ [encSpan y] ++ List.map encSpan mid ++ List.map encSpan (ys.drop i)).getD init.length [] = encSpan y := by
          simp [List.getD_eq_getElem?_getD]
        simp only [List.map_append, List.map_cons, List.map_nil, encSpan] at hL
        simp only [encSpan] at hL2
        have hb : i < init.length + 1 + mid.length + (ys.length - i) := by simp at hI; omega
        have hb2 : init.length < init.length + 1 + mid.length + (ys.length - i) := by omega
        have hb3 : init.length + 1 < init.length + 1 + mid.length + (ys.length - i) := by simp at hI; omega
        have hb4 : init.length + 1 < ys.length := by simp at hI; omega
        by_cases hc : ys[i].1 ≤ y.2
        · rw [if_pos hc] at hT
          simp (config := { implicitDefEqProofs := false, decide := true }) only [go_sem, Nat.reduceEqDiff, Nat.reduceAdd, Nat.reduceMul, Nat.reduceSub, Nat.reduceLT, Nat.reduceLeDiff, Nat.reduceBEq, reduceCtorEq, Int.reduceLT, Int.reduceLE, Int.reduceEq, Int.reduceToNat, Int.reduceAdd, Int.reduceSub, Int.reduceMul, Int.reduceNeg, Nat.reduceLT, ↓reduceIte, c83_L1, hlt, encSpan, hL, hL2, hwp, hc, hilt, hipos, hb, hb2, hb3, hb4, ite_max, norm_terms, norm_spans, norm_sels, len_terms, len_spans, len_sels, hasLL_terms, hasLL_spans, renLL_terms, renLL_spans, leaf_terms, leaf_spans, leaf_sels, norm_sets, len_sets, hasLL_sets, renLL_sets, leaf_sets]
          refine ⟨mid ++ [ys[i]], by rw [hT]; simp at hI ⊢; omega, ap [], ?_⟩
          simp (config := { implicitDefEqProofs := false, decide := true }) only [go_sem, Nat.reduceEqDiff, Nat.reduceAdd, Nat.reduceMul, Nat.reduceSub, Nat.reduceLT, Nat.reduceLeDiff, Nat.reduceBEq, reduceCtorEq, Int.reduceLT, Int.reduceLE, Int.reduceEq, Int.reduceToNat, Int.reduceAdd, Int.reduceSub, Int.reduceMul, Int.reduceNeg, Nat.reduceLT, ↓reduceIte, AV.renP, LeL, leE, leH, apartH, injH, keptS, ap, AV.ren, AV.renL, AV.renLL, AObj.ren, norm_terms, norm_spans, norm_sels, len_terms, len_spans, len_sels, hasLL_terms, hasLL_spans, renLL_terms, renLL_spans, leaf_terms, leaf_spans, leaf_sels, norm_sets, len_sets, hasLL_sets, renLL_sets, leaf_sets, hT, encSpan, wrap_nat hi]
          have hdm : List.map encSpan (ys.drop i) = encSpan ys[i] :: List.map encSpan (ys.drop (i + 1)) := by rw [hd]; rfl
          rw [hdm]
          simp [List.set_append, encSpan]
        · rw [if_neg hc] at hT
          obtain ⟨m0, mid', hm⟩ : ∃ m0 mid', mid ++ [ys[i]] = m0 :: mid' := by
            cases mid with
            | nil => exact ⟨_, _, rfl⟩
            | cons m0 mid' => exact ⟨m0, mid' ++ [ys[i]], rfl⟩
          have hw2 := wrap_nat (i := init.length + 1) (by omega)
          have hmm : List.map encSpan mid ++ List.map encSpan (ys.drop i) = encSpan m0 :: (List.map encSpan mid' ++ List.map encSpan (ys.drop (i + 1))) := by
            have : mid ++ ys.drop i = (mid ++ [ys[i]]) ++ ys.drop (i + 1) := by rw [hd]; simp
            rw [← List.map_append, this, hm]
            simp
          have hL3 : (List.map encSpan init ++ [[AV.int .i64 y.1, AV.int .i64 y.2]] ++ List.map encSpan mid ++ List.map encSpan (ys.drop i)).getD (init.length + 1) [] = [.int .i64 m0.1, .int .i64 m0.2] := by
            rw [List.append_assoc, hmm]
            simp [List.getD_eq_getElem?_getD, encSpan]
          simp (config := { implicitDefEqProofs := false, decide := true }) only [go_sem, Nat.reduceEqDiff, Nat.reduceAdd, Nat.reduceMul, Nat.reduceSub, Nat.reduceLT, Nat.reduceLeDiff, Nat.reduceBEq, reduceCtorEq, Int.reduceLT, Int.reduceLE, Int.reduceEq, Int.reduceToNat, Int.reduceAdd, Int.reduceSub, Int.reduceMul, Int.reduceNeg, Nat.reduceLT, ↓reduceIte, c83_L1, hlt, encSpan, hL, hL2, hL3, hwp, hw2, hc, hilt, hipos, hb, hb2, hb3, hb4, norm_terms, norm_spans, norm_sels, len_terms, len_spans, len_sels, hasLL_terms, hasLL_spans, renLL_terms, renLL_spans, leaf_terms, leaf_spans, leaf_sels, norm_sets, len_sets, hasLL_sets, renLL_sets, leaf_sets]
          refine ⟨mid', by rw [hT]; have := congrArg List.length hm; simp at hI this ⊢; omega, ap [], ?_⟩
          simp (config := { implicitDefEqProofs := false, decide := true }) only [go_sem, Nat.reduceEqDiff, Nat.reduceAdd, Nat.reduceMul, Nat.reduceSub, Nat.reduceLT, Nat.reduceLeDiff, Nat.reduceBEq, reduceCtorEq, Int.reduceLT, Int.reduceLE, Int.reduceEq, Int.reduceToNat, Int.reduceAdd, Int.reduceSub, Int.reduceMul, Int.reduceNeg, Nat.reduceLT, ↓reduceIte, AV.renP, LeL, leE, leH, apartH, injH, keptS, ap, AV.ren, AV.renL, AV.renLL, AObj.ren, norm_terms, norm_spans, norm_sels, len_terms, len_spans, len_sels, hasLL_terms, hasLL_spans, renLL_terms, renLL_spans, leaf_terms, leaf_spans, leaf_sels, norm_sets, len_sets, hasLL_sets, renLL_sets, leaf_sets, hT, encSpan, wrap_nat hi]
          rw [List.append_assoc (_ ++ _), hmm]
          simp [List.set_append, encSpan]
    · have he : joined ys = canonOf (has s) := joined_eq hyok hysd hya
      rw [List.take_length] at hI
      have hle : (joined ys).length ≤ ys.length := by omega
      have hz : (joined ys ++ mid).take (joined ys).length = joined ys := by simp
      simp (config := { implicitDefEqProofs := false, decide := true }) only [go_sem, Nat.reduceEqDiff, Nat.reduceAdd, Nat.reduceMul, Nat.reduceSub, Nat.reduceLT, Nat.reduceLeDiff, Nat.reduceBEq, reduceCtorEq, Int.reduceLT, Int.reduceLE, Int.reduceEq, Int.reduceToNat, Int.reduceAdd, Int.reduceSub, Int.reduceMul, Int.reduceNeg, Nat.reduceLT, ↓reduceIte, c83_L1, norm_terms, norm_spans, norm_sels, len_terms, len_spans, len_sels, hasLL_terms, hasLL_spans, renLL_terms, renLL_spans, leaf_terms, leaf_spans, leaf_sels, norm_sets, len_sets, hasLL_sets, renLL_sets, leaf_sets, List.take_length, List.drop_length, List.append_nil, hle, hz]
      exact ⟨7, mid.map encSpan, ⟨rfl, by rw [he]⟩, by rw [if_pos rfl, he]⟩
theorem f83_pure (hS : SortsF Tryz.prog 91 2) (s : Sp) (hl : s.length ≤ 1000000000) : PureP Tryz.prog 83 [.isl .unk (s.map encSpan)] (· = .isl .unk ((canonOf (has s)).map encSpan)) :=
  (f83_obj hS s hl).pure (List.length_map ..).symm (leafLL_map encSpan leaf_span _)
end
section
open Go.Aw Go.RowKit Go.Sort Go.Shelf
theorem pdq_terms : SortsK Tryz.prog 84 3 :=
  ⟨fun p cap lim fv w => AnyF.pdqsortCmpFunc_none (P := Tryz.prog) (ρ := Tryz.pdqT_ren) Tryz.pdqT p cap lim fv w, fun lim hlim α _ enc cf g cb blk off cap d w hk h1 hO eg hcmp hH hblk hsz => by
    have h := AnyQ.pdqsortCmpFunc_all (P := Tryz.prog) (ρ := Tryz.pdqT_ren) Tryz.pdqT 3 Tryz.isAgg51 Tryz.sizeOf51 enc cf g cb hO blk off cap d w eg hcmp ⟨hk, h1, hH, hblk⟩ (d.size + 1) 0 d.size lim d w (by omega) rfl (SWK.start hH) (Nat.zero_le _) (Nat.le_refl _) hsz hlim (Or.inl rfl)
    have hp := pdq_sorts (ltOf cf) hO d 0 d.size lim true true (Nat.zero_le _) (Nat.le_refl _) (Or.inl rfl)
    exact h.mono fun e w' ⟨he, n, os, hw⟩ => ⟨he, _, n, os, hp.1, hp.2, hw⟩⟩
theorem pdq_spans : SortsK Tryz.prog 105 2 :=
  ⟨fun p cap lim fv w => AnyF.pdqsortCmpFunc_none (P := Tryz.prog) (ρ := Tryz.pdqS_ren) Tryz.pdqS p cap lim fv w, fun lim hlim α _ enc cf g cb blk off cap d w hk h1 hO eg hcmp hH hblk hsz => by
    have h := AnyQ.pdqsortCmpFunc_all (P := Tryz.prog) (ρ := Tryz.pdqS_ren) Tryz.pdqS 2 Tryz.isAgg65 Tryz.sizeOf65 enc cf g cb hO blk off cap d w eg hcmp ⟨hk, h1, hH, hblk⟩ (d.size + 1) 0 d.size lim d w (by omega) rfl (SWK.start hH) (Nat.zero_le _) (Nat.le_refl _) hsz hlim (Or.inl rfl)
    have hp := pdq_sorts (ltOf cf) hO d 0 d.size lim true true (Nat.zero_le _) (Nat.le_refl _) (Or.inl rfl)
    exact h.mono fun e w' ⟨he, n, os, hw⟩ => ⟨he, _, n, os, hp.1, hp.2, hw⟩⟩
theorem e85 : Enters Tryz.prog 85 := enters_of Tryz.func85 (by kernel_rfl) rfl
theorem e84 : Enters Tryz.prog 84 := enters_of Tryz.func84 (by kernel_rfl) rfl
theorem e105 : Enters Tryz.prog 105 := enters_of Tryz.func105 (by kernel_rfl) rfl
/-- math/bits.Len -/
theorem f85_pure (n : Nat) (hn : n < 4611686018427387904) : PureP Tryz.prog 85 [.int .u64 n] (· = .int .i64 (Lib.bitLen n : Nat)) := by
  refine PureP.of_calls e85 rfl fun w O β vs hp => ?_
  have hv := (hp.2 0 (by simp) (by rw [hp.1]; simp)).int_inv
  obtain rfl : vs = #[.int .u64 n] := by
    have := hp.1
    apply Array.ext (by simpa using this)
    intro i h1 h2
    match i, h2 with
    | 0, _ => exact hv
  have h := Any.bits_Len (SlLaysF0.n15.bits (P := Tryz.prog) (ρ := Tryz.pdqT_ren) { Tryz.pdqT with }) (n : Int) w (by omega) (by omega)
  rw [Int.toNat_natCast] at h
  exact h.mono fun e w' ⟨he, hw⟩ => ⟨_, he, .imm (.int _ _), hw⟩
theorem bitLen_lt {n : Nat} (hn : n < 4611686018427387904) : Lib.bitLen n < 4611686018427387904 := Nat.lt_of_le_of_lt (Lib.bitLen_le n 62 (by omega) (by omega)) (by omega)
theorem wrap_u64 {n : Nat} (h : n < 4611686018427387904) : IntKind.u64.wrap (n : Int) = n := by simp [IntKind.wrap, IntKind.bits, IntKind.signed]; omega
/-- slices.SortFunc at terms -/
theorem f65_sorts : SortsF Tryz.prog 65 3 := by
  refine ⟨e65, ?_⟩
  intro α enc hk hl cf hO gC o E full xs hlen hcmp
  have hhas : ∀ n (l : List α), AV.hasLL n (l.map enc) = false := fun n l => hasLL_leaf hl l
  have hw := wrap_u64 hlen
  rw [← mkH_one]
  refine ACalls.run mixed Tryz.func65 c65_ok r65 (by rw [Tryz.ntmps65]; rfl) ?_
  simp (config := { implicitDefEqProofs := false, decide := true }) only [go_sem, Nat.reduceEqDiff, Nat.reduceAdd, Nat.reduceMul, Nat.reduceSub, Nat.reduceLT, Nat.reduceLeDiff, Nat.reduceBEq, reduceCtorEq, Int.reduceLT, Int.reduceLE, Int.reduceEq, Int.reduceToNat, Int.reduceAdd, Int.reduceSub, Int.reduceMul, Int.reduceNeg, Nat.reduceLT, ↓reduceIte, c65, finA, hw]
  refine LC.val (f85_pure _ hlen) ?_
  simp (config := { implicitDefEqProofs := false, decide := true }) only [go_sem, Nat.reduceEqDiff, Nat.reduceAdd, Nat.reduceMul, Nat.reduceSub, Nat.reduceLT, Nat.reduceLeDiff, Nat.reduceBEq, reduceCtorEq, Int.reduceLT, Int.reduceLE, Int.reduceEq, Int.reduceToNat, Int.reduceAdd, Int.reduceSub, Int.reduceMul, Int.reduceNeg, Nat.reduceLT, ↓reduceIte, finA]
  refine LC.own1 (o := o) (by simp [mkH]) e84 (pdq_terms.row _ (bitLen_lt hlen) hk hl cf hO gC o E full xs hlen hcmp) ?_
  rintro z h' ⟨rfl, ys, h1, h2, rfl⟩
  refine ⟨_, rfl, fun p hp => by simp [AV.has, AV.hasL] at hp, row_has hl E 3 ys, ?_⟩
  simp (config := { implicitDefEqProofs := false, decide := true }) only [go_sem, Nat.reduceEqDiff, Nat.reduceAdd, Nat.reduceMul, Nat.reduceSub, Nat.reduceLT, Nat.reduceLeDiff, Nat.reduceBEq, reduceCtorEq, Int.reduceLT, Int.reduceLE, Int.reduceEq, Int.reduceToNat, Int.reduceAdd, Int.reduceSub, Int.reduceMul, Int.reduceNeg, Nat.reduceLT, ↓reduceIte, finA]
  exact ⟨ys, h1, h2, mkH_one _ _⟩
/-- slices.SortFunc at spans -/
theorem f91_sorts : SortsF Tryz.prog 91 2 := by
  refine ⟨e91, ?_⟩
  intro α enc hk hl cf hO gC o E full xs hlen hcmp
  have hhas : ∀ n (l : List α), AV.hasLL n (l.map enc) = false := fun n l => hasLL_leaf hl l
  have hw := wrap_u64 hlen
  rw [← mkH_one]
  refine ACalls.run mixed Tryz.func91 c91_ok r91 (by rw [Tryz.ntmps91]; rfl) ?_
  simp (config := { implicitDefEqProofs := false, decide := true }) only [go_sem, Nat.reduceEqDiff, Nat.reduceAdd, Nat.reduceMul, Nat.reduceSub, Nat.reduceLT, Nat.reduceLeDiff, Nat.reduceBEq, reduceCtorEq, Int.reduceLT, Int.reduceLE, Int.reduceEq, Int.reduceToNat, Int.reduceAdd, Int.reduceSub, Int.reduceMul, Int.reduceNeg, Nat.reduceLT, ↓reduceIte, c91, finA, hw]
  refine LC.val (f85_pure _ hlen) ?_
  simp (config := { implicitDefEqProofs := false, decide := true }) only [go_sem, Nat.reduceEqDiff, Nat.reduceAdd, Nat.reduceMul, Nat.reduceSub, Nat.reduceLT, Nat.reduceLeDiff, Nat.reduceBEq, reduceCtorEq, Int.reduceLT, Int.reduceLE, Int.reduceEq, Int.reduceToNat, Int.reduceAdd, Int.reduceSub, Int.reduceMul, Int.reduceNeg, Nat.reduceLT, ↓reduceIte, finA]
  refine LC.own1 (o := o) (by simp [mkH]) e105 (pdq_spans.row _ (bitLen_lt hlen) hk hl cf hO gC o E full xs hlen hcmp) ?_
  rintro z h' ⟨rfl, ys, h1, h2, rfl⟩
  refine ⟨_, rfl, fun p hp => by simp [AV.has, AV.hasL] at hp, row_has hl E 2 ys, ?_⟩
  simp (config := { implicitDefEqProofs := false, decide := true }) only [go_sem, Nat.reduceEqDiff, Nat.reduceAdd, Nat.reduceMul, Nat.reduceSub, Nat.reduceLT, Nat.reduceLeDiff, Nat.reduceBEq, reduceCtorEq, Int.reduceLT, Int.reduceLE, Int.reduceEq, Int.reduceToNat, Int.reduceAdd, Int.reduceSub, Int.reduceMul, Int.reduceNeg, Nat.reduceLT, ↓reduceIte, finA]
  exact ⟨ys, h1, h2, mkH_one _ _⟩
end
end Go.Proofs.YtbjhhaklecljdaaGreat
