/-
  The machinery: abstract values, an abstract heap of own objects, the relation to the machine, and the rules by which a function is walked. It holds of every program.
-/
import Derived.Test.YtbjhhaklecljdaaGreatA0
import Derived.IntWalk
import Derived.Shelf.Abstract
import Derived.Maps.RangeRun
import Derived.Orders
section
set_option linter.unusedVariables false
set_option linter.unusedSimpArgs false
namespace Go.Aw
section
variable {C : Cx} {F : Fr} {β : Nat → Option Loc} {st : St} {a : Act} {w : World} {n : Nat} {Q : AV → Hp → Prop}

theorem exec_value {P : Program} {s : Sem Value} {v : Value} {w w' : World} (h : s.run P w = .ok v w') : (do pure (.value (← s)) : Sem Next).run P w = .ok (.value v) w' := by
  simp [Sem.run_bind, h, Result.andThen, Sem.run]
theorem exec_unit {P : Program} {s : Sem Unit} {w w' : World} (h : s.run P w = .ok () w') : (do s; pure .skip : Sem Next).run P w = .ok .skip w' := by
  simp [Sem.run_bind, h, Result.andThen, Sem.run]

/-- What a value is whose abstract value is a list's element. -/
theorem VR.list {β : Nat → Option Loc} {a : Act} {e : Nat → AV} {O : Nat → Prop} (f : ∀ x, VR w O β (rho e x) (a.eval x)) (l : Array Operand) :
    (l.map a.eval).size = (l.toList.map (rho e)).length ∧ ∀ m (h1 : m < (l.toList.map (rho e)).length) (h2 : m < (l.map a.eval).size), VR w O β (l.toList.map (rho e))[m] (l.map a.eval)[m] :=
  ⟨by simp, fun m h1 h2 => by simpa using f _⟩

theorem type0 {ts : Array TypeId} (h : 0 < ts.size) : ∃ t, ts[0]? = some t ∧ ts.getD 0 0 = t := ⟨ts[0], by simp [h], by simp [Array.getD_eq_getD_getElem?, h]⟩
theorem one_of {α : Type} {l : List α} {x : α} (h0 : l[0]? = some x) (hl : l.length = 1) : l = [x] := by
  match l, hl with
  | [p], _ => simp at h0; rw [h0]
theorem two_of {α : Type} {l : List α} {x y : α} (h0 : l[0]? = some x) (h1 : l[1]? = some y) (hl : l.length = 2) : l = [x, y] := by
  match l, hl with
  | [p, q], _ => simp at h0 h1; rw [h0, h1]

theorem clear_sound {Q : AV → Hp → Prop} (h : SRb C F β st a w) (t : TypeId) {x : AV} {v : Value} (hv : VR w (Av F.A β st.heap) β x v) (hwp : (aclear C.P t x).wp n (Fresh C st n) st.heap Q) :
    ∃ w' h', (∀ (ts : Array TypeId), ts[0]? = some t → ∀ ty, (Builtin.clear_ ts ty #[v]).run C.P w = .ok (.tuple #[]) w') ∧ SRb C F β ⟨st.env, h'⟩ a w' ∧ Q .undef h' := by
  unfold aclear at hwp
  split at hwp
  · rename_i o off len full
    split at hwp
    · rename_i el ht
      split at hwp
      · rename_i k z hk hz
        simp only [AM.wp] at hwp
        split at hwp
        · rename_i ob hob
          cases ob with
          | row e k' xs =>
            obtain ⟨⟨rfl, hzl, hk0, heq⟩, _, hQ⟩ := hwp
            have hR := h.heap.obj o _ hob
            have ht' := run_underlying (run_tElem ht)
            obtain ⟨zv, e1, e2⟩ := run_tZero w hz
            obtain ⟨c1, c2, c3⟩ := (ofValue_VR w (Av F.A β st.heap) β zv).cells_inv e2
            have hsame : xs.take off = xs → updH st.heap o (some (.row e k' (xs.take off))) = st.heap := fun q => by
              rw [q]; funext p; unfold updH; split
              · rename_i hp; rw [hp, hob]
              · rfl
            rcases hv.sl_inv with ⟨l, cap, A1, hlo, g1, g2, g3, g4, g5, rfl⟩ | ⟨hlo, rfl, rfl, A, rfl⟩
            · rw [hlo] at hR
              obtain ⟨k1, k2, k3, k4, cur, k5, k6, k7, k8⟩ := hR
              rcases Nat.eq_zero_or_pos len with h0 | h0
              · subst h0
                refine ⟨w, _, fun ts hts ty => ?_, ?_, hQ⟩
                · simp only [Builtin.clear_, hts]
                  cases A1 <;> simp [Sem.run_bind, ht', Result.andThen_ok, Sem.run_pure]
                · rw [hsame (List.take_of_length_le (by omega))]; exact h
              · obtain rfl := g5 (by omega)
                have hzs : zv.cells.size = k' := by omega
                have hzsz : (Builtin.zeroCells zv.cells len).size = len * k' := by simp [Builtin.zeroCells, hzs]
                have hz1 := zeroCells_one' (z := zv.cells) c2 len
                have hmul : (off + len) * k' ≤ l.cap * k' := Nat.mul_le_mul_right _ (by omega)
                rw [Nat.add_mul] at hmul
                have hst := run_storeCells_at (P := C.P) l.blk (l.c0 + off * l.k) e (Builtin.zeroCells zv.cells len).toList 0 cur w k5 (by rw [k1]; simp only [Array.length_toList, hzsz]; omega) (fun q hq => by
                  obtain ⟨m, hm, rfl⟩ := List.getElem_of_mem hq
                  simpa using hz1 m (by simpa using hm))
                have hp : l.c0 + off * l.k + 0 + (Builtin.zeroCells zv.cells len).toList.length ≤ cur.size := by rw [k1]; simp only [Array.length_toList, hzsz]; omega
                have hget := seg_get (p := l.c0 + off * l.k + 0) (us := (Builtin.zeroCells zv.cells len).toList) hp
                generalize hcur' : (cur.toList.take (l.c0 + off * l.k + 0) ++ (Builtin.zeroCells zv.cells len).toList ++ cur.toList.drop (l.c0 + off * l.k + 0 + (Builtin.zeroCells zv.cells len).toList.length)).toArray = cur' at hst hget
                have hsz' : cur'.size = cur.size := by rw [← hcur']; simp at hp ⊢; omega
                refine ⟨w.setRow l.blk cur', _, fun ts hts ty => ?_, ?_, hQ⟩
                · obtain ⟨m, rfl⟩ : ∃ m, len = m + 1 := ⟨len - 1, by omega⟩
                  simp only [Builtin.clear_, hts]
                  simp [Sem.run_bind, ht', Result.andThen_ok, Sem.run_pure, e1, hst]
                · refine h.putRow (o := o) (l := l) (ys := xs.take off) (cur := cur) (cur' := cur') (w' := w.setRow l.blk cur') hob hlo k5 (by simp [World.setRow]) (setRow_heap w _ _ _ _ _ k5)
                    (by
                      intro b hb
                      simp only [World.setRow, Array.getElem?_modify]
                      rw [if_neg (fun e' => hb e'.symm)]) rfl rfl rfl hsz' (by simp only [List.length_take]; omega)
                    (fun q hq => k4 q (List.mem_of_mem_take hq))
                    (by
                      intro m hm
                      have hg := hget m
                      rw [Array.getElem?_eq_getElem hm] at hg
                      split at hg
                      · obtain ⟨q1, q2⟩ := Array.getElem?_eq_some_iff.1 hg.symm
                        rw [← q2]; exact k7 m q1
                      · split at hg
                        · obtain ⟨q1, q2⟩ := List.getElem?_eq_some_iff.1 hg.symm
                          rw [← q2]; simpa using hz1 _ (by simpa using q1)
                        · obtain ⟨q1, q2⟩ := Array.getElem?_eq_some_iff.1 hg.symm
                          rw [← q2]; exact k7 m q1)
                    (by
                      intro p j q1 q2
                      simp only [List.length_take] at q1
                      have e0 : (xs.take off)[p]'(by simp; omega) = xs[p]'(by omega) := List.getElem_take
                      simp only [e0] at q2 ⊢
                      obtain ⟨q, r1, r2⟩ := k8 p j (by omega) q2
                      have hj : j < k' := by rw [k4 _ (List.getElem_mem (by omega))] at q2; exact q2
                      have hpl : p * k' + k' ≤ off * k' := by
                        have : (p + 1) * k' ≤ off * k' := Nat.mul_le_mul_right _ (by omega)
                        rw [Nat.add_mul] at this; omega
                      refine ⟨q, ?_, r2⟩
                      rw [hget, if_pos (by rw [k1]; omega), ← r1])
            · rw [hlo] at hR
              have : xs = [] := hR
              subst this
              refine ⟨w, _, fun ts hts ty => ?_, ?_, hQ⟩
              · simp only [Builtin.clear_, hts]
                cases A <;> simp [Sem.run_bind, ht', Result.andThen_ok, Sem.run_pure]
              · rw [hsame rfl]; exact h
          | _ => exact hwp.elim
        · exact hwp.elim
      · exact hwp.elim
    · exact hwp.elim
  · exact hwp.elim
theorem builtin_sound (o : Oper) (h : SRb C F β st a w) (b : Builtin) (argTypes : Array TypeId) (args : Array Operand) (hop : o.op = .call { callee := .builtin b, args, argTypes }) (hwp : (abuiltin C.P b argTypes (args.toList.map (rho st.env))).wp n (Fresh C st n) st.heap Q) :
    Target C F st a ((execOp a.eval o).run C.P w) Q := by
  have hr := h.rho
  have hexec : ∀ (S : Sem Value) (r : Value) (w' : World), (∀ s, builtin b argTypes o.type s (args.map a.eval) = (do pure (.value (← S)) : Sem Next)) → S.run C.P w = .ok r w' → (execOp a.eval o).run C.P w = .ok (.value r) w' := by
    intro S r w' hb hrun
    simp only [execOp, hop, resolve, Sem.run_bind, Sem.run_pure, Result.andThen_ok, invoke]
    rw [hb]
    exact exec_value hrun
  have hargs : ∀ l : List AV, args.toList.map (rho st.env) = l → ∀ (m : Nat) (h1 : m < l.length), ∃ x, args.toList[m]? = some x ∧ rho st.env x = l[m] := by
    intro l hl m h1
    subst hl
    simp at h1
    exact ⟨args[m], by simp [h1], by simp⟩
  unfold abuiltin at hwp
  generalize hl : args.toList.map (rho st.env) = l at hwp
  split at hwp
  · rename_i o' off len full
    obtain ⟨⟨hs0, hel⟩, hQ⟩ := hwp
    obtain ⟨x, hx, hxv⟩ := hargs _ hl 0 (by simp)
    have hlen : args.toList = [x] := one_of hx (by simpa using congrArg List.length hl)
    obtain ⟨e, he⟩ := Option.isSome_iff_exists.1 hel
    have hue := run_tElem he
    have hv := hr x
    rw [show rho st.env x = .sl o' off len full by simpa using hxv] at hv
    have hmap : args.map a.eval = #[a.eval x] := by apply Array.ext'; simp [hlen]
    obtain ⟨t0, h0, h0'⟩ := type0 hs0
    rw [h0'] at hue
    refine .value (x := .int .i64 len) (v := .int .i64 len) h (.imm (.int _ _)) hQ (hexec _ _ _ (fun s => rfl) ?_)
    simp only [hmap]
    rcases hv.sl_inv with ⟨l, cap, A, _, _, _, _, _, _, e1⟩ | ⟨_, _, e0, A, e1⟩
    · simp [Builtin.len_, h0, e1, run_underlying hue, goInt, Sem.run, Result.andThen]
    · subst e0; simp [Builtin.len_, h0, e1, run_underlying hue, goInt, Sem.run, Result.andThen]
  · rename_i f xs
    obtain ⟨⟨hs0, hel⟩, hQ⟩ := hwp
    obtain ⟨x, hx, hxv⟩ := hargs _ hl 0 (by simp)
    have hlen : args.toList = [x] := one_of hx (by simpa using congrArg List.length hl)
    obtain ⟨e, he⟩ := Option.isSome_iff_exists.1 hel
    have hue := run_tElem he
    have hv := hr x
    rw [show rho st.env x = .isl f xs by simpa using hxv] at hv
    have hmap : args.map a.eval = #[a.eval x] := by apply Array.ext'; simp [hlen]
    obtain ⟨t0, h0, h0'⟩ := type0 hs0
    rw [h0'] at hue
    refine .value (x := .int .i64 xs.length) (v := .int .i64 xs.length) h (.imm (.int _ _)) hQ (hexec _ _ _ (fun s => rfl) ?_)
    simp only [hmap]
    have hi := hv.isl_inv
    generalize hv' : a.eval x = v at *
    cases hi with
    | isl _ _ A cap k => simp [Builtin.len_, h0, run_underlying hue, goInt, Sem.run, Result.andThen]
  · rename_i s
    obtain ⟨⟨hs0, hel⟩, hQ⟩ := hwp
    obtain ⟨x, hx, hxv⟩ := hargs _ hl 0 (by simp)
    have hlen : args.toList = [x] := one_of hx (by simpa using congrArg List.length hl)
    have hu := run_tKind hel
    simp only at hu
    have hv := hr x
    rw [show rho st.env x = .str s by simpa using hxv] at hv
    have hmap : args.map a.eval = #[a.eval x] := by apply Array.ext'; simp [hlen]
    obtain ⟨t0, h0, h0'⟩ := type0 hs0
    rw [h0'] at hu
    refine .value (x := .int .i64 s.size) (v := .int .i64 s.size) h (.imm (.int _ _)) hQ (hexec _ _ _ (fun s => rfl) ?_)
    simp [hmap, Builtin.len_, h0, hv.str_inv, run_underlying hu, goInt, Sem.run, Result.andThen]
  · rename_i o'
    obtain ⟨⟨hs0, hel⟩, hwp⟩ := hwp
    obtain ⟨x, hx, hxv⟩ := hargs _ hl 0 (by simp)
    have hlen : args.toList = [x] := one_of hx (by simpa using congrArg List.length hl)
    obtain ⟨⟨kt, vt⟩, he⟩ := Option.isSome_iff_exists.1 hel
    have hue := run_tMapKV he
    have hv := hr x
    rw [show rho st.env x = .map o' by simpa using hxv] at hv
    have hmap : args.map a.eval = #[a.eval x] := by apply Array.ext'; simp [hlen]
    obtain ⟨t0, h0, h0'⟩ := type0 hs0
    rw [h0'] at hue
    simp only [AM.wp] at hwp
    split at hwp
    · rename_i ob hob
      cases ob with
      | map clock es =>
        obtain ⟨l, hl', hv'⟩ := hv.map_inv
        obtain ⟨arr, g1, g2, g3⟩ := h.map_at hob hl'
        refine .value (x := .int .i64 es.length) (v := .int .i64 es.length) h (.imm (.int _ _)) hwp (hexec _ _ _ (fun s => rfl) ?_)
        simp only [hmap]
        simp [Builtin.len_, h0, hv', run_underlying hue, goInt, getObj_map g1, Sem.run, Result.andThen, g2]
      | _ => exact hwp.elim
    · exact hwp.elim
  · obtain ⟨⟨hs0, hel⟩, hQ⟩ := hwp
    obtain ⟨x, hx, hxv⟩ := hargs _ hl 0 (by simp)
    have hlen : args.toList = [x] := one_of hx (by simpa using congrArg List.length hl)
    obtain ⟨⟨kt, vt⟩, he⟩ := Option.isSome_iff_exists.1 hel
    have hue := run_tMapKV he
    have hv := hr x
    rw [show rho st.env x = .nilmap by simpa using hxv] at hv
    have hmap : args.map a.eval = #[a.eval x] := by apply Array.ext'; simp [hlen]
    obtain ⟨t0, h0, h0'⟩ := type0 hs0
    rw [h0'] at hue
    refine .value (x := .int .i64 0) (v := .int .i64 0) h (.imm (.int _ _)) hQ (hexec _ _ _ (fun s => rfl) ?_)
    simp only [hmap]
    simp [Builtin.len_, h0, hv.nilmap_inv, run_underlying hue, goInt, Sem.run, Result.andThen]
  · rename_i m k
    obtain ⟨hsz, hwp⟩ := hwp
    obtain ⟨x, hx, hxv⟩ := hargs _ hl 0 (by simp)
    obtain ⟨y, hy, hyv⟩ := hargs _ hl 1 (by simp)
    have hlen : args.toList = [x, y] := two_of hx hy (by simpa using congrArg List.length hl)
    have hv := hr x
    rw [show rho st.env x = m by simpa using hxv] at hv
    have hu := hr y
    rw [show rho st.env y = k by simpa using hyv] at hu
    have hmap : args.map a.eval = #[a.eval x, a.eval y] := by apply Array.ext'; simp [hlen]
    obtain ⟨t0, h0, h0'⟩ := type0 (show 0 < argTypes.size by omega)
    rw [h0'] at hwp
    obtain ⟨w', h', e1, e2, e3⟩ := delete_sound h t0 hv hu hwp
    refine ⟨.tuple #[], .undef, h', w', β, .inl (hexec _ _ _ (fun s => rfl) ?_), e2, .undef _, e3⟩
    simp only [hmap]
    rw [show argTypes = #[t0, argTypes.getD 1 0] from ?_]
    · exact e1 _ _
    · apply Array.ext
      · simpa using hsz
      · intro m h1 h2
        have : m = 0 ∨ m = 1 := by omega
        rcases this with rfl | rfl
        · simpa [h1] using h0
        · simp [Array.getD_eq_getD_getElem?, h1]
  · rename_i k p k' q
    obtain ⟨rfl, hQ⟩ := hwp
    obtain ⟨x, hx, hxv⟩ := hargs _ hl 0 (by simp)
    obtain ⟨y, hy, hyv⟩ := hargs _ hl 1 (by simp)
    have hlen : args.toList = [x, y] := two_of hx hy (by simpa using congrArg List.length hl)
    have hv := hr x
    rw [show rho st.env x = .int k p by simpa using hxv] at hv
    have hu := hr y
    rw [show rho st.env y = .int k q by simpa using hyv] at hu
    have hmap : args.map a.eval = #[.int k p, .int k q] := by apply Array.ext'; simp [hlen, hv.int_inv, hu.int_inv]
    refine .value (x := .int k (if p < q then q else p)) (v := .int k (if p < q then q else p)) h (.imm (.int _ _)) hQ (hexec _ _ _ (fun s => rfl) ?_)
    simp [hmap, Builtin.max_, Builtin.max2, Sem.run, Result.andThen]
  · rename_i k p k' q
    obtain ⟨rfl, hQ⟩ := hwp
    obtain ⟨x, hx, hxv⟩ := hargs _ hl 0 (by simp)
    obtain ⟨y, hy, hyv⟩ := hargs _ hl 1 (by simp)
    have hlen : args.toList = [x, y] := two_of hx hy (by simpa using congrArg List.length hl)
    have hv := hr x
    rw [show rho st.env x = .int k p by simpa using hxv] at hv
    have hu := hr y
    rw [show rho st.env y = .int k q by simpa using hyv] at hu
    have hmap : args.map a.eval = #[.int k p, .int k q] := by apply Array.ext'; simp [hlen, hv.int_inv, hu.int_inv]
    refine .value (x := .int k (if q < p then q else p)) (v := .int k (if q < p then q else p)) h (.imm (.int _ _)) hQ (hexec _ _ _ (fun s => rfl) ?_)
    simp [hmap, Builtin.min_, Builtin.min2, Sem.run, Result.andThen]
  · rename_i s x'
    obtain ⟨hsz, hwp⟩ := hwp
    obtain ⟨x, hx, hxv⟩ := hargs _ hl 0 (by simp)
    obtain ⟨y, hy, hyv⟩ := hargs _ hl 1 (by simp)
    have hlen : args.toList = [x, y] := two_of hx hy (by simpa using congrArg List.length hl)
    have hv := hr x
    rw [show rho st.env x = s by simpa using hxv] at hv
    have hu := hr y
    rw [show rho st.env y = x' by simpa using hyv] at hu
    have hmap : args.map a.eval = #[a.eval x, a.eval y] := by apply Array.ext'; simp [hlen]
    have hat : argTypes = #[argTypes.getD 0 0, argTypes.getD 1 0] := by
      apply Array.ext
      · simpa using hsz
      · intro m h1 h2
        have : m = 0 ∨ m = 1 := by omega
        rcases this with rfl | rfl <;> simp [Array.getD_eq_getD_getElem?, h1]
    obtain ⟨r, z, w', h', β', e1, e2, e3, e4⟩ := append_sound h (argTypes.getD 0 0) (argTypes.getD 1 0) o.type s x' _ _ hv hu hwp
    refine ⟨r, z, h', w', β', .inl (hexec _ _ _ (fun s => rfl) ?_), e2, e3, e4⟩
    simp only [hmap]
    rw [hat]
    exact e1
  · obtain ⟨x', hl1, hb1, hs0, hwp2⟩ := aclearB_inv hwp
    clear hwp
    subst hb1
    subst hl1
    obtain ⟨x, hx, hxv⟩ := hargs _ hl 0 (by simp)
    have hlen : args.toList = [x] := one_of hx (by simpa using congrArg List.length hl)
    have hv := hr x
    rw [show rho st.env x = x' by simpa using hxv] at hv
    have hmap : args.map a.eval = #[a.eval x] := by apply Array.ext'; simp [hlen]
    obtain ⟨t0, h0, h0'⟩ := type0 hs0
    rw [h0'] at hwp2
    obtain ⟨w', h', e1, e2, e3⟩ := clear_sound h t0 hv hwp2
    refine ⟨.tuple #[], .undef, h', w', β, .inl (hexec _ _ _ (fun s => rfl) ?_), e2, .undef _, e3⟩
    simp only [hmap]
    exact e1 argTypes h0 _

theorem aop_sound (o : Oper) (h : SRb C F β st a w) (hwp : (aop C.P st.env o.op).wp n (Fresh C st n) st.heap Q) : Target C F st a ((execOp a.eval o).run C.P w) Q := by
  have hr := h.rho
  unfold aop at hwp
  split at hwp
  case h_1 x hop => exact .value h (hr x) hwp (by simp [execOp, hop, Sem.run])
  case h_2 x hop => exact .value h (hr x) hwp (by simp [execOp, hop, Sem.run])
  case h_3 c x y hop =>
    split at hwp
    · rename_i t ht
      have hb := hr c
      rw [ht] at hb
      refine .value (x := bif t then rho st.env x else rho st.env y) (v := if t then a.eval x else a.eval y) h ?_ hwp ?_
      · cases t
        · exact hr y
        · exact hr x
      · simp only [execOp, hop, hb.bool_inv, asBool, Sem.run_bind, Sem.run_pure, Result.andThen_ok]
    · exact hwp.elim
  case h_4 t hop =>
    split at hwp
    · rename_i z s hz hs
      obtain ⟨hl, hwp⟩ := hwp
      obtain ⟨v, e1, e2⟩ := run_tZero w hz
      subst hl
      exact new_sound h t (ofValue v) v z (ofValue_VR _ _ _ v) e2 hwp (by
        simp only [execOp, hop]
        exact exec_value (by simp only [Instr.alloc, Sem.run_bind, e1, Result.andThen_ok, run_newVar, Sem.run_pure]))
    · exact hwp.elim
  case h_5 t x hop =>
    split at hwp
    · rename_i z hz
      exact new_sound h t _ _ z (hr x) hz hwp (by
        simp only [execOp, hop]
        exact exec_value (by simp only [Instr.box, Sem.run_bind, Result.andThen_ok, run_newVar, Sem.run_pure]))
    · exact hwp.elim
  case h_6 t x hop =>
    obtain ⟨r, y, e1, e2, e3⟩ := load_sound h t _ _ (hr x) hwp
    exact .value h e2 e3 (by simp only [execOp, hop]; exact exec_value e1)
  case h_7 t x y hop =>
    obtain ⟨w', h', e1, e2, e3⟩ := store_sound h t _ _ _ _ (hr x) (hr y) hwp
    exact ⟨undef, .undef, h', w', β, .inr ⟨by simp only [execOp, hop]; exact exec_unit e1, rfl⟩, e2, .undef _, e3⟩
  case h_8 x hop =>
    have hb := hr x
    split at hwp
    · rename_i o i j ht
      rw [ht] at hb
      obtain ⟨l, hl, hv⟩ := hb.ptr_inv
      exact .value h hb hwp (by simp [execOp, hop, hv, Sem.run])
    · rename_i cs ht
      rw [ht] at hb
      have := hb.iptr_inv
      generalize hv : a.eval x = v at *
      cases this with
      | iptr _ b c vs hl hO hlt hc h1c hh => exact .value h hb hwp (by simp [execOp, hop, hv, Sem.run])
    · exact hwp.elim
  case h_9 op t x y t' hop =>
    obtain ⟨r, z, e1, e2, e3⟩ := binT_sound op t _ _ x y _ _ (hr x) (hr y) hwp
    exact .value h e2 e3 (by simp only [execOp, hop]; exact exec_value e1)
  case h_10 op t x hop =>
    have hb := hr x
    split at hwp
    · rename_i b ht
      rw [ht] at hb
      exact .value h (.imm (.bool _)) hwp (by simp [execOp, hop, hb.bool_inv, Op.unary, Sem.run])
    · rename_i k m ht
      rw [ht] at hb
      exact .value h (.imm (.int _ _)) hwp (by simp [execOp, hop, hb.int_inv, Op.unary, Op.intArith, Sem.run])
    · exact hwp.elim
  case h_11 src dst x hop =>
    have hb := hr x
    split at hwp
    · rename_i k0 k k1 m h1 h2 ht
      have h1' := run_tKind h1
      have h2' := run_tKind h2
      simp only at h1' h2'
      rw [ht] at hb
      exact .value h (.imm (.int _ _)) hwp (by
        simp only [execOp, hop]
        exact exec_value (by simp only [convert, Sem.run_bind, run_underlying h1', run_underlying h2', Result.andThen_ok, hb.int_inv, Conv.intToInt, Sem.run_pure]))
    · rename_i s h1 h2 ht
      have h1' := run_tKind h1
      have h2' := run_tKind h2
      simp only at h1' h2'
      rw [ht] at hb
      exact .value h (.imm (.str _)) hwp (by
        simp only [execOp, hop]
        exact exec_value (by simp only [convert, Sem.run_bind, run_underlying h1', run_underlying h2', Result.andThen_ok, hb.str_inv, Sem.run_pure]))
    · exact hwp.elim
  case h_12 fn first captured hop =>
    obtain ⟨l1, g1⟩ := VR.list hr first
    obtain ⟨l2, g2⟩ := VR.list hr captured
    exact .value h (.func _ _ _ _ _ l1 l2 g1 g2) hwp (by simp [execOp, hop, Instr.makeFunc, Sem.run])
  case h_13 s x f hop =>
    split at hwp
    · rename_i off sz hf
      obtain ⟨h0, hwp⟩ := hwp
      obtain ⟨r, y, e1, e2, e3⟩ := field_sound h s _ _ f off sz hf h0 (hr x) hwp
      exact .value h e2 e3 (by simp only [execOp, hop]; exact exec_value e1)
    · exact hwp.elim
  case h_14 s x f hop =>
    have hb := hr x
    split at hwp
    · rename_i ft off sz cs hft hf hx
      split at hwp
      · rename_i g hg
        obtain ⟨⟨h0, hle, h1⟩, hQ⟩ := hwp
        rw [hx] at hb
        obtain ⟨vs, hv, hl, h1c, hh⟩ := hb.agg_inv
        have hu : ∃ fs fd, C.P.underlying s = some (.struct fs) ∧ fs[f]? = some fd ∧ fd.type = ft := by
          unfold tFieldT at hft
          split at hft
          · rename_i fs hu
            obtain ⟨fd, e1, e2⟩ := Option.map_eq_some_iff.1 hft
            exact ⟨fs, fd, hu, e1, e2⟩
          · cases hft
        obtain ⟨fs, fd, hu, hfd, rfl⟩ := hu
        have hsz : tSize C.P fd.type = some sz ∧ fd.offset = off := by
          simp only [tField, hu, hfd, Option.bind_some] at hf
          obtain ⟨s', e1, e2⟩ := Option.map_eq_some_iff.1 hf
          injection e2 with e2 e3
          subst e2 e3
          exact ⟨e1, rfl⟩
        obtain ⟨hsz, rfl⟩ := hsz
        have hpart := part_run (w := w) hsz hg h0 h1 vs fd.offset (by omega)
        refine .value h (partOf_VR (vs := (vs.toList.drop fd.offset).take sz) (by simp; omega) (by omega) h0 h1 (fun u hu => ?_) (fun m g1 g2 => ?_)) hQ (by
          simp only [execOp, hop]
          exact exec_value (by simp only [Instr.field, Sem.run_bind, run_underlying hu, Result.andThen_ok, hfd, hv, asAgg, Sem.run_pure, hpart]))
        · obtain ⟨m, hm, rfl⟩ := List.getElem_of_mem (List.mem_of_mem_drop (List.mem_of_mem_take hu))
          simpa using h1c m (by simpa using hm)
        · simp at g2
          rw [List.getD_eq_getElem?_getD, List.getElem?_eq_getElem (by omega)]
          simpa using hh (fd.offset + m) (by omega) (by omega)
      · exact hwp.elim
    · exact hwp.elim
  case h_15 t x ix hop =>
    split at hwp
    · rename_i el ht
      obtain ⟨r, z, e1, e2, e3⟩ := index_sound h t el (run_tElem ht) _ _ _ _ (hr x) (hr ix) hwp
      exact .value h e2 e3 (by simp only [execOp, hop]; exact exec_value e1)
    · split at hwp
      · rename_i len el kk i hk hi
        have hu := run_tKind hk
        simp only at hu
        have hix := hr ix
        rw [hi] at hix
        split at hwp
        · rename_i s hs
          obtain ⟨⟨h0, hi0, hi1⟩, hwp⟩ := hwp
          have run : ∀ b c, (Instr.indexAt t (.pointer (some ⟨b, c, none⟩)) (.int kk i)).run C.P w = .ok (.pointer (some ⟨b, c + i.toNat * s, none⟩)) w := by
            intro b c
            simp only [Instr.indexAt, asIntOf, Sem.run_bind, Sem.run_pure, Result.andThen_ok, run_underlying hu, Instr.sureAddr]
            rw [if_pos ⟨hi0, hi1⟩]
            simp only [Sem.run_bind, run_tSize w hs, Result.andThen_ok, Sem.run_pure, addr_add]
          have hb := hr x
          split at hwp
          · rename_i o p j hx
            rw [hx] at hb
            obtain ⟨l, hl, hv⟩ := hb.ptr_inv
            refine .value (x := .ptr o p (j + i.toNat * s)) h ?_ hwp (by simp only [execOp, hop]; exact exec_value (by rw [hv, hix.int_inv]; exact run _ _))
            rw [show l.c0 + p * l.k + j + i.toNat * s = l.c0 + p * l.k + (j + i.toNat * s) by omega]
            exact .ptr o p _ l hl
          · rename_i cs hx
            obtain ⟨hle, hQ⟩ := hwp
            rw [hx] at hb
            have hir := hb.iptr_inv
            generalize hv : a.eval x = v at *
            cases hir with
            | iptr _ b c vs hl hO hlt hc h1c hh =>
              refine .value (x := .iptr (cs.drop (i.toNat * s))) h (.imm (.iptr _ b (c + i.toNat * s) (vs.drop (i.toNat * s)) (by simp [hl]) hO hlt (fun m hm => ?_) (fun u hu => h1c u (List.mem_of_mem_drop hu)) (fun m g1 g2 => ?_))) hQ
                (by simp only [execOp, hop]; exact exec_value (by rw [hv, hix.int_inv]; exact run _ _))
              · simp at hm
                have := hc (i.toNat * s + m) (by omega)
                rw [show c + i.toNat * s + m = c + (i.toNat * s + m) by omega]
                simpa using this
              · simp at g1 g2
                simpa using hh (i.toNat * s + m) (by omega) (by omega)
          · exact hwp.elim
        · exact hwp.elim
      · exact hwp.elim
  case h_16 x i hop =>
    have hb := hr x
    split at hwp
    · rename_i vs ht
      rw [ht] at hb
      obtain ⟨us, hv, hl, hh⟩ := hb.tup_inv
      obtain ⟨hi, hQ⟩ := hwp
      have hi' : i < us.size := by omega
      refine .value (x := vs.getD i .undef) (v := us[i]) h ?_ hQ (by simp [execOp, hop, hv, Instr.extract, hi', Sem.run])
      rw [List.getD_eq_getElem?_getD, List.getElem?_eq_getElem hi]
      exact hh i hi hi'
    · exact hwp.elim
  case h_17 t x lo hi mx hop =>
    obtain ⟨r, y, e1, e2, e3⟩ := slice_sound h t _ _ _ _ _ (lo.map a.eval) (hi.map a.eval) (mx.map a.eval) (hr x) (fun d i hi' => boundR_of hr lo d i hi') (fun d i hi' => boundR_of hr hi d i hi') (fun d i hi' => boundR_of hr mx d i hi') hwp
    exact .value h e2 e3 (by simp only [execOp, hop]; exact exec_value e1)
  case h_18 t ps hop =>
    have hparts : PartsR w (Av F.A β st.heap) β (aparts st.env ps) (ps.map fun (p : Nat × Operand) => (p.1, a.eval p.2)).toList := by
      rw [Array.toList_map]
      exact partsR_of hr ps.toList
    split at hwp
    · rename_i z hz
      split at hwp
      · obtain ⟨hok, hwp⟩ := hwp
        split at hwp
        · rename_i cs hcs
          obtain ⟨r, e1, e2⟩ := build_struct_run (P := C.P) _ _ hparts z cs hz hok hcs
          exact .value h e2 hwp (by simp only [execOp, hop]; exact exec_value e1)
        · exact hwp.elim
      · rename_i len el hk
        have hu := run_tKind hk
        simp only at hu
        split at hwp
        · rename_i s hs
          split at hwp
          · rename_i cs hcs
            obtain ⟨r, e1, e2⟩ := build_arr_run (P := C.P) _ _ hparts z cs hz hu hs hcs
            exact .value h e2 hwp (by simp only [execOp, hop]; exact exec_value e1)
          · exact hwp.elim
        · exact hwp.elim
      · exact hwp.elim
    · exact hwp.elim
  case h_19 t len ps hop =>
    have hparts : PartsR w (Av F.A β st.heap) β (aparts st.env ps) (ps.map fun (p : Nat × Operand) => (p.1, a.eval p.2)).toList := by
      rw [Array.toList_map]
      exact partsR_of hr ps.toList
    split at hwp
    · rename_i el ht
      split at hwp
      · rename_i k z hk hz
        obtain ⟨⟨hmax, hk0, hzl⟩, hwp⟩ := hwp
        split at hwp
        · rename_i xs hxs
          obtain ⟨zv, e1, e2⟩ := run_tZero w hz
          have hz0 := zeros_rows (zero_cells (w := w) (O := Av F.A β st.heap) (β := β) e2) len
          rw [hzl] at hz0
          obtain ⟨cells', g1, g2, g3⟩ := abuildSlice_sound k _ _ _ _ xs hparts hz0 hxs
          have hlen : xs.length = len := by simpa using g3
          have hlm : len ≤ 16777216 := by have := Nat.le_mul_of_pos_right len hk0; omega
          refine new_rows h el k xs cells' g2 false len len hlen (Nat.le_refl _) #[] (by simp) (by rw [g2.1, hlen]; simp) (by simp only [maxLen]; omega) (fun e => by cases e) hwp ?_
          simp only [execOp, hop]
          refine exec_value ?_
          simp only [Instr.buildSlice, Sem.run_bind, run_underlying (run_tElem ht), Result.andThen_ok, run_tSize w hk]
          rw [if_neg (by omega)]
          by_cases h0 : len * k = 0
          · rw [if_pos h0]
            have e9 : (Array.range (len * k)).map (fun x => (#[] : Array Value)[x % (#[] : Array Value).size]!) = (Array.range (len * k)).map (fun x => zv.cells[x % zv.cells.size]!) := by rw [h0]; simp
            simp only [Sem.run_bind, Result.andThen_ok, Sem.run_pure]
            rw [e9]
            simp only [g1, newRow, newObj]
            simp [Sem.run, Result.andThen]
          · rw [if_neg h0]
            simp only [Sem.run_bind, e1, Result.andThen_ok, Sem.run_pure, g1, newRow, newObj]
            simp [Sem.run, Result.andThen]
        · exact hwp.elim
      · exact hwp.elim
    · exact hwp.elim
  case h_20 t l c hop =>
    have hl := hr l
    have hc := hr c
    split at hwp
    · rename_i el k1 lv k2 cv ht hl' hc'
      rw [hl'] at hl
      rw [hc'] at hc
      split at hwp
      · rename_i k by_ z hk hby hz
        obtain ⟨⟨q1, q2, q3, q4, q5⟩, hwp⟩ := hwp
        obtain ⟨zv, e1, e2⟩ := run_tZero w hz
        have hz0 := zeros_rows (zero_cells (w := w) (O := Av F.A β st.heap) (β := β) e2) lv.toNat
        have hz1 := zeros_rows (zero_cells (w := w) (O := Av F.A β st.heap) (β := β) e2) cv.toNat
        rw [q5] at hz0 hz1
        obtain ⟨i, hi⟩ : ∃ i, C.P.info? el = some i := by
          unfold tSize at hk
          cases hi : C.P.info? el with
          | none => simp [hi] at hk
          | some i => exact ⟨i, rfl⟩
        have hib : i.bytes = by_ := by simpa [tBytes, hi] using hby
        -- the first elements of the whole row
        have hrow : RowsR w (Av F.A β st.heap) β k (List.replicate lv.toNat z) (((Array.range (cv.toNat * k)).map (zv.cells[· % zv.cells.size]!)).extract 0 (lv.toNat * k)) := by
          have hle : lv.toNat * k ≤ cv.toNat * k := Nat.mul_le_mul_right _ (by omega)
          have hmin : min lv.toNat cv.toNat = lv.toNat := Nat.min_eq_left (by omega)
          refine ⟨by simp [hmin], hz0.2.1, fun m hm => ?_, fun p j g1 g2 => ?_⟩
          · simp only [Array.getElem_extract, Nat.zero_add]
            have hm' : m < lv.toNat * k := by simpa [hmin] using hm
            exact hz1.2.2.1 m (by simp; omega)
          · obtain ⟨v, r1, r2⟩ := hz0.2.2.2 p j g1 g2
            simp at g1
            have hj : j < k := by simpa [q5] using g2
            have hlt : p * k + j < lv.toNat * k := by
              have : (p + 1) * k ≤ lv.toNat * k := Nat.mul_le_mul_right _ (by omega)
              rw [Nat.add_mul] at this; omega
            refine ⟨v, ?_, r2⟩
            rw [Array.getElem?_extract, if_pos (by simp [hmin]; omega), Nat.zero_add, ← r1]
            simp [Array.getElem?_range, hlt, show p * k + j < cv.toNat * k by omega]
        have hsplit : ∀ (A : Array Value) (q : Nat), A.extract 0 q ++ A.extract q A.size = A := by
          intro A q
          apply Array.ext'
          simp only [Array.toList_append, Array.toList_extract, List.extract_eq_take_drop, List.drop_zero, Nat.sub_zero]
          rw [List.take_of_length_le (l := List.drop q A.toList) (by simp)]
          exact List.take_append_drop q A.toList
        have hwrap : ∀ x : Int, 0 ≤ x → x ≤ 140737488355328 → IntKind.i64.wrap x = x := fun x p1 p2 => IntWalk.i64_in x (by omega)
        refine new_rows h el k (List.replicate lv.toNat z) _ hrow false lv.toNat cv.toNat (by simp) (by omega) (((Array.range (cv.toNat * k)).map (zv.cells[· % zv.cells.size]!)).extract (lv.toNat * k) ((Array.range (cv.toNat * k)).map (zv.cells[· % zv.cells.size]!)).size) (fun m hm => ?_) ?_ (by simp only [maxLen]; omega) (fun e => by cases e) hwp ?_
        · simp only [Array.getElem_extract]
          exact hz1.2.2.1 _ _
        · have hle : lv.toNat * k ≤ cv.toNat * k := Nat.mul_le_mul_right _ (by omega)
          have hmin : min lv.toNat cv.toNat = lv.toNat := Nat.min_eq_left (by omega)
          simp [hmin]; omega
        · rw [hsplit]
          simp only [execOp, hop]
          refine exec_value ?_
          have hbig : ¬ ((i.bytes : Int) * cv > 2 ^ 48) := by rw [hib, Int.mul_comm]; omega
          have hbig' : ¬ ((i.bytes : Int) * lv > 2 ^ 48) := by
            have : (i.bytes : Int) * lv ≤ (i.bytes : Int) * cv := Int.mul_le_mul_of_nonneg_left q2 (by omega)
            rw [hib] at *
            rw [Int.mul_comm] at q3
            omega
          have hroom : cv.toNat * i.bytes ≤ roomBytes := by
            have : ((cv.toNat * i.bytes : Nat) : Int) = cv * by_ := by rw [hib]; simp [Int.toNat_of_nonneg (show 0 ≤ cv by omega)]
            simp only [roomBytes]
            omega
          simp only [Instr.makeSlice, Sem.run_bind, run_underlying (run_tElem ht), Result.andThen_ok, hl.int_inv, hc.int_inv, asInt, asIntOf, Sem.run_pure, typeInfo, run_program, hi, hwrap lv q1 (by omega), hwrap cv (by omega) (by omega)]
          have hneg : ∀ x : Int, 0 ≤ x → decide (x < 0) = false := fun x hx => by simp; omega
          have t1 : (decide (cv < 0) || decide ((i.bytes : Int) * cv > 2 ^ 48)) = false := by simp [hbig]; omega
          simp only [t1, hneg lv q1, Bool.false_or, Bool.or_false, decide_eq_false (show ¬ (lv > cv) by omega), Bool.false_eq_true, if_false, askRoom, if_neg (show ¬ (cv.toNat * i.bytes > roomBytes) by omega), Sem.run_bind, Sem.run_pure, Result.andThen_ok, run_tSize w hk]
          by_cases h0 : cv.toNat * k = 0
          · have e9 : (Array.range (cv.toNat * k)).map (fun x => (#[] : Array Value)[x % (#[] : Array Value).size]!) = (Array.range (cv.toNat * k)).map (fun x => zv.cells[x % zv.cells.size]!) := by rw [h0]; simp
            rw [if_pos h0]
            simp only [Sem.run_bind, Sem.run_pure, Result.andThen_ok]
            rw [e9]
            simp only [newRow, newObj]
            simp [Sem.run, Result.andThen]
          · rw [if_neg h0]
            simp only [Sem.run_bind, Sem.run_pure, Result.andThen_ok, e1, newRow, newObj]
            simp [Sem.run, Result.andThen]
      · exact hwp.elim
    · exact hwp.elim
  case h_21 t x ix hop =>
    have hb := hr x
    have hbi := hr ix
    split at hwp
    · rename_i s kk i hk hx hi
      have hu := run_tKind hk
      simp only at hu
      rw [hx] at hb
      rw [hi] at hbi
      obtain ⟨hg, hQ⟩ := hwp
      refine .value h (.imm (.int _ _)) hQ ?_
      simp only [execOp, hop]
      refine exec_value ?_
      have hlt : i.toNat < s.size := by omega
      have hget : s[i.toNat]? = some s[i.toNat] := by simp [hlt]
      simp only [Instr.index, hbi.int_inv, hb.str_inv, asIntOf, Sem.run_bind, Sem.run_pure, Result.andThen_ok, run_underlying hu, if_pos hg.1, hget]
      congr 2
      have hlt' : i.toNat < s.data.size := hlt
      simp only [Array.getD_eq_getD_getElem?, ByteArray.getElem_eq_getElem_data]
      rw [Array.getElem?_eq_getElem hlt']
      rfl
    · rename_i len el cs kk i hk hx hi
      have hu := run_tKind hk
      simp only at hu
      rw [hx] at hb
      rw [hi] at hbi
      split at hwp
      · rename_i s g hs hg
        obtain ⟨⟨h0, hi0, hi1, hle, h1⟩, hQ⟩ := hwp
        obtain ⟨vs, hv, hl, h1c, hh⟩ := hb.agg_inv
        have hpart := part_run (w := w) hs hg h0 h1 vs (i.toNat * s) (by omega)
        refine .value h (partOf_VR (vs := (vs.toList.drop (i.toNat * s)).take s) (by simp; omega) (by omega) h0 h1 (fun u hu => ?_) (fun m g1 g2 => ?_)) hQ (by
          simp only [execOp, hop]
          exact exec_value (by
            simp only [Instr.index, hbi.int_inv, hv, asIntOf, Sem.run_bind, Sem.run_pure, Result.andThen_ok, run_underlying hu]
            rw [if_pos ⟨hi0, hi1⟩]
            simp only [Sem.run_bind, run_tSize w hs, Result.andThen_ok, hpart]))
        · obtain ⟨m, hm, rfl⟩ := List.getElem_of_mem (List.mem_of_mem_drop (List.mem_of_mem_take hu))
          simpa using h1c m (by simpa using hm)
        · simp at g2
          rw [List.getD_eq_getElem?_getD, List.getElem?_eq_getElem (by omega)]
          simpa using hh (i.toNat * s + m) (by omega) (by omega)
      · exact hwp.elim
    · exact hwp.elim
  case h_22 t r hop =>
    split at hwp
    · obtain ⟨hf, hx, hQ⟩ := hwp
      refine ⟨.map (some w.heap.size), .map n, _, _, _, .inl ?_, h.newMap hf, .map n _ (updB_self _ _ _), hQ⟩
      simp only [execOp, hop]
      exact exec_value (by simp [Instr.makeMap, newObj, Sem.run, Result.andThen])
    · rename_i x
      split at hwp
      · rename_i kv k i hkv hi
        obtain ⟨hf, hx, hQ⟩ := hwp
        refine ⟨.map (some w.heap.size), .map n, _, _, _, .inl ?_, h.newMap hf, .map n _ (updB_self _ _ _), hQ⟩
        have hb := hr x
        rw [hi] at hb
        have hu := run_tMapKV hkv
        simp only [execOp, hop]
        exact exec_value (by
          simp only [Option.map_some, hb.int_inv, Instr.makeMap, Sem.run_bind, run_underlying hu, Result.andThen_ok, asInt, asIntOf, Sem.run_pure, newObj]
          simp [Sem.run, Result.andThen])
      · exact hwp.elim
  case h_23 t m k ok hop =>
    obtain ⟨r, z, e1, e2, e3⟩ := lookup_sound h t ok (hr m) (hr k) hwp
    exact .value h e2 e3 (by simp only [execOp, hop]; exact exec_value e1)
  case h_24 t m k x hop =>
    obtain ⟨w', h', z, e1, e2, rfl, e3⟩ := update_sound h t (hr m) (hr k) (hr x) hwp
    exact ⟨undef, .undef, h', w', β, .inr ⟨by simp only [execOp, hop]; exact exec_unit e1, rfl⟩, e2, .undef _, e3⟩
  case h_25 t m k x hop =>
    obtain ⟨w', h', z, e1, e2, rfl, e3⟩ := update_sound h t (hr m) (hr k) (hr x) hwp
    exact ⟨undef, .undef, h', w', β, .inr ⟨by simp only [execOp, hop]; exact exec_unit e1, rfl⟩, e2, .undef _, e3⟩
  case h_26 t x hop =>
    obtain ⟨r, w', h', β', z, e1, e2, e3, e4⟩ := range_sound h t (hr x) hwp
    exact ⟨r, z, h', w', β', .inl (by simp only [execOp, hop]; exact exec_value e1), e2, e3, e4⟩
  case h_27 b args argTypes hop =>
    exact builtin_sound o h b argTypes args hop hwp
  case h_28 => exact hwp.elim
end
end Go.Aw
end
section
set_option linter.unusedVariables false
set_option linter.unusedSimpArgs false
namespace Go.Aw

/-- An operation as the abstract run has it: the slot that it writes, the operation, the slot whose Bool lets it run. -/
structure AOp where
  dst : Option Nat
  op : Op
  guard : Option (Nat × Bool)

inductive ACode where
  | skip
  | ops (n : Nat) (l : List AOp)
  | dops (n : Nat) (l : List AOp) (anc : List (List Nat))
  | seq (a b : ACode)
  | cond (c : Operand) (a b : ACode)
  | block (id : Nat) (a : ACode)
  | loop (a : ACode)
  | exit (id : Nat)
  | ret

def okDst (N : Nat) : Option Nat → Bool
  | some d => decide (d < N)
  | none => true

def absOp (N : Nat) (ops : Array Oper) (i : Nat) : Option AOp :=
  match ops[i]? with
  | none => none
  | some o =>
    if okDst N o.dst then
      match o.guard with
      | none => some ⟨o.dst, o.op, none⟩
      | some (j, b) => match (ops[j]?).bind (·.dst) with
        | some s => if s < N then some ⟨o.dst, o.op, some (s, b)⟩ else none
        | none => none
    else none

def absOps (N : Nat) (ops : Array Oper) : List Nat → Option (List AOp)
  | [] => some []
  | i :: is => match absOp N ops i, absOps N ops is with
    | some o, some l => some (o :: l)
    | _, _ => none

def dedup : List Nat → List Nat
  | [] => []
  | x :: xs => if (dedup xs).contains x then dedup xs else x :: dedup xs
theorem mem_dedup {p : Nat} : ∀ {l : List Nat}, p ∈ dedup l ↔ p ∈ l
  | [] => by simp [dedup]
  | x :: xs => by
    simp only [dedup]
    split
    · rename_i h
      rw [mem_dedup (l := xs), List.mem_cons]
      have hx : x ∈ xs := mem_dedup.1 (by simpa using h)
      constructor
      · exact .inr
      · rintro (rfl | h)
        · exact hx
        · exact h
    · rw [List.mem_cons, List.mem_cons, mem_dedup (l := xs)]
/-- What has to come before each operation. -/
def ancList (ops : Array Oper) : Nat → List (List Nat)
  | 0 => []
  | k + 1 => ancList ops k ++ [((ops[k]?).map fun o => (o.after.toList.filter fun e => Region.binds .any e).flatMap fun e => e.on :: (ancList ops k).getD e.on []).getD [] |> dedup]

/-- The slots that an operation reads. -/
def AOp.reads (o : AOp) : List Nat :=
  (o.op.operands.toList.filterMap fun | .tmp t => some t | _ => none) ++ (match o.guard with | some (s, _) => [s] | none => [])

def slotsApart (a b : AOp) : Bool :=
  (match a.dst with | some d => !(b.reads.contains d) && b.dst != some d | none => true) && (match b.dst with | some d => !(a.reads.contains d) | none => true)

def drawOk (ops : Array Oper) (l : List AOp) (anc : List (List Nat)) : Bool :=
  (List.range ops.size).all (fun i => ((ops[i]?).map fun o => o.after.toList.all fun e => !(Region.binds .any e) || decide (e.on < i)).getD true) &&
  (List.range l.length).all fun i => (List.range i).all fun j => (anc.getD i []).contains j || (match l[j]?, l[i]? with | some a, some b => slotsApart a b | _, _ => true)

def absCode (N : Nat) : Code → Option ACode
  | .skip => some .skip
  | .region id ops d => match absOps N ops (List.range ops.size) with
    | some l => if d then (if drawOk ops l (ancList ops ops.size) then some (.dops (1000 * (id + 1)) l (ancList ops ops.size)) else none) else some (.ops (1000 * (id + 1)) l)
    | none => none
  | .seq a b => match absCode N a, absCode N b with
    | some x, some y => some (.seq x y)
    | _, _ => none
  | .cond c a b => match absCode N a, absCode N b with
    | some x, some y => some (.cond c x y)
    | _, _ => none
  | .block id a => (absCode N a).map (.block id)
  | .loop a => (absCode N a).map .loop
  | .exit id => some (.exit id)
  | .ret => some .ret
  | _ => none

inductive AX where
  | normal
  | exit (id : Nat)
  | ret

def Pw (w : World) (O : Nat → Prop) (β : Nat → Option Loc) (xs : List AV) (vs : Array Value) : Prop :=
  vs.size = xs.length ∧ ∀ m (h1 : m < xs.length) (h2 : m < vs.size), VR w O β xs[m] vs[m]

/-- A call in a state comes back with K. -/
def CallOk (C : Cx) (st : St) (g : FuncId) (args : List AV) (K : AV → Hp → Prop) : Prop :=
  ∀ F β a w vs, SRb C F β st a w → Pw w (Av F.A β st.heap) β args vs → Calls C.P g vs w fun e w' => ∃ v x h' β', e = .returned v ∧ SRb C F β' ⟨st.env, h'⟩ a w' ∧ VR w' (Av F.A β' h') β' x v ∧ K x h'

def Enters (P : Program) (g : FuncId) : Prop := ∀ args w, (callFunc g args).run P w = .ok (.enter g args) w

/-- The function that an operand names, and what comes ahead of and behind the arguments. -/
def callee (e : Nat → AV) (f : Operand) : Option (FuncId × List AV × List AV) :=
  match rho e f with
  | .func (.func g) first captured => some (g, first, captured)
  | _ => none

/-- A step of an iterator: whichever entry has not come yet. -/
def stepNext (x : AV) (h : Hp) (K : AV → Hp → Prop) : Prop :=
  match x with
  | .miter i => match h i with
    | some (.miter none _ _ _) => K (.tup [.bool false]) h
    | some (.miter (some m) since seen stepped) => match h m with
      | some (.map clock es) => (∀ e ∈ es, e.1 < since) ∧ since ≤ stepped ∧ ((∀ e ∈ es, e.1 ∈ seen) → K (.tup [.bool false]) h) ∧
          ∀ e ∈ es, e.1 ∉ seen → K (.tup [.bool true, e.2.1, e.2.2]) (updH h i (some (.miter (some m) since (seen ++ [e.1]) clock)))
      | _ => False
    | _ => False
  | _ => False

def stepOp (C : Cx) (n : Nat) (o : AOp) (st : St) (K : St → Prop) : Prop :=
  match o.op with
  | .call { callee := .value f, args, argTypes } => match callee st.env f with
    | some (g, first, captured) => Enters C.P g ∧ CallOk C st g (first ++ args.toList.map (rho st.env) ++ captured) fun x h' => K (St.put ⟨st.env, h'⟩ o.dst x)
    | none => False
  | .next x s => s = false ∧ stepNext (rho st.env x) st.heap fun x h' => K (St.put ⟨st.env, h'⟩ o.dst x)
  | .entry x => (aentry (rho st.env x)).wp n (Fresh C st n) st.heap fun x h' => K (St.put ⟨st.env, h'⟩ o.dst x)
  | op => (aop C.P st.env op).wp n (Fresh C st n) st.heap fun x h' => K (St.put ⟨st.env, h'⟩ o.dst x)

def runOps (C : Cx) : List AOp → Nat → St → (St → Prop) → Prop
  | [], _, st, K => K st
  | o :: l, n, st, K =>
    match o.guard with
    | none => stepOp C n o st fun st' => runOps C l (n + 1) st' K
    | some (s, b) => match st.env s with
      | .bool t => (t = b → stepOp C n o st fun st' => runOps C l (n + 1) st' K) ∧ (t = !b → runOps C l (n + 1) (st.put o.dst (.tup [])) K)
      | .tup [] => runOps C l (n + 1) (st.put o.dst (.tup [])) K
      | _ => False

def post (C : Cx) (F : Fr) (Q : AX → St → Prop) : Exit → Act → World → Prop
  | .normal, a, w => ∃ st, SR C F st a w ∧ Q .normal st
  | .exit id, a, w => ∃ st, SR C F st a w ∧ Q (.exit id) st
  | .ret, a, w => ∃ st, SR C F st a w ∧ Q .ret st
  | _, _, _ => False

def AWp (C : Cx) (c : ACode) (st : St) (Q : AX → St → Prop) : Prop :=
  ∀ code, absCode C.N code = some c → ∀ F a w, SR C F st a w → code.wp C.P (post C F Q) a w

theorem SRb.put {C : Cx} {F : Fr} {β : Nat → Option Loc} {st : St} {a : Act} {w : World} (h : SRb C F β st a w) (dst : Option Nat) (hd : ∀ d, dst = some d → d < C.N) (x : AV) (v : Value)
    (hv : VR w (Av F.A β st.heap) β x v) : SRb C F β (st.put dst x) (a.put dst v) w := by
  cases dst with
  | none => exact h
  | some d =>
    have hlt := hd d rfl
    refine ⟨h.defers, by simpa [Act.put] using h.size, fun t => ?_, h.heap, h.since, h.own, h.kept, h.far⟩
    show VR w (Av F.A β st.heap) β (updE st.env d x t) ((a.tmps.setIfInBounds d v).getD t undef)
    unfold updE
    by_cases ht : t = d
    · subst ht
      rw [if_pos rfl]
      have : t < a.tmps.size := by rw [h.size]; exact hlt
      simpa [Array.getD_eq_getD_getElem?, this] using hv
    · rw [if_neg ht]
      have := h.env t
      simpa [Array.getD_eq_getD_getElem?, Array.getElem?_setIfInBounds, show ¬ d = t from fun e => ht e.symm] using this

theorem absOp_inv {N : Nat} {ops : Array Oper} {i : Nat} {o : AOp} (h : absOp N ops i = some o) :
    ∃ p, ops[i]? = some p ∧ o.dst = p.dst ∧ o.op = p.op ∧ (∀ d, o.dst = some d → d < N) ∧
      ((p.guard = none ∧ o.guard = none) ∨ ∃ j b s, p.guard = some (j, b) ∧ o.guard = some (s, b) ∧ (ops[j]?).bind (·.dst) = some s ∧ s < N) := by
  unfold absOp at h
  split at h
  · cases h
  · rename_i p hp
    split at h
    · rename_i hd
      have hdd : ∀ d, p.dst = some d → d < N := by intro d e; rw [e] at hd; simpa [okDst] using hd
      split at h
      · rename_i hg
        injection h with h
        subst h
        exact ⟨p, hp, rfl, rfl, hdd, .inl ⟨hg, rfl⟩⟩
      · rename_i j b hg
        split at h
        · rename_i s hs
          split at h
          · rename_i hlt
            injection h with h
            subst h
            exact ⟨p, hp, rfl, rfl, hdd, .inr ⟨j, b, s, hg, rfl, hs, hlt⟩⟩
          · cases h
        · cases h
    · cases h

theorem yielded_of {C : Cx} {F : Fr} {β : Nat → Option Loc} {st : St} {a : Act} {w : World} {ops : Array Oper} {j s : Nat} (h : SRb C F β st a w) (hs : (ops[j]?).bind (·.dst) = some s) (hlt : s < C.N) :
    (∀ t, st.env s = .bool t → yielded ops a.tmps j = some t) ∧ (st.env s = .tup [] → yielded ops a.tmps j = none) := by
  have hsz : s < a.tmps.size := by rw [h.size]; exact hlt
  have hv := h.env s
  have hget : a.tmps.getD s undef = a.tmps[s] := by simp [Array.getD_eq_getD_getElem?, hsz]
  rw [hget] at hv
  constructor
  · intro t ht
    rw [ht] at hv
    have := hv.bool_inv
    simp [yielded, hs, hsz, this]
  · intro ht
    rw [ht] at hv
    obtain ⟨us, hu, hl, _⟩ := hv.tup_inv
    simp [yielded, hs, hsz, hu]

theorem next_sound {C : Cx} {F : Fr} {β : Nat → Option Loc} {st : St} {a : Act} {w : World} {K : AV → Hp → Prop} (h : SRb C F β st a w) {x : AV} {vx : Value} (hx : VR w (Av F.A β st.heap) β x vx) (ty : TypeId)
    (hrun : stepNext x st.heap K) : ∃ v y h' w', (Instr.next vx false ty).run C.P w = .ok v w' ∧ SRb C F β ⟨st.env, h'⟩ a w' ∧ VR w' (Av F.A β h') β y v ∧ K y h' := by
  unfold stepNext at hrun
  split at hrun
  · rename_i i
    obtain ⟨l, hl, hv⟩ := hx.miter_inv
    split at hrun
    · rename_i since seen stepped hob
      obtain ⟨mb, g1, g2⟩ := h.iter_at hob hl
      have : mb = none := g2
      subst this
      refine ⟨.tuple #[.bool false], _, _, w, ?_, h, .tup _ _ rfl (fun j h1 h2 => ?_), hrun⟩
      · rw [hv]
        simp only [Instr.next, Sem.run_bind, run_getObj_iter g1, Result.andThen_ok, Sem.run_pure]
      · have : j = 0 := by simp at h1; exact h1
        subst this
        exact .imm (.bool _)
    · rename_i m since seen stepped hob
      obtain ⟨mb, g1, g2⟩ := h.iter_at hob hl
      obtain ⟨lm, hlm, rfl⟩ : ∃ l', β m = some l' ∧ mb = some l'.blk := g2
      split at hrun
      · rename_i clock es hom
        obtain ⟨hold, hsc, hdone, hmore⟩ := hrun
        obtain ⟨arr, k1, k2, k3⟩ := h.map_at hom hlm
        have hborn : ∀ x ∈ arr.toList, ∃ j, ∃ (h1 : j < es.length) (h2 : j < arr.size), arr[j] = x := by
          intro x hx
          obtain ⟨j, hj, rfl⟩ := List.getElem_of_mem hx
          exact ⟨j, by simp at hj; omega, by simpa using hj, by simp⟩
        rcases run_next_at (P := C.P) w ty l.blk lm.blk since stepped seen.toArray arr clock g1 k1 (fun x hx => by
          obtain ⟨j, h1, h2, rfl⟩ := hborn x hx
          rw [(k3 j h1 h2).1]
          exact hold _ (List.getElem_mem h1)) hsc with ⟨h0, hr⟩ | ⟨e, he, w1, hal, hr⟩
        · rw [hv]
          refine ⟨_, _, _, w, hr, h, .tup _ _ rfl (fun j h1 h2 => ?_), hdone fun e he => ?_⟩
          · have : j = 0 := by simp at h1; exact h1
            subst this
            exact .imm (.bool _)
          · obtain ⟨j, hj, rfl⟩ := List.getElem_of_mem he
            have hl0 : leftOf arr seen.toArray = #[] := Array.eq_empty_of_size_eq_zero h0
            unfold leftOf at hl0
            rw [Array.filter_eq_empty_iff] at hl0
            have := hl0 arr[j] (by simp)
            rw [(k3 j hj (by omega)).1] at this
            simpa using this
        · rw [hv]
          have hmem : e ∈ arr.toList ∧ e.born ∉ seen := by
            simp [leftOf] at he
            exact ⟨by simpa using he.1, he.2⟩
          obtain ⟨j, h1, h2, rfl⟩ := hborn e hmem.1
          obtain ⟨q1, q2, q3⟩ := k3 j h1 h2
          have h' : SRb C F β st a w1 := by
            rcases hal with rfl | rfl
            · exact h
            · exact h.drew
          have hsame : Same (Av F.A β st.heap) w w1 := by
            rcases hal with rfl | rfl
            · exact Same.refl _ _
            · exact ⟨Nat.le_refl _, fun _ _ _ => rfl⟩
          have hg1 : w1.heap[l.blk]? = some (.mapIter (some lm.blk) since seen.toArray stepped) := by rcases hal with rfl | rfl <;> exact g1
          have hput := h'.putObj (.mapIter (some lm.blk) since (seen.toArray.push arr[j].born) clock) hob hl (y := .miter (some m) since (seen ++ [es[j].1]) clock) fun w' _ hb _ O _ => ⟨some lm.blk, by rw [hb, q1]; simp, lm, hlm, rfl⟩
          have hO : ∀ b, Av F.A β (updH st.heap i (some (.miter (some m) since (seen ++ [es[j].1]) clock))) b → Av F.A β st.heap b := by
            rintro b (hb | ⟨p, l', u1, u2, u3⟩)
            · exact .inl hb
            · by_cases hp : p = i
              · subst hp; exact .inr ⟨p, l', by simp [hob], u2, u3⟩
              · rw [updH_ne _ _ _ hp] at u1; exact .inr ⟨p, l', u1, u2, u3⟩
          have hs2 : Same (Av F.A β st.heap) w { w1 with heap := w1.heap.setIfInBounds l.blk (.mapIter (some lm.blk) since (seen.toArray.push arr[j].born) clock) } := by
            refine hsame.trans (O' := Av F.A β st.heap) ⟨by simp, fun b hb hn => ?_⟩ fun _ _ h => h
            have : b ≠ l.blk := fun e => hn (e ▸ .inr ⟨i, l, by simp [hob], hl, rfl⟩)
            show (w1.heap.setIfInBounds l.blk _)[b]? = w1.heap[b]?
            rw [Array.getElem?_setIfInBounds, if_neg (fun e => this e.symm)]
          refine ⟨_, _, _, _, hr, hput, .tup _ _ rfl (fun p g1 g2 => ?_), hmore es[j] (List.getElem_mem h1) (by rw [← q1]; exact hmem.2)⟩
          match p, g1 with
          | 0, _ => exact .imm (.bool _)
          | 1, _ => exact q2.mono hs2 (fun b _ => hO b) fun _ _ => rfl
          | 2, _ => exact q3.mono hs2 (fun b _ => hO b) fun _ _ => rfl
      · exact hrun.elim
    · exact hrun.elim
  · exact hrun.elim

theorem step_sound {C : Cx} {F : Fr} {β : Nat → Option Loc} {st : St} {a : Act} {w : World} {n : Nat} {K : St → Prop} {Qc : Exit → Act → World → Prop} {next : Act → World → Prop} (o : AOp) (p : Oper) (h : SRb C F β st a w)
    (hd : o.dst = p.dst) (ho : o.op = p.op) (hN : ∀ d, o.dst = some d → d < C.N) (hrun : stepOp C n o st K) (hnext : ∀ st' β' a' w', SRb C F β' st' a' w' → K st' → next a' w') : p.wp C.P a w next Qc := by
  unfold stepOp at hrun
  unfold Oper.wp
  split at hrun
  · rename_i f args argTypes hop
    rw [ho] at hop
    split at hrun
    · rename_i g first captured hc
      obtain ⟨hE, hcall⟩ := hrun
      unfold callee at hc
      have hf := h.rho f
      split at hc
      · rename_i g' first' captured' hrho
        simp only [Option.some.injEq, Prod.mk.injEq] at hc
        obtain ⟨rfl, rfl, rfl⟩ := hc
        rw [hrho] at hf
        obtain ⟨us, vs, e0, l1, l2, g1, g2⟩ := hf.func_inv
        have hargs := VR.list h.rho args
        have hexec : (execOp a.eval p).run C.P w = .ok (.enter g' (us ++ args.map a.eval ++ vs)) w := by
          simp only [execOp, hop, resolve, Deferred.ofValue, e0, Sem.run_bind, Sem.run_pure, Result.andThen_ok, invoke, hE _ w]
        rw [hexec]
        simp only [Oper.upon]
        refine (hcall F β a w _ h ⟨?_, ?_⟩).mono ?_
        · simp [l1, l2]
        · intro m h1 h2
          simp only [List.getElem_append, Array.getElem_append, List.length_append, Array.size_append, List.length_map, Array.size_map, Array.length_toList, l1]
          split
          · split
            · exact g1 m _ _
            · exact hargs.2 _ _ _
          · exact g2 _ _ _
        · rintro e w' ⟨v, x, h', β', rfl, hs, hv, hK⟩
          exact hnext _ β' _ _ (by have := hs.put o.dst hN x v hv; rw [hd] at this; rw [hd]; exact this) hK
      · cases hc
    · exact hrun.elim
  · rename_i x b hop
    rw [ho] at hop
    obtain ⟨rfl, hrun⟩ := hrun
    obtain ⟨v, y, h', w', hr, hs, hv, hK⟩ := next_sound h (h.rho x) p.type hrun
    have hexec : (execOp a.eval p).run C.P w = .ok (.value v) w' := by simp only [execOp, hop]; exact exec_value hr
    rw [hexec]
    exact hnext _ β _ _ (by have := hs.put o.dst hN y v hv; rw [hd] at this; rw [hd]; exact this) hK
  · rename_i x hop
    rw [ho] at hop
    obtain ⟨v, y, hr, hv, hK⟩ := entry_sound h (h.rho x) hrun
    have hexec : (execOp a.eval p).run C.P w = .ok (.value v) w := by simp only [execOp, hop]; exact exec_value hr
    rw [hexec]
    exact hnext _ β _ _ (by have := h.put o.dst hN y v hv; rw [hd] at this; rw [hd]; exact this) hK
  · rename_i hno _ _
    rw [ho] at hrun
    obtain ⟨v, x, h', w', β', hr, hs, hv, hK⟩ := aop_sound p h hrun
    rcases hr with hr | ⟨hr, rfl⟩
    · rw [hr]
      exact hnext _ β' _ _ (by have := hs.put o.dst hN x v hv; rw [hd] at this; rw [hd]; exact this) hK
    · rw [hr]
      exact hnext _ β' _ _ (by have := hs.put o.dst hN x undef hv; rw [hd] at this; rw [hd]; exact this) hK

theorem ops_sound {C : Cx} {F : Fr} {K : St → Prop} {Qc : Exit → Act → World → Prop} (ops : Array Oper) (hQ : ∀ st a w, SR C F st a w → K st → Qc .normal a w) : ∀ (is : List Nat) (l : List AOp), absOps C.N ops is = some l →
    ∀ n st β a w, SRb C F β st a w → runOps C l n st K → wpOps C.P ops Qc is a w
  | [], l, hl, n, st, β, a, w, h, hrun => by
    simp only [absOps, Option.some.injEq] at hl
    subst hl
    exact hQ st a w ⟨β, h⟩ hrun
  | i :: is, l, hl, n, st, β, a, w, h, hrun => by
    simp only [absOps] at hl
    split at hl
    · rename_i o l' ho hl'
      injection hl with hl
      subst hl
      obtain ⟨p, hp, hd, hop, hN, hg⟩ := absOp_inv ho
      simp only [wpOps, hp]
      have ih := ops_sound ops hQ is l' hl' (n + 1)
      have skip : ∀ st', SRb C F β st' a w → runOps C l' (n + 1) (st'.put o.dst (.tup [])) K → wpOps C.P ops Qc is (a.put p.dst undef) w := by
        intro st' h' hr
        have hput := h'.put o.dst hN (.tup []) undef (.tup _ #[] rfl (fun m h1 _ => by simp at h1))
        rw [hd] at hput hr
        exact ih _ β _ _ hput hr
      simp only [runOps] at hrun
      rcases hg with ⟨g1, g2⟩ | ⟨j, b, s, g1, g2, g3, g4⟩
      · simp only [g2] at hrun
        simp only [Region.wanted, g1, if_true]
        exact .inl (step_sound o p h hd hop hN hrun fun st' β' a' w' h' hK => ih st' β' a' w' h' hK)
      · simp only [g2] at hrun
        obtain ⟨y1, y2⟩ := yielded_of h g3 g4
        simp only [Region.wanted, g1]
        split at hrun
        · rename_i t ht
          rw [y1 t ht]
          by_cases hb : t = b
          · subst hb
            simp only [beq_self_eq_true, if_true]
            exact .inl (step_sound o p h hd hop hN (hrun.1 rfl) fun st' β' a' w' h' hK => ih st' β' a' w' h' hK)
          · have : (some t == some b) = false := by simp [hb]
            simp only [this, Bool.false_eq_true, if_false]
            exact skip st h (hrun.2 (by cases t <;> cases b <;> simp_all))
        · rename_i ht
          rw [y2 ht]
          have : ((none : Option Bool) == some b) = false := rfl
          simp only [this, Bool.false_eq_true, if_false]
          exact skip st h hrun
        · exact hrun.elim
    · cases hl

/-! ### Statements -/
section
variable {C : Cx} {st : St} {Q : AX → St → Prop}

theorem AWp.mono {c : ACode} {Q' : AX → St → Prop} (h : AWp C c st Q) (hq : ∀ x st, Q x st → Q' x st) : AWp C c st Q' := fun code hc F a w hs =>
  wp_mono (h code hc F a w hs) fun e a w hp => by
    cases e <;> simp only [post] at * <;> (obtain ⟨st', h1, h2⟩ := hp; exact ⟨st', h1, hq _ _ h2⟩)

/-- What is forgotten of a state. -/
def Le (st' st : St) : Prop := (∀ t, st'.env t = .undef ∨ st'.env t = st.env t) ∧ (∀ o, st'.heap o = none ∨ st'.heap o = st.heap o)

theorem SR.le {F : Fr} {st' : St} {a : Act} {w : World} (h : SR C F st a w) (hle : Le st' st) : SR C F st' a w := by
  obtain ⟨β, h⟩ := h
  have hO : ∀ b, Own β st'.heap b → Own β st.heap b := by
    rintro b ⟨o, l, h1, h2, h3⟩
    rcases hle.2 o with e | e
    · exact absurd e h1
    · exact ⟨o, l, e ▸ h1, h2, h3⟩
  have hne : ∀ o, st'.heap o ≠ none → st.heap o ≠ none := fun o ho => by
    rcases hle.2 o with e | e
    · exact absurd e ho
    · rwa [e] at ho
  refine ⟨β, h.defers, h.size, fun t => ?_, ⟨fun o x hx => ?_, fun o o' l l' g1 g2 g3 g4 g5 => h.heap.inj o o' l l' (hne o g1) (hne o' g2) g3 g4 g5, fun b hb => h.heap.lt b (hO b hb), fun b hb => h.heap.apart b (hO b hb)⟩, h.since, fun b hb hb' => h.own b hb (hO b hb'), h.kept, h.far⟩
  · rcases hle.1 t with e | e
    · rw [e]; exact .undef _
    · rw [e]; exact (h.env t).mono (Same.refl _ w) (fun b _ h1 => h1.imp id (hO b)) fun _ _ => rfl
  · rcases hle.2 o with e | e
    · rw [e] at hx; cases hx
    · rw [e] at hx
      exact (h.heap.obj o x hx).mono (Same.refl _ w) (fun b _ h1 => h1.imp id (hO b)) (fun _ _ => rfl) (fun _ _ => rfl)

theorem AWp.le {c : ACode} {st' : St} (hle : Le st' st) (h : AWp C c st' Q) : AWp C c st Q := fun code hc F a w hs => h code hc F a w (hs.le hle)

theorem AWp.skip (h : Q .normal st) : AWp C .skip st Q := fun code hc F a w hs => by
  cases code <;> simp only [absCode, reduceCtorEq] at hc
  case skip => exact wp_skip ⟨st, hs, h⟩
  case region id ops d => (repeat' split at hc) <;> simp at hc
  case seq x y => split at hc <;> simp at hc
  case cond c x y => split at hc <;> simp at hc
  case block id x => simp at hc
  case loop x => simp at hc
  all_goals simp at hc

theorem AWp.ret (h : Q .ret st) : AWp C .ret st Q := fun code hc F a w hs => by
  cases code <;> simp only [absCode, reduceCtorEq] at hc
  case ret => exact wp_ret ⟨st, hs, h⟩
  case region id ops d => (repeat' split at hc) <;> simp at hc
  case seq x y => split at hc <;> simp at hc
  case cond c x y => split at hc <;> simp at hc
  all_goals simp at hc

theorem AWp.exit {id : Nat} (h : Q (.exit id) st) : AWp C (.exit id) st Q := fun code hc F a w hs => by
  cases code <;> simp only [absCode, reduceCtorEq] at hc
  case exit id' =>
    simp only [Option.some.injEq, ACode.exit.injEq] at hc
    subst hc
    exact wp_exit ⟨st, hs, h⟩
  case region id ops d => (repeat' split at hc) <;> simp at hc
  case seq x y => split at hc <;> simp at hc
  case cond c x y => split at hc <;> simp at hc
  all_goals simp at hc

theorem AWp.ops {l : List AOp} (n : Nat) {n0 : Nat} (h : runOps C l n st (Q .normal)) : AWp C (.ops n0 l) st Q := fun code hc F a w hs => by
  cases code <;> simp only [absCode, reduceCtorEq] at hc
  case region id ops d =>
    split at hc
    · rename_i l' hl
      cases d with
      | true => simp only [if_true] at hc; split at hc <;> simp at hc
      | false =>
        simp only [Bool.false_eq_true, if_false, Option.some.injEq, ACode.ops.injEq] at hc
        obtain ⟨_, rfl⟩ := hc
        obtain ⟨β, hs⟩ := hs
        exact wp_region (ops_sound (K := Q .normal) ops (fun st' a' w' h1 h2 => ⟨st', h1, h2⟩) _ _ hl n st β a w hs h)
    · cases hc
  case seq x y => split at hc <;> simp at hc
  case cond c x y => split at hc <;> simp at hc
  all_goals simp at hc

theorem AWp.seq {x y : ACode} (h : AWp C x st fun e st' => match e with | .normal => AWp C y st' Q | e => Q e st') : AWp C (.seq x y) st Q := fun code hc F a w hs => by
  cases code <;> simp only [absCode, reduceCtorEq] at hc
  case seq cx cy =>
    split at hc
    · rename_i x' y' hx hy
      simp only [Option.some.injEq, ACode.seq.injEq] at hc
      obtain ⟨rfl, rfl⟩ := hc
      refine wp_seq (wp_mono (h cx hx F a w hs) fun e a w hp => ?_)
      cases e <;> simp only [post, Exit.then] at *
      · obtain ⟨st', h1, h2⟩ := hp
        exact h2 cy hy F a w h1
      · exact hp
      · exact hp
    · cases hc
  case region id ops d => (repeat' split at hc) <;> simp at hc
  case cond c x y => split at hc <;> simp at hc
  all_goals simp at hc

theorem AWp.cond {c : Operand} {x y : ACode} {t : Bool} (hc : rho st.env c = .bool t) (h1 : t = true → AWp C x st Q) (h2 : t = false → AWp C y st Q) : AWp C (.cond c x y) st Q := fun code hcode F a w hs => by
  cases code <;> simp only [absCode, reduceCtorEq] at hcode
  case cond c' cx cy =>
    split at hcode
    · rename_i x' y' hx hy
      simp only [Option.some.injEq, ACode.cond.injEq] at hcode
      obtain ⟨rfl, rfl, rfl⟩ := hcode
      obtain ⟨β, hb⟩ := hs
      have hr := hb.rho c'
      rw [hc] at hr
      exact wp_cond_split hr.bool_inv (fun e => h1 e cx hx F a w ⟨β, hb⟩) (fun e => h2 e cy hy F a w ⟨β, hb⟩)
    · cases hcode
  case region id ops d => (repeat' split at hcode) <;> simp at hcode
  case seq x y => split at hcode <;> simp at hcode
  all_goals simp at hcode

theorem AWp.block {id : Nat} {x : ACode} (h : AWp C x st fun e st' => match e with | .exit id' => if id' = id then Q .normal st' else Q (.exit id') st' | e => Q e st') : AWp C (.block id x) st Q := fun code hc F a w hs => by
  cases code <;> simp only [absCode, reduceCtorEq] at hc
  case block id' cx =>
    simp only [Option.map_eq_some_iff, ACode.block.injEq] at hc
    obtain ⟨x', hx, rfl, rfl⟩ := hc
    refine wp_block (wp_mono (h cx hx F a w hs) fun e a w hp => ?_)
    cases e <;> simp only [post, Exit.inBlock] at *
    · exact hp
    · obtain ⟨st', h1, h2⟩ := hp
      split at h2
      · rename_i e'; rw [if_pos e']; exact ⟨st', h1, h2⟩
      · rename_i e'; rw [if_neg e']; exact ⟨st', h1, h2⟩
    · exact hp
  case region id ops d => (repeat' split at hc) <;> simp at hc
  case seq x y => split at hc <;> simp at hc
  case cond c x y => split at hc <;> simp at hc
  all_goals simp at hc

/-- A loop: I n holds at each round's head; n goes down. -/
theorem AWp.loop {x : ACode} (I : Nat → St → Prop) {n0 : Nat} {st0 : St} (hle : Le st0 st) (h0 : I n0 st0)
    (hround : ∀ n st, I n st → AWp C x st fun e st' => match e with | .normal => ∃ m st1, m < n ∧ Le st1 st' ∧ I m st1 | e => Q e st') : AWp C (.loop x) st Q := fun code hc F a w hs => by
  cases code <;> simp only [absCode, reduceCtorEq] at hc
  case loop cx =>
    simp only [Option.map_eq_some_iff, ACode.loop.injEq] at hc
    obtain ⟨x', hx, rfl⟩ := hc
    intro b k cs
    have key : ∀ n st a w, I n st → SR C F st a w → ∃ e a' w', post C F Q e a' w' ∧ Arrives C.P (lone (b.at a (.code cx :: .inLoop cx :: k)) cs w) b k cs e a' w' := by
      intro n
      induction n using Nat.strongRecOn with
      | _ n ih =>
        intro st a w hI hs
        obtain ⟨e, a₁, w₁, hq, harr⟩ := hround n st hI cx hx F a w hs b (.inLoop cx :: k) cs
        cases e with
        | normal =>
          obtain ⟨st', h1, m, st1, hlt, hle', hI'⟩ := hq
          obtain ⟨e₂, a₂, w₂, hq₂, harr₂⟩ := ih m hlt st1 a₁ w₁ hI' (h1.le hle')
          exact ⟨e₂, a₂, w₂, hq₂, .of_steps (Steps.trans harr (.one step_inLoop)) harr₂⟩
        | exit id => exact ⟨.exit id, a₁, w₁, hq, .pass (x := .inLoop cx) rfl (fun _ _ => .inl (by simp)) harr⟩
        | goto l => exact hq.elim
        | ret => exact ⟨.ret, a₁, w₁, hq, .pass (x := .inLoop cx) rfl (fun _ _ => .inl (by simp)) harr⟩
        | panic ch => exact hq.elim
        | outgrown => exact hq.elim
    obtain ⟨e, a', w', hq, harr⟩ := key n0 st0 a w h0 (hs.le hle)
    exact ⟨e, a', w', hq, .of_steps (.one step_loop) harr⟩
  case region id ops d => (repeat' split at hc) <;> simp at hc
  case seq x y => split at hc <;> simp at hc
  case cond c x y => split at hc <;> simp at hc
  all_goals simp at hc
end
end Go.Aw
end
section
set_option linter.unusedVariables false
set_option linter.unusedSimpArgs false
namespace Go.Aw

/-- Called with such arguments, over such objects of its own, the function comes back with Q. S: the objects that came in. -/
def ACalls (P : Program) (g : FuncId) (args : List AV) (h : Hp) (S : List Nat) (Q : AV → Hp → Prop) : Prop :=
  ∀ (A : Nat → Prop) β w vs, (∀ b, A b → b < w.heap.size) → Pw w (Av A β h) β args vs → HR w A β h → Calls P g vs w fun e w' => ∃ v x h' β', e = .returned v ∧ Q x h' ∧
    (∀ o, o ∈ S → β' o = β o) ∧ VR w' (Av A β' h') β' x v ∧ HR w' A β' h' ∧ Since ⟨w, Own β h, β, A⟩ w' ∧ ∀ b, b < w.heap.size → Own β' h' b → Own β h b

theorem ACalls.mono {P : Program} {g : FuncId} {args : List AV} {h : Hp} {S : List Nat} {Q Q' : AV → Hp → Prop} (hc : ACalls P g args h S Q) (hq : ∀ x h', Q x h' → Q' x h') : ACalls P g args h S Q' :=
  fun A β w vs hA hp hh => (hc A β w vs hA hp hh).mono fun e w' ⟨v, x, h', β', e1, e2, e3⟩ => ⟨v, x, h', β', e1, hq _ _ e2, e3⟩

/-! ### Results -/
def aresL (P : Program) (e : Nat → AV) (h : Hp) : List ResultVar → (List AV → Prop) → Prop
  | [], Q => Q []
  | .tmp t :: r, Q => aresL P e h r fun vs => Q (e t :: vs)
  | .cell a t :: r, Q => (aload P t (e a)).wp 0 False h fun x _ => aresL P e h r fun vs => Q (x :: vs)

def retVal : List AV → AV
  | [x] => x
  | l => .tup l

def resSem (tmps : Array Value) : ResultVar → Sem Value
  | .tmp t => pure (tmps.getD t undef)
  | .cell a t => do loadVar t (← asAddr (tmps.getD a undef))

theorem loadAt_loadVar {P : Program} {t : TypeId} {v r : Value} {w w' : World} (h : (Instr.loadAt t v).run P w = .ok r w') : (do loadVar t (← asAddr v) : Sem Value).run P w = .ok r w' := by
  cases v with
  | pointer p =>
    cases p with
    | none => simp [Instr.loadAt, Instr.sureAddr, stuck, Sem.run, Result.andThen] at h
    | some a => simpa [Instr.loadAt, Instr.sureAddr, asAddr, Sem.run, Result.andThen] using h
  | _ => simp [Instr.loadAt, Instr.sureAddr, stuck, Sem.run, Result.andThen] at h

theorem resL_sound {C : Cx} {F : Fr} {β : Nat → Option Loc} {st : St} {a : Act} {w : World} (h : SRb C F β st a w) : ∀ (l : List ResultVar) (Q : List AV → Prop), aresL C.P st.env st.heap l Q →
    ∃ (vs : List Value) (xs : List AV), (l.mapM (resSem a.tmps)).run C.P w = .ok vs w ∧ vs.length = xs.length ∧ (∀ m (h1 : m < xs.length) (h2 : m < vs.length), VR w (Av F.A β st.heap) β xs[m] vs[m]) ∧ Q xs
  | [], Q, hq => ⟨[], [], by simp [Sem.run], rfl, fun m h1 => by simp at h1, hq⟩
  | .tmp t :: r, Q, hq => by
    obtain ⟨vs, xs, e1, e2, e3, e4⟩ := resL_sound h r _ hq
    refine ⟨a.tmps.getD t undef :: vs, st.env t :: xs, ?_, by simp [e2], fun m h1 h2 => ?_, e4⟩
    · simp only [List.mapM_cons, Sem.run_bind, resSem, Sem.run_pure, Result.andThen_ok, e1]
    · cases m with
      | zero => exact h.env t
      | succ m => exact e3 m (by simpa using h1) (by simpa using h2)
  | .cell ad t :: r, Q, hq => by
    simp only [aresL] at hq
    obtain ⟨v, y, g1, g2, g3⟩ := load_sound h t _ _ (h.env ad) hq
    obtain ⟨vs, xs, e1, e2, e3, e4⟩ := resL_sound h r _ g3
    refine ⟨v :: vs, y :: xs, ?_, by simp [e2], fun m h1 h2 => ?_, e4⟩
    · have g1' := loadAt_loadVar g1
      simp only [List.mapM_cons, Sem.run_bind, resSem, g1', Result.andThen_ok, e1, Sem.run_pure]
    · cases m with
      | zero => exact g2
      | succ m => exact e3 m (by simpa using h1) (by simpa using h2)

theorem res_sound {C : Cx} {F : Fr} {β : Nat → Option Loc} {st : St} {a : Act} {w : World} (h : SRb C F β st a w) (fn : Func) (Q : AV → Prop) (hq : aresL C.P st.env st.heap fn.results.toList fun vs => Q (retVal vs)) :
    ∃ v x, (results fn a.tmps).run C.P w = .ok v w ∧ VR w (Av F.A β st.heap) β x v ∧ Q x := by
  obtain ⟨vs, xs, e1, e2, e3, e4⟩ := resL_sound h _ _ hq
  have hm : (fn.results.mapM (resSem a.tmps)).run C.P w = .ok vs.toArray w := by
    rw [Array.mapM_eq_mapM_toList, Sem.run_map, e1]
    rfl
  have hres : results fn a.tmps = (do
      let vs ← fn.results.mapM (resSem a.tmps)
      pure (if h : vs.size = 1 then vs[0] else .tuple vs)) := by
    rfl
  refine ⟨_, retVal xs, by rw [hres, Sem.run_bind, hm]; rfl, ?_, e4⟩
  unfold retVal
  split
  · rename_i x
    have : vs.length = 1 := by simpa using e2
    rw [dif_pos (by simpa using this)]
    simpa using e3 0 (by simp) (by omega)
  · rename_i hne
    rw [dif_neg ?_]
    · exact .tup _ _ (by simpa using e2) (fun m h1 h2 => by simpa using e3 m h1 (by simpa using h2))
    · intro h1
      have : xs.length = 1 := by simpa [e2] using h1
      obtain ⟨x, rfl⟩ := List.length_eq_one_iff.1 this
      exact hne x rfl

def argE : Nat → List AV → List (Nat × AV)
  | _, [] => []
  | i, x :: xs => (i, x) :: argE (i + 1) xs

theorem argE_get : ∀ (xs : List AV) (i t : Nat), mkE (argE i xs) t = if i ≤ t then xs.getD (t - i) .undef else .undef
  | [], i, t => by simp [argE, mkE]
  | x :: xs, i, t => by
    simp only [argE, mkE, argE_get xs]
    by_cases h1 : t = i
    · subst h1; simp
    · rw [if_neg h1]
      by_cases h2 : i ≤ t
      · rw [if_pos (by omega), if_pos h2, show t - i = (t - (i + 1)) + 1 by omega]; simp
      · rw [if_neg (by omega), if_neg h2]

/-- A function by its body. -/
theorem ACalls.of {P : Program} {g : FuncId} {fn : Func} {body : Code} {c : ACode} (hf : P.funcs[g]? = some fn) (hb : fn.body = some body) (hc : absCode fn.ntmps body = some c) {args : List AV} (hn : args.length ≤ fn.ntmps)
    {h : Hp} {S : List Nat} {Q : AV → Hp → Prop}
    (hw : AWp ⟨P, fn.ntmps, S⟩ c ⟨mkE (argE 0 args), h⟩ fun x st => match x with | .exit _ => False | _ => aresL P st.env st.heap fn.results.toList fun vs => Q (retVal vs) st.heap) : ACalls P g args h S Q := by
  intro A β w vs hA hp hh
  refine calls_of_wp hf hb ?_
  have hs : SRb ⟨P, fn.ntmps, S⟩ ⟨w, Own β h, β, A⟩ β ⟨mkE (argE 0 args), h⟩ { tmps := vs ++ Array.replicate (fn.ntmps - vs.size) undef, defers := [] } w := by
    refine ⟨rfl, by simp [hp.1]; omega, fun t => ?_, hh, ⟨Same.refl _ _, rfl, rfl, rfl, Nat.le_refl _⟩, fun b _ hb => hb, fun _ _ => rfl, hA⟩
    show VR w _ β (mkE (argE 0 args) t) _
    rw [argE_get, if_pos (Nat.zero_le _), Nat.sub_zero]
    by_cases ht : t < args.length
    · have := hp.2 t ht (by rw [hp.1]; exact ht)
      have e1 : args.getD t .undef = args[t] := by rw [List.getD_eq_getElem?_getD, List.getElem?_eq_getElem ht]; rfl
      have e2 : (vs ++ Array.replicate (fn.ntmps - vs.size) undef).getD t undef = vs[t]'(by rw [hp.1]; exact ht) := by
        rw [Array.getD_eq_getD_getElem?, Array.getElem?_append_left (by rw [hp.1]; exact ht), Array.getElem?_eq_getElem (by rw [hp.1]; exact ht)]
        rfl
      rw [e1, e2]
      exact this
    · have e1 : args.getD t .undef = .undef := by rw [List.getD_eq_getElem?_getD, List.getElem?_eq_none (by omega)]; rfl
      rw [e1]
      exact .undef _
  refine wp_mono (hw body hc _ _ w ⟨β, hs⟩) fun e a' w' hpost => ?_
  have key : ∀ st, SR ⟨P, fn.ntmps, S⟩ ⟨w, Own β h, β, A⟩ st a' w' → (aresL P st.env st.heap fn.results.toList fun vs => Q (retVal vs) st.heap) → a'.defers = [] ∧ ∃ v, (results fn a'.tmps).run P w' = .ok v w' ∧
      ∃ v_1 x h' β', Ending.returned v = .returned v_1 ∧ Q x h' ∧ (∀ o, o ∈ S → β' o = β o) ∧ VR w' (Av A β' h') β' x v_1 ∧ HR w' A β' h' ∧ Since ⟨w, Own β h, β, A⟩ w' ∧ ∀ b, b < w.heap.size → Own β' h' b → Own β h b := by
    rintro st ⟨β', hs'⟩ hr
    obtain ⟨v, x, e1, e2, e3⟩ := res_sound hs' fn (fun x => Q x st.heap) hr
    exact ⟨hs'.defers, v, e1, v, x, st.heap, β', rfl, e3, hs'.kept, e2, hs'.heap, hs'.since, hs'.own⟩
  cases e with
  | normal => obtain ⟨st, h1, h2⟩ := hpost; exact key st h1 h2
  | ret => obtain ⟨st, h1, h2⟩ := hpost; exact key st h1 h2
  | exit id => obtain ⟨st, h1, h2⟩ := hpost; exact h2.elim
  | goto l => exact hpost.elim
  | panic ch => exact hpost.elim
  | outgrown => exact hpost.elim

/-! ### The caller's side -/
def restr (S : List Nat) (h : Hp) : Hp := fun o => if o ∈ S then h o else none
def merge (S : List Nat) (h h' : Hp) : Hp := fun o => match h' o with
  | some x => some x
  | none => if o ∈ S then none else h o

theorem merge_some {S : List Nat} {h h' : Hp} {o : Nat} (ho : h' o ≠ none) : merge S h h' o = h' o := by
  unfold merge
  cases e : h' o with
  | none => exact absurd e ho
  | some x => rfl
theorem merge_none {S : List Nat} {h h' : Hp} {o : Nat} (ho : h' o = none) : merge S h h' o = if o ∈ S then none else h o := by
  unfold merge
  rw [ho]

/-- A call that is handed objects of the caller's (S), and hands back others. -/
theorem CallOk.own {C : Cx} {st : St} {g : FuncId} {args : List AV} {K : AV → Hp → Prop} (S : List Nat) {Q : AV → Hp → Prop} (hspec : ACalls C.P g args (restr S st.heap) S Q)
    (hK : ∀ x h', Q x h' → (∀ o, h' o ≠ none → o ∉ S → Fresh C st o) ∧ (∀ o, x.has o = true → h' o ≠ none ∨ o ∈ S) ∧ (∀ o y p, h' o = some y → y.has p = true → h' p ≠ none ∨ p ∈ S) ∧ K x (merge S st.heap h')) :
    CallOk C st g args K := by
  intro F β a w vs h hp
  have hown : ∀ b, Own β st.heap b ↔ Own β (restr S st.heap) b ∨ ∃ o l, o ∉ S ∧ st.heap o ≠ none ∧ β o = some l ∧ l.blk = b := by
    intro b
    constructor
    · rintro ⟨o, l, h1, h2, h3⟩
      by_cases hS : o ∈ S
      · exact .inl ⟨o, l, by simpa [restr, hS] using h1, h2, h3⟩
      · exact .inr ⟨o, l, hS, h1, h2, h3⟩
    · rintro (⟨o, l, h1, h2, h3⟩ | ⟨o, l, _, h1, h2, h3⟩)
      · by_cases hS : o ∈ S
        · exact ⟨o, l, by simpa [restr, hS] using h1, h2, h3⟩
        · simp [restr, hS] at h1
      · exact ⟨o, l, h1, h2, h3⟩
  let A' : Nat → Prop := fun b => F.A b ∨ ∃ o l, o ∉ S ∧ st.heap o ≠ none ∧ β o = some l ∧ l.blk = b
  have hAv : ∀ b, Av A' β (restr S st.heap) b ↔ Av F.A β st.heap b := by
    intro b
    have := hown b
    constructor
    · rintro ((h1 | h1) | h1)
      · exact .inl h1
      · exact .inr (this.2 (.inr h1))
      · exact .inr (this.2 (.inl h1))
    · rintro (h1 | h1)
      · exact .inl (.inl h1)
      · rcases this.1 h1 with h1 | h1
        · exact .inr h1
        · exact .inl (.inr h1)
  have hAlt : ∀ b, A' b → b < w.heap.size := by
    rintro b (h1 | ⟨o, l, _, h1, h2, rfl⟩)
    · exact Nat.lt_of_lt_of_le (h.far b h1) h.since.same.size
    · exact h.heap.lt _ ⟨o, l, h1, h2, rfl⟩
  have hne : ∀ o, restr S st.heap o ≠ none → st.heap o ≠ none ∧ o ∈ S := by
    intro o ho
    by_cases hS : o ∈ S
    · exact ⟨by simpa [restr, hS] using ho, hS⟩
    · simp [restr, hS] at ho
  have hHR : HR w A' β (restr S st.heap) := by
    refine ⟨fun o x hx => ?_, fun o o' l l' g1 g2 g3 g4 g5 => h.heap.inj o o' l l' (hne o g1).1 (hne o' g2).1 g3 g4 g5, fun b hb => h.heap.lt b ((hown b).2 (.inl hb)), fun b hb hA => ?_⟩
    · have hx' : st.heap o = some x := by
        by_cases hS : o ∈ S
        · simpa [restr, hS] using hx
        · simp [restr, hS] at hx
      exact (h.heap.obj o x hx').mono (Same.refl _ w) (fun b _ h1 => (hAv b).1 h1) (fun _ _ => rfl) (fun _ _ => rfl)
    · rcases hA with hA | ⟨o, l, g1, g2, g3, g4⟩
      · exact h.heap.apart b ((hown b).2 (.inl hb)) hA
      · obtain ⟨o', l', k1, k2, k3⟩ := hb
        have := h.heap.inj o o' l l' g2 (hne o' k1).1 g3 k2 (g4.trans k3.symm)
        subst this
        exact g1 (hne o k1).2
  refine (hspec A' β w vs hAlt ⟨hp.1, fun m h1 h2 => (hp.2 m h1 h2).mono (Same.refl _ w) (fun b _ h' => (hAv b).1 h') fun _ _ => rfl⟩ hHR).mono ?_
  rintro e w' ⟨v, x, h', β', rfl, hQ, hS, hv, hH, hsince, hold⟩
  obtain ⟨k1, k2, k3, k4⟩ := hK x h' hQ
  let B : Nat → Option Loc := fun o => if h' o ≠ none then β' o else β o
  have hB : ∀ o, h' o ≠ none ∨ o ∈ S → B o = β' o := by
    intro o ho
    by_cases hh : h' o = none
    · have : o ∈ S := ho.resolve_left (fun e => e hh)
      simp only [B, hh, ne_eq, not_true, if_false]
      exact (hS o this).symm
    · simp only [B, if_pos hh]
  have hBold : ∀ o, (h' o = none ∨ o ∈ S) → B o = β o := by
    intro o ho
    by_cases hh : h' o = none
    · simp only [B, hh, ne_eq, not_true, if_false]
    · have : o ∈ S := ho.resolve_left hh
      simp only [B, if_pos hh]
      exact hS o this
  -- the blocks that are its own behind the call
  have hnew : ∀ b, Own B (merge S st.heap h') b → Own β' h' b ∨ ∃ o l, o ∉ S ∧ st.heap o ≠ none ∧ β o = some l ∧ l.blk = b := by
    rintro b ⟨o, l, g1, g2, g3⟩
    by_cases hh : h' o = none
    · rw [merge_none hh] at g1
      by_cases hin : o ∈ S
      · simp [hin] at g1
      · simp only [hin, if_false] at g1
        rw [hBold o (.inl hh)] at g2
        exact .inr ⟨o, l, hin, g1, g2, g3⟩
    · rw [hB o (.inl hh)] at g2
      exact .inl ⟨o, l, hh, g2, g3⟩
  have hO : ∀ b, b < w.heap.size → Own B (merge S st.heap h') b → Own β st.heap b := by
    intro b hb h1
    rcases hnew b h1 with h1 | h1
    · exact (hown b).2 (.inl (hold b hb h1))
    · exact (hown b).2 (.inr h1)
  have hsame : Same (Own β st.heap) w w' := hsince.same.wider fun b hb => (hown b).2 (.inl hb)
  -- from the callee's words to the caller's
  have hAv' : ∀ b, Av F.A B (merge S st.heap h') b → Av A' β' h' b := by
    rintro b (h1 | h1)
    · exact .inl (.inl h1)
    · rcases hnew b h1 with h1 | h1
      · exact .inr h1
      · exact .inl (.inr h1)
  have hblk : ∀ o l, o ∉ S → st.heap o ≠ none → β o = some l → w'.heap[l.blk]? = w.heap[l.blk]? := by
    intro o l g1 g2 g3
    refine hsince.same.block l.blk (h.heap.lt _ ⟨o, l, g2, g3, rfl⟩) ?_
    rintro ⟨o', l', q1, q2, q3⟩
    have := h.heap.inj o o' l l' g2 (hne o' q1).1 g3 q2 q3.symm
    subst this
    exact g1 (hne o q1).2
  refine ⟨v, x, merge S st.heap h', B, rfl, h.update (h4 := hsince.drawn) hsame hsince.os hsince.tape hsince.output hO (fun t o ho => ?_) (fun o ho => ?_) ⟨fun o y hy => ?_, fun o o' l l' g1 g2 g3 g4 g5 => ?_, fun b hb => ?_, fun b hb hA => ?_⟩,
    hv.mono (Same.refl _ w') (fun b _ => hAv' b) (fun o ho => hB o (k2 o ho)), k4⟩
  · -- the frame names no new object
    by_cases hc : h' o = none ∨ o ∈ S
    · exact hBold o hc
    · have := (k1 o (fun e => hc (.inl e)) (fun e => hc (.inr e))).2.2.1 t
      rw [this] at ho
      cases ho
  · by_cases hc : h' o = none ∨ o ∈ S
    · exact hBold o hc
    · exact absurd ho (k1 o (fun e => hc (.inl e)) (fun e => hc (.inr e))).1
  · by_cases hh : h' o = none
    · rw [merge_none hh] at hy
      by_cases hin : o ∈ S
      · simp [hin] at hy
      · simp only [hin, if_false] at hy
        rw [hBold o (.inl hh)]
        refine (h.heap.obj o y hy).mono (hsame.wider fun b => .inr) (fun b hb h1 => h1.imp id (hO b hb)) (fun p hp => ?_) (fun l hl => hblk o l hin (by simp [hy]) hl)
        by_cases hc : h' p = none ∨ p ∈ S
        · exact hBold p hc
        · have := (k1 p (fun e => hc (.inl e)) (fun e => hc (.inr e))).2.2.2 o y hy
          rw [this] at hp
          cases hp
    · rw [merge_some hh] at hy
      rw [hB o (.inl hh)]
      exact (hH.obj o y hy).mono (Same.refl _ w') (fun b _ => hAv' b) (fun p hp => hB p (k3 o y p hy hp)) (fun _ _ => rfl)
  · have case1 : ∀ o l, merge S st.heap h' o ≠ none → B o = some l → (h' o ≠ none ∧ β' o = some l) ∨ (h' o = none ∧ o ∉ S ∧ st.heap o ≠ none ∧ β o = some l) := by
      intro o l q1 q2
      by_cases hh : h' o = none
      · rw [merge_none hh] at q1
        by_cases hin : o ∈ S
        · simp [hin] at q1
        · simp only [hin, if_false] at q1
          exact .inr ⟨hh, hin, q1, by rwa [hBold o (.inl hh)] at q2⟩
      · exact .inl ⟨hh, by rwa [hB o (.inl hh)] at q2⟩
    have cross : ∀ o o' l l', h' o ≠ none → β' o = some l → o' ∉ S → st.heap o' ≠ none → β o' = some l' → l.blk ≠ l'.blk := by
      intro o o' l l' q1 q2 q3 q4 q5 e
      exact hH.apart l.blk ⟨o, l, q1, q2, rfl⟩ (.inr ⟨o', l', q3, q4, q5, e.symm⟩)
    rcases case1 o l g1 g3 with ⟨q1, q2⟩ | ⟨q1, q2, q3, q4⟩ <;> rcases case1 o' l' g2 g4 with ⟨r1, r2⟩ | ⟨r1, r2, r3, r4⟩
    · exact hH.inj o o' l l' q1 r1 q2 r2 g5
    · exact absurd g5 (cross o o' l l' q1 q2 r2 r3 r4)
    · exact absurd g5.symm (cross o' o l' l r1 r2 q2 q3 q4)
    · exact h.heap.inj o o' l l' q3 r3 q4 r4 g5
  · rcases hnew b hb with h1 | ⟨o, l, _, h1, h2, rfl⟩
    · exact hH.lt b h1
    · exact Nat.lt_of_lt_of_le (h.heap.lt _ ⟨o, l, h1, h2, rfl⟩) hsame.size
  · rcases hnew b hb with h1 | ⟨o, l, _, h1, h2, rfl⟩
    · exact hH.apart b h1 (.inl hA)
    · exact h.heap.apart _ ⟨o, l, h1, h2, rfl⟩ hA
end Go.Aw
end
section
set_option linter.unusedVariables false
set_option linter.unusedSimpArgs false
namespace Go.Aw

theorem AV.leafL_get : ∀ {xs : List AV} (h : AV.leafL xs = true) (i : Nat) (hi : i < xs.length), xs[i].leaf = true
  | x :: xs, h, 0, _ => by simp only [AV.leafL, Bool.and_eq_true] at h; exact h.1
  | x :: xs, h, i + 1, hi => by
    simp only [AV.leafL, Bool.and_eq_true] at h
    exact AV.leafL_get (xs := xs) h.2 i (by simpa using hi)
theorem AV.leafLL_get : ∀ {xs : List (List AV)} (h : AV.leafLL xs = true) (i : Nat) (hi : i < xs.length), AV.leafL xs[i] = true
  | x :: xs, h, 0, _ => by simp only [AV.leafLL, Bool.and_eq_true] at h; exact h.1
  | x :: xs, h, i + 1, hi => by
    simp only [AV.leafLL, Bool.and_eq_true] at h
    exact AV.leafLL_get (xs := xs) h.2 i (by simpa using hi)
theorem leafLL_map {α : Type} (f : α → List AV) (h : ∀ x, AV.leafL (f x) = true) : ∀ l : List α, AV.leafLL (l.map f) = true
  | [] => rfl
  | x :: xs => by simp [AV.leafLL, h x, leafLL_map f h xs]
theorem hasL_of_leafL {o : Nat} : ∀ {xs : List AV}, AV.leafL xs = true → AV.hasL o xs = false
  | [], _ => rfl
  | x :: xs, h => by
    simp only [AV.leafL, Bool.and_eq_true] at h
    simp only [AV.hasL, hasL_of_leafL h.2, Bool.or_false]
    cases x <;> first | rfl | simp [AV.leaf] at h
theorem hasLL_of_leafLL {o : Nat} : ∀ {xs : List (List AV)}, AV.leafLL xs = true → AV.hasLL o xs = false
  | [], _ => rfl
  | x :: xs, h => by
    simp only [AV.leafLL, Bool.and_eq_true] at h
    simp [AV.hasLL, hasLL_of_leafLL h.2, hasL_of_leafL h.1]

theorem VR.leaf_IR {w : World} {O : Nat → Prop} {β : Nat → Option Loc} {c : AV} {v : Value} (h : VR w O β c v) (hc : c.leaf = true) : IR w O c v := by
  cases h with
  | imm h => exact h
  | _ => simp [AV.leaf] at hc

/-- a, an object's name in it, seen as cells that nobody writes. -/
def view0 (D : List Nat) (h : Hp) (a a' : AV) : Prop :=
  match a with
  | .sl o off len full => match h o with
    | some (.row _ _ xs) => o ∈ D ∧ off + len ≤ xs.length ∧ AV.leafLL xs = true ∧ a' = .isl (if full then .full else .unk) ((xs.drop off).take len)
    | _ => False
  | .ptr o i j => match h o with
    | some (.row _ _ xs) => o ∈ D ∧ i < xs.length ∧ j ≤ (xs.getD i []).length ∧ AV.leafLL xs = true ∧ a' = .iptr ((xs.getD i []).drop j)
    | _ => False
  | a => a' = a
def viewL0 (D : List Nat) (h : Hp) : List AV → List AV → Prop
  | [], l => l = []
  | a :: bs, l => ∃ a' bs', l = a' :: bs' ∧ view0 D h a a' ∧ viewL0 D h bs bs'
def view1 (D : List Nat) (h : Hp) (a a' : AV) : Prop :=
  match a with
  | .func fn first cap => ∃ cap', a' = .func fn first cap' ∧ viewL0 D h cap cap'
  | .agg cs => ∃ cs', a' = .agg cs' ∧ viewL0 D h cs cs'
  | .tup cs => ∃ cs', a' = .tup cs' ∧ viewL0 D h cs cs'
  | a => view0 D h a a'
def viewL (D : List Nat) (h : Hp) : List AV → List AV → Prop
  | [], l => l = []
  | a :: bs, l => ∃ a' bs', l = a' :: bs' ∧ view1 D h a a' ∧ viewL D h bs bs'

/-- The caller's objects other than D. -/
def others (D : List Nat) (A : Nat → Prop) (β : Nat → Option Loc) (h : Hp) (b : Nat) : Prop := A b ∨ ∃ o l, o ∉ D ∧ h o ≠ none ∧ β o = some l ∧ l.blk = b

section
variable {D : List Nat} {w : World} {A : Nat → Prop} {β : Nat → Option Loc} {h : Hp}

theorem others_av {b : Nat} (hb : others D A β h b) : Av A β h b := by
  rcases hb with hb | ⟨o, l, _, h1, h2, h3⟩
  · exact .inl hb
  · exact .inr ⟨o, l, h1, h2, h3⟩

theorem VR.others {a : AV} {v : Value} (hv : VR w (Av A β h) β a v) : VR w (others D A β h) β a v := hv.mono (Same.refl _ w) (fun b _ hb => others_av hb) fun _ _ => rfl

theorem not_others (hH : HR w A β h) {o : Nat} {l : Loc} (ho : h o ≠ none) (hl : β o = some l) (hD : o ∈ D) : ¬ others D A β h l.blk := by
  rintro (hb | ⟨o', l', h0, h1, h2, h3⟩)
  · exact hH.apart _ ⟨o, l, ho, hl, rfl⟩ hb
  · have := hH.inj o o' l l' ho h1 hl h2 h3.symm
    subst this
    exact h0 hD

theorem view0_VR (hH : HR w A β h) {a a' : AV} {v : Value} (hw : view0 D h a a') (hv : VR w (Av A β h) β a v) : VR w (others D A β h) β a' v := by
  unfold view0 at hw
  split at hw
  · rename_i o off len full
    split at hw
    · rename_i e k xs hob
      obtain ⟨hD, hle, hleaf, rfl⟩ := hw
      have hR := hH.obj o _ hob
      have hl' : ((xs.drop off).take len).length = len := by simp; omega
      rcases hv.sl_inv with ⟨l, cap, A1, hl, g1, g2, g3, g4, g5, rfl⟩ | ⟨hl, rfl, rfl, A0, rfl⟩
      · rw [hl] at hR
        obtain ⟨k1, k2, k3, k4, cur, k5, k6, k7, k8⟩ := hR
        have hlen : ∀ i, i < len → off + i < xs.length := fun i hi => by omega
        have hx : ∀ i (hi : i < ((xs.drop off).take len).length), ((xs.drop off).take len)[i] = xs[off + i]'(hlen i (by omega)) := by intro i hi; simp
        have key : ∀ i j, i < len → j < k → ∃ v, cur[l.c0 + (off + i) * k + j]? = some v ∧ v.oneCell' = true := by
          intro i j hi hj
          obtain ⟨v, q1, _⟩ := k8 (off + i) j (hlen i hi) (by rw [k4 _ (List.getElem_mem (hlen i hi))]; exact hj)
          obtain ⟨p1, p2⟩ := Array.getElem?_eq_some_iff.1 q1
          exact ⟨v, q1, p2 ▸ k7 _ p1⟩
        refine .imm ?_
        have hfin := IR.isl (w := w) (O := others D A β h) (if full then .full else .unk) ((xs.drop off).take len) A1 cap k (by omega) (by omega)
          (fun x hx' => k4 x (List.mem_of_mem_drop (List.mem_of_mem_take hx'))) (fun e => by cases full with | true => have := g3 rfl; omega | false => cases e) (fun e => by cases full <;> cases e)
          (fun h0 => ⟨_, _, g5 (by omega), not_others hH (by simp [hob]) hl hD, hH.lt _ ⟨o, l, by simp [hob], hl, rfl⟩⟩)
          (fun i j => cur.getD (l.c0 + (off + i) * k + j) undef) (fun i j hi hj => by
            obtain ⟨v, q1, q2⟩ := key i j (by omega) hj
            simpa [Array.getD_eq_getD_getElem?, q1] using q2) (fun b c hbc i j hi hj => by
            have hbc' := (g5 (by omega)).symm.trans hbc
            injection hbc' with hbc'
            injection hbc' with e1 e2
            subst e1 e2
            obtain ⟨v, q1, q2⟩ := key i j (by omega) hj
            rw [cell_of_row k5, k1, show l.c0 + off * k + i * k + j = l.c0 + (off + i) * k + j by rw [Nat.add_mul]; omega, q1]
            simp [Array.getD_eq_getD_getElem?, q1]) (fun i j g1 g2 => by
            have hi : i < len := by omega
            have e0 := hx i g1
            have hj : j < k := by rw [e0, k4 _ (List.getElem_mem (hlen i hi))] at g2; exact g2
            obtain ⟨v, q1, q2⟩ := k8 (off + i) j (hlen i hi) (by rw [k4 _ (List.getElem_mem (hlen i hi))]; exact hj)
            have hjx : j < (xs[off + i]'(hlen i hi)).length := by rw [k4 _ (List.getElem_mem (hlen i hi))]; exact hj
            have hlf : ((xs[off + i]'(hlen i hi))[j]'hjx).leaf = true := AV.leafL_get (AV.leafLL_get hleaf (off + i) (hlen i hi)) j hjx
            have := (q2.others (D := D)).leaf_IR hlf
            simp only [e0, Array.getD_eq_getD_getElem?, q1, Option.getD_some]
            exact this)
        rw [hl'] at hfin
        exact hfin
      · rw [hl] at hR
        have : xs = [] := hR
        subst this
        exact .imm (.isl (if full then .full else .unk) [] A0 0 0 (Nat.le_refl _) (by simp [maxLen]) (by simp) (by simp) (fun e => by cases full <;> cases e) (by simp) (fun _ _ => .bool true) (by simp) (by simp) (by simp))
    · exact hw.elim
  · rename_i o i j
    split at hw
    · rename_i e k xs hob
      obtain ⟨hD, hi, hj, hleaf, rfl⟩ := hw
      obtain ⟨l, hl, rfl⟩ := hv.ptr_inv
      have hR := hH.obj o _ hob
      rw [hl] at hR
      have hx : xs.getD i [] = xs[i] := by rw [List.getD_eq_getElem?_getD, List.getElem?_eq_getElem hi]; rfl
      have hk : xs[i].length = k := hR.2.2.2.1 _ (List.getElem_mem hi)
      rw [hx] at hj
      obtain ⟨vs, q1, q2, q3, q4⟩ := row_cells hR i j (k - j) hi (by omega)
      have hlen' : vs.length = ((xs.getD i []).drop j).length := by rw [hx, List.length_drop, hk, q1]
      refine .imm (.iptr _ _ _ vs hlen' (not_others hH (by simp [hob]) hl hD) (hH.lt _ ⟨o, l, by simp [hob], hl, rfl⟩) q2 q3 (fun m g1 g2 => ?_))
      have hm : m < k - j := by omega
      have := q4 m hm g2
      have hlf : (xs[i])[j + m].leaf = true := AV.leafL_get (AV.leafLL_get hleaf i hi) (j + m) (by omega)
      rw [hx, List.getD_eq_getElem?_getD, List.getElem?_eq_getElem (by omega)] at this
      have hfin := (this.others (D := D)).leaf_IR hlf
      have e1 : ((xs.getD i []).drop j)[m] = (xs[i])[j + m] := by simp only [List.getElem_drop, hx]
      rw [e1]
      exact hfin
    · exact hw.elim
  · subst hw
    exact hv.others

theorem viewL0_VR (hH : HR w A β h) : ∀ {bs bs' : List AV} {vs : List Value}, viewL0 D h bs bs' → vs.length = bs.length → (∀ m (h1 : m < bs.length) (h2 : m < vs.length), VR w (Av A β h) β bs[m] vs[m]) →
    bs'.length = bs.length ∧ ∀ m (h1 : m < bs'.length) (h2 : m < vs.length), VR w (others D A β h) β bs'[m] vs[m]
  | [], bs', vs, hv, hl, hh => by
    simp only [viewL0] at hv
    subst hv
    exact ⟨rfl, fun m h1 => by simp at h1⟩
  | a :: bs, l, vs, hv, hl, hh => by
    obtain ⟨a', bs', rfl, h1, h2⟩ := hv
    cases vs with
    | nil => simp at hl
    | cons v vs =>
      have h0 := hh 0 (by simp) (by simp)
      obtain ⟨k1, k2⟩ := viewL0_VR hH h2 (by simpa using hl) (fun m g1 g2 => hh (m + 1) (by simpa using g1) (by simpa using g2))
      refine ⟨by simp [k1], fun m g1 g2 => ?_⟩
      cases m with
      | zero => exact view0_VR hH h1 h0
      | succ m => exact k2 m (by simpa using g1) (by simpa using g2)

theorem view1_VR (hH : HR w A β h) {a a' : AV} {v : Value} (hw : view1 D h a a') (hv : VR w (Av A β h) β a v) : VR w (others D A β h) β a' v := by
  unfold view1 at hw
  split at hw
  · rename_i fn first cap
    obtain ⟨cap', rfl, hc⟩ := hw
    obtain ⟨us, vs, rfl, l1, l2, g1, g2⟩ := hv.func_inv
    obtain ⟨k1, k2⟩ := viewL0_VR hH (vs := vs.toList) hc (by simpa using l2) (fun m h1 h2 => by simpa using g2 m h1 (by simpa using h2))
    exact .func _ _ _ _ _ l1 (by omega) (fun m h1 h2 => (g1 m h1 h2).others) (fun m h1 h2 => k2 m h1 (by simpa using h2))
  · rename_i cs
    obtain ⟨cs', rfl, hc⟩ := hw
    obtain ⟨vs, rfl, l2, g1, g2⟩ := hv.agg_inv
    obtain ⟨k1, k2⟩ := viewL0_VR hH (vs := vs.toList) hc (by simpa using l2) (fun m h1 h2 => by simpa using g2 m h1 (by simpa using h2))
    exact .agg _ _ (by omega) g1 (fun m h1 h2 => k2 m h1 (by simpa using h2))
  · rename_i cs
    obtain ⟨cs', rfl, hc⟩ := hw
    obtain ⟨vs, rfl, l2, g2⟩ := hv.tup_inv
    obtain ⟨k1, k2⟩ := viewL0_VR hH (vs := vs.toList) hc (by simpa using l2) (fun m h1 h2 => by simpa using g2 m h1 (by simpa using h2))
    exact .tup _ _ (by omega) (fun m h1 h2 => k2 m h1 (by simpa using h2))
  · exact view0_VR hH hw hv

theorem viewL_VR (hH : HR w A β h) : ∀ {bs bs' : List AV} {vs : List Value}, viewL D h bs bs' → vs.length = bs.length → (∀ m (h1 : m < bs.length) (h2 : m < vs.length), VR w (Av A β h) β bs[m] vs[m]) →
    bs'.length = bs.length ∧ ∀ m (h1 : m < bs'.length) (h2 : m < vs.length), VR w (others D A β h) β bs'[m] vs[m]
  | [], bs', vs, hv, hl, hh => by
    simp only [viewL] at hv
    subst hv
    exact ⟨rfl, fun m h1 => by simp at h1⟩
  | a :: bs, l, vs, hv, hl, hh => by
    obtain ⟨a', bs', rfl, h1, h2⟩ := hv
    cases vs with
    | nil => simp at hl
    | cons v vs =>
      have h0 := hh 0 (by simp) (by simp)
      obtain ⟨k1, k2⟩ := viewL_VR hH h2 (by simpa using hl) (fun m g1 g2 => hh (m + 1) (by simpa using g1) (by simpa using g2))
      refine ⟨by simp [k1], fun m g1 g2 => ?_⟩
      cases m with
      | zero => exact view1_VR hH h1 h0
      | succ m => exact k2 m (by simpa using g1) (by simpa using g2)
end

/-- A value that leads nowhere. -/
def AV.scal0 : AV → Bool
  | .int _ _ | .bool _ | .str _ | .nilp | .nilfunc | .nilmap => true
  | _ => false
def AV.scalL : List AV → Bool
  | [] => true
  | x :: xs => x.scal0 && AV.scalL xs
def AV.scal : AV → Bool
  | .tup cs => AV.scalL cs
  | a => a.scal0
theorem AV.scalL_get : ∀ {xs : List AV} (h : AV.scalL xs = true) (i : Nat) (hi : i < xs.length), xs[i].scal0 = true
  | x :: xs, h, 0, _ => by simp only [AV.scalL, Bool.and_eq_true] at h; exact h.1
  | x :: xs, h, i + 1, hi => by
    simp only [AV.scalL, Bool.and_eq_true] at h
    exact AV.scalL_get (xs := xs) h.2 i (by simpa using hi)
theorem scal0_VR {w w' : World} {O O' : Nat → Prop} {β β' : Nat → Option Loc} {x : AV} {v : Value} (hx : x.scal0 = true) (h : VR w O β x v) : VR w' O' β' x v := by
  cases h with
  | imm h => cases h <;> first | exact .imm (.int _ _) | exact .imm (.bool _) | exact .imm (.str _) | exact .imm .nilp | exact .imm .nilfunc | exact .imm .nilmap | simp [AV.scal0] at hx
  | _ => simp [AV.scal0] at hx
theorem scal_VR {w w' : World} {O O' : Nat → Prop} {β β' : Nat → Option Loc} {x : AV} {v : Value} (hx : x.scal = true) (h : VR w O β x v) : VR w' O' β' x v := by
  cases x with
  | tup cs =>
    obtain ⟨vs, rfl, hl, hh⟩ := h.tup_inv
    exact .tup _ _ hl fun m h1 h2 => scal0_VR (AV.scalL_get hx m h1) (hh m h1 h2)
  | _ => exact scal0_VR hx h

/-- A call that looks at objects of the caller's (D) and hands back numbers. -/
theorem CallOk.peek {C : Cx} {st : St} {g : FuncId} {args args' : List AV} {K : AV → Hp → Prop} (D : List Nat) {Q : AV → Hp → Prop} (hv : viewL D st.heap args args') (hspec : ACalls C.P g args' (fun _ => none) [] Q)
    (hK : ∀ x h', Q x h' → x.scal = true ∧ K x st.heap) : CallOk C st g args K := by
  intro F β a w vs h hp
  obtain ⟨k1, k2⟩ := viewL_VR (D := D) h.heap (vs := vs.toList) hv (by simpa using hp.1) (fun m h1 h2 => by simpa using hp.2 m h1 (by simpa using h2))
  have hno : ∀ b, ¬ Own β (fun _ => none) b := fun b ⟨o, l, h1, _⟩ => h1 rfl
  have hAlt : ∀ b, others D F.A β st.heap b → b < w.heap.size := by
    rintro b (h1 | ⟨o, l, _, h1, h2, rfl⟩)
    · exact Nat.lt_of_lt_of_le (h.far b h1) h.since.same.size
    · exact h.heap.lt _ ⟨o, l, h1, h2, rfl⟩
  refine (hspec _ β w vs hAlt ⟨by have := hp.1; omega, fun m h1 h2 => (k2 m h1 (by simpa using h2) |> fun q => by simpa using q : VR w (others D F.A β st.heap) β args'[m] vs[m]).mono (Same.refl _ w) (fun b _ hb => hb.elim id fun hb => (hno b hb).elim) fun _ _ => rfl⟩
    ⟨fun o x hx => (by cases hx), fun o o' l l' g1 => absurd rfl g1, fun b hb => (hno b hb).elim, fun b hb => (hno b hb).elim⟩).mono ?_
  rintro e w' ⟨v, x, h', β', rfl, hQ, _, hvx, hH, hsince, hold⟩
  obtain ⟨k3, k4⟩ := hK x h' hQ
  have hall : ∀ b, b < w.heap.size → w'.heap[b]? = w.heap[b]? := fun b hb => hsince.same.block b hb (hno b)
  have hs : Same (Own β st.heap) w w' := hsince.same.wider fun b hb => (hno b hb).elim
  refine ⟨v, x, st.heap, β, rfl, h.update (h4 := hsince.drawn) hs hsince.os hsince.tape hsince.output (fun _ _ h => h) (fun _ _ _ => rfl) (fun _ _ => rfl)
    ⟨fun o y hy => (h.heap.obj o y hy).mono (hs.wider fun b => .inr) (fun b _ h1 => h1) (fun _ _ => rfl) (fun l hl => hall _ (h.heap.lt _ ⟨o, l, by simp [hy], hl, rfl⟩)), h.heap.inj,
      fun b hb => Nat.lt_of_lt_of_le (h.heap.lt b hb) hs.size, h.heap.apart⟩, scal_VR k3 hvx, k4⟩

def minus (D : List Nat) (h : Hp) : Hp := fun o => if o ∈ D then none else h o

/-- Objects are let go ahead of a call that is handed them: nobody writes them any more. -/
theorem CallOk.freeze {C : Cx} {st : St} {g : FuncId} {args args' : List AV} {K : AV → Hp → Prop} (D : List Nat) (hv : viewL D st.heap args args') (h : CallOk C ⟨st.env, minus D st.heap⟩ g args' K) : CallOk C st g args K := by
  intro F β a w vs hs hp
  obtain ⟨k1, k2⟩ := viewL_VR (D := D) hs.heap (vs := vs.toList) hv (by simpa using hp.1) (fun m h1 h2 => by simpa using hp.2 m h1 (by simpa using h2))
  have hO : ∀ b, Own β (minus D st.heap) b → Own β st.heap b := by
    rintro b ⟨o, l, h1, h2, h3⟩
    by_cases hn : o ∈ D
    · simp [minus, hn] at h1
    · exact ⟨o, l, by simpa [minus, hn] using h1, h2, h3⟩
  have hget : ∀ o x, minus D st.heap o = some x → st.heap o = some x := by
    intro o x hx
    by_cases hn : o ∈ D
    · simp [minus, hn] at hx
    · simpa [minus, hn] using hx
  have hne : ∀ o, minus D st.heap o ≠ none → st.heap o ≠ none := by
    intro o ho e
    by_cases hn : o ∈ D
    · simp [minus, hn] at ho
    · simp [minus, hn, e] at ho
  have hs' : SRb C F β ⟨st.env, minus D st.heap⟩ a w := hs.update (Same.refl _ w) rfl rfl rfl (fun b _ => hO b) (fun _ _ _ => rfl) (fun _ _ => rfl)
    ⟨fun o x hx => (hs.heap.obj o x (hget o x hx)).mono (Same.refl _ w) (fun b _ h1 => h1.imp id (hO b)) (fun _ _ => rfl) (fun _ _ => rfl), fun o o' l l' g1 g2 => hs.heap.inj o o' l l' (hne o g1) (hne o' g2),
      fun b hb => hs.heap.lt b (hO b hb), fun b hb => hs.heap.apart b (hO b hb)⟩
  refine h F β a w vs hs' ⟨by have := hp.1; omega, fun m h1 h2 => ?_⟩
  have := k2 m h1 (by simpa using h2)
  simp only [Array.getElem_toList] at this
  refine this.mono (Same.refl _ w) (fun b _ hb => ?_) fun _ _ => rfl
  rcases hb with hb | ⟨o, l, g1, g2, g3⟩
  · exact .inl hb
  · refine .inr ⟨o, l, fun hD => ?_, hne o g1, g2, g3⟩
    simp [minus, hD] at g1

end Go.Aw
end
section
set_option linter.unusedVariables false
set_option linter.unusedSimpArgs false
namespace Go.Aw

mutual
/-- The objects that a value leads to. -/
def AV.refs : AV → List Nat
  | .ptr p _ _ => [p]
  | .sl p _ _ _ => [p]
  | .map p => [p]
  | .miter p => [p]
  | .agg cs => AV.refsL cs
  | .tup cs => AV.refsL cs
  | .func _ xs ys => AV.refsL xs ++ AV.refsL ys
  | _ => []
def AV.refsL : List AV → List Nat
  | [] => []
  | x :: xs => AV.refs x ++ AV.refsL xs
end

/-- The program touches no other objects than A, writes no other than W. -/
def AM.within {α : Type} (A W : List Nat) (n : Nat) : AM α → Prop
  | .pure _ => True
  | .fail => True
  | .guard _ k => k.within A W n
  | .get o k => o ∈ A ∧ ∀ x, (k x).within A W n
  | .put o _ k => o ∈ A ∧ o ∈ W ∧ k.within A W n
  | .new _ k => n ∈ W ∧ (k n).within A W n
  | .del o k => o ∈ A ∧ o ∈ W ∧ k.within A W n

theorem AM.wp_mono {α : Type} {n : Nat} {fr : Prop} : ∀ {m : AM α} {h : Hp} {Q Q' : α → Hp → Prop}, m.wp n fr h Q → (∀ x h', Q x h' → Q' x h') → m.wp n fr h Q'
  | .pure a, h, Q, Q', hw, hq => hq _ _ hw
  | .fail, h, Q, Q', hw, hq => hw
  | .guard c k, h, Q, Q', hw, hq => ⟨hw.1, AM.wp_mono hw.2 hq⟩
  | .get o k, h, Q, Q', hw, hq => by
    simp only [AM.wp] at hw ⊢
    cases ho : h o with
    | none => rw [ho] at hw; exact hw
    | some x => rw [ho] at hw; exact AM.wp_mono hw hq
  | .put o x k, h, Q, Q', hw, hq => ⟨hw.1, AM.wp_mono hw.2 hq⟩
  | .new x k, h, Q, Q', hw, hq => ⟨hw.1, hw.2.1, AM.wp_mono hw.2.2 hq⟩
  | .del o k, h, Q, Q', hw, hq => AM.wp_mono (m := k) hw hq

/-- What comes of a program. -/
def AM.out {α : Type} (n : Nat) (m : AM α) (h : Hp) (x : α) (h' : Hp) : Prop := m.wp n True h fun y k => y = x ∧ k = h'

theorem AM.wp_out {α : Type} {n : Nat} {fr : Prop} : ∀ {m : AM α} {h : Hp} {Q : α → Hp → Prop}, m.wp n fr h Q → ∃ x h', m.out n h x h' ∧ Q x h'
  | .pure a, h, Q, hw => ⟨a, h, ⟨rfl, rfl⟩, hw⟩
  | .fail, h, Q, hw => hw.elim
  | .guard c k, h, Q, hw => by
    obtain ⟨x, h', h1, h2⟩ := AM.wp_out hw.2
    exact ⟨x, h', ⟨hw.1, h1⟩, h2⟩
  | .get o k, h, Q, hw => by
    simp only [AM.wp] at hw
    cases ho : h o with
    | none => rw [ho] at hw; exact hw.elim
    | some y =>
      rw [ho] at hw
      obtain ⟨x, h', h1, h2⟩ := AM.wp_out (m := k y) hw
      exact ⟨x, h', by unfold AM.out; simp only [AM.wp, ho]; exact h1, h2⟩
  | .put o y k, h, Q, hw => by
    obtain ⟨x, h', h1, h2⟩ := AM.wp_out hw.2
    exact ⟨x, h', ⟨hw.1, h1⟩, h2⟩
  | .new y k, h, Q, hw => by
    obtain ⟨x, h', h1, h2⟩ := AM.wp_out hw.2.2
    exact ⟨x, h', ⟨trivial, hw.2.1, h1⟩, h2⟩
  | .del o k, h, Q, hw => by
    obtain ⟨x, h', h1, h2⟩ := AM.wp_out (m := k) hw
    exact ⟨x, h', h1, h2⟩

theorem AM.out_wp {α : Type} {n : Nat} {m : AM α} {h h' : Hp} {x : α} {Q : α → Hp → Prop} (ho : m.out n h x h') (hq : Q x h') : m.wp n True h Q :=
  AM.wp_mono ho fun y k ⟨e1, e2⟩ => by subst e1 e2; exact hq

/-- What is not written is as it was; and elsewhere the same comes of it. -/
theorem AM.frame {α : Type} {n : Nat} {A W : List Nat} : ∀ {m : AM α} {h g h' : Hp} {x : α}, m.within A W n → m.out n h x h' → (∀ o, o ∈ A ∨ o ∈ W → g o = h o) →
    (∀ o, o ∉ W → h' o = h o) ∧ ∃ g', m.out n g x g' ∧ (∀ o, o ∈ W → g' o = h' o) ∧ (∀ o, o ∉ W → g' o = g o) ∧ (∀ o, o ∈ A ∨ o ∈ W → g' o = h' o)
  | .pure a, h, g, h', x, hw, ho, hg => by
    obtain ⟨rfl, rfl⟩ := ho
    exact ⟨fun _ _ => rfl, g, ⟨rfl, rfl⟩, fun o h1 => hg o (.inr h1), fun _ _ => rfl, hg⟩
  | .fail, h, g, h', x, hw, ho, hg => ho.elim
  | .guard c k, h, g, h', x, hw, ho, hg => by
    obtain ⟨e1, g', e2, e3⟩ := AM.frame (m := k) hw ho.2 hg
    exact ⟨e1, g', ⟨ho.1, e2⟩, e3⟩
  | .get o k, h, g, h', x, hw, ho, hg => by
    unfold AM.out at ho
    simp only [AM.wp] at ho
    cases hh : h o with
    | none => rw [hh] at ho; exact ho.elim
    | some y =>
      rw [hh] at ho
      obtain ⟨e1, g', e2, e3⟩ := AM.frame (m := k y) (hw.2 y) ho hg
      refine ⟨e1, g', ?_, e3⟩
      unfold AM.out
      simp only [AM.wp, hg o (.inl hw.1), hh]
      exact e2
  | .put o y k, h, g, h', x, hw, ho, hg => by
    have hg' : ∀ p, p ∈ A ∨ p ∈ W → updH g o (some y) p = updH h o (some y) p := by
      intro p hp
      unfold updH
      split
      · rfl
      · exact hg p hp
    obtain ⟨e1, g', e2, e3, e4, e5⟩ := AM.frame (m := k) hw.2.2 ho.2 hg'
    refine ⟨fun p hp => ?_, g', ⟨by rw [hg o (.inl hw.1)]; exact ho.1, e2⟩, e3, fun p hp => ?_, e5⟩
    · rw [e1 p hp]; unfold updH; rw [if_neg (fun (e : p = o) => hp (e ▸ hw.2.1))]
    · rw [e4 p hp]; unfold updH; rw [if_neg (fun (e : p = o) => hp (e ▸ hw.2.1))]
  | .new y k, h, g, h', x, hw, ho, hg => by
    have hg' : ∀ p, p ∈ A ∨ p ∈ W → updH g n (some y) p = updH h n (some y) p := by
      intro p hp
      unfold updH
      split
      · rfl
      · exact hg p hp
    obtain ⟨e1, g', e2, e3, e4, e5⟩ := AM.frame (m := k n) hw.2 ho.2.2 hg'
    refine ⟨fun p hp => ?_, g', ⟨trivial, ho.2.1, e2⟩, e3, fun p hp => ?_, e5⟩
    · rw [e1 p hp]; unfold updH; rw [if_neg (fun (e : p = n) => hp (e ▸ hw.1))]
    · rw [e4 p hp]; unfold updH; rw [if_neg (fun (e : p = n) => hp (e ▸ hw.1))]
  | .del o k, h, g, h', x, hw, ho, hg => by
    have hg' : ∀ p, p ∈ A ∨ p ∈ W → updH g o none p = updH h o none p := by
      intro p hp
      unfold updH
      split
      · rfl
      · exact hg p hp
    obtain ⟨e1, g', e2, e3, e4, e5⟩ := AM.frame (m := k) hw.2.2 ho hg'
    refine ⟨fun p hp => ?_, g', e2, e3, fun p hp => ?_, e5⟩
    · rw [e1 p hp]; unfold updH; rw [if_neg (fun (e : p = o) => hp (e ▸ hw.2.1))]
    · rw [e4 p hp]; unfold updH; rw [if_neg (fun (e : p = o) => hp (e ▸ hw.2.1))]

/-- Two programs that touch nothing of each other's change places. -/
theorem AM.swap {α : Type} {n1 n2 : Nat} {A1 W1 A2 W2 : List Nat} {m1 m2 : AM α} {h h1 h2 : Hp} {x1 x2 : α} (hw1 : m1.within A1 W1 n1) (hw2 : m2.within A2 W2 n2) (h12 : ∀ o, o ∈ W1 → o ∉ A2 ∧ o ∉ W2) (h21 : ∀ o, o ∈ W2 → o ∉ A1 ∧ o ∉ W1)
    (o1 : m1.out n1 h x1 h1) (o2 : m2.out n2 h1 x2 h2) : ∃ k1, m2.out n2 h x2 k1 ∧ m1.out n1 k1 x1 h2 := by
  have f1 := AM.frame hw1 o1 (g := h) (fun _ _ => rfl)
  have hag : ∀ o, o ∈ A2 ∨ o ∈ W2 → h o = h1 o := fun o ho => (f1.1 o fun hw => (h12 o hw).1 (ho.resolve_right (h12 o hw).2)).symm
  obtain ⟨e1, k1, e2, e3, e4, e5⟩ := AM.frame hw2 o2 hag
  have hag2 : ∀ o, o ∈ A1 ∨ o ∈ W1 → k1 o = h o := fun o ho => e4 o fun hw => (h21 o hw).1 (ho.resolve_right (h21 o hw).2)
  obtain ⟨q1, k2, q2, q3, q4, q5⟩ := AM.frame hw1 o1 hag2
  have hk : k2 = h2 := by
    funext o
    by_cases hW1 : o ∈ W1
    · rw [q3 o hW1, e1 o (h12 o hW1).2]
    · rw [q4 o hW1]
      by_cases hW2 : o ∈ W2
      · rw [e3 o hW2]
      · rw [e4 o hW2, e1 o hW2, q1 o hW1]
  subst hk
  exact ⟨k1, e2, q2⟩

/-! ### What an operation touches -/
def opRefs (e : Nat → AV) (op : Op) : List Nat := op.operands.toList.flatMap fun x => (rho e x).refs
def quietB : Builtin → Bool
  | .len | .max | .min | .cap => true
  | _ => false
def isW : Op → Bool
  | .store .. | .mapUpdate .. | .insert .. | .next .. | .mapEntry .. | .entryStore .. => true
  | .call { callee := .builtin b, .. } => !quietB b
  | .call { callee := .value _, .. } => true
  | _ => false
def headRefs (e : Nat → AV) : List Operand → List Nat
  | [] => []
  | x :: _ => (rho e x).refs
def wrRefs (e : Nat → AV) (op : Op) : List Nat :=
  match op with
  | .call { callee := .builtin .append, args, .. } => headRefs e args.toList
  | op => if isW op then opRefs e op else []
def wrOf (e : Nat → AV) (op : Op) (n : Nat) : List Nat := n :: wrRefs e op

theorem mem_opRefs {e : Nat → AV} {op : Op} {x : Operand} {o : Nat} (h : x ∈ op.operands.toList) (ho : o ∈ (rho e x).refs) : o ∈ opRefs e op :=
  List.mem_flatMap.2 ⟨x, h, ho⟩
end Go.Aw
end
section
set_option linter.unusedVariables false
set_option linter.unusedSimpArgs false
namespace Go.Aw
section
variable {A W : List Nat} {n : Nat}

theorem aload_within {P : Program} {t : TypeId} {p : AV} (h : ∀ o, o ∈ p.refs → o ∈ A) : (aload P t p).within A W n := by
  unfold aload
  split
  · simp only [AM.within]
    split
    · rename_i o i j
      refine ⟨h o (by simp [AV.refs]), fun x => ?_⟩
      cases x <;> simp [AM.within]
    · simp [AM.within]
    · simp [AM.within]
  · simp [AM.within]
theorem astore_within {P : Program} {t : TypeId} {p x : AV} (h : ∀ o, o ∈ p.refs → o ∈ A ∧ o ∈ W) : (astore P t p x).within A W n := by
  unfold astore
  split
  · simp only [AM.within]
    split
    · rename_i o i j
      obtain ⟨h1, h2⟩ := h o (by simp [AV.refs])
      refine ⟨h1, fun x => ?_⟩
      cases x <;> simp [AM.within, h1, h2]
    · simp [AM.within]
  · simp [AM.within]
theorem aindex_within {P : Program} {t : TypeId} {p x : AV} (h : ∀ o, o ∈ p.refs → o ∈ A) : (aindex P t p x).within A W n := by
  unfold aindex
  split
  · rename_i o off len full _ i
    split
    · refine ⟨h o (by simp [AV.refs]), fun x => ?_⟩
      cases x <;> simp [AM.within]
    · simp [AM.within]
  · split <;> simp [AM.within]
  · simp [AM.within]
theorem aslice_within {P : Program} {t : TypeId} {p : AV} {lo hi mx : Option AV} (h : ∀ o, o ∈ p.refs → o ∈ A) : (aslice P t p lo hi mx).within A W n := by
  unfold aslice
  simp only [AM.within]
  split
  · split <;> simp [AM.within]
  · split
    · simp only [AM.within]
      split <;> simp [AM.within]
    · simp [AM.within]
  · rename_i e o off len full hk
    split
    · refine ⟨h o (by simp [AV.refs]), fun x => ?_⟩
      cases x with
      | row e k xs =>
        simp only [AM.within]
        split
        · split <;> simp [AM.within]
        · simp [AM.within]
      | _ => simp [AM.within]
    · simp [AM.within]
  · simp [AM.within]
theorem asrc_within {x : AV} {k : List (List AV) → AM AV} (h : ∀ o, o ∈ x.refs → o ∈ A) (hk : ∀ ys, (k ys).within A W n) : (asrc x k).within A W n := by
  unfold asrc
  split
  · simp only [AM.within]; exact hk _
  · rename_i o off len full
    refine ⟨h o (by simp [AV.refs]), fun x => ?_⟩
    cases x with
    | row e k xs => exact hk _
    | _ => simp [AM.within]
  · simp [AM.within]
theorem aappendTo_within {e k b : Nat} {s : AV} {ys : List (List AV)} (h : ∀ o, o ∈ s.refs → o ∈ A ∧ o ∈ W) (hn : n ∈ W) : (aappendTo e k b s ys).within A W n := by
  unfold aappendTo
  split
  · simp [AM.within, hn]
  · rename_i o off len full
    obtain ⟨h1, h2⟩ := h o (by simp [AV.refs])
    refine ⟨h1, fun x => ?_⟩
    cases x with
    | row e k xs =>
      simp only [AM.within]
      split
      · simp [AM.within, hn, h1, h2]
      · split <;> simp [AM.within, hn, h1, h2]
    | _ => simp [AM.within]
  · simp [AM.within]
theorem aappend_within {P : Program} {t xt : TypeId} {s x : AV} (hs : ∀ o, o ∈ s.refs → o ∈ A ∧ o ∈ W) (hx : ∀ o, o ∈ x.refs → o ∈ A) (hn : n ∈ W) : (aappend P t xt s x).within A W n := by
  unfold aappend
  split
  · split
    · exact asrc_within hx fun ys => aappendTo_within hs hn
    · simp [AM.within]
  · simp [AM.within]
theorem abin_within {op : BinOp} {x y : AV} : (abin op x y).within A W n := by
  unfold abin
  split
  · simp only [AM.within]; split <;> simp [AM.within]
  · split <;> simp [AM.within]
  · simp [AM.within]
theorem abits_within {op : BinOp} {x y : AV} : (abits op x y).within A W n := by
  unfold abits
  split
  · split <;> simp [AM.within]
  · simp [AM.within]
theorem abinT_within {P : Program} {t : TypeId} {op : BinOp} {x y : AV} : (abinT P t op x y).within A W n := by
  unfold abinT
  split
  case h_7 =>
    split
    · exact abin_within
    · exact abin_within
    · split <;> simp [AM.within]
  case h_8 =>
    split
    · exact abin_within
    · exact abin_within
    · split <;> simp [AM.within]
  case h_9 => exact abin_within
  all_goals exact abits_within
theorem withMap_within {x : AV} {k : List (Nat × AV × AV) → AM AV} (h : ∀ o, o ∈ x.refs → o ∈ A) (hk : ∀ es, (k es).within A W n) : (withMap x k).within A W n := by
  unfold withMap
  split
  · exact hk _
  · refine ⟨h _ (by simp [AV.refs]), fun ob => ?_⟩
    cases ob <;> simp only [AM.within]
    exact hk _
  · simp [AM.within]
theorem alookup_within {P : Program} {t : TypeId} {m k : AV} {ok : Bool} (h : ∀ o, o ∈ m.refs → o ∈ A) : (alookup P t m k ok).within A W n := by
  unfold alookup
  split
  · split
    · refine withMap_within h fun es => ?_
      split <;> simp [AM.within]
    · simp [AM.within]
  · simp [AM.within]
theorem aupdate_within {P : Program} {t : TypeId} {m k v : AV} (h : ∀ o, o ∈ m.refs → o ∈ A ∧ o ∈ W) : (aupdate P t m k v).within A W n := by
  unfold aupdate
  split
  · split
    · rename_i o _
      obtain ⟨h1, h2⟩ := h o (by simp [AV.refs])
      refine ⟨h1, fun ob => ?_⟩
      cases ob <;> simp only [AM.within]
      split <;> simp [AM.within, h1, h2]
    · simp [AM.within]
  · simp [AM.within]
theorem adelete_within {P : Program} {t : TypeId} {m k : AV} (h : ∀ o, o ∈ m.refs → o ∈ A ∧ o ∈ W) : (adelete P t m k).within A W n := by
  unfold adelete
  split
  · split
    · rename_i o _
      obtain ⟨h1, h2⟩ := h o (by simp [AV.refs])
      refine ⟨h1, fun ob => ?_⟩
      cases ob <;> simp only [AM.within]
      split <;> simp [AM.within, h1, h2]
    · simp [AM.within]
  · simp [AM.within]
theorem arange_within {P : Program} {t : TypeId} {x : AV} (h : ∀ o, o ∈ x.refs → o ∈ A) (hn : n ∈ W) : (arange P t x).within A W n := by
  unfold arange
  split
  · split
    · refine ⟨h _ (by simp [AV.refs]), fun ob => ?_⟩
      cases ob <;> simp [AM.within, hn]
    · simp [AM.within, hn]
    · simp [AM.within]
  · simp [AM.within]
theorem aclear_within {P : Program} {t : TypeId} {x : AV} (h : ∀ o, o ∈ x.refs → o ∈ A ∧ o ∈ W) : (aclear P t x).within A W n := by
  unfold aclear
  split
  · rename_i o off len full
    have h := h o (by simp [AV.refs])
    split
    · split
      · refine ⟨h.1, fun ob => ?_⟩
        cases ob <;> simp [AM.within, h.1, h.2]
      · trivial
    · trivial
  · trivial
theorem aclearB_within {P : Program} {b : Builtin} {ts : Array TypeId} {args : List AV} (h : ∀ x ∈ args, ∀ o, o ∈ x.refs → o ∈ A) (hW : quietB b = false → b ≠ .append → ∀ x ∈ args, ∀ o, o ∈ x.refs → o ∈ W) : (aclearB P b ts args).within A W n := by
  unfold aclearB
  split
  · rename_i x
    split
    · rename_i hc
      obtain rfl := isClear_eq hc
      exact aclear_within fun o ho => ⟨h x (by simp) o ho, hW rfl (by simp) x (by simp) o ho⟩
    · trivial
  · trivial
theorem abuiltin_within {P : Program} {b : Builtin} {ts : Array TypeId} {args : List AV} (h : ∀ x ∈ args, ∀ o, o ∈ x.refs → o ∈ A) (hW : quietB b = false → b ≠ .append → ∀ x ∈ args, ∀ o, o ∈ x.refs → o ∈ W) (hA : b = .append → ∀ s l, args = s :: l → ∀ o, o ∈ s.refs → o ∈ W) (hn : n ∈ W) : (abuiltin P b ts args).within A W n := by
  unfold abuiltin
  split <;> first
    | (simp [AM.within]; done)
    | (rename_i o
       refine ⟨h _ (List.mem_singleton.2 rfl) o (by simp [AV.refs]), fun ob => ?_⟩
       cases ob <;> simp [AM.within]; done)
    | (rename_i m k
       exact adelete_within (fun o ho => ⟨h m (by simp) o ho, hW rfl (by simp) m (by simp) o ho⟩))
    | (rename_i s x
       exact aappend_within (fun o ho => ⟨h s (by simp) o ho, hA rfl s _ rfl o ho⟩) (fun o ho => h x (by simp) o ho) hn)
    | exact aclearB_within h hW

theorem mem_tmp {op : Op} {x : Operand} {e : Nat → AV} (h : x ∈ op.operands.toList) : ∀ o, o ∈ (rho e x).refs → o ∈ opRefs e op := fun o ho => mem_opRefs h ho

theorem aop_within (P : Program) (e : Nat → AV) (op : Op) (n : Nat) : (aop P e op).within (opRefs e op) (wrOf e op n) n := by
  have hn : n ∈ wrOf e op n := by simp [wrOf]
  unfold aop
  split
  case h_6 => exact aload_within (mem_tmp (by simp [Op.operands]))
  case h_7 t a x => exact astore_within fun o ho => ⟨mem_tmp (op := .store t a x) (by simp [Op.operands]) o ho, by simp only [wrOf, wrRefs, isW, if_true]; exact List.mem_cons_of_mem _ (mem_tmp (op := .store t a x) (by simp [Op.operands]) o ho)⟩
  case h_9 op t x y t' => exact abinT_within
  case h_15 t x ix =>
    split
    · exact aindex_within (mem_tmp (by simp [Op.operands]))
    · repeat' split
      all_goals simp [AM.within]
      all_goals (split <;> simp [AM.within])
  case h_17 t x lo hi mx => exact aslice_within (mem_tmp (by simp [Op.operands]))
  case h_22 t r => repeat' split
                   all_goals simp [AM.within, hn]
  case h_23 t m k ok => exact alookup_within (mem_tmp (by simp [Op.operands]))
  case h_24 t m k x => exact aupdate_within fun o ho => ⟨mem_tmp (op := .mapUpdate t m k x) (by simp [Op.operands]) o ho, by simp only [wrOf, wrRefs, isW, if_true]; exact List.mem_cons_of_mem _ (mem_tmp (op := .mapUpdate t m k x) (by simp [Op.operands]) o ho)⟩
  case h_25 t m k x => exact aupdate_within fun o ho => ⟨mem_tmp (op := .insert t m k x) (by simp [Op.operands]) o ho, by simp only [wrOf, wrRefs, isW, if_true]; exact List.mem_cons_of_mem _ (mem_tmp (op := .insert t m k x) (by simp [Op.operands]) o ho)⟩
  case h_26 t x => exact arange_within (mem_tmp (by simp [Op.operands])) hn
  case h_27 b args ts =>
    refine abuiltin_within (fun x hx o ho => ?_) (fun hb hna x hx o ho => ?_) (fun hb s l hl o ho => ?_) hn
    · obtain ⟨y, hy, rfl⟩ := List.mem_map.1 hx
      exact mem_tmp (op := .call { callee := .builtin b, args := args, argTypes := ts }) (by simpa [Op.operands, Call.operands] using hy) o ho
    · obtain ⟨y, hy, rfl⟩ := List.mem_map.1 hx
      have hw : wrRefs e (.call { callee := .builtin b, args := args, argTypes := ts }) = opRefs e (.call { callee := .builtin b, args := args, argTypes := ts }) := by
        unfold wrRefs
        split
        · rename_i q; cases q; exact absurd rfl hna
        · simp only [isW, hb, Bool.not_false, if_true]
      simp only [wrOf, hw]
      exact List.mem_cons_of_mem _ (mem_tmp (op := .call { callee := .builtin b, args := args, argTypes := ts }) (by simpa [Op.operands, Call.operands] using hy) o ho)
    · subst hb
      simp only [wrOf, wrRefs]
      refine List.mem_cons_of_mem _ ?_
      cases ha : args.toList with
      | nil => rw [ha] at hl; cases hl
      | cons y ys =>
        rw [ha] at hl
        simp only [List.map_cons, List.cons.injEq] at hl
        simp only [headRefs, hl.1]
        exact ho
  all_goals first
    | (simp [AM.within]; done)
    | (repeat' split
       all_goals first
        | (simp [AM.within, hn]; done)
        | (simp only [AM.within]; first | trivial | (split <;> simp [AM.within, hn])))
end
end Go.Aw
end
section
set_option linter.unusedVariables false
set_option linter.unusedSimpArgs false
namespace Go.Aw

theorem hasL_false {m : Nat} : ∀ {l : List AV}, AV.hasL m l = false ↔ ∀ x ∈ l, x.has m = false
  | [] => by simp [AV.hasL]
  | x :: xs => by simp [AV.hasL, hasL_false (l := xs)]
theorem hasLL_false {m : Nat} : ∀ {l : List (List AV)}, AV.hasLL m l = false ↔ ∀ x ∈ l, ∀ y ∈ x, y.has m = false
  | [] => by simp [AV.hasLL]
  | x :: xs => by simp [AV.hasLL, hasLL_false (l := xs), hasL_false]

def FreshH (m : Nat) (h : Hp) : Prop := h m = none ∧ ∀ o x, h o = some x → x.has m = false

def AM.pres (m n : Nat) : AM AV → Prop
  | .pure x => x.has m = false
  | .fail => True
  | .guard c k => c → k.pres m n
  | .get o k => ∀ x, x.has m = false → (k x).pres m n
  | .put o x k => o ≠ m ∧ x.has m = false ∧ k.pres m n
  | .new x k => n ≠ m ∧ x.has m = false ∧ (k n).pres m n
  | .del o k => k.pres m n

theorem FreshH.upd {m o : Nat} {h : Hp} {x : AObj} (hf : FreshH m h) (ho : o ≠ m) (hx : x.has m = false) : FreshH m (updH h o (some x)) := by
  refine ⟨by unfold updH; rw [if_neg (fun e => ho e.symm)]; exact hf.1, fun p y hy => ?_⟩
  unfold updH at hy
  split at hy
  · injection hy with hy; subst hy; exact hx
  · exact hf.2 p y hy
theorem FreshH.del {m o : Nat} {h : Hp} (hf : FreshH m h) : FreshH m (updH h o none) := by
  refine ⟨by unfold updH; split <;> first | rfl | exact hf.1, fun p y hy => ?_⟩
  unfold updH at hy
  split at hy
  · cases hy
  · exact hf.2 p y hy

theorem AM.pres_out {m n : Nat} : ∀ {p : AM AV} {h h' : Hp} {x : AV}, p.pres m n → FreshH m h → p.out n h x h' → x.has m = false ∧ FreshH m h'
  | .pure a, h, h', x, hp, hf, ho => by obtain ⟨rfl, rfl⟩ := ho; exact ⟨hp, hf⟩
  | .fail, h, h', x, hp, hf, ho => ho.elim
  | .guard c k, h, h', x, hp, hf, ho => AM.pres_out (p := k) (hp ho.1) hf ho.2
  | .get o k, h, h', x, hp, hf, ho => by
    unfold AM.out at ho
    simp only [AM.wp] at ho
    cases hh : h o with
    | none => rw [hh] at ho; exact ho.elim
    | some y => rw [hh] at ho; exact AM.pres_out (p := k y) (hp y (hf.2 o y hh)) hf ho
  | .put o y k, h, h', x, hp, hf, ho => AM.pres_out (p := k) hp.2.2 (hf.upd hp.1 hp.2.1) ho.2
  | .new y k, h, h', x, hp, hf, ho => AM.pres_out (p := k n) hp.2.2 (hf.upd hp.1 hp.2.1) ho.2.2
  | .del o k, h, h', x, hp, hf, ho => AM.pres_out (p := k) hp hf.del ho

theorem ofScalar_has (m : Nat) (v : Value) : (ofScalar v).has m = false := by
  unfold ofScalar; split <;> rfl
theorem ofValue_has (m : Nat) (v : Value) : (ofValue v).has m = false := by
  unfold ofValue
  split
  · split
    · simp only [AV.has, hasL_false]
      intro x hx
      obtain ⟨y, _, rfl⟩ := List.mem_map.1 hx
      exact ofScalar_has m y
    · rfl
  · split
    · simp [AV.has, AV.hasL]
    · rfl
  · exact ofScalar_has m v

section
variable {m n : Nat}
theorem getD_has {xs : List (List AV)} (h : AV.hasLL m xs = false) (i : Nat) : ∀ y ∈ xs.getD i [], y.has m = false := by
  intro y hy
  rw [List.getD_eq_getElem?_getD] at hy
  cases hi : xs[i]? with
  | none => rw [hi] at hy; simp at hy
  | some z => rw [hi] at hy; exact hasLL_false.1 h z (List.mem_of_getElem? hi) y hy
theorem getD1_has {xs : List AV} (h : ∀ y ∈ xs, y.has m = false) (i : Nat) : (xs.getD i .undef).has m = false := by
  rw [List.getD_eq_getElem?_getD]
  cases hi : xs[i]? with
  | none => rfl
  | some z => exact h z (List.mem_of_getElem? hi)
theorem partOf_has {g : Bool} {s off : Nat} {cs : List AV} (h : ∀ y ∈ cs, y.has m = false) : (partOf g s off cs).has m = false := by
  unfold partOf
  split
  · simp only [AV.has, hasL_false]
    exact fun y hy => h y (List.mem_of_mem_drop (List.mem_of_mem_take hy))
  · exact getD1_has h off
theorem cells_has {x : AV} {cs : List AV} (h : x.has m = false) (hc : x.cells = some cs) : ∀ y ∈ cs, y.has m = false := by
  cases x <;> simp only [AV.cells, Option.some.injEq, reduceCtorEq] at hc <;> subst hc <;> first
    | (intro y hy; rw [List.mem_singleton] at hy; rw [hy]; exact h)
    | (simp only [AV.has] at h; exact hasL_false.1 h)
theorem splice_has {cs vs : List AV} {off : Nat} (h : ∀ y ∈ cs, y.has m = false) (h' : ∀ y ∈ vs, y.has m = false) : ∀ y ∈ splice cs off vs, y.has m = false := by
  intro y hy
  simp only [splice, List.mem_append] at hy
  rcases hy with (hy | hy) | hy
  · exact h y (List.mem_of_mem_take hy)
  · exact h' y hy
  · exact h y (List.mem_of_mem_drop hy)

theorem leafL_has {cs : List AV} (h : AV.leafL cs = true) : ∀ y ∈ cs, y.has m = false := by
  induction cs with
  | nil => simp
  | cons x xs ih =>
    simp only [AV.leafL, Bool.and_eq_true] at h
    intro y hy
    rcases List.mem_cons.1 hy with rfl | hy
    · cases y <;> first | rfl | simp [AV.leaf] at h
    · exact ih h.2 y hy
theorem leafLL_has {xs : List (List AV)} (h : AV.leafLL xs = true) : AV.hasLL m xs = false := by
  rw [hasLL_false]
  induction xs with
  | nil => simp
  | cons x xs ih =>
    simp only [AV.leafLL, Bool.and_eq_true] at h
    intro y hy
    rcases List.mem_cons.1 hy with rfl | hy
    · exact leafL_has h.1
    · exact ih h.2 y hy

theorem aload_pres {P : Program} {t : TypeId} {p : AV} : (aload P t p).pres m n := by
  unfold aload
  split
  · simp only [AM.pres]
    intro _ _
    split
    · intro x hx
      cases x with
      | row e k xs => simp only [AM.pres]; intro _; exact partOf_has (getD_has hx _)
      | _ => simp [AM.pres]
    · rename_i cs
      simp only [AM.pres]
      intro h
      exact partOf_has (leafL_has h.2)
    · simp [AM.pres]
  · simp [AM.pres]

theorem set_has {xs : List (List AV)} {z : List AV} (h : AV.hasLL m xs = false) (hz : ∀ y ∈ z, y.has m = false) (i : Nat) : AV.hasLL m (xs.set i z) = false := by
  rw [hasLL_false]
  intro x hx
  rcases List.mem_or_eq_of_mem_set hx with hx | hx
  · exact hasLL_false.1 h x hx
  · subst hx; exact hz

theorem astore_pres {P : Program} {t : TypeId} {p x : AV} (hp : p.has m = false) (hx : x.has m = false) : (astore P t p x).pres m n := by
  unfold astore
  split
  · rename_i s vs _ hvs
    simp only [AM.pres]
    intro _
    split
    · rename_i o i j
      have ho : o ≠ m := by simpa [AV.has] using hp
      intro y hy
      cases y with
      | row e k xs =>
        simp only [AM.pres]
        intro _
        exact ⟨ho, set_has hy (splice_has (getD_has hy _) (cells_has hx hvs)) _, rfl⟩
      | _ => simp [AM.pres]
    · simp [AM.pres]
  · simp [AM.pres]

theorem aindex_pres {P : Program} {t : TypeId} {p x : AV} (hp : p.has m = false) : (aindex P t p x).pres m n := by
  unfold aindex
  split
  · rename_i o off len full _ i
    split
    · intro y hy
      cases y <;> simp_all [AM.pres, AV.has]
    · simp [AM.pres]
  · split
    · simp only [AM.pres]; intro _ _; rfl
    · simp [AM.pres]
  · simp [AM.pres]

theorem aslice_pres {P : Program} {t : TypeId} {p : AV} {lo hi mx : Option AV} (hp : p.has m = false) : (aslice P t p lo hi mx).pres m n := by
  unfold aslice
  simp only [AM.pres]
  intro _
  split
  · split
    · simp only [AM.pres]; intro _; rfl
    · simp [AM.pres]
  · split
    · simp only [AM.pres]
      intro _ _
      split
      · simp only [AM.pres]; intro _; rfl
      · rfl
    · simp [AM.pres]
  · rename_i e o off len full hk
    split
    · intro y hy
      cases y with
      | row e k xs =>
        simp only [AM.pres]
        intro _ _
        split
        · split
          · exact hp
          · exact fun _ => rfl
        · simp only [AM.pres]; intro _; exact hp
      | _ => simp [AM.pres]
    · simp [AM.pres]
  · simp [AM.pres]

theorem append_has {xs ys : List (List AV)} (h : AV.hasLL m xs = false) (h' : AV.hasLL m ys = false) : AV.hasLL m (xs ++ ys) = false := by
  rw [hasLL_false] at *
  intro x hx
  rcases List.mem_append.1 hx with hx | hx
  · exact h x hx
  · exact h' x hx
theorem take_has {xs : List (List AV)} (h : AV.hasLL m xs = false) (i j : Nat) : AV.hasLL m ((xs.drop i).take j) = false := by
  rw [hasLL_false] at *
  exact fun x hx => h x (List.mem_of_mem_drop (List.mem_of_mem_take hx))
theorem drop_has {xs : List (List AV)} (h : AV.hasLL m xs = false) (i : Nat) : AV.hasLL m (xs.drop i) = false := by
  rw [hasLL_false] at *
  exact fun x hx => h x (List.mem_of_mem_drop hx)

theorem asrc_pres {x : AV} {k : List (List AV) → AM AV} (hk : ∀ ys, AV.hasLL m ys = false → (k ys).pres m n) : (asrc x k).pres m n := by
  unfold asrc
  split
  · simp only [AM.pres]; intro h; exact hk _ (leafLL_has h)
  · intro y hy
    cases y with
    | row e k xs => simp only [AM.pres]; intro _; exact hk _ (take_has hy _ _)
    | _ => simp [AM.pres]
  · simp [AM.pres]

theorem take_has0 {xs : List (List AV)} (h : AV.hasLL m xs = false) (j : Nat) : AV.hasLL m (xs.take j) = false := by
  have := take_has h 0 j
  simpa using this
theorem aappendTo_pres {e k b : Nat} {s : AV} {ys : List (List AV)} (hs : s.has m = false) (hnm : n ≠ m) (hy : AV.hasLL m ys = false) : (aappendTo e k b s ys).pres m n := by
  unfold aappendTo
  have hsl : ∀ len, (AV.sl n 0 len false).has m = false := fun len => by simpa [AV.has] using hnm
  split
  · simp only [AM.pres]
    intro h _ _ _
    exact ⟨hnm, append_has (leafLL_has h.2) hy, hsl _⟩
  · rename_i o off len full
    have hom : o ≠ m := by simpa [AV.has] using hs
    intro x hx
    cases x with
    | row e k xs =>
      simp only [AM.pres]
      intro _ _
      split
      · simp only [AM.pres]; intro _; exact ⟨hnm, append_has (take_has hx _ _) hy, hsl _⟩
      · split
        · exact ⟨hnm, append_has (drop_has hx _) hy, hsl _⟩
        · simp only [AM.pres]; intro _
          refine ⟨hom, append_has (append_has (take_has0 hx _) hy) (drop_has hx _), ?_⟩
          simpa [AV.has] using hom
    | _ => simp [AM.pres]
  · simp [AM.pres]

theorem abuild_has {place : Nat → Option (Nat × Nat)} : ∀ {ps : List (Nat × AV)} {cs out : List AV}, (∀ y ∈ cs, y.has m = false) → (∀ p ∈ ps, p.2.has m = false) → abuild place cs ps = some out → ∀ y ∈ out, y.has m = false
  | [], cs, out, hc, hp, h => by simp only [abuild, Option.some.injEq] at h; subst h; exact hc
  | (i, x) :: ps, cs, out, hc, hp, h => by
    simp only [abuild] at h
    split at h
    · rename_i off s us h1 h2
      split at h
      · exact abuild_has (splice_has hc (cells_has (hp (i, x) (by simp)) h2)) (fun p hp' => hp p (by simp [hp'])) h
      · cases h
    · cases h
theorem abuildSlice_has {k : Nat} : ∀ {ps : List (Nat × AV)} {xs out : List (List AV)}, AV.hasLL m xs = false → (∀ p ∈ ps, p.2.has m = false) → abuildSlice k xs ps = some out → AV.hasLL m out = false
  | [], cs, out, hc, hp, h => by simp only [abuildSlice, Option.some.injEq] at h; subst h; exact hc
  | (i, x) :: ps, cs, out, hc, hp, h => by
    simp only [abuildSlice] at h
    split at h
    · rename_i us h2
      split at h
      · exact abuildSlice_has (set_has hc (cells_has (hp (i, x) (by simp)) h2) _) (fun p hp' => hp p (by simp [hp'])) h
      · cases h
    · cases h
theorem replicate_has {z : List AV} (h : ∀ y ∈ z, y.has m = false) (len : Nat) : AV.hasLL m (List.replicate len z) = false := by
  rw [hasLL_false]
  intro x hx
  rw [List.eq_of_mem_replicate hx]
  exact h
theorem tZero_has {P : Program} {t : TypeId} {z : List AV} (h : tZero P t = some z) : ∀ y ∈ z, y.has m = false := by
  unfold tZero at h
  split at h
  · exact cells_has (ofValue_has m _) h
  · cases h
theorem rho_has {e : Nat → AV} (he : ∀ t, (e t).has m = false) (x : Operand) : (rho e x).has m = false := by
  cases x with
  | tmp t => exact he t
  | const v => exact ofValue_has m v
  | global g => rfl
  | func f => simp [rho, AV.has, AV.hasL]
theorem map_has {e : Nat → AV} (he : ∀ t, (e t).has m = false) (l : List Operand) : AV.hasL m (l.map (rho e)) = false := by
  rw [hasL_false]
  intro x hx
  obtain ⟨y, _, rfl⟩ := List.mem_map.1 hx
  exact rho_has he y
theorem parts_has {e : Nat → AV} (he : ∀ t, (e t).has m = false) (ps : Array (Nat × Operand)) : ∀ p ∈ aparts e ps, p.2.has m = false := by
  intro p hp
  obtain ⟨y, _, rfl⟩ := List.mem_map.1 hp
  exact rho_has he y.2

theorem abin_pres {op : BinOp} {x y : AV} : (abin op x y).pres m n := by
  unfold abin
  split
  · simp only [AM.pres]; intro _; split <;> simp [AM.pres, AV.has]
  · split <;> simp [AM.pres, AV.has]
  · simp [AM.pres]
theorem abinT_pres {P : Program} {t : TypeId} {op : BinOp} {x y : AV} : (abinT P t op x y).pres m n := by
  have hb : ∀ op, (abits op x y).pres m n := by
    intro op
    unfold abits
    split
    · split <;> simp [AM.pres, AV.has]
    · simp [AM.pres]
  unfold abinT
  split
  case h_7 =>
    split
    · exact abin_pres
    · exact abin_pres
    · split <;> simp [AM.pres, AV.has]
  case h_8 =>
    split
    · exact abin_pres
    · exact abin_pres
    · split <;> simp [AM.pres, AV.has]
  case h_9 => exact abin_pres
  all_goals exact hb _
theorem hasP_false {m : Nat} : ∀ {l : List (Nat × AV × AV)}, AV.hasP m l = false ↔ ∀ x ∈ l, x.2.1.has m = false ∧ x.2.2.has m = false
  | [] => by simp [AV.hasP]
  | x :: xs => by simp [AV.hasP, hasP_false (l := xs)]
theorem findK_has {k : AV} : ∀ {es : List (Nat × AV × AV)} {i p : Nat} {v : AV}, AV.hasP m es = false → findK k es i = some (some (p, v)) → v.has m = false
  | [], i, p, v, h, hf => by simp [findK] at hf
  | e :: es, i, p, v, h, hf => by
    simp only [findK] at hf
    have h' := hasP_false.1 h
    split at hf
    · simp only [Option.some.injEq, Prod.mk.injEq] at hf
      rw [← hf.2]
      exact (h' e (by simp)).2
    · exact findK_has (hasP_false.2 fun x hx => h' x (by simp [hx])) hf
    · cases hf
theorem withMap_pres {x : AV} {k : List (Nat × AV × AV) → AM AV} (hk : ∀ es, AV.hasP m es = false → (k es).pres m n) : (withMap x k).pres m n := by
  unfold withMap
  split
  · exact hk _ rfl
  · intro ob hob
    cases ob <;> simp only [AM.pres]
    exact hk _ hob
  · simp [AM.pres]
theorem tZeroV_has {P : Program} {t : TypeId} {z : AV} (h : tZeroV P t = some z) : z.has m = false := by
  unfold tZeroV at h
  cases hz : (P.info? t).bind (·.zero) with
  | none => simp [hz] at h
  | some v => simp only [hz, Option.map_some, Option.some.injEq] at h; subst h; exact ofValue_has m v
theorem alookup_pres {P : Program} {t : TypeId} {x k : AV} {ok : Bool} : (alookup P t x k ok).pres m n := by
  unfold alookup
  split
  · split
    · rename_i z _ hz
      simp only [AM.pres]
      intro _
      refine withMap_pres fun es he => ?_
      split
      · rename_i hf
        have := findK_has he hf
        cases ok <;> simp [AM.pres, AV.has, AV.hasL, this]
      · have := tZeroV_has (m := m) hz
        cases ok <;> simp [AM.pres, AV.has, AV.hasL, this]
      · simp [AM.pres]
    · simp [AM.pres]
  · simp [AM.pres]
theorem setEntry_has {es : List (Nat × AV × AV)} {i : Nat} {k v : AV} (he : AV.hasP m es = false) (hk : k.has m = false) (hv : v.has m = false) : AV.hasP m (setEntry es i k v) = false := by
  rw [hasP_false] at he ⊢
  intro x hx
  obtain ⟨j, hj, rfl⟩ := List.getElem_of_mem hx
  simp only [setEntry, List.getElem_modify]
  split
  · exact ⟨hk, hv⟩
  · exact he _ (List.getElem_mem _)
theorem aupdate_pres {P : Program} {t : TypeId} {x k v : AV} (hx : x.has m = false) (hk : k.has m = false) (hv : v.has m = false) : (aupdate P t x k v).pres m n := by
  unfold aupdate
  split
  · split
    · rename_i o _
      have ho : o ≠ m := by simpa [AV.has] using hx
      simp only [AM.pres]
      intro _ ob hob
      cases ob <;> simp only [AM.pres]
      split
      · exact ⟨ho, setEntry_has hob hk hv, rfl⟩
      · refine ⟨ho, ?_, rfl⟩
        simp only [AObj.has] at hob ⊢
        rw [hasP_false] at hob ⊢
        intro y hy
        rcases List.mem_append.1 hy with hy | hy
        · exact hob y hy
        · simp at hy; subst hy; exact ⟨hk, hv⟩
      · simp [AM.pres]
    · simp [AM.pres]
  · simp [AM.pres]
theorem adelete_pres {P : Program} {t : TypeId} {x k : AV} (hx : x.has m = false) : (adelete P t x k).pres m n := by
  unfold adelete
  split
  · split
    · rename_i o _
      have ho : o ≠ m := by simpa [AV.has] using hx
      simp only [AM.pres]
      intro _ ob hob
      cases ob <;> simp only [AM.pres]
      split
      · refine ⟨ho, ?_, rfl⟩
        simp only [AObj.has] at hob ⊢
        rw [hasP_false] at hob ⊢
        exact fun y hy => hob y (List.mem_of_mem_eraseIdx hy)
      · exact ⟨ho, hob, rfl⟩
      · simp [AM.pres]
    · simp [AM.pres]
  · simp [AM.pres]
theorem aclear_pres {P : Program} {t : TypeId} {x : AV} (hx : x.has m = false) : (aclear P t x).pres m n := by
  unfold aclear
  split
  · rename_i o off len full
    have ho : o ≠ m := by simpa [AV.has] using hx
    split
    · split
      · simp only [AM.pres]
        intro ob hob
        cases ob with
        | row e k xs => exact fun _ => ⟨ho, take_has0 hob _, rfl⟩
        | _ => simp [AM.pres]
      · simp [AM.pres]
    · simp [AM.pres]
  · simp [AM.pres]
theorem arange_pres {P : Program} {t : TypeId} {x : AV} (hx : x.has m = false) (hnm : n ≠ m) : (arange P t x).pres m n := by
  unfold arange
  split
  · split
    · rename_i o
      have ho : o ≠ m := by simpa [AV.has] using hx
      intro ob hob
      cases ob <;> simp [AM.pres, AObj.has, AV.has, hnm, ho]
    · simp [AM.pres, AObj.has, AV.has, hnm]
    · simp [AM.pres]
  · simp [AM.pres]

theorem aop_pres (P : Program) {e : Nat → AV} (he : ∀ t, (e t).has m = false) (op : Op) (hnm : n ≠ m) : (aop P e op).pres m n := by
  have hr := rho_has he
  have hsl : ∀ len full, (AV.sl n 0 len full).has m = false := fun len full => by simpa [AV.has] using hnm
  have hpt : (AV.ptr n 0 0).has m = false := by simpa [AV.has] using hnm
  unfold aop
  split
  case h_1 x => exact hr x
  case h_2 x => exact hr x
  case h_3 c a b =>
    split
    · rename_i t _
      simp only [AM.pres]
      cases t <;> simp [hr]
    · simp [AM.pres]
  case h_4 t =>
    split
    · rename_i z s hz _
      simp only [AM.pres]
      intro _
      exact ⟨hnm, by rw [AObj.has, hasLL_false]; intro x hx; rw [List.mem_singleton] at hx; subst hx; exact tZero_has hz, hpt⟩
    · simp [AM.pres]
  case h_5 t x =>
    split
    · rename_i z hz
      exact ⟨hnm, by rw [AObj.has, hasLL_false]; intro y hy; rw [List.mem_singleton] at hy; subst hy; exact cells_has (hr x) hz, hpt⟩
    · simp [AM.pres]
  case h_6 => exact aload_pres
  case h_7 => exact astore_pres (hr _) (hr _)
  case h_8 x =>
    have := hr x
    split
    · rename_i hx; rw [hx] at this; exact this
    · rename_i hx; rw [hx] at this; exact this
    · simp [AM.pres]
  case h_9 op t x y t' => exact abinT_pres
  case h_10 => split <;> simp [AM.pres, AV.has]
  case h_11 => split <;> simp [AM.pres, AV.has]
  case h_12 fn first captured => simp [AM.pres, AV.has, map_has he]
  case h_13 s x f =>
    have := hr x
    split
    · simp only [AM.pres]
      intro _
      split
      · rename_i hx; rw [hx] at this; exact this
      · simp [AM.pres, AV.has]
      · simp [AM.pres]
    · simp [AM.pres]
  case h_14 s x f =>
    have := hr x
    split
    · rename_i hx
      split
      · simp only [AM.pres]
        intro _
        rw [hx] at this
        simp only [AV.has] at this
        exact partOf_has (hasL_false.1 this)
      · simp [AM.pres]
    · simp [AM.pres]
  case h_15 t x ix =>
    have := hr x
    split
    · exact aindex_pres this
    · split
      · split
        · simp only [AM.pres]
          intro _
          split
          · rename_i hx; rw [hx] at this; exact this
          · simp [AM.pres, AV.has]
          · simp [AM.pres]
        · simp [AM.pres]
      · simp [AM.pres]
  case h_16 x i =>
    have := hr x
    split
    · rename_i hx
      rw [hx] at this
      simp only [AV.has] at this
      simp only [AM.pres]
      intro _
      exact getD1_has (hasL_false.1 this) _
    · simp [AM.pres]
  case h_17 => exact aslice_pres (hr _)
  case h_18 t ps =>
    split
    · rename_i z hz
      split
      · simp only [AM.pres]
        intro _
        split
        · rename_i cs hcs
          simp only [AM.pres, AV.has]
          exact hasL_false.2 (abuild_has (tZero_has hz) (parts_has he ps) hcs)
        · simp [AM.pres]
      · split
        · split
          · rename_i cs hcs
            simp only [AM.pres, AV.has]
            exact hasL_false.2 (abuild_has (tZero_has hz) (parts_has he ps) hcs)
          · simp [AM.pres]
        · simp [AM.pres]
      · simp [AM.pres]
    · simp [AM.pres]
  case h_19 t len ps =>
    split
    · split
      · rename_i k z _ hz
        simp only [AM.pres]
        intro _
        split
        · rename_i xs hxs
          exact ⟨hnm, abuildSlice_has (replicate_has (tZero_has hz) _) (parts_has he ps) hxs, hsl _ _⟩
        · simp [AM.pres]
      · simp [AM.pres]
    · simp [AM.pres]
  case h_20 t l c =>
    split
    · split
      · rename_i k by_ z _ _ hz
        simp only [AM.pres]
        intro _
        exact ⟨hnm, replicate_has (tZero_has hz) _, hsl _ _⟩
      · simp [AM.pres]
    · simp [AM.pres]
  case h_21 t x ix =>
    have := hr x
    split
    · simp [AM.pres, AV.has]
    · rename_i hx _
      split
      · simp only [AM.pres]
        intro _
        rw [hx] at this
        simp only [AV.has] at this
        exact partOf_has (hasL_false.1 this)
      · simp [AM.pres]
    · simp [AM.pres]
  case h_22 t r => repeat' split
                   all_goals simp [AM.pres, AV.has, AObj.has, AV.hasP, hnm]
  case h_23 t x k ok => exact alookup_pres
  case h_24 t x k v => exact aupdate_pres (hr x) (hr k) (hr v)
  case h_25 t x k v => exact aupdate_pres (hr x) (hr k) (hr v)
  case h_26 t x => exact arange_pres (hr x) hnm
  case h_27 b args ts =>
    have hargs : ∀ y ∈ args.toList.map (rho e), y.has m = false := fun y hy => by
      obtain ⟨z, _, rfl⟩ := List.mem_map.1 hy
      exact hr z
    generalize args.toList.map (rho e) = l at hargs
    unfold abuiltin
    split <;> first
      | (simp [AM.pres, AV.has]; done)
      | (simp only [AM.pres]
         intro _ ob hob
         cases ob <;> simp [AM.pres, AV.has]; done)
      | (simp only [AM.pres]
         intro _
         exact adelete_pres (hargs _ (by simp)))
      | (unfold aclearB
         split
         · split
           · exact fun _ => aclear_pres (hargs _ (by simp))
           · trivial
         · trivial)
      | (simp only [AM.pres]
         intro _
         unfold aappend
         split
         · split
           · simp only [AM.pres]
             intro _
             exact asrc_pres fun ys hy => by simp only [AM.pres]; intro _; exact aappendTo_pres (hargs _ (by simp)) hnm hy
           · simp [AM.pres]
         · simp [AM.pres])
  case h_28 => simp [AM.pres]
end
end Go.Aw
end
section
set_option linter.unusedVariables false
set_option linter.unusedSimpArgs false
namespace Go.Aw

def AV.scalSl0 : AV → Bool
  | .sl _ _ _ _ => true
  | a => a.scal0
def AV.scalSlL : List AV → Bool
  | [] => true
  | x :: xs => x.scalSl0 && AV.scalSlL xs
def AV.scalSl : AV → Bool
  | .tup cs => AV.scalSlL cs
  | a => a.scalSl0
theorem AV.scalSlL_get : ∀ {xs : List AV} (h : AV.scalSlL xs = true) (i : Nat) (hi : i < xs.length), xs[i].scalSl0 = true
  | x :: xs, h, 0, _ => by simp only [AV.scalSlL, Bool.and_eq_true] at h; exact h.1
  | x :: xs, h, i + 1, hi => by
    simp only [AV.scalSlL, Bool.and_eq_true] at h
    exact AV.scalSlL_get (xs := xs) h.2 i (by simpa using hi)
def AV.scalLL : List (List AV) → Bool
  | [] => true
  | x :: xs => AV.scalL x && AV.scalLL xs
theorem AV.scalLL_get : ∀ {xs : List (List AV)} (h : AV.scalLL xs = true) (i : Nat) (hi : i < xs.length), AV.scalL xs[i] = true
  | x :: xs, h, 0, _ => by simp only [AV.scalLL, Bool.and_eq_true] at h; exact h.1
  | x :: xs, h, i + 1, hi => by
    simp only [AV.scalLL, Bool.and_eq_true] at h
    exact AV.scalLL_get (xs := xs) h.2 i (by simpa using hi)
theorem scalLL_map {α : Type} (f : α → List AV) (h : ∀ x, AV.scalL (f x) = true) : ∀ l : List α, AV.scalLL (l.map f) = true
  | [] => rfl
  | x :: xs => by simp [AV.scalLL, h x, scalLL_map f h xs]

theorem scalSl0_VR {w w' : World} {O O' : Nat → Prop} {β β' : Nat → Option Loc} {x : AV} {v : Value} (hx : x.scalSl0 = true) (h : VR w O β x v) (hβ : ∀ o, x.has o = true → β' o = β o) : VR w' O' β' x v := by
  cases h with
  | sl o off len full l cap A h h1 h2 h3 h4 h5 => exact .sl o off len full l cap A (by rw [hβ o (by simp [AV.has])]; exact h) h1 h2 h3 h4 h5
  | nilrow o full A h => exact .nilrow o full A (by rw [hβ o (by simp [AV.has])]; exact h)
  | imm h => cases h <;> first | exact .imm (.int _ _) | exact .imm (.bool _) | exact .imm (.str _) | exact .imm .nilp | exact .imm .nilfunc | exact .imm .nilmap | simp [AV.scalSl0, AV.scal0] at hx
  | _ => simp [AV.scalSl0, AV.scal0] at hx
theorem scalSl_VR {w w' : World} {O O' : Nat → Prop} {β β' : Nat → Option Loc} {x : AV} {v : Value} (hx : x.scalSl = true) (h : VR w O β x v) (hβ : ∀ o, x.has o = true → β' o = β o) : VR w' O' β' x v := by
  cases x with
  | tup cs =>
    obtain ⟨vs, rfl, hl, hh⟩ := h.tup_inv
    exact .tup _ _ hl fun m h1 h2 => scalSl0_VR (AV.scalSlL_get hx m h1) (hh m h1 h2) fun o ho => hβ o (by simp only [AV.has]; exact AV.hasL_get m h1 ho)
  | _ => exact scalSl0_VR hx h hβ

def AObj.scalRow : AObj → Bool
  | .row _ _ xs => AV.scalLL xs
  | _ => false

theorem CallOk.view {C : Cx} {st : St} {g : FuncId} {args args' : List AV} {K : AV → Hp → Prop} (D : List Nat) {Q : AV → Hp → Prop} (hv : viewL D st.heap args args') (hspec : ACalls C.P g args' (fun _ => none) [] Q)
    (hK : ∀ x h', Q x h' → (∀ o, h' o ≠ none → Fresh C st o) ∧ (∀ o, x.has o = true → h' o ≠ none) ∧ (∀ o y, h' o = some y → y.scalRow = true) ∧ x.scalSl = true ∧ K x (merge [] st.heap h')) : CallOk C st g args K := by
  intro F β a w vs h hp
  obtain ⟨k1, k2⟩ := viewL_VR (D := D) h.heap (vs := vs.toList) hv (by simpa using hp.1) (fun m h1 h2 => by simpa using hp.2 m h1 (by simpa using h2))
  have hno : ∀ b, ¬ Own β (fun _ => none) b := fun b ⟨o, l, h1, _⟩ => h1 rfl
  have hAlt : ∀ b, others D F.A β st.heap b → b < w.heap.size := by
    rintro b (h1 | ⟨o, l, _, h1, h2, rfl⟩)
    · exact Nat.lt_of_lt_of_le (h.far b h1) h.since.same.size
    · exact h.heap.lt _ ⟨o, l, h1, h2, rfl⟩
  refine (hspec _ β w vs hAlt ⟨by have := hp.1; omega, fun m h1 h2 => (k2 m h1 (by simpa using h2) |> fun q => by simpa using q : VR w (others D F.A β st.heap) β args'[m] vs[m]).mono (Same.refl _ w) (fun b _ hb => hb.elim id fun hb => (hno b hb).elim) fun _ _ => rfl⟩
    ⟨fun o x hx => (by cases hx), fun o o' l l' g1 => absurd rfl g1, fun b hb => (hno b hb).elim, fun b hb => (hno b hb).elim⟩).mono ?_
  rintro e w' ⟨v, x, h', β', rfl, hQ, _, hvx, hH, hsince, hold⟩
  obtain ⟨q1, q2, q3, q4, q5⟩ := hK x h' hQ
  have hall : ∀ b, b < w.heap.size → w'.heap[b]? = w.heap[b]? := fun b hb => hsince.same.block b hb (hno b)
  have hs : Same (Own β st.heap) w w' := hsince.same.wider fun b hb => (hno b hb).elim
  have hge : ∀ o l, h' o ≠ none → β' o = some l → w.heap.size ≤ l.blk := by
    intro o l r1 r2
    rcases Nat.lt_or_ge l.blk w.heap.size with r3 | r3
    · exact (hno _ (hold _ r3 ⟨o, l, r1, r2, rfl⟩)).elim
    · exact r3
  let B : Nat → Option Loc := fun o => if h' o ≠ none then β' o else β o
  have hB : ∀ o, h' o ≠ none → B o = β' o := fun o ho => by simp only [B, if_pos ho]
  have hBo : ∀ o, h' o = none → B o = β o := fun o ho => by simp only [B, ho, ne_eq, not_true, if_false]
  have hnew : ∀ b, Own B (merge [] st.heap h') b → Own β' h' b ∨ Own β st.heap b := by
    rintro b ⟨o, l, g1, g2, g3⟩
    by_cases hh : h' o = none
    · rw [merge_none hh] at g1
      rw [hBo o hh] at g2
      exact .inr ⟨o, l, by simpa using g1, g2, g3⟩
    · rw [hB o hh] at g2
      exact .inl ⟨o, l, hh, g2, g3⟩
  have hO : ∀ b, b < w.heap.size → Own B (merge [] st.heap h') b → Own β st.heap b := by
    intro b hb h1
    rcases hnew b h1 with ⟨o, l, r1, r2, r3⟩ | h1
    · have := hge o l r1 r2; omega
    · exact h1
  have case1 : ∀ o l, merge [] st.heap h' o ≠ none → B o = some l → (h' o ≠ none ∧ β' o = some l) ∨ (h' o = none ∧ st.heap o ≠ none ∧ β o = some l) := by
    intro o l r1 r2
    by_cases hh : h' o = none
    · rw [merge_none hh] at r1
      exact .inr ⟨hh, by simpa using r1, by rwa [hBo o hh] at r2⟩
    · exact .inl ⟨hh, by rwa [hB o hh] at r2⟩
  refine ⟨v, x, merge [] st.heap h', B, rfl, h.update (h4 := hsince.drawn) hs hsince.os hsince.tape hsince.output hO (fun t o ho => ?_) (fun o ho => ?_) ⟨fun o y hy => ?_, fun o o' l l' g1 g2 g3 g4 g5 => ?_, fun b hb => ?_, fun b hb hA => ?_⟩, scalSl_VR q4 hvx (fun o ho => hB o (q2 o ho)), q5⟩
  · by_cases hc : h' o = none
    · exact hBo o hc
    · have := (q1 o hc).2.2.1 t
      rw [this] at ho
      cases ho
  · by_cases hc : h' o = none
    · exact hBo o hc
    · exact absurd ho (q1 o hc).1
  · by_cases hh : h' o = none
    · rw [merge_none hh] at hy
      simp at hy
      rw [hBo o hh]
      refine (h.heap.obj o y hy).mono (hs.wider fun b => .inr) (fun b hb h1 => h1.imp id (hO b hb)) (fun p hp => ?_) (fun l hl => hall _ (h.heap.lt _ ⟨o, l, by simp [hy], hl, rfl⟩))
      by_cases hc : h' p = none
      · exact hBo p hc
      · have := (q1 p hc).2.2.2 o y hy
        rw [this] at hp
        cases hp
    · rw [merge_some hh] at hy
      rw [hB o hh]
      have hR := hH.obj o y hy
      have hsc := q3 o y hy
      cases y with
      | row e k xs =>
        simp only [AObj.scalRow] at hsc
        cases hl : β' o with
        | none => rw [hl] at hR; exact hR
        | some l =>
          rw [hl] at hR
          obtain ⟨r1, r2, r3, r4, cur, r5, r6, r7, r8⟩ := hR
          refine ⟨r1, r2, r3, r4, cur, r5, r6, r7, fun i j g1 g2 => ?_⟩
          obtain ⟨u, s1, s2⟩ := r8 i j g1 g2
          exact ⟨u, s1, scal0_VR (AV.scalL_get (AV.scalLL_get hsc i g1) j g2) s2⟩
      | _ => simp [AObj.scalRow] at hsc
  · rcases case1 o l g1 g3 with ⟨r1, r2⟩ | ⟨r1, r2, r3⟩ <;> rcases case1 o' l' g2 g4 with ⟨s1, s2⟩ | ⟨s1, s2, s3⟩
    · exact hH.inj o o' l l' r1 s1 r2 s2 g5
    · have := hge o l r1 r2
      have := h.heap.lt _ ⟨o', l', s2, s3, rfl⟩
      omega
    · have := hge o' l' s1 s2
      have := h.heap.lt _ ⟨o, l, r2, r3, rfl⟩
      omega
    · exact h.heap.inj o o' l l' r2 s2 r3 s3 g5
  · rcases hnew b hb with ⟨o, l, h1, h2, rfl⟩ | h1
    · exact hH.lt _ ⟨o, l, h1, h2, rfl⟩
    · exact Nat.lt_of_lt_of_le (h.heap.lt b h1) hs.size
  · rcases hnew b hb with ⟨o, l, h1, h2, rfl⟩ | h1
    · have := hge o l h1 h2
      have := h.far _ hA
      have := h.since.same.size
      omega
    · exact h.heap.apart b h1 hA
end Go.Aw
end
section
set_option linter.unusedVariables false
set_option linter.unusedSimpArgs false
namespace Go.Aw

/-- An operation of a region: its place, the name of what it makes. -/
structure DI where
  i : Nat
  id : Nat
  o : AOp

/-- What a call in such a region comes to: the arguments as they are looked at, the result, a new row. -/
structure CallRes where
  args : List AV
  x : AV
  row : Option AObj
  put : Option (Nat × AObj)

def RetCall (P : Program) (g : FuncId) (n : Nat) (r : CallRes) : Prop :=
  ACalls P g r.args (fun _ => none) [] fun y h' => y = r.x ∧ h' = match r.row with
    | none => fun _ => none
    | some ob => updH (fun _ => none) n (some ob)

def readAll {α : Type} : List Nat → Hp → (Hp → AM α) → AM α
  | [], acc, k => k acc
  | o :: os, acc, k => .get o fun x => readAll os (updH acc o (some x)) k

def AObj.leafRow : AObj → Bool
  | .row _ _ xs => AV.leafLL xs
  | _ => false

def callProg (P : Program) (g : FuncId) (args : List AV) (n : Nat) (r : CallRes) : AM AV :=
  readAll (AV.refsL args) (fun _ => none) fun hv => .guard (Enters P g ∧ viewL (AV.refsL args) hv args r.args ∧ RetCall P g n r) <|
    .guard ((∀ p, p ∈ r.x.refs → p = n ∧ r.row.isSome = true) ∧ (AV.refsL args = [] ∨ (r.x.scalSl = true ∧ ∀ ob, r.row = some ob → ob.scalRow = true)) ∧ (∀ ob, r.row = some ob → ob.leafRow = true)) <|
    match r.row with
    | none => .pure r.x
    | some ob => .new ob fun _ => .pure r.x

/-- A call that writes one object of the caller's, and is handed no other. -/
def callPut (P : Program) (g : FuncId) (args : List AV) (o : Nat) (ob : AObj) (x : AV) : AM AV :=
  if o ∈ AV.refsL args then .get o fun y => .guard (Enters P g ∧ (∀ p ∈ AV.refsL args, p = o) ∧ ACalls P g args (updH (fun _ => none) o (some y)) [o] (fun z h' => z = x ∧ h' = updH (fun _ => none) o (some ob))) <|
    .guard ((∀ p ∈ x.refs, p = o) ∧ ob.leafRow = true) <| .put o ob (.pure x)
  else .fail
def delAll : List Nat → AM AV → AM AV
  | [], k => k
  | o :: os, k => .del o (delAll os k)
/-- A call that is handed the objects for good. -/
def callFrz (P : Program) (g : FuncId) (args : List AV) (r : CallRes) : AM AV :=
  readAll (AV.refsL args) (fun _ => none) fun hv => .guard ((Enters P g ∧ viewL (AV.refsL args) hv args r.args) ∧ ACalls P g r.args (fun _ => none) [] (fun y h' => y = r.x ∧ h' = fun _ => none) ∧ AV.refsL r.args = [] ∧ r.x.refs = []) <| delAll (AV.refsL args) (.pure r.x)
def callAny (P : Program) (g : FuncId) (args : List AV) (n : Nat) (r : CallRes) : AM AV :=
  match r.put with
  | none => callProg P g args n r
  | some (o, ob) => match r.row with
    | none => callPut P g args o ob r.x
    | some _ => callFrz P g args r

def bodyD (P : Program) (tbl : Nat → Option CallRes) (it : DI) (e : Nat → AV) : AM AV :=
  match it.o.op with
  | .call { callee := .value f, args, argTypes } => match callee e f, tbl it.i with
    | some (g, first, captured), some r => callAny P g (first ++ args.toList.map (rho e) ++ captured) it.id r
    | _, _ => .fail
  | op => aop P e op

def progD (P : Program) (tbl : Nat → Option CallRes) (it : DI) (e : Nat → AV) : AM AV :=
  match it.o.guard with
  | none => bodyD P tbl it e
  | some (s, b) => match e s with
    | .bool t => if t = b then bodyD P tbl it e else .pure (.tup [])
    | .tup [] => .pure (.tup [])
    | _ => .fail

abbrev Foot := List Nat × List Nat
def footD (it : DI) (e : Nat → AV) : Foot := (opRefs e it.o.op, wrOf e it.o.op it.id)

def runD (C : Cx) (tbl : Nat → Option CallRes) : List DI → St → List Foot → (St → List Foot → Prop) → Prop
  | [], st, fs, K => K st fs
  | it :: l, st, fs, K => (progD C.P tbl it st.env).wp it.id True st.heap fun x h' => runD C tbl l (St.put ⟨st.env, h'⟩ it.o.dst x) (fs ++ [footD it st.env]) K

def RunT (C : Cx) (tbl : Nat → Option CallRes) : List (DI × Foot) → St → St → Prop
  | [], st, st' => st = st'
  | (it, f) :: l, st, st' => ∃ x h', (progD C.P tbl it st.env).out it.id st.heap x h' ∧ f = footD it st.env ∧ RunT C tbl l (St.put ⟨st.env, h'⟩ it.o.dst x) st'

section
variable {C : Cx} {tbl : Nat → Option CallRes}

theorem runD_runT : ∀ (l : List DI) (st : St) (fs : List Foot) (K : St → List Foot → Prop), runD C tbl l st fs K → ∃ gs stn, gs.length = l.length ∧ RunT C tbl (l.zip gs) st stn ∧ K stn (fs ++ gs)
  | [], st, fs, K, h => ⟨[], st, rfl, rfl, by simpa [runD] using h⟩
  | it :: l, st, fs, K, h => by
    obtain ⟨x, h', h1, h2⟩ := AM.wp_out h
    obtain ⟨gs, stn, e1, e2, e3⟩ := runD_runT l _ _ K h2
    exact ⟨footD it st.env :: gs, stn, by simp [e1], ⟨x, h', h1, rfl, e2⟩, by simpa using e3⟩

/-! ### Locality -/
theorem readAll_within {A W : List Nat} {n : Nat} {k : Hp → AM AV} (hk : ∀ h, (k h).within A W n) : ∀ (os : List Nat) (acc : Hp), (∀ o ∈ os, o ∈ A) → (readAll os acc k).within A W n
  | [], acc, h => hk acc
  | o :: os, acc, h => ⟨h o (by simp), fun x => readAll_within hk os _ fun p hp => h p (by simp [hp])⟩

theorem delAll_within {A W : List Nat} {n : Nat} {k : AM AV} (hk : k.within A W n) : ∀ os : List Nat, (∀ o ∈ os, o ∈ A ∧ o ∈ W) → (delAll os k).within A W n
  | [], _ => hk
  | o :: os, h => ⟨(h o (by simp)).1, (h o (by simp)).2, delAll_within hk os fun p hp => h p (by simp [hp])⟩

theorem refsL_append : ∀ {xs ys : List AV}, AV.refsL (xs ++ ys) = AV.refsL xs ++ AV.refsL ys
  | [], ys => rfl
  | x :: xs, ys => by simp [AV.refsL, refsL_append (xs := xs)]
theorem mem_refsL {o : Nat} : ∀ {xs : List AV}, o ∈ AV.refsL xs ↔ ∃ x ∈ xs, o ∈ x.refs
  | [] => by simp [AV.refsL]
  | x :: xs => by simp [AV.refsL, mem_refsL (xs := xs)]
mutual
theorem has_refs {o : Nat} : ∀ (a : AV), a.has o = true ↔ o ∈ a.refs
  | .ptr p _ _ => by simp only [AV.has, AV.refs, beq_iff_eq, List.mem_singleton]; exact eq_comm
  | .sl p _ _ _ => by simp only [AV.has, AV.refs, beq_iff_eq, List.mem_singleton]; exact eq_comm
  | .map p => by simp only [AV.has, AV.refs, beq_iff_eq, List.mem_singleton]; exact eq_comm
  | .miter p => by simp only [AV.has, AV.refs, beq_iff_eq, List.mem_singleton]; exact eq_comm
  | .agg cs => by simp only [AV.has, AV.refs]; exact hasL_refs cs
  | .tup cs => by simp only [AV.has, AV.refs]; exact hasL_refs cs
  | .func _ xs ys => by simp only [AV.has, AV.refs, Bool.or_eq_true, List.mem_append, hasL_refs xs, hasL_refs ys]
  | .undef => by simp [AV.has, AV.refs]
  | .int _ _ => by simp [AV.has, AV.refs]
  | .bool _ => by simp [AV.has, AV.refs]
  | .str _ => by simp [AV.has, AV.refs]
  | .nilp => by simp [AV.has, AV.refs]
  | .iptr _ => by simp [AV.has, AV.refs]
  | .isl _ _ => by simp [AV.has, AV.refs]
  | .nilfunc => by simp [AV.has, AV.refs]
  | .nilmap => by simp [AV.has, AV.refs]
theorem hasL_refs {o : Nat} : ∀ (l : List AV), AV.hasL o l = true ↔ o ∈ AV.refsL l
  | [] => by simp [AV.hasL, AV.refsL]
  | x :: xs => by simp only [AV.hasL, AV.refsL, Bool.or_eq_true, List.mem_append, has_refs x, hasL_refs xs]
end

theorem callee_rho {e : Nat → AV} {f : Operand} {g : FuncId} {first captured : List AV} (h : callee e f = some (g, first, captured)) : rho e f = .func (.func g) first captured := by
  unfold callee at h
  split at h
  · simp only [Option.some.injEq, Prod.mk.injEq] at h
    obtain ⟨rfl, rfl, rfl⟩ := h
    assumption
  · cases h

theorem args_refs {e : Nat → AV} {f : Operand} {args : Array Operand} {ts : Array TypeId} {g : FuncId} {first captured : List AV} (h : callee e f = some (g, first, captured)) :
    ∀ o, o ∈ AV.refsL (first ++ args.toList.map (rho e) ++ captured) → o ∈ opRefs e (.call { callee := .value f, args := args, argTypes := ts }) := by
  intro o ho
  have hr := callee_rho h
  simp only [refsL_append, List.mem_append] at ho
  have hf : f ∈ (Op.call { callee := .value f, args := args, argTypes := ts }).operands.toList := by simp [Op.operands, Call.operands]
  rcases ho with (ho | ho) | ho
  · exact mem_opRefs hf (by rw [hr]; simp [AV.refs, ho])
  · obtain ⟨x, hx, hxo⟩ := mem_refsL.1 ho
    obtain ⟨y, hy, rfl⟩ := List.mem_map.1 hx
    exact mem_opRefs (by simp [Op.operands, Call.operands]; exact .inr (by simpa using hy)) hxo
  · exact mem_opRefs hf (by rw [hr]; simp [AV.refs, ho])

theorem progD_within (P : Program) (it : DI) (e : Nat → AV) : (progD P tbl it e).within (footD it e).1 (footD it e).2 it.id := by
  have hb : (bodyD P tbl it e).within (footD it e).1 (footD it e).2 it.id := by
    unfold bodyD
    split
    · rename_i f args ts hop
      split
      · rename_i g first captured r hc _
        unfold callAny
        split
        · refine readAll_within (fun hv => ?_) _ _ (fun o ho => by simp only [footD, hop]; exact args_refs hc o ho)
          simp only [AM.within]
          split
          · trivial
          · exact ⟨by simp [footD, wrOf], trivial⟩
        · rename_i o ob _
          have h1 : ∀ o ∈ AV.refsL (first ++ args.toList.map (rho e) ++ captured), o ∈ (footD it e).1 := fun o hin => by simp only [footD, hop]; exact args_refs hc o hin
          have h2 : ∀ o ∈ AV.refsL (first ++ args.toList.map (rho e) ++ captured), o ∈ (footD it e).2 := fun o hin => by simp only [footD, hop, wrOf, wrRefs, isW, if_true]; exact List.mem_cons_of_mem _ (args_refs hc o hin)
          split
          · unfold callPut
            split
            · rename_i hin
              exact ⟨h1 o hin, fun y => ⟨h1 o hin, h2 o hin, trivial⟩⟩
            · trivial
          · unfold callFrz
            refine readAll_within (fun hv => ?_) _ _ h1
            exact delAll_within (k := .pure r.x) trivial _ fun o ho => ⟨h1 o ho, h2 o ho⟩
      · trivial
    · exact aop_within P e it.o.op it.id
  unfold progD
  split
  · exact hb
  · split
    · split
      · exact hb
      · trivial
    · trivial
    · trivial

/-- It hangs on the slots that it reads alone. -/
def AgreeOn (l : List Nat) (e e' : Nat → AV) : Prop := ∀ t ∈ l, e t = e' t
theorem rho_agree {e e' : Nat → AV} {o : AOp} (h : AgreeOn o.reads e e') {x : Operand} (hx : x ∈ o.op.operands.toList) : rho e x = rho e' x := by
  cases x with
  | tmp t => exact h t (by simp only [AOp.reads, List.mem_append]; exact .inl (List.mem_filterMap.2 ⟨.tmp t, hx, rfl⟩))
  | const v => rfl
  | global g => rfl
  | func f => rfl

theorem aop_agree (P : Program) {e e' : Nat → AV} (op : Op) (h : ∀ x ∈ op.operands.toList, rho e x = rho e' x) : aop P e op = aop P e' op := by
  have hm : ∀ l : List Operand, (∀ x ∈ l, x ∈ op.operands.toList) → l.map (rho e) = l.map (rho e') := fun l hl => List.map_congr_left fun x hx => h x (hl x hx)
  cases op with
  | call c =>
    cases c with
    | mk cl args ts =>
      cases cl with
      | builtin b =>
        have : args.toList.map (rho e) = args.toList.map (rho e') := hm _ fun x hx => by simpa [Op.operands, Call.operands] using hx
        simp only [aop, this]
      | _ => rfl
  | makeFunc fn first captured =>
    have h1 : first.toList.map (rho e) = first.toList.map (rho e') := hm _ fun x hx => by simp [Op.operands]; exact .inl (by simpa using hx)
    have h2 : captured.toList.map (rho e) = captured.toList.map (rho e') := hm _ fun x hx => by simp [Op.operands]; exact .inr (by simpa using hx)
    simp only [aop, h1, h2]
  | build t ps =>
    have : aparts e ps = aparts e' ps := List.map_congr_left fun p hp => by rw [h p.2 (by simp only [Op.operands]; exact List.mem_map.2 ⟨p, hp, rfl⟩)]
    simp only [aop, this]
  | buildSlice t len ps =>
    have : aparts e ps = aparts e' ps := List.map_congr_left fun p hp => by rw [h p.2 (by simp only [Op.operands]; exact List.mem_map.2 ⟨p, hp, rfl⟩)]
    simp only [aop, this]
  | slice t x lo hi mx =>
    have h1 := h x (by simp [Op.operands])
    have h2 : lo.map (rho e) = lo.map (rho e') := by cases lo with | none => rfl | some q => simp [h q (by simp [Op.operands])]
    have h3 : hi.map (rho e) = hi.map (rho e') := by cases hi with | none => rfl | some q => simp [h q (by simp [Op.operands])]
    have h4 : mx.map (rho e) = mx.map (rho e') := by cases mx with | none => rfl | some q => simp [h q (by simp [Op.operands])]
    simp only [aop, h1, h2, h3, h4]
  | makeMap t r => cases r with
    | none => rfl
    | some x => simp only [aop, h x (by simp [Op.operands])]
  | _ => simp_all [aop, Op.operands]

theorem opRefs_agree {e e' : Nat → AV} {op : Op} (h : ∀ x ∈ op.operands.toList, rho e x = rho e' x) : opRefs e op = opRefs e' op := by
  unfold opRefs
  rw [List.flatMap_def, List.flatMap_def]
  congr 1
  exact List.map_congr_left fun x hx => by rw [h x hx]

theorem progD_agree (P : Program) (it : DI) {e e' : Nat → AV} (h : AgreeOn it.o.reads e e') : progD P tbl it e = progD P tbl it e' ∧ footD it e = footD it e' := by
  have hr : ∀ x ∈ it.o.op.operands.toList, rho e x = rho e' x := fun x hx => rho_agree h hx
  have hb : bodyD P tbl it e = bodyD P tbl it e' := by
    unfold bodyD
    split
    · rename_i f args ts hop
      have hf : rho e f = rho e' f := hr f (by simp [hop, Op.operands, Call.operands])
      have ha : args.toList.map (rho e) = args.toList.map (rho e') := List.map_congr_left fun x hx => hr x (by simp [hop, Op.operands, Call.operands]; exact .inr (by simpa using hx))
      have hc : callee e f = callee e' f := by unfold callee; rw [hf]
      rw [hc, ha]
    · exact aop_agree P it.o.op hr
  refine ⟨?_, ?_⟩
  · unfold progD
    split
    · exact hb
    · rename_i s b hg
      have : e s = e' s := h s (by simp [AOp.reads, hg])
      rw [this, hb]
  · have hw : wrRefs e it.o.op = wrRefs e' it.o.op := by
      unfold wrRefs
      split
      · rename_i args ts hop
        cases ha : args.toList with
        | nil => rfl
        | cons y ys =>
          simp only [headRefs]
          rw [hr y (by simp [hop, Op.operands, Call.operands]; have : y ∈ args.toList := by rw [ha]; simp
                       simpa using this)]
      · rw [opRefs_agree hr]
    unfold footD wrOf
    rw [opRefs_agree hr, hw]

/-! ### Changing places -/
def IndepF (f g : Foot) : Prop := (∀ o, o ∈ f.2 → o ∉ g.1 ∧ o ∉ g.2) ∧ (∀ o, o ∈ g.2 → o ∉ f.1 ∧ o ∉ f.2)

theorem slots_spec {a b : AOp} (h : slotsApart a b = true) : (∀ d, a.dst = some d → d ∉ b.reads) ∧ (∀ d, a.dst = some d → b.dst ≠ some d) ∧ (∀ d, b.dst = some d → d ∉ a.reads) := by
  unfold slotsApart at h
  simp only [Bool.and_eq_true] at h
  obtain ⟨h1, h2⟩ := h
  refine ⟨fun d hd => ?_, fun d hd => ?_, fun d hd => ?_⟩
  · rw [hd] at h1; simp at h1; exact h1.1
  · rw [hd] at h1; simp at h1; exact h1.2
  · rw [hd] at h2; simp at h2; exact h2

theorem put_agree {l : List Nat} {st : St} {h : Hp} {dst : Option Nat} {x : AV} (hd : ∀ d, dst = some d → d ∉ l) : AgreeOn l (St.put ⟨st.env, h⟩ dst x).env st.env := by
  intro t ht
  cases dst with
  | none => rfl
  | some d =>
    show updE st.env d x t = _
    unfold updE
    rw [if_neg]
    intro e
    exact hd d rfl (e ▸ ht)

theorem RunT.swap {a i : DI} {fa fi : Foot} {l : List (DI × Foot)} {st st' : St} (hs : slotsApart a.o i.o = true) (hf : IndepF fa fi) (h : RunT C tbl ((a, fa) :: (i, fi) :: l) st st') : RunT C tbl ((i, fi) :: (a, fa) :: l) st st' := by
  obtain ⟨s1, s2, s3⟩ := slots_spec hs
  obtain ⟨x, h1, o1, e1, y, h2, o2, e2, hr⟩ := h
  have ag := progD_agree (tbl := tbl) C.P i (put_agree (st := st) (h := h1) (dst := a.o.dst) (x := x) (l := i.o.reads) s1)
  have henv : (St.put ⟨st.env, h1⟩ a.o.dst x).heap = h1 := by cases a.o.dst <;> rfl
  rw [ag.1, henv] at o2
  rw [ag.2] at e2
  subst e1 e2
  obtain ⟨k1, p1, p2⟩ := AM.swap (progD_within C.P a st.env) (progD_within C.P i st.env) hf.1 hf.2 o1 o2
  have ag2 := progD_agree (tbl := tbl) C.P a (put_agree (st := st) (h := k1) (dst := i.o.dst) (x := y) (l := a.o.reads) s3)
  have henv2 : (St.put ⟨st.env, k1⟩ i.o.dst y).heap = k1 := by cases i.o.dst <;> rfl
  refine ⟨y, k1, p1, rfl, x, h2, by rw [ag2.1, henv2]; exact p2, ag2.2.symm, ?_⟩
  have hput : St.put ⟨(St.put ⟨st.env, k1⟩ i.o.dst y).env, h2⟩ a.o.dst x = St.put ⟨(St.put ⟨st.env, h1⟩ a.o.dst x).env, h2⟩ i.o.dst y := by
    cases ha : a.o.dst with
    | none => cases hi : i.o.dst <;> rfl
    | some d =>
      cases hi : i.o.dst with
      | none => rfl
      | some d' =>
        have hne : d' ≠ d := fun e => s2 d ha (by rw [hi, e])
        show (⟨updE (updE st.env d' y) d x, h2⟩ : St) = ⟨updE (updE st.env d x) d' y, h2⟩
        congr 1
        funext t
        unfold updE
        by_cases t1 : t = d
        · subst t1
          have t2 : ¬ t = d' := fun e => hne e.symm
          simp [t2]
        · simp [t1]
  rw [hput]
  exact hr

theorem RunT.front {i : DI} {fi : Foot} : ∀ {A B : List (DI × Foot)} {st st' : St}, (∀ p ∈ A, slotsApart p.1.o i.o = true ∧ IndepF p.2 fi) → RunT C tbl (A ++ (i, fi) :: B) st st' → RunT C tbl ((i, fi) :: (A ++ B)) st st'
  | [], B, st, st', hA, h => h
  | (a, fa) :: A, B, st, st', hA, h => by
    obtain ⟨x, h', o1, e1, hr⟩ := h
    have ih := RunT.front (A := A) (fun p hp => hA p (by simp [hp])) hr
    obtain ⟨q1, q2⟩ := hA (a, fa) (by simp)
    exact RunT.swap q1 q2 ⟨x, h', o1, e1, ih⟩
end
theorem view0_self {D : List Nat} {h : Hp} {x : AV} (hx : x.refs = []) : view0 D h x x := by
  unfold view0
  split
  · simp [AV.refs] at hx
  · simp [AV.refs] at hx
  · rfl
theorem viewL0_self {D : List Nat} {h : Hp} : ∀ {xs : List AV}, AV.refsL xs = [] → viewL0 D h xs xs
  | [], _ => rfl
  | x :: xs, hx => by
    simp only [AV.refsL, List.append_eq_nil_iff] at hx
    exact ⟨x, xs, rfl, view0_self hx.1, viewL0_self hx.2⟩
theorem view1_self {D : List Nat} {h : Hp} {x : AV} (hx : x.refs = []) : view1 D h x x := by
  unfold view1
  split
  · simp only [AV.refs, List.append_eq_nil_iff] at hx
    exact ⟨_, rfl, viewL0_self hx.2⟩
  · simp only [AV.refs] at hx
    exact ⟨_, rfl, viewL0_self hx⟩
  · simp only [AV.refs] at hx
    exact ⟨_, rfl, viewL0_self hx⟩
  · exact view0_self hx
theorem viewL_self {D : List Nat} {h : Hp} : ∀ {xs : List AV}, AV.refsL xs = [] → viewL D h xs xs
  | [], _ => rfl
  | x :: xs, hx => by
    simp only [AV.refsL, List.append_eq_nil_iff] at hx
    exact ⟨x, xs, rfl, view1_self hx.1, viewL_self hx.2⟩
end Go.Aw
end
section
set_option linter.unusedVariables false
set_option linter.unusedSimpArgs false
namespace Go.Aw
section
variable {C : Cx} {tbl : Nat → Option CallRes} {F : Fr} {β : Nat → Option Loc} {st : St} {a : Act} {w : World}

theorem AM.wp_fr {α : Type} {n : Nat} {fr : Prop} (hf : fr) : ∀ {m : AM α} {h : Hp} {Q : α → Hp → Prop}, m.wp n True h Q → m.wp n fr h Q
  | .pure a, h, Q, hw => hw
  | .fail, h, Q, hw => hw
  | .guard c k, h, Q, hw => ⟨hw.1, AM.wp_fr hf hw.2⟩
  | .get o k, h, Q, hw => by
    simp only [AM.wp] at hw ⊢
    cases ho : h o with
    | none => rw [ho] at hw; exact hw
    | some x => rw [ho] at hw; exact AM.wp_fr hf (m := k x) hw
  | .put o x k, h, Q, hw => ⟨hw.1, AM.wp_fr hf hw.2⟩
  | .new x k, h, Q, hw => ⟨hf, hw.2.1, AM.wp_fr hf hw.2.2⟩
  | .del o k, h, Q, hw => AM.wp_fr hf (m := k) hw

/-! ### No new names -/
theorem readAll_pres {m n : Nat} {k : Hp → AM AV} (hk : ∀ h, (k h).pres m n) : ∀ (os : List Nat) (acc : Hp), (readAll os acc k).pres m n
  | [], acc => hk acc
  | o :: os, acc => fun x _ => readAll_pres hk os _

theorem leafRow_has {m : Nat} {ob : AObj} (h : ob.leafRow = true) : ob.has m = false := by
  cases ob with
  | row e k xs => exact leafLL_has h
  | _ => simp [AObj.leafRow] at h

theorem delAll_pres {m n : Nat} {k : AM AV} (hk : k.pres m n) : ∀ os : List Nat, (delAll os k).pres m n
  | [] => hk
  | o :: os => delAll_pres hk os
theorem progD_pres (P : Program) (it : DI) {e : Nat → AV} {m : Nat} (he : ∀ t, (e t).has m = false) (hm : it.id ≠ m) : (progD P tbl it e).pres m it.id := by
  have hb : (bodyD P tbl it e).pres m it.id := by
    unfold bodyD
    split
    · split
      · rename_i g first captured r hc _
        unfold callAny
        split
        · refine readAll_pres (fun hv => ?_) _ _
          simp only [AM.pres]
          rintro _ ⟨h1, _, h3⟩
          have hx : r.x.has m = false := by
            cases hh : r.x.has m with
            | false => rfl
            | true => exact absurd (h1 m ((has_refs _).1 hh)).1.symm hm
          split
          · exact hx
          · rename_i ob hob
            exact ⟨hm, leafRow_has (h3 ob hob), hx⟩
        · rename_i f args ts hop _ _ o ob _
          split
          · unfold callPut
            split
            · rename_i hin
              have hom : o ≠ m := by
                intro e'
                subst e'
                obtain ⟨y, hy, hyo⟩ := List.mem_flatMap.1 (args_refs (ts := #[]) hc o hin)
                have : (rho e y).has o = true := (has_refs _).2 hyo
                rw [rho_has he] at this
                cases this
              refine fun y _ => fun _ => fun hh => ⟨hom, leafRow_has hh.2, ?_⟩
              show r.x.has m = false
              cases hx : r.x.has m with
              | false => rfl
              | true => exact absurd (hh.1 m ((has_refs _).1 hx)).symm hom
            · trivial
          · refine readAll_pres (fun hv => ?_) _ _
            rintro ⟨_, _, _, hx⟩
            refine delAll_pres ?_ _
            show r.x.has m = false
            cases hh : r.x.has m with
            | false => rfl
            | true => rw [has_refs, hx] at hh; simp at hh
      · trivial
    · exact aop_pres P he it.o.op hm
  unfold progD
  split
  · exact hb
  · split
    · split
      · exact hb
      · simp [AM.pres, AV.has, AV.hasL]
    · simp [AM.pres, AV.has, AV.hasL]
    · trivial

theorem Fresh.next {it : DI} {m : Nat} {x : AV} {h' : Hp} (hf : Fresh C st m) (hm : it.id ≠ m) (ho : (progD C.P tbl it st.env).out it.id st.heap x h') : Fresh C (St.put ⟨st.env, h'⟩ it.o.dst x) m := by
  obtain ⟨f1, f2, f3, f4⟩ := hf
  obtain ⟨q1, q2, q3⟩ := AM.pres_out (progD_pres C.P it f3 hm) ⟨f2, f4⟩ ho
  have henv : (St.put ⟨st.env, h'⟩ it.o.dst x).heap = h' := by cases it.o.dst <;> rfl
  refine ⟨f1, by rw [henv]; exact q2, fun t => ?_, fun o y hy => q3 o y (by rw [henv] at hy; exact hy)⟩
  cases hd : it.o.dst with
  | none => exact f3 t
  | some d =>
    show (updE st.env d x t).has m = false
    unfold updE
    split
    · exact q1
    · exact f3 t

/-! ### One operation -/
theorem readAll_out {n : Nat} {k : Hp → AM AV} {h h' : Hp} {x : AV} : ∀ (os : List Nat) (acc : Hp), (readAll os acc k).out n h x h' → ∃ hv : Hp, (k hv).out n h x h' ∧ (∀ o, hv o = acc o ∨ (o ∈ os ∧ hv o = h o))
  | [], acc, ho => ⟨acc, ho, fun o => .inl rfl⟩
  | o :: os, acc, ho => by
    unfold readAll AM.out at ho
    simp only [AM.wp] at ho
    cases hh : h o with
    | none => rw [hh] at ho; exact ho.elim
    | some y =>
      rw [hh] at ho
      obtain ⟨hv, e1, e2⟩ := readAll_out (k := k) os _ ho
      refine ⟨hv, e1, fun p => ?_⟩
      rcases e2 p with e2 | ⟨e2, e3⟩
      · rw [e2]
        unfold updH
        split
        · rename_i e; subst e; exact .inr ⟨by simp, hh.symm⟩
        · exact .inl rfl
      · exact .inr ⟨by simp [e2], e3⟩

theorem view0_of {D : List Nat} {h g : Hp} (hg : ∀ o, h o ≠ none → g o = h o) {x y : AV} (hv : view0 D h x y) : view0 D g x y := by
  unfold view0 at *
  split at hv
  · rename_i o off len full
    cases hh : h o with
    | none => rw [hh] at hv; exact hv.elim
    | some ob => rw [hg o (by simp [hh])]; exact hv
  · rename_i o i j
    cases hh : h o with
    | none => rw [hh] at hv; exact hv.elim
    | some ob => rw [hg o (by simp [hh])]; exact hv
  · exact hv
theorem viewL0_of {D : List Nat} {h g : Hp} (hg : ∀ o, h o ≠ none → g o = h o) : ∀ {xs ys : List AV}, viewL0 D h xs ys → viewL0 D g xs ys
  | [], ys, hv => hv
  | x :: xs, ys, ⟨a', as', e, h1, h2⟩ => ⟨a', as', e, view0_of hg h1, viewL0_of hg h2⟩
theorem view1_of {D : List Nat} {h g : Hp} (hg : ∀ o, h o ≠ none → g o = h o) {x y : AV} (hv : view1 D h x y) : view1 D g x y := by
  unfold view1 at *
  split at hv
  · obtain ⟨c, e, h1⟩ := hv; exact ⟨c, e, viewL0_of hg h1⟩
  · obtain ⟨c, e, h1⟩ := hv; exact ⟨c, e, viewL0_of hg h1⟩
  · obtain ⟨c, e, h1⟩ := hv; exact ⟨c, e, viewL0_of hg h1⟩
  · exact view0_of hg hv
theorem viewL_of {D : List Nat} {h g : Hp} (hg : ∀ o, h o ≠ none → g o = h o) : ∀ {xs ys : List AV}, viewL D h xs ys → viewL D g xs ys
  | [], ys, hv => hv
  | x :: xs, ys, ⟨a', as', e, h1, h2⟩ => ⟨a', as', e, view1_of hg h1, viewL_of hg h2⟩

theorem view0_id {D : List Nat} {h : Hp} {x y : AV} (hx : x.refs = []) (hv : view0 D h x y) : y = x := by
  unfold view0 at hv
  split at hv
  · simp [AV.refs] at hx
  · simp [AV.refs] at hx
  · exact hv
theorem viewL0_id {D : List Nat} {h : Hp} : ∀ {xs ys : List AV}, AV.refsL xs = [] → viewL0 D h xs ys → ys = xs
  | [], ys, _, hv => hv
  | x :: xs, ys, hx, ⟨a', as', e, h1, h2⟩ => by
    simp only [AV.refsL, List.append_eq_nil_iff] at hx
    rw [e, view0_id hx.1 h1, viewL0_id hx.2 h2]
theorem view1_id {D : List Nat} {h : Hp} {x y : AV} (hx : x.refs = []) (hv : view1 D h x y) : y = x := by
  unfold view1 at hv
  split at hv
  · obtain ⟨c, e, h1⟩ := hv
    simp only [AV.refs, List.append_eq_nil_iff] at hx
    rw [e, viewL0_id hx.2 h1]
  · obtain ⟨c, e, h1⟩ := hv
    simp only [AV.refs] at hx
    rw [e, viewL0_id hx h1]
  · obtain ⟨c, e, h1⟩ := hv
    simp only [AV.refs] at hx
    rw [e, viewL0_id hx h1]
  · exact view0_id hx hv
theorem viewL_id {D : List Nat} {h : Hp} : ∀ {xs ys : List AV}, AV.refsL xs = [] → viewL D h xs ys → ys = xs
  | [], ys, _, hv => hv
  | x :: xs, ys, hx, ⟨a', as', e, h1, h2⟩ => by
    simp only [AV.refsL, List.append_eq_nil_iff] at hx
    rw [e, view1_id hx.1 h1, viewL_id hx.2 h2]

theorem callPut_ok {g : FuncId} {args : List AV} {o : Nat} {ob : AObj} {x y : AV} {n : Nat} {h' : Hp} (ho : (callPut C.P g args o ob y).out n st.heap x h') : Enters C.P g ∧ CallOk C st g args fun y k => y = x ∧ k = h' := by
  unfold callPut AM.out at ho
  split at ho
  · simp only [AM.wp] at ho
    cases hx : st.heap o with
    | none => rw [hx] at ho; exact ho.elim
    | some z =>
      rw [hx] at ho
      obtain ⟨⟨hE, h1, h2⟩, ⟨h3, h4⟩, _, rfl, rfl⟩ := ho
      refine ⟨hE, CallOk.own [o] (Q := fun u h' => u = y ∧ h' = updH (fun _ => none) o (some ob)) ?_ ?_⟩
      · have e : restr [o] st.heap = updH (fun _ => none) o (some z) := by
          funext p
          unfold restr updH
          by_cases hp : p = o
          · subst hp; simp [hx]
          · simp [hp]
        rw [e]
        exact h2
      · rintro u k ⟨rfl, rfl⟩
        refine ⟨fun p hp hn => ?_, fun p hp => .inr (by simpa using h3 p ((has_refs _).1 hp)), fun p z q hz hq => ?_, rfl, ?_⟩
        · unfold updH at hp
          split at hp
          · rename_i e; exact absurd (by simpa using e) hn
          · exact absurd rfl hp
        · unfold updH at hz
          split at hz
          · injection hz with hz; subst hz
            rw [leafRow_has h4] at hq; cases hq
          · cases hz
        · funext p
          unfold merge updH
          by_cases hp : p = o
          · subst hp; simp
          · simp [hp]
  · exact ho.elim
theorem callProg_ok {g : FuncId} {args : List AV} {n : Nat} {r : CallRes} {x : AV} {h' : Hp} (hf : Fresh C st n) (ho : (callProg C.P g args n r).out n st.heap x h') : Enters C.P g ∧ CallOk C st g args fun y k => y = x ∧ k = h' := by
  obtain ⟨hv, ho, hhv⟩ := readAll_out _ _ ho
  obtain ⟨⟨hE, hview, hret⟩, ⟨hrefs, hsafe, hleaf⟩, ho⟩ := ho
  have hg : ∀ o, hv o ≠ none → st.heap o = hv o := by
    intro o hne
    rcases hhv o with e | ⟨_, e⟩
    · exact absurd e hne
    · exact e.symm
  have hview' := viewL_of hg hview
  refine ⟨hE, ?_⟩
  -- the heap behind the call
  have hheap : r.x = x ∧ merge [] st.heap (match r.row with
      | none => fun _ => none
      | some ob => updH (fun _ => none) n (some ob)) = h' := by
    cases hrow : r.row with
    | none =>
      rw [hrow] at ho
      obtain ⟨rfl, rfl⟩ := ho
      exact ⟨rfl, by funext o; simp [merge]⟩
    | some ob =>
      rw [hrow] at ho
      obtain ⟨_, _, rfl, rfl⟩ := ho
      refine ⟨rfl, ?_⟩
      funext o
      unfold merge updH
      by_cases e : o = n <;> simp [e]
  have hnone : ∀ o, (match r.row with
      | none => fun _ => none
      | some ob => updH (fun _ => none) n (some ob) : Hp) o ≠ none → o = n ∧ r.row.isSome = true := by
    intro o hne
    cases hrow : r.row with
    | none => rw [hrow] at hne; exact absurd rfl hne
    | some ob =>
      rw [hrow] at hne
      refine ⟨?_, rfl⟩
      simp only [updH] at hne
      split at hne
      · assumption
      · exact absurd rfl hne
  have hsome : ∀ o y, (match r.row with
      | none => fun _ => none
      | some ob => updH (fun _ => none) n (some ob) : Hp) o = some y → r.row = some y := by
    intro o y hy
    cases hrow : r.row with
    | none => rw [hrow] at hy; cases hy
    | some ob =>
      rw [hrow] at hy
      simp only [updH] at hy
      split at hy
      · exact hy
      · cases hy
  have hin : ∀ o, r.x.has o = true → (match r.row with
      | none => fun _ => none
      | some ob => updH (fun _ => none) n (some ob) : Hp) o ≠ none := by
    intro o hh
    obtain ⟨e, hs⟩ := hrefs o ((has_refs _).1 hh)
    obtain ⟨ob, hob⟩ := Option.isSome_iff_exists.1 hs
    rw [hob]
    simp [updH, e]
  rcases hsafe with hD | ⟨hs1, hs2⟩
  · have hargs := viewL_id hD hview'
    unfold RetCall at hret
    rw [hargs] at hret
    have hnil : restr [] st.heap = fun _ => none := by funext o; simp [restr]
    refine CallOk.own [] (by rw [hnil]; exact hret) ?_
    rintro y k ⟨rfl, rfl⟩
    refine ⟨fun o hne _ => ?_, fun o hh => .inl (hin o hh), fun o y p hy hp => ?_, hheap.1, hheap.2⟩
    · rw [(hnone o hne).1]; exact hf
    · rw [leafRow_has (hleaf y (hsome o y hy))] at hp; cases hp
  · refine CallOk.view (AV.refsL args) hview' hret ?_
    rintro y k ⟨rfl, rfl⟩
    refine ⟨fun o hne => ?_, hin, fun o y hy => hs2 y (hsome o y hy), hs1, hheap.1, hheap.2⟩
    rw [(hnone o hne).1]; exact hf

theorem delAll_out {x y : AV} {n : Nat} {h' : Hp} : ∀ (os : List Nat) {h : Hp}, (delAll os (.pure y)).out n h x h' → x = y ∧ h' = minus os h
  | [], h, ho => by
    obtain ⟨rfl, rfl⟩ := ho
    exact ⟨rfl, by funext o; simp [minus]⟩
  | o :: os, h, ho => by
    obtain ⟨e1, e2⟩ := delAll_out os (h := updH h o none) ho
    refine ⟨e1, e2.trans ?_⟩
    funext p
    unfold minus updH
    by_cases h1 : p = o <;> by_cases h2 : p ∈ os <;> simp [h1, h2]
theorem callFrz_ok {g : FuncId} {args : List AV} {n : Nat} {r : CallRes} {x : AV} {h' : Hp} (hf : Fresh C st n) (ho : (callFrz C.P g args r).out n st.heap x h') : Enters C.P g ∧ CallOk C st g args fun y k => y = x ∧ k = h' := by
  obtain ⟨hv, ho, hhv⟩ := readAll_out _ _ ho
  obtain ⟨⟨⟨hE, hview⟩, hret, hra, hrx⟩, ho⟩ := ho
  obtain ⟨rfl, rfl⟩ := delAll_out _ ho
  have hg : ∀ o, hv o ≠ none → st.heap o = hv o := by
    intro o hne
    rcases hhv o with e | ⟨_, e⟩
    · exact absurd e hne
    · exact e.symm
  refine ⟨hE, CallOk.freeze _ (viewL_of hg hview) ?_⟩
  have hf' : Fresh C ⟨st.env, minus (AV.refsL args) st.heap⟩ n := by
    refine ⟨hf.1, ?_, hf.2.2.1, fun o y hy => hf.2.2.2 o y ?_⟩
    · show minus _ _ n = none
      unfold minus
      split
      · rfl
      · exact hf.2.1
    · change minus _ _ o = some y at hy
      unfold minus at hy
      split at hy
      · cases hy
      · exact hy
  refine (callProg_ok (r := ⟨r.args, r.x, none, none⟩) hf' ?_).2
  show (callProg C.P g r.args n ⟨r.args, r.x, none, none⟩).out n (minus (AV.refsL args) st.heap) r.x (minus (AV.refsL args) st.heap)
  unfold callProg
  rw [hra]
  exact ⟨⟨hE, viewL_self hra, hret⟩, ⟨by simp [hrx], .inl rfl, by simp⟩, rfl, rfl⟩
theorem bodyD_ok (it : DI) (p : Oper) {x : AV} {h' : Hp} {Qc : Exit → Act → World → Prop} {next : Act → World → Prop} (h : SRb C F β st a w) (hd : it.o.dst = p.dst) (ho : it.o.op = p.op) (hN : ∀ d, it.o.dst = some d → d < C.N) (hf : Fresh C st it.id)
    (hout : (bodyD C.P tbl it st.env).out it.id st.heap x h') (hnext : ∀ β' a' w', SRb C F β' (St.put ⟨st.env, h'⟩ it.o.dst x) a' w' → next a' w') : p.wp C.P a w next Qc := by
  refine step_sound (C := C) (n := it.id) (K := fun st' => st' = St.put ⟨st.env, h'⟩ it.o.dst x) it.o p h hd ho hN ?_ (fun st' β' a' w' hs hK => by subst hK; exact hnext β' a' w' hs)
  unfold stepOp
  unfold bodyD at hout
  split
  · rename_i f args ts hop
    rw [hop] at hout
    simp only at hout
    cases hc : callee st.env f with
    | none => rw [hc] at hout; exact hout.elim
    | some q =>
      obtain ⟨g, first, captured⟩ := q
      cases ht : tbl it.i with
      | none => rw [hc, ht] at hout; exact hout.elim
      | some r =>
        rw [hc, ht] at hout
        have hboth : Enters C.P g ∧ CallOk C st g (first ++ args.toList.map (rho st.env) ++ captured) fun y k => y = x ∧ k = h' := by
          have hout2 : (callAny C.P g (first ++ args.toList.map (rho st.env) ++ captured) it.id r).out it.id st.heap x h' := hout
          unfold callAny at hout2
          split at hout2
          · exact callProg_ok hf hout2
          · split at hout2
            · exact callPut_ok hout2
            · exact callFrz_ok hf hout2
        obtain ⟨e1, e2⟩ := hboth
        refine ⟨e1, fun F β a w vs hs hp => (e2 F β a w vs hs hp).mono ?_⟩
        rintro e w' ⟨v, y, k, β', rfl, q1, q2, rfl, rfl⟩
        exact ⟨v, y, k, β', rfl, q1, q2, rfl⟩
  · rename_i x b hop
    rw [hop] at hout
    exact hout.elim
  · rename_i x hop
    rw [hop] at hout
    exact hout.elim
  · rename_i hno _ _
    split at hout
    · rename_i f args ts hop; exact absurd hop (hno f args ts)
    · exact AM.wp_mono (AM.wp_fr hf hout) fun y k ⟨e1, e2⟩ => by subst e1 e2; rfl

theorem progD_ok (ops : Array Oper) (it : DI) {x : AV} {h' : Hp} {Qc : Exit → Act → World → Prop} {next : Act → World → Prop} (hi : absOp C.N ops it.i = some it.o) (h : SRb C F β st a w) (hf : Fresh C st it.id)
    (hout : (progD C.P tbl it st.env).out it.id st.heap x h') (hnext : ∀ β' a' w', SRb C F β' (St.put ⟨st.env, h'⟩ it.o.dst x) a' w' → next a' w') : wpOp C.P ops Qc it.i next a w := by
  obtain ⟨p, hp, hd, hop, hN, hg⟩ := absOp_inv hi
  unfold wpOp
  rw [hp]
  simp only
  have skip : x = .tup [] → h' = st.heap → next (a.put p.dst undef) w := by
    rintro rfl rfl
    have hput := h.put it.o.dst hN (.tup []) undef (.tup _ #[] rfl (fun m h1 _ => by simp at h1))
    rw [hd] at hput
    exact hnext β _ _ (by rw [hd]; exact hput)
  unfold progD at hout
  rcases hg with ⟨g1, g2⟩ | ⟨j, b, s, g1, g2, g3, g4⟩
  · rw [g2] at hout
    simp only [Region.wanted, g1, if_true]
    exact .inl (bodyD_ok it p h hd hop hN hf hout hnext)
  · rw [g2] at hout
    simp only at hout
    obtain ⟨y1, y2⟩ := yielded_of h g3 g4
    simp only [Region.wanted, g1]
    split at hout
    · rename_i t ht
      rw [y1 t ht]
      split at hout
      · rename_i e
        subst e
        simp only [beq_self_eq_true, if_true]
        exact .inl (bodyD_ok it p h hd hop hN hf hout hnext)
      · rename_i e
        have : (some t == some b) = false := by simp [e]
        simp only [this, Bool.false_eq_true, if_false]
        exact skip hout.1.symm hout.2.symm
    · rename_i ht
      rw [y2 ht]
      have : ((none : Option Bool) == some b) = false := rfl
      simp only [this, Bool.false_eq_true, if_false]
      exact skip hout.1.symm hout.2.symm
    · exact hout.elim
end
end Go.Aw
end
section
set_option linter.unusedVariables false
set_option linter.unusedSimpArgs false
namespace Go.Aw
section
variable {C : Cx} {tbl : Nat → Option CallRes} {F : Fr}

/-- The operations with their places and names. -/
def items (n0 : Nat) : Nat → List AOp → List DI
  | _, [] => []
  | i, o :: l => ⟨i, n0 + i, o⟩ :: items n0 (i + 1) l
theorem items_get (n0 : Nat) : ∀ (l : List AOp) (i j : Nat) (d : DI), (items n0 i l)[j]? = some d → d.i = i + j ∧ d.id = n0 + (i + j) ∧ l[j]? = some d.o
  | [], i, j, d, h => by simp [items] at h
  | o :: l, i, 0, d, h => by simp [items] at h; subst h; exact ⟨rfl, rfl, rfl⟩
  | o :: l, i, j + 1, d, h => by
    simp only [items, List.getElem?_cons_succ] at h
    obtain ⟨h1, h2, h3⟩ := items_get n0 l (i + 1) j d h
    exact ⟨by omega, by omega, by simpa using h3⟩
theorem items_length (n0 : Nat) : ∀ (l : List AOp) (i : Nat), (items n0 i l).length = l.length
  | [], i => rfl
  | o :: l, i => by simp [items, items_length n0 l]

def disj (a b : List Nat) : Bool := a.all fun o => !b.contains o
def indepB (f g : Foot) : Bool := disj f.2 g.1 && disj f.2 g.2 && disj g.2 f.1 && disj g.2 f.2
/-- What is left open touches different things. -/
def compat (anc : List (List Nat)) (fs : List Foot) : Bool :=
  (List.range fs.length).all fun i => (List.range i).all fun j => (anc.getD i []).contains j || indepB (fs.getD j ([], [])) (fs.getD i ([], []))

theorem disj_spec {a b : List Nat} (h : disj a b = true) : ∀ o, o ∈ a → o ∉ b := by
  intro o ho hb
  simp only [disj, List.all_eq_true] at h
  have := h o ho
  simp [hb] at this
theorem indepB_spec {f g : Foot} (h : indepB f g = true) : IndepF f g := by
  simp only [indepB, Bool.and_eq_true] at h
  obtain ⟨⟨⟨h1, h2⟩, h3⟩, h4⟩ := h
  exact ⟨fun o ho => ⟨disj_spec h1 o ho, disj_spec h2 o ho⟩, fun o ho => ⟨disj_spec h3 o ho, disj_spec h4 o ho⟩⟩

theorem absOps_get {N : Nat} {ops : Array Oper} : ∀ (is : List Nat) (l : List AOp), absOps N ops is = some l → l.length = is.length ∧ ∀ (j : Nat) (o : AOp), l[j]? = some o → ∃ i, is[j]? = some i ∧ absOp N ops i = some o
  | [], l, h => by simp only [absOps, Option.some.injEq] at h; subst h; exact ⟨rfl, fun j o h => by simp at h⟩
  | i :: is, l, h => by
    simp only [absOps] at h
    split at h
    · rename_i o l' h1 h2
      injection h with h
      subst h
      obtain ⟨e1, e2⟩ := absOps_get is l' h2
      refine ⟨by simp [e1], fun j o' hj => ?_⟩
      cases j with
      | zero => simp at hj; subst hj; exact ⟨i, rfl, h1⟩
      | succ j =>
        obtain ⟨i', q1, q2⟩ := e2 j o' (by simpa using hj)
        exact ⟨i', by simpa using q1, q2⟩
    · cases h

theorem ancList_length (ops : Array Oper) : ∀ k, (ancList ops k).length = k
  | 0 => rfl
  | k + 1 => by simp [ancList, ancList_length ops k]
theorem ancList_getD (ops : Array Oper) : ∀ (k i : Nat), i < k → (ancList ops k).getD i [] = (ancList ops (i + 1)).getD i []
  | 0, i, h => absurd h (by omega)
  | k + 1, i, h => by
    rcases Nat.lt_or_ge i k with h1 | h1
    · rw [← ancList_getD ops k i h1]
      simp only [ancList, List.getD_eq_getElem?_getD]
      rw [List.getElem?_append_left (by rw [ancList_length]; exact h1)]
    · have : i = k := by omega
      subst this
      rfl
/-- What comes before an operation: its edges' ends, and what comes before those. -/
theorem anc_spec {ops : Array Oper} {k i p : Nat} (hi : i < k) {o : Oper} (ho : ops[i]? = some o) (hfwd : ∀ e ∈ o.after.toList, Region.binds .any e = true → e.on < i) (hp : p ∈ (ancList ops k).getD i []) :
    ∃ e ∈ o.after.toList, Region.binds .any e = true ∧ (e.on = p ∨ p ∈ (ancList ops k).getD e.on []) := by
  rw [ancList_getD ops k i hi] at hp
  simp only [ancList, List.getD_eq_getElem?_getD] at hp
  rw [List.getElem?_append_right (by rw [ancList_length]; exact Nat.le_refl _), ancList_length, Nat.sub_self] at hp
  simp only [List.getElem?_cons_zero, Option.getD_some, ho, Option.map_some, mem_dedup] at hp
  obtain ⟨e, he, hpe⟩ := List.mem_flatMap.1 hp
  obtain ⟨h1, h2⟩ := List.mem_filter.1 he
  refine ⟨e, h1, h2, ?_⟩
  rcases List.mem_cons.1 hpe with hpe | hpe
  · exact .inl hpe.symm
  · refine .inr ?_
    have hlt := hfwd e h1 h2
    rw [ancList_getD ops k e.on (by omega), ← ancList_getD ops i e.on hlt, List.getD_eq_getElem?_getD]
    exact hpe

theorem ready_mem {ops : Array Oper} {listed : Array Bool} {i : Nat} : i ∈ Region.ready .any ops listed ↔ i < ops.size ∧ listed.getD i true = false ∧ ∃ o, ops[i]? = some o ∧ ∀ e ∈ o.after.toList, Region.binds .any e = true → listed.getD e.on false = true := by
  unfold Region.ready
  rw [List.mem_filter, List.mem_range]
  constructor
  · rintro ⟨h1, h2⟩
    simp only [Bool.and_eq_true, Bool.not_eq_true'] at h2
    refine ⟨h1, h2.1, ops[i], by simp [h1], fun e he hb => ?_⟩
    have h3 := h2.2
    rw [Array.getElem?_eq_getElem h1] at h3
    simp only [Option.map_some, Option.getD_some, Array.all_eq_true_iff_forall_mem, Bool.or_eq_true, Bool.not_eq_true'] at h3
    rcases h3 e (by simpa using he) with h3 | h3
    · rw [hb] at h3; cases h3
    · exact h3
  · rintro ⟨h1, h2, o, ho, h3⟩
    refine ⟨h1, ?_⟩
    simp only [h2, ho, Option.map_some, Option.getD_some, Bool.not_false, Bool.true_and, Array.all_eq_true_iff_forall_mem, Bool.or_eq_true, Bool.not_eq_true']
    intro e he
    cases hb : Region.binds .any e with
    | false => exact .inl rfl
    | true => exact .inr (h3 e (by simpa using he) hb)

theorem dops_any (ops : Array Oper) (l : List AOp) (n0 : Nat) (hl : absOps C.N ops (List.range ops.size) = some l) (hok : drawOk ops l (ancList ops ops.size) = true) (fs : List Foot) (hfs : fs.length = l.length) (hcompat : compat (ancList ops ops.size) fs = true)
    (stn : St) {Qc : Exit → Act → World → Prop} (hQ : ∀ β a w, SRb C F β stn a w → Qc .normal a w) :
    ∀ (fuel : Nat) (listed : Array Bool) (R : List (DI × Foot)) (st : St) (β : Nat → Option Loc) (a : Act) (w : World), listed.size = ops.size →
      (∀ i, listed.getD i false = true → ∀ p ∈ (ancList ops ops.size).getD i [], listed.getD p false = true) →
      R.Pairwise (fun x y => x.1.i < y.1.i) → (∀ x ∈ R, ((items n0 0 l).zip fs)[x.1.i]? = some x) → (∀ i, i < ops.size → (listed.getD i true = false ↔ ∃ x ∈ R, x.1.i = i)) → R.length ≤ fuel →
      (∀ x ∈ R, Fresh C st x.1.id) → RunT C tbl R st stn → SRb C F β st a w → wpAny C.P .any ops Qc fuel listed a w := by
  obtain ⟨hlen, hget⟩ := absOps_get _ _ hl
  simp only [List.length_range] at hlen
  simp only [drawOk, Bool.and_eq_true, List.all_eq_true, List.mem_range, Bool.or_eq_true] at hok
  obtain ⟨hfwd0, hslots⟩ := hok
  have hfwd : ∀ (i : Nat) (o : Oper), ops[i]? = some o → ∀ e ∈ o.after.toList, Region.binds .any e = true → e.on < i := by
    intro i o ho e he hbe
    obtain ⟨hi, _⟩ := Array.getElem?_eq_some_iff.1 ho
    have := hfwd0 i hi
    rw [ho] at this
    simp only [Option.map_some, Option.getD_some, List.all_eq_true, Bool.or_eq_true, Bool.not_eq_true', decide_eq_true_eq] at this
    rcases this e he with h9 | h9
    · rw [hbe] at h9; cases h9
    · exact h9
  -- what a remaining entry is
  have hentry : ∀ x : DI × Foot, ((items n0 0 l).zip fs)[x.1.i]? = some x → x.1.id = n0 + x.1.i ∧ l[x.1.i]? = some x.1.o ∧ fs[x.1.i]? = some x.2 ∧ x.1.i < ops.size ∧ absOp C.N ops x.1.i = some x.1.o := by
    intro x hx
    rw [List.getElem?_zip_eq_some] at hx
    obtain ⟨q1, q2, q3⟩ := items_get n0 l 0 x.1.i x.1 hx.1
    have hlt : x.1.i < ops.size := by
      obtain ⟨h1, _⟩ := List.getElem?_eq_some_iff.1 q3
      omega
    obtain ⟨i', r1, r2⟩ := hget _ _ q3
    rw [List.getElem?_range hlt] at r1
    injection r1 with r1
    subst r1
    exact ⟨by omega, q3, hx.2, hlt, r2⟩
  have noready : ∀ (listed : Array Bool) (R : List (DI × Foot)), R.Pairwise (fun x y => x.1.i < y.1.i) → (∀ x ∈ R, ((items n0 0 l).zip fs)[x.1.i]? = some x) → (∀ i, i < ops.size → (listed.getD i true = false ↔ ∃ x ∈ R, x.1.i = i)) → listed.size = ops.size → Region.ready .any ops listed = [] → R = [] := by
    intro listed R hsort hR hiff hsz hr
    cases R with
    | nil => rfl
    | cons x R =>
      exfalso
      obtain ⟨q1, q2, q3, q4, q5⟩ := hentry x (hR x (by simp))
      have : x.1.i ∈ Region.ready .any ops listed := by
        rw [ready_mem]
        refine ⟨q4, (hiff _ q4).2 ⟨x, by simp, rfl⟩, ops[x.1.i], by simp [q4], fun e he hb => ?_⟩
        have hlt := hfwd x.1.i _ (by simp [q4]) e he hb
        cases hl' : listed.getD e.on false with
        | true => rfl
        | false =>
          exfalso
          have hon : e.on < listed.size := by omega
          have : listed.getD e.on true = false := by
            rw [Array.getD_eq_getD_getElem?, Array.getElem?_eq_getElem hon] at hl' ⊢
            exact hl'
          obtain ⟨y, hy, hyi⟩ := (hiff e.on (by omega)).1 this
          rcases List.mem_cons.1 hy with rfl | hy
          · omega
          · have := (List.pairwise_cons.1 hsort).1 y hy
            omega
      rw [hr] at this
      simp at this
  intro fuel
  induction fuel with
  | zero =>
    intro listed R st β a w hsz hdown hsort hR hiff hfuel hfresh hrun hs
    have hR0 : R = [] := List.eq_nil_of_length_eq_zero (by omega)
    subst hR0
    have hst : st = stn := hrun
    subst hst
    refine ⟨?_, hQ β a w hs⟩
    cases hr : Region.ready .any ops listed with
    | nil => rfl
    | cons i r =>
      have hi : i ∈ Region.ready .any ops listed := by rw [hr]; simp
      obtain ⟨h1, h2, _⟩ := ready_mem.1 hi
      obtain ⟨x, hx, _⟩ := (hiff i h1).1 h2
      simp at hx
  | succ fuel ih =>
    intro listed R st β a w hsz hdown hsort hR hiff hfuel hfresh hrun hs
    refine ⟨fun hr => ?_, fun i hi => ?_⟩
    · have hR0 := noready listed R hsort hR hiff hsz hr
      subst hR0
      have hst : st = stn := hrun
      subst hst
      exact hQ β a w hs
    · obtain ⟨h1, h2, o, ho, h3⟩ := ready_mem.1 hi
      obtain ⟨x, hx, hxi⟩ := (hiff i h1).1 h2
      obtain ⟨A, B, rfl⟩ := List.append_of_mem hx
      obtain ⟨q1, q2, q3, q4, q5⟩ := hentry x (hR x hx)
      -- what comes before it has been done
      have hanc : ∀ p ∈ (ancList ops ops.size).getD i [], listed.getD p false = true := by
        intro p hp
        obtain ⟨e, he, hb, hpe⟩ := anc_spec h1 ho (hfwd i o ho) hp
        have hl1 := h3 e he hb
        rcases hpe with rfl | hpe
        · exact hl1
        · exact hdown e.on hl1 p hpe
      have hfront := RunT.front (i := x.1) (fi := x.2) (A := A) (B := B) (fun y hy => ?_) hrun
      · obtain ⟨v, h', o1, e1, hr⟩ := hfront
        rw [← hxi]
        refine progD_ok ops x.1 q5 hs (hfresh x hx) o1 fun β' a' w' hs' => ?_
        have hsplit := List.pairwise_append.1 hsort
        have hBx := List.pairwise_cons.1 hsplit.2.1
        have hlt1 : x.1.i < listed.size := by omega
        have hset : ∀ j d, (listed.setIfInBounds x.1.i true).getD j d = if j = x.1.i then true else listed.getD j d := by
          intro j d
          simp only [Array.getD_eq_getD_getElem?, Array.getElem?_setIfInBounds]
          by_cases e : x.1.i = j
          · subst e; simp [hlt1]
          · rw [if_neg e, if_neg (fun e' => e e'.symm)]
        refine ih (listed.setIfInBounds x.1.i true) (A ++ B) _ β' a' w' (by simpa using hsz) (fun j hj p hp => ?_) ?_ (fun y hy => hR y (by
            rcases List.mem_append.1 hy with hy | hy
            · exact List.mem_append.2 (.inl hy)
            · exact List.mem_append.2 (.inr (List.mem_cons_of_mem _ hy)))) (fun j hj => ?_) (by simp at hfuel ⊢; omega) (fun y hy => ?_) hr hs'
        · rw [hset] at hj ⊢
          split
          · rfl
          · split at hj
            · rename_i e; subst e; rw [hxi] at hp; exact hanc p hp
            · exact hdown j hj p hp
        · refine List.pairwise_append.2 ⟨hsplit.1, hBx.2, fun y hy z hz => hsplit.2.2 y hy z (List.mem_cons_of_mem _ hz)⟩
        · rw [hset]
          split
          · rename_i e
            subst e
            constructor
            · intro h; cases h
            · rintro ⟨y, hy, hyi⟩
              exfalso
              rcases List.mem_append.1 hy with hy | hy
              · have := hsplit.2.2 y hy x (by simp); omega
              · have := hBx.1 y hy; omega
          · rename_i hne
            rw [hiff j hj]
            constructor
            · rintro ⟨y, hy, hyi⟩
              rcases List.mem_append.1 hy with hy | hy
              · exact ⟨y, List.mem_append.2 (.inl hy), hyi⟩
              · rcases List.mem_cons.1 hy with rfl | hy
                · exact absurd hyi.symm hne
                · exact ⟨y, List.mem_append.2 (.inr hy), hyi⟩
            · rintro ⟨y, hy, hyi⟩
              rcases List.mem_append.1 hy with hy | hy
              · exact ⟨y, List.mem_append.2 (.inl hy), hyi⟩
              · exact ⟨y, List.mem_append.2 (.inr (List.mem_cons_of_mem _ hy)), hyi⟩
        · have hy' : y ∈ A ++ x :: B := by
            rcases List.mem_append.1 hy with hy | hy
            · exact List.mem_append.2 (.inl hy)
            · exact List.mem_append.2 (.inr (List.mem_cons_of_mem _ hy))
          have hyid := (hentry y (hR y hy')).1
          refine Fresh.next (hfresh y hy') ?_ o1
          have hne : y.1.i ≠ x.1.i := by
            rcases List.mem_append.1 hy with hy | hy
            · have := hsplit.2.2 y hy x (by simp); omega
            · have := hBx.1 y hy; omega
          omega
      · -- it and what stands ahead of it in the text change places
        have hym : y ∈ A ++ x :: B := List.mem_append.2 (.inl hy)
        obtain ⟨r1, r2, r3, r4, r5⟩ := hentry y (hR y hym)
        have hlt : y.1.i < x.1.i := (List.pairwise_append.1 hsort).2.2 y hy x (by simp)
        have hyl : listed.getD y.1.i true = false := (hiff y.1.i r4).2 ⟨y, hym, rfl⟩
        have hnot : y.1.i ∉ (ancList ops ops.size).getD x.1.i [] := by
          intro hmem
          rw [hxi] at hmem
          have h9 := hanc y.1.i hmem
          have : y.1.i < listed.size := by omega
          rw [Array.getD_eq_getD_getElem?, Array.getElem?_eq_getElem this] at hyl h9
          simp at hyl h9
          rw [h9] at hyl
          cases hyl
        have hncont : ((ancList ops ops.size).getD x.1.i []).contains y.1.i = false := by simpa using hnot
        constructor
        · have := hslots x.1.i (by omega) y.1.i hlt
          rw [hncont, r2, q2] at this
          simpa using this
        · simp only [compat, List.all_eq_true, List.mem_range, Bool.or_eq_true] at hcompat
          have := hcompat x.1.i (by omega) y.1.i hlt
          rw [hncont, List.getD_eq_getElem?_getD, List.getD_eq_getElem?_getD, r3, q3] at this
          simp only [Bool.false_eq_true, false_or, Option.getD_some] at this
          exact indepB_spec this

theorem SRb.drawn {β : Nat → Option Loc} {st : St} {a : Act} {w : World} (h : SRb C F β st a w) : SRb C F β st a { w with drawn := w.drawn + 1 } := by
  have := h.update (w' := { w with drawn := w.drawn + 1 }) (β' := β) (h' := st.heap) ⟨Nat.le_refl _, fun _ _ _ => rfl⟩ rfl rfl rfl (fun _ _ h => h) (fun _ _ _ => rfl) (fun _ _ => rfl)
    ⟨fun o x hx => (h.heap.obj o x hx).mono ⟨Nat.le_refl _, fun _ _ _ => rfl⟩ (fun _ _ h => h) (fun _ _ => rfl) (fun _ _ => rfl), h.heap.inj, h.heap.lt, h.heap.apart⟩
  exact this

/-- THE RULE: the region's text, once, in its own order; what each call comes to is said beforehand (tbl). -/
theorem AWp.dops {st : St} {Q : AX → St → Prop} {l : List AOp} {anc : List (List Nat)} (hm : C.P.follows .mixedOrders = true) (n0 : Nat) {n1 : Nat} (tbl : Nat → Option CallRes) (hfresh : ∀ i, i < l.length → Fresh C st (n0 + i))
    (h : runD C tbl (items n0 0 l) st [] fun st' fs => compat anc fs = true ∧ Q .normal st') : AWp C (.dops n1 l anc) st Q := fun code hc F a w hs => by
  cases code <;> simp only [absCode, reduceCtorEq] at hc
  case region id ops d =>
    split at hc
    · rename_i l' hl
      cases d with
      | false => simp at hc
      | true =>
        simp only [if_true] at hc
        split at hc
        · rename_i hok
          simp only [Option.some.injEq, ACode.dops.injEq] at hc
          obtain ⟨_, rfl, rfl⟩ := hc
          obtain ⟨β, hs⟩ := hs
          obtain ⟨gs, stn, e1, e2, e3, e4⟩ := runD_runT _ _ _ _ h
          obtain ⟨hlen, hget⟩ := absOps_get _ _ hl
          simp only [List.length_range] at hlen
          simp only [List.nil_append] at e3
          rw [items_length] at e1
          have hzl : ((items n0 0 l').zip gs).length = ops.size := by simp [items_length, e1, hlen]
          have hzi : ∀ (j : Nat) (x : DI × Foot), ((items n0 0 l').zip gs)[j]? = some x → x.1.i = j := by
            intro j x hx
            rw [List.getElem?_zip_eq_some] at hx
            have := (items_get n0 l' 0 j x.1 hx.1).1
            omega
          refine wp_region_any hm (dops_any (tbl := tbl) ops l' n0 hl hok gs e1 e3 stn (fun β' a' w' hs' => ⟨stn, ⟨β', hs'⟩, e4⟩) ops.size (Array.replicate ops.size false) ((items n0 0 l').zip gs) st β a _ (by simp) (fun i hi => ?_) ?_ (fun x hx => ?_) (fun i hi => ?_) (by omega) (fun x hx => ?_) e2 hs.drawn)
          · rw [Array.getD_eq_getD_getElem?, Array.getElem?_replicate] at hi
            split at hi <;> simp at hi
          · rw [List.pairwise_iff_getElem]
            intro i j hi hj hij
            have h1 := hzi i _ (List.getElem?_eq_getElem hi)
            have h2 := hzi j _ (List.getElem?_eq_getElem hj)
            omega
          · obtain ⟨j, hj, rfl⟩ := List.getElem_of_mem hx
            rw [hzi j _ (List.getElem?_eq_getElem hj)]
            exact List.getElem?_eq_getElem hj
          · rw [Array.getD_eq_getD_getElem?, Array.getElem?_replicate, if_pos hi]
            simp only [Option.getD_some, true_iff]
            have : i < ((items n0 0 l').zip gs).length := by omega
            exact ⟨_, List.getElem_mem this, hzi i _ (List.getElem?_eq_getElem this)⟩
          · obtain ⟨j, hj, rfl⟩ := List.getElem_of_mem hx
            have hxx := List.getElem?_eq_getElem hj
            rw [List.getElem?_zip_eq_some] at hxx
            obtain ⟨q1, q2, q3⟩ := items_get n0 l' 0 j _ hxx.1
            obtain ⟨q4, _⟩ := List.getElem?_eq_some_iff.1 q3
            rw [q2, Nat.zero_add]
            exact hfresh j q4
        · cases hc
    · cases hc
  case seq x y => split at hc <;> simp at hc
  case cond c x y => split at hc <;> simp at hc
  all_goals simp at hc
end
end Go.Aw
end
section
set_option linter.unusedVariables false
set_option linter.unusedSimpArgs false
namespace Go.Aw

mutual
def AV.ren (f : Nat → Nat) : AV → AV
  | .ptr o i j => .ptr (f o) i j
  | .sl o off len full => .sl (f o) off len full
  | .map o => .map (f o)
  | .miter o => .miter (f o)
  | .agg cs => .agg (AV.renL f cs)
  | .tup cs => .tup (AV.renL f cs)
  | .func g xs ys => .func g (AV.renL f xs) (AV.renL f ys)
  | x => x
def AV.renL (f : Nat → Nat) : List AV → List AV
  | [] => []
  | x :: xs => AV.ren f x :: AV.renL f xs
end
def AV.renLL (f : Nat → Nat) : List (List AV) → List (List AV)
  | [] => []
  | x :: xs => AV.renL f x :: AV.renLL f xs
def AV.renP (f : Nat → Nat) : List (Nat × AV × AV) → List (Nat × AV × AV)
  | [] => []
  | x :: xs => (x.1, x.2.1.ren f, x.2.2.ren f) :: AV.renP f xs
def AObj.ren (f : Nat → Nat) : AObj → AObj
  | .row e k xs => .row e k (AV.renLL f xs)
  | .map c es => .map c (AV.renP f es)
  | .miter m since seen stepped => .miter (m.map f) since seen stepped

theorem renL_map {f : Nat → Nat} : ∀ l : List AV, AV.renL f l = l.map (AV.ren f)
  | [] => rfl
  | x :: xs => by simp [AV.renL, renL_map xs]
theorem renLL_map {f : Nat → Nat} : ∀ l : List (List AV), AV.renLL f l = l.map (AV.renL f)
  | [] => rfl
  | x :: xs => by simp [AV.renLL, renLL_map xs]
theorem renP_map {f : Nat → Nat} : ∀ l : List (Nat × AV × AV), AV.renP f l = l.map fun x => (x.1, x.2.1.ren f, x.2.2.ren f)
  | [] => rfl
  | x :: xs => by simp [AV.renP, renP_map xs]

theorem renL_length {f : Nat → Nat} (l : List AV) : (AV.renL f l).length = l.length := by rw [renL_map]; simp
theorem renL_get {f : Nat → Nat} : ∀ (l : List AV) (m : Nat) (h : m < l.length) (h' : m < (AV.renL f l).length), (AV.renL f l)[m] = (l[m]).ren f
  | x :: xs, 0, h, h' => rfl
  | x :: xs, m + 1, h, h' => renL_get xs m (by simpa using h) (by simpa [AV.renL] using h')
section
variable {w : World} {O O' : Nat → Prop} {β : Nat → Option Loc} {f : Nat → Nat}

mutual
theorem VR.unren (hO : ∀ b, O' b → O b) : ∀ (x : AV) (v : Value), VR w O β (x.ren f) v → VR w O' (fun o => β (f o)) x v
  | .undef, v, _ => .undef v
  | .int k n, v, h => h.int_inv ▸ .imm (.int k n)
  | .bool b, v, h => h.bool_inv ▸ .imm (.bool b)
  | .str s, v, h => h.str_inv ▸ .imm (.str s)
  | .nilp, v, h => by cases h with | imm h => exact .imm (h.mono (Same.refl _ w) fun b _ => hO b)
  | .nilfunc, v, h => by cases h with | imm h => exact .imm (h.mono (Same.refl _ w) fun b _ => hO b)
  | .nilmap, v, h => by cases h with | imm h => exact .imm (h.mono (Same.refl _ w) fun b _ => hO b)
  | .iptr cs, v, h => .imm (h.iptr_inv.mono (Same.refl _ w) fun b _ => hO b)
  | .isl fl xs, v, h => .imm (h.isl_inv.mono (Same.refl _ w) fun b _ => hO b)
  | .ptr o i j, v, h => by
    obtain ⟨l, hl, rfl⟩ := VR.ptr_inv h
    exact .ptr o i j l hl
  | .sl o off len full, v, h => by
    rcases VR.sl_inv h with ⟨l, cap, A, h1, h2, h3, h4, h5, h6, rfl⟩ | ⟨h1, rfl, rfl, A, rfl⟩
    · exact .sl o off len full l cap A h1 h2 h3 h4 h5 h6
    · exact .nilrow o full A h1
  | .map o, v, h => by
    obtain ⟨l, hl, rfl⟩ := VR.map_inv h
    exact .map o l hl
  | .miter o, v, h => by
    obtain ⟨l, hl, rfl⟩ := VR.miter_inv h
    exact .miter o l hl
  | .agg cs, v, h => by
    obtain ⟨vs, rfl, hl, h1, h2⟩ := VR.agg_inv h
    rw [renL_length] at hl
    exact .agg cs vs hl h1 (VR.unrenL hO cs vs.toList fun m g1 g2 => by have := h2 m (by rw [renL_length]; exact g1) (by simpa using g2); rw [renL_get _ _ g1] at this; simpa using this)
  | .tup cs, v, h => by
    obtain ⟨vs, rfl, hl, h2⟩ := VR.tup_inv h
    rw [renL_length] at hl
    exact .tup cs vs hl (VR.unrenL hO cs vs.toList fun m g1 g2 => by have := h2 m (by rw [renL_length]; exact g1) (by simpa using g2); rw [renL_get _ _ g1] at this; simpa using this)
  | .func g xs ys, v, h => by
    obtain ⟨us, vs, rfl, hl1, hl2, h1, h2⟩ := VR.func_inv h
    rw [renL_length] at hl1 hl2
    exact .func g xs ys us vs hl1 hl2 (VR.unrenL hO xs us.toList fun m g1 g2 => by have := h1 m (by rw [renL_length]; exact g1) (by simpa using g2); rw [renL_get _ _ g1] at this; simpa using this)
      (VR.unrenL hO ys vs.toList fun m g1 g2 => by have := h2 m (by rw [renL_length]; exact g1) (by simpa using g2); rw [renL_get _ _ g1] at this; simpa using this)
theorem VR.unrenL (hO : ∀ b, O' b → O b) : ∀ (xs : List AV) (vs : List Value), (∀ m (h1 : m < xs.length) (h2 : m < vs.length), VR w O β (xs[m].ren f) vs[m]) → ∀ m (h1 : m < xs.length) (h2 : m < vs.length), VR w O' (fun o => β (f o)) xs[m] vs[m]
  | [], vs, h, m, h1, h2 => by simp at h1
  | x :: xs, [], h, m, h1, h2 => by simp at h2
  | x :: xs, v :: vs, h, 0, h1, h2 => VR.unren hO x v (h 0 (by simp) (by simp))
  | x :: xs, v :: vs, h, m + 1, h1, h2 => VR.unrenL hO xs vs (fun m g1 g2 => h (m + 1) (by simp; omega) (by simp; omega)) m (by simpa using h1) (by simpa using h2)
end

theorem ObjR.unren (hO : ∀ b, O' b → O b) : ∀ (x : AObj) (l : Option Loc), ObjR w O β l (x.ren f) → ObjR w O' (fun o => β (f o)) l x
  | .row e k xs, none, h => by
    have : AV.renLL f xs = [] := h
    rw [renLL_map] at this
    exact List.map_eq_nil_iff.1 this
  | .row e k xs, some l, h => by
    obtain ⟨h1, h2, h3, h4, cur, h5, h6, h7, h8⟩ := h
    rw [renLL_map] at h2 h4 h8
    refine ⟨h1, by simpa using h2, h3, fun x hx => ?_, cur, h5, h6, h7, fun i j g1 g2 => ?_⟩
    · have := h4 (AV.renL f x) (List.mem_map.2 ⟨x, hx, rfl⟩)
      rw [renL_map] at this
      simpa using this
    · obtain ⟨v, k1, k2⟩ := h8 i j (by simpa using g1) (by simp [renL_map]; exact g2)
      exact ⟨v, k1, VR.unren hO _ v (by simpa [renL_map] using k2)⟩
  | .map c es, none, h => h
  | .map c es, some l, h => by
    obtain ⟨arr, h1, h2, h3⟩ := h
    rw [renP_map] at h2 h3
    refine ⟨arr, h1, by simpa using h2, fun i g1 g2 => ?_⟩
    have := h3 i (by simpa using g1) g2
    simp only [List.getElem_map] at this
    exact ⟨this.1, VR.unren hO _ _ this.2.1, VR.unren hO _ _ this.2.2⟩
  | .miter m s n p, none, h => h
  | .miter none s n p, some l, h => h
  | .miter (some m) s n p, some l, h => h

end

/-- The target's objects under other names. -/
structure LeR (S : List Nat) (f : Nat → Nat) (st' st : St) : Prop where
  env : ∀ t, st'.env t = .undef ∨ (st'.env t).ren f = st.env t
  heap : ∀ o x, st'.heap o = some x → st.heap (f o) = some (x.ren f)
  inj : ∀ o o', st'.heap o ≠ none → st'.heap o' ≠ none → f o = f o' → o = o'
  kept : ∀ o, o ∈ S → f o = o

theorem SR.ren {C : Cx} {F : Fr} {f : Nat → Nat} {st st' : St} {a : Act} {w : World} (h : SR C F st a w) (hle : LeR C.S f st' st) : SR C F st' a w := by
  obtain ⟨β, h⟩ := h
  have hne : ∀ o, st'.heap o ≠ none → st.heap (f o) ≠ none := by
    intro o ho
    cases hx : st'.heap o with
    | none => exact absurd hx ho
    | some x => rw [hle.heap o x hx]; simp
  have hO : ∀ b, Own (fun o => β (f o)) st'.heap b → Own β st.heap b := fun b ⟨o, l, h1, h2, h3⟩ => ⟨f o, l, hne o h1, h2, h3⟩
  have hA : ∀ b, Av F.A (fun o => β (f o)) st'.heap b → Av F.A β st.heap b := fun b h1 => h1.imp id (hO b)
  refine ⟨fun o => β (f o), h.defers, h.size, fun t => ?_, ⟨fun o x hx => ?_, fun o o' l l' g1 g2 g3 g4 g5 => ?_, fun b hb => h.heap.lt b (hO b hb), fun b hb => h.heap.apart b (hO b hb)⟩, h.since, fun b hb hb' => h.own b hb (hO b hb'), fun o ho => ?_, h.far⟩
  · rcases hle.env t with e | e
    · rw [e]; exact .undef _
    · exact VR.unren hA _ _ (e ▸ h.env t)
  · exact ObjR.unren hA x _ (h.heap.obj (f o) _ (hle.heap o x hx))
  · exact hle.inj o o' g1 g2 (h.heap.inj _ _ l l' (hne o g1) (hne o' g2) g3 g4 g5)
  · show β (f o) = F.β o
    rw [hle.kept o ho]
    exact h.kept o ho

theorem AWp.ren {C : Cx} {c : ACode} {f : Nat → Nat} {st st' : St} {Q : AX → St → Prop} (hle : LeR C.S f st' st) (h : AWp C c st' Q) : AWp C c st Q := fun code hc F a w hs => h code hc F a w (hs.ren hle)

/-- A loop: the round's head is one of some states; a measure goes down. -/
theorem AWp.loopR {C : Cx} {x : ACode} {st : St} {Q : AX → St → Prop} {ι : Type} (S : ι → St) (m : ι → Nat) (i0 : ι) (h0 : ∃ f, LeR C.S f (S i0) st)
    (hround : ∀ i, AWp C x (S i) fun e st' => match e with | .normal => ∃ i', m i' < m i ∧ ∃ f, LeR C.S f (S i') st' | e => Q e st') : AWp C (.loop x) st Q := by
  obtain ⟨f0, h0⟩ := h0
  refine AWp.ren h0 ?_
  -- the rounds' states as a predicate that forgets names
  intro code hc F a w hs
  cases code <;> simp only [absCode, reduceCtorEq] at hc
  case loop cx =>
    simp only [Option.map_eq_some_iff, ACode.loop.injEq] at hc
    obtain ⟨x', hx, rfl⟩ := hc
    intro b k cs
    have key : ∀ n i a w, m i = n → SR C F (S i) a w → ∃ e a' w', post C F Q e a' w' ∧ Arrives C.P (lone (b.at a (.code cx :: .inLoop cx :: k)) cs w) b k cs e a' w' := by
      intro n
      induction n using Nat.strongRecOn with
      | _ n ih =>
        intro i a w hI hs
        obtain ⟨e, a₁, w₁, hq, harr⟩ := hround i cx hx F a w hs b (.inLoop cx :: k) cs
        cases e with
        | normal =>
          obtain ⟨st', h1, i', hlt, f, hle'⟩ := hq
          obtain ⟨e₂, a₂, w₂, hq₂, harr₂⟩ := ih (m i') (hI ▸ hlt) i' a₁ w₁ rfl (h1.ren hle')
          exact ⟨e₂, a₂, w₂, hq₂, .of_steps (Steps.trans harr (.one step_inLoop)) harr₂⟩
        | exit id => exact ⟨.exit id, a₁, w₁, hq, .pass (x := .inLoop cx) rfl (fun _ _ => .inl (by simp)) harr⟩
        | goto l => exact hq.elim
        | ret => exact ⟨.ret, a₁, w₁, hq, .pass (x := .inLoop cx) rfl (fun _ _ => .inl (by simp)) harr⟩
        | panic ch => exact hq.elim
        | outgrown => exact hq.elim
    obtain ⟨e, a', w', hq, harr⟩ := key _ i0 a w rfl hs
    exact ⟨e, a', w', hq, .of_steps (.one step_loop) harr⟩
  case region id ops d => (repeat' split at hc) <;> simp at hc
  case seq x y => split at hc <;> simp at hc
  case cond c x y => split at hc <;> simp at hc
  all_goals simp at hc
mutual
theorem ren_id {f : Nat → Nat} : ∀ (x : AV), x.refs = [] → x.ren f = x
  | .ptr o i j, h => by simp [AV.refs] at h
  | .sl o off len full, h => by simp [AV.refs] at h
  | .map o, h => by simp [AV.refs] at h
  | .miter o, h => by simp [AV.refs] at h
  | .agg cs, h => by simp only [AV.refs] at h; simp only [AV.ren, renL_id cs h]
  | .tup cs, h => by simp only [AV.refs] at h; simp only [AV.ren, renL_id cs h]
  | .func g xs ys, h => by simp only [AV.refs, List.append_eq_nil_iff] at h; simp only [AV.ren, renL_id xs h.1, renL_id ys h.2]
  | .undef, _ => rfl
  | .int _ _, _ => rfl
  | .bool _, _ => rfl
  | .str _, _ => rfl
  | .nilp, _ => rfl
  | .nilfunc, _ => rfl
  | .nilmap, _ => rfl
  | .iptr _, _ => rfl
  | .isl _ _, _ => rfl
theorem renL_id {f : Nat → Nat} : ∀ (xs : List AV), AV.refsL xs = [] → AV.renL f xs = xs
  | [], _ => rfl
  | x :: xs, h => by simp only [AV.refsL, List.append_eq_nil_iff] at h; simp only [AV.renL, ren_id x h.1, renL_id xs h.2]
end
/-- Some rounds of a loop, one by one. -/
def rounds (C : Cx) (x : ACode) (Q : AX → St → Prop) : Nat → St → Prop
  | 0, _ => False
  | n + 1, st => AWp C x st fun e st' => match e with
    | .normal => rounds C x Q n st'
    | .exit id => Q (.exit id) st'
    | .ret => Q .ret st'
theorem AWp.unrollN {C : Cx} {x : ACode} {Q : AX → St → Prop} (n : Nat) {st : St} (h : rounds C x Q n st) : AWp C (.loop x) st Q := by
  intro code hc F a w hs
  cases code <;> simp only [absCode, reduceCtorEq] at hc
  case loop cx =>
    simp only [Option.map_eq_some_iff, ACode.loop.injEq] at hc
    obtain ⟨x', hx, rfl⟩ := hc
    intro b k cs
    have key : ∀ n st a w, rounds C x' Q n st → SR C F st a w → ∃ e a' w', post C F Q e a' w' ∧ Arrives C.P (lone (b.at a (.code cx :: .inLoop cx :: k)) cs w) b k cs e a' w' := by
      intro n
      induction n with
      | zero => intro st a w hn _; exact hn.elim
      | succ n ih =>
        intro st a w hn hs
        obtain ⟨e, a₁, w₁, hq, harr⟩ := hn cx hx F a w hs b (.inLoop cx :: k) cs
        cases e with
        | normal =>
          obtain ⟨st', h1, h2⟩ := hq
          obtain ⟨e₂, a₂, w₂, hq₂, harr₂⟩ := ih st' a₁ w₁ h2 h1
          exact ⟨e₂, a₂, w₂, hq₂, .of_steps (Steps.trans harr (.one step_inLoop)) harr₂⟩
        | exit id => exact ⟨.exit id, a₁, w₁, hq, .pass (x := .inLoop cx) rfl (fun _ _ => .inl (by simp)) harr⟩
        | goto l => exact hq.elim
        | ret => exact ⟨.ret, a₁, w₁, hq, .pass (x := .inLoop cx) rfl (fun _ _ => .inl (by simp)) harr⟩
        | panic ch => exact hq.elim
        | outgrown => exact hq.elim
    obtain ⟨e, a', w', hq, harr⟩ := key n st a w h hs
    exact ⟨e, a', w', hq, .of_steps (.one step_loop) harr⟩
  case region id ops d => (repeat' split at hc) <;> simp at hc
  case seq x y => split at hc <;> simp at hc
  case cond c x y => split at hc <;> simp at hc
  all_goals simp at hc
end Go.Aw
end
